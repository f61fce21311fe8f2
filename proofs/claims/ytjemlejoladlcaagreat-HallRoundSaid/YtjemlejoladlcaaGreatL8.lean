/-
  The symbolic machine: own memory lent to a call, slices of slices, own elements. No statement of the seat is proved here.
-/
import Derived.Laws.Cover3
import Derived.Test.YtjemlejoladlcaaGreatL7
namespace Go.Proofs.YtjemlejoladlcaaGreat
namespace NX
open Go Go.RowKit
mutual
def AV.flat:AV→Bool
 | .ptr _ _ | .osl _ | .oel _ _ _ | .ocs _ _ _ _ | .elt _ _ | .sl _ _ | .clo _ _=>false
 | .agg l=>Me l
 | .tup l=>Me l
 | .any | .un | .tt | .ff | .bv _ | .iv _ | .kv _ _ | .sv _ | .nl | .nlp | .fn _=>true
def Me:List AV→Bool
 | []=>true
 | x::l=>BS x.flat (Me l)
end
attribute [go_sem] AV.flat Me
mutual
theorem aD {M M':Mem}:∀(x:AV) (v:Value),x.is M v→x.flat=true→x.is M' v
 | .any,_,_,_=>trivial
 | .un,_,k,_ | .tt,_,k,_ | .ff,_,k,_ | .bv _,_,k,_ | .iv _,_,k,_ | .kv _ _,_,k,_ | .sv _,_,k,_ | .nl,_,k,_ | .nlp,_,k,_ | .fn _,_,k,_=>k
 | .ptr _ _,_,_,h | .osl _,_,_,h | .oel _ _ _,_,_,h | .ocs _ _ _ _,_,_,h | .elt _ _,_,_,h | .sl _ _,_,_,h | .clo _ _,_,_,h=>by simp [AV.flat] at h
 | .agg l,_,⟨vs,h1,h2⟩,h=>⟨vs,h1,aC l vs h2 (by simpa [AV.flat] using h)⟩
 | .tup l,_,⟨vs,h1,h2⟩,h=>⟨vs,h1,aC l vs h2 (by simpa [AV.flat] using h)⟩
theorem aC {M M':Mem}:∀(l:List AV) (vs:List Value),AV.isL M l vs→Me l=true→AV.isL M' l vs
 | [],_,k,_=>k
 | x::l,_,⟨v,r,h1,h2,h3⟩,h=>by simp only [Me,AO] at h;exact ⟨v,r,h1,aD x v h2 h.1,aC l r h3 h.2⟩
end
def Dx (S S':St):Prop:=∀(c:Ctx) M a w,RelT c M S a w→∃M',M.le M'∧RelT c M' S' a w
theorem Dx.refl (S:St):Dx S S:=fun _ M _ _ h=>⟨M,.refl M,h⟩
theorem Dx.slice {S S1:St} (h:Dx S S1) (j:Nat) {L:Sl} (hj:A2 S1.ss j=some L) (hpr:C1 L.rows=true:=by first | rfl | simp [go_sem]):Dx S (S1.sealS j L):=fun c M a w hT=>
 let ⟨_,h1,h2⟩:=h c M a w hT
 let ⟨M2,h3,h4,_⟩:=Z2 j hj hpr h2
 ⟨M2,h1.trans h3,h4⟩
theorem Dx.block {S S1:St} (h:Dx S S1) (j:Nat) {B:Blk} (hj:A2 S1.bs j=some B) (hp:AD B.cells=true):Dx S (S1.sealB j B.cells):=fun c M a w hT=>
 let ⟨_,h1,h2⟩:=h c M a w hT
 let ⟨M2,h3,h4⟩:=mP j hj hp h2
 ⟨M2,h1.trans h3,h4⟩
section
variable {c:Ctx} {M:Mem} {S S':St} {a:Act} {w:World} {fn:Func} {K:AV→List (Option Blk)→List (Option Sl)→Prop} {k:List It}
theorem mZ {f:Nat} {xs:List X} {args:List AV} {res:AV} (hs:Dx S S') (hf:Cd c.P f args res)
  (ha:AV.le.leL (B8 S' xs) args) (hp:AD args=true) (h9:res.flat=true):Bi c S (.call f xs) res S:=by
 intro ro ho M a w hT next Q hn
 obtain ⟨dst,op,ty,pos,af,gd⟩:=ro;dsimp only at ho;obtain ⟨cargs,argTypes,rfl,hd,rfl⟩:=LY ho;obtain ⟨M1,_,h6⟩:=hs c M a w hT;have hm:=Fd _ _ (Ep _ _ _ ha (G9 h6 cargs.toList)) hp;have hc:=hf M1.H w _ h6.st.hle h6.st.pin.gl hm;have h8:(execOp a.eval ⟨dst,.call ⟨.value (.func f),cargs,argTypes⟩,ty,pos,af,gd⟩).run c.P w = .ok (.enter f (cargs.map a.eval)) w:=by have he:a.eval (.func f) = .func (.func f) #[] #[]:=rfl;generalize a.eval=ρ at *;simp [execOp,resolve,Deferred.ofValue,invoke,he,HU hd]
 unfold Oper.wp;rw [h8];show Calls c.P f (cargs.map a.eval) w _;have e1:(cargs.toList.map a.eval).toArray=cargs.map a.eval:=by apply Array.ext';simp
 rw [←e1];refine hc.mono ?_;rintro e w' ⟨v,H',rfl,hb,h1,h2,h3⟩;exact hn M w' v (.refl M) (hT.st.grow hb) (aD _ _ h3 h9)
theorem Z0I {f:Nat} {o:X} {xs:List X} {caps args:List AV} {res:AV} (hs:Dx S S') (ho:S'.x o = .clo f caps) (hf:Cd c.P f args res)
  (hd:(c.P.funcs[f]?).any (fun fn=>fn.body.isSome&&!(fn.name == "runtime.NumGoroutine"))=true)
  (ha:AV.le.leL (B8 S' xs++caps) args) (hp:AD args=true) (hw:res.flat=true):Bi c S (.callv o xs) res S:=by
 intro ro h8 M a w hT next Q hn
 obtain ⟨dst,op,ty,pos,af,gd⟩:=ro;dsimp only at h8;obtain ⟨t,cargs,argTypes,rfl,rfl,rfl⟩:=ZY h8;obtain ⟨M1,_,h6⟩:=hs c M a w hT;have hx:=Ak h6 (.tmp t);rw [show S'.x (cX (.tmp t)) = .clo f caps from ho] at hx;obtain ⟨cv,hx1,hA⟩:=hx;have hm:=Fd _ _ (Ep _ _ _ ha (BH (G9 h6 cargs.toList) hA)) hp;have hc:=hf M1.H w _ h6.st.hle h6.st.pin.gl hm;have h9:(execOp a.eval ⟨dst,.call ⟨.value (.tmp t),cargs,argTypes⟩,ty,pos,af,gd⟩).run c.P w = .ok (.enter f (cargs.map a.eval++cv.toArray)) w:=by generalize a.eval=ρ at *;simp [execOp,resolve,Deferred.ofValue,invoke,hx1,HU hd]
 unfold Oper.wp;rw [h9];show Calls c.P f (cargs.map a.eval++cv.toArray) w _;have e1:(cargs.toList.map a.eval++cv).toArray=cargs.map a.eval++cv.toArray:=by apply Array.ext';simp
 rw [←e1];refine hc.mono ?_;rintro e w' ⟨v,H',rfl,hb,h1,h2,h3⟩;exact hn M w' v (.refl M) (hT.st.grow hb) (aD _ _ h3 hw)
theorem pe {d:Option Nat} {g:Option (Nat×Bool)} {f:Nat} {xs:List X} {l:List EOp} {args:List AV} {res:AV} (hg:gm S g) (hs:Dx S S') (hf:Cd c.P f args res)
  (ha:AV.le.leL (B8 S' xs) args:=by first | exact Am _ | simp [go_sem]) (hp:AD args=true:=by first | rfl | simp [go_sem]) (h6:res.flat=true:=by rfl) (h:V c fn K (.ops l::k) (S.put d res)):V c fn K (.ops (⟨d,g,.call f xs⟩::l)::k) S:=
 AU hg (mZ hs hf ha hp h6) rfl h
section
variable {all:Array Oper} {ops:List EOp} {af:List (List Nat)} {Φ:St→Prop} {m:Nat} {ld:List Bool}
theorem oD (h6:all.toList.mapM (AL c.P all)=some ops) {i f:Nat} {xs:List X} {args:List AV} {res:AV} (ho:(A8 ops i).o = .call f xs) (hg:gm S (A8 ops i).g) (hs:Dx S S') (hf:Cd c.P f args res)
  (ha:AV.le.leL (B8 S' xs) args:=by first | exact Am _ | simp [go_sem]) (hp:AD args=true:=by first | rfl | simp [go_sem]) (h8:res.flat=true:=by rfl) (h:G c all ops af Φ m (Au ld i) (S.put (A8 ops i).d res)):GO c all ops af Φ m ld S i:=
 Bk h6 hg (by rw [ho];exact mZ hs hf ha hp h8) rfl (Cg _ _) h
theorem IX (h6:all.toList.mapM (AL c.P all)=some ops) {i f:Nat} {o:X} {xs:List X} {caps args:List AV} {res:AV} (ho:(A8 ops i).o = .callv o xs) (hg:gm S (A8 ops i).g) (hs:Dx S S') (hx:S'.x o = .clo f caps) (hf:Cd c.P f args res)
  (h8:(c.P.funcs[f]?).any (fun fn=>fn.body.isSome&&!(fn.name == "runtime.NumGoroutine"))=true) (ha:AV.le.leL (B8 S' xs++caps) args:=by first | exact Am _ | simp [go_sem]) (hp:AD args=true:=by first | rfl | simp [go_sem]) (h9:res.flat=true:=by rfl)
  (h:G c all ops af Φ m (Au ld i) (S.put (A8 ops i).d res)):GO c all ops af Φ m ld S i:=
 Bk h6 hg (by rw [ho];exact Z0I hs hx hf h8 ha hp h9) rfl (Cg _ _) h
end
theorem Dy {α β:Type} {d:Option Nat} {g:Option (Nat×Bool)} {f:Nat} {o:X} {xs:List X} {l:List EOp} {caps:List AV} {ar:α→List AV} {p:α→Option β} {rs:β→AV} (hg:gm S g) (ho:S.x o = .clo f caps) (hc:CloOK c.P f caps ar p rs) {x:α} {v:β} (hv:p x=some v)
  (ha:AV.le.leL (B8 S xs) (ar x):=by first | exact Am _ | simp [go_sem]) (hp:AD (ar x)=true:=by first | rfl | simp [go_sem]) (h:V c fn K (.ops l::k) (S.put d (rs v))):V c fn K (.ops (⟨d,g,.callv o xs⟩::l)::k) S:=by
 have Af:∀ {a b c:List AV},AV.le.leL a b→AV.le.leL (a++c) (b++c):=by
  intro a;induction a with
  | nil=>intro b c h;cases b with
    | nil=>exact Am c
    | cons _ _=>simp [AV.le.leL] at h
  | cons y a ih=>intro b c h;cases b with
    | nil=>simp [AV.le.leL] at h
    | cons z b=>exact ⟨h.1,ih h.2⟩
 have kp:∀ {a:List AV},AD a=true→AD (a++caps)=true:=by
  intro a;induction a with
  | nil=>intro _;exact hc.pu
  | cons y a ih=>intro h;simp only [AD,AO,List.cons_append] at h ⊢;exact ⟨h.1,ih h.2⟩
 exact Zz hg ho (hc.h x v hv) hc.b (Af ha) (kp hp) h
end
def Ad (n:Int):List AV:=[.iv n]
def DW (b:Bool):List AV:=[.bv b]
def Z1c (x:ByteArray):List AV:=[.sv x]
def wl (k:IntKind) (n:Int):List AV:=[.kv k n]
def Ci {α:Type} (n:Nat) (f:α→List AV) (l:List α):List AV:=[.sl n (l.map f)]
def ln {α:Type} (f:α→List AV) (l:List α):Int:=((l.map f).length:Int)
theorem B7 {α:Type} (f:α→List AV) (l:List α):ln f l=l.length:=by simp [ln]
attribute [go_sem] Ad DW Z1c wl Ci ln
end NX
end Go.Proofs.YtjemlejoladlcaaGreat
/-
  The symbolic machine: slices of slices, tests for nil, ways that part inside a drawn region, fresh results. No statement of the seat is proved here.
-/
namespace Go.Proofs.YtjemlejoladlcaaGreat
namespace NX
open Go Go.RowKit
structure Fine (S S':St):Prop where
 bs:S'.bs=S.bs
 ss:S'.ss=S.ss
 len:S'.tm.length=S.tm.length
 is:∀M t v,(AJ S.tm t).is M v→(AJ S'.tm t).is M v
 lg:∀t,Gu S'.tm t=Gu S.tm t
 pt:∀t j off,AJ S'.tm t = .ptr j off→AJ S.tm t = .ptr j off
theorem Fine.relT {S S':St} (h:Fine S S') {c:Ctx} {M:Mem} {a:Act} {w:World} (E:RelT c M S a w):RelT c M S' a w:=⟨by rw [h.len];exact E.len,fun t=>h.is M t _ (E.tm t),E.df,by rw [h.bs,h.ss];exact E.st⟩
theorem Fine.put {S S':St} (h:Fine S S') (bs ss) (d:Option Nat) (v:AV):Fine ((⟨S.tm,bs,ss⟩:St).put d v) ((⟨S'.tm,bs,ss⟩:St).put d v):=by
 cases d with
 | none=>exact ⟨rfl,rfl,h.len,h.is,h.lg,h.pt⟩
 | some d=>
   refine ⟨rfl,rfl,by simp only [St.put,I8];exact h.len,fun M t x hx=>?_,fun t=>?_,fun t j off=>?_⟩
   ·simp only [St.put,F6,h.len] at hx ⊢;split<;>rename_i e
    ·rw [if_pos e] at hx;exact hx
    ·rw [if_neg e] at hx;exact h.is M t x hx
   ·simp only [St.put,Gu,F6,h.len];split
    ·rfl
    ·exact h.lg t
   ·simp only [St.put,F6,h.len];split
    ·exact id
    ·exact h.pt t j off
theorem Fine.gm {S S':St} (h:Fine S S') (g:Option (Nat×Bool)):NX.gm S' g=NX.gm S g∧Ee S' g=Ee S g:=by
 cases g with
 | none=>exact ⟨rfl,rfl⟩
 | some tf=>obtain ⟨t,f⟩:=tf;simp only [NX.gm,Ee,h.lg t,and_self]
theorem Zt {c:Ctx} {all:Array Oper} {ops:List EOp} {af:List (List Nat)} {Φ:St→Prop} (E:∀S S',Fine S S'→Φ S'→Φ S):∀(m:Nat) (ld:List Bool) (S S':St),Fine S S'→G c all ops af Φ m ld S'→G c all ops af Φ m ld S
 | 0,_,S,S',hf,h=>⟨h.1,E S S' hf h.2⟩
 | m+1,ld,S,S',hf,h=>by
   refine ⟨fun h0=>E S S' hf (h.1 h0),fun i hi=>?_⟩;rcases h.2 i hi with ⟨h1,h2⟩ | ⟨h1,v,S1,h2,h3,h4,h5⟩
   ·left;refine ⟨by rw [←(hf.gm _).2];exact h1,Zt E m _ _ _ ?_ h2⟩;have:=hf.put S.bs S.ss (A8 ops i).d .un;rw [show (⟨S'.tm,S.bs,S.ss⟩:St)=S' from by rw [←hf.bs,←hf.ss]] at this;exact this
   ·right;refine ⟨by rw [←(hf.gm _).1];exact h1,v,⟨S.tm,S1.bs,S1.ss⟩,fun ro h6 M a w hT next Q hn=>h2 ro h6 M a w (hf.relT hT) next Q hn,rfl,?_,Zt E m _ _ _ ?_ h5⟩
    ·refine h4.imp (fun h4=>?_) id;intro j off n l k1 k2 k3;have:=h4 j off n l (by rw [Ly hf.bs];exact k1) k2 (fun n a x j' off' ho hx=>k3 n a x j' off' ho (by
      cases a with
      | t t=>exact hf.pt t j' off' hx
      | c _=>exact hx
      | bad=>exact hx))
     rw [Ly (S:=S1) (S':=⟨S.tm,S1.bs,S1.ss⟩) rfl];exact this
    ·have:=hf.put S1.bs S1.ss (A8 ops i).d v;rw [←h3] at this;exact this
section
variable {c:Ctx} {M:Mem} {S S':St} {a:Act} {w:World} {fn:Func} {K:AV→List (Option Blk)→List (Option Sl)→Prop} {k:List It} {β:Type}
theorem pw (hf:Fine S S') (h:V c fn K k S'):V c fn K k S:=fun rk M a w hc hT=>h rk M a w hc (hf.relT hT)
def fK (e:Bool):AV:=match e with | true=>.tt | false=>.ff
theorem sW {t:Nat} {e:Bool} (ht:AJ S.tm t = .bv e):Fine S ⟨BL S.tm t (fK e),S.bs,S.ss⟩:=by
 refine ⟨rfl,rfl,I8 _ _ _,fun M u v hv=>?_,fun u=>?_,fun u j off=>?_⟩
 ·simp only [F6];split
  ·rename_i h;obtain ⟨rfl,_⟩:=h;rw [ht] at hv;cases e<;>exact hv
  ·exact hv
 ·simp only [Gu,F6];split
  ·rename_i h;obtain ⟨rfl,_⟩:=h;rw [ht];cases e<;>rfl
  ·rfl
 ·simp only [F6];split
  ·cases e<;>simp [fK]
  ·exact id
theorem BJ {all:Array Oper} {ops:List EOp} {af:List (List Nat)} {m:Nat} {ld:List Bool} (t:Nat) {e:Bool} {A B:Option β} {r:β} (h:A0 e A B=some r) (ht:AJ S.tm t = .bv e)
  (h1:e=true→A=some r→G c all ops af (fun S'=>V c fn K k S') m ld ⟨BL S.tm t .tt,S.bs,S.ss⟩) (h2:e=false→B=some r→G c all ops af (fun S'=>V c fn K k S') m ld ⟨BL S.tm t .ff,S.bs,S.ss⟩):
  G c all ops af (fun S'=>V c fn K k S') m ld S:=by
 refine Zt (fun S S' hf h=>pw hf h) m ld S _ (sW ht) ?_;cases e with
 | true=>exact h1 rfl h
 | false=>exact h2 rfl h
theorem H8 {P:Program} {op:Op} {n:Nat} {x:X} {lo hi:Option X} (ho:cO P op = .slice n x lo hi):
  ∃T y l h e,op = .slice T y l h none∧P.underlying T=some (.slice e)∧C9 P e=some n∧cX y=x∧l.map cX=lo∧h.map cX=hi:=by
 cases op
 case slice T y l h mx=>
  simp only [cO] at ho;split at ho
  ·rename_i e hu;split at ho
   ·rename_i n' hn;simp only [EO.slice.injEq] at ho;obtain ⟨rfl,rfl,rfl,rfl⟩:=ho;exact ⟨T,y,l,h,e,rfl,hu,hn,rfl,rfl,rfl⟩
   ·simp at ho
  ·split at ho<;>simp at ho
  ·simp at ho
  ·simp at ho
 all_goals (simp only [cO] at ho;(repeat' (split at ho))<;>simp at ho)
def AY (S:St) (x:Option X) (z:Int):Option Int:=
 match x with
 | none=>some z
 | some x=>match S.x x with
   | .iv n=>some n
   | _=>none
attribute [go_sem] AY
theorem LG {P:Program} {w:World} {T e n:Nat} (hu:P.underlying T=some (.slice e)) (hs:C9 P e=some n) {x:Operand} {l h:Option Operand} {ρ:Operand→Value} {ad:Option Addr} {len cp:Nat} {lo hi:Int}
  (hx:ρ x = .slice ad len cp) (h6:len≤cp) (hl:match l with | none=>lo=0 | some o=>ρ o = .int .i64 lo) (hh:match h with | none=>hi=len | some o=>ρ o = .int .i64 hi) (h0:0≤lo) (h1:lo≤hi) (h2:hi≤len)
  (d:Option Tmp) (ty:TypeId) (pos:String) (af:Array Edge) (E:Option (Nat×Bool)):
  (execOp ρ ⟨d,.slice T x l h none,ty,pos,af,E⟩).run P w = .ok (.value (.slice (if cp=lo.toNat then ad else ad.map (·.add (lo.toNat*n))) (hi.toNat-lo.toNat) (cp-lo.toNat))) w:=by
 have hc:hi≤cp:=by omega
 have Af:(Instr.sliceBounds true len cp (l.map ρ) (h.map ρ) none).run P w = .ok (lo.toNat,hi.toNat,cp) w:=by
  cases l<;>cases h<;>simp only at hl hh<;>simp only [Option.map,Instr.sliceBounds]
  ·subst hl;simp [hh]
  ·subst hl;simp [Instr.sliceBound,asIntOf,hh,hc,show 0≤hi by omega]
  ·subst hh;simp [Instr.sliceBound,asIntOf,hl,h0,h1]
  ·simp [Instr.sliceBound,asIntOf,hl,hh,h0,h1,hc,show 0≤hi by omega,Int.toNat_of_nonneg (show 0≤hi by omega)]
 simp [execOp,Instr.sliceAt,Instr.slice,hx,run_underlying hu,Af,Fi hs]
theorem F2 {M:Mem} {n:Nat} {rows:List (List AV)} {vss:List (List Value)} (h:AV.isLL M n rows vss) (a b:Nat):AV.isLL M n ((rows.take b).drop a) ((vss.take b).drop a):=by
 have ht:∀(rows:List (List AV)) (vss:List (List Value)) (b:Nat),AV.isLL M n rows vss→AV.isLL M n (rows.take b) (vss.take b):=by
  intro rows;induction rows with
  | nil=>intro vss b h;simp [AV.isLL] at h;subst h;simp [AV.isLL]
  | cons r rows ih=>
    rintro vss b ⟨v,q,rfl,h1,h2,h3⟩;cases b with
    | zero=>simp [AV.isLL]
    | succ b=>exact ⟨v,q.take b,by simp,h1,h2,ih q b h3⟩
 have hd:∀(rows:List (List AV)) (vss:List (List Value)) (b:Nat),AV.isLL M n rows vss→AV.isLL M n (rows.drop b) (vss.drop b):=by
  intro rows;induction rows with
  | nil=>intro vss b h;simp [AV.isLL] at h;subst h;simp [AV.isLL]
  | cons r rows ih=>
    rintro vss b ⟨v,q,rfl,h1,h2,h3⟩;cases b with
    | zero=>exact ⟨v,q,rfl,h1,h2,h3⟩
    | succ b=>simpa using ih q b h3
 exact hd _ _ a (ht _ _ b h)
theorem ik {M:Mem} {n:Nat}:∀ {rows:List (List AV)} {vss:List (List Value)},AV.isLL M n rows vss→vss.length=rows.length∧∀v∈vss,v.length=n
 | [],_,h=>by simp [AV.isLL] at h;subst h;simp
 | _::rows,_,⟨v,q,h0,h1,h2,h3⟩=>by subst h0;obtain ⟨g1,g2⟩:=ik h3;exact ⟨by simp [g1],fun x hx=>by rcases List.mem_cons.1 hx with rfl | hx;exact h1;exact g2 x hx⟩
theorem nA {M:Mem} {n:Nat} {rows:List (List AV)} {ad:Option Addr} {cp:Nat} (h:AV.is M (.sl n rows) (.slice ad rows.length cp)) (lo hi:Nat) (h1:lo≤hi) (h2:hi≤rows.length):
  AV.is M (.sl n ((rows.take hi).drop lo)) (.slice (if cp=lo then ad else ad.map (·.add (lo*n))) (hi-lo) (cp-lo)):=by
 obtain ⟨a',c',he,⟨hA,hn⟩,hr⟩:=h;simp only [Value.slice.injEq] at he;obtain ⟨rfl,_,rfl⟩:=he;have h6:((rows.take hi).drop lo).length=hi-lo:=by simp;omega
 refine ⟨if cp=lo then ad else ad.map (·.add (lo*n)),cp-lo,by rw [h6],⟨by rw [h6];omega,fun e=>?_⟩,fun hne=>?_⟩
 ·split at e
  ·rename_i hB;omega
  ·have:ad=none:=by cases ad<;>simp_all
   have:=hn this;omega
 ·have hlt:lo<hi:=by
   rcases Nat.lt_or_ge lo hi with h | h
   ·exact h
   ·exfalso;apply hne;apply List.length_eq_zero_iff.1;rw [h6];omega
  obtain ⟨a,vss,rfl,g1,g2,g3,cs,T,fr,g4,g5⟩:=hr (by intro e;subst e;simp at h2;omega);obtain ⟨l1,l2⟩:=ik g1;have h9:=F2 g1 lo hi;refine ⟨a.add (lo*n),(vss.take hi).drop lo,by rw [if_neg Om];rfl,h9,?_⟩;have hd:a.add (lo*n)=⟨a.block,a.off+lo*n,none⟩:=by obtain ⟨b,o,sp⟩:=a;dsimp only at g2;subst g2;exact Addr.add_lit _ _ _
  rw [hd];have h8:∃t,vss.flatten=(vss.take lo).flatten++((vss.take hi).drop lo).flatten++t:=by
   refine ⟨(vss.drop hi).flatten,?_⟩;rw [←List.flatten_append,←List.flatten_append];congr 1;have:vss.take lo++(vss.take hi).drop lo=vss.take hi:=by have:=List.take_append_drop lo (vss.take hi);rw [List.take_take,Nat.min_eq_left h1] at this;exact this
   rw [this,List.take_append_drop]
  obtain ⟨t,h8⟩:=h8;have hw:(vss.take lo).flatten.length=lo*n:=by have:=Dl (F2 g1 0 lo);simp only [List.drop_zero] at this;rw [this,List.length_take,Nat.min_eq_left Om]
  refine ⟨rfl,fun v hv=>g3 v ?_,cs,T,fr,g4,fun k v hk=>?_⟩
  ·rw [h8];exact List.mem_append_left _ (List.mem_append_right _ hv)
  ·have:=g5 (lo*n+k) v (by rw [h8,List.append_assoc,List.getElem?_append_right Om,hw,show lo*n+k-lo*n=k by omega];rw [List.getElem?_append_left (List.getElem?_eq_some_iff.1 hk).1];exact hk);dsimp only;rw [show a.off+lo*n+k=a.off+(lo*n+k) by omega];exact this
theorem nf {n m:Nat} {x:X} {lo hi:Option X} {rows:List (List AV)} {l h:Int} (hx:S.x x = .sl m rows) (hd:m=n) (hl:AY S lo 0=some l) (hh:AY S hi rows.length=some h) (h0:0≤l) (h1:l≤h) (h2:h≤rows.length):
  Bi c S (.slice n x lo hi) (.sl m ((rows.take h.toNat).drop l.toNat)) S:=by
 intro ro h8 M a w hT next Q hn
 obtain ⟨dst,op,ty,pos,af,gd⟩:=ro;dsimp only at h8;subst hd;obtain ⟨T,y,lo',hi',e,rfl,hu,hs,rfl,rfl,rfl⟩:=H8 h8;have hv:=Ak hT y;rw [hx] at hv;have hv':=hv;obtain ⟨ad,cp,g1,⟨g2,g2'⟩,g3⟩:=hv;rw [g1] at hv';have h9:=LG (P:=c.P) (w:=w) hu hs (l:=lo') (h:=hi') (lo:=l) (hi:=h) g1 g2 (by
  cases lo' with
  | none=>simp [AY] at hl;exact hl.symm
  | some o=>have:=Ak hT o;simp only [Option.map,AY] at hl;split at hl<;>simp at hl;rename_i h6;rw [h6] at this;subst hl;exact this) (by
  cases hi' with
  | none=>simp [AY] at hh;exact hh.symm
  | some o=>have:=Ak hT o;simp only [Option.map,AY] at hh;split at hh<;>simp at hh;rename_i h6;rw [h6] at this;subst hh;exact this) h0 h1 h2 dst ty pos af gd
 unfold Oper.wp;rw [h9];refine hn M w _ (.refl M) hT.st ?_;exact nA hv' l.toNat h.toNat Om Om
theorem nL {α:Type} {l v:List α} {lo hi:Int} (h:Cj l lo hi=some v):v=(l.take hi.toNat).drop lo.toNat∧0≤lo∧lo≤hi∧hi≤l.length:=by
 unfold Cj at h;split at h
 ·rename_i h1;simp at h;exact ⟨h.symm,h1⟩
 ·simp at h
theorem fj {α:Type} {l' v:List α} {d:Option Nat} {g:Option (Nat×Bool)} {J:List EOp} {n m:Nat} {x:X} {lo hi:Option X} {l h:Int} (f:α→List AV) (hv:Cj l' l h=some v) (hg:gm S g) (hx:S.x x = .sl m (l'.map f)) (h6:m=n) (hl:AY S lo 0=some l) (hh:AY S hi ((l'.map f).length)=some h)
  (E:V c fn K (.ops J::k) (S.put d (.sl m (v.map f)))):V c fn K (.ops (⟨d,g,.slice n x lo hi⟩::J)::k) S:=by
 obtain ⟨h0,h1,h2,h3⟩:=nL hv;subst h0;rw [List.map_drop,List.map_take] at E;exact AU hg (nf hx h6 hl hh h1 h2 (by simpa using h3)) rfl E
theorem Zv {all:Array Oper} {ops:List EOp} {af:List (List Nat)} {Φ:St→Prop} {m':Nat} {ld:List Bool} {nap:List (List Nat)} (h8:all.toList.mapM (AL c.P all)=some ops) (h9:Region.noSelect all=true) (hA:af=Bn all) (hd:nap=CX all) (i:Nat) {α:Type} {l' v:List α} {n m:Nat} {x:X} {lo hi:Option X} {l h:Int} (f:α→List AV) (hv:Cj l' l h=some v)
  (E:EH i (Bz ld af 0)=true) (ho:(A8 ops i).o = .slice n x lo hi) (hg:gm S (A8 ops i).g) (hx:S.x x = .sl m (l'.map f)) (hB:m=n) (hl:AY S lo 0=some l) (hh:AY S hi ((l'.map f).length)=some h)
  (hf:ED ld af i (Co nap i)=true) (J:G c all ops af Φ m' (Au ld i) (S.put (A8 ops i).d (.sl m (v.map f)))):G c all ops af Φ (m'+1) ld S:=by
 obtain ⟨h0,h1,h2,h3⟩:=nL hv;subst h0;rw [List.map_drop,List.map_take] at J;subst hA;subst hd;refine LM h8 h9 i (q:=True) trivial m' ld S ((Lr _ _).1 E) (.inr (.inr (.inr ⟨hg,by rw [ho];rfl,x::(lo.toList++hi.toList),fun P op h6 y hy=>?_,fun S' hS' c'=>?_⟩))) hf (fun hl=>by rw [ho] at hl;simp [F3] at hl) J
 ·rw [ho] at h6;obtain ⟨T,y1,lo',E,e,rfl,hu,hs,rfl,rfl,rfl⟩:=H8 h6;rcases List.mem_cons.1 hy with rfl | hy
  ·exact ⟨y1,by simp [Op.operands],rfl⟩
  ·rcases List.mem_append.1 hy with hy | hy
   ·cases lo' with
    | none=>simp at hy
    | some o=>simp at hy;exact ⟨o,by simp [Op.operands],hy.symm⟩
   ·cases E with
    | none=>simp at hy
    | some o=>simp at hy;exact ⟨o,by simp [Op.operands],hy.symm⟩
 ·have ex:S'.x x = .sl m (l'.map f):=by rw [hS' x (by simp)];exact hx
  have el:AY S' lo 0=some l:=by
   cases lo with
   | none=>exact hl
   | some y=>simp only [AY] at hl ⊢;rw [hS' y (by simp)];exact hl
  have eh:AY S' hi ((l'.map f).length)=some h:=by
   cases hi with
   | none=>exact hh
   | some y=>simp only [AY] at hh ⊢;rw [hS' y (by simp)];exact hh
  rw [ho];refine ⟨nf ex hB el eh h1 h2 (by simpa using h3),fun M a w op h6 hT=>?_⟩;obtain ⟨T,y1,lo',E,e,rfl,hu,hs,rfl,rfl,rfl⟩:=H8 h6;have hw:=Ak hT y1;rw [ex] at hw;obtain ⟨ad,cp,g1,g2,g3⟩:=hw;exact ⟨_,nA (ad:=ad) (cp:=cp) ⟨ad,cp,rfl,g2,g3⟩ l.toNat h.toNat Om (by rw [List.length_map];omega)⟩
def Yn (ng b:Bool):Bool:=match ng with | true=>!b | false=>b
def TV (ng:Bool):BinOp:=match ng with | true=>.neq | false=>.eql
theorem fS {P:Program} {op:Op} {ng:Bool} {x:X} (ho:cO P op = .isnil ng x):
  ∃T y T2 e,op = .binOp (TV ng) T y (.const (.slice none 0 0)) T2∧P.underlying T=some (.slice e)∧cX y=x:=by
 cases op
 case binOp o T y z T2=>
  simp only [cO] at ho;split at ho
  ·split at ho<;>simp at ho
  ·split at ho
   ·split at ho<;>simp at ho
   ·simp at ho
  ·simp at ho
  ·split at ho<;>simp at ho
  ·rename_i e hu;split at ho
   ·split at ho<;>simp at ho
    ·obtain ⟨rfl,rfl⟩:=ho;exact ⟨T,y,T2,e,rfl,hu,rfl⟩
    ·obtain ⟨rfl,rfl⟩:=ho;exact ⟨T,y,T2,e,rfl,hu,rfl⟩
   ·simp at ho
  ·simp at ho
  ·simp at ho
 all_goals (simp only [cO] at ho;(repeat' (split at ho))<;>simp at ho)
theorem LP {d:Option Nat} {g:Option (Nat×Bool)} {ng:Bool} {x:X} {m:Nat} {rows:List (List AV)} {l:List EOp} (hg:gm S g) (hx:S.x x = .sl m rows)
  (h1:rows=[]→V c fn K (.ops l::k) (S.put d (match ng with | true=>.ff | false=>.tt))) (h2:V c fn K (.ops l::k) (S.put d (match ng with | true=>.tt | false=>.ff))):V c fn K (.ops (⟨d,g,.isnil ng x⟩::l)::k) S:=by
 refine ZB hg fun ro hd h6 M a w hT next Q hn=>?_
 obtain ⟨dst,op,ty,pos,af,gd⟩:=ro;dsimp only at h6 hd;subst hd;obtain ⟨T,y,T2,e,rfl,hu,rfl⟩:=fS h6;have hv:=Ak hT y;rw [hx] at hv;obtain ⟨ad,cp,g1,⟨g2,g2'⟩,g3⟩:=hv;have hr:(Op.equal T (.slice ad rows.length cp) (.slice none 0 0)).run c.P w = .ok ad.isNone w:=run_equal_slice_nil w T e ad rows.length cp hu;have hw:∀o:BinOp,(eqGuard o T y (.const (.slice none 0 0)) (.slice ad rows.length cp) (.slice none 0 0)).run c.P w = .ok () w:=fun o=>by unfold eqGuard;split<;>rfl
 have h9:(execOp a.eval ⟨dst,.binOp (TV ng) T y (.const (.slice none 0 0)) T2,ty,pos,af,gd⟩).run c.P w = .ok (.value (.bool (Yn ng ad.isNone))) w:=by have he:a.eval (.const (.slice none 0 0)) = .slice none 0 0:=rfl;generalize a.eval=ρ at *;cases ng<;>simp [TV,Yn,execOp,g1,he,hw,binOp,hr]
 unfold Oper.wp;rw [h9];cases hA:ad with
 | none=>
   have hB:rows=[]:=by have:=g2' hA;exact List.length_eq_zero_iff.1 Om
   have h8:=h1 hB;cases ng
   ·exact hn M w .tt (.bool true) S.bs S.ss (.refl M) hT.st rfl h8
   ·exact hn M w .ff (.bool false) S.bs S.ss (.refl M) hT.st rfl h8
 | some b=>
   cases ng
   ·exact hn M w .ff (.bool false) S.bs S.ss (.refl M) hT.st rfl h2
   ·exact hn M w .tt (.bool true) S.bs S.ss (.refl M) hT.st rfl h2
def Kd (P:Program) (f:Nat) (args:List AV) (T n:Nat) (rows:List (List AV)):Prop:=
 ∀(H:Frag) (w:World) (vs:List Value),(∀k o,H k=some o→w.heap[k]?=some o)→Kf P H→AV.isL (DC H) args vs→
  Calls P f vs.toArray w fun e w'=>∃v H' vss,e = .returned v∧Below w.heap.size w w'∧(∀k o,H' k=some o→w'.heap[k]?=some o)∧
   (∀k,k<w.heap.size→H' k=H k)∧0<n∧AV.isLL (DC H') n rows vss∧(∀v∈vss.flatten,v.oneCell'=true)∧w'.ownsRow 0 T n v rows.length vss.flatten∧∀g,v.ownBlock=some g→w.heap.size≤g∧H' g=none
theorem EU {P:Program} {f:Nat} {fn:Func} {body:EC} {rs:List ERes} {np nt:Nat} (hf:FnOK P f fn body rs np nt) {args:List AV} {T n:Nat} {rows:List (List AV)} (hn:args.length=np)
  (h:∀w0 H0,V (Ctx.of P w0 H0) fn (fun x _ ss=>∃j,x = .osl j∧A2 ss j=some ⟨T,n,rows⟩) [.code body] (St.init args nt)) (hpr:C1 rows=true:=by first | rfl | simp [go_sem]):Kd P f args T n rows:=by
 intro H w vs hH h6 ha;obtain ⟨x,hb,hx⟩:=hf.b;have hl:=D5 ha;refine calls_of_wp hf.h hb ?_;have hT:=ic (P:=P) (nt:=nt) hH h6 ha;have e1:fn.ntmps-vs.toArray.size=nt:=by rw [hf.t];simp;omega
 rw [e1];refine wp_mono (h w H [.code x] _ _ w ⟨_,_,rfl,hx,rfl⟩ hT) ?_;have mono:∀e w',RK (Ctx.of P w H) (fun x _ ss=>∃j,x = .osl j∧A2 ss j=some ⟨T,n,rows⟩) e w'→∃v H' vss,e = .returned v∧Below w.heap.size w w'∧(∀k o,H' k=some o→w'.heap[k]?=some o)∧
   (∀k,k<w.heap.size→H' k=H k)∧0<n∧AV.isLL (DC H') n rows vss∧(∀v∈vss.flatten,v.oneCell'=true)∧w'.ownsRow 0 T n v rows.length vss.flatten∧∀g,v.ownBlock=some g→w.heap.size≤g∧H' g=none:=by
  rintro e w' ⟨v,M,bs,ss,y,rfl,hS,hv,j,rfl,hj⟩;obtain ⟨q0,vss,q1,q2,q3,q4⟩:=hS.slc j _ hj;have q1:AV.isLL M.pure n rows vss:=YN _ _ q1 hpr;have h8:v=M.σ j:=hv.2;subst h8;refine ⟨M.σ j,M.H,vss,rfl,⟨hS.os,hS.tape,hS.output,hS.size,fun k hk=>hS.block k hk (fun h=>h)⟩,hS.hle,fun k hk=>hS.hold k hk (fun h=>h),q0,q1,q2,q3,fun g hg=>?_⟩;obtain ⟨k1,k2⟩:=q4 g hg;rcases k1 with k1 | k1
  ·exact ⟨k1,k2⟩
  ·exact k1.elim
 intro e a w' hq;cases e with
 | normal=>obtain ⟨h1,v,h2,h3⟩:=hq;exact ⟨h1,v,h2,mono _ _ h3⟩
 | ret=>obtain ⟨h1,v,h2,h3⟩:=hq;exact ⟨h1,v,h2,mono _ _ h3⟩
 | panic ch=>obtain ⟨h1,h2⟩:=hq;exact ⟨h1,mono _ _ h2⟩
 | outgrown=>exact mono _ _ hq
 | exit id=>exact hq
 | goto l=>exact hq
theorem oT {P:Program} {w0:World} {H0:Frag} {f:Nat} {fn:Func} {body:EC} {rs:List ERes} {np nt:Nat} {k:List It} {S:St} {T n j:Nat} {rows:List (List AV)} (ok:FnOK P f fn body rs np nt)
 (h:DD S rs=some (.osl j)) (hj:A2 S.ss j=some ⟨T,n,rows⟩):V (Ctx.of P w0 H0) fn (fun x _ ss=>∃j,x = .osl j∧A2 ss j=some ⟨T,n,rows⟩) (.code .ret::k) S:=ZD ok.r h ⟨j,rfl,hj⟩
theorem Kd.sealed {P:Program} {f:Nat} {args:List AV} {T n:Nat} {rows:List (List AV)} (h:Kd P f args T n rows):Cd P f args (.sl n rows):=by
 intro H w vs hH h8 ha;refine (h H w vs hH h8 ha).mono ?_;rintro e w' ⟨v,H',vss,rfl,hb,h1,h2,h3,h4,h5,h6,h7⟩;refine ⟨v,fun k=>if v.ownBlock=some k then w'.heap[k]? else H' k,rfl,hb,?_,?_,?_⟩
 ·intro k o hk;dsimp only at hk;split at hk
  ·exact hk
  ·exact h1 k o hk
 ·intro k hk;dsimp only;rw [if_neg]
  ·exact h2 k hk
  ·intro e;have:=(h7 k e).1;omega
 ·rcases h6.2 with ⟨rfl,e2⟩ | ⟨g,cp,cur,rfl,_,e3,e4,_,e5,e6⟩
  ·refine ⟨none,0,by rw [e2],⟨Om,fun _=>rfl⟩,fun hne=>absurd (List.length_eq_zero_iff.1 e2) hne⟩
  ·refine ⟨some ⟨g,0,none⟩,cp,rfl,⟨e4,fun h=>by simp at h⟩,fun _=>⟨⟨g,0,none⟩,vss,rfl,?_,rfl,h5,cur,T,(0,0),?_,?_⟩⟩
   ·refine il (H:=H') ?_ h4;intro k o hk;show (if (Value.slice (some ⟨g,0,none⟩) rows.length cp).ownBlock=some k then w'.heap[k]? else H' k)=some o;split
    ·rename_i e;simp [Value.ownBlock] at e;subst e;rw [(h7 g rfl).2] at hk;simp at hk
    ·exact hk
   ·simp [DC,Value.ownBlock];exact e3
   ·intro t v ht;rw [←e6] at ht;simp only [Nat.zero_add];rw [List.getElem?_take] at ht;split at ht
    ·simpa using ht
    ·simp at ht
theorem n0 {f:Nat} {xs:List X} {args:List AV} {T n:Nat} {rows:List (List AV)} (hf:Kd c.P f args T n rows)
  (ha:AV.le.leL (B8 S xs) args) (hp:AD args=true):Bi c S (.call f xs) (.osl (Aa S.ss)) ⟨S.tm,S.bs,S.ss++[some ⟨T,n,rows⟩]⟩:=by
 intro ro ho M a w hT next Q hn
 obtain ⟨dst,op,ty,pos,af,gd⟩:=ro;dsimp only at ho;obtain ⟨cargs,argTypes,rfl,hd,rfl⟩:=LY ho;have hm:=Fd _ _ (Ep _ _ _ ha (G9 hT cargs.toList)) hp;have hc:=hf M.H w _ hT.st.hle hT.st.pin.gl hm;have h9:(execOp a.eval ⟨dst,.call ⟨.value (.func f),cargs,argTypes⟩,ty,pos,af,gd⟩).run c.P w = .ok (.enter f (cargs.map a.eval)) w:=by have he:a.eval (.func f) = .func (.func f) #[] #[]:=rfl;generalize a.eval=ρ at *;simp [execOp,resolve,Deferred.ofValue,invoke,he,HU hd]
 unfold Oper.wp;rw [h9];show Calls c.P f (cargs.map a.eval) w _;have e1:(cargs.toList.map a.eval).toArray=cargs.map a.eval:=by apply Array.ext';simp
 rw [←e1];refine hc.mono ?_;rintro e w' ⟨v,H',vss,rfl,hb,h1,h2,h3,h4,h5,h6,h7⟩;obtain ⟨hS,hle⟩:=hT.st.sealed hb h1 h2;have hN:=hS.name ⟨T,n,rows⟩ v vss h3 (EG (Lx _) _ _ _ h4) h5 h6 (fun g hg=>⟨.inl (Nat.le_trans hT.st.size (h7 g hg).1),(h7 g hg).2⟩)
  (fun i B hi e=>by have h8:w.heap.size≤M.ρ i:=(h7 _ e).1;have:=hT.st.blk_lt hi;omega)
  (fun j N g hj e1 e2=>by have h8:=(h7 _ e1).1;have:=hT.st.slc_lt hj e2;omega)
 refine hn _ w' v (hle.trans (Mem.le_addS _ v)) hN ?_;rw [Bh,←hT.st.ns];exact ⟨Nat.lt_succ_self _,by simp [Mem.addS]⟩
theorem Ec {d:Option Nat} {g:Option (Nat×Bool)} {f:Nat} {xs:List X} {l:List EOp} {args:List AV} {T n:Nat} {rows:List (List AV)} (hg:gm S g) (hf:Kd c.P f args T n rows)
  (ha:AV.le.leL (B8 S xs) args:=by first | exact Am _ | simp [go_sem]) (hp:AD args=true:=by first | rfl | simp [go_sem]) (h:V c fn K (.ops l::k) ((⟨S.tm,S.bs,S.ss++[some ⟨T,n,rows⟩]⟩:St).put d (.osl (Aa S.ss)))):V c fn K (.ops (⟨d,g,.call f xs⟩::l)::k) S:=
 AU hg (n0 hf ha hp) rfl h
theorem AT {all:Array Oper} {ops:List EOp} {af:List (List Nat)} {Φ:St→Prop} {m:Nat} {ld:List Bool} (h6:all.toList.mapM (AL c.P all)=some ops) {i f:Nat} {xs:List X} {args:List AV} {T n:Nat} {rows:List (List AV)} (ho:(A8 ops i).o = .call f xs) (hg:gm S (A8 ops i).g) (hf:Kd c.P f args T n rows)
  (ha:AV.le.leL (B8 S xs) args:=by first | exact Am _ | simp [go_sem]) (hp:AD args=true:=by first | rfl | simp [go_sem]) (h:G c all ops af Φ m (Au ld i) ((⟨S.tm,S.bs,S.ss++[some ⟨T,n,rows⟩]⟩:St).put (A8 ops i).d (.osl (Aa S.ss)))):GO c all ops af Φ m ld S i:=
 Bk (S1:=⟨S.tm,S.bs,S.ss++[some ⟨T,n,rows⟩]⟩) h6 hg (by rw [ho];exact n0 hf ha hp) rfl (by rw [ho];exact fun _ _ _ _ h _ _=>h) h
end
end NX
end Go.Proofs.YtjemlejoladlcaaGreat
/-
  The symbolic machine: own blocks change their names; what is appended is sealed at once. No statement of the seat is proved here.
-/
namespace Go.Proofs.YtjemlejoladlcaaGreat
namespace NX
open Go Go.RowKit
def ES (p q i:Nat):Nat:=match i==p with
 | true=>q
 | false=>match i==q with
   | true=>p
   | false=>i
theorem Pi (p q i:Nat):ES p q i=if i=p then q else if i=q then p else i:=by
 unfold ES;cases h:i==p
 ·have h1:i≠p:=by simpa using h
  rw [if_neg h1];cases h2:i==q
  ·have h3:i≠q:=by simpa using h2
   rw [if_neg h3]
  ·have h3:i=q:=by simpa using h2
   rw [if_pos h3]
 ·have h1:i=p:=by simpa using h
  rw [if_pos h1]
theorem ec (p q i:Nat):ES p q (ES p q i)=i:=by
 simp only [Pi];by_cases h1:i=p
 ·rw [if_pos h1];by_cases h2:q=p
  ·rw [if_pos h2,h1,h2]
  ·rw [if_neg h2,if_pos rfl,h1]
 ·rw [if_neg h1];by_cases h2:i=q
  ·rw [if_pos h2,if_pos rfl,h2]
  ·rw [if_neg h2,if_neg h1,if_neg h2]
theorem Z1f {p q i n:Nat} (hp:p<n) (hq:q<n) (hi:i<n):ES p q i<n:=by
 rw [Pi];split
 ·exact hq
 ·split
  ·exact hp
  ·exact hi
mutual
def AV.swB (p q:Nat):AV→AV
 | .ptr i o=>.ptr (ES p q i) o
 | .agg l=>.agg (ER p q l)
 | .tup l=>.tup (ER p q l)
 | .clo f l=>.clo f (ER p q l)
 | .any=>.any
 | .un=>.un
 | .tt=>.tt
 | .ff=>.ff
 | .bv e=>.bv e
 | .iv n=>.iv n
 | .kv k n=>.kv k n
 | .sv x=>.sv x
 | .nl=>.nl
 | .nlp=>.nlp
 | .fn f=>.fn f
 | .osl i=>.osl i
 | .oel i a b=>.oel i a b
 | .ocs i a n b=>.ocs i a n b
 | .elt row o=>.elt row o
 | .sl n rows=>.sl n rows
def ER (p q:Nat):List AV→List AV
 | []=>[]
 | x::l=>x.swB p q::ER p q l
end
def St.swB (S:St) (p q:Nat):St:=⟨ER p q S.tm,Ar (Ar (Cn (ER p q) S.bs) p (A2 (Cn (ER p q) S.bs) q)) q (A2 (Cn (ER p q) S.bs) p),S.ss⟩
attribute [go_sem] AV.swB ER St.swB ES
theorem nN (p q:Nat):∀l,(ER p q l).length=l.length
 | []=>rfl
 | _::l=>by simp [ER,nN p q l]
theorem nM (p q:Nat):∀(l:List AV) (t:Nat),AJ (ER p q l) t=(AJ l t).swB p q
 | [],_=>by simp [ER,AJ,AV.swB]
 | _::_,0=>rfl
 | _::l,t+1=>nM p q l t
section
variable {c:Ctx} {M:Mem} {S S':St} {a:Act} {w:World} {fn:Func} {K:AV→List (Option Blk)→List (Option Sl)→Prop} {k:List It}
mutual
theorem nO {M M':Mem} {p q:Nat} (hp:p<M.nb) (hq:q<M.nb) (hρ:∀i,M'.ρ i=M.ρ (ES p q i)) (hnb:M'.nb=M.nb) (hns:M'.ns=M.ns) (hσ:M'.σ=M.σ) (hH:M'.H=M.H):∀(x:AV) (v:Value),x.is M v→(x.swB p q).is M' v
 | .any,_,_=>trivial
 | .un,_,k | .tt,_,k | .ff,_,k | .bv _,_,k | .iv _,_,k | .kv _ _,_,k | .sv _,_,k | .nl,_,k | .nlp,_,k | .fn _,_,k=>k
 | .ptr j off,x,k=>⟨by rw [hnb];exact Z1f hp hq k.1,by rw [hρ,ec];exact k.2⟩
 | .osl j,x,k=>⟨by rw [hns];exact k.1,by rw [hσ];exact k.2⟩
 | .oel j a off,x,k=>⟨by rw [hns];exact k.1,by rw [hσ];exact k.2⟩
 | .ocs j a n off,x,k=>⟨by rw [hns];exact k.1,by rw [hσ];exact k.2⟩
 | .elt row off,x,⟨a,vs,h1,h2,h3⟩=>⟨a,vs,h1,by rw [show M'.pure=M.pure by simp [Mem.pure,hH]];exact h2,by rw [hH];exact h3⟩
 | .sl n rows,x,⟨a,c,h1,h2,h3⟩=>⟨a,c,h1,h2,by rw [show M'.pure=M.pure by simp [Mem.pure,hH],hH];exact h3⟩
 | .agg l,x,⟨vs,h1,h2⟩=>⟨vs,h1,Un hp hq hρ hnb hns hσ hH l vs h2⟩
 | .tup l,x,⟨vs,h1,h2⟩=>⟨vs,h1,Un hp hq hρ hnb hns hσ hH l vs h2⟩
 | .clo f l,x,⟨vs,h1,h2⟩=>⟨vs,h1,Un hp hq hρ hnb hns hσ hH l vs h2⟩
theorem Un {M M':Mem} {p q:Nat} (hp:p<M.nb) (hq:q<M.nb) (hρ:∀i,M'.ρ i=M.ρ (ES p q i)) (hnb:M'.nb=M.nb) (hns:M'.ns=M.ns) (hσ:M'.σ=M.σ) (hH:M'.H=M.H):∀(l:List AV) (vs:List Value),AV.isL M l vs→AV.isL M' (ER p q l) vs
 | [],_,k=>k
 | x::l,_,⟨v,r,h1,h2,h3⟩=>⟨v,r,h1,nO hp hq hρ hnb hns hσ hH x v h2,Un hp hq hρ hnb hns hσ hH l r h3⟩
end
theorem ZE (p q:Nat) (hp:AA (p+1) (Aa S.bs)=true) (hq:AA (q+1) (Aa S.bs)=true) (h:V c fn K k (S.swB p q)) (h6:AA c.np p=true:=by rfl) (hqn:AA c.np q=true:=by rfl):V c fn K k S:=by
 intro rk M a w hc hT;rw [D0,Bh] at hp hq;have hS:=hT.st;have hp':p<M.nb:=by rw [hS.nb];exact hp
 have hq':q<M.nb:=by rw [hS.nb];exact hq
 let M':Mem:= {M with ρ:=fun i=>M.ρ (ES p q i)}
 have hx:=fun x v=>nO (M:=M) (M':=M') hp' hq' (fun _=>rfl) rfl rfl rfl rfl x v;have h8:=fun x v=>Un (M:=M) (M':=M') hp' hq' (fun _=>rfl) rfl rfl rfl rfl x v;have get:∀i B,A2 (S.swB p q).bs i=some B→∃C,A2 S.bs (ES p q i)=some C∧B=⟨C.T,ER p q C.cells⟩:=by
  intro i B hi;simp only [St.swB] at hi;rw [Du] at hi;split at hi
  ·rename_i e;obtain ⟨rfl,_⟩:=e;have:ES p i i=p:=by rw [Pi];by_cases h:i=p<;>simp [h]
   rw [this];exact Fa _ _ _ _ hi
  ·rename_i e;rw [Du] at hi;split at hi
   ·rename_i e2;obtain ⟨rfl,_⟩:=e2;have:ES i q i=q:=by simp [Pi]
    rw [this];exact Fa _ _ _ _ hi
   ·rename_i e2;have n1:i≠q:=fun h=>e ⟨h,by rw [Dd,IH];exact hq⟩;have n2:i≠p:=fun h=>e2 ⟨h,by rw [IH];exact hp⟩;have:ES p q i=i:=by rw [Pi,if_neg n2,if_neg n1]
    rw [this];exact Fa _ _ _ _ hi
 refine h rk M' a w hc ⟨by simp only [St.swB,nN];exact hT.len,fun t=>by simp only [St.swB,nM];exact hx _ _ (hT.tm t),hT.df,?_⟩;refine ⟨by simp only [St.swB,Dd,IH];exact hS.nb,hS.ns,hS.so,hS.os,hS.tape,hS.output,hS.size,hS.block,hS.hle,hS.hold,?_,hS.slc,?_,?_,hS.d3,⟨hS.pin.nb,fun j hj=>by rw [D0] at h6 hqn;show M.ρ (ES p q j)=_;rw [Pi,if_neg Om,if_neg Om];exact hS.pin.ρ j hj,hS.pin.ns,hS.pin.σ,hS.pin.gl⟩⟩
 ·intro i B hi;obtain ⟨C,hC,rfl⟩:=get i B hi;obtain ⟨g1,g2,vs,g3,g4,g5⟩:=hS.blk _ C hC;exact ⟨g1,g2,vs,h8 _ _ g3,g4,g5⟩
 ·intro i j B C hi hj e;obtain ⟨B',hB,_⟩:=get i B hi;obtain ⟨C',hC,_⟩:=get j C hj;have:=hS.d1 _ _ B' C' hB hC e;rw [←ec p q i,this,ec]
 ·intro i j B L hi hj;obtain ⟨B',hB,_⟩:=get i B hi;exact hS.d2 _ j B' L hB hj
end
theorem eU {c:Ctx} {all:Array Oper} {ops:List EOp} (h6:all.toList.mapM (AL c.P all)=some ops) (h8:Region.noSelect all=true) {Φ:St→Prop} (r:Nat):
  ∀(m:Nat) (ld:List Bool) (S:St) (p:Prop),(Cm ops (Bn all) (CX all) m ld S p).2.2.2→
   G c all ops (Bn all) Φ ((Cm ops (Bn all) (CX all) m ld S p).1+r) (Cm ops (Bn all) (CX all) m ld S p).2.1 (Cm ops (Bn all) (CX all) m ld S p).2.2.1→p∧G c all ops (Bn all) Φ (m+r) ld S
 | 0,ld,S,p,hp,h=>⟨hp,h⟩
 | m+1,ld,S,p,hp,h=>by
   simp only [Cm] at hp h;split at hp
   ·rename_i x hx;rw [hx] at h;obtain ⟨i,v,q⟩:=x;obtain ⟨h1,h2⟩:=eU h6 h8 r m _ _ _ hp h;obtain ⟨k1,k2,k3,k4⟩:=V4 hx;refine ⟨h1.1,?_⟩;rw [show m+1+r=(m+r)+1 by omega];exact LM h6 h8 i h1.2 (m+r) ld S k1 k2 k3 k4 h2
   ·rename_i hx;rw [hx] at h;exact ⟨hp,h⟩
theorem eR {c:Ctx} {all:Array Oper} {ops:List EOp} {af nap:List (List Nat)} (h6:all.toList.mapM (AL c.P all)=some ops) (h8:Region.noSelect all=true) (hd:af=Bn all) (h9:nap=CX all) {Φ:St→Prop} (m r:Nat)
  {ld:List Bool} {S:St} (h:(Cm ops af nap m ld S True).2.2.2∧G c all ops af Φ ((Cm ops af nap m ld S True).1+r) (Cm ops af nap m ld S True).2.1 (Cm ops af nap m ld S True).2.2.1):G c all ops af Φ (m+r) ld S:=by
 subst hd;subst h9;exact (eU h6 h8 r _ _ _ True h.1 h.2).2
def tN:Nat→Prop
 | 0=>True
 | n+1=>tN n∧True
theorem nP:∀n,tN n
 | 0=>trivial
 | n+1=>⟨nP n,trivial⟩
def an:Nat→List AV→List AV
 | 0,l=>l
 | n+1,l=>.any::an n l
attribute [go_sem] an
def rp (b:Bool):Nat→List Bool→List Bool
 | 0,l=>l
 | n+1,l=>b::rp b n l
def rl:List Nat→List Bool
 | []=>[]
 | [n]=>rp true n []
 | n::m::r=>rp true n (rp false m (rl r))
def Zd:Nat→(List AV→List AV)→List AV→List AV
 | 0,f,l=>f l
 | n+1,f,[]=>.any::Zd n f []
 | n+1,f,x::l=>x::Zd n f l
def YM:List AV→(List AV→List AV)→List AV→List AV
 | [],f,l=>f l
 | v::vs,f,[]=>v::YM vs f []
 | v::vs,f,_::l=>v::YM vs f l
def pt:List (Nat×List AV)→List AV→List AV
 | [],l=>l
 | (n,vs)::p,l=>Zd n (YM vs (pt p)) l
attribute [go_sem] Zd YM pt rp rl
theorem oM {c:Ctx} {all:Array Oper} {ops:List EOp} {af nap:List (List Nat)} (h6:all.toList.mapM (AL c.P all)=some ops) (h8:Region.noSelect all=true) (hd:af=Bn all) (h9:nap=CX all) {Φ:St→Prop} (m r:Nat)
  {ld:List Bool} {S:St} (ld':List Bool) (S':St) (he:Cm ops af nap m ld S True=(0,ld',S',tN m)) (h:G c all ops af Φ r ld' S'):G c all ops af Φ (m+r) ld S:=
 eR h6 h8 hd h9 m r (by rw [he];exact ⟨nP m,by simpa using h⟩)
theorem oN {c:Ctx} {all:Array Oper} {ops:List EOp} {af nap:List (List Nat)} (h6:all.toList.mapM (AL c.P all)=some ops) (h8:Region.noSelect all=true) (hd:af=Bn all) (h9:nap=CX all) {Φ:St→Prop} (m r:Nat)
  {ld:List Bool} {S:St} (b:List Nat) (u:List (Nat×List AV)) (he:Cm ops af nap m ld S True=(0,rl b,⟨pt u S.tm,S.bs,S.ss⟩,tN m)) (h:G c all ops af Φ r (rl b) ⟨pt u S.tm,S.bs,S.ss⟩):G c all ops af Φ (m+r) ld S:=
 oM h6 h8 hd h9 m r _ _ he h
theorem Db {P:Program} {w0:World} {H0:Frag} {f:Nat} {fn:Func} {body:EC} {rs:List ERes} {np nt:Nat} {k:List It} {S:St} {T n j:Nat} {α:Type} {e r:List α} (g:α→List AV) (ok:FnOK P f fn body rs np nt) (h:some e=some r)
  (hr:DD S rs=some (.osl j)) (hj:A2 S.ss j=some ⟨T,n,e.map g⟩):V (Ctx.of P w0 H0) fn (fun x _ ss=>∃j,x = .osl j∧A2 ss j=some ⟨T,n,r.map g⟩) (.code .ret::k) S:=by
 obtain rfl:=Option.some.inj h;exact oT ok hr hj
end NX
end Go.Proofs.YtjemlejoladlcaaGreat
