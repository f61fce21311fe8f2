/-
  The symbolic machine: slices of slices, tests for nil, ways that part inside a drawn region, fresh results. No statement of the seat is proved here.
-/
import Derived.Laws.Cover3
import Derived.Test.YtgamgemlekpepaaGreatK9
namespace Go.Proofs.YtgamgemlekpepaaGreat
namespace NX
open Go Go.RowKit
structure Fine (S S':St):Prop where
 bs:S'.bs=S.bs
 ss:S'.ss=S.ss
 len:S'.tm.length=S.tm.length
 is:∀M t v,(Zn S.tm t).is M v→(Zn S'.tm t).is M v
 lg:∀t,lgt S'.tm t=lgt S.tm t
 pt:∀t j off,Zn S'.tm t = .ptr j off→Zn S.tm t = .ptr j off
theorem Fine.relT {S S':St} (h:Fine S S') {c:Ctx} {M:Mem} {a:Act} {w:World} (J:RelT c M S a w):RelT c M S' a w:=⟨by rw [h.len];exact J.len,fun t=>h.is M t _ (J.tm t),J.df,by rw [h.bs,h.ss];exact J.st⟩
theorem Fine.put {S S':St} (h:Fine S S') (bs ss) (d:Option Nat) (v:AV):Fine ((⟨S.tm,bs,ss⟩:St).put d v) ((⟨S'.tm,bs,ss⟩:St).put d v):=by
 cases d with
 | none=>exact ⟨rfl,rfl,h.len,h.is,h.lg,h.pt⟩
 | some d=>
   refine ⟨rfl,rfl,by simp only [St.put,Z32];exact h.len,fun M t x hx=>?_,fun t=>?_,fun t j off=>?_⟩
   ·simp only [St.put,Z22,h.len] at hx ⊢;split<;>rename_i e
    ·rw [if_pos e] at hx;exact hx
    ·rw [if_neg e] at hx;exact h.is M t x hx
   ·simp only [St.put,lgt,Z22,h.len];split
    ·rfl
    ·exact h.lg t
   ·simp only [St.put,Z22,h.len];split
    ·exact id
    ·exact h.pt t j off
theorem Fine.gm {S S':St} (h:Fine S S') (g:Option (Nat×Bool)):NX.gm S' g=NX.gm S g∧gno S' g=gno S g:=by
 cases g with
 | none=>exact ⟨rfl,rfl⟩
 | some tf=>obtain ⟨t,f⟩:=tf;simp only [NX.gm,gno,h.lg t,and_self]
theorem Z9d {c:Ctx} {all:Array Oper} {ops:List EOp} {af:List (List Nat)} {Φ:St→Prop} (J:∀S S',Fine S S'→Φ S'→Φ S):∀(m:Nat) (ld:List Bool) (S S':St),Fine S S'→G c all ops af Φ m ld S'→G c all ops af Φ m ld S
 | 0,_,S,S',hf,h=>⟨h.1,J S S' hf h.2⟩
 | m+1,ld,S,S',hf,h=>by
   refine ⟨fun h0=>J S S' hf (h.1 h0),fun i hi=>?_⟩;rcases h.2 i hi with ⟨h1,h2⟩ | ⟨h1,v,S1,h2,h3,h4,h5⟩
   ·left;refine ⟨by rw [←(hf.gm _).2];exact h1,Z9d J m _ _ _ ?_ h2⟩;have:=hf.put S.bs S.ss (Zy1 ops i).d .un;rw [show (⟨S'.tm,S.bs,S.ss⟩:St)=S' from by rw [←hf.bs,←hf.ss]] at this;exact this
   ·right;refine ⟨by rw [←(hf.gm _).1];exact h1,v,⟨S.tm,S1.bs,S1.ss⟩,fun ro h6 M a w hT next Q hn=>h2 ro h6 M a w (hf.relT hT) next Q hn,rfl,?_,Z9d J m _ _ _ ?_ h5⟩
    ·refine h4.imp (fun h4=>?_) id;intro j off n l k1 k2 k3;have:=h4 j off n l (by rw [Z2a hf.bs];exact k1) k2 (fun n a x j' off' ho hx=>k3 n a x j' off' ho (by
      cases a with
      | t t=>exact hf.pt t j' off' hx
      | c _=>exact hx
      | bad=>exact hx))
     rw [Z2a (S:=S1) (S':=⟨S.tm,S1.bs,S1.ss⟩) rfl];exact this
    ·have:=hf.put S1.bs S1.ss (Zy1 ops i).d v;rw [←h3] at this;exact this
section
variable {c:Ctx} {M:Mem} {S S':St} {a:Act} {w:World} {fn:Func} {K:AV→List (Option Blk)→List (Option Sl)→Prop} {k:List It} {β:Type}
theorem Zad (J:Fine S S') (h:V c fn K k S'):V c fn K k S:=fun rk M a w hc hT=>h rk M a w hc (J.relT hT)
def Zbd (e:Bool):AV:=match e with | true=>.tt | false=>.ff
theorem Zcd {t:Nat} {e:Bool} (ht:Zn S.tm t = .bv e):Fine S ⟨Zo S.tm t (Zbd e),S.bs,S.ss⟩:=by
 refine ⟨rfl,rfl,Z32 _ _ _,fun M u v hv=>?_,fun u=>?_,fun u j off=>?_⟩
 ·simp only [Z22];split
  ·rename_i h;obtain ⟨rfl,_⟩:=h;rw [ht] at hv;cases e<;>exact hv
  ·exact hv
 ·simp only [lgt,Z22];split
  ·rename_i h;obtain ⟨rfl,_⟩:=h;rw [ht];cases e<;>rfl
  ·rfl
 ·simp only [Z22];split
  ·cases e<;>simp [Zbd]
  ·exact id
theorem Zdd {all:Array Oper} {ops:List EOp} {af:List (List Nat)} {m:Nat} {ld:List Bool} (t:Nat) {e:Bool} {A B:Option β} {r:β} (h:ifb e A B=some r) (ht:Zn S.tm t = .bv e)
  (h1:e=true→A=some r→G c all ops af (fun S'=>V c fn K k S') m ld ⟨Zo S.tm t .tt,S.bs,S.ss⟩) (h2:e=false→B=some r→G c all ops af (fun S'=>V c fn K k S') m ld ⟨Zo S.tm t .ff,S.bs,S.ss⟩):
  G c all ops af (fun S'=>V c fn K k S') m ld S:=by
 refine Z9d (fun S S' hf h=>Zad hf h) m ld S _ (Zcd ht) ?_;cases e with
 | true=>exact h1 rfl h
 | false=>exact h2 rfl h
theorem Zed {P:Program} {op:Op} {n:Nat} {x:X} {lo hi:Option X} (J:cO P op = .slice n x lo hi):
  ∃T y l h e,op = .slice T y l h none∧P.underlying T=some (.slice e)∧Z9 P e=some n∧cX y=x∧l.map cX=lo∧h.map cX=hi:=by
 cases op
 case slice T y l h mx=>
  simp only [cO] at J;split at J
  ·rename_i e hu;split at J
   ·rename_i n' hn;simp only [EO.slice.injEq] at J;obtain ⟨rfl,rfl,rfl,rfl⟩:=J;exact ⟨T,y,l,h,e,rfl,hu,hn,rfl,rfl,rfl⟩
   ·simp at J
  ·split at J<;>simp at J
  ·simp at J
  ·simp at J
 all_goals (simp only [cO] at J;(repeat' (split at J))<;>simp at J)
def bnd (S:St) (x:Option X) (z:Int):Option Int:=
 match x with
 | none=>some z
 | some x=>match S.x x with
   | .iv n=>some n
   | _=>none
attribute [go_sem] bnd
theorem Zfd {P:Program} {w:World} {T e n:Nat} (hu:P.underlying T=some (.slice e)) (hs:Z9 P e=some n) {x:Operand} {l h:Option Operand} {ρ:Operand→Value} {ad:Option Addr} {len cp:Nat} {lo hi:Int}
  (hx:ρ x = .slice ad len cp) (h6:len≤cp) (hl:match l with | none=>lo=0 | some o=>ρ o = .int .i64 lo) (hh:match h with | none=>hi=len | some o=>ρ o = .int .i64 hi) (h0:0≤lo) (h1:lo≤hi) (h2:hi≤len)
  (d:Option Tmp) (ty:TypeId) (pos:String) (af:Array Edge) (J:Option (Nat×Bool)):
  (execOp ρ ⟨d,.slice T x l h none,ty,pos,af,J⟩).run P w = .ok (.value (.slice (if cp=lo.toNat then ad else ad.map (·.add (lo.toNat*n))) (hi.toNat-lo.toNat) (cp-lo.toNat))) w:=by
 have hc:hi≤cp:=by omega
 have key:(Instr.sliceBounds true len cp (l.map ρ) (h.map ρ) none).run P w = .ok (lo.toNat,hi.toNat,cp) w:=by
  cases l<;>cases h<;>simp only at hl hh<;>simp only [Option.map,Instr.sliceBounds]
  ·subst hl;simp [hh]
  ·subst hl;simp [Instr.sliceBound,asIntOf,hh,hc,show 0≤hi by omega]
  ·subst hh;simp [Instr.sliceBound,asIntOf,hl,h0,h1]
  ·simp [Instr.sliceBound,asIntOf,hl,hh,h0,h1,hc,show 0≤hi by omega,Int.toNat_of_nonneg (show 0≤hi by omega)]
 simp [execOp,Instr.sliceAt,Instr.slice,hx,run_underlying hu,key,Z74 hs]
theorem Zgd {M:Mem} {n:Nat} {rows:List (List AV)} {vss:List (List Value)} (h:AV.isLL M n rows vss) (a b:Nat):AV.isLL M n ((rows.take b).drop a) ((vss.take b).drop a):=by
 have ht:∀(rows:List (List AV)) (vss:List (List Value)) (b:Nat),AV.isLL M n rows vss→AV.isLL M n (rows.take b) (vss.take b):=by
  intro rows;induction rows with
  | nil=>intro vss b h;simp [AV.isLL] at h;subst h;simp [AV.isLL]
  | cons r rows ih=>
    rintro vss b ⟨v,q,rfl,h1,h2,h3⟩;cases b with
    | zero=>simp [AV.isLL]
    | succ b=>exact ⟨v,q.take b,by simp,h1,h2,ih q b h3⟩
 have hd:∀(rows:List (List AV)) (vss:List (List Value)) (b:Nat),AV.isLL M n rows vss→AV.isLL M n (rows.drop b) (vss.drop b):=by
  intro rows;induction rows with
  | nil=>intro vss b h;simp [AV.isLL] at h;subst h;simp [AV.isLL]
  | cons r rows ih=>
    rintro vss b ⟨v,q,rfl,h1,h2,h3⟩;cases b with
    | zero=>exact ⟨v,q,rfl,h1,h2,h3⟩
    | succ b=>simpa using ih q b h3
 exact hd _ _ a (ht _ _ b h)
theorem Zhd {M:Mem} {n:Nat}:∀ {rows:List (List AV)} {vss:List (List Value)},AV.isLL M n rows vss→vss.length=rows.length∧∀v∈vss,v.length=n
 | [],_,h=>by simp [AV.isLL] at h;subst h;simp
 | _::rows,_,⟨v,q,h0,h1,h2,h3⟩=>by subst h0;obtain ⟨g1,g2⟩:=Zhd h3;exact ⟨by simp [g1],fun x hx=>by rcases List.mem_cons.1 hx with rfl | hx;exact h1;exact g2 x hx⟩
theorem Zid {M:Mem} {n:Nat} {rows:List (List AV)} {ad:Option Addr} {cp:Nat} (h:AV.is M (.sl n rows) (.slice ad rows.length cp)) (lo hi:Nat) (h1:lo≤hi) (h2:hi≤rows.length):
  AV.is M (.sl n ((rows.take hi).drop lo)) (.slice (if cp=lo then ad else ad.map (·.add (lo*n))) (hi-lo) (cp-lo)):=by
 obtain ⟨a',c',he,⟨hf,hn⟩,hr⟩:=h;simp only [Value.slice.injEq] at he;obtain ⟨rfl,_,rfl⟩:=he;have h6:((rows.take hi).drop lo).length=hi-lo:=by simp;omega
 refine ⟨if cp=lo then ad else ad.map (·.add (lo*n)),cp-lo,by rw [h6],⟨by rw [h6];omega,fun e=>?_⟩,fun hne=>?_⟩
 ·split at e
  ·rename_i ho;omega
  ·have:ad=none:=by cases ad<;>simp_all
   have:=hn this;omega
 ·have hw:lo<hi:=by
   rcases Nat.lt_or_ge lo hi with h | h
   ·exact h
   ·exfalso;apply hne;apply List.length_eq_zero_iff.1;rw [h6];omega
  obtain ⟨a,vss,rfl,g1,g2,g3,cs,T,fr,g4,g5⟩:=hr (by intro e;subst e;simp at h2;omega);obtain ⟨l1,l2⟩:=Zhd g1;have h9:=Zgd g1 lo hi;refine ⟨a.add (lo*n),(vss.take hi).drop lo,by rw [if_neg (by omega)];rfl,h9,?_⟩;have hc:a.add (lo*n)=⟨a.block,a.off+lo*n,none⟩:=by obtain ⟨b,o,sp⟩:=a;dsimp only at g2;subst g2;exact Addr.add_lit _ _ _
  rw [hc];have h8:∃t,vss.flatten=(vss.take lo).flatten++((vss.take hi).drop lo).flatten++t:=by
   refine ⟨(vss.drop hi).flatten,?_⟩;rw [←List.flatten_append,←List.flatten_append];congr 1;have:vss.take lo++(vss.take hi).drop lo=vss.take hi:=by have:=List.take_append_drop lo (vss.take hi);rw [List.take_take,Nat.min_eq_left h1] at this;exact this
   rw [this,List.take_append_drop]
  obtain ⟨t,h8⟩:=h8;have hd:(vss.take lo).flatten.length=lo*n:=by have:=Z0b (Zgd g1 0 lo);simp only [List.drop_zero] at this;rw [this,List.length_take,Nat.min_eq_left (by omega)]
  refine ⟨rfl,fun v hv=>g3 v ?_,cs,T,fr,g4,fun k v hk=>?_⟩
  ·rw [h8];exact List.mem_append_left _ (List.mem_append_right _ hv)
  ·have:=g5 (lo*n+k) v (by rw [h8,List.append_assoc,List.getElem?_append_right (by omega),hd,show lo*n+k-lo*n=k by omega];rw [List.getElem?_append_left (List.getElem?_eq_some_iff.1 hk).1];exact hk);dsimp only;rw [show a.off+lo*n+k=a.off+(lo*n+k) by omega];exact this
theorem Zjd {n m:Nat} {x:X} {lo hi:Option X} {rows:List (List AV)} {l h:Int} (hx:S.x x = .sl m rows) (hc:m=n) (hl:bnd S lo 0=some l) (hh:bnd S hi rows.length=some h) (h0:0≤l) (h1:l≤h) (h2:h≤rows.length):
  Z77 c S (.slice n x lo hi) (.sl m ((rows.take h.toNat).drop l.toNat)) S:=by
 intro ro h8 M a w hT next Q hn
 obtain ⟨dst,op,ty,pos,af,gd⟩:=ro;dsimp only at h8;subst hc;obtain ⟨T,y,lo',hi',e,rfl,hu,hs,rfl,rfl,rfl⟩:=Zed h8;have hv:=Z34 hT y;rw [hx] at hv;have hv':=hv;obtain ⟨ad,cp,g1,⟨g2,g2'⟩,g3⟩:=hv;rw [g1] at hv';have h9:=Zfd (P:=c.P) (w:=w) hu hs (l:=lo') (h:=hi') (lo:=l) (hi:=h) g1 g2 (by
  cases lo' with
  | none=>simp [bnd] at hl;exact hl.symm
  | some o=>have:=Z34 hT o;simp only [Option.map,bnd] at hl;split at hl<;>simp at hl;rename_i h6;rw [h6] at this;subst hl;exact this) (by
  cases hi' with
  | none=>simp [bnd] at hh;exact hh.symm
  | some o=>have:=Z34 hT o;simp only [Option.map,bnd] at hh;split at hh<;>simp at hh;rename_i h6;rw [h6] at this;subst hh;exact this) h0 h1 h2 dst ty pos af gd
 unfold Oper.wp;rw [h9];refine hn M w _ (.refl M) hT.st ?_;exact Zid hv' l.toNat h.toNat (by omega) (by omega)
theorem Zkd {α:Type} {l v:List α} {lo hi:Int} (h:Z9c l lo hi=some v):v=(l.take hi.toNat).drop lo.toNat∧0≤lo∧lo≤hi∧hi≤l.length:=by
 unfold Z9c at h;split at h
 ·rename_i h1;simp at h;exact ⟨h.symm,h1⟩
 ·simp at h
theorem Zld {α:Type} {l' v:List α} {d:Option Nat} {g:Option (Nat×Bool)} {U:List EOp} {n m:Nat} {x:X} {lo hi:Option X} {l h:Int} (f:α→List AV) (hv:Z9c l' l h=some v) (hg:gm S g) (hx:S.x x = .sl m (l'.map f)) (h6:m=n) (hl:bnd S lo 0=some l) (hh:bnd S hi ((l'.map f).length)=some h)
  (J:V c fn K (.ops U::k) (S.put d (.sl m (v.map f)))):V c fn K (.ops (⟨d,g,.slice n x lo hi⟩::U)::k) S:=by
 obtain ⟨h0,h1,h2,h3⟩:=Zkd hv;subst h0;rw [List.map_drop,List.map_take] at J;exact Z87 hg (Zjd hx h6 hl hh h1 h2 (by simpa using h3)) rfl J
theorem Zmd {all:Array Oper} {ops:List EOp} {af:List (List Nat)} {Φ:St→Prop} {m':Nat} {ld:List Bool} {nap:List (List Nat)} (h8:all.toList.mapM (Ze c.P all)=some ops) (h9:Region.noSelect all=true) (hd:af=Zl all) (hc:nap=Zm all) (i:Nat) {α:Type} {l' v:List α} {n m:Nat} {x:X} {lo hi:Option X} {l h:Int} (f:α→List AV) (hv:Z9c l' l h=some v)
  (J:Zw1 i (rdy ld af 0)=true) (U:(Zy1 ops i).o = .slice n x lo hi) (hg:gm S (Zy1 ops i).g) (hx:S.x x = .sl m (l'.map f)) (hn:m=n) (hl:bnd S lo 0=some l) (hh:bnd S hi ((l'.map f).length)=some h)
  (Z:frB ld af i (Zx1 nap i)=true) (Y:G c all ops af Φ m' (Zu1 ld i) (S.put (Zy1 ops i).d (.sl m (v.map f)))):G c all ops af Φ (m'+1) ld S:=by
 obtain ⟨h0,h1,h2,h3⟩:=Zkd hv;subst h0;rw [List.map_drop,List.map_take] at Y;subst hd;subst hc;refine Zea h8 h9 i (q:=True) trivial m' ld S ((Zl8 _ _).1 J) (.inr (.inr (.inr ⟨hg,by rw [U];rfl,x::(lo.toList++hi.toList),fun P op h6 y hy=>?_,fun S' hS' c'=>?_⟩))) Z (fun hl=>by rw [U] at hl;simp [Zq8] at hl) Y
 ·rw [U] at h6;obtain ⟨T,y1,lo',J,e,rfl,hu,hs,rfl,rfl,rfl⟩:=Zed h6;rcases List.mem_cons.1 hy with rfl | hy
  ·exact ⟨y1,by simp [Op.operands],rfl⟩
  ·rcases List.mem_append.1 hy with hy | hy
   ·cases lo' with
    | none=>simp at hy
    | some o=>simp at hy;exact ⟨o,by simp [Op.operands],hy.symm⟩
   ·cases J with
    | none=>simp at hy
    | some o=>simp at hy;exact ⟨o,by simp [Op.operands],hy.symm⟩
 ·have ex:S'.x x = .sl m (l'.map f):=by rw [hS' x (by simp)];exact hx
  have el:bnd S' lo 0=some l:=by
   cases lo with
   | none=>exact hl
   | some y=>simp only [bnd] at hl ⊢;rw [hS' y (by simp)];exact hl
  have eh:bnd S' hi ((l'.map f).length)=some h:=by
   cases hi with
   | none=>exact hh
   | some y=>simp only [bnd] at hh ⊢;rw [hS' y (by simp)];exact hh
  rw [U];refine ⟨Zjd ex hn el eh h1 h2 (by simpa using h3),fun M a w op h6 hT=>?_⟩;obtain ⟨T,y1,lo',J,e,rfl,hu,hs,rfl,rfl,rfl⟩:=Zed h6;have hw:=Z34 hT y1;rw [ex] at hw;obtain ⟨ad,cp,g1,g2,g3⟩:=hw;exact ⟨_,Zid (ad:=ad) (cp:=cp) ⟨ad,cp,rfl,g2,g3⟩ l.toNat h.toNat (by omega) (by rw [List.length_map];omega)⟩
def ngv (ng b:Bool):Bool:=match ng with | true=>!b | false=>b
def Znd (ng:Bool):BinOp:=match ng with | true=>.neq | false=>.eql
theorem Zod {P:Program} {op:Op} {ng:Bool} {x:X} (J:cO P op = .isnil ng x):
  ∃T y T2 e,op = .binOp (Znd ng) T y (.const (.slice none 0 0)) T2∧P.underlying T=some (.slice e)∧cX y=x:=by
 cases op
 case binOp o T y z T2=>
  simp only [cO] at J;split at J
  ·split at J<;>simp at J
  ·split at J
   ·split at J<;>simp at J
   ·simp at J
  ·simp at J
  ·split at J<;>simp at J
  ·rename_i e hu;split at J
   ·split at J<;>simp at J
    ·obtain ⟨rfl,rfl⟩:=J;exact ⟨T,y,T2,e,rfl,hu,rfl⟩
    ·obtain ⟨rfl,rfl⟩:=J;exact ⟨T,y,T2,e,rfl,hu,rfl⟩
   ·simp at J
  ·simp at J
  ·simp at J
 all_goals (simp only [cO] at J;(repeat' (split at J))<;>simp at J)
theorem Zpd {d:Option Nat} {g:Option (Nat×Bool)} {ng:Bool} {x:X} {m:Nat} {rows:List (List AV)} {l:List EOp} (hg:gm S g) (hx:S.x x = .sl m rows)
  (h1:rows=[]→V c fn K (.ops l::k) (S.put d (match ng with | true=>.ff | false=>.tt))) (h2:V c fn K (.ops l::k) (S.put d (match ng with | true=>.tt | false=>.ff))):V c fn K (.ops (⟨d,g,.isnil ng x⟩::l)::k) S:=by
 refine Z67 hg fun ro hd h6 M a w hT next Q hn=>?_
 obtain ⟨dst,op,ty,pos,af,gd⟩:=ro;dsimp only at h6 hd;subst hd;obtain ⟨T,y,T2,e,rfl,hu,rfl⟩:=Zod h6;have hv:=Z34 hT y;rw [hx] at hv;obtain ⟨ad,cp,g1,⟨g2,g2'⟩,g3⟩:=hv;have hr:(Op.equal T (.slice ad rows.length cp) (.slice none 0 0)).run c.P w = .ok ad.isNone w:=run_equal_slice_nil w T e ad rows.length cp hu;have hc:∀o:BinOp,(eqGuard o T y (.const (.slice none 0 0)) (.slice ad rows.length cp) (.slice none 0 0)).run c.P w = .ok () w:=fun o=>by unfold eqGuard;split<;>rfl
 have h9:(execOp a.eval ⟨dst,.binOp (Znd ng) T y (.const (.slice none 0 0)) T2,ty,pos,af,gd⟩).run c.P w = .ok (.value (.bool (ngv ng ad.isNone))) w:=by have he:a.eval (.const (.slice none 0 0)) = .slice none 0 0:=rfl;generalize a.eval=ρ at *;cases ng<;>simp [Znd,ngv,execOp,g1,he,hc,binOp,hr]
 unfold Oper.wp;rw [h9];cases hf:ad with
 | none=>
   have ho:rows=[]:=by have:=g2' hf;exact List.length_eq_zero_iff.1 (by omega)
   have h8:=h1 ho;cases ng
   ·exact hn M w .tt (.bool true) S.bs S.ss (.refl M) hT.st rfl h8
   ·exact hn M w .ff (.bool false) S.bs S.ss (.refl M) hT.st rfl h8
 | some b=>
   cases ng
   ·exact hn M w .ff (.bool false) S.bs S.ss (.refl M) hT.st rfl h2
   ·exact hn M w .tt (.bool true) S.bs S.ss (.refl M) hT.st rfl h2
def Zqd (P:Program) (f:Nat) (args:List AV) (T n:Nat) (rows:List (List AV)):Prop:=
 ∀(H:Frag) (w:World) (vs:List Value),(∀k o,H k=some o→w.heap[k]?=some o)→Z1 P H→AV.isL (Z2 H) args vs→
  Calls P f vs.toArray w fun e w'=>∃v H' vss,e = .returned v∧Below w.heap.size w w'∧(∀k o,H' k=some o→w'.heap[k]?=some o)∧
   (∀k,k<w.heap.size→H' k=H k)∧0<n∧AV.isLL (Z2 H') n rows vss∧(∀v∈vss.flatten,v.oneCell'=true)∧w'.ownsRow 0 T n v rows.length vss.flatten∧∀g,v.ownBlock=some g→w.heap.size≤g∧H' g=none
theorem Zrd {P:Program} {f:Nat} {fn:Func} {body:EC} {rs:List ERes} {np nt:Nat} (J:FnOK P f fn body rs np nt) {args:List AV} {T n:Nat} {rows:List (List AV)} (U:args.length=np)
  (h:∀w0 H0,V (Ctx.of P w0 H0) fn (fun x _ ss=>∃j,x = .osl j∧Zp ss j=some ⟨T,n,rows⟩) [.code body] (St.init args nt)) (h6:Zj1 rows=true:=by first | rfl | simp [go_sem]):Zqd P f args T n rows:=by
 intro H w vs hH h8 ha;obtain ⟨x,hb,hx⟩:=J.b;have hl:=Ze2 ha;refine calls_of_wp J.h hb ?_;have hT:=Z47 (P:=P) (nt:=nt) hH h8 ha;have e1:fn.ntmps-vs.toArray.size=nt:=by rw [J.t];simp;omega
 rw [e1];refine wp_mono (h w H [.code x] _ _ w ⟨_,_,rfl,hx,rfl⟩ hT) ?_;have mono:∀e w',RK (Ctx.of P w H) (fun x _ ss=>∃j,x = .osl j∧Zp ss j=some ⟨T,n,rows⟩) e w'→∃v H' vss,e = .returned v∧Below w.heap.size w w'∧(∀k o,H' k=some o→w'.heap[k]?=some o)∧
   (∀k,k<w.heap.size→H' k=H k)∧0<n∧AV.isLL (Z2 H') n rows vss∧(∀v∈vss.flatten,v.oneCell'=true)∧w'.ownsRow 0 T n v rows.length vss.flatten∧∀g,v.ownBlock=some g→w.heap.size≤g∧H' g=none:=by
  rintro e w' ⟨v,M,bs,ss,y,rfl,hS,hv,j,rfl,hj⟩;obtain ⟨q0,vss,q1,q2,q3,q4⟩:=hS.slc j _ hj;have q1:AV.isLL M.pure n rows vss:=Zz7 _ _ q1 h6;have h9:v=M.σ j:=hv.2;subst h9;refine ⟨M.σ j,M.H,vss,rfl,⟨hS.os,hS.tape,hS.output,hS.size,fun k hk=>hS.block k hk (fun h=>h)⟩,hS.hle,fun k hk=>hS.hold k hk (fun h=>h),q0,q1,q2,q3,fun g hg=>?_⟩;obtain ⟨k1,k2⟩:=q4 g hg;rcases k1 with k1 | k1
  ·exact ⟨k1,k2⟩
  ·exact k1.elim
 intro e a w' hq;cases e with
 | normal=>obtain ⟨h1,v,h2,h3⟩:=hq;exact ⟨h1,v,h2,mono _ _ h3⟩
 | ret=>obtain ⟨h1,v,h2,h3⟩:=hq;exact ⟨h1,v,h2,mono _ _ h3⟩
 | panic ch=>obtain ⟨h1,h2⟩:=hq;exact ⟨h1,mono _ _ h2⟩
 | outgrown=>exact mono _ _ hq
 | exit id=>exact hq
 | goto l=>exact hq
theorem Zsd {P:Program} {w0:World} {H0:Frag} {f:Nat} {fn:Func} {body:EC} {rs:List ERes} {np nt:Nat} {k:List It} {S:St} {T n j:Nat} {rows:List (List AV)} (ok:FnOK P f fn body rs np nt)
 (h:Zs1 S rs=some (.osl j)) (hj:Zp S.ss j=some ⟨T,n,rows⟩):V (Ctx.of P w0 H0) fn (fun x _ ss=>∃j,x = .osl j∧Zp ss j=some ⟨T,n,rows⟩) (.code .ret::k) S:=Zx6 ok.r h ⟨j,rfl,hj⟩
theorem Zqd.sealed {P:Program} {f:Nat} {args:List AV} {T n:Nat} {rows:List (List AV)} (h:Zqd P f args T n rows):Zz6 P f args (.sl n rows):=by
 intro H w vs hH h8 ha;refine (h H w vs hH h8 ha).mono ?_;rintro e w' ⟨v,H',vss,rfl,hb,h1,h2,h3,h4,h5,h6,h7⟩;refine ⟨v,fun k=>if v.ownBlock=some k then w'.heap[k]? else H' k,rfl,hb,?_,?_,?_⟩
 ·intro k o hk;dsimp only at hk;split at hk
  ·exact hk
  ·exact h1 k o hk
 ·intro k hk;dsimp only;rw [if_neg]
  ·exact h2 k hk
  ·intro e;have:=(h7 k e).1;omega
 ·rcases h6.2 with ⟨rfl,e2⟩ | ⟨g,cp,cur,rfl,_,e3,e4,_,e5,e6⟩
  ·refine ⟨none,0,by rw [e2],⟨by omega,fun _=>rfl⟩,fun hne=>absurd (List.length_eq_zero_iff.1 e2) hne⟩
  ·refine ⟨some ⟨g,0,none⟩,cp,rfl,⟨e4,fun h=>by simp at h⟩,fun _=>⟨⟨g,0,none⟩,vss,rfl,?_,rfl,h5,cur,T,(0,0),?_,?_⟩⟩
   ·refine Zo7 (H:=H') ?_ h4;intro k o hk;show (if (Value.slice (some ⟨g,0,none⟩) rows.length cp).ownBlock=some k then w'.heap[k]? else H' k)=some o;split
    ·rename_i e;simp [Value.ownBlock] at e;subst e;rw [(h7 g rfl).2] at hk;simp at hk
    ·exact hk
   ·simp [Z2,Value.ownBlock];exact e3
   ·intro t v ht;rw [←e6] at ht;simp only [Nat.zero_add];rw [List.getElem?_take] at ht;split at ht
    ·simpa using ht
    ·simp at ht
theorem Ztd {f:Nat} {xs:List X} {args:List AV} {T n:Nat} {rows:List (List AV)} (J:Zqd c.P f args T n rows)
  (ha:AV.le.leL (Z71 S xs) args) (hp:puL args=true):Z77 c S (.call f xs) (.osl (Zw S.ss)) ⟨S.tm,S.bs,S.ss++[some ⟨T,n,rows⟩]⟩:=by
 intro ro ho M a w hT next Q hn
 obtain ⟨dst,op,ty,pos,af,gd⟩:=ro;dsimp only at ho;obtain ⟨cargs,argTypes,rfl,hd,rfl⟩:=Zb7 ho;have hm:=Zu2 _ _ (Zi6 _ _ _ ha (Zp5 hT cargs.toList)) hp;have hc:=J M.H w _ hT.st.hle hT.st.pin.gl hm;have h9:(execOp a.eval ⟨dst,.call ⟨.value (.func f),cargs,argTypes⟩,ty,pos,af,gd⟩).run c.P w = .ok (.enter f (cargs.map a.eval)) w:=by have he:a.eval (.func f) = .func (.func f) #[] #[]:=rfl;generalize a.eval=ρ at *;simp [execOp,resolve,Deferred.ofValue,invoke,he,Za7 hd]
 unfold Oper.wp;rw [h9];show Calls c.P f (cargs.map a.eval) w _;have e1:(cargs.toList.map a.eval).toArray=cargs.map a.eval:=by apply Array.ext';simp
 rw [←e1];refine hc.mono ?_;rintro e w' ⟨v,H',vss,rfl,hb,h1,h2,h3,h4,h5,h6,h7⟩;obtain ⟨hS,hle⟩:=hT.st.sealed hb h1 h2;have hN:=hS.name ⟨T,n,rows⟩ v vss h3 (Zp2 (Zk2 _) _ _ _ h4) h5 h6 (fun g hg=>⟨.inl (Nat.le_trans hT.st.size (h7 g hg).1),(h7 g hg).2⟩)
  (fun i B hi e=>by have h8:w.heap.size≤M.ρ i:=(h7 _ e).1;have:=hT.st.blk_lt hi;omega)
  (fun j N g hj e1 e2=>by have h8:=(h7 _ e1).1;have:=hT.st.slc_lt hj e2;omega)
 refine hn _ w' v (hle.trans (Mem.le_addS _ v)) hN ?_;rw [Z12,←hT.st.ns];exact ⟨Nat.lt_succ_self _,by simp [Mem.addS]⟩
theorem Zud {d:Option Nat} {g:Option (Nat×Bool)} {f:Nat} {xs:List X} {l:List EOp} {args:List AV} {T n:Nat} {rows:List (List AV)} (hg:gm S g) (J:Zqd c.P f args T n rows)
  (ha:AV.le.leL (Z71 S xs) args:=by first | exact Zrb _ | simp [go_sem]) (hp:puL args=true:=by first | rfl | simp [go_sem]) (h:V c fn K (.ops l::k) ((⟨S.tm,S.bs,S.ss++[some ⟨T,n,rows⟩]⟩:St).put d (.osl (Zw S.ss)))):V c fn K (.ops (⟨d,g,.call f xs⟩::l)::k) S:=
 Z87 hg (Ztd J ha hp) rfl h
theorem Zvd {all:Array Oper} {ops:List EOp} {af:List (List Nat)} {Φ:St→Prop} {m:Nat} {ld:List Bool} (h6:all.toList.mapM (Ze c.P all)=some ops) {i f:Nat} {xs:List X} {args:List AV} {T n:Nat} {rows:List (List AV)} (J:(Zy1 ops i).o = .call f xs) (hg:gm S (Zy1 ops i).g) (U:Zqd c.P f args T n rows)
  (ha:AV.le.leL (Z71 S xs) args:=by first | exact Zrb _ | simp [go_sem]) (hp:puL args=true:=by first | rfl | simp [go_sem]) (h:G c all ops af Φ m (Zu1 ld i) ((⟨S.tm,S.bs,S.ss++[some ⟨T,n,rows⟩]⟩:St).put (Zy1 ops i).d (.osl (Zw S.ss)))):GO c all ops af Φ m ld S i:=
 Zqa (S1:=⟨S.tm,S.bs,S.ss++[some ⟨T,n,rows⟩]⟩) h6 hg (by rw [J];exact Ztd U ha hp) rfl (by rw [J];exact fun _ _ _ _ h _ _=>h) h
end
end NX
end Go.Proofs.YtgamgemlekpepaaGreat
