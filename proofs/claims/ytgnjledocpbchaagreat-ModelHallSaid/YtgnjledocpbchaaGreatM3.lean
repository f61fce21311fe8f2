/-
  The symbolic machine: slices of slices, tests for nil, ways that part inside a drawn region, fresh results. No statement of the seat is proved here.
-/
import Derived.Laws.Cover3
import Derived.Laws.OwnMore
import Derived.Lib.AppendZeros
import Derived.ProofKit
import Derived.OpenShut
import Derived.Carry
import Derived.Laws.CopyRow
import Derived.Laws.IdiomCopy
import Derived.Test.YtgnjledocpbchaaGreatM2
namespace Go.Proofs.YtgnjledocpbchaaGreat
namespace NX
open Go Go.RowKit
structure Fine (S S':St):Prop where
 bs:S'.bs=S.bs
 ss:S'.ss=S.ss
 len:S'.tm.length=S.tm.length
 is:∀M t v,(AM S.tm t).is M v→(AM S'.tm t).is M v
 lg:∀t,GG S'.tm t=GG S.tm t
 pt:∀t j off,AM S'.tm t = .ptr j off→AM S.tm t = .ptr j off
theorem Fine.relT {S S':St} (h:Fine S S') {c:Ctx} {M:Mem} {a:Act} {w:World} (E:RelT c M S a w):RelT c M S' a w:=⟨by rw [h.len];exact E.len,fun t=>h.is M t _ (E.tm t),E.df,by rw [h.bs,h.ss];exact E.st⟩
theorem Fine.put {S S':St} (h:Fine S S') (bs ss) (d:Option Nat) (v:AV):Fine ((⟨S.tm,bs,ss⟩:St).put d v) ((⟨S'.tm,bs,ss⟩:St).put d v):=by
 cases d with
 | none=>exact ⟨rfl,rfl,h.len,h.is,h.lg,h.pt⟩
 | some d=>
   refine ⟨rfl,rfl,by simp only [St.put,Ig];exact h.len,fun M t x hx=>?_,fun t=>?_,fun t j off=>?_⟩
   ·simp only [St.put,Fc,h.len] at hx ⊢;split<;>rename_i e
    ·rw [if_pos e] at hx;exact hx
    ·rw [if_neg e] at hx;exact h.is M t x hx
   ·simp only [St.put,GG,Fc,h.len];split
    ·rfl
    ·exact h.lg t
   ·simp only [St.put,Fc,h.len];split
    ·exact id
    ·exact h.pt t j off
theorem Fine.gm {S S':St} (h:Fine S S') (g:Option (Nat×Bool)):NX.gm S' g=NX.gm S g∧Ej S' g=Ej S g:=by
 cases g with
 | none=>exact ⟨rfl,rfl⟩
 | some tf=>obtain ⟨t,f⟩:=tf;simp only [NX.gm,Ej,h.lg t,and_self]
theorem YN {c:Ctx} {all:Array Oper} {ops:List EOp} {af:List (List Nat)} {Φ:St→Prop} (E:∀S S',Fine S S'→Φ S'→Φ S):∀(m:Nat) (ld:List Bool) (S S':St),Fine S S'→G c all ops af Φ m ld S'→G c all ops af Φ m ld S
 | 0,_,S,S',hf,h=>⟨h.1,E S S' hf h.2⟩
 | m+1,ld,S,S',hf,h=>by
   refine ⟨fun h0=>E S S' hf (h.1 h0),fun i hi=>?_⟩;rcases h.2 i hi with ⟨h1,h2⟩ | ⟨h1,v,S1,h2,h3,h4,h5⟩
   ·left;refine ⟨by rw [←(hf.gm _).2];exact h1,YN E m _ _ _ ?_ h2⟩;have:=hf.put S.bs S.ss (Af ops i).d .un;rw [show (⟨S'.tm,S.bs,S.ss⟩:St)=S' from by rw [←hf.bs,←hf.ss]] at this;exact this
   ·right;refine ⟨by rw [←(hf.gm _).1];exact h1,v,⟨S.tm,S1.bs,S1.ss⟩,fun ro h6 M a w hT next Q hn=>h2 ro h6 M a w (hf.relT hT) next Q hn,rfl,?_,YN E m _ _ _ ?_ h5⟩
    ·refine h4.imp (fun h4=>?_) id;intro j off n l k1 k2 k3;have:=h4 j off n l (by rw [Lw hf.bs];exact k1) k2 (fun n a x j' off' ho hx=>k3 n a x j' off' ho (by
      cases a with
      | t t=>exact hf.pt t j' off' hx
      | c _=>exact hx
      | bad=>exact hx))
     rw [Lw (S:=S1) (S':=⟨S.tm,S1.bs,S1.ss⟩) rfl];exact this
    ·have:=hf.put S1.bs S1.ss (Af ops i).d v;rw [←h3] at this;exact this
section
variable {c:Ctx} {M:Mem} {S S':St} {a:Act} {w:World} {fn:Func} {K:AV→List (Option Blk)→List (Option Sl)→Prop} {k:List It} {β:Type}
theorem n7 (hf:Fine S S') (h:V c fn K k S'):V c fn K k S:=fun rk M a w hc hT=>h rk M a w hc (hf.relT hT)
def dX (e:Bool):AV:=match e with | true=>.tt | false=>.ff
theorem qw {t:Nat} {e:Bool} (ht:AM S.tm t = .bv e):Fine S ⟨BC S.tm t (dX e),S.bs,S.ss⟩:=by
 refine ⟨rfl,rfl,Ig _ _ _,fun M u v hv=>?_,fun u=>?_,fun u j off=>?_⟩
 ·simp only [Fc];split
  ·rename_i h;obtain ⟨rfl,_⟩:=h;rw [ht] at hv;cases e<;>exact hv
  ·exact hv
 ·simp only [GG,Fc];split
  ·rename_i h;obtain ⟨rfl,_⟩:=h;rw [ht];cases e<;>rfl
  ·rfl
 ·simp only [Fc];split
  ·cases e<;>simp [dX]
  ·exact id
theorem BW {all:Array Oper} {ops:List EOp} {af:List (List Nat)} {m:Nat} {ld:List Bool} (t:Nat) {e:Bool} {A B:Option β} {r:β} (h:A0 e A B=some r) (ht:AM S.tm t = .bv e)
  (h1:e=true→A=some r→G c all ops af (fun S'=>V c fn K k S') m ld ⟨BC S.tm t .tt,S.bs,S.ss⟩) (h2:e=false→B=some r→G c all ops af (fun S'=>V c fn K k S') m ld ⟨BC S.tm t .ff,S.bs,S.ss⟩):
  G c all ops af (fun S'=>V c fn K k S') m ld S:=by
 refine YN (fun S S' hf h=>n7 hf h) m ld S _ (qw ht) ?_;cases e with
 | true=>exact h1 rfl h
 | false=>exact h2 rfl h
theorem Hd {P:Program} {op:Op} {n:Nat} {x:X} {lo hi:Option X} (ho:cO P op = .slice n x lo hi):
  ∃T y l h e,op = .slice T y l h none∧P.underlying T=some (.slice e)∧Cj P e=some n∧cX y=x∧l.map cX=lo∧h.map cX=hi:=by
 cases op
 case slice T y l h mx=>
  simp only [cO] at ho;split at ho
  ·rename_i e hu;split at ho
   ·rename_i n' hn;simp only [EO.slice.injEq] at ho;obtain ⟨rfl,rfl,rfl,rfl⟩:=ho;exact ⟨T,y,l,h,e,rfl,hu,hn,rfl,rfl,rfl⟩
   ·simp at ho
  ·split at ho<;>simp at ho
  ·simp at ho
  ·simp at ho
 all_goals (simp only [cO] at ho;(repeat' (split at ho))<;>simp at ho)
def Bb (S:St) (x:Option X) (z:Int):Option Int:=
 match x with
 | none=>some z
 | some x=>match S.x x with
   | .iv n=>some n
   | _=>none
attribute [go_sem] Bb
theorem LD {P:Program} {w:World} {T e n:Nat} (hu:P.underlying T=some (.slice e)) (hs:Cj P e=some n) {x:Operand} {l h:Option Operand} {ρ:Operand→Value} {ad:Option Addr} {len cp:Nat} {lo hi:Int}
  (hx:ρ x = .slice ad len cp) (h6:len≤cp) (hl:match l with | none=>lo=0 | some o=>ρ o = .int .i64 lo) (hh:match h with | none=>hi=len | some o=>ρ o = .int .i64 hi) (h0:0≤lo) (h1:lo≤hi) (h2:hi≤len)
  (d:Option Tmp) (ty:TypeId) (pos:String) (af:Array Edge) (E:Option (Nat×Bool)):
  (execOp ρ ⟨d,.slice T x l h none,ty,pos,af,E⟩).run P w = .ok (.value (.slice (if cp=lo.toNat then ad else ad.map (·.add (lo.toNat*n))) (hi.toNat-lo.toNat) (cp-lo.toNat))) w:=by
 have hc:hi≤cp:=by omega
 have Ap:(Instr.sliceBounds true len cp (l.map ρ) (h.map ρ) none).run P w = .ok (lo.toNat,hi.toNat,cp) w:=by
  cases l<;>cases h<;>simp only at hl hh<;>simp only [Option.map,Instr.sliceBounds]
  ·subst hl;simp [hh]
  ·subst hl;simp [Instr.sliceBound,asIntOf,hh,hc,show 0≤hi by omega]
  ·subst hh;simp [Instr.sliceBound,asIntOf,hl,h0,h1]
  ·simp [Instr.sliceBound,asIntOf,hl,hh,h0,h1,hc,show 0≤hi by omega,Int.toNat_of_nonneg (show 0≤hi by omega)]
 simp [execOp,Instr.sliceAt,Instr.slice,hx,run_underlying hu,Ap,FN hs]
theorem G1 {M:Mem} {n:Nat} {rows:List (List AV)} {vss:List (List Value)} (h:AV.isLL M n rows vss) (a b:Nat):AV.isLL M n ((rows.take b).drop a) ((vss.take b).drop a):=by
 have ht:∀(rows:List (List AV)) (vss:List (List Value)) (b:Nat),AV.isLL M n rows vss→AV.isLL M n (rows.take b) (vss.take b):=by
  intro rows;induction rows with
  | nil=>intro vss b h;simp [AV.isLL] at h;subst h;simp [AV.isLL]
  | cons r rows ih=>
    rintro vss b ⟨v,q,rfl,h1,h2,h3⟩;cases b with
    | zero=>simp [AV.isLL]
    | succ b=>exact ⟨v,q.take b,by simp,h1,h2,ih q b h3⟩
 have hd:∀(rows:List (List AV)) (vss:List (List Value)) (b:Nat),AV.isLL M n rows vss→AV.isLL M n (rows.drop b) (vss.drop b):=by
  intro rows;induction rows with
  | nil=>intro vss b h;simp [AV.isLL] at h;subst h;simp [AV.isLL]
  | cons r rows ih=>
    rintro vss b ⟨v,q,rfl,h1,h2,h3⟩;cases b with
    | zero=>exact ⟨v,q,rfl,h1,h2,h3⟩
    | succ b=>simpa using ih q b h3
 exact hd _ _ a (ht _ _ b h)
theorem fS {M:Mem} {n:Nat}:∀ {rows:List (List AV)} {vss:List (List Value)},AV.isLL M n rows vss→vss.length=rows.length∧∀v∈vss,v.length=n
 | [],_,h=>by simp [AV.isLL] at h;subst h;simp
 | _::rows,_,⟨v,q,h0,h1,h2,h3⟩=>by subst h0;obtain ⟨g1,g2⟩:=fS h3;exact ⟨by simp [g1],fun x hx=>by rcases List.mem_cons.1 hx with rfl | hx;exact h1;exact g2 x hx⟩
theorem lD {M:Mem} {n:Nat} {rows:List (List AV)} {ad:Option Addr} {cp:Nat} (h:AV.is M (.sl n rows) (.slice ad rows.length cp)) (lo hi:Nat) (h1:lo≤hi) (h2:hi≤rows.length):
  AV.is M (.sl n ((rows.take hi).drop lo)) (.slice (if cp=lo then ad else ad.map (·.add (lo*n))) (hi-lo) (cp-lo)):=by
 obtain ⟨a',c',he,⟨hB,hn⟩,hr⟩:=h;simp only [Value.slice.injEq] at he;obtain ⟨rfl,_,rfl⟩:=he;have h6:((rows.take hi).drop lo).length=hi-lo:=by simp;omega
 refine ⟨if cp=lo then ad else ad.map (·.add (lo*n)),cp-lo,by rw [h6],⟨by rw [h6];omega,fun e=>?_⟩,fun hne=>?_⟩
 ·split at e
  ·rename_i hC;omega
  ·have:ad=none:=by cases ad<;>simp_all
   have:=hn this;omega
 ·have hlt:lo<hi:=by
   rcases Nat.lt_or_ge lo hi with h | h
   ·exact h
   ·exfalso;apply hne;apply List.length_eq_zero_iff.1;rw [h6];omega
  obtain ⟨a,vss,rfl,g1,g2,g3,cs,T,fr,g4,g5⟩:=hr (by intro e;subst e;simp at h2;omega);obtain ⟨l1,l2⟩:=fS g1;have h9:=G1 g1 lo hi;refine ⟨a.add (lo*n),(vss.take hi).drop lo,by rw [if_neg Om];rfl,h9,?_⟩;have hw:a.add (lo*n)=⟨a.block,a.off+lo*n,none⟩:=by obtain ⟨b,o,sp⟩:=a;dsimp only at g2;subst g2;exact Addr.add_lit _ _ _
  rw [hw];have h8:∃t,vss.flatten=(vss.take lo).flatten++((vss.take hi).drop lo).flatten++t:=by
   refine ⟨(vss.drop hi).flatten,?_⟩;rw [←List.flatten_append,←List.flatten_append];congr 1;have:vss.take lo++(vss.take hi).drop lo=vss.take hi:=by have:=List.take_append_drop lo (vss.take hi);rw [List.take_take,Nat.min_eq_left h1] at this;exact this
   rw [this,List.take_append_drop]
  obtain ⟨t,h8⟩:=h8;have hA:(vss.take lo).flatten.length=lo*n:=by have:=E1 (G1 g1 0 lo);simp only [List.drop_zero] at this;rw [this,List.length_take,Nat.min_eq_left Om]
  refine ⟨rfl,fun v hv=>g3 v ?_,cs,T,fr,g4,fun k v hk=>?_⟩
  ·rw [h8];exact List.mem_append_left _ (List.mem_append_right _ hv)
  ·have:=g5 (lo*n+k) v (by rw [h8,List.append_assoc,List.getElem?_append_right Om,hA,show lo*n+k-lo*n=k by omega];rw [List.getElem?_append_left (List.getElem?_eq_some_iff.1 hk).1];exact hk);dsimp only;rw [show a.off+lo*n+k=a.off+(lo*n+k) by omega];exact this
theorem lj {n m:Nat} {x:X} {lo hi:Option X} {rows:List (List AV)} {l h:Int} (hx:S.x x = .sl m rows) (hw:m=n) (hl:Bb S lo 0=some l) (hh:Bb S hi rows.length=some h) (h0:0≤l) (h1:l≤h) (h2:h≤rows.length):
  B3 c S (.slice n x lo hi) (.sl m ((rows.take h.toNat).drop l.toNat)) S:=by
 intro ro h8 M a w hT next Q hn
 obtain ⟨dst,op,ty,pos,af,gd⟩:=ro;dsimp only at h8;subst hw;obtain ⟨T,y,lo',hi',e,rfl,hu,hs,rfl,rfl,rfl⟩:=Hd h8;have hv:=Au hT y;rw [hx] at hv;have hv':=hv;obtain ⟨ad,cp,g1,⟨g2,g2'⟩,g3⟩:=hv;rw [g1] at hv';have h9:=LD (P:=c.P) (w:=w) hu hs (l:=lo') (h:=hi') (lo:=l) (hi:=h) g1 g2 (by
  cases lo' with
  | none=>simp [Bb] at hl;exact hl.symm
  | some o=>have:=Au hT o;simp only [Option.map,Bb] at hl;split at hl<;>simp at hl;rename_i h6;rw [h6] at this;subst hl;exact this) (by
  cases hi' with
  | none=>simp [Bb] at hh;exact hh.symm
  | some o=>have:=Au hT o;simp only [Option.map,Bb] at hh;split at hh<;>simp at hh;rename_i h6;rw [h6] at this;subst hh;exact this) h0 h1 h2 dst ty pos af gd
 unfold Oper.wp;rw [h9];refine hn M w _ (.refl M) hT.st ?_;exact lD hv' l.toNat h.toNat Om Om
theorem lO {α:Type} {l v:List α} {lo hi:Int} (h:D3 l lo hi=some v):v=(l.take hi.toNat).drop lo.toNat∧0≤lo∧lo≤hi∧hi≤l.length:=by
 unfold D3 at h;split at h
 ·rename_i h1;simp at h;exact ⟨h.symm,h1⟩
 ·simp at h
theorem nB {α:Type} {l' v:List α} {d:Option Nat} {g:Option (Nat×Bool)} {J:List EOp} {n m:Nat} {x:X} {lo hi:Option X} {l h:Int} (f:α→List AV) (hv:D3 l' l h=some v) (hg:gm S g) (hx:S.x x = .sl m (l'.map f)) (h6:m=n) (hl:Bb S lo 0=some l) (hh:Bb S hi ((l'.map f).length)=some h)
  (E:V c fn K (.ops J::k) (S.put d (.sl m (v.map f)))):V c fn K (.ops (⟨d,g,.slice n x lo hi⟩::J)::k) S:=by
 obtain ⟨h0,h1,h2,h3⟩:=lO hv;subst h0;rw [List.map_drop,List.map_take] at E;exact Ba hg (lj hx h6 hl hh h1 h2 (by simpa using h3)) rfl E
theorem dk {all:Array Oper} {ops:List EOp} {af:List (List Nat)} {Φ:St→Prop} {m':Nat} {ld:List Bool} {nap:List (List Nat)} (h8:all.toList.mapM (AO c.P all)=some ops) (h9:Region.noSelect all=true) (hB:af=Bu all) (hA:nap=D7 all) (i:Nat) {α:Type} {l' v:List α} {n m:Nat} {x:X} {lo hi:Option X} {l h:Int} (f:α→List AV) (hv:D3 l' l h=some v)
  (E:EN i (Bx ld af 0)=true) (ho:(Af ops i).o = .slice n x lo hi) (hg:gm S (Af ops i).g) (hx:S.x x = .sl m (l'.map f)) (hC:m=n) (hl:Bb S lo 0=some l) (hh:Bb S hi ((l'.map f).length)=some h)
  (hf:EJ ld af i (Cv nap i)=true) (J:G c all ops af Φ m' (Ay ld i) (S.put (Af ops i).d (.sl m (v.map f)))):G c all ops af Φ (m'+1) ld S:=by
 obtain ⟨h0,h1,h2,h3⟩:=lO hv;subst h0;rw [List.map_drop,List.map_take] at J;subst hB;subst hA;refine LM h8 h9 i (q:=True) trivial m' ld S ((Lm _ _).1 E) (.inr (.inr (.inr ⟨hg,by rw [ho];rfl,x::(lo.toList++hi.toList),fun P op h6 y hy=>?_,fun S' hS' c'=>?_⟩))) hf (fun hl=>by rw [ho] at hl;simp [Fa] at hl) J
 ·rw [ho] at h6;obtain ⟨T,y1,lo',E,e,rfl,hu,hs,rfl,rfl,rfl⟩:=Hd h6;rcases List.mem_cons.1 hy with rfl | hy
  ·exact ⟨y1,by simp [Op.operands],rfl⟩
  ·rcases List.mem_append.1 hy with hy | hy
   ·cases lo' with
    | none=>simp at hy
    | some o=>simp at hy;exact ⟨o,by simp [Op.operands],hy.symm⟩
   ·cases E with
    | none=>simp at hy
    | some o=>simp at hy;exact ⟨o,by simp [Op.operands],hy.symm⟩
 ·have ex:S'.x x = .sl m (l'.map f):=by rw [hS' x (by simp)];exact hx
  have el:Bb S' lo 0=some l:=by
   cases lo with
   | none=>exact hl
   | some y=>simp only [Bb] at hl ⊢;rw [hS' y (by simp)];exact hl
  have eh:Bb S' hi ((l'.map f).length)=some h:=by
   cases hi with
   | none=>exact hh
   | some y=>simp only [Bb] at hh ⊢;rw [hS' y (by simp)];exact hh
  rw [ho];refine ⟨lj ex hC el eh h1 h2 (by simpa using h3),fun M a w op h6 hT=>?_⟩;obtain ⟨T,y1,lo',E,e,rfl,hu,hs,rfl,rfl,rfl⟩:=Hd h6;have hw:=Au hT y1;rw [ex] at hw;obtain ⟨ad,cp,g1,g2,g3⟩:=hw;exact ⟨_,lD (ad:=ad) (cp:=cp) ⟨ad,cp,rfl,g2,g3⟩ l.toNat h.toNat Om (by rw [List.length_map];omega)⟩
def XK (ng b:Bool):Bool:=match ng with | true=>!b | false=>b
def Tr (ng:Bool):BinOp:=match ng with | true=>.neq | false=>.eql
theorem er {P:Program} {op:Op} {ng:Bool} {x:X} (ho:cO P op = .isnil ng x):
  ∃T y T2 e,op = .binOp (Tr ng) T y (.const (.slice none 0 0)) T2∧P.underlying T=some (.slice e)∧cX y=x:=by
 cases op
 case binOp o T y z T2=>
  simp only [cO] at ho;split at ho
  ·split at ho<;>simp at ho
  ·split at ho
   ·split at ho<;>simp at ho
   ·simp at ho
  ·simp at ho
  ·split at ho<;>simp at ho
  ·rename_i e hu;split at ho
   ·split at ho<;>simp at ho
    ·obtain ⟨rfl,rfl⟩:=ho;exact ⟨T,y,T2,e,rfl,hu,rfl⟩
    ·obtain ⟨rfl,rfl⟩:=ho;exact ⟨T,y,T2,e,rfl,hu,rfl⟩
   ·simp at ho
  ·simp at ho
  ·simp at ho
 all_goals (simp only [cO] at ho;(repeat' (split at ho))<;>simp at ho)
theorem Kc {d:Option Nat} {g:Option (Nat×Bool)} {ng:Bool} {x:X} {m:Nat} {rows:List (List AV)} {l:List EOp} (hg:gm S g) (hx:S.x x = .sl m rows)
  (h1:rows=[]→V c fn K (.ops l::k) (S.put d (match ng with | true=>.ff | false=>.tt))) (h2:V c fn K (.ops l::k) (S.put d (match ng with | true=>.tt | false=>.ff))):V c fn K (.ops (⟨d,g,.isnil ng x⟩::l)::k) S:=by
 refine YW hg fun ro hd h6 M a w hT next Q hn=>?_
 obtain ⟨dst,op,ty,pos,af,gd⟩:=ro;dsimp only at h6 hd;subst hd;obtain ⟨T,y,T2,e,rfl,hu,rfl⟩:=er h6;have hv:=Au hT y;rw [hx] at hv;obtain ⟨ad,cp,g1,⟨g2,g2'⟩,g3⟩:=hv;have hr:(Op.equal T (.slice ad rows.length cp) (.slice none 0 0)).run c.P w = .ok ad.isNone w:=run_equal_slice_nil w T e ad rows.length cp hu;have hw:∀o:BinOp,(eqGuard o T y (.const (.slice none 0 0)) (.slice ad rows.length cp) (.slice none 0 0)).run c.P w = .ok () w:=fun o=>by unfold eqGuard;split<;>rfl
 have h9:(execOp a.eval ⟨dst,.binOp (Tr ng) T y (.const (.slice none 0 0)) T2,ty,pos,af,gd⟩).run c.P w = .ok (.value (.bool (XK ng ad.isNone))) w:=by have he:a.eval (.const (.slice none 0 0)) = .slice none 0 0:=rfl;generalize a.eval=ρ at *;cases ng<;>simp [Tr,XK,execOp,g1,he,hw,binOp,hr]
 unfold Oper.wp;rw [h9];cases hA:ad with
 | none=>
   have hB:rows=[]:=by have:=g2' hA;exact List.length_eq_zero_iff.1 Om
   have h8:=h1 hB;cases ng
   ·exact hn M w .tt (.bool true) S.bs S.ss (.refl M) hT.st rfl h8
   ·exact hn M w .ff (.bool false) S.bs S.ss (.refl M) hT.st rfl h8
 | some b=>
   cases ng
   ·exact hn M w .ff (.bool false) S.bs S.ss (.refl M) hT.st rfl h2
   ·exact hn M w .tt (.bool true) S.bs S.ss (.refl M) hT.st rfl h2
def Ka (P:Program) (f:Nat) (args:List AV) (T n:Nat) (rows:List (List AV)):Prop:=
 ∀(H:Frag) (w:World) (vs:List Value),(∀k o,H k=some o→w.heap[k]?=some o)→Kb P H→AV.isL (DL H) args vs→
  Calls P f vs.toArray w fun e w'=>∃v H' vss,e = .returned v∧Below w.heap.size w w'∧(∀k o,H' k=some o→w'.heap[k]?=some o)∧
   (∀k,k<w.heap.size→H' k=H k)∧0<n∧AV.isLL (DL H') n rows vss∧(∀v∈vss.flatten,v.oneCell'=true)∧w'.ownsRow 0 T n v rows.length vss.flatten∧∀g,v.ownBlock=some g→w.heap.size≤g∧H' g=none
theorem EX {P:Program} {f:Nat} {fn:Func} {body:EC} {rs:List ERes} {np nt:Nat} (hf:FnOK P f fn body rs np nt) {args:List AV} {T n:Nat} {rows:List (List AV)} (hn:args.length=np)
  (h:∀w0 H0,V (Ctx.of P w0 H0) fn (fun x _ ss=>∃j,x = .osl j∧Ab ss j=some ⟨T,n,rows⟩) [.code body] (St.init args nt)) (h6:BU rows=true:=by first | rfl | simp [go_sem]):Ka P f args T n rows:=by
 intro H w vs hH h8 ha;obtain ⟨x,hb,hx⟩:=hf.b;have hl:=Dl ha;refine calls_of_wp hf.h hb ?_;have hT:=fN (P:=P) (nt:=nt) hH h8 ha;have e1:fn.ntmps-vs.toArray.size=nt:=by rw [hf.t];simp;omega
 rw [e1];refine wp_mono (h w H [.code x] _ _ w ⟨_,_,rfl,hx,rfl⟩ hT) ?_;have mono:∀e w',RK (Ctx.of P w H) (fun x _ ss=>∃j,x = .osl j∧Ab ss j=some ⟨T,n,rows⟩) e w'→∃v H' vss,e = .returned v∧Below w.heap.size w w'∧(∀k o,H' k=some o→w'.heap[k]?=some o)∧
   (∀k,k<w.heap.size→H' k=H k)∧0<n∧AV.isLL (DL H') n rows vss∧(∀v∈vss.flatten,v.oneCell'=true)∧w'.ownsRow 0 T n v rows.length vss.flatten∧∀g,v.ownBlock=some g→w.heap.size≤g∧H' g=none:=by
  rintro e w' ⟨v,M,bs,ss,y,rfl,hS,hv,j,rfl,hj⟩;obtain ⟨q0,vss,q1,q2,q3,q4⟩:=hS.slc j _ hj;have q1:AV.isLL M.pure n rows vss:=Yd _ _ q1 h6;have h9:v=M.σ j:=hv.2;subst h9;refine ⟨M.σ j,M.H,vss,rfl,⟨hS.os,hS.tape,hS.output,hS.size,fun k hk=>hS.block k hk (fun h=>h)⟩,hS.hle,fun k hk=>hS.hold k hk (fun h=>h),q0,q1,q2,q3,fun g hg=>?_⟩;obtain ⟨k1,k2⟩:=q4 g hg;rcases k1 with k1 | k1
  ·exact ⟨k1,k2⟩
  ·exact k1.elim
 intro e a w' hq;cases e with
 | normal=>obtain ⟨h1,v,h2,h3⟩:=hq;exact ⟨h1,v,h2,mono _ _ h3⟩
 | ret=>obtain ⟨h1,v,h2,h3⟩:=hq;exact ⟨h1,v,h2,mono _ _ h3⟩
 | panic ch=>obtain ⟨h1,h2⟩:=hq;exact ⟨h1,mono _ _ h2⟩
 | outgrown=>exact mono _ _ hq
 | exit id=>exact hq
 | goto l=>exact hq
theorem mJ {P:Program} {w0:World} {H0:Frag} {f:Nat} {fn:Func} {body:EC} {rs:List ERes} {np nt:Nat} {k:List It} {S:St} {T n j:Nat} {rows:List (List AV)} (ok:FnOK P f fn body rs np nt)
 (h:DM S rs=some (.osl j)) (hj:Ab S.ss j=some ⟨T,n,rows⟩):V (Ctx.of P w0 H0) fn (fun x _ ss=>∃j,x = .osl j∧Ab ss j=some ⟨T,n,rows⟩) (.code .ret::k) S:=YY ok.r h ⟨j,rfl,hj⟩
theorem Ka.sealed {P:Program} {f:Nat} {args:List AV} {T n:Nat} {rows:List (List AV)} (h:Ka P f args T n rows):C4 P f args (.sl n rows):=by
 intro H w vs hH h8 ha;refine (h H w vs hH h8 ha).mono ?_;rintro e w' ⟨v,H',vss,rfl,hb,h1,h2,h3,h4,h5,h6,h7⟩;refine ⟨v,fun k=>if v.ownBlock=some k then w'.heap[k]? else H' k,rfl,hb,?_,?_,?_⟩
 ·intro k o hk;dsimp only at hk;split at hk
  ·exact hk
  ·exact h1 k o hk
 ·intro k hk;dsimp only;rw [if_neg]
  ·exact h2 k hk
  ·intro e;have:=(h7 k e).1;omega
 ·rcases h6.2 with ⟨rfl,e2⟩ | ⟨g,cp,cur,rfl,_,e3,e4,_,e5,e6⟩
  ·refine ⟨none,0,by rw [e2],⟨Om,fun _=>rfl⟩,fun hne=>absurd (List.length_eq_zero_iff.1 e2) hne⟩
  ·refine ⟨some ⟨g,0,none⟩,cp,rfl,⟨e4,fun h=>by simp at h⟩,fun _=>⟨⟨g,0,none⟩,vss,rfl,?_,rfl,h5,cur,T,(0,0),?_,?_⟩⟩
   ·refine fT (H:=H') ?_ h4;intro k o hk;show (if (Value.slice (some ⟨g,0,none⟩) rows.length cp).ownBlock=some k then w'.heap[k]? else H' k)=some o;split
    ·rename_i e;simp [Value.ownBlock] at e;subst e;rw [(h7 g rfl).2] at hk;simp at hk
    ·exact hk
   ·simp [DL,Value.ownBlock];exact e3
   ·intro t v ht;rw [←e6] at ht;simp only [Nat.zero_add];rw [List.getElem?_take] at ht;split at ht
    ·simpa using ht
    ·simp at ht
theorem lf {f:Nat} {xs:List X} {args:List AV} {T n:Nat} {rows:List (List AV)} (hf:Ka c.P f args T n rows)
  (ha:AV.le.leL (B6 S xs) args) (hp:AB args=true):B3 c S (.call f xs) (.osl (Ah S.ss)) ⟨S.tm,S.bs,S.ss++[some ⟨T,n,rows⟩]⟩:=by
 intro ro ho M a w hT next Q hn
 obtain ⟨dst,op,ty,pos,af,gd⟩:=ro;dsimp only at ho;obtain ⟨cargs,argTypes,rfl,hw,rfl⟩:=LW ho;have hm:=Fp _ _ (Et _ _ _ ha (Ge hT cargs.toList)) hp;have hc:=hf M.H w _ hT.st.hle hT.st.pin.gl hm;have h9:(execOp a.eval ⟨dst,.call ⟨.value (.func f),cargs,argTypes⟩,ty,pos,af,gd⟩).run c.P w = .ok (.enter f (cargs.map a.eval)) w:=by have he:a.eval (.func f) = .func (.func f) #[] #[]:=rfl;generalize a.eval=ρ at *;simp [execOp,resolve,Deferred.ofValue,invoke,he,I2 hw]
 unfold Oper.wp;rw [h9];show Calls c.P f (cargs.map a.eval) w _;have e1:(cargs.toList.map a.eval).toArray=cargs.map a.eval:=by apply Array.ext';simp
 rw [←e1];refine hc.mono ?_;rintro e w' ⟨v,H',vss,rfl,hb,h1,h2,h3,h4,h5,h6,h7⟩;obtain ⟨hS,hle⟩:=hT.st.sealed hb h1 h2;have hN:=hS.name ⟨T,n,rows⟩ v vss h3 (F9 (OP _) _ _ _ h4) h5 h6 (fun g hg=>⟨.inl (Nat.le_trans hT.st.size (h7 g hg).1),(h7 g hg).2⟩)
  (fun i B hi e=>by have h8:w.heap.size≤M.ρ i:=(h7 _ e).1;have:=hT.st.blk_lt hi;omega)
  (fun j N g hj e1 e2=>by have h8:=(h7 _ e1).1;have:=hT.st.slc_lt hj e2;omega)
 refine hn _ w' v (hle.trans (Mem.le_addS _ v)) hN ?_;rw [Bl,←hT.st.ns];exact ⟨Nat.lt_succ_self _,by simp [Mem.addS]⟩
theorem F1 {d:Option Nat} {g:Option (Nat×Bool)} {f:Nat} {xs:List X} {l:List EOp} {args:List AV} {T n:Nat} {rows:List (List AV)} (hg:gm S g) (hf:Ka c.P f args T n rows)
  (ha:AV.le.leL (B6 S xs) args:=by first | exact AA _ | simp [go_sem]) (hp:AB args=true:=by first | rfl | simp [go_sem]) (h:V c fn K (.ops l::k) ((⟨S.tm,S.bs,S.ss++[some ⟨T,n,rows⟩]⟩:St).put d (.osl (Ah S.ss)))):V c fn K (.ops (⟨d,g,.call f xs⟩::l)::k) S:=
 Ba hg (lf hf ha hp) rfl h
theorem AW {all:Array Oper} {ops:List EOp} {af:List (List Nat)} {Φ:St→Prop} {m:Nat} {ld:List Bool} (h6:all.toList.mapM (AO c.P all)=some ops) {i f:Nat} {xs:List X} {args:List AV} {T n:Nat} {rows:List (List AV)} (ho:(Af ops i).o = .call f xs) (hg:gm S (Af ops i).g) (hf:Ka c.P f args T n rows)
  (ha:AV.le.leL (B6 S xs) args:=by first | exact AA _ | simp [go_sem]) (hp:AB args=true:=by first | rfl | simp [go_sem]) (h:G c all ops af Φ m (Ay ld i) ((⟨S.tm,S.bs,S.ss++[some ⟨T,n,rows⟩]⟩:St).put (Af ops i).d (.osl (Ah S.ss)))):GO c all ops af Φ m ld S i:=
 Bz (S1:=⟨S.tm,S.bs,S.ss++[some ⟨T,n,rows⟩]⟩) h6 hg (by rw [ho];exact lf hf ha hp) rfl (by rw [ho];exact fun _ _ _ _ h _ _=>h) h
end
end NX
end Go.Proofs.YtgnjledocpbchaaGreat
/-
  The symbolic machine: own blocks change their names; what is appended is sealed at once. No statement of the seat is proved here.
-/
namespace Go.Proofs.YtgnjledocpbchaaGreat
namespace NX
open Go Go.RowKit
def EU (p q i:Nat):Nat:=match i==p with
 | true=>q
 | false=>match i==q with
   | true=>p
   | false=>i
theorem P2 (p q i:Nat):EU p q i=if i=p then q else if i=q then p else i:=by
 unfold EU;cases h:i==p
 ·have h1:i≠p:=by simpa using h
  rw [if_neg h1];cases h2:i==q
  ·have h3:i≠q:=by simpa using h2
   rw [if_neg h3]
  ·have h3:i=q:=by simpa using h2
   rw [if_pos h3]
 ·have h1:i=p:=by simpa using h
  rw [if_pos h1]
theorem cP (p q i:Nat):EU p q (EU p q i)=i:=by
 simp only [P2];by_cases h1:i=p
 ·rw [if_pos h1];by_cases h2:q=p
  ·rw [if_pos h2,h1,h2]
  ·rw [if_neg h2,if_pos rfl,h1]
 ·rw [if_neg h1];by_cases h2:i=q
  ·rw [if_pos h2,if_pos rfl,h2]
  ·rw [if_neg h2,if_neg h1,if_neg h2]
theorem xf {p q i n:Nat} (hp:p<n) (hq:q<n) (hi:i<n):EU p q i<n:=by
 rw [P2];split
 ·exact hq
 ·split
  ·exact hp
  ·exact hi
mutual
def AV.swB (p q:Nat):AV→AV
 | .ptr i o=>.ptr (EU p q i) o
 | .agg l=>.agg (ET p q l)
 | .tup l=>.tup (ET p q l)
 | .clo f l=>.clo f (ET p q l)
 | .any=>.any
 | .un=>.un
 | .tt=>.tt
 | .ff=>.ff
 | .bv e=>.bv e
 | .iv n=>.iv n
 | .kv k n=>.kv k n
 | .sv x=>.sv x
 | .nl=>.nl
 | .nlp=>.nlp
 | .fn f=>.fn f
 | .osl i=>.osl i
 | .oel i a b=>.oel i a b
 | .ocs i a n b=>.ocs i a n b
 | .elt row o=>.elt row o
 | .sl n rows=>.sl n rows
def ET (p q:Nat):List AV→List AV
 | []=>[]
 | x::l=>x.swB p q::ET p q l
end
def St.swB (S:St) (p q:Nat):St:=⟨ET p q S.tm,Av (Av (Cc (ET p q) S.bs) p (Ab (Cc (ET p q) S.bs) q)) q (Ab (Cc (ET p q) S.bs) p),S.ss⟩
attribute [go_sem] AV.swB ET St.swB EU
theorem lQ (p q:Nat):∀l,(ET p q l).length=l.length
 | []=>rfl
 | _::l=>by simp [ET,lQ p q l]
theorem lP (p q:Nat):∀(l:List AV) (t:Nat),AM (ET p q l) t=(AM l t).swB p q
 | [],_=>by simp [ET,AM,AV.swB]
 | _::_,0=>rfl
 | _::l,t+1=>lP p q l t
section
variable {c:Ctx} {M:Mem} {S S':St} {a:Act} {w:World} {fn:Func} {K:AV→List (Option Blk)→List (Option Sl)→Prop} {k:List It}
mutual
theorem lR {M M':Mem} {p q:Nat} (hp:p<M.nb) (hq:q<M.nb) (hρ:∀i,M'.ρ i=M.ρ (EU p q i)) (hnb:M'.nb=M.nb) (hns:M'.ns=M.ns) (hσ:M'.σ=M.σ) (hH:M'.H=M.H):∀(x:AV) (v:Value),x.is M v→(x.swB p q).is M' v
 | .any,_,_=>trivial
 | .un,_,k | .tt,_,k | .ff,_,k | .bv _,_,k | .iv _,_,k | .kv _ _,_,k | .sv _,_,k | .nl,_,k | .nlp,_,k | .fn _,_,k=>k
 | .ptr j off,x,k=>⟨by rw [hnb];exact xf hp hq k.1,by rw [hρ,cP];exact k.2⟩
 | .osl j,x,k=>⟨by rw [hns];exact k.1,by rw [hσ];exact k.2⟩
 | .oel j a off,x,k=>⟨by rw [hns];exact k.1,by rw [hσ];exact k.2⟩
 | .ocs j a n off,x,k=>⟨by rw [hns];exact k.1,by rw [hσ];exact k.2⟩
 | .elt row off,x,⟨a,vs,h1,h2,h3⟩=>⟨a,vs,h1,by rw [show M'.pure=M.pure by simp [Mem.pure,hH]];exact h2,by rw [hH];exact h3⟩
 | .sl n rows,x,⟨a,c,h1,h2,h3⟩=>⟨a,c,h1,h2,by rw [show M'.pure=M.pure by simp [Mem.pure,hH],hH];exact h3⟩
 | .agg l,x,⟨vs,h1,h2⟩=>⟨vs,h1,TY hp hq hρ hnb hns hσ hH l vs h2⟩
 | .tup l,x,⟨vs,h1,h2⟩=>⟨vs,h1,TY hp hq hρ hnb hns hσ hH l vs h2⟩
 | .clo f l,x,⟨vs,h1,h2⟩=>⟨vs,h1,TY hp hq hρ hnb hns hσ hH l vs h2⟩
theorem TY {M M':Mem} {p q:Nat} (hp:p<M.nb) (hq:q<M.nb) (hρ:∀i,M'.ρ i=M.ρ (EU p q i)) (hnb:M'.nb=M.nb) (hns:M'.ns=M.ns) (hσ:M'.σ=M.σ) (hH:M'.H=M.H):∀(l:List AV) (vs:List Value),AV.isL M l vs→AV.isL M' (ET p q l) vs
 | [],_,k=>k
 | x::l,_,⟨v,r,h1,h2,h3⟩=>⟨v,r,h1,lR hp hq hρ hnb hns hσ hH x v h2,TY hp hq hρ hnb hns hσ hH l r h3⟩
end
theorem Df (p q:Nat) (hp:AF (p+1) (Ah S.bs)=true) (hq:AF (q+1) (Ah S.bs)=true) (h:V c fn K k (S.swB p q)) (h6:AF c.np p=true:=by rfl) (hqn:AF c.np q=true:=by rfl):V c fn K k S:=by
 intro rk M a w hc hT;rw [Da,Bl] at hp hq;have hS:=hT.st;have hp':p<M.nb:=by rw [hS.nb];exact hp
 have hq':q<M.nb:=by rw [hS.nb];exact hq
 let M':Mem:= {M with ρ:=fun i=>M.ρ (EU p q i)}
 have hx:=fun x v=>lR (M:=M) (M':=M') hp' hq' (fun _=>rfl) rfl rfl rfl rfl x v;have h8:=fun x v=>TY (M:=M) (M':=M') hp' hq' (fun _=>rfl) rfl rfl rfl rfl x v;have get:∀i B,Ab (S.swB p q).bs i=some B→∃C,Ab S.bs (EU p q i)=some C∧B=⟨C.T,ET p q C.cells⟩:=by
  intro i B hi;simp only [St.swB] at hi;rw [Dz] at hi;split at hi
  ·rename_i e;obtain ⟨rfl,_⟩:=e;have:EU p i i=p:=by rw [P2];by_cases h:i=p<;>simp [h]
   rw [this];exact Fi _ _ _ _ hi
  ·rename_i e;rw [Dz] at hi;split at hi
   ·rename_i e2;obtain ⟨rfl,_⟩:=e2;have:EU i q i=q:=by simp [P2]
    rw [this];exact Fi _ _ _ _ hi
   ·rename_i e2;have n1:i≠q:=fun h=>e ⟨h,by rw [Dg,IB];exact hq⟩;have n2:i≠p:=fun h=>e2 ⟨h,by rw [IB];exact hp⟩;have:EU p q i=i:=by rw [P2,if_neg n2,if_neg n1]
    rw [this];exact Fi _ _ _ _ hi
 refine h rk M' a w hc ⟨by simp only [St.swB,lQ];exact hT.len,fun t=>by simp only [St.swB,lP];exact hx _ _ (hT.tm t),hT.df,?_⟩;refine ⟨by simp only [St.swB,Dg,IB];exact hS.nb,hS.ns,hS.so,hS.os,hS.tape,hS.output,hS.size,hS.block,hS.hle,hS.hold,?_,hS.slc,?_,?_,hS.d3,⟨hS.pin.nb,fun j hj=>by rw [Da] at h6 hqn;show M.ρ (EU p q j)=_;rw [P2,if_neg Om,if_neg Om];exact hS.pin.ρ j hj,hS.pin.ns,hS.pin.σ,hS.pin.gl⟩⟩
 ·intro i B hi;obtain ⟨C,hC,rfl⟩:=get i B hi;obtain ⟨g1,g2,vs,g3,g4,g5⟩:=hS.blk _ C hC;exact ⟨g1,g2,vs,h8 _ _ g3,g4,g5⟩
 ·intro i j B C hi hj e;obtain ⟨B',hB,_⟩:=get i B hi;obtain ⟨C',hC,_⟩:=get j C hj;have:=hS.d1 _ _ B' C' hB hC e;rw [←cP p q i,this,cP]
 ·intro i j B L hi hj;obtain ⟨B',hB,_⟩:=get i B hi;exact hS.d2 _ j B' L hB hj
theorem wz {e n b j:Nat} {x y:X} {L:Sl} {rows:List (List AV)} (hx:S.x x = .osl j) (hj:Ab S.ss j=some L) (E:L.T=e) (hn:L.n=n) (hy:Ef S n (S.x y)=some rows)
  (hb:(L.rows.length+rows.length)*b≤140737488355328) (h8:L.rows.length+rows.length≤9223372036854775807) (h9:BU (L.rows++rows)=true):
  B3 c S (.app e n b x y) (.sl n (L.rows++rows)) ⟨S.tm,Cc (Cr (Ah S.ss) (.sl n (L.rows++rows))) S.bs,Av (Av S.ss j none++[some ⟨e,n,L.rows++rows⟩]) (Ah S.ss) none⟩:=by
 intro ro hw M a w hT' next Q hA
 have h6:Ab (Av S.ss j none++[some (⟨e,n,L.rows++rows⟩:Sl)]) (Ah S.ss)=some ⟨e,n,L.rows++rows⟩:=by rw [Lp,Dg,Bl,if_pos rfl]
 refine Yr hx hj E hn hy hb h8 ro hw M a w hT' next Q fun M' w' u h1 h2 h3=>?_
 obtain ⟨M2,k1,k2,k3⟩:=TR (S:=⟨[],S.bs,Av S.ss j none++[some ⟨e,n,L.rows++rows⟩]⟩) (a:=a) (Ah S.ss) h6 h9 ⟨by simp,fun t=>by cases t<;>trivial,hT'.df,h2⟩;refine hA M2 w' u (h1.trans k1) k2.st ?_;simp only [AV.is] at h3;rw [h3.2];exact k3
theorem rX {o:EO} (j:Nat) (r:AV) (ss:List (Option Sl)) (tm:List AV):keeps S ⟨tm,Cc (Cr j r) S.bs,ss⟩ o:=by
 intro i off m l h1 h2 _;simp only [CS] at h1 ⊢;rw [XN];split at h1
 ·rename_i B hB;rw [hB];have:=gG j r h1;rw [P1 j r l h2] at this;exact this
 ·simp at h1
theorem IQ {all:Array Oper} {ops:List EOp} {af:List (List Nat)} {Φ:St→Prop} {m:Nat} {ld:List Bool} {α:Type} {l' m' v:List α} {b:Nat} (f:α→List AV) (hv:AE b l' m'=some v) (h8:all.toList.mapM (AO c.P all)=some ops) {i e n j:Nat} {x y:X} (ho:(Af ops i).o = .app e n b x y) (hg:gm S (Af ops i).g)
  (hx:S.x x = .osl j) (hj:Ab S.ss j=some ⟨e,n,l'.map f⟩) (hy:Ef S n (S.x y)=some (m'.map f))
  (h:G c all ops af Φ m (Ay ld i) ((⟨S.tm,Cc (Cr (Ah S.ss) (.sl n (v.map f))) S.bs,Av (Av S.ss j none++[some ⟨e,n,v.map f⟩]) (Ah S.ss) none⟩:St).put (Af ops i).d (.sl n (v.map f)))) (h6:BU (v.map f)=true:=by first | rfl | simp [go_sem]):GO c all ops af Φ m ld S i:=by
 obtain ⟨h0,h1,h2⟩:=LP hv;subst h0;rw [List.map_append] at h h6;exact Bz (S1:=⟨S.tm,Cc (Cr (Ah S.ss) (.sl n (l'.map f++m'.map f))) S.bs,Av (Av S.ss j none++[some ⟨e,n,l'.map f++m'.map f⟩]) (Ah S.ss) none⟩) h8 hg
  (by rw [ho];exact wz hx hj rfl rfl hy (by simpa using h1) (by simpa using h2) h6) rfl (by rw [ho];exact rX _ _ _ _) h
end
theorem dj {c:Ctx} {all:Array Oper} {ops:List EOp} (h6:all.toList.mapM (AO c.P all)=some ops) (h8:Region.noSelect all=true) {Φ:St→Prop} (r:Nat):
  ∀(m:Nat) (ld:List Bool) (S:St) (p:Prop),(Ct ops (Bu all) (D7 all) m ld S p).2.2.2→
   G c all ops (Bu all) Φ ((Ct ops (Bu all) (D7 all) m ld S p).1+r) (Ct ops (Bu all) (D7 all) m ld S p).2.1 (Ct ops (Bu all) (D7 all) m ld S p).2.2.1→p∧G c all ops (Bu all) Φ (m+r) ld S
 | 0,ld,S,p,hp,h=>⟨hp,h⟩
 | m+1,ld,S,p,hp,h=>by
   simp only [Ct] at hp h;split at hp
   ·rename_i x hx;rw [hx] at h;obtain ⟨i,v,q⟩:=x;obtain ⟨h1,h2⟩:=dj h6 h8 r m _ _ _ hp h;obtain ⟨k1,k2,k3,k4⟩:=UG hx;refine ⟨h1.1,?_⟩;rw [show m+1+r=(m+r)+1 by omega];exact LM h6 h8 i h1.2 (m+r) ld S k1 k2 k3 k4 h2
   ·rename_i hx;rw [hx] at h;exact ⟨hp,h⟩
theorem dh {c:Ctx} {all:Array Oper} {ops:List EOp} {af nap:List (List Nat)} (h6:all.toList.mapM (AO c.P all)=some ops) (h8:Region.noSelect all=true) (hw:af=Bu all) (h9:nap=D7 all) {Φ:St→Prop} (m r:Nat)
  {ld:List Bool} {S:St} (h:(Ct ops af nap m ld S True).2.2.2∧G c all ops af Φ ((Ct ops af nap m ld S True).1+r) (Ct ops af nap m ld S True).2.1 (Ct ops af nap m ld S True).2.2.1):G c all ops af Φ (m+r) ld S:=by
 subst hw;subst h9;exact (dj h6 h8 r _ _ _ True h.1 h.2).2
def tN:Nat→Prop
 | 0=>True
 | n+1=>tN n∧True
theorem lT:∀n,tN n
 | 0=>trivial
 | n+1=>⟨lT n,trivial⟩
def an:Nat→List AV→List AV
 | 0,l=>l
 | n+1,l=>.any::an n l
attribute [go_sem] an
def rp (b:Bool):Nat→List Bool→List Bool
 | 0,l=>l
 | n+1,l=>b::rp b n l
def rl:List Nat→List Bool
 | []=>[]
 | [n]=>rp true n []
 | n::m::r=>rp true n (rp false m (rl r))
def YA:Nat→(List AV→List AV)→List AV→List AV
 | 0,f,l=>f l
 | n+1,f,[]=>.any::YA n f []
 | n+1,f,x::l=>x::YA n f l
def Yc:List AV→(List AV→List AV)→List AV→List AV
 | [],f,l=>f l
 | v::vs,f,[]=>v::Yc vs f []
 | v::vs,f,_::l=>v::Yc vs f l
def pt:List (Nat×List AV)→List AV→List AV
 | [],l=>l
 | (n,vs)::p,l=>YA n (Yc vs (pt p)) l
attribute [go_sem] YA Yc pt rp rl
theorem mB {c:Ctx} {all:Array Oper} {ops:List EOp} {af nap:List (List Nat)} (h6:all.toList.mapM (AO c.P all)=some ops) (h8:Region.noSelect all=true) (hw:af=Bu all) (h9:nap=D7 all) {Φ:St→Prop} (m r:Nat)
  {ld:List Bool} {S:St} (ld':List Bool) (S':St) (he:Ct ops af nap m ld S True=(0,ld',S',tN m)) (h:G c all ops af Φ r ld' S'):G c all ops af Φ (m+r) ld S:=
 dh h6 h8 hw h9 m r (by rw [he];exact ⟨lT m,by simpa using h⟩)
theorem mC {c:Ctx} {all:Array Oper} {ops:List EOp} {af nap:List (List Nat)} (h6:all.toList.mapM (AO c.P all)=some ops) (h8:Region.noSelect all=true) (hw:af=Bu all) (h9:nap=D7 all) {Φ:St→Prop} (m r:Nat)
  {ld:List Bool} {S:St} (b:List Nat) (u:List (Nat×List AV)) (he:Ct ops af nap m ld S True=(0,rl b,⟨pt u S.tm,S.bs,S.ss⟩,tN m)) (h:G c all ops af Φ r (rl b) ⟨pt u S.tm,S.bs,S.ss⟩):G c all ops af Φ (m+r) ld S:=
 mB h6 h8 hw h9 m r _ _ he h
theorem De {P:Program} {w0:World} {H0:Frag} {f:Nat} {fn:Func} {body:EC} {rs:List ERes} {np nt:Nat} {k:List It} {S:St} {T n j:Nat} {α:Type} {e r:List α} (g:α→List AV) (ok:FnOK P f fn body rs np nt) (h:some e=some r)
  (hr:DM S rs=some (.osl j)) (hj:Ab S.ss j=some ⟨T,n,e.map g⟩):V (Ctx.of P w0 H0) fn (fun x _ ss=>∃j,x = .osl j∧Ab ss j=some ⟨T,n,r.map g⟩) (.code .ret::k) S:=by
 obtain rfl:=Option.some.inj h;exact mJ ok hr hj
end NX
end Go.Proofs.YtgnjledocpbchaaGreat
/-
  The symbolic machine: elements of own slices, read and written. No statement of the seat is proved here.
-/
namespace Go.Proofs.YtgnjledocpbchaaGreat
namespace NX
open Go Go.RowKit
section
variable {c:Ctx} {M:Mem} {S S':St} {a:Act} {w:World} {fn:Func} {K:AV→List (Option Blk)→List (Option Sl)→Prop} {k:List It} {bs:List (Option Blk)} {ss:List (Option Sl)}
theorem RelS.rewrite (h:RelS c M bs ss w) {j g:Nat} {L:Sl} (hj:Ab ss j=some L) (h6:(M.σ j).ownBlock=some g) {w':World} (hg:w.grownBy w' (some g)) {E:List (List AV)} {vss':List (List Value)} (h1:AV.isLL M.sl L.n E vss')
  (h2:∀v∈vss'.flatten,v.oneCell'=true) (h3:w'.ownsRow 0 L.T L.n (M.σ j) E.length vss'.flatten):RelS c M bs (Av ss j (some ⟨L.T,L.n,E⟩)) w':=by
 obtain ⟨g0,vss,_,_,h9,h8⟩:=h.slc j L hj;obtain ⟨m1,m2⟩:=h8 g h6;have old:∀i N,Ab (Av ss j (some (⟨L.T,L.n,E⟩:Sl))) i=some N→(i=j∧N=⟨L.T,L.n,E⟩)∨(i≠j∧Ab ss i=some N):=by
  intro i N hi;rw [Dz] at hi;split at hi
  ·rename_i e;left;exact ⟨e.1,by simpa using hi.symm⟩
  ·rename_i e;right;exact ⟨fun x=>e ⟨x,CD hj⟩,hi⟩
 have live:∀i N,Ab (Av ss j (some (⟨L.T,L.n,E⟩:Sl))) i=some N→∃N',Ab ss i=some N':=by
  intro i N hi;rcases old i N hi with ⟨rfl,_⟩ | ⟨_,h⟩
  ·exact ⟨_,hj⟩
  ·exact ⟨_,h⟩
 obtain ⟨e1,e2,e3,e4,e5⟩:=hg;refine ⟨h.nb,by rw [Dg];exact h.ns,h.so,e1.trans h.os,e2.trans h.tape,e3.trans h.output,Nat.le_trans h.size e4,?_,?_,h.hold,?_,?_,h.d1,?_,?_,h.pin⟩
 ·intro k hk hb;rw [e5 k (Nat.lt_of_lt_of_le hk h.size) (fun e=>by
   simp at e;subst e;rcases m1 with m1 | m1
   ·omega
   ·exact hb m1)]
  exact h.block k hk hb
 ·intro k o hk;have hlt:=(Array.getElem?_eq_some_iff.1 (h.hle k o hk)).1;rw [e5 k hlt (fun e=>by simp at e;subst e;rw [m2] at hk;simp at hk)];exact h.hle k o hk
 ·intro i B hi;obtain ⟨g1,g2,vs,g3,g4,g5⟩:=h.blk i B hi;refine ⟨g1,g2,vs,g3,?_,g5⟩;rw [e5 _ (h.blk_lt hi) (fun e=>h.d2 i j B L hi hj (by rw [h6];exact e.symm))];exact g4
 ·intro i N hi;rcases old i N hi with ⟨rfl,rfl⟩ | ⟨hne,hi⟩
  ·exact ⟨g0,vss',h1,h2,h3,h8⟩
  ·obtain ⟨q0,uss,q1,q2,q3,q4⟩:=h.slc i N hi;refine ⟨q0,uss,q1,q2,World.ownsRow.kept q3 (row:=some g) ⟨e1,e2,e3,e4,e5⟩ (.inr fun e=>?_),q4⟩;exact hne (h.d3 i j N L g hi hj e h6)
 ·intro i t B N hi ht;obtain ⟨N',hN⟩:=live t N ht;exact h.d2 i t B N' hi hN
 ·intro i t N O g' hi ht;obtain ⟨N',hN⟩:=live i N hi;obtain ⟨O',hO⟩:=live t O ht;exact h.d3 i t N' O' g' hN hO
theorem bG (E:RelT c M S a w) {j i:Nat} {L:Sl} {row:List AV} (hj:Ab S.ss j=some L) (hr:L.rows[i]?=some row):
  ∃g cap cur vss vs,M.σ j = .slice (some ⟨g,0,none⟩) L.rows.length cap∧w.heap[g]?=some (.cells cur L.T (0,0))∧cur.size=cap*L.n∧L.rows.length≤cap∧cap≤maxLen∧AV.isLL M.sl L.n L.rows vss∧cur.toList.take (L.rows.length*L.n)=vss.flatten∧
   (∀v∈vss.flatten,v.oneCell'=true)∧vss[i]?=some vs∧vs.length=L.n∧AV.isL M.sl row vs∧(∀(m:Nat) v,vs[m]?=some v→cur[i*L.n+m]?=some v):=by
 obtain ⟨g0,vss,h1,h2,h3,h4⟩:=E.st.slc j L hj;have hlt:=(List.getElem?_eq_some_iff.1 hr).1;rcases h3.2 with ⟨_,e3⟩ | ⟨g,cap,cur,e2,_,e3,e4,e5,e6,e7⟩
 ·omega
 ·obtain ⟨vs,q1,q2,q3,q4⟩:=UL h1 i row hr;refine ⟨g,cap,cur,vss,vs,e2,e3,e6,e4,e5,h1,e7,h2,q1,q2,q3,fun m v hm=>?_⟩;have:=q4 m v hm;rw [←e7,List.getElem?_take] at this;split at this
  ·simpa using this
  ·simp at this
theorem cz {n j:Nat} {x i:X} {z:Int} {L:Sl} (hx:S.x x = .osl j) (hi:S.x i = .iv z) (hj:Ab S.ss j=some L) (_:L.n=n) (h0:0≤z) (h1:z<L.rows.length):B3 c S (.idx n x i) (.oel j (z.toNat*n) 0) S:=by
 intro ro h6 M a w hT next Q h9
 obtain ⟨dst,op,ty,pos,af,gd⟩:=ro;dsimp only at h6;obtain ⟨T,y,q,e,rfl,hu,hs,rfl,rfl⟩:=Pg h6;have k1:=Au hT y;have k2:=Au hT q;rw [hx] at k1;rw [hi] at k2;obtain ⟨row,hr⟩:∃row,L.rows[z.toNat]?=some row:=⟨_,List.getElem?_eq_getElem Om⟩
 obtain ⟨g,cap,cur,_,_,e2,_,_,_,_,_⟩:=bG hT hj hr;have h8:=fM (P:=c.P) (w:=w) hu hs (k1.2.trans e2) k2 h0 h1 dst ty pos af gd;unfold Oper.wp;rw [h8];refine h9 M w _ (.refl M) hT.st ⟨k1.1,g,_,cap,e2,?_⟩;rw [Addr.add_lit];simp
theorem na {d:Option Nat} {g:Option (Nat×Bool)} {l:List EOp} {n j:Nat} {x i:X} {z:Int} {L:Sl} (hg:gm S g) (hx:S.x x = .osl j) (hi:S.x i = .iv z) (hj:Ab S.ss j=some L) (hn:L.n=n) (h0:0≤z) (h1:z<L.rows.length)
  (h:V c fn K (.ops l::k) (S.put d (.oel j (z.toNat*n) 0))):V c fn K (.ops (⟨d,g,.idx n x i⟩::l)::k) S:=
 Ba hg (cz hx hi hj hn h0 h1) rfl h
theorem C5 {α:Type} {l':List α} {z:Int} {v:α} {d:Option Nat} {g:Option (Nat×Bool)} {l:List EOp} {T n j:Nat} {x i:X} (f:α→List AV) (hv:Ac l' z=some v) (hg:gm S g) (hx:S.x x = .osl j) (hi:S.x i = .iv z) (hj:Ab S.ss j=some ⟨T,n,l'.map f⟩)
  (h:V c fn K (.ops l::k) (S.put d (.oel j (z.toNat*n) 0))):V c fn K (.ops (⟨d,g,.idx n x i⟩::l)::k) S:=by
 obtain ⟨h0,hr⟩:=DD hv;have:=(List.getElem?_eq_some_iff.1 hr).1;exact na hg hx hi hj rfl h0 (by simp;omega) h
theorem FB {α:Type} {l:List α} {z:Int} {y y':α} (h:Ac l z=some y):Ac (l.set z.toNat y') z=some y':=by obtain ⟨h0,hr⟩:=DD h;have:=(List.getElem?_eq_some_iff.1 hr).1;unfold Ac;rw [if_pos h0];simp [this]
theorem oA {P:Program} {op:Op} {x:X} (ho:cO P op = .load x):∃T y,op = .load T y∧F3 P T=some none∧cX y=x:=by
 cases op
 case load T y=>
  simp only [cO] at ho;split at ho
  ·rename_i h;simp only [EO.load.injEq] at ho;exact ⟨T,y,rfl,h,ho⟩
  ·simp at ho
  ·simp at ho
 all_goals (simp only [cO] at ho;(repeat' (split at ho))<;>simp at ho)
theorem oB {P:Program} {op:Op} {n:Nat} {x:X} (ho:cO P op = .loadA n x):∃T y,op = .load T y∧F3 P T=some (some n)∧cX y=x:=by
 cases op
 case load T y=>
  simp only [cO] at ho;split at ho
  ·simp at ho
  ·rename_i h;simp only [EO.loadA.injEq] at ho;exact ⟨T,y,rfl,by rw [h,ho.1],ho.2⟩
  ·simp at ho
 all_goals (simp only [cO] at ho;(repeat' (split at ho))<;>simp at ho)
theorem oF {P:Program} {op:Op} {n:Nat} {x y:X} (ho:cO P op = .store n x y):∃T p q,op = .store T p q∧Cj P T=some n∧cX p=x∧cX q=y:=by
 cases op
 case store T p q=>
  simp only [cO] at ho;split at ho
  ·rename_i n' h;simp only [EO.store.injEq] at ho;exact ⟨T,p,q,rfl,by rw [h,ho.1],ho.2.1,ho.2.2⟩
  ·simp at ho
 all_goals (simp only [cO] at ho;(repeat' (split at ho))<;>simp at ho)
theorem ie (E:RelT c M S a w) {j i n off m:Nat} {L:Sl} {row l:List AV} {u:Value} (hu:(AV.oel j (i*n) off).is M u) (hj:Ab S.ss j=some L) (hn:L.n=n) (hr:L.rows[i]?=some row) (hl:Db row off m=some l):
  ∃g vs,u = .pointer (some ⟨g,i*n+off,none⟩)∧AV.isL M l vs∧vs.length=m∧∀(q:Nat) v,vs[q]?=some v→w.cell? ⟨g,i*n+off+q,none⟩=some v:=by
 subst hn;obtain ⟨_,g',n',cap',e1,rfl⟩:=hu;obtain ⟨g,cap,cur,vss,vs,e2,e3,_,_,_,_,_,_,_,q2,q3,q4⟩:=bG E hj hr;rw [e2] at e1;simp only [Value.slice.injEq,Option.some.injEq,Addr.mk.injEq] at e1;obtain ⟨⟨rfl,_⟩,_⟩:=e1;obtain ⟨rfl,hle⟩:=Kr hl;refine ⟨g,(vs.drop off).take m,rfl,E9 (xa M) _ _ (G3 m (G2 off q3)),by have:=Dl q3;simp;omega,?_⟩;intro q v hq;rw [List.getElem?_take] at hq;split at hq
 ·simp at hq;have:=q4 _ v hq;simp only [World.cell?,e3];simp only [Option.isSome_none,Bool.false_eq_true,if_false];rw [Nat.add_assoc];exact this
 ·simp at hq
theorem Yw {j i n off:Nat} {x:X} {L:Sl} {row:List AV} {v:AV} (hx:S.x x = .oel j (i*n) off) (hj:Ab S.ss j=some L) (hn:L.n=n) (hr:L.rows[i]?=some row) (hl:Db row off 1=some [v]):B3 c S (.load x) v S:=by
 intro ro h6 M a w hT next Q h9
 obtain ⟨dst,op,ty,pos,af,gd⟩:=ro;dsimp only at h6;obtain ⟨T,y,rfl,hw,rfl⟩:=oA h6;have k1:=Au hT y;rw [hx] at k1;obtain ⟨g,vs,hu,h2,h3,h4⟩:=ie hT k1 hj hn hr hl;obtain ⟨u,rfl⟩:∃u,vs=[u]:=by
  cases vs with
  | nil=>simp at h3
  | cons u r=>cases r with
    | nil=>exact ⟨u,rfl⟩
    | cons _ _=>simp at h3
 have hc:=h4 0 u (by simp);have h8:(execOp a.eval ⟨dst,.load T y,ty,pos,af,gd⟩).run c.P w = .ok (.value u) w:=by generalize a.eval=ρ at *;simp only [Nat.add_zero] at hc;simp [execOp,hu,Instr.loadAt,Instr.sureAddr,ZS hw hc]
 unfold Oper.wp;rw [h8];refine h9 M w u (.refl M) hT.st ?_;obtain ⟨_,_,h,hy,_⟩:=h2;simp at h;obtain ⟨rfl,rfl⟩:=h;exact hy
theorem Gm {α:Type} {l':List α} {z:Int} {y:α} {d:Option Nat} {g:Option (Nat×Bool)} {l:List EOp} {j T n off:Nat} {x:X} {v:AV} (f:α→List AV) (hv:Ac l' z=some y) (hg:gm S g) (hx:S.x x = .oel j (z.toNat*n) off) (hj:Ab S.ss j=some ⟨T,n,l'.map f⟩)
  (hl:Db (f y) off 1=some [v]) (h:V c fn K (.ops l::k) (S.put d v)):V c fn K (.ops (⟨d,g,.load x⟩::l)::k) S:=
 Ba hg (Yw hx hj rfl (FJ (DD hv).2) hl) rfl h
theorem cA {j i n off m:Nat} {x:X} {L:Sl} {row r:List AV} (hx:S.x x = .oel j (i*n) off) (hj:Ab S.ss j=some L) (hn:L.n=n) (hr:L.rows[i]?=some row) (hl:Db row off m=some r):B3 c S (.loadA m x) (.agg r) S:=by
 intro ro h6 M a w hT next Q h9
 obtain ⟨dst,op,ty,pos,af,gd⟩:=ro;dsimp only at h6;obtain ⟨T,y,rfl,hw,rfl⟩:=oB h6;have k1:=Au hT y;rw [hx] at k1;obtain ⟨g,vs,hu,h2,h3,h4⟩:=ie hT k1 hj hn hr hl;have h8:(execOp a.eval ⟨dst,.load T y,ty,pos,af,gd⟩).run c.P w = .ok (.value (.agg vs.toArray)) w:=by generalize a.eval=ρ at *;simp [execOp,hu,Instr.loadAt,Instr.sureAddr,ZR hw h3 h4]
 unfold Oper.wp;rw [h8];exact h9 M w _ (.refl M) hT.st ⟨vs,rfl,h2⟩
theorem H9 {α:Type} {l':List α} {z:Int} {y:α} {d:Option Nat} {g:Option (Nat×Bool)} {l:List EOp} {j T n off m:Nat} {x:X} {r:List AV} (f:α→List AV) (hv:Ac l' z=some y) (hg:gm S g) (hx:S.x x = .oel j (z.toNat*n) off) (hj:Ab S.ss j=some ⟨T,n,l'.map f⟩)
  (hl:Db (f y) off m=some r) (h:V c fn K (.ops l::k) (S.put d (.agg r))):V c fn K (.ops (⟨d,g,.loadA m x⟩::l)::k) S:=
 Ba hg (cA hx hj rfl (FJ (DD hv).2) hl) rfl h
theorem fV {M:Mem} {n:Nat}:∀ {rows:List (List AV)} {vss:List (List Value)} {i:Nat} {row:List AV} {vs:List Value},AV.isLL M n rows vss→AV.isL M row vs→vs.length=n→AV.isLL M n (rows.set i row) (vss.set i vs)
 | [],_,i,_,_,h,_,_=>by simp [AV.isLL] at h;subst h;simp [AV.isLL]
 | r::rows,_,0,_,_,⟨v,q,h0,h1,h2,h3⟩,hr,hl=>by subst h0;exact ⟨_,_,rfl,hl,hr,h3⟩
 | r::rows,_,i+1,_,_,⟨v,q,h0,h1,h2,h3⟩,hr,hl=>by subst h0;exact ⟨v,_,rfl,h1,h2,fV h3 hr hl⟩
theorem fm {n off:Nat} {cs:List Value}:∀ {vss:List (List Value)} {i:Nat} {vs:List Value},(∀v∈vss,v.length=n)→vss[i]?=some vs→off+cs.length≤n→
  (vss.set i (vs.take off++cs++vs.drop (off+cs.length))).flatten=vss.flatten.take (i*n+off)++cs++vss.flatten.drop (i*n+off+cs.length)
 | [],i,vs,_,h,_=>by simp at h
 | v::vss,0,vs,hn,h,hle=>by simp at h;subst h;have hv:=hn v (by simp);simp only [List.set_cons_zero,List.flatten_cons,Nat.zero_mul,Nat.zero_add];rw [List.take_append_of_le_length Om,List.drop_append_of_le_length Om];simp [List.append_assoc]
 | v::vss,i+1,vs,hn,h,hle=>by have hv:=hn v (by simp);have ih:=fm (n:=n) (off:=off) (cs:=cs) (vss:=vss) (i:=i) (vs:=vs) (fun u hu=>hn u (by simp [hu])) (by simpa using h) hle;simp only [List.set_cons_succ,List.flatten_cons];rw [ih,show (i+1)*n+off=v.length+(i*n+off) by rw [hv,Nat.add_mul];omega,show v.length+(i*n+off)+cs.length=v.length+(i*n+off+cs.length) by omega,List.take_length_add_append,List.drop_length_add_append];simp [List.append_assoc]
theorem Gy {M:Mem} {n:Nat}:∀ {rows:List (List AV)} {vss:List (List Value)},AV.isLL M n rows vss→(∀v∈vss,v.length=n)∧vss.length=rows.length
 | [],_,h=>by simp [AV.isLL] at h;subst h;simp
 | _::rows,_,⟨v,q,h0,h1,h2,h3⟩=>by subst h0;obtain ⟨k1,k2⟩:=Gy h3;exact ⟨fun u hu=>by rcases List.mem_cons.1 hu with rfl | hu;exact h1;exact k1 u hu,by simp [k2]⟩
def AV.slo:AV→Bool
 | .osl _=>true
 | x=>x.pu
def LC:List AV→Bool
 | []=>true
 | x::l=>BY x.slo (LC l)
attribute [go_sem] AV.slo LC
theorem xb {M:Mem} (x:AV) (v:Value) (h:x.is M v) (hp:x.slo=true):x.is M.sl v:=by
 cases x
 case osl j=>exact h
 all_goals exact Dx (OP M) _ _ (bP _ _ h hp)
theorem lC {M:Mem}:∀(l:List AV) (vs:List Value),AV.isL M l vs→LC l=true→AV.isL M.sl l vs
 | [],_,h,_=>h
 | x::l,_,⟨v,r,h0,h1,h2⟩,hp=>by simp only [LC,AS] at hp;exact ⟨v,r,h0,xb x v h1 hp.1,lC l r h2 hp.2⟩
theorem cH:∀ {l:List AV},AB l=true→LC l=true
 | [],_=>rfl
 | x::l,h=>by
   simp only [AB,AS] at h;simp only [LC,AS];refine ⟨?_,cH h.2⟩;cases x
   case osl j=>rfl
   all_goals exact h.1
theorem cB {j i n off m:Nat} {x y:X} {L:Sl} {row E cs0 cs:List AV} (hx:S.x x = .oel j (i*n) off) (hj:Ab S.ss j=some L) (hn:L.n=n) (hr:L.rows[i]?=some row) (hG:(S.x y).cells=some cs0) (hI:AV.le.leL cs0 cs) (hm:Ah cs=m) (h1:CA cs=true) (hp:LC cs=true)
  (hl:BS row off cs=some E):B3 c S (.store m x y) .un ⟨S.tm,S.bs,Av S.ss j (some ⟨L.T,L.n,L.rows.set i E⟩)⟩:=by
 intro ro hB M a w hT next Q hJ
 obtain ⟨dst,op,ty,pos,af,gd⟩:=ro;dsimp only at hB;obtain ⟨T,p,q,rfl,hK,rfl,rfl⟩:=oF hB;have k1:=Au hT p;have k2:=Au hT q;subst hn;rw [hx] at k1;obtain ⟨_,g',n',cap',e1,hL⟩:=k1;obtain ⟨g,cap,cur,vss,vs,e2,e3,e4,e5,e6,e7,e8,e9,q1,q2,q3,q4⟩:=bG hT hj hr;rw [e2] at e1;simp only [Value.slice.injEq,Option.some.injEq,Addr.mk.injEq] at e1;obtain ⟨⟨rfl,_⟩,_⟩:=e1;have h6:=Et _ _ _ hI (Ul (fun j e=>by rw [e] at k2;rw [k2.2];exact hT.st.so j k2.1) k2 hG);have h8:=IT h6 h1 hT.st.so;have hD:=lC _ _ h6 hp;obtain ⟨rfl,hle⟩:=Mq hl;have h9:=Dl h6;have hW:=Dl q3;have hlt:=(List.getElem?_eq_some_iff.1 hr).1;obtain ⟨hO,hX⟩:=Gy e7;have hP:(i+1)*L.n≤cap*L.n:=Nat.mul_le_mul_right _ Om;have hQ:(i+1)*L.n≤L.rows.length*L.n:=Nat.mul_le_mul_right _ Om;rw [Nat.add_mul,Nat.one_mul] at hP hQ;have hS:i*L.n+off+(a.eval q).cells.toList.length≤cur.size:=by rw [e4];omega
 have hC:=run_storeCells_at c.P g (i*L.n+off) L.T (a.eval q).cells.toList 0 cur w e3 Om h8;have hsz':(a.eval q).cells.size=m:=by rw [←Array.length_toList,h9,←Bl];exact hm
 have hcur':∀v,(cur.toList.take (i*L.n+off)++v++cur.toList.drop (i*L.n+off+v.length)).length=cur.toList.length∨True:=fun _=>.inr trivial;have hE:(execOp a.eval ⟨dst,.store T p q,ty,pos,af,gd⟩).run c.P w = .ok .skip (w.setRow g (cur.toList.take (i*L.n+off)++(a.eval q).cells.toList++cur.toList.drop (i*L.n+off+(a.eval q).cells.toList.length)).toArray):=by generalize a.eval=ρ at *;simp only [Nat.add_zero] at hC;simp only [execOp,hL,Instr.storeAt,Instr.sureAddr,Sem.run_bind,Sem.run_pure,Result.andThen_ok,storeVar,FN hK,hsz',ne_eq,not_true_eq_false,if_false];rw [hC];rfl
 unfold Oper.wp;rw [hE];refine hJ M _ _ (.refl M) ?_ rfl;have hvs':AV.isL M.sl (row.take off++cs++row.drop (off+cs.length)) (vs.take off++(a.eval q).cells.toList++vs.drop (off+(a.eval q).cells.toList.length)):=Dw (Dw (G3 off q3) hD) (by rw [h9];exact G2 _ q3);have hw:=fm (cs:=(a.eval q).cells.toList) (off:=off) hO q1 Om;have hU:cur.toList.length=cap*L.n:=by simpa using e4
 have hR:(w.setRow g (cur.toList.take (i*L.n+off)++(a.eval q).cells.toList++cur.toList.drop (i*L.n+off+(a.eval q).cells.toList.length)).toArray).heap[g]?=some (.cells (cur.toList.take (i*L.n+off)++(a.eval q).cells.toList++cur.toList.drop (i*L.n+off+(a.eval q).cells.toList.length)).toArray L.T (0,0)):=by rw [Gv,if_pos rfl,e3];rfl
 refine hT.st.rewrite hj (g:=g) (by rw [e2];rfl) (w':=w.setRow g (cur.toList.take (i*L.n+off)++(a.eval q).cells.toList++cur.toList.drop (i*L.n+off+(a.eval q).cells.toList.length)).toArray)
  ⟨rfl,rfl,rfl,by simp [World.setRow],fun k _ hk=>by rw [Gv,if_neg (fun e=>hk (by rw [e]))]⟩ (vss':=vss.set i (vs.take off++(a.eval q).cells.toList++vs.drop (off+(a.eval q).cells.toList.length))) ?_ ?_ ?_
 ·exact fV e7 hvs' (by simp only [List.length_append,List.length_take,List.length_drop];omega)
 ·intro v hv;rw [hw] at hv;simp only [List.mem_append] at hv;rcases hv with (hv | hv) | hv
  ·exact e9 v (List.mem_of_mem_take hv)
  ·exact h8 v hv
  ·exact e9 v (List.mem_of_mem_drop hv)
 ·have hV:vss.flatten.length=L.rows.length*L.n:=E1 e7;refine ⟨?_,.inr ⟨g,cap,_,by rw [List.length_set];exact e2,Nat.zero_le _,hR,by rw [List.length_set];exact e5,e6,?_,?_⟩⟩
  ·rw [hw,List.length_set];simp only [List.length_append,List.length_take,List.length_drop];omega
  ·simp only [List.size_toArray,List.length_append,List.length_take,List.length_drop];omega
  ·rw [hw,List.length_set,←e8];generalize hN:L.rows.length*L.n=N at *;generalize hA:i*L.n+off=A at *;generalize (a.eval q).cells.toList=C at *;generalize cur.toList=D at *;rw [List.append_assoc,List.append_assoc,List.take_append,List.take_of_length_le (by rw [List.length_take];omega),List.take_append,List.take_of_length_le (l:=C) (by rw [List.length_take];omega),List.length_take,Nat.min_eq_left Om,List.take_take,Nat.min_eq_left Om,List.drop_take];congr 3;omega
theorem Du {α:Type} {l':List α} {z:Int} {y y':α} {d:Option Nat} {g:Option (Nat×Bool)} {l:List EOp} {j T n off m:Nat} {x v:X} {cs0:List AV} (cs:List AV) (f:α→List AV) (hv:Ac l' z=some y) (hg:gm S g) (hx:S.x x = .oel j (z.toNat*n) off) (hj:Ab S.ss j=some ⟨T,n,l'.map f⟩)
  (h6:(S.x v).cells=some cs0) (h8:AV.le.leL cs0 cs) (hm:Ah cs=m) (h1:CA cs=true) (hp:AB cs=true) (hl:BS (f y) off cs=some (f y'))
  (h:V c fn K (.ops l::k) ((⟨S.tm,S.bs,Av S.ss j (some ⟨T,n,(l'.set z.toNat y').map f⟩)⟩:St).put d .un)):V c fn K (.ops (⟨d,g,.store m x v⟩::l)::k) S:=by
 refine Ba hg (cB hx hj rfl (FJ (DD hv).2) h6 h8 hm h1 (cH hp) hl) rfl ?_;dsimp only;rw [←List.map_set];exact h
end
end NX
end Go.Proofs.YtgnjledocpbchaaGreat
/-
  The symbolic machine: calls that write into the caller's own memory; slices made, own slices cut. No statement of the seat is proved here.
-/
namespace Go.Proofs.YtgnjledocpbchaaGreat
namespace NX
open Go Go.RowKit
def Ax {α:Type}:List Bool→List (Option α)→List (Option α)
 | _,[]=>[]
 | [],_::l=>none::Ax [] l
 | true::m,x::l=>x::Ax m l
 | false::m,_::l=>none::Ax m l
def BA {α:Type}:List Bool→List (Option α)→List (Option α)→List (Option α)
 | _,[],r=>r
 | _,_::_,[]=>[]
 | [],x::l,_::r=>x::BA [] l r
 | true::m,_::l,y::r=>y::BA m l r
 | false::m,x::l,_::r=>x::BA m l r
def mb:List Bool→Nat→Bool
 | [],_=>false
 | b::_,0=>b
 | _::m,j+1=>mb m j
attribute [go_sem] Ax BA
theorem HJ {α:Type}:∀(m:List Bool) (l:List (Option α)),(Ax m l).length=l.length
 | _,[]=>by cases ‹List Bool› <;>rfl
 | [],_::l=>by simp [Ax,HJ [] l]
 | true::m,x::l=>by simp [Ax,HJ m l]
 | false::m,_::l=>by simp [Ax,HJ m l]
theorem E3 {α:Type}:∀ {m:List Bool} {l:List (Option α)} {j:Nat} {B:α},Ab (Ax m l) j=some B↔mb m j=true∧Ab l j=some B
 | m,[],j,B=>by cases m<;>simp [Ax,Ab]
 | [],x::l,0,B=>by simp [Ax,Ab,mb]
 | [],x::l,j+1,B=>by simp [Ax,Ab,mb,E3 (m:=[]) (l:=l) (j:=j)]
 | true::m,x::l,0,B=>by simp [Ax,Ab,mb]
 | true::m,x::l,j+1,B=>by simp [Ax,Ab,mb,E3 (m:=m) (l:=l) (j:=j)]
 | false::m,x::l,0,B=>by simp [Ax,Ab,mb]
 | false::m,x::l,j+1,B=>by simp [Ax,Ab,mb,E3 (m:=m) (l:=l) (j:=j)]
theorem Tq {α:Type}:∀(m:List Bool) (l r:List (Option α)),l.length≤r.length→(BA m l r).length=r.length
 | m,[],r,_=>by cases m<;>rfl
 | m,_::_,[],h=>by simp at h
 | [],x::l,_::r,h=>by simp [BA,Tq [] l r (by simpa using h)]
 | true::m,_::l,y::r,h=>by simp [BA,Tq m l r (by simpa using h)]
 | false::m,x::l,_::r,h=>by simp [BA,Tq m l r (by simpa using h)]
theorem GU {α:Type}:∀ {m:List Bool} {l r:List (Option α)} {j:Nat} {B:α},l.length≤r.length→Ab (BA m l r) j=some B→
  (j<l.length∧mb m j=false∧Ab l j=some B)∨((l.length≤j∨mb m j=true)∧Ab r j=some B)
 | m,[],r,j,B,_,h=>.inr ⟨.inl (Nat.zero_le _),by cases m<;>exact h⟩
 | m,_::_,[],j,B,hl,h=>by simp at hl
 | [],x::l,y::r,0,B,hl,h=>.inl ⟨by simp,rfl,h⟩
 | [],x::l,y::r,j+1,B,hl,h=>by
   rcases GU (m:=[]) (l:=l) (r:=r) (j:=j) (by simpa using hl) h with ⟨h1,_,h3⟩ | ⟨h1,h2⟩
   ·exact .inl ⟨by simpa using h1,rfl,h3⟩
   ·exact .inr ⟨by rcases h1 with h1 | h1;exact .inl (by simpa using h1);simp [mb] at h1,h2⟩
 | true::m,x::l,y::r,0,B,hl,h=>.inr ⟨.inr rfl,h⟩
 | true::m,x::l,y::r,j+1,B,hl,h=>by
   rcases GU (m:=m) (l:=l) (r:=r) (j:=j) (by simpa using hl) h with ⟨h1,h2,h3⟩ | ⟨h1,h2⟩
   ·exact .inl ⟨by simpa using h1,h2,h3⟩
   ·exact .inr ⟨by rcases h1 with h1 | h1;exact .inl (by simpa using h1);exact .inr h1,h2⟩
 | false::m,x::l,y::r,0,B,hl,h=>.inl ⟨by simp,rfl,h⟩
 | false::m,x::l,y::r,j+1,B,hl,h=>by
   rcases GU (m:=m) (l:=l) (r:=r) (j:=j) (by simpa using hl) h with ⟨h1,h2,h3⟩ | ⟨h1,h2⟩
   ·exact .inl ⟨by simpa using h1,h2,h3⟩
   ·exact .inr ⟨by rcases h1 with h1 | h1;exact .inl (by simpa using h1);exact .inr h1,h2⟩
def Gz (M:Mem) (bs:List (Option Blk)) (ss:List (Option Sl)) (k:Nat):Prop:=(∃j B,Ab bs j=some B∧M.ρ j=k)∨∃j L,Ab ss j=some L∧(M.σ j).ownBlock=some k
def Ctx.lent (P:Program) (w:World) (M:Mem) (bs:List (Option Blk)) (ss:List (Option Sl)) (np nq:Nat):Ctx:=⟨P,w,M.H,Gz M bs ss,np,M.ρ,nq,M.σ⟩
def CL (P:Program) (f:Nat) (args:List AV) (bs:List (Option Blk)) (ss:List (Option Sl)) (v:AV) (bs':List (Option Blk)) (ss':List (Option Sl)):Prop:=
 bs.length≤bs'.length∧ss.length≤ss'.length∧∀(M:Mem) (w:World) (vs:List Value),RelS (Ctx.lent P w M bs ss bs.length ss.length) M bs ss w→AV.isL M args vs→
  Calls P f vs.toArray w fun e w'=>∃u M',e = .returned u∧RelS (Ctx.lent P w M bs ss bs.length ss.length) M' bs' ss' w'∧v.is M' u
theorem mi {P:Program} {f:Nat} {fn:Func} {body:EC} {rs:List ERes} {np nt:Nat} (hf:FnOK P f fn body rs np nt) {args:List AV} {bs bs':List (Option Blk)} {ss ss':List (Option Sl)} {v:AV} (hn:args.length=np)
  (h1:AF (Ah bs) (Ah bs')=true) (h2:AF (Ah ss) (Ah ss')=true) (h3:St.ok ⟨[v],bs',ss'⟩=true)
  (h:∀w M,V (Ctx.lent P w M bs ss (Ah bs) (Ah ss)) fn (fun x b s=>St.le ⟨[x],b,s⟩ ⟨[v],bs',ss'⟩) [.code body] ⟨args++Dh nt,bs,ss⟩):CL P f args bs ss v bs' ss':=by
 have h1':=h1;have h2':=h2;rw [Da,Bl,Bl] at h1 h2;refine ⟨h1,h2,fun M w vs hS ha=>?_⟩;obtain ⟨x,hb,hx⟩:=hf.b;have hl:=Dl ha;refine calls_of_wp hf.h hb ?_;have e1:fn.ntmps-vs.toArray.size=nt:=by rw [hf.t];simp;omega
 rw [e1];have hT:RelT (Ctx.lent P w M bs ss bs.length ss.length) M ⟨args++Dh nt,bs,ss⟩ {tmps:=vs.toArray++Array.replicate nt undef,defers:=[]} w:=by
  refine ⟨by simp [UU,hl],fun t=>?_,rfl,hS⟩;simp only [UR,Array.getD_eq_getD_getElem?,Array.getElem?_append,List.size_toArray];by_cases h:t<args.length
  ·rw [if_pos h,if_pos Om];have:=Pz ha t h;simpa [List.getD_eq_getElem?_getD] using this
  ·rw [if_neg h,if_neg Om];rcases UT nt (t-args.length) with h1 | ⟨_,h1⟩
   ·rw [h1];simp only [AV.is,Array.getElem?_replicate];split<;>rfl
   ·rw [h1];trivial
 have h':=h w M;rw [Bl,Bl] at h';refine wp_mono (h' [.code x] _ _ w ⟨_,_,rfl,hx,rfl⟩ hT) ?_;have mono:∀e w',RK (Ctx.lent P w M bs ss bs.length ss.length) (fun x b s=>St.le ⟨[x],b,s⟩ ⟨[v],bs',ss'⟩) e w'→∃u M',e = .returned u∧RelS (Ctx.lent P w M bs ss bs.length ss.length) M' bs' ss' w'∧v.is M' u:=by
  rintro e w' ⟨u,M1,b,s,y,rfl,h6,hv,hle⟩;have h8:RelT (Ctx.lent P w M bs ss bs.length ss.length) M1 ⟨[y],b,s⟩ {tmps:= #[u],defers:=[]} w':=
   ⟨by simp,fun t=>by cases t with
     | zero=>exact hv
     | succ t=>cases t<;>trivial,rfl,h6⟩
  have hW:=h8.weak hle h3 (by rw [Da,Bl];exact h1) (by rw [Da,Bl];exact h2);exact ⟨u,_,rfl,hW.st,hW.tm 0⟩
 intro e a w' hq;cases e with
 | normal=>obtain ⟨h1,v,h2,h3⟩:=hq;exact ⟨h1,v,h2,mono _ _ h3⟩
 | ret=>obtain ⟨h1,v,h2,h3⟩:=hq;exact ⟨h1,v,h2,mono _ _ h3⟩
 | panic ch=>obtain ⟨h1,h2⟩:=hq;exact ⟨h1,mono _ _ h2⟩
 | outgrown=>exact mono _ _ hq
 | exit id=>exact hq
 | goto l=>exact hq
theorem dt {c:Ctx} {f:Nat} {fn:Func} {body:EC} {rs:List ERes} {np nt:Nat} {k:List It} {S:St} {x v:AV} {bs':List (Option Blk)} {ss':List (Option Sl)} (ok:FnOK c.P f fn body rs np nt)
 (h:DM S rs=some x) (hle:St.le ⟨[x],S.bs,S.ss⟩ ⟨[v],bs',ss'⟩):V c fn (fun x b s=>St.le ⟨[x],b,s⟩ ⟨[v],bs',ss'⟩) (.code .ret::k) S:=YY ok.r h hle
theorem mN {c:Ctx} {f:Nat} {fn:Func} {body:EC} {rs:List ERes} {np nt:Nat} {S:St} {x v:AV} {bs':List (Option Blk)} {ss':List (Option Sl)} (ok:FnOK c.P f fn body rs np nt)
  (h:DM S rs=some x) (hle:St.le ⟨[x],S.bs,S.ss⟩ ⟨[v],bs',ss'⟩):V c fn (fun x b s=>St.le ⟨[x],b,s⟩ ⟨[v],bs',ss'⟩) [] S:=by
 rintro rk M a w rfl hT;exact Zo hT ok.r h hle
section
variable {c:Ctx} {M:Mem} {S S':St} {a:Act} {w:World} {fn:Func} {K:AV→List (Option Blk)→List (Option Sl)→Prop} {k:List It}
theorem uf {w w':World} {b e E n:Nat} {v:Value} {xs:List Value} (h:w.ownsRow b e E v n xs) (hh:∀g,v.ownBlock=some g→w'.heap[g]?=w.heap[g]?):w'.ownsRow b e E v n xs:=by refine ⟨h.1,h.2.imp id ?_⟩;rintro ⟨g,cap,cur,rfl,h2,h3,h4⟩;exact ⟨g,cap,cur,rfl,h2,by rw [hh g rfl];exact h3,h4⟩
theorem gr (E:RelS c M S.bs S.ss w) (J U:List Bool):RelS (Ctx.lent c.P w M (Ax J S.bs) (Ax U S.ss) (Ax J S.bs).length (Ax U S.ss).length) M (Ax J S.bs) (Ax U S.ss) w:=by
 refine ⟨by rw [HJ];exact E.nb,by rw [HJ];exact E.ns,E.so,rfl,rfl,rfl,Nat.le_refl _,fun _ _ _=>rfl,E.hle,fun _ _ _=>rfl,?_,?_,?_,?_,?_,?_⟩
 ·intro j B hj;obtain ⟨g1,g2,vs,g3,g4,g5⟩:=E.blk j B (E3.1 hj).2;exact ⟨.inr (.inl ⟨j,B,hj,rfl⟩),g2,vs,g3,g4,g5⟩
 ·intro j L hj;obtain ⟨g0,vss,g1,g2,g3,g4⟩:=E.slc j L (E3.1 hj).2;exact ⟨g0,vss,g1,g2,g3,fun g hg=>⟨.inr (.inr ⟨j,L,hj,hg⟩),(g4 g hg).2⟩⟩
 ·intro i j B C hi hj e;exact E.d1 i j B C (E3.1 hi).2 (E3.1 hj).2 e
 ·intro i j B L hi hj;exact E.d2 i j B L (E3.1 hi).2 (E3.1 hj).2
 ·intro i j L N g hi hj;exact E.d3 i j L N g (E3.1 hi).2 (E3.1 hj).2
 ·exact ⟨by rw [show (Ctx.lent c.P w M (Ax J S.bs) (Ax U S.ss) (Ax J S.bs).length (Ax U S.ss).length).np=(Ax J S.bs).length from rfl,HJ,E.nb];exact Nat.le_refl _,fun _ _=>rfl,
   by rw [show (Ctx.lent c.P w M (Ax J S.bs) (Ax U S.ss) (Ax J S.bs).length (Ax U S.ss).length).nq=(Ax U S.ss).length from rfl,HJ,E.ns];exact Nat.le_refl _,fun _ _=>rfl,E.pin.gl⟩
theorem gt {J U:List Bool} {M':Mem} {w':World} {bs':List (Option Blk)} {ss':List (Option Sl)} (E:RelS c M S.bs S.ss w) (hb:(Ax J S.bs).length≤bs'.length) (hs:(Ax U S.ss).length≤ss'.length)
  (h:RelS (Ctx.lent c.P w M (Ax J S.bs) (Ax U S.ss) (Ax J S.bs).length (Ax U S.ss).length) M' bs' ss' w'):M.le M'∧RelS c M' (BA J S.bs bs') (BA U S.ss ss') w':=by
 rw [HJ] at hb hs;have lentMine:∀g,Gz M (Ax J S.bs) (Ax U S.ss) g→Fy c g∧M.H g=none:=by
  rintro g (⟨j,B,hj,rfl⟩ | ⟨j,L,hj,hg⟩)
  ·obtain ⟨g1,g2,_⟩:=E.blk j B (E3.1 hj).2;exact ⟨g1,g2⟩
  ·obtain ⟨_,_,_,_,_,g4⟩:=E.slc j L (E3.1 hj).2;exact g4 g hg
 have size0:=E.size;have size1:w.heap.size≤w'.heap.size:=h.size;have hρ:∀j,j<S.bs.length→M'.ρ j=M.ρ j:=fun j hj=>h.pin.ρ j (by show j<(Ax J S.bs).length;rw [HJ];exact hj);have hσ:∀j,j<S.ss.length→M'.σ j=M.σ j:=fun j hj=>h.pin.σ j (by show j<(Ax U S.ss).length;rw [HJ];exact hj);have hH:∀k o,M.H k=some o→M'.H k=some o:=by intro k o hk;have hlt:=(Array.getElem?_eq_some_iff.1 (E.hle k o hk)).1;have:=h.hold k hlt (fun hl=>by rw [(lentMine k hl).2] at hk;simp at hk);rw [this];exact hk
 have hle:M.le M':=⟨by rw [E.nb,h.nb];exact hb,by rw [E.ns,h.ns];exact hs,fun j hj=>hρ j (by rw [←E.nb];exact hj),fun j hj=>hσ j (by rw [←E.ns];exact hj),hH⟩
 have Fb:∀j B,Ab S.bs j=some B→mb J j=false→¬Gz M (Ax J S.bs) (Ax U S.ss) (M.ρ j):=by
  rintro j B hj hm (⟨i,C,hi,e⟩ | ⟨i,L,hi,e⟩)
  ·have:=E.d1 i j C B (E3.1 hi).2 hj e;subst this;rw [(E3.1 hi).1] at hm;simp at hm
  ·exact E.d2 j i B L hj (E3.1 hi).2 e
 have keepS:∀j L g,Ab S.ss j=some L→mb U j=false→(M.σ j).ownBlock=some g→¬Gz M (Ax J S.bs) (Ax U S.ss) g:=by
  rintro j L g hj hm hg (⟨i,C,hi,e⟩ | ⟨i,N,hi,e⟩)
  ·exact E.d2 i j C L (E3.1 hi).2 hj (by rw [e];exact hg)
  ·have:=E.d3 i j N L g (E3.1 hi).2 hj e hg;subst this;rw [(E3.1 hi).1] at hm;simp at hm
 have newMine:∀g,Fy (Ctx.lent c.P w M (Ax J S.bs) (Ax U S.ss) (Ax J S.bs).length (Ax U S.ss).length) g→Fy c g:=by
  rintro g (hg | hg)
  ·exact .inl (Nat.le_trans size0 hg)
  ·exact (lentMine g hg).1
 have apart:∀g k,Fy (Ctx.lent c.P w M (Ax J S.bs) (Ax U S.ss) (Ax J S.bs).length (Ax U S.ss).length) g→k<w.heap.size→¬Gz M (Ax J S.bs) (Ax U S.ss) k→g≠k:=by
  rintro g k (hg | hg) hk hn rfl
  ·exact Nat.lt_irrefl _ (Nat.lt_of_lt_of_le hk hg)
  ·exact hn hg
 refine ⟨hle,⟨by rw [Tq _ _ _ hb];exact h.nb,by rw [Tq _ _ _ hs];exact h.ns,h.so,h.os.trans E.os,h.tape.trans E.tape,h.output.trans E.output,Nat.le_trans size0 size1,?_,h.hle,?_,?_,?_,?_,?_,?_,E.pin.le hle⟩⟩
 ·intro k hk hn;have h6:¬Gz M (Ax J S.bs) (Ax U S.ss) k:=fun hl=>by
   rcases (lentMine k hl).1 with h1 | h1
   ·omega
   ·exact hn h1
  exact (h.block k (Nat.lt_of_lt_of_le hk size0) h6).trans (E.block k hk hn)
 ·intro k hk hn;have h6:¬Gz M (Ax J S.bs) (Ax U S.ss) k:=fun hl=>by
   rcases (lentMine k hl).1 with h1 | h1
   ·omega
   ·exact hn h1
  exact (h.hold k (Nat.lt_of_lt_of_le hk size0) h6).trans (E.hold k hk hn)
 ·intro j B hj;rcases GU hb hj with ⟨h1,h2,h3⟩ | ⟨_,h3⟩
  ·obtain ⟨g1,g2,vs,g3,g4,g5⟩:=E.blk j B h3;have hlt:=E.blk_lt h3;have hn:=Fb j B h3 h2;rw [hρ j h1];exact ⟨g1,(h.hold _ hlt hn).trans g2,vs,E9 hle _ _ g3,(h.block _ hlt hn).trans g4,g5⟩
  ·obtain ⟨g1,g2,vs,g3,g4,g5⟩:=h.blk j B h3;exact ⟨newMine _ g1,g2,vs,g3,g4,g5⟩
 ·intro j L hj;rcases GU hs hj with ⟨h1,h2,h3⟩ | ⟨_,h3⟩
  ·obtain ⟨g0,vss,g1,g2,g3,g4⟩:=E.slc j L h3;rw [hσ j h1];exact ⟨g0,vss,F9 hle.sl _ _ _ g1,g2,uf g3 fun g hg=>h.block g (E.slc_lt h3 hg) (keepS j L g h3 h2 hg),fun g hg=>⟨(g4 g hg).1,(h.hold g (E.slc_lt h3 hg) (keepS j L g h3 h2 hg)).trans (g4 g hg).2⟩⟩
  ·obtain ⟨g0,vss,g1,g2,g3,g4⟩:=h.slc j L h3;exact ⟨g0,vss,g1,g2,g3,fun g hg=>⟨newMine _ (g4 g hg).1,(g4 g hg).2⟩⟩
 ·intro i j B C hi hj e;rcases GU hb hi with ⟨h1,h2,h3⟩ | ⟨_,h3⟩<;>rcases GU hb hj with ⟨k1,k2,k3⟩ | ⟨_,k3⟩
  ·rw [hρ i h1,hρ j k1] at e;exact E.d1 i j B C h3 k3 e
  ·rw [hρ i h1] at e;exact absurd e.symm (apart _ _ (h.blk j C k3).1 (E.blk_lt h3) (Fb i B h3 h2))
  ·rw [hρ j k1] at e;exact absurd e (apart _ _ (h.blk i B h3).1 (E.blk_lt k3) (Fb j C k3 k2))
  ·exact h.d1 i j B C h3 k3 e
 ·intro i j B L hi hj;rcases GU hb hi with ⟨h1,h2,h3⟩ | ⟨_,h3⟩<;>rcases GU hs hj with ⟨k1,k2,k3⟩ | ⟨_,k3⟩
  ·rw [hρ i h1,hσ j k1];exact E.d2 i j B L h3 k3
  ·rw [hρ i h1];intro e;obtain ⟨_,_,_,_,_,g4⟩:=h.slc j L k3;exact apart _ _ (g4 _ e).1 (E.blk_lt h3) (Fb i B h3 h2) rfl
  ·rw [hσ j k1];intro e;exact apart _ _ (h.blk i B h3).1 (E.slc_lt k3 e) (keepS j L _ k3 k2 e) rfl
  ·exact h.d2 i j B L h3 k3
 ·intro i j L N g hi hj e1 e2;rcases GU hs hi with ⟨h1,h2,h3⟩ | ⟨_,h3⟩<;>rcases GU hs hj with ⟨k1,k2,k3⟩ | ⟨_,k3⟩
  ·rw [hσ i h1] at e1;rw [hσ j k1] at e2;exact E.d3 i j L N g h3 k3 e1 e2
  ·rw [hσ i h1] at e1;obtain ⟨_,_,_,_,_,g4⟩:=h.slc j N k3;exact absurd rfl (apart _ _ (g4 g e2).1 (E.slc_lt h3 e1) (keepS i L g h3 h2 e1))
  ·rw [hσ j k1] at e2;obtain ⟨_,_,_,_,_,g4⟩:=h.slc i L h3;exact absurd rfl (apart _ _ (g4 g e1).1 (E.slc_lt k3 e2) (keepS j N g k3 k2 e2))
  ·exact h.d3 i j L N g h3 k3 e1 e2
theorem Yt {f:Nat} {xs:List X} {args:List AV} {v:AV} {bs bs':List (Option Blk)} {ss ss':List (Option Sl)} (E J:List Bool) (hf:CL c.P f args bs ss v bs' ss') (h8:Ax E S.bs=bs) (h9:Ax J S.ss=ss)
  (ha:AV.le.leL (B6 S xs) args):B3 c S (.call f xs) v ⟨S.tm,BA E S.bs bs',BA J S.ss ss'⟩:=by
 subst h8;subst h9;intro ro ho M a w hT next Q hn
 obtain ⟨dst,op,ty,pos,af,gd⟩:=ro;dsimp only at ho;obtain ⟨cargs,argTypes,rfl,hw,rfl⟩:=LW ho;have hm:=Et _ _ _ ha (Ge hT cargs.toList);obtain ⟨f1,f2,f3⟩:=hf;have hc:=f3 M w _ (gr hT.st E J) hm;have h6:(execOp a.eval ⟨dst,.call ⟨.value (.func f),cargs,argTypes⟩,ty,pos,af,gd⟩).run c.P w = .ok (.enter f (cargs.map a.eval)) w:=by have he:a.eval (.func f) = .func (.func f) #[] #[]:=rfl;generalize a.eval=ρ at *;simp [execOp,resolve,Deferred.ofValue,invoke,he,I2 hw]
 unfold Oper.wp;rw [h6];show Calls c.P f (cargs.map a.eval) w _;have e1:(cargs.toList.map a.eval).toArray=cargs.map a.eval:=by apply Array.ext';simp
 rw [←e1];refine hc.mono ?_;rintro e w' ⟨u,M',rfl,h1,h2⟩;obtain ⟨hle,hS⟩:=gt hT.st f1 f2 h1;exact hn M' w' u hle hS h2
theorem IR {d:Option Nat} {g:Option (Nat×Bool)} {l:List EOp} {f:Nat} {xs:List X} {args:List AV} {v:AV} {bs bs':List (Option Blk)} {ss ss':List (Option Sl)} (E J:List Bool) (hg:gm S g) (hf:CL c.P f args bs ss v bs' ss') (h6:Ax E S.bs=bs:=by rfl) (h8:Ax J S.ss=ss:=by rfl)
  (ha:AV.le.leL (B6 S xs) args:=by first | exact AA _ | simp [go_sem]) (h:V c fn K (.ops l::k) ((⟨S.tm,BA E S.bs bs',BA J S.ss ss'⟩:St).put d v)):V c fn K (.ops (⟨d,g,.call f xs⟩::l)::k) S:=
 Ba hg (Yt E J hf h6 h8 ha) rfl h
theorem wE {f:Nat} {o:X} {xs:List X} {caps args:List AV} {v:AV} {bs bs':List (Option Blk)} {ss ss':List (Option Sl)} (E J:List Bool) (ho:S.x o = .clo f caps) (hf:CL c.P f args bs ss v bs' ss')
  (h9:(c.P.funcs[f]?).any (fun fn=>fn.body.isSome&&!(fn.name == "runtime.NumGoroutine"))=true) (hw:Ax E S.bs=bs) (hA:Ax J S.ss=ss)
  (ha:AV.le.leL (B6 S xs++caps) args):B3 c S (.callv o xs) v ⟨S.tm,BA E S.bs bs',BA J S.ss ss'⟩:=by
 subst hw;subst hA;intro ro h6 M a w hT next Q hn
 obtain ⟨dst,op,ty,pos,af,gd⟩:=ro;dsimp only at h6;obtain ⟨t,cargs,argTypes,rfl,rfl,rfl⟩:=Zg h6;have hx:=Au hT (.tmp t);rw [show S.x (cX (.tmp t)) = .clo f caps from ho] at hx;obtain ⟨cv,hx1,hB⟩:=hx;have hm:=Et _ _ _ ha (Dw (Ge hT cargs.toList) hB);obtain ⟨f1,f2,f3⟩:=hf;have hc:=f3 M w _ (gr hT.st E J) hm;have h8:(execOp a.eval ⟨dst,.call ⟨.value (.tmp t),cargs,argTypes⟩,ty,pos,af,gd⟩).run c.P w = .ok (.enter f (cargs.map a.eval++cv.toArray)) w:=by generalize a.eval=ρ at *;simp [execOp,resolve,Deferred.ofValue,invoke,hx1,I2 h9]
 unfold Oper.wp;rw [h8];show Calls c.P f (cargs.map a.eval++cv.toArray) w _;have e1:(cargs.toList.map a.eval++cv).toArray=cargs.map a.eval++cv.toArray:=by apply Array.ext';simp
 rw [←e1];refine hc.mono ?_;rintro e w' ⟨u,M',rfl,h1,h2⟩;obtain ⟨hle,hS⟩:=gt hT.st f1 f2 h1;exact hn M' w' u hle hS h2
theorem H8 {d:Option Nat} {g:Option (Nat×Bool)} {l:List EOp} {f:Nat} {o:X} {xs:List X} {caps args:List AV} {v:AV} {bs bs':List (Option Blk)} {ss ss':List (Option Sl)} (E J:List Bool) (hg:gm S g) (ho:S.x o = .clo f caps) (hf:CL c.P f args bs ss v bs' ss')
  (h6:(c.P.funcs[f]?).any (fun fn=>fn.body.isSome&&!(fn.name == "runtime.NumGoroutine"))=true) (h8:Ax E S.bs=bs:=by rfl) (h9:Ax J S.ss=ss:=by rfl)
  (ha:AV.le.leL (B6 S xs++caps) args:=by first | exact AA _ | simp [go_sem]) (h:V c fn K (.ops l::k) ((⟨S.tm,BA E S.bs bs',BA J S.ss ss'⟩:St).put d v)):V c fn K (.ops (⟨d,g,.callv o xs⟩::l)::k) S:=
 Ba hg (wE E J ho hf h6 h8 h9 ha) rfl h
end
end NX
end Go.Proofs.YtgnjledocpbchaaGreat
/-
  The symbolic machine: slices made; own slices cut; elements of own slices in drawn regions. No statement of the seat is proved here.
-/
namespace Go.Proofs.YtgnjledocpbchaaGreat
namespace NX
open Go Go.RowKit
def Ow {α:Type} (b:Nat) (n:Int) (z:α):Option (List α):=if 0≤n∧b*n≤281474976710656∧n≤9223372036854775807 then some (List.replicate n.toNat z) else none
theorem ti {α:Type} {b:Nat} {n:Int} {z:α} {l:List α} (h:Ow b n z=some l):l=List.replicate n.toNat z∧0≤n∧b*n≤281474976710656∧n≤9223372036854775807:=by
 unfold Ow at h;split at h
 ·rename_i h1;simp at h;exact ⟨h.symm,h1⟩
 ·simp at h
theorem oC {P:Program} {op:Op} {e n b:Nat} {z:List AV} {x y:X} (ho:cO P op = .mks e n b z x y):
  ∃T p q i u,op = .makeSlice T p q∧P.underlying T=some (.slice e)∧P.info? e=some i∧i.zero=some u∧u.cells.size=n∧i.size=n∧0<n∧i.bytes=b∧z=u.cells.toList.map DB∧cX p=x∧cX q=y:=by
 cases op
 case makeSlice T p q=>
  simp only [cO] at ho;split at ho
  ·rename_i e' hu;split at ho
   ·rename_i i hi;split at ho
    ·rename_i u hz;split at ho
     ·rename_i hs;simp only [EO.mks.injEq] at ho;obtain ⟨rfl,rfl,rfl,rfl,rfl,rfl⟩:=ho;exact ⟨T,p,q,i,u,rfl,hu,hi,hz,hs.1,rfl,hs.2,rfl,rfl,rfl,rfl⟩
     ·simp at ho
    ·simp at ho
   ·simp at ho
  ·simp at ho
 all_goals (simp only [cO] at ho;(repeat' (split at ho))<;>simp at ho)
theorem Py {M:Mem} {z:List AV} {vs:List Value} (h:AV.isL M z vs):∀k,AV.isLL M vs.length (List.replicate k z) (List.replicate k vs)
 | 0=>rfl
 | k+1=>⟨vs,_,rfl,rfl,h,Py h k⟩
section
variable {c:Ctx} {M:Mem} {S S':St} {a:Act} {w:World} {fn:Func} {K:AV→List (Option Blk)→List (Option Sl)→Prop} {k:List It}
theorem m9 {v:Value} (h:(DB v).one=true):v.oneCell'=true:=by unfold DB at h;split at h<;>first | rfl | simp [AV.one] at h
theorem wK {e n b:Nat} {z:List AV} {x y:X} {m:Int} (hx:S.x x = .iv m) (hy:S.x y = .iv m) (h0:0≤m) (hb:b*m≤281474976710656) (hI:m≤9223372036854775807) (hw:CA z=true):
  B3 c S (.mks e n b z x y) (.osl (Ah S.ss)) ⟨S.tm,S.bs,S.ss++[some ⟨e,n,List.replicate m.toNat z⟩]⟩:=by
 intro ro h9 M a w h6 next Q hC
 obtain ⟨dst,op,ty,pos,af,gd⟩:=ro;dsimp only at h9;obtain ⟨T,p,q,i,u,rfl,hu,hi,hz,hn,hD,hE,rfl,rfl,rfl,rfl⟩:=oC h9;have k1:=Au h6 p;have k2:=Au h6 q;rw [hx] at k1;rw [hy] at k2;obtain ⟨k,rfl⟩:∃k:Nat,m=k:=⟨m.toNat,Om⟩
 have hS:=h6.st;have hb':i.bytes*k≤281474976710656:=by
  have:((i.bytes*k:Nat):Int)≤281474976710656:=by rw [Int.natCast_mul];exact hb
  omega
 obtain ⟨w',r1,r2,r3⟩:=run_make_full (P:=c.P) (w:=w) 0 T e i u n hu hi hz hD .i64 .i64 k hb' (by unfold maxLen;omega) (Nat.zero_le _);have hA:(execOp a.eval ⟨dst,.makeSlice T p q,ty,pos,af,gd⟩).run c.P w = .ok (.value (.slice (some ⟨w.heap.size,0,none⟩) k k)) w':=by generalize a.eval=ρ at *;simp [execOp,show ρ p = .int .i64 k from k1,show ρ q = .int .i64 k from k2,r1]
 unfold Oper.wp;rw [hA];have hG:(madeCells u.cells (k*n)).toList=(List.replicate k u.cells.toList).flatten:=by rw [←hn];exact YI u.cells k
 have hB:u.cells.toList.length=n:=by simpa using hn
 have hv:=Py (FU M.sl u.cells.toList) k;rw [hB] at hv;have h8:∀v∈u.cells.toList,v.oneCell'=true:=by
  have:∀l:List Value,CA (l.map DB)=true→∀v∈l,v.oneCell'=true:=by
   intro l;induction l with
   | nil=>simp
   | cons v l ih=>
     intro h u hu;simp only [List.map_cons,CA,AS] at h;rcases List.mem_cons.1 hu with rfl | hu
     ·exact m9 h.1
     ·exact ih h.2 u hu
  exact this _ hw
 have hr:RelS c (M.addS (.slice (some ⟨w.heap.size,0,none⟩) k k)) S.bs (S.ss++[some (⟨e,n,List.replicate k (u.cells.toList.map DB)⟩:Sl)]) w':=by
  refine RelS.grown (v:=.slice none 0 0) (vss:=List.replicate k u.cells.toList) hS rfl ?_ (.inl rfl) ?_ r3 (.inr fun g hg=>?_) hE hv ?_ ?_
  ·intro i N hi;exact ⟨hi,fun g hg=>by simp [Value.ownBlock] at hg⟩
  ·intro g hg;simp [Value.ownBlock] at hg
  ·simp [Value.ownBlock] at hg;omega
  ·intro v hv;simp only [List.mem_flatten,List.mem_replicate] at hv;obtain ⟨l,⟨_,rfl⟩,hv⟩:=hv;exact h8 v hv
  ·rw [←hG,List.length_replicate];exact r2
 refine hC _ w' _ (Mem.le_addS M _) (by simpa using hr) ?_;rw [Bl,←hS.ns];exact ⟨Nat.lt_succ_self _,by simp [Mem.addS]⟩
theorem nh {α:Type} {l':List α} {m:Int} {y:α} {d:Option Nat} {g:Option (Nat×Bool)} {l:List EOp} {e n b:Nat} {z:List AV} {p q:X} (f:α→List AV) (hv:Ow b m y=some l') (hg:gm S g) (hx:S.x p = .iv m) (hy:S.x q = .iv m) (hz:f y=z) (h6:CA z=true)
  (h:V c fn K (.ops l::k) ((⟨S.tm,S.bs,S.ss++[some ⟨e,n,l'.map f⟩]⟩:St).put d (.osl (Ah S.ss)))):V c fn K (.ops (⟨d,g,.mks e n b z p q⟩::l)::k) S:=by
 obtain ⟨rfl,h0,h1,h2⟩:=ti hv;rw [List.map_replicate,hz] at h;exact Ba hg (wK hx hy h0 h1 h2 h6) rfl h
theorem wJ {n j:Nat} {x:X} {lo hi:Option X} {m:Int} {L:Sl} (hx:S.x x = .osl j) (hj:Ab S.ss j=some L) (hn:L.n=n) (hE:Bb S lo 0=some 0) (hG:Bb S hi L.rows.length=some m) (h0:0≤m) (h1:m≤L.rows.length):
  B3 c S (.slice n x lo hi) (.osl (Ah S.ss)) ⟨S.tm,S.bs,Av S.ss j none++[some ⟨L.T,n,L.rows.take m.toNat⟩]⟩:=by
 subst hn;intro ro hA M a w hw next Q hI
 obtain ⟨dst,op,ty,pos,af,gd⟩:=ro;dsimp only at hA;obtain ⟨T,y,l,h,e,rfl,hu,hs,rfl,rfl,rfl⟩:=Hd hA;have hS:=hw.st;have k1:=Au hw y;rw [hx] at k1;obtain ⟨g0,vss,q1,q2,q3,q4⟩:=hS.slc j L hj;have hB:∀(o:Option Operand) (z r:Int),Bb S (o.map cX) z=some r→match o with | none=>r=z | some o=>a.eval o = .int .i64 r:=by
  intro o z r hb;cases o with
  | none=>simpa [Bb] using hb.symm
  | some o=>
    simp only [Option.map_some,Bb] at hb;have:=Au hw o;split at hb
    ·rename_i n' hn';rw [hn'] at this;simp at hb;subst hb;exact this
    ·simp at hb
 have e1:=hB l 0 0 hE;have e2:=hB h L.rows.length m hG;obtain ⟨hJ,hK⟩:=Gy q1;have hC:∃v',(execOp a.eval ⟨dst,.slice T y l h none,ty,pos,af,gd⟩).run c.P w = .ok (.value v') w∧v'.ownBlock=(M.σ j).ownBlock∧w.ownsRow 0 L.T L.n v' (L.rows.take m.toNat).length (vss.take m.toNat).flatten:=by
  have h8:(L.rows.take m.toNat).length=m.toNat:=by rw [List.length_take];omega
  have hD:(vss.take m.toNat).flatten=vss.flatten.take (m.toNat*L.n):=by
   have:∀(q:List (List Value)) (k:Nat),(∀v∈q,v.length=L.n)→(q.take k).flatten=q.flatten.take (k*L.n):=by
    intro q;induction q with
    | nil=>intro k _;simp
    | cons v q ih=>
      intro k hq;cases k with
      | zero=>simp
      | succ k=>have hv:=hq v (by simp);rw [List.take_succ_cons,List.flatten_cons,List.flatten_cons,ih k fun u hu=>hq u (by simp [hu]),show (k+1)*L.n=v.length+k*L.n by rw [hv,Nat.add_mul];omega,List.take_length_add_append]
   exact this vss m.toNat hJ
  have h9:(vss.take m.toNat).flatten.length=m.toNat*L.n:=by have:=E1 (G1 q1 0 m.toNat);simp only [List.drop_zero] at this;rw [this,h8]
  rcases q3.2 with ⟨r1,r2⟩ | ⟨g,cap,cur,r1,r2,r3,r4,r5,r6,r7⟩
  ·have hm:m=0:=by omega
   subst hm;have h6:=LD (P:=c.P) (w:=w) hu hs (ρ:=a.eval) (ad:=none) (len:=0) (cp:=0) (lo:=0) (hi:=0) (k1.2.trans r1) (Nat.le_refl _) e1 (by rw [r2] at e2;exact e2) Om Om Om dst ty pos af gd;refine ⟨_,h6,by rw [r1];simp [Value.ownBlock],⟨by rw [h9,h8],.inl ⟨by simp,by simp⟩⟩⟩
  ·have h6:=LD (P:=c.P) (w:=w) hu hs (ρ:=a.eval) (ad:=some ⟨g,0,none⟩) (len:=L.rows.length) (cp:=cap) (lo:=0) (hi:=m) (k1.2.trans r1) r4 e1 e2 Om h0 h1 dst ty pos af gd;refine ⟨_,h6,by rw [r1];simp only [Option.map];split<;>simp [Value.ownBlock,Addr.add],⟨by rw [h9,h8],.inr ⟨g,cap,cur,?_,r2,r3,by rw [h8];omega,r5,r6,?_⟩⟩⟩
   ·rw [h8];simp only [Option.map,Int.toNat_zero,Nat.zero_mul,Nat.sub_zero];split<;>simp [Addr.add]
   ·rw [h8,hD,←r7,List.take_take,Nat.min_eq_left (Nat.mul_le_mul_right _ Om)]
 obtain ⟨v',h6,hb,ho⟩:=hC;unfold Oper.wp;rw [h6];have hr:RelS c (M.addS v') S.bs (Av S.ss j none++[some (⟨L.T,L.n,L.rows.take m.toNat⟩:Sl)]) w:=by
  refine RelS.grown (v:=M.σ j) (vss:=vss.take m.toNat) hS (Dg _ _ _) ?_ (.inr fun i B hi=>hS.d2 i j B L hi hj) q4 ⟨rfl,rfl,rfl,Nat.le_refl _,fun _ _ _=>rfl⟩ (.inl hb) g0 (by have:=G1 q1 0 m.toNat;simpa using this) ?_ ho
  ·intro i N hi;rw [Dz] at hi;split at hi
   ·simp at hi
   ·rename_i e;refine ⟨hi,fun g hg e2=>e ⟨?_,CD hj⟩⟩;exact hS.d3 i j N L g hi hj e2 hg
  ·intro v hv;simp only [List.mem_flatten] at hv;obtain ⟨r,hr,hv⟩:=hv;exact q2 v (List.mem_flatten.2 ⟨r,List.mem_of_mem_take hr,hv⟩)
 refine hI _ w _ (Mem.le_addS M _) hr ?_;rw [Bl,←hS.ns];exact ⟨Nat.lt_succ_self _,by simp [Mem.addS]⟩
theorem P9 {α:Type} {l' v:List α} {m:Int} {d:Option Nat} {g:Option (Nat×Bool)} {l:List EOp} {T n j:Nat} {x:X} {lo hi:Option X} (f:α→List AV) (hv:D3 l' 0 m=some v) (hg:gm S g) (hx:S.x x = .osl j) (hj:Ab S.ss j=some ⟨T,n,l'.map f⟩) (h6:Bb S lo 0=some 0) (h8:Bb S hi (ln f l')=some m)
  (h:V c fn K (.ops l::k) ((⟨S.tm,S.bs,Av S.ss j none++[some ⟨T,n,v.map f⟩]⟩:St).put d (.osl (Ah S.ss)))):V c fn K (.ops (⟨d,g,.slice n x lo hi⟩::l)::k) S:=by
 unfold D3 at hv;split at hv
 ·rename_i h1;simp at hv;subst hv;rw [List.map_take] at h;exact Ba hg (wJ hx hj rfl h6 h8 h1.2.1 (by simpa using h1.2.2)) rfl h
 ·simp at hv
theorem wM {n:Nat} {x:X} {lo hi:Option X} (hx:S.x x = .nl) (hA:Bb S lo 0=some 0) (hB:Bb S hi 0=some 0):B3 c S (.slice n x lo hi) .nl S:=by
 intro ro h8 M a w h6 next Q hC
 obtain ⟨dst,op,ty,pos,af,gd⟩:=ro;dsimp only at h8;obtain ⟨T,y,l,h,e,rfl,hu,hs,rfl,rfl,rfl⟩:=Hd h8;have k1:=Au h6 y;rw [hx] at k1;have h9:∀(o:Option Operand) (z r:Int),Bb S (o.map cX) z=some r→match o with | none=>r=z | some o=>a.eval o = .int .i64 r:=by
  intro o z r hb;cases o with
  | none=>simpa [Bb] using hb.symm
  | some o=>
    simp only [Option.map_some,Bb] at hb;have:=Au h6 o;split at hb
    ·rename_i n' hn';rw [hn'] at this;simp at hb;subst hb;exact this
    ·simp at hb
 have hw:=LD (P:=c.P) (w:=w) hu hs (ρ:=a.eval) (ad:=none) (len:=0) (cp:=0) (lo:=0) (hi:=0) k1 (Nat.le_refl _) (h9 l 0 0 hA) (h9 h 0 0 hB) Om Om Om dst ty pos af gd;unfold Oper.wp;rw [hw];exact hC M w _ (.refl M) h6.st (by simp [AV.is])
theorem dz {d:Option Nat} {g:Option (Nat×Bool)} {l:List EOp} {n:Nat} {x:X} {lo hi:Option X} (hg:gm S g) (hx:S.x x = .nl) (h6:Bb S lo 0=some 0) (h8:Bb S hi 0=some 0) (h:V c fn K (.ops l::k) (S.put d .nl)):V c fn K (.ops (⟨d,g,.slice n x lo hi⟩::l)::k) S:=Ba hg (wM hx h6 h8) rfl h
theorem en {P:Program} {op:Op} {x:X} (ho:cO P op = .cap x):∃q ats t0 e,op = .call ⟨.builtin .cap, #[q],ats⟩∧ats[0]?=some t0∧P.underlying t0=some (.slice e)∧cX q=x:=by
 cases op
 case call ci=>
  obtain ⟨callee,cargs,argTypes⟩:=ci;cases callee with
  | value o=>
    cases o with
    | func f'=>simp only [cO] at ho;(repeat' (split at ho))<;>simp at ho
    | _=>simp [cO] at ho
  | invoke _ _=>simp [cO] at ho
  | builtin b=>
    cases b
    case cap=>
     simp only [cO] at ho;split at ho
     ·rename_i t0 q h1 h2;split at ho
      ·rename_i e hu;simp only [EO.cap.injEq] at ho;have e1:cargs = #[q]:=by apply Array.ext';simpa using h2
       subst e1;exact ⟨q,argTypes,t0,e,rfl,h1,hu,ho⟩
      ·simp at ho
     ·simp at ho
    all_goals (simp only [cO] at ho;(repeat' (split at ho))<;>simp at ho)
 all_goals (simp only [cO] at ho;(repeat' (split at ho))<;>simp at ho)
theorem wF {x:X} (hx:S.x x = .nl):B3 c S (.cap x) (.iv 0) S:=by
 intro ro h6 M a w h8 next Q hw
 obtain ⟨dst,op,ty,pos,af,gd⟩:=ro;dsimp only at h6;obtain ⟨q,ats,t0,e,rfl,h0,hu,rfl⟩:=en h6;have k1:=Au h8 q;rw [hx] at k1;simp only [AV.is] at k1;have h9:(execOp a.eval ⟨dst,.call ⟨.builtin .cap, #[q],ats⟩,ty,pos,af,gd⟩).run c.P w = .ok (.value (.int .i64 0)) w:=by generalize a.eval=ρ at *;simp [execOp,resolve,invoke,builtin,Builtin.cap_,h0,run_underlying hu,k1];rfl
 unfold Oper.wp;rw [h9];exact hw M w _ (.refl M) h8.st rfl
theorem U9 {d:Option Nat} {g:Option (Nat×Bool)} {l:List EOp} {x:X} (hg:gm S g) (hx:S.x x = .nl) (h:V c fn K (.ops l::k) (S.put d (.iv 0))):V c fn K (.ops (⟨d,g,.cap x⟩::l)::k) S:=Ba hg (wF hx) rfl h
theorem ef {P:Program} {op:Op} {e n b:Nat} {z:List AV} {x y:X} (ho:cO P op = .apz e n b z x y):
  ∃t tn k p q i u,op = .call ⟨.builtin .append, #[p,q], #[t,tn]⟩∧P.underlying t=some (.slice e)∧P.underlying tn=some (.int k)∧P.info? e=some i∧i.zero=some u∧u.cells.size=n∧i.size=n∧0<n∧i.bytes=b∧z=u.cells.toList.map DB∧cX p=x∧cX q=y:=by
 cases op
 case call ci=>
  obtain ⟨callee,cargs,argTypes⟩:=ci;cases callee with
  | value o=>
    cases o with
    | func f'=>simp only [cO] at ho;(repeat' (split at ho))<;>simp at ho
    | _=>simp [cO] at ho
  | invoke _ _=>simp [cO] at ho
  | builtin b=>
    cases b
    case append=>
     simp only [cO] at ho;split at ho
     ·rename_i t0 t1 p q h1 h2;split at ho
      ·(repeat' (split at ho))<;>simp at ho
      ·split at ho
       ·rename_i e' k hu hk;split at ho
        ·rename_i i hi;split at ho
         ·rename_i u hz;split at ho
          ·rename_i hs;simp only [EO.apz.injEq] at ho;obtain ⟨rfl,rfl,rfl,rfl,rfl,rfl⟩:=ho;have e1:cargs = #[p,q]:=by apply Array.ext';simpa using h2
           have e2:argTypes = #[t0,t1]:=by apply Array.ext';simpa using h1
           subst e1;subst e2;exact ⟨t0,t1,k,p,q,i,u,rfl,hu,hk,hi,hz,hs.1,rfl,hs.2,rfl,rfl,rfl,rfl⟩
          ·simp at ho
         ·simp at ho
        ·simp at ho
       ·simp at ho
     ·simp at ho
    all_goals (simp only [cO] at ho;(repeat' (split at ho))<;>simp at ho)
 all_goals (simp only [cO] at ho;(repeat' (split at ho))<;>simp at ho)
def LQ {α:Type} (b:Nat) (n:Int) (z:α):Option (List α):=if 0<n∧n*b≤140737488355328∧n≤9223372036854775807 then some (List.replicate n.toNat z) else none
theorem wB {e n b:Nat} {z:List AV} {x y:X} {m:Int} (hx:S.x x = .nl) (hy:S.x y = .iv m) (h0:0<m) (hb:m*b≤140737488355328) (hG:m≤9223372036854775807) (hB:CA z=true):
  B3 c S (.apz e n b z x y) (.osl (Ah S.ss)) ⟨S.tm,S.bs,S.ss++[some ⟨e,n,List.replicate m.toNat z⟩]⟩:=by
 intro ro hA M a w h8 next Q hI
 obtain ⟨dst,op,ty,pos,af,gd⟩:=ro;dsimp only at hA;obtain ⟨t,tn,kk,p,q,i,u,rfl,hu,hk,hi,hz,hn,hL,hJ,rfl,rfl,rfl,rfl⟩:=ef hA;have k1:=Au h8 p;have k2:=Au h8 q;rw [hx] at k1;rw [hy] at k2;simp only [AV.is] at k1 k2;obtain ⟨k,rfl⟩:∃k:Nat,m=k:=⟨m.toNat,Om⟩
 have hS:=h8.st;have hb':k*i.bytes≤140737488355328:=by
  have:((k*i.bytes:Nat):Int)≤140737488355328:=by rw [Int.natCast_mul];exact hb
  omega
 have r1:=Lib.run_append_nil_zeros (P:=c.P) w t tn ty e i u .i64 kk hu hk hi hz k Om Om hG Om;have hC:(execOp a.eval ⟨dst,.call ⟨.builtin .append, #[p,q], #[t,tn]⟩,ty,pos,af,gd⟩).run c.P w = .ok (.value (.slice (some ⟨w.heap.size,0,none⟩) k (grownCap w k 0 e))) (w.drew.alloc (.cells (Builtin.zeroCells u.cells k++Builtin.zeroCells u.cells (grownCap w k 0 e-k)) e)):=by generalize a.eval=ρ at *;simp [execOp,resolve,invoke,builtin,k1,k2,r1]
 unfold Oper.wp;rw [hC];have h9:∀k,(Builtin.zeroCells u.cells k).toList=(List.replicate k u.cells.toList).flatten:=fun k=>YI u.cells k;have hD:u.cells.toList.length=n:=by simpa using hn
 have hv:=Py (FU M.sl u.cells.toList) k;rw [hD] at hv;have hw:∀v∈u.cells.toList,v.oneCell'=true:=by
  have:∀l:List Value,CA (l.map DB)=true→∀v∈l,v.oneCell'=true:=by
   intro l;induction l with
   | nil=>simp
   | cons v l ih=>
     intro h u hu;simp only [List.map_cons,CA,AS] at h;rcases List.mem_cons.1 hu with rfl | hu
     ·exact m9 h.1
     ·exact ih h.2 u hu
  exact this _ hB
 have hK:=grownCap_ge w k 0 e;have hE:=grownCap_le_maxLen w k 0 e (by unfold maxLen;omega);have h6:∀q,(Builtin.zeroCells u.cells q).size=q*n:=by intro q;simp [Builtin.zeroCells,hn]
 have hg:w.grownBy (w.drew.alloc (.cells (Builtin.zeroCells u.cells k++Builtin.zeroCells u.cells (grownCap w k 0 e-k)) e)) none:=by
  refine ⟨rfl,rfl,rfl,?_,fun j hj _=>?_⟩
  ·show w.heap.size≤(w.heap.push _).size;simp
  ·show (w.heap.push _)[j]?=_;rw [Array.getElem?_push,if_neg Om]
 have hr:RelS c (M.addS (.slice (some ⟨w.heap.size,0,none⟩) k (grownCap w k 0 e))) S.bs (S.ss++[some (⟨e,n,List.replicate k (u.cells.toList.map DB)⟩:Sl)]) (w.drew.alloc (.cells (Builtin.zeroCells u.cells k++Builtin.zeroCells u.cells (grownCap w k 0 e-k)) e)):=by
  refine RelS.grown (v:=.slice none 0 0) (vss:=List.replicate k u.cells.toList) hS rfl ?_ (.inl rfl) ?_ hg (.inr fun g hg=>?_) hJ hv ?_ ?_
  ·intro i N hi;exact ⟨hi,fun g hg=>by simp [Value.ownBlock] at hg⟩
  ·intro g hg;simp [Value.ownBlock] at hg
  ·simp [Value.ownBlock] at hg;omega
  ·intro v hv;simp only [List.mem_flatten,List.mem_replicate] at hv;obtain ⟨l,⟨_,rfl⟩,hv⟩:=hv;exact hw v hv
  ·rw [List.length_replicate];refine ⟨by rw [←h9];simp [h6],.inr ⟨w.heap.size,grownCap w k 0 e,Builtin.zeroCells u.cells k++Builtin.zeroCells u.cells (grownCap w k 0 e-k),rfl,Nat.zero_le _,?_,hK,hE,?_,?_⟩⟩
   ·show (w.heap.push _)[w.heap.size]?=_;rw [Array.getElem?_push,if_pos rfl]
   ·rw [Array.size_append,h6,h6,←Nat.add_mul];congr 1;omega
   ·rw [Array.toList_append,h9,List.take_left'];rw [←h9];simp [h6]
 refine hI _ _ _ (Mem.le_addS M _) (by simpa using hr) ?_;rw [Bl,←hS.ns];exact ⟨Nat.lt_succ_self _,by simp [Mem.addS]⟩
theorem du {α:Type} {l':List α} {m:Int} {y:α} {d:Option Nat} {g:Option (Nat×Bool)} {l:List EOp} {e n b:Nat} {z:List AV} {p q:X} (f:α→List AV) (hv:LQ b m y=some l') (hg:gm S g) (hx:S.x p = .nl) (hy:S.x q = .iv m) (hz:f y=z) (h6:CA z=true)
  (h:V c fn K (.ops l::k) ((⟨S.tm,S.bs,S.ss++[some ⟨e,n,l'.map f⟩]⟩:St).put d (.osl (Ah S.ss)))):V c fn K (.ops (⟨d,g,.apz e n b z p q⟩::l)::k) S:=by
 unfold LQ at hv;split at hv
 ·rename_i h1;simp at hv;subst hv;rw [List.map_replicate,hz] at h;exact Ba hg (wB hx hy h1.1 h1.2.1 h1.2.2 h6) rfl h
 ·simp at hv
section
variable {all:Array Oper} {ops:List EOp} {af:List (List Nat)} {Φ:St→Prop} {m:Nat} {ld:List Bool}
theorem mw (h6:all.toList.mapM (AO c.P all)=some ops) {i:Nat} {α:Type} {l':List α} {z:Int} {v:α} {T n j:Nat} {x y:X} (f:α→List AV) (hv:Ac l' z=some v) (ho:(Af ops i).o = .idx n x y) (hg:gm S (Af ops i).g) (hx:S.x x = .osl j) (hi:S.x y = .iv z) (hj:Ab S.ss j=some ⟨T,n,l'.map f⟩)
  (h:G c all ops af Φ m (Ay ld i) (S.put (Af ops i).d (.oel j (z.toNat*n) 0))):GO c all ops af Φ m ld S i:=by
 obtain ⟨h0,hr⟩:=DD hv;have:=(List.getElem?_eq_some_iff.1 hr).1;exact Bz h6 hg (by rw [ho];exact cz hx hi hj rfl h0 (by simp;omega)) rfl (CB _ _) h
theorem my (h6:all.toList.mapM (AO c.P all)=some ops) {i:Nat} {α:Type} {l':List α} {z:Int} {y:α} {j T n off:Nat} {x:X} {v:AV} (f:α→List AV) (hv:Ac l' z=some y) (ho:(Af ops i).o = .load x) (hg:gm S (Af ops i).g) (hx:S.x x = .oel j (z.toNat*n) off) (hj:Ab S.ss j=some ⟨T,n,l'.map f⟩)
  (hl:Db (f y) off 1=some [v]) (h:G c all ops af Φ m (Ay ld i) (S.put (Af ops i).d v)):GO c all ops af Φ m ld S i:=
 Bz h6 hg (by rw [ho];exact Yw hx hj rfl (FJ (DD hv).2) hl) rfl (CB _ _) h
theorem YK (h6:all.toList.mapM (AO c.P all)=some ops) {i:Nat} {α:Type} {l':List α} {z:Int} {y:α} {j T n off q:Nat} {x:X} {r:List AV} (f:α→List AV) (hv:Ac l' z=some y) (ho:(Af ops i).o = .loadA q x) (hg:gm S (Af ops i).g) (hx:S.x x = .oel j (z.toNat*n) off) (hj:Ab S.ss j=some ⟨T,n,l'.map f⟩)
  (hl:Db (f y) off q=some r) (h:G c all ops af Φ m (Ay ld i) (S.put (Af ops i).d (.agg r))):GO c all ops af Φ m ld S i:=
 Bz h6 hg (by rw [ho];exact cA hx hj rfl (FJ (DD hv).2) hl) rfl (CB _ _) h
theorem YM (h6:all.toList.mapM (AO c.P all)=some ops) {i:Nat} {α:Type} {l':List α} {z:Int} {y y':α} {j T n off q:Nat} {x v:X} {cs0:List AV} (cs:List AV) (f:α→List AV) (hv:Ac l' z=some y) (ho:(Af ops i).o = .store q x v) (hg:gm S (Af ops i).g) (hx:S.x x = .oel j (z.toNat*n) off) (hj:Ab S.ss j=some ⟨T,n,l'.map f⟩)
  (h8:(S.x v).cells=some cs0) (h9:AV.le.leL cs0 cs) (hm:Ah cs=q) (h1:CA cs=true) (hp:AB cs=true) (hl:BS (f y) off cs=some (f y'))
  (h:G c all ops af Φ m (Ay ld i) ((⟨S.tm,S.bs,Av S.ss j (some ⟨T,n,(l'.set z.toNat y').map f⟩)⟩:St).put (Af ops i).d .un)):GO c all ops af Φ m ld S i:=by
 refine Bz (S1:=⟨S.tm,S.bs,Av S.ss j (some ⟨T,n,(l'.set z.toNat y').map f⟩)⟩) h6 hg ?_ rfl (by rw [ho];exact fun _ _ _ _ h _ _=>h) h;rw [ho,List.map_set];exact cB hx hj rfl (FJ (DD hv).2) h8 h9 hm h1 (cH hp) hl
theorem mz (h6:all.toList.mapM (AO c.P all)=some ops) {i:Nat} {α:Type} {l':List α} {z:Int} {y y':α} {j T n off q:Nat} {x v:X} {cs0:List AV} (cs:List AV) (f:α→List AV) (hv:Ac (l'.set z.toNat y) z=some y) (ho:(Af ops i).o = .store q x v) (hg:gm S (Af ops i).g) (hx:S.x x = .oel j (z.toNat*n) off) (hj:Ab S.ss j=some ⟨T,n,(l'.set z.toNat y).map f⟩)
  (h8:(S.x v).cells=some cs0) (h9:AV.le.leL cs0 cs) (hm:Ah cs=q) (h1:CA cs=true) (hp:AB cs=true) (hl:BS (f y) off cs=some (f y'))
  (h:G c all ops af Φ m (Ay ld i) ((⟨S.tm,S.bs,Av S.ss j (some ⟨T,n,(l'.set z.toNat y').map f⟩)⟩:St).put (Af ops i).d .un)):GO c all ops af Φ m ld S i:=
 YM h6 cs f hv ho hg hx hj h8 h9 hm h1 hp hl (by rw [List.set_set];exact h)
end
end
section
variable {c:Ctx} {S:St} {fn:Func} {K:AV→List (Option Blk)→List (Option Sl)→Prop} {k:List It}
theorem YX (t:Nat) (y:AV) (hle:AV.le (AM S.tm t) y) (h:V c fn K k ⟨BC S.tm t y,S.bs,S.ss⟩):V c fn K k S:=by
 intro rk M a w hc hT;refine h rk M a w hc ⟨by rw [Ig];exact hT.len,fun u=>?_,hT.df,hT.st⟩;rw [Fc];split
 ·rename_i e;obtain ⟨rfl,_⟩:=e;exact Mi _ _ _ hle (hT.tm u)
 ·exact hT.tm u
theorem ni (T n:Nat) (hn:AF 1 n=true) (h:V c fn K k ⟨S.tm,S.bs,S.ss++[some ⟨T,n,[]⟩]⟩):V c fn K k S:=by intro rk M a w hc hT;have hS:=hT.st;rw [Da] at hn;have hr:=hS.name ⟨T,n,[]⟩ (.slice none 0 0) [] hn rfl (by simp) (World.ownsRow_nil w 0 T n) (fun g hg=>by simp [Value.ownBlock] at hg) (fun i B _=>by simp [Value.ownBlock]) (fun j N g _ hg=>by simp [Value.ownBlock] at hg);exact h rk _ a w hc ⟨hT.len,fun u=>Dx (Mem.le_addS M (.slice none 0 0)) _ _ (hT.tm u),hT.df,hr⟩
theorem FW {all:Array Oper} {ops:List EOp} {af:List (List Nat)} {Φ:St→Prop} {m:Nat} {ld:List Bool} (v':AV) (h6:all.toList.mapM (AO c.P all)=some ops) {i:Nat} {v:AV} {S1:St} {q:Prop} (he:I7 S (Af ops i)=some (v,S1,q)) (hq:q) (hle:AV.le v v')
  (h:G c all ops af Φ m (Ay ld i) (S1.put (Af ops i).d v')):GO c all ops af Φ m ld S i:=by
 unfold I7 at he;split at he
 ·rename_i hg;exact .inr ⟨ZA hg,v',S1,fun ro h8 M a w hT next Q hn=>Yv he hq ro (LX (OM h6 h8)).2 M a w hT next Q fun M' w' x h1 h2 h3=>hn M' w' x h1 h2 (Mi _ _ _ hle h3),(Ux he).1,.inl (Ux he).2,h⟩
 ·simp at he
end
end NX
end Go.Proofs.YtgnjledocpbchaaGreat
/-
  From what a machine computes to what a row says: arguments as data, and what is left of them. No statement of the seat is proved here.
-/
namespace Go.Proofs.YtgnjledocpbchaaGreat
namespace NX
open Go Go.RowKit Go.ChangeShapes Go.WideShapes
def Fz (P:Program) (t:TypeId) {α:Type} (row:α→List AV):Prop:=
 ∀ {H:Type} (enc:TypeId×Value→H) (w:World) (base:Nat) (sp:Nat→Bool) (h6:Bool) (fuel:Nat) (cs:List Value) (x:DataW H×List MemPlace),
   DataW.trod enc P w base sp h6 fuel t cs=some x→∃v:α,AV.isL (DL fun k=>w.heap[k]?) (row v) cs
theorem HM {P:Program} {t:TypeId} (ht:P.underlying t=some (.int .i64)):Fz P t Am:=by intro H enc w base sp h6 fuel cs x h;obtain ⟨n,rfl,_,_⟩:=DataW.trod_int ht h;exact ⟨n,_,_,rfl,rfl,rfl⟩
theorem tU {P:Program} {t:TypeId} (ht:P.underlying t=some .bool):Fz P t Zd:=by intro H enc w base sp h6 fuel cs x h;obtain ⟨n,rfl,_⟩:=DataW.trod_bool ht h;exact ⟨n,_,_,rfl,rfl,rfl⟩
theorem cells?_get {w:World} {E:Nat} {a:Addr} {n:Nat} {l:List Value} (h:w.cells? E a n=some l):l.length=n∧∀i v,l[i]?=some v→w.cell? (a.add i)=some v:=by
 unfold World.cells? at h;split at h
 ·obtain ⟨h1,h2⟩:=JR h;refine ⟨by simpa using h1,fun i v hv=>?_⟩;have hlt:i<n:=by have:=(List.getElem?_eq_some_iff.1 hv).1;simp at h1;omega
  obtain ⟨y,hy1,h6⟩:=h2 i i (by simp [hlt]);rw [hv] at hy1;simp at hy1;subst hy1;exact h6
 ·simp at h
theorem cell?_none {w:World} {a:Addr} {v:Value} (h:w.cell? a=some v):a.spot=none∧∃cs T fr,w.heap[a.block]?=some (.cells cs T fr)∧cs[a.off]?=some v:=by
 unfold World.cell? at h;split at h
 ·rename_i cs T fr hc;split at h
  ·simp at h
  ·rename_i hs;exact ⟨by cases h6:a.spot<;>simp_all,cs,T,fr,hc,h⟩
 ·simp at h
theorem rO {M:Mem} {l:List AV} {vs:List Value} (h:AV.isL M l vs) (hp:CA l=true) (ho:AB l=true):∀v∈vs,v.oneCell'=true:=by
 induction l generalizing vs with
 | nil=>simp [AV.isL] at h;subst h;simp
 | cons x l ih=>
   obtain ⟨v,r,rfl,h1,h2⟩:=h;simp only [CA,AS] at hp;simp only [AB,AS] at ho;intro u hu;rcases List.mem_cons.1 hu with rfl | hu
   ·exact bD h1 hp.1 (fun j e=>by subst e;simp [AV.pu] at ho)
   ·exact ih h2 hp.2 ho.2 u hu
theorem nN (a:Addr) (i k:Nat) (ha:a.spot=none):(a.add i).add k=⟨a.block,a.off+i+k,none⟩:=by obtain ⟨b,o,sp⟩:=a;dsimp only at ha;subst ha;simp [Addr.add];split<;>split<;>simp_all [Nat.add_assoc]
theorem bE {P:Program} {t e:TypeId} {n:Nat} {α:Type} {row:α→List AV} (ht:P.underlying t=some (.slice e)) (hn:P.cellsOf e=n) (hE:0<n) (h8:∀v,(row v).length=n∧CA (row v)=true∧AB (row v)=true) (he:Fz P e row):Fz P t (Ci n row):=by
 intro H enc w base sp hG fuel cs x h;rcases DataW.trod_slice ht h with ⟨rfl,_⟩ | ⟨a,len,cap,elems,rest,m,_,rfl,_,hb,hJ,hS,hT,h9,_,_⟩
 ·exact ⟨[],_,_,rfl,⟨none,0,rfl,⟨Nat.le_refl _,fun _=>rfl⟩,fun hne=>absurd rfl hne⟩,rfl⟩
 ·rw [hn] at h9;have each:∀i,i<len→∃v:α,∃l,w.cells? base (a.add (i*n)) n=some l∧AV.isL (DL fun k=>w.heap[k]?) (row v) l:=by
   intro i hi;have hg:=h9 i hi;have hA:∃y,elems[i]?=some y:=⟨_,List.getElem?_eq_getElem Om⟩
   obtain ⟨y,hy⟩:=hA;rw [hy,Option.bind_eq_some_iff] at hg;obtain ⟨l,hl,hd⟩:=hg;obtain ⟨v,hv⟩:=he enc w base sp hG m l y hd;exact ⟨v,l,hl,hv⟩
  have build:∀k,k≤len→∃(vs:List α) (vss:List (List Value)),vs.length=k∧AV.isLL (DL fun k=>w.heap[k]?) n (vs.map row) vss∧(∀v∈vss.flatten,v.oneCell'=true)∧
    ∀j u,vss.flatten[j]?=some u→∃i q,i<k∧q<n∧j=i*n+q∧w.cell? ((a.add (i*n)).add q)=some u:=by
   intro k;induction k with
   | zero=>intro _;exact ⟨[],[],rfl,rfl,by simp,by simp⟩
   | succ k ih=>
     intro hk;obtain ⟨vs,vss,h1,h2,h3,h4⟩:=ih Om;obtain ⟨v,l,hl,hv⟩:=each k Om;obtain ⟨hK,hL⟩:=cells?_get hl;refine ⟨vs++[v],vss++[l],by simp [h1],?_,?_,?_⟩
     ·rw [List.map_append];exact Jg h2 ⟨l,[],rfl,hK,hv,rfl⟩
     ·intro u hu;rw [List.flatten_append,List.mem_append] at hu;rcases hu with hu | hu
      ·exact h3 u hu
      ·exact rO hv (h8 v).2.1 (h8 v).2.2 u (by simpa using hu)
     ·intro j u hj;have hB:vss.flatten.length=k*n:=by have:=E1 h2;simpa [h1] using this
      rw [List.flatten_append] at hj;by_cases hN:j<vss.flatten.length
      ·rw [List.getElem?_append_left hN] at hj;obtain ⟨i,q,g1,g2,g3,g4⟩:=h4 j u hj;exact ⟨i,q,Om,g2,g3,g4⟩
      ·rw [List.getElem?_append_right Om,hB] at hj;simp only [List.flatten_cons,List.flatten_nil,List.append_nil] at hj;have hq:=(List.getElem?_eq_some_iff.1 hj).1;exact ⟨k,j-k*n,Om,Om,Om,hL _ _ hj⟩
  obtain ⟨vs,vss,h1,h2,h3,h4⟩:=build len (Nat.le_refl _);refine ⟨vs,_,[],rfl,⟨some a,cap,by simp [h1],⟨by simpa [h1] using hJ,fun h=>by simp at h⟩,fun hne=>⟨a,vss,rfl,h2,?_⟩⟩,rfl⟩;have hI:0<len:=by
   rcases Nat.eq_zero_or_pos len with h0 | h0
   ·exfalso;apply hne;rw [List.map_eq_nil_iff];exact List.length_eq_zero_iff.1 Om
   ·exact h0
  have hB:vss.flatten.length=len*n:=by have:=E1 h2;simpa [h1] using this
  have hR:0<len*n:=Nat.mul_pos hI hE;obtain ⟨u0,hO⟩:∃u,vss.flatten[0]?=some u:=⟨_,List.getElem?_eq_getElem Om⟩
  obtain ⟨i0,q0,_,_,e0,g0⟩:=h4 0 u0 hO;have hP:i0*n=0:=by omega
  have hQ:q0=0:=by omega
  rw [hP,hQ] at g0;have hC:a.spot=none:=(cell?_none (a:=a) (by simpa [Addr.add] using g0)).1;obtain ⟨_,cs0,T0,fr0,hw,_⟩:=cell?_none (a:=a) (by simpa [Addr.add] using g0);refine ⟨hC,h3,cs0,T0,fr0,hw,fun j u hj=>?_⟩;obtain ⟨i,q,g1,g2,g3,g4⟩:=h4 j u hj;rw [nN a _ _ hC] at g4;obtain ⟨_,cs1,T1,fr1,h6,hD⟩:=cell?_none g4;dsimp only at h6 hD;rw [hw] at h6;simp only [Option.some.injEq,Obj.cells.injEq] at h6;obtain ⟨rfl,_,_⟩:=h6;rw [g3,←Nat.add_assoc];exact hD
theorem nU {P:Program} {t:TypeId} {α:Type} {row:α→List AV} (ho:Fz P t row) {Y:Array Field} (ht:P.underlying t=some (.struct Y)) {H:Type} {enc:TypeId×Value→H} {w:World} {U:Nat} {r:Reach} {E:Nat} {J:Nat→Bool} {h6:Bool} {v:Value} {d:DataW H} {ps:List MemPlace}
  (hv:Value.okWide P w r U t v) (hd:DataW.Trod enc P w E J h6 t v d ps):∃x:α,AV.is (DL fun k=>w.heap[k]?) (.agg (row x)) v:=by
 obtain ⟨fuel,hf⟩:=hd;obtain ⟨x,hx⟩:=ho enc w E J h6 fuel _ _ hf;unfold Value.okWide at hv;rw [ht] at hv;obtain ⟨cs,rfl,_,_⟩:=hv;exact ⟨x,cs.toList,by simp,hx⟩
theorem nV {P:Program} {t e:TypeId} {n:Nat} {α:Type} {row:α→List AV} (ho:Fz P t (Ci n row)) (ht:P.underlying t=some (.slice e)) {H:Type} {enc:TypeId×Value→H} {w:World} {U:Nat} {r:Reach} {E:Nat} {J:Nat→Bool} {h6:Bool} {v:Value} {d:DataW H} {ps:List MemPlace}
  (hv:Value.okWide P w r U t v) (hd:DataW.Trod enc P w E J h6 t v d ps):∃x:List α,AV.is (DL fun k=>w.heap[k]?) (.sl n (x.map row)) v:=by
 obtain ⟨fuel,hf⟩:=hd;obtain ⟨x,hx⟩:=ho enc w E J h6 fuel _ _ hf;obtain ⟨a0,len,cap,rfl⟩:=okWide_slice ht hv;obtain ⟨u,q,h1,h2,_⟩:=hx;simp [Value.cells] at h1;exact ⟨x,by rw [h1.1];exact h2⟩
theorem lY {P:Program} {H:Type} {enc:TypeId×Value→H} (hl:laidOutB P=true) {W U:World} (Y:Below W.heap.size W U):∀ {E:List TypeId} {vs:List Value} {J:List (DataW H)} {ps:List MemPlace},
  (E.all fun t=>P.readableRec t&&decide (t<P.types.size))=true→DataW.TrodAll enc P W 0 (fun _=>true) true E vs J ps→(∀x∈ps,x.block<W.heap.size)→
  DataW.TrodAll enc P U 0 (fun b=>decide (b<W.heap.size)) true E vs J ps
 | [],[],[],ps,_,h,_=>h
 | t::E,v::vs,d::J,ps,hr,⟨p,q,h1,h2,e⟩,hlt=>by simp only [List.all_cons,Bool.and_eq_true,decide_eq_true_eq] at hr;subst e;exact ⟨p,q,Below.trod hl hr.1.1 hr.1.2 h1 Y (fun x hx=>hlt x (List.mem_append_left _ hx)),lY hl Y (by simpa using hr.2) h2 (fun x hx=>hlt x (List.mem_append_right _ hx)),rfl⟩
 | [],_::_,_,_,_,h,_=>by simp [DataW.TrodAll] at h
 | [],[],_::_,_,_,h,_=>by simp [DataW.TrodAll] at h
 | _::_,[],_,_,_,h,_=>by simp [DataW.TrodAll] at h
 | _::_,_::_,[],_,_,h,_=>by simp [DataW.TrodAll] at h
theorem lZ {P:Program} {H:Type} {enc:TypeId×Value→H} {w:World} {b:Nat} {U:Nat→Bool} {h6:Bool}:∀ {E:List TypeId} {vs:List Value} {J:List (DataW H)} {ps:List MemPlace},DataW.TrodAll enc P w b U h6 E vs J ps→J.length=E.length∧vs.length=E.length
 | [],[],[],_,_=>⟨rfl,rfl⟩
 | _::_,_::_,_::_,_,⟨_,_,_,h,_⟩=>by have:=lZ h;simp [this]
 | [],_::_,_,_,h=>by simp [DataW.TrodAll] at h
 | [],[],_::_,_,h=>by simp [DataW.TrodAll] at h
 | _::_,[],_,_,h=>by simp [DataW.TrodAll] at h
 | _::_,_::_,[],_,h=>by simp [DataW.TrodAll] at h
theorem s8 {P:Program} {fn:Func} {s:ChangeSpec} (hl:laidOutB P=true) (hr:(fn.params.toList.all fun t=>P.readableRec t&&decide (t<P.types.size))=true) (hv:s.vars=[]) {Y:TypeId} (h6:fn.resultTypes = #[Y]) (hb:P.underlying Y=some .bool)
  {H:Type} {enc:TypeId×Value→H} {W U:World} {args:Array Value} {J Z:List (DataW H)} {E:List MemPlace}
  (hs:J.length=fn.params.size→s.fn H J={results:=[.lit (.bool true)],args:=J})
  (hW:DataW.Whole enc P fn.params.toList s.vars false W args.toList J Z E) (hB:Below W.heap.size W U):s.post enc P fn false true false false W args (.bool true) U:=by
 have hW':=hW;obtain ⟨p,q,hA,hV,rfl,h9,hw⟩:=hW;rw [hv] at hV;obtain ⟨rfl,rfl⟩:=trodVars_none hV;have h8:=(lZ hA).1;have e1:s.fn H (J++[])={results:=[.lit (.bool true)],args:=J}:=by rw [List.append_nil];exact hs (by simpa using h8)
 refine ⟨J,[],p++[],[],p,[],hW',?_,?_,?_,hB.frame _,fun h=>by cases h⟩
 ·rw [e1,h6];exact trodAll_mk1 (shut_bool hb _)
 ·rw [e1];exact lY hl hB hr hA (fun x hx=>hW'.lt x (List.mem_append_left _ hx))
 ·rw [e1,hv];rfl
end NX
end Go.Proofs.YtgnjledocpbchaaGreat
/-
  The symbolic machine: copies into own slices; numbers of other kinds. No statement of the seat is proved here.
-/
namespace Go.Proofs.YtgnjledocpbchaaGreat
namespace NX
open Go Go.RowKit
theorem eo {P:Program} {op:Op} {n:Nat} {x y:X} (ho:cO P op = .copy n x y):∃p q t u e,op = .call ⟨.builtin .copy, #[p,q], #[t,u]⟩∧P.underlying t=some (.slice e)∧Cj P e=some n∧cX p=x∧cX q=y:=by
 cases op
 case call ci=>
  obtain ⟨callee,cargs,argTypes⟩:=ci;cases callee with
  | value o=>
    cases o with
    | func f'=>simp only [cO] at ho;(repeat' (split at ho))<;>simp at ho
    | _=>simp [cO] at ho
  | invoke _ _=>simp [cO] at ho
  | builtin b=>
    cases b
    case copy=>
     simp only [cO] at ho;split at ho
     ·rename_i t0 u0 p q h1 h2;split at ho
      ·rename_i e hu;split at ho
       ·rename_i m hs;simp only [EO.copy.injEq] at ho;obtain ⟨rfl,rfl,rfl⟩:=ho;have e1:cargs = #[p,q]:=by apply Array.ext';simpa using h2
        have e2:argTypes = #[t0,u0]:=by apply Array.ext';simpa using h1
        subst e1;subst e2;exact ⟨p,q,t0,u0,e,rfl,hu,hs,rfl,rfl⟩
       ·simp at ho
      ·simp at ho
     ·simp at ho
    all_goals (simp only [cO] at ho;(repeat' (split at ho))<;>simp at ho)
 all_goals (simp only [cO] at ho;(repeat' (split at ho))<;>simp at ho)
@[go_sem] theorem leRows_tt:Ko 1 [[AV.tt]] [[AV.bv true]]=True:=eq_true ⟨rfl,fun M vss h=>by obtain ⟨vs,r,rfl,h1,h2,h3⟩:=h;obtain ⟨v,l,rfl,h4,h5⟩:=h2;exact ⟨_,_,rfl,h1,⟨_,_,rfl,h4,h5⟩,h3⟩⟩
section
variable {c:Ctx} {M:Mem} {S S':St} {a:Act} {w:World} {fn:Func} {K:AV→List (Option Blk)→List (Option Sl)→Prop} {k:List It}
theorem lS {P:Program} {e n:Nat} (h:Cj P e=some n):(P.info? e).map (·.size)=some n:=by unfold Cj at h;simpa using h
theorem Hi {n:Nat}:∀ {l:List (List Value)},(∀v∈l,v.length=n)→∀k,(l.take k).flatten=l.flatten.take (k*n)∧(l.drop k).flatten=l.flatten.drop (k*n)
 | [],_,k=>by simp
 | v::l,hl,0=>by simp
 | v::l,hl,k+1=>by
   have hv:=hl v (by simp);obtain ⟨i1,i2⟩:=Hi (l:=l) (fun u hu=>hl u (by simp [hu])) k;have e:(k+1)*n=v.length+k*n:=by rw [hv,Nat.add_mul];omega
   simp only [List.take_succ_cons,List.drop_succ_cons,List.flatten_cons,i1,i2,e];rw [List.take_length_add_append,List.drop_length_add_append];exact ⟨rfl,rfl⟩
theorem bH (h:RelS c M S.bs S.ss w) {j T n:Nat} {rows:List (List AV)} (hj:Ab S.ss j=some ⟨T,n,rows⟩) {g cap:Nat} {E:Array Value} (e2:M.σ j = .slice (some ⟨g,0,none⟩) rows.length cap) (e3:w.heap[g]?=some (.cells E T (0,0))) (U:rows.length≤cap) (e5:cap≤maxLen) (e6:E.size=cap*n)
  {vss:List (List Value)} (J:AV.isLL M.sl n rows vss) (Z:∀v∈vss.flatten,v.oneCell'=true) (e7:E.toList.take (rows.length*n)=vss.flatten) {A:Nat} {R:List (List AV)} {C:List (List Value)} (Y:AV.isLL M.sl n R C) (hC:∀v∈C.flatten,v.oneCell'=true) (hA:A+R.length≤rows.length):
  RelS c M S.bs (Av S.ss j (some ⟨T,n,rows.take A++R++rows.drop (A+R.length)⟩)) (w.setRow g (E.toList.take (A*n)++C.flatten++E.toList.drop (A*n+C.flatten.length)).toArray):=by
 have hw:=E1 Y;have hI:=E1 J;have hf:=Hi (Gy J).1;have hB:(w.setRow g (E.toList.take (A*n)++C.flatten++E.toList.drop (A*n+C.flatten.length)).toArray).heap[g]?=some (.cells (E.toList.take (A*n)++C.flatten++E.toList.drop (A*n+C.flatten.length)).toArray T (0,0)):=by rw [Gv,if_pos rfl,e3];rfl
 have hD:E.toList.length=cap*n:=by simpa using e6
 have h8:(vss.take A++C++vss.drop (A+R.length)).flatten=vss.flatten.take (A*n)++C.flatten++vss.flatten.drop (A*n+R.length*n):=by rw [List.flatten_append,List.flatten_append,(hf A).1,(hf (A+R.length)).2,Nat.add_mul]
 have q1:(A+R.length)*n≤rows.length*n:=Nat.mul_le_mul_right _ hA;have q2:rows.length*n≤cap*n:=Nat.mul_le_mul_right _ U;rw [Nat.add_mul] at q1;refine h.rewrite hj (g:=g) (by rw [e2];rfl) (w':=w.setRow g (E.toList.take (A*n)++C.flatten++E.toList.drop (A*n+C.flatten.length)).toArray) ⟨rfl,rfl,rfl,by simp [World.setRow],fun k _ hk=>by rw [Gv,if_neg (fun e=>hk (by rw [e]))]⟩ (vss':=vss.take A++C++vss.drop (A+R.length)) ?_ ?_ ?_
 ·have t1:=G1 J 0 A;have t2:=G1 J (A+R.length) rows.length;simp only [List.drop_zero] at t1;rw [List.take_of_length_le (Nat.le_refl _),List.take_of_length_le (by have:=(Gy J).2;omega)] at t2;exact Jg (Jg t1 Y) t2
 ·intro v hv;rw [h8] at hv;simp only [List.mem_append] at hv;rcases hv with (hv | hv) | hv
  ·exact Z v (List.mem_of_mem_take hv)
  ·exact hC v hv
  ·exact Z v (List.mem_of_mem_drop hv)
 ·have h6:(rows.take A++R++rows.drop (A+R.length)).length=rows.length:=by simp only [List.length_append,List.length_take,List.length_drop];omega
  refine ⟨?_,.inr ⟨g,cap,_,by rw [h6];exact e2,Nat.zero_le _,hB,by rw [h6];exact U,e5,?_,?_⟩⟩
  ·rw [h8,h6];simp only [List.length_append,List.length_take,List.length_drop];omega
  ·simp only [List.size_toArray,List.length_append,List.length_take,List.length_drop];omega
  ·rw [h8,h6,←e7,hw];generalize C.flatten=D at *;generalize E.toList=L at *;generalize rows.length*n=N at *;generalize A*n=a at *;rw [←hw] at q1 ⊢;refine List.ext_getElem? fun i=>?_;simp only [List.getElem?_take,List.getElem?_append,List.length_append,List.length_take,List.getElem?_drop,hD];have hE:min a (cap*n)=a:=by omega
   have hG:min N (cap*n)=N:=by omega
   have h9:min a N=a:=by omega
   simp only [hE,hG];by_cases h1:i<N
   ·by_cases h2:i<a+D.length
    ·by_cases h3:i<a
     ·simp [h1,h2,h3,h9]
     ·simp [h1,h2,h3,h9]
    ·have h3:a+D.length+(i-(a+D.length))=i:=by omega
     simp [h1,h2,h3,h9]
   ·by_cases h2:i<a+D.length
    ·omega
    ·have h3:a+D.length+(i-(a+D.length))=i:=by omega
     simp [h1,h2,h3,h9]
theorem Fo (h:RelS c M S.bs S.ss w) {j T n:Nat} {rows:List (List AV)} (hj:Ab S.ss j=some ⟨T,n,rows⟩) (h0:0<rows.length):
  ∃g cap cur vss,M.σ j = .slice (some ⟨g,0,none⟩) rows.length cap∧w.heap[g]?=some (.cells cur T (0,0))∧rows.length≤cap∧cap≤maxLen∧cur.size=cap*n∧AV.isLL M.sl n rows vss∧(∀v∈vss.flatten,v.oneCell'=true)∧cur.toList.take (rows.length*n)=vss.flatten:=by
 obtain ⟨g0,vss,h1,h2,h3,h4⟩:=h.slc j _ hj;dsimp only at h1 h3 g0;rcases h3.2 with ⟨_,e3⟩ | ⟨g,cap,cur,e2,_,e3,e4,e5,e6,e7⟩
 ·omega
 ·exact ⟨g,cap,cur,vss,e2,e3,e4,e5,e6,h1,h2,e7⟩
theorem eE {P:Program} {w w':World} {p q:Operand} {t u:TypeId} {ρ:Operand→Value} {d:Option Tmp} {ty:TypeId} {pos:String} {af:Array Go.Edge} {gd:Option (Nat×Bool)} {v:Value}
  (h:(Builtin.copy_ #[t,u] ty #[ρ p,ρ q]).run P w = .ok v w'):(execOp ρ ⟨d,.call ⟨.builtin .copy, #[p,q], #[t,u]⟩,ty,pos,af,gd⟩).run P w = .ok (.value v) w':=by
 simp [execOp,resolve,invoke,builtin,h]
theorem jz:∀(l:List (Option Sl)) (j:Nat) (L:Sl),Ab l j=some L→Av l j (some L)=l
 | [],j,L,h=>by simp [Ab] at h
 | x::l,0,L,h=>by simp [Ab] at h;subst h;rfl
 | x::l,j+1,L,h=>by simp only [Av];rw [jz l j L (by simpa [Ab] using h)]
theorem I0 {ρ:Operand→Value} (hx:∀o:Operand,(S.x (cX o)).is M (ρ o)):∀(o:Option Operand) (z r:Int),Bb S (o.map cX) z=some r→match o with | none=>r=z | some o=>ρ o = .int .i64 r:=by
 intro o z r hb;cases o with
 | none=>simpa [Bb] using hb.symm
 | some o=>
   simp only [Option.map_some,Bb] at hb;have:=hx o;split at hb
   ·rename_i n' hn';rw [hn'] at this;simp at hb;subst hb;exact this
   ·simp at hb
theorem Fs {j T n:Nat} {x:X} {lo hi:Option X} {rows:List (List AV)} {l h:Int} (hx:S.x x = .osl j) (hj:Ab S.ss j=some ⟨T,n,rows⟩) (hr:0<rows.length) (hw:Bb S lo 0=some l) (hA:Bb S hi rows.length=some h) (h0:0≤l) (h1:l≤h) (h2:h≤rows.length):
  B3 c S (.slice n x lo hi) (.ocs j l.toNat n (h.toNat-l.toNat)) S:=by
 intro ro h8 M a w h6 next Q hB
 obtain ⟨dst,op,ty,pos,af,gd⟩:=ro;dsimp only at h8;obtain ⟨T',y,lo',hi',e,rfl,hu,hs,rfl,rfl,rfl⟩:=Hd h8;have hS:=h6.st;have k1:=Au h6 y;rw [hx] at k1;obtain ⟨g,cap,cur,vss,e2,e3,e4,e5,e6,v1,v2,e7⟩:=Fo hS hj hr;have b1:=I0 (Au h6) lo' 0 l hw;have b2:=I0 (Au h6) hi' rows.length h hA;have h9:=LD (P:=c.P) (w:=w) hu hs (ρ:=a.eval) (ad:=some ⟨g,0,none⟩) (len:=rows.length) (cp:=cap) (lo:=l) (hi:=h) (k1.2.trans e2) e4 b1 b2 h0 h1 h2 dst ty pos af gd;unfold Oper.wp;rw [h9];refine hB M w _ (.refl M) hS ⟨k1.1,g,rows.length,cap,e2,?_⟩;by_cases hc:cap=l.toNat
 ·rw [if_pos hc,if_pos hc]
 ·rw [if_neg hc,if_neg hc];simp only [Option.map,Addr.add_lit,Nat.zero_add]
end
end NX
end Go.Proofs.YtgnjledocpbchaaGreat
