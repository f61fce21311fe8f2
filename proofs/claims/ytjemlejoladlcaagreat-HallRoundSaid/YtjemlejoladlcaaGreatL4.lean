/-
  The symbolic machine, sound over the model: its run, and the rules for what it stops at. No statement of the seat is proved here.
-/
import Derived.LoopN
import Derived.Test.YtjemlejoladlcaaGreatL3
namespace Go.Proofs.YtjemlejoladlcaaGreat
namespace NX
open Go Go.RowKit
section
variable {c:Ctx} {M:Mem} {S:St} {a:Act} {w:World} {fn:Func} {K:AV→List (Option Blk)→List (Option Sl)→Prop} {k:List It}
theorem tD (a:Act) (d:Option Tmp) (v:Value) (t:Nat):(a.put d v).tmps.getD t undef=if some t=d∧t<a.tmps.size then v else a.tmps.getD t undef:=by
 cases d with
 | none=>simp [Act.put]
 | some d=>
   simp only [Act.put,Array.getD_eq_getD_getElem?,Array.getElem?_setIfInBounds,Option.some.injEq];by_cases h:t=d
   ·subst h;by_cases h2:t<a.tmps.size
    ·simp [h2]
    ·simp [h2]
   ·rw [if_neg (fun e=>h e.symm),if_neg (fun e=>h e.1)]
theorem yq (a:Act) (d:Option Tmp) (v:Value):(a.put d v).tmps.size=a.tmps.size:=by cases d<;>simp [Act.put]
theorem RelT.put (E:RelT c M S a w) {M':Mem} {w':World} {v:AV} {x:Value} (d:Option Tmp) {bs ss} (hM:M.le M') (J:RelS c M' bs ss w') (hv:v.is M' x):
  RelT c M' ((⟨S.tm,bs,ss⟩:St).put d v) (a.put d x) w':=by
 refine ⟨?_,?_,?_,?_⟩
 ·rw [yq];cases d with
  | none=>exact E.len
  | some d=>simp only [St.put,I8];exact E.len
 ·intro t;rw [tD];cases d with
  | none=>simpa [St.put] using Dm hM _ _ (E.tm t)
  | some d=>
    simp only [St.put,F6,Option.some.injEq];by_cases h:t=d
    ·subst h;by_cases h2:t<S.tm.length
     ·rw [if_pos ⟨rfl,h2⟩,if_pos ⟨rfl,Nat.lt_of_lt_of_le h2 E.len⟩];exact hv
     ·rw [if_neg (fun e=>h2 e.2)];have:AJ S.tm t = .any:=by
       have hl:S.tm.length≤t:=by omega
       clear E h2;generalize S.tm=l at hl;induction l generalizing t with
       | nil=>rfl
       | cons y l ih=>cases t with
         | zero=>simp at hl
         | succ t=>exact ih t (by simpa using hl)
      rw [this];trivial
    ·rw [if_neg (fun e=>h e.1),if_neg (fun e=>h e.1)];exact Dm hM _ _ (E.tm t)
 ·cases d<;>exact E.df
 ·cases d<;>exact J
theorem Zq {all:Array Oper} {j t:Nat} (h:(all[j]?).bind (·.dst)=some t):yielded all a.tmps j=match a.tmps.getD t undef with | .bool b=>some b | _=>none:=by
 unfold yielded;rw [h];simp only [Option.bind_some];cases hh:a.tmps[t]? with
 | none=>simp [hh,undef]
 | some v=>simp [hh];cases v<;>rfl
theorem pU {o:EOp} {l:List EOp} {S':St} {q:Prop} (he:Jf S o=some (S',q)) (hq:q) (h:V c fn K (.ops l::k) S'):V c fn K (.ops (o::l)::k) S:=by
 rintro rk M a w ⟨y,r,rfl,hy,hr⟩ hT;cases y with
 | code x=>exact hy.elim
 | blk i=>exact hy.elim
 | lp _ _=>exact hy.elim
 | sc _=>exact hy.elim
 | ops all rl=>
   obtain ⟨ro,rl',rfl,ho,hl⟩:=mapM_cons hy;have hA:∀ {S1 v q'},ev S (cO c.P ro.op)=some (v,S1,q')→q'→S'=S1.put ro.dst v→wpList c.P all (CY c.P fn (RK c K) r) rl'=wpList c.P all (CY c.P fn (RK c K) r) rl'→Region.wanted ro (yielded all a.tmps)=true→
    wpList c.P all (CY c.P fn (RK c K) r) (ro::rl') a w:=by
    intro S1 v q' h1 h2 h3 _ hw;unfold wpList;rw [if_pos hw];refine .inl ?_;obtain ⟨d,op,ty,pos,af,g⟩:=ro;obtain ⟨x,M',w',h9,hM,hS,h6,hv⟩:=gP hT op h1 h2 d ty pos af g;have hT':RelT c M' S' (a.put d x) w':=by rw [h3];have:=hT.put d hM hS hv;rw [←h6] at this;exact this
    have hk:=h (.ops all rl'::r) M' (a.put d x) w' ⟨_,_,rfl,hl,hr⟩ hT';unfold Oper.wp;rcases h9 with h9 | ⟨h9,hx⟩
    ·rw [h9];exact hk
    ·rw [h9];subst hx;exact hk
   have hd:S'=S.put ro.dst .un→Region.wanted ro (yielded all a.tmps)=false→wpList c.P all (CY c.P fn (RK c K) r) (ro::rl') a w:=by intro h1 hw;unfold wpList;rw [if_neg (by simp [hw])];refine h (.ops all rl'::r) M (a.put ro.dst undef) w ⟨_,_,rfl,hl,hr⟩ ?_;rw [h1];exact hT.put ro.dst (.refl M) hT.st (v:=.un) rfl
   show wpList c.P all (CY c.P fn (RK c K) r) (ro::rl') a w;unfold AL at ho;cases hg:ro.guard with
   | none=>rw [hg] at ho;simp only [Option.some.injEq] at ho;subst ho;simp only [Jf,Option.map_eq_some_iff,Prod.mk.injEq] at he;obtain ⟨⟨v,S1,q'⟩,h1,h2,h3⟩:=he;dsimp only at h2 h3;subst h3;exact hA h1 hq h2.symm rfl (by simp [Region.wanted,hg])
   | some jf=>
     obtain ⟨j,f⟩:=jf;rw [hg] at ho;dsimp only at ho;split at ho
     ·rename_i t ht;simp only [Option.some.injEq] at ho;subst ho;have h8:=Zq (a:=a) ht;have h6:=Vq (hT.tm t);simp only [Jf] at he;split at he
      ·rename_i hv;rw [hv] at h6;simp only [Option.map_eq_some_iff,Prod.mk.injEq] at he;obtain ⟨⟨v,S1,q'⟩,h1,h2,h3⟩:=he;dsimp only at h2 h3;subst h3;exact hA h1 hq h2.symm rfl (by rw [show a.tmps.getD t undef = .bool true from h6] at h8;simp [Region.wanted,hg,h8])
      ·rename_i hv;rw [hv] at h6;simp only [Option.map_eq_some_iff,Prod.mk.injEq] at he;obtain ⟨⟨v,S1,q'⟩,h1,h2,h3⟩:=he;dsimp only at h2 h3;subst h3;exact hA h1 hq h2.symm rfl (by rw [show a.tmps.getD t undef = .bool false from h6] at h8;simp [Region.wanted,hg,h8])
      ·rename_i hv;rw [hv] at h6;simp only [Option.some.injEq,Prod.mk.injEq] at he;exact hd he.1.symm (by rw [show a.tmps.getD t undef = .bool true from h6] at h8;simp [Region.wanted,hg,h8])
      ·rename_i hv;rw [hv] at h6;simp only [Option.some.injEq,Prod.mk.injEq] at he;exact hd he.1.symm (by rw [show a.tmps.getD t undef = .bool false from h6] at h8;simp [Region.wanted,hg,h8])
      ·rename_i hv;rw [hv] at h6;simp only [Option.some.injEq,Prod.mk.injEq] at he;exact hd he.1.symm (by rw [show a.tmps.getD t undef=undef from h6] at h8;simp [undef] at h8;simp [Region.wanted,hg,h8])
      ·simp at he
     ·simp at ho
theorem Ey:∀(m:Nat) (k:List It) (S:St) (p:Prop),(run m k S p).2.2→V c fn K (run m k S p).1 (run m k S p).2.1→p∧V c fn K k S
 | 0,k,S,p,hp,h=>⟨hp,h⟩
 | m+1,[],S,p,hp,h=>⟨hp,h⟩
 | m+1,.blk _::k,S,p,hp,h=>by obtain ⟨h1,h2⟩:=Ey m k S p hp h;exact ⟨h1,pI h2⟩
 | m+1,.sc _::k,S,p,hp,h=>by obtain ⟨h1,h2⟩:=Ey m k S p hp h;exact ⟨h1,pL h2⟩
 | m+1,.lp _ _::k,S,p,hp,h=>⟨hp,h⟩
 | m+1,.ops []::k,S,p,hp,h=>by obtain ⟨h1,h2⟩:=Ey m k S p hp h;exact ⟨h1,pG h2⟩
 | m+1,.ops (o::l)::k,S,p,hp,h=>by
   simp only [run] at hp h;split at hp
   ·rename_i r hr;rw [hr] at h;obtain ⟨h1,h2⟩:=Ey m _ _ _ hp h;exact ⟨h1.1,pU (S':=r.1) (q:=r.2) hr h1.2 h2⟩
   ·rename_i hr;rw [hr] at h;exact ⟨hp,h⟩
 | m+1,.code e::k,S,p,hp,h=>by
   cases e with
   | skip=>obtain ⟨h1,h2⟩:=Ey m k S p hp h;exact ⟨h1,pQ h2⟩
   | seq x y=>obtain ⟨h1,h2⟩:=Ey m _ S p hp h;exact ⟨h1,pP h2⟩
   | blk id x=>obtain ⟨h1,h2⟩:=Ey m _ S p hp h;exact ⟨h1,pa h2⟩
   | reg l=>obtain ⟨h1,h2⟩:=Ey m _ S p hp h;exact ⟨h1,pJ h2⟩
   | exit id=>
     simp only [run] at hp h;split at hp
     ·rename_i k' hk;rw [hk] at h;obtain ⟨h1,h2⟩:=Ey m _ S p hp h;exact ⟨h1,pp hk h2⟩
     ·rename_i hk;rw [hk] at h;exact ⟨hp,h⟩
   | scope x=>obtain ⟨h1,h2⟩:=Ey m _ S p hp h;exact ⟨h1,pM h2⟩
   | label l=>obtain ⟨h1,h2⟩:=Ey m k S p hp h;exact ⟨h1,pC h2⟩
   | goto l=>
     simp only [run] at hp h;split at hp
     ·rename_i k' hk;rw [hk] at h;obtain ⟨h1,h2⟩:=Ey m _ S p hp h;exact ⟨h1,px hk h2⟩
     ·rename_i hk;rw [hk] at h;exact ⟨hp,h⟩
   | ite o x y=>
     simp only [run] at hp h;split at hp
     ·rename_i hk;rw [hk] at h;obtain ⟨h1,h2⟩:=Ey m _ S p hp h;exact ⟨h1,pX hk h2⟩
     ·rename_i hk;rw [hk] at h;obtain ⟨h1,h2⟩:=Ey m _ S p hp h;exact ⟨h1,pv hk h2⟩
     ·rename_i h1 h2;split at h
      ·rename_i hk;exact absurd hk h1
      ·rename_i hk;exact absurd hk h2
      ·exact ⟨hp,h⟩
   | _=>exact ⟨hp,h⟩
theorem Ah (m:Nat) (h:(run m k S True).2.2∧V c fn K (run m k S True).1 (run m k S True).2.1):V c fn K k S:=(Ey m k S True h.1 h.2).2
end
end NX
end Go.Proofs.YtjemlejoladlcaaGreat
/-
  The symbolic machine: the rules for what its run stops at. No statement of the seat is proved here.
-/
namespace Go.Proofs.YtjemlejoladlcaaGreat
namespace NX
open Go Go.RowKit
mutual
theorem Mw {M:Mem}:∀(x y:AV) (v:Value),x.le y→x.is M v→y.is M v
 | x,y,v,h,k=>by
   cases y<;>unfold AV.le at h<;>(try dsimp only at h)
   case any=>trivial
   case tt=>split at h<;>first | (subst h;exact k) | exact k
   case ff=>split at h<;>first | (subst h;exact k) | exact k
   case bv e=>split at h<;>(subst h;exact k)
   case iv e=>split at h<;>(subst h;exact k)
   case elt e j=>
    split at h
    ·obtain ⟨a,vs,h1,h2,h3⟩:=k;obtain ⟨h,rfl⟩:=h;exact ⟨a,vs,h1,Ep _ _ vs h h2,h3⟩
    ·subst h;exact k
   case sl m e=>
    split at h
    ·subst h;simp only [AV.is] at k;subst k;exact ⟨none,0,rfl,⟨Nat.le_refl _,fun _=>rfl⟩,fun h=>absurd rfl h⟩
    ·obtain ⟨a,c,h1,h2,h3⟩:=k;obtain ⟨rfl,h4,h5⟩:=h;refine ⟨a,c,by rw [←h4];exact h1,by rw [←h4];exact h2,fun hne=>?_⟩;obtain ⟨ad,vss,g1,g2,g3⟩:=h3 (fun e0=>hne (List.length_eq_zero_iff.1 (by rw [←h4,e0];rfl)));exact ⟨ad,vss,g1,h5 _ _ g2,g3⟩
    ·subst h;exact k
   case agg e=>
    split at h
    ·obtain ⟨vs,h1,h2⟩:=k;exact ⟨vs,h1,Ep _ _ vs h h2⟩
    ·subst h;exact k
   case tup e=>
    split at h
    ·obtain ⟨vs,h1,h2⟩:=k;exact ⟨vs,h1,Ep _ _ vs h h2⟩
    ·subst h;exact k
   case clo g e=>
    split at h
    ·obtain ⟨vs,h1,h2⟩:=k;obtain ⟨rfl,h⟩:=h;exact ⟨vs,h1,Ep _ _ vs h h2⟩
    ·subst h;exact k
   all_goals (change _=_ at h;subst h;exact k)
 termination_by x=>SizeOf.sizeOf x
theorem Ep {M:Mem}:∀(l r:List AV) (vs:List Value),AV.le.leL l r→AV.isL M l vs→AV.isL M r vs
 | [],[],_,_,k=>k
 | x::l,y::r,_,h,⟨v,vs,h1,h2,h3⟩=>⟨v,vs,h1,Mw x y v h.1 h2,Ep l r vs h.2 h3⟩
 | [],_::_,_,h,_=>h.elim
 | _::_,[],_,h,_=>h.elim
 termination_by l=>SizeOf.sizeOf l
end
theorem jd {M:Mem}:∀ {l r:List AV} {f:Nat→Value},Vo l r→(∀t,(AJ l t).is M (f t))→r.length≤l.length∧∀t,(AJ r t).is M (f t)
 | l,[],f,_,_=>⟨Nat.zero_le _,fun _=>trivial⟩
 | [],_::_,_,h,_=>h.elim
 | x::l,y::r,f,h,k=>by
   obtain ⟨g1,g2⟩:=jd (f:=fun t=>f (t+1)) h.2 (fun t=>k (t+1));refine ⟨by simp;exact g1,fun t=>?_⟩;cases t with
   | zero=>exact Mw x y _ h.1 (k 0)
   | succ t=>exact g2 t
theorem bt:∀ {l r:List (Option Blk)},I5 l r→r.length≤l.length∧∀j C,A2 r j=some C→∃B,A2 l j=some B∧B.T=C.T∧AV.le.leL B.cells C.cells
 | l,[],_=>⟨Nat.zero_le _,fun j C h=>by simp [A2] at h⟩
 | [],_::_,h=>by simp [I5] at h
 | _::l,none::r,h=>by
   obtain ⟨g1,g2⟩:=bt (l:=l) (r:=r) (by simpa [I5] using h);refine ⟨by simp;exact g1,fun j C hj=>?_⟩;cases j with
   | zero=>simp [A2] at hj
   | succ j=>exact g2 j C hj
 | none::l,some _::r,h=>by simp [I5] at h
 | some B::l,some C::r,h=>by
   simp only [I5] at h;obtain ⟨g1,g2⟩:=bt h.2.2;refine ⟨by simp;exact g1,fun j D hj=>?_⟩;cases j with
   | zero=>simp [A2] at hj;subst hj;exact ⟨B,rfl,h.1,h.2.1⟩
   | succ j=>exact g2 j D hj
theorem bu:∀ {l r:List (Option Sl)},I6 l r→r.length≤l.length∧∀j C,A2 r j=some C→∃B,A2 l j=some B∧B.T=C.T∧B.n=C.n∧Kt B.n B.rows C.rows
 | l,[],_=>⟨Nat.zero_le _,fun j C h=>by simp [A2] at h⟩
 | [],_::_,h=>by simp [I6] at h
 | _::l,none::r,h=>by
   obtain ⟨g1,g2⟩:=bu (l:=l) (r:=r) (by simpa [I6] using h);refine ⟨by simp;exact g1,fun j C hj=>?_⟩;cases j with
   | zero=>simp [A2] at hj
   | succ j=>exact g2 j C hj
 | none::l,some _::r,h=>by simp [I6] at h
 | some B::l,some C::r,h=>by
   simp only [I6] at h;obtain ⟨g1,g2⟩:=bu h.2.2.2;refine ⟨by simp;exact g1,fun j D hj=>?_⟩;cases j with
   | zero=>simp [A2] at hj;subst hj;exact ⟨B,rfl,h.1,h.2.1,h.2.2.1⟩
   | succ j=>exact g2 j D hj
def Mem.cut (M:Mem) (nb ns:Nat):Mem:= {M with nb:=nb,ns:=ns}
mutual
theorem g8 {M:Mem} {nb ns:Nat}:∀(x:AV) (v:Value),x.is M v→x.ok nb ns=true→x.is (M.cut nb ns) v
 | .any,_,_,_=>trivial
 | .un,_,k,_=>k
 | .tt,_,k,_=>k
 | .ff,_,k,_=>k
 | .bv _,_,k,_=>k
 | .iv _,_,k,_=>k
 | .kv _ _,_,k,_=>k
 | .sv _,_,k,_=>k
 | .nl,_,k,_=>k
 | .nlp,_,k,_=>k
 | .fn _,_,k,_=>k
 | .ptr _ _,_,k,h=>⟨(D0 _ _).1 h,k.2⟩
 | .osl _,_,k,h=>⟨(D0 _ _).1 h,k.2⟩
 | .oel _ _ _,_,k,h=>⟨(D0 _ _).1 h,k.2⟩
 | .ocs _ _ _ _,_,k,h=>⟨(D0 _ _).1 h,k.2⟩
 | .elt _ _,_,k,_=>k
 | .sl _ _,_,k,_=>k
 | .agg l,_,⟨vs,h1,h2⟩,h=>⟨vs,h1,M7 l vs h2 (by simpa [AV.ok] using h)⟩
 | .tup l,_,⟨vs,h1,h2⟩,h=>⟨vs,h1,M7 l vs h2 (by simpa [AV.ok] using h)⟩
 | .clo _ l,_,⟨vs,h1,h2⟩,h=>⟨vs,h1,M7 l vs h2 (by simpa [AV.ok] using h)⟩
theorem M7 {M:Mem} {nb ns:Nat}:∀(l:List AV) (vs:List Value),AV.isL M l vs→Cp nb ns l=true→AV.isL (M.cut nb ns) l vs
 | [],_,k,_=>k
 | x::l,_,⟨v,r,h1,h2,h3⟩,h=>by simp only [Cp,AO] at h;exact ⟨v,r,h1,g8 x v h2 h.1,M7 l r h3 h.2⟩
end
theorem kQ {nb ns:Nat}:∀ {l:List AV} (t:Nat),Cp nb ns l=true→(AJ l t).ok nb ns=true
 | [],_,_=>rfl
 | x::l,0,h=>by simp only [Cp,AO] at h;exact h.1
 | x::l,t+1,h=>by simp only [Cp,AO] at h;exact kQ t h.2
theorem cN {nb ns:Nat}:∀ {l:List (Option Blk)} (t:Nat) B,K2 nb ns l=true→A2 l t=some B→Cp nb ns B.cells=true
 | [],_,_,_,h=>by simp [A2] at h
 | none::l,0,B,_,h2=>by simp [A2] at h2
 | some C::l,0,B,h,h2=>by simp only [K2,AO] at h;simp [A2] at h2;subst h2;exact h.1
 | none::l,t+1,B,h,h2=>cN (l:=l) t B (by simpa [K2] using h) h2
 | some C::l,t+1,B,h,h2=>by simp only [K2,AO] at h;exact cN t B h.2 h2
section
variable {c:Ctx} {M:Mem} {S S':St} {a:Act} {w:World} {fn:Func} {K:AV→List (Option Blk)→List (Option Sl)→Prop} {k:List It}
theorem kU {M:Mem} {n s:Nat}:∀ {rows:List (List AV)} {vss:List (List Value)},AV.isLL M.sl n rows vss→C4 s rows=true→AV.isLL (M.sl.cut 0 s) n rows vss
 | [],_,h,_=>h
 | r::l,_,⟨v,q,h0,h1,h2,h3⟩,hp=>by simp only [C4,AO] at hp;exact ⟨v,q,h0,h1,M7 _ _ h2 hp.1,kU h3 hp.2⟩
theorem cV {ns:Nat}:∀ {l:List (Option Sl)} {j:Nat} {L:Sl},K3 ns l=true→A2 l j=some L→C4 ns L.rows=true
 | [],_,_,_,h=>by simp [A2] at h
 | none::l,0,_,_,h=>by simp [A2] at h
 | none::l,j+1,_,h,hj=>cV (l:=l) (j:=j) (by simpa [K3] using h) (by simpa [A2] using hj)
 | some N::l,0,_,h,hj=>by simp only [K3,AO] at h;simp only [A2,Option.some.injEq] at hj;subst hj;exact h.1
 | some N::l,j+1,_,h,hj=>by simp only [K3,AO] at h;exact cV (l:=l) (j:=j) h.2 (by simpa [A2] using hj)
theorem RelT.weak (E:RelT c M S a w) (hle:S.le S') (hok:S'.ok=true) (h8:AA c.np (Aa S'.bs)=true) (hqn:AA c.nq (Aa S'.ss)=true):RelT c (M.cut S'.bs.length S'.ss.length) S' a w:=by
 obtain ⟨h1,h2,h3⟩:=hle;simp only [St.ok,AO,Bh] at hok;obtain ⟨g1,g2⟩:=jd (f:=fun t=>a.tmps.getD t undef) h1 E.tm;obtain ⟨b1,b2⟩:=bt h2;obtain ⟨s1,s2⟩:=bu h3;refine ⟨Nat.le_trans g1 E.len,fun t=>g8 _ _ (g2 t) (kQ t hok.1),E.df,?_⟩;have h:=E.st;refine ⟨rfl,rfl,fun j hj=>h.so j (by have hj':j<S'.ss.length:=hj;rw [h.ns];omega),h.os,h.tape,h.output,h.size,h.block,h.hle,h.hold,?_,?_,?_,?_,?_,⟨by rw [D0,Bh] at h8;exact h8,h.pin.ρ,by rw [D0,Bh] at hqn;exact hqn,h.pin.σ,h.pin.gl⟩⟩
 ·intro j C hj;obtain ⟨B,hB,h6,hle⟩:=b2 j C hj;obtain ⟨m1,m2,vs,m3,m4,m5⟩:=h.blk j B hB;exact ⟨m1,m2,vs,M7 _ _ (Ep _ _ vs hle m3) (cN j C hok.2.1 hj),by rw [←h6];exact m4,m5⟩
 ·intro j C hj;obtain ⟨L,hL,h6,hn,hl,hr⟩:=s2 j C hj;obtain ⟨m0,vss,m1,m2,m3,m4⟩:=h.slc j L hL;exact ⟨by rw [←hn];exact m0,vss,by rw [←hn];exact kU (s:=S'.ss.length) (hr _ _ m1) (cV hok.2.2 hj),m2,by rw [←h6,←hn,←hl];exact m3,m4⟩
 ·intro i j B C hi hj e;obtain ⟨B',hB,_⟩:=b2 i B hi;obtain ⟨C',hC,_⟩:=b2 j C hj;exact h.d1 i j B' C' hB hC e
 ·intro i j B L hi hj;obtain ⟨B',hB,_⟩:=b2 i B hi;obtain ⟨L',hL,_⟩:=s2 j L hj;exact h.d2 i j B' L' hB hL
 ·intro i j L N g hi hj e1 e2;obtain ⟨L',hL,_⟩:=s2 i L hi;obtain ⟨N',hN,_⟩:=s2 j N hj;exact h.d3 i j L' N' g hL hN e1 e2
theorem LQ (S':St) (hle:S.le S') (hok:S'.ok=true) (h6:AA c.np (Aa S'.bs)=true:=by rfl) (hqn:AA c.nq (Aa S'.ss)=true:=by rfl) (h:V c fn K k S'):V c fn K k S:=fun rk _ a w hc hT=>h rk _ a w hc (hT.weak hle hok h6 hqn)
theorem fh {b:EC} {X:Type} (J:X→Prop) (Sx:X→St) (μ:X→Nat) (E:X) (h0:S.le (Sx E)) (h1:(Sx E).ok=true) (h6:AA c.np (Aa (Sx E).bs)=true) (hqn:AA c.nq (Aa (Sx E).ss)=true) (h2:J E)
  (hb:∀n x,J x→(∀x',J x'→μ x'<μ x→V c fn K (.lp b n::k) (Sx x'))→V c fn K (.code b :: .lp b n::k) (Sx x)):V c fn K (.code (.loop b)::k) S:=by
 have Af:∀n x,J x→μ x<n→V c fn K (.lp b n::k) (Sx x):=by
  intro n;induction n with
  | zero=>intro x _ h;omega
  | succ n ih=>
    intro x hx hlt rk M a w ⟨y,r,h8,hy,hr⟩ hT;subst h8;cases y with
    | code _=>exact hy.elim
    | ops _ _=>exact hy.elim
    | blk _=>exact hy.elim
    | sc _=>exact hy.elim
    | lp y m=>obtain ⟨hy,hm⟩:=hy;subst hm;have:=hb n x hx (fun x' hx' hlt'=>ih x' hx' Om) (.code y :: .lp y n::r) M a w ⟨_,_,rfl,hy,_,_,rfl,⟨hy,rfl⟩,hr⟩ hT;refine wp_mono this ?_;intro e a w hq;cases e<;>exact hq
 refine LQ (Sx E) h0 h1 h6 hqn ?_;refine EX fun x hx rk M1 a w hr hT=>?_;obtain ⟨y,rfl,hy⟩:=qL hx;exact wp_loop_rounds (μ E+1) (Af (μ E+1) E h2 (Nat.lt_succ_self _) (.lp y (μ E+1)::rk) M1 a w ⟨_,_,rfl,⟨hy,rfl⟩,hr⟩ hT)
theorem fB {P:Program} {w:World} (x:Addr):(asAddr (.pointer (some x))).run P w = .ok x w:=rfl
theorem PC {P:Program}:∀ {rs:List ResultVar} {E:List ERes} {l:List AV},Fo P rs=some E→HD S E=some l→c.P=P→RelT c M S a w→
  ∃vs,(rs.mapM fun | .tmp t=>pure (a.tmps.getD t undef) | .cell x t=>do loadVar t (←asAddr (a.tmps.getD x undef)):Sem (List Value)).run P w = .ok vs w∧AV.isL M l vs
 | [],E,l,h1,h2,_,_=>by simp [Fo] at h1;subst h1;simp [HD] at h2;subst h2;exact ⟨[],by simp,rfl⟩
 | .tmp t::rs,E,l,h1,h2,hP,hT=>by simp only [Fo,Option.map_eq_some_iff] at h1;obtain ⟨es',h1,rfl⟩:=h1;simp only [HD,Option.map_eq_some_iff] at h2;obtain ⟨l',h2,rfl⟩:=h2;obtain ⟨vs,g1,g2⟩:=PC h1 h2 hP hT;refine ⟨a.tmps.getD t undef::vs,?_,⟨_,_,rfl,hT.tm t,g2⟩⟩;rw [List.mapM_cons];simp only [Sem.run_bind,Sem.run_pure,Result.andThen_ok];rw [g1];rfl
 | .cell x T::rs,E,l,h1,h2,hP,hT=>by
   simp only [Fo] at h1;split at h1<;>simp at h1;rename_i n es' h6 h1';subst h1;have hx:=hT.tm x;cases n with
   | none=>
     simp only [HD] at h2;split at h2<;>simp at h2;rename_i r q hr hq;subst h2;obtain ⟨vs,g1,g2⟩:=PC h1' hq hP hT;obtain ⟨g,o,us,hu,u2,u3,u4⟩:=P5 hT hx hr;obtain ⟨u,rfl⟩:∃u,us=[u]:=by
      cases us with
      | nil=>simp at u3
      | cons u r=>cases r with
        | nil=>exact ⟨u,rfl⟩
        | cons _ _=>simp at u3
     have hc:=u4 0 u (by simp);simp only [Nat.add_zero] at hc;refine ⟨u::vs,?_,⟨_,_,rfl,?_,g2⟩⟩
     ·rw [List.mapM_cons];simp only [Sem.run_bind,Sem.run_pure,hu,fB,Result.andThen_ok,bC h6 hc];rw [g1];rfl
     ·cases r with
      | nil=>simp [AV.isL] at u2
      | cons y r=>obtain ⟨_,_,h,hy,_⟩:=u2;simp at h;obtain ⟨rfl,rfl⟩:=h;exact hy
   | some n=>simp only [HD] at h2;split at h2<;>simp at h2;rename_i r q hr hq;subst h2;obtain ⟨vs,g1,g2⟩:=PC h1' hq hP hT;obtain ⟨g,o,us,hu,u2,u3,u4⟩:=P5 hT hx hr;refine ⟨.agg us.toArray::vs,?_,⟨_,_,rfl,⟨us,rfl,u2⟩,g2⟩⟩;rw [List.mapM_cons];simp only [Sem.run_bind,Sem.run_pure,hu,fB,Result.andThen_ok,bB h6 u3 u4];rw [g1];rfl
theorem am {rs:List ERes} {x:AV} (E:RelT c M S a w) (hr:Fo c.P fn.results.toList=some rs) (hx:DD S rs=some x) (J:K x S.bs S.ss):
  a.defers=[]∧∃v,(results fn a.tmps).run c.P w = .ok v w∧RK c K (.returned v) w:=by
 refine ⟨E.df,?_⟩;unfold DD at hx;split at hx
 ·rename_i y hy;simp at hx;subst hx;obtain ⟨vs,g1,g2⟩:=PC hr hy rfl E;obtain ⟨v,r,rfl,hv,h6⟩:=g2;simp [AV.isL] at h6;subst h6;refine ⟨v,?_,v,M,S.bs,S.ss,y,rfl,E.st,hv,J⟩;unfold results;simp only [Array.mapM_eq_mapM_toList,map_eq_pure_bind,Sem.run_bind]
  erw [g1]
  simp
 ·rename_i l hne hy;simp at hx;subst hx;obtain ⟨vs,g1,g2⟩:=PC hr hy rfl E;have hl:=D5 g2;refine ⟨.tuple vs.toArray,?_,_,M,S.bs,S.ss,.tup l,rfl,E.st,⟨vs,rfl,g2⟩,J⟩;unfold results;simp only [Array.mapM_eq_mapM_toList,map_eq_pure_bind,Sem.run_bind]
  erw [g1]
  have h1:vs.length≠1:=by
   intro h1;rw [h1] at hl;cases l with
   | nil=>simp at hl
   | cons y r=>cases r with
     | nil=>exact hne y rfl
     | cons _ _=>simp at hl
  simp [h1]
 ·simp at hx
theorem ZD {rs:List ERes} {x:AV} (hr:Fo c.P fn.results.toList=some rs) (hx:DD S rs=some x) (E:K x S.bs S.ss):V c fn K (.code .ret::k) S:=
 EX fun y hy rk M a w hk hT=>by
  rw [qN hy];refine wp_ret ?_;have:∀rk,IW c.P k rk→CY c.P fn (RK c K) rk .ret a w:=by
   clear hk;induction k with
   | nil=>rintro rk rfl;exact am hT hr hx E
   | cons i k ih=>rintro rk ⟨y,r,rfl,hy,hr'⟩;cases y<;>first | exact ih r hr' | exact Zx (by simp) (ih r hr')
  exact this rk hk
theorem po {rs:List ERes} {x:AV} (hr:Fo c.P fn.results.toList=some rs) (hx:DD S rs=some x) (E:K x S.bs S.ss):V c fn K [] S:=fun rk M a w hk hT=>by have:rk=[]:=hk;subst this;exact am hT hr hx E
end
end NX
end Go.Proofs.YtjemlejoladlcaaGreat
/-
  The symbolic machine: functions, calls, slices. No statement of the seat is proved here.
-/
namespace Go.Proofs.YtjemlejoladlcaaGreat
namespace NX
open Go Go.RowKit
def Cd (P:Program) (f:Nat) (args:List AV) (res:AV):Prop:=
 ∀(H:Frag) (w:World) (vs:List Value),(∀k o,H k=some o→w.heap[k]?=some o)→Kf P H→AV.isL (DC H) args vs→
  Calls P f vs.toArray w fun e w'=>∃v H',e = .returned v∧Below w.heap.size w w'∧(∀k o,H' k=some o→w'.heap[k]?=some o)∧
   (∀k,k<w.heap.size→H' k=H k)∧res.is (DC H') v
structure FnOK (P:Program) (f:Nat) (fn:Func) (body:EC) (rs:List ERes) (np nt:Nat):Prop where
 h:P.funcs[f]?=some fn
 b:∃x,fn.body=some x∧cC P x=some body
 r:Fo P fn.results.toList=some rs
 t:fn.ntmps=np+nt
theorem Vp:∀(a b:List AV) (t:Nat),AJ (a++b) t=if t<a.length then AJ a t else AJ b (t-a.length)
 | [],b,t=>by simp
 | x::a,b,0=>rfl
 | x::a,b,t+1=>by simp [AJ,Vp a b t]
theorem Vt:∀(n t:Nat),AJ (D6 n) t = .un∨(n≤t∧AJ (D6 n) t = .any)
 | 0,t=>.inr ⟨Nat.zero_le _,rfl⟩
 | n+1,0=>.inl rfl
 | n+1,t+1=>by
   rcases Vt n t with h | ⟨h1,h2⟩
   ·exact .inl h
   ·exact .inr ⟨Om,h2⟩
theorem Vu:∀n,(D6 n).length=n
 | 0=>rfl
 | n+1=>by simp [D6,Vu n]
theorem PX {M:Mem}:∀ {l:List AV} {vs:List Value},AV.isL M l vs→∀t,t<l.length→(AJ l t).is M (vs.getD t undef)
 | [],_,_,t,h=>by simp at h
 | x::l,_,⟨v,r,hv,h1,h2⟩,t,h=>by
   subst hv;cases t with
   | zero=>exact h1
   | succ t=>simpa [AJ] using PX h2 t (by simpa using h)
theorem ic {P:Program} {w:World} {H:Frag} {args:List AV} {vs:List Value} {nt:Nat} (hH:∀k o,H k=some o→w.heap[k]?=some o) (h6:Kf P H) (ha:AV.isL (DC H) args vs):
  RelT ⟨P,w,H,fun _=>False,0,fun _=>0,0,fun _=>.nilFunc⟩ (DC H) (St.init args nt) {tmps:=vs.toArray++Array.replicate nt undef,defers:=[]} w:=by
 have hl:=D5 ha;refine ⟨by simp [St.init,Vu,hl],fun t=>?_,rfl,⟨rfl,rfl,fun j hj=>absurd hj (Nat.not_lt_zero _),rfl,rfl,rfl,Nat.le_refl _,fun _ _ _=>rfl,hH,fun _ _ _=>rfl,fun j B h=>by simp [St.init,A2] at h,fun j B h=>by simp [St.init,A2] at h,fun i j B C h=>by simp [St.init,A2] at h,fun i j B C h=>by simp [St.init,A2] at h,fun i j B C g h=>by simp [St.init,A2] at h,⟨Nat.zero_le _,fun _ h=>absurd h (Nat.not_lt_zero _),Nat.zero_le _,fun _ h=>absurd h (Nat.not_lt_zero _),h6⟩⟩⟩;simp only [St.init,Vp,Array.getD_eq_getD_getElem?,Array.getElem?_append,List.size_toArray];by_cases h:t<args.length
 ·rw [if_pos h,if_pos Om];have:=PX ha t h;simpa [List.getD_eq_getElem?_getD] using this
 ·rw [if_neg h,if_neg Om];rcases Vt nt (t-args.length) with h1 | ⟨_,h1⟩
  ·rw [h1];simp only [AV.is,Array.getElem?_replicate];split<;>rfl
  ·rw [h1];trivial
def Ctx.of (P:Program) (w0:World) (H0:Frag):Ctx:=⟨P,w0,H0,fun _=>False,0,fun _=>0,0,fun _=>.nilFunc⟩
theorem ox {P:Program} {f:Nat} {fn:Func} {body:EC} {rs:List ERes} {np nt:Nat} (hf:FnOK P f fn body rs np nt) {args:List AV} {res:AV} (hn:args.length=np) (hp:res.pu=true)
  (h:∀w0 H0,V (Ctx.of P w0 H0) fn (fun x _ _=>x.le res) [.code body] (St.init args nt)):Cd P f args res:=by
 intro H w vs hH h6 ha;obtain ⟨x,hb,hx⟩:=hf.b;have hl:=D5 ha;refine calls_of_wp hf.h hb ?_;have hT:=ic (P:=P) (nt:=nt) hH h6 ha;have e1:fn.ntmps-vs.toArray.size=nt:=by rw [hf.t];simp;omega
 rw [e1];refine wp_mono (h w H [.code x] _ _ w ⟨_,_,rfl,hx,rfl⟩ hT) ?_;have mono:∀e w',RK (Ctx.of P w H) (fun x _ _=>x.le res) e w'→∃v H',e = .returned v∧Below w.heap.size w w'∧(∀k o,H' k=some o→w'.heap[k]?=some o)∧
   (∀k,k<w.heap.size→H' k=H k)∧res.is (DC H') v:=by
  rintro e w' ⟨v,M,bs,ss,y,rfl,hS,hv,hle⟩;exact ⟨v,M.H,rfl,⟨hS.os,hS.tape,hS.output,hS.size,fun k hk=>hS.block k hk (fun h=>h)⟩,hS.hle,fun k hk=>hS.hold k hk (fun h=>h),dk _ _ (Mw _ _ _ hle hv) hp⟩
 intro e a w' hq;cases e with
 | normal=>obtain ⟨h1,v,h2,h3⟩:=hq;exact ⟨h1,v,h2,mono _ _ h3⟩
 | ret=>obtain ⟨h1,v,h2,h3⟩:=hq;exact ⟨h1,v,h2,mono _ _ h3⟩
 | panic ch=>obtain ⟨h1,h2⟩:=hq;exact ⟨h1,mono _ _ h2⟩
 | outgrown=>exact mono _ _ hq
 | exit id=>exact hq
 | goto l=>exact hq
theorem Cd.le {P:Program} {f:Nat} {args E:List AV} {res J:AV} (h:Cd P f args res) (ha:AV.le.leL E args) (hr:res.le J):Cd P f E J:=by intro H w vs hH h6 hv;refine (h H w vs hH h6 (Ep _ _ _ ha hv)).mono ?_;rintro e w' ⟨v,H',h1,h2,h3,h4,h5⟩;exact ⟨v,H',h1,h2,h3,h4,Mw _ _ _ hr h5⟩
section
variable {c:Ctx} {M:Mem} {S S':St} {a:Act} {w:World} {fn:Func} {K:AV→List (Option Blk)→List (Option Sl)→Prop} {k:List It}
theorem RelS.sealed (h:RelS c M S.bs S.ss w) {w':World} {E:Frag} (hb:Below w.heap.size w w') (h1:∀k o,E k=some o→w'.heap[k]?=some o) (h2:∀k,k<w.heap.size→E k=M.H k):
  RelS c {M with H:=E} S.bs S.ss w'∧M.le {M with H:=E}:=by
 have hle:M.le {M with H:=E}:=⟨Nat.le_refl _,Nat.le_refl _,fun _ _=>rfl,fun _ _=>rfl,fun k o hk=>by have:=(Array.getElem?_eq_some_iff.1 (h.hle k o hk)).1;exact (h2 k this).trans hk⟩
 have g:=h.grow hb;refine ⟨⟨g.nb,g.ns,g.so,g.os,g.tape,g.output,g.size,g.block,h1,?_,?_,?_,g.d1,g.d2,g.d3,g.pin.le hle⟩,hle⟩
 ·intro k hk hn;exact (h2 k (Nat.lt_of_lt_of_le hk h.size)).trans (h.hold k hk hn)
 ·intro j B hj;obtain ⟨g1,g2,vs,g3,g4,g5⟩:=g.blk j B hj;exact ⟨g1,(h2 _ (h.blk_lt hj)).trans g2,vs,E0 hle _ _ g3,g4,g5⟩
 ·intro j L hj;obtain ⟨g0,vss,g1,g2,g3,g4⟩:=g.slc j L hj;exact ⟨g0,vss,EG hle.sl _ _ _ g1,g2,g3,fun gg hg=>⟨(g4 gg hg).1,(h2 _ (h.slc_lt hj hg)).trans (g4 gg hg).2⟩⟩
def gm (S:St):Option (Nat×Bool)→Prop
 | none=>True
 | some (t,f)=>match Gu S.tm t,f with
   | .tt,true=>True
   | .ff,false=>True
   | _,_=>False
theorem ZB {d:Option Nat} {g:Option (Nat×Bool)} {o:EO} {l:List EOp} (h9:gm S g)
  (h:∀(ro:Oper),ro.dst=d→cO c.P ro.op=o→∀M a w,RelT c M S a w→∀(E:Act→World→Prop) (Q:Exit→Act→World→Prop),
    (∀M' w' v x bs ss,M.le M'→RelS c M' bs ss w'→v.is M' x→V c fn K (.ops l::k) ((⟨S.tm,bs,ss⟩:St).put d v)→E (a.put d x) w')→ro.wp c.P a w E Q):V c fn K (.ops (⟨d,g,o⟩::l)::k) S:=by
 rintro rk M a w ⟨y,r,rfl,hy,hr⟩ hT;cases y with
 | code x=>exact hy.elim
 | blk i=>exact hy.elim
 | lp _ _=>exact hy.elim
 | sc _=>exact hy.elim
 | ops all rl=>
   obtain ⟨ro,rl',rfl,ho,hl⟩:=mapM_cons hy;show wpList c.P all (CY c.P fn (RK c K) r) (ro::rl') a w;have fin:Region.wanted ro (yielded all a.tmps)=true→ro.dst=d→cO c.P ro.op=o→wpList c.P all (CY c.P fn (RK c K) r) (ro::rl') a w:=by intro hw h1 h2;unfold wpList;rw [if_pos hw];refine .inl (h ro h1 h2 M a w hT _ _ ?_);intro M' w' v x bs ss hM hS hv hV;exact hV (.ops all rl'::r) M' _ w' ⟨_,_,rfl,hl,hr⟩ (hT.put d hM hS hv)
   unfold AL at ho;cases hg:ro.guard with
   | none=>rw [hg] at ho;simp only [Option.some.injEq,EOp.mk.injEq] at ho;exact fin (by simp [Region.wanted,hg]) ho.1 ho.2.2
   | some jf=>
     obtain ⟨j,f⟩:=jf;rw [hg] at ho;dsimp only at ho;split at ho
     ·rename_i t ht;simp only [Option.some.injEq,EOp.mk.injEq] at ho;obtain ⟨h1,h2,h3⟩:=ho;subst h2;have h6:=Zq (a:=a) ht;have h8:=Vq (hT.tm t);simp only [gm] at h9;split at h9
      ·rename_i hv;rw [hv] at h8;exact fin (by rw [show a.tmps.getD t undef = .bool true from h8] at h6;simp [Region.wanted,hg,h6]) h1 h3
      ·rename_i hv;rw [hv] at h8;exact fin (by rw [show a.tmps.getD t undef = .bool false from h8] at h6;simp [Region.wanted,hg,h6]) h1 h3
      ·exact h9.elim
     ·simp at ho
def Bi (c:Ctx) (S:St) (o:EO) (v:AV) (S1:St):Prop:=
 ∀(ro:Oper),cO c.P ro.op=o→∀M a w,RelT c M S a w→∀(next:Act→World→Prop) (Q:Exit→Act→World→Prop),
  (∀M' w' x,M.le M'→RelS c M' S1.bs S1.ss w'→v.is M' x→next (a.put ro.dst x) w')→ro.wp c.P a w next Q
theorem AU {d:Option Nat} {g:Option (Nat×Bool)} {o:EO} {l:List EOp} {v:AV} {S1:St} (h6:gm S g) (hs:Bi c S o v S1) (h8:S1.tm=S.tm)
  (h:V c fn K (.ops l::k) (S1.put d v)):V c fn K (.ops (⟨d,g,o⟩::l)::k) S:=
 ZB h6 fun ro hd ho M a w hT next Q hn=>hs ro ho M a w hT next Q fun M' w' x h1 h2 h3=>by have:=hn M' w' v x S1.bs S1.ss h1 h2 h3 (by rw [←h8];exact h);rw [hd];exact this
theorem Z7 {o:EO} {v:AV} {S1:St} {q:Prop} (he:ev S o=some (v,S1,q)) (hq:q):Bi c S o v S1:=by
 intro ro ho M a w hT next Q hn
 subst ho;obtain ⟨d,op,ty,pos,af,g⟩:=ro;obtain ⟨x,M',w',h6,hM,hS,h8,hv⟩:=gP hT op he hq d ty pos af g;unfold Oper.wp;rcases h6 with h6 | ⟨h6,hx⟩
 ·rw [h6];exact hn M' w' x hM hS hv
 ·rw [h6];subst hx;exact hn M' w' _ hM hS hv
theorem HU {P:Program} {w:World} {f:Nat} {args:Array Value} (hf:(P.funcs[f]?).any (fun fn=>fn.body.isSome&&!(fn.name == "runtime.NumGoroutine"))=true):
  (callFunc f args).run P w = .ok (.enter f args) w:=by
 unfold callFunc;cases h:P.funcs[f]? with
 | none=>simp [h] at hf
 | some fn=>
   simp only [h,Option.any_some,Bool.and_eq_true,Bool.not_eq_true'] at hf;simp only [Sem.run_bind,run_program,Result.andThen_ok,h];rw [if_neg (by simp [hf.2])];cases hb:fn.body with
   | none=>simp [hb] at hf
   | some x=>simp
theorem LY {P:Program} {op:Op} {f:Nat} {xs:List X} (ho:cO P op = .call f xs):
  ∃cargs argTypes,op = .call ⟨.value (.func f),cargs,argTypes⟩∧(P.funcs[f]?).any (fun fn=>fn.body.isSome&&!(fn.name == "runtime.NumGoroutine"))=true∧cargs.toList.map cX=xs:=by
 cases op
 case call ci=>
  obtain ⟨callee,cargs,argTypes⟩:=ci;cases callee with
  | value o=>
    cases o with
    | func f'=>
      simp only [cO] at ho;split at ho
      ·rename_i hf;simp only [EO.call.injEq] at ho;obtain ⟨rfl,rfl⟩:=ho;exact ⟨cargs,argTypes,rfl,hf,rfl⟩
      ·simp at ho
    | _=>simp [cO] at ho
  | invoke _ _=>simp [cO] at ho
  | builtin b=>cases b<;>simp only [cO] at ho<;>(repeat' (split at ho))<;>simp at ho
 all_goals (simp only [cO] at ho;(repeat' (split at ho))<;>simp at ho)
theorem ZY {P:Program} {op:Op} {f:X} {xs:List X} (ho:cO P op = .callv f xs):
  ∃t cargs argTypes,op = .call ⟨.value (.tmp t),cargs,argTypes⟩∧f = .t t∧cargs.toList.map cX=xs:=by
 cases op
 case call ci=>
  obtain ⟨callee,cargs,argTypes⟩:=ci;cases callee with
  | value o=>
    cases o with
    | tmp t=>simp only [cO,EO.callv.injEq] at ho;obtain ⟨rfl,rfl⟩:=ho;exact ⟨t,cargs,argTypes,rfl,rfl,rfl⟩
    | func f'=>simp only [cO] at ho;(repeat' (split at ho))<;>simp at ho
    | _=>simp [cO] at ho
  | invoke _ _=>simp [cO] at ho
  | builtin b=>cases b<;>simp only [cO] at ho<;>(repeat' (split at ho))<;>simp at ho
 all_goals (simp only [cO] at ho;(repeat' (split at ho))<;>simp at ho)
theorem PB {P:Program} {op:Op} {n:Nat} {x i:X} (ho:cO P op = .idx n x i):
  ∃T y j e,op = .indexAddr T y j∧P.underlying T=some (.slice e)∧C9 P e=some n∧cX y=x∧cX j=i:=by
 cases op<;>simp only [cO] at ho<;>(repeat' (split at ho))<;>(try (simp at ho;done));rename_i T y j _ e hT _ n' hn;simp only [EO.idx.injEq] at ho;obtain ⟨rfl,rfl,rfl⟩:=ho;exact ⟨T,y,j,e,rfl,hT,hn,rfl,rfl⟩
theorem qR {P:Program} {op:Op} {l:Nat} {x i:X} (ho:cO P op = .ai l x i):
  ∃T y j e,op = .index T y j∧P.underlying T=some (.array l e)∧Ez P e=some none∧C9 P e=some 1∧cX y=x∧cX j=i:=by
 cases op<;>simp only [cO] at ho<;>(repeat' (split at ho))<;>(try (simp at ho;done));rename_i T y j _ l' e hT _ _ n' ha hn h1;simp only [EO.ai.injEq] at ho;obtain ⟨rfl,rfl,rfl⟩:=ho;subst h1;exact ⟨T,y,j,e,rfl,hT,ha,hn,rfl,rfl⟩
theorem ZX {P:Program} {op:Op} {e n b:Nat} {x y:X} (ho:cO P op = .app e n b x y):
  ∃t p q i z,op = .call ⟨.builtin .append, #[p,q], #[t,t]⟩∧P.underlying t=some (.slice e)∧P.info? e=some i∧i.zero=some z∧i.size=n∧i.bytes=b∧z.cells.size=n∧0<n∧cX p=x∧cX q=y:=by
 cases op
 case call ci=>
  obtain ⟨callee,cargs,argTypes⟩:=ci;cases callee with
  | value o=>
    cases o with
    | func f'=>simp only [cO] at ho;(repeat' (split at ho))<;>simp at ho
    | _=>simp [cO] at ho
  | invoke _ _=>simp [cO] at ho
  | builtin b=>
    cases b
    case append=>
     simp only [cO] at ho;split at ho
     ·rename_i t0 t1 p q h1 h2;split at ho
      ·rename_i ht;split at ho
       ·rename_i e' hu;split at ho
        ·rename_i i hi;split at ho
         ·rename_i z hz;split at ho
          ·rename_i h6;simp only [EO.app.injEq] at ho;obtain ⟨rfl,rfl,rfl,rfl,rfl⟩:=ho;subst ht;have e1:cargs = #[p,q]:=by apply Array.ext';simpa using h2
           have e2:argTypes = #[t0,t0]:=by apply Array.ext';simpa using h1
           subst e1;subst e2;exact ⟨t0,p,q,i,z,rfl,hu,hi,hz,rfl,rfl,h6.1,h6.2,rfl,rfl⟩
          ·simp at ho
         ·simp at ho
        ·simp at ho
       ·simp at ho
      ·(repeat' (split at ho))<;>simp at ho
     ·simp at ho
    all_goals (simp only [cO] at ho;(repeat' (split at ho))<;>simp at ho)
 all_goals (simp only [cO] at ho;(repeat' (split at ho))<;>simp at ho)
theorem mY {f:Nat} {xs:List X} {args:List AV} {res:AV} (hf:Cd c.P f args res)
  (ha:AV.le.leL (B8 S xs) args) (hp:AD args=true):Bi c S (.call f xs) res S:=by
 intro ro ho M a w hT next Q hn
 obtain ⟨dst,op,ty,pos,af,gd⟩:=ro;dsimp only at ho;obtain ⟨cargs,argTypes,rfl,h8,rfl⟩:=LY ho;have hm:=Fd _ _ (Ep _ _ _ ha (G9 hT cargs.toList)) hp;have hc:=hf M.H w _ hT.st.hle hT.st.pin.gl hm;have h6:(execOp a.eval ⟨dst,.call ⟨.value (.func f),cargs,argTypes⟩,ty,pos,af,gd⟩).run c.P w = .ok (.enter f (cargs.map a.eval)) w:=by have he:a.eval (.func f) = .func (.func f) #[] #[]:=rfl;generalize a.eval=ρ at *;simp [execOp,resolve,Deferred.ofValue,invoke,he,HU h8]
 unfold Oper.wp;rw [h6];show Calls c.P f (cargs.map a.eval) w _;have e1:(cargs.toList.map a.eval).toArray=cargs.map a.eval:=by apply Array.ext';simp
 rw [←e1];refine hc.mono ?_;rintro e w' ⟨v,H',rfl,hb,h1,h2,h3⟩;obtain ⟨hS,hle⟩:=hT.st.sealed hb h1 h2;exact hn _ w' v hle hS (Dm (OZ _) _ _ h3)
theorem pd {d:Option Nat} {g:Option (Nat×Bool)} {f:Nat} {xs:List X} {l:List EOp} {args:List AV} {res:AV} (hg:gm S g) (hf:Cd c.P f args res)
  (ha:AV.le.leL (B8 S xs) args:=by first | exact Am _ | simp [go_sem]) (hp:AD args=true:=by first | rfl | simp [go_sem]) (h:V c fn K (.ops l::k) (S.put d res)):V c fn K (.ops (⟨d,g,.call f xs⟩::l)::k) S:=
 AU hg (mY hf ha hp) rfl h
theorem n5 {f:Nat} {o:X} {xs:List X} {caps args:List AV} {res:AV} (ho:S.x o = .clo f caps) (hf:Cd c.P f args res)
  (h9:(c.P.funcs[f]?).any (fun fn=>fn.body.isSome&&!(fn.name == "runtime.NumGoroutine"))=true)
  (ha:AV.le.leL (B8 S xs++caps) args) (hp:AD args=true):Bi c S (.callv o xs) res S:=by
 intro ro h6 M a w hT next Q hn
 obtain ⟨dst,op,ty,pos,af,gd⟩:=ro;dsimp only at h6;obtain ⟨t,cargs,argTypes,rfl,rfl,rfl⟩:=ZY h6;have hx:=Ak hT (.tmp t);rw [show S.x (cX (.tmp t)) = .clo f caps from ho] at hx;obtain ⟨cv,hx1,hd⟩:=hx;have hm:=Fd _ _ (Ep _ _ _ ha (BH (G9 hT cargs.toList) hd)) hp;have hc:=hf M.H w _ hT.st.hle hT.st.pin.gl hm;have h8:(execOp a.eval ⟨dst,.call ⟨.value (.tmp t),cargs,argTypes⟩,ty,pos,af,gd⟩).run c.P w = .ok (.enter f (cargs.map a.eval++cv.toArray)) w:=by generalize a.eval=ρ at *;simp [execOp,resolve,Deferred.ofValue,invoke,hx1,HU h9]
 unfold Oper.wp;rw [h8];show Calls c.P f (cargs.map a.eval++cv.toArray) w _;have e1:(cargs.toList.map a.eval++cv).toArray=cargs.map a.eval++cv.toArray:=by apply Array.ext';simp
 rw [←e1];refine hc.mono ?_;rintro e w' ⟨v,H',rfl,hb,h1,h2,h3⟩;obtain ⟨hS,hle⟩:=hT.st.sealed hb h1 h2;exact hn _ w' v hle hS (Dm (OZ _) _ _ h3)
theorem Zz {d:Option Nat} {g:Option (Nat×Bool)} {f:Nat} {o:X} {xs:List X} {l:List EOp} {caps args:List AV} {res:AV} (hg:gm S g) (ho:S.x o = .clo f caps) (hf:Cd c.P f args res)
  (h6:(c.P.funcs[f]?).any (fun fn=>fn.body.isSome&&!(fn.name == "runtime.NumGoroutine"))=true)
  (ha:AV.le.leL (B8 S xs++caps) args:=by first | exact Am _ | simp [go_sem]) (hp:AD args=true:=by first | rfl | simp [go_sem]) (h:V c fn K (.ops l::k) (S.put d res)):V c fn K (.ops (⟨d,g,.callv o xs⟩::l)::k) S:=
 AU hg (n5 ho hf h6 ha hp) rfl h
theorem V8 {M:Mem} {n:Nat}:∀ {rows:List (List AV)} {vss:List (List Value)},AV.isLL M n rows vss→∀(j:Nat) row,rows[j]?=some row→
  ∃vs,vss[j]?=some vs∧vs.length=n∧AV.isL M row vs∧∀(m:Nat) v,vs[m]?=some v→vss.flatten[j*n+m]?=some v
 | [],_,_,j,row,h=>by simp at h
 | r::rows,_,⟨v,vs,hv,h0,h1,h2⟩,j,row,h=>by
   subst hv;cases j with
   | zero=>simp at h;subst h;refine ⟨v,by simp,h0,h1,fun m u hm=>?_⟩;simp only [List.flatten_cons,Nat.zero_mul,Nat.zero_add];rw [List.getElem?_append_left (List.getElem?_eq_some_iff.1 hm).1];exact hm
   | succ j=>obtain ⟨us,g1,g2,g3,g4⟩:=V8 h2 j row (by simpa using h);refine ⟨us,by simpa using g1,g2,g3,fun m u hm=>?_⟩;simp only [List.flatten_cons];rw [List.getElem?_append_right (by rw [h0,Nat.add_mul];omega),h0,show (j+1)*n+m-n=j*n+m from by rw [Nat.add_mul];omega];exact g4 m u hm
theorem i9 {P:Program} {w:World} {T e n:Nat} (hu:P.underlying T=some (.slice e)) (hs:C9 P e=some n) {x i:Operand} {ρ:Operand→Value} {ad:Addr} {len cp:Nat} {j:Int}
  (hx:ρ x = .slice (some ad) len cp) (hi:ρ i = .int .i64 j) (h0:0≤j) (h1:j<len) (d:Option Tmp) (ty:TypeId) (pos:String) (af:Array Edge) (E:Option (Nat×Bool)):
  (execOp ρ ⟨d,.indexAddr T x i,ty,pos,af,E⟩).run P w = .ok (.value (.pointer (some (ad.add (j.toNat*n))))) w:=by
 simp [execOp,Instr.indexAt,asIntOf,hx,hi,run_underlying hu,Fi hs,h0,h1]
theorem n7 {n m:Nat} {x i:X} {rows:List (List AV)} {j:Int} (row:List AV) (hx:S.x x = .sl m rows) (hi:S.x i = .iv j) (h9:m=n)
  (h0:0≤j) (hr:rows[j.toNat]?=some row):Bi c S (.idx n x i) (.elt row 0) S:=by
 intro ro h6 M a w hT next Q hn
 obtain ⟨dst,op,ty,pos,af,gd⟩:=ro;dsimp only at h6;subst h9;obtain ⟨T,y,z,e,rfl,hu,hs,rfl,rfl⟩:=PB h6;have h1:=Ak hT y;have h2:=Ak hT z;rw [hx] at h1;rw [hi] at h2;obtain ⟨ad,cp,g1,g2,g3⟩:=h1;have hlt:=(List.getElem?_eq_some_iff.1 hr).1;obtain ⟨ad,vss,rfl,g4,g5⟩:=g3 (by intro e;subst e;simp at hlt);obtain ⟨vs,q1,q2,q3,q4⟩:=V8 g4 _ row hr;have h8:=i9 (P:=c.P) (w:=w) hu hs g1 h2 h0 Om dst ty pos af gd;unfold Oper.wp;rw [h8];refine hn M w _ (.refl M) hT.st ?_;obtain ⟨s1,s2,cs,T',fr,s3,s4⟩:=g5;have hd:ad.add (j.toNat*m)=⟨ad.block,ad.off+j.toNat*m,none⟩:=by obtain ⟨b,o,sp⟩:=ad;dsimp only at s1;subst s1;exact Addr.add_lit _ _ _
 refine ⟨⟨ad.block,ad.off+j.toNat*m,none⟩,vs,by rw [hd];rfl,q3,rfl,?_,cs,T',fr,s3,?_⟩
 ·intro v hv;obtain ⟨t,ht⟩:=List.mem_iff_getElem?.1 hv;exact s2 v (List.mem_iff_getElem?.2 ⟨_,q4 t v ht⟩)
 ·intro t v ht;have:=s4 _ v (q4 t v ht);dsimp only;rw [show ad.off+j.toNat*m+t=ad.off+(j.toNat*m+t) from by omega];exact this
theorem pz {d:Option Nat} {g:Option (Nat×Bool)} {n m:Nat} {x i:X} {l:List EOp} {rows:List (List AV)} {j:Int} (row:List AV) (hg:gm S g) (hx:S.x x = .sl m rows) (hi:S.x i = .iv j) (h6:m=n)
  (h0:0≤j) (hr:rows[j.toNat]?=some row) (h:V c fn K (.ops l::k) (S.put d (.elt row 0))):V c fn K (.ops (⟨d,g,.idx n x i⟩::l)::k) S:=
 AU hg (n7 row hx hi h6 h0 hr) rfl h
theorem Z0D {n:Nat} {x i:X} {l:List AV} {j:Int} {y:AV} (hx:S.x x = .agg l) (hi:S.x i = .iv j) (hl:l.length=n) (h0:0≤j) (hy:l[j.toNat]?=some y):Bi c S (.ai n x i) y S:=by
 intro ro h6 M a w hT next Q hn
 obtain ⟨dst,op,ty,pos,af,gd⟩:=ro;dsimp only at h6;obtain ⟨T,p,z,e,rfl,hu,ha,hs,rfl,rfl⟩:=qR h6;have h1:=Ak hT p;have h2:=Ak hT z;rw [hx] at h1;rw [hi] at h2;obtain ⟨vs,g1,g2⟩:=h1;have h9:=D5 g2;have hlt:=(List.getElem?_eq_some_iff.1 hy).1;have hv:vs[j.toNat]?=some vs[j.toNat]:=List.getElem?_eq_getElem Om;have h8:(execOp a.eval ⟨dst,.index T p z,ty,pos,af,gd⟩).run c.P w = .ok (.value vs[j.toNat]) w:=by
  have e1:a.eval z = .int .i64 j:=h2;have hj:0≤j∧j<n:=⟨h0,Om⟩
  generalize a.eval=ρ at *;simp [execOp,Instr.index,g1,e1,asIntOf,run_underlying hu,hj,Fi hs,lq ha hv]
 unfold Oper.wp;rw [h8];exact hn M w _ (.refl M) hT.st (aQ g2 _ _ _ hy hv)
end
end NX
end Go.Proofs.YtjemlejoladlcaaGreat
