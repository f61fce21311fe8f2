/-
  The symbolic machine, sound over the model: its run, and the rules for what it stops at. No statement of the seat is proved here.
-/
import Derived.LoopN
import Derived.Test.YtgamgemlekpepaaGreatK3
namespace Go.Proofs.YtgamgemlekpepaaGreat
namespace NX
open Go Go.RowKit
section
variable {c:Ctx} {M:Mem} {S:St} {a:Act} {w:World} {fn:Func} {K:AV→List (Option Blk)→List (Option Sl)→Prop} {k:List It}
theorem Zb6 (a:Act) (d:Option Tmp) (v:Value) (t:Nat):(a.put d v).tmps.getD t undef=if some t=d∧t<a.tmps.size then v else a.tmps.getD t undef:=by
 cases d with
 | none=>simp [Act.put]
 | some d=>
   simp only [Act.put,Array.getD_eq_getD_getElem?,Array.getElem?_setIfInBounds,Option.some.injEq];by_cases h:t=d
   ·subst h;by_cases h2:t<a.tmps.size
    ·simp [h2]
    ·simp [h2]
   ·rw [if_neg (fun e=>h e.symm),if_neg (fun e=>h e.1)]
theorem Zc6 (a:Act) (d:Option Tmp) (v:Value):(a.put d v).tmps.size=a.tmps.size:=by cases d<;>simp [Act.put]
theorem RelT.put (J:RelT c M S a w) {M':Mem} {w':World} {v:AV} {x:Value} (d:Option Tmp) {bs ss} (hM:M.le M') (U:RelS c M' bs ss w') (hv:v.is M' x):
  RelT c M' ((⟨S.tm,bs,ss⟩:St).put d v) (a.put d x) w':=by
 refine ⟨?_,?_,?_,?_⟩
 ·rw [Zc6];cases d with
  | none=>exact J.len
  | some d=>simp only [St.put,Z32];exact J.len
 ·intro t;rw [Zb6];cases d with
  | none=>simpa [St.put] using Zn2 hM _ _ (J.tm t)
  | some d=>
    simp only [St.put,Z22,Option.some.injEq];by_cases h:t=d
    ·subst h;by_cases h2:t<S.tm.length
     ·rw [if_pos ⟨rfl,h2⟩,if_pos ⟨rfl,Nat.lt_of_lt_of_le h2 J.len⟩];exact hv
     ·rw [if_neg (fun e=>h2 e.2)];have:Zn S.tm t = .any:=by
       have hl:S.tm.length≤t:=by omega
       clear J h2;generalize S.tm=l at hl;induction l generalizing t with
       | nil=>rfl
       | cons y l ih=>cases t with
         | zero=>simp at hl
         | succ t=>exact ih t (by simpa using hl)
      rw [this];trivial
    ·rw [if_neg (fun e=>h e.1),if_neg (fun e=>h e.1)];exact Zn2 hM _ _ (J.tm t)
 ·cases d<;>exact J.df
 ·cases d<;>exact U
theorem Zd6 {all:Array Oper} {j t:Nat} (h:(all[j]?).bind (·.dst)=some t):yielded all a.tmps j=match a.tmps.getD t undef with | .bool b=>some b | _=>none:=by
 unfold yielded;rw [h];simp only [Option.bind_some];cases hh:a.tmps[t]? with
 | none=>simp [hh,undef]
 | some v=>simp [hh];cases v<;>rfl
theorem Ze6 {o:EOp} {l:List EOp} {S':St} {q:Prop} (he:ev1 S o=some (S',q)) (hq:q) (h:V c fn K (.ops l::k) S'):V c fn K (.ops (o::l)::k) S:=by
 rintro rk M a w ⟨y,r,rfl,hy,hr⟩ hT;cases y with
 | code x=>exact hy.elim
 | blk i=>exact hy.elim
 | lp _ _=>exact hy.elim
 | sc _=>exact hy.elim
 | ops all rl=>
   obtain ⟨ro,rl',rfl,ho,hl⟩:=mapM_cons hy;have hd:∀ {S1 v q'},ev S (cO c.P ro.op)=some (v,S1,q')→q'→S'=S1.put ro.dst v→wpList c.P all (Z73 c.P fn (RK c K) r) rl'=wpList c.P all (Z73 c.P fn (RK c K) r) rl'→Region.wanted ro (yielded all a.tmps)=true→
    wpList c.P all (Z73 c.P fn (RK c K) r) (ro::rl') a w:=by
    intro S1 v q' h1 h2 h3 _ hw;unfold wpList;rw [if_pos hw];refine .inl ?_;obtain ⟨d,op,ty,pos,af,g⟩:=ro;obtain ⟨x,M',w',h9,hM,hS,h6,hv⟩:=Za6 hT op h1 h2 d ty pos af g;have hT':RelT c M' S' (a.put d x) w':=by rw [h3];have:=hT.put d hM hS hv;rw [←h6] at this;exact this
    have hk:=h (.ops all rl'::r) M' (a.put d x) w' ⟨_,_,rfl,hl,hr⟩ hT';unfold Oper.wp;rcases h9 with h9 | ⟨h9,hx⟩
    ·rw [h9];exact hk
    ·rw [h9];subst hx;exact hk
   have hc:S'=S.put ro.dst .un→Region.wanted ro (yielded all a.tmps)=false→wpList c.P all (Z73 c.P fn (RK c K) r) (ro::rl') a w:=by intro h1 hw;unfold wpList;rw [if_neg (by simp [hw])];refine h (.ops all rl'::r) M (a.put ro.dst undef) w ⟨_,_,rfl,hl,hr⟩ ?_;rw [h1];exact hT.put ro.dst (.refl M) hT.st (v:=.un) rfl
   show wpList c.P all (Z73 c.P fn (RK c K) r) (ro::rl') a w;unfold Ze at ho;cases hg:ro.guard with
   | none=>rw [hg] at ho;simp only [Option.some.injEq] at ho;subst ho;simp only [ev1,Option.map_eq_some_iff,Prod.mk.injEq] at he;obtain ⟨⟨v,S1,q'⟩,h1,h2,h3⟩:=he;dsimp only at h2 h3;subst h3;exact hd h1 hq h2.symm rfl (by simp [Region.wanted,hg])
   | some jf=>
     obtain ⟨j,f⟩:=jf;rw [hg] at ho;dsimp only at ho;split at ho
     ·rename_i t ht;simp only [Option.some.injEq] at ho;subst ho;have h8:=Zd6 (a:=a) ht;have h6:=Zf1 (hT.tm t);simp only [ev1] at he;split at he
      ·rename_i hv;rw [hv] at h6;simp only [Option.map_eq_some_iff,Prod.mk.injEq] at he;obtain ⟨⟨v,S1,q'⟩,h1,h2,h3⟩:=he;dsimp only at h2 h3;subst h3;exact hd h1 hq h2.symm rfl (by rw [show a.tmps.getD t undef = .bool true from h6] at h8;simp [Region.wanted,hg,h8])
      ·rename_i hv;rw [hv] at h6;simp only [Option.map_eq_some_iff,Prod.mk.injEq] at he;obtain ⟨⟨v,S1,q'⟩,h1,h2,h3⟩:=he;dsimp only at h2 h3;subst h3;exact hd h1 hq h2.symm rfl (by rw [show a.tmps.getD t undef = .bool false from h6] at h8;simp [Region.wanted,hg,h8])
      ·rename_i hv;rw [hv] at h6;simp only [Option.some.injEq,Prod.mk.injEq] at he;exact hc he.1.symm (by rw [show a.tmps.getD t undef = .bool true from h6] at h8;simp [Region.wanted,hg,h8])
      ·rename_i hv;rw [hv] at h6;simp only [Option.some.injEq,Prod.mk.injEq] at he;exact hc he.1.symm (by rw [show a.tmps.getD t undef = .bool false from h6] at h8;simp [Region.wanted,hg,h8])
      ·rename_i hv;rw [hv] at h6;simp only [Option.some.injEq,Prod.mk.injEq] at he;exact hc he.1.symm (by rw [show a.tmps.getD t undef=undef from h6] at h8;simp [undef] at h8;simp [Region.wanted,hg,h8])
      ·simp at he
     ·simp at ho
theorem Zf6:∀(m:Nat) (k:List It) (S:St) (p:Prop),(run m k S p).2.2→V c fn K (run m k S p).1 (run m k S p).2.1→p∧V c fn K k S
 | 0,k,S,p,hp,h=>⟨hp,h⟩
 | m+1,[],S,p,hp,h=>⟨hp,h⟩
 | m+1,.blk _::k,S,p,hp,h=>by obtain ⟨h1,h2⟩:=Zf6 m k S p hp h;exact ⟨h1,Zy3 h2⟩
 | m+1,.sc _::k,S,p,hp,h=>by obtain ⟨h1,h2⟩:=Zf6 m k S p hp h;exact ⟨h1,V_sc h2⟩
 | m+1,.lp _ _::k,S,p,hp,h=>⟨hp,h⟩
 | m+1,.ops []::k,S,p,hp,h=>by obtain ⟨h1,h2⟩:=Zf6 m k S p hp h;exact ⟨h1,Zz3 h2⟩
 | m+1,.ops (o::l)::k,S,p,hp,h=>by
   simp only [run] at hp h;split at hp
   ·rename_i r hr;rw [hr] at h;obtain ⟨h1,h2⟩:=Zf6 m _ _ _ hp h;exact ⟨h1.1,Ze6 (S':=r.1) (q:=r.2) hr h1.2 h2⟩
   ·rename_i hr;rw [hr] at h;exact ⟨hp,h⟩
 | m+1,.code e::k,S,p,hp,h=>by
   cases e with
   | skip=>obtain ⟨h1,h2⟩:=Zf6 m k S p hp h;exact ⟨h1,Zr3 h2⟩
   | seq x y=>obtain ⟨h1,h2⟩:=Zf6 m _ S p hp h;exact ⟨h1,Zs3 h2⟩
   | blk id x=>obtain ⟨h1,h2⟩:=Zf6 m _ S p hp h;exact ⟨h1,Zt3 h2⟩
   | reg l=>obtain ⟨h1,h2⟩:=Zf6 m _ S p hp h;exact ⟨h1,Z04 h2⟩
   | exit id=>
     simp only [run] at hp h;split at hp
     ·rename_i k' hk;rw [hk] at h;obtain ⟨h1,h2⟩:=Zf6 m _ S p hp h;exact ⟨h1,Z24 hk h2⟩
     ·rename_i hk;rw [hk] at h;exact ⟨hp,h⟩
   | scope x=>obtain ⟨h1,h2⟩:=Zf6 m _ S p hp h;exact ⟨h1,Zu3 h2⟩
   | label l=>obtain ⟨h1,h2⟩:=Zf6 m k S p hp h;exact ⟨h1,Zv3 h2⟩
   | goto l=>
     simp only [run] at hp h;split at hp
     ·rename_i k' hk;rw [hk] at h;obtain ⟨h1,h2⟩:=Zf6 m _ S p hp h;exact ⟨h1,Zx3 hk h2⟩
     ·rename_i hk;rw [hk] at h;exact ⟨hp,h⟩
   | ite o x y=>
     simp only [run] at hp h;split at hp
     ·rename_i hk;rw [hk] at h;obtain ⟨h1,h2⟩:=Zf6 m _ S p hp h;exact ⟨h1,V_tt hk h2⟩
     ·rename_i hk;rw [hk] at h;obtain ⟨h1,h2⟩:=Zf6 m _ S p hp h;exact ⟨h1,V_ff hk h2⟩
     ·rename_i h1 h2;split at h
      ·rename_i hk;exact absurd hk h1
      ·rename_i hk;exact absurd hk h2
      ·exact ⟨hp,h⟩
   | _=>exact ⟨hp,h⟩
theorem Zg6 (m:Nat) (h:(run m k S True).2.2∧V c fn K (run m k S True).1 (run m k S True).2.1):V c fn K k S:=(Zf6 m k S True h.1 h.2).2
end
end NX
end Go.Proofs.YtgamgemlekpepaaGreat
/-
  The symbolic machine: the rules for what its run stops at. No statement of the seat is proved here.
-/
namespace Go.Proofs.YtgamgemlekpepaaGreat
namespace NX
open Go Go.RowKit
mutual
theorem Zh6 {M:Mem}:∀(x y:AV) (v:Value),x.le y→x.is M v→y.is M v
 | x,y,v,h,k=>by
   cases y<;>unfold AV.le at h<;>(try dsimp only at h)
   case any=>trivial
   case tt=>split at h<;>first | (subst h;exact k) | exact k
   case ff=>split at h<;>first | (subst h;exact k) | exact k
   case bv e=>split at h<;>(subst h;exact k)
   case iv e=>split at h<;>(subst h;exact k)
   case elt e j=>
    split at h
    ·obtain ⟨a,vs,h1,h2,h3⟩:=k;obtain ⟨h,rfl⟩:=h;exact ⟨a,vs,h1,Zi6 _ _ vs h h2,h3⟩
    ·subst h;exact k
   case sl m e=>
    split at h
    ·subst h;simp only [AV.is] at k;subst k;exact ⟨none,0,rfl,⟨Nat.le_refl _,fun _=>rfl⟩,fun h=>absurd rfl h⟩
    ·obtain ⟨a,c,h1,h2,h3⟩:=k;obtain ⟨rfl,h4,h5⟩:=h;refine ⟨a,c,by rw [←h4];exact h1,by rw [←h4];exact h2,fun hne=>?_⟩;obtain ⟨ad,vss,g1,g2,g3⟩:=h3 (fun e0=>hne (List.length_eq_zero_iff.1 (by rw [←h4,e0];rfl)));exact ⟨ad,vss,g1,h5 _ _ g2,g3⟩
    ·subst h;exact k
   case agg e=>
    split at h
    ·obtain ⟨vs,h1,h2⟩:=k;exact ⟨vs,h1,Zi6 _ _ vs h h2⟩
    ·subst h;exact k
   case tup e=>
    split at h
    ·obtain ⟨vs,h1,h2⟩:=k;exact ⟨vs,h1,Zi6 _ _ vs h h2⟩
    ·subst h;exact k
   case clo g e=>
    split at h
    ·obtain ⟨vs,h1,h2⟩:=k;obtain ⟨rfl,h⟩:=h;exact ⟨vs,h1,Zi6 _ _ vs h h2⟩
    ·subst h;exact k
   all_goals (change _=_ at h;subst h;exact k)
 termination_by x=>SizeOf.sizeOf x
theorem Zi6 {M:Mem}:∀(l r:List AV) (vs:List Value),AV.le.leL l r→AV.isL M l vs→AV.isL M r vs
 | [],[],_,_,k=>k
 | x::l,y::r,_,h,⟨v,vs,h1,h2,h3⟩=>⟨v,vs,h1,Zh6 x y v h.1 h2,Zi6 l r vs h.2 h3⟩
 | [],_::_,_,h,_=>h.elim
 | _::_,[],_,h,_=>h.elim
 termination_by l=>SizeOf.sizeOf l
end
theorem Zj6 {M:Mem}:∀ {l r:List AV} {f:Nat→Value},leT l r→(∀t,(Zn l t).is M (f t))→r.length≤l.length∧∀t,(Zn r t).is M (f t)
 | l,[],f,_,_=>⟨Nat.zero_le _,fun _=>trivial⟩
 | [],_::_,_,h,_=>h.elim
 | x::l,y::r,f,h,k=>by
   obtain ⟨g1,g2⟩:=Zj6 (f:=fun t=>f (t+1)) h.2 (fun t=>k (t+1));refine ⟨by simp;exact g1,fun t=>?_⟩;cases t with
   | zero=>exact Zh6 x y _ h.1 (k 0)
   | succ t=>exact g2 t
theorem Zk6:∀ {l r:List (Option Blk)},leB l r→r.length≤l.length∧∀j C,Zp r j=some C→∃B,Zp l j=some B∧B.T=C.T∧AV.le.leL B.cells C.cells
 | l,[],_=>⟨Nat.zero_le _,fun j C h=>by simp [Zp] at h⟩
 | [],_::_,h=>by simp [leB] at h
 | _::l,none::r,h=>by
   obtain ⟨g1,g2⟩:=Zk6 (l:=l) (r:=r) (by simpa [leB] using h);refine ⟨by simp;exact g1,fun j C hj=>?_⟩;cases j with
   | zero=>simp [Zp] at hj
   | succ j=>exact g2 j C hj
 | none::l,some _::r,h=>by simp [leB] at h
 | some B::l,some C::r,h=>by
   simp only [leB] at h;obtain ⟨g1,g2⟩:=Zk6 h.2.2;refine ⟨by simp;exact g1,fun j D hj=>?_⟩;cases j with
   | zero=>simp [Zp] at hj;subst hj;exact ⟨B,rfl,h.1,h.2.1⟩
   | succ j=>exact g2 j D hj
theorem Zl6:∀ {l r:List (Option Sl)},leS l r→r.length≤l.length∧∀j C,Zp r j=some C→∃B,Zp l j=some B∧B.T=C.T∧B.n=C.n∧Zg1 B.n B.rows C.rows
 | l,[],_=>⟨Nat.zero_le _,fun j C h=>by simp [Zp] at h⟩
 | [],_::_,h=>by simp [leS] at h
 | _::l,none::r,h=>by
   obtain ⟨g1,g2⟩:=Zl6 (l:=l) (r:=r) (by simpa [leS] using h);refine ⟨by simp;exact g1,fun j C hj=>?_⟩;cases j with
   | zero=>simp [Zp] at hj
   | succ j=>exact g2 j C hj
 | none::l,some _::r,h=>by simp [leS] at h
 | some B::l,some C::r,h=>by
   simp only [leS] at h;obtain ⟨g1,g2⟩:=Zl6 h.2.2.2;refine ⟨by simp;exact g1,fun j D hj=>?_⟩;cases j with
   | zero=>simp [Zp] at hj;subst hj;exact ⟨B,rfl,h.1,h.2.1,h.2.2.1⟩
   | succ j=>exact g2 j D hj
def Mem.cut (M:Mem) (nb ns:Nat):Mem:= {M with nb:=nb,ns:=ns}
mutual
theorem Zm6 {M:Mem} {nb ns:Nat}:∀(x:AV) (v:Value),x.is M v→x.ok nb ns=true→x.is (M.cut nb ns) v
 | .any,_,_,_=>trivial
 | .un,_,k,_=>k
 | .tt,_,k,_=>k
 | .ff,_,k,_=>k
 | .bv _,_,k,_=>k
 | .iv _,_,k,_=>k
 | .kv _ _,_,k,_=>k
 | .sv _,_,k,_=>k
 | .nl,_,k,_=>k
 | .nlp,_,k,_=>k
 | .fn _,_,k,_=>k
 | .ptr _ _,_,k,h=>⟨(Z02 _ _).1 h,k.2⟩
 | .osl _,_,k,h=>⟨(Z02 _ _).1 h,k.2⟩
 | .oel _ _ _,_,k,h=>⟨(Z02 _ _).1 h,k.2⟩
 | .ocs _ _ _ _,_,k,h=>⟨(Z02 _ _).1 h,k.2⟩
 | .elt _ _,_,k,_=>k
 | .sl _ _,_,k,_=>k
 | .agg l,_,⟨vs,h1,h2⟩,h=>⟨vs,h1,Zn6 l vs h2 (by simpa [AV.ok] using h)⟩
 | .tup l,_,⟨vs,h1,h2⟩,h=>⟨vs,h1,Zn6 l vs h2 (by simpa [AV.ok] using h)⟩
 | .clo _ l,_,⟨vs,h1,h2⟩,h=>⟨vs,h1,Zn6 l vs h2 (by simpa [AV.ok] using h)⟩
theorem Zn6 {M:Mem} {nb ns:Nat}:∀(l:List AV) (vs:List Value),AV.isL M l vs→okL nb ns l=true→AV.isL (M.cut nb ns) l vs
 | [],_,k,_=>k
 | x::l,_,⟨v,r,h1,h2,h3⟩,h=>by simp only [okL,Zz1] at h;exact ⟨v,r,h1,Zm6 x v h2 h.1,Zn6 l r h3 h.2⟩
end
theorem Zo6 {nb ns:Nat}:∀ {l:List AV} (t:Nat),okL nb ns l=true→(Zn l t).ok nb ns=true
 | [],_,_=>rfl
 | x::l,0,h=>by simp only [okL,Zz1] at h;exact h.1
 | x::l,t+1,h=>by simp only [okL,Zz1] at h;exact Zo6 t h.2
theorem Zp6 {nb ns:Nat}:∀ {l:List (Option Blk)} (t:Nat) B,okB nb ns l=true→Zp l t=some B→okL nb ns B.cells=true
 | [],_,_,_,h=>by simp [Zp] at h
 | none::l,0,B,_,h2=>by simp [Zp] at h2
 | some C::l,0,B,h,h2=>by simp only [okB,Zz1] at h;simp [Zp] at h2;subst h2;exact h.1
 | none::l,t+1,B,h,h2=>Zp6 (l:=l) t B (by simpa [okB] using h) h2
 | some C::l,t+1,B,h,h2=>by simp only [okB,Zz1] at h;exact Zp6 t B h.2 h2
section
variable {c:Ctx} {M:Mem} {S S':St} {a:Act} {w:World} {fn:Func} {K:AV→List (Option Blk)→List (Option Sl)→Prop} {k:List It}
theorem Zq6 {M:Mem} {n s:Nat}:∀ {rows:List (List AV)} {vss:List (List Value)},AV.isLL M.sl n rows vss→Zh1 s rows=true→AV.isLL (M.sl.cut 0 s) n rows vss
 | [],_,h,_=>h
 | r::l,_,⟨v,q,h0,h1,h2,h3⟩,hp=>by simp only [Zh1,Zz1] at hp;exact ⟨v,q,h0,h1,Zn6 _ _ h2 hp.1,Zq6 h3 hp.2⟩
theorem Zr6 {ns:Nat}:∀ {l:List (Option Sl)} {j:Nat} {L:Sl},Zi1 ns l=true→Zp l j=some L→Zh1 ns L.rows=true
 | [],_,_,_,h=>by simp [Zp] at h
 | none::l,0,_,_,h=>by simp [Zp] at h
 | none::l,j+1,_,h,hj=>Zr6 (l:=l) (j:=j) (by simpa [Zi1] using h) (by simpa [Zp] using hj)
 | some N::l,0,_,h,hj=>by simp only [Zi1,Zz1] at h;simp only [Zp,Option.some.injEq] at hj;subst hj;exact h.1
 | some N::l,j+1,_,h,hj=>by simp only [Zi1,Zz1] at h;exact Zr6 (l:=l) (j:=j) h.2 (by simpa [Zp] using hj)
theorem RelT.weak (J:RelT c M S a w) (hle:S.le S') (hok:S'.ok=true) (h8:Z5 c.np (Zw S'.bs)=true) (hqn:Z5 c.nq (Zw S'.ss)=true):RelT c (M.cut S'.bs.length S'.ss.length) S' a w:=by
 obtain ⟨h1,h2,h3⟩:=hle;simp only [St.ok,Zz1,Z12] at hok;obtain ⟨g1,g2⟩:=Zj6 (f:=fun t=>a.tmps.getD t undef) h1 J.tm;obtain ⟨b1,b2⟩:=Zk6 h2;obtain ⟨s1,s2⟩:=Zl6 h3;refine ⟨Nat.le_trans g1 J.len,fun t=>Zm6 _ _ (g2 t) (Zo6 t hok.1),J.df,?_⟩;have h:=J.st;refine ⟨rfl,rfl,fun j hj=>h.so j (by have hj':j<S'.ss.length:=hj;rw [h.ns];omega),h.os,h.tape,h.output,h.size,h.block,h.hle,h.hold,?_,?_,?_,?_,?_,⟨by rw [Z02,Z12] at h8;exact h8,h.pin.ρ,by rw [Z02,Z12] at hqn;exact hqn,h.pin.σ,h.pin.gl⟩⟩
 ·intro j C hj;obtain ⟨B,hB,h6,hle⟩:=b2 j C hj;obtain ⟨m1,m2,vs,m3,m4,m5⟩:=h.blk j B hB;exact ⟨m1,m2,vs,Zn6 _ _ (Zi6 _ _ vs hle m3) (Zp6 j C hok.2.1 hj),by rw [←h6];exact m4,m5⟩
 ·intro j C hj;obtain ⟨L,hL,h6,hn,hl,hr⟩:=s2 j C hj;obtain ⟨m0,vss,m1,m2,m3,m4⟩:=h.slc j L hL;exact ⟨by rw [←hn];exact m0,vss,by rw [←hn];exact Zq6 (s:=S'.ss.length) (hr _ _ m1) (Zr6 hok.2.2 hj),m2,by rw [←h6,←hn,←hl];exact m3,m4⟩
 ·intro i j B C hi hj e;obtain ⟨B',hB,_⟩:=b2 i B hi;obtain ⟨C',hC,_⟩:=b2 j C hj;exact h.d1 i j B' C' hB hC e
 ·intro i j B L hi hj;obtain ⟨B',hB,_⟩:=b2 i B hi;obtain ⟨L',hL,_⟩:=s2 j L hj;exact h.d2 i j B' L' hB hL
 ·intro i j L N g hi hj e1 e2;obtain ⟨L',hL,_⟩:=s2 i L hi;obtain ⟨N',hN,_⟩:=s2 j N hj;exact h.d3 i j L' N' g hL hN e1 e2
theorem Zs6 (S':St) (hle:S.le S') (hok:S'.ok=true) (h6:Z5 c.np (Zw S'.bs)=true:=by rfl) (hqn:Z5 c.nq (Zw S'.ss)=true:=by rfl) (h:V c fn K k S'):V c fn K k S:=fun rk _ a w hc hT=>h rk _ a w hc (hT.weak hle hok h6 hqn)
theorem Zt6 {b:EC} {X:Type} (U:X→Prop) (Sx:X→St) (μ:X→Nat) (J:X) (h0:S.le (Sx J)) (h1:(Sx J).ok=true) (h6:Z5 c.np (Zw (Sx J).bs)=true) (hqn:Z5 c.nq (Zw (Sx J).ss)=true) (h2:U J)
  (hb:∀n x,U x→(∀x',U x'→μ x'<μ x→V c fn K (.lp b n::k) (Sx x'))→V c fn K (.code b :: .lp b n::k) (Sx x)):V c fn K (.code (.loop b)::k) S:=by
 have key:∀n x,U x→μ x<n→V c fn K (.lp b n::k) (Sx x):=by
  intro n;induction n with
  | zero=>intro x _ h;omega
  | succ n ih=>
    intro x hx h9 rk M a w ⟨y,r,h8,hy,hr⟩ hT;subst h8;cases y with
    | code _=>exact hy.elim
    | ops _ _=>exact hy.elim
    | blk _=>exact hy.elim
    | sc _=>exact hy.elim
    | lp y m=>obtain ⟨hy,hm⟩:=hy;subst hm;have:=hb n x hx (fun x' hx' hlt'=>ih x' hx' (by omega)) (.code y :: .lp y n::r) M a w ⟨_,_,rfl,hy,_,_,rfl,⟨hy,rfl⟩,hr⟩ hT;refine wp_mono this ?_;intro e a w hq;cases e<;>exact hq
 refine Zs6 (Sx J) h0 h1 h6 hqn ?_;refine Zq3 fun x hx rk M1 a w hr hT=>?_;obtain ⟨y,rfl,hy⟩:=Ze3 hx;exact wp_loop_rounds (μ J+1) (key (μ J+1) J h2 (Nat.lt_succ_self _) (.lp y (μ J+1)::rk) M1 a w ⟨_,_,rfl,⟨hy,rfl⟩,hr⟩ hT)
theorem Zu6 {P:Program} {w:World} (x:Addr):(asAddr (.pointer (some x))).run P w = .ok x w:=rfl
theorem Zv6 {P:Program}:∀ {rs:List ResultVar} {J:List ERes} {l:List AV},Zq1 P rs=some J→Zr1 S J=some l→c.P=P→RelT c M S a w→
  ∃vs,(rs.mapM fun | .tmp t=>pure (a.tmps.getD t undef) | .cell x t=>do loadVar t (←asAddr (a.tmps.getD x undef)):Sem (List Value)).run P w = .ok vs w∧AV.isL M l vs
 | [],J,l,h1,h2,_,_=>by simp [Zq1] at h1;subst h1;simp [Zr1] at h2;subst h2;exact ⟨[],by simp,rfl⟩
 | .tmp t::rs,J,l,h1,h2,hP,hT=>by simp only [Zq1,Option.map_eq_some_iff] at h1;obtain ⟨es',h1,rfl⟩:=h1;simp only [Zr1,Option.map_eq_some_iff] at h2;obtain ⟨l',h2,rfl⟩:=h2;obtain ⟨vs,g1,g2⟩:=Zv6 h1 h2 hP hT;refine ⟨a.tmps.getD t undef::vs,?_,⟨_,_,rfl,hT.tm t,g2⟩⟩;rw [List.mapM_cons];simp only [Sem.run_bind,Sem.run_pure,Result.andThen_ok];rw [g1];rfl
 | .cell x T::rs,J,l,h1,h2,hP,hT=>by
   simp only [Zq1] at h1;split at h1<;>simp at h1;rename_i n es' h6 h1';subst h1;have hx:=hT.tm x;cases n with
   | none=>
     simp only [Zr1] at h2;split at h2<;>simp at h2;rename_i r q hr hq;subst h2;obtain ⟨vs,g1,g2⟩:=Zv6 h1' hq hP hT;obtain ⟨g,o,us,hu,u2,u3,u4⟩:=Zz4 hT hx hr;obtain ⟨u,rfl⟩:∃u,us=[u]:=by
      cases us with
      | nil=>simp at u3
      | cons u r=>cases r with
        | nil=>exact ⟨u,rfl⟩
        | cons _ _=>simp at u3
     have hc:=u4 0 u (by simp);simp only [Nat.add_zero] at hc;refine ⟨u::vs,?_,⟨_,_,rfl,?_,g2⟩⟩
     ·rw [List.mapM_cons];simp only [Sem.run_bind,Sem.run_pure,hu,Zu6,Result.andThen_ok,Zm4 h6 hc];rw [g1];rfl
     ·cases r with
      | nil=>simp [AV.isL] at u2
      | cons y r=>obtain ⟨_,_,h,hy,_⟩:=u2;simp at h;obtain ⟨rfl,rfl⟩:=h;exact hy
   | some n=>simp only [Zr1] at h2;split at h2<;>simp at h2;rename_i r q hr hq;subst h2;obtain ⟨vs,g1,g2⟩:=Zv6 h1' hq hP hT;obtain ⟨g,o,us,hu,u2,u3,u4⟩:=Zz4 hT hx hr;refine ⟨.agg us.toArray::vs,?_,⟨_,_,rfl,⟨us,rfl,u2⟩,g2⟩⟩;rw [List.mapM_cons];simp only [Sem.run_bind,Sem.run_pure,hu,Zu6,Result.andThen_ok,Zn4 h6 u3 u4];rw [g1];rfl
theorem Zw6 {rs:List ERes} {x:AV} (J:RelT c M S a w) (hr:Zq1 c.P fn.results.toList=some rs) (hx:Zs1 S rs=some x) (U:K x S.bs S.ss):
  a.defers=[]∧∃v,(results fn a.tmps).run c.P w = .ok v w∧RK c K (.returned v) w:=by
 refine ⟨J.df,?_⟩;unfold Zs1 at hx;split at hx
 ·rename_i y hy;simp at hx;subst hx;obtain ⟨vs,g1,g2⟩:=Zv6 hr hy rfl J;obtain ⟨v,r,rfl,hv,h6⟩:=g2;simp [AV.isL] at h6;subst h6;refine ⟨v,?_,v,M,S.bs,S.ss,y,rfl,J.st,hv,U⟩;unfold results;simp only [Array.mapM_eq_mapM_toList,map_eq_pure_bind,Sem.run_bind]
  erw [g1]
  simp
 ·rename_i l hne hy;simp at hx;subst hx;obtain ⟨vs,g1,g2⟩:=Zv6 hr hy rfl J;have hl:=Ze2 g2;refine ⟨.tuple vs.toArray,?_,_,M,S.bs,S.ss,.tup l,rfl,J.st,⟨vs,rfl,g2⟩,U⟩;unfold results;simp only [Array.mapM_eq_mapM_toList,map_eq_pure_bind,Sem.run_bind]
  erw [g1]
  have h1:vs.length≠1:=by
   intro h1;rw [h1] at hl;cases l with
   | nil=>simp at hl
   | cons y r=>cases r with
     | nil=>exact hne y rfl
     | cons _ _=>simp at hl
  simp [h1]
 ·simp at hx
theorem Zx6 {rs:List ERes} {x:AV} (hr:Zq1 c.P fn.results.toList=some rs) (hx:Zs1 S rs=some x) (J:K x S.bs S.ss):V c fn K (.code .ret::k) S:=
 Zq3 fun y hy rk M a w hk hT=>by
  rw [Zl3 hy];refine wp_ret ?_;have:∀rk,Z93 c.P k rk→Z73 c.P fn (RK c K) rk .ret a w:=by
   clear hk;induction k with
   | nil=>rintro rk rfl;exact Zw6 hT hr hx J
   | cons i k ih=>rintro rk ⟨y,r,rfl,hy,hr'⟩;cases y<;>first | exact ih r hr' | exact Z43 (by simp) (ih r hr')
  exact this rk hk
theorem Zy6 {rs:List ERes} {x:AV} (hr:Zq1 c.P fn.results.toList=some rs) (hx:Zs1 S rs=some x) (J:K x S.bs S.ss):V c fn K [] S:=fun rk M a w hk hT=>by have:rk=[]:=hk;subst this;exact Zw6 hT hr hx J
end
end NX
end Go.Proofs.YtgamgemlekpepaaGreat
