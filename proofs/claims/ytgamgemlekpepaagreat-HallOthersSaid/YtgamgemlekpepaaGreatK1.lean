/-
  The symbolic machine, sound over the model: relations between abstract and real states. No statement of the seat is proved here.
-/
import Derived.Test.YtgamgemlekpepaaGreatK0
namespace Go.Proofs.YtgamgemlekpepaaGreat
namespace NX
open Go Go.RowKit
theorem Zz1 (a b:Bool):Z4 a b=true↔a=true∧b=true:=by cases a<;>simp [Z4]
theorem Z02:∀a b:Nat,Z5 a b=true↔a≤b
 | 0,b=>by simp [Z5]
 | a+1,0=>by simp [Z5]
 | a+1,b+1=>by simp [Z5,Z02 a b]
theorem Z12 {α:Type} (l:List α):Zw l=l.length:=by induction l<;>simp_all [Zw]
theorem Z22 (l:List AV) (d:Nat) (v:AV) (t:Nat):Zn (Zo l d v) t=if t=d∧d<l.length then v else Zn l t:=by
 induction l generalizing d t with
 | nil=>simp [Zo]
 | cons x l ih=>
   cases d with
   | zero=>cases t<;>simp [Zo,Zn]
   | succ d=>cases t with
     | zero=>simp [Zo,Zn]
     | succ t=>simp [Zo,Zn,ih]
theorem Z32 (l:List AV) (d:Nat) (v:AV):(Zo l d v).length=l.length:=by
 induction l generalizing d with
 | nil=>rfl
 | cons x l ih=>cases d<;>simp [Zo,ih]
theorem Z42 {α:Type} (l:List (Option α)) (j:Nat) (b:α):Zp l j=some b↔l[j]?=some (some b):=by
 induction l generalizing j with
 | nil=>simp [Zp]
 | cons x l ih=>cases j<;>simp [Zp,ih]
theorem Z52 {α:Type} (l:List (Option α)) (x:Option α) (j:Nat):Zp (l++[x]) j=if j=l.length then x else Zp l j:=by
 induction l generalizing j with
 | nil=>cases j<;>simp [Zp]
 | cons y l ih=>cases j<;>simp [Zp,ih]
theorem Z62 {α:Type} (l:List (Option α)) (d:Nat) (v:Option α) (j:Nat):Zp (Zq l d v) j=if j=d∧d<l.length then v else Zp l j:=by
 induction l generalizing d j with
 | nil=>simp [Zq]
 | cons x l ih=>
   cases d with
   | zero=>cases j<;>simp [Zq,Zp]
   | succ d=>cases j with
     | zero=>simp [Zq,Zp]
     | succ j=>simp [Zq,Zp,ih]
theorem Z72 {α:Type} (l:List (Option α)) (d:Nat) (v:Option α):(Zq l d v).length=l.length:=by
 induction l generalizing d with
 | nil=>rfl
 | cons x l ih=>cases d<;>simp [Zq,ih]
theorem Z82 {α:Type} {l:List (Option α)} {j:Nat} {b:α} (h:Zp l j=some b):j<l.length:=by rw [Z42] at h;exact (List.getElem?_eq_some_iff.1 h).1
theorem Z92:∀ {n:Nat} {l r:List AV},Zr n l=some r→r=l.take n∧n≤l.length
 | 0,l,r,h=>by simp [Zr] at h;simp [h]
 | n+1,[],r,h=>by simp [Zr] at h
 | n+1,x::l,r,h=>by simp only [Zr,Option.map_eq_some_iff] at h;obtain ⟨r',hr,rfl⟩:=h;obtain ⟨h1,h2⟩:=Z92 hr;simp [h1];omega
theorem Za2:∀ {n:Nat} {l r:List AV},Zs n l=some r→r=l.drop n∧n≤l.length
 | 0,l,r,h=>by simp [Zs] at h;simp [h]
 | n+1,[],r,h=>by simp [Zs] at h
 | n+1,x::l,r,h=>by obtain ⟨h1,h2⟩:=Za2 (n:=n) (l:=l) h;simp [h1];omega
theorem Zb2 {l:List AV} {o n:Nat} {r:List AV} (h:Zt l o n=some r):r=(l.drop o).take n∧o+n≤l.length:=by
 unfold Zt at h;split at h
 ·rename_i r' hr;obtain ⟨rfl,h1⟩:=Za2 hr;obtain ⟨rfl,h2⟩:=Z92 h;refine ⟨rfl,?_⟩;simp at h2;omega
 ·simp at h
theorem Zc2:∀ {l vs r:List AV},Zu l vs=some r→r=vs++l.drop vs.length∧vs.length≤l.length
 | l,[],r,h=>by simp [Zu] at h;simp [h]
 | [],_::_,r,h=>by simp [Zu] at h
 | _::l,v::vs,r,h=>by simp only [Zu,Option.map_eq_some_iff] at h;obtain ⟨r',hr,rfl⟩:=h;obtain ⟨h1,h2⟩:=Zc2 hr;simp [h1];omega
theorem Zd2:∀ {o:Nat} {l vs r:List AV},Zv l o vs=some r→r=l.take o++vs++l.drop (o+vs.length)∧o+vs.length≤l.length
 | 0,l,vs,r,h=>by rw [Zv] at h;obtain ⟨h1,h2⟩:=Zc2 h;simp [h1];omega
 | o+1,[],vs,r,h=>by simp [Zv] at h
 | o+1,x::l,vs,r,h=>by simp only [Zv,Option.map_eq_some_iff] at h;obtain ⟨r',hr,rfl⟩:=h;obtain ⟨h1,h2⟩:=Zd2 hr;rw [h1,show o+1+vs.length=(o+vs.length)+1 from by omega];simp;omega
theorem Ze2 {M:Mem}:∀ {l:List AV} {vs:List Value},AV.isL M l vs→vs.length=l.length
 | [],_,h=>by simp [AV.isL] at h;simp [h]
 | _::_,_,h=>by obtain ⟨v,r,rfl,_,hr⟩:=h;simp [Ze2 hr]
theorem Zf2 {M:Mem}:∀ {l:List AV} {vs:List Value} (_:AV.isL M l vs) (k:Nat) (x:AV) (v:Value),l[k]?=some x→vs[k]?=some v→x.is M v
 | [],_,_,k,x,v,h1,_=>by simp at h1
 | _::_,_,h,k,x,v,h1,h2=>by
   obtain ⟨u,r,rfl,hu,hr⟩:=h;cases k with
   | zero=>simp at h1 h2;subst h1;subst h2;exact hu
   | succ k=>exact Zf2 hr k x v (by simpa using h1) (by simpa using h2)
theorem Zg2 {M:Mem}:∀ {l:List AV} {vs:List Value},l.length=vs.length→(∀(k:Nat) (x:AV) (v:Value),l[k]?=some x→vs[k]?=some v→x.is M v)→AV.isL M l vs
 | [],[],_,_=>rfl
 | [],_::_,h,_=>by simp at h
 | _::_,[],h,_=>by simp at h
 | x::l,v::vs,h,hk=>⟨v,vs,rfl,hk 0 x v (by simp) (by simp),Zg2 (by simpa using h) (fun k y u h1 h2=>hk (k+1) y u (by simpa using h1) (by simpa using h2))⟩
theorem Zh2 {M:Mem} {a b:List AV} {x y:List Value} (h:AV.isL M a x) (k:AV.isL M b y):AV.isL M (a++b) (x++y):=by
 induction a generalizing x with
 | nil=>simp [AV.isL] at h;subst h;simpa using k
 | cons u a ih=>obtain ⟨v,r,rfl,hv,hr⟩:=h;exact ⟨v,r++y,rfl,hv,ih hr⟩
theorem Zi2 {M:Mem} {a:List AV} {x:List Value} (n:Nat) (h:AV.isL M a x):AV.isL M (a.take n) (x.take n):=by
 induction a generalizing x n with
 | nil=>simp [AV.isL] at h;subst h;simp [AV.isL]
 | cons u a ih=>
   obtain ⟨v,r,rfl,hv,hr⟩:=h;cases n with
   | zero=>simp [AV.isL]
   | succ n=>exact ⟨v,r.take n,by simp,hv,ih n hr⟩
theorem Zj2 {M:Mem} {a:List AV} {x:List Value} (n:Nat) (h:AV.isL M a x):AV.isL M (a.drop n) (x.drop n):=by
 induction a generalizing x n with
 | nil=>simp [AV.isL] at h;subst h;simp [AV.isL]
 | cons u a ih=>
   obtain ⟨v,r,rfl,hv,hr⟩:=h;cases n with
   | zero=>exact ⟨v,r,rfl,hv,hr⟩
   | succ n=>simpa using ih n hr
structure Mem.le (M M':Mem):Prop where
 nb:M.nb≤M'.nb
 ns:M.ns≤M'.ns
 ρ:∀j,j<M.nb→M'.ρ j=M.ρ j
 σ:∀j,j<M.ns→M'.σ j=M.σ j
 H:∀k o,M.H k=some o→M'.H k=some o
theorem Mem.le.refl (M:Mem):M.le M:=⟨Nat.le_refl _,Nat.le_refl _,fun _ _=>rfl,fun _ _=>rfl,fun _ _ h=>h⟩
theorem Mem.le.trans {A B C:Mem} (h:A.le B) (k:B.le C):A.le C:=⟨Nat.le_trans h.nb k.nb,Nat.le_trans h.ns k.ns,fun j hj=>(k.ρ j (Nat.lt_of_lt_of_le hj h.nb)).trans (h.ρ j hj),fun j hj=>(k.σ j (Nat.lt_of_lt_of_le hj h.ns)).trans (h.σ j hj),fun _ _ x=>k.H _ _ (h.H _ _ x)⟩
theorem Mem.le.pure {A B:Mem} (h:A.le B):A.pure.le B.pure:=⟨Nat.le_refl _,Nat.le_refl _,fun _ _=>rfl,fun _ _=>rfl,h.H⟩
theorem Mem.le.sl {A B:Mem} (h:A.le B):A.sl.le B.sl:=⟨Nat.le_refl _,h.ns,fun _ _=>rfl,h.σ,h.H⟩
theorem Zk2 (M:Mem):M.pure.le M.sl:=⟨Nat.le_refl _,Nat.zero_le _,fun _ _=>rfl,fun _ h=>absurd h (Nat.not_lt_zero _),fun _ _ h=>h⟩
theorem Zl2 (M:Mem):M.sl.le M:=⟨Nat.zero_le _,Nat.le_refl _,fun _ h=>absurd h (Nat.not_lt_zero _),fun _ _=>rfl,fun _ _ h=>h⟩
theorem Zm2 (M:Mem):M.pure.le M:=⟨Nat.zero_le _,Nat.zero_le _,fun _ h=>absurd h (Nat.not_lt_zero _),fun _ h=>absurd h (Nat.not_lt_zero _),fun _ _ h=>h⟩
theorem Z3.mono {H J:Frag} (h:∀k o,H k=some o→J k=some o) {a:Addr} {vs:List Value} (k:Z3 H a vs):Z3 J a vs:=let ⟨h1,h2,cs,T,fr,h3,h4⟩:=k;⟨h1,h2,cs,T,fr,h _ _ h3,h4⟩
mutual
theorem Zn2 {M M':Mem} (h:M.le M'):∀(x:AV) (v:Value),x.is M v→x.is M' v
 | .any,_,_=>trivial
 | .un,_,k=>k
 | .tt,_,k=>k
 | .ff,_,k=>k
 | .bv _,_,k=>k
 | .iv _,_,k=>k
 | .kv _ _,_,k=>k
 | .sv _,_,k=>k
 | .nl,_,k=>k
 | .nlp,_,k=>k
 | .fn _,_,k=>k
 | .ptr j off,x,k=>⟨Nat.lt_of_lt_of_le k.1 h.nb,by rw [h.ρ j k.1];exact k.2⟩
 | .osl j,x,k=>⟨Nat.lt_of_lt_of_le k.1 h.ns,by rw [h.σ j k.1];exact k.2⟩
 | .oel j a off,x,k=>⟨Nat.lt_of_lt_of_le k.1 h.ns,by rw [h.σ j k.1];exact k.2⟩
 | .ocs j a n off,x,k=>⟨Nat.lt_of_lt_of_le k.1 h.ns,by rw [h.σ j k.1];exact k.2⟩
 | .elt row off,x,⟨a,vs,h1,h2,h3⟩=>⟨a,vs,h1,Zo2 h.pure row vs h2,h3.mono h.H⟩
 | .sl n rows,x,⟨a,c,h1,h2,h3⟩=>⟨a,c,h1,h2,fun hne=>let ⟨ad,vss,g1,g2,g3⟩:=h3 hne;⟨ad,vss,g1,Zp2 h.pure n rows vss g2,g3.mono h.H⟩⟩
 | .agg l,x,⟨vs,h1,h2⟩=>⟨vs,h1,Zo2 h l vs h2⟩
 | .tup l,x,⟨vs,h1,h2⟩=>⟨vs,h1,Zo2 h l vs h2⟩
 | .clo f l,x,⟨vs,h1,h2⟩=>⟨vs,h1,Zo2 h l vs h2⟩
theorem Zo2 {M M':Mem} (h:M.le M'):∀(l:List AV) (vs:List Value),AV.isL M l vs→AV.isL M' l vs
 | [],_,k=>k
 | x::l,_,⟨v,r,h1,h2,h3⟩=>⟨v,r,h1,Zn2 h x v h2,Zo2 h l r h3⟩
theorem Zp2 {M M':Mem} (h:M.le M') (n:Nat):∀(l:List (List AV)) (vs:List (List Value)),AV.isLL M n l vs→AV.isLL M' n l vs
 | [],_,k=>k
 | x::l,_,⟨v,r,h1,h0,h2,h3⟩=>⟨v,r,h1,h0,Zo2 h x v h2,Zp2 h n l r h3⟩
end
theorem Zq2 (M:Mem) (v:Value):(Z6 v).is M v:=by unfold Z6;split<;>simp [AV.is]
theorem Zr2 (M:Mem) (vs:List Value):AV.isL M (vs.map Z6) vs:=Zg2 (by simp) fun k x v h1 h2=>by rw [List.getElem?_map,h2] at h1;simp at h1;subst h1;exact Zq2 M v
theorem Zs2 {M:Mem} {v:Value}:∀ {x:AV},x.is M v→x.one=true→(∀j,x = .osl j→(M.σ j).oneCell'=true)→v.oneCell'=true
 | .any,_,k,_ | .un,_,k,_ | .agg _,_,k,_ | .tup _,_,k,_=>by simp [AV.one] at k
 | .tt,h,_,_ | .ff,h,_,_ | .bv _,h,_,_ | .iv _,h,_,_ | .kv _ _,h,_,_ | .sv _,h,_,_ | .nl,h,_,_ | .nlp,h,_,_ | .fn _,h,_,_=>by simp only [AV.is] at h;subst h;rfl
 | .ptr _ _,h,_,_=>by simp only [AV.is] at h;rw [h.2];rfl
 | .osl j,h,_,hs=>by simp only [AV.is] at h;rw [h.2];exact hs j rfl
 | .oel _ _ _,h,_,_=>by simp only [AV.is] at h;obtain ⟨_,_,_,_,_,h⟩:=h;rw [h];rfl
 | .ocs _ _ _ _,h,_,_=>by simp only [AV.is] at h;obtain ⟨_,_,_,_,_,h⟩:=h;rw [h];rfl
 | .elt _ _,h,_,_=>by simp only [AV.is] at h;obtain ⟨_,_,h,_⟩:=h;rw [h];rfl
 | .sl _ _,h,_,_=>by simp only [AV.is] at h;obtain ⟨_,_,h,_⟩:=h;rw [h];rfl
 | .clo _ _,h,_,_=>by simp only [AV.is] at h;obtain ⟨_,h,_⟩:=h;rw [h];rfl
mutual
theorem Zt2 {M:Mem}:∀(x:AV) (v:Value),x.is M v→x.pu=true→x.is M.pure v
 | .any,_,_,_=>trivial
 | .un,_,k,_=>k
 | .tt,_,k,_=>k
 | .ff,_,k,_=>k
 | .bv _,_,k,_=>k
 | .iv _,_,k,_=>k
 | .kv _ _,_,k,_=>k
 | .sv _,_,k,_=>k
 | .nl,_,k,_=>k
 | .nlp,_,k,_=>k
 | .fn _,_,k,_=>k
 | .ptr _ _,_,_,h=>by simp [AV.pu] at h
 | .osl _,_,_,h=>by simp [AV.pu] at h
 | .oel _ _ _,_,_,h=>by simp [AV.pu] at h
 | .ocs _ _ _ _,_,_,h=>by simp [AV.pu] at h
 | .elt _ _,_,k,_=>k
 | .sl _ _,_,k,_=>k
 | .agg l,_,⟨vs,h1,h2⟩,h=>⟨vs,h1,Zu2 l vs h2 (by simpa [AV.pu] using h)⟩
 | .tup l,_,⟨vs,h1,h2⟩,h=>⟨vs,h1,Zu2 l vs h2 (by simpa [AV.pu] using h)⟩
 | .clo _ l,_,⟨vs,h1,h2⟩,h=>⟨vs,h1,Zu2 l vs h2 (by simpa [AV.pu] using h)⟩
theorem Zu2 {M:Mem}:∀(l:List AV) (vs:List Value),AV.isL M l vs→puL l=true→AV.isL M.pure l vs
 | [],_,k,_=>k
 | x::l,_,⟨v,r,h1,h2,h3⟩,h=>by simp only [puL,Zz1] at h;exact ⟨v,r,h1,Zt2 x v h2 h.1,Zu2 l r h3 h.2⟩
end
theorem Zv2 (n:Nat) (l:List AV):Zz n l=l.take n:=by
 induction n generalizing l with
 | zero=>rfl
 | succ n ih=>cases l<;>simp [Zz,ih]
theorem Zw2 (n:Nat) (l:List AV):Z01 n l=l.drop n:=by
 induction n generalizing l with
 | zero=>rfl
 | succ n ih=>cases l<;>simp [Z01,ih]
theorem Zx2 {M:Mem} (n:Nat):∀(k:Nat) (l:List AV) (vs:List Value),AV.isL M l vs→vs.length=k*n→∃vss,AV.isLL M n (Z11 n k l) vss∧vss.flatten=vs
 | 0,l,vs,_,h=>⟨[],rfl,by simp at h;simp [h]⟩
 | k+1,l,vs,hl,h=>by
   have h':vs.length=k*n+n:=by rw [h,Nat.add_mul,Nat.one_mul]
   obtain ⟨vss,h1,h2⟩:=Zx2 n k (l.drop n) (vs.drop n) (Zj2 n hl) (by simp;omega);refine ⟨vs.take n::vss,⟨vs.take n,vss,rfl,by simp;omega,by rw [Zv2];exact Zi2 n hl,by rw [Zw2];exact h1⟩,?_⟩;rw [List.flatten_cons,h2,List.take_append_drop]
theorem Zy2 (n:Nat):∀(k:Nat) (l:List AV),(Z11 n k l).length=k
 | 0,_=>rfl
 | k+1,l=>by simp [Z11,Zy2 n k]
theorem Zz2 {w:World} {b e J n:Nat} {v:Value} {xs:List Value} (h:w.ownsRow b e J v n xs):v.oneCell'=true:=by rcases h.2 with ⟨h,_⟩ | ⟨_,_,_,h,_⟩<;>rw [h]<;>rfl
structure Ctx where
 P:Program
 w0:World
 H0:Frag
 bor:Nat→Prop
 np:Nat
 pb:Nat→Nat
 nq:Nat
 ps:Nat→Value
structure Pin (c:Ctx) (M:Mem):Prop where
 nb:c.np≤M.nb
 ρ:∀j,j<c.np→M.ρ j=c.pb j
 ns:c.nq≤M.ns
 σ:∀j,j<c.nq→M.σ j=c.ps j
 gl:Z1 c.P M.H
theorem Pin.le {c:Ctx} {M M':Mem} (h:Pin c M) (k:M.le M'):Pin c M':=⟨Nat.le_trans h.nb k.nb,fun j hj=>(k.ρ j (Nat.lt_of_lt_of_le hj h.nb)).trans (h.ρ j hj),Nat.le_trans h.ns k.ns,fun j hj=>(k.σ j (Nat.lt_of_lt_of_le hj h.ns)).trans (h.σ j hj),h.gl.mono k.H⟩
def Z03 (c:Ctx) (g:Nat):Prop:=c.w0.heap.size≤g∨c.bor g
structure RelS (c:Ctx) (M:Mem) (bs:List (Option Blk)) (ss:List (Option Sl)) (w:World):Prop where
 nb:M.nb=bs.length
 ns:M.ns=ss.length
 so:∀j,j<M.ns→(M.σ j).oneCell'=true
 os:w.os=c.w0.os
 tape:w.tape=c.w0.tape
 output:w.output=c.w0.output
 size:c.w0.heap.size≤w.heap.size
 block:∀k,k<c.w0.heap.size→¬c.bor k→w.heap[k]?=c.w0.heap[k]?
 hle:∀k o,M.H k=some o→w.heap[k]?=some o
 hold:∀k,k<c.w0.heap.size→¬c.bor k→M.H k=c.H0 k
 blk:∀j B,Zp bs j=some B→Z03 c (M.ρ j)∧M.H (M.ρ j)=none∧
  ∃vs:List Value,AV.isL M B.cells vs∧w.heap[M.ρ j]?=some (.cells vs.toArray B.T (0,0))∧∀v∈vs,v.oneCell'=true
 slc:∀j L,Zp ss j=some L→0<L.n∧∃vss:List (List Value),AV.isLL M.sl L.n L.rows vss∧(∀v∈vss.flatten,v.oneCell'=true)∧
  w.ownsRow 0 L.T L.n (M.σ j) L.rows.length vss.flatten∧∀g,(M.σ j).ownBlock=some g→Z03 c g∧M.H g=none
 d1:∀i j B C,Zp bs i=some B→Zp bs j=some C→M.ρ i=M.ρ j→i=j
 d2:∀i j B L,Zp bs i=some B→Zp ss j=some L→(M.σ j).ownBlock≠some (M.ρ i)
 d3:∀i j L N g,Zp ss i=some L→Zp ss j=some N→(M.σ i).ownBlock=some g→(M.σ j).ownBlock=some g→i=j
 pin:Pin c M
structure RelT (c:Ctx) (M:Mem) (S:St) (a:Act) (w:World):Prop where
 len:S.tm.length≤a.tmps.size
 tm:∀t,(Zn S.tm t).is M (a.tmps.getD t undef)
 df:a.defers=[]
 st:RelS c M S.bs S.ss w
section
variable {c:Ctx} {M:Mem} {bs:List (Option Blk)} {ss:List (Option Sl)} {w:World} {a:Act} {S:St}
theorem RelS.blk_lt (h:RelS c M bs ss w) {j:Nat} {B:Blk} (hj:Zp bs j=some B):M.ρ j<w.heap.size:=by obtain ⟨_,_,vs,_,hv,_⟩:=h.blk j B hj;exact (Array.getElem?_eq_some_iff.1 hv).1
theorem RelS.slc_lt (h:RelS c M bs ss w) {j:Nat} {L:Sl} (hj:Zp ss j=some L) {g:Nat} (hg:(M.σ j).ownBlock=some g):g<w.heap.size:=by obtain ⟨_,vss,_,_,ho,_⟩:=h.slc j L hj;exact (World.ownsRow.lt ho g hg).2
theorem RelS.Hnew (h:RelS c M bs ss w) {k:Nat} (hk:w.heap.size≤k):M.H k=none:=by
 cases hh:M.H k with
 | none=>rfl
 | some o=>have:=h.hle k o hh;have:=(Array.getElem?_eq_some_iff.1 this).1;omega
def Mem.addB (M:Mem) (g:Nat):Mem:= {M with ρ:=fun j=>if j=M.nb then g else M.ρ j,nb:=M.nb+1}
theorem Mem.le_addB (M:Mem) (g:Nat):M.le (M.addB g):=⟨Nat.le_succ _,Nat.le_refl _,fun _ hj=>if_neg (Nat.ne_of_lt hj),fun _ _=>rfl,fun _ _ h=>h⟩
theorem Z13 (w:World) (o:Obj) (k:Nat):(w.alloc o).heap[k]?=if k=w.heap.size then some o else w.heap[k]?:=by show (w.heap.push o)[k]?=_;rw [Array.getElem?_push]
theorem RelS.alloc (h:RelS c M bs ss w) (T:Nat) (cells:List AV) (vs:List Value) (J:AV.isL M cells vs) (h1:∀v∈vs,v.oneCell'=true):
  RelS c (M.addB w.heap.size) (bs++[some ⟨T,cells⟩]) ss (w.alloc (.cells vs.toArray T)):=by
 have hle:=Mem.le_addB M w.heap.size;have hρ:∀j,j<M.nb→(M.addB w.heap.size).ρ j=M.ρ j:=hle.ρ;have hρ':(M.addB w.heap.size).ρ bs.length=w.heap.size:=by simp [Mem.addB,h.nb]
 have old:∀j B,Zp (bs++[some (⟨T,cells⟩:Blk)]) j=some B→(j<bs.length∧Zp bs j=some B)∨(j=bs.length∧B=⟨T,cells⟩):=by
  intro j B hj;rw [Z52] at hj;split at hj
  ·rename_i e;right;exact ⟨e,by simpa using hj.symm⟩
  ·left;exact ⟨Z82 hj,hj⟩
 refine ⟨by simp [Mem.addB,h.nb],h.ns,h.so,h.os,h.tape,h.output,?_,?_,?_,h.hold,?_,?_,?_,?_,h.d3,h.pin.le hle⟩
 ·have:=h.size;show _≤(w.heap.push _).size;simp;omega
 ·intro k hk hb;rw [Z13,if_neg (by have:=h.size;omega)];exact h.block k hk hb
 ·intro k o hk;have:=h.hle k o hk;have hl:=(Array.getElem?_eq_some_iff.1 this).1;rw [Z13,if_neg (by omega)];exact this
 ·intro j B hj;rcases old j B hj with ⟨hl,hj⟩ | ⟨rfl,rfl⟩
  ·rw [hρ j (by rw [h.nb];exact hl)];obtain ⟨g1,g2,us,g3,g4,g5⟩:=h.blk j B hj;refine ⟨g1,g2,us,Zo2 hle _ _ g3,?_,g5⟩;rw [Z13,if_neg (by have:=h.blk_lt hj;omega)];exact g4
  ·rw [hρ'];refine ⟨.inl h.size,h.Hnew (Nat.le_refl _),vs,Zo2 hle _ _ J,?_,h1⟩;rw [Z13,if_pos rfl]
 ·intro j L hj;obtain ⟨g0,vss,g1,g2,g3,g4⟩:=h.slc j L hj;exact ⟨g0,vss,g1,g2,World.ownsRow.alloc g3 _,g4⟩
 ·intro i j B C hi hj e;rcases old i B hi with ⟨hl,hi⟩ | ⟨rfl,rfl⟩<;>rcases old j C hj with ⟨hl',hj⟩ | ⟨rfl,rfl⟩
  ·rw [hρ i (by rw [h.nb];exact hl),hρ j (by rw [h.nb];exact hl')] at e;exact h.d1 i j B C hi hj e
  ·rw [hρ i (by rw [h.nb];exact hl),hρ'] at e;have:=h.blk_lt hi;omega
  ·rw [hρ j (by rw [h.nb];exact hl'),hρ'] at e;have:=h.blk_lt hj;omega
  ·rfl
 ·intro i j B L hi hj;rcases old i B hi with ⟨hl,hi⟩ | ⟨rfl,rfl⟩
  ·rw [hρ i (by rw [h.nb];exact hl)];exact h.d2 i j B L hi hj
  ·rw [hρ'];intro e;have:=h.slc_lt hj e;omega
def Mem.addS (M:Mem) (v:Value):Mem:= {M with σ:=fun j=>if j=M.ns then v else M.σ j,ns:=M.ns+1}
theorem Mem.le_addS (M:Mem) (v:Value):M.le (M.addS v):=⟨Nat.le_refl _,Nat.le_succ _,fun _ _=>rfl,fun _ hj=>if_neg (Nat.ne_of_lt hj),fun _ _ h=>h⟩
theorem RelS.name (h:RelS c M bs ss w) (L:Sl) (v:Value) (vss:List (List Value)) (h0:0<L.n) (h1:AV.isLL M.sl L.n L.rows vss) (h2:∀v∈vss.flatten,v.oneCell'=true)
  (h3:w.ownsRow 0 L.T L.n v L.rows.length vss.flatten) (h4:∀g,v.ownBlock=some g→Z03 c g∧M.H g=none)
  (h5:∀i B,Zp bs i=some B→v.ownBlock≠some (M.ρ i)) (J:∀j N g,Zp ss j=some N→v.ownBlock=some g→(M.σ j).ownBlock≠some g):
  RelS c (M.addS v) bs (ss++[some L]) w:=by
 have hσ:∀j,j<M.ns→(M.addS v).σ j=M.σ j:=(Mem.le_addS M v).σ;have hσ':(M.addS v).σ ss.length=v:=by simp [Mem.addS,h.ns]
 have old:∀j N,Zp (ss++[some L]) j=some N→(j<M.ns∧Zp ss j=some N)∨(j=ss.length∧N=L):=by
  intro j B hj;rw [Z52] at hj;split at hj
  ·rename_i e;right;exact ⟨e,by simpa using hj.symm⟩
  ·left;exact ⟨by rw [h.ns];exact Z82 hj,hj⟩
 refine ⟨h.nb,by simp [Mem.addS,h.ns],?_,h.os,h.tape,h.output,h.size,h.block,h.hle,h.hold,?_,?_,h.d1,?_,?_,h.pin.le (Mem.le_addS M v)⟩
 ·intro j hj;simp only [Mem.addS] at hj ⊢;split
  ·exact Zz2 h3
  ·exact h.so j (by omega)
 ·intro j B hj;obtain ⟨g1,g2,vs,g3,g4⟩:=h.blk j B hj;exact ⟨g1,g2,vs,Zo2 (Mem.le_addS M v) _ _ g3,g4⟩
 ·intro j N hj;rcases old j N hj with ⟨hl,hj⟩ | ⟨rfl,rfl⟩
  ·rw [hσ j hl];obtain ⟨q0,us,q1,q2,q3,q4⟩:=h.slc j N hj;exact ⟨q0,us,Zp2 (Mem.le_addS M v).sl _ _ _ q1,q2,q3,q4⟩
  ·rw [hσ'];exact ⟨h0,vss,Zp2 (Mem.le_addS M v).sl _ _ _ h1,h2,h3,h4⟩
 ·intro i j B N hi hj;rcases old j N hj with ⟨hl,hj⟩ | ⟨rfl,rfl⟩
  ·rw [hσ j hl];exact h.d2 i j B N hi hj
  ·rw [hσ'];exact h5 i B hi
 ·intro i j N O g hi hj e1 e2;rcases old i N hi with ⟨hl,ki⟩ | ⟨ei,_⟩<;>rcases old j O hj with ⟨hl',kj⟩ | ⟨ej,_⟩
  ·rw [hσ i hl] at e1;rw [hσ j hl'] at e2;exact h.d3 i j N O g ki kj e1 e2
  ·rw [hσ i hl] at e1;rw [ej,hσ'] at e2;exact absurd e1 (J i N g ki e2)
  ·rw [hσ j hl'] at e2;rw [ei,hσ'] at e1;exact absurd e2 (J j O g kj e1)
  ·rw [ei,ej]
theorem Z23 (w:World) (g:Nat) (cs:Array Value) (k:Nat):(w.setRow g cs).heap[k]?=if k=g then (w.heap[k]?).map (fun | .cells _ e f=>.cells cs e f | o=>o) else w.heap[k]?:=by
 simp only [World.setRow,Array.getElem?_modify];by_cases hk:g=k
 ·subst hk;simp only [if_true];congr 1
 ·rw [if_neg hk,if_neg (fun e=>hk e.symm)]
theorem RelS.write (h:RelS c M bs ss w) {j:Nat} {B:Blk} (hj:Zp bs j=some B) (cells:List AV) (vs:List Value) (J:AV.isL M cells vs) (h1:∀v∈vs,v.oneCell'=true):
  RelS c M (Zq bs j (some ⟨B.T,cells⟩)) ss (w.setRow (M.ρ j) vs.toArray):=by
 have h8:=Z82 hj;obtain ⟨m1,m2,us,m3,m4,m5⟩:=h.blk j B hj;have old:∀i C,Zp (Zq bs j (some (⟨B.T,cells⟩:Blk))) i=some C→(i≠j∧Zp bs i=some C)∨(i=j∧C=⟨B.T,cells⟩):=by
  intro i C hi;rw [Z62] at hi;split at hi
  ·rename_i e;right;exact ⟨e.1,by simpa using hi.symm⟩
  ·rename_i e;left;exact ⟨fun e'=>e ⟨e',h8⟩,hi⟩
 have live:∀i C,Zp (Zq bs j (some (⟨B.T,cells⟩:Blk))) i=some C→∃C',Zp bs i=some C':=by
  intro i C hi;rcases old i C hi with ⟨_,hi⟩ | ⟨rfl,_⟩
  ·exact ⟨_,hi⟩
  ·exact ⟨_,hj⟩
 have h6:(w.setRow (M.ρ j) vs.toArray).heap.size=w.heap.size:=by simp [World.setRow]
 refine ⟨by rw [Z72];exact h.nb,h.ns,h.so,h.os,h.tape,h.output,by rw [h6];exact h.size,?_,?_,h.hold,?_,?_,?_,?_,h.d3,h.pin⟩
 ·intro k hk hb;rw [Z23,if_neg]
  ·exact h.block k hk hb
  ·rintro rfl;rcases m1 with m1 | m1
   ·omega
   ·exact hb m1
 ·intro k o hk;rw [Z23,if_neg]
  ·exact h.hle k o hk
  ·rintro rfl;rw [m2] at hk;simp at hk
 ·intro i C hi;rcases old i C hi with ⟨hne,hi⟩ | ⟨rfl,rfl⟩
  ·obtain ⟨g1,g2,xs,g3,g4,g5⟩:=h.blk i C hi;refine ⟨g1,g2,xs,g3,?_,g5⟩;rw [Z23,if_neg (fun e=>hne (h.d1 i j C B hi hj e))];exact g4
  ·refine ⟨m1,m2,vs,J,?_,h1⟩;rw [Z23,if_pos rfl,m4];rfl
 ·intro i L hi;obtain ⟨g0,vss,g1,g2,g3,g4⟩:=h.slc i L hi;refine ⟨g0,vss,g1,g2,?_,g4⟩;have hg:w.grownBy (w.setRow (M.ρ j) vs.toArray) (some (M.ρ j)):=⟨rfl,rfl,rfl,by rw [h6];exact Nat.le_refl _,fun k _ hk=>by rw [Z23,if_neg (fun e=>hk (by rw [e]))]⟩
  exact World.ownsRow.kept g3 hg (.inr (h.d2 j i B L hj hi))
 ·intro i k C D hi hk e;obtain ⟨C',hi'⟩:=live i C hi;obtain ⟨D',hk'⟩:=live k D hk;exact h.d1 i k C' D' hi' hk' e
 ·intro i k C L hi hk;obtain ⟨C',hi'⟩:=live i C hi;exact h.d2 i k C' L hi' hk
theorem RelS.grow (h:RelS c M bs ss w) {w':World} (hb:Below w.heap.size w w'):RelS c M bs ss w':=
 ⟨h.nb,h.ns,h.so,hb.os.trans h.os,hb.tape.trans h.tape,hb.output.trans h.output,Nat.le_trans h.size hb.size,
   fun k hk hn=>(hb.block k (Nat.lt_of_lt_of_le hk h.size)).trans (h.block k hk hn),
   fun k o hk=>(hb.block k ((Array.getElem?_eq_some_iff.1 (h.hle k o hk)).1)).trans (h.hle k o hk),
   h.hold,
   fun j B hj=>let ⟨g1,g2,vs,g3,g4,g5⟩:=h.blk j B hj;⟨g1,g2,vs,g3,(hb.block _ (h.blk_lt hj)).trans g4,g5⟩,
   fun j L hj=>let ⟨g0,vss,g1,g2,g3,g4⟩:=h.slc j L hj;⟨g0,vss,g1,g2,World.ownsRow.kept g3 (row:=none) ⟨hb.os,hb.tape,hb.output,hb.size,fun k hk _=>hb.block k hk⟩ (by
    cases h6:(M.σ j).ownBlock with
    | none=>exact .inl rfl
    | some g=>exact .inr (by simp)),g4⟩,
   h.d1,h.d2,h.d3,h.pin⟩
theorem RelS.drew (h:RelS c M bs ss w):RelS c M bs ss w.drew:=⟨h.nb,h.ns,h.so,h.os,h.tape,h.output,h.size,h.block,h.hle,h.hold,h.blk,h.slc,h.d1,h.d2,h.d3,h.pin⟩
end
end NX
end Go.Proofs.YtgamgemlekpepaaGreat
