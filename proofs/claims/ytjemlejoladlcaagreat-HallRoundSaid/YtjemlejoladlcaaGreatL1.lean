/-
  The symbolic machine, sound over the model: relations between abstract and real states. No statement of the seat is proved here.
-/
import Derived.Test.YtjemlejoladlcaaGreatL0
namespace Go.Proofs.YtjemlejoladlcaaGreat
namespace NX
open Go Go.RowKit
theorem AO (a b:Bool):BS a b=true↔a=true∧b=true:=by cases a<;>simp [BS]
theorem D0:∀a b:Nat,AA a b=true↔a≤b
 | 0,b=>by simp [AA]
 | a+1,0=>by simp [AA]
 | a+1,b+1=>by simp [AA,D0 a b]
theorem Bh {α:Type} (l:List α):Aa l=l.length:=by induction l<;>simp_all [Aa]
theorem F6 (l:List AV) (d:Nat) (v:AV) (t:Nat):AJ (BL l d v) t=if t=d∧d<l.length then v else AJ l t:=by
 induction l generalizing d t with
 | nil=>simp [BL]
 | cons x l ih=>
   cases d with
   | zero=>cases t<;>simp [BL,AJ]
   | succ d=>cases t with
     | zero=>simp [BL,AJ]
     | succ t=>simp [BL,AJ,ih]
theorem I8 (l:List AV) (d:Nat) (v:AV):(BL l d v).length=l.length:=by
 induction l generalizing d with
 | nil=>rfl
 | cons x l ih=>cases d<;>simp [BL,ih]
theorem xn {α:Type} (l:List (Option α)) (j:Nat) (b:α):A2 l j=some b↔l[j]?=some (some b):=by
 induction l generalizing j with
 | nil=>simp [A2]
 | cons x l ih=>cases j<;>simp [A2,ih]
theorem OK {α:Type} (l:List (Option α)) (x:Option α) (j:Nat):A2 (l++[x]) j=if j=l.length then x else A2 l j:=by
 induction l generalizing j with
 | nil=>cases j<;>simp [A2]
 | cons y l ih=>cases j<;>simp [A2,ih]
theorem Du {α:Type} (l:List (Option α)) (d:Nat) (v:Option α) (j:Nat):A2 (Ar l d v) j=if j=d∧d<l.length then v else A2 l j:=by
 induction l generalizing d j with
 | nil=>simp [Ar]
 | cons x l ih=>
   cases d with
   | zero=>cases j<;>simp [Ar,A2]
   | succ d=>cases j with
     | zero=>simp [Ar,A2]
     | succ j=>simp [Ar,A2,ih]
theorem Dd {α:Type} (l:List (Option α)) (d:Nat) (v:Option α):(Ar l d v).length=l.length:=by
 induction l generalizing d with
 | nil=>rfl
 | cons x l ih=>cases d<;>simp [Ar,ih]
theorem Cu {α:Type} {l:List (Option α)} {j:Nat} {b:α} (h:A2 l j=some b):j<l.length:=by rw [xn] at h;exact (List.getElem?_eq_some_iff.1 h).1
theorem jB:∀ {n:Nat} {l r:List AV},Fz n l=some r→r=l.take n∧n≤l.length
 | 0,l,r,h=>by simp [Fz] at h;simp [h]
 | n+1,[],r,h=>by simp [Fz] at h
 | n+1,x::l,r,h=>by simp only [Fz,Option.map_eq_some_iff] at h;obtain ⟨r',hr,rfl⟩:=h;obtain ⟨h1,h2⟩:=jB hr;simp [h1];omega
theorem jb:∀ {n:Nat} {l r:List AV},G1 n l=some r→r=l.drop n∧n≤l.length
 | 0,l,r,h=>by simp [G1] at h;simp [h]
 | n+1,[],r,h=>by simp [G1] at h
 | n+1,x::l,r,h=>by obtain ⟨h1,h2⟩:=jb (n:=n) (l:=l) h;simp [h1];omega
theorem Kv {l:List AV} {o n:Nat} {r:List AV} (h:Dr l o n=some r):r=(l.drop o).take n∧o+n≤l.length:=by
 unfold Dr at h;split at h
 ·rename_i r' hr;obtain ⟨rfl,h1⟩:=jb hr;obtain ⟨rfl,h2⟩:=jB h;refine ⟨rfl,?_⟩;simp at h2;omega
 ·simp at h
theorem jD:∀ {l vs r:List AV},F7 l vs=some r→r=vs++l.drop vs.length∧vs.length≤l.length
 | l,[],r,h=>by simp [F7] at h;simp [h]
 | [],_::_,r,h=>by simp [F7] at h
 | _::l,v::vs,r,h=>by simp only [F7,Option.map_eq_some_iff] at h;obtain ⟨r',hr,rfl⟩:=h;obtain ⟨h1,h2⟩:=jD hr;simp [h1];omega
theorem MB:∀ {o:Nat} {l vs r:List AV},BM l o vs=some r→r=l.take o++vs++l.drop (o+vs.length)∧o+vs.length≤l.length
 | 0,l,vs,r,h=>by rw [BM] at h;obtain ⟨h1,h2⟩:=jD h;simp [h1];omega
 | o+1,[],vs,r,h=>by simp [BM] at h
 | o+1,x::l,vs,r,h=>by simp only [BM,Option.map_eq_some_iff] at h;obtain ⟨r',hr,rfl⟩:=h;obtain ⟨h1,h2⟩:=MB hr;rw [h1,show o+1+vs.length=(o+vs.length)+1 from by omega];simp;omega
theorem D5 {M:Mem}:∀ {l:List AV} {vs:List Value},AV.isL M l vs→vs.length=l.length
 | [],_,h=>by simp [AV.isL] at h;simp [h]
 | _::_,_,h=>by obtain ⟨v,r,rfl,_,hr⟩:=h;simp [D5 hr]
theorem aQ {M:Mem}:∀ {l:List AV} {vs:List Value} (_:AV.isL M l vs) (k:Nat) (x:AV) (v:Value),l[k]?=some x→vs[k]?=some v→x.is M v
 | [],_,_,k,x,v,h1,_=>by simp at h1
 | _::_,_,h,k,x,v,h1,h2=>by
   obtain ⟨u,r,rfl,hu,hr⟩:=h;cases k with
   | zero=>simp at h1 h2;subst h1;subst h2;exact hu
   | succ k=>exact aQ hr k x v (by simpa using h1) (by simpa using h2)
theorem aR {M:Mem}:∀ {l:List AV} {vs:List Value},l.length=vs.length→(∀(k:Nat) (x:AV) (v:Value),l[k]?=some x→vs[k]?=some v→x.is M v)→AV.isL M l vs
 | [],[],_,_=>rfl
 | [],_::_,h,_=>by simp at h
 | _::_,[],h,_=>by simp at h
 | x::l,v::vs,h,hk=>⟨v,vs,rfl,hk 0 x v (by simp) (by simp),aR (by simpa using h) (fun k y u h1 h2=>hk (k+1) y u (by simpa using h1) (by simpa using h2))⟩
theorem BH {M:Mem} {a b:List AV} {x y:List Value} (h:AV.isL M a x) (k:AV.isL M b y):AV.isL M (a++b) (x++y):=by
 induction a generalizing x with
 | nil=>simp [AV.isL] at h;subst h;simpa using k
 | cons u a ih=>obtain ⟨v,r,rfl,hv,hr⟩:=h;exact ⟨v,r++y,rfl,hv,ih hr⟩
theorem FZ {M:Mem} {a:List AV} {x:List Value} (n:Nat) (h:AV.isL M a x):AV.isL M (a.take n) (x.take n):=by
 induction a generalizing x n with
 | nil=>simp [AV.isL] at h;subst h;simp [AV.isL]
 | cons u a ih=>
   obtain ⟨v,r,rfl,hv,hr⟩:=h;cases n with
   | zero=>simp [AV.isL]
   | succ n=>exact ⟨v,r.take n,by simp,hv,ih n hr⟩
theorem FY {M:Mem} {a:List AV} {x:List Value} (n:Nat) (h:AV.isL M a x):AV.isL M (a.drop n) (x.drop n):=by
 induction a generalizing x n with
 | nil=>simp [AV.isL] at h;subst h;simp [AV.isL]
 | cons u a ih=>
   obtain ⟨v,r,rfl,hv,hr⟩:=h;cases n with
   | zero=>exact ⟨v,r,rfl,hv,hr⟩
   | succ n=>simpa using ih n hr
structure Mem.le (M M':Mem):Prop where
 nb:M.nb≤M'.nb
 ns:M.ns≤M'.ns
 ρ:∀j,j<M.nb→M'.ρ j=M.ρ j
 σ:∀j,j<M.ns→M'.σ j=M.σ j
 H:∀k o,M.H k=some o→M'.H k=some o
theorem Mem.le.refl (M:Mem):M.le M:=⟨Nat.le_refl _,Nat.le_refl _,fun _ _=>rfl,fun _ _=>rfl,fun _ _ h=>h⟩
theorem Mem.le.trans {A B C:Mem} (h:A.le B) (k:B.le C):A.le C:=⟨Nat.le_trans h.nb k.nb,Nat.le_trans h.ns k.ns,fun j hj=>(k.ρ j (Nat.lt_of_lt_of_le hj h.nb)).trans (h.ρ j hj),fun j hj=>(k.σ j (Nat.lt_of_lt_of_le hj h.ns)).trans (h.σ j hj),fun _ _ x=>k.H _ _ (h.H _ _ x)⟩
theorem Mem.le.pure {A B:Mem} (h:A.le B):A.pure.le B.pure:=⟨Nat.le_refl _,Nat.le_refl _,fun _ _=>rfl,fun _ _=>rfl,h.H⟩
theorem Mem.le.sl {A B:Mem} (h:A.le B):A.sl.le B.sl:=⟨Nat.le_refl _,h.ns,fun _ _=>rfl,h.σ,h.H⟩
theorem Lx (M:Mem):M.pure.le M.sl:=⟨Nat.le_refl _,Nat.zero_le _,fun _ _=>rfl,fun _ h=>absurd h (Nat.not_lt_zero _),fun _ _ h=>h⟩
theorem Z17 (M:Mem):M.sl.le M:=⟨Nat.zero_le _,Nat.le_refl _,fun _ h=>absurd h (Nat.not_lt_zero _),fun _ _=>rfl,fun _ _ h=>h⟩
theorem OZ (M:Mem):M.pure.le M:=⟨Nat.zero_le _,Nat.zero_le _,fun _ h=>absurd h (Nat.not_lt_zero _),fun _ h=>absurd h (Nat.not_lt_zero _),fun _ _ h=>h⟩
theorem LL.mono {H E:Frag} (h:∀k o,H k=some o→E k=some o) {a:Addr} {vs:List Value} (k:LL H a vs):LL E a vs:=let ⟨h1,h2,cs,T,fr,h3,h4⟩:=k;⟨h1,h2,cs,T,fr,h _ _ h3,h4⟩
mutual
theorem Dm {M M':Mem} (h:M.le M'):∀(x:AV) (v:Value),x.is M v→x.is M' v
 | .any,_,_=>trivial
 | .un,_,k=>k
 | .tt,_,k=>k
 | .ff,_,k=>k
 | .bv _,_,k=>k
 | .iv _,_,k=>k
 | .kv _ _,_,k=>k
 | .sv _,_,k=>k
 | .nl,_,k=>k
 | .nlp,_,k=>k
 | .fn _,_,k=>k
 | .ptr j off,x,k=>⟨Nat.lt_of_lt_of_le k.1 h.nb,by rw [h.ρ j k.1];exact k.2⟩
 | .osl j,x,k=>⟨Nat.lt_of_lt_of_le k.1 h.ns,by rw [h.σ j k.1];exact k.2⟩
 | .oel j a off,x,k=>⟨Nat.lt_of_lt_of_le k.1 h.ns,by rw [h.σ j k.1];exact k.2⟩
 | .ocs j a n off,x,k=>⟨Nat.lt_of_lt_of_le k.1 h.ns,by rw [h.σ j k.1];exact k.2⟩
 | .elt row off,x,⟨a,vs,h1,h2,h3⟩=>⟨a,vs,h1,E0 h.pure row vs h2,h3.mono h.H⟩
 | .sl n rows,x,⟨a,c,h1,h2,h3⟩=>⟨a,c,h1,h2,fun hne=>let ⟨ad,vss,g1,g2,g3⟩:=h3 hne;⟨ad,vss,g1,EG h.pure n rows vss g2,g3.mono h.H⟩⟩
 | .agg l,x,⟨vs,h1,h2⟩=>⟨vs,h1,E0 h l vs h2⟩
 | .tup l,x,⟨vs,h1,h2⟩=>⟨vs,h1,E0 h l vs h2⟩
 | .clo f l,x,⟨vs,h1,h2⟩=>⟨vs,h1,E0 h l vs h2⟩
theorem E0 {M M':Mem} (h:M.le M'):∀(l:List AV) (vs:List Value),AV.isL M l vs→AV.isL M' l vs
 | [],_,k=>k
 | x::l,_,⟨v,r,h1,h2,h3⟩=>⟨v,r,h1,Dm h x v h2,E0 h l r h3⟩
theorem EG {M M':Mem} (h:M.le M') (n:Nat):∀(l:List (List AV)) (vs:List (List Value)),AV.isLL M n l vs→AV.isLL M' n l vs
 | [],_,k=>k
 | x::l,_,⟨v,r,h1,h0,h2,h3⟩=>⟨v,r,h1,h0,E0 h x v h2,EG h n l r h3⟩
end
theorem oj (M:Mem) (v:Value):(Dw v).is M v:=by unfold Dw;split<;>simp [AV.is]
theorem FO (M:Mem) (vs:List Value):AV.isL M (vs.map Dw) vs:=aR (by simp) fun k x v h1 h2=>by rw [List.getElem?_map,h2] at h1;simp at h1;subst h1;exact oj M v
theorem d8 {M:Mem} {v:Value}:∀ {x:AV},x.is M v→x.one=true→(∀j,x = .osl j→(M.σ j).oneCell'=true)→v.oneCell'=true
 | .any,_,k,_ | .un,_,k,_ | .agg _,_,k,_ | .tup _,_,k,_=>by simp [AV.one] at k
 | .tt,h,_,_ | .ff,h,_,_ | .bv _,h,_,_ | .iv _,h,_,_ | .kv _ _,h,_,_ | .sv _,h,_,_ | .nl,h,_,_ | .nlp,h,_,_ | .fn _,h,_,_=>by simp only [AV.is] at h;subst h;rfl
 | .ptr _ _,h,_,_=>by simp only [AV.is] at h;rw [h.2];rfl
 | .osl j,h,_,hs=>by simp only [AV.is] at h;rw [h.2];exact hs j rfl
 | .oel _ _ _,h,_,_=>by simp only [AV.is] at h;obtain ⟨_,_,_,_,_,h⟩:=h;rw [h];rfl
 | .ocs _ _ _ _,h,_,_=>by simp only [AV.is] at h;obtain ⟨_,_,_,_,_,h⟩:=h;rw [h];rfl
 | .elt _ _,h,_,_=>by simp only [AV.is] at h;obtain ⟨_,_,h,_⟩:=h;rw [h];rfl
 | .sl _ _,h,_,_=>by simp only [AV.is] at h;obtain ⟨_,_,h,_⟩:=h;rw [h];rfl
 | .clo _ _,h,_,_=>by simp only [AV.is] at h;obtain ⟨_,h,_⟩:=h;rw [h];rfl
mutual
theorem dk {M:Mem}:∀(x:AV) (v:Value),x.is M v→x.pu=true→x.is M.pure v
 | .any,_,_,_=>trivial
 | .un,_,k,_=>k
 | .tt,_,k,_=>k
 | .ff,_,k,_=>k
 | .bv _,_,k,_=>k
 | .iv _,_,k,_=>k
 | .kv _ _,_,k,_=>k
 | .sv _,_,k,_=>k
 | .nl,_,k,_=>k
 | .nlp,_,k,_=>k
 | .fn _,_,k,_=>k
 | .ptr _ _,_,_,h=>by simp [AV.pu] at h
 | .osl _,_,_,h=>by simp [AV.pu] at h
 | .oel _ _ _,_,_,h=>by simp [AV.pu] at h
 | .ocs _ _ _ _,_,_,h=>by simp [AV.pu] at h
 | .elt _ _,_,k,_=>k
 | .sl _ _,_,k,_=>k
 | .agg l,_,⟨vs,h1,h2⟩,h=>⟨vs,h1,Fd l vs h2 (by simpa [AV.pu] using h)⟩
 | .tup l,_,⟨vs,h1,h2⟩,h=>⟨vs,h1,Fd l vs h2 (by simpa [AV.pu] using h)⟩
 | .clo _ l,_,⟨vs,h1,h2⟩,h=>⟨vs,h1,Fd l vs h2 (by simpa [AV.pu] using h)⟩
theorem Fd {M:Mem}:∀(l:List AV) (vs:List Value),AV.isL M l vs→AD l=true→AV.isL M.pure l vs
 | [],_,k,_=>k
 | x::l,_,⟨v,r,h1,h2,h3⟩,h=>by simp only [AD,AO] at h;exact ⟨v,r,h1,dk x v h2 h.1,Fd l r h3 h.2⟩
end
theorem wY (n:Nat) (l:List AV):Q6 n l=l.take n:=by
 induction n generalizing l with
 | zero=>rfl
 | succ n ih=>cases l<;>simp [Q6,ih]
theorem wA (n:Nat) (l:List AV):Q1 n l=l.drop n:=by
 induction n generalizing l with
 | zero=>rfl
 | succ n ih=>cases l<;>simp [Q1,ih]
theorem fU {M:Mem} (n:Nat):∀(k:Nat) (l:List AV) (vs:List Value),AV.isL M l vs→vs.length=k*n→∃vss,AV.isLL M n (Kj n k l) vss∧vss.flatten=vs
 | 0,l,vs,_,h=>⟨[],rfl,by simp at h;simp [h]⟩
 | k+1,l,vs,hl,h=>by
   have h':vs.length=k*n+n:=by rw [h,Nat.add_mul,Nat.one_mul]
   obtain ⟨vss,h1,h2⟩:=fU n k (l.drop n) (vs.drop n) (FY n hl) (by simp;omega);refine ⟨vs.take n::vss,⟨vs.take n,vss,rfl,by simp;omega,by rw [wY];exact FZ n hl,by rw [wA];exact h1⟩,?_⟩;rw [List.flatten_cons,h2,List.take_append_drop]
theorem fV (n:Nat):∀(k:Nat) (l:List AV),(Kj n k l).length=k
 | 0,_=>rfl
 | k+1,l=>by simp [Kj,fV n k]
theorem yf {w:World} {b e E n:Nat} {v:Value} {xs:List Value} (h:w.ownsRow b e E v n xs):v.oneCell'=true:=by rcases h.2 with ⟨h,_⟩ | ⟨_,_,_,h,_⟩<;>rw [h]<;>rfl
structure Ctx where
 P:Program
 w0:World
 H0:Frag
 bor:Nat→Prop
 np:Nat
 pb:Nat→Nat
 nq:Nat
 ps:Nat→Value
structure Pin (c:Ctx) (M:Mem):Prop where
 nb:c.np≤M.nb
 ρ:∀j,j<c.np→M.ρ j=c.pb j
 ns:c.nq≤M.ns
 σ:∀j,j<c.nq→M.σ j=c.ps j
 gl:Kf c.P M.H
theorem Pin.le {c:Ctx} {M M':Mem} (h:Pin c M) (k:M.le M'):Pin c M':=⟨Nat.le_trans h.nb k.nb,fun j hj=>(k.ρ j (Nat.lt_of_lt_of_le hj h.nb)).trans (h.ρ j hj),Nat.le_trans h.ns k.ns,fun j hj=>(k.σ j (Nat.lt_of_lt_of_le hj h.ns)).trans (h.σ j hj),h.gl.mono k.H⟩
def Fl (c:Ctx) (g:Nat):Prop:=c.w0.heap.size≤g∨c.bor g
structure RelS (c:Ctx) (M:Mem) (bs:List (Option Blk)) (ss:List (Option Sl)) (w:World):Prop where
 nb:M.nb=bs.length
 ns:M.ns=ss.length
 so:∀j,j<M.ns→(M.σ j).oneCell'=true
 os:w.os=c.w0.os
 tape:w.tape=c.w0.tape
 output:w.output=c.w0.output
 size:c.w0.heap.size≤w.heap.size
 block:∀k,k<c.w0.heap.size→¬c.bor k→w.heap[k]?=c.w0.heap[k]?
 hle:∀k o,M.H k=some o→w.heap[k]?=some o
 hold:∀k,k<c.w0.heap.size→¬c.bor k→M.H k=c.H0 k
 blk:∀j B,A2 bs j=some B→Fl c (M.ρ j)∧M.H (M.ρ j)=none∧
  ∃vs:List Value,AV.isL M B.cells vs∧w.heap[M.ρ j]?=some (.cells vs.toArray B.T (0,0))∧∀v∈vs,v.oneCell'=true
 slc:∀j L,A2 ss j=some L→0<L.n∧∃vss:List (List Value),AV.isLL M.sl L.n L.rows vss∧(∀v∈vss.flatten,v.oneCell'=true)∧
  w.ownsRow 0 L.T L.n (M.σ j) L.rows.length vss.flatten∧∀g,(M.σ j).ownBlock=some g→Fl c g∧M.H g=none
 d1:∀i j B C,A2 bs i=some B→A2 bs j=some C→M.ρ i=M.ρ j→i=j
 d2:∀i j B L,A2 bs i=some B→A2 ss j=some L→(M.σ j).ownBlock≠some (M.ρ i)
 d3:∀i j L N g,A2 ss i=some L→A2 ss j=some N→(M.σ i).ownBlock=some g→(M.σ j).ownBlock=some g→i=j
 pin:Pin c M
structure RelT (c:Ctx) (M:Mem) (S:St) (a:Act) (w:World):Prop where
 len:S.tm.length≤a.tmps.size
 tm:∀t,(AJ S.tm t).is M (a.tmps.getD t undef)
 df:a.defers=[]
 st:RelS c M S.bs S.ss w
section
variable {c:Ctx} {M:Mem} {bs:List (Option Blk)} {ss:List (Option Sl)} {w:World} {a:Act} {S:St}
theorem RelS.blk_lt (h:RelS c M bs ss w) {j:Nat} {B:Blk} (hj:A2 bs j=some B):M.ρ j<w.heap.size:=by obtain ⟨_,_,vs,_,hv,_⟩:=h.blk j B hj;exact (Array.getElem?_eq_some_iff.1 hv).1
theorem RelS.slc_lt (h:RelS c M bs ss w) {j:Nat} {L:Sl} (hj:A2 ss j=some L) {g:Nat} (hg:(M.σ j).ownBlock=some g):g<w.heap.size:=by obtain ⟨_,vss,_,_,ho,_⟩:=h.slc j L hj;exact (World.ownsRow.lt ho g hg).2
theorem RelS.Hnew (h:RelS c M bs ss w) {k:Nat} (hk:w.heap.size≤k):M.H k=none:=by
 cases hh:M.H k with
 | none=>rfl
 | some o=>have:=h.hle k o hh;have:=(Array.getElem?_eq_some_iff.1 this).1;omega
def Mem.addB (M:Mem) (g:Nat):Mem:= {M with ρ:=fun j=>if j=M.nb then g else M.ρ j,nb:=M.nb+1}
theorem Mem.le_addB (M:Mem) (g:Nat):M.le (M.addB g):=⟨Nat.le_succ _,Nat.le_refl _,fun _ hj=>if_neg (Nat.ne_of_lt hj),fun _ _=>rfl,fun _ _ h=>h⟩
theorem PS (w:World) (o:Obj) (k:Nat):(w.alloc o).heap[k]?=if k=w.heap.size then some o else w.heap[k]?:=by show (w.heap.push o)[k]?=_;rw [Array.getElem?_push]
theorem RelS.alloc (h:RelS c M bs ss w) (T:Nat) (cells:List AV) (vs:List Value) (hc:AV.isL M cells vs) (h1:∀v∈vs,v.oneCell'=true):
  RelS c (M.addB w.heap.size) (bs++[some ⟨T,cells⟩]) ss (w.alloc (.cells vs.toArray T)):=by
 have hle:=Mem.le_addB M w.heap.size;have hρ:∀j,j<M.nb→(M.addB w.heap.size).ρ j=M.ρ j:=hle.ρ;have hρ':(M.addB w.heap.size).ρ bs.length=w.heap.size:=by simp [Mem.addB,h.nb]
 have old:∀j B,A2 (bs++[some (⟨T,cells⟩:Blk)]) j=some B→(j<bs.length∧A2 bs j=some B)∨(j=bs.length∧B=⟨T,cells⟩):=by
  intro j B hj;rw [OK] at hj;split at hj
  ·rename_i e;right;exact ⟨e,by simpa using hj.symm⟩
  ·left;exact ⟨Cu hj,hj⟩
 refine ⟨by simp [Mem.addB,h.nb],h.ns,h.so,h.os,h.tape,h.output,?_,?_,?_,h.hold,?_,?_,?_,?_,h.d3,h.pin.le hle⟩
 ·have:=h.size;show _≤(w.heap.push _).size;simp;omega
 ·intro k hk hb;rw [PS,if_neg (by have:=h.size;omega)];exact h.block k hk hb
 ·intro k o hk;have:=h.hle k o hk;have hl:=(Array.getElem?_eq_some_iff.1 this).1;rw [PS,if_neg Om];exact this
 ·intro j B hj;rcases old j B hj with ⟨hl,hj⟩ | ⟨rfl,rfl⟩
  ·rw [hρ j (by rw [h.nb];exact hl)];obtain ⟨g1,g2,us,g3,g4,g5⟩:=h.blk j B hj;refine ⟨g1,g2,us,E0 hle _ _ g3,?_,g5⟩;rw [PS,if_neg (by have:=h.blk_lt hj;omega)];exact g4
  ·rw [hρ'];refine ⟨.inl h.size,h.Hnew (Nat.le_refl _),vs,E0 hle _ _ hc,?_,h1⟩;rw [PS,if_pos rfl]
 ·intro j L hj;obtain ⟨g0,vss,g1,g2,g3,g4⟩:=h.slc j L hj;exact ⟨g0,vss,g1,g2,World.ownsRow.alloc g3 _,g4⟩
 ·intro i j B C hi hj e;rcases old i B hi with ⟨hl,hi⟩ | ⟨rfl,rfl⟩<;>rcases old j C hj with ⟨hl',hj⟩ | ⟨rfl,rfl⟩
  ·rw [hρ i (by rw [h.nb];exact hl),hρ j (by rw [h.nb];exact hl')] at e;exact h.d1 i j B C hi hj e
  ·rw [hρ i (by rw [h.nb];exact hl),hρ'] at e;have:=h.blk_lt hi;omega
  ·rw [hρ j (by rw [h.nb];exact hl'),hρ'] at e;have:=h.blk_lt hj;omega
  ·rfl
 ·intro i j B L hi hj;rcases old i B hi with ⟨hl,hi⟩ | ⟨rfl,rfl⟩
  ·rw [hρ i (by rw [h.nb];exact hl)];exact h.d2 i j B L hi hj
  ·rw [hρ'];intro e;have:=h.slc_lt hj e;omega
def Mem.addS (M:Mem) (v:Value):Mem:= {M with σ:=fun j=>if j=M.ns then v else M.σ j,ns:=M.ns+1}
theorem Mem.le_addS (M:Mem) (v:Value):M.le (M.addS v):=⟨Nat.le_refl _,Nat.le_succ _,fun _ _=>rfl,fun _ hj=>if_neg (Nat.ne_of_lt hj),fun _ _ h=>h⟩
theorem RelS.name (h:RelS c M bs ss w) (L:Sl) (v:Value) (vss:List (List Value)) (h0:0<L.n) (h1:AV.isLL M.sl L.n L.rows vss) (h2:∀v∈vss.flatten,v.oneCell'=true)
  (h3:w.ownsRow 0 L.T L.n v L.rows.length vss.flatten) (h4:∀g,v.ownBlock=some g→Fl c g∧M.H g=none)
  (h5:∀i B,A2 bs i=some B→v.ownBlock≠some (M.ρ i)) (E:∀j N g,A2 ss j=some N→v.ownBlock=some g→(M.σ j).ownBlock≠some g):
  RelS c (M.addS v) bs (ss++[some L]) w:=by
 have hσ:∀j,j<M.ns→(M.addS v).σ j=M.σ j:=(Mem.le_addS M v).σ;have hσ':(M.addS v).σ ss.length=v:=by simp [Mem.addS,h.ns]
 have old:∀j N,A2 (ss++[some L]) j=some N→(j<M.ns∧A2 ss j=some N)∨(j=ss.length∧N=L):=by
  intro j B hj;rw [OK] at hj;split at hj
  ·rename_i e;right;exact ⟨e,by simpa using hj.symm⟩
  ·left;exact ⟨by rw [h.ns];exact Cu hj,hj⟩
 refine ⟨h.nb,by simp [Mem.addS,h.ns],?_,h.os,h.tape,h.output,h.size,h.block,h.hle,h.hold,?_,?_,h.d1,?_,?_,h.pin.le (Mem.le_addS M v)⟩
 ·intro j hj;simp only [Mem.addS] at hj ⊢;split
  ·exact yf h3
  ·exact h.so j Om
 ·intro j B hj;obtain ⟨g1,g2,vs,g3,g4⟩:=h.blk j B hj;exact ⟨g1,g2,vs,E0 (Mem.le_addS M v) _ _ g3,g4⟩
 ·intro j N hj;rcases old j N hj with ⟨hl,hj⟩ | ⟨rfl,rfl⟩
  ·rw [hσ j hl];obtain ⟨q0,us,q1,q2,q3,q4⟩:=h.slc j N hj;exact ⟨q0,us,EG (Mem.le_addS M v).sl _ _ _ q1,q2,q3,q4⟩
  ·rw [hσ'];exact ⟨h0,vss,EG (Mem.le_addS M v).sl _ _ _ h1,h2,h3,h4⟩
 ·intro i j B N hi hj;rcases old j N hj with ⟨hl,hj⟩ | ⟨rfl,rfl⟩
  ·rw [hσ j hl];exact h.d2 i j B N hi hj
  ·rw [hσ'];exact h5 i B hi
 ·intro i j N O g hi hj e1 e2;rcases old i N hi with ⟨hl,ki⟩ | ⟨ei,_⟩<;>rcases old j O hj with ⟨hl',kj⟩ | ⟨ej,_⟩
  ·rw [hσ i hl] at e1;rw [hσ j hl'] at e2;exact h.d3 i j N O g ki kj e1 e2
  ·rw [hσ i hl] at e1;rw [ej,hσ'] at e2;exact absurd e1 (E i N g ki e2)
  ·rw [hσ j hl'] at e2;rw [ei,hσ'] at e1;exact absurd e2 (E j O g kj e1)
  ·rw [ei,ej]
theorem Gp (w:World) (g:Nat) (cs:Array Value) (k:Nat):(w.setRow g cs).heap[k]?=if k=g then (w.heap[k]?).map (fun | .cells _ e f=>.cells cs e f | o=>o) else w.heap[k]?:=by
 simp only [World.setRow,Array.getElem?_modify];by_cases hk:g=k
 ·subst hk;simp only [if_true];congr 1
 ·rw [if_neg hk,if_neg (fun e=>hk e.symm)]
theorem RelS.write (h:RelS c M bs ss w) {j:Nat} {B:Blk} (hj:A2 bs j=some B) (cells:List AV) (vs:List Value) (hc:AV.isL M cells vs) (h1:∀v∈vs,v.oneCell'=true):
  RelS c M (Ar bs j (some ⟨B.T,cells⟩)) ss (w.setRow (M.ρ j) vs.toArray):=by
 have hlt:=Cu hj;obtain ⟨m1,m2,us,m3,m4,m5⟩:=h.blk j B hj;have old:∀i C,A2 (Ar bs j (some (⟨B.T,cells⟩:Blk))) i=some C→(i≠j∧A2 bs i=some C)∨(i=j∧C=⟨B.T,cells⟩):=by
  intro i C hi;rw [Du] at hi;split at hi
  ·rename_i e;right;exact ⟨e.1,by simpa using hi.symm⟩
  ·rename_i e;left;exact ⟨fun e'=>e ⟨e',hlt⟩,hi⟩
 have live:∀i C,A2 (Ar bs j (some (⟨B.T,cells⟩:Blk))) i=some C→∃C',A2 bs i=some C':=by
  intro i C hi;rcases old i C hi with ⟨_,hi⟩ | ⟨rfl,_⟩
  ·exact ⟨_,hi⟩
  ·exact ⟨_,hj⟩
 have h6:(w.setRow (M.ρ j) vs.toArray).heap.size=w.heap.size:=by simp [World.setRow]
 refine ⟨by rw [Dd];exact h.nb,h.ns,h.so,h.os,h.tape,h.output,by rw [h6];exact h.size,?_,?_,h.hold,?_,?_,?_,?_,h.d3,h.pin⟩
 ·intro k hk hb;rw [Gp,if_neg]
  ·exact h.block k hk hb
  ·rintro rfl;rcases m1 with m1 | m1
   ·omega
   ·exact hb m1
 ·intro k o hk;rw [Gp,if_neg]
  ·exact h.hle k o hk
  ·rintro rfl;rw [m2] at hk;simp at hk
 ·intro i C hi;rcases old i C hi with ⟨hne,hi⟩ | ⟨rfl,rfl⟩
  ·obtain ⟨g1,g2,xs,g3,g4,g5⟩:=h.blk i C hi;refine ⟨g1,g2,xs,g3,?_,g5⟩;rw [Gp,if_neg (fun e=>hne (h.d1 i j C B hi hj e))];exact g4
  ·refine ⟨m1,m2,vs,hc,?_,h1⟩;rw [Gp,if_pos rfl,m4];rfl
 ·intro i L hi;obtain ⟨g0,vss,g1,g2,g3,g4⟩:=h.slc i L hi;refine ⟨g0,vss,g1,g2,?_,g4⟩;have hg:w.grownBy (w.setRow (M.ρ j) vs.toArray) (some (M.ρ j)):=⟨rfl,rfl,rfl,by rw [h6];exact Nat.le_refl _,fun k _ hk=>by rw [Gp,if_neg (fun e=>hk (by rw [e]))]⟩
  exact World.ownsRow.kept g3 hg (.inr (h.d2 j i B L hj hi))
 ·intro i k C D hi hk e;obtain ⟨C',hi'⟩:=live i C hi;obtain ⟨D',hk'⟩:=live k D hk;exact h.d1 i k C' D' hi' hk' e
 ·intro i k C L hi hk;obtain ⟨C',hi'⟩:=live i C hi;exact h.d2 i k C' L hi' hk
theorem RelS.grow (h:RelS c M bs ss w) {w':World} (hb:Below w.heap.size w w'):RelS c M bs ss w':=
 ⟨h.nb,h.ns,h.so,hb.os.trans h.os,hb.tape.trans h.tape,hb.output.trans h.output,Nat.le_trans h.size hb.size,
   fun k hk hn=>(hb.block k (Nat.lt_of_lt_of_le hk h.size)).trans (h.block k hk hn),
   fun k o hk=>(hb.block k ((Array.getElem?_eq_some_iff.1 (h.hle k o hk)).1)).trans (h.hle k o hk),
   h.hold,
   fun j B hj=>let ⟨g1,g2,vs,g3,g4,g5⟩:=h.blk j B hj;⟨g1,g2,vs,g3,(hb.block _ (h.blk_lt hj)).trans g4,g5⟩,
   fun j L hj=>let ⟨g0,vss,g1,g2,g3,g4⟩:=h.slc j L hj;⟨g0,vss,g1,g2,World.ownsRow.kept g3 (row:=none) ⟨hb.os,hb.tape,hb.output,hb.size,fun k hk _=>hb.block k hk⟩ (by
    cases h6:(M.σ j).ownBlock with
    | none=>exact .inl rfl
    | some g=>exact .inr (by simp)),g4⟩,
   h.d1,h.d2,h.d3,h.pin⟩
theorem RelS.drew (h:RelS c M bs ss w):RelS c M bs ss w.drew:=⟨h.nb,h.ns,h.so,h.os,h.tape,h.output,h.size,h.block,h.hle,h.hold,h.blk,h.slc,h.d1,h.d2,h.d3,h.pin⟩
end
end NX
end Go.Proofs.YtjemlejoladlcaaGreat
/-
  The symbolic machine, sound over the model: its operations and its run. No statement of the seat is proved here.
-/
namespace Go.Proofs.YtjemlejoladlcaaGreat
namespace NX
open Go Go.RowKit
inductive RIt where
 | code (c:Code)
 | ops (all:Array Oper) (l:List Oper)
 | blk (id:Nat)
 | lp (x:Code) (n:Nat)
 | sc (x:Code)
def Pp (P:Program) (x:Code) (Q:Exit→Act→World→Prop) (e:Exit) (a:Act) (w:World):Prop:=∀T:Exit→Act→World→Prop,(∀e a w,(∀l,e≠ .goto l)→Q e a w→T e a w)→(∀l rest a w,findLabel x l=some rest→rest.wp P T a w→T (.goto l) a w)→T e a w
theorem Zx {P:Program} {x:Code} {Q:Exit→Act→World→Prop} {e:Exit} {a:Act} {w:World} (he:∀l,e≠ .goto l) (h:Q e a w):Pp P x Q e a w:=fun _ h1 _=>h1 e a w he h
theorem oP {P:Program} {x rest:Code} {Q:Exit→Act→World→Prop} {l:Nat} {a:Act} {w:World} (hf:findLabel x l=some rest) (h:rest.wp P (Pp P x Q) a w):Pp P x Q (.goto l) a w:=fun T h1 h2=>h2 l rest a w hf (wp_mono h fun _ _ _ hj=>hj T h1 h2)
theorem Z21 {P:Program} {x:Code} {Q:Exit→Act→World→Prop} {a:Act} {w:World} (h:x.wp P (Pp P x Q) a w):(Code.scope x).wp P Q a w:=by
 intro b k cs;obtain ⟨e,a₁,w₁,hj,h8⟩:=h b (.inScope x::k) cs;have:=hj (fun e a w=>∃e' a' w',Q e' a' w'∧∀s,Arrives P s b (.inScope x::k) cs e a w→Arrives P s b k cs e' a' w') (fun e a w he hq=>by
  refine ⟨e,a,w,hq,fun s hs=>?_⟩;cases e with
  | normal=>exact Steps.trans hs (.one step_inScope)
  | exit id=>exact fun k' hk=>hs k' (by simp [exitTo,hk])
  | goto l=>exact absurd rfl (he l)
  | ret=>exact hs
  | panic ch=>exact hs
  | outgrown=>exact hs) (fun l rest a w hf hw=>by
  have hg:gotoIn l (.inScope x::k)=some (.code rest :: .inScope x::k):=by simp [gotoIn,hf]
  obtain ⟨e2,a2,w2,⟨e',a',w',hq,ht⟩,h6⟩:=hw b (.inScope x::k) cs;exact ⟨e',a',w',hq,fun s hs=>.of_steps (hs _ hg) (ht _ h6)⟩)
 obtain ⟨e',a',w',hq,ht⟩:=this;exact ⟨e',a',w',hq,.of_steps (.one step_scope) (ht _ h8)⟩
def CY (P:Program) (fn:Func) (R:Ending→World→Prop):List RIt→Exit→Act→World→Prop
 | [],e,a,w=>bodyPost P fn R e a w
 | .code x::k,.normal,a,w=>x.wp P (CY P fn R k) a w
 | .ops all l::k,.normal,a,w=>wpList P all (CY P fn R k) l a w
 | .lp x n::k,.normal,a,w=>Code.rounds P x (CY P fn R k) n a w
 | .blk _::k,.normal,a,w=>CY P fn R k .normal a w
 | .blk id::k,.exit j,a,w=>if j=id then CY P fn R k .normal a w else CY P fn R k (.exit j) a w
 | .sc x::k,e,a,w=>Pp P x (CY P fn R k) e a w
 | _::k,e,a,w=>CY P fn R k e a w
def ov (P:Program):It→RIt→Prop
 | .code e,.code x=>cC P x=some e
 | .ops l,.ops all rl=>rl.mapM (AL P all)=some l
 | .blk i,.blk j=>i=j
 | .lp e n,.lp x m=>cC P x=some e∧n=m
 | .sc e,.sc x=>cC P x=some e
 | _,_=>False
def IW (P:Program):List It→List RIt→Prop
 | [],rk=>rk=[]
 | x::k,rk=>∃y r,rk=y::r∧ov P x y∧IW P k r
def RK (c:Ctx) (K:AV→List (Option Blk)→List (Option Sl)→Prop):Ending→World→Prop:=fun e w=>∃v M bs ss x,e = .returned v∧RelS c M bs ss w∧AV.is M x v∧K x bs ss
def V (c:Ctx) (fn:Func) (K:AV→List (Option Blk)→List (Option Sl)→Prop) (k:List It) (S:St):Prop:=∀rk M a w,IW c.P k rk→RelT c M S a w→CY c.P fn (RK c K) rk .normal a w
theorem qP {P:Program} {x:Code} (h:cC P x=some .skip):x = .skip:=by
 cases x<;>simp [cC] at h<;>try rfl
 all_goals (first | ((repeat' (split at h))<;>simp at h;done) | (obtain ⟨_,_,h⟩:=h;split at h<;>simp at h;done))
theorem fP {P:Program} {x:Code} {a b:EC} (h:cC P x=some (.seq a b)):∃y z,x = .seq y z∧cC P y=some a∧cC P z=some b:=by
 cases x<;>simp [cC] at h
 case seq y z=>split at h<;>simp at h;rename_i h1 h2;exact ⟨y,z,rfl,h.1 ▸ h1,h.2 ▸ h2⟩
 all_goals (first | ((repeat' (split at h))<;>simp at h;done) | (obtain ⟨_,_,h⟩:=h;split at h<;>simp at h;done))
theorem ZW {P:Program} {x:Code} {o:X} {a b:EC} (h:cC P x=some (.ite o a b)):∃q y z,x = .cond q y z∧cX q=o∧cC P y=some a∧cC P z=some b:=by
 cases x<;>simp [cC] at h
 case cond q y z=>split at h<;>simp at h;rename_i h1 h2;exact ⟨q,y,z,rfl,h.1,h.2.1 ▸ h1,h.2.2 ▸ h2⟩
 all_goals (first | ((repeat' (split at h))<;>simp at h;done) | (obtain ⟨_,_,h⟩:=h;split at h<;>simp at h;done))
theorem qH {P:Program} {x:Code} {id:Nat} {a:EC} (h:cC P x=some (.blk id a)):∃y,x = .block id y∧cC P y=some a:=by
 cases x<;>simp [cC] at h
 case block i y=>obtain ⟨h1,rfl⟩:=h;exact ⟨y,rfl,h1⟩
 all_goals (first | ((repeat' (split at h))<;>simp at h;done) | (obtain ⟨_,_,h⟩:=h;split at h<;>simp at h;done))
theorem qL {P:Program} {x:Code} {a:EC} (h:cC P x=some (.loop a)):∃y,x = .loop y∧cC P y=some a:=by
 cases x<;>simp [cC] at h
 case loop y=>exact ⟨y,rfl,h⟩
 all_goals (first | ((repeat' (split at h))<;>simp at h;done) | (obtain ⟨_,_,h⟩:=h;split at h<;>simp at h;done))
theorem qJ {P:Program} {x:Code} {id:Nat} (h:cC P x=some (.exit id)):x = .exit id:=by
 cases x<;>simp [cC] at h
 case exit i=>rw [h]
 all_goals (first | ((repeat' (split at h))<;>simp at h;done) | (obtain ⟨_,_,h⟩:=h;split at h<;>simp at h;done))
theorem qO {P:Program} {x:Code} {a:EC} (h:cC P x=some (.scope a)):∃y,x = .scope y∧cC P y=some a:=by
 cases x<;>simp [cC] at h
 case scope y=>exact ⟨y,rfl,h⟩
 all_goals (first | ((repeat' (split at h))<;>simp at h;done) | (obtain ⟨_,_,h⟩:=h;split at h<;>simp at h;done))
theorem fN {P:Program} {x:Code} {l:Nat} (h:cC P x=some (.label l)):x = .label l:=by
 cases x<;>simp [cC] at h
 case label i=>rw [h]
 all_goals (first | ((repeat' (split at h))<;>simp at h;done) | (obtain ⟨_,_,h⟩:=h;split at h<;>simp at h;done))
theorem qK {P:Program} {x:Code} {l:Nat} (h:cC P x=some (.goto l)):x = .goto l:=by
 cases x<;>simp [cC] at h
 case goto i=>rw [h]
 all_goals (first | ((repeat' (split at h))<;>simp at h;done) | (obtain ⟨_,_,h⟩:=h;split at h<;>simp at h;done))
theorem sN {P:Program} {l:Nat}:∀(x:Code) {e:EC},cC P x=some e→Dk e l=none→findLabel x l=none:=by
 intro x;induction x with
 | seq y z ihy ihz=>
   intro e hx hn;simp only [cC] at hx;split at hx
   ·rename_i a b ha hb;simp at hx;subst hx;simp only [Dk] at hn;split at hn
    ·simp at hn
    ·rename_i hq;simp only [findLabel,ihy ha hq,ihz hb hn]
   ·simp at hx
 | label j=>
   intro e hx hn;simp only [cC,Option.some.injEq] at hx;subst hx;simp only [Dk] at hn;split at hn
   ·simp at hn
   ·rename_i hj;simp [findLabel,hj]
 | _=>intros;simp [findLabel]
theorem aj {P:Program} {l:Nat}:∀ {e:EC} {x:Code} {r:EC},cC P x=some e→Dk e l=some r→∃rest,findLabel x l=some rest∧cC P rest=some r
 | .seq a b,x,r,hx,hr=>by
   obtain ⟨y,z,rfl,hy,hz⟩:=fP hx;simp only [Dk] at hr;split at hr
   ·rename_i q hq;obtain ⟨rest,h1,h2⟩:=aj hy hq;simp at hr;subst hr;exact ⟨.seq rest z,by simp [findLabel,h1],by simp [cC,h2,hz]⟩
   ·rename_i hq;have hn:findLabel y l=none:=sN y hy hq;obtain ⟨rest,h1,h2⟩:=aj hz hr;exact ⟨rest,by simp [findLabel,hn,h1],h2⟩
 | .label j,x,r,hx,hr=>by
   rw [fN hx];simp only [Dk] at hr;split at hr
   ·rename_i hj;simp at hr;subst hr;exact ⟨.skip,by simp [findLabel,hj],by simp [cC]⟩
   ·simp at hr
 | .skip,_,_,_,hr=>by simp [Dk] at hr
 | .reg _,_,_,_,hr=>by simp [Dk] at hr
 | .drw _ _ _,_,_,_,hr=>by simp [Dk] at hr
 | .ite _ _ _,_,_,_,hr=>by simp [Dk] at hr
 | .blk _ _,_,_,_,hr=>by simp [Dk] at hr
 | .loop _,_,_,_,hr=>by simp [Dk] at hr
 | .exit _,_,_,_,hr=>by simp [Dk] at hr
 | .scope _,_,_,_,hr=>by simp [Dk] at hr
 | .goto _,_,_,_,hr=>by simp [Dk] at hr
 | .ret,_,_,_,hr=>by simp [Dk] at hr
 | .bad,_,_,_,hr=>by simp [Dk] at hr
theorem qN {P:Program} {x:Code} (h:cC P x=some .ret):x = .ret:=by
 cases x<;>simp [cC] at h<;>try rfl
 all_goals (first | ((repeat' (split at h))<;>simp at h;done) | (obtain ⟨_,_,h⟩:=h;split at h<;>simp at h;done))
theorem fO {P:Program} {id:Nat} {ops:Array Oper} {dr:Bool} {e:EC} (h:cC P (.region id ops dr)=some e):
  ∃l,ops.toList.mapM (AL P ops)=some l∧((dr=false∧e = .reg l)∨(dr=true∧Region.noSelect ops=true∧e = .drw l (Bn ops) (CX ops))∨e = .bad):=by
 simp only [cC] at h;split at h
 ·rename_i l hl;refine ⟨l,hl,?_⟩;split at h
  ·split at h
   ·rename_i hs;simp at h;exact .inr (.inl ⟨rfl,hs,h.symm⟩)
   ·simp at h;exact .inr (.inr h.symm)
  ·simp at h;exact .inl ⟨rfl,h.symm⟩
 ·simp at h
theorem qM {P:Program} {x:Code} {l:List EOp} (h:cC P x=some (.reg l)):∃id ops,x = .region id ops false∧ops.toList.mapM (AL P ops)=some l:=by
 cases x
 case region id ops dr=>
  obtain ⟨l',h1,h2⟩:=fO h;rcases h2 with ⟨rfl,h2⟩ | ⟨_,_,h2⟩ | h2
  ·simp at h2;subst h2;exact ⟨id,ops,rfl,h1⟩
  ·simp at h2
  ·simp at h2
 all_goals (simp [cC] at h)
 all_goals (first | ((repeat' (split at h))<;>simp at h;done) | (obtain ⟨_,_,h⟩:=h;split at h<;>simp at h;done))
theorem qI {P:Program} {x:Code} {l:List EOp} {af nap:List (List Nat)} (h:cC P x=some (.drw l af nap)):
  ∃id ops,x = .region id ops true∧ops.toList.mapM (AL P ops)=some l∧Region.noSelect ops=true∧af=Bn ops∧nap=CX ops:=by
 cases x
 case region id ops dr=>
  obtain ⟨l',h1,h2⟩:=fO h;rcases h2 with ⟨_,h2⟩ | ⟨rfl,hs,h2⟩ | h2
  ·simp at h2
  ·simp at h2;obtain ⟨rfl,rfl,rfl⟩:=h2;exact ⟨id,ops,rfl,h1,hs,rfl,rfl⟩
  ·simp at h2
 all_goals (simp [cC] at h)
 all_goals (first | ((repeat' (split at h))<;>simp at h;done) | (obtain ⟨_,_,h⟩:=h;split at h<;>simp at h;done))
theorem mapM_cons {α β:Type} {f:α→Option β} {l:List α} {o:β} {r:List β} (h:l.mapM f=some (o::r)):∃x l',l=x::l'∧f x=some o∧l'.mapM f=some r:=by
 cases l with
 | nil=>simp at h
 | cons x l'=>simp only [List.mapM_cons,Option.bind_eq_bind,Option.bind_eq_some_iff] at h;obtain ⟨o',h1,r',h2,h3⟩:=h;simp at h3;exact ⟨x,l',rfl,h3.1 ▸ h1,h3.2 ▸ h2⟩
theorem x0 {α β:Type} {f:α→Option β} {l:List α} (h:l.mapM f=some []):l=[]:=by
 cases l with
 | nil=>rfl
 | cons x l'=>simp only [List.mapM_cons,Option.bind_eq_bind,Option.bind_eq_some_iff] at h;obtain ⟨o',h1,r',h2,h3⟩:=h;simp at h3
section
variable {c:Ctx} {fn:Func} {K:AV→List (Option Blk)→List (Option Sl)→Prop} {k:List It} {S:St}
theorem EX {e:EC} (h:∀x,cC c.P x=some e→∀rk M a w,IW c.P k rk→RelT c M S a w→x.wp c.P (CY c.P fn (RK c K) rk) a w):V c fn K (.code e::k) S:=by
 rintro rk M a w ⟨y,r,rfl,hy,hr⟩ hT;cases y with
 | code x=>exact h x hy r M a w hr hT
 | ops _ _=>exact hy.elim
 | blk _=>exact hy.elim
 | lp _ _=>exact hy.elim
 | sc _=>exact hy.elim
theorem pQ (h:V c fn K k S):V c fn K (.code .skip::k) S:=EX fun x hx rk M a w hr hT=>by rw [qP hx];exact wp_skip (h rk M a w hr hT)
theorem pP {a b:EC} (h:V c fn K (.code a :: .code b::k) S):V c fn K (.code (.seq a b)::k) S:=EX fun x hx rk M s w hr hT=>by obtain ⟨y,z,rfl,hy,hz⟩:=fP hx;refine wp_seq (wp_mono (h (.code y :: .code z::rk) M s w ⟨_,_,rfl,hy,_,_,rfl,hz,hr⟩ hT) ?_);intro e a w hq;cases e<;>exact hq
theorem pa {id:Nat} {a:EC} (h:V c fn K (.code a :: .blk id::k) S):V c fn K (.code (.blk id a)::k) S:=EX fun x hx rk M s w hr hT=>by obtain ⟨y,rfl,hy⟩:=qH hx;refine wp_block (wp_mono (h (.code y :: .blk id::rk) M s w ⟨_,_,rfl,hy,_,_,rfl,rfl,hr⟩ hT) ?_);intro e a w hq;cases e<;>exact hq
theorem pM {a:EC} (h:V c fn K (.code a :: .sc a::k) S):V c fn K (.code (.scope a)::k) S:=EX fun x hx rk M s w hr hT=>by obtain ⟨y,rfl,hy⟩:=qO hx;refine Z21 (wp_mono (h (.code y :: .sc y::rk) M s w ⟨_,_,rfl,hy,_,_,rfl,hy,hr⟩ hT) ?_);intro e a w hq;cases e<;>exact hq
theorem pC {l:Nat} (h:V c fn K k S):V c fn K (.code (.label l)::k) S:=EX fun x hx rk M s w hr hT=>by rw [fN hx];exact wp_label (h rk M s w hr hT)
theorem pL {e:EC} (h:V c fn K k S):V c fn K (.sc e::k) S:=by
 rintro rk M a w ⟨y,r,rfl,hy,hr⟩ hT;cases y with
 | code x=>exact hy.elim
 | ops _ _=>exact hy.elim
 | blk _=>exact hy.elim
 | lp _ _=>exact hy.elim
 | sc _=>exact Zx (by simp) (h r M a w hr hT)
theorem PQ {P:Program} {l:Nat} {R:Ending→World→Prop}:∀ {k k':List It} {rk:List RIt},Gm l k=some k'→IW P k rk→
  ∃rk',IW P k' rk'∧∀a w,CY P fn R rk' .normal a w→CY P fn R rk (.goto l) a w
 | [],k',rk,h,_=>by simp [Gm] at h
 | .sc e::k,k',rk,h,⟨y,r,h6,hy,hr⟩=>by
   subst h6;cases y with
   | code x=>exact hy.elim
   | ops all l=>exact hy.elim
   | blk i=>exact hy.elim
   | lp _ _=>exact hy.elim
   | sc x=>
     simp only [Gm] at h;split at h
     ·rename_i q hq;simp at h;subst h;obtain ⟨rest,h1,h2⟩:=aj hy hq;refine ⟨.code rest :: .sc x::r,⟨_,_,rfl,h2,_,_,rfl,hy,hr⟩,fun a w hc=>oP h1 (wp_mono hc ?_)⟩;intro e a w hq;cases e<;>exact hq
     ·simp at h
 | .blk j::k,k',rk,h,⟨y,r,h6,hy,hr⟩=>by
   subst h6;simp only [Gm] at h;obtain ⟨rk',h1,h2⟩:=PQ h hr;cases y with
   | blk i=>exact ⟨rk',h1,fun a w hc=>h2 a w hc⟩
   | code x=>exact hy.elim
   | ops all l=>exact hy.elim
   | lp _ _=>exact hy.elim
   | sc _=>exact hy.elim
 | .code _::k,k',rk,h,⟨y,r,h6,hy,hr⟩=>by
   subst h6;simp only [Gm] at h;obtain ⟨rk',h1,h2⟩:=PQ h hr;cases y with
   | code x=>exact ⟨rk',h1,fun a w hc=>h2 a w hc⟩
   | ops all l=>exact hy.elim
   | blk i=>exact hy.elim
   | lp _ _=>exact hy.elim
   | sc _=>exact hy.elim
 | .ops _::k,k',rk,h,⟨y,r,h6,hy,hr⟩=>by
   subst h6;simp only [Gm] at h;obtain ⟨rk',h1,h2⟩:=PQ h hr;cases y with
   | code x=>exact hy.elim
   | ops all l=>exact ⟨rk',h1,fun a w hc=>h2 a w hc⟩
   | blk i=>exact hy.elim
   | lp _ _=>exact hy.elim
   | sc _=>exact hy.elim
 | .lp _ _::k,k',rk,h,⟨y,r,h6,hy,hr⟩=>by
   subst h6;simp only [Gm] at h;obtain ⟨rk',h1,h2⟩:=PQ h hr;cases y with
   | code x=>exact hy.elim
   | ops all l=>exact hy.elim
   | blk i=>exact hy.elim
   | lp _ _=>exact ⟨rk',h1,fun a w hc=>h2 a w hc⟩
   | sc _=>exact hy.elim
theorem px {l:Nat} {k':List It} (hu:Gm l k=some k') (h:V c fn K k' S):V c fn K (.code (.goto l)::k) S:=EX fun x hx rk M s w hr hT=>by rw [qK hx];obtain ⟨rk',h1,h2⟩:=PQ (fn:=fn) (R:=RK c K) hu hr;exact wp_goto (h2 _ _ (h rk' M s w h1 hT))
theorem pI {id:Nat} (h:V c fn K k S):V c fn K (.blk id::k) S:=by
 rintro rk M a w ⟨y,r,rfl,hy,hr⟩ hT;cases y with
 | code x=>exact hy.elim
 | ops _ _=>exact hy.elim
 | blk _=>exact h r M a w hr hT
 | lp _ _=>exact hy.elim
 | sc _=>exact hy.elim
theorem pG (h:V c fn K k S):V c fn K (.ops []::k) S:=by
 rintro rk M a w ⟨y,r,rfl,hy,hr⟩ hT;cases y with
 | code x=>exact hy.elim
 | ops all l=>have:=x0 hy;subst this;exact h r M a w hr hT
 | blk _=>exact hy.elim
 | lp _ _=>exact hy.elim
 | sc _=>exact hy.elim
theorem pJ {l:List EOp} (h:V c fn K (.ops l::k) S):V c fn K (.code (.reg l)::k) S:=EX fun x hx rk M s w hr hT=>by obtain ⟨id,ops,rfl,hy⟩:=qM hx;exact wp_region_list (h (.ops ops ops.toList::rk) M s w ⟨_,_,rfl,hy,hr⟩ hT)
theorem Pm {P:Program} {id:Nat} {R:Ending→World→Prop}:∀ {k k':List It} {rk:List RIt},ET id k=some k'→IW P k rk→
  ∃rk',IW P k' rk'∧∀a w,CY P fn R rk' .normal a w→CY P fn R rk (.exit id) a w
 | [],k',rk,h,_=>by simp [ET] at h
 | .blk j::k,k',rk,h,⟨y,r,h6,hy,hr⟩=>by
   subst h6;cases y with
   | code x=>exact hy.elim
   | ops all l=>exact hy.elim
   | blk i=>
     have:j=i:=hy;subst this;simp only [ET] at h;split at h
     ·rename_i hj;rw [beq_iff_eq] at hj;simp at h;subst h;exact ⟨r,hr,fun a w hc=>by simp only [CY,hj,if_true];exact hc⟩
     ·rename_i hj;have hj:¬j=id:=fun e=>by rw [beq_iff_eq.2 e] at hj;simp at hj
      obtain ⟨rk',h1,h2⟩:=Pm h hr;exact ⟨rk',h1,fun a w hc=>by simp only [CY];rw [if_neg (fun e=>hj e.symm)];exact h2 a w hc⟩
   | lp _ _=>exact hy.elim
   | sc _=>exact hy.elim
 | .code _::k,k',rk,h,⟨y,r,h6,hy,hr⟩=>by
   subst h6;simp only [ET] at h;obtain ⟨rk',h1,h2⟩:=Pm h hr;cases y with
   | code x=>exact ⟨rk',h1,fun a w hc=>h2 a w hc⟩
   | ops all l=>exact hy.elim
   | blk i=>exact hy.elim
   | lp _ _=>exact hy.elim
   | sc _=>exact hy.elim
 | .ops _::k,k',rk,h,⟨y,r,h6,hy,hr⟩=>by
   subst h6;simp only [ET] at h;obtain ⟨rk',h1,h2⟩:=Pm h hr;cases y with
   | code x=>exact hy.elim
   | ops all l=>exact ⟨rk',h1,fun a w hc=>h2 a w hc⟩
   | blk i=>exact hy.elim
   | lp _ _=>exact hy.elim
   | sc _=>exact hy.elim
 | .lp _ _::k,k',rk,h,⟨y,r,h6,hy,hr⟩=>by
   subst h6;simp only [ET] at h;obtain ⟨rk',h1,h2⟩:=Pm h hr;cases y with
   | code x=>exact hy.elim
   | ops all l=>exact hy.elim
   | blk i=>exact hy.elim
   | lp _ _=>exact ⟨rk',h1,fun a w hc=>h2 a w hc⟩
   | sc _=>exact hy.elim
 | .sc _::k,k',rk,h,⟨y,r,h6,hy,hr⟩=>by
   subst h6;simp only [ET] at h;obtain ⟨rk',h1,h2⟩:=Pm h hr;cases y with
   | code x=>exact hy.elim
   | ops all l=>exact hy.elim
   | blk i=>exact hy.elim
   | lp _ _=>exact hy.elim
   | sc _=>exact ⟨rk',h1,fun a w hc=>Zx (by simp) (h2 a w hc)⟩
theorem pp {id:Nat} {k':List It} (hu:ET id k=some k') (h:V c fn K k' S):V c fn K (.code (.exit id)::k) S:=EX fun x hx rk M s w hr hT=>by rw [qJ hx];obtain ⟨rk',h1,h2⟩:=Pm (fn:=fn) (R:=RK c K) hu hr;exact wp_exit (h2 _ _ (h rk' M s w h1 hT))
theorem Ak {M:Mem} {a:Act} {w:World} (E:RelT c M S a w) (o:Operand):(S.x (cX o)).is M (a.eval o):=by
 cases o with
 | tmp t=>exact E.tm t
 | const v=>exact oj M v
 | global g=>trivial
 | func f=>simp [cX,St.x,AV.is,AV.isL,Act.eval]
theorem pX {o:X} {a b:EC} (hx:S.x o = .tt) (h:V c fn K (.code a::k) S):V c fn K (.code (.ite o a b)::k) S:=EX fun x hc rk M s w hr hT=>by obtain ⟨q,y,z,rfl,rfl,hy,hz⟩:=ZW hc;have hq:=Ak hT q;rw [hx] at hq;exact wp_cond_true hq (h (.code y::rk) M s w ⟨_,_,rfl,hy,hr⟩ hT)
theorem pv {o:X} {a b:EC} (hx:S.x o = .ff) (h:V c fn K (.code b::k) S):V c fn K (.code (.ite o a b)::k) S:=EX fun x hc rk M s w hr hT=>by obtain ⟨q,y,z,rfl,rfl,hy,hz⟩:=ZW hc;have hq:=Ak hT q;rw [hx] at hq;exact wp_cond_false hq (h (.code z::rk) M s w ⟨_,_,rfl,hz,hr⟩ hT)
theorem Ex {o:X} {a b:EC} {e:Bool} (hx:S.x o = .bv e) (h1:e=true→V c fn K (.code a::k) S) (h2:e=false→V c fn K (.code b::k) S):V c fn K (.code (.ite o a b)::k) S:=EX fun x hc rk M s w hr hT=>by obtain ⟨q,y,z,rfl,rfl,hy,hz⟩:=ZW hc;have hq:=Ak hT q;rw [hx] at hq;refine wp_cond_split hq (fun e=>h1 e (.code y::rk) M s w ⟨_,_,rfl,hy,hr⟩ hT) (fun e=>h2 e (.code z::rk) M s w ⟨_,_,rfl,hz,hr⟩ hT)
end
end NX
end Go.Proofs.YtjemlejoladlcaaGreat
