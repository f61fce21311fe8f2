/-
  The symbolic machine: a function that is lent own memory, whatever the names are by which its caller has it. No statement of the seat is proved here.
-/
import Derived.KernelRfl
import Derived.Test.YtdjkbodnjhgbcaaGreatP12
namespace Go.Proofs.YtdjkbodnjhgbcaaGreat
namespace NX
open Go Go.RowKit
def rnm:List Nat→Nat→Nat→Nat
 | [],B,i=>B+i
 | x::_,_,0=>x
 | _::l,B,i+1=>rnm l B i
mutual
def AV.rnF (pb ps:List Nat) (B Q:Nat):AV→AV
 | .ptr j off=>.ptr (rnm pb B j) off
 | .osl j=>.osl (rnm ps Q j)
 | .oel j i off=>.oel (rnm ps Q j) i off
 | .ocs j lo n m=>.ocs (rnm ps Q j) lo n m
 | .agg l=>.agg (rnFL pb ps B Q l)
 | .tup l=>.tup (rnFL pb ps B Q l)
 | .clo f l=>.clo f (rnFL pb ps B Q l)
 | .any=>.any
 | .un=>.un
 | .tt=>.tt
 | .ff=>.ff
 | .bv e=>.bv e
 | .iv n=>.iv n
 | .kv k n=>.kv k n
 | .sv x=>.sv x
 | .nl=>.nl
 | .nlp=>.nlp
 | .fn f=>.fn f
 | .elt r o=>.elt r o
 | .sl n rows=>.sl n rows
def rnFL (pb ps:List Nat) (B Q:Nat):List AV→List AV
 | []=>[]
 | x::l=>AV.rnF pb ps B Q x::rnFL pb ps B Q l
end
def Zj6 (pb ps:List Nat) (B Q:Nat):List (Option Blk)→List (Option Blk)
 | []=>[]
 | none::l=>none::Zj6 pb ps B Q l
 | some b::l=>some ⟨b.T,rnFL pb ps B Q b.cells⟩::Zj6 pb ps B Q l
def Zk6 {α:Type}:Nat→List (Option α)
 | 0=>[]
 | n+1=>none::Zk6 n
def spr {α:Type}:List (Option α)→List Nat→List (Option α)→List (Option α)
 | l,_,[]=>l
 | l,[],x::r=>l++x::r
 | l,k::p,x::r=>spr (Zg l k x) p r
def memB (k:Nat):List Nat→Bool
 | []=>false
 | x::l=>match k==x with
   | true=>true
   | false=>memB k l
def Zl6 (B:Nat):List Nat→Bool
 | []=>true
 | x::l=>Z2 (Z3 (x+1) B) (match memB x l with
   | true=>false
   | false=>Zl6 B l)
attribute [go_sem] rnm AV.rnF rnFL Zj6 Zk6 spr
theorem memB_iff (k:Nat):∀l,memB k l=true↔k∈l
 | []=>by simp [memB]
 | x::l=>by
   simp only [memB]
   split
   ·rename_i h;simp at h;simp [h]
   ·rename_i h;simp at h;simp [h,memB_iff k l]
theorem nodB_lt {B:Nat}:∀ {l:List Nat},Zl6 B l=true→∀x∈l,x<B
 | [],_,_,h=>by simp at h
 | x::l,h,y,hy=>by
   simp only [Zl6,Z81,Z91] at h
   rcases List.mem_cons.1 hy with rfl | hy
   ·exact h.1
   ·have:=h.2
    split at this
    ·simp at this
    ·exact nodB_lt this y hy
theorem Zm6:∀ {p:List Nat} {B i:Nat},i<p.length→rnm p B i∈p
 | [],_,_,h=>by simp at h
 | x::l,_,0,_=>by simp [rnm]
 | x::l,B,i+1,h=>by
   simp only [rnm]
   exact List.mem_cons_of_mem _ (Zm6 (by simpa using h))
theorem Zn6:∀ {p:List Nat} {B i:Nat},p.length≤i→rnm p B i=B+(i-p.length)
 | [],_,_,_=>by simp [rnm]
 | x::l,_,0,h=>by simp at h
 | x::l,B,i+1,h=>by
   simp only [rnm]
   rw [Zn6 (by simpa using h)]
   simp
theorem rnm_inj:∀ {p:List Nat} {B i j:Nat},Zl6 B p=true→rnm p B i=rnm p B j→i=j
 | [],_,_,_,_,h=>by simp only [rnm] at h;omega
 | x::l,B,i,j,hn,h=>by
   have hn':=hn
   simp only [Zl6,Z81,Z91] at hn
   obtain ⟨hx,h2⟩:=hn
   split at h2
   ·simp at h2
   ·rename_i hm
    have hm:x∉l:=fun h6=>by rw [(memB_iff x l).2 h6] at hm;simp at hm
    have key:∀i,rnm l B i≠x:=by
     intro i e
     by_cases hi:i<l.length
     ·exact hm (e ▸ Zm6 hi)
     ·rw [Zn6 (by omega)] at e;omega
    cases i with
    | zero=>cases j with
      | zero=>rfl
      | succ j=>simp only [rnm] at h;exact absurd h.symm (key j)
    | succ i=>cases j with
      | zero=>simp only [rnm] at h;exact absurd h (key i)
      | succ j=>simp only [rnm] at h;rw [rnm_inj h2 h]
theorem Zo6 {α:Type}:∀n,(Zk6 n:List (Option α)).length=n
 | 0=>rfl
 | n+1=>by simp [Zk6,Zo6 n]
theorem Zp6 {α:Type}:∀n j,Zf (Zk6 n:List (Option α)) j=none
 | 0,j=>by simp [Zk6,Zf]
 | n+1,0=>by simp [Zk6,Zf]
 | n+1,j+1=>by simp [Zk6,Zf,Zp6 n j]
theorem Zq6 {α:Type}:∀(l:List (Option α)) (p:List Nat) (r:List (Option α)),p.length≤r.length→(spr l p r).length=l.length+(r.length-p.length)
 | l,p,[],h=>by
   have:p.length=0:=by simpa using h
   simp [spr,this]
 | l,[],x::r,_=>by simp [spr]
 | l,k::p,x::r,h=>by
   simp only [spr]
   rw [Zq6 _ p r (by simpa using h),Zf1];simp
theorem Zr6 {α:Type}:∀(l:List (Option α)) (p:List Nat) (r:List (Option α)),p.length=r.length→(spr l p r).length=l.length:=by
 intro l p r h
 rw [Zq6 l p r (by omega),h];simp
theorem spr_get {α:Type}:∀ {l:List (Option α)} {p:List Nat} {r:List (Option α)} {j:Nat} {x:α},p.length≤r.length→Zf (spr l p r) j=some x→
  Zf l j=some x∨∃i,rnm p l.length i=j∧Zf r i=some x
 | l,p,[],j,x,h,h1=>.inl (by simpa [spr] using h1)
 | l,[],y::r,j,x,_,h1=>by
   simp only [spr] at h1
   have:∀(l:List (Option α)) (j:Nat),Zf (l++y::r) j=some x→Zf l j=some x∨∃i,l.length+i=j∧Zf (y::r) i=some x:=by
    intro l
    induction l with
    | nil=>intro j h;exact .inr ⟨j,by simp,h⟩
    | cons z l ih=>
      intro j h
      cases j with
      | zero=>exact .inl h
      | succ j=>
        rcases ih j h with h | ⟨i,h2,h3⟩
        ·exact .inl h
        ·exact .inr ⟨i,by simp;omega,h3⟩
   rcases this l j h1 with h | ⟨i,h2,h3⟩
   ·exact .inl h
   ·exact .inr ⟨i,by simpa [rnm] using h2,h3⟩
 | l,k::p,y::r,j,x,h,h1=>by
   simp only [spr] at h1
   rcases spr_get (by simpa using h) h1 with h2 | ⟨i,h2,h3⟩
   ·rw [Ze1] at h2
    split at h2
    ·rename_i e;exact .inr ⟨0,by simp [rnm,e.1],by simpa [Zf] using h2⟩
    ·exact .inl h2
   ·rw [Zf1] at h2
    exact .inr ⟨i+1,by simpa [rnm] using h2,by simpa [Zf] using h3⟩
theorem spr_keep {α:Type}:∀ {l:List (Option α)} {p:List Nat} {r:List (Option α)} {j:Nat},j<l.length→j∉p→Zf (spr l p r) j=Zf l j
 | l,p,[],j,_,_=>by simp [spr]
 | l,[],y::r,j,h,_=>by
   simp only [spr]
   have:∀(l:List (Option α)) (j:Nat),j<l.length→Zf (l++y::r) j=Zf l j:=by
    intro l
    induction l with
    | nil=>intro j h;simp at h
    | cons z l ih=>intro j h;cases j with
      | zero=>rfl
      | succ j=>exact ih j (by simpa using h)
   exact this l j h
 | l,k::p,y::r,j,h,hn=>by
   simp only [spr]
   rw [spr_keep (by rw [Zf1];exact h) (fun e=>hn (List.mem_cons_of_mem _ e)),Ze1,if_neg (fun e=>hn (by rw [e.1];simp))]
theorem spr_put {α:Type}:∀ {l:List (Option α)} {p:List Nat} {r:List (Option α)} {i:Nat} {x:α},Zl6 l.length p=true→Zf r i=some x→Zf (spr l p r) (rnm p l.length i)=some x
 | l,p,[],i,x,_,h=>by simp [Zf] at h
 | l,[],y::r,i,x,_,h=>by
   simp only [spr,rnm]
   have:∀(l:List (Option α)) (i:Nat),Zf (l++y::r) (l.length+i)=Zf (y::r) i:=by
    intro l
    induction l with
    | nil=>intro i;simp
    | cons z l ih=>intro i;rw [show (z::l).length+i=(l.length+i)+1 by simp;omega];simpa [Zf] using ih i
   rw [this];exact h
 | l,k::p,y::r,i,x,hn,h=>by
   have h8:=hn
   simp only [Zl6,Z81,Z91] at hn
   obtain ⟨hk,h2⟩:=hn
   split at h2
   ·simp at h2
   ·rename_i hm
    have hm:k∉p:=fun h6=>by rw [(memB_iff k p).2 h6] at hm;simp at hm
    simp only [spr]
    cases i with
    | zero=>
      simp only [rnm]
      rw [spr_keep (by rw [Zf1];exact hk) hm,Ze1,if_pos ⟨rfl,hk⟩]
      simpa [Zf] using h
    | succ i=>
      simp only [rnm]
      have:=spr_put (l:=Zg l k y) (p:=p) (r:=r) (i:=i) (x:=x) (by rw [Zf1];exact h2) (by simpa [Zf] using h)
      rwa [Zf1] at this
mutual
theorem rnF_pu (pb ps:List Nat) (B Q:Nat):∀(x:AV),x.pu=true→AV.rnF pb ps B Q x=x:=by
 intro x h
 cases x<;>simp_all [AV.pu,AV.rnF]
 all_goals exact rnFL_pu pb ps B Q _ h
theorem rnFL_pu (pb ps:List Nat) (B Q:Nat):∀(l:List AV),Zo l=true→rnFL pb ps B Q l=l
 | [],_=>rfl
 | x::l,h=>by
   simp only [Zo] at h
   cases hx:x.pu<;>simp [hx,Z2] at h
   simp [rnFL,rnF_pu pb ps B Q x hx,rnFL_pu pb ps B Q l h]
end
def Mem.inn (M:Mem) (pb ps:List Nat):Mem:=⟨fun i=>M.ρ (rnm pb M.nb i),fun i=>M.σ (rnm ps M.ns i),pb.length,ps.length,M.H⟩
mutual
theorem rnF_in {M:Mem} {pb ps:List Nat} (hpb:Zl6 M.nb pb=true) (hps:Zl6 M.ns ps=true):∀(x:AV) (v:Value),(x.rnF pb ps M.nb M.ns).is M v→x.is (M.inn pb ps) v
 | .any,_,_=>trivial
 | .un,_,k=>k
 | .tt,_,k=>k
 | .ff,_,k=>k
 | .bv _,_,k=>k
 | .iv _,_,k=>k
 | .kv _ _,_,k=>k
 | .sv _,_,k=>k
 | .nl,_,k=>k
 | .nlp,_,k=>k
 | .fn _,_,k=>k
 | .ptr j off,_,k=>by
   refine ⟨?_,k.2⟩
   have h1:rnm pb M.nb j<M.nb:=k.1
   by_cases h:j<pb.length
   ·exact h
   ·rw [Zn6 (by omega)] at h1;omega
 | .osl j,_,k=>by
   refine ⟨?_,k.2⟩
   have h1:rnm ps M.ns j<M.ns:=k.1
   by_cases h:j<ps.length
   ·exact h
   ·rw [Zn6 (by omega)] at h1;omega
 | .oel j a off,_,k=>by
   refine ⟨?_,k.2⟩
   have h1:rnm ps M.ns j<M.ns:=k.1
   by_cases h:j<ps.length
   ·exact h
   ·rw [Zn6 (by omega)] at h1;omega
 | .ocs j a n off,_,k=>by
   refine ⟨?_,k.2⟩
   have h1:rnm ps M.ns j<M.ns:=k.1
   by_cases h:j<ps.length
   ·exact h
   ·rw [Zn6 (by omega)] at h1;omega
 | .elt row off,_,k=>k
 | .sl n rows,_,k=>k
 | .agg l,_,⟨vs,h1,h2⟩=>⟨vs,h1,Zs6 hpb hps l vs h2⟩
 | .tup l,_,⟨vs,h1,h2⟩=>⟨vs,h1,Zs6 hpb hps l vs h2⟩
 | .clo f l,_,⟨vs,h1,h2⟩=>⟨vs,h1,Zs6 hpb hps l vs h2⟩
theorem Zs6 {M:Mem} {pb ps:List Nat} (hpb:Zl6 M.nb pb=true) (hps:Zl6 M.ns ps=true):∀(l:List AV) (vs:List Value),AV.isL M (rnFL pb ps M.nb M.ns l) vs→AV.isL (M.inn pb ps) l vs
 | [],_,k=>k
 | x::l,_,⟨v,r,h1,h2,h3⟩=>⟨v,r,h1,rnF_in hpb hps x v h2,Zs6 hpb hps l r h3⟩
end
def Mem.out (M M':Mem) (pb ps:List Nat):Mem:=
 ⟨fun k=>if k<M.nb then M.ρ k else M'.ρ (pb.length+(k-M.nb)),fun k=>if k<M.ns then M.σ k else M'.σ (ps.length+(k-M.ns)),M.nb+(M'.nb-pb.length),M.ns+(M'.ns-ps.length),M'.H⟩
section
variable {M M':Mem} {pb ps:List Nat}
theorem out_ρ (hpb:Zl6 M.nb pb=true) (hp:∀j,j<pb.length→M'.ρ j=(M.inn pb ps).ρ j) (hl:pb.length≤M'.nb) {j:Nat} (hj:j<M'.nb):rnm pb M.nb j<(M.out M' pb ps).nb∧(M.out M' pb ps).ρ (rnm pb M.nb j)=M'.ρ j:=by
 by_cases h:j<pb.length
 ·have h6:=nodB_lt hpb _ (Zm6 (B:=M.nb) h)
  refine ⟨Nat.lt_of_lt_of_le h6 (Nat.le_add_right _ _),?_⟩
  simp only [Mem.out]
  rw [if_pos h6,hp j h];rfl
 ·have e:=Zn6 (p:=pb) (B:=M.nb) (i:=j) (by omega)
  rw [e]
  refine ⟨by simp only [Mem.out];omega,?_⟩
  simp only [Mem.out]
  rw [if_neg (by omega)]
  congr 1;omega
theorem out_σ (hps:Zl6 M.ns ps=true) (hp:∀j,j<ps.length→M'.σ j=(M.inn pb ps).σ j) (hl:ps.length≤M'.ns) {j:Nat} (hj:j<M'.ns):rnm ps M.ns j<(M.out M' pb ps).ns∧(M.out M' pb ps).σ (rnm ps M.ns j)=M'.σ j:=by
 by_cases h:j<ps.length
 ·have h6:=nodB_lt hps _ (Zm6 (B:=M.ns) h)
  refine ⟨Nat.lt_of_lt_of_le h6 (Nat.le_add_right _ _),?_⟩
  simp only [Mem.out]
  rw [if_pos h6,hp j h];rfl
 ·have e:=Zn6 (p:=ps) (B:=M.ns) (i:=j) (by omega)
  rw [e]
  refine ⟨by simp only [Mem.out];omega,?_⟩
  simp only [Mem.out]
  rw [if_neg (by omega)]
  congr 1;omega
mutual
theorem rnF_out (ob:∀ {j:Nat},j<M'.nb→rnm pb M.nb j<(M.out M' pb ps).nb∧(M.out M' pb ps).ρ (rnm pb M.nb j)=M'.ρ j) (os:∀ {j:Nat},j<M'.ns→rnm ps M.ns j<(M.out M' pb ps).ns∧(M.out M' pb ps).σ (rnm ps M.ns j)=M'.σ j):∀(x:AV) (v:Value),x.is M' v→(x.rnF pb ps M.nb M.ns).is (M.out M' pb ps) v
 | .any,_,_=>trivial
 | .un,_,k=>k
 | .tt,_,k=>k
 | .ff,_,k=>k
 | .bv _,_,k=>k
 | .iv _,_,k=>k
 | .kv _ _,_,k=>k
 | .sv _,_,k=>k
 | .nl,_,k=>k
 | .nlp,_,k=>k
 | .fn _,_,k=>k
 | .ptr j off,_,k=>⟨(ob k.1).1,by rw [(ob k.1).2];exact k.2⟩
 | .osl j,_,k=>⟨(os k.1).1,by rw [(os k.1).2];exact k.2⟩
 | .oel j a off,_,k=>⟨(os k.1).1,by rw [(os k.1).2];exact k.2⟩
 | .ocs j a n off,_,k=>⟨(os k.1).1,by rw [(os k.1).2];exact k.2⟩
 | .elt row off,_,k=>k
 | .sl n rows,_,k=>k
 | .agg l,_,⟨vs,h1,h2⟩=>⟨vs,h1,Zt6 ob os l vs h2⟩
 | .tup l,_,⟨vs,h1,h2⟩=>⟨vs,h1,Zt6 ob os l vs h2⟩
 | .clo f l,_,⟨vs,h1,h2⟩=>⟨vs,h1,Zt6 ob os l vs h2⟩
theorem Zt6 (ob:∀ {j:Nat},j<M'.nb→rnm pb M.nb j<(M.out M' pb ps).nb∧(M.out M' pb ps).ρ (rnm pb M.nb j)=M'.ρ j) (os:∀ {j:Nat},j<M'.ns→rnm ps M.ns j<(M.out M' pb ps).ns∧(M.out M' pb ps).σ (rnm ps M.ns j)=M'.σ j):∀(l:List AV) (vs:List Value),AV.isL M' l vs→AV.isL (M.out M' pb ps) (rnFL pb ps M.nb M.ns l) vs
 | [],_,k=>k
 | x::l,_,⟨v,r,h1,h2,h3⟩=>⟨v,r,h1,rnF_out ob os x v h2,Zt6 ob os l r h3⟩
end
end
theorem Zu6 (pb ps:List Nat) (B Q:Nat):∀l,(Zj6 pb ps B Q l).length=l.length
 | []=>rfl
 | none::l=>by simp [Zj6,Zu6 pb ps B Q l]
 | some b::l=>by simp [Zj6,Zu6 pb ps B Q l]
theorem Zv6 {pb ps:List Nat} {B Q:Nat}:∀ {l:List (Option Blk)} {i:Nat} {x:Blk},Zf (Zj6 pb ps B Q l) i=some x↔∃y,Zf l i=some y∧x=⟨y.T,rnFL pb ps B Q y.cells⟩
 | [],i,x=>by simp [Zj6,Zf]
 | none::l,0,x=>by simp [Zj6,Zf]
 | none::l,i+1,x=>by simpa [Zj6,Zf] using Zv6 (l:=l)
 | some b::l,0,x=>by simp [Zj6,Zf,eq_comm]
 | some b::l,i+1,x=>by simpa [Zj6,Zf] using Zv6 (l:=l)
theorem Zw6 {M M':Mem} (hH:M.H=M'.H) {n:Nat}:∀ {rows:List (List AV)} {vss:List (List Value)},Zz rows=true→AV.isLL M n rows vss→AV.isLL M' n rows vss
 | [],_,_,h=>h
 | r::rows,_,hp,⟨v,q,h0,h1,h2,h3⟩=>by
   simp only [Zz,Z81] at hp
   have e:M.pure.le M':=⟨Nat.zero_le _,Nat.zero_le _,fun _ h=>absurd h (Nat.not_lt_zero _),fun _ h=>absurd h (Nat.not_lt_zero _),fun k o h=>by rw [←hH];exact h⟩
   exact ⟨v,q,h0,h1,Zq1 e _ _ (Zt1 r v h2 hp.1),Zw6 hH hp.2 h3⟩
theorem Zx6:∀ {ss:List (Option Sl)} {j:Nat} {L:Sl},Z01 ss=true→Zf ss j=some L→Zz L.rows=true
 | [],_,_,_,h=>by simp [Zf] at h
 | none::l,0,_,_,h=>by simp [Zf] at h
 | none::l,j+1,_,hp,h=>Zx6 (ss:=l) (by simpa [Z01] using hp) (by simpa [Zf] using h)
 | some L::l,0,_,hp,h=>by
   simp only [Z01,Z81] at hp
   simp [Zf] at h;subst h;exact hp.1
 | some L::l,j+1,_,hp,h=>by
   simp only [Z01,Z81] at hp
   exact Zx6 hp.2 (by simpa [Zf] using h)
theorem Zy6 {P:Program} {f:Nat} {args:List AV} {bs bs':List (Option Blk)} {ss ss':List (Option Sl)} {v:AV} (pb ps:List Nat) (B Q:Nat) (h:Zq5 P f args bs ss v bs' ss')
  (hb:Zj pb=Zj bs:=by rfl) (hs:Zj ps=Zj ss:=by rfl) (hpb:Zl6 B pb=true:=by rfl) (hps:Zl6 Q ps=true:=by rfl) (hp:Z01 ss=true:=by first | rfl | simp [go_sem]) (hp':Z01 ss'=true:=by first | rfl | simp [go_sem]):
  Zq5 P f (rnFL pb ps B Q args) (spr (Zk6 B) pb (Zj6 pb ps B Q bs)) (spr (Zk6 Q) ps ss) (v.rnF pb ps B Q) (spr (Zk6 B) pb (Zj6 pb ps B Q bs')) (spr (Zk6 Q) ps ss'):=by
 rw [Za1,Za1] at hb hs
 obtain ⟨f1,f2,f3⟩:=h
 have lb:(spr (Zk6 B) pb (Zj6 pb ps B Q bs)).length=B:=by rw [Zr6 _ _ _ (by rw [Zu6,hb]),Zo6]
 have ls:(spr (Zk6 Q) ps ss).length=Q:=by rw [Zr6 _ _ _ hs,Zo6]
 have lb':(spr (Zk6 B) pb (Zj6 pb ps B Q bs')).length=B+(bs'.length-pb.length):=by rw [Zq6 _ _ _ (by rw [Zu6];omega),Zo6,Zu6]
 have ls':(spr (Zk6 Q) ps ss').length=Q+(ss'.length-ps.length):=by rw [Zq6 _ _ _ (by omega),Zo6]
 have gb:∀ {l:List (Option Blk)} {j:Nat} {x:Blk},pb.length≤l.length→Zf (spr (Zk6 B) pb (Zj6 pb ps B Q l)) j=some x→∃i y,rnm pb B i=j∧Zf l i=some y∧x=⟨y.T,rnFL pb ps B Q y.cells⟩:=by
  intro l j x hl hj
  rcases spr_get (by rw [Zu6];exact hl) hj with h | ⟨i,h1,h2⟩
  ·rw [Zp6] at h;simp at h
  ·obtain ⟨y,h3,h4⟩:=Zv6.1 h2
   rw [Zo6] at h1
   exact ⟨i,y,h1,h3,h4⟩
 have gs:∀ {l:List (Option Sl)} {j:Nat} {x:Sl},ps.length≤l.length→Zf (spr (Zk6 Q) ps l) j=some x→∃i,rnm ps Q i=j∧Zf l i=some x:=by
  intro l j x hl hj
  rcases spr_get hl hj with h | ⟨i,h1,h2⟩
  ·rw [Zp6] at h;simp at h
  ·rw [Zo6] at h1;exact ⟨i,h1,h2⟩
 have pB:∀ {l:List (Option Blk)} {i:Nat} {y:Blk},Zf l i=some y→Zf (spr (Zk6 B) pb (Zj6 pb ps B Q l)) (rnm pb B i)=some ⟨y.T,rnFL pb ps B Q y.cells⟩:=by
  intro l i y hy
  have:=spr_put (l:=Zk6 B) (p:=pb) (r:=Zj6 pb ps B Q l) (i:=i) (x:=⟨y.T,rnFL pb ps B Q y.cells⟩) (by rw [Zo6];exact hpb) (Zv6.2 ⟨y,hy,rfl⟩)
  rwa [Zo6] at this
 have pS:∀ {l:List (Option Sl)} {i:Nat} {y:Sl},Zf l i=some y→Zf (spr (Zk6 Q) ps l) (rnm ps Q i)=some y:=by
  intro l i y hy
  have:=spr_put (l:=Zk6 Q) (p:=ps) (r:=l) (i:=i) (x:=y) (by rw [Zo6];exact hps) hy
  rwa [Zo6] at this
 refine ⟨by rw [lb,lb'];omega,by rw [ls,ls'];omega,fun M w vs hS ha=>?_⟩
 have hnb:M.nb=B:=by rw [hS.nb,lb]
 have hns:M.ns=Q:=by rw [hS.ns,ls]
 subst hnb;subst hns
 have h6:∀k,Zp5 M (spr (Zk6 M.nb) pb (Zj6 pb ps M.nb M.ns bs)) (spr (Zk6 M.ns) ps ss) k↔Zp5 (M.inn pb ps) bs ss k:=by
  intro k
  constructor
  ·rintro (⟨j,x,hj,e⟩ | ⟨j,x,hj,e⟩)
   ·obtain ⟨i,y,h1,h2,_⟩:=gb (by omega) hj
    exact .inl ⟨i,y,h2,by rw [←e,←h1];rfl⟩
   ·obtain ⟨i,h1,h2⟩:=gs (by omega) hj
    exact .inr ⟨i,x,h2,by rw [←e,←h1];rfl⟩
  ·rintro (⟨i,y,hi,e⟩ | ⟨i,y,hi,e⟩)
   ·exact .inl ⟨_,_,pB hi,e⟩
   ·exact .inr ⟨_,_,pS hi,e⟩
 have h8:RelS (Ctx.lent P w (M.inn pb ps) bs ss bs.length ss.length) (M.inn pb ps) bs ss w:=by
  refine ⟨hb,hs,?_,rfl,rfl,rfl,Nat.le_refl _,fun _ _ _=>rfl,hS.hle,fun _ _ _=>rfl,?_,?_,?_,?_,?_,⟨Nat.le_of_eq hb.symm,fun _ _=>rfl,Nat.le_of_eq hs.symm,fun _ _=>rfl,hS.pin.gl⟩⟩
  ·intro i hi
   exact hS.so _ (nodB_lt hps _ (Zm6 hi))
  ·intro i y hy
   obtain ⟨g1,g2,us,g3,g4,g5⟩:=hS.blk _ _ (pB hy)
   exact ⟨.inr (.inl ⟨i,y,hy,rfl⟩),g2,us,Zs6 hpb hps _ _ g3,g4,g5⟩
  ·intro i y hy
   obtain ⟨g0,vss,q1,q2,q3,q4⟩:=hS.slc _ _ (pS hy)
   exact ⟨g0,vss,Zw6 (M:=M.sl) (M':=(M.inn pb ps).sl) rfl (Zx6 hp hy) q1,q2,q3,fun g hg=>⟨.inr (.inr ⟨i,y,hy,hg⟩),(q4 g hg).2⟩⟩
  ·intro i j x y hi hj e
   exact rnm_inj hpb (hS.d1 _ _ _ _ (pB hi) (pB hj) e)
  ·intro i j x y hi hj
   exact hS.d2 _ _ _ _ (pB hi) (pS hj)
  ·intro i j x y g hi hj e1 e2
   exact rnm_inj hps (hS.d3 _ _ _ _ g (pS hi) (pS hj) e1 e2)
 refine (f3 (M.inn pb ps) w vs h8 (Zs6 hpb hps _ _ ha)).mono ?_
 rintro e w' ⟨u,M',rfl,hR,hu⟩
 have hρ:∀j,j<pb.length→M'.ρ j=(M.inn pb ps).ρ j:=fun j hj=>hR.pin.ρ j (by show j<bs.length;omega)
 have hσ:∀j,j<ps.length→M'.σ j=(M.inn pb ps).σ j:=fun j hj=>hR.pin.σ j (by show j<ss.length;omega)
 have ob:∀ {j:Nat},j<M'.nb→rnm pb M.nb j<(M.out M' pb ps).nb∧(M.out M' pb ps).ρ (rnm pb M.nb j)=M'.ρ j:=fun hj=>out_ρ hpb hρ (by rw [hR.nb];omega) hj
 have os:∀ {j:Nat},j<M'.ns→rnm ps M.ns j<(M.out M' pb ps).ns∧(M.out M' pb ps).σ (rnm ps M.ns j)=M'.σ j:=fun hj=>out_σ hps hσ (by rw [hR.ns];omega) hj
 have hm:∀g,Mine (Ctx.lent P w (M.inn pb ps) bs ss bs.length ss.length) g→Mine (Ctx.lent P w M (spr (Zk6 M.nb) pb (Zj6 pb ps M.nb M.ns bs)) (spr (Zk6 M.ns) ps ss) (spr (Zk6 M.nb) pb (Zj6 pb ps M.nb M.ns bs)).length (spr (Zk6 M.ns) ps ss).length) g:=fun g hg=>hg.imp id (h6 g).2
 refine ⟨u,M.out M' pb ps,rfl,?_,rnF_out ob os v u hu⟩
 refine ⟨?_,?_,?_,hR.os,hR.tape,hR.output,hR.size,fun k hk hn=>hR.block k hk fun e=>hn ((h6 k).2 e),hR.hle,fun k hk hn=>hR.hold k hk fun e=>hn ((h6 k).2 e),?_,?_,?_,?_,?_,?_⟩
 ·show M.nb+(M'.nb-pb.length)=_
  rw [lb',hR.nb]
 ·show M.ns+(M'.ns-ps.length)=_
  rw [ls',hR.ns]
 ·intro j hj
  simp only [Mem.out] at hj ⊢
  split
  ·rename_i h;exact hS.so j h
  ·exact hR.so _ (by have:=hR.ns;omega)
 ·intro j x hj
  obtain ⟨i,y,h1,h2,rfl⟩:=gb (by omega) hj
  subst h1
  obtain ⟨g1,g2,us,g3,g4,g5⟩:=hR.blk i y h2
  have hi:i<M'.nb:=by rw [hR.nb];exact Zg1 h2
  rw [(ob hi).2]
  exact ⟨hm _ g1,g2,us,Zt6 ob os _ _ g3,g4,g5⟩
 ·intro j x hj
  obtain ⟨i,h1,h2⟩:=gs (by omega) hj
  subst h1
  obtain ⟨g0,vss,q1,q2,q3,q4⟩:=hR.slc i x h2
  have hi:i<M'.ns:=by rw [hR.ns];exact Zg1 h2
  rw [(os hi).2]
  exact ⟨g0,vss,Zw6 (M:=M'.sl) (M':=(M.out M' pb ps).sl) rfl (Zx6 hp' h2) q1,q2,q3,fun g hg=>⟨hm _ (q4 g hg).1,(q4 g hg).2⟩⟩
 ·intro i j x y hi hj e
  obtain ⟨i',x',h1,h2,_⟩:=gb (by omega) hi
  obtain ⟨j',y',k1,k2,_⟩:=gb (by omega) hj
  subst h1;subst k1
  rw [(ob (by rw [hR.nb];exact Zg1 h2)).2,(ob (by rw [hR.nb];exact Zg1 k2)).2] at e
  rw [hR.d1 _ _ _ _ h2 k2 e]
 ·intro i j x y hi hj
  obtain ⟨i',x',h1,h2,_⟩:=gb (by omega) hi
  obtain ⟨j',k1,k2⟩:=gs (by omega) hj
  subst h1;subst k1
  rw [(ob (by rw [hR.nb];exact Zg1 h2)).2,(os (by rw [hR.ns];exact Zg1 k2)).2]
  exact hR.d2 _ _ _ _ h2 k2
 ·intro i j x y g hi hj e1 e2
  obtain ⟨i',h1,h2⟩:=gs (by omega) hi
  obtain ⟨j',k1,k2⟩:=gs (by omega) hj
  subst h1;subst k1
  rw [(os (by rw [hR.ns];exact Zg1 h2)).2] at e1
  rw [(os (by rw [hR.ns];exact Zg1 k2)).2] at e2
  rw [hR.d3 _ _ _ _ g h2 k2 e1 e2]
 ·refine ⟨by rw [lb];exact Nat.le_add_right _ _,fun j hj=>?_,by rw [ls];exact Nat.le_add_right _ _,fun j hj=>?_,hR.pin.gl⟩
  ·have hj:j<M.nb:=by rw [←lb];exact hj
   simp only [Mem.out];rw [if_pos hj];rfl
  ·have hj:j<M.ns:=by rw [←ls];exact hj
   simp only [Mem.out];rw [if_pos hj];rfl
end NX
end Go.Proofs.YtdjkbodnjhgbcaaGreat
/-
  The program's data. No statement of the seat is proved here.
-/
namespace Go.Proofs.YtdjkbodnjhgbcaaGreat
namespace NX
open Go
structure Side where
 Peer:Int
 Epoch:Int
 State:Int
 Fork:Bool
 DY:Bool
 Token:Bool
 BO:Bool
 Ask:Bool
 deriving DecidableEq,Inhabited
def Side.row (x:Side):List AV:=[.iv x.Peer,.iv x.Epoch,.iv x.State,.bv x.Fork,.bv x.DY,.bv x.Token,.bv x.BO,.bv x.Ask]
attribute [go_sem] Side.row
structure DI where
 ID:Int
 PH:Int
 SD:(List Side)
 deriving DecidableEq,Inhabited
def DI.row (x:DI):List AV:=[.iv x.ID,.iv x.PH,.sl 8 (List.map Side.row x.SD)]
attribute [go_sem] DI.row
structure DK where
 DI:DI
 TH:Int
 Need:(List Int)
 deriving DecidableEq,Inhabited
def DK.row (x:DK):List AV:=[.iv x.DI.ID,.iv x.DI.PH,.sl 8 (List.map Side.row x.DI.SD),.iv x.TH,.sl 1 (List.map Z05 x.Need)]
attribute [go_sem] DK.row
structure Sess where
 ID:Int
 Need:(List Int)
 State:Int
 Age:Int
 deriving DecidableEq,Inhabited
def Sess.row (x:Sess):List AV:=[.iv x.ID,.sl 1 (List.map Z05 x.Need),.iv x.State,.iv x.Age]
attribute [go_sem] Sess.row
structure Book where
 Last:Int
 Sess:(List Sess)
 deriving DecidableEq,Inhabited
def Book.row (x:Book):List AV:=[.iv x.Last,.sl 4 (List.map Sess.row x.Sess)]
attribute [go_sem] Book.row
structure KE where
 Peer:Int
 Epoch:Int
 deriving DecidableEq,Inhabited
def KE.row (x:KE):List AV:=[.iv x.Peer,.iv x.Epoch]
attribute [go_sem] KE.row
structure Node where
 DK:DK
 Book:Book
 KN:(List KE)
 Told:(List Int)
 AK:(List KE)
 deriving DecidableEq,Inhabited
def Node.row (x:Node):List AV:=[.iv x.DK.DI.ID,.iv x.DK.DI.PH,.sl 8 (List.map Side.row x.DK.DI.SD),.iv x.DK.TH,.sl 1 (List.map Z05 x.DK.Need),.iv x.Book.Last,.sl 4 (List.map Sess.row x.Book.Sess),.sl 2 (List.map KE.row x.KN),.sl 1 (List.map Z05 x.Told),.sl 2 (List.map KE.row x.AK)]
attribute [go_sem] Node.row
structure Msg where
 Kind:Int
 Epoch:Int
 Num:Int
 deriving DecidableEq,Inhabited
def Msg.row (x:Msg):List AV:=[.iv x.Kind,.iv x.Epoch,.iv x.Num]
attribute [go_sem] Msg.row
structure Mail where
 From:Int
 To:Int
 Msg:Msg
 deriving DecidableEq,Inhabited
def Mail.row (x:Mail):List AV:=[.iv x.From,.iv x.To,.iv x.Msg.Kind,.iv x.Msg.Epoch,.iv x.Msg.Num]
attribute [go_sem] Mail.row
structure Event where
 Kind:Int
 Node:Int
 ID:Int
 Peer:Int
 Need:(List Int)
 deriving DecidableEq,Inhabited
def Event.row (x:Event):List AV:=[.iv x.Kind,.iv x.Node,.iv x.ID,.iv x.Peer,.sl 1 (List.map Z05 x.Need)]
attribute [go_sem] Event.row
structure node_node where
 Node:Node
 out:(List Mail)
 seen:(List Event)
 e:Int
 deriving DecidableEq,Inhabited
def node_node.row (x:node_node):List AV:=[.iv x.Node.DK.DI.ID,.iv x.Node.DK.DI.PH,.sl 8 (List.map Side.row x.Node.DK.DI.SD),.iv x.Node.DK.TH,.sl 1 (List.map Z05 x.Node.DK.Need),.iv x.Node.Book.Last,.sl 4 (List.map Sess.row x.Node.Book.Sess),.sl 2 (List.map KE.row x.Node.KN),.sl 1 (List.map Z05 x.Node.Told),.sl 2 (List.map KE.row x.Node.AK),.sl 5 (List.map Mail.row x.out),.sl 5 (List.map Event.row x.seen),.iv x.e]
attribute [go_sem] node_node.row
structure drink_drinker where
 DK:DK
 out:(List Mail)
 deriving DecidableEq,Inhabited
def drink_drinker.row (x:drink_drinker):List AV:=[.iv x.DK.DI.ID,.iv x.DK.DI.PH,.sl 8 (List.map Side.row x.DK.DI.SD),.iv x.DK.TH,.sl 1 (List.map Z05 x.DK.Need),.sl 5 (List.map Mail.row x.out)]
attribute [go_sem] drink_drinker.row
structure Do where
 Kind:Int
 ID:Int
 Peer:Int
 Hold:Int
 Need:(List Int)
 deriving DecidableEq,Inhabited
def Do.row (x:Do):List AV:=[.iv x.Kind,.iv x.ID,.iv x.Peer,.iv x.Hold,.sl 1 (List.map Z05 x.Need)]
attribute [go_sem] Do.row
attribute [go_sem_proc] Int.reduceOfNat Int.reduceNegSucc
def opsZ:Op→List Operand
 | .call c | .go c | .defer c=>(match c.callee with | .value f=>[f] | .invoke r _=>[r] | .builtin _=>[])++c.args.toList
 | .makeFunc _ a b=>a.toList++b.toList
 | .slice _ x l h m=>x::(l.toList++h.toList++m.toList)
 | .select _ _=>[]
 | o=>o.operands.toList
def looksZ (ops:List Oper) (o:Oper):List Nat:=
 (opsZ o.op).filterMap (fun x=>match x with | .tmp t=>some t | _=>none)++(match o.guard with | some (g,_)=>(match ops[g]? with | some x=>x.dst.toList | none=>[]) | none=>[])
def apartZ (ops:List Oper) (x y:Oper):Bool:=
 (match x.dst with | some d=>!memL d (looksZ ops y)&&(match y.dst with | some e=>!(e==d) | none=>true) | none=>true)&&(match y.dst with | some d=>!memL d (looksZ ops x) | none=>true)
def iotaZ:Nat→List Nat→List Nat
 | 0,l=>l
 | n+1,l=>iotaZ n (n::l)
def cNapZ (ops:List Oper):List (List Nat):=
 (iotaZ ops.length []).map fun i=>(iotaZ ops.length []).filter fun j=>match ops[i]?,ops[j]? with
   | some x,some y=>!(i==j)&&!(apartZ ops x y)
   | _,_=>false
def cZ (P:Program):Code→Option EC
 | .skip=>some .skip
 | .region _ ops draw=>match ops.toList.mapM (Za P ops) with
   | some l=>match draw with
     | true=>some (.drw l (Zb ops) (cNapZ ops.toList))
     | false=>some (.reg l)
   | none=>none
 | .seq a b=>match cZ P a,cZ P b with | some x,some y=>some (.seq x y) | _,_=>none
 | .cond c a b=>match cZ P a,cZ P b with | some x,some y=>some (.ite (cX c) x y) | _,_=>none
 | .block id a=>(cZ P a).map (.blk id)
 | .loop a=>(cZ P a).map .loop
 | .exit id=>some (.exit id)
 | .scope a=>(cZ P a).map .scope
 | .label l=>some (.label l)
 | .goto l=>some (.goto l)
 | .ret=>some .ret
 | _=>some .bad
def cF (P:Program) (f:Func):Option EC:=match f.body with | some c=>cZ P c | none=>none
theorem okA {P:Program} {f:Nat} {fn:Func} {body:EC} {rs:List ERes} {np nt:Nat} {x:Code} (h:P.funcs[f]?=some fn:=by kernel_rfl) (hb:fn.body=some x:=by exact rfl) (hc:cC P x=some body:=by kernel_rfl) (r:cRes P fn.results.toList=some rs:=by kernel_rfl) (t:fn.ntmps=np+nt:=by kernel_rfl):FnOK P f fn body rs np nt:=⟨h,⟨x,hb,hc⟩,r,t⟩
theorem hF (f:Func):cF Tryz.prog f=cF Tryz.prog f:=rfl
abbrev DP (f:Func):= {x:EC // cF Tryz.prog f=some x}
abbrev HA (c:Ctx) (all:Array Oper) (ops:List EOp) (af nap:List (List Nat)):Prop:=all.toList.mapM (Za c.P all)=some ops∧Region.noSelect all=true∧af=Zb all∧nap=Zc all
section
variable {c:Ctx} {all:Array Oper} {ops:List EOp} {af nap:List (List Nat)} {Φ:St→Prop} {m:Nat} {ld:List Bool} {S:St}
theorem GE (h6:all.toList.mapM (Za c.P all)=some ops) (i:Nat) {v:AV} {S1:St} {q:Prop} (h:G c all ops af Φ m (Z41 ld i) (S1.put (Z71 ops i).d v)) (hr:rdy ld af 0=[i]:=by exact rfl) (he:geO S (Z71 ops i)=some (v,S1,q):=by exact rfl) (hq:q:=by trivial):G c all ops af Φ (m+1) ld S:=Z64 i hr (GO_ev h6 he hq h)
theorem GV (h6:all.toList.mapM (Za c.P all)=some ops) {i:Nat} {v:AV} {S1:St} {q:Prop} (h:G c all ops af Φ m (Z41 ld i) (S1.put (Z71 ops i).d v)) (he:geO S (Z71 ops i)=some (v,S1,q):=by exact rfl) (hq:q:=by trivial):GO c all ops af Φ m ld S i:=GO_ev h6 he hq h
theorem GD (h:Φ S) (hr:rdy ld af 0=[]:=by exact rfl):G c all ops af Φ m ld S:=G_done hr h m
theorem GN (H:HA c all ops af nap) (m r:Nat) (h:(grun ops af nap m ld S True).2.2.2∧G c all ops af Φ ((grun ops af nap m ld S True).1+r) (grun ops af nap m ld S True).2.1 (grun ops af nap m ld S True).2.2.1):G c all ops af Φ (m+r) ld S:=G_goN H.1 H.2.1 H.2.2.1 H.2.2.2 m r h
theorem GP (H:HA c all ops af nap) (m r:Nat) (b:List Nat) (u:List (Nat×List AV)) (h:G c all ops af Φ r (rl b) ⟨pt u S.tm,S.bs,S.ss⟩) (he:grun ops af nap m ld S True=(0,rl b,⟨pt u S.tm,S.bs,S.ss⟩,tN m):=by kernel_rfl):G c all ops af Φ (m+r) ld S:=G_goP H.1 H.2.1 H.2.2.1 H.2.2.2 m r b u he h
theorem GA {α:Type} {b:Nat} {l' m' v:List α} (f:α→List AV) (hv:Zj4 b l' m'=some v) (h6:all.toList.mapM (Za c.P all)=some ops) {i e n j:Nat} {x y:X} (h:G c all ops af Φ m (Z41 ld i) ((S.app j ⟨e,n,v.map f⟩).put (Z71 ops i).d (.osl (Zj S.ss)))) (ho:(Z71 ops i).o = .app e n b x y:=by exact rfl) (hg:gm S (Z71 ops i).g:=by trivial)
 (hx:S.x x = .osl j:=by exact rfl) (hj:Zf S.ss j=some ⟨e,n,l'.map f⟩:=by exact rfl) (hy:Z31 S n (S.x y)=some (m'.map f):=by exact rfl):GO c all ops af Φ m ld S i:=GO_appM f hv h6 ho hg hx hj hy h
theorem GL (h6:all.toList.mapM (Za c.P all)=some ops) {i:Nat} {α:Type} {l':List α} {z:Int} {y:α} {j T n off:Nat} {x:X} {v:AV} (f:α→List AV) (hv:at_ l' z=some y) (h:G c all ops af Φ m (Z41 ld i) (S.put (Z71 ops i).d v)) (ho:(Z71 ops i).o = .load x:=by exact rfl) (hg:gm S (Z71 ops i).g:=by trivial) (hx:S.x x = .oel j (z.toNat*n) off:=by exact rfl) (hj:Zf S.ss j=some ⟨T,n,l'.map f⟩:=by exact rfl)
 (hl:Zh (f y) off 1=some [v]:=by exact rfl):GO c all ops af Φ m ld S i:=GO_loadO h6 f hv ho hg hx hj hl h
theorem GI (h6:all.toList.mapM (Za c.P all)=some ops) {i:Nat} {α:Type} {l':List α} {z:Int} {v:α} {T n j:Nat} {x y:X} (f:α→List AV) (hv:at_ l' z=some v) (h:G c all ops af Φ m (Z41 ld i) (S.put (Z71 ops i).d (.oel j (z.toNat*n) 0))) (ho:(Z71 ops i).o = .idx n x y:=by exact rfl) (hg:gm S (Z71 ops i).g:=by trivial) (hx:S.x x = .osl j:=by exact rfl) (hi:S.x y = .iv z:=by exact rfl) (hj:Zf S.ss j=some ⟨T,n,l'.map f⟩:=by exact rfl):GO c all ops af Φ m ld S i:=GO_idxOM h6 f hv ho hg hx hi hj h
end
section
variable {c:Ctx} {S:St} {fn:Func} {K:AV→List (Option Blk)→List (Option Sl)→Prop} {k:List It} {β:Type}
theorem Zz6 {ops:List EOp} {af nap:List (List Nat)} (h:∀all,HA c all ops af nap→G c all ops af (fun S'=>V c fn K k S') (Zj ops) (Zu3 (Zj ops)) S) (hm:c.P.follows .mixedOrders=true:=by kernel_rfl):V c fn K (.code (.drw ops af nap)::k) S:=
 V_drw hm fun all h6 hs h8 h9=>h all ⟨h6,hs,h9,h8⟩
@[go_sem] def renZ (S:St) (p q:Nat):St:=match Zf S.ss p with | some L=>S.renS p q L | none=>S
theorem Z07 (p q:Nat) (h:V c fn K k (renZ S p q)) (hp:(Zf S.ss p).isSome=true:=by exact rfl) (hq:Z3 (q+1) (Zj S.ss)=true:=by exact rfl) (h6:(p==q)=false:=by exact rfl) (hqn:Z3 c.nq q=true:=by rfl) (h8:Z01 S.ss=true:=by first | rfl | simp [go_sem]):V c fn K k S:=by
 cases hL:Zf S.ss p with
 | none=>rw [hL] at hp;simp at hp
 | some L=>
   unfold renZ at h
   rw [hL] at h
   exact V_ren p q hL hq h6 h hqn h8
theorem Z17 (j:Nat) {L:Sl} (h:V c fn K k (S.sealS j L)) (hj:Zf S.ss j=some L:=by exact rfl) (h6:Zz L.rows=true:=by first | rfl | simp [go_sem]):V c fn K k S:=V_seal j hj h h6
theorem Z27 (j o T n:Nat) {B:Blk} (h:V c fn K k ⟨S.tm,Zg S.bs j (some ⟨B.T,Ze B.cells o (.osl (Zj S.ss))⟩),S.ss++[some ⟨T,n,[]⟩]⟩) (hj:Zf S.bs j=some B:=by exact rfl) (ho:Zd B.cells o = .nl:=by exact rfl) (hn:Z3 1 n=true:=by exact rfl):V c fn K k S:=V_ownB j o T n hj ho hn h
theorem Z37 (T n:Nat) (h:V c fn K k ⟨S.tm,S.bs,S.ss++[some ⟨T,n,[]⟩]⟩) (hn:Z3 1 n=true:=by exact rfl):V c fn K k S:=V_new T n hn h
theorem MI {o:X} {a b:EC} {e:Bool} {A B:Option β} {r:β} (h:ifb e A B=some r) (h1:A=some r→V c fn K (.code a::k) S) (h2:B=some r→V c fn K (.code b::k) S) (hx:S.x o = .bv e:=by exact rfl):V c fn K (.code (.ite o a b)::k) S:=M_ite h hx (fun _=>h1) fun _=>h2
theorem MC (t:Nat) {e:Bool} {A B:Option β} {r:β} (h:ifb e A B=some r) (h1:A=some r→V c fn K k ⟨Ze S.tm t .tt,S.bs,S.ss⟩) (h2:B=some r→V c fn K k ⟨Ze S.tm t .ff,S.bs,S.ss⟩) (ht:Zd S.tm t = .bv e:=by exact rfl):V c fn K k S:=M_case t h ht (fun _=>h1) fun _=>h2
theorem Z47 {f:Nat} {fn:Func} {body:EC} {rs:List ERes} {np nt:Nat} {x v:AV} {bs':List (Option Blk)} {ss':List (Option Sl)} (ok:FnOK c.P f fn body rs np nt) (h:resV S rs=some x:=by exact rfl) (hle:St.le ⟨[x],S.bs,S.ss⟩ ⟨[v],bs',ss'⟩:=by simp [go_sem]):V c fn (fun x b s=>St.le ⟨[x],b,s⟩ ⟨[v],bs',ss'⟩) (.code .ret::k) S:=T_done ok h hle
theorem Z57 {f:Nat} {fn:Func} {body:EC} {rs:List ERes} {np nt:Nat} {x v:AV} {bs':List (Option Blk)} {ss':List (Option Sl)} (ok:FnOK c.P f fn body rs np nt) (h:resV S rs=some x:=by exact rfl) (hle:St.le ⟨[x],S.bs,S.ss⟩ ⟨[v],bs',ss'⟩:=by simp [go_sem]):V c fn (fun x b s=>St.le ⟨[x],b,s⟩ ⟨[v],bs',ss'⟩) [] S:=T_stop ok h hle
end
theorem FT {P:Program} {f:Nat} {fn:Func} {body:EC} {rs:List ERes} {np nt:Nat} (hf:FnOK P f fn body rs np nt) {args:List AV} {bs bs':List (Option Blk)} {ss ss':List (Option Sl)} {v:AV}
 (h:∀w M,V (Ctx.lent P w M bs ss (Zj bs) (Zj ss)) fn (fun x b s=>St.le ⟨[x],b,s⟩ ⟨[v],bs',ss'⟩) [.code body] ⟨args++lun nt,bs,ss⟩) (hn:args.length=np:=by exact rfl) (h1:Z3 (Zj bs) (Zj bs')=true:=by exact rfl) (h2:Z3 (Zj ss) (Zj ss')=true:=by exact rfl) (h3:St.ok ⟨[v],bs',ss'⟩=true:=by first | rfl | simp [go_sem]):Zq5 P f args bs ss v bs' ss':=FunT_intro hf hn h1 h2 h3 h
theorem FP {P:Program} {f:Nat} {fn:Func} {body:EC} {rs:List ERes} {np nt:Nat} (hf:FnOK P f fn body rs np nt) {args:List AV} {res:AV} (h:∀w0 H0,V (Ctx.of P w0 H0) fn (fun x _ _=>x.le res) [.code body] (St.init args nt)) (hn:args.length=np:=by exact rfl) (hp:res.pu=true:=by exact rfl):Z03 P f args res:=FunP_intro hf hn hp h
@[go_sem] def mkm (l:List Nat):Nat→Nat→List Bool
  | 0,_=>[]
  | n+1,i=>memL i l::mkm l n (i+1)
attribute [go_sem] memL
section
variable {c:Ctx} {S:St} {fn:Func} {K:AV→List (Option Blk)→List (Option Sl)→Prop} {k:List It}
theorem Z67 {d:Option Nat} {g:Option (Nat×Bool)} {l:List EOp} {f:Nat} {xs:List X} {args:List AV} {v:AV} {bs bs':List (Option Blk)} {ss ss':List (Option Sl)} (pb ps:List Nat) (B Q:Nat) (h0:Zq5 c.P f args bs ss v bs' ss')
  (h:V c fn K (.ops l::k) ((⟨S.tm,mrg (mkm pb B 0) S.bs (spr (Zk6 B) pb (Zj6 pb ps B Q bs')),mrg (mkm ps Q 0) S.ss (spr (Zk6 Q) ps ss')⟩:St).put d (v.rnF pb ps B Q))) (hb:Zj pb=Zj bs:=by rfl) (hs:Zj ps=Zj ss:=by rfl) (hpb:Zl6 B pb=true:=by rfl) (hps:Zl6 Q ps=true:=by rfl) (hp:Z01 ss=true:=by first | rfl | simp [go_sem]) (hp':Z01 ss'=true:=by first | rfl | simp [go_sem])
  (h6:msk (mkm pb B 0) S.bs=spr (Zk6 B) pb (Zj6 pb ps B Q bs):=by rfl) (h8:msk (mkm ps Q 0) S.ss=spr (Zk6 Q) ps ss:=by rfl) (ha:AV.le.leL (Zq S xs) (rnFL pb ps B Q args):=by first | exact Zi4 _ | simp [go_sem]) (hg:gm S g:=by trivial):V c fn K (.ops (⟨d,g,.call f xs⟩::l)::k) S:=
 Zs5 (mkm pb B 0) (mkm ps Q 0) hg (Zy6 pb ps B Q h0 hb hs hpb hps hp hp') h6 h8 ha h
end
section
variable {c:Ctx} {all:Array Oper} {ops:List EOp} {af:List (List Nat)} {Φ:St→Prop} {m':Nat} {ld:List Bool} {S:St}
theorem Z77 (h6:all.toList.mapM (Za c.P all)=some ops) {i f:Nat} {xs:List X} {args:List AV} {v:AV} {bs bs':List (Option Blk)} {ss ss':List (Option Sl)} (pb ps:List Nat) (B Q:Nat) (h0:Zq5 c.P f args bs ss v bs' ss')
  (h:G c all ops af Φ m' (Z41 ld i) ((⟨S.tm,S.bs,mrg (mkm ps Q 0) S.ss (spr (Zk6 Q) ps ss')⟩:St).put (Z71 ops i).d (v.rnF pb ps B Q))) (hb:Zj pb=Zj bs:=by rfl) (hs:Zj ps=Zj ss:=by rfl) (hpb:Zl6 B pb=true:=by rfl) (hps:Zl6 Q ps=true:=by rfl) (hp:Z01 ss=true:=by first | rfl | simp [go_sem]) (hp':Z01 ss'=true:=by first | rfl | simp [go_sem]) (ho:(Z71 ops i).o = .call f xs:=by exact rfl) (hg:gm S (Z71 ops i).g:=by trivial)
  (h8:msk (mkm pb B 0) S.bs=spr (Zk6 B) pb (Zj6 pb ps B Q bs):=by rfl) (h9:msk (mkm ps Q 0) S.ss=spr (Zk6 Q) ps ss:=by rfl) (hc:mrg (mkm pb B 0) S.bs (spr (Zk6 B) pb (Zj6 pb ps B Q bs'))=S.bs:=by rfl) (ha:AV.le.leL (Zq S xs) (rnFL pb ps B Q args):=by first | exact Zi4 _ | simp [go_sem]):GO c all ops af Φ m' ld S i:=
 GO_callT h6 (mkm pb B 0) (mkm ps Q 0) ho hg (Zy6 pb ps B Q h0 hb hs hpb hps hp hp') h8 h9 hc ha h
theorem Z87 (h6:all.toList.mapM (Za c.P all)=some ops) {i f:Nat} {xs:List X} {args:List AV} {v:AV} {bs bs':List (Option Blk)} {ss ss':List (Option Sl)} (pb ps:List Nat) (B Q:Nat) (h0:Zq5 c.P f args bs ss v bs' ss')
  (h:G c all ops af Φ m' (Z41 ld i) ((⟨S.tm,mrg (mkm pb B 0) S.bs (spr (Zk6 B) pb (Zj6 pb ps B Q bs')),mrg (mkm ps Q 0) S.ss (spr (Zk6 Q) ps ss')⟩:St).put (Z71 ops i).d (v.rnF pb ps B Q))) (h8:fixB af i ops 0=true:=by kernel_rfl) (hb:Zj pb=Zj bs:=by rfl) (hs:Zj ps=Zj ss:=by rfl) (hpb:Zl6 B pb=true:=by rfl) (hps:Zl6 Q ps=true:=by rfl) (hp:Z01 ss=true:=by first | rfl | simp [go_sem]) (hp':Z01 ss'=true:=by first | rfl | simp [go_sem]) (ho:(Z71 ops i).o = .call f xs:=by exact rfl) (hg:gm S (Z71 ops i).g:=by trivial)
  (h9:msk (mkm pb B 0) S.bs=spr (Zk6 B) pb (Zj6 pb ps B Q bs):=by rfl) (hc:msk (mkm ps Q 0) S.ss=spr (Zk6 Q) ps ss:=by rfl) (ha:AV.le.leL (Zq S xs) (rnFL pb ps B Q args):=by first | exact Zi4 _ | simp [go_sem]):GO c all ops af Φ m' ld S i:=
 GO_callTF h6 h8 (mkm pb B 0) (mkm ps Q 0) ho hg (Zy6 pb ps B Q h0 hb hs hpb hps hp hp') h9 hc ha h
end
section
variable {c:Ctx} {S S':St} {fn:Func} {K:AV→List (Option Blk)→List (Option Sl)→Prop} {k:List It}
theorem LR {S:St}:Lend S S:=Lend.refl S
theorem VC {d:Option Nat} {g:Option (Nat×Bool)} {f:Nat} {xs:List X} {l:List EOp} {args:List AV} {res:AV} (hf:Z03 c.P f args res) (h:V c fn K (.ops l::k) (S.put d res))
 (ha:AV.le.leL (Zq S xs) args:=by first | exact Zi4 _ | simp [go_sem]) (hp:Zo args=true:=by first | rfl | simp [go_sem]) (hg:gm S g:=by trivial):V c fn K (.ops (⟨d,g,.call f xs⟩::l)::k) S:=V_call hg hf ha hp h
theorem VL {d:Option Nat} {g:Option (Nat×Bool)} {f:Nat} {xs:List X} {l:List EOp} {args:List AV} {res:AV} (hs:Lend S S') (hf:Z03 c.P f args res) (h:V c fn K (.ops l::k) (S.put d res))
 (ha:AV.le.leL (Zq S' xs) args:=by first | exact Zi4 _ | simp [go_sem]) (hp:Zo args=true:=by first | rfl | simp [go_sem]) (h6:res.flat=true:=by rfl) (hg:gm S g:=by trivial):V c fn K (.ops (⟨d,g,.call f xs⟩::l)::k) S:=V_callL hg hs hf ha hp h6 h
end
section
variable {c:Ctx} {all:Array Oper} {ops:List EOp} {af:List (List Nat)} {Φ:St→Prop} {m:Nat} {ld:List Bool} {S S':St}
theorem GC (h6:all.toList.mapM (Za c.P all)=some ops) {i f:Nat} {xs:List X} {args:List AV} {res:AV} (hf:Z03 c.P f args res) (h:G c all ops af Φ m (Z41 ld i) (S.put (Z71 ops i).d res)) (ho:(Z71 ops i).o = .call f xs:=by exact rfl) (hg:gm S (Z71 ops i).g:=by trivial)
 (ha:AV.le.leL (Zq S xs) args:=by first | exact Zi4 _ | simp [go_sem]) (hp:Zo args=true:=by first | rfl | simp [go_sem]):GO c all ops af Φ m ld S i:=GO_call h6 ho hg hf ha hp h
theorem GK (h6:all.toList.mapM (Za c.P all)=some ops) {i f:Nat} {xs:List X} {args:List AV} {res:AV} (hs:Lend S S') (hf:Z03 c.P f args res) (h:G c all ops af Φ m (Z41 ld i) (S.put (Z71 ops i).d res)) (ho:(Z71 ops i).o = .call f xs:=by exact rfl) (hg:gm S (Z71 ops i).g:=by trivial)
 (ha:AV.le.leL (Zq S' xs) args:=by first | exact Zi4 _ | simp [go_sem]) (hp:Zo args=true:=by first | rfl | simp [go_sem]) (h8:res.flat=true:=by rfl):GO c all ops af Φ m ld S i:=GO_callL h6 ho hg hs hf ha hp h8 h
end
end NX
end Go.Proofs.YtdjkbodnjhgbcaaGreat
/-
  Runs whose end is told by simplifying it. No statement of the seat is proved here.
-/
namespace Go.Proofs.YtdjkbodnjhgbcaaGreat
namespace NX
open Go
section
variable {c:Ctx} {S S':St} {fn:Func} {K:AV→List (Option Blk)→List (Option Sl)→Prop} {k k':List It} {p:Prop}
theorem Vg (m:Nat) (h:V c fn K k' S') (he:run m k S True=(k',S',p):=by dsimp only[go_sem]<;>exact rfl) (hp:p:=by simp):V c fn K k S:=
 Zv2 m (by rw [he];exact ⟨hp,h⟩)
end
section
variable {c:Ctx} {all:Array Oper} {ops:List EOp} {af nap:List (List Nat)} {Φ:St→Prop} {m:Nat} {ld ld':List Bool} {S S':St} {p:Prop}
theorem Gn (H:HA c all ops af nap) (m r:Nat) (h:G c all ops af Φ r ld' S') (he:grun ops af nap m ld S True=(0,ld',S',p):=by dsimp only[go_sem]<;>exact rfl) (hp:p:=by simp):G c all ops af Φ (m+r) ld S:=
 GN H m r (by rw [he];exact ⟨hp,by simpa using h⟩)
end
theorem MD {P:Program} {w0:World} {H0:Frag} {f:Nat} {fn:Func} {body:EC} {rs:List ERes} {np nt:Nat} {β:Type} {e r:β} {T:AV} {S:St} {k:List It} (ok:FnOK P f fn body rs np nt) (h:some e=some r)
 (hl:e=r→leO (resV S rs) T:=by rintro rfl;first | exact le_refl _ | simp [go_sem]):V (Ctx.of P w0 H0) fn (fun x _ _=>x.le T) (.code .ret::k) S:=V_done ok (hl (Option.some.inj h))
end NX
end Go.Proofs.YtdjkbodnjhgbcaaGreat
/-
  Short names for what stands in memory. No statement of the seat is proved here.
-/
namespace Go.Proofs.YtdjkbodnjhgbcaaGreat
namespace NX
open Go
@[go_sem,reducible] def Sp0 (x:List Int):AV:=.sl 1 (List.map Z05 x)
@[go_sem,reducible] def Sp1 (x:List KE):AV:=.sl 2 (List.map KE.row x)
@[go_sem,reducible] def Sp2 (x:List Side):AV:=.sl 8 (List.map Side.row x)
@[go_sem,reducible] def Sp3 (x:List Sess):AV:=.sl 4 (List.map Sess.row x)
@[go_sem,reducible] def Sp4 (x:List Mail):AV:=.sl 5 (List.map Mail.row x)
@[go_sem,reducible] def Sp5 (x:List Event):AV:=.sl 5 (List.map Event.row x)
@[go_sem,reducible] def Sq6 (x:List Side):Option Sl:=some ⟨65,8,List.map Side.row x⟩
@[go_sem,reducible] def Sq7 (x:List Int):Option Sl:=some ⟨3,1,List.map Z05 x⟩
@[go_sem,reducible] def Sq8 (x:List KE):Option Sl:=some ⟨95,2,List.map KE.row x⟩
@[go_sem,reducible] def Sq9 (x:List Sess):Option Sl:=some ⟨60,4,List.map Sess.row x⟩
@[go_sem,reducible] def Z97 (x:List Event):Option Sl:=some ⟨57,5,List.map Event.row x⟩
@[go_sem,reducible] def Za7 (x:List Mail):Option Sl:=some ⟨74,5,List.map Mail.row x⟩
end NX
end Go.Proofs.YtdjkbodnjhgbcaaGreat
