/-
  The symbolic machine: a function that is lent own memory, whatever the names are by which its caller has it. No statement of the seat is proved here.
-/
import Derived.Test.YtgamgemlekpepaaGreatK17
namespace Go.Proofs.YtgamgemlekpepaaGreat
namespace NX
open Go Go.RowKit
def rnm:List Nat→Nat→Nat→Nat
 | [],B,i=>B+i
 | x::_,_,0=>x
 | _::l,B,i+1=>rnm l B i
mutual
def AV.rnF (pb ps:List Nat) (B Q:Nat):AV→AV
 | .ptr j off=>.ptr (rnm pb B j) off
 | .osl j=>.osl (rnm ps Q j)
 | .oel j i off=>.oel (rnm ps Q j) i off
 | .ocs j lo n m=>.ocs (rnm ps Q j) lo n m
 | .agg l=>.agg (Zii pb ps B Q l)
 | .tup l=>.tup (Zii pb ps B Q l)
 | .clo f l=>.clo f (Zii pb ps B Q l)
 | .any=>.any
 | .un=>.un
 | .tt=>.tt
 | .ff=>.ff
 | .bv e=>.bv e
 | .iv n=>.iv n
 | .kv k n=>.kv k n
 | .sv x=>.sv x
 | .nl=>.nl
 | .nlp=>.nlp
 | .fn f=>.fn f
 | .elt r o=>.elt r o
 | .sl n rows=>.sl n rows
def Zii (pb ps:List Nat) (B Q:Nat):List AV→List AV
 | []=>[]
 | x::l=>AV.rnF pb ps B Q x::Zii pb ps B Q l
end
def Zji (pb ps:List Nat) (B Q:Nat):List (Option Blk)→List (Option Blk)
 | []=>[]
 | none::l=>none::Zji pb ps B Q l
 | some b::l=>some ⟨b.T,Zii pb ps B Q b.cells⟩::Zji pb ps B Q l
def Zki {α:Type}:Nat→List (Option α)
 | 0=>[]
 | n+1=>none::Zki n
def spr {α:Type}:List (Option α)→List Nat→List (Option α)→List (Option α)
 | l,_,[]=>l
 | l,[],x::r=>l++x::r
 | l,k::p,x::r=>spr (Zq l k x) p r
def Zli (k:Nat):List Nat→Bool
 | []=>false
 | x::l=>match k==x with
   | true=>true
   | false=>Zli k l
def Zmi (B:Nat):List Nat→Bool
 | []=>true
 | x::l=>Z4 (Z5 (x+1) B) (match Zli x l with
   | true=>false
   | false=>Zmi B l)
attribute [go_sem] rnm AV.rnF Zii Zji Zki spr
theorem Zni (k:Nat):∀l,Zli k l=true↔k∈l
 | []=>by simp [Zli]
 | x::l=>by
   simp only [Zli];split
   ·rename_i h;simp at h;simp [h]
   ·rename_i h;simp at h;simp [h,Zni k l]
theorem Zoi {B:Nat}:∀ {l:List Nat},Zmi B l=true→∀x∈l,x<B
 | [],_,_,h=>by simp at h
 | x::l,h,y,hy=>by
   simp only [Zmi,Zz1,Z02] at h;rcases List.mem_cons.1 hy with rfl | hy
   ·exact h.1
   ·have:=h.2;split at this
    ·simp at this
    ·exact Zoi this y hy
theorem Zpi:∀ {p:List Nat} {B i:Nat},i<p.length→rnm p B i∈p
 | [],_,_,h=>by simp at h
 | x::l,_,0,_=>by simp [rnm]
 | x::l,B,i+1,h=>by simp only [rnm];exact List.mem_cons_of_mem _ (Zpi (by simpa using h))
theorem Zqi:∀ {p:List Nat} {B i:Nat},p.length≤i→rnm p B i=B+(i-p.length)
 | [],_,_,_=>by simp [rnm]
 | x::l,_,0,h=>by simp at h
 | x::l,B,i+1,h=>by simp only [rnm];rw [Zqi (by simpa using h)];simp
theorem Zri:∀ {p:List Nat} {B i j:Nat},Zmi B p=true→rnm p B i=rnm p B j→i=j
 | [],_,_,_,_,h=>by simp only [rnm] at h;omega
 | x::l,B,i,j,hn,h=>by
   have hn':=hn;simp only [Zmi,Zz1,Z02] at hn;obtain ⟨hx,h2⟩:=hn;split at h2
   ·simp at h2
   ·rename_i hm;have hm:x∉l:=fun h6=>by rw [(Zni x l).2 h6] at hm;simp at hm
    have key:∀i,rnm l B i≠x:=by
     intro i e;by_cases hi:i<l.length
     ·exact hm (e ▸ Zpi hi)
     ·rw [Zqi (by omega)] at e;omega
    cases i with
    | zero=>cases j with
      | zero=>rfl
      | succ j=>simp only [rnm] at h;exact absurd h.symm (key j)
    | succ i=>cases j with
      | zero=>simp only [rnm] at h;exact absurd h (key i)
      | succ j=>simp only [rnm] at h;rw [Zri h2 h]
theorem Zsi {α:Type}:∀n,(Zki n:List (Option α)).length=n
 | 0=>rfl
 | n+1=>by simp [Zki,Zsi n]
theorem Zti {α:Type}:∀n j,Zp (Zki n:List (Option α)) j=none
 | 0,j=>by simp [Zki,Zp]
 | n+1,0=>by simp [Zki,Zp]
 | n+1,j+1=>by simp [Zki,Zp,Zti n j]
theorem Zui {α:Type}:∀(l:List (Option α)) (p:List Nat) (r:List (Option α)),p.length≤r.length→(spr l p r).length=l.length+(r.length-p.length)
 | l,p,[],h=>by
   have:p.length=0:=by simpa using h
   simp [spr,this]
 | l,[],x::r,_=>by simp [spr]
 | l,k::p,x::r,h=>by simp only [spr];rw [Zui _ p r (by simpa using h),Z72];simp
theorem Zvi {α:Type}:∀(l:List (Option α)) (p:List Nat) (r:List (Option α)),p.length=r.length→(spr l p r).length=l.length:=by intro l p r h;rw [Zui l p r (by omega),h];simp
theorem Zwi {α:Type}:∀ {l:List (Option α)} {p:List Nat} {r:List (Option α)} {j:Nat} {x:α},p.length≤r.length→Zp (spr l p r) j=some x→
  Zp l j=some x∨∃i,rnm p l.length i=j∧Zp r i=some x
 | l,p,[],j,x,h,h1=>.inl (by simpa [spr] using h1)
 | l,[],y::r,j,x,_,h1=>by
   simp only [spr] at h1;have:∀(l:List (Option α)) (j:Nat),Zp (l++y::r) j=some x→Zp l j=some x∨∃i,l.length+i=j∧Zp (y::r) i=some x:=by
    intro l;induction l with
    | nil=>intro j h;exact .inr ⟨j,by simp,h⟩
    | cons z l ih=>
      intro j h;cases j with
      | zero=>exact .inl h
      | succ j=>
        rcases ih j h with h | ⟨i,h2,h3⟩
        ·exact .inl h
        ·exact .inr ⟨i,by simp;omega,h3⟩
   rcases this l j h1 with h | ⟨i,h2,h3⟩
   ·exact .inl h
   ·exact .inr ⟨i,by simpa [rnm] using h2,h3⟩
 | l,k::p,y::r,j,x,h,h1=>by
   simp only [spr] at h1;rcases Zwi (by simpa using h) h1 with h2 | ⟨i,h2,h3⟩
   ·rw [Z62] at h2;split at h2
    ·rename_i e;exact .inr ⟨0,by simp [rnm,e.1],by simpa [Zp] using h2⟩
    ·exact .inl h2
   ·rw [Z72] at h2;exact .inr ⟨i+1,by simpa [rnm] using h2,by simpa [Zp] using h3⟩
theorem Zxi {α:Type}:∀ {l:List (Option α)} {p:List Nat} {r:List (Option α)} {j:Nat},j<l.length→j∉p→Zp (spr l p r) j=Zp l j
 | l,p,[],j,_,_=>by simp [spr]
 | l,[],y::r,j,h,_=>by
   simp only [spr];have:∀(l:List (Option α)) (j:Nat),j<l.length→Zp (l++y::r) j=Zp l j:=by
    intro l;induction l with
    | nil=>intro j h;simp at h
    | cons z l ih=>intro j h;cases j with
      | zero=>rfl
      | succ j=>exact ih j (by simpa using h)
   exact this l j h
 | l,k::p,y::r,j,h,hn=>by simp only [spr];rw [Zxi (by rw [Z72];exact h) (fun e=>hn (List.mem_cons_of_mem _ e)),Z62,if_neg (fun e=>hn (by rw [e.1];simp))]
theorem Zyi {α:Type}:∀ {l:List (Option α)} {p:List Nat} {r:List (Option α)} {i:Nat} {x:α},Zmi l.length p=true→Zp r i=some x→Zp (spr l p r) (rnm p l.length i)=some x
 | l,p,[],i,x,_,h=>by simp [Zp] at h
 | l,[],y::r,i,x,_,h=>by
   simp only [spr,rnm];have:∀(l:List (Option α)) (i:Nat),Zp (l++y::r) (l.length+i)=Zp (y::r) i:=by
    intro l;induction l with
    | nil=>intro i;simp
    | cons z l ih=>intro i;rw [show (z::l).length+i=(l.length+i)+1 by simp;omega];simpa [Zp] using ih i
   rw [this];exact h
 | l,k::p,y::r,i,x,hn,h=>by
   have h8:=hn;simp only [Zmi,Zz1,Z02] at hn;obtain ⟨hk,h2⟩:=hn;split at h2
   ·simp at h2
   ·rename_i hm;have hm:k∉p:=fun h6=>by rw [(Zni k p).2 h6] at hm;simp at hm
    simp only [spr];cases i with
    | zero=>simp only [rnm];rw [Zxi (by rw [Z72];exact hk) hm,Z62,if_pos ⟨rfl,hk⟩];simpa [Zp] using h
    | succ i=>simp only [rnm];have:=Zyi (l:=Zq l k y) (p:=p) (r:=r) (i:=i) (x:=x) (by rw [Z72];exact h2) (by simpa [Zp] using h);rwa [Z72] at this
mutual
theorem Zzi (pb ps:List Nat) (B Q:Nat):∀(x:AV),x.pu=true→AV.rnF pb ps B Q x=x:=by
 intro x h;cases x<;>simp_all [AV.pu,AV.rnF]
 all_goals exact Z0j pb ps B Q _ h
theorem Z0j (pb ps:List Nat) (B Q:Nat):∀(l:List AV),puL l=true→Zii pb ps B Q l=l
 | [],_=>rfl
 | x::l,h=>by simp only [puL] at h;cases hx:x.pu<;>simp [hx,Z4] at h;simp [Zii,Zzi pb ps B Q x hx,Z0j pb ps B Q l h]
end
def Mem.inn (M:Mem) (pb ps:List Nat):Mem:=⟨fun i=>M.ρ (rnm pb M.nb i),fun i=>M.σ (rnm ps M.ns i),pb.length,ps.length,M.H⟩
mutual
theorem Z1j {M:Mem} {pb ps:List Nat} (hpb:Zmi M.nb pb=true) (hps:Zmi M.ns ps=true):∀(x:AV) (v:Value),(x.rnF pb ps M.nb M.ns).is M v→x.is (M.inn pb ps) v
 | .any,_,_=>trivial
 | .un,_,k=>k
 | .tt,_,k=>k
 | .ff,_,k=>k
 | .bv _,_,k=>k
 | .iv _,_,k=>k
 | .kv _ _,_,k=>k
 | .sv _,_,k=>k
 | .nl,_,k=>k
 | .nlp,_,k=>k
 | .fn _,_,k=>k
 | .ptr j off,_,k=>by
   refine ⟨?_,k.2⟩;have h1:rnm pb M.nb j<M.nb:=k.1;by_cases h:j<pb.length
   ·exact h
   ·rw [Zqi (by omega)] at h1;omega
 | .osl j,_,k=>by
   refine ⟨?_,k.2⟩;have h1:rnm ps M.ns j<M.ns:=k.1;by_cases h:j<ps.length
   ·exact h
   ·rw [Zqi (by omega)] at h1;omega
 | .oel j a off,_,k=>by
   refine ⟨?_,k.2⟩;have h1:rnm ps M.ns j<M.ns:=k.1;by_cases h:j<ps.length
   ·exact h
   ·rw [Zqi (by omega)] at h1;omega
 | .ocs j a n off,_,k=>by
   refine ⟨?_,k.2⟩;have h1:rnm ps M.ns j<M.ns:=k.1;by_cases h:j<ps.length
   ·exact h
   ·rw [Zqi (by omega)] at h1;omega
 | .elt row off,_,k=>k
 | .sl n rows,_,k=>k
 | .agg l,_,⟨vs,h1,h2⟩=>⟨vs,h1,Z2j hpb hps l vs h2⟩
 | .tup l,_,⟨vs,h1,h2⟩=>⟨vs,h1,Z2j hpb hps l vs h2⟩
 | .clo f l,_,⟨vs,h1,h2⟩=>⟨vs,h1,Z2j hpb hps l vs h2⟩
theorem Z2j {M:Mem} {pb ps:List Nat} (hpb:Zmi M.nb pb=true) (hps:Zmi M.ns ps=true):∀(l:List AV) (vs:List Value),AV.isL M (Zii pb ps M.nb M.ns l) vs→AV.isL (M.inn pb ps) l vs
 | [],_,k=>k
 | x::l,_,⟨v,r,h1,h2,h3⟩=>⟨v,r,h1,Z1j hpb hps x v h2,Z2j hpb hps l r h3⟩
end
def Mem.out (M M':Mem) (pb ps:List Nat):Mem:=⟨fun k=>if k<M.nb then M.ρ k else M'.ρ (pb.length+(k-M.nb)),fun k=>if k<M.ns then M.σ k else M'.σ (ps.length+(k-M.ns)),M.nb+(M'.nb-pb.length),M.ns+(M'.ns-ps.length),M'.H⟩
section
variable {M M':Mem} {pb ps:List Nat}
theorem Z3j (hpb:Zmi M.nb pb=true) (hp:∀j,j<pb.length→M'.ρ j=(M.inn pb ps).ρ j) (hl:pb.length≤M'.nb) {j:Nat} (hj:j<M'.nb):rnm pb M.nb j<(M.out M' pb ps).nb∧(M.out M' pb ps).ρ (rnm pb M.nb j)=M'.ρ j:=by
 by_cases h:j<pb.length
 ·have h6:=Zoi hpb _ (Zpi (B:=M.nb) h);refine ⟨Nat.lt_of_lt_of_le h6 (Nat.le_add_right _ _),?_⟩;simp only [Mem.out];rw [if_pos h6,hp j h];rfl
 ·have e:=Zqi (p:=pb) (B:=M.nb) (i:=j) (by omega);rw [e];refine ⟨by simp only [Mem.out];omega,?_⟩;simp only [Mem.out];rw [if_neg (by omega)];congr 1;omega
theorem Z4j (hps:Zmi M.ns ps=true) (hp:∀j,j<ps.length→M'.σ j=(M.inn pb ps).σ j) (hl:ps.length≤M'.ns) {j:Nat} (hj:j<M'.ns):rnm ps M.ns j<(M.out M' pb ps).ns∧(M.out M' pb ps).σ (rnm ps M.ns j)=M'.σ j:=by
 by_cases h:j<ps.length
 ·have h6:=Zoi hps _ (Zpi (B:=M.ns) h);refine ⟨Nat.lt_of_lt_of_le h6 (Nat.le_add_right _ _),?_⟩;simp only [Mem.out];rw [if_pos h6,hp j h];rfl
 ·have e:=Zqi (p:=ps) (B:=M.ns) (i:=j) (by omega);rw [e];refine ⟨by simp only [Mem.out];omega,?_⟩;simp only [Mem.out];rw [if_neg (by omega)];congr 1;omega
mutual
theorem Z5j (ob:∀ {j:Nat},j<M'.nb→rnm pb M.nb j<(M.out M' pb ps).nb∧(M.out M' pb ps).ρ (rnm pb M.nb j)=M'.ρ j) (os:∀ {j:Nat},j<M'.ns→rnm ps M.ns j<(M.out M' pb ps).ns∧(M.out M' pb ps).σ (rnm ps M.ns j)=M'.σ j):∀(x:AV) (v:Value),x.is M' v→(x.rnF pb ps M.nb M.ns).is (M.out M' pb ps) v
 | .any,_,_=>trivial
 | .un,_,k=>k
 | .tt,_,k=>k
 | .ff,_,k=>k
 | .bv _,_,k=>k
 | .iv _,_,k=>k
 | .kv _ _,_,k=>k
 | .sv _,_,k=>k
 | .nl,_,k=>k
 | .nlp,_,k=>k
 | .fn _,_,k=>k
 | .ptr j off,_,k=>⟨(ob k.1).1,by rw [(ob k.1).2];exact k.2⟩
 | .osl j,_,k=>⟨(os k.1).1,by rw [(os k.1).2];exact k.2⟩
 | .oel j a off,_,k=>⟨(os k.1).1,by rw [(os k.1).2];exact k.2⟩
 | .ocs j a n off,_,k=>⟨(os k.1).1,by rw [(os k.1).2];exact k.2⟩
 | .elt row off,_,k=>k
 | .sl n rows,_,k=>k
 | .agg l,_,⟨vs,h1,h2⟩=>⟨vs,h1,Z6j ob os l vs h2⟩
 | .tup l,_,⟨vs,h1,h2⟩=>⟨vs,h1,Z6j ob os l vs h2⟩
 | .clo f l,_,⟨vs,h1,h2⟩=>⟨vs,h1,Z6j ob os l vs h2⟩
theorem Z6j (ob:∀ {j:Nat},j<M'.nb→rnm pb M.nb j<(M.out M' pb ps).nb∧(M.out M' pb ps).ρ (rnm pb M.nb j)=M'.ρ j) (os:∀ {j:Nat},j<M'.ns→rnm ps M.ns j<(M.out M' pb ps).ns∧(M.out M' pb ps).σ (rnm ps M.ns j)=M'.σ j):∀(l:List AV) (vs:List Value),AV.isL M' l vs→AV.isL (M.out M' pb ps) (Zii pb ps M.nb M.ns l) vs
 | [],_,k=>k
 | x::l,_,⟨v,r,h1,h2,h3⟩=>⟨v,r,h1,Z5j ob os x v h2,Z6j ob os l r h3⟩
end
end
theorem Z7j (pb ps:List Nat) (B Q:Nat):∀l,(Zji pb ps B Q l).length=l.length
 | []=>rfl
 | none::l=>by simp [Zji,Z7j pb ps B Q l]
 | some b::l=>by simp [Zji,Z7j pb ps B Q l]
theorem Z8j {pb ps:List Nat} {B Q:Nat}:∀ {l:List (Option Blk)} {i:Nat} {x:Blk},Zp (Zji pb ps B Q l) i=some x↔∃y,Zp l i=some y∧x=⟨y.T,Zii pb ps B Q y.cells⟩
 | [],i,x=>by simp [Zji,Zp]
 | none::l,0,x=>by simp [Zji,Zp]
 | none::l,i+1,x=>by simpa [Zji,Zp] using Z8j (l:=l)
 | some b::l,0,x=>by simp [Zji,Zp,eq_comm]
 | some b::l,i+1,x=>by simpa [Zji,Zp] using Z8j (l:=l)
theorem Z9j {M M':Mem} (hH:M.H=M'.H) {n:Nat}:∀ {rows:List (List AV)} {vss:List (List Value)},Zj1 rows=true→AV.isLL M n rows vss→AV.isLL M' n rows vss
 | [],_,_,h=>h
 | r::rows,_,hp,⟨v,q,h0,h1,h2,h3⟩=>by
   simp only [Zj1,Zz1] at hp;have e:M.pure.le M':=⟨Nat.zero_le _,Nat.zero_le _,fun _ h=>absurd h (Nat.not_lt_zero _),fun _ h=>absurd h (Nat.not_lt_zero _),fun k o h=>by rw [←hH];exact h⟩
   exact ⟨v,q,h0,h1,Zo2 e _ _ (Zu2 r v h2 hp.1),Z9j hH hp.2 h3⟩
theorem Zaj:∀ {ss:List (Option Sl)} {j:Nat} {L:Sl},Zk1 ss=true→Zp ss j=some L→Zj1 L.rows=true
 | [],_,_,_,h=>by simp [Zp] at h
 | none::l,0,_,_,h=>by simp [Zp] at h
 | none::l,j+1,_,hp,h=>Zaj (ss:=l) (by simpa [Zk1] using hp) (by simpa [Zp] using h)
 | some L::l,0,_,hp,h=>by simp only [Zk1,Zz1] at hp;simp [Zp] at h;subst h;exact hp.1
 | some L::l,j+1,_,hp,h=>by simp only [Zk1,Zz1] at hp;exact Zaj hp.2 (by simpa [Zp] using h)
theorem Zbj {P:Program} {f:Nat} {args:List AV} {bs bs':List (Option Blk)} {ss ss':List (Option Sl)} {v:AV} (pb ps:List Nat) (B Q:Nat) (h:Z1f P f args bs ss v bs' ss')
  (hb:Zw pb=Zw bs:=by rfl) (hs:Zw ps=Zw ss:=by rfl) (hpb:Zmi B pb=true:=by rfl) (hps:Zmi Q ps=true:=by rfl) (hp:Zk1 ss=true:=by first | rfl | simp [go_sem]) (hp':Zk1 ss'=true:=by first | rfl | simp [go_sem]):
  Z1f P f (Zii pb ps B Q args) (spr (Zki B) pb (Zji pb ps B Q bs)) (spr (Zki Q) ps ss) (v.rnF pb ps B Q) (spr (Zki B) pb (Zji pb ps B Q bs')) (spr (Zki Q) ps ss'):=by
 rw [Z12,Z12] at hb hs;obtain ⟨f1,f2,f3⟩:=h;have lb:(spr (Zki B) pb (Zji pb ps B Q bs)).length=B:=by rw [Zvi _ _ _ (by rw [Z7j,hb]),Zsi]
 have ls:(spr (Zki Q) ps ss).length=Q:=by rw [Zvi _ _ _ hs,Zsi]
 have lb':(spr (Zki B) pb (Zji pb ps B Q bs')).length=B+(bs'.length-pb.length):=by rw [Zui _ _ _ (by rw [Z7j];omega),Zsi,Z7j]
 have ls':(spr (Zki Q) ps ss').length=Q+(ss'.length-ps.length):=by rw [Zui _ _ _ (by omega),Zsi]
 have gb:∀ {l:List (Option Blk)} {j:Nat} {x:Blk},pb.length≤l.length→Zp (spr (Zki B) pb (Zji pb ps B Q l)) j=some x→∃i y,rnm pb B i=j∧Zp l i=some y∧x=⟨y.T,Zii pb ps B Q y.cells⟩:=by
  intro l j x hl hj;rcases Zwi (by rw [Z7j];exact hl) hj with h | ⟨i,h1,h2⟩
  ·rw [Zti] at h;simp at h
  ·obtain ⟨y,h3,h4⟩:=Z8j.1 h2;rw [Zsi] at h1;exact ⟨i,y,h1,h3,h4⟩
 have gs:∀ {l:List (Option Sl)} {j:Nat} {x:Sl},ps.length≤l.length→Zp (spr (Zki Q) ps l) j=some x→∃i,rnm ps Q i=j∧Zp l i=some x:=by
  intro l j x hl hj;rcases Zwi hl hj with h | ⟨i,h1,h2⟩
  ·rw [Zti] at h;simp at h
  ·rw [Zsi] at h1;exact ⟨i,h1,h2⟩
 have pB:∀ {l:List (Option Blk)} {i:Nat} {y:Blk},Zp l i=some y→Zp (spr (Zki B) pb (Zji pb ps B Q l)) (rnm pb B i)=some ⟨y.T,Zii pb ps B Q y.cells⟩:=by intro l i y hy;have:=Zyi (l:=Zki B) (p:=pb) (r:=Zji pb ps B Q l) (i:=i) (x:=⟨y.T,Zii pb ps B Q y.cells⟩) (by rw [Zsi];exact hpb) (Z8j.2 ⟨y,hy,rfl⟩);rwa [Zsi] at this
 have pS:∀ {l:List (Option Sl)} {i:Nat} {y:Sl},Zp l i=some y→Zp (spr (Zki Q) ps l) (rnm ps Q i)=some y:=by intro l i y hy;have:=Zyi (l:=Zki Q) (p:=ps) (r:=l) (i:=i) (x:=y) (by rw [Zsi];exact hps) hy;rwa [Zsi] at this
 refine ⟨by rw [lb,lb'];omega,by rw [ls,ls'];omega,fun M w vs hS ha=>?_⟩;have hnb:M.nb=B:=by rw [hS.nb,lb]
 have hns:M.ns=Q:=by rw [hS.ns,ls]
 subst hnb;subst hns;have h6:∀k,Z0f M (spr (Zki M.nb) pb (Zji pb ps M.nb M.ns bs)) (spr (Zki M.ns) ps ss) k↔Z0f (M.inn pb ps) bs ss k:=by
  intro k;constructor
  ·rintro (⟨j,x,hj,e⟩ | ⟨j,x,hj,e⟩)
   ·obtain ⟨i,y,h1,h2,_⟩:=gb (by omega) hj;exact .inl ⟨i,y,h2,by rw [←e,←h1];rfl⟩
   ·obtain ⟨i,h1,h2⟩:=gs (by omega) hj;exact .inr ⟨i,x,h2,by rw [←e,←h1];rfl⟩
  ·rintro (⟨i,y,hi,e⟩ | ⟨i,y,hi,e⟩)
   ·exact .inl ⟨_,_,pB hi,e⟩
   ·exact .inr ⟨_,_,pS hi,e⟩
 have h8:RelS (Ctx.lent P w (M.inn pb ps) bs ss bs.length ss.length) (M.inn pb ps) bs ss w:=by
  refine ⟨hb,hs,?_,rfl,rfl,rfl,Nat.le_refl _,fun _ _ _=>rfl,hS.hle,fun _ _ _=>rfl,?_,?_,?_,?_,?_,⟨Nat.le_of_eq hb.symm,fun _ _=>rfl,Nat.le_of_eq hs.symm,fun _ _=>rfl,hS.pin.gl⟩⟩
  ·intro i hi;exact hS.so _ (Zoi hps _ (Zpi hi))
  ·intro i y hy;obtain ⟨g1,g2,us,g3,g4,g5⟩:=hS.blk _ _ (pB hy);exact ⟨.inr (.inl ⟨i,y,hy,rfl⟩),g2,us,Z2j hpb hps _ _ g3,g4,g5⟩
  ·intro i y hy;obtain ⟨g0,vss,q1,q2,q3,q4⟩:=hS.slc _ _ (pS hy);exact ⟨g0,vss,Z9j (M:=M.sl) (M':=(M.inn pb ps).sl) rfl (Zaj hp hy) q1,q2,q3,fun g hg=>⟨.inr (.inr ⟨i,y,hy,hg⟩),(q4 g hg).2⟩⟩
  ·intro i j x y hi hj e;exact Zri hpb (hS.d1 _ _ _ _ (pB hi) (pB hj) e)
  ·intro i j x y hi hj;exact hS.d2 _ _ _ _ (pB hi) (pS hj)
  ·intro i j x y g hi hj e1 e2;exact Zri hps (hS.d3 _ _ _ _ g (pS hi) (pS hj) e1 e2)
 refine (f3 (M.inn pb ps) w vs h8 (Z2j hpb hps _ _ ha)).mono ?_;rintro e w' ⟨u,M',rfl,hR,hu⟩;have hρ:∀j,j<pb.length→M'.ρ j=(M.inn pb ps).ρ j:=fun j hj=>hR.pin.ρ j (by show j<bs.length;omega);have hσ:∀j,j<ps.length→M'.σ j=(M.inn pb ps).σ j:=fun j hj=>hR.pin.σ j (by show j<ss.length;omega);have ob:∀ {j:Nat},j<M'.nb→rnm pb M.nb j<(M.out M' pb ps).nb∧(M.out M' pb ps).ρ (rnm pb M.nb j)=M'.ρ j:=fun hj=>Z3j hpb hρ (by rw [hR.nb];omega) hj;have os:∀ {j:Nat},j<M'.ns→rnm ps M.ns j<(M.out M' pb ps).ns∧(M.out M' pb ps).σ (rnm ps M.ns j)=M'.σ j:=fun hj=>Z4j hps hσ (by rw [hR.ns];omega) hj;have hm:∀g,Z03 (Ctx.lent P w (M.inn pb ps) bs ss bs.length ss.length) g→Z03 (Ctx.lent P w M (spr (Zki M.nb) pb (Zji pb ps M.nb M.ns bs)) (spr (Zki M.ns) ps ss) (spr (Zki M.nb) pb (Zji pb ps M.nb M.ns bs)).length (spr (Zki M.ns) ps ss).length) g:=fun g hg=>hg.imp id (h6 g).2;refine ⟨u,M.out M' pb ps,rfl,?_,Z5j ob os v u hu⟩;refine ⟨?_,?_,?_,hR.os,hR.tape,hR.output,hR.size,fun k hk hn=>hR.block k hk fun e=>hn ((h6 k).2 e),hR.hle,fun k hk hn=>hR.hold k hk fun e=>hn ((h6 k).2 e),?_,?_,?_,?_,?_,?_⟩
 ·show M.nb+(M'.nb-pb.length)=_;rw [lb',hR.nb]
 ·show M.ns+(M'.ns-ps.length)=_;rw [ls',hR.ns]
 ·intro j hj;simp only [Mem.out] at hj ⊢;split
  ·rename_i h;exact hS.so j h
  ·exact hR.so _ (by have:=hR.ns;omega)
 ·intro j x hj;obtain ⟨i,y,h1,h2,rfl⟩:=gb (by omega) hj;subst h1;obtain ⟨g1,g2,us,g3,g4,g5⟩:=hR.blk i y h2;have hi:i<M'.nb:=by rw [hR.nb];exact Z82 h2
  rw [(ob hi).2];exact ⟨hm _ g1,g2,us,Z6j ob os _ _ g3,g4,g5⟩
 ·intro j x hj;obtain ⟨i,h1,h2⟩:=gs (by omega) hj;subst h1;obtain ⟨g0,vss,q1,q2,q3,q4⟩:=hR.slc i x h2;have hi:i<M'.ns:=by rw [hR.ns];exact Z82 h2
  rw [(os hi).2];exact ⟨g0,vss,Z9j (M:=M'.sl) (M':=(M.out M' pb ps).sl) rfl (Zaj hp' h2) q1,q2,q3,fun g hg=>⟨hm _ (q4 g hg).1,(q4 g hg).2⟩⟩
 ·intro i j x y hi hj e;obtain ⟨i',x',h1,h2,_⟩:=gb (by omega) hi;obtain ⟨j',y',k1,k2,_⟩:=gb (by omega) hj;subst h1;subst k1;rw [(ob (by rw [hR.nb];exact Z82 h2)).2,(ob (by rw [hR.nb];exact Z82 k2)).2] at e;rw [hR.d1 _ _ _ _ h2 k2 e]
 ·intro i j x y hi hj;obtain ⟨i',x',h1,h2,_⟩:=gb (by omega) hi;obtain ⟨j',k1,k2⟩:=gs (by omega) hj;subst h1;subst k1;rw [(ob (by rw [hR.nb];exact Z82 h2)).2,(os (by rw [hR.ns];exact Z82 k2)).2];exact hR.d2 _ _ _ _ h2 k2
 ·intro i j x y g hi hj e1 e2;obtain ⟨i',h1,h2⟩:=gs (by omega) hi;obtain ⟨j',k1,k2⟩:=gs (by omega) hj;subst h1;subst k1;rw [(os (by rw [hR.ns];exact Z82 h2)).2] at e1;rw [(os (by rw [hR.ns];exact Z82 k2)).2] at e2;rw [hR.d3 _ _ _ _ g h2 k2 e1 e2]
 ·refine ⟨by rw [lb];exact Nat.le_add_right _ _,fun j hj=>?_,by rw [ls];exact Nat.le_add_right _ _,fun j hj=>?_,hR.pin.gl⟩
  ·have hj:j<M.nb:=by rw [←lb];exact hj
   simp only [Mem.out];rw [if_pos hj];rfl
  ·have hj:j<M.ns:=by rw [←ls];exact hj
   simp only [Mem.out];rw [if_pos hj];rfl
end NX
end Go.Proofs.YtgamgemlekpepaaGreat
