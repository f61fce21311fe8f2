/-
  The symbolic machine: a function that is lent own memory, whatever the names are by which its caller has it. No statement of the seat is proved here.
-/
import Derived.KernelRfl
import Derived.Test.YtgamgemlekpepaaGreatH12
namespace Go.Proofs.YtgamgemlekpepaaGreat
namespace NX
open Go Go.RowKit
def rnm:List Nat→Nat→Nat→Nat
 | [],B,i=>B+i
 | x::_,_,0=>x
 | _::l,B,i+1=>rnm l B i
mutual
def AV.rnF (pb ps:List Nat) (B Q:Nat):AV→AV
 | .ptr j off=>.ptr (rnm pb B j) off
 | .osl j=>.osl (rnm ps Q j)
 | .oel j i off=>.oel (rnm ps Q j) i off
 | .ocs j lo n m=>.ocs (rnm ps Q j) lo n m
 | .agg l=>.agg (Zgi pb ps B Q l)
 | .tup l=>.tup (Zgi pb ps B Q l)
 | .clo f l=>.clo f (Zgi pb ps B Q l)
 | .any=>.any
 | .un=>.un
 | .tt=>.tt
 | .ff=>.ff
 | .bv e=>.bv e
 | .iv n=>.iv n
 | .kv k n=>.kv k n
 | .sv x=>.sv x
 | .nl=>.nl
 | .nlp=>.nlp
 | .fn f=>.fn f
 | .elt r o=>.elt r o
 | .sl n rows=>.sl n rows
def Zgi (pb ps:List Nat) (B Q:Nat):List AV→List AV
 | []=>[]
 | x::l=>AV.rnF pb ps B Q x::Zgi pb ps B Q l
end
def Zhi (pb ps:List Nat) (B Q:Nat):List (Option Blk)→List (Option Blk)
 | []=>[]
 | none::l=>none::Zhi pb ps B Q l
 | some b::l=>some ⟨b.T,Zgi pb ps B Q b.cells⟩::Zhi pb ps B Q l
def Zii {α:Type}:Nat→List (Option α)
 | 0=>[]
 | n+1=>none::Zii n
def spr {α:Type}:List (Option α)→List Nat→List (Option α)→List (Option α)
 | l,_,[]=>l
 | l,[],x::r=>l++x::r
 | l,k::p,x::r=>spr (Zq l k x) p r
def Zji (k:Nat):List Nat→Bool
 | []=>false
 | x::l=>match k==x with
   | true=>true
   | false=>Zji k l
def Zki (B:Nat):List Nat→Bool
 | []=>true
 | x::l=>Z4 (Z5 (x+1) B) (match Zji x l with
   | true=>false
   | false=>Zki B l)
attribute [go_sem] rnm AV.rnF Zgi Zhi Zii spr
theorem Zli (k:Nat):∀l,Zji k l=true↔k∈l
 | []=>by simp [Zji]
 | x::l=>by
   simp only [Zji];split
   ·rename_i h;simp at h;simp [h]
   ·rename_i h;simp at h;simp [h,Zli k l]
theorem Zmi {B:Nat}:∀ {l:List Nat},Zki B l=true→∀x∈l,x<B
 | [],_,_,h=>by simp at h
 | x::l,h,y,hy=>by
   simp only [Zki,Zz1,Z02] at h;rcases List.mem_cons.1 hy with rfl | hy
   ·exact h.1
   ·have:=h.2;split at this
    ·simp at this
    ·exact Zmi this y hy
theorem Zni:∀ {p:List Nat} {B i:Nat},i<p.length→rnm p B i∈p
 | [],_,_,h=>by simp at h
 | x::l,_,0,_=>by simp [rnm]
 | x::l,B,i+1,h=>by simp only [rnm];exact List.mem_cons_of_mem _ (Zni (by simpa using h))
theorem Zoi:∀ {p:List Nat} {B i:Nat},p.length≤i→rnm p B i=B+(i-p.length)
 | [],_,_,_=>by simp [rnm]
 | x::l,_,0,h=>by simp at h
 | x::l,B,i+1,h=>by simp only [rnm];rw [Zoi (by simpa using h)];simp
theorem Zpi:∀ {p:List Nat} {B i j:Nat},Zki B p=true→rnm p B i=rnm p B j→i=j
 | [],_,_,_,_,h=>by simp only [rnm] at h;omega
 | x::l,B,i,j,hn,h=>by
   have hn':=hn;simp only [Zki,Zz1,Z02] at hn;obtain ⟨hx,h2⟩:=hn;split at h2
   ·simp at h2
   ·rename_i hm;have hm:x∉l:=fun h6=>by rw [(Zli x l).2 h6] at hm;simp at hm
    have key:∀i,rnm l B i≠x:=by
     intro i e;by_cases hi:i<l.length
     ·exact hm (e ▸ Zni hi)
     ·rw [Zoi (by omega)] at e;omega
    cases i with
    | zero=>cases j with
      | zero=>rfl
      | succ j=>simp only [rnm] at h;exact absurd h.symm (key j)
    | succ i=>cases j with
      | zero=>simp only [rnm] at h;exact absurd h (key i)
      | succ j=>simp only [rnm] at h;rw [Zpi h2 h]
theorem Zqi {α:Type}:∀n,(Zii n:List (Option α)).length=n
 | 0=>rfl
 | n+1=>by simp [Zii,Zqi n]
theorem Zri {α:Type}:∀n j,Zp (Zii n:List (Option α)) j=none
 | 0,j=>by simp [Zii,Zp]
 | n+1,0=>by simp [Zii,Zp]
 | n+1,j+1=>by simp [Zii,Zp,Zri n j]
theorem Zsi {α:Type}:∀(l:List (Option α)) (p:List Nat) (r:List (Option α)),p.length≤r.length→(spr l p r).length=l.length+(r.length-p.length)
 | l,p,[],h=>by
   have:p.length=0:=by simpa using h
   simp [spr,this]
 | l,[],x::r,_=>by simp [spr]
 | l,k::p,x::r,h=>by simp only [spr];rw [Zsi _ p r (by simpa using h),Z72];simp
theorem Zti {α:Type}:∀(l:List (Option α)) (p:List Nat) (r:List (Option α)),p.length=r.length→(spr l p r).length=l.length:=by intro l p r h;rw [Zsi l p r (by omega),h];simp
theorem Zui {α:Type}:∀ {l:List (Option α)} {p:List Nat} {r:List (Option α)} {j:Nat} {x:α},p.length≤r.length→Zp (spr l p r) j=some x→
  Zp l j=some x∨∃i,rnm p l.length i=j∧Zp r i=some x
 | l,p,[],j,x,h,h1=>.inl (by simpa [spr] using h1)
 | l,[],y::r,j,x,_,h1=>by
   simp only [spr] at h1;have:∀(l:List (Option α)) (j:Nat),Zp (l++y::r) j=some x→Zp l j=some x∨∃i,l.length+i=j∧Zp (y::r) i=some x:=by
    intro l;induction l with
    | nil=>intro j h;exact .inr ⟨j,by simp,h⟩
    | cons z l ih=>
      intro j h;cases j with
      | zero=>exact .inl h
      | succ j=>
        rcases ih j h with h | ⟨i,h2,h3⟩
        ·exact .inl h
        ·exact .inr ⟨i,by simp;omega,h3⟩
   rcases this l j h1 with h | ⟨i,h2,h3⟩
   ·exact .inl h
   ·exact .inr ⟨i,by simpa [rnm] using h2,h3⟩
 | l,k::p,y::r,j,x,h,h1=>by
   simp only [spr] at h1;rcases Zui (by simpa using h) h1 with h2 | ⟨i,h2,h3⟩
   ·rw [Z62] at h2;split at h2
    ·rename_i e;exact .inr ⟨0,by simp [rnm,e.1],by simpa [Zp] using h2⟩
    ·exact .inl h2
   ·rw [Z72] at h2;exact .inr ⟨i+1,by simpa [rnm] using h2,by simpa [Zp] using h3⟩
theorem Zvi {α:Type}:∀ {l:List (Option α)} {p:List Nat} {r:List (Option α)} {j:Nat},j<l.length→j∉p→Zp (spr l p r) j=Zp l j
 | l,p,[],j,_,_=>by simp [spr]
 | l,[],y::r,j,h,_=>by
   simp only [spr];have:∀(l:List (Option α)) (j:Nat),j<l.length→Zp (l++y::r) j=Zp l j:=by
    intro l;induction l with
    | nil=>intro j h;simp at h
    | cons z l ih=>intro j h;cases j with
      | zero=>rfl
      | succ j=>exact ih j (by simpa using h)
   exact this l j h
 | l,k::p,y::r,j,h,hn=>by simp only [spr];rw [Zvi (by rw [Z72];exact h) (fun e=>hn (List.mem_cons_of_mem _ e)),Z62,if_neg (fun e=>hn (by rw [e.1];simp))]
theorem Zwi {α:Type}:∀ {l:List (Option α)} {p:List Nat} {r:List (Option α)} {i:Nat} {x:α},Zki l.length p=true→Zp r i=some x→Zp (spr l p r) (rnm p l.length i)=some x
 | l,p,[],i,x,_,h=>by simp [Zp] at h
 | l,[],y::r,i,x,_,h=>by
   simp only [spr,rnm];have:∀(l:List (Option α)) (i:Nat),Zp (l++y::r) (l.length+i)=Zp (y::r) i:=by
    intro l;induction l with
    | nil=>intro i;simp
    | cons z l ih=>intro i;rw [show (z::l).length+i=(l.length+i)+1 by simp;omega];simpa [Zp] using ih i
   rw [this];exact h
 | l,k::p,y::r,i,x,hn,h=>by
   have h8:=hn;simp only [Zki,Zz1,Z02] at hn;obtain ⟨hk,h2⟩:=hn;split at h2
   ·simp at h2
   ·rename_i hm;have hm:k∉p:=fun h6=>by rw [(Zli k p).2 h6] at hm;simp at hm
    simp only [spr];cases i with
    | zero=>simp only [rnm];rw [Zvi (by rw [Z72];exact hk) hm,Z62,if_pos ⟨rfl,hk⟩];simpa [Zp] using h
    | succ i=>simp only [rnm];have:=Zwi (l:=Zq l k y) (p:=p) (r:=r) (i:=i) (x:=x) (by rw [Z72];exact h2) (by simpa [Zp] using h);rwa [Z72] at this
mutual
theorem Zxi (pb ps:List Nat) (B Q:Nat):∀(x:AV),x.pu=true→AV.rnF pb ps B Q x=x:=by
 intro x h;cases x<;>simp_all [AV.pu,AV.rnF]
 all_goals exact Zyi pb ps B Q _ h
theorem Zyi (pb ps:List Nat) (B Q:Nat):∀(l:List AV),puL l=true→Zgi pb ps B Q l=l
 | [],_=>rfl
 | x::l,h=>by simp only [puL] at h;cases hx:x.pu<;>simp [hx,Z4] at h;simp [Zgi,Zxi pb ps B Q x hx,Zyi pb ps B Q l h]
end
def Mem.inn (M:Mem) (pb ps:List Nat):Mem:=⟨fun i=>M.ρ (rnm pb M.nb i),fun i=>M.σ (rnm ps M.ns i),pb.length,ps.length,M.H⟩
mutual
theorem Zzi {M:Mem} {pb ps:List Nat} (hpb:Zki M.nb pb=true) (hps:Zki M.ns ps=true):∀(x:AV) (v:Value),(x.rnF pb ps M.nb M.ns).is M v→x.is (M.inn pb ps) v
 | .any,_,_=>trivial
 | .un,_,k=>k
 | .tt,_,k=>k
 | .ff,_,k=>k
 | .bv _,_,k=>k
 | .iv _,_,k=>k
 | .kv _ _,_,k=>k
 | .sv _,_,k=>k
 | .nl,_,k=>k
 | .nlp,_,k=>k
 | .fn _,_,k=>k
 | .ptr j off,_,k=>by
   refine ⟨?_,k.2⟩;have h1:rnm pb M.nb j<M.nb:=k.1;by_cases h:j<pb.length
   ·exact h
   ·rw [Zoi (by omega)] at h1;omega
 | .osl j,_,k=>by
   refine ⟨?_,k.2⟩;have h1:rnm ps M.ns j<M.ns:=k.1;by_cases h:j<ps.length
   ·exact h
   ·rw [Zoi (by omega)] at h1;omega
 | .oel j a off,_,k=>by
   refine ⟨?_,k.2⟩;have h1:rnm ps M.ns j<M.ns:=k.1;by_cases h:j<ps.length
   ·exact h
   ·rw [Zoi (by omega)] at h1;omega
 | .ocs j a n off,_,k=>by
   refine ⟨?_,k.2⟩;have h1:rnm ps M.ns j<M.ns:=k.1;by_cases h:j<ps.length
   ·exact h
   ·rw [Zoi (by omega)] at h1;omega
 | .elt row off,_,k=>k
 | .sl n rows,_,k=>k
 | .agg l,_,⟨vs,h1,h2⟩=>⟨vs,h1,Z0j hpb hps l vs h2⟩
 | .tup l,_,⟨vs,h1,h2⟩=>⟨vs,h1,Z0j hpb hps l vs h2⟩
 | .clo f l,_,⟨vs,h1,h2⟩=>⟨vs,h1,Z0j hpb hps l vs h2⟩
theorem Z0j {M:Mem} {pb ps:List Nat} (hpb:Zki M.nb pb=true) (hps:Zki M.ns ps=true):∀(l:List AV) (vs:List Value),AV.isL M (Zgi pb ps M.nb M.ns l) vs→AV.isL (M.inn pb ps) l vs
 | [],_,k=>k
 | x::l,_,⟨v,r,h1,h2,h3⟩=>⟨v,r,h1,Zzi hpb hps x v h2,Z0j hpb hps l r h3⟩
end
def Mem.out (M M':Mem) (pb ps:List Nat):Mem:=⟨fun k=>if k<M.nb then M.ρ k else M'.ρ (pb.length+(k-M.nb)),fun k=>if k<M.ns then M.σ k else M'.σ (ps.length+(k-M.ns)),M.nb+(M'.nb-pb.length),M.ns+(M'.ns-ps.length),M'.H⟩
section
variable {M M':Mem} {pb ps:List Nat}
theorem Z1j (hpb:Zki M.nb pb=true) (hp:∀j,j<pb.length→M'.ρ j=(M.inn pb ps).ρ j) (hl:pb.length≤M'.nb) {j:Nat} (hj:j<M'.nb):rnm pb M.nb j<(M.out M' pb ps).nb∧(M.out M' pb ps).ρ (rnm pb M.nb j)=M'.ρ j:=by
 by_cases h:j<pb.length
 ·have h6:=Zmi hpb _ (Zni (B:=M.nb) h);refine ⟨Nat.lt_of_lt_of_le h6 (Nat.le_add_right _ _),?_⟩;simp only [Mem.out];rw [if_pos h6,hp j h];rfl
 ·have e:=Zoi (p:=pb) (B:=M.nb) (i:=j) (by omega);rw [e];refine ⟨by simp only [Mem.out];omega,?_⟩;simp only [Mem.out];rw [if_neg (by omega)];congr 1;omega
theorem Z2j (hps:Zki M.ns ps=true) (hp:∀j,j<ps.length→M'.σ j=(M.inn pb ps).σ j) (hl:ps.length≤M'.ns) {j:Nat} (hj:j<M'.ns):rnm ps M.ns j<(M.out M' pb ps).ns∧(M.out M' pb ps).σ (rnm ps M.ns j)=M'.σ j:=by
 by_cases h:j<ps.length
 ·have h6:=Zmi hps _ (Zni (B:=M.ns) h);refine ⟨Nat.lt_of_lt_of_le h6 (Nat.le_add_right _ _),?_⟩;simp only [Mem.out];rw [if_pos h6,hp j h];rfl
 ·have e:=Zoi (p:=ps) (B:=M.ns) (i:=j) (by omega);rw [e];refine ⟨by simp only [Mem.out];omega,?_⟩;simp only [Mem.out];rw [if_neg (by omega)];congr 1;omega
mutual
theorem Z3j (ob:∀ {j:Nat},j<M'.nb→rnm pb M.nb j<(M.out M' pb ps).nb∧(M.out M' pb ps).ρ (rnm pb M.nb j)=M'.ρ j) (os:∀ {j:Nat},j<M'.ns→rnm ps M.ns j<(M.out M' pb ps).ns∧(M.out M' pb ps).σ (rnm ps M.ns j)=M'.σ j):∀(x:AV) (v:Value),x.is M' v→(x.rnF pb ps M.nb M.ns).is (M.out M' pb ps) v
 | .any,_,_=>trivial
 | .un,_,k=>k
 | .tt,_,k=>k
 | .ff,_,k=>k
 | .bv _,_,k=>k
 | .iv _,_,k=>k
 | .kv _ _,_,k=>k
 | .sv _,_,k=>k
 | .nl,_,k=>k
 | .nlp,_,k=>k
 | .fn _,_,k=>k
 | .ptr j off,_,k=>⟨(ob k.1).1,by rw [(ob k.1).2];exact k.2⟩
 | .osl j,_,k=>⟨(os k.1).1,by rw [(os k.1).2];exact k.2⟩
 | .oel j a off,_,k=>⟨(os k.1).1,by rw [(os k.1).2];exact k.2⟩
 | .ocs j a n off,_,k=>⟨(os k.1).1,by rw [(os k.1).2];exact k.2⟩
 | .elt row off,_,k=>k
 | .sl n rows,_,k=>k
 | .agg l,_,⟨vs,h1,h2⟩=>⟨vs,h1,Z4j ob os l vs h2⟩
 | .tup l,_,⟨vs,h1,h2⟩=>⟨vs,h1,Z4j ob os l vs h2⟩
 | .clo f l,_,⟨vs,h1,h2⟩=>⟨vs,h1,Z4j ob os l vs h2⟩
theorem Z4j (ob:∀ {j:Nat},j<M'.nb→rnm pb M.nb j<(M.out M' pb ps).nb∧(M.out M' pb ps).ρ (rnm pb M.nb j)=M'.ρ j) (os:∀ {j:Nat},j<M'.ns→rnm ps M.ns j<(M.out M' pb ps).ns∧(M.out M' pb ps).σ (rnm ps M.ns j)=M'.σ j):∀(l:List AV) (vs:List Value),AV.isL M' l vs→AV.isL (M.out M' pb ps) (Zgi pb ps M.nb M.ns l) vs
 | [],_,k=>k
 | x::l,_,⟨v,r,h1,h2,h3⟩=>⟨v,r,h1,Z3j ob os x v h2,Z4j ob os l r h3⟩
end
end
theorem Z5j (pb ps:List Nat) (B Q:Nat):∀l,(Zhi pb ps B Q l).length=l.length
 | []=>rfl
 | none::l=>by simp [Zhi,Z5j pb ps B Q l]
 | some b::l=>by simp [Zhi,Z5j pb ps B Q l]
theorem Z6j {pb ps:List Nat} {B Q:Nat}:∀ {l:List (Option Blk)} {i:Nat} {x:Blk},Zp (Zhi pb ps B Q l) i=some x↔∃y,Zp l i=some y∧x=⟨y.T,Zgi pb ps B Q y.cells⟩
 | [],i,x=>by simp [Zhi,Zp]
 | none::l,0,x=>by simp [Zhi,Zp]
 | none::l,i+1,x=>by simpa [Zhi,Zp] using Z6j (l:=l)
 | some b::l,0,x=>by simp [Zhi,Zp,eq_comm]
 | some b::l,i+1,x=>by simpa [Zhi,Zp] using Z6j (l:=l)
theorem Z7j {M M':Mem} (hH:M.H=M'.H) {n:Nat}:∀ {rows:List (List AV)} {vss:List (List Value)},Zj1 rows=true→AV.isLL M n rows vss→AV.isLL M' n rows vss
 | [],_,_,h=>h
 | r::rows,_,hp,⟨v,q,h0,h1,h2,h3⟩=>by
   simp only [Zj1,Zz1] at hp;have e:M.pure.le M':=⟨Nat.zero_le _,Nat.zero_le _,fun _ h=>absurd h (Nat.not_lt_zero _),fun _ h=>absurd h (Nat.not_lt_zero _),fun k o h=>by rw [←hH];exact h⟩
   exact ⟨v,q,h0,h1,Zo2 e _ _ (Zu2 r v h2 hp.1),Z7j hH hp.2 h3⟩
theorem Z8j:∀ {ss:List (Option Sl)} {j:Nat} {L:Sl},Zk1 ss=true→Zp ss j=some L→Zj1 L.rows=true
 | [],_,_,_,h=>by simp [Zp] at h
 | none::l,0,_,_,h=>by simp [Zp] at h
 | none::l,j+1,_,hp,h=>Z8j (ss:=l) (by simpa [Zk1] using hp) (by simpa [Zp] using h)
 | some L::l,0,_,hp,h=>by simp only [Zk1,Zz1] at hp;simp [Zp] at h;subst h;exact hp.1
 | some L::l,j+1,_,hp,h=>by simp only [Zk1,Zz1] at hp;exact Z8j hp.2 (by simpa [Zp] using h)
theorem Z9j {P:Program} {f:Nat} {args:List AV} {bs J:List (Option Blk)} {ss E:List (Option Sl)} {v:AV} (pb ps:List Nat) (B Q:Nat) (h:Z0f P f args bs ss v J E)
  (hb:Zw pb=Zw bs:=by rfl) (hs:Zw ps=Zw ss:=by rfl) (hpb:Zki B pb=true:=by rfl) (hps:Zki Q ps=true:=by rfl) (hp:Zk1 ss=true:=by first | rfl | simp [go_sem]) (hp':Zk1 E=true:=by first | rfl | simp [go_sem]):
  Z0f P f (Zgi pb ps B Q args) (spr (Zii B) pb (Zhi pb ps B Q bs)) (spr (Zii Q) ps ss) (v.rnF pb ps B Q) (spr (Zii B) pb (Zhi pb ps B Q J)) (spr (Zii Q) ps E):=by
 rw [Z12,Z12] at hb hs;obtain ⟨f1,f2,f3⟩:=h;have lb:(spr (Zii B) pb (Zhi pb ps B Q bs)).length=B:=by rw [Zti _ _ _ (by rw [Z5j,hb]),Zqi]
 have ls:(spr (Zii Q) ps ss).length=Q:=by rw [Zti _ _ _ hs,Zqi]
 have lb':(spr (Zii B) pb (Zhi pb ps B Q J)).length=B+(J.length-pb.length):=by rw [Zsi _ _ _ (by rw [Z5j];omega),Zqi,Z5j]
 have ls':(spr (Zii Q) ps E).length=Q+(E.length-ps.length):=by rw [Zsi _ _ _ (by omega),Zqi]
 have gb:∀ {l:List (Option Blk)} {j:Nat} {x:Blk},pb.length≤l.length→Zp (spr (Zii B) pb (Zhi pb ps B Q l)) j=some x→∃i y,rnm pb B i=j∧Zp l i=some y∧x=⟨y.T,Zgi pb ps B Q y.cells⟩:=by
  intro l j x hl hj;rcases Zui (by rw [Z5j];exact hl) hj with h | ⟨i,h1,h2⟩
  ·rw [Zri] at h;simp at h
  ·obtain ⟨y,h3,h4⟩:=Z6j.1 h2;rw [Zqi] at h1;exact ⟨i,y,h1,h3,h4⟩
 have gs:∀ {l:List (Option Sl)} {j:Nat} {x:Sl},ps.length≤l.length→Zp (spr (Zii Q) ps l) j=some x→∃i,rnm ps Q i=j∧Zp l i=some x:=by
  intro l j x hl hj;rcases Zui hl hj with h | ⟨i,h1,h2⟩
  ·rw [Zri] at h;simp at h
  ·rw [Zqi] at h1;exact ⟨i,h1,h2⟩
 have pB:∀ {l:List (Option Blk)} {i:Nat} {y:Blk},Zp l i=some y→Zp (spr (Zii B) pb (Zhi pb ps B Q l)) (rnm pb B i)=some ⟨y.T,Zgi pb ps B Q y.cells⟩:=by intro l i y hy;have:=Zwi (l:=Zii B) (p:=pb) (r:=Zhi pb ps B Q l) (i:=i) (x:=⟨y.T,Zgi pb ps B Q y.cells⟩) (by rw [Zqi];exact hpb) (Z6j.2 ⟨y,hy,rfl⟩);rwa [Zqi] at this
 have pS:∀ {l:List (Option Sl)} {i:Nat} {y:Sl},Zp l i=some y→Zp (spr (Zii Q) ps l) (rnm ps Q i)=some y:=by intro l i y hy;have:=Zwi (l:=Zii Q) (p:=ps) (r:=l) (i:=i) (x:=y) (by rw [Zqi];exact hps) hy;rwa [Zqi] at this
 refine ⟨by rw [lb,lb'];omega,by rw [ls,ls'];omega,fun M w vs hS ha=>?_⟩;have hnb:M.nb=B:=by rw [hS.nb,lb]
 have hns:M.ns=Q:=by rw [hS.ns,ls]
 subst hnb;subst hns;have h6:∀k,Zze M (spr (Zii M.nb) pb (Zhi pb ps M.nb M.ns bs)) (spr (Zii M.ns) ps ss) k↔Zze (M.inn pb ps) bs ss k:=by
  intro k;constructor
  ·rintro (⟨j,x,hj,e⟩ | ⟨j,x,hj,e⟩)
   ·obtain ⟨i,y,h1,h2,_⟩:=gb (by omega) hj;exact .inl ⟨i,y,h2,by rw [←e,←h1];rfl⟩
   ·obtain ⟨i,h1,h2⟩:=gs (by omega) hj;exact .inr ⟨i,x,h2,by rw [←e,←h1];rfl⟩
  ·rintro (⟨i,y,hi,e⟩ | ⟨i,y,hi,e⟩)
   ·exact .inl ⟨_,_,pB hi,e⟩
   ·exact .inr ⟨_,_,pS hi,e⟩
 have h8:RelS (Ctx.lent P w (M.inn pb ps) bs ss bs.length ss.length) (M.inn pb ps) bs ss w:=by
  refine ⟨hb,hs,?_,rfl,rfl,rfl,Nat.le_refl _,fun _ _ _=>rfl,hS.hle,fun _ _ _=>rfl,?_,?_,?_,?_,?_,⟨Nat.le_of_eq hb.symm,fun _ _=>rfl,Nat.le_of_eq hs.symm,fun _ _=>rfl,hS.pin.gl⟩⟩
  ·intro i hi;exact hS.so _ (Zmi hps _ (Zni hi))
  ·intro i y hy;obtain ⟨g1,g2,us,g3,g4,g5⟩:=hS.blk _ _ (pB hy);exact ⟨.inr (.inl ⟨i,y,hy,rfl⟩),g2,us,Z0j hpb hps _ _ g3,g4,g5⟩
  ·intro i y hy;obtain ⟨g0,vss,q1,q2,q3,q4⟩:=hS.slc _ _ (pS hy);exact ⟨g0,vss,Z7j (M:=M.sl) (M':=(M.inn pb ps).sl) rfl (Z8j hp hy) q1,q2,q3,fun g hg=>⟨.inr (.inr ⟨i,y,hy,hg⟩),(q4 g hg).2⟩⟩
  ·intro i j x y hi hj e;exact Zpi hpb (hS.d1 _ _ _ _ (pB hi) (pB hj) e)
  ·intro i j x y hi hj;exact hS.d2 _ _ _ _ (pB hi) (pS hj)
  ·intro i j x y g hi hj e1 e2;exact Zpi hps (hS.d3 _ _ _ _ g (pS hi) (pS hj) e1 e2)
 refine (f3 (M.inn pb ps) w vs h8 (Z0j hpb hps _ _ ha)).mono ?_;rintro e w' ⟨u,M',rfl,hR,hu⟩;have hρ:∀j,j<pb.length→M'.ρ j=(M.inn pb ps).ρ j:=fun j hj=>hR.pin.ρ j (by show j<bs.length;omega);have hσ:∀j,j<ps.length→M'.σ j=(M.inn pb ps).σ j:=fun j hj=>hR.pin.σ j (by show j<ss.length;omega);have ob:∀ {j:Nat},j<M'.nb→rnm pb M.nb j<(M.out M' pb ps).nb∧(M.out M' pb ps).ρ (rnm pb M.nb j)=M'.ρ j:=fun hj=>Z1j hpb hρ (by rw [hR.nb];omega) hj;have os:∀ {j:Nat},j<M'.ns→rnm ps M.ns j<(M.out M' pb ps).ns∧(M.out M' pb ps).σ (rnm ps M.ns j)=M'.σ j:=fun hj=>Z2j hps hσ (by rw [hR.ns];omega) hj;have hm:∀g,Z03 (Ctx.lent P w (M.inn pb ps) bs ss bs.length ss.length) g→Z03 (Ctx.lent P w M (spr (Zii M.nb) pb (Zhi pb ps M.nb M.ns bs)) (spr (Zii M.ns) ps ss) (spr (Zii M.nb) pb (Zhi pb ps M.nb M.ns bs)).length (spr (Zii M.ns) ps ss).length) g:=fun g hg=>hg.imp id (h6 g).2;refine ⟨u,M.out M' pb ps,rfl,?_,Z3j ob os v u hu⟩;refine ⟨?_,?_,?_,hR.os,hR.tape,hR.output,hR.size,fun k hk hn=>hR.block k hk fun e=>hn ((h6 k).2 e),hR.hle,fun k hk hn=>hR.hold k hk fun e=>hn ((h6 k).2 e),?_,?_,?_,?_,?_,?_⟩
 ·show M.nb+(M'.nb-pb.length)=_;rw [lb',hR.nb]
 ·show M.ns+(M'.ns-ps.length)=_;rw [ls',hR.ns]
 ·intro j hj;simp only [Mem.out] at hj ⊢;split
  ·rename_i h;exact hS.so j h
  ·exact hR.so _ (by have:=hR.ns;omega)
 ·intro j x hj;obtain ⟨i,y,h1,h2,rfl⟩:=gb (by omega) hj;subst h1;obtain ⟨g1,g2,us,g3,g4,g5⟩:=hR.blk i y h2;have hi:i<M'.nb:=by rw [hR.nb];exact Z82 h2
  rw [(ob hi).2];exact ⟨hm _ g1,g2,us,Z4j ob os _ _ g3,g4,g5⟩
 ·intro j x hj;obtain ⟨i,h1,h2⟩:=gs (by omega) hj;subst h1;obtain ⟨g0,vss,q1,q2,q3,q4⟩:=hR.slc i x h2;have hi:i<M'.ns:=by rw [hR.ns];exact Z82 h2
  rw [(os hi).2];exact ⟨g0,vss,Z7j (M:=M'.sl) (M':=(M.out M' pb ps).sl) rfl (Z8j hp' h2) q1,q2,q3,fun g hg=>⟨hm _ (q4 g hg).1,(q4 g hg).2⟩⟩
 ·intro i j x y hi hj e;obtain ⟨i',x',h1,h2,_⟩:=gb (by omega) hi;obtain ⟨j',y',k1,k2,_⟩:=gb (by omega) hj;subst h1;subst k1;rw [(ob (by rw [hR.nb];exact Z82 h2)).2,(ob (by rw [hR.nb];exact Z82 k2)).2] at e;rw [hR.d1 _ _ _ _ h2 k2 e]
 ·intro i j x y hi hj;obtain ⟨i',x',h1,h2,_⟩:=gb (by omega) hi;obtain ⟨j',k1,k2⟩:=gs (by omega) hj;subst h1;subst k1;rw [(ob (by rw [hR.nb];exact Z82 h2)).2,(os (by rw [hR.ns];exact Z82 k2)).2];exact hR.d2 _ _ _ _ h2 k2
 ·intro i j x y g hi hj e1 e2;obtain ⟨i',h1,h2⟩:=gs (by omega) hi;obtain ⟨j',k1,k2⟩:=gs (by omega) hj;subst h1;subst k1;rw [(os (by rw [hR.ns];exact Z82 h2)).2] at e1;rw [(os (by rw [hR.ns];exact Z82 k2)).2] at e2;rw [hR.d3 _ _ _ _ g h2 k2 e1 e2]
 ·refine ⟨by rw [lb];exact Nat.le_add_right _ _,fun j hj=>?_,by rw [ls];exact Nat.le_add_right _ _,fun j hj=>?_,hR.pin.gl⟩
  ·have hj:j<M.nb:=by rw [←lb];exact hj
   simp only [Mem.out];rw [if_pos hj];rfl
  ·have hj:j<M.ns:=by rw [←ls];exact hj
   simp only [Mem.out];rw [if_pos hj];rfl
end NX
end Go.Proofs.YtgamgemlekpepaaGreat
/-
  Compiled code, written by computing it. No statement of the seat is proved here.
-/
namespace Go.Proofs.YtgamgemlekpepaaGreat
namespace NX
open Go
attribute [go_sem_proc] Int.reduceOfNat Int.reduceNegSucc
def opsZ:Op→List Operand
 | .call c | .go c | .defer c=>(match c.callee with | .value f=>[f] | .invoke r _=>[r] | .builtin _=>[])++c.args.toList
 | .makeFunc _ a b=>a.toList++b.toList
 | .slice _ x l h m=>x::(l.toList++h.toList++m.toList)
 | .select _ _=>[]
 | o=>o.operands.toList
def Zaj (ops:List Oper) (o:Oper):List Nat:=(opsZ o.op).filterMap (fun x=>match x with | .tmp t=>some t | _=>none)++(match o.guard with | some (g,_)=>(match ops[g]? with | some x=>x.dst.toList | none=>[]) | none=>[])
def Zbj (ops:List Oper) (x y:Oper):Bool:=(match x.dst with | some d=>!Zf d (Zaj ops y)&&(match y.dst with | some e=>!(e==d) | none=>true) | none=>true)&&(match y.dst with | some d=>!Zf d (Zaj ops x) | none=>true)
def Zcj:Nat→List Nat→List Nat
 | 0,l=>l
 | n+1,l=>Zcj n (n::l)
def Zdj (ops:List Oper):List (List Nat):=
 (Zcj ops.length []).map fun i=>(Zcj ops.length []).filter fun j=>match ops[i]?,ops[j]? with
   | some x,some y=>!(i==j)&&!(Zbj ops x y)
   | _,_=>false
def cZ (P:Program):Code→Option EC
 | .skip=>some .skip
 | .region _ ops draw=>match ops.toList.mapM (Ze P ops) with
   | some l=>match draw with
     | true=>some (.drw l (Zl ops) (Zdj ops.toList))
     | false=>some (.reg l)
   | none=>none
 | .seq a b=>match cZ P a,cZ P b with | some x,some y=>some (.seq x y) | _,_=>none
 | .cond c a b=>match cZ P a,cZ P b with | some x,some y=>some (.ite (cX c) x y) | _,_=>none
 | .block id a=>(cZ P a).map (.blk id)
 | .loop a=>(cZ P a).map .loop
 | .exit id=>some (.exit id)
 | .scope a=>(cZ P a).map .scope
 | .label l=>some (.label l)
 | .goto l=>some (.goto l)
 | .ret=>some .ret
 | _=>some .bad
def cF (P:Program) (f:Func):Option EC:=match f.body with | some c=>cZ P c | none=>none
theorem okA {P:Program} {f:Nat} {fn:Func} {body:EC} {rs:List ERes} {np nt:Nat} {x:Code} (h:P.funcs[f]?=some fn:=by kernel_rfl) (hb:fn.body=some x:=by exact rfl) (hc:cC P x=some body:=by kernel_rfl) (r:Zq1 P fn.results.toList=some rs:=by kernel_rfl) (t:fn.ntmps=np+nt:=by kernel_rfl):FnOK P f fn body rs np nt:=⟨h,⟨x,hb,hc⟩,r,t⟩
theorem hF (f:Func):cF Tryz.prog f=cF Tryz.prog f:=rfl
abbrev DP (f:Func):= {x:EC // cF Tryz.prog f=some x}
abbrev HA (c:Ctx) (all:Array Oper) (ops:List EOp) (af nap:List (List Nat)):Prop:=all.toList.mapM (Ze c.P all)=some ops∧Region.noSelect all=true∧af=Zl all∧nap=Zm all
section
variable {c:Ctx} {all:Array Oper} {ops:List EOp} {af nap:List (List Nat)} {Φ:St→Prop} {m:Nat} {ld:List Bool} {S:St}
theorem GE (h6:all.toList.mapM (Ze c.P all)=some ops) (i:Nat) {v:AV} {S1:St} {q:Prop} (h:G c all ops af Φ m (Zu1 ld i) (S1.put (Zy1 ops i).d v)) (hr:rdy ld af 0=[i]:=by exact rfl) (he:geO S (Zy1 ops i)=some (v,S1,q):=by exact rfl) (hq:q:=by trivial):G c all ops af Φ (m+1) ld S:=Zma i hr (Zta h6 he hq h)
theorem GV (h6:all.toList.mapM (Ze c.P all)=some ops) {i:Nat} {v:AV} {S1:St} {q:Prop} (h:G c all ops af Φ m (Zu1 ld i) (S1.put (Zy1 ops i).d v)) (he:geO S (Zy1 ops i)=some (v,S1,q):=by exact rfl) (hq:q:=by trivial):GO c all ops af Φ m ld S i:=Zta h6 he hq h
theorem GD (h:Φ S) (hr:rdy ld af 0=[]:=by exact rfl):G c all ops af Φ m ld S:=Zla hr h m
theorem GN (H:HA c all ops af nap) (m r:Nat) (h:(Zia ops af nap m ld S True).2.2.2∧G c all ops af Φ ((Zia ops af nap m ld S True).1+r) (Zia ops af nap m ld S True).2.1 (Zia ops af nap m ld S True).2.2.1):G c all ops af Φ (m+r) ld S:=Z5e H.1 H.2.1 H.2.2.1 H.2.2.2 m r h
theorem GP (H:HA c all ops af nap) (m r:Nat) (b:List Nat) (u:List (Nat×List AV)) (h:G c all ops af Φ r (rl b) ⟨pt u S.tm,S.bs,S.ss⟩) (he:Zia ops af nap m ld S True=(0,rl b,⟨pt u S.tm,S.bs,S.ss⟩,tN m):=by kernel_rfl):G c all ops af Φ (m+r) ld S:=Z8e H.1 H.2.1 H.2.2.1 H.2.2.2 m r b u he h
theorem GA {α:Type} {b:Nat} {l' m' v:List α} (f:α→List AV) (hv:Z7c b l' m'=some v) (h6:all.toList.mapM (Ze c.P all)=some ops) {i e n j:Nat} {x y:X} (h:G c all ops af Φ m (Zu1 ld i) ((S.app j ⟨e,n,v.map f⟩).put (Zy1 ops i).d (.osl (Zw S.ss)))) (E:(Zy1 ops i).o = .app e n b x y:=by exact rfl) (hg:gm S (Zy1 ops i).g:=by trivial)
 (hx:S.x x = .osl j:=by exact rfl) (hj:Zp S.ss j=some ⟨e,n,l'.map f⟩:=by exact rfl) (hy:Zp1 S n (S.x y)=some (m'.map f):=by exact rfl):GO c all ops af Φ m ld S i:=Zmc f hv h6 E hg hx hj hy h
theorem GL (h6:all.toList.mapM (Ze c.P all)=some ops) {i:Nat} {α:Type} {l':List α} {z:Int} {y:α} {j T n off:Nat} {x:X} {v:AV} (f:α→List AV) (hv:at_ l' z=some y) (h:G c all ops af Φ m (Zu1 ld i) (S.put (Zy1 ops i).d v)) (E:(Zy1 ops i).o = .load x:=by exact rfl) (hg:gm S (Zy1 ops i).g:=by trivial) (hx:S.x x = .oel j (z.toNat*n) off:=by exact rfl) (hj:Zp S.ss j=some ⟨T,n,l'.map f⟩:=by exact rfl)
 (hl:Zt (f y) off 1=some [v]:=by exact rfl):GO c all ops af Φ m ld S i:=Ztf h6 f hv E hg hx hj hl h
theorem GI (h6:all.toList.mapM (Ze c.P all)=some ops) {i:Nat} {α:Type} {l':List α} {z:Int} {v:α} {T n j:Nat} {x y:X} (f:α→List AV) (hv:at_ l' z=some v) (h:G c all ops af Φ m (Zu1 ld i) (S.put (Zy1 ops i).d (.oel j (z.toNat*n) 0))) (E:(Zy1 ops i).o = .idx n x y:=by exact rfl) (hg:gm S (Zy1 ops i).g:=by trivial) (hx:S.x x = .osl j:=by exact rfl) (hi:S.x y = .iv z:=by exact rfl) (hj:Zp S.ss j=some ⟨T,n,l'.map f⟩:=by exact rfl):GO c all ops af Φ m ld S i:=Zsf h6 f hv E hg hx hi hj h
end
section
variable {c:Ctx} {S:St} {fn:Func} {K:AV→List (Option Blk)→List (Option Sl)→Prop} {k:List It} {β:Type}
theorem Zej {ops:List EOp} {af nap:List (List Nat)} (h:∀all,HA c all ops af nap→G c all ops af (fun S'=>V c fn K k S') (Zw ops) (Z99 (Zw ops)) S) (hm:c.P.follows .mixedOrders=true:=by kernel_rfl):V c fn K (.code (.drw ops af nap)::k) S:=Zd9 hm fun all h6 hs h8 h9=>h all ⟨h6,hs,h9,h8⟩
@[go_sem] def Zfj (S:St) (p q:Nat):St:=match Zp S.ss p with | some L=>S.renS p q L | none=>S
theorem Zgj (p q:Nat) (h:V c fn K k (Zfj S p q)) (hp:(Zp S.ss p).isSome=true:=by exact rfl) (hq:Z5 (q+1) (Zw S.ss)=true:=by exact rfl) (h6:(p==q)=false:=by exact rfl) (hqn:Z5 c.nq q=true:=by rfl) (h8:Zk1 S.ss=true:=by first | rfl | simp [go_sem]):V c fn K k S:=by
 cases hL:Zp S.ss p with
 | none=>rw [hL] at hp;simp at hp
 | some L=>unfold Zfj at h;rw [hL] at h;exact Zab p q hL hq h6 h hqn h8
theorem Zhj (j:Nat) {L:Sl} (h:V c fn K k (S.sealS j L)) (hj:Zp S.ss j=some L:=by exact rfl) (h6:Zj1 L.rows=true:=by first | rfl | simp [go_sem]):V c fn K k S:=Zc8 j hj h h6
theorem Zij (j o T n:Nat) {B:Blk} (h:V c fn K k ⟨S.tm,Zq S.bs j (some ⟨B.T,Zo B.cells o (.osl (Zw S.ss))⟩),S.ss++[some ⟨T,n,[]⟩]⟩) (hj:Zp S.bs j=some B:=by exact rfl) (ho:Zn B.cells o = .nl:=by exact rfl) (hn:Z5 1 n=true:=by exact rfl):V c fn K k S:=Zcb j o T n hj ho hn h
theorem Zjj (T n:Nat) (h:V c fn K k ⟨S.tm,S.bs,S.ss++[some ⟨T,n,[]⟩]⟩) (E:Z5 1 n=true:=by exact rfl):V c fn K k S:=Zxf T n E h
theorem MI {o:X} {a b:EC} {e:Bool} {A B:Option β} {r:β} (h:ifb e A B=some r) (h1:A=some r→V c fn K (.code a::k) S) (h2:B=some r→V c fn K (.code b::k) S) (hx:S.x o = .bv e:=by exact rfl):V c fn K (.code (.ite o a b)::k) S:=Zfc h hx (fun _=>h1) fun _=>h2
theorem MC (t:Nat) {e:Bool} {A B:Option β} {r:β} (h:ifb e A B=some r) (h1:A=some r→V c fn K k ⟨Zo S.tm t .tt,S.bs,S.ss⟩) (h2:B=some r→V c fn K k ⟨Zo S.tm t .ff,S.bs,S.ss⟩) (ht:Zn S.tm t = .bv e:=by exact rfl):V c fn K k S:=Zpc t h ht (fun _=>h1) fun _=>h2
theorem Zkj {f:Nat} {fn:Func} {body:EC} {rs:List ERes} {np nt:Nat} {x v:AV} {E:List (Option Blk)} {J:List (Option Sl)} (ok:FnOK c.P f fn body rs np nt) (h:Zs1 S rs=some x:=by exact rfl) (hle:St.le ⟨[x],S.bs,S.ss⟩ ⟨[v],E,J⟩:=by simp [go_sem]):V c fn (fun x b s=>St.le ⟨[x],b,s⟩ ⟨[v],E,J⟩) (.code .ret::k) S:=Z2f ok h hle
theorem Zlj {f:Nat} {fn:Func} {body:EC} {rs:List ERes} {np nt:Nat} {x v:AV} {E:List (Option Blk)} {J:List (Option Sl)} (ok:FnOK c.P f fn body rs np nt) (h:Zs1 S rs=some x:=by exact rfl) (hle:St.le ⟨[x],S.bs,S.ss⟩ ⟨[v],E,J⟩:=by simp [go_sem]):V c fn (fun x b s=>St.le ⟨[x],b,s⟩ ⟨[v],E,J⟩) [] S:=Z3f ok h hle
end
theorem FT {P:Program} {f:Nat} {fn:Func} {body:EC} {rs:List ERes} {np nt:Nat} (U:FnOK P f fn body rs np nt) {args:List AV} {bs E:List (Option Blk)} {ss J:List (Option Sl)} {v:AV}
 (h:∀w M,V (Ctx.lent P w M bs ss (Zw bs) (Zw ss)) fn (fun x b s=>St.le ⟨[x],b,s⟩ ⟨[v],E,J⟩) [.code body] ⟨args++lun nt,bs,ss⟩) (Y:args.length=np:=by exact rfl) (h1:Z5 (Zw bs) (Zw E)=true:=by exact rfl) (h2:Z5 (Zw ss) (Zw J)=true:=by exact rfl) (h3:St.ok ⟨[v],E,J⟩=true:=by first | rfl | simp [go_sem]):Z0f P f args bs ss v E J:=Z1f U Y h1 h2 h3 h
theorem FP {P:Program} {f:Nat} {fn:Func} {body:EC} {rs:List ERes} {np nt:Nat} (E:FnOK P f fn body rs np nt) {args:List AV} {res:AV} (h:∀w0 H0,V (Ctx.of P w0 H0) fn (fun x _ _=>x.le res) [.code body] (St.init args nt)) (J:args.length=np:=by exact rfl) (hp:res.pu=true:=by exact rfl):Zy6 P f args res:=Z47 E J hp h
@[go_sem] def mkm (l:List Nat):Nat→Nat→List Bool
  | 0,_=>[]
  | n+1,i=>Zf i l::mkm l n (i+1)
attribute [go_sem] Zf
section
variable {c:Ctx} {S:St} {fn:Func} {K:AV→List (Option Blk)→List (Option Sl)→Prop} {k:List It}
theorem V_cR {d:Option Nat} {g:Option (Nat×Bool)} {l:List EOp} {f:Nat} {xs:List X} {args:List AV} {v:AV} {bs J:List (Option Blk)} {ss E:List (Option Sl)} (pb ps:List Nat) (B Q:Nat) (h0:Z0f c.P f args bs ss v J E)
  (h:V c fn K (.ops l::k) ((⟨S.tm,mrg (mkm pb B 0) S.bs (spr (Zii B) pb (Zhi pb ps B Q J)),mrg (mkm ps Q 0) S.ss (spr (Zii Q) ps E)⟩:St).put d (v.rnF pb ps B Q))) (hb:Zw pb=Zw bs:=by rfl) (hs:Zw ps=Zw ss:=by rfl) (hpb:Zki B pb=true:=by rfl) (hps:Zki Q ps=true:=by rfl) (hp:Zk1 ss=true:=by first | rfl | simp [go_sem]) (hp':Zk1 E=true:=by first | rfl | simp [go_sem])
  (h6:msk (mkm pb B 0) S.bs=spr (Zii B) pb (Zhi pb ps B Q bs):=by rfl) (h8:msk (mkm ps Q 0) S.ss=spr (Zii Q) ps ss:=by rfl) (ha:AV.le.leL (Z71 S xs) (Zgi pb ps B Q args):=by first | exact Zqb _ | simp [go_sem]) (hg:gm S g:=by trivial):V c fn K (.ops (⟨d,g,.call f xs⟩::l)::k) S:=
 Z8f (mkm pb B 0) (mkm ps Q 0) hg (Z9j pb ps B Q h0 hb hs hpb hps hp hp') h6 h8 ha h
end
section
variable {c:Ctx} {all:Array Oper} {ops:List EOp} {af:List (List Nat)} {Φ:St→Prop} {m':Nat} {ld:List Bool} {S:St}
theorem Zmj (h6:all.toList.mapM (Ze c.P all)=some ops) {i f:Nat} {xs:List X} {args:List AV} {v:AV} {bs J:List (Option Blk)} {ss E:List (Option Sl)} (pb ps:List Nat) (B Q:Nat) (h0:Z0f c.P f args bs ss v J E)
  (h:G c all ops af Φ m' (Zu1 ld i) ((⟨S.tm,S.bs,mrg (mkm ps Q 0) S.ss (spr (Zii Q) ps E)⟩:St).put (Zy1 ops i).d (v.rnF pb ps B Q))) (hb:Zw pb=Zw bs:=by rfl) (hs:Zw ps=Zw ss:=by rfl) (hpb:Zki B pb=true:=by rfl) (hps:Zki Q ps=true:=by rfl) (hp:Zk1 ss=true:=by first | rfl | simp [go_sem]) (hp':Zk1 E=true:=by first | rfl | simp [go_sem]) (ho:(Zy1 ops i).o = .call f xs:=by exact rfl) (hg:gm S (Zy1 ops i).g:=by trivial)
  (h8:msk (mkm pb B 0) S.bs=spr (Zii B) pb (Zhi pb ps B Q bs):=by rfl) (h9:msk (mkm ps Q 0) S.ss=spr (Zii Q) ps ss:=by rfl) (hc:mrg (mkm pb B 0) S.bs (spr (Zii B) pb (Zhi pb ps B Q J))=S.bs:=by rfl) (ha:AV.le.leL (Z71 S xs) (Zgi pb ps B Q args):=by first | exact Zqb _ | simp [go_sem]):GO c all ops af Φ m' ld S i:=
 Zqg h6 (mkm pb B 0) (mkm ps Q 0) ho hg (Z9j pb ps B Q h0 hb hs hpb hps hp hp') h8 h9 hc ha h
theorem Znj (h6:all.toList.mapM (Ze c.P all)=some ops) {i f:Nat} {xs:List X} {args:List AV} {v:AV} {bs J:List (Option Blk)} {ss E:List (Option Sl)} (pb ps:List Nat) (B Q:Nat) (h0:Z0f c.P f args bs ss v J E)
  (h:G c all ops af Φ m' (Zu1 ld i) ((⟨S.tm,mrg (mkm pb B 0) S.bs (spr (Zii B) pb (Zhi pb ps B Q J)),mrg (mkm ps Q 0) S.ss (spr (Zii Q) ps E)⟩:St).put (Zy1 ops i).d (v.rnF pb ps B Q))) (h8:Zmh af i ops 0=true:=by kernel_rfl) (hb:Zw pb=Zw bs:=by rfl) (hs:Zw ps=Zw ss:=by rfl) (hpb:Zki B pb=true:=by rfl) (hps:Zki Q ps=true:=by rfl) (hp:Zk1 ss=true:=by first | rfl | simp [go_sem]) (hp':Zk1 E=true:=by first | rfl | simp [go_sem]) (ho:(Zy1 ops i).o = .call f xs:=by exact rfl) (hg:gm S (Zy1 ops i).g:=by trivial)
  (h9:msk (mkm pb B 0) S.bs=spr (Zii B) pb (Zhi pb ps B Q bs):=by rfl) (hc:msk (mkm ps Q 0) S.ss=spr (Zii Q) ps ss:=by rfl) (ha:AV.le.leL (Z71 S xs) (Zgi pb ps B Q args):=by first | exact Zqb _ | simp [go_sem]):GO c all ops af Φ m' ld S i:=
 Zph h6 h8 (mkm pb B 0) (mkm ps Q 0) ho hg (Z9j pb ps B Q h0 hb hs hpb hps hp hp') h9 hc ha h
end
section
variable {c:Ctx} {S S':St} {fn:Func} {K:AV→List (Option Blk)→List (Option Sl)→Prop} {k:List It}
theorem LR {S:St}:Zwc S S:=Zwc.refl S
theorem VC {d:Option Nat} {g:Option (Nat×Bool)} {f:Nat} {xs:List X} {l:List EOp} {args:List AV} {res:AV} (E:Zy6 c.P f args res) (h:V c fn K (.ops l::k) (S.put d res))
 (ha:AV.le.leL (Z71 S xs) args:=by first | exact Zqb _ | simp [go_sem]) (hp:puL args=true:=by first | rfl | simp [go_sem]) (hg:gm S g:=by trivial):V c fn K (.ops (⟨d,g,.call f xs⟩::l)::k) S:=Zf7 hg E ha hp h
theorem VL {d:Option Nat} {g:Option (Nat×Bool)} {f:Nat} {xs:List X} {l:List EOp} {args:List AV} {res:AV} (hs:Zwc S S') (E:Zy6 c.P f args res) (h:V c fn K (.ops l::k) (S.put d res))
 (ha:AV.le.leL (Z71 S' xs) args:=by first | exact Zqb _ | simp [go_sem]) (hp:puL args=true:=by first | rfl | simp [go_sem]) (h6:res.flat=true:=by rfl) (hg:gm S g:=by trivial):V c fn K (.ops (⟨d,g,.call f xs⟩::l)::k) S:=Zzc hg hs E ha hp h6 h
end
section
variable {c:Ctx} {all:Array Oper} {ops:List EOp} {af:List (List Nat)} {Φ:St→Prop} {m:Nat} {ld:List Bool} {S S':St}
theorem GC (h6:all.toList.mapM (Ze c.P all)=some ops) {i f:Nat} {xs:List X} {args:List AV} {res:AV} (E:Zy6 c.P f args res) (h:G c all ops af Φ m (Zu1 ld i) (S.put (Zy1 ops i).d res)) (J:(Zy1 ops i).o = .call f xs:=by exact rfl) (hg:gm S (Zy1 ops i).g:=by trivial)
 (ha:AV.le.leL (Z71 S xs) args:=by first | exact Zqb _ | simp [go_sem]) (hp:puL args=true:=by first | rfl | simp [go_sem]):GO c all ops af Φ m ld S i:=Zua h6 J hg E ha hp h
theorem GK (h6:all.toList.mapM (Ze c.P all)=some ops) {i f:Nat} {xs:List X} {args:List AV} {res:AV} (hs:Zwc S S') (E:Zy6 c.P f args res) (h:G c all ops af Φ m (Zu1 ld i) (S.put (Zy1 ops i).d res)) (J:(Zy1 ops i).o = .call f xs:=by exact rfl) (hg:gm S (Zy1 ops i).g:=by trivial)
 (ha:AV.le.leL (Z71 S' xs) args:=by first | exact Zqb _ | simp [go_sem]) (hp:puL args=true:=by first | rfl | simp [go_sem]) (h8:res.flat=true:=by rfl):GO c all ops af Φ m ld S i:=Z0d h6 J hg hs E ha hp h8 h
end
end NX
end Go.Proofs.YtgamgemlekpepaaGreat
/-
  Runs whose end is told by simplifying it. No statement of the seat is proved here.
-/
namespace Go.Proofs.YtgamgemlekpepaaGreat
namespace NX
open Go
section
variable {c:Ctx} {S S':St} {fn:Func} {K:AV→List (Option Blk)→List (Option Sl)→Prop} {k k':List It} {p:Prop}
theorem Vg (m:Nat) (h:V c fn K k' S') (he:run m k S True=(k',S',p):=by dsimp only[go_sem]<;>exact rfl) (hp:p:=by simp):V c fn K k S:=Zf6 m (by rw [he];exact ⟨hp,h⟩)
end
section
variable {c:Ctx} {all:Array Oper} {ops:List EOp} {af nap:List (List Nat)} {Φ:St→Prop} {m:Nat} {ld ld':List Bool} {S S':St} {p:Prop}
theorem Gn (H:HA c all ops af nap) (m r:Nat) (h:G c all ops af Φ r ld' S') (he:Zia ops af nap m ld S True=(0,ld',S',p):=by dsimp only[go_sem]<;>exact rfl) (hp:p:=by simp):G c all ops af Φ (m+r) ld S:=GN H m r (by rw [he];exact ⟨hp,by simpa using h⟩)
end
theorem MD {P:Program} {w0:World} {H0:Frag} {f:Nat} {fn:Func} {body:EC} {rs:List ERes} {np nt:Nat} {β:Type} {e r:β} {T:AV} {S:St} {k:List It} (ok:FnOK P f fn body rs np nt) (h:some e=some r)
 (hl:e=r→leO (Zs1 S rs) T:=by rintro rfl;first | exact le_refl _ | simp [go_sem]):V (Ctx.of P w0 H0) fn (fun x _ _=>x.le T) (.code .ret::k) S:=Zmb ok (hl (Option.some.inj h))
theorem MS {P:Program} {w0:World} {H0:Frag} {f:Nat} {fn:Func} {body:EC} {rs:List ERes} {np nt:Nat} {β:Type} {e r:β} {T:AV} {S:St} (ok:FnOK P f fn body rs np nt) (h:some e=some r)
 (hl:e=r→leO (Zs1 S rs) T:=by rintro rfl;first | exact le_refl _ | simp [go_sem]):V (Ctx.of P w0 H0) fn (fun x _ _=>x.le T) [] S:=Znb ok (hl (Option.some.inj h))
end NX
end Go.Proofs.YtgamgemlekpepaaGreat
/-
  Drawn regions that end alike whichever way they go: their games are played by a tactic. No statement of the seat is proved here.
-/
namespace Go.Proofs.YtgamgemlekpepaaGreat
namespace NX
open Go
section
theorem Zoj {c:Ctx} {all:Array Oper} {ops:List EOp} {af:List (List Nat)} {Φ Ψ:St→Prop} (E:∀S,Φ S→Ψ S):∀(m:Nat) (ld:List Bool) (S:St),G c all ops af Φ m ld S→G c all ops af Ψ m ld S
 | 0,_,_,h=>⟨h.1,E _ h.2⟩
 | m+1,_,_,h=>⟨fun e=>E _ (h.1 e),fun i hi=>(h.2 i hi).imp (fun x=>⟨x.1,Zoj E m _ _ x.2⟩) fun ⟨g,v,S1,a,b,d,e⟩=>⟨g,v,S1,a,b,d,Zoj E m _ _ e⟩⟩
variable {c:Ctx} {all:Array Oper} {ops:List EOp} {af nap:List (List Nat)} {Φ:St→Prop} {m m':Nat} {ld ld':List Bool} {S S':St} {p:Prop}
theorem Rd (hr:rdy ld af 0=[]:=by exact rfl):G c all ops af (fun S'=>S'=S) m ld S:=Zla (Φ:=fun S'=>S'=S) hr rfl m
theorem Rg (h:G c all ops af Φ m' ld' S') (H:HA c all ops af nap:=by assumption) (he:Zia ops af nap m ld S True=(m',ld',S',p):=by dsimp only[go_sem]<;>exact rfl) (_hn:(m'==m)=false:=by exact rfl) (hp:p:=by simp):G c all ops af Φ m ld S:=G_go H.1 H.2.1 H.2.2.1 H.2.2.2 (by rw [he];exact ⟨hp,h⟩)
theorem R1 {i:Nat} {v:AV} {S1:St} {q:Prop} (h:G c all ops af Φ m ld' S') (H:HA c all ops af nap:=by assumption) (hr:rdy ld af 0=[i]:=by exact rfl) (he:geO S (Zy1 ops i)=some (v,S1,q):=by exact rfl) (hq:q:=by trivial)
  (hS:(Zu1 ld i,S1.put (Zy1 ops i).d v)=(ld',S'):=by dsimp only[go_sem]<;>exact rfl):G c all ops af Φ (m+1) ld S:=by
 simp only [Prod.mk.injEq] at hS;obtain ⟨rfl,rfl⟩:=hS;exact GE H.1 i h hr he hq
theorem RV {i:Nat} {v:AV} {S1:St} {q:Prop} (h:G c all ops af Φ m ld' S') (H:HA c all ops af nap:=by assumption) (he:geO S (Zy1 ops i)=some (v,S1,q):=by exact rfl) (hq:q:=by trivial)
  (hS:(Zu1 ld i,S1.put (Zy1 ops i).d v)=(ld',S'):=by dsimp only[go_sem]<;>exact rfl):GO c all ops af Φ m ld S i:=by
 simp only [Prod.mk.injEq] at hS;obtain ⟨rfl,rfl⟩:=hS;exact GV H.1 h he hq
theorem RO {i:Nat} (h:GO c all ops af Φ m ld S i) (hr:rdy ld af 0=[i]:=by exact rfl):G c all ops af Φ (m+1) ld S:=Zma i hr h
theorem R2 {i j:Nat} (h:GO c all ops af Φ m ld S i) (h2:GO c all ops af Φ m ld S j) (hr:rdy ld af 0=[i,j]:=by exact rfl):G c all ops af Φ (m+1) ld S:=Zna i j hr h h2
theorem R3 {i j k:Nat} (h:GO c all ops af Φ m ld S i) (h2:GO c all ops af Φ m ld S j) (h3:GO c all ops af Φ m ld S k) (hr:rdy ld af 0=[i,j,k]:=by exact rfl):G c all ops af Φ (m+1) ld S:=Zoa i j k hr h h2 h3
theorem RL {α:Type} {l':List α} {z:Int} {y:α} {j T n off i:Nat} {x:X} {v:AV} {f:α→List AV} (h:G c all ops af Φ m ld' S') (H:HA c all ops af nap:=by assumption) (ho:(Zy1 ops i).o = .load x:=by exact rfl) (hg:gm S (Zy1 ops i).g:=by trivial) (hx:S.x x = .oel j (z.toNat*n) off:=by exact rfl) (hj:Zp S.ss j=some ⟨T,n,l'.map f⟩:=by exact rfl)
  (hv:at_ l' z=some y:=by first | assumption | exact Zee (by assumption)) (hl:Zt (f y) off 1=some [v]:=by exact rfl) (hS:(Zu1 ld i,S.put (Zy1 ops i).d v)=(ld',S'):=by dsimp only[go_sem]<;>exact rfl):GO c all ops af Φ m ld S i:=by
 simp only [Prod.mk.injEq] at hS;obtain ⟨rfl,rfl⟩:=hS;exact GL H.1 f hv h ho hg hx hj hl
theorem RI {α:Type} {l':List α} {z:Int} {v:α} {T n j i:Nat} {x y:X} {f:α→List AV} (h:G c all ops af Φ m ld' S') (H:HA c all ops af nap:=by assumption) (ho:(Zy1 ops i).o = .idx n x y:=by exact rfl) (hg:gm S (Zy1 ops i).g:=by trivial) (hx:S.x x = .osl j:=by exact rfl) (hi:S.x y = .iv z:=by exact rfl) (hj:Zp S.ss j=some ⟨T,n,l'.map f⟩:=by exact rfl)
  (hv:at_ l' z=some v:=by first | assumption | exact Zee (by assumption)) (hS:(Zu1 ld i,S.put (Zy1 ops i).d (.oel j (z.toNat*n) 0))=(ld',S'):=by dsimp only[go_sem]<;>exact rfl):GO c all ops af Φ m ld S i:=by
 simp only [Prod.mk.injEq] at hS;obtain ⟨rfl,rfl⟩:=hS;exact GI H.1 f hv h ho hg hx hi hj
theorem Rx {α:Type} {l':List α} {z:Int} {v:α} {n k i:Nat} {x y:X} {f:α→List AV} {w:List Nat} (h:G c all ops af Φ m ld' S') (H:HA c all ops af nap:=by assumption) (hi:rdy ld af 0=w:=by exact rfl) (hw:Zw1 i w=true) (ho:(Zy1 ops i).o = .idx n x y:=by exact rfl) (hg:gm S (Zy1 ops i).g:=by trivial) (hx:S.x x = .sl k (l'.map f):=by exact rfl) (hy:S.x y = .iv z:=by exact rfl)
  (hv:at_ l' z=some v:=by assumption) (h6:k=n:=by exact rfl) (hf:frB ld af i (Zx1 nap i)=true:=by exact rfl) (hS:(Zu1 ld i,S.put (Zy1 ops i).d (.elt (f v) 0))=(ld',S'):=by dsimp only[go_sem]<;>exact rfl):G c all ops af Φ (m+1) ld S:=by
 simp only [Prod.mk.injEq] at hS;obtain ⟨rfl,rfl⟩:=hS;exact Zjc H.1 H.2.1 H.2.2.1 H.2.2.2 i f hv (by rw [hi];exact hw) ho hg hx hy h6 hf h
theorem RC {i f:Nat} {xs:List X} {args:List AV} {res:AV} (h:G c all ops af Φ m ld' S') (H:HA c all ops af nap:=by assumption) (ho:(Zy1 ops i).o = .call f xs:=by exact rfl) (hg:gm S (Zy1 ops i).g:=by trivial) (hf:Zy6 c.P f args res:=by assumption)
  (ha:AV.le.leL (Z71 S xs) args:=by first | exact Zqb _ | simp [go_sem]) (hp:puL args=true:=by first | rfl | simp [go_sem]) (hS:(Zu1 ld i,S.put (Zy1 ops i).d res)=(ld',S'):=by dsimp only[go_sem]<;>exact rfl):GO c all ops af Φ m ld S i:=by
 simp only [Prod.mk.injEq] at hS;obtain ⟨rfl,rfl⟩:=hS;exact GC H.1 hf h ho hg ha hp
theorem RA {α:Type} {b:Nat} {l' m' v:List α} {f:α→List AV} {i e n j:Nat} {x y:X} (h:G c all ops af Φ m ld' S') (H:HA c all ops af nap:=by assumption) (ho:(Zy1 ops i).o = .app e n b x y:=by exact rfl) (hg:gm S (Zy1 ops i).g:=by trivial)
  (hx:S.x x = .osl j:=by exact rfl) (hj:Zp S.ss j=some ⟨e,n,l'.map f⟩:=by exact rfl) (hv:Z7c b l' m'=some v:=by assumption) (hy:Zp1 S n (S.x y)=some (m'.map f):=by exact rfl) (hS:(Zu1 ld i,(S.app j ⟨e,n,v.map f⟩).put (Zy1 ops i).d (.osl (Zw S.ss)))=(ld',S'):=by dsimp only[go_sem]<;>exact rfl):GO c all ops af Φ m ld S i:=by
 simp only [Prod.mk.injEq] at hS;obtain ⟨rfl,rfl⟩:=hS;exact GA f hv H.1 h ho hg hx hj hy
theorem Rx1 {α:Type} {l':List α} {z:Int} {v:α} {n k i:Nat} {x y:X} {f:α→List AV} {w:List Nat} (h:G c all ops af Φ m ld' S') (hi:rdy ld af 0=i::w:=by exact rfl) (ho:(Zy1 ops i).o = .idx n x y:=by exact rfl) (H:HA c all ops af nap:=by assumption) (hg:gm S (Zy1 ops i).g:=by trivial) (hx:S.x x = .sl k (l'.map f):=by exact rfl) (hy:S.x y = .iv z:=by exact rfl)
 (hv:at_ l' z=some v:=by assumption) (h6:k=n:=by exact rfl) (hf:frB ld af i (Zx1 nap i)=true:=by exact rfl) (hS:(Zu1 ld i,S.put (Zy1 ops i).d (.elt (f v) 0))=(ld',S'):=by dsimp only[go_sem]<;>exact rfl):G c all ops af Φ (m+1) ld S:=Rx h H hi (by simp [Zw1]) ho hg hx hy hv h6 hf hS
theorem Rx2 {α:Type} {l':List α} {z:Int} {v:α} {n k i a:Nat} {x y:X} {f:α→List AV} {w:List Nat} (h:G c all ops af Φ m ld' S') (hi:rdy ld af 0=a::i::w:=by exact rfl) (ho:(Zy1 ops i).o = .idx n x y:=by exact rfl) (H:HA c all ops af nap:=by assumption) (hg:gm S (Zy1 ops i).g:=by trivial) (hx:S.x x = .sl k (l'.map f):=by exact rfl) (hy:S.x y = .iv z:=by exact rfl)
 (hv:at_ l' z=some v:=by assumption) (h6:k=n:=by exact rfl) (hf:frB ld af i (Zx1 nap i)=true:=by exact rfl) (hS:(Zu1 ld i,S.put (Zy1 ops i).d (.elt (f v) 0))=(ld',S'):=by dsimp only[go_sem]<;>exact rfl):G c all ops af Φ (m+1) ld S:=Rx h H hi (by simp only [Zw1];split<;>simp) ho hg hx hy hv h6 hf hS
theorem Gs {E:St} (h:Φ E) (h1:G c all ops af (fun S'=>S'=E) m ld S:=by
 repeat' first
  | exact Rd
  | refine Rg ?_
  | refine Rx1 ?_
  | refine Rx2 ?_
  | refine R1 ?_
  | refine R2 ?_ ?_
  | refine RO ?_
  | refine R3 ?_ ?_ ?_
  | refine RV ?_
  | refine RI ?_
  | refine RL ?_
  | refine RC ?_
  | refine RA ?_):G c all ops af Φ m ld S:=Zoj (fun _ e=>by rw [e];exact h) _ _ _ h1
end
end NX
end Go.Proofs.YtgamgemlekpepaaGreat
