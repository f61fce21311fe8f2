/-
  The symbolic machine: a function that is lent own memory, whatever the names are by which its caller has it. No statement of the seat is proved here.
-/
import Derived.KernelRfl
import Derived.Test.YtjemlejoladlcaaGreatL12
namespace Go.Proofs.YtjemlejoladlcaaGreat
namespace NX
open Go Go.RowKit
def Ba:List Nat→Nat→Nat→Nat
 | [],B,i=>B+i
 | x::_,_,0=>x
 | _::l,B,i+1=>Ba l B i
mutual
def AV.rnF (pb ps:List Nat) (B Q:Nat):AV→AV
 | .ptr j off=>.ptr (Ba pb B j) off
 | .osl j=>.osl (Ba ps Q j)
 | .oel j i off=>.oel (Ba ps Q j) i off
 | .ocs j lo n m=>.ocs (Ba ps Q j) lo n m
 | .agg l=>.agg (D2 pb ps B Q l)
 | .tup l=>.tup (D2 pb ps B Q l)
 | .clo f l=>.clo f (D2 pb ps B Q l)
 | .any=>.any
 | .un=>.un
 | .tt=>.tt
 | .ff=>.ff
 | .bv e=>.bv e
 | .iv n=>.iv n
 | .kv k n=>.kv k n
 | .sv x=>.sv x
 | .nl=>.nl
 | .nlp=>.nlp
 | .fn f=>.fn f
 | .elt r o=>.elt r o
 | .sl n rows=>.sl n rows
def D2 (pb ps:List Nat) (B Q:Nat):List AV→List AV
 | []=>[]
 | x::l=>AV.rnF pb ps B Q x::D2 pb ps B Q l
end
def BE (pb ps:List Nat) (B Q:Nat):List (Option Blk)→List (Option Blk)
 | []=>[]
 | none::l=>none::BE pb ps B Q l
 | some b::l=>some ⟨b.T,D2 pb ps B Q b.cells⟩::BE pb ps B Q l
def AP {α:Type}:Nat→List (Option α)
 | 0=>[]
 | n+1=>none::AP n
def AH {α:Type}:List (Option α)→List Nat→List (Option α)→List (Option α)
 | l,_,[]=>l
 | l,[],x::r=>l++x::r
 | l,k::p,x::r=>AH (Ar l k x) p r
def TQ (k:Nat):List Nat→Bool
 | []=>false
 | x::l=>match k==x with
   | true=>true
   | false=>TQ k l
def C3 (B:Nat):List Nat→Bool
 | []=>true
 | x::l=>BS (AA (x+1) B) (match TQ x l with
   | true=>false
   | false=>C3 B l)
attribute [go_sem] Ba AV.rnF D2 BE AP AH
theorem cz (k:Nat):∀l,TQ k l=true↔k∈l
 | []=>by simp [TQ]
 | x::l=>by
   simp only [TQ];split
   ·rename_i h;simp at h;simp [h]
   ·rename_i h;simp at h;simp [h,cz k l]
theorem Yo {B:Nat}:∀ {l:List Nat},C3 B l=true→∀x∈l,x<B
 | [],_,_,h=>by simp at h
 | x::l,h,y,hy=>by
   simp only [C3,AO,D0] at h;rcases List.mem_cons.1 hy with rfl | hy
   ·exact h.1
   ·have:=h.2;split at this
    ·simp at this
    ·exact Yo this y hy
theorem Uc:∀ {p:List Nat} {B i:Nat},i<p.length→Ba p B i∈p
 | [],_,_,h=>by simp at h
 | x::l,_,0,_=>by simp [Ba]
 | x::l,B,i+1,h=>by simp only [Ba];exact List.mem_cons_of_mem _ (Uc (by simpa using h))
theorem K4:∀ {p:List Nat} {B i:Nat},p.length≤i→Ba p B i=B+(i-p.length)
 | [],_,_,_=>by simp [Ba]
 | x::l,_,0,h=>by simp at h
 | x::l,B,i+1,h=>by simp only [Ba];rw [K4 (by simpa using h)];simp
theorem dn:∀ {p:List Nat} {B i j:Nat},C3 B p=true→Ba p B i=Ba p B j→i=j
 | [],_,_,_,_,h=>by simp only [Ba] at h;omega
 | x::l,B,i,j,hn,h=>by
   have hn':=hn;simp only [C3,AO,D0] at hn;obtain ⟨hx,h2⟩:=hn;split at h2
   ·simp at h2
   ·rename_i hm;have hm:x∉l:=fun h6=>by rw [(cz x l).2 h6] at hm;simp at hm
    have Af:∀i,Ba l B i≠x:=by
     intro i e;by_cases hi:i<l.length
     ·exact hm (e ▸ Uc hi)
     ·rw [K4 Om] at e;omega
    cases i with
    | zero=>cases j with
      | zero=>rfl
      | succ j=>simp only [Ba] at h;exact absurd h.symm (Af j)
    | succ i=>cases j with
      | zero=>simp only [Ba] at h;exact absurd h (Af i)
      | succ j=>simp only [Ba] at h;rw [dn h2 h]
theorem GM {α:Type}:∀n,(AP n:List (Option α)).length=n
 | 0=>rfl
 | n+1=>by simp [AP,GM n]
theorem cK {α:Type}:∀n j,A2 (AP n:List (Option α)) j=none
 | 0,j=>by simp [AP,A2]
 | n+1,0=>by simp [AP,A2]
 | n+1,j+1=>by simp [AP,A2,cK n j]
theorem Zf {α:Type}:∀(l:List (Option α)) (p:List Nat) (r:List (Option α)),p.length≤r.length→(AH l p r).length=l.length+(r.length-p.length)
 | l,p,[],h=>by
   have:p.length=0:=by simpa using h
   simp [AH,this]
 | l,[],x::r,_=>by simp [AH]
 | l,k::p,x::r,h=>by simp only [AH];rw [Zf _ p r (by simpa using h),Dd];simp
theorem nC {α:Type}:∀(l:List (Option α)) (p:List Nat) (r:List (Option α)),p.length=r.length→(AH l p r).length=l.length:=by intro l p r h;rw [Zf l p r Om,h];simp
theorem dX {α:Type}:∀ {l:List (Option α)} {p:List Nat} {r:List (Option α)} {j:Nat} {x:α},p.length≤r.length→A2 (AH l p r) j=some x→
  A2 l j=some x∨∃i,Ba p l.length i=j∧A2 r i=some x
 | l,p,[],j,x,h,h1=>.inl (by simpa [AH] using h1)
 | l,[],y::r,j,x,_,h1=>by
   simp only [AH] at h1;have:∀(l:List (Option α)) (j:Nat),A2 (l++y::r) j=some x→A2 l j=some x∨∃i,l.length+i=j∧A2 (y::r) i=some x:=by
    intro l;induction l with
    | nil=>intro j h;exact .inr ⟨j,by simp,h⟩
    | cons z l ih=>
      intro j h;cases j with
      | zero=>exact .inl h
      | succ j=>
        rcases ih j h with h | ⟨i,h2,h3⟩
        ·exact .inl h
        ·exact .inr ⟨i,by simp;omega,h3⟩
   rcases this l j h1 with h | ⟨i,h2,h3⟩
   ·exact .inl h
   ·exact .inr ⟨i,by simpa [Ba] using h2,h3⟩
 | l,k::p,y::r,j,x,h,h1=>by
   simp only [AH] at h1;rcases dX (by simpa using h) h1 with h2 | ⟨i,h2,h3⟩
   ·rw [Du] at h2;split at h2
    ·rename_i e;exact .inr ⟨0,by simp [Ba,e.1],by simpa [A2] using h2⟩
    ·exact .inl h2
   ·rw [Dd] at h2;exact .inr ⟨i+1,by simpa [Ba] using h2,by simpa [A2] using h3⟩
theorem nB {α:Type}:∀ {l:List (Option α)} {p:List Nat} {r:List (Option α)} {j:Nat},j<l.length→j∉p→A2 (AH l p r) j=A2 l j
 | l,p,[],j,_,_=>by simp [AH]
 | l,[],y::r,j,h,_=>by
   simp only [AH];have:∀(l:List (Option α)) (j:Nat),j<l.length→A2 (l++y::r) j=A2 l j:=by
    intro l;induction l with
    | nil=>intro j h;simp at h
    | cons z l ih=>intro j h;cases j with
      | zero=>rfl
      | succ j=>exact ih j (by simpa using h)
   exact this l j h
 | l,k::p,y::r,j,h,hn=>by simp only [AH];rw [nB (by rw [Dd];exact h) (fun e=>hn (List.mem_cons_of_mem _ e)),Du,if_neg (fun e=>hn (by rw [e.1];simp))]
theorem dY {α:Type}:∀ {l:List (Option α)} {p:List Nat} {r:List (Option α)} {i:Nat} {x:α},C3 l.length p=true→A2 r i=some x→A2 (AH l p r) (Ba p l.length i)=some x
 | l,p,[],i,x,_,h=>by simp [A2] at h
 | l,[],y::r,i,x,_,h=>by
   simp only [AH,Ba];have:∀(l:List (Option α)) (i:Nat),A2 (l++y::r) (l.length+i)=A2 (y::r) i:=by
    intro l;induction l with
    | nil=>intro i;simp
    | cons z l ih=>intro i;rw [show (z::l).length+i=(l.length+i)+1 by simp;omega];simpa [A2] using ih i
   rw [this];exact h
 | l,k::p,y::r,i,x,hn,h=>by
   have h8:=hn;simp only [C3,AO,D0] at hn;obtain ⟨hk,h2⟩:=hn;split at h2
   ·simp at h2
   ·rename_i hm;have hm:k∉p:=fun h6=>by rw [(cz k p).2 h6] at hm;simp at hm
    simp only [AH];cases i with
    | zero=>simp only [Ba];rw [nB (by rw [Dd];exact hk) hm,Du,if_pos ⟨rfl,hk⟩];simpa [A2] using h
    | succ i=>simp only [Ba];have:=dY (l:=Ar l k y) (p:=p) (r:=r) (i:=i) (x:=x) (by rw [Dd];exact h2) (by simpa [A2] using h);rwa [Dd] at this
mutual
theorem yL (pb ps:List Nat) (B Q:Nat):∀(x:AV),x.pu=true→AV.rnF pb ps B Q x=x:=by
 intro x h;cases x<;>simp_all [AV.pu,AV.rnF]
 all_goals exact YR pb ps B Q _ h
theorem YR (pb ps:List Nat) (B Q:Nat):∀(l:List AV),AD l=true→D2 pb ps B Q l=l
 | [],_=>rfl
 | x::l,h=>by simp only [AD] at h;cases hx:x.pu<;>simp [hx,BS] at h;simp [D2,yL pb ps B Q x hx,YR pb ps B Q l h]
end
def Mem.inn (M:Mem) (pb ps:List Nat):Mem:=⟨fun i=>M.ρ (Ba pb M.nb i),fun i=>M.σ (Ba ps M.ns i),pb.length,ps.length,M.H⟩
mutual
theorem yK {M:Mem} {pb ps:List Nat} (hpb:C3 M.nb pb=true) (hps:C3 M.ns ps=true):∀(x:AV) (v:Value),(x.rnF pb ps M.nb M.ns).is M v→x.is (M.inn pb ps) v
 | .any,_,_=>trivial
 | .un,_,k=>k
 | .tt,_,k=>k
 | .ff,_,k=>k
 | .bv _,_,k=>k
 | .iv _,_,k=>k
 | .kv _ _,_,k=>k
 | .sv _,_,k=>k
 | .nl,_,k=>k
 | .nlp,_,k=>k
 | .fn _,_,k=>k
 | .ptr j off,_,k=>by
   refine ⟨?_,k.2⟩;have h1:Ba pb M.nb j<M.nb:=k.1;by_cases h:j<pb.length
   ·exact h
   ·rw [K4 Om] at h1;omega
 | .osl j,_,k=>by
   refine ⟨?_,k.2⟩;have h1:Ba ps M.ns j<M.ns:=k.1;by_cases h:j<ps.length
   ·exact h
   ·rw [K4 Om] at h1;omega
 | .oel j a off,_,k=>by
   refine ⟨?_,k.2⟩;have h1:Ba ps M.ns j<M.ns:=k.1;by_cases h:j<ps.length
   ·exact h
   ·rw [K4 Om] at h1;omega
 | .ocs j a n off,_,k=>by
   refine ⟨?_,k.2⟩;have h1:Ba ps M.ns j<M.ns:=k.1;by_cases h:j<ps.length
   ·exact h
   ·rw [K4 Om] at h1;omega
 | .elt row off,_,k=>k
 | .sl n rows,_,k=>k
 | .agg l,_,⟨vs,h1,h2⟩=>⟨vs,h1,P4 hpb hps l vs h2⟩
 | .tup l,_,⟨vs,h1,h2⟩=>⟨vs,h1,P4 hpb hps l vs h2⟩
 | .clo f l,_,⟨vs,h1,h2⟩=>⟨vs,h1,P4 hpb hps l vs h2⟩
theorem P4 {M:Mem} {pb ps:List Nat} (hpb:C3 M.nb pb=true) (hps:C3 M.ns ps=true):∀(l:List AV) (vs:List Value),AV.isL M (D2 pb ps M.nb M.ns l) vs→AV.isL (M.inn pb ps) l vs
 | [],_,k=>k
 | x::l,_,⟨v,r,h1,h2,h3⟩=>⟨v,r,h1,yK hpb hps x v h2,P4 hpb hps l r h3⟩
end
def Mem.out (M M':Mem) (pb ps:List Nat):Mem:=⟨fun k=>if k<M.nb then M.ρ k else M'.ρ (pb.length+(k-M.nb)),fun k=>if k<M.ns then M.σ k else M'.σ (ps.length+(k-M.ns)),M.nb+(M'.nb-pb.length),M.ns+(M'.ns-ps.length),M'.H⟩
section
variable {M M':Mem} {pb ps:List Nat}
theorem y9 (hpb:C3 M.nb pb=true) (hp:∀j,j<pb.length→M'.ρ j=(M.inn pb ps).ρ j) (hl:pb.length≤M'.nb) {j:Nat} (hj:j<M'.nb):Ba pb M.nb j<(M.out M' pb ps).nb∧(M.out M' pb ps).ρ (Ba pb M.nb j)=M'.ρ j:=by
 by_cases h:j<pb.length
 ·have hlt:=Yo hpb _ (Uc (B:=M.nb) h);refine ⟨Nat.lt_of_lt_of_le hlt (Nat.le_add_right _ _),?_⟩;simp only [Mem.out];rw [if_pos hlt,hp j h];rfl
 ·have e:=K4 (p:=pb) (B:=M.nb) (i:=j) Om;rw [e];refine ⟨by simp only [Mem.out];omega,?_⟩;simp only [Mem.out];rw [if_neg Om];congr 1;omega
theorem ya (hps:C3 M.ns ps=true) (hp:∀j,j<ps.length→M'.σ j=(M.inn pb ps).σ j) (hl:ps.length≤M'.ns) {j:Nat} (hj:j<M'.ns):Ba ps M.ns j<(M.out M' pb ps).ns∧(M.out M' pb ps).σ (Ba ps M.ns j)=M'.σ j:=by
 by_cases h:j<ps.length
 ·have hlt:=Yo hps _ (Uc (B:=M.ns) h);refine ⟨Nat.lt_of_lt_of_le hlt (Nat.le_add_right _ _),?_⟩;simp only [Mem.out];rw [if_pos hlt,hp j h];rfl
 ·have e:=K4 (p:=ps) (B:=M.ns) (i:=j) Om;rw [e];refine ⟨by simp only [Mem.out];omega,?_⟩;simp only [Mem.out];rw [if_neg Om];congr 1;omega
mutual
theorem lS (ob:∀ {j:Nat},j<M'.nb→Ba pb M.nb j<(M.out M' pb ps).nb∧(M.out M' pb ps).ρ (Ba pb M.nb j)=M'.ρ j) (os:∀ {j:Nat},j<M'.ns→Ba ps M.ns j<(M.out M' pb ps).ns∧(M.out M' pb ps).σ (Ba ps M.ns j)=M'.σ j):∀(x:AV) (v:Value),x.is M' v→(x.rnF pb ps M.nb M.ns).is (M.out M' pb ps) v
 | .any,_,_=>trivial
 | .un,_,k=>k
 | .tt,_,k=>k
 | .ff,_,k=>k
 | .bv _,_,k=>k
 | .iv _,_,k=>k
 | .kv _ _,_,k=>k
 | .sv _,_,k=>k
 | .nl,_,k=>k
 | .nlp,_,k=>k
 | .fn _,_,k=>k
 | .ptr j off,_,k=>⟨(ob k.1).1,by rw [(ob k.1).2];exact k.2⟩
 | .osl j,_,k=>⟨(os k.1).1,by rw [(os k.1).2];exact k.2⟩
 | .oel j a off,_,k=>⟨(os k.1).1,by rw [(os k.1).2];exact k.2⟩
 | .ocs j a n off,_,k=>⟨(os k.1).1,by rw [(os k.1).2];exact k.2⟩
 | .elt row off,_,k=>k
 | .sl n rows,_,k=>k
 | .agg l,_,⟨vs,h1,h2⟩=>⟨vs,h1,Ub ob os l vs h2⟩
 | .tup l,_,⟨vs,h1,h2⟩=>⟨vs,h1,Ub ob os l vs h2⟩
 | .clo f l,_,⟨vs,h1,h2⟩=>⟨vs,h1,Ub ob os l vs h2⟩
theorem Ub (ob:∀ {j:Nat},j<M'.nb→Ba pb M.nb j<(M.out M' pb ps).nb∧(M.out M' pb ps).ρ (Ba pb M.nb j)=M'.ρ j) (os:∀ {j:Nat},j<M'.ns→Ba ps M.ns j<(M.out M' pb ps).ns∧(M.out M' pb ps).σ (Ba ps M.ns j)=M'.σ j):∀(l:List AV) (vs:List Value),AV.isL M' l vs→AV.isL (M.out M' pb ps) (D2 pb ps M.nb M.ns l) vs
 | [],_,k=>k
 | x::l,_,⟨v,r,h1,h2,h3⟩=>⟨v,r,h1,lS ob os x v h2,Ub ob os l r h3⟩
end
end
theorem P3 (pb ps:List Nat) (B Q:Nat):∀l,(BE pb ps B Q l).length=l.length
 | []=>rfl
 | none::l=>by simp [BE,P3 pb ps B Q l]
 | some b::l=>by simp [BE,P3 pb ps B Q l]
theorem YQ {pb ps:List Nat} {B Q:Nat}:∀ {l:List (Option Blk)} {i:Nat} {x:Blk},A2 (BE pb ps B Q l) i=some x↔∃y,A2 l i=some y∧x=⟨y.T,D2 pb ps B Q y.cells⟩
 | [],i,x=>by simp [BE,A2]
 | none::l,0,x=>by simp [BE,A2]
 | none::l,i+1,x=>by simpa [BE,A2] using YQ (l:=l)
 | some b::l,0,x=>by simp [BE,A2,eq_comm]
 | some b::l,i+1,x=>by simpa [BE,A2] using YQ (l:=l)
theorem di {M M':Mem} (hH:M.H=M'.H) {n:Nat}:∀ {rows:List (List AV)} {vss:List (List Value)},C1 rows=true→AV.isLL M n rows vss→AV.isLL M' n rows vss
 | [],_,_,h=>h
 | r::rows,_,hp,⟨v,q,h0,h1,h2,h3⟩=>by
   simp only [C1,AO] at hp;have e:M.pure.le M':=⟨Nat.zero_le _,Nat.zero_le _,fun _ h=>absurd h (Nat.not_lt_zero _),fun _ h=>absurd h (Nat.not_lt_zero _),fun k o h=>by rw [←hH];exact h⟩
   exact ⟨v,q,h0,h1,E0 e _ _ (Fd r v h2 hp.1),di hH hp.2 h3⟩
theorem YO:∀ {ss:List (Option Sl)} {j:Nat} {L:Sl},C7 ss=true→A2 ss j=some L→C1 L.rows=true
 | [],_,_,_,h=>by simp [A2] at h
 | none::l,0,_,_,h=>by simp [A2] at h
 | none::l,j+1,_,hp,h=>YO (ss:=l) (by simpa [C7] using hp) (by simpa [A2] using h)
 | some L::l,0,_,hp,h=>by simp only [C7,AO] at hp;simp [A2] at h;subst h;exact hp.1
 | some L::l,j+1,_,hp,h=>by simp only [C7,AO] at hp;exact YO hp.2 (by simpa [A2] using h)
theorem FQ {P:Program} {f:Nat} {args:List AV} {bs bs':List (Option Blk)} {ss ss':List (Option Sl)} {v:AV} (pb ps:List Nat) (B Q:Nat) (h:Cr P f args bs ss v bs' ss')
  (hb:Aa pb=Aa bs:=by rfl) (hs:Aa ps=Aa ss:=by rfl) (hpb:C3 B pb=true:=by rfl) (hps:C3 Q ps=true:=by rfl) (hp:C7 ss=true:=by first | rfl | simp [go_sem]) (hp':C7 ss'=true:=by first | rfl | simp [go_sem]):
  Cr P f (D2 pb ps B Q args) (AH (AP B) pb (BE pb ps B Q bs)) (AH (AP Q) ps ss) (v.rnF pb ps B Q) (AH (AP B) pb (BE pb ps B Q bs')) (AH (AP Q) ps ss'):=by
 rw [Bh,Bh] at hb hs;obtain ⟨f1,f2,f3⟩:=h;have lb:(AH (AP B) pb (BE pb ps B Q bs)).length=B:=by rw [nC _ _ _ (by rw [P3,hb]),GM]
 have ls:(AH (AP Q) ps ss).length=Q:=by rw [nC _ _ _ hs,GM]
 have lb':(AH (AP B) pb (BE pb ps B Q bs')).length=B+(bs'.length-pb.length):=by rw [Zf _ _ _ (by rw [P3];omega),GM,P3]
 have ls':(AH (AP Q) ps ss').length=Q+(ss'.length-ps.length):=by rw [Zf _ _ _ Om,GM]
 have gb:∀ {l:List (Option Blk)} {j:Nat} {x:Blk},pb.length≤l.length→A2 (AH (AP B) pb (BE pb ps B Q l)) j=some x→∃i y,Ba pb B i=j∧A2 l i=some y∧x=⟨y.T,D2 pb ps B Q y.cells⟩:=by
  intro l j x hl hj;rcases dX (by rw [P3];exact hl) hj with h | ⟨i,h1,h2⟩
  ·rw [cK] at h;simp at h
  ·obtain ⟨y,h3,h4⟩:=YQ.1 h2;rw [GM] at h1;exact ⟨i,y,h1,h3,h4⟩
 have gs:∀ {l:List (Option Sl)} {j:Nat} {x:Sl},ps.length≤l.length→A2 (AH (AP Q) ps l) j=some x→∃i,Ba ps Q i=j∧A2 l i=some x:=by
  intro l j x hl hj;rcases dX hl hj with h | ⟨i,h1,h2⟩
  ·rw [cK] at h;simp at h
  ·rw [GM] at h1;exact ⟨i,h1,h2⟩
 have pB:∀ {l:List (Option Blk)} {i:Nat} {y:Blk},A2 l i=some y→A2 (AH (AP B) pb (BE pb ps B Q l)) (Ba pb B i)=some ⟨y.T,D2 pb ps B Q y.cells⟩:=by intro l i y hy;have:=dY (l:=AP B) (p:=pb) (r:=BE pb ps B Q l) (i:=i) (x:=⟨y.T,D2 pb ps B Q y.cells⟩) (by rw [GM];exact hpb) (YQ.2 ⟨y,hy,rfl⟩);rwa [GM] at this
 have pS:∀ {l:List (Option Sl)} {i:Nat} {y:Sl},A2 l i=some y→A2 (AH (AP Q) ps l) (Ba ps Q i)=some y:=by intro l i y hy;have:=dY (l:=AP Q) (p:=ps) (r:=l) (i:=i) (x:=y) (by rw [GM];exact hps) hy;rwa [GM] at this
 refine ⟨by rw [lb,lb'];omega,by rw [ls,ls'];omega,fun M w vs hS ha=>?_⟩;have hnb:M.nb=B:=by rw [hS.nb,lb]
 have hns:M.ns=Q:=by rw [hS.ns,ls]
 subst hnb;subst hns;have h6:∀k,Gt M (AH (AP M.nb) pb (BE pb ps M.nb M.ns bs)) (AH (AP M.ns) ps ss) k↔Gt (M.inn pb ps) bs ss k:=by
  intro k;constructor
  ·rintro (⟨j,x,hj,e⟩ | ⟨j,x,hj,e⟩)
   ·obtain ⟨i,y,h1,h2,_⟩:=gb Om hj;exact .inl ⟨i,y,h2,by rw [←e,←h1];rfl⟩
   ·obtain ⟨i,h1,h2⟩:=gs Om hj;exact .inr ⟨i,x,h2,by rw [←e,←h1];rfl⟩
  ·rintro (⟨i,y,hi,e⟩ | ⟨i,y,hi,e⟩)
   ·exact .inl ⟨_,_,pB hi,e⟩
   ·exact .inr ⟨_,_,pS hi,e⟩
 have h8:RelS (Ctx.lent P w (M.inn pb ps) bs ss bs.length ss.length) (M.inn pb ps) bs ss w:=by
  refine ⟨hb,hs,?_,rfl,rfl,rfl,Nat.le_refl _,fun _ _ _=>rfl,hS.hle,fun _ _ _=>rfl,?_,?_,?_,?_,?_,⟨Nat.le_of_eq hb.symm,fun _ _=>rfl,Nat.le_of_eq hs.symm,fun _ _=>rfl,hS.pin.gl⟩⟩
  ·intro i hi;exact hS.so _ (Yo hps _ (Uc hi))
  ·intro i y hy;obtain ⟨g1,g2,us,g3,g4,g5⟩:=hS.blk _ _ (pB hy);exact ⟨.inr (.inl ⟨i,y,hy,rfl⟩),g2,us,P4 hpb hps _ _ g3,g4,g5⟩
  ·intro i y hy;obtain ⟨g0,vss,q1,q2,q3,q4⟩:=hS.slc _ _ (pS hy);exact ⟨g0,vss,di (M:=M.sl) (M':=(M.inn pb ps).sl) rfl (YO hp hy) q1,q2,q3,fun g hg=>⟨.inr (.inr ⟨i,y,hy,hg⟩),(q4 g hg).2⟩⟩
  ·intro i j x y hi hj e;exact dn hpb (hS.d1 _ _ _ _ (pB hi) (pB hj) e)
  ·intro i j x y hi hj;exact hS.d2 _ _ _ _ (pB hi) (pS hj)
  ·intro i j x y g hi hj e1 e2;exact dn hps (hS.d3 _ _ _ _ g (pS hi) (pS hj) e1 e2)
 refine (f3 (M.inn pb ps) w vs h8 (P4 hpb hps _ _ ha)).mono ?_;rintro e w' ⟨u,M',rfl,hR,hu⟩;have hρ:∀j,j<pb.length→M'.ρ j=(M.inn pb ps).ρ j:=fun j hj=>hR.pin.ρ j (by show j<bs.length;omega);have hσ:∀j,j<ps.length→M'.σ j=(M.inn pb ps).σ j:=fun j hj=>hR.pin.σ j (by show j<ss.length;omega);have ob:∀ {j:Nat},j<M'.nb→Ba pb M.nb j<(M.out M' pb ps).nb∧(M.out M' pb ps).ρ (Ba pb M.nb j)=M'.ρ j:=fun hj=>y9 hpb hρ (by rw [hR.nb];omega) hj;have os:∀ {j:Nat},j<M'.ns→Ba ps M.ns j<(M.out M' pb ps).ns∧(M.out M' pb ps).σ (Ba ps M.ns j)=M'.σ j:=fun hj=>ya hps hσ (by rw [hR.ns];omega) hj;have hm:∀g,Fl (Ctx.lent P w (M.inn pb ps) bs ss bs.length ss.length) g→Fl (Ctx.lent P w M (AH (AP M.nb) pb (BE pb ps M.nb M.ns bs)) (AH (AP M.ns) ps ss) (AH (AP M.nb) pb (BE pb ps M.nb M.ns bs)).length (AH (AP M.ns) ps ss).length) g:=fun g hg=>hg.imp id (h6 g).2;refine ⟨u,M.out M' pb ps,rfl,?_,lS ob os v u hu⟩;refine ⟨?_,?_,?_,hR.os,hR.tape,hR.output,hR.size,fun k hk hn=>hR.block k hk fun e=>hn ((h6 k).2 e),hR.hle,fun k hk hn=>hR.hold k hk fun e=>hn ((h6 k).2 e),?_,?_,?_,?_,?_,?_⟩
 ·show M.nb+(M'.nb-pb.length)=_;rw [lb',hR.nb]
 ·show M.ns+(M'.ns-ps.length)=_;rw [ls',hR.ns]
 ·intro j hj;simp only [Mem.out] at hj ⊢;split
  ·rename_i h;exact hS.so j h
  ·exact hR.so _ (by have:=hR.ns;omega)
 ·intro j x hj;obtain ⟨i,y,h1,h2,rfl⟩:=gb Om hj;subst h1;obtain ⟨g1,g2,us,g3,g4,g5⟩:=hR.blk i y h2;have hi:i<M'.nb:=by rw [hR.nb];exact Cu h2
  rw [(ob hi).2];exact ⟨hm _ g1,g2,us,Ub ob os _ _ g3,g4,g5⟩
 ·intro j x hj;obtain ⟨i,h1,h2⟩:=gs Om hj;subst h1;obtain ⟨g0,vss,q1,q2,q3,q4⟩:=hR.slc i x h2;have hi:i<M'.ns:=by rw [hR.ns];exact Cu h2
  rw [(os hi).2];exact ⟨g0,vss,di (M:=M'.sl) (M':=(M.out M' pb ps).sl) rfl (YO hp' h2) q1,q2,q3,fun g hg=>⟨hm _ (q4 g hg).1,(q4 g hg).2⟩⟩
 ·intro i j x y hi hj e;obtain ⟨i',x',h1,h2,_⟩:=gb Om hi;obtain ⟨j',y',k1,k2,_⟩:=gb Om hj;subst h1;subst k1;rw [(ob (by rw [hR.nb];exact Cu h2)).2,(ob (by rw [hR.nb];exact Cu k2)).2] at e;rw [hR.d1 _ _ _ _ h2 k2 e]
 ·intro i j x y hi hj;obtain ⟨i',x',h1,h2,_⟩:=gb Om hi;obtain ⟨j',k1,k2⟩:=gs Om hj;subst h1;subst k1;rw [(ob (by rw [hR.nb];exact Cu h2)).2,(os (by rw [hR.ns];exact Cu k2)).2];exact hR.d2 _ _ _ _ h2 k2
 ·intro i j x y g hi hj e1 e2;obtain ⟨i',h1,h2⟩:=gs Om hi;obtain ⟨j',k1,k2⟩:=gs Om hj;subst h1;subst k1;rw [(os (by rw [hR.ns];exact Cu h2)).2] at e1;rw [(os (by rw [hR.ns];exact Cu k2)).2] at e2;rw [hR.d3 _ _ _ _ g h2 k2 e1 e2]
 ·refine ⟨by rw [lb];exact Nat.le_add_right _ _,fun j hj=>?_,by rw [ls];exact Nat.le_add_right _ _,fun j hj=>?_,hR.pin.gl⟩
  ·have hj:j<M.nb:=by rw [←lb];exact hj
   simp only [Mem.out];rw [if_pos hj];rfl
  ·have hj:j<M.ns:=by rw [←ls];exact hj
   simp only [Mem.out];rw [if_pos hj];rfl
end NX
end Go.Proofs.YtjemlejoladlcaaGreat
/-
  Compiled code, written by computing it. No statement of the seat is proved here.
-/
namespace Go.Proofs.YtjemlejoladlcaaGreat
namespace NX
open Go
attribute [go_sem_proc] Int.reduceOfNat Int.reduceNegSucc
def y8:Op→List Operand
 | .call c | .go c | .defer c=>(match c.callee with | .value f=>[f] | .invoke r _=>[r] | .builtin _=>[])++c.args.toList
 | .makeFunc _ a b=>a.toList++b.toList
 | .slice _ x l h m=>x::(l.toList++h.toList++m.toList)
 | .select _ _=>[]
 | o=>o.operands.toList
def jp (ops:List Oper) (o:Oper):List Nat:=(y8 o.op).filterMap (fun x=>match x with | .tmp t=>some t | _=>none)++(match o.guard with | some (g,_)=>(match ops[g]? with | some x=>x.dst.toList | none=>[]) | none=>[])
def qg (ops:List Oper) (x y:Oper):Bool:=(match x.dst with | some d=>!IJ d (jp ops y)&&(match y.dst with | some e=>!(e==d) | none=>true) | none=>true)&&(match y.dst with | some d=>!IJ d (jp ops x) | none=>true)
def aP:Nat→List Nat→List Nat
 | 0,l=>l
 | n+1,l=>aP n (n::l)
def qQ (ops:List Oper):List (List Nat):=
 (aP ops.length []).map fun i=>(aP ops.length []).filter fun j=>match ops[i]?,ops[j]? with
   | some x,some y=>!(i==j)&&!(qg ops x y)
   | _,_=>false
def cZ (P:Program):Code→Option EC
 | .skip=>some .skip
 | .region _ ops draw=>match ops.toList.mapM (AL P ops) with
   | some l=>match draw with
     | true=>some (.drw l (Bn ops) (qQ ops.toList))
     | false=>some (.reg l)
   | none=>none
 | .seq a b=>match cZ P a,cZ P b with | some x,some y=>some (.seq x y) | _,_=>none
 | .cond c a b=>match cZ P a,cZ P b with | some x,some y=>some (.ite (cX c) x y) | _,_=>none
 | .block id a=>(cZ P a).map (.blk id)
 | .loop a=>(cZ P a).map .loop
 | .exit id=>some (.exit id)
 | .scope a=>(cZ P a).map .scope
 | .label l=>some (.label l)
 | .goto l=>some (.goto l)
 | .ret=>some .ret
 | _=>some .bad
def cF (P:Program) (f:Func):Option EC:=match f.body with | some c=>cZ P c | none=>none
theorem B6 {P:Program} {f:Nat} {fn:Func} {body:EC} {rs:List ERes} {np nt:Nat} {x:Code} (h:P.funcs[f]?=some fn:=by kernel_rfl) (hb:fn.body=some x:=by exact rfl) (hc:cC P x=some body:=by kernel_rfl) (r:Fo P fn.results.toList=some rs:=by kernel_rfl) (t:fn.ntmps=np+nt:=by kernel_rfl):FnOK P f fn body rs np nt:=⟨h,⟨x,hb,hc⟩,r,t⟩
theorem hF (f:Func):cF Tryz.prog f=cF Tryz.prog f:=rfl
abbrev DP (f:Func):= {x:EC // cF Tryz.prog f=some x}
abbrev HA (c:Ctx) (all:Array Oper) (ops:List EOp) (af nap:List (List Nat)):Prop:=all.toList.mapM (AL c.P all)=some ops∧Region.noSelect all=true∧af=Bn all∧nap=CX all
section
variable {c:Ctx} {all:Array Oper} {ops:List EOp} {af nap:List (List Nat)} {Φ:St→Prop} {m:Nat} {ld:List Bool} {S:St}
theorem GE (h6:all.toList.mapM (AL c.P all)=some ops) (i:Nat) {v:AV} {S1:St} {q:Prop} (h:G c all ops af Φ m (Au ld i) (S1.put (A8 ops i).d v)) (hr:Bz ld af 0=[i]:=by exact rfl) (he:I0 S (A8 ops i)=some (v,S1,q):=by exact rfl) (hq:q:=by trivial):G c all ops af Φ (m+1) ld S:=A6 i hr (eO h6 he hq h)
theorem GV (h6:all.toList.mapM (AL c.P all)=some ops) {i:Nat} {v:AV} {S1:St} {q:Prop} (h:G c all ops af Φ m (Au ld i) (S1.put (A8 ops i).d v)) (he:I0 S (A8 ops i)=some (v,S1,q):=by exact rfl) (hq:q:=by trivial):GO c all ops af Φ m ld S i:=eO h6 he hq h
theorem GD (h:Φ S) (hr:Bz ld af 0=[]:=by exact rfl):G c all ops af Φ m ld S:=eP hr h m
theorem GN (H:HA c all ops af nap) (m r:Nat) (h:(Cm ops af nap m ld S True).2.2.2∧G c all ops af Φ ((Cm ops af nap m ld S True).1+r) (Cm ops af nap m ld S True).2.1 (Cm ops af nap m ld S True).2.2.1):G c all ops af Φ (m+r) ld S:=eR H.1 H.2.1 H.2.2.1 H.2.2.2 m r h
theorem GP (H:HA c all ops af nap) (m r:Nat) (b:List Nat) (u:List (Nat×List AV)) (h:G c all ops af Φ r (rl b) ⟨pt u S.tm,S.bs,S.ss⟩) (he:Cm ops af nap m ld S True=(0,rl b,⟨pt u S.tm,S.bs,S.ss⟩,tN m):=by kernel_rfl):G c all ops af Φ (m+r) ld S:=oN H.1 H.2.1 H.2.2.1 H.2.2.2 m r b u he h
theorem GA {α:Type} {b:Nat} {l' m' v:List α} (f:α→List AV) (hv:AI b l' m'=some v) (h6:all.toList.mapM (AL c.P all)=some ops) {i e n j:Nat} {x y:X} (h:G c all ops af Φ m (Au ld i) ((S.app j ⟨e,n,v.map f⟩).put (A8 ops i).d (.osl (Aa S.ss)))) (ho:(A8 ops i).o = .app e n b x y:=by exact rfl) (hg:gm S (A8 ops i).g:=by trivial)
 (hx:S.x x = .osl j:=by exact rfl) (hj:A2 S.ss j=some ⟨e,n,l'.map f⟩:=by exact rfl) (hy:Gh S n (S.x y)=some (m'.map f):=by exact rfl):GO c all ops af Φ m ld S i:=oA f hv h6 ho hg hx hj hy h
theorem GL (h6:all.toList.mapM (AL c.P all)=some ops) {i:Nat} {α:Type} {l':List α} {z:Int} {y:α} {j T n off:Nat} {x:X} {v:AV} (f:α→List AV) (hv:A4 l' z=some y) (h:G c all ops af Φ m (Au ld i) (S.put (A8 ops i).d v)) (ho:(A8 ops i).o = .load x:=by exact rfl) (hg:gm S (A8 ops i).g:=by trivial) (hx:S.x x = .oel j (z.toNat*n) off:=by exact rfl) (hj:A2 S.ss j=some ⟨T,n,l'.map f⟩:=by exact rfl)
 (hl:Dr (f y) off 1=some [v]:=by exact rfl):GO c all ops af Φ m ld S i:=oG h6 f hv ho hg hx hj hl h
theorem GI (h6:all.toList.mapM (AL c.P all)=some ops) {i:Nat} {α:Type} {l':List α} {z:Int} {v:α} {T n j:Nat} {x y:X} (f:α→List AV) (hv:A4 l' z=some v) (h:G c all ops af Φ m (Au ld i) (S.put (A8 ops i).d (.oel j (z.toNat*n) 0))) (ho:(A8 ops i).o = .idx n x y:=by exact rfl) (hg:gm S (A8 ops i).g:=by trivial) (hx:S.x x = .osl j:=by exact rfl) (hi:S.x y = .iv z:=by exact rfl) (hj:A2 S.ss j=some ⟨T,n,l'.map f⟩:=by exact rfl):GO c all ops af Φ m ld S i:=oF h6 f hv ho hg hx hi hj h
end
section
variable {c:Ctx} {S:St} {fn:Func} {K:AV→List (Option Blk)→List (Option Sl)→Prop} {k:List It} {β:Type}
theorem Ai {ops:List EOp} {af nap:List (List Nat)} (h:∀all,HA c all ops af nap→G c all ops af (fun S'=>V c fn K k S') (Aa ops) (Ko (Aa ops)) S) (hm:c.P.follows .mixedOrders=true:=by kernel_rfl):V c fn K (.code (.drw ops af nap)::k) S:=pn hm fun all h6 hs h8 h9=>h all ⟨h6,hs,h9,h8⟩
@[go_sem] def lM (S:St) (p q:Nat):St:=match A2 S.ss p with | some L=>S.renS p q L | none=>S
theorem A7 (p q:Nat) (h:V c fn K k (lM S p q)) (hp:(A2 S.ss p).isSome=true:=by exact rfl) (hq:AA (q+1) (Aa S.ss)=true:=by exact rfl) (h6:(p==q)=false:=by exact rfl) (hqn:AA c.nq q=true:=by rfl) (hpr:C7 S.ss=true:=by first | rfl | simp [go_sem]):V c fn K k S:=by
 cases hL:A2 S.ss p with
 | none=>rw [hL] at hp;simp at hp
 | some L=>unfold lM at h;rw [hL] at h;exact pK p q hL hq h6 h hqn hpr
theorem Ae (j:Nat) {L:Sl} (h:V c fn K k (S.sealS j L)) (hj:A2 S.ss j=some L:=by exact rfl) (hpr:C1 L.rows=true:=by first | rfl | simp [go_sem]):V c fn K k S:=pN j hj h hpr
theorem AE (j o T n:Nat) {B:Blk} (h:V c fn K k ⟨S.tm,Ar S.bs j (some ⟨B.T,BL B.cells o (.osl (Aa S.ss))⟩),S.ss++[some ⟨T,n,[]⟩]⟩) (hj:A2 S.bs j=some B:=by exact rfl) (ho:AJ B.cells o = .nl:=by exact rfl) (hn:AA 1 n=true:=by exact rfl):V c fn K k S:=pH j o T n hj ho hn h
theorem As (T n:Nat) (h:V c fn K k ⟨S.tm,S.bs,S.ss++[some ⟨T,n,[]⟩]⟩) (hn:AA 1 n=true:=by exact rfl):V c fn K k S:=pF T n hn h
theorem MI {o:X} {a b:EC} {e:Bool} {A B:Option β} {r:β} (h:A0 e A B=some r) (h1:A=some r→V c fn K (.code a::k) S) (h2:B=some r→V c fn K (.code b::k) S) (hx:S.x o = .bv e:=by exact rfl):V c fn K (.code (.ite o a b)::k) S:=oS h hx (fun _=>h1) fun _=>h2
theorem MC (t:Nat) {e:Bool} {A B:Option β} {r:β} (h:A0 e A B=some r) (h1:A=some r→V c fn K k ⟨BL S.tm t .tt,S.bs,S.ss⟩) (h2:B=some r→V c fn K k ⟨BL S.tm t .ff,S.bs,S.ss⟩) (ht:AJ S.tm t = .bv e:=by exact rfl):V c fn K k S:=oR t h ht (fun _=>h1) fun _=>h2
theorem En {f:Nat} {fn:Func} {body:EC} {rs:List ERes} {np nt:Nat} {x v:AV} {bs':List (Option Blk)} {ss':List (Option Sl)} (ok:FnOK c.P f fn body rs np nt) (h:DD S rs=some x:=by exact rfl) (hle:St.le ⟨[x],S.bs,S.ss⟩ ⟨[v],bs',ss'⟩:=by simp [go_sem]):V c fn (fun x b s=>St.le ⟨[x],b,s⟩ ⟨[v],bs',ss'⟩) (.code .ret::k) S:=fe ok h hle
end
theorem FT {P:Program} {f:Nat} {fn:Func} {body:EC} {rs:List ERes} {np nt:Nat} (hf:FnOK P f fn body rs np nt) {args:List AV} {bs bs':List (Option Blk)} {ss ss':List (Option Sl)} {v:AV}
 (h:∀w M,V (Ctx.lent P w M bs ss (Aa bs) (Aa ss)) fn (fun x b s=>St.le ⟨[x],b,s⟩ ⟨[v],bs',ss'⟩) [.code body] ⟨args++D6 nt,bs,ss⟩) (hn:args.length=np:=by exact rfl) (h1:AA (Aa bs) (Aa bs')=true:=by exact rfl) (h2:AA (Aa ss) (Aa ss')=true:=by exact rfl) (h3:St.ok ⟨[v],bs',ss'⟩=true:=by first | rfl | simp [go_sem]):Cr P f args bs ss v bs' ss':=oy hf hn h1 h2 h3 h
theorem FP {P:Program} {f:Nat} {fn:Func} {body:EC} {rs:List ERes} {np nt:Nat} (hf:FnOK P f fn body rs np nt) {args:List AV} {res:AV} (h:∀w0 H0,V (Ctx.of P w0 H0) fn (fun x _ _=>x.le res) [.code body] (St.init args nt)) (hn:args.length=np:=by exact rfl) (hp:res.pu=true:=by exact rfl):Cd P f args res:=ox hf hn hp h
@[go_sem] def Bw (l:List Nat):Nat→Nat→List Bool
  | 0,_=>[]
  | n+1,i=>IJ i l::Bw l n (i+1)
attribute [go_sem] IJ
section
variable {c:Ctx} {S:St} {fn:Func} {K:AV→List (Option Blk)→List (Option Sl)→Prop} {k:List It}
theorem pc {d:Option Nat} {g:Option (Nat×Bool)} {l:List EOp} {f:Nat} {xs:List X} {args:List AV} {v:AV} {bs bs':List (Option Blk)} {ss ss':List (Option Sl)} (pb ps:List Nat) (B Q:Nat) (h0:Cr c.P f args bs ss v bs' ss')
  (h:V c fn K (.ops l::k) ((⟨S.tm,Bt (Bw pb B 0) S.bs (AH (AP B) pb (BE pb ps B Q bs')),Bt (Bw ps Q 0) S.ss (AH (AP Q) ps ss')⟩:St).put d (v.rnF pb ps B Q))) (hb:Aa pb=Aa bs:=by rfl) (hs:Aa ps=Aa ss:=by rfl) (hpb:C3 B pb=true:=by rfl) (hps:C3 Q ps=true:=by rfl) (hp:C7 ss=true:=by first | rfl | simp [go_sem]) (hp':C7 ss'=true:=by first | rfl | simp [go_sem])
  (h6:Aq (Bw pb B 0) S.bs=AH (AP B) pb (BE pb ps B Q bs):=by rfl) (h8:Aq (Bw ps Q 0) S.ss=AH (AP Q) ps ss:=by rfl) (ha:AV.le.leL (B8 S xs) (D2 pb ps B Q args):=by first | exact Am _ | simp [go_sem]) (hg:gm S g:=by trivial):V c fn K (.ops (⟨d,g,.call f xs⟩::l)::k) S:=
 IZ (Bw pb B 0) (Bw ps Q 0) hg (FQ pb ps B Q h0 hb hs hpb hps hp hp') h6 h8 ha h
end
section
variable {c:Ctx} {all:Array Oper} {ops:List EOp} {af:List (List Nat)} {Φ:St→Prop} {m':Nat} {ld:List Bool} {S:St}
theorem Gi (h6:all.toList.mapM (AL c.P all)=some ops) {i f:Nat} {xs:List X} {args:List AV} {v:AV} {bs bs':List (Option Blk)} {ss ss':List (Option Sl)} (pb ps:List Nat) (B Q:Nat) (h0:Cr c.P f args bs ss v bs' ss')
  (h:G c all ops af Φ m' (Au ld i) ((⟨S.tm,S.bs,Bt (Bw ps Q 0) S.ss (AH (AP Q) ps ss')⟩:St).put (A8 ops i).d (v.rnF pb ps B Q))) (hb:Aa pb=Aa bs:=by rfl) (hs:Aa ps=Aa ss:=by rfl) (hpb:C3 B pb=true:=by rfl) (hps:C3 Q ps=true:=by rfl) (hp:C7 ss=true:=by first | rfl | simp [go_sem]) (hp':C7 ss'=true:=by first | rfl | simp [go_sem]) (ho:(A8 ops i).o = .call f xs:=by exact rfl) (hg:gm S (A8 ops i).g:=by trivial)
  (h8:Aq (Bw pb B 0) S.bs=AH (AP B) pb (BE pb ps B Q bs):=by rfl) (h9:Aq (Bw ps Q 0) S.ss=AH (AP Q) ps ss:=by rfl) (hd:Bt (Bw pb B 0) S.bs (AH (AP B) pb (BE pb ps B Q bs'))=S.bs:=by rfl) (ha:AV.le.leL (B8 S xs) (D2 pb ps B Q args):=by first | exact Am _ | simp [go_sem]):GO c all ops af Φ m' ld S i:=
 oE h6 (Bw pb B 0) (Bw ps Q 0) ho hg (FQ pb ps B Q h0 hb hs hpb hps hp hp') h8 h9 hd ha h
theorem oB (h6:all.toList.mapM (AL c.P all)=some ops) {i f:Nat} {xs:List X} {args:List AV} {v:AV} {bs bs':List (Option Blk)} {ss ss':List (Option Sl)} (pb ps:List Nat) (B Q:Nat) (h0:Cr c.P f args bs ss v bs' ss')
  (h:G c all ops af Φ m' (Au ld i) ((⟨S.tm,Bt (Bw pb B 0) S.bs (AH (AP B) pb (BE pb ps B Q bs')),Bt (Bw ps Q 0) S.ss (AH (AP Q) ps ss')⟩:St).put (A8 ops i).d (v.rnF pb ps B Q))) (h8:HY af i ops 0=true:=by kernel_rfl) (hb:Aa pb=Aa bs:=by rfl) (hs:Aa ps=Aa ss:=by rfl) (hpb:C3 B pb=true:=by rfl) (hps:C3 Q ps=true:=by rfl) (hp:C7 ss=true:=by first | rfl | simp [go_sem]) (hp':C7 ss'=true:=by first | rfl | simp [go_sem]) (ho:(A8 ops i).o = .call f xs:=by exact rfl) (hg:gm S (A8 ops i).g:=by trivial)
  (h9:Aq (Bw pb B 0) S.bs=AH (AP B) pb (BE pb ps B Q bs):=by rfl) (hd:Aq (Bw ps Q 0) S.ss=AH (AP Q) ps ss:=by rfl) (ha:AV.le.leL (B8 S xs) (D2 pb ps B Q args):=by first | exact Am _ | simp [go_sem]):GO c all ops af Φ m' ld S i:=
 eN h6 h8 (Bw pb B 0) (Bw ps Q 0) ho hg (FQ pb ps B Q h0 hb hs hpb hps hp hp') h9 hd ha h
end
section
variable {c:Ctx} {S S':St} {fn:Func} {K:AV→List (Option Blk)→List (Option Sl)→Prop} {k:List It}
theorem LR {S:St}:Dx S S:=Dx.refl S
theorem VC {d:Option Nat} {g:Option (Nat×Bool)} {f:Nat} {xs:List X} {l:List EOp} {args:List AV} {res:AV} (hf:Cd c.P f args res) (h:V c fn K (.ops l::k) (S.put d res))
 (ha:AV.le.leL (B8 S xs) args:=by first | exact Am _ | simp [go_sem]) (hp:AD args=true:=by first | rfl | simp [go_sem]) (hg:gm S g:=by trivial):V c fn K (.ops (⟨d,g,.call f xs⟩::l)::k) S:=pd hg hf ha hp h
theorem VL {d:Option Nat} {g:Option (Nat×Bool)} {f:Nat} {xs:List X} {l:List EOp} {args:List AV} {res:AV} (hs:Dx S S') (hf:Cd c.P f args res) (h:V c fn K (.ops l::k) (S.put d res))
 (ha:AV.le.leL (B8 S' xs) args:=by first | exact Am _ | simp [go_sem]) (hp:AD args=true:=by first | rfl | simp [go_sem]) (h6:res.flat=true:=by rfl) (hg:gm S g:=by trivial):V c fn K (.ops (⟨d,g,.call f xs⟩::l)::k) S:=pe hg hs hf ha hp h6 h
end
section
variable {c:Ctx} {all:Array Oper} {ops:List EOp} {af:List (List Nat)} {Φ:St→Prop} {m:Nat} {ld:List Bool} {S S':St}
theorem GC (h6:all.toList.mapM (AL c.P all)=some ops) {i f:Nat} {xs:List X} {args:List AV} {res:AV} (hf:Cd c.P f args res) (h:G c all ops af Φ m (Au ld i) (S.put (A8 ops i).d res)) (ho:(A8 ops i).o = .call f xs:=by exact rfl) (hg:gm S (A8 ops i).g:=by trivial)
 (ha:AV.le.leL (B8 S xs) args:=by first | exact Am _ | simp [go_sem]) (hp:AD args=true:=by first | rfl | simp [go_sem]):GO c all ops af Φ m ld S i:=oC h6 ho hg hf ha hp h
theorem GK (h6:all.toList.mapM (AL c.P all)=some ops) {i f:Nat} {xs:List X} {args:List AV} {res:AV} (hs:Dx S S') (hf:Cd c.P f args res) (h:G c all ops af Φ m (Au ld i) (S.put (A8 ops i).d res)) (ho:(A8 ops i).o = .call f xs:=by exact rfl) (hg:gm S (A8 ops i).g:=by trivial)
 (ha:AV.le.leL (B8 S' xs) args:=by first | exact Am _ | simp [go_sem]) (hp:AD args=true:=by first | rfl | simp [go_sem]) (h8:res.flat=true:=by rfl):GO c all ops af Φ m ld S i:=oD h6 ho hg hs hf ha hp h8 h
end
end NX
end Go.Proofs.YtjemlejoladlcaaGreat
/-
  Runs whose end is told by simplifying it. No statement of the seat is proved here.
-/
namespace Go.Proofs.YtjemlejoladlcaaGreat
namespace NX
open Go
section
variable {c:Ctx} {S S':St} {fn:Func} {K:AV→List (Option Blk)→List (Option Sl)→Prop} {k k':List It} {p:Prop}
theorem Vg (m:Nat) (h:V c fn K k' S') (he:run m k S True=(k',S',p):=by dsimp only[go_sem]<;>exact rfl) (hp:p:=by simp):V c fn K k S:=Ah m (by rw [he];exact ⟨hp,h⟩)
end
section
variable {c:Ctx} {all:Array Oper} {ops:List EOp} {af nap:List (List Nat)} {Φ:St→Prop} {m:Nat} {ld ld':List Bool} {S S':St} {p:Prop}
theorem Gn (H:HA c all ops af nap) (m r:Nat) (h:G c all ops af Φ r ld' S') (he:Cm ops af nap m ld S True=(0,ld',S',p):=by dsimp only[go_sem]<;>exact rfl) (hp:p:=by simp):G c all ops af Φ (m+r) ld S:=GN H m r (by rw [he];exact ⟨hp,by simpa using h⟩)
end
theorem MD {P:Program} {w0:World} {H0:Frag} {f:Nat} {fn:Func} {body:EC} {rs:List ERes} {np nt:Nat} {β:Type} {e r:β} {T:AV} {S:St} {k:List It} (ok:FnOK P f fn body rs np nt) (h:some e=some r)
 (hl:e=r→Ks (DD S rs) T:=by rintro rfl;first | exact le_refl _ | simp [go_sem]):V (Ctx.of P w0 H0) fn (fun x _ _=>x.le T) (.code .ret::k) S:=pm ok (hl (Option.some.inj h))
theorem MS {P:Program} {w0:World} {H0:Frag} {f:Nat} {fn:Func} {body:EC} {rs:List ERes} {np nt:Nat} {β:Type} {e r:β} {T:AV} {S:St} (ok:FnOK P f fn body rs np nt) (h:some e=some r)
 (hl:e=r→Ks (DD S rs) T:=by rintro rfl;first | exact le_refl _ | simp [go_sem]):V (Ctx.of P w0 H0) fn (fun x _ _=>x.le T) [] S:=pV ok (hl (Option.some.inj h))
end NX
end Go.Proofs.YtjemlejoladlcaaGreat
/-
  Drawn regions that end alike whichever way they go: their games are played by a tactic. No statement of the seat is proved here.
-/
namespace Go.Proofs.YtjemlejoladlcaaGreat
namespace NX
open Go
section
theorem Zu {c:Ctx} {all:Array Oper} {ops:List EOp} {af:List (List Nat)} {Φ Ψ:St→Prop} (E:∀S,Φ S→Ψ S):∀(m:Nat) (ld:List Bool) (S:St),G c all ops af Φ m ld S→G c all ops af Ψ m ld S
 | 0,_,_,h=>⟨h.1,E _ h.2⟩
 | m+1,_,_,h=>⟨fun e=>E _ (h.1 e),fun i hi=>(h.2 i hi).imp (fun x=>⟨x.1,Zu E m _ _ x.2⟩) fun ⟨g,v,S1,a,b,d,e⟩=>⟨g,v,S1,a,b,d,Zu E m _ _ e⟩⟩
variable {c:Ctx} {all:Array Oper} {ops:List EOp} {af nap:List (List Nat)} {Φ:St→Prop} {m m':Nat} {ld ld':List Bool} {S S':St} {p:Prop}
theorem Rd (hr:Bz ld af 0=[]:=by exact rfl):G c all ops af (fun S'=>S'=S) m ld S:=eP (Φ:=fun S'=>S'=S) hr rfl m
theorem Rg (h:G c all ops af Φ m' ld' S') (H:HA c all ops af nap:=by assumption) (he:Cm ops af nap m ld S True=(m',ld',S',p):=by dsimp only[go_sem]<;>exact rfl) (_hn:(m'==m)=false:=by exact rfl) (hp:p:=by simp):G c all ops af Φ m ld S:=oL H.1 H.2.1 H.2.2.1 H.2.2.2 (by rw [he];exact ⟨hp,h⟩)
theorem R1 {i:Nat} {v:AV} {S1:St} {q:Prop} (h:G c all ops af Φ m ld' S') (H:HA c all ops af nap:=by assumption) (hr:Bz ld af 0=[i]:=by exact rfl) (he:I0 S (A8 ops i)=some (v,S1,q):=by exact rfl) (hq:q:=by trivial)
  (hS:(Au ld i,S1.put (A8 ops i).d v)=(ld',S'):=by dsimp only[go_sem]<;>exact rfl):G c all ops af Φ (m+1) ld S:=by
 simp only [Prod.mk.injEq] at hS;obtain ⟨rfl,rfl⟩:=hS;exact GE H.1 i h hr he hq
theorem RV {i:Nat} {v:AV} {S1:St} {q:Prop} (h:G c all ops af Φ m ld' S') (H:HA c all ops af nap:=by assumption) (he:I0 S (A8 ops i)=some (v,S1,q):=by exact rfl) (hq:q:=by trivial)
  (hS:(Au ld i,S1.put (A8 ops i).d v)=(ld',S'):=by dsimp only[go_sem]<;>exact rfl):GO c all ops af Φ m ld S i:=by
 simp only [Prod.mk.injEq] at hS;obtain ⟨rfl,rfl⟩:=hS;exact GV H.1 h he hq
theorem RO {i:Nat} (h:GO c all ops af Φ m ld S i) (hr:Bz ld af 0=[i]:=by exact rfl):G c all ops af Φ (m+1) ld S:=A6 i hr h
theorem R2 {i j:Nat} (h:GO c all ops af Φ m ld S i) (h2:GO c all ops af Φ m ld S j) (hr:Bz ld af 0=[i,j]:=by exact rfl):G c all ops af Φ (m+1) ld S:=Ag i j hr h h2
theorem R3 {i j k:Nat} (h:GO c all ops af Φ m ld S i) (h2:GO c all ops af Φ m ld S j) (h3:GO c all ops af Φ m ld S k) (hr:Bz ld af 0=[i,j,k]:=by exact rfl):G c all ops af Φ (m+1) ld S:=Fj i j k hr h h2 h3
theorem RL {α:Type} {l':List α} {z:Int} {y:α} {j T n off i:Nat} {x:X} {v:AV} {f:α→List AV} (h:G c all ops af Φ m ld' S') (H:HA c all ops af nap:=by assumption) (ho:(A8 ops i).o = .load x:=by exact rfl) (hg:gm S (A8 ops i).g:=by trivial) (hx:S.x x = .oel j (z.toNat*n) off:=by exact rfl) (hj:A2 S.ss j=some ⟨T,n,l'.map f⟩:=by exact rfl)
  (hv:A4 l' z=some y:=by first | assumption | exact FW (by assumption)) (hl:Dr (f y) off 1=some [v]:=by exact rfl) (hS:(Au ld i,S.put (A8 ops i).d v)=(ld',S'):=by dsimp only[go_sem]<;>exact rfl):GO c all ops af Φ m ld S i:=by
 simp only [Prod.mk.injEq] at hS;obtain ⟨rfl,rfl⟩:=hS;exact GL H.1 f hv h ho hg hx hj hl
theorem RI {α:Type} {l':List α} {z:Int} {v:α} {T n j i:Nat} {x y:X} {f:α→List AV} (h:G c all ops af Φ m ld' S') (H:HA c all ops af nap:=by assumption) (ho:(A8 ops i).o = .idx n x y:=by exact rfl) (hg:gm S (A8 ops i).g:=by trivial) (hx:S.x x = .osl j:=by exact rfl) (hi:S.x y = .iv z:=by exact rfl) (hj:A2 S.ss j=some ⟨T,n,l'.map f⟩:=by exact rfl)
  (hv:A4 l' z=some v:=by first | assumption | exact FW (by assumption)) (hS:(Au ld i,S.put (A8 ops i).d (.oel j (z.toNat*n) 0))=(ld',S'):=by dsimp only[go_sem]<;>exact rfl):GO c all ops af Φ m ld S i:=by
 simp only [Prod.mk.injEq] at hS;obtain ⟨rfl,rfl⟩:=hS;exact GI H.1 f hv h ho hg hx hi hj
theorem Rx {α:Type} {l':List α} {z:Int} {v:α} {n k i:Nat} {x y:X} {f:α→List AV} {w:List Nat} (h:G c all ops af Φ m ld' S') (H:HA c all ops af nap:=by assumption) (hi:Bz ld af 0=w:=by exact rfl) (hw:EH i w=true) (ho:(A8 ops i).o = .idx n x y:=by exact rfl) (hg:gm S (A8 ops i).g:=by trivial) (hx:S.x x = .sl k (l'.map f):=by exact rfl) (hy:S.x y = .iv z:=by exact rfl)
  (hv:A4 l' z=some v:=by assumption) (h6:k=n:=by exact rfl) (hf:ED ld af i (Co nap i)=true:=by exact rfl) (hS:(Au ld i,S.put (A8 ops i).d (.elt (f v) 0))=(ld',S'):=by dsimp only[go_sem]<;>exact rfl):G c all ops af Φ (m+1) ld S:=by
 simp only [Prod.mk.injEq] at hS;obtain ⟨rfl,rfl⟩:=hS;exact Gj H.1 H.2.1 H.2.2.1 H.2.2.2 i f hv (by rw [hi];exact hw) ho hg hx hy h6 hf h
theorem RC {i f:Nat} {xs:List X} {args:List AV} {res:AV} (h:G c all ops af Φ m ld' S') (H:HA c all ops af nap:=by assumption) (ho:(A8 ops i).o = .call f xs:=by exact rfl) (hg:gm S (A8 ops i).g:=by trivial) (hf:Cd c.P f args res:=by assumption)
  (ha:AV.le.leL (B8 S xs) args:=by first | exact Am _ | simp [go_sem]) (hp:AD args=true:=by first | rfl | simp [go_sem]) (hS:(Au ld i,S.put (A8 ops i).d res)=(ld',S'):=by dsimp only[go_sem]<;>exact rfl):GO c all ops af Φ m ld S i:=by
 simp only [Prod.mk.injEq] at hS;obtain ⟨rfl,rfl⟩:=hS;exact GC H.1 hf h ho hg ha hp
theorem RA {α:Type} {b:Nat} {l' m' v:List α} {f:α→List AV} {i e n j:Nat} {x y:X} (h:G c all ops af Φ m ld' S') (H:HA c all ops af nap:=by assumption) (ho:(A8 ops i).o = .app e n b x y:=by exact rfl) (hg:gm S (A8 ops i).g:=by trivial)
  (hx:S.x x = .osl j:=by exact rfl) (hj:A2 S.ss j=some ⟨e,n,l'.map f⟩:=by exact rfl) (hv:AI b l' m'=some v:=by assumption) (hy:Gh S n (S.x y)=some (m'.map f):=by exact rfl) (hS:(Au ld i,(S.app j ⟨e,n,v.map f⟩).put (A8 ops i).d (.osl (Aa S.ss)))=(ld',S'):=by dsimp only[go_sem]<;>exact rfl):GO c all ops af Φ m ld S i:=by
 simp only [Prod.mk.injEq] at hS;obtain ⟨rfl,rfl⟩:=hS;exact GA f hv H.1 h ho hg hx hj hy
theorem oU {α:Type} {l':List α} {z:Int} {v:α} {n k i:Nat} {x y:X} {f:α→List AV} {w:List Nat} (h:G c all ops af Φ m ld' S') (hi:Bz ld af 0=i::w:=by exact rfl) (ho:(A8 ops i).o = .idx n x y:=by exact rfl) (H:HA c all ops af nap:=by assumption) (hg:gm S (A8 ops i).g:=by trivial) (hx:S.x x = .sl k (l'.map f):=by exact rfl) (hy:S.x y = .iv z:=by exact rfl)
 (hv:A4 l' z=some v:=by assumption) (h6:k=n:=by exact rfl) (hf:ED ld af i (Co nap i)=true:=by exact rfl) (hS:(Au ld i,S.put (A8 ops i).d (.elt (f v) 0))=(ld',S'):=by dsimp only[go_sem]<;>exact rfl):G c all ops af Φ (m+1) ld S:=Rx h H hi (by simp [EH]) ho hg hx hy hv h6 hf hS
theorem oV {α:Type} {l':List α} {z:Int} {v:α} {n k i a:Nat} {x y:X} {f:α→List AV} {w:List Nat} (h:G c all ops af Φ m ld' S') (hi:Bz ld af 0=a::i::w:=by exact rfl) (ho:(A8 ops i).o = .idx n x y:=by exact rfl) (H:HA c all ops af nap:=by assumption) (hg:gm S (A8 ops i).g:=by trivial) (hx:S.x x = .sl k (l'.map f):=by exact rfl) (hy:S.x y = .iv z:=by exact rfl)
 (hv:A4 l' z=some v:=by assumption) (h6:k=n:=by exact rfl) (hf:ED ld af i (Co nap i)=true:=by exact rfl) (hS:(Au ld i,S.put (A8 ops i).d (.elt (f v) 0))=(ld',S'):=by dsimp only[go_sem]<;>exact rfl):G c all ops af Φ (m+1) ld S:=Rx h H hi (by simp only [EH];split<;>simp) ho hg hx hy hv h6 hf hS
theorem Gs {E:St} (h:Φ E) (h1:G c all ops af (fun S'=>S'=E) m ld S:=by
 repeat' first
  | exact Rd
  | refine Rg ?_
  | refine oU ?_
  | refine oV ?_
  | refine R1 ?_
  | refine R2 ?_ ?_
  | refine RO ?_
  | refine R3 ?_ ?_ ?_
  | refine RV ?_
  | refine RI ?_
  | refine RL ?_
  | refine RC ?_
  | refine RA ?_):G c all ops af Φ m ld S:=Zu (fun _ e=>by rw [e];exact h) _ _ _ h1
end
end NX
end Go.Proofs.YtjemlejoladlcaaGreat
