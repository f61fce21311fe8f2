/-
  Plain laws: loops of models over lists and ranges. No statement of the seat is proved here.
-/
import Derived.Test.YtgamgemlekpepaaGreatH29
namespace Go.Proofs.YtgamgemlekpepaaGreat
namespace NX
open Go
theorem OB {α β:Type} (a:α) (f:α→Option β):(some a).bind f=f a:=rfl
theorem DN {p:Prop} [Decidable p] (h:¬p):decide p=false:=decide_eq_false h
theorem DT {p:Prop} [Decidable p] (h:p):decide p=true:=decide_eq_true h
@[simp] theorem Z0a1 {α:Type} (a b:Option α):ifb true a b=a:=rfl
@[simp] theorem Z1a1 {α:Type} (a b:Option α):ifb false a b=b:=rfl
theorem Z2a1 {α:Type} (e:Bool) (a b:Option α):ifb (!e) a b=ifb e b a:=by cases e<;>rfl
theorem Z3a1 {n:Int} (h1: -9223372036854775808≤n) (h2:n≤9223372036854775807):wr n=n:=IntWalk.i64_in n ⟨h1,h2⟩
theorem Z4a1 {α:Type} {l:List α} {k:Nat} {x:α} (h:l[k]?=some x):at_ l (k:Int)=some x:=by unfold at_;rw [if_pos (Int.natCast_nonneg k)];simpa using h
theorem Z5a1 {α:Type} {l:List α} {i:Int} (h0:0≤i) (h:i<l.length):∃x,at_ l i=some x∧l[i.toNat]?=some x:=by
 have h6:i.toNat<l.length:=by omega
 exact ⟨l[i.toNat],by unfold at_;rw [if_pos h0,List.getElem?_eq_getElem h6],List.getElem?_eq_getElem h6⟩
theorem Z6a1 {α:Type} {b:Nat} (l m:List α) (hb:b≤1000) (h:l.length+m.length≤100000000):Z7c b l m=some (l++m):=by unfold Z7c;rw [if_pos];exact ⟨by have h1:(l.length+m.length)*b≤100000000*1000:=Nat.mul_le_mul h hb;omega,by omega⟩
theorem Z7a1 {α:Type} {f:α→List AV} {l:List α} {k:Nat} {x:α} (h:l[k]?=some x):decide ((k:Int)<ln f l)=true:=by have:=(List.getElem?_eq_some_iff.1 h).1;rw [ln_eq];simp;omega
theorem Z8a1 {α:Type} {f:α→List AV} {l:List α}:decide ((l.length:Int)<ln f l)=false:=by rw [ln_eq];simp
theorem Z9a1 {k:Nat} (h:k≤4000000000000000000):wr ((k:Int)+1)=((k+1:Nat):Int):=Z3a1 (by omega) (by omega)
theorem Zaa1 {α:Type} {l:List α} {k:Nat} {x:α} (h:l[k]?=some x) (hl:l.length≤4000000000000000000):wr ((k:Int)+1)=((k+1:Nat):Int):=by have:=(List.getElem?_eq_some_iff.1 h).1;exact Z9a1 (by omega)
def forR {σ β:Type} (f:Nat→σ→Option (σ ⊕ β)) (E:σ→Option β):Nat→Nat→σ→Option β
 | 0,_,s=>E s
 | m+1,k,s=>match f k s with
   | none=>none
   | some (.inl s')=>forR f E m (k+1) s'
   | some (.inr r)=>some r
theorem Zba1 {σ β τ:Type} (body:τ→Option (τ ⊕ β)) (mk:Int→σ→τ) (f:Nat→σ→Option (σ ⊕ β)) (E:σ→Option β) (n:Nat) (J:n≤4000000000000000000)
  (hb:∀(k:Nat) s,k<n→body (mk k s)=(f k s).map (fun | .inl s'=>.inl (mk (k+1:Nat) s') | .inr r=>.inr r)) (he:∀s,body (mk n s)=(E s).map .inr):
  ∀(m k:Nat) (s:σ),m+k=n→loop body (mk k s)=forR f E m k s
 | 0,k,s,h=>by
   have:k=n:=by omega
   subst this;rw [Zcc,he];cases hf:E s<;>simp [forR,hf]
 | m+1,k,s,h=>by
   rw [Zcc,hb k s (by omega)];simp only [forR];cases hf:f k s with
   | none=>rfl
   | some y=>
     cases y with
     | inl s'=>exact Zba1 body mk f E n J hb he m (k+1) s' (by omega)
     | inr r=>rfl
def forL {α σ β:Type} (f:α→σ→Option (σ ⊕ β)) (E:σ→Option β):List α→σ→Option β
 | [],s=>E s
 | x::l,s=>match f x s with
   | none=>none
   | some (.inl s')=>forL f E l s'
   | some (.inr r)=>some r
theorem Zca1 {α σ β:Type} (f:α→σ→Option (σ ⊕ β)) (E:σ→Option β) (l:List α):∀(r:List α) (k:Nat) (s:σ),l.drop k=r→forR (fun k s=>(l[k]?).bind fun x=>f x s) E r.length k s=forL f E r s
 | [],k,s,_=>rfl
 | x::r,k,s,h=>by
   have hx:l[k]?=some x:=by have:=congrArg (·[0]?) h;simpa using this
   have hr:l.drop (k+1)=r:=by rw [←List.drop_drop,h];rfl
   simp only [List.length_cons,forR,forL,hx,OB];cases hf:f x s with
   | none=>rfl
   | some y=>
     cases y with
     | inl s'=>exact Zca1 f E l r (k+1) s' hr
     | inr r=>rfl
theorem Zda1 {α σ β τ:Type} (l:List α) (body:τ→Option (τ ⊕ β)) (mk:Int→σ→τ) (f:α→σ→Option (σ ⊕ β)) (E:σ→Option β) (hl:l.length≤4000000000000000000)
  (hb:∀(k:Nat) x s,l[k]?=some x→body (mk k s)=(f x s).map (fun | .inl s'=>.inl (mk (k+1:Nat) s') | .inr r=>.inr r)) (he:∀s,body (mk l.length s)=(E s).map .inr) (s:σ):
  loop body (mk 0 s)=forL f E l s:=by
 have:=Zba1 body mk (fun k s=>(l[k]?).bind fun x=>f x s) E l.length hl (fun k s hk=>by have hx:l[k]?=some l[k]:=List.getElem?_eq_getElem hk;rw [hx,OB];exact hb k _ s hx) he l.length 0 s (by omega);rw [show ((0:Nat):Int)=0 from rfl] at this;rw [this];exact Zca1 f E l l 0 s rfl
theorem Zea1 {α β:Type} (f:α→Option (Unit ⊕ β)) (q:α→Bool) (g:α→β) (E:Option β) (l:List α) (J:∀x∈l,f x=if q x then some (.inr (g x)) else some (.inl ())):
  forL (fun x _=>f x) (fun _=>E) l ()=match l.find? q with | some x=>some (g x) | none=>E:=by
 induction l with
 | nil=>rfl
 | cons x l ih=>
   simp only [forL,J x (by simp),List.find?_cons];cases hq:q x with
   | true=>simp
   | false=>simp only [Bool.false_eq_true,if_false];exact ih fun y hy=>J y (List.mem_cons_of_mem _ hy)
def plc:Option Nat→Int
 | some i=>i
 | none=> -1
theorem Zfa1 (o:Option Nat):decide (0≤plc o)=o.isSome:=by cases o<;>simp [plc]
theorem Zga1 (o:Option Nat):decide (plc o<0)=o.isNone:=by
 cases o with
 | none=>rfl
 | some n=>exact DN (by show ¬((n:Int)<0);omega)
theorem Zha1 {α:Type} (l:List α) (q:α→Bool):∀(r:List α) (k:Nat),l.drop k=r→
  forR (β:=Int) (fun k (_:Unit)=>(l[k]?).bind fun x=>if q x then some (.inr (k:Int)) else some (.inl ())) (fun _=>some (-1)) r.length k ()=some (plc ((r.findIdx? q).map (· + k)))
 | [],k,_=>by simp [forR,plc]
 | x::r,k,h=>by
   have hx:l[k]?=some x:=by have:=congrArg (·[0]?) h;simpa using this
   have hr:l.drop (k+1)=r:=by rw [←List.drop_drop,h];rfl
   simp only [List.length_cons,forR,hx,OB,List.findIdx?_cons];cases hq:q x with
   | true=>simp [plc]
   | false=>
     simp only [Bool.false_eq_true,if_false];rw [Zha1 l q r (k+1) hr];cases r.findIdx? q with
     | none=>rfl
     | some n=>simp only [Option.map_some,plc];congr 2;omega
theorem Zia1 {α:Type} (l:List α) (body:Int→Option (Int ⊕ Int)) (q:α→Bool) (hl:l.length≤4000000000000000000)
  (hb:∀(k:Nat) x,l[k]?=some x→body k=some (if q x then .inr (k:Int) else .inl ((k+1:Nat):Int))) (he:body l.length=some (.inr (-1))):loop body 0=some (plc (l.findIdx? q)):=by
 have:=Zba1 body (fun k (_:Unit)=>k) (fun k _=>(l[k]?).bind fun x=>if q x then some (.inr (k:Int)) else some (.inl ())) (fun _=>some (-1)) l.length hl (fun k s hk=>by have hx:l[k]?=some l[k]:=List.getElem?_eq_getElem hk;rw [hx,OB,hb k _ hx];cases q l[k]<;>rfl) (fun _=>he) l.length 0 () (by omega);rw [show ((0:Nat):Int)=0 from rfl] at this;rw [this,Zha1 l q l 0 rfl];simp
theorem Zja1 {α:Type} (l:List α) (q:α→Bool):(l.findIdx? q).isSome=l.any q:=by rw [List.findIdx?_isSome]
theorem Zka1 {α β:Type} (l:List α) (body:Int→Option (Int ⊕ β)) (q:α→Bool) (E J:β) (hl:l.length≤4000000000000000000)
  (hb:∀(k:Nat) x,l[k]?=some x→body k=some (if q x then .inr E else .inl ((k+1:Nat):Int))) (he:body l.length=some (.inr J)):loop body 0=some (if l.any q then E else J):=by
 have:=Zda1 l body (fun k (_:Unit)=>k) (fun x _=>if q x then some (.inr E) else some (.inl ())) (fun _=>some J) hl (fun k x s hx=>by rw [hb k x hx];cases q x<;>rfl) (fun _=>he) ();rw [this,Zea1 (fun x=>if q x then some (.inr E) else some (.inl ())) q (fun _=>E) (some J) l (fun x _=>rfl)];cases h:l.find? q with
 | none=>
   rw [List.find?_eq_none] at h;have:l.any q=false:=by rw [List.any_eq_false];exact h
   simp [this]
 | some x=>
   have:l.any q=true:=by rw [List.any_eq_true];exact ⟨x,List.mem_of_find?_eq_some h,List.find?_some h⟩
   simp [this]
theorem Zla1 {α τ β:Type} (l:List α) (body:τ→Option (τ ⊕ β)) (st:List α→τ) (R:List α→List α→Option β)
  (hb:∀pre x post,l=pre++x::post→(body (st pre)=some (.inl (st (pre++[x])))∧R pre (x::post)=R (pre++[x]) post)∨∃r,body (st pre)=some (.inr r)∧R pre (x::post)=some r)
  (he:body (st l)=(R l []).map .inr):∀post pre,l=pre++post→loop body (st pre)=R pre post
 | [],pre,h=>by
   have:pre=l:=by simpa using h.symm
   subst this;rw [Zcc,he];cases R pre []<;>rfl
 | x::post,pre,h=>by
   rw [Zcc];rcases hb pre x post h with ⟨h1,h2⟩ | ⟨r,h1,h2⟩
   ·rw [h1,h2];exact Zla1 l body st R hb he post (pre++[x]) (by simpa using h)
   ·rw [h1,h2]
theorem Zma1 {α τ β:Type} (l:List α) (body:τ→Option (τ ⊕ β)) (st:List α→τ) (R:List α→List α→Option β)
 (hb:∀pre x post,l=pre++x::post→(body (st pre)=some (.inl (st (pre++[x])))∧R pre (x::post)=R (pre++[x]) post)∨∃r,body (st pre)=some (.inr r)∧R pre (x::post)=some r)
 (he:body (st l)=(R l []).map .inr):loop body (st [])=R [] l:=Zla1 l body st R hb he l [] rfl
theorem Zna1 {α τ β:Type} (l:List α) (body:τ→Option (τ ⊕ β)) (st:List α→τ) (R:List α→List α→Option β) (I:List α→Prop)
  (hb:∀pre x post,l=pre++x::post→I pre→(body (st pre)=some (.inl (st (pre++[x])))∧I (pre++[x])∧R pre (x::post)=R (pre++[x]) post)∨∃r,body (st pre)=some (.inr r)∧R pre (x::post)=some r)
  (he:I l→body (st l)=(R l []).map .inr):∀post pre,l=pre++post→I pre→loop body (st pre)=R pre post
 | [],pre,h,hI=>by
   have:pre=l:=by simpa using h.symm
   subst this;rw [Zcc,he hI];cases R pre []<;>rfl
 | x::post,pre,h,hI=>by
   rw [Zcc];rcases hb pre x post h hI with ⟨h1,h3,h2⟩ | ⟨r,h1,h2⟩
   ·rw [h1,h2];exact Zna1 l body st R I hb he post (pre++[x]) (by simpa using h) h3
   ·rw [h1,h2]
theorem Zoa1 {α τ β:Type} (l:List α) (body:τ→Option (τ ⊕ β)) (st:List α→τ) (r:β)
  (hb:∀pre x post,l=pre++x::post→body (st pre)=some (.inl (st (pre++[x])))) (he:body (st l)=some (.inr r)):loop body (st [])=some r:=
 Zma1 l body st (fun _ _=>some r) (fun pre x post h=>.inl ⟨hb pre x post h,rfl⟩) he
theorem Zpa1 {α:Type} {l pre post:List α} {x:α} (h:l=pre++x::post):l[pre.length]?=some x:=by subst h;simp
theorem Zqa1 {α:Type} {l pre post:List α} {x:α} (h:l=pre++x::post):pre.length<l.length:=by subst h;simp
theorem Zra1 {α:Type} {l pre post:List α} {x:α} (h:l=pre++x::post):x∈l:=by subst h;simp
theorem Zsa1 {α:Type} {l a b:List α} {x:α} (h:l=a++x::b):at_ l (a.length:Int)=some x:=Z4a1 (Zpa1 h)
theorem Zta1 {α:Type} (a b:List α) (x y:α):(a++x::b).set ((a.length:Int)).toNat y=a++y::b:=by simp
theorem Zua1 {α:Type} (pre:List α) (x:α):(pre++[x]).length=pre.length+1:=by simp
theorem Zva1 {τ β:Type} (n:Nat) (body:τ→Option (τ ⊕ β)) (st:Nat→τ) (r:β) (hb:∀k,k<n→body (st k)=some (.inl (st (k+1)))) (he:body (st n)=some (.inr r)):loop body (st 0)=some r:=by
 have key:∀m k,m+k=n→loop body (st k)=some r:=by
  intro m;induction m with
  | zero=>intro k hk;have:k=n:=by omega
          subst this;rw [Zcc,he]
  | succ m ih=>intro k hk;rw [Zcc,hb k (by omega)];exact ih (k+1) (by omega)
 exact key n 0 rfl
theorem Zwa1 {τ β:Type} (n:Nat) (body:τ→Option (τ ⊕ β)) (st:Nat→τ) (R:Nat→Option β) (hb:∀k,k<n→(body (st k)=some (.inl (st (k+1)))∧R k=R (k+1))∨∃r,body (st k)=some (.inr r)∧R k=some r) (he:body (st n)=(R n).map .inr):loop body (st 0)=R 0:=by
 have key:∀m k,m+k=n→loop body (st k)=R k:=by
  intro m;induction m with
  | zero=>
    intro k hk;have:k=n:=by omega
    subst this;rw [Zcc,he];cases R k<;>rfl
  | succ m ih=>
    intro k hk;rw [Zcc];rcases hb k (by omega) with ⟨h1,h2⟩ | ⟨r,h1,h2⟩
    ·rw [h1,h2];exact ih (k+1) (by omega)
    ·rw [h1,h2]
 exact key n 0 rfl
theorem Zxa1 {α:Type} (l m:List α) (body:Int→Option (Int ⊕ Bool)) (E:α→α→Bool) (h6:l.length=m.length) (hl:l.length≤4000000000000000000)
  (hb:∀(k:Nat) x y,l[k]?=some x→m[k]?=some y→body k=some (if E x y then .inl ((k+1:Nat):Int) else .inr false)) (he:body l.length=some (.inr true)):loop body 0=some ((l.zip m).all fun p=>E p.1 p.2):=by
 rw [Zka1 (l.zip m) body (fun p=>!E p.1 p.2) false true (by simp;omega) (fun k x hx=>by obtain ⟨x1,x2⟩:=x;rw [List.getElem?_zip_eq_some] at hx;rw [hb k x1 x2 hx.1 hx.2];cases E x1 x2<;>rfl) (by rw [show (l.zip m).length=l.length by simp [h6]];exact he)];have:∀(q:List (α×α)),(if q.any (fun p=>!E p.1 p.2) then some false else some true)=some (q.all fun p=>E p.1 p.2):=by
  intro q;induction q with
  | nil=>rfl
  | cons p q ih=>
    rw [List.any_cons,List.all_cons];cases h:E p.1 p.2 with
    | true=>exact ih
    | false=>rfl
 have h2:=this (l.zip m);rw [←h2];cases (l.zip m).any (fun p=>!E p.1 p.2)<;>rfl
theorem Zya1 {α:Type} [DecidableEq α]:∀(l m:List α),l.length=m.length→(l.zip m).all (fun p=>decide (p.1=p.2))=decide (l=m)
 | [],[],_=>rfl
 | [],_::_,h=>by simp at h
 | _::_,[],h=>by simp at h
 | x::l,y::m,h=>by have ih:=Zya1 l m (by simpa using h);simp only [List.zip_cons_cons,List.all_cons,ih];by_cases h1:x=y<;>simp [h1]
theorem Zza1 {α:Type} [DecidableEq α] {l m:List α} (h:l.length≠m.length):decide (l=m)=false:=DN (by rintro rfl;exact h rfl)
theorem Z0b1 {α β:Type} (f:α→List AV) (g:β→List AV) (l:List α) (m:List β):decide (ln f l=ln g m)=decide (l.length=m.length):=by rw [ln_eq,ln_eq,decide_eq_decide];omega
theorem Z1b1 (l:List Side) (p:Side→Option Bool) (q:Side→Bool) (hl:l.length≤4000000000000000000) (hp:∀x∈l,p x=some (q x)):Zbk l p=some (plc (l.findIdx? q)):=by
 unfold Zbk;refine Zia1 l _ q hl (fun k x hx=>?_) ?_
 ·simp only [Zak,Z7a1 hx,Z0a1,Z4a1 hx,OB,hp x (List.mem_iff_getElem?.2 ⟨k,hx⟩),Zaa1 hx hl];cases q x<;>rfl
 ·simp only [Zak,Z8a1,Z1a1,Z9k,Option.map_some]
theorem Z2b1 (l:List KE) (p:KE→Option Bool) (q:KE→Bool) (hl:l.length≤4000000000000000000) (hp:∀x∈l,p x=some (q x)):Zgk l p=some (plc (l.findIdx? q)):=by
 unfold Zgk;refine Zia1 l _ q hl (fun k x hx=>?_) ?_
 ·simp only [Zfk,Z7a1 hx,Z0a1,Z4a1 hx,OB,hp x (List.mem_iff_getElem?.2 ⟨k,hx⟩),Zaa1 hx hl];cases q x<;>rfl
 ·simp only [Zfk,Z8a1,Z1a1,Zek,Option.map_some]
theorem Z3b1 (l:List Int) (p:Int→Option Bool) (q:Int→Bool) (hl:l.length≤4000000000000000000) (hp:∀x∈l,p x=some (q x)):Zpk l p=some (plc (l.findIdx? q)):=by
 unfold Zpk;refine Zia1 l _ q hl (fun k x hx=>?_) ?_
 ·simp only [Zok,Z7a1 hx,Z0a1,Z4a1 hx,OB,hp x (List.mem_iff_getElem?.2 ⟨k,hx⟩),Zaa1 hx hl];cases q x<;>rfl
 ·simp only [Zok,Z8a1,Z1a1,Znk,Option.map_some]
theorem Z4b1 (l:List Sess) (p:Sess→Option Bool) (q:Sess→Bool) (hl:l.length≤4000000000000000000) (hp:∀x∈l,p x=some (q x)):Zlk l p=some (plc (l.findIdx? q)):=by
 unfold Zlk;refine Zia1 l _ q hl (fun k x hx=>?_) ?_
 ·simp only [Zkk,Z7a1 hx,Z0a1,Z4a1 hx,OB,hp x (List.mem_iff_getElem?.2 ⟨k,hx⟩),Zaa1 hx hl];cases q x<;>rfl
 ·simp only [Zkk,Z8a1,Z1a1,Zjk,Option.map_some]
theorem Z5b1 (l:List Side) (p:Side→Option Bool) (q:Side→Bool) (hl:l.length≤4000000000000000000) (hp:∀x∈l,p x=some (q x)):Zgr l p=some (l.any q):=by unfold Zgr;rw [Z1b1 l p q hl hp,OB,Zfa1,Zja1]
theorem Z6b1 (l:List KE) (p:KE→Option Bool) (q:KE→Bool) (hl:l.length≤4000000000000000000) (hp:∀x∈l,p x=some (q x)):Zjr l p=some (l.any q):=by unfold Zjr;rw [Z2b1 l p q hl hp,OB,Zfa1,Zja1]
theorem Z7b1 (l:List Int) (p:Int→Option Bool) (q:Int→Bool) (hl:l.length≤4000000000000000000) (hp:∀x∈l,p x=some (q x)):Znr l p=some (l.any q):=by unfold Znr;rw [Z3b1 l p q hl hp,OB,Zfa1,Zja1]
theorem Z8b1 (l:List Sess) (p:Sess→Option Bool) (q:Sess→Bool) (hl:l.length≤4000000000000000000) (hp:∀x∈l,p x=some (q x)):Zlr l p=some (l.any q):=by unfold Zlr;rw [Z4b1 l p q hl hp,OB,Zfa1,Zja1]
theorem Z9b1 {k:Nat} (h:k≤4000000000000000000):wr (((k+1:Nat):Int)-1)=(k:Int):=by rw [Z3a1 (by omega) (by omega)];omega
theorem Zab1 {α:Type} (l:List α) (p:α→Bool):l.all (fun x=>!p x)=!l.any p:=by
 induction l with
 | nil=>rfl
 | cons x l ih=>simp [ih]
theorem Zbb1 {α:Type} (l:List α) (p q:α→Bool) (h:∀x,p x=!q x):l.any p=!l.all q:=by
 induction l with
 | nil=>rfl
 | cons x l ih=>simp [ih,h]
theorem Zcb1 (l:List Int) (x:Int) (hl:l.length≤1000000):Ztk l x=some (decide (x∈l)):=by
 unfold Ztk;rw [Zka1 l (Zsk l x) (fun y=>decide (y=x)) true false (by omega) (fun k y hy=>by
  have hw:wr ((k:Int)+1)=((k+1:Nat):Int):=Zaa1 hy (by omega);simp only [Zsk,Z7a1 hy,Z0a1,Z4a1 hy,OB,hw];by_cases h:y=x<;>simp [h])
  (by simp only [Zsk,Z8a1,Z1a1,Zrk,Option.map_some])]
 by_cases h:x∈l
 ·have:l.any (fun y=>decide (y=x))=true:=by rw [List.any_eq_true];exact ⟨x,h,by simp⟩
  simp [this,h]
 ·have:l.any (fun y=>decide (y=x))=false:=by rw [List.any_eq_false];intro y hy;simp;rintro rfl;exact h hy
  simp [this,h]
theorem Zdb1 {α:Type} {R:α→α→Prop} (E:∀x,¬R x x) (J:∀x y,R x y→¬R y x):∀ {l m:List α},l.Pairwise R→m.Pairwise R→(∀x,x∈l↔x∈m)→l=m
 | [],[],_,_,_=>rfl
 | [],y::m,_,_,h=>absurd ((h y).2 (by simp)) (by simp)
 | x::l,[],_,_,h=>absurd ((h x).1 (by simp)) (by simp)
 | x::l,y::m,hl,hm,h=>by
   rw [List.pairwise_cons] at hl hm;have h6:x=y:=by
    rcases List.mem_cons.1 ((h x).1 (by simp)) with e | e
    ·exact e
    ·rcases List.mem_cons.1 ((h y).2 (by simp)) with e2 | e2
     ·exact e2.symm
     ·exact absurd (hl.1 y e2) (J _ _ (hm.1 x e))
   subst h6;rw [Zdb1 E J hl.2 hm.2 fun z=>?_];constructor
   ·intro hz;rcases List.mem_cons.1 ((h z).1 (List.mem_cons_of_mem _ hz)) with e | e
    ·subst e;exact absurd (hl.1 z hz) (E z)
    ·exact e
   ·intro hz;rcases List.mem_cons.1 ((h z).2 (List.mem_cons_of_mem _ hz)) with e | e
    ·subst e;exact absurd (hm.1 z hz) (E z)
    ·exact e
theorem Zeb1 {l:List Int} (h:l.Pairwise (· < ·)) {k:Nat} {x y:Int} (hx:l[k]?=some x) (hy:l[k+1]?=some y):x<y:=by rw [List.pairwise_iff_getElem] at h;obtain ⟨h1,rfl⟩:=List.getElem?_eq_some_iff.1 hx;obtain ⟨h2,rfl⟩:=List.getElem?_eq_some_iff.1 hy;exact h k (k+1) h1 h2 (by omega)
theorem Zfb1 {l:List Int} (h:l.Pairwise (· < ·)):Lib.compact l=l:=by
 refine Lib.compact_all l fun j hj=>?_;cases j with
 | zero=>exact Lib.keeps_lt_one _ 0 (by omega)
 | succ j=>have hx:l[j+1]?=some l[j+1]:=List.getElem?_eq_getElem hj;have hy:l[j]?=some l[j]:=List.getElem?_eq_getElem (by omega);have:=Zeb1 h hy hx;refine Lib.keeps_pos ?_;simp only [Nat.add_sub_cancel];rw [getElem!_pos _ _ (by simpa using hj),getElem!_pos _ _ (by simp;omega)];simp only [List.getElem_toArray];omega
def setL (l:List Int):List Int:=Lib.compact (l.mergeSort fun x y=>decide (x≤y))
theorem Zgb1 (l:List Int) (hl:l.length≤1000000):Zur l=some (setL l):=by simp only [Zur,Z0l];rw [Z6a1 _ _ (by omega) (by simp;omega),OB,List.nil_append,DT (by omega),Z0a1];rfl
theorem Zhb1 (l:List Int) (hl:l.length≤1000000) (h:l.Pairwise (· < ·)):Zur l=some l:=by rw [Zgb1 l hl];unfold setL;rw [List.mergeSort_of_pairwise (h.imp fun h6=>DT (by omega)),Zfb1 h]
theorem Zib1 (l m:List Int) (hl:l.length≤1000000):Zxk l m=some (decide (l=m)):=by
 simp only [Zxk,Z0b1];by_cases h:l.length=m.length
 ·simp only [h,decide_true,Bool.not_true,Z1a1];rw [Zxa1 l m _ (fun x y=>decide (x=y)) h (by omega) (fun k x y hx hy=>by simp only [Zwk,Z7a1 hx,Z0a1,Z4a1 hx,Z4a1 hy,OB,Zaa1 hx (show l.length≤4000000000000000000 by omega),Z2a1,Option.map_some];cases decide (x=y)<;>rfl) (by simp only [Zwk,Z8a1,Z1a1,Zvk,Option.map_some]),Zya1 l m h]
 ·simp [h,Zza1 h]
theorem Zjb1 (n:Nat) (E:n≤3000000):Zzr n=some []:=by
 have e0:wr (0-0)=0:=Z3a1 (by omega) (by omega);have e1:wr ((n:Int)-0)=n:=by rw [Z3a1 (by omega) (by omega)];omega
 simp only [Zzr,Zyr,Zxr,e0,e1];rw [DN (by omega),Z1a1];by_cases h:0<n
 ·rw [DT (by omega),Z0a1];unfold Zpf;rw [if_pos ⟨by omega,by omega,by omega⟩,OB];unfold Z8c;rw [if_pos ⟨by omega,by omega,by omega⟩];simp
 ·rw [DN (by omega),Z1a1]
theorem Zkb1 (a b:List Int) (ha:a.length≤1000000) (hb:b.length≤1000000):Ziw [a,b]=some (a++b):=by
 have g0:at_ [a,b] 0=some a:=rfl;have g1:at_ [a,b] (wr (0+1))=some b:=by rw [Z3a1 (by omega) (by omega)];rfl
 have l0:ln (Z7d 1 Z3d) [a,b]=2:=by rw [ln_eq];rfl
 have w1:wr (0+1)=1:=Z3a1 (by omega) (by omega);have w2:wr (1+1)=2:=Z3a1 (by omega) (by omega);have s1:wr (0+ln Z3d a)=(a.length:Int):=by rw [ln_eq,Z3a1 (by omega) (by omega)];omega
 have s2:wr ((a.length:Int)+ln Z3d b)=((a.length+b.length:Nat):Int):=by rw [ln_eq,Z3a1 (by omega) (by omega)];omega
 unfold Ziw;rw [Zcc];dsimp only [Zhw];rw [l0,show decide ((0:Int)<2)=true from rfl,Z0a1,g0,OB,s1,DN (by omega),Z1a1];dsimp only [Zgw];rw [s1,w1,Zcc];dsimp only [Zhw];rw [l0,show decide ((1:Int)<2)=true from rfl,Z0a1,←w1,g1,OB,s2,DN (by omega),Z1a1];dsimp only [Zgw];rw [s2,w1,w2,Zcc];dsimp only [Zhw];rw [l0,show decide ((2:Int)<2)=false from rfl,Z1a1];dsimp only [Zfw];rw [Zjb1 _ (by omega),OB];have k:loop (Zew [a,b]) (0,[])=some (a++b):=by rw [Zcc];dsimp only [Zew];rw [l0,show decide ((0:Int)<2)=true from rfl,Z0a1,g0,OB,Z6a1 _ _ (by omega) (by simp;omega),OB,List.nil_append,w1];dsimp only;rw [Zcc];dsimp only [Zew];rw [l0,show decide ((1:Int)<2)=true from rfl,Z0a1,←w1,g1,OB,Z6a1 _ _ (by omega) (by omega),OB,w1,w2];dsimp only;rw [Zcc];dsimp only [Zew];rw [l0,show decide ((2:Int)<2)=false from rfl,Z1a1];rfl
 rw [k];rfl
theorem Zlb1 (l:List Int) (x:Int) (hl:l.length≤1000000):Z1s l x=some (decide (x∈l)):=by
 have h1:Z6l l x=some (plc (l.findIdx? fun y=>decide (x=y))):=by
  unfold Z6l;refine Zia1 l _ (fun y=>decide (x=y)) (by omega) (fun k y hy=>?_) ?_
  ·simp only [Z5l,Z7a1 hy,Z0a1,Z4a1 hy,OB,Zaa1 hy (show l.length≤4000000000000000000 by omega)];cases decide (x=y)<;>rfl
  ·simp only [Z5l,Z8a1,Z1a1,Z4l,Option.map_some]
 simp only [Z1s,h1,OB,Zfa1,Zja1];congr 1;rw [Bool.eq_iff_iff,List.any_eq_true,decide_eq_true_iff];constructor
 ·rintro ⟨y,hy,h⟩;have:x=y:=by simpa using h
  exact this ▸ hy
 ·intro h;exact ⟨x,h,by simp⟩
theorem Zmb1 (l:List Int) (x:Int) (hl:l.length≤1000000):Zkw l x=some (decide (x∈l)):=by simp only [Zkw,Zlb1 l x hl,OB]
theorem Znb1 {E:List Int} (h:E.Pairwise (· ≤ ·)):(Lib.compact E).Pairwise (· < ·)∧∀x,x∈Lib.compact E↔x∈E:=by
 have get:∀j,j<E.length→∃hj:j<E.length,E.toArray[j]! = E[j]:=fun j hj=>⟨hj,by rw [getElem!_pos _ _ (by simpa using hj)];simp⟩
 have mono:∀i j,i≤j→j<E.length→E.toArray[i]!≤E.toArray[j]!:=fun i j h8 hj=>by
  obtain ⟨_,e1⟩:=get i (by omega);obtain ⟨_,e2⟩:=get j hj;rw [e1,e2];by_cases e:i=j
  ·subst e;exact Int.le_refl _
  ·rw [List.pairwise_iff_getElem] at h;exact h i j (by omega) hj (by omega)
 have key:∀m,m≤E.length→(Lib.compactUpTo E.toArray m).Pairwise (· < ·)∧(∀x,x∈Lib.compactUpTo E.toArray m↔∃j,j<m∧x=E.toArray[j]!):=by
  intro m;induction m with
  | zero=>intro _;exact ⟨by simp [Lib.compactUpTo],fun x=>by simp [Lib.compactUpTo]⟩
  | succ m ih=>
    intro hm;obtain ⟨h1,h2⟩:=ih (by omega);rw [Lib.compactUpTo_succ];cases hk:Lib.keeps E.toArray m with
    | true=>
      rw [if_pos rfl];refine ⟨?_,fun x=>?_⟩
      ·rw [List.pairwise_append];refine ⟨h1,by simp,fun x hx y hy=>?_⟩;rw [List.mem_singleton] at hy;subst hy;obtain ⟨j,hj,rfl⟩:=(h2 x).1 hx;unfold Lib.keeps at hk;simp only [decide_eq_true_eq] at hk;have a1:=mono j (m-1) (by omega) (by omega);have a2:=mono (m-1) m (by omega) (by omega);rcases hk with e | e
       ·omega
       ·have:E.toArray[m]!≠E.toArray[m-1]!:=e;omega
      ·rw [List.mem_append,h2];constructor
       ·rintro (⟨j,hj,e⟩ | e)
        ·exact ⟨j,by omega,e⟩
        ·simp at e;exact ⟨m,by omega,by simpa using e⟩
       ·rintro ⟨j,hj,e⟩;by_cases h6:j=m
        ·subst h6;right;simp [e]
        ·exact .inl ⟨j,by omega,e⟩
    | false=>
      rw [if_neg (by simp),List.append_nil];refine ⟨h1,fun x=>?_⟩;rw [h2];constructor
      ·rintro ⟨j,hj,e⟩;exact ⟨j,by omega,e⟩
      ·rintro ⟨j,hj,e⟩;by_cases h6:j=m
       ·subst h6;unfold Lib.keeps at hk;simp only [decide_eq_false_iff_not,not_or,Classical.not_not] at hk;exact ⟨j-1,by omega,by rw [e,hk.2]⟩
       ·exact ⟨j,by omega,e⟩
 obtain ⟨k1,k2⟩:=key E.length (Nat.le_refl _);refine ⟨k1,fun x=>?_⟩;have:=k2 x;unfold Lib.compact;rw [this];constructor
 ·rintro ⟨j,hj,e⟩;obtain ⟨_,e1⟩:=get j hj;rw [e,e1];exact List.getElem_mem hj
 ·intro hx;obtain ⟨j,hj,e⟩:=List.mem_iff_getElem.1 hx;obtain ⟨_,e1⟩:=get j hj;exact ⟨j,hj,by rw [e1,e]⟩
theorem Zob1 (l:List Int):(setL l).Pairwise (· < ·)∧∀x,x∈setL l↔x∈l:=by
 have hs:(l.mergeSort fun x y=>decide (x≤y)).Pairwise (· ≤ ·):=by have:=List.pairwise_mergeSort (le:=fun x y:Int=>decide (x≤y)) (by intro a b c;simp;omega) (by intro a b;simp;omega) l;exact this.imp fun h=>by simpa using h
 obtain ⟨h1,h2⟩:=Znb1 hs;refine ⟨h1,fun x=>?_⟩;unfold setL;rw [h2];exact (List.mergeSort_perm l _).mem_iff
theorem Zpb1:∀(l:List Int) (q n:Int),l.Pairwise (· < ·)→(∀x∈l,q≤x∧x<n)→l=[]∨(l.length:Int)≤n-q
 | [],_,_,_,_=>.inl rfl
 | x::l,q,n,h,hb=>by
   rw [List.pairwise_cons] at h;have h1:=hb x (by simp);right;rcases Zpb1 l (x+1) n h.2 (fun y hy=>⟨by have:=h.1 y hy;omega,(hb y (by simp [hy])).2⟩) with rfl | h2
   ·simp only [List.length_cons,List.length_nil];omega
   ·simp only [List.length_cons];omega
theorem pw2 {x y:Int} {r:List Int}:(x::y::r).Pairwise (· < ·)↔x<y∧(y::r).Pairwise (· < ·):=by
 constructor
 ·intro h;rw [List.pairwise_cons] at h;exact ⟨h.1 y (by simp),h.2⟩
 ·rintro ⟨h,k⟩;rw [List.pairwise_cons];refine ⟨fun z hz=>?_,k⟩;rw [List.pairwise_cons] at k;rcases List.mem_cons.1 hz with rfl | hz
  ·exact h
  ·have:=k.1 z hz;omega
theorem Zqb1 (l:List Int) (hl:l.length≤1000000):Zdl l=some (decide (l.Pairwise (· < ·))):=by
 unfold Zdl;have key:=Zwa1 l.length (Zcl l) (fun k=>(k:Int)) (fun k=>some (decide ((l.drop (k-1)).Pairwise (· < ·)))) (fun k hk=>?_) ?_
 ·simpa using key
 ·obtain ⟨y,hy⟩:∃y,l[k]?=some y:=⟨_,List.getElem?_eq_getElem hk⟩
  dsimp only [Zcl];rw [Z7a1 hy,Z0a1];cases k with
  | zero=>left;rw [DN (by omega),Z1a1];dsimp only [Zbl];rw [Z1a1,Z9a1 (by omega)];exact ⟨rfl,rfl⟩
  | succ k=>
    obtain ⟨x,hx⟩:∃x,l[k]?=some x:=⟨_,List.getElem?_eq_getElem (by omega)⟩
    have e1:l.drop k=x::l.drop (k+1):=by obtain ⟨h1,rfl⟩:=List.getElem?_eq_some_iff.1 hx;exact List.drop_eq_getElem_cons h1
    have e2:l.drop (k+1)=y::l.drop (k+2):=by obtain ⟨h1,rfl⟩:=List.getElem?_eq_some_iff.1 hy;exact List.drop_eq_getElem_cons h1
    rw [DT (by omega),Z0a1,Z9b1 (by omega),Z4a1 hx,OB,Z4a1 hy,OB];dsimp only [Zbl];rw [show k+1-1=k from rfl,show k+1+1-1=k+1 from rfl,e1,e2,decide_eq_decide.2 (pw2 (x:=x) (y:=y) (r:=l.drop (k+2)))];by_cases h:y≤x
    ·right;refine ⟨false,by rw [DT h,Z0a1];rfl,?_⟩;rw [DN (by rintro ⟨h1,_⟩;omega)]
    ·left;refine ⟨by rw [DN h,Z1a1,Z9a1 (by omega)],?_⟩;have:x<y:=by omega
     simp [this]
 ·dsimp only [Zcl];rw [Z8a1,Z1a1];have:(l.drop (l.length-1)).Pairwise (· < ·):=by
   have h1:(l.drop (l.length-1)).length≤1:=by rw [List.length_drop];omega
   generalize l.drop (l.length-1)=q at h1
   match q,h1 with
   | [],_=>exact .nil
   | [x],_=>exact List.pairwise_singleton _ _
  rw [DT this];rfl
theorem Zrb1 {α:Type} (f:α→Bool) (pre post:List α) (x:α):∃d,(pre++x::post).drop (pre.filter f).length=d::(pre++x::post).drop ((pre.filter f).length+1):=by
 have h1:(pre.filter f).length≤pre.length:=List.length_filter_le _ _;have h2:(pre.filter f).length<(pre++x::post).length:=by simp;omega
 exact ⟨_,List.drop_eq_getElem_cons h2⟩
theorem Zsb1 (l:List Int) (p:Int→Option Bool) (q:Int→Bool) (hl:l.length≤1000000) (hp:∀x∈l,p x=some (q x)):Zpw l p=some (l.filter fun x=>!q x):=by
 simp only [Zpw,Z3b1 l p q (by omega) hp,OB];cases hf:l.findIdx? q with
 | none=>rw [List.findIdx?_eq_none_iff] at hf;rw [show plc none = -1 from rfl,DT rfl,Z0a1,List.filter_eq_self.2 (fun x hx=>by rw [hf x hx];rfl)]
 | some i=>
   obtain ⟨hi,hq,ho⟩:=List.findIdx?_eq_some_iff_getElem.1 hf;rw [show plc (some i)=(i:Int) from rfl,DN (by omega),Z1a1,Z9a1 (by omega)]
   let F:List Int→List Int:=fun pre=>pre.filter fun x=>!q x
   have hF:∀pre post,l=pre++post→(F pre).length≤pre.length:=fun pre post _=>List.length_filter_le _ _;have key:=Zla1 l (Zow p) (fun pre=>(((F pre).length:Int),(pre.length:Int),F pre++l.drop (F pre).length)) (fun _ _=>some (F l)) (fun pre x post h=>?_) ?_ (l.drop (i+1)) (l.take (i+1)) (by simp)
   ·have e1:F (l.take (i+1))=l.take i:=by
     show (l.take (i+1)).filter _=_;rw [List.take_succ_eq_append_getElem hi,List.filter_append];have a1:(l.take i).filter (fun x=>!q x)=l.take i:=by rw [List.filter_eq_self];intro x hx;obtain ⟨j,hj,rfl⟩:=List.mem_iff_getElem.1 hx;rw [List.getElem_take];have:=ho j (by simp at hj;omega);simpa using this
     have a2: [l[i]].filter (fun x=>!q x)=[]:=by simp [hq]
     rw [a1,a2,List.append_nil]
    rw [e1] at key;have e2:(l.take i).length=i:=by simp;omega
    have e3:(l.take (i+1)).length=i+1:=by simp;omega
    rw [e2,e3,List.take_append_drop] at key;exact key
   ·left;refine ⟨?_,rfl⟩;have hx:=Zpa1 h;have hm:=Zqa1 h;have h8:=hF pre (x::post) h;have h6:(F pre++l.drop (F pre).length).length=l.length:=by simp;omega
    have h9:(F pre++l.drop (F pre).length)[pre.length]?=some x:=by rw [List.getElem?_append_right h8,List.getElem?_drop,show (F pre).length+(pre.length-(F pre).length)=pre.length by omega];exact hx
    dsimp only [Zow];rw [Z7a1 h9,Z0a1,Z4a1 h9,OB,hp x (Zra1 h),OB];have hc:F (pre++[x])=F pre++(if q x then [] else [x]):=by show (pre++[x]).filter _=_;rw [List.filter_append];congr 1;cases hw:q x<;>simp [hw]
    cases hn:q x with
    | true=>rw [Bool.not_true,Z1a1];dsimp only [Znw];rw [Z9a1 (by omega),hc,hn,if_pos rfl,List.append_nil,Zua1]
    | false=>
      rw [Bool.not_false,Z0a1];obtain ⟨d,hd⟩:=Zrb1 (fun x=>!q x) pre post x;rw [←h] at hd;have hd':l.drop (F pre).length=d::l.drop ((F pre).length+1):=hd;have hA:(F pre++l.drop (F pre).length)[(F pre).length]?=some d:=by rw [hd'];simp
      rw [Z4a1 hA,OB];dsimp only [Znw];rw [Z9a1 (by omega),Z9a1 (by omega),hc,hn,if_neg (by simp),Zua1,hd',Int.toNat_natCast,Zua1];simp
   ·dsimp only [Zow];have h8:=hF l [] (by simp);have h6:(F l++l.drop (F l).length).length=l.length:=by simp;omega
    rw [show ((l.length:Int))=((F l++l.drop (F l).length).length:Int) by rw [h6],Z8a1,Z1a1];dsimp only [Zmw];unfold vw_;rw [ln_eq,h6,if_pos ⟨by omega,by omega,by omega,by omega⟩,OB];unfold Zsg;rw [h6,if_pos ⟨by omega,by simp;omega⟩,OB];unfold Z8c;rw [if_pos ⟨by omega,by omega,by simp;omega⟩,OB];simp [Int.toNat_natCast,List.append_assoc]
theorem Ztb1 (l:List Int):(setL l).length≤l.length:=by have:=Lib.compact_length_le (l.mergeSort fun x y=>decide (x≤y));rw [List.length_mergeSort] at this;exact this
theorem Zub1 {l:List Int} (h:l.Pairwise (· < ·)):setL l=l:=by unfold setL;rw [List.mergeSort_of_pairwise (h.imp fun h6=>DT (by omega)),Zfb1 h]
theorem Zvb1 (l:List Int) (p:Int→Option Bool) (q:Int→Bool) (hl:l.length≤1000000) (hp:∀x∈l,p x=some (q x)):Zpz l p=some ((setL l).filter q):=by have h1:=Ztb1 l;simp only [Zpz,Zgb1 l hl,OB];rw [Zsb1 (setL l) _ (fun x=>!q x) (by omega) (fun x hx=>by simp only [Z8l,hp x (((Zob1 l).2 x).1 hx),OB]),OB];simp
theorem Zwb1 (a b:List Int) (ha:a.length≤1000000) (hb:b.length≤1000000):Zj11 a b=some ((setL a).filter fun z=>!decide (z∈b)):=by simp only [Zj11];rw [Zvb1 a _ (fun z=>!decide (z∈b)) ha (fun x _=>by simp only [Znz,Zmb1 b x hb,OB]),OB]
theorem Zxb1 (a b:List Int) (ha:a.length≤1000000) (hb:b.length≤1000000):Zi31 a b=some (a.all fun z=>decide (z∈b)):=by
 simp only [Zi31,Zwb1 a b ha hb,OB,ln_eq];congr 1;rw [Bool.eq_iff_iff,decide_eq_true_eq,List.all_eq_true];have:((((setL a).filter fun z=>!decide (z∈b)).length:Nat):Int)=0↔((setL a).filter fun z=>!decide (z∈b))=[]:=by rw [←List.length_eq_zero_iff];omega
 rw [this,List.filter_eq_nil_iff];constructor
 ·intro h x hx;have:=h x (((Zob1 a).2 x).2 hx);simpa using this
 ·intro h x hx;have:=h x (((Zob1 a).2 x).1 hx);simpa using this
theorem s_Del (l:List Int) (x:Int) (hl:l.length≤1000000):Zg31 l x=some ((setL l).filter fun z=>!decide (z∈ [x])):=by simp only [Zg31,Zwb1 l [x] hl (by simp),OB]
theorem s_Add (l:List Int) (x:Int) (hl:l.length≤900000):Zh11 l x=some (setL (l++[x])):=by simp only [Zh11,Zkz,Zkb1 l [x] (by omega) (by simp),OB,Zgb1 (l++[x]) (by simp;omega)]
def Zyb1:Book:=⟨0,[]⟩
def Zzb1 (n:List Int):Bool:=decide (n.length≤64)&&n.all (fun p=>decide (0≤p))
def Z0c1 (last top:Int) (first:Bool) (s:Sess):Bool:=decide (last<s.ID)&&(decide (s.ID≤top)&&(Zzb1 s.Need&&(decide (s.Need.Pairwise (· < ·))&&(decide (0≤s.Age)&&((decide (s.State=1)&&first)||(decide (s.State=0)&&decide (s.Age=0)))))))
def Z1c1 (top:Int):Int→Bool→List Sess→Bool
 | _,_,[]=>true
 | last,first,s::l=>Z0c1 last top first s&&Z1c1 top s.ID false l
def okBk (b:Book):Bool:=decide (0≤b.Last)&&(decide (b.Sess.length≤8)&&Z1c1 b.Last 0 true b.Sess)
def Z2c1 (b:Book):Prop:=b.Sess.length≤1000000∧∀s∈b.Sess,s.Need.length≤1000000
theorem Z3c1 (n:List Int) (E:n.length≤1000000):Zww n=some (!Zzb1 n):=by
 simp only [Zww,Zvw,ln_eq,Zzb1];rw [Z7b1 n _ (fun z=>decide (z<0)) (by omega) (fun x _=>by simp only [Zhl])];have:n.any (fun z=>decide (z<0))=!n.all (fun p=>decide (0≤p)):=Zbb1 _ _ _ fun x=>by rw [Bool.eq_iff_iff];simp
 rw [this];by_cases h:n.length≤64
 ·rw [DN (by omega),DT h];rfl
 ·rw [DT (by omega),DN h];rfl
def Z4c1 (pre:List Sess):Int:=match pre.getLast? with | some s=>s.ID | none=>0
theorem Z5c1 (pre:List Sess) (s:Sess):Z4c1 (pre++[s])=s.ID:=by simp [Z4c1]
theorem Z6c1 (b:Book) (last i:Int) (s:Sess) (g:Bool) (E:s.Need.length≤1000000):Zuz b last i s g =
  if decide (last<s.ID)&&(decide (s.ID≤b.Last)&&(Zzb1 s.Need&&(decide (s.Need.Pairwise (· < ·))&&(decide (0≤s.Age)&&(g||(decide (s.State=0)&&decide (s.Age=0))))))) then some (.inl (s.ID,wr (i+1))) else some (.inr 170):=by
 have e4:∀z,Ztz i s g z=if !z&&(g||(decide (s.State=0)&&decide (s.Age=0))) then some (.inl (s.ID,wr (i+1))) else some (.inr 170):=fun z=>by
  simp only [Ztz,Zsz];cases z
  ·cases g
   ·by_cases h1:s.State=0
    ·by_cases h2:s.Age=0<;>simp [h1,h2]
    ·simp [h1]
   ·simp
  ·simp
 simp only [Zuz,Z3c1 s.Need E,Zqb1 s.Need E,OB,e4];by_cases h1:s.ID≤last
 ·rw [DT h1,Z0a1,DN (show ¬last<s.ID by omega)];simp
 ·rw [DN h1,Z1a1,DT (show last<s.ID by omega),Bool.true_and];by_cases h2:b.Last<s.ID
  ·rw [DT h2,Z0a1,DN (show ¬s.ID≤b.Last by omega)];simp
  ·rw [DN h2,Z1a1,DT (show s.ID≤b.Last by omega),Bool.true_and];cases Zzb1 s.Need
   ·simp
   ·by_cases h3:s.Need.Pairwise (· < ·)
    ·by_cases h4:s.Age<0
     ·have:¬0≤s.Age:=by omega
      simp [h3,h4,this]
     ·have:0≤s.Age:=by omega
      simp [h3,h4,this]
    ·simp [h3]
theorem Z7c1 (b:Book) (hb:Z2c1 b):Zxz b=some (if okBk b then 0 else 170):=by
 have hl:loop (Zvz b) (0,0)=some (if Z1c1 b.Last 0 true b.Sess then 0 else 170):=by
  refine Zma1 b.Sess (Zvz b) (fun pre=>(Z4c1 pre,(pre.length:Int))) (fun pre post=>some (if Z1c1 b.Last (Z4c1 pre) pre.isEmpty post then 0 else 170)) (fun pre x post h=>?_) ?_
  ·have hx:=Zpa1 h;have hm:=Zqa1 h;have h1:=hb.1;dsimp only [Zvz];rw [Z7a1 hx,Z0a1,Z4a1 hx,OB];have e:∀u v:Bool,ifb (decide (x.State=1)) (Zuz b (Z4c1 pre) (pre.length:Int) x u) (Zuz b (Z4c1 pre) (pre.length:Int) x v)=Zuz b (Z4c1 pre) (pre.length:Int) x (if decide (x.State=1) then u else v):=fun u v=>by cases decide (x.State=1)<;>rfl
   rw [e,Z6c1 _ _ _ _ _ (hb.2 x (Zra1 h)),Z9a1 (by omega),Z5c1,Zua1];have e2:(if decide (x.State=1)=true then decide ((pre.length:Int)=0) else false)=(decide (x.State=1)&&pre.isEmpty):=by
    cases pre with
    | nil=>cases decide (x.State=1)<;>rfl
    | cons a r=>cases decide (x.State=1)<;>simp<;>omega
   rw [e2];show (_∧some (if (Z0c1 (Z4c1 pre) b.Last pre.isEmpty x&&Z1c1 b.Last x.ID false post) then (0:Int) else 170)=some (if Z1c1 b.Last x.ID (pre++[x]).isEmpty post then 0 else 170))∨∃r,_∧some (if (Z0c1 (Z4c1 pre) b.Last pre.isEmpty x&&Z1c1 b.Last x.ID false post) then (0:Int) else 170)=some r;have e3:(pre++[x]).isEmpty=false:=by simp
   rw [e3];show ((if Z0c1 (Z4c1 pre) b.Last pre.isEmpty x then some (Sum.inl (x.ID,((pre.length+1:Nat):Int))) else some (.inr (170:Int)))=_∧_)∨∃r,(if Z0c1 (Z4c1 pre) b.Last pre.isEmpty x then some (Sum.inl (x.ID,((pre.length+1:Nat):Int))) else some (.inr (170:Int)))=_∧_;cases Z0c1 (Z4c1 pre) b.Last pre.isEmpty x
   ·right;exact ⟨170,rfl,rfl⟩
   ·left;exact ⟨rfl,by rw [Bool.true_and]⟩
  ·dsimp only [Zvz];rw [Z8a1,Z1a1];rfl
 simp only [Zxz,Zwz,hl,okBk,ln_eq];by_cases h1:b.Last<0
 ·have:¬0≤b.Last:=by omega
  simp [h1,this]
 ·have:0≤b.Last:=by omega
  by_cases h2:b.Sess.length≤8
  ·have h3:¬(8:Int)<b.Sess.length:=by omega
   simp [h1,this,h2,h3]
  ·have h3:(8:Int)<b.Sess.length:=by omega
   simp [h1,this,h2,h3]
theorem Z8c1 {α:Type} {l:List α} {k:Nat} {x:α} (h:l[k]?=some x):l.set k x=l:=by obtain ⟨h1,rfl⟩:=List.getElem?_eq_some_iff.1 h;exact List.set_getElem_self h1
theorem Z9c1 (l:List Int) (h:l.length≤1000000):Z0l l=some l:=by simp only [Z0l];rw [Z6a1 _ _ (by omega) (by simp;omega),List.nil_append]
theorem Zac1 (l:List Sess) (h:l.length≤1000000):Zfl l=some l:=by simp only [Zfl];rw [Z6a1 _ _ (by omega) (by simp;omega),List.nil_append]
theorem Zbc1 (b:Book) (hb:Z2c1 b):Ztw b=some b.Sess:=by
 have h1:=hb.1;simp only [Ztw,Zac1 b.Sess hb.1,OB];refine Zoa1 b.Sess _ (fun pre=>((pre.length:Int),b.Sess)) b.Sess (fun pre x post h=>?_) ?_
 ·have hx:=Zpa1 h;have hm:=Zqa1 h;dsimp only [Zsw];rw [Z7a1 hx,Z0a1,Z4a1 hx,OB,Z9c1 _ (hb.2 x (Zra1 h)),OB,Z9a1 (by omega),Int.toNat_natCast,Z8c1 hx,Zua1]
 ·dsimp only [Zsw];rw [Z8a1,Z1a1];rfl
def Zcc1 (b:Book) (id:Int):Option Nat:=b.Sess.findIdx? fun s=>decide (s.ID=id)
theorem Zdc1 (b:Book) (id:Int) (hb:b.Sess.length≤1000000):Z8s b id=some (plc (Zcc1 b id)):=by simp only [Z8s];rw [Z4b1 b.Sess _ (fun s=>decide (s.ID=id)) (by omega) (fun x _=>by simp only [Zkl]),OB];rfl
theorem Zec1 (l:List Sess) (i:Nat) (hi:i<l.length) (hl:l.length≤1000000):Z6s (i:Int) ((i+1:Nat):Int) l=some (l.take i++l.drop (i+1)):=by
 simp only [Z6s,ln_eq];unfold vw_;rw [if_pos ⟨by omega,by omega,by omega,by omega⟩,OB,if_pos ⟨by omega,by omega,by omega,by omega⟩,OB,DN (by omega),Z1a1,if_pos ⟨by omega,by omega,by omega,by omega⟩,OB];have t1:Int.toNat (i:Int)-Int.toNat 0=i:=by omega
 have t2:Int.toNat ((l.length:Nat):Int)-Int.toNat ((i+1:Nat):Int)=l.length-(i+1):=by omega
 have t3:Int.toNat ((i+1:Nat):Int)=i+1:=by omega
 rw [t1,t2,t3];unfold Ztg;rw [if_pos ⟨by omega,by omega,by omega⟩,OB];have e1:(l.take (i+1+(l.length-(i+1)))).drop (i+1)=l.drop (i+1):=by rw [List.take_of_length_le (by omega)]
 have e2:(l.take i++l.drop (i+1)).length=l.length-1:=by simp;omega
 rw [e1];have e3:i+(l.length-(i+1))=l.length-1:=by omega
 simp only [Z5s,ln_eq,t1,t2,e3];have h6:(l.take i++l.drop (i+1)++l.drop (l.length-1)).length=l.length:=by rw [List.length_append,e2,List.length_drop];omega
 rw [OB,h6];unfold vw_;rw [if_pos ⟨by omega,by omega,by omega,by omega⟩,OB];have t4:Int.toNat ((l.length-1:Nat):Int)=l.length-1:=by omega
 have t5:Int.toNat ((l.length:Nat):Int)-(l.length-1)=1:=by omega
 rw [t4,t5];unfold Zsg;rw [h6,if_pos ⟨by omega,by omega⟩,OB];unfold Zug;have e4:(l.take i++l.drop (i+1)++l.drop (l.length-1)).take (l.length-1)=l.take i++l.drop (i+1):=by rw [List.take_left' e2]
 rw [e4];have h8:(l.take i++l.drop (i+1)++List.replicate 1 (Sess.mk 0 [] 0 0)++(l.take i++l.drop (i+1)++l.drop (l.length-1)).drop (l.length-1+1)).length=l.length:=by rw [List.length_append,List.length_append,e2,List.length_drop,h6];simp;omega
 rw [h8,if_pos ⟨by omega,by omega⟩,OB];congr 1;rw [List.append_assoc (l.take i++l.drop (i+1))];rw [List.take_left' e2]
def Zfc1 (b:Book) (id:Int) (need:List Int):Book×Int:=if okBk b then (if id≤b.Last then (Zyb1,171) else if Zzb1 (setL need) then (if b.Sess.length=8 then (Zyb1,173) else (⟨id,b.Sess++[⟨id,setL need,0,0⟩]⟩,0)) else (Zyb1,172)) else (Zyb1,170)
theorem Zgc1 (b:Book) (id:Int) (need:List Int) (hb:Z2c1 b) (E:need.length≤1000000):Zm11 b id need=some (Zfc1 b id need):=by
 have hs:=Ztb1 need;have h1:=hb.1;simp only [Zm11,Zgb1 need E,Z7c1 b hb,Z3c1 (setL need) (by omega),OB,Zl11,Zbc1 b hb,Zfc1,ln_eq];rw [Z6a1 _ _ (by omega) (by simp;omega),OB];cases hk:okBk b
 ·rfl
 ·simp only [if_true];simp only [decide_true,Bool.not_true,Z1a1];by_cases h2:id≤b.Last
  ·simp [h2,Zyb1]
  ·cases h3:Zzb1 (setL need)
   ·simp [h2,Zyb1]
   ·by_cases h4:b.Sess.length=8
    ·simp [h2,h4,Zyb1]
    ·have:¬(b.Sess.length:Int)=8:=by omega
     simp [h2,h4,this]
def Zhc1 (b:Book):Book×Int×Int:=if okBk b then (match b.Sess with | []=>(Zyb1,0,175) | s::l=>if s.State=1 then (Zyb1,0,175) else (⟨b.Last,⟨s.ID,s.Need,1,s.Age⟩::l⟩,s.ID,0)) else (Zyb1,0,170)
theorem Zic1 (b:Book) (hb:Z2c1 b):Zp11 b=some (Zhc1 b):=by
 simp only [Zp11,Z7c1 b hb,OB,Zo11,Zbc1 b hb,Zhc1,ln_eq];cases hk:okBk b
 ·rfl
 ·simp only [if_true];simp only [decide_true,Bool.not_true,Z1a1];cases hs:b.Sess with
  | nil=>simp [Zyb1]
  | cons s l=>
    have h0:at_ (s::l) 0=some s:=rfl;have:¬(((s::l).length:Nat):Int)=0:=by simp;omega
    rw [DN this,Z1a1,h0,OB];by_cases h1:s.State=1
    ·simp [h1,Zyb1]
    ·simp [h1]
def endP (b:Book) (id E:Int):Book×Int:=
 if okBk b then (match Zcc1 b id with
  | none=>(Zyb1,174)
  | some i=>match b.Sess[i]? with
    | none=>(Zyb1,174)
    | some s=>if s.State=E then (⟨b.Last,b.Sess.take i++b.Sess.drop (i+1)⟩,0) else (Zyb1,175)) else (Zyb1,170)
theorem Zjc1 {b:Book} {id:Int} {i:Nat} (h:Zcc1 b id=some i):∃s,b.Sess[i]?=some s∧s.ID=id:=by obtain ⟨hi,hq,_⟩:=List.findIdx?_eq_some_iff_getElem.1 h;exact ⟨_,List.getElem?_eq_getElem hi,by simpa using hq⟩
theorem Zkc1 (b:Book) (id E:Int) (hb:Z2c1 b):Zm31 b id E=some (endP b id E):=by
 have h1:=hb.1;simp only [Zm31,Zr11,Z7c1 b hb,Zdc1 b id hb.1,OB,endP];cases hk:okBk b
 ·simp [Zl31,Zk31,Zyb1]
 ·simp only [if_true];simp only [decide_true,Bool.not_true,Z1a1];cases hf:Zcc1 b id with
  | none=>simp [plc,Zl31,Zk31,Zyb1]
  | some i=>
    obtain ⟨s,hs,_⟩:=Zjc1 hf;have hi:=(List.getElem?_eq_some_iff.1 hs).1;rw [show plc (some i)=(i:Int) from rfl,DN (by omega),Z1a1,Z4a1 hs,OB,OB];simp only [hs,decide_true,Z0a1,Zl31,Zk31];by_cases h2:s.State=E
    ·have hf':Zcc1 ⟨b.Last,b.Sess⟩ id=some i:=hf;simp only [h2,decide_true,Bool.not_true,Z1a1,Zbc1 b hb,OB,Zdc1 ⟨b.Last,b.Sess⟩ id hb.1,hf',if_true];rw [show plc (some i)=(i:Int) from rfl,Z9a1 (by omega),Zec1 b.Sess i hi hb.1,OB]
    ·simp [h2,Zyb1]
theorem Zlc1 (b:Book) (id:Int) (hb:Z2c1 b):Zm41 b id=some (endP b id 1):=by simp only [Zm41,Zkc1 b id 1 hb,OB]
theorem Zmc1 (b:Book) (id:Int) (hb:Z2c1 b):Zo41 b id=some (endP b id 0):=by simp only [Zo41,Zkc1 b id 0 hb,OB]
theorem Znc1 (x y:Side):(decide (x.Peer=y.Peer)&&(decide (x.Epoch=y.Epoch)&&(decide (x.State=y.State)&&((x.Fork==y.Fork)&&((x.DY==y.DY)&&((x.Token==y.Token)&&((x.BO==y.BO)&&((x.Ask==y.Ask)&&true))))))))=decide (x=y):=by rw [Bool.eq_iff_iff];cases x;cases y;simp [Side.mk.injEq]
theorem Zoc1 (x y:Mail):(decide (x.From=y.From)&&(decide (x.To=y.To)&&(decide (x.Msg.Kind=y.Msg.Kind)&&(decide (x.Msg.Epoch=y.Msg.Epoch)&&(decide (x.Msg.Num=y.Msg.Num)&&true)))))=decide (x=y):=by rw [Bool.eq_iff_iff];obtain ⟨x1,x2,x3,x4,x5⟩:=x;obtain ⟨y1,y2,y3,y4,y5⟩:=y;simp [Mail.mk.injEq,Msg.mk.injEq]
theorem Zpc1 (l m:List Side) (hl:l.length≤1000000):Zpl l m=some (decide (l=m)):=by
 simp only [Zpl,Z0b1];by_cases h:l.length=m.length
 ·simp only [h,decide_true,Bool.not_true,Z1a1];rw [Zxa1 l m _ (fun x y=>decide (x=y)) h (by omega) (fun k x y hx hy=>by simp only [Zol,Z7a1 hx,Z0a1,Z4a1 hx,Z4a1 hy,OB,Znc1,Zaa1 hx (show l.length≤4000000000000000000 by omega),Z2a1];cases decide (x=y)<;>rfl) (by simp only [Zol,Z8a1,Z1a1,Znl,Option.map_some]),Zya1 l m h]
 ·simp [h,Zza1 h]
theorem Zqc1 (a b:DI) (hl:a.SD.length≤1000000):Zvl a b=some (decide (a=b)):=by
 obtain ⟨a1,a2,l⟩:=a;obtain ⟨b1,b2,m⟩:=b;dsimp only at hl;simp only [Zvl,Zul,Z0b1,DI.mk.injEq];by_cases h1:a1=b1
 ·by_cases h2:a2=b2
  ·by_cases h:l.length=m.length
   ·simp only [h1,h2,h,decide_true,Bool.not_true,Z1a1,true_and];rw [Zxa1 l m _ (fun x y=>decide (x=y)) h (by omega) (fun k x y hx hy=>by simp only [Ztl,Z7a1 hx,Z0a1,Z4a1 hx,Z4a1 hy,OB,Znc1,Zaa1 hx (show l.length≤4000000000000000000 by omega),Z2a1,Option.map_some];cases decide (x=y)<;>rfl) (by simp only [Ztl,Z8a1,Z1a1,Zsl,Option.map_some]),Zya1 l m h]
   ·have:=Zza1 h;simp [h1,h2,h];rintro rfl;exact h rfl
  ·simp [h1,h2]
 ·simp [h1]
def side0:Side:=⟨0,0,0,false,false,false,false,false⟩
def sideO (d:DI) (p:Int):Option Side:=d.SD.find? fun x=>decide (x.Peer=p)
theorem Zrc1 (l m:List Mail) (hl:l.length≤1000000):Z4m l m=some (decide (l=m)):=by
 simp only [Z4m,Z0b1];by_cases h:l.length=m.length
 ·simp only [h,decide_true,Bool.not_true,Z1a1];rw [Zxa1 l m _ (fun x y=>decide (x=y)) h (by omega) (fun k x y hx hy=>by simp only [Z3m,Z7a1 hx,Z0a1,Z4a1 hx,Z4a1 hy,OB,Zoc1,Zaa1 hx (show l.length≤4000000000000000000 by omega),Z2a1,Option.map_some];cases decide (x=y)<;>rfl) (by simp only [Z3m,Z8a1,Z1a1,Z2m,Option.map_some]),Zya1 l m h]
 ·simp [h,Zza1 h]
def Zsc1 (id q:Int) (x:Side):Bool:=decide (q<x.Peer)&&(!decide (x.Peer=id)&&(decide (0≤x.Epoch)&&(decide (x.Epoch≤65535)&&(decide (0≤x.State)&&(decide (x.State≤3)&&!(x.DY&&!x.Fork))))))
def Ztc1 (id:Int):Int→List Side→Bool
 | _,[]=>true
 | q,x::r=>Zsc1 id q x&&Ztc1 id x.Peer r
def okD (d:DI):Bool:=decide (0≤d.ID)&&(decide (0≤d.PH)&&(decide (d.PH≤2)&&(decide (d.SD.length<64)&&Ztc1 d.ID (-1) d.SD)))
theorem Zuc1 (x:Side) (d:DI) (q:Int):Zcs x q d=some (!Zsc1 d.ID q x):=by
 simp only [Zcs,Zbs,Zas,Zsc1];by_cases h1:q<x.Peer
 ·by_cases h2:x.Peer=d.ID
  ·have h1':q<d.ID:=h2 ▸ h1;simp [h2,h1']
  ·by_cases h3:x.Epoch<0
   ·have:¬0≤x.Epoch:=by omega
    simp [h1,h2,h3,this]
   ·have h3':0≤x.Epoch:=by omega
    by_cases h4:65535<x.Epoch
    ·have:¬x.Epoch≤65535:=by omega
     simp [h1,h2,h3,h4,this]
    ·have h4':x.Epoch≤65535:=by omega
     by_cases h5:x.State<0
     ·have:¬0≤x.State:=by omega
      simp [h1,h2,h3,h4,h5,this]
     ·have h5':0≤x.State:=by omega
      by_cases h6:3<x.State
      ·have:¬x.State≤3:=by omega
       simp [h1,h2,h3,h4,h5,h6,this]
      ·have h6':x.State≤3:=by omega
       simp only [h1,h2,h3,h4,h5,h6,h3',h4',h5',h6',decide_true,decide_false,Z0a1,Z1a1,Bool.not_true,Bool.not_false,Bool.true_and];cases x.DY<;>cases x.Fork<;>rfl
 ·simp [h1]
def Zvc1 (id:Int):Nat→Int→List Side→Int×Int
 | _,q,[]=>(-1,q)
 | k,q,x::r=>if Zsc1 id q x then Zvc1 id (k+1) x.Peer r else (k,x.Peer)
theorem Zwc1 (id:Int):∀(l:List Side) (k:Nat) (q:Int),decide (0≤(Zvc1 id k q l).1)=!Ztc1 id q l
 | [],k,q=>by simp [Zvc1,Ztc1]
 | x::r,k,q=>by
   by_cases h:Zsc1 id q x=true
   ·have e1:Zvc1 id k q (x::r)=Zvc1 id (k+1) x.Peer r:=by simp [Zvc1,h]
    rw [e1,Zwc1 id r (k+1) x.Peer];simp [Ztc1,h]
   ·have h':Zsc1 id q x=false:=by simpa using h
    have e1:Zvc1 id k q (x::r)=((k:Int),x.Peer):=by simp [Zvc1,h']
    rw [e1];simp [Ztc1,h']
def Zxc1 (q:Int) (pre:List Side):Int:=match pre.getLast? with | some x=>x.Peer | none=>q
theorem Zyc1 (q:Int) (pre:List Side) (x:Side):Zxc1 q (pre++[x])=x.Peer:=by simp [Zxc1]
theorem Zzc1 (d:DI):Zu11 d=some (if okD d then 0 else 130):=by
 simp only [Zu11,Zt11,okD];by_cases h1:d.ID<0
 ·have:¬0≤d.ID:=by omega
  simp [h1,this]
 have h1':0≤d.ID:=by omega
 by_cases h2:d.PH<0
 ·have:¬0≤d.PH:=by omega
  simp [h1,h2,this]
 have h2':0≤d.PH:=by omega
 by_cases h3:2<d.PH
 ·have:¬d.PH≤2:=by omega
  simp [h1,h2,h3,this]
 have h3':d.PH≤2:=by omega
 by_cases h4:64≤d.SD.length
 ·have h4':(64:Int)≤ln Side.row d.SD:=by rw [ln_eq];omega
  have:¬d.SD.length<64:=by omega
  simp [h1,h2,h3,h4',this]
 have h4':¬(64:Int)≤ln Side.row d.SD:=by rw [ln_eq];omega
 have h4'':d.SD.length<64:=by omega
 simp only [h1,h2,h3,h4',h1',h2',h3',h4'',decide_true,decide_false,Z1a1,Bool.true_and];have key:Z0x d.SD (-1) d=some (Zvc1 d.ID 0 (-1) d.SD):=by
  unfold Z0x;refine Zma1 d.SD _ (fun pre=>((pre.length:Int),Zxc1 (-1) pre)) (fun pre post=>some (Zvc1 d.ID pre.length (Zxc1 (-1) pre) post)) (fun pre x post h=>?_) ?_
  ·have hx:=Zpa1 h;have hm:=Zqa1 h;dsimp only [Zzw];rw [Z7a1 hx,Z0a1,Z4a1 hx,OB,Zuc1,OB,Z2a1];cases hs:Zsc1 d.ID (Zxc1 (-1) pre) x with
   | true=>left;exact ⟨by rw [Z0a1,Zua1,Zyc1,Z9a1 (by omega)],by simp [Zvc1,hs,Zyc1]⟩
   | false=>right;exact ⟨_,rfl,by simp [Zvc1,hs]⟩
  ·dsimp only [Zzw];rw [Z8a1,Z1a1];rfl
 simp only [Zzz,key,OB,Zwc1];cases Ztc1 d.ID (-1) d.SD<;>rfl
theorem Z0d1 (l:List Side) (hl:l.length≤1000000):Zbm l=some l:=by simp only [Zbm];rw [Z6a1 _ _ (by omega) (by simp;omega)];rfl
theorem Z1d1 {d:DI} (h:okD d=true):d.SD.length<64:=by simp only [okD,Bool.and_eq_true,decide_eq_true_eq] at h;exact h.2.2.2.1
def Z2d1 (ph:Int) (x:Side):Side:=if x.Fork&&(x.DY&&(x.Token&&!decide (ph=2))) then {x with Fork:=false,DY:=false} else x
def Z3d1 (ph:Int) (x:Side):Side:=if decide (ph=1)&&((Z2d1 ph x).Token&&!(Z2d1 ph x).Fork) then {Z2d1 ph x with Token:=false} else Z2d1 ph x
def Z4d1 (id ph:Int) (x:Side):List Mail:=
 (if x.Fork&&(x.DY&&(x.Token&&!decide (ph=2))) then [⟨id,x.Peer,⟨1,x.Epoch,0⟩⟩] else []) ++
 (if decide (ph=1)&&((Z2d1 ph x).Token&&!(Z2d1 ph x).Fork) then [⟨id,x.Peer,⟨2,x.Epoch,0⟩⟩] else [])
def Z5d1 (x:Side):Side:= {x with DY:=true}
def Z6d1 (d:DI):DI:=if decide (d.PH=1)&&(d.SD.map (Z3d1 d.PH)).all (·.Fork) then ⟨d.ID,2,(d.SD.map (Z3d1 d.PH)).map Z5d1⟩ else ⟨d.ID,d.PH,d.SD.map (Z3d1 d.PH)⟩
def Z7d1 (d:DI):List Mail:=d.SD.flatMap (Z4d1 d.ID d.PH)
theorem Z8d1 (id ph:Int) (x:Side):(Z4d1 id ph x).length≤2:=by
 unfold Z4d1;rw [List.length_append];have h1:∀(c:Bool) (m:Mail),(if c then [m] else []).length≤1:=by intro c m;cases c<;>simp
 have:=h1 (x.Fork&&(x.DY&&(x.Token&&!decide (ph=2)))) ⟨id,x.Peer,⟨1,x.Epoch,0⟩⟩;have:=h1 (decide (ph=1)&&((Z2d1 ph x).Token&&!(Z2d1 ph x).Fork)) ⟨id,x.Peer,⟨2,x.Epoch,0⟩⟩;omega
theorem Z9d1 (l:List Side) (id ph:Int):(l.flatMap (Z4d1 id ph)).length≤2*l.length:=by
 induction l with
 | nil=>simp
 | cons x l ih=>have:=Z8d1 id ph x;rw [List.flatMap_cons,List.length_append,List.length_cons];omega
def has (x:Side) (k:Int):Bool:=if k=1 then x.Fork else x.Token
def bn (b:Bool):Nat:=if b then 1 else 0
theorem Zad1 (ph:Int) (x:Side):(Z3d1 ph x).Peer=x.Peer∧(Z3d1 ph x).Epoch=x.Epoch∧(Z3d1 ph x).State=x.State:=by unfold Z3d1 Z2d1;split<;>split<;>exact ⟨rfl,rfl,rfl⟩
theorem Zbd1 (ph:Int) (x:Side) (h:x.DY=true→x.Fork=true):(Z3d1 ph x).DY=true→(Z3d1 ph x).Fork=true:=by unfold Z3d1 Z2d1;split<;>split<;>simp_all
def Zcd1 (d:DI) (x:Side):Side:=if decide (d.PH=1)&&(d.SD.map (Z3d1 d.PH)).all (·.Fork) then Z5d1 (Z3d1 d.PH x) else Z3d1 d.PH x
theorem Zdd1 (d:DI):(Z6d1 d).SD=d.SD.map (Zcd1 d):=by
 unfold Z6d1 Zcd1;split
 ·simp only [List.map_map];rfl
 ·rfl
theorem Zed1 (d:DI):(Z6d1 d).ID=d.ID:=by unfold Z6d1;split<;>rfl
theorem Zfd1 (d:DI) (x:Side):(Zcd1 d x).Peer=x.Peer∧(Zcd1 d x).Epoch=x.Epoch∧(Zcd1 d x).State=x.State∧∀k,has (Zcd1 d x) k=has (Z3d1 d.PH x) k:=by
 obtain ⟨h1,h2,h3⟩:=Zad1 d.PH x;unfold Zcd1;split
 ·exact ⟨h1,h2,h3,fun k=>rfl⟩
 ·exact ⟨h1,h2,h3,fun k=>rfl⟩
theorem Zgd1 (k id ph:Int) (a b:List Side) (x:Side) (E:List Mail) (J:E.length≤1000000):Zes k id ph (a.length:Int) E (a++x::b)=some (E++[⟨id,x.Peer,⟨k,x.Epoch,0⟩⟩]):=by simp only [Zes];rw [Zsa1 rfl,OB,Z6a1 _ _ (by omega) (by simp;omega),OB]
theorem Zhd1 (d:DI) (l:List Side) (hl:l.length<64) (pre post:List Side) (x:Side) (h:l=pre++x::post) (all:Bool) (A:List Side) (J:A.length=pre.length) (E:List Mail) (U:E.length≤1000):
  Z051 d l (all,(pre.length:Int),A++x::post,E)=some (.inl (all&&(Z3d1 d.PH x).Fork,((pre.length+1:Nat):Int),A++Z3d1 d.PH x::post,E++Z4d1 d.ID d.PH x)):=by
 have hx:=Zpa1 h;have hm:=Zqa1 h;have at1:∀y:Side,at_ (A++y::post) (pre.length:Int)=some y:=fun y=>by rw [←J];exact Zsa1 rfl
 have st1:∀y z:Side,(A++y::post).set ((pre.length:Int)).toNat z=A++z::post:=fun y z=>by rw [←J];exact Zta1 _ _ _ _
 have sd:∀(k:Int) (y:Side) (E:List Mail),E.length≤1000000→Zes k d.ID d.PH (pre.length:Int) E (A++y::post)=some (E++[⟨d.ID,y.Peer,⟨k,y.Epoch,0⟩⟩]):=fun k y E U=>by rw [←J];exact Zgd1 k d.ID d.PH A post y E U
 have fin:∀(y:Side) (E':List Mail),Zw41 all (pre.length:Int) (A++y::post,E')=some (.inl (all&&y.Fork,((pre.length+1:Nat):Int),A++y::post,E')):=fun y E'=>by dsimp only [Zw41,Zv41];rw [at1,Z9a1 (by omega)];cases all<;>rfl
 have j3:∀(y:Side) (E':List Mail),E'.length≤100000→Zy41 d all (pre.length:Int) (A++y::post,E') =
   if decide (d.PH=1)&&(y.Token&&!y.Fork) then some (.inl (all&&y.Fork,((pre.length+1:Nat):Int),A++{y with Token:=false}::post,E'++[⟨d.ID,y.Peer,⟨2,y.Epoch,0⟩⟩])) else some (.inl (all&&y.Fork,((pre.length+1:Nat):Int),A++y::post,E')):=fun y E' hE'=>by
  dsimp only [Zy41];by_cases h1:d.PH=1
  ·rw [DT h1,Z0a1,at1,OB];cases ht:y.Token with
   | false=>dsimp only [Zx41];rw [Z1a1,Z1a1,fin];simp
   | true=>
     cases hf:y.Fork with
     | true=>dsimp only [Zx41];rw [Z0a1,Bool.not_true,Z1a1,fin];simp [hf]
     | false=>dsimp only [Zx41];rw [Z0a1,Bool.not_false,Z0a1,at1,OB,st1,sd _ _ _ (by omega),OB,fin];simp [hf]
  ·rw [DN h1,Z1a1];dsimp only [Zx41];rw [Z1a1,fin];simp
 dsimp only [Z051];rw [Z7a1 hx,Z0a1,at1,OB];have j2:∀z:Bool,Zz41 d all (pre.length:Int) (A++x::post) E x z=if z then Zy41 d all (pre.length:Int) (A++{x with Fork:=false,DY:=false}::post,E++[⟨d.ID,x.Peer,⟨1,x.Epoch,0⟩⟩]) else Zy41 d all (pre.length:Int) (A++x::post,E):=fun z=>by
  cases z with
  | false=>dsimp only [Zz41];rw [Z1a1];rfl
  | true=>dsimp only [Zz41];rw [Z0a1,st1,sd _ _ _ (by omega),OB];rfl
 have e:ifb x.Fork (ifb x.DY (ifb x.Token (Zz41 d all (pre.length:Int) (A++x::post) E x (!decide (d.PH=2))) (Zz41 d all (pre.length:Int) (A++x::post) E x false)) (Zz41 d all (pre.length:Int) (A++x::post) E x false)) (Zz41 d all (pre.length:Int) (A++x::post) E x false)
   =Zz41 d all (pre.length:Int) (A++x::post) E x (x.Fork&&(x.DY&&(x.Token&&!decide (d.PH=2)))):=by
  cases x.Fork<;>cases x.DY<;>cases x.Token<;>rfl
 rw [e,j2];cases hz:(x.Fork&&(x.DY&&(x.Token&&!decide (d.PH=2)))) with
 | false=>
   rw [if_neg (by simp),j3 _ _ (by omega)];have f1:Z2d1 d.PH x=x:=by simp only [Z2d1,hz];rfl
   unfold Z3d1 Z4d1;rw [f1,hz];cases hq:(decide (d.PH=1)&&(x.Token&&!x.Fork))<;>simp
 | true=>
   rw [if_pos rfl,j3 _ _ (by simp;omega)];have f1:Z2d1 d.PH x={x with Fork:=false,DY:=false}:=by simp only [Z2d1,hz];rfl
   unfold Z3d1 Z4d1;rw [f1,hz];cases hq:(decide (d.PH=1)&&(x.Token&&!false))<;>simp_all
theorem Zid1 (d:DI):Z151 d=some (if okD d then ((Z6d1 d).ID,(Z6d1 d).PH,0,(Z6d1 d).SD,Z7d1 d) else (0,0,130,[],[])):=by
 simp only [Z151,Zzc1,OB];cases h:okD d with
 | false=>rfl
 | true=>
   have hl:=Z1d1 h;simp only [if_true,decide_true,Bool.not_true,Z1a1,Z0d1 d.SD (by omega),OB];have key:=Zma1 d.SD (Z051 d d.SD) (fun pre=>((pre.map (Z3d1 d.PH)).all (·.Fork),(pre.length:Int),pre.map (Z3d1 d.PH)++d.SD.drop pre.length,pre.flatMap (Z4d1 d.ID d.PH))) (fun _ _=>some ((Z6d1 d).ID,(Z6d1 d).PH,0,(Z6d1 d).SD,Z7d1 d)) (fun pre x post hp=>?_) ?_
   ·simpa using key
   ·left;have hd:d.SD.drop pre.length=x::post:=by rw [hp];simp
    have hd':d.SD.drop (pre++[x]).length=post:=by rw [hp];simp
    have hm:=Zqa1 hp;have hE:=Z9d1 pre d.ID d.PH;refine ⟨?_,rfl⟩;rw [hd,hd',Zhd1 d d.SD hl pre post x hp _ _ (by simp) _ (by omega),Zua1];simp
   ·have hE:=Z9d1 d.SD d.ID d.PH;dsimp only [Z051];rw [Z8a1,Z1a1];simp only [List.drop_length,List.append_nil];dsimp only [Zu41];by_cases h1:d.PH=1
    ·rw [DT h1,Z0a1];dsimp only [Zt41];cases h6:(d.SD.map (Z3d1 d.PH)).all (·.Fork) with
     | false=>rw [Z1a1];unfold Z6d1;rw [h6,Bool.and_false];rfl
     | true=>
       rw [Z0a1];generalize hS:d.SD.map (Z3d1 d.PH)=S at h6;have h8:S.length<64:=by rw [←hS];simpa using hl
       have k2:=Zoa1 S (Zs41 d S (d.SD.flatMap (Z4d1 d.ID d.PH))) (fun pre=>((pre.length:Int),pre.map Z5d1++S.drop pre.length)) (d.ID,2,0,S.map Z5d1,d.SD.flatMap (Z4d1 d.ID d.PH)) (fun pre x post hp=>?_) ?_
       ·have k3:loop (Zs41 d S (d.SD.flatMap (Z4d1 d.ID d.PH))) (0,S)=some (d.ID,2,0,S.map Z5d1,d.SD.flatMap (Z4d1 d.ID d.PH)):=by simpa using k2
        rw [k3];unfold Z6d1;rw [hS,h6,DT h1];rfl
       ·have hx:=Zpa1 hp;have hm:=Zqa1 hp;have hd:S.drop pre.length=x::post:=by rw [hp];simp
        have hd':S.drop (pre++[x]).length=post:=by rw [hp];simp
        dsimp only [Zs41];have e1:((pre.length:Nat):Int)=(((pre.map Z5d1).length:Nat):Int):=by simp
        rw [Z7a1 hx,Z0a1,hd,hd',e1,Zsa1 rfl,OB,Zta1,←e1,Zua1,Z9a1 (by omega)];simp [Z5d1]
       ·dsimp only [Zs41];rw [Z8a1,Z1a1];simp [Zr41]
    ·rw [DN h1,Z1a1];dsimp only [Zt41];rw [Z1a1];unfold Z6d1;rw [DN h1,Bool.false_and];rfl
def Zjd1 (d:DK) (x:Side):Bool:=decide (x.Peer∈d.Need)
def Zkd1 (nd:Bool) (th:Int) (x:Side):Bool:=nd&&(decide (th=2)||(decide (th=1)&&x.Fork))
def bot1 (nd:Bool) (th:Int) (x:Side):Side:=if x.BO&&(x.Ask&&!Zkd1 nd th x) then {x with BO:=false} else x
def bot2 (nd:Bool) (th:Int) (x:Side):Side:=if decide (th=1)&&(nd&&((bot1 nd th x).Ask&&!(bot1 nd th x).BO)) then {bot1 nd th x with Ask:=false} else bot1 nd th x
def botM (id:Int) (nd:Bool) (th:Int) (x:Side):List Mail:=
 (if x.BO&&(x.Ask&&!Zkd1 nd th x) then [⟨id,x.Peer,⟨3,x.Epoch,0⟩⟩] else []) ++
 (if decide (th=1)&&(nd&&((bot1 nd th x).Ask&&!(bot1 nd th x).BO)) then [⟨id,x.Peer,⟨4,x.Epoch,0⟩⟩] else [])
theorem Zld1 (nd:Bool) (th:Int) (x:Side):(bot2 nd th x).Peer=x.Peer∧(bot2 nd th x).Epoch=x.Epoch∧(bot2 nd th x).State=x.State∧(bot2 nd th x).Fork=x.Fork∧(bot2 nd th x).DY=x.DY∧(bot2 nd th x).Token=x.Token:=by unfold bot2 bot1;split<;>split<;>exact ⟨rfl,rfl,rfl,rfl,rfl,rfl⟩
theorem Zmd1 (id:Int) (nd:Bool) (th:Int) (x:Side):(botM id nd th x).length≤2:=by
 unfold botM;rw [List.length_append];have h1:∀(c:Bool) (m:Mail),(if c then [m] else []).length≤1:=by intro c m;cases c<;>simp
 have:=h1 (x.BO&&(x.Ask&&!Zkd1 nd th x)) ⟨id,x.Peer,⟨3,x.Epoch,0⟩⟩;have:=h1 (decide (th=1)&&(nd&&((bot1 nd th x).Ask&&!(bot1 nd th x).BO))) ⟨id,x.Peer,⟨4,x.Epoch,0⟩⟩;omega
theorem Znd1 (N:List Int) (id th:Int) (l:List Side):(l.flatMap fun x=>botM id (decide (x.Peer∈N)) th x).length≤2*l.length:=by
 induction l with
 | nil=>simp
 | cons x l ih=>have:=Zmd1 id (decide (x.Peer∈N)) th x;rw [List.flatMap_cons,List.length_append,List.length_cons];omega
theorem Zod1 (y:Side) (k id ph th:Int) (N:List Int) (l:List Side) (E:List Mail) (J:E.length≤1000000):Zst y k id ph th l N E=some (E++[⟨id,y.Peer,⟨k,y.Epoch,0⟩⟩]):=by simp only [Zst];rw [Z6a1 _ _ (by omega) (by simp;omega),OB]
theorem Zpd1 (id ph th:Int) (N:List Int) (U:N.length≤1000000) (l:List Side) (hl:l.length≤5000) (pre post:List Side) (x:Side) (h:l=pre++x::post) (all:Bool) (A:List Side) (J:A.length=pre.length) (E:List Mail) (Y:E.length≤900000):
  Zi21 id ph th l N (all,(pre.length:Int),A++x::post,E)=some (.inl (all&&(!decide (x.Peer∈N)||(bot2 (decide (x.Peer∈N)) th x).BO),((pre.length+1:Nat):Int),A++bot2 (decide (x.Peer∈N)) th x::post,E++botM id (decide (x.Peer∈N)) th x)):=by
 have hx:=Zpa1 h;have hm:=Zqa1 h;have at1:∀y:Side,at_ (A++y::post) (pre.length:Int)=some y:=fun y=>by rw [←J];exact Zsa1 rfl
 have st1:∀y z:Side,(A++y::post).set ((pre.length:Int)).toNat z=A++z::post:=fun y z=>by rw [←J];exact Zta1 _ _ _ _
 generalize h6:decide (x.Peer∈N)=nd;have j7:∀(S:List Side) (E':List Mail) z,Zb21 (pre.length:Int) S E' z=some (.inl (z,((pre.length+1:Nat):Int),S,E')):=fun S E' z=>by dsimp only [Zb21];rw [Z9a1 (by omega)]
 have j6:∀(y:Side) (E':List Mail),Zc21 all (pre.length:Int) nd (A++y::post,E')=some (.inl (all&&(!nd||y.BO),((pre.length+1:Nat):Int),A++y::post,E')):=fun y E'=>by dsimp only [Zc21];rw [at1,OB];simp only [j7];cases all<;>cases nd<;>rfl
 have j4:∀(y:Side) (E':List Mail),E'.length≤950000→Ze21 id ph th N all (pre.length:Int) nd (A++y::post,E') =
   if decide (th=1)&&(nd&&(y.Ask&&!y.BO)) then some (.inl (all&&(!nd||y.BO),((pre.length+1:Nat):Int),A++{y with Ask:=false}::post,E'++[⟨id,y.Peer,⟨4,y.Epoch,0⟩⟩])) else some (.inl (all&&(!nd||y.BO),((pre.length+1:Nat):Int),A++y::post,E')):=fun y E' hE'=>by
  have j5:∀z,Zd21 id ph th N all (pre.length:Int) nd (A++y::post) E' z=if z then some (.inl (all&&(!nd||y.BO),((pre.length+1:Nat):Int),A++{y with Ask:=false}::post,E'++[⟨id,y.Peer,⟨4,y.Epoch,0⟩⟩])) else some (.inl (all&&(!nd||y.BO),((pre.length+1:Nat):Int),A++y::post,E')):=fun z=>by
   cases z with
   | false=>dsimp only [Zd21];rw [Z1a1,j6];rfl
   | true=>dsimp only [Zd21];rw [Z0a1,at1,OB,st1,Zod1 _ _ _ _ _ _ _ _ (by omega),OB,j6];rfl
  dsimp only [Ze21];rw [at1,OB];simp only [j5];cases decide (th=1)<;>cases nd<;>cases y.Ask<;>rfl
 have j3:∀z,Zf21 id ph th N all (pre.length:Int) (A++x::post) E x nd z=if z then Ze21 id ph th N all (pre.length:Int) nd (A++{x with BO:=false}::post,E++[⟨id,x.Peer,⟨3,x.Epoch,0⟩⟩]) else Ze21 id ph th N all (pre.length:Int) nd (A++x::post,E):=fun z=>by
  cases z with
  | false=>dsimp only [Zf21];rw [Z1a1];rfl
  | true=>dsimp only [Zf21];rw [Z0a1,st1,Zod1 _ _ _ _ _ _ _ _ (by omega),OB];rfl
 have j2:∀z,Zg21 id ph th N all (pre.length:Int) (A++x::post) E x nd z=Zf21 id ph th N all (pre.length:Int) (A++x::post) E x nd (x.BO&&(x.Ask&&!z)):=fun z=>by dsimp only [Zg21];cases x.BO<;>cases x.Ask<;>rfl
 have e:Zi21 id ph th l N (all,(pre.length:Int),A++x::post,E)=Zf21 id ph th N all (pre.length:Int) (A++x::post) E x nd (x.BO&&(x.Ask&&!Zkd1 nd th x)):=by dsimp only [Zi21];rw [Z7a1 hx,Z0a1,at1,OB,Zmb1 N _ U,OB,h6];dsimp only [Zh21];simp only [j2];unfold Zkd1;cases nd<;>cases decide (th=2)<;>cases decide (th=1)<;>rfl
 rw [e,j3];cases hz:(x.BO&&(x.Ask&&!Zkd1 nd th x)) with
 | false=>
   have b1:bot1 nd th x=x:=by unfold bot1;rw [hz];rfl
   rw [if_neg (by simp),j4 _ _ (by omega)];unfold bot2 botM;rw [b1,hz];cases (decide (th=1)&&(nd&&(x.Ask&&!x.BO)))<;>simp
 | true=>
   have b1:bot1 nd th x={x with BO:=false}:=by unfold bot1;rw [hz];rfl
   rw [if_pos rfl,j4 _ _ (by simp;omega)];unfold bot2 botM;rw [b1,hz];cases (decide (th=1)&&(nd&&(x.Ask&&!false)))<;>simp
theorem Zqd1 (id ph th:Int) (N:List Int) (J:N.length≤1000000) (l:List Side) (hl:l.length≤5000) (E:List Mail) (U:E.length≤800000):
  Zj21 id ph th l N E=some (if decide (th=1)&&(l.map fun x=>bot2 (decide (x.Peer∈N)) th x).all (fun x=>!decide (x.Peer∈N)||x.BO) then 2 else th,l.map fun x=>bot2 (decide (x.Peer∈N)) th x,E++l.flatMap fun x=>botM id (decide (x.Peer∈N)) th x):=by
 have:=Zma1 l (Zi21 id ph th l N) (fun pre=>((pre.map fun x=>bot2 (decide (x.Peer∈N)) th x).all (fun x=>!decide (x.Peer∈N)||x.BO),(pre.length:Int),(pre.map fun x=>bot2 (decide (x.Peer∈N)) th x)++l.drop pre.length,E++pre.flatMap fun x=>botM id (decide (x.Peer∈N)) th x))
  (fun _ _=>some (if decide (th=1)&&(l.map fun x=>bot2 (decide (x.Peer∈N)) th x).all (fun x=>!decide (x.Peer∈N)||x.BO) then 2 else th,l.map fun x=>bot2 (decide (x.Peer∈N)) th x,E++l.flatMap fun x=>botM id (decide (x.Peer∈N)) th x)) (fun pre x post h=>.inl ⟨by
    have hd:l.drop pre.length=x::post:=by rw [h];simp
    have hd':l.drop (pre++[x]).length=post:=by rw [h];simp
    have hm:=Zqa1 h;have hE':=Znd1 N id th pre;rw [hd,hd',Zpd1 id ph th N J l hl pre post x h _ _ (by simp) _ (by rw [List.length_append];omega),Zua1];have hp:=(Zld1 (decide (x.Peer∈N)) th x).1;simp [hp],rfl⟩) (by
  dsimp only [Zi21];rw [Z8a1,Z1a1];dsimp only [Za21];rw [List.drop_length,List.append_nil];cases decide (th=1) with
  | false=>rfl
  | true=>cases (l.map fun x=>bot2 (decide (x.Peer∈N)) th x).all (fun x=>!decide (x.Peer∈N)||x.BO)<;>rfl)
 unfold Zj21;simpa using this
def Zrd1 (d:DK):Int:=if decide (d.TH=1)&&decide (d.DI.PH=0) then 1 else if decide (d.DI.PH=2)&&(!decide (d.TH=1)&&!d.DI.SD.any (fun x=>decide (x.State=1))) then 0 else d.DI.PH
def Zsd1 (d:DK):DI:=⟨d.DI.ID,Zrd1 d,d.DI.SD⟩
def Ztd1 (d:DK):List Side:=(Z6d1 (Zsd1 d)).SD.map fun x=>bot2 (Zjd1 d x) d.TH x
def Zud1 (d:DK):Int:=if decide (d.TH=1)&&(Ztd1 d).all (fun x=>!Zjd1 d x||x.BO) then 2 else d.TH
def Zvd1 (d:DK):DK:=⟨⟨d.DI.ID,(Z6d1 (Zsd1 d)).PH,Ztd1 d⟩,Zud1 d,d.Need⟩
def Zwd1 (d:DK):List Mail:=Z7d1 (Zsd1 d)++(Z6d1 (Zsd1 d)).SD.flatMap fun x=>botM d.DI.ID (Zjd1 d x) d.TH x
theorem Zxd1 {d:DK} (h:okD d.DI=true):okD (Zsd1 d)=true:=by
 simp only [okD,Bool.and_eq_true,decide_eq_true_eq] at h ⊢;refine ⟨h.1,?_,?_,h.2.2.2⟩
 ·show 0≤Zrd1 d;unfold Zrd1;split
  ·omega
  ·split<;>omega
 ·show Zrd1 d≤2;unfold Zrd1;split
  ·omega
  ·split<;>omega
theorem Zyd1 (d:DI):(Z6d1 d).SD.length=d.SD.length:=by rw [Zdd1];simp
theorem Zzd1 (d:DK) (h:okD d.DI=true) (E:d.Need.length≤1000000) (out:List Mail) (J:out.length≤700000):
  Z961 d.DI.ID d.DI.PH d.TH d.DI.SD d.Need out=some ((Zvd1 d).DI.ID,(Zvd1 d).DI.PH,(Zvd1 d).TH,(Zvd1 d).DI.SD,out++Zwd1 d):=by
 have hl:=Z1d1 h;have hp:=Zxd1 h;have hd:=Z9d1 d.DI.SD d.DI.ID (Zrd1 d);have e0:(Zsd1 d).SD=d.DI.SD:=rfl;have h9:=Zyd1 (Zsd1 d);rw [e0] at h9;have j2:Z661 d.DI.ID d.TH d.DI.SD d.Need out (Zrd1 d)=some ((Zvd1 d).DI.ID,(Zvd1 d).DI.PH,(Zvd1 d).TH,(Zvd1 d).DI.SD,out++Zwd1 d):=by
  dsimp only [Z661];have e1:(⟨d.DI.ID,Zrd1 d,d.DI.SD⟩:DI)=Zsd1 d:=rfl;have hf:(Z7d1 (Zsd1 d)).length≤130:=by unfold Z7d1;rw [e0];show (d.DI.SD.flatMap (Z4d1 d.DI.ID (Zrd1 d))).length≤130;omega
  rw [e1,Zid1,hp,if_pos rfl,OB];dsimp only;rw [Z6a1 _ _ (by omega) (by omega),OB,Zqd1 _ _ _ _ E _ (by omega) _ (by rw [List.length_append];omega),OB];rw [Zed1,List.append_assoc];rfl
 have h6:∀z:Int,z=Zrd1 d→Z661 d.DI.ID d.TH d.DI.SD d.Need out z=some ((Zvd1 d).DI.ID,(Zvd1 d).DI.PH,(Zvd1 d).TH,(Zvd1 d).DI.SD,out++Zwd1 d):=fun z e=>by rw [e];exact j2
 have hc:=Z5b1 d.DI.SD (fun z=>Zem z) (fun x=>decide (x.State=1)) (by omega) (fun x _=>rfl);dsimp only [Z961,Z861,Z761];rw [hc,OB];unfold Zrd1 at h6;by_cases h1:d.TH=1
 ·rw [DT h1] at h6 ⊢;by_cases h2:d.DI.PH=0
  ·rw [DT h2] at h6 ⊢;exact h6 1 rfl
  ·rw [DN h2] at h6 ⊢;have:=h6 d.DI.PH (by simp);rw [Z0a1,Z1a1,this];cases decide (d.DI.PH=2)<;>rfl
 ·rw [DN h1] at h6 ⊢;rw [Z1a1,Z1a1];by_cases h2:d.DI.PH=2
  ·rw [DT h2] at h6 ⊢;cases h8:d.DI.SD.any (fun x=>decide (x.State=1)) with
   | true=>rw [h8] at h6;exact h6 d.DI.PH (by simp)
   | false=>rw [h8] at h6;exact h6 0 (by simp)
  ·rw [DN h2] at h6 ⊢;exact h6 d.DI.PH (by simp)
def Z0e1 (x:Side):Nat:=bn x.Fork+bn x.Token+bn x.BO+bn x.Ask
def bits (l:List Side):Nat:=(l.map Z0e1).sum
def rank (th ph:Int):Nat:=if th=1 then (if ph=0 then 5 else if ph=1 then 4 else 3) else (if ph=1 then 2 else if ph=2 then 1 else 0)
def mu (d:DK):Nat:=bits d.DI.SD+rank d.TH d.DI.PH
theorem Z1e1 (id ph:Int) (x:Side):Z0e1 (Z3d1 ph x)+(Z4d1 id ph x).length=Z0e1 x:=by obtain ⟨p,e,st,f,d,t,bo,ask⟩:=x;unfold Z4d1 Z3d1 Z2d1 Z0e1 bn;generalize h1:decide (ph=1)=q1;generalize h2:decide (ph=2)=q2;cases f<;>cases d<;>cases t<;>cases q1<;>cases q2<;>simp<;>omega
theorem Z2e1 (id:Int) (nd:Bool) (th:Int) (x:Side):Z0e1 (bot2 nd th x)+(botM id nd th x).length=Z0e1 x:=by obtain ⟨p,e,st,f,d,t,bo,ask⟩:=x;unfold botM bot2 bot1 Zkd1 Z0e1 bn;generalize h1:decide (th=1)=q1;generalize h2:decide (th=2)=q2;cases bo<;>cases ask<;>cases nd<;>cases q1<;>cases q2<;>cases f<;>simp<;>omega
theorem Z3e1 (d:DI) (x:Side):Z0e1 (Zcd1 d x)=Z0e1 (Z3d1 d.PH x):=by unfold Zcd1;split<;>rfl
theorem Z4e1 (d:DK):bits (Zvd1 d).DI.SD+(Zwd1 d).length=bits d.DI.SD:=by
 have key:∀l:List Side,((l.map fun x=>bot2 (Zjd1 d (Zcd1 (Zsd1 d) x)) d.TH (Zcd1 (Zsd1 d) x)).map Z0e1).sum+((l.flatMap (Z4d1 d.DI.ID (Zrd1 d))).length+((l.map (Zcd1 (Zsd1 d))).flatMap fun x=>botM d.DI.ID (Zjd1 d x) d.TH x).length)=(l.map Z0e1).sum:=by
  intro l;induction l with
  | nil=>rfl
  | cons x l ih=>have h1:=Z1e1 d.DI.ID (Zrd1 d) x;have h2:=Z2e1 d.DI.ID (Zjd1 d (Zcd1 (Zsd1 d) x)) d.TH (Zcd1 (Zsd1 d) x);have h3:=Z3e1 (Zsd1 d) x;have e:(Zsd1 d).PH=Zrd1 d:=rfl;rw [e] at h3;simp only [List.map_cons,List.sum_cons,List.flatMap_cons,List.length_append];omega
 have:=key d.DI.SD;unfold bits Zwd1;rw [List.length_append,Zdd1];show (((Ztd1 d).map Z0e1).sum+_=_);unfold Ztd1;rw [Zdd1];simp only [List.map_map] at this ⊢;exact this
theorem Z5e1 (d:DI):(Z6d1 d).PH=d.PH∧(decide (d.PH=1)&&(d.SD.map (Z3d1 d.PH)).all (·.Fork))=false∨d.PH=1∧(Z6d1 d).PH=2:=by
 unfold Z6d1;cases hq:decide (d.PH=1)&&(d.SD.map (Z3d1 d.PH)).all (·.Fork) with
 | false=>exact .inl ⟨rfl,rfl⟩
 | true=>rw [Bool.and_eq_true,decide_eq_true_eq] at hq;exact .inr ⟨hq.1,rfl⟩
theorem Z6e1 {id ph:Int} {x:Side} (h:Z4d1 id ph x=[]):Z3d1 ph x=x:=by
 obtain ⟨p,e,st,f,d,t,bo,ask⟩:=x;unfold Z4d1 at h;unfold Z3d1;rw [List.append_eq_nil_iff] at h;obtain ⟨h1,h2⟩:=h;split at h1
 ·simp at h1
 ·rename_i q1;split at h2
  ·simp at h2
  ·rename_i q2;rw [if_neg q2];unfold Z2d1;rw [if_neg q1]
theorem Z7e1 {id:Int} {nd:Bool} {th:Int} {x:Side} (h:botM id nd th x=[]):bot2 nd th x=x:=by
 unfold botM at h;unfold bot2;rw [List.append_eq_nil_iff] at h;obtain ⟨h1,h2⟩:=h;split at h1
 ·simp at h1
 ·rename_i q1;split at h2
  ·simp at h2
  ·rename_i q2;rw [if_neg q2];unfold bot1;rw [if_neg q1]
theorem Z8e1 {α:Type} {f:α→α}:∀ {l:List α},(∀x∈l,f x=x)→l.map f=l
 | [],_=>rfl
 | x::l,h=>by rw [List.map_cons,h x (by simp),Z8e1 fun y hy=>h y (by simp [hy])]
theorem Z9e1 {th ph ph' th':Int} (h0:0≤ph) (h2:ph≤2) (d:DK) (E:d.TH=th∧d.DI.PH=ph) (h1:ph'=Zrd1 d∨Zrd1 d=1∧ph'=2) (ht:th'=th∨th=1∧th'=2):rank th' ph'<rank th ph∨th'=th∧ph'=ph∧Zrd1 d=ph:=by
 obtain ⟨d1,d2⟩:=E;unfold Zrd1 at h1 ⊢;rw [d1,d2] at h1 ⊢;unfold rank;have hp:ph=0∨ph=1∨ph=2:=by omega
 by_cases h6:th=1
 ·subst h6;rcases hp with rfl | rfl | rfl<;>rcases ht with rfl | ⟨_,rfl⟩<;>simp at h1 ⊢ <;>rcases h1 with rfl | h1<;>simp_all
 ·have:th'=th:=by rcases ht with h | h;exact h;exact absurd h.1 h6
  subst this;rcases hp with rfl | rfl | rfl
  ·simp [h6] at h1 ⊢;rcases h1 with rfl | h1<;>simp_all
  ·simp [h6] at h1 ⊢;rcases h1 with rfl | h1<;>simp_all
  ·cases h8:d.DI.SD.any (fun x=>decide (x.State=1))<;>simp [h6,h8] at h1 ⊢ <;>simp_all
theorem Zae1 {d:DK} (h0:0≤d.DI.PH) (h2:d.DI.PH≤2):Zvd1 d=d∧Zwd1 d=[]∨mu (Zvd1 d)<mu d:=by
 have hb:=Z4e1 d;have hf:=Z5e1 (Zsd1 d);have ht:Zud1 d=d.TH∨d.TH=1∧Zud1 d=2:=by
  unfold Zud1;cases hh:decide (d.TH=1)&&(Ztd1 d).all (fun x=>!Zjd1 d x||x.BO) with
  | false=>left;rfl
  | true=>right;rw [Bool.and_eq_true,decide_eq_true_eq] at hh;exact ⟨hh.1,rfl⟩
 have e1:(Zvd1 d).DI.PH=(Z6d1 (Zsd1 d)).PH:=rfl;have e2:(Zvd1 d).TH=Zud1 d:=rfl;have hr:=Z9e1 (th':=Zud1 d) (ph':=(Z6d1 (Zsd1 d)).PH) h0 h2 d ⟨rfl,rfl⟩ (by
  rcases hf with ⟨q,_⟩ | ⟨q1,q2⟩
  ·exact .inl q
  ·exact .inr ⟨q1,q2⟩) ht
 unfold mu;rw [e1,e2];rcases hr with hr | ⟨r1,r2,r3⟩
 ·right;omega
 ·by_cases hm:(Zwd1 d).length=0
  ·left;have hm':Zwd1 d=[]:=List.eq_nil_of_length_eq_zero hm;refine ⟨?_,hm'⟩;unfold Zwd1 at hm';rw [List.append_eq_nil_iff] at hm';obtain ⟨m1,m2⟩:=hm';have h8:∀x∈d.DI.SD,Zcd1 (Zsd1 d) x=x:=fun x hx=>by
    have h6:Z4d1 d.DI.ID (Zrd1 d) x=[]:=by
     have:∀y∈Z4d1 d.DI.ID (Zrd1 d) x,y∈Z7d1 (Zsd1 d):=fun y hy=>List.mem_flatMap.2 ⟨x,hx,hy⟩;rw [m1] at this;cases hc:Z4d1 d.DI.ID (Zrd1 d) x with
     | nil=>rfl
     | cons y l=>exact absurd (this y (by rw [hc];simp)) (by simp)
    have h9:Z3d1 (Zrd1 d) x=x:=Z6e1 h6;unfold Zcd1;rw [show (Zsd1 d).PH=Zrd1 d from rfl];split
    ·rename_i hc;exfalso;rcases hf with ⟨q,q'⟩ | ⟨q1,q2⟩
     ·have:=q';rw [show (Zsd1 d).PH=Zrd1 d from rfl] at this;rw [this] at hc;simp at hc
     ·rw [show (Zsd1 d).PH=Zrd1 d from rfl] at q1;rw [q1] at r3;rw [q2] at r2;omega
    ·exact h9
   have hS:(Z6d1 (Zsd1 d)).SD=d.DI.SD:=by rw [Zdd1];exact Z8e1 h8
   have hB:Ztd1 d=d.DI.SD:=by
    unfold Ztd1;rw [hS];refine Z8e1 fun x hx=>?_;have h6:botM d.DI.ID (Zjd1 d x) d.TH x=[]:=by
     rw [hS] at m2;have:∀y∈botM d.DI.ID (Zjd1 d x) d.TH x,y∈d.DI.SD.flatMap fun x=>botM d.DI.ID (Zjd1 d x) d.TH x:=fun y hy=>List.mem_flatMap.2 ⟨x,hx,hy⟩;rw [m2] at this;cases hc:botM d.DI.ID (Zjd1 d x) d.TH x with
     | nil=>rfl
     | cons y l=>exact absurd (this y (by rw [hc];simp)) (by simp)
    exact Z7e1 h6
   unfold Zvd1;rw [hB,r1,r2]
  ·right;rw [r1,r2];omega
theorem Zbe1 (id:Int) (f:Side→Side):∀(l:List Side) (q:Int),(∀x∈l,(f x).Peer=x.Peer∧∀q,Zsc1 id q x=true→Zsc1 id q (f x)=true)→Ztc1 id q l=true→Ztc1 id q (l.map f)=true
 | [],_,_,_=>rfl
 | x::l,q,h,hk=>by obtain ⟨h1,h2⟩:=h x (by simp);simp only [List.map_cons,Ztc1,Bool.and_eq_true] at hk ⊢;refine ⟨h2 q hk.1,?_⟩;rw [h1];exact Zbe1 id f l x.Peer (fun y hy=>h y (by simp [hy])) hk.2
theorem Zce1 {d:DI} (h:okD d=true) {p:Int} (h0:0≤p) (h2:p≤2) (f:Side→Side) (E:∀x∈d.SD,(f x).Peer=x.Peer∧∀q,Zsc1 d.ID q x=true→Zsc1 d.ID q (f x)=true):okD ⟨d.ID,p,d.SD.map f⟩=true:=by simp only [okD,Bool.and_eq_true,decide_eq_true_eq] at h ⊢;exact ⟨h.1,h0,h2,by simpa using h.2.2.2.1,Zbe1 d.ID f d.SD (-1) E h.2.2.2.2⟩
theorem Zde1 {id q:Int} {x y:Side} (hp:y.Peer=x.Peer) (he:y.Epoch=x.Epoch) (hs:y.State=x.State) (E:(x.DY=true→x.Fork=true)→y.DY=true→y.Fork=true) (h:Zsc1 id q x=true):Zsc1 id q y=true:=by
 unfold Zsc1 at h ⊢;rw [hp,he,hs];simp only [Bool.and_eq_true] at h ⊢;refine ⟨h.1,h.2.1,h.2.2.1,h.2.2.2.1,h.2.2.2.2.1,h.2.2.2.2.2.1,?_⟩;have h7:=h.2.2.2.2.2.2;cases h6:y.DY with
 | false=>rfl
 | true=>
   have:x.DY=true→x.Fork=true:=fun e=>by
    rw [e] at h7;cases hf:x.Fork with
    | true=>rfl
    | false=>rw [hf] at h7;simp at h7
   rw [E this h6];rfl
theorem Zee1 {d:DI} (h:okD d=true):okD (Z6d1 d)=true:=by
 have hh:=h;simp only [okD,Bool.and_eq_true,decide_eq_true_eq] at hh;have hp:0≤(Z6d1 d).PH∧(Z6d1 d).PH≤2:=by
  rcases Z5e1 d with ⟨q,_⟩ | ⟨_,q⟩
  ·rw [q];exact ⟨hh.2.1,hh.2.2.1⟩
  ·rw [q];omega
 have:=Zce1 h hp.1 hp.2 (Zcd1 d) fun x hx=>by
  obtain ⟨p1,p2,p3,_⟩:=Zfd1 d x;refine ⟨p1,fun q=>Zde1 p1 p2 p3 fun hd=>?_⟩;unfold Zcd1;split
  ·rename_i hc;rw [Bool.and_eq_true,List.all_eq_true] at hc;exact fun _=>hc.2 (Z3d1 d.PH x) (List.mem_map_of_mem hx)
  ·exact Zbd1 _ _ hd
 rw [←Zdd1] at this;rw [show Z6d1 d=⟨d.ID,(Z6d1 d).PH,(Z6d1 d).SD⟩ by rw [←Zed1 d]];exact this
theorem Zfe1 {d:DK} (h:okD d.DI=true):okD (Zvd1 d).DI=true:=by
 have h1:=Zee1 (Zxd1 h);have hh:=h1;simp only [okD,Bool.and_eq_true,decide_eq_true_eq] at hh;have:=Zce1 h1 hh.2.1 hh.2.2.1 (fun x=>bot2 (Zjd1 d x) d.TH x) fun x _=>by obtain ⟨p1,p2,p3,p4,p5,_⟩:=Zld1 (Zjd1 d x) d.TH x;exact ⟨p1,fun q=>Zde1 p1 p2 p3 fun hd e=>by rw [p4];rw [p5] at e;exact hd e⟩
 rw [Zed1] at this;exact this
def Zge1:Nat→DK→List Mail→DK×List Mail
 | 0,d,out=>(d,out)
 | n+1,d,out=>if Zvd1 d=d then (d,out) else Zge1 n (Zvd1 d) (out++Zwd1 d)
def Zhe1 (d:DK):DK×List Mail:=Zge1 300 d []
theorem Zie1 (l m:List Int) (hl:l.length≤1000000):Zmm l m=some (decide (l=m)):=by
 simp only [Zmm,Z0b1];by_cases h:l.length=m.length
 ·simp only [h,decide_true,Bool.not_true,Z1a1];rw [Zxa1 l m _ (fun x y=>decide (x=y)) h (by omega) (fun k x y hx hy=>by simp only [Zlm,Z7a1 hx,Z0a1,Z4a1 hx,Z4a1 hy,OB,Zaa1 hx (show l.length≤4000000000000000000 by omega),Z2a1];cases decide (x=y)<;>rfl) (by simp only [Zlm,Z8a1,Z1a1,Zkm,Option.map_some]),Zya1 l m h]
 ·simp [h,Zza1 h]
theorem Zje1 (i p t:Int) (S:List Side) (N:List Int) (hs:S.length≤1000000) (E:N.length≤1000000):Zkx i p t S N=some (S,N):=by simp only [Zkx,Z0d1 _ hs,Z9c1 _ E,OB,Zjx]
theorem Zke1 (a b:DK) (hs:a.DI.SD.length≤1000000) (E:a.Need.length≤1000000):Z5x a b=some (decide (a=b)):=by obtain ⟨⟨i,p,s⟩,t,n⟩:=a;obtain ⟨⟨i',p',s'⟩,t',n'⟩:=b;simp only at hs E;simp only [Z5x,Zis,Zhs,Z4x,Zpc1 s s' hs,Zie1 n n' E,OB,DK.mk.injEq,DI.mk.injEq];by_cases h1:i=i'<;>by_cases h2:p=p'<;>by_cases h3:s=s'<;>by_cases h4:t=t'<;>by_cases h5:n=n'<;>simp [h1,h2,h3,h4,h5]
theorem Zle1 (l:List Side):bits l≤4*l.length:=by
 induction l with
 | nil=>simp [bits]
 | cons x l ih=>
   have:Z0e1 x≤4:=by unfold Z0e1 bn;split<;>split<;>split<;>split<;>omega
   unfold bits at ih ⊢;simp only [List.map_cons,List.sum_cons,List.length_cons];omega
theorem Zme1 {d:DK} (h:okD d.DI=true):mu d≤257:=by
 have h1:=Z1d1 h;have h2:=Zle1 d.DI.SD;have:rank d.TH d.DI.PH≤5:=by unfold rank;(repeat' split)<;>omega
 unfold mu;omega
theorem Zne1 {d:DI} (h:okD d=true):0≤d.PH∧d.PH≤2:=by simp only [okD,Bool.and_eq_true,decide_eq_true_eq] at h;exact ⟨h.2.1,h.2.2.1⟩
theorem Zoe1 (J:List Side) (N:List Int) (E:N.length≤1000000):∀(n:Nat) (d:DK) (out:List Mail),d.Need=N→okD d.DI=true→mu d≤n→out.length+bits d.DI.SD≤600000→
  loop (Zq71 (J,N)) (d.DI.ID,d.DI.PH,d.TH,d.DI.SD,out)=some ((Zge1 (n+1) d out).1.DI.ID,(Zge1 (n+1) d out).1.DI.PH,(Zge1 (n+1) d out).1.TH,0,(Zge1 (n+1) d out).1.DI.SD,N,(Zge1 (n+1) d out).2):=fun n=>by
 have step:∀(d:DK) (out:List Mail),d.Need=N→okD d.DI=true→out.length+bits d.DI.SD≤600000→Zq71 (J,N) (d.DI.ID,d.DI.PH,d.TH,d.DI.SD,out)=if Zvd1 d=d then some (.inr (d.DI.ID,d.DI.PH,d.TH,0,d.DI.SD,N,out)) else some (.inl ((Zvd1 d).DI.ID,(Zvd1 d).DI.PH,(Zvd1 d).TH,(Zvd1 d).DI.SD,out++Zwd1 d)):=fun d out hd hk ho=>by
  have hl:=Z1d1 hk;have hp:=Zne1 hk;have e:(⟨⟨d.DI.ID,d.DI.PH,d.DI.SD⟩,d.TH,N⟩:DK)=d:=by rw [←hd]
  dsimp only [Zq71];have h6:=Zzd1 d hk (by rw [hd];exact E) out (by omega);rw [hd] at h6;rw [Zje1 _ _ _ _ _ (by omega) E,OB,h6,OB];dsimp only;have e2:(⟨⟨(Zvd1 d).DI.ID,(Zvd1 d).DI.PH,(Zvd1 d).DI.SD⟩,(Zvd1 d).TH,N⟩:DK)=Zvd1 d:=by rw [←hd];rfl
  rw [e,e2,Zke1 d _ (by omega) (by rw [hd];exact E),OB];dsimp only [Zp71,Zo71];by_cases hq:Zvd1 d=d
  ·rw [if_pos hq,DT hq.symm,Z0a1];have hm:Zwd1 d=[]:=by
    rcases Zae1 hp.1 hp.2 with h1 | h1
    ·exact h1.2
    ·rw [hq] at h1;omega
   rw [hm,List.append_nil,hq];rfl
  ·rw [if_neg hq,DN fun e=>hq e.symm,Z1a1]
 induction n with
 | zero=>
   intro d out hd hk hm ho;have hp:=Zne1 hk;have hq:Zvd1 d=d:=by
    rcases Zae1 hp.1 hp.2 with h1 | h1
    ·exact h1.1
    ·omega
   rw [Zcc,step d out hd hk ho,if_pos hq];unfold Zge1;rw [if_pos hq]
 | succ n ih=>
   intro d out hd hk hm ho;have hp:=Zne1 hk;rw [Zcc,step d out hd hk ho];unfold Zge1;by_cases hq:Zvd1 d=d
   ·rw [if_pos hq,if_pos hq]
   ·rw [if_neg hq,if_neg hq];have hb:=Z4e1 d;refine ih (Zvd1 d) (out++Zwd1 d) hd (Zfe1 hk) ?_ (by rw [List.length_append];omega);rcases Zae1 hp.1 hp.2 with h1 | h1
    ·exact absurd h1.1 hq
    ·omega
def okI:Option Int→List Int→Bool
 | _,[]=>true
 | p,x::r=>(match p with | none=>true | some q=>decide (q<x))&&okI (some x) r
def Zpe1 (d:DI) (p:Int):Bool:=d.SD.any fun x=>decide (x.Peer=p)
def okDr (d:DK):Bool:=okD d.DI&&(decide (0≤d.TH)&&(decide (d.TH≤2)&&(okI none d.Need&&(!(decide (d.TH=0)&&decide (0<d.Need.length))&&d.Need.all (Zpe1 d.DI)))))
theorem Zqe1 (l:List Int) (hl:l.length≤1000000):Zdl l=some (okI none l):=by
 unfold Zdl;refine Zma1 l (Zcl l) (fun pre=>(pre.length:Int)) (fun pre post=>some (okI pre.getLast? post)) (fun pre x post h=>?_) ?_
 ·have hx:=Zpa1 h;have hm:=Zqa1 h;have j2:∀z,Zbl (pre.length:Int) z=if z then some (.inr false) else some (.inl ((pre.length+1:Nat):Int)):=fun z=>by
   cases z with
   | true=>rfl
   | false=>dsimp only [Zbl];rw [Z1a1,Z9a1 (by omega)];rfl
  dsimp only [Zcl];rw [Z7a1 hx,Z0a1];rcases List.eq_nil_or_concat pre with rfl | ⟨q,y,rfl⟩
  ·left;rw [show decide ((0:Int)<(([]:List Int).length:Nat))=false from rfl,Z1a1,j2];exact ⟨rfl,rfl⟩
  ·rw [List.concat_eq_append] at *;have hy:l[q.length]?=some y:=by rw [h];simp
   rw [DT (show (0:Int)<((q++[y]).length:Nat) by rw [Zua1];omega),Z0a1];have e1:wr (((q++[y]).length:Nat)-1)=(q.length:Int):=by rw [Zua1] at hm ⊢;rw [Z3a1 (by omega) (by omega)];omega
   rw [e1,Z4a1 hy,OB,Z4a1 hx,OB,j2];by_cases hc:x≤y
   ·right;refine ⟨false,by rw [DT hc];rfl,?_⟩;have:¬y<x:=by omega
    simp [okI,this]
   ·left;have:y<x:=by omega
    refine ⟨by rw [DN hc,Zua1 (q++[y])];rfl,?_⟩;simp [okI,this]
 ·dsimp only [Zcl];rw [Z8a1,Z1a1];rfl
theorem Zre1 (d:DK) (E:d.Need.length≤1000000):Zt31 d=some (if okDr d then 0 else 150):=by
 simp only [Zt31,Zzc1,OB];unfold okDr;cases hk:okD d.DI with
 | false=>rfl
 | true=>
   have hl:=Z1d1 hk;rw [if_pos rfl,show decide ((0:Int)=0)=true from rfl,Bool.not_true,Z1a1];by_cases h1:d.TH<0
   ·rw [DT h1,Z0a1,DN (show ¬0≤d.TH by omega)];rfl
   ·rw [DN h1,Z1a1,DT (show 0≤d.TH by omega)];by_cases h2:2<d.TH
    ·rw [DT h2,DN (show ¬d.TH≤2 by omega)];rfl
    ·rw [DN h2,DT (show d.TH≤2 by omega)];dsimp only [Zs31];rw [Z1a1,Zqe1 _ E,OB];cases hv:okI none d.Need with
     | false=>rfl
     | true=>
       rw [Bool.not_true,Z1a1];have j3:∀z,Zr31 d z=some (if (!z&&d.Need.all (Zpe1 d.DI))=true then 0 else 150):=fun z=>by
        cases z with
        | true=>rfl
        | false=>dsimp only [Zr31];rw [Z1a1,Z7b1 d.Need (fun z=>Z2x z d) (fun p=>!Zpe1 d.DI p) (by omega) (fun p _=>by simp only [Z2x];rw [Z5b1 d.DI.SD (fun z=>Zim z p) (fun x=>decide (x.Peer=p)) (by omega) (fun x _=>rfl),OB];rfl),OB];have e1:d.Need.any (fun p=>!Zpe1 d.DI p)=!d.Need.all (Zpe1 d.DI):=Zbb1 _ _ _ fun _=>rfl;rw [e1];cases d.Need.all (Zpe1 d.DI)<;>rfl
       rw [ln_eq];simp only [j3,Bool.true_and];have e3:decide ((0:Int)<(d.Need.length:Nat))=decide (0<d.Need.length):=by rw [decide_eq_decide];omega
       rw [e3];cases decide (d.TH=0)<;>rfl
theorem Zse1 {d:DK} (h:okDr d=true):okD d.DI=true:=by unfold okDr at h;rw [Bool.and_eq_true] at h;exact h.1
theorem Zte1:∀(n:Nat) (d:DK) (out:List Mail),(Zge1 n d out).1.Need=d.Need
 | 0,_,_=>rfl
 | n+1,d,out=>by
   unfold Zge1;split
   ·rfl
   ·rw [Zte1 n];rfl
theorem Zue1 (d:DK) (hk:okDr d=true) (E:d.Need.length≤1000000):Zr71 d.DI.ID d.DI.PH d.TH d.DI.SD d.Need=some ((Zhe1 d).1.DI.ID,(Zhe1 d).1.DI.PH,(Zhe1 d).1.TH,0,(Zhe1 d).1.DI.SD,d.Need,(Zhe1 d).2):=by have h6:=Zse1 hk;have hl:=Z1d1 h6;have hb:=Zle1 d.DI.SD;have hm:=Zme1 h6;dsimp only [Zr71];rw [show (⟨⟨d.DI.ID,d.DI.PH,d.DI.SD⟩,d.TH,d.Need⟩:DK)=d from rfl,Zre1 d E,OB,if_pos hk,show decide ((0:Int)=0)=true from rfl,Bool.not_true,Z1a1,Zje1 _ _ _ _ _ (by omega) E,OB,Zoe1 _ d.Need E 299 d [] rfl h6 (by omega) (by simp only [List.length_nil];omega)];rfl
theorem Zve1 (d:DK) (hk:okDr d=true) (E:d.Need.length≤1000000):Z261 d.DI.ID d.DI.PH d.TH d.DI.SD d.Need=some (if d.TH=0 then (0,0,152,[]) else (d.DI.ID,d.DI.PH,0,d.DI.SD)):=by
 have hl:=Z1d1 (Zse1 hk);dsimp only [Z261];rw [show (⟨⟨d.DI.ID,d.DI.PH,d.DI.SD⟩,d.TH,d.Need⟩:DK)=d from rfl,Zre1 d E,OB,if_pos hk,show decide ((0:Int)=0)=true from rfl,Bool.not_true,Z1a1];by_cases h1:d.TH=0
 ·rw [DT h1,Z0a1,if_pos h1]
 ·rw [DN h1,Z1a1,if_neg h1,Zje1 _ _ _ _ _ (by omega) E,OB]
def Zwe1 (k:Int) (x:Side):Bool:=if k=1 then x.Fork else if k=2 then x.Token else if k=4 then x.Ask else x.BO
def layK (k:Int) (x:Side):Side:=if k=1 then {x with Fork:=true} else if k=2 then {x with Token:=true} else if k=4 then {x with Ask:=true} else {x with BO:=true}
theorem Zxe1 (i p E:Int) (m:Msg) (S:List Side) (hk:okD ⟨i,p,S⟩=true) {j:Nat} {x:Side} (J:S.findIdx? (fun x=>decide (x.Peer=E)&&decide (x.Epoch=m.Epoch))=some j) (hx:S[j]?=some x) (h0:m.Num=0) (hm:m.Kind=1∨m.Kind=2):
  Zr51 i p E m S=some (if Zwe1 m.Kind x then (0,0,132,[]) else (i,p,0,S.set j (layK m.Kind x))):=by
 have hl:S.length<64:=Z1d1 hk;dsimp only [Zr51];rw [Zzc1,if_pos hk,OB,show decide ((0:Int)=0)=true from rfl,Bool.not_true,Z1a1,Z1b1 S (fun z=>Z8m z E m) (fun x=>decide (x.Peer=E)&&decide (x.Epoch=m.Epoch)) (by omega) (fun x _=>by simp only [Z8m,Z7m];cases decide (x.Peer=E)<;>rfl),OB,Zga1,J,Option.isNone_some,Z1a1,Z0d1 S (by omega),OB];dsimp only [plc];rw [Z4a1 hx,OB];dsimp only [Zq51,Zo51,Zp51];rw [DT h0,Int.toNat_natCast];rcases hm with hm | hm
 ·rw [hm,show decide ((1:Int)=1)=true from rfl,Z0a1,Z0a1];simp only [Zwe1,layK,if_true];cases x.Fork<;>rfl
 ·rw [hm,show decide ((2:Int)=1)=false from rfl,Z1a1,Z1a1,show decide ((2:Int)=2)=true from rfl,Z0a1,Z0a1];simp only [Zwe1,layK,if_true,show ¬(2:Int)=1 by omega,if_false];cases x.Token<;>rfl
theorem Zye1 (d:DK) (E:Int) (m:Msg) (hk:okDr d=true) (U:d.Need.length≤1000000) {j:Nat} {x:Side} (J:d.DI.SD.findIdx? (fun x=>decide (x.Peer=E)&&decide (x.Epoch=m.Epoch))=some j) (hx:d.DI.SD[j]?=some x) (h0:m.Num=0) (hm:1≤m.Kind∧m.Kind≤4):
  Z271 d.DI.ID d.DI.PH d.TH E m d.DI.SD d.Need=some (if Zwe1 m.Kind x then (0,0,0,132,[],[]) else (d.DI.ID,d.DI.PH,d.TH,0,d.DI.SD.set j (layK m.Kind x),d.Need)):=by
 have hl:=Z1d1 (Zse1 hk);dsimp only [Z271];rw [show (⟨⟨d.DI.ID,d.DI.PH,d.DI.SD⟩,d.TH,d.Need⟩:DK)=d from rfl,Zre1 d U,if_pos hk,OB,show decide ((0:Int)=0)=true from rfl,Bool.not_true,Z1a1,Zje1 _ _ _ _ _ (by omega) U,OB];dsimp only;rw [Z1b1 d.DI.SD (fun z=>Zco z E m) (fun x=>decide (x.Peer=E)&&decide (x.Epoch=m.Epoch)) (by omega) (fun x _=>by simp only [Zco,Zbo];cases decide (x.Peer=E)<;>rfl),OB,Zga1,J,Option.isNone_some,Z1a1,DT h0,Bool.not_true,Z1a1];have hd:=fun hm=>Zxe1 d.DI.ID d.DI.PH E m d.DI.SD (Zse1 hk) J hx h0 hm;have j1:(m.Kind=1∨m.Kind=2)→Z171 d.DI.ID d.DI.PH d.TH E m (d.DI.SD,d.Need) (plc (some j)) true=some (if Zwe1 m.Kind x then (0,0,0,132,[],[]) else (d.DI.ID,d.DI.PH,d.TH,0,d.DI.SD.set j (layK m.Kind x),d.Need)):=fun hq=>by dsimp only [Z171];rw [Z0a1,hd hq,OB];cases Zwe1 m.Kind x<;>rfl
 have j0:(m.Kind=3∨m.Kind=4)→Z171 d.DI.ID d.DI.PH d.TH E m (d.DI.SD,d.Need) (plc (some j)) false=some (if Zwe1 m.Kind x then (0,0,0,132,[],[]) else (d.DI.ID,d.DI.PH,d.TH,0,d.DI.SD.set j (layK m.Kind x),d.Need)):=fun hq=>by
  dsimp only [Z171,plc];rw [Z1a1,Z4a1 hx,OB,Int.toNat_natCast];rcases hq with hq | hq
  ·rw [hq,show decide ((3:Int)=4)=false from rfl,Z1a1];simp only [Zwe1,layK,show ¬(3:Int)=1 by omega,show ¬(3:Int)=2 by omega,show ¬(3:Int)=4 by omega,if_false];cases x.BO<;>rfl
  ·rw [hq,show decide ((4:Int)=4)=true from rfl,Z0a1];simp only [Zwe1,layK,show ¬(4:Int)=1 by omega,show ¬(4:Int)=2 by omega,if_false,if_true];cases x.Ask<;>rfl
 by_cases k3:m.Kind=3
 ·rw [DT k3,Bool.not_true,Z1a1];exact j0 (.inl k3)
 ·rw [DN k3,Bool.not_false,Z0a1];by_cases k4:m.Kind=4
  ·rw [DT k4,Bool.not_true];exact j0 (.inr k4)
  ·rw [DN k4,Bool.not_false];exact j1 (by omega)
structure FewN (n:Node):Prop where
 sides:n.DK.DI.SD.length≤100000
 need:n.DK.Need.length≤100000
 book:n.Book.Sess.length≤100000
 needs:∀s∈n.Book.Sess,s.Need.length≤100000
 known:n.KN.length≤100000
 told:n.Told.length≤100000
 asked:n.AK.length≤100000
theorem FewN.bk {n:Node} (h:FewN n):Z2c1 n.Book:=⟨by have:=h.book;omega,fun s hs=>by have:=h.needs s hs;omega⟩
def Zze1 (n:Node) (q:Side→Bool):List Int:=(n.DK.DI.SD.filter q).map (·.Peer)
theorem Z0f1 (n:Node) (E:FewN n) (p:Side→Option Bool) (q:Side→Bool) (hp:∀x∈n.DK.DI.SD,p x=some (q x)):Zxm n p=some (Zze1 n q):=by
 have hl:=E.sides;unfold Zxm;refine Zoa1 n.DK.DI.SD _ (fun pre=>((pre.length:Int),(pre.filter q).map (·.Peer))) _ (fun pre x post h=>?_) ?_
 ·have hx:=Zpa1 h;have hm:=Zqa1 h;have hf:=List.length_filter_le q pre;dsimp only [Zwm];rw [Z7a1 hx,Z0a1,Z4a1 hx,OB,hp x (Zra1 h),OB];cases hq:q x with
  | true=>rw [Z0a1,Z6a1 _ _ (by omega) (by simp;omega),OB];dsimp only [Zvm];rw [Z9a1 (by omega),Zua1];simp [hq]
  | false=>rw [Z1a1];dsimp only [Zvm];rw [Z9a1 (by omega),Zua1];simp [hq]
 ·dsimp only [Zwm];rw [Z8a1,Z1a1];rfl
def Z1f1 (x:Side):Bool:=decide (x.State=0)
def Z2f1 (x:Side):Bool:=decide (x.State=1)
def Z3f1 (x:Side):Bool:=decide (x.State=3)
theorem Z4f1 (n:Node) (E:FewN n):Zms n=some (Zze1 n Z1f1):=by simp only [Zms,Z0f1 n E (fun z=>Zzm z) Z1f1 (fun _ _=>rfl),OB]
def Z5f1 (K:List KE) (p:Int):Int:=match K.find? (fun k=>decide (k.Peer=p)) with | some k=>k.Epoch | none=>0
theorem Z6f1 (n:Node) (E:FewN n) (p:Int):Z3o n p=some (Z5f1 n.KN p):=by
 have hl:=E.known;unfold Z3o;refine Zma1 n.KN _ (fun pre=>(pre.length:Int)) (fun _ post=>some (Z5f1 post p)) (fun pre x post h=>?_) ?_
 ·have hx:=Zpa1 h;have hm:=Zqa1 h;dsimp only [Z2o];rw [Z7a1 hx,Z0a1,Z4a1 hx,OB];by_cases hq:x.Peer=p
  ·right;exact ⟨x.Epoch,by rw [DT hq];rfl,by simp [Z5f1,hq]⟩
  ·left;exact ⟨by rw [DN hq,Z1a1,Z9a1 (by omega),Zua1],by simp [Z5f1,hq]⟩
 ·dsimp only [Z2o];rw [Z8a1,Z1a1];rfl
def mayB (n:Node) (k:KE):Bool:=!n.DK.DI.SD.any (fun x=>decide (x.Peer=k.Peer))&&(decide (0≤k.Peer)&&(decide (k.Peer<n.DK.DI.ID)&&(decide (Z5f1 n.KN k.Peer<k.Epoch)&&decide (k.Epoch≤65535))))
theorem Z7f1 (n:Node) (E:FewN n) (k:KE):Z7y n k=some (mayB n k):=by have hl:=E.sides;simp only [Z7y,Z5b1 n.DK.DI.SD (fun z=>Z5o z k) (fun x=>decide (x.Peer=k.Peer)) (by omega) (fun _ _=>rfl),OB,Z6f1 n E,Z6y];unfold mayB;cases n.DK.DI.SD.any (fun x=>decide (x.Peer=k.Peer))<;>cases decide (0≤k.Peer)<;>cases decide (k.Peer<n.DK.DI.ID)<;>cases decide (Z5f1 n.KN k.Peer<k.Epoch)<;>rfl
def Z8f1 (l:List KE):Bool:=decide (l.map (·.Peer)).Nodup
theorem Z9f1 (l:List KE) (hl:l.length≤1000000):Zby l=some (Z8f1 l):=by
 unfold Zby;have key:=Zna1 l (Zay l) (fun pre=>(pre.length:Int)) (fun pre post=>some (Z8f1 (pre++post))) (fun pre=>(pre.map (·.Peer)).Nodup) (fun pre x post h hI=>?_) (fun hI=>?_) l [] rfl (by simp)
 ·exact key
 ·have hx:=Zpa1 h;have hm:=Zqa1 h;have h6:Z8c l 0 (pre.length:Int)=some pre:=by unfold Z8c;rw [if_pos ⟨by omega,by omega,by omega⟩,h];simp
  dsimp only [Zay];rw [Z7a1 hx,Z0a1,Z4a1 hx,OB,h6,OB,Z6b1 pre (fun z=>Z7o z x) (fun y=>decide (y.Peer=x.Peer)) (by omega) (fun _ _=>rfl),OB];cases ha:pre.any (fun y=>decide (y.Peer=x.Peer)) with
  | true=>
    right;refine ⟨false,rfl,?_⟩;have:¬((pre++x::post).map (·.Peer)).Nodup:=by rw [List.any_eq_true] at ha;obtain ⟨y,hy,hq⟩:=ha;rw [List.map_append,List.map_cons,List.nodup_append];rintro ⟨_,_,h3⟩;exact h3 y.Peer (List.mem_map.2 ⟨y,hy,rfl⟩) x.Peer (by simp) (by simpa using hq)
    unfold Z8f1;rw [DN this]
  | false=>left;rw [List.any_eq_false] at ha;refine ⟨by rw [Z1a1,Z9a1 (by omega),Zua1],?_,by simp [Z8f1]⟩;rw [List.map_append,List.nodup_append];refine ⟨hI,by simp,?_⟩;intro a ha' b hb;obtain ⟨y,hy,rfl⟩:=List.mem_map.1 ha';simp at hb;subst hb;have:=ha y hy;simpa using this
 ·dsimp only [Zay];rw [Z8a1,Z1a1,List.append_nil];have:Z8f1 l=true:=by unfold Z8f1;exact DT hI
  rw [this];rfl
def Zaf1:Int→List KE→Bool
 | _,[]=>true
 | q,k::l=>(decide (q<k.Peer)&&(decide (k.Peer<64)&&(decide (1≤k.Epoch)&&decide (k.Epoch≤65535))))&&Zaf1 k.Peer l
def Zbf1 (q:Int) (pre:List KE):Int:=match pre.getLast? with | some x=>x.Peer | none=>q
theorem Zcf1 (q:Int) (pre:List KE) (x:KE):Zbf1 q (pre++[x])=x.Peer:=by simp [Zbf1]
theorem Zdf1 (l:List KE) (hl:l.length≤1000000) (q:Int):∃z,Ze01 l q=some (!Zaf1 q l,z):=by
 have s1:∀(k:KE) (q:Int),Z1u k q=some (!(decide (q<k.Peer)&&(decide (k.Peer<64)&&(decide (1≤k.Epoch)&&decide (k.Epoch≤65535))))):=fun k q=>by simp only [Z1u,Z0u];cases decide (q<k.Peer)<;>cases decide (k.Peer<64)<;>cases decide (1≤k.Epoch)<;>rfl
 have key:∀(post pre:List KE),l=pre++post→∃r z,loop (Z3y l) ((pre.length:Int),Zbf1 q pre)=some (r,z)∧decide (0≤r)=!Zaf1 (Zbf1 q pre) post:=by
  intro post;induction post with
  | nil=>
    intro pre h;have h:pre=l:=by simpa using h.symm
    subst h;refine ⟨-1,Zbf1 q pre,?_,rfl⟩;rw [Zcc];dsimp only [Z3y];rw [Z8a1,Z1a1];rfl
  | cons x post ih=>
    intro pre h;have hx:=Zpa1 h;have hm:=Zqa1 h;rw [Zcc];dsimp only [Z3y];rw [Z7a1 hx,Z0a1,Z4a1 hx,OB,s1,OB];cases hk:(decide (Zbf1 q pre<x.Peer)&&(decide (x.Peer<64)&&(decide (1≤x.Epoch)&&decide (x.Epoch≤65535)))) with
    | false=>exact ⟨pre.length,x.Peer,rfl,by simp only [Zaf1,hk,Bool.false_and,Bool.not_false];exact DT (by omega)⟩
    | true=>
      obtain ⟨r,z,h1,h2⟩:=ih (pre++[x]) (by simpa using h);refine ⟨r,z,?_,?_⟩
      ·rw [Bool.not_true,Z1a1,Z9a1 (by omega)];rw [Zua1,Zcf1] at h1;exact h1
      ·rw [h2,Zcf1];simp only [Zaf1,hk,Bool.true_and]
 obtain ⟨r,z,h1,h2⟩:=key l [] rfl;refine ⟨z,?_⟩;have h1:loop (Z3y l) (0,q)=some (r,z):=h1;simp only [Ze01,Z4y,h1,OB,h2];rfl
def Zef1 (n:Node) (x:Side):Bool:=decide (x.Peer<64)&&(decide (1≤x.Epoch)&&(decide (Z5f1 n.KN x.Peer=x.Epoch)&&!((decide (x.State=1)||decide (x.State=3))&&decide (x.Peer<n.DK.DI.ID))))
theorem Zff1 (n:Node) (E:FewN n) (x:Side):Z5u x n=some (!Zef1 n x):=by
 simp only [Z5u,Z4u,Z3u,Z6f1 n E,OB];unfold Zef1;by_cases h1:x.Peer<64
 ·rw [DT h1,DN (show ¬64≤x.Peer by omega)];by_cases h2:1≤x.Epoch
  ·rw [DT h2,DN (show ¬x.Epoch<1 by omega)];cases decide (Z5f1 n.KN x.Peer=x.Epoch)<;>cases decide (x.State=1)<;>cases decide (x.State=3)<;>cases decide (x.Peer<n.DK.DI.ID)<;>rfl
  ·rw [DN h2,DT (show x.Epoch<1 by omega)];cases decide (x.State=1)<;>rfl
 ·rw [DN h1,DT (show 64≤x.Peer by omega)];cases decide (x.State=1)<;>rfl
def Zgf1 (n:Node):Bool:=decide (n.DK.DI.ID<64)&&(Zaf1 (-1) n.KN&&(n.DK.DI.SD.all (Zef1 n)&&(okI none n.Told&&n.Told.all fun z=>decide (z∈Zze1 n Z2f1))))
def Zhf1 (n:Node):Bool:=n.AK.all (mayB n)&&(Z8f1 n.AK&&Zgf1 n)
theorem Zif1 (n:Node) (q:Side→Bool):(Zze1 n q).length≤n.DK.DI.SD.length:=by unfold Zze1;rw [List.length_map];exact List.length_filter_le _ _
theorem Zjf1 (n:Node) (E:FewN n):Zz61 n=some (Zhf1 n):=by
 have h1:=E.asked;have h2:=E.known;have h3:=E.sides;have h4:=E.told;have h5:=Zif1 n Z2f1;obtain ⟨z,hz⟩:=Zdf1 n.KN (by omega) (-1);have hk:∃z,Zg61 n (-1) (fun z=>Z5u z n)=some (Zgf1 n,z):=by
  simp only [Zg61,Zf61,hz,OB,Z5b1 n.DK.DI.SD (fun z=>Z5u z n) (fun x=>!Zef1 n x) (by omega) (fun x _=>Zff1 n E x),Zqe1 n.Told (by omega),Z0f1 n E (fun z=>Znn z) Z2f1 (fun _ _=>rfl),Zxb1 n.Told (Zze1 n Z2f1) (by omega) (by omega)];unfold Zgf1;have e1:n.DK.DI.SD.any (fun x=>!Zef1 n x)=!n.DK.DI.SD.all (Zef1 n):=Zbb1 _ _ _ fun _=>rfl;rw [e1];cases decide (n.DK.DI.ID<64) with
  | false=>exact ⟨-1,rfl⟩
  | true=>cases Zaf1 (-1) n.KN with
    | false=>exact ⟨z,rfl⟩
    | true=>cases n.DK.DI.SD.all (Zef1 n) with
      | false=>exact ⟨z,rfl⟩
      | true=>cases okI none n.Told with
        | false=>exact ⟨z,rfl⟩
        | true=>exact ⟨z,rfl⟩
 obtain ⟨z',hk⟩:=hk;have e2:n.AK.any (fun k=>!mayB n k)=!n.AK.all (mayB n):=Zbb1 _ _ _ fun _=>rfl;simp only [Zz61,Z6b1 n.AK (fun z=>Zg01 z n) (fun k=>!mayB n k) (by omega) (fun k _=>by simp only [Zg01,Z7f1 n E,OB]),OB,e2,Z9f1 n.AK (by omega),Zy61,hk];unfold Zhf1;cases n.AK.all (mayB n)<;>cases Z8f1 n.AK<;>rfl
def Zkf1:Sess:=⟨0,[],0,0⟩
theorem Zlf1 (n:Node):Z3n n=some (match n.Book.Sess with | []=>(Zkf1,false) | s::_=>(s,true)):=by
 simp only [Z3n,ln_eq];cases h:n.Book.Sess with
 | nil=>rfl
 | cons s l=>rw [DN (by simp;omega),Z1a1];rfl
def Zmf1 (n:Node):Bool:=match n.Book.Sess with | []=>false | s::_=>decide (s.State=1)
def Znf1 (n:Node):Bool:=match n.Book.Sess with | []=>false | s::_=>decide (s.Need=n.DK.Need)
def Zof1 (n:Node) (s:Sess):Bool:=!(decide (s.State=0)&&!s.Need.all fun z=>decide (z∈Zze1 n Z1f1))
def Zpf1 (n:Node):Bool:=(decide (n.DK.TH=2)==Zmf1 n)&&((decide (n.DK.TH=0)||Znf1 n)&&(!n.DK.Need.any (fun z=>decide (z∈Zze1 n Z3f1))&&n.Book.Sess.all (Zof1 n)))
theorem Zqf1 (a b:List Int) (ha:a.length≤1000000) (hb:b.length≤1000000):Zs21 a b=some ((setL a).filter fun z=>decide (z∈b)):=by simp only [Zs21];rw [Zvb1 a (fun z=>Zi01 z b) (fun z=>decide (z∈b)) ha (fun x _=>by simp only [Zi01,Zmb1 b x hb,OB]),OB]
theorem Zrf1 (n:Node) (E:FewN n):Zl61 n=some (Zpf1 n):=by
 have h3:=E.sides;have h4:=E.need;have h5:=E.book;have h6:=Zif1 n Z3f1;have h7:=Zif1 n Z1f1;have hc:Zlr n.Book.Sess (fun z=>Zm51 z n)=some (n.Book.Sess.any fun s=>!Zof1 n s):=Z8b1 _ _ _ (by omega) fun s hs=>by have:=E.needs s hs;simp only [Zm51,Zl51,Z4f1 n E,OB,Zxb1 s.Need (Zze1 n Z1f1) (by omega) (by omega)];unfold Zof1;cases decide (s.State=0)<;>cases (s.Need.all fun z=>decide (z∈Zze1 n Z1f1))<;>rfl
 have e1:(n.Book.Sess.any fun s=>!Zof1 n s)=!n.Book.Sess.all (Zof1 n):=Zbb1 _ _ _ fun _=>rfl;have j2:∀z,Zj61 n z=some (!z&&(!n.DK.Need.any (fun z=>decide (z∈Zze1 n Z3f1))&&n.Book.Sess.all (Zof1 n))):=fun z=>by
  cases z with
  | true=>rfl
  | false=>
    dsimp only [Zj61,Zi61];rw [Z1a1,Z0f1 n E (fun z=>Z9o z) Z3f1 (fun _ _=>rfl),OB,Zqf1 _ _ (by omega) (by omega),OB,hc,e1,ln_eq];have e2:decide (((((setL n.DK.Need).filter fun z=>decide (z∈Zze1 n Z3f1)).length:Nat):Int)=0)=!n.DK.Need.any (fun z=>decide (z∈Zze1 n Z3f1)):=by
     have hm:=(Zob1 n.DK.Need).2;cases ha:n.DK.Need.any (fun z=>decide (z∈Zze1 n Z3f1)) with
     | true=>rw [List.any_eq_true] at ha;obtain ⟨x,hx,hq⟩:=ha;refine DN fun e=>?_;have:((setL n.DK.Need).filter fun z=>decide (z∈Zze1 n Z3f1))=[]:=List.length_eq_zero_iff.1 (by omega);have h8:x∈((setL n.DK.Need).filter fun z=>decide (z∈Zze1 n Z3f1)):=List.mem_filter.2 ⟨(hm x).2 hx,hq⟩;rw [this] at h8;simp at h8
     | false=>
       rw [List.any_eq_false] at ha;refine DT ?_;have:((setL n.DK.Need).filter fun z=>decide (z∈Zze1 n Z3f1))=[]:=by rw [List.filter_eq_nil_iff];intro x hx;exact ha x ((hm x).1 hx)
       rw [this];rfl
    rw [e2];cases n.DK.Need.any (fun z=>decide (z∈Zze1 n Z3f1)) with
    | true=>rfl
    | false=>rw [Bool.not_false,Z0a1,OB];cases n.Book.Sess.all (Zof1 n)<;>rfl
 simp only [Zl61,Zlf1,OB,Zk61,j2];unfold Zpf1 Zmf1 Znf1;cases hb:n.Book.Sess with
 | nil=>simp only [Z1a1,Bool.not_false,Bool.not_true];cases decide (n.DK.TH=2)<;>cases decide (n.DK.TH=0)<;>simp [ifb]
 | cons s l=>have hs:=E.needs s (by rw [hb];simp);simp only [Z0a1,Zie1 s.Need n.DK.Need (by omega),OB,Bool.not_true,Z1a1];cases decide (s.State=1)<;>cases decide (n.DK.TH=2)<;>cases decide (n.DK.TH=0)<;>cases decide (s.Need=n.DK.Need)<;>simp [ifb]
def okN (n:Node):Bool:=okDr n.DK&&(okBk n.Book&&(Zhf1 n&&Zpf1 n))
theorem Zsf1 (n:Node) (E:FewN n):Zu71 n=some (if okN n then 0 else 180):=by
 have h4:=E.need;simp only [Zu71,Zt71,Zre1 n.DK (by omega),Z7c1 n.Book E.bk,Zjf1 n E,Zrf1 n E,OB];unfold okN;cases okDr n.DK with
 | false=>rfl
 | true=>cases okBk n.Book with
   | false=>rfl
   | true=>cases Zhf1 n with
     | false=>rfl
     | true=>cases Zpf1 n<;>rfl
def cntB {α:Type} (l:List α) (key:α→Int) (p:Int):Nat:=(l.takeWhile fun x=>decide (key x<p)).length
theorem Ztf1 {α:Type} (q:α→Bool):∀(l:List α) (k:Nat),k≤l.length→(∀i x,l[i]?=some x→i<k→q x=true)→(∀x,l[k]?=some x→q x=false)→(l.takeWhile q).length=k
 | [],k,h,_,_=>by simp at h;simp [h]
 | x::l,0,_,_,h=>by simp [h x rfl]
 | x::l,k+1,hk,h1,h2=>by rw [List.takeWhile_cons,if_pos (h1 0 x rfl (by omega)),List.length_cons,Ztf1 q l k (by simpa using hk) (fun i y hy hi=>h1 (i+1) y (by simpa using hy) (by omega)) fun y hy=>h2 y (by simpa using hy)]
theorem Zuf1 {α β:Type} (l:List α) (key:α→Int) (p:Int) (body:Int×Int→Option ((Int×Int) ⊕ β)) (E:Nat→Option β) (hs:l.Pairwise fun x y=>key x<key y)
  (h1:∀(lo hi:Nat) x,lo<hi→hi≤l.length→l[(lo+hi) / 2]?=some x→body ((lo:Int),(hi:Int))=some (.inl (if key x<p then ((((lo+hi) / 2+1:Nat):Int),(hi:Int)) else ((lo:Int),(((lo+hi) / 2:Nat):Int)))))
  (h2:∀lo:Nat,lo≤l.length→body ((lo:Int),(lo:Int))=(E lo).map .inr):
  ∀(n lo hi:Nat),hi-lo≤n→lo≤hi→hi≤l.length→(∀i x,l[i]?=some x→i<lo→key x<p)→(∀i x,l[i]?=some x→hi≤i→¬key x<p)→loop body ((lo:Int),(hi:Int))=E (cntB l key p):=by
 intro n;have stop:∀lo,lo≤l.length→(∀i x,l[i]?=some x→i<lo→key x<p)→(∀i x,l[i]?=some x→lo≤i→¬key x<p)→loop body ((lo:Int),(lo:Int))=E (cntB l key p):=by intro lo hl a b;have:cntB l key p=lo:=Ztf1 _ l lo hl (fun i x hx hi=>DT (a i x hx hi)) fun x hx=>DN (b lo x hx (Nat.le_refl _));rw [Zcc,h2 lo hl,this];cases E lo<;>rfl
 have mono:∀ {i j:Nat} {x y:α},l[i]?=some x→l[j]?=some y→i<j→key x<key y:=by intro i j x y hx hy h8;rw [List.pairwise_iff_getElem] at hs;obtain ⟨a,rfl⟩:=List.getElem?_eq_some_iff.1 hx;obtain ⟨b,rfl⟩:=List.getElem?_eq_some_iff.1 hy;exact hs i j a b h8
 induction n with
 | zero=>
   intro lo hi hn h9 h6 a b;have:lo=hi:=by omega
   subst this;exact stop lo h6 a b
 | succ n ih=>
   intro lo hi hn h9 h6 a b;by_cases he:lo=hi
   ·subst he;exact stop lo h6 a b
   ·have hm:(lo+hi) / 2<l.length:=by omega
    obtain ⟨x,hx⟩:∃x,l[(lo+hi) / 2]?=some x:=⟨_,List.getElem?_eq_getElem hm⟩
    rw [Zcc,h1 lo hi x (by omega) h6 hx];by_cases hq:key x<p
    ·rw [if_pos hq];refine ih ((lo+hi) / 2+1) hi (by omega) (by omega) h6 (fun i y hy hi'=>?_) b;by_cases e:i=(lo+hi) / 2
     ·subst e;rw [hx] at hy;simp at hy;subst hy;exact hq
     ·have:=mono hy hx (by omega);omega
    ·rw [if_neg hq];refine ih lo ((lo+hi) / 2) (by omega) (by omega) (by omega) a fun i y hy hi'=>?_;by_cases e:i=(lo+hi) / 2
     ·subst e;rw [hx] at hy;simp at hy;subst hy;exact hq
     ·have:=mono hx hy (by omega);omega
theorem Zvf1 {lo hi:Nat} (h:lo+hi≤4000000):wr (Int.fdiv (kw .u64 (wr ((lo:Int)+hi))) (2 ^ min (Int.toNat 1) (IntKind.bits .u64)))=(((lo+hi) / 2:Nat):Int):=by
 have e1:wr ((lo:Int)+hi)=((lo+hi:Nat):Int):=by rw [Z3a1 (by omega) (by omega)];omega
 have e2:kw .u64 ((lo+hi:Nat):Int)=((lo+hi:Nat):Int):=by
  show IntKind.u64.wrap _=_;have e:IntKind.u64.wrap ((lo+hi:Nat):Int)=((lo+hi:Nat):Int) % 18446744073709551616:=by simp [IntKind.wrap,IntKind.bits,IntKind.signed]
  rw [e];omega
 have e3:(2:Int) ^ min (Int.toNat 1) (IntKind.bits .u64)=2:=by decide
 rw [e1,e2,e3];have e4:Int.fdiv ((lo+hi:Nat):Int) 2=(((lo+hi) / 2:Nat):Int):=by rw [Int.fdiv_eq_ediv_of_nonneg _ (by omega)];omega
 rw [e4,Z3a1 (by omega) (by omega)]
theorem Zwf1 (l:List KE) (p:Int) (hl:l.length≤1000000) (hs:l.Pairwise fun x y=>x.Peer<y.Peer) (hr:∀x∈l, -100000≤x.Peer∧x.Peer≤100000) (hp: -100000≤p∧p≤100000):
  Zfn l p (fun z=>Zhn z.1 z.2)=some ((cntB l (·.Peer) p:Int),match l[cntB l (·.Peer) p]? with | some x=>decide (x.Peer=p) | none=>false):=by
 have cmp:∀x∈l,Zhn x p=some (x.Peer-p):=fun x hx=>by have:=hr x hx;simp only [Zhn];rw [Z3a1 (by omega) (by omega)]
 have fin:∀k:Nat,k≤l.length→Zdn l p (fun z=>Zhn z.1 z.2) (k:Int)=some ((k:Int),match l[k]? with | some x=>decide (x.Peer=p) | none=>false):=fun k hk=>by
  dsimp only [Zdn];cases hx:l[k]? with
  | none=>
    have:l.length≤k:=by simpa using hx
    have:k=l.length:=by omega
    subst this;rw [Z8a1,Z1a1];rfl
  | some x=>rw [Z7a1 hx,Z0a1,Z4a1 hx,OB,cmp x (List.mem_of_getElem? hx),OB];dsimp only [Zcn];rw [show decide (x.Peer-p=0)=decide (x.Peer=p) from decide_eq_decide.2 (by omega)]
 unfold Zfn;rw [ln_eq];refine Zuf1 l (·.Peer) p _ (fun k=>some ((k:Int),match l[k]? with | some x=>decide (x.Peer=p) | none=>false)) hs (fun lo hi x h1 h2 hx=>?_) (fun lo h6=>?_) l.length 0 l.length (by omega) (by omega) (by omega) (fun i x _ hi=>by omega) (fun i x hx hi=>by have:=(List.getElem?_eq_some_iff.1 hx).1;omega)
 ·dsimp only [Zen];rw [DT (show (lo:Int)<hi by omega),Z0a1,Zvf1 (by omega),Z4a1 hx,OB,cmp x (List.mem_of_getElem? hx),OB];by_cases hq:x.Peer<p
  ·rw [if_pos hq,DT (show x.Peer-p<0 by omega),Z0a1,Z9a1 (by omega)]
  ·rw [if_neg hq,DN (show ¬x.Peer-p<0 by omega),Z1a1]
 ·dsimp only [Zen];rw [DN (show ¬(lo:Int)<lo by omega),Z1a1,fin lo h6]
theorem Zxf1 (l:List Side) (p:Int) (hl:l.length≤1000000) (hs:l.Pairwise fun x y=>x.Peer<y.Peer) (hr:∀x∈l, -100000≤x.Peer∧x.Peer≤100000) (hp: -100000≤p∧p≤100000):
  Z8n l p (fun z=>Zan z.1 z.2)=some ((cntB l (·.Peer) p:Int),match l[cntB l (·.Peer) p]? with | some x=>decide (x.Peer=p) | none=>false):=by
 have cmp:∀x∈l,Zan x p=some (x.Peer-p):=fun x hx=>by have:=hr x hx;simp only [Zan];rw [Z3a1 (by omega) (by omega)]
 have fin:∀k:Nat,k≤l.length→Z6n l p (fun z=>Zan z.1 z.2) (k:Int)=some ((k:Int),match l[k]? with | some x=>decide (x.Peer=p) | none=>false):=fun k hk=>by
  dsimp only [Z6n];cases hx:l[k]? with
  | none=>
    have:l.length≤k:=by simpa using hx
    have:k=l.length:=by omega
    subst this;rw [Z8a1,Z1a1];rfl
  | some x=>rw [Z7a1 hx,Z0a1,Z4a1 hx,OB,cmp x (List.mem_of_getElem? hx),OB];dsimp only [Z5n];rw [show decide (x.Peer-p=0)=decide (x.Peer=p) from decide_eq_decide.2 (by omega)]
 unfold Z8n;rw [ln_eq];refine Zuf1 l (·.Peer) p _ (fun k=>some ((k:Int),match l[k]? with | some x=>decide (x.Peer=p) | none=>false)) hs (fun lo hi x h1 h2 hx=>?_) (fun lo h6=>?_) l.length 0 l.length (by omega) (by omega) (by omega) (fun i x _ hi=>by omega) (fun i x hx hi=>by have:=(List.getElem?_eq_some_iff.1 hx).1;omega)
 ·dsimp only [Z7n];rw [DT (show (lo:Int)<hi by omega),Z0a1,Zvf1 (by omega),Z4a1 hx,OB,cmp x (List.mem_of_getElem? hx),OB];by_cases hq:x.Peer<p
  ·rw [if_pos hq,DT (show x.Peer-p<0 by omega),Z0a1,Z9a1 (by omega)]
  ·rw [if_neg hq,DN (show ¬x.Peer-p<0 by omega),Z1a1]
 ·dsimp only [Z7n];rw [DN (show ¬(lo:Int)<lo by omega),Z1a1,fin lo h6]
def putS (S:List Side) (x:Side):List Side:=S.take (cntB S (·.Peer) x.Peer)++x::S.drop (cntB S (·.Peer) x.Peer)
def Zyf1 (K:List KE) (p e:Int):List KE:=
 match K[cntB K (·.Peer) p]? with
 | some k=>if k.Peer=p then K.set (cntB K (·.Peer) p) ⟨p,e⟩ else K.take (cntB K (·.Peer) p)++⟨p,e⟩::K.drop (cntB K (·.Peer) p)
 | none=>K++[⟨p,e⟩]
theorem Zzf1 {α:Type} (l:List α) (key:α→Int) (p:Int):cntB l key p≤l.length:=by unfold cntB;exact (List.takeWhile_sublist _).length_le
theorem Z0g1 {α:Type} {b:Nat} (l:List α) (k:Nat) (v:α) (hb:b≤1000) (hk:k≤l.length) (hl:l.length≤1000000):Zdi b l (k:Int) [v]=some (l.take k++v::l.drop k):=by show Z7i b l (k:Int) v=_;unfold Z7i;have h2:(l.length+1)*b≤1000001*1000:=Nat.mul_le_mul (by omega) hb;rw [if_pos ⟨by omega,by omega,by omega,by omega⟩,Int.toNat_natCast]
theorem Z1g1 (K:List KE) (p e:Int) (hl:K.length≤1000000) (hs:K.Pairwise fun x y=>x.Peer<y.Peer) (hr:∀x∈K, -100000≤x.Peer∧x.Peer≤100000) (hp: -100000≤p∧p≤100000):
  ((Zfn K p (fun z=>Zhn z.1 z.2)).bind fun x14=>ifb (!x14.2) ((Z221 K x14.1 [⟨p,0⟩]).bind fun x15=>(at_ x15 x14.1).bind fun x17=>some (x15.set (Int.toNat x14.1) ⟨x17.Peer,e⟩)) ((at_ K x14.1).bind fun x17=>some (K.set (Int.toNat x14.1) ⟨x17.Peer,e⟩)))=some (Zyf1 K p e):=by
 rw [Zwf1 K p hl hs hr hp,OB];have hc:=Zzf1 K (·.Peer) p;have h6:(K.take (cntB K (·.Peer) p)).length=cntB K (·.Peer) p:=by rw [List.length_take];omega
 have ins:∀y:KE,at_ (K.take (cntB K (·.Peer) p)++y::K.drop (cntB K (·.Peer) p)) (cntB K (·.Peer) p:Int)=some y:=fun y=>by have:=Zsa1 (l:=K.take (cntB K (·.Peer) p)++y::K.drop (cntB K (·.Peer) p)) (a:=K.take (cntB K (·.Peer) p)) (b:=K.drop (cntB K (·.Peer) p)) (x:=y) rfl;rwa [h6] at this
 have st:∀y z:KE,(K.take (cntB K (·.Peer) p)++y::K.drop (cntB K (·.Peer) p)).set (cntB K (·.Peer) p) z=K.take (cntB K (·.Peer) p)++z::K.drop (cntB K (·.Peer) p):=fun y z=>by have:=Zta1 (K.take (cntB K (·.Peer) p)) (K.drop (cntB K (·.Peer) p)) y z;rwa [h6,Int.toNat_natCast] at this
 have new:ifb (!false) ((Z221 K (cntB K (·.Peer) p:Int) [⟨p,0⟩]).bind fun x15=>(at_ x15 (cntB K (·.Peer) p:Int)).bind fun x17=>some (x15.set (Int.toNat (cntB K (·.Peer) p:Int)) ⟨x17.Peer,e⟩)) ((at_ K (cntB K (·.Peer) p:Int)).bind fun x17=>some (K.set (Int.toNat (cntB K (·.Peer) p:Int)) ⟨x17.Peer,e⟩))=some (K.take (cntB K (·.Peer) p)++⟨p,e⟩::K.drop (cntB K (·.Peer) p)):=by unfold Z221;rw [Bool.not_false,Z0a1,Z0g1 K _ _ (by omega) hc hl,OB,ins,OB,Int.toNat_natCast,st]
 unfold Zyf1;dsimp only;cases hx:K[cntB K (·.Peer) p]? with
 | none=>
   rw [new];have h1:K.length≤cntB K (·.Peer) p:=by simpa using hx
   have h2:cntB K (·.Peer) p=K.length:=by omega
   rw [h2];simp
 | some k=>
   dsimp only;by_cases hq:k.Peer=p
   ·rw [DT hq,if_pos hq,Bool.not_true,Z1a1,Z4a1 hx,OB,Int.toNat_natCast,hq]
   ·rw [DN hq,if_neg hq];exact new
structure RowK (K:List KE):Prop where
 len:K.length≤1000
 up:K.Pairwise fun x y=>x.Peer<y.Peer
 rng:∀x∈K, -100000≤x.Peer∧x.Peer≤100000
structure RowS (S:List Side):Prop where
 len:S.length≤1000
 up:S.Pairwise fun x y=>x.Peer<y.Peer
 rng:∀x∈S, -100000≤x.Peer∧x.Peer≤100000
theorem Z2g1 (S:List Side) (x:Side) (h:RowS S) (hp: -100000≤x.Peer∧x.Peer≤100000):
  ∃z,Z8n S x.Peer (fun z=>Zan z.1 z.2)=some ((cntB S (·.Peer) x.Peer:Int),z)∧Z021 S (cntB S (·.Peer) x.Peer:Int) [x]=some (putS S x):=by
 have hl:=h.len;refine ⟨_,Zxf1 S x.Peer (by omega) h.up h.rng hp,?_⟩;unfold Z021;exact Z0g1 S _ _ (by omega) (Zzf1 _ _ _) (by omega)
theorem Z3g1 (x:Side) (b c d e f:Int) (S:List Side) (N:List Int) (B:List Sess) (K:List KE) (O:List Int) (A:List KE) (J:RowS S) (E:RowK K) (hp: -100000≤x.Peer∧x.Peer≤100000):
  Z451 x b c d e f S N B K O A=some (putS S x,Zyf1 K x.Peer x.Epoch):=by
 obtain ⟨z,h1,h2⟩:=Z2g1 S x J hp;have h3:=Z1g1 K x.Peer x.Epoch (by have:=E.len;omega) E.up E.rng hp;dsimp only [Z451];rw [h1,OB,h2,OB];dsimp only [Zw31,Zv31];rw [h3,OB]
theorem Z4g1 (x:Side) (b c d e:Int) (B:List Sess) (O:List Int) (f:Int) (S:List Side) (N:List Int) (K A:List KE) (E:List Mail) (V:List Event) (U:RowS S) (J:RowK K) (hp: -100000≤x.Peer∧x.Peer≤100000):
  Zi51 x b c d e B O f S N K A E V=some (putS S x,Zyf1 K x.Peer x.Epoch):=by
 obtain ⟨z,h1,h2⟩:=Z2g1 S x U hp;have h3:=Z1g1 K x.Peer x.Epoch (by have:=J.len;omega) J.up J.rng hp;dsimp only [Zi51];rw [h1,OB,h2,OB];dsimp only [Z441,Z341];rw [h3,OB]
theorem Z5g1 {α:Type} (l:List α) (key:α→Int) (p:Int):l.take (cntB l key p)=l.takeWhile (fun x=>decide (key x<p))∧l.drop (cntB l key p)=l.dropWhile fun x=>decide (key x<p):=by
 have h:=List.takeWhile_append_dropWhile (p:=fun x=>decide (key x<p)) (l:=l);have g:∀(a b:List α),a++b=l→l.take a.length=a∧l.drop a.length=b:=by rintro a b rfl;simp
 exact g _ _ h
theorem Z6g1 {α:Type} {l:List α} {key:α→Int} {p:Int} {x:α} (h:x∈l.take (cntB l key p)):key x<p:=by
 rw [(Z5g1 l key p).1] at h;have:∀(l:List α),x∈l.takeWhile (fun x=>decide (key x<p))→key x<p:=by
  intro l;induction l with
  | nil=>simp
  | cons y l ih=>
    rw [List.takeWhile_cons];split
    ·rename_i hy;intro h;rcases List.mem_cons.1 h with rfl | h
     ·simpa using hy
     ·exact ih h
    ·simp
 exact this l h
theorem Z7g1 {α:Type} {key:α→Int} {p:Int}:∀ {l:List α} {x:α},l.Pairwise (fun x y=>key x<key y)→x∈l.drop (cntB l key p)→p≤key x:=by
 intro l;induction l with
 | nil=>simp
 | cons y l ih=>
   intro x hs h;rw [(Z5g1 _ key p).2,List.dropWhile_cons] at h;rw [List.pairwise_cons] at hs;split at h
   ·rw [←(Z5g1 l key p).2] at h;exact ih hs.2 h
   ·rename_i hy;have hy:¬key y<p:=by simpa using hy
    rcases List.mem_cons.1 h with rfl | h
    ·omega
    ·have:=hs.1 x h;omega
theorem Z8g1 {α:Type} (l:List α) (k:Nat) (x:α):x∈l↔x∈l.take k∨x∈l.drop k:=by
 conv=>lhs;rw [←List.take_append_drop k l]
 exact List.mem_append
theorem Z9g1 {α:Type} {l:List α} {key:α→Int} {p:Int} {x:α} (hs:l.Pairwise fun x y=>key x<key y) (hx:key x=p) (E:∀y∈l,key y≠p):(l.take (cntB l key p)++x::l.drop (cntB l key p)).Pairwise fun x y=>key x<key y:=by
 rw [List.pairwise_append];refine ⟨hs.sublist (List.take_sublist _ _),?_,?_⟩
 ·rw [List.pairwise_cons];refine ⟨fun y hy=>?_,hs.sublist (List.drop_sublist _ _)⟩;have h1:=Z7g1 hs hy;have h2:=E y (List.mem_of_mem_drop hy);omega
 ·intro y hy z hz;have h1:=Z6g1 hy;rcases List.mem_cons.1 hz with rfl | hz
  ·omega
  ·have h2:=Z7g1 hs hz;omega
theorem Zag1 {S:List Side} {x y:Side}:y∈putS S x↔y=x∨y∈S:=by
 unfold putS;rw [Z8g1 S (cntB S (·.Peer) x.Peer) y,List.mem_append,List.mem_cons];constructor
 ·rintro (h | h | h)
  ·exact .inr (.inl h)
  ·exact .inl h
  ·exact .inr (.inr h)
 ·rintro (h | h | h)
  ·exact .inr (.inl h)
  ·exact .inl h
  ·exact .inr (.inr h)
theorem Zbg1 (S:List Side) (x:Side):(putS S x).length=S.length+1:=by have:=Zzf1 S (·.Peer) x.Peer;unfold putS;rw [List.length_append,List.length_cons,List.length_take,List.length_drop];omega
theorem RowS.put {S:List Side} {x:Side} (h:RowS S) (hl:S.length<1000) (E:∀y∈S,y.Peer≠x.Peer) (hp: -100000≤x.Peer∧x.Peer≤100000):RowS (putS S x):=
 ⟨by rw [Zbg1];omega,Z9g1 h.up rfl E,fun y hy=>by
   rcases Zag1.1 hy with rfl | hy
   ·exact hp
   ·exact h.rng y hy⟩
theorem Zcg1 {K:List KE} (h:K.Pairwise fun x y=>x.Peer<y.Peer) (p e:Int):
  (∃k,K[cntB K (·.Peer) p]?=some k∧k.Peer=p∧Zyf1 K p e=K.set (cntB K (·.Peer) p) ⟨p,e⟩)∨(∀k∈K,k.Peer≠p)∧Zyf1 K p e=K.take (cntB K (·.Peer) p)++⟨p,e⟩::K.drop (cntB K (·.Peer) p):=by
 have hc:=Zzf1 K (·.Peer) p;unfold Zyf1;cases hx:K[cntB K (·.Peer) p]? with
 | none=>
   right;have h1:K.length≤cntB K (·.Peer) p:=by simpa using hx
   have h2:cntB K (·.Peer) p=K.length:=by omega
   refine ⟨fun k hk=>?_,by rw [h2];simp⟩;have:k∈K.take (cntB K (·.Peer) p):=by rw [h2,List.take_length];exact hk
   have:=Z6g1 this;omega
 | some k=>
   dsimp only;by_cases hq:k.Peer=p
   ·left;exact ⟨k,rfl,hq,by rw [if_pos hq]⟩
   ·right;refine ⟨fun y hy=>?_,by rw [if_neg hq]⟩;rcases (Z8g1 K (cntB K (·.Peer) p) y).1 hy with hy | hy
    ·have:=Z6g1 hy;omega
    ·obtain ⟨h6,hk⟩:=List.getElem?_eq_some_iff.1 hx;have hd:K.drop (cntB K (·.Peer) p)=k::K.drop (cntB K (·.Peer) p+1):=by rw [List.drop_eq_getElem_cons h6,hk]
     have h8:k∈K.drop (cntB K (·.Peer) p):=by rw [hd];simp
     have h9:=Z7g1 h h8;have hs:(K.drop (cntB K (·.Peer) p)).Pairwise fun x y=>x.Peer<y.Peer:=h.sublist (List.drop_sublist _ _);rw [hd] at hy hs;rcases List.mem_cons.1 hy with rfl | hy
     ·exact hq
     ·have:=(List.pairwise_cons.1 hs).1 y hy;omega
theorem Zdg1 {K:List KE} (h:K.Pairwise fun x y=>x.Peer<y.Peer) {p e:Int} {k:KE}:k∈Zyf1 K p e→k=⟨p,e⟩∨k∈K∧k.Peer≠p:=by
 intro hk;rcases Zcg1 h p e with ⟨q,h1,h2,h3⟩ | ⟨h1,h2⟩
 ·rw [h3] at hk;rw [List.mem_iff_getElem?] at hk;obtain ⟨i,hi⟩:=hk;rw [List.getElem?_set] at hi;split at hi
  ·split at hi
   ·simp at hi;exact .inl hi.symm
   ·simp at hi
  ·rename_i hne;refine .inr ⟨List.mem_of_getElem? hi,fun e=>?_⟩;have mono:=List.pairwise_iff_getElem.1 h;obtain ⟨a,ha⟩:=List.getElem?_eq_some_iff.1 hi;obtain ⟨b,hb⟩:=List.getElem?_eq_some_iff.1 h1;rcases Nat.lt_or_gt_of_ne hne with hl | hl
   ·have:=mono _ _ b a hl;rw [ha,hb] at this;omega
   ·have:=mono _ _ a b hl;rw [ha,hb] at this;omega
 ·rw [h2] at hk;rw [List.mem_append,List.mem_cons] at hk;rcases hk with hk | hk | hk
  ·exact .inr ⟨List.mem_of_mem_take hk,h1 k (List.mem_of_mem_take hk)⟩
  ·exact .inl hk
  ·exact .inr ⟨List.mem_of_mem_drop hk,h1 k (List.mem_of_mem_drop hk)⟩
theorem Zeg1 {K:List KE} (h:K.Pairwise fun x y=>x.Peer<y.Peer) {p e:Int}:⟨p,e⟩∈Zyf1 K p e∧∀k∈K,k.Peer≠p→k∈Zyf1 K p e:=by
 rcases Zcg1 h p e with ⟨q,h1,h2,h3⟩ | ⟨h1,h2⟩
 ·rw [h3];obtain ⟨b,hb⟩:=List.getElem?_eq_some_iff.1 h1;refine ⟨List.mem_iff_getElem?.2 ⟨_,by rw [List.getElem?_set_self b]⟩,fun k hk hne=>?_⟩;obtain ⟨i,hi⟩:=List.mem_iff_getElem?.1 hk;refine List.mem_iff_getElem?.2 ⟨i,?_⟩;rw [List.getElem?_set,if_neg]
  ·exact hi
  ·rintro rfl;rw [h1] at hi;simp at hi;subst hi;exact hne h2
 ·rw [h2];refine ⟨by simp,fun k hk _=>?_⟩;rw [List.mem_append,List.mem_cons];rcases (Z8g1 K (cntB K (·.Peer) p) k).1 hk with h | h
  ·exact .inl h
  ·exact .inr (.inr h)
theorem Zfg1 {K:List KE} (h:K.Pairwise fun x y=>x.Peer<y.Peer) (p e:Int):(Zyf1 K p e).Pairwise fun x y=>x.Peer<y.Peer:=by
 rcases Zcg1 h p e with ⟨q,h1,h2,h3⟩ | ⟨h1,h2⟩
 ·rw [h3];rw [List.pairwise_iff_getElem] at h ⊢;intro i j hi hj h6;obtain ⟨b,hb⟩:=List.getElem?_eq_some_iff.1 h1;have get:∀(k:Nat) (hk:k<(K.set (cntB K (·.Peer) p) ⟨p,e⟩).length),(K.set (cntB K (·.Peer) p) ⟨p,e⟩)[k].Peer=(K[k]'(by simpa using hk)).Peer:=by
   intro k hk;rw [List.getElem_set];split
   ·rename_i e;subst e;rw [hb];exact h2.symm
   ·rfl
  rw [get,get];exact h i j _ _ h6
 ·rw [h2];exact Z9g1 h rfl h1
theorem Zgg1 (K:List KE) (p e:Int):(Zyf1 K p e).length≤K.length+1:=by
 have hc:=Zzf1 K (·.Peer) p;unfold Zyf1;split
 ·split
  ·simp
  ·rw [List.length_append,List.length_cons,List.length_take,List.length_drop];omega
 ·simp
theorem RowK.know {K:List KE} {p e:Int} (h:RowK K) (hl:K.length<1000) (hp: -100000≤p∧p≤100000):RowK (Zyf1 K p e):=
 ⟨by have:=Zgg1 K p e;omega,Zfg1 h.up p e,fun k hk=>by
   rcases Zdg1 h.up hk with rfl | ⟨hk,_⟩
   ·exact hp
   ·exact h.rng k hk⟩
theorem Zhg1 {K:List KE} (h:K.Pairwise fun x y=>x.Peer<y.Peer) {k:KE} (hk:k∈K):Z5f1 K k.Peer=k.Epoch:=by
 unfold Z5f1;have:K.find? (fun q=>decide (q.Peer=k.Peer))=some k:=by
  induction K with
  | nil=>simp at hk
  | cons y K ih=>
    rw [List.pairwise_cons] at h;rw [List.find?_cons];rcases List.mem_cons.1 hk with rfl | hk
    ·simp
    ·have:=h.1 k hk;rw [DN (by omega)];exact ih h.2 hk
 rw [this]
theorem Zig1 {K:List KE} {p:Int} (h:∀k∈K,k.Peer≠p):Z5f1 K p=0:=by
 unfold Z5f1;have:K.find? (fun q=>decide (q.Peer=p))=none:=by rw [List.find?_eq_none];intro k hk;simpa using h k hk
 rw [this]
theorem Zjg1 {K:List KE} (h:K.Pairwise fun x y=>x.Peer<y.Peer) (p e q:Int):Z5f1 (Zyf1 K p e) q=if q=p then e else Z5f1 K q:=by
 have hp:=Zfg1 h p e;have hm:=Zeg1 h (p:=p) (e:=e);split
 ·rename_i hq;subst hq;exact Zhg1 hp hm.1
 ·rename_i hq;by_cases hx:∃k∈K,k.Peer=q
  ·obtain ⟨k,hk,rfl⟩:=hx;rw [Zhg1 hp (hm.2 k hk hq),Zhg1 h hk]
  ·have hx:∀k∈K,k.Peer≠q:=fun k hk e=>hx ⟨k,hk,e⟩;rw [Zig1 hx,Zig1];intro k hk;rcases Zdg1 h hk with rfl | ⟨hk,_⟩
   ·exact fun e=>hq e.symm
   ·exact hx k hk
def newS (k:KE):Side:=⟨k.Peer,k.Epoch,0,false,false,true,false,true⟩
theorem Zkg1 (x:Side) (k a b c d:Int) (B:List Sess) (O:List Int) (f:Int) (S:List Side) (N:List Int) (K A:List KE) (E:List Mail) (V:List Event) (J:E.length≤1000000):
  Zwt x k a b c d B O f S N K A E V=some (E++[⟨a,x.Peer,⟨k,x.Epoch,0⟩⟩]):=by
 simp only [Zwt];rw [Z6a1 _ _ (by omega) (by simp;omega),OB]
theorem Zlg1 (k p a b c d:Int) (B:List Sess) (O:List Int) (f:Int) (S:List Side) (N:List Int) (K A:List KE) (E:List Mail) (V:List Event) (J:V.length≤1000000):
  Zyt k p a b c d B O f S N K A E V=some (V++[⟨k,a,0,p,[]⟩]):=by
 simp only [Zyt];rw [Z6a1 _ _ (by omega) (by simp;omega),OB]
theorem Zmg1 (k i a b c d:Int) (B:List Sess) (O:List Int) (f:Int) (S:List Side) (N:List Int) (K A:List KE) (E:List Mail) (V:List Event) (J:V.length≤1000000):
  Zut k i a b c d B O f S N K A E V=some (V++[⟨k,a,i,0,[]⟩]):=by
 simp only [Zut];rw [Z6a1 _ _ (by omega) (by simp;omega),OB]
def ansS (S:List Side) (A:List KE):List Side:=A.foldl (fun S k=>putS S (newS k)) S
def ansK (K:List KE) (A:List KE):List KE:=A.foldl (fun K k=>Zyf1 K k.Peer k.Epoch) K
def ansM (id:Int) (A:List KE):List Mail:=A.map fun k=>⟨id,k.Peer,⟨6,k.Epoch,0⟩⟩
def ansV (id:Int) (A:List KE):List Event:=A.map fun k=>⟨6,id,0,k.Peer,[]⟩
structure AskOK (S:List Side) (A:List KE):Prop where
 rng:∀k∈A, -100000≤k.Peer∧k.Peer≤100000
 new:∀k∈A,∀x∈S,x.Peer≠k.Peer
 dis:(A.map (·.Peer)).Nodup
theorem Zng1 (S:List Side) (A:List KE) (k:KE):ansS S (A++[k])=putS (ansS S A) (newS k):=by simp [ansS]
theorem Zog1 (K:List KE) (A:List KE) (k:KE):ansK K (A++[k])=Zyf1 (ansK K A) k.Peer k.Epoch:=by simp [ansK]
theorem Zpg1 {S:List Side}:∀ {A:List KE} {x:Side},x∈ansS S A↔x∈S∨∃k∈A,x=newS k:=by
 intro A;have:∀(A:List KE) (S:List Side) (x:Side),x∈ansS S A↔x∈S∨∃k∈A,x=newS k:=by
  intro A;induction A with
  | nil=>intro S x;simp [ansS]
  | cons k A ih=>
    intro S x;show x∈ansS (putS S (newS k)) A↔_;rw [ih,Zag1];constructor
    ·rintro ((h | h) | ⟨q,h1,h2⟩)
     ·exact .inr ⟨k,by simp,h⟩
     ·exact .inl h
     ·exact .inr ⟨q,by simp [h1],h2⟩
    ·rintro (h | ⟨q,h1,h2⟩)
     ·exact .inl (.inr h)
     ·rcases List.mem_cons.1 h1 with rfl | h1
      ·exact .inl (.inl h2)
      ·exact .inr ⟨q,h1,h2⟩
 exact fun {x}=>this A S x
theorem AskOK.mid {S:List Side} {A pre post:List KE} {k:KE} (h:AskOK S A) (e:A=pre++k::post):∀y∈ansS S pre,y.Peer≠k.Peer:=by
 intro y hy;rcases Zpg1.1 hy with hy | ⟨q,h1,rfl⟩
 ·exact h.new k (by rw [e];simp) y hy
 ·have hd:=h.dis;rw [e,List.map_append,List.map_cons,List.nodup_append] at hd;exact hd.2.2 q.Peer (List.mem_map.2 ⟨q,h1,rfl⟩) k.Peer (by simp)
theorem Zqg1 {S:List Side} {K A:List KE} (U:RowS S) (J:RowK K) (E:AskOK S A) (h8:S.length+A.length≤1000) (h9:K.length+A.length≤1000):∀(post pre:List KE),A=pre++post→RowS (ansS S pre)∧RowK (ansK K pre)∧(ansS S pre).length=S.length+pre.length∧(ansK K pre).length≤K.length+pre.length:=by
 intro post;have:∀(n:Nat) (pre:List KE),pre.length=n→(∃post,A=pre++post)→RowS (ansS S pre)∧RowK (ansK K pre)∧(ansS S pre).length=S.length+pre.length∧(ansK K pre).length≤K.length+pre.length:=by
  intro n;induction n with
  | zero=>intro pre h _;have:pre=[]:=List.length_eq_zero_iff.1 h;subst this;exact ⟨U,J,rfl,Nat.le_refl _⟩
  | succ n ih=>
    intro pre h ⟨post,e⟩;rcases List.eq_nil_or_concat pre with rfl | ⟨q,k,rfl⟩
    ·simp at h
    ·rw [List.concat_eq_append] at *;have hq:q.length=n:=by rw [Zua1] at h;omega
     obtain ⟨i1,i2,i3,i4⟩:=ih q hq ⟨k::post,by rw [e];simp⟩;have hk:k∈A:=by rw [e];simp
     have h6:q.length+1≤A.length:=by rw [e,List.length_append,Zua1];omega
     have hr:=E.rng k hk;rw [Zng1,Zog1,Zua1];refine ⟨i1.put (by omega) (E.mid (k:=k) (post:=post) (by rw [e];simp)) hr,i2.know (by omega) hr,by rw [Zbg1];omega,?_⟩;have:=Zgg1 (ansK K q) k.Peer k.Epoch;omega
 exact fun pre e=>this pre.length pre rfl ⟨post,e⟩
theorem Zrg1 (a b c d:Int) (B:List Sess) (O:List Int) (f:Int) (S:List Side) (N:List Int) (K A:List KE) (E:List Mail) (V:List Event) (Y:RowS S) (U:RowK K) (J:AskOK S A) (h6:S.length+A.length≤1000) (h8:K.length+A.length≤1000) (Z:E.length≤900000) (hV:V.length≤900000):
  Zd61 a b c d B O f S N K A E V=some (ansS S A,ansK K A,E++ansM a A,V++ansV a A):=by
 unfold Zd61;have e0:((0:Int),S,K,E,V)=((([]:List KE).length:Int),ansS S [],ansK K [],E++ansM a [],V++ansV a []):=by simp [ansS,ansK,ansM,ansV]
 rw [e0];refine Zoa1 A _ (fun pre=>((pre.length:Int),ansS S pre,ansK K pre,E++ansM a pre,V++ansV a pre)) _ (fun pre k post h=>?_) ?_
 ·have hx:=Zpa1 h;have hm:=Zqa1 h;obtain ⟨r1,r2,r3,r4⟩:=Zqg1 Y U J h6 h8 (k::post) pre h;have hr:=J.rng k (Zra1 h);dsimp only [Zc61];rw [Z7a1 hx,Z0a1,Z4a1 hx,OB];have e1:(⟨k.Peer,k.Epoch,0,false,false,true,false,true⟩:Side)=newS k:=rfl;rw [e1,Z4g1 (newS k) a b c d B O f _ N _ A _ _ r1 r2 hr,OB,Zkg1 _ _ _ _ _ _ _ _ _ _ _ _ _ _ _ (by rw [List.length_append,ansM,List.length_map];omega),OB,Zlg1 _ _ _ _ _ _ _ _ _ _ _ _ _ _ _ (by rw [List.length_append,ansV,List.length_map];omega),OB,Z9a1 (by omega),Zua1,Zng1,Zog1];simp [ansM,ansV,newS]
 ·dsimp only [Zc61];rw [Z8a1,Z1a1];rfl
def untB (T:List Int) (x:Side):Bool:=Z2f1 x&&!decide (x.Peer∈T)
def Zsg1 (id:Int):List Side→List Int→List Mail→List Int×List Mail
 | [],T,E=>(T,E)
 | x::l,T,E=>if untB T x then Zsg1 id l (setL (T++[x.Peer])) (E++[⟨id,x.Peer,⟨5,x.Epoch,0⟩⟩]) else Zsg1 id l T E
theorem Ztg1 (a b c d:Int) (B:List Sess) (O:List Int) (f:Int) (S:List Side) (N:List Int) (K A:List KE) (E:List Mail) (V:List Event) (Y:S.length≤1000) (U:O.length≤1000) (J:E.length≤900000):
  Zg51 a b c d B O f S N K A E V=some (Zsg1 a S O E):=by
 unfold Zg51;have key:∀(post pre:List Side) (T:List Int) (E:List Mail),S=pre++post→T.length≤1000+pre.length→E.length≤900000+pre.length→loop (Zf51 a b c d B f S N K A V) ((pre.length:Int),T,E)=some (Zsg1 a post T E):=by
  intro post;induction post with
  | nil=>
    intro pre T E h _ _;have h:pre=S:=by simpa using h.symm
    subst h;rw [Zcc];dsimp only [Zf51];rw [Z8a1,Z1a1];rfl
  | cons x post ih=>
    intro pre T E h hT J;have hx:=Zpa1 h;have hm:=Zqa1 h;have h6:Zh11 T x.Peer=some (setL (T++[x.Peer])):=s_Add T x.Peer (by omega);have h8:(setL (T++[x.Peer])).length≤T.length+1:=by have:=Ztb1 (T++[x.Peer]);simpa using this
    have j3:∀(T:List Int) (E:List Mail),Zd51 (pre.length:Int) (T,E)=some (.inl (((pre++[x]).length:Int),T,E)):=fun T E=>by dsimp only [Zd51];rw [Z9a1 (by omega),Zua1]
    have j2:∀z,Ze51 a b c d B f S N K A V (pre.length:Int) T E x z=if z then some (.inl (((pre++[x]).length:Int),setL (T++[x.Peer]),E++[⟨a,x.Peer,⟨5,x.Epoch,0⟩⟩])) else some (.inl (((pre++[x]).length:Int),T,E)):=fun z=>by
     cases z with
     | false=>dsimp only [Ze51];rw [Z1a1,j3];rfl
     | true=>dsimp only [Ze51];rw [Z0a1,Zkg1 _ _ _ _ _ _ _ _ _ _ _ _ _ _ _ (by omega),OB,h6,OB,j3];rfl
    have step:Zf51 a b c d B f S N K A V ((pre.length:Int),T,E)=if untB T x then some (.inl (((pre++[x]).length:Int),setL (T++[x.Peer]),E++[⟨a,x.Peer,⟨5,x.Epoch,0⟩⟩])) else some (.inl (((pre++[x]).length:Int),T,E)):=by
     dsimp only [Zf51];rw [Z7a1 hx,Z0a1,Z4a1 hx,OB];simp only [Znn,OB,Zmb1 T x.Peer (by omega),j2];unfold untB Z2f1;cases decide (x.State=1) with
     | false=>rfl
     | true=>cases decide (x.Peer∈T)<;>rfl
    rw [Zcc,step];unfold Zsg1;cases hu:untB T x with
    | true=>rw [if_pos rfl,if_pos rfl];exact ih (pre++[x]) _ _ (by simpa using h) (by rw [Zua1];omega) (by rw [Zua1,Zua1];omega)
    | false=>rw [if_neg (by simp),if_neg (by simp)];exact ih (pre++[x]) T E (by simpa using h) (by rw [Zua1];omega) (by rw [Zua1];omega)
 exact key S [] O E rfl (by simpa using U) (by simpa using J)
theorem Zug1 (l:List Side) (p:Side→Option Bool) (q:Side→Bool) (hl:l.length≤1000000) (hp:∀x∈l,p x=some (q x)):Z0y l p=some (l.filter fun x=>!q x):=by
 simp only [Z0y,Z1b1 l p q (by omega) hp,OB];cases hf:l.findIdx? q with
 | none=>rw [List.findIdx?_eq_none_iff] at hf;rw [show plc none = -1 from rfl,DT rfl,Z0a1,List.filter_eq_self.2 (fun x hx=>by rw [hf x hx];rfl)]
 | some i=>
   obtain ⟨hi,hq,ho⟩:=List.findIdx?_eq_some_iff_getElem.1 hf;rw [show plc (some i)=(i:Int) from rfl,DN (by omega),Z1a1,Z9a1 (by omega)]
   let F:List Side→List Side:=fun pre=>pre.filter fun x=>!q x
   have hF:∀pre post,l=pre++post→(F pre).length≤pre.length:=fun pre post _=>List.length_filter_le _ _;have key:=Zla1 l (Zzx p) (fun pre=>(((F pre).length:Int),(pre.length:Int),F pre++l.drop (F pre).length)) (fun _ _=>some (F l)) (fun pre x post h=>?_) ?_ (l.drop (i+1)) (l.take (i+1)) (by simp)
   ·have e1:F (l.take (i+1))=l.take i:=by
     show (l.take (i+1)).filter _=_;rw [List.take_succ_eq_append_getElem hi,List.filter_append];have a1:(l.take i).filter (fun x=>!q x)=l.take i:=by rw [List.filter_eq_self];intro x hx;obtain ⟨j,hj,rfl⟩:=List.mem_iff_getElem.1 hx;rw [List.getElem_take];have:=ho j (by simp at hj;omega);simpa using this
     have a2: [l[i]].filter (fun x=>!q x)=[]:=by simp [hq]
     rw [a1,a2,List.append_nil]
    rw [e1] at key;have e2:(l.take i).length=i:=by simp;omega
    have e3:(l.take (i+1)).length=i+1:=by simp;omega
    rw [e2,e3,List.take_append_drop] at key;exact key
   ·left;refine ⟨?_,rfl⟩;have hx:=Zpa1 h;have hm:=Zqa1 h;have h8:=hF pre (x::post) h;have h6:(F pre++l.drop (F pre).length).length=l.length:=by simp;omega
    have h9:(F pre++l.drop (F pre).length)[pre.length]?=some x:=by rw [List.getElem?_append_right h8,List.getElem?_drop,show (F pre).length+(pre.length-(F pre).length)=pre.length by omega];exact hx
    dsimp only [Zzx];rw [Z7a1 h9,Z0a1,Z4a1 h9,OB,hp x (Zra1 h),OB];have hc:F (pre++[x])=F pre++(if q x then [] else [x]):=by show (pre++[x]).filter _=_;rw [List.filter_append];congr 1;cases hw:q x<;>simp [hw]
    cases hn:q x with
    | true=>rw [Bool.not_true,Z1a1];dsimp only [Zyx];rw [Z9a1 (by omega),hc,hn,if_pos rfl,List.append_nil,Zua1]
    | false=>
      rw [Bool.not_false,Z0a1];obtain ⟨d,hd⟩:=Zrb1 (fun x=>!q x) pre post x;rw [←h] at hd;have hd':l.drop (F pre).length=d::l.drop ((F pre).length+1):=hd;have hA:(F pre++l.drop (F pre).length)[(F pre).length]?=some d:=by rw [hd'];simp
      rw [Z4a1 hA,OB];dsimp only [Zyx];rw [Z9a1 (by omega),Z9a1 (by omega),hc,hn,if_neg (by simp),Zua1,hd',Int.toNat_natCast,Zua1];simp
   ·dsimp only [Zzx];have h8:=hF l [] (by simp);have h6:(F l++l.drop (F l).length).length=l.length:=by simp;omega
    rw [show ((l.length:Int))=((F l++l.drop (F l).length).length:Int) by rw [h6],Z8a1,Z1a1];dsimp only [Zxx];unfold vw_;rw [ln_eq,h6,if_pos ⟨by omega,by omega,by omega,by omega⟩,OB];unfold Zsg;rw [h6,if_pos ⟨by omega,by simp;omega⟩,OB];unfold Z8c;rw [if_pos ⟨by omega,by omega,by simp;omega⟩,OB];simp [Int.toNat_natCast,List.append_assoc]
theorem Zvg1 (p a b c d:Int) (B:List Sess) (O:List Int) (f:Int) (S:List Side) (N:List Int) (K A:List KE) (E:List Mail) (V:List Event) (J:S.length≤1000):
  Zc01 p a b c d B O f S N K A E V=some (S.filter fun x=>!decide (x.Peer=p)):=by
 simp only [Zc01,Zug1 S (fun z=>Zpn z p) (fun x=>decide (x.Peer=p)) (by omega) (fun _ _=>rfl),OB]
def Zwg1 (th:Int) (N:List Int) (x:Side):Bool:=decide (x.State=2)&&!(decide (th=2)&&decide (x.Peer∈N))
def Zxg1 (id th:Int) (N:List Int) (x:Side):Option Side:=if Zwg1 th N x then (if id<x.Peer then some {x with State:=3} else none) else some x
def Zyg1 (id th:Int) (N:List Int) (x:Side):List Mail:=if Zwg1 th N x then [⟨id,x.Peer,⟨if id<x.Peer then 7 else 8,x.Epoch,0⟩⟩] else []
def Zzg1 (id th:Int) (N:List Int) (S:List Side):List Side:=S.filterMap (Zxg1 id th N)
def Z0h1 (id th:Int) (N:List Int) (S:List Side):List Mail:=S.flatMap (Zyg1 id th N)
theorem goes3 (th:Int) (N:List Int) (x:Side):Zwg1 th N {x with State:=3}=false:=by simp [Zwg1]
theorem Z1h1 {id th:Int} {N:List Int} {S:List Side} (h:∀x∈S,Zwg1 th N x=false):Zzg1 id th N S=S∧Z0h1 id th N S=[]:=by
 induction S with
 | nil=>exact ⟨rfl,rfl⟩
 | cons x S ih=>
   have h1:=h x (by simp);obtain ⟨i1,i2⟩:=ih fun y hy=>h y (List.mem_cons_of_mem _ hy);refine ⟨?_,?_⟩
   ·unfold Zzg1 at i1 ⊢;rw [List.filterMap_cons,Zxg1,h1];simp [i1]
   ·unfold Z0h1 at i2 ⊢;rw [List.flatMap_cons,i2,Zyg1,h1];rfl
theorem Z2h1 (id th:Int) (N:List Int) (a b:List Side):Zzg1 id th N (a++b)=Zzg1 id th N a++Zzg1 id th N b:=List.filterMap_append
theorem Z3h1 (id th:Int) (N:List Int) (a b:List Side):Z0h1 id th N (a++b)=Z0h1 id th N a++Z0h1 id th N b:=by simp [Z0h1]
theorem Z4h1 (id th:Int) (N:List Int) (S:List Side):∀x∈Zzg1 id th N S,Zwg1 th N x=false:=by
 intro x hx;obtain ⟨y,hy,h⟩:=List.mem_filterMap.1 hx;unfold Zxg1 at h;split at h
 ·split at h
  ·simp at h;subst h;exact goes3 th N y
  ·simp at h
 ·rename_i hg;simp at h;subst h;simpa using hg
theorem Z5h1 (id th:Int) (N:List Int) (S:List Side):(Z0h1 id th N S).length≤S.length:=by
 induction S with
 | nil=>simp [Z0h1]
 | cons x S ih=>
   have:(Zyg1 id th N x).length≤1:=by unfold Zyg1;split<;>simp
   unfold Z0h1 at ih ⊢;rw [List.flatMap_cons,List.length_append,List.length_cons];omega
theorem Z6h1 (id th:Int) (N:List Int) (S:List Side):(Zzg1 id th N S).length≤S.length:=List.length_filterMap_le _ _
section
variable (id ph th d:Int) (B:List Sess) (O:List Int) (f:Int) (N:List Int) (K A:List KE) (V:List Event)
theorem Z7h1 (S:List Side) (J:S.Pairwise fun x y=>x.Peer<y.Peer) (hl:S.length≤1000) (U:N.length≤100000):∀(post pre:List Side) (E:List Mail),S=pre++post→(∀x∈pre,Zwg1 th N x=true→id<x.Peer)→E.length≤900000+pre.length→
  (∃q x r,post=q++x::r∧(∀y∈q,Zwg1 th N y=true→id<y.Peer)∧Zwg1 th N x=true∧¬id<x.Peer∧loop (Zo21 id ph th d B O f N K A V S) ((pre.length:Int),Zzg1 id th N pre++post,E)=some (.inl (Zzg1 id th N (pre++q)++r,E++Z0h1 id th N (q++[x]))))
  ∨(∀x∈post,Zwg1 th N x=true→id<x.Peer)∧loop (Zo21 id ph th d B O f N K A V S) ((pre.length:Int),Zzg1 id th N pre++post,E)=some (.inr (E++Z0h1 id th N post,Zzg1 id th N S)):=by
 intro post;induction post with
 | nil=>
   intro pre E h hp hE;have h:pre=S:=by simpa using h.symm
   subst h;right;refine ⟨by simp,?_⟩;rw [Zcc];dsimp only [Zo21];rw [Z8a1,Z1a1];simp [Zl21,Z0h1]
 | cons x post ih=>
   intro pre E h hp hE;have hx:=Zpa1 h;have hm:=Zqa1 h;have h6:(Zzg1 id th N pre).length=pre.length:=by
    have:∀(l:List Side),(∀x∈l,Zwg1 th N x=true→id<x.Peer)→(Zzg1 id th N l).length=l.length:=by
     intro l;induction l with
     | nil=>intro _;rfl
     | cons y l ih=>
       intro hl;have i:=ih fun z hz=>hl z (List.mem_cons_of_mem _ hz);unfold Zzg1 at i ⊢;have hy:=hl y (by simp);have e:∃z,Zxg1 id th N y=some z:=by
        unfold Zxg1;cases hg:Zwg1 th N y with
        | false=>exact ⟨y,by simp⟩
        | true=>exact ⟨_,by simp [hy hg];rfl⟩
       obtain ⟨z,e⟩:=e;rw [List.filterMap_cons,e];simp only [List.length_cons,i]
    exact this pre hp
   have at1:at_ (Zzg1 id th N pre++x::post) (pre.length:Int)=some x:=by rw [←h6];exact Zsa1 rfl
   have st1:∀z:Side,(Zzg1 id th N pre++x::post).set ((pre.length:Int)).toNat z=Zzg1 id th N pre++z::post:=fun z=>by rw [←h6];exact Zta1 _ _ _ _
   have j2:∀(z:Side) (E:List Mail),Zm21 (pre.length:Int) (Zzg1 id th N pre++z::post,E)=some (.inl (((pre++[x]).length:Int),Zzg1 id th N pre++z::post,E)):=fun z E=>by dsimp only [Zm21];rw [Z9a1 (by omega),Zua1]
   have j3:∀z,Zn21 id ph th d B O f N K A V (pre.length:Int) (Zzg1 id th N pre++x::post) E x z=if z then some (.inl (((pre++[x]).length:Int),Zzg1 id th N pre++x::post,E)) else if id<x.Peer then some (.inl (((pre++[x]).length:Int),Zzg1 id th N pre++{x with State:=3}::post,E++[⟨id,x.Peer,⟨7,x.Epoch,0⟩⟩])) else some (.inr (.inl ((Zzg1 id th N pre++x::post).filter fun y=>!decide (y.Peer=x.Peer),E++[⟨id,x.Peer,⟨8,x.Epoch,0⟩⟩]))):=fun z=>by
    have h8:(Zzg1 id th N pre++x::post).length≤1000:=by rw [List.length_append,h6];rw [h,List.length_append] at hl;exact hl
    cases z with
    | true=>dsimp only [Zn21];rw [Z0a1,j2];rfl
    | false=>
      dsimp only [Zn21];rw [Z1a1,if_neg (by simp)];by_cases hq:id<x.Peer
      ·rw [DT hq,Z0a1,if_pos hq,Zkg1 _ _ _ _ _ _ _ _ _ _ _ _ _ _ _ (by omega),OB,st1,j2]
      ·rw [DN hq,Z1a1,if_neg hq,Zvg1 _ _ _ _ _ _ _ _ _ _ _ _ _ _ h8,OB,Zkg1 _ _ _ _ _ _ _ _ _ _ _ _ _ _ _ (by omega),OB];rfl
   have step:Zo21 id ph th d B O f N K A V S ((pre.length:Int),Zzg1 id th N pre++x::post,E)=if Zwg1 th N x then (if id<x.Peer then some (.inl (((pre++[x]).length:Int),Zzg1 id th N pre++{x with State:=3}::post,E++[⟨id,x.Peer,⟨7,x.Epoch,0⟩⟩])) else some (.inr (.inl ((Zzg1 id th N pre++x::post).filter fun y=>!decide (y.Peer=x.Peer),E++[⟨id,x.Peer,⟨8,x.Epoch,0⟩⟩])))) else some (.inl (((pre++[x]).length:Int),Zzg1 id th N pre++x::post,E)):=by
    dsimp only [Zo21];rw [Z7a1 hx,Z0a1,at1,OB];simp only [Zmb1 N x.Peer (show N.length≤1000000 by omega),OB,j3];unfold Zwg1;cases decide (x.State=2) with
    | false=>rfl
    | true=>cases decide (th=2) with
      | false=>rfl
      | true=>cases decide (x.Peer∈N)<;>rfl
   rw [Zcc,step];cases hg:Zwg1 th N x with
   | false=>
     rw [if_neg (by simp)];have e:Zzg1 id th N (pre++[x])=Zzg1 id th N pre++[x]:=by rw [Z2h1];simp [Zzg1,Zxg1,hg]
     have:=ih (pre++[x]) E (by simpa using h) (fun y hy=>by
      rcases List.mem_append.1 hy with hy | hy
      ·exact hp y hy
      ·simp at hy;subst hy;rw [hg];simp) (by rw [Zua1];omega)
     rw [e,List.append_assoc,List.singleton_append] at this;rcases this with ⟨q,y,r,h1,h2,h3,h4,h5⟩ | ⟨h1,h2⟩
     ·left;refine ⟨x::q,y,r,by rw [h1];rfl,fun z hz=>?_,h3,h4,?_⟩
      ·rcases List.mem_cons.1 hz with rfl | hz
       ·rw [hg];simp
       ·exact h2 z hz
      ·refine Eq.trans h5 ?_;have e2:Z0h1 id th N (x::q++[y])=Z0h1 id th N (q++[y]):=by show Z0h1 id th N ([x]++(q++[y]))=_;rw [Z3h1];simp [Z0h1,Zyg1,hg]
       rw [e2,List.append_assoc];rfl
     ·right;refine ⟨fun z hz=>?_,?_⟩
      ·rcases List.mem_cons.1 hz with rfl | hz
       ·rw [hg];simp
       ·exact h1 z hz
      ·refine Eq.trans h2 ?_;have e2:Z0h1 id th N (x::post)=Z0h1 id th N post:=by show Z0h1 id th N ([x]++post)=_;rw [Z3h1];simp [Z0h1,Zyg1,hg]
       rw [e2]
   | true=>
     rw [if_pos rfl];by_cases hq:id<x.Peer
     ·rw [if_pos hq];have e:Zzg1 id th N (pre++[x])=Zzg1 id th N pre++[{x with State:=3}]:=by rw [Z2h1];simp [Zzg1,Zxg1,hg,hq]
      have:=ih (pre++[x]) (E++[⟨id,x.Peer,⟨7,x.Epoch,0⟩⟩]) (by simpa using h) (fun y hy=>by
       rcases List.mem_append.1 hy with hy | hy
       ·exact hp y hy
       ·simp at hy;subst hy;exact fun _=>hq) (by rw [Zua1,Zua1];omega)
      rw [e,List.append_assoc,List.singleton_append] at this;have em:Z0h1 id th N [x]=[⟨id,x.Peer,⟨7,x.Epoch,0⟩⟩]:=by simp [Z0h1,Zyg1,hg,hq]
      rcases this with ⟨q,y,r,h1,h2,h3,h4,h5⟩ | ⟨h1,h2⟩
      ·left;refine ⟨x::q,y,r,by rw [h1];rfl,fun z hz=>?_,h3,h4,?_⟩
       ·rcases List.mem_cons.1 hz with rfl | hz
        ·exact fun _=>hq
        ·exact h2 z hz
       ·refine Eq.trans h5 ?_;have e2:Z0h1 id th N (x::q++[y])=Z0h1 id th N [x]++Z0h1 id th N (q++[y]):=Z3h1 id th N [x] (q++[y]);rw [e2,em,List.append_assoc,List.append_assoc];rfl
      ·right;refine ⟨fun z hz=>?_,?_⟩
       ·rcases List.mem_cons.1 hz with rfl | hz
        ·exact fun _=>hq
        ·exact h1 z hz
       ·refine Eq.trans h2 ?_;have e2:Z0h1 id th N (x::post)=Z0h1 id th N [x]++Z0h1 id th N post:=Z3h1 id th N [x] post;rw [e2,em,List.append_assoc]
     ·rw [if_neg hq];left;refine ⟨[],x,post,rfl,by simp,hg,hq,?_⟩;rw [h] at J;rw [List.pairwise_append,List.pairwise_cons] at J;obtain ⟨_,⟨p1,_⟩,p2⟩:=J;have e1:(Zzg1 id th N pre++x::post).filter (fun y=>!decide (y.Peer=x.Peer))=Zzg1 id th N pre++post:=by
       rw [List.filter_append,List.filter_cons,List.filter_eq_self.2,List.filter_eq_self.2]
       ·simp
       ·intro y hy;have:=p1 y hy;simp;omega
       ·intro y hy;obtain ⟨z,hz,hy⟩:=List.mem_filterMap.1 hy;have:=p2 z hz x (by simp);have e:y.Peer=z.Peer:=by
         unfold Zxg1 at hy;split at hy
         ·split at hy
          ·simp at hy;subst hy;rfl
          ·simp at hy
         ·simp at hy;subst hy;rfl
        simp;omega
      have em:Z0h1 id th N [x]=[⟨id,x.Peer,⟨8,x.Epoch,0⟩⟩]:=by simp [Z0h1,Zyg1,hg,hq]
      rw [e1,List.append_nil,List.nil_append,em]
theorem Z8h1 (J:N.length≤100000):∀(n:Nat) (S:List Side) (E:List Mail),S.length≤n→S.length≤1000→S.Pairwise (fun x y=>x.Peer<y.Peer)→E.length+(Z0h1 id th N S).length≤900000→
  loop (Zp21 id ph th d B O f N K A V) (S,E)=some (E++Z0h1 id th N S,Zzg1 id th N S):=by
 intro n;induction n with
 | zero=>
   intro S E hn _ _ _;have:S=[]:=List.length_eq_zero_iff.1 (by omega);subst this;rw [Zcc];dsimp only [Zp21];rcases Z7h1 id ph th d B O f N K A V [] List.Pairwise.nil (by simp) J [] [] E rfl (by simp) (by simp;omega) with ⟨q,x,r,h,_⟩ | ⟨_,h⟩
   ·have:=congrArg List.length h;simp at this
   ·have h:loop (Zo21 id ph th d B O f N K A V []) (0,[],E)=_:=h;rw [h]
 | succ n ih=>
   intro S E hn hl hS hE;rw [Zcc];dsimp only [Zp21];rcases Z7h1 id ph th d B O f N K A V S hS hl J S [] E rfl (by simp) (by simp;omega) with ⟨q,x,r,h1,h2,h3,h4,h5⟩ | ⟨_,h⟩
   ·have h5:loop (Zo21 id ph th d B O f N K A V S) (0,S,E)=_:=h5;rw [h5];dsimp only;have ql:=Z6h1 id th N q;have qm:=Z5h1 id th N (q++[x]);have h9:S.length=q.length+(r.length+1):=by rw [h1];simp
    have hx:Zzg1 id th N [x]=[]:=by simp [Zzg1,Zxg1,h3,h4]
    have h6:=Z1h1 (id:=id) (Z4h1 id th N q);have hp:(Zzg1 id th N ([]++q)++r).Pairwise fun x y=>x.Peer<y.Peer:=by
     rw [h1,List.pairwise_append,List.pairwise_cons] at hS;obtain ⟨s1,⟨_,s2⟩,s3⟩:=hS;have key:∀y∈Zzg1 id th N q,∃z∈q,y.Peer=z.Peer:=by
      intro y hy;obtain ⟨z,hz,hy⟩:=List.mem_filterMap.1 hy;refine ⟨z,hz,?_⟩;unfold Zxg1 at hy;split at hy
      ·split at hy
       ·simp at hy;subst hy;rfl
       ·simp at hy
      ·simp at hy;subst hy;rfl
     rw [List.nil_append,List.pairwise_append];refine ⟨?_,s2,fun y hy z hz=>?_⟩
     ·unfold Zzg1;rw [List.pairwise_filterMap];refine s1.imp fun {a b} h8 y hy z hz=>?_;have e:∀ {a y:Side},Zxg1 id th N a=some y→y.Peer=a.Peer:=by
       intro a y hy;unfold Zxg1 at hy;split at hy
       ·split at hy
        ·simp at hy;subst hy;rfl
        ·simp at hy
       ·simp at hy;subst hy;rfl
      rw [e hy,e hz];exact h8
     ·obtain ⟨w,hw,e⟩:=key y hy;rw [e];exact s3 w hw z (List.mem_cons_of_mem _ hz)
    have e3:Z0h1 id th N (q++x::r)=Z0h1 id th N (q++[x])++Z0h1 id th N r:=by rw [←Z3h1];simp
    have e4:Zzg1 id th N (q++x::r)=Zzg1 id th N q++Zzg1 id th N r:=by rw [show q++x::r=q++([x]++r) from rfl,Z2h1,Z2h1,hx];rfl
    have e5:Z0h1 id th N (Zzg1 id th N q++r)=Z0h1 id th N r:=by rw [Z3h1 id th N (Zzg1 id th N q) r,h6.2];rfl
    have e6:Zzg1 id th N (Zzg1 id th N q++r)=Zzg1 id th N q++Zzg1 id th N r:=by rw [Z2h1 id th N (Zzg1 id th N q) r,h6.1]
    rw [h1,e3,List.length_append] at hE;rw [List.nil_append] at hp ⊢;rw [ih _ _ (by rw [List.length_append];omega) (by rw [List.length_append];omega) hp (by rw [List.length_append,e5];omega)];rw [e5,e6,h1,e3,e4,List.append_assoc]
   ·have h:loop (Zo21 id ph th d B O f N K A V S) (0,S,E)=_:=h;rw [h]
end
end NX
end Go.Proofs.YtgamgemlekpepaaGreat
