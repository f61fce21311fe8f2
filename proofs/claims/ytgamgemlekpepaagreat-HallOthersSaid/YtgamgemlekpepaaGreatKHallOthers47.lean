/-
  Plain laws: loops of models over lists and ranges. No statement of the seat is proved here.
-/
import Derived.Test.YtgamgemlekpepaaGreatK45
namespace Go.Proofs.YtgamgemlekpepaaGreat
namespace NX
open Go
theorem OB {α β:Type} (a:α) (f:α→Option β):(some a).bind f=f a:=rfl
theorem DN {p:Prop} [Decidable p] (h:¬p):decide p=false:=decide_eq_false h
theorem DT {p:Prop} [Decidable p] (h:p):decide p=true:=decide_eq_true h
@[simp] theorem Zha1 {α:Type} (a b:Option α):ifb true a b=a:=rfl
@[simp] theorem Zia1 {α:Type} (a b:Option α):ifb false a b=b:=rfl
theorem Zja1 {α:Type} (e:Bool) (a b:Option α):ifb (!e) a b=ifb e b a:=by cases e<;>rfl
theorem Zka1 {n:Int} (h1: -9223372036854775808≤n) (h2:n≤9223372036854775807):wr n=n:=IntWalk.i64_in n ⟨h1,h2⟩
theorem Zla1 {α:Type} {l:List α} {k:Nat} {x:α} (h:l[k]?=some x):at_ l (k:Int)=some x:=by unfold at_;rw [if_pos (Int.natCast_nonneg k)];simpa using h
theorem Zma1 {α:Type} {l:List α} {i:Int} (h0:0≤i) (h:i<l.length):∃x,at_ l i=some x∧l[i.toNat]?=some x:=by
 have h6:i.toNat<l.length:=by omega
 exact ⟨l[i.toNat],by unfold at_;rw [if_pos h0,List.getElem?_eq_getElem h6],List.getElem?_eq_getElem h6⟩
theorem Zna1 {α:Type} {b:Nat} (l m:List α) (hb:b≤1000) (h:l.length+m.length≤100000000):Z8c b l m=some (l++m):=by unfold Z8c;rw [if_pos];exact ⟨by have h1:(l.length+m.length)*b≤100000000*1000:=Nat.mul_le_mul h hb;omega,by omega⟩
theorem Zoa1 {α:Type} {f:α→List AV} {l:List α} {k:Nat} {x:α} (h:l[k]?=some x):decide ((k:Int)<ln f l)=true:=by have:=(List.getElem?_eq_some_iff.1 h).1;rw [ln_eq];simp;omega
theorem Zpa1 {α:Type} {f:α→List AV} {l:List α}:decide ((l.length:Int)<ln f l)=false:=by rw [ln_eq];simp
theorem Zqa1 {k:Nat} (h:k≤4000000000000000000):wr ((k:Int)+1)=((k+1:Nat):Int):=Zka1 (by omega) (by omega)
theorem Zra1 {α:Type} {l:List α} {k:Nat} {x:α} (h:l[k]?=some x) (hl:l.length≤4000000000000000000):wr ((k:Int)+1)=((k+1:Nat):Int):=by have:=(List.getElem?_eq_some_iff.1 h).1;exact Zqa1 (by omega)
def forR {σ β:Type} (f:Nat→σ→Option (σ ⊕ β)) (J:σ→Option β):Nat→Nat→σ→Option β
 | 0,_,s=>J s
 | m+1,k,s=>match f k s with
   | none=>none
   | some (.inl s')=>forR f J m (k+1) s'
   | some (.inr r)=>some r
theorem Zsa1 {σ β τ:Type} (body:τ→Option (τ ⊕ β)) (mk:Int→σ→τ) (f:Nat→σ→Option (σ ⊕ β)) (J:σ→Option β) (n:Nat) (U:n≤4000000000000000000)
  (hb:∀(k:Nat) s,k<n→body (mk k s)=(f k s).map (fun | .inl s'=>.inl (mk (k+1:Nat) s') | .inr r=>.inr r)) (he:∀s,body (mk n s)=(J s).map .inr):
  ∀(m k:Nat) (s:σ),m+k=n→loop body (mk k s)=forR f J m k s
 | 0,k,s,h=>by
   have:k=n:=by omega
   subst this;rw [Zdc,he];cases hf:J s<;>simp [forR,hf]
 | m+1,k,s,h=>by
   rw [Zdc,hb k s (by omega)];simp only [forR];cases hf:f k s with
   | none=>rfl
   | some y=>
     cases y with
     | inl s'=>exact Zsa1 body mk f J n U hb he m (k+1) s' (by omega)
     | inr r=>rfl
def forL {α σ β:Type} (f:α→σ→Option (σ ⊕ β)) (J:σ→Option β):List α→σ→Option β
 | [],s=>J s
 | x::l,s=>match f x s with
   | none=>none
   | some (.inl s')=>forL f J l s'
   | some (.inr r)=>some r
theorem Zta1 {α σ β:Type} (f:α→σ→Option (σ ⊕ β)) (J:σ→Option β) (l:List α):∀(r:List α) (k:Nat) (s:σ),l.drop k=r→forR (fun k s=>(l[k]?).bind fun x=>f x s) J r.length k s=forL f J r s
 | [],k,s,_=>rfl
 | x::r,k,s,h=>by
   have hx:l[k]?=some x:=by have:=congrArg (·[0]?) h;simpa using this
   have hr:l.drop (k+1)=r:=by rw [←List.drop_drop,h];rfl
   simp only [List.length_cons,forR,forL,hx,OB];cases hf:f x s with
   | none=>rfl
   | some y=>
     cases y with
     | inl s'=>exact Zta1 f J l r (k+1) s' hr
     | inr r=>rfl
theorem Zua1 {α σ β τ:Type} (l:List α) (body:τ→Option (τ ⊕ β)) (mk:Int→σ→τ) (f:α→σ→Option (σ ⊕ β)) (J:σ→Option β) (hl:l.length≤4000000000000000000)
  (hb:∀(k:Nat) x s,l[k]?=some x→body (mk k s)=(f x s).map (fun | .inl s'=>.inl (mk (k+1:Nat) s') | .inr r=>.inr r)) (he:∀s,body (mk l.length s)=(J s).map .inr) (s:σ):
  loop body (mk 0 s)=forL f J l s:=by
 have:=Zsa1 body mk (fun k s=>(l[k]?).bind fun x=>f x s) J l.length hl (fun k s hk=>by have hx:l[k]?=some l[k]:=List.getElem?_eq_getElem hk;rw [hx,OB];exact hb k _ s hx) he l.length 0 s (by omega);rw [show ((0:Nat):Int)=0 from rfl] at this;rw [this];exact Zta1 f J l l 0 s rfl
theorem Zva1 {α β:Type} (f:α→Option (Unit ⊕ β)) (q:α→Bool) (g:α→β) (J:Option β) (l:List α) (U:∀x∈l,f x=if q x then some (.inr (g x)) else some (.inl ())):
  forL (fun x _=>f x) (fun _=>J) l ()=match l.find? q with | some x=>some (g x) | none=>J:=by
 induction l with
 | nil=>rfl
 | cons x l ih=>
   simp only [forL,U x (by simp),List.find?_cons];cases hq:q x with
   | true=>simp
   | false=>simp only [Bool.false_eq_true,if_false];exact ih fun y hy=>U y (List.mem_cons_of_mem _ hy)
def plc:Option Nat→Int
 | some i=>i
 | none=> -1
theorem Zwa1 (o:Option Nat):decide (0≤plc o)=o.isSome:=by cases o<;>simp [plc]
theorem Zxa1 (o:Option Nat):decide (plc o<0)=o.isNone:=by
 cases o with
 | none=>rfl
 | some n=>exact DN (by show ¬((n:Int)<0);omega)
theorem Zya1 {α:Type} (l:List α) (q:α→Bool):∀(r:List α) (k:Nat),l.drop k=r→
  forR (β:=Int) (fun k (_:Unit)=>(l[k]?).bind fun x=>if q x then some (.inr (k:Int)) else some (.inl ())) (fun _=>some (-1)) r.length k ()=some (plc ((r.findIdx? q).map (· + k)))
 | [],k,_=>by simp [forR,plc]
 | x::r,k,h=>by
   have hx:l[k]?=some x:=by have:=congrArg (·[0]?) h;simpa using this
   have hr:l.drop (k+1)=r:=by rw [←List.drop_drop,h];rfl
   simp only [List.length_cons,forR,hx,OB,List.findIdx?_cons];cases hq:q x with
   | true=>simp [plc]
   | false=>
     simp only [Bool.false_eq_true,if_false];rw [Zya1 l q r (k+1) hr];cases r.findIdx? q with
     | none=>rfl
     | some n=>simp only [Option.map_some,plc];congr 2;omega
theorem Zza1 {α:Type} (l:List α) (body:Int→Option (Int ⊕ Int)) (q:α→Bool) (hl:l.length≤4000000000000000000)
  (hb:∀(k:Nat) x,l[k]?=some x→body k=some (if q x then .inr (k:Int) else .inl ((k+1:Nat):Int))) (he:body l.length=some (.inr (-1))):loop body 0=some (plc (l.findIdx? q)):=by
 have:=Zsa1 body (fun k (_:Unit)=>k) (fun k _=>(l[k]?).bind fun x=>if q x then some (.inr (k:Int)) else some (.inl ())) (fun _=>some (-1)) l.length hl (fun k s hk=>by have hx:l[k]?=some l[k]:=List.getElem?_eq_getElem hk;rw [hx,OB,hb k _ hx];cases q l[k]<;>rfl) (fun _=>he) l.length 0 () (by omega);rw [show ((0:Nat):Int)=0 from rfl] at this;rw [this,Zya1 l q l 0 rfl];simp
theorem Z0b1 {α:Type} (l:List α) (q:α→Bool):(l.findIdx? q).isSome=l.any q:=by rw [List.findIdx?_isSome]
theorem Z1b1 {α β:Type} (l:List α) (body:Int→Option (Int ⊕ β)) (q:α→Bool) (J U:β) (hl:l.length≤4000000000000000000)
  (hb:∀(k:Nat) x,l[k]?=some x→body k=some (if q x then .inr J else .inl ((k+1:Nat):Int))) (he:body l.length=some (.inr U)):loop body 0=some (if l.any q then J else U):=by
 have:=Zua1 l body (fun k (_:Unit)=>k) (fun x _=>if q x then some (.inr J) else some (.inl ())) (fun _=>some U) hl (fun k x s hx=>by rw [hb k x hx];cases q x<;>rfl) (fun _=>he) ();rw [this,Zva1 (fun x=>if q x then some (.inr J) else some (.inl ())) q (fun _=>J) (some U) l (fun x _=>rfl)];cases h:l.find? q with
 | none=>
   rw [List.find?_eq_none] at h;have:l.any q=false:=by rw [List.any_eq_false];exact h
   simp [this]
 | some x=>
   have:l.any q=true:=by rw [List.any_eq_true];exact ⟨x,List.mem_of_find?_eq_some h,List.find?_some h⟩
   simp [this]
theorem Z2b1 {α τ β:Type} (l:List α) (body:τ→Option (τ ⊕ β)) (st:List α→τ) (R:List α→List α→Option β)
  (hb:∀pre x post,l=pre++x::post→(body (st pre)=some (.inl (st (pre++[x])))∧R pre (x::post)=R (pre++[x]) post)∨∃r,body (st pre)=some (.inr r)∧R pre (x::post)=some r)
  (he:body (st l)=(R l []).map .inr):∀post pre,l=pre++post→loop body (st pre)=R pre post
 | [],pre,h=>by
   have:pre=l:=by simpa using h.symm
   subst this;rw [Zdc,he];cases R pre []<;>rfl
 | x::post,pre,h=>by
   rw [Zdc];rcases hb pre x post h with ⟨h1,h2⟩ | ⟨r,h1,h2⟩
   ·rw [h1,h2];exact Z2b1 l body st R hb he post (pre++[x]) (by simpa using h)
   ·rw [h1,h2]
theorem Z3b1 {α τ β:Type} (l:List α) (body:τ→Option (τ ⊕ β)) (st:List α→τ) (R:List α→List α→Option β)
 (hb:∀pre x post,l=pre++x::post→(body (st pre)=some (.inl (st (pre++[x])))∧R pre (x::post)=R (pre++[x]) post)∨∃r,body (st pre)=some (.inr r)∧R pre (x::post)=some r)
 (he:body (st l)=(R l []).map .inr):loop body (st [])=R [] l:=Z2b1 l body st R hb he l [] rfl
theorem Z4b1 {α τ β:Type} (l:List α) (body:τ→Option (τ ⊕ β)) (st:List α→τ) (R:List α→List α→Option β) (I:List α→Prop)
  (hb:∀pre x post,l=pre++x::post→I pre→(body (st pre)=some (.inl (st (pre++[x])))∧I (pre++[x])∧R pre (x::post)=R (pre++[x]) post)∨∃r,body (st pre)=some (.inr r)∧R pre (x::post)=some r)
  (he:I l→body (st l)=(R l []).map .inr):∀post pre,l=pre++post→I pre→loop body (st pre)=R pre post
 | [],pre,h,hI=>by
   have:pre=l:=by simpa using h.symm
   subst this;rw [Zdc,he hI];cases R pre []<;>rfl
 | x::post,pre,h,hI=>by
   rw [Zdc];rcases hb pre x post h hI with ⟨h1,h3,h2⟩ | ⟨r,h1,h2⟩
   ·rw [h1,h2];exact Z4b1 l body st R I hb he post (pre++[x]) (by simpa using h) h3
   ·rw [h1,h2]
theorem Z5b1 {α τ β:Type} (l:List α) (body:τ→Option (τ ⊕ β)) (st:List α→τ) (r:β)
  (hb:∀pre x post,l=pre++x::post→body (st pre)=some (.inl (st (pre++[x])))) (he:body (st l)=some (.inr r)):loop body (st [])=some r:=
 Z3b1 l body st (fun _ _=>some r) (fun pre x post h=>.inl ⟨hb pre x post h,rfl⟩) he
theorem Z6b1 {α:Type} {l pre post:List α} {x:α} (h:l=pre++x::post):l[pre.length]?=some x:=by subst h;simp
theorem Z7b1 {α:Type} {l pre post:List α} {x:α} (h:l=pre++x::post):pre.length<l.length:=by subst h;simp
theorem Z8b1 {α:Type} {l pre post:List α} {x:α} (h:l=pre++x::post):x∈l:=by subst h;simp
theorem Z9b1 {α:Type} {l a b:List α} {x:α} (h:l=a++x::b):at_ l (a.length:Int)=some x:=Zla1 (Z6b1 h)
theorem Zab1 {α:Type} (a b:List α) (x y:α):(a++x::b).set ((a.length:Int)).toNat y=a++y::b:=by simp
theorem Zbb1 {α:Type} (pre:List α) (x:α):(pre++[x]).length=pre.length+1:=by simp
theorem Zcb1 {τ β:Type} (n:Nat) (body:τ→Option (τ ⊕ β)) (st:Nat→τ) (r:β) (hb:∀k,k<n→body (st k)=some (.inl (st (k+1)))) (he:body (st n)=some (.inr r)):loop body (st 0)=some r:=by
 have key:∀m k,m+k=n→loop body (st k)=some r:=by
  intro m;induction m with
  | zero=>intro k hk;have:k=n:=by omega
          subst this;rw [Zdc,he]
  | succ m ih=>intro k hk;rw [Zdc,hb k (by omega)];exact ih (k+1) (by omega)
 exact key n 0 rfl
theorem Zdb1 {τ β:Type} (n:Nat) (body:τ→Option (τ ⊕ β)) (st:Nat→τ) (R:Nat→Option β) (hb:∀k,k<n→(body (st k)=some (.inl (st (k+1)))∧R k=R (k+1))∨∃r,body (st k)=some (.inr r)∧R k=some r) (he:body (st n)=(R n).map .inr):loop body (st 0)=R 0:=by
 have key:∀m k,m+k=n→loop body (st k)=R k:=by
  intro m;induction m with
  | zero=>
    intro k hk;have:k=n:=by omega
    subst this;rw [Zdc,he];cases R k<;>rfl
  | succ m ih=>
    intro k hk;rw [Zdc];rcases hb k (by omega) with ⟨h1,h2⟩ | ⟨r,h1,h2⟩
    ·rw [h1,h2];exact ih (k+1) (by omega)
    ·rw [h1,h2]
 exact key n 0 rfl
theorem Zeb1 {α:Type} (l m:List α) (body:Int→Option (Int ⊕ Bool)) (J:α→α→Bool) (h6:l.length=m.length) (hl:l.length≤4000000000000000000)
  (hb:∀(k:Nat) x y,l[k]?=some x→m[k]?=some y→body k=some (if J x y then .inl ((k+1:Nat):Int) else .inr false)) (he:body l.length=some (.inr true)):loop body 0=some ((l.zip m).all fun p=>J p.1 p.2):=by
 rw [Z1b1 (l.zip m) body (fun p=>!J p.1 p.2) false true (by simp;omega) (fun k x hx=>by obtain ⟨x1,x2⟩:=x;rw [List.getElem?_zip_eq_some] at hx;rw [hb k x1 x2 hx.1 hx.2];cases J x1 x2<;>rfl) (by rw [show (l.zip m).length=l.length by simp [h6]];exact he)];have:∀(q:List (α×α)),(if q.any (fun p=>!J p.1 p.2) then some false else some true)=some (q.all fun p=>J p.1 p.2):=by
  intro q;induction q with
  | nil=>rfl
  | cons p q ih=>
    rw [List.any_cons,List.all_cons];cases h:J p.1 p.2 with
    | true=>exact ih
    | false=>rfl
 have h2:=this (l.zip m);rw [←h2];cases (l.zip m).any (fun p=>!J p.1 p.2)<;>rfl
theorem Zfb1 {α:Type} [DecidableEq α]:∀(l m:List α),l.length=m.length→(l.zip m).all (fun p=>decide (p.1=p.2))=decide (l=m)
 | [],[],_=>rfl
 | [],_::_,h=>by simp at h
 | _::_,[],h=>by simp at h
 | x::l,y::m,h=>by have ih:=Zfb1 l m (by simpa using h);simp only [List.zip_cons_cons,List.all_cons,ih];by_cases h1:x=y<;>simp [h1]
theorem Zgb1 {α:Type} [DecidableEq α] {l m:List α} (h:l.length≠m.length):decide (l=m)=false:=DN (by rintro rfl;exact h rfl)
theorem Zhb1 {α β:Type} (f:α→List AV) (g:β→List AV) (l:List α) (m:List β):decide (ln f l=ln g m)=decide (l.length=m.length):=by rw [ln_eq,ln_eq,decide_eq_decide];omega
theorem Zib1 (l:List SX) (p:SX→Option Bool) (q:SX→Bool) (hl:l.length≤4000000000000000000) (hp:∀x∈l,p x=some (q x)):Zkk l p=some (plc (l.findIdx? q)):=by
 unfold Zkk;refine Zza1 l _ q hl (fun k x hx=>?_) ?_
 ·simp only [Zjk,Zoa1 hx,Zha1,Zla1 hx,OB,hp x (List.mem_iff_getElem?.2 ⟨k,hx⟩),Zra1 hx hl];cases q x<;>rfl
 ·simp only [Zjk,Zpa1,Zia1,Zik,Option.map_some]
theorem Zjb1 (l:List KE) (p:KE→Option Bool) (q:KE→Bool) (hl:l.length≤4000000000000000000) (hp:∀x∈l,p x=some (q x)):Zpk l p=some (plc (l.findIdx? q)):=by
 unfold Zpk;refine Zza1 l _ q hl (fun k x hx=>?_) ?_
 ·simp only [Zok,Zoa1 hx,Zha1,Zla1 hx,OB,hp x (List.mem_iff_getElem?.2 ⟨k,hx⟩),Zra1 hx hl];cases q x<;>rfl
 ·simp only [Zok,Zpa1,Zia1,Znk,Option.map_some]
theorem Zkb1 (l:List Int) (p:Int→Option Bool) (q:Int→Bool) (hl:l.length≤4000000000000000000) (hp:∀x∈l,p x=some (q x)):Zyk l p=some (plc (l.findIdx? q)):=by
 unfold Zyk;refine Zza1 l _ q hl (fun k x hx=>?_) ?_
 ·simp only [Zxk,Zoa1 hx,Zha1,Zla1 hx,OB,hp x (List.mem_iff_getElem?.2 ⟨k,hx⟩),Zra1 hx hl];cases q x<;>rfl
 ·simp only [Zxk,Zpa1,Zia1,Zwk,Option.map_some]
theorem Zlb1 (l:List SE) (p:SE→Option Bool) (q:SE→Bool) (hl:l.length≤4000000000000000000) (hp:∀x∈l,p x=some (q x)):Zuk l p=some (plc (l.findIdx? q)):=by
 unfold Zuk;refine Zza1 l _ q hl (fun k x hx=>?_) ?_
 ·simp only [Ztk,Zoa1 hx,Zha1,Zla1 hx,OB,hp x (List.mem_iff_getElem?.2 ⟨k,hx⟩),Zra1 hx hl];cases q x<;>rfl
 ·simp only [Ztk,Zpa1,Zia1,Zsk,Option.map_some]
theorem Zmb1 (l:List SX) (p:SX→Option Bool) (q:SX→Bool) (hl:l.length≤4000000000000000000) (hp:∀x∈l,p x=some (q x)):Zur l p=some (l.any q):=by unfold Zur;rw [Zib1 l p q hl hp,OB,Zwa1,Z0b1]
theorem Znb1 (l:List KE) (p:KE→Option Bool) (q:KE→Bool) (hl:l.length≤4000000000000000000) (hp:∀x∈l,p x=some (q x)):Zxr l p=some (l.any q):=by unfold Zxr;rw [Zjb1 l p q hl hp,OB,Zwa1,Z0b1]
theorem Zob1 (l:List Int) (p:Int→Option Bool) (q:Int→Bool) (hl:l.length≤4000000000000000000) (hp:∀x∈l,p x=some (q x)):Z1s l p=some (l.any q):=by unfold Z1s;rw [Zkb1 l p q hl hp,OB,Zwa1,Z0b1]
theorem Zpb1 (l:List SE) (p:SE→Option Bool) (q:SE→Bool) (hl:l.length≤4000000000000000000) (hp:∀x∈l,p x=some (q x)):Zzr l p=some (l.any q):=by unfold Zzr;rw [Zlb1 l p q hl hp,OB,Zwa1,Z0b1]
theorem Zqb1 {k:Nat} (h:k≤4000000000000000000):wr (((k+1:Nat):Int)-1)=(k:Int):=by rw [Zka1 (by omega) (by omega)];omega
theorem Zrb1 {α:Type} (l:List α) (p:α→Bool):l.all (fun x=>!p x)=!l.any p:=by
 induction l with
 | nil=>rfl
 | cons x l ih=>simp [ih]
theorem Zsb1 {α:Type} (l:List α) (p q:α→Bool) (h:∀x,p x=!q x):l.any p=!l.all q:=by
 induction l with
 | nil=>rfl
 | cons x l ih=>simp [ih,h]
theorem Zvb1 {l:List Int} (h:l.Pairwise (· < ·)) {k:Nat} {x y:Int} (hx:l[k]?=some x) (hy:l[k+1]?=some y):x<y:=by rw [List.pairwise_iff_getElem] at h;obtain ⟨h1,rfl⟩:=List.getElem?_eq_some_iff.1 hx;obtain ⟨h2,rfl⟩:=List.getElem?_eq_some_iff.1 hy;exact h k (k+1) h1 h2 (by omega)
theorem Zwb1 {l:List Int} (h:l.Pairwise (· < ·)):Lib.compact l=l:=by
 refine Lib.compact_all l fun j hj=>?_;cases j with
 | zero=>exact Lib.keeps_lt_one _ 0 (by omega)
 | succ j=>have hx:l[j+1]?=some l[j+1]:=List.getElem?_eq_getElem hj;have hy:l[j]?=some l[j]:=List.getElem?_eq_getElem (by omega);have:=Zvb1 h hy hx;refine Lib.keeps_pos ?_;simp only [Nat.add_sub_cancel];rw [getElem!_pos _ _ (by simpa using hj),getElem!_pos _ _ (by simp;omega)];simp only [List.getElem_toArray];omega
def setL (l:List Int):List Int:=Lib.compact (l.mergeSort fun x y=>decide (x≤y))
theorem Zxb1 (l:List Int) (hl:l.length≤1000000):Z8s l=some (setL l):=by simp only [Z8s,Z9l];rw [Zna1 _ _ (by omega) (by simp;omega),OB,List.nil_append,DT (by omega),Zha1];rfl
theorem Zyb1 (l:List Int) (hl:l.length≤1000000) (h:l.Pairwise (· < ·)):Z8s l=some l:=by rw [Zxb1 l hl];unfold setL;rw [List.mergeSort_of_pairwise (h.imp fun h6=>DT (by omega)),Zwb1 h]
theorem Zzb1 (l m:List Int) (hl:l.length≤1000000):Z6l l m=some (decide (l=m)):=by
 simp only [Z6l,Zhb1];by_cases h:l.length=m.length
 ·simp only [h,decide_true,Bool.not_true,Zia1];rw [Zeb1 l m _ (fun x y=>decide (x=y)) h (by omega) (fun k x y hx hy=>by simp only [Z5l,Zoa1 hx,Zha1,Zla1 hx,Zla1 hy,OB,Zra1 hx (show l.length≤4000000000000000000 by omega),Zja1,Option.map_some];cases decide (x=y)<;>rfl) (by simp only [Z5l,Zpa1,Zia1,Z4l,Option.map_some]),Zfb1 l m h]
 ·simp [h,Zgb1 h]
theorem Z0c1 (n:Nat) (J:n≤3000000):Zds n=some []:=by
 have e0:wr (0-0)=0:=Zka1 (by omega) (by omega);have e1:wr ((n:Int)-0)=n:=by rw [Zka1 (by omega) (by omega)];omega
 simp only [Zds,Zcs,Zbs,e0,e1];rw [DN (by omega),Zia1];by_cases h:0<n
 ·rw [DT (by omega),Zha1];unfold Zqf;rw [if_pos ⟨by omega,by omega,by omega⟩,OB];unfold Z9c;rw [if_pos ⟨by omega,by omega,by omega⟩];simp
 ·rw [DN (by omega),Zia1]
theorem Z1c1 (a b:List Int) (ha:a.length≤1000000) (hb:b.length≤1000000):Zzw [a,b]=some (a++b):=by
 have g0:at_ [a,b] 0=some a:=rfl;have g1:at_ [a,b] (wr (0+1))=some b:=by rw [Zka1 (by omega) (by omega)];rfl
 have l0:ln (Z8d 1 Z4d) [a,b]=2:=by rw [ln_eq];rfl
 have w1:wr (0+1)=1:=Zka1 (by omega) (by omega);have w2:wr (1+1)=2:=Zka1 (by omega) (by omega);have s1:wr (0+ln Z4d a)=(a.length:Int):=by rw [ln_eq,Zka1 (by omega) (by omega)];omega
 have s2:wr ((a.length:Int)+ln Z4d b)=((a.length+b.length:Nat):Int):=by rw [ln_eq,Zka1 (by omega) (by omega)];omega
 unfold Zzw;rw [Zdc];dsimp only [Zyw];rw [l0,show decide ((0:Int)<2)=true from rfl,Zha1,g0,OB,s1,DN (by omega),Zia1];dsimp only [Zxw];rw [s1,w1,Zdc];dsimp only [Zyw];rw [l0,show decide ((1:Int)<2)=true from rfl,Zha1,←w1,g1,OB,s2,DN (by omega),Zia1];dsimp only [Zxw];rw [s2,w1,w2,Zdc];dsimp only [Zyw];rw [l0,show decide ((2:Int)<2)=false from rfl,Zia1];dsimp only [Zww];rw [Z0c1 _ (by omega),OB];have k:loop (Zvw [a,b]) (0,[])=some (a++b):=by rw [Zdc];dsimp only [Zvw];rw [l0,show decide ((0:Int)<2)=true from rfl,Zha1,g0,OB,Zna1 _ _ (by omega) (by simp;omega),OB,List.nil_append,w1];dsimp only;rw [Zdc];dsimp only [Zvw];rw [l0,show decide ((1:Int)<2)=true from rfl,Zha1,←w1,g1,OB,Zna1 _ _ (by omega) (by omega),OB,w1,w2];dsimp only;rw [Zdc];dsimp only [Zvw];rw [l0,show decide ((2:Int)<2)=false from rfl,Zia1];rfl
 rw [k];rfl
theorem Z2c1 (l:List Int) (x:Int) (hl:l.length≤1000000):Zfs l x=some (decide (x∈l)):=by
 have h1:Zfl l x=some (plc (l.findIdx? fun y=>decide (x=y))):=by
  unfold Zfl;refine Zza1 l _ (fun y=>decide (x=y)) (by omega) (fun k y hy=>?_) ?_
  ·simp only [Zel,Zoa1 hy,Zha1,Zla1 hy,OB,Zra1 hy (show l.length≤4000000000000000000 by omega)];cases decide (x=y)<;>rfl
  ·simp only [Zel,Zpa1,Zia1,Zdl,Option.map_some]
 simp only [Zfs,h1,OB,Zwa1,Z0b1];congr 1;rw [Bool.eq_iff_iff,List.any_eq_true,decide_eq_true_iff];constructor
 ·rintro ⟨y,hy,h⟩;have:x=y:=by simpa using h
  exact this ▸ hy
 ·intro h;exact ⟨x,h,by simp⟩
theorem Z3c1 (l:List Int) (x:Int) (hl:l.length≤1000000):Z1x l x=some (decide (x∈l)):=by simp only [Z1x,Z2c1 l x hl,OB]
theorem Z4c1 {J:List Int} (h:J.Pairwise (· ≤ ·)):(Lib.compact J).Pairwise (· < ·)∧∀x,x∈Lib.compact J↔x∈J:=by
 have get:∀j,j<J.length→∃hj:j<J.length,J.toArray[j]! = J[j]:=fun j hj=>⟨hj,by rw [getElem!_pos _ _ (by simpa using hj)];simp⟩
 have mono:∀i j,i≤j→j<J.length→J.toArray[i]!≤J.toArray[j]!:=fun i j h8 hj=>by
  obtain ⟨_,e1⟩:=get i (by omega);obtain ⟨_,e2⟩:=get j hj;rw [e1,e2];by_cases e:i=j
  ·subst e;exact Int.le_refl _
  ·rw [List.pairwise_iff_getElem] at h;exact h i j (by omega) hj (by omega)
 have key:∀m,m≤J.length→(Lib.compactUpTo J.toArray m).Pairwise (· < ·)∧(∀x,x∈Lib.compactUpTo J.toArray m↔∃j,j<m∧x=J.toArray[j]!):=by
  intro m;induction m with
  | zero=>intro _;exact ⟨by simp [Lib.compactUpTo],fun x=>by simp [Lib.compactUpTo]⟩
  | succ m ih=>
    intro hm;obtain ⟨h1,h2⟩:=ih (by omega);rw [Lib.compactUpTo_succ];cases hk:Lib.keeps J.toArray m with
    | true=>
      rw [if_pos rfl];refine ⟨?_,fun x=>?_⟩
      ·rw [List.pairwise_append];refine ⟨h1,by simp,fun x hx y hy=>?_⟩;rw [List.mem_singleton] at hy;subst hy;obtain ⟨j,hj,rfl⟩:=(h2 x).1 hx;unfold Lib.keeps at hk;simp only [decide_eq_true_eq] at hk;have a1:=mono j (m-1) (by omega) (by omega);have a2:=mono (m-1) m (by omega) (by omega);rcases hk with e | e
       ·omega
       ·have:J.toArray[m]!≠J.toArray[m-1]!:=e;omega
      ·rw [List.mem_append,h2];constructor
       ·rintro (⟨j,hj,e⟩ | e)
        ·exact ⟨j,by omega,e⟩
        ·simp at e;exact ⟨m,by omega,by simpa using e⟩
       ·rintro ⟨j,hj,e⟩;by_cases h6:j=m
        ·subst h6;right;simp [e]
        ·exact .inl ⟨j,by omega,e⟩
    | false=>
      rw [if_neg (by simp),List.append_nil];refine ⟨h1,fun x=>?_⟩;rw [h2];constructor
      ·rintro ⟨j,hj,e⟩;exact ⟨j,by omega,e⟩
      ·rintro ⟨j,hj,e⟩;by_cases h6:j=m
       ·subst h6;unfold Lib.keeps at hk;simp only [decide_eq_false_iff_not,not_or,Classical.not_not] at hk;exact ⟨j-1,by omega,by rw [e,hk.2]⟩
       ·exact ⟨j,by omega,e⟩
 obtain ⟨k1,k2⟩:=key J.length (Nat.le_refl _);refine ⟨k1,fun x=>?_⟩;have:=k2 x;unfold Lib.compact;rw [this];constructor
 ·rintro ⟨j,hj,e⟩;obtain ⟨_,e1⟩:=get j hj;rw [e,e1];exact List.getElem_mem hj
 ·intro hx;obtain ⟨j,hj,e⟩:=List.mem_iff_getElem.1 hx;obtain ⟨_,e1⟩:=get j hj;exact ⟨j,hj,by rw [e1,e]⟩
theorem Z5c1 (l:List Int):(setL l).Pairwise (· < ·)∧∀x,x∈setL l↔x∈l:=by
 have hs:(l.mergeSort fun x y=>decide (x≤y)).Pairwise (· ≤ ·):=by have:=List.pairwise_mergeSort (le:=fun x y:Int=>decide (x≤y)) (by intro a b c;simp;omega) (by intro a b;simp;omega) l;exact this.imp fun h=>by simpa using h
 obtain ⟨h1,h2⟩:=Z4c1 hs;refine ⟨h1,fun x=>?_⟩;unfold setL;rw [h2];exact (List.mergeSort_perm l _).mem_iff
theorem Z6c1:∀(l:List Int) (q n:Int),l.Pairwise (· < ·)→(∀x∈l,q≤x∧x<n)→l=[]∨(l.length:Int)≤n-q
 | [],_,_,_,_=>.inl rfl
 | x::l,q,n,h,hb=>by
   rw [List.pairwise_cons] at h;have h1:=hb x (by simp);right;rcases Z6c1 l (x+1) n h.2 (fun y hy=>⟨by have:=h.1 y hy;omega,(hb y (by simp [hy])).2⟩) with rfl | h2
   ·simp only [List.length_cons,List.length_nil];omega
   ·simp only [List.length_cons];omega
theorem pw2 {x y:Int} {r:List Int}:(x::y::r).Pairwise (· < ·)↔x<y∧(y::r).Pairwise (· < ·):=by
 constructor
 ·intro h;rw [List.pairwise_cons] at h;exact ⟨h.1 y (by simp),h.2⟩
 ·rintro ⟨h,k⟩;rw [List.pairwise_cons];refine ⟨fun z hz=>?_,k⟩;rw [List.pairwise_cons] at k;rcases List.mem_cons.1 hz with rfl | hz
  ·exact h
  ·have:=k.1 z hz;omega
theorem Z7c1 (l:List Int) (hl:l.length≤1000000):Zml l=some (decide (l.Pairwise (· < ·))):=by
 unfold Zml;have key:=Zdb1 l.length (Zll l) (fun k=>(k:Int)) (fun k=>some (decide ((l.drop (k-1)).Pairwise (· < ·)))) (fun k hk=>?_) ?_
 ·simpa using key
 ·obtain ⟨y,hy⟩:∃y,l[k]?=some y:=⟨_,List.getElem?_eq_getElem hk⟩
  dsimp only [Zll];rw [Zoa1 hy,Zha1];cases k with
  | zero=>left;rw [DN (by omega),Zia1];dsimp only [Zkl];rw [Zia1,Zqa1 (by omega)];exact ⟨rfl,rfl⟩
  | succ k=>
    obtain ⟨x,hx⟩:∃x,l[k]?=some x:=⟨_,List.getElem?_eq_getElem (by omega)⟩
    have e1:l.drop k=x::l.drop (k+1):=by obtain ⟨h1,rfl⟩:=List.getElem?_eq_some_iff.1 hx;exact List.drop_eq_getElem_cons h1
    have e2:l.drop (k+1)=y::l.drop (k+2):=by obtain ⟨h1,rfl⟩:=List.getElem?_eq_some_iff.1 hy;exact List.drop_eq_getElem_cons h1
    rw [DT (by omega),Zha1,Zqb1 (by omega),Zla1 hx,OB,Zla1 hy,OB];dsimp only [Zkl];rw [show k+1-1=k from rfl,show k+1+1-1=k+1 from rfl,e1,e2,decide_eq_decide.2 (pw2 (x:=x) (y:=y) (r:=l.drop (k+2)))];by_cases h:y≤x
    ·right;refine ⟨false,by rw [DT h,Zha1];rfl,?_⟩;rw [DN (by rintro ⟨h1,_⟩;omega)]
    ·left;refine ⟨by rw [DN h,Zia1,Zqa1 (by omega)],?_⟩;have:x<y:=by omega
     simp [this]
 ·dsimp only [Zll];rw [Zpa1,Zia1];have:(l.drop (l.length-1)).Pairwise (· < ·):=by
   have h1:(l.drop (l.length-1)).length≤1:=by rw [List.length_drop];omega
   generalize l.drop (l.length-1)=q at h1
   match q,h1 with
   | [],_=>exact .nil
   | [x],_=>exact List.pairwise_singleton _ _
  rw [DT this];rfl
theorem Z8c1 {α:Type} (f:α→Bool) (pre post:List α) (x:α):∃d,(pre++x::post).drop (pre.filter f).length=d::(pre++x::post).drop ((pre.filter f).length+1):=by
 have h1:(pre.filter f).length≤pre.length:=List.length_filter_le _ _;have h2:(pre.filter f).length<(pre++x::post).length:=by simp;omega
 exact ⟨_,List.drop_eq_getElem_cons h2⟩
theorem Z9c1 (l:List Int) (p:Int→Option Bool) (q:Int→Bool) (hl:l.length≤1000000) (hp:∀x∈l,p x=some (q x)):Z6x l p=some (l.filter fun x=>!q x):=by
 simp only [Z6x,Zkb1 l p q (by omega) hp,OB];cases hf:l.findIdx? q with
 | none=>rw [List.findIdx?_eq_none_iff] at hf;rw [show plc none = -1 from rfl,DT rfl,Zha1,List.filter_eq_self.2 (fun x hx=>by rw [hf x hx];rfl)]
 | some i=>
   obtain ⟨hi,hq,ho⟩:=List.findIdx?_eq_some_iff_getElem.1 hf;rw [show plc (some i)=(i:Int) from rfl,DN (by omega),Zia1,Zqa1 (by omega)]
   let F:List Int→List Int:=fun pre=>pre.filter fun x=>!q x
   have hF:∀pre post,l=pre++post→(F pre).length≤pre.length:=fun pre post _=>List.length_filter_le _ _;have key:=Z2b1 l (Z5x p) (fun pre=>(((F pre).length:Int),(pre.length:Int),F pre++l.drop (F pre).length)) (fun _ _=>some (F l)) (fun pre x post h=>?_) ?_ (l.drop (i+1)) (l.take (i+1)) (by simp)
   ·have e1:F (l.take (i+1))=l.take i:=by
     show (l.take (i+1)).filter _=_;rw [List.take_succ_eq_append_getElem hi,List.filter_append];have a1:(l.take i).filter (fun x=>!q x)=l.take i:=by rw [List.filter_eq_self];intro x hx;obtain ⟨j,hj,rfl⟩:=List.mem_iff_getElem.1 hx;rw [List.getElem_take];have:=ho j (by simp at hj;omega);simpa using this
     have a2: [l[i]].filter (fun x=>!q x)=[]:=by simp [hq]
     rw [a1,a2,List.append_nil]
    rw [e1] at key;have e2:(l.take i).length=i:=by simp;omega
    have e3:(l.take (i+1)).length=i+1:=by simp;omega
    rw [e2,e3,List.take_append_drop] at key;exact key
   ·left;refine ⟨?_,rfl⟩;have hx:=Z6b1 h;have hm:=Z7b1 h;have h8:=hF pre (x::post) h;have h6:(F pre++l.drop (F pre).length).length=l.length:=by simp;omega
    have h9:(F pre++l.drop (F pre).length)[pre.length]?=some x:=by rw [List.getElem?_append_right h8,List.getElem?_drop,show (F pre).length+(pre.length-(F pre).length)=pre.length by omega];exact hx
    dsimp only [Z5x];rw [Zoa1 h9,Zha1,Zla1 h9,OB,hp x (Z8b1 h),OB];have hc:F (pre++[x])=F pre++(if q x then [] else [x]):=by show (pre++[x]).filter _=_;rw [List.filter_append];congr 1;cases hw:q x<;>simp [hw]
    cases hn:q x with
    | true=>rw [Bool.not_true,Zia1];dsimp only [Z4x];rw [Zqa1 (by omega),hc,hn,if_pos rfl,List.append_nil,Zbb1]
    | false=>
      rw [Bool.not_false,Zha1];obtain ⟨d,hd⟩:=Z8c1 (fun x=>!q x) pre post x;rw [←h] at hd;have hd':l.drop (F pre).length=d::l.drop ((F pre).length+1):=hd;have hA:(F pre++l.drop (F pre).length)[(F pre).length]?=some d:=by rw [hd'];simp
      rw [Zla1 hA,OB];dsimp only [Z4x];rw [Zqa1 (by omega),Zqa1 (by omega),hc,hn,if_neg (by simp),Zbb1,hd',Int.toNat_natCast,Zbb1];simp
   ·dsimp only [Z5x];have h8:=hF l [] (by simp);have h6:(F l++l.drop (F l).length).length=l.length:=by simp;omega
    rw [show ((l.length:Int))=((F l++l.drop (F l).length).length:Int) by rw [h6],Zpa1,Zia1];dsimp only [Z3x];unfold vw_;rw [ln_eq,h6,if_pos ⟨by omega,by omega,by omega,by omega⟩,OB];unfold Zug;rw [h6,if_pos ⟨by omega,by simp;omega⟩,OB];unfold Z9c;rw [if_pos ⟨by omega,by omega,by simp;omega⟩,OB];simp [Int.toNat_natCast,List.append_assoc]
theorem Zac1 (l:List Int):(setL l).length≤l.length:=by have:=Lib.compact_length_le (l.mergeSort fun x y=>decide (x≤y));rw [List.length_mergeSort] at this;exact this
theorem Zbc1 {l:List Int} (h:l.Pairwise (· < ·)):setL l=l:=by unfold setL;rw [List.mergeSort_of_pairwise (h.imp fun h6=>DT (by omega)),Zwb1 h]
theorem Zcc1 (l:List Int) (p:Int→Option Bool) (q:Int→Bool) (hl:l.length≤1000000) (hp:∀x∈l,p x=some (q x)):Z601 l p=some ((setL l).filter q):=by have h1:=Zac1 l;simp only [Z601,Zxb1 l hl,OB];rw [Z9c1 (setL l) _ (fun x=>!q x) (by omega) (fun x hx=>by simp only [Zhl,hp x (((Z5c1 l).2 x).1 hx),OB]),OB];simp
theorem Zdc1 (a b:List Int) (ha:a.length≤1000000) (hb:b.length≤1000000):Z021 a b=some ((setL a).filter fun z=>!decide (z∈b)):=by simp only [Z021];rw [Zcc1 a _ (fun z=>!decide (z∈b)) ha (fun x _=>by simp only [Z401,Z3c1 b x hb,OB]),OB]
theorem Zec1 (a b:List Int) (ha:a.length≤1000000) (hb:b.length≤1000000):Zz31 a b=some (a.all fun z=>decide (z∈b)):=by
 simp only [Zz31,Zdc1 a b ha hb,OB,ln_eq];congr 1;rw [Bool.eq_iff_iff,decide_eq_true_eq,List.all_eq_true];have:((((setL a).filter fun z=>!decide (z∈b)).length:Nat):Int)=0↔((setL a).filter fun z=>!decide (z∈b))=[]:=by rw [←List.length_eq_zero_iff];omega
 rw [this,List.filter_eq_nil_iff];constructor
 ·intro h x hx;have:=h x (((Z5c1 a).2 x).2 hx);simpa using this
 ·intro h x hx;have:=h x (((Z5c1 a).2 x).1 hx);simpa using this
theorem s_Del (l:List Int) (x:Int) (hl:l.length≤1000000):Zx31 l x=some ((setL l).filter fun z=>!decide (z∈ [x])):=by simp only [Zx31,Zdc1 l [x] hl (by simp),OB]
theorem s_Add (l:List Int) (x:Int) (hl:l.length≤900000):Zy11 l x=some (setL (l++[x])):=by simp only [Zy11,Z101,Z1c1 l [x] (by omega) (by simp),OB,Zxb1 (l++[x]) (by simp;omega)]
def Zfc1:BK:=⟨0,[]⟩
def Zgc1 (n:List Int):Bool:=decide (n.length≤64)&&n.all (fun p=>decide (0≤p))
def Zhc1 (last top:Int) (first:Bool) (s:SE):Bool:=decide (last<s.ID)&&(decide (s.ID≤top)&&(Zgc1 s.NE&&(decide (s.NE.Pairwise (· < ·))&&(decide (0≤s.Age)&&((decide (s.SS=1)&&first)||(decide (s.SS=0)&&decide (s.Age=0)))))))
def Zic1 (top:Int):Int→Bool→List SE→Bool
 | _,_,[]=>true
 | last,first,s::l=>Zhc1 last top first s&&Zic1 top s.ID false l
def okBk (b:BK):Bool:=decide (0≤b.LA)&&(decide (b.SE.length≤8)&&Zic1 b.LA 0 true b.SE)
def Zjc1 (b:BK):Prop:=b.SE.length≤1000000∧∀s∈b.SE,s.NE.length≤1000000
theorem Zkc1 (n:List Int) (J:n.length≤1000000):Zdx n=some (!Zgc1 n):=by
 simp only [Zdx,Zcx,ln_eq,Zgc1];rw [Zob1 n _ (fun z=>decide (z<0)) (by omega) (fun x _=>by simp only [Zql])];have:n.any (fun z=>decide (z<0))=!n.all (fun p=>decide (0≤p)):=Zsb1 _ _ _ fun x=>by rw [Bool.eq_iff_iff];simp
 rw [this];by_cases h:n.length≤64
 ·rw [DN (by omega),DT h];rfl
 ·rw [DT (by omega),DN h];rfl
def Zlc1 (pre:List SE):Int:=match pre.getLast? with | some s=>s.ID | none=>0
theorem Zmc1 (pre:List SE) (s:SE):Zlc1 (pre++[s])=s.ID:=by simp [Zlc1]
theorem Znc1 (b:BK) (last i:Int) (s:SE) (g:Bool) (J:s.NE.length≤1000000):Zb01 b last i s g =
  if decide (last<s.ID)&&(decide (s.ID≤b.LA)&&(Zgc1 s.NE&&(decide (s.NE.Pairwise (· < ·))&&(decide (0≤s.Age)&&(g||(decide (s.SS=0)&&decide (s.Age=0))))))) then some (.inl (s.ID,wr (i+1))) else some (.inr 170):=by
 have e4:∀z,Za01 i s g z=if !z&&(g||(decide (s.SS=0)&&decide (s.Age=0))) then some (.inl (s.ID,wr (i+1))) else some (.inr 170):=fun z=>by
  simp only [Za01,Z901];cases z
  ·cases g
   ·by_cases h1:s.SS=0
    ·by_cases h2:s.Age=0<;>simp [h1,h2]
    ·simp [h1]
   ·simp
  ·simp
 simp only [Zb01,Zkc1 s.NE J,Z7c1 s.NE J,OB,e4];by_cases h1:s.ID≤last
 ·rw [DT h1,Zha1,DN (show ¬last<s.ID by omega)];simp
 ·rw [DN h1,Zia1,DT (show last<s.ID by omega),Bool.true_and];by_cases h2:b.LA<s.ID
  ·rw [DT h2,Zha1,DN (show ¬s.ID≤b.LA by omega)];simp
  ·rw [DN h2,Zia1,DT (show s.ID≤b.LA by omega),Bool.true_and];cases Zgc1 s.NE
   ·simp
   ·by_cases h3:s.NE.Pairwise (· < ·)
    ·by_cases h4:s.Age<0
     ·have:¬0≤s.Age:=by omega
      simp [h3,h4,this]
     ·have:0≤s.Age:=by omega
      simp [h3,h4,this]
    ·simp [h3]
theorem Zoc1 (b:BK) (hb:Zjc1 b):Ze01 b=some (if okBk b then 0 else 170):=by
 have hl:loop (Zc01 b) (0,0)=some (if Zic1 b.LA 0 true b.SE then 0 else 170):=by
  refine Z3b1 b.SE (Zc01 b) (fun pre=>(Zlc1 pre,(pre.length:Int))) (fun pre post=>some (if Zic1 b.LA (Zlc1 pre) pre.isEmpty post then 0 else 170)) (fun pre x post h=>?_) ?_
  ·have hx:=Z6b1 h;have hm:=Z7b1 h;have h1:=hb.1;dsimp only [Zc01];rw [Zoa1 hx,Zha1,Zla1 hx,OB];have e:∀u v:Bool,ifb (decide (x.SS=1)) (Zb01 b (Zlc1 pre) (pre.length:Int) x u) (Zb01 b (Zlc1 pre) (pre.length:Int) x v)=Zb01 b (Zlc1 pre) (pre.length:Int) x (if decide (x.SS=1) then u else v):=fun u v=>by cases decide (x.SS=1)<;>rfl
   rw [e,Znc1 _ _ _ _ _ (hb.2 x (Z8b1 h)),Zqa1 (by omega),Zmc1,Zbb1];have e2:(if decide (x.SS=1)=true then decide ((pre.length:Int)=0) else false)=(decide (x.SS=1)&&pre.isEmpty):=by
    cases pre with
    | nil=>cases decide (x.SS=1)<;>rfl
    | cons a r=>cases decide (x.SS=1)<;>simp<;>omega
   rw [e2];show (_∧some (if (Zhc1 (Zlc1 pre) b.LA pre.isEmpty x&&Zic1 b.LA x.ID false post) then (0:Int) else 170)=some (if Zic1 b.LA x.ID (pre++[x]).isEmpty post then 0 else 170))∨∃r,_∧some (if (Zhc1 (Zlc1 pre) b.LA pre.isEmpty x&&Zic1 b.LA x.ID false post) then (0:Int) else 170)=some r;have e3:(pre++[x]).isEmpty=false:=by simp
   rw [e3];show ((if Zhc1 (Zlc1 pre) b.LA pre.isEmpty x then some (Sum.inl (x.ID,((pre.length+1:Nat):Int))) else some (.inr (170:Int)))=_∧_)∨∃r,(if Zhc1 (Zlc1 pre) b.LA pre.isEmpty x then some (Sum.inl (x.ID,((pre.length+1:Nat):Int))) else some (.inr (170:Int)))=_∧_;cases Zhc1 (Zlc1 pre) b.LA pre.isEmpty x
   ·right;exact ⟨170,rfl,rfl⟩
   ·left;exact ⟨rfl,by rw [Bool.true_and]⟩
  ·dsimp only [Zc01];rw [Zpa1,Zia1];rfl
 simp only [Ze01,Zd01,hl,okBk,ln_eq];by_cases h1:b.LA<0
 ·have:¬0≤b.LA:=by omega
  simp [h1,this]
 ·have:0≤b.LA:=by omega
  by_cases h2:b.SE.length≤8
  ·have h3:¬(8:Int)<b.SE.length:=by omega
   simp [h1,this,h2,h3]
  ·have h3:(8:Int)<b.SE.length:=by omega
   simp [h1,this,h2,h3]
theorem Zpc1 {α:Type} {l:List α} {k:Nat} {x:α} (h:l[k]?=some x):l.set k x=l:=by obtain ⟨h1,rfl⟩:=List.getElem?_eq_some_iff.1 h;exact List.set_getElem_self h1
theorem Zqc1 (l:List Int) (h:l.length≤1000000):Z9l l=some l:=by simp only [Z9l];rw [Zna1 _ _ (by omega) (by simp;omega),List.nil_append]
theorem Zrc1 (l:List SE) (h:l.length≤1000000):Zol l=some l:=by simp only [Zol];rw [Zna1 _ _ (by omega) (by simp;omega),List.nil_append]
theorem Zsc1 (b:BK) (hb:Zjc1 b):Zax b=some b.SE:=by
 have h1:=hb.1;simp only [Zax,Zrc1 b.SE hb.1,OB];refine Z5b1 b.SE _ (fun pre=>((pre.length:Int),b.SE)) b.SE (fun pre x post h=>?_) ?_
 ·have hx:=Z6b1 h;have hm:=Z7b1 h;dsimp only [Z9x];rw [Zoa1 hx,Zha1,Zla1 hx,OB,Zqc1 _ (hb.2 x (Z8b1 h)),OB,Zqa1 (by omega),Int.toNat_natCast,Zpc1 hx,Zbb1]
 ·dsimp only [Z9x];rw [Zpa1,Zia1];rfl
def Ztc1 (b:BK) (id:Int):Option Nat:=b.SE.findIdx? fun s=>decide (s.ID=id)
theorem Zuc1 (b:BK) (id:Int) (hb:b.SE.length≤1000000):Zms b id=some (plc (Ztc1 b id)):=by simp only [Zms];rw [Zlb1 b.SE _ (fun s=>decide (s.ID=id)) (by omega) (fun x _=>by simp only [Ztl]),OB];rfl
theorem Zvc1 (l:List SE) (i:Nat) (hi:i<l.length) (hl:l.length≤1000000):Zks (i:Int) ((i+1:Nat):Int) l=some (l.take i++l.drop (i+1)):=by
 simp only [Zks,ln_eq];unfold vw_;rw [if_pos ⟨by omega,by omega,by omega,by omega⟩,OB,if_pos ⟨by omega,by omega,by omega,by omega⟩,OB,DN (by omega),Zia1,if_pos ⟨by omega,by omega,by omega,by omega⟩,OB];have t1:Int.toNat (i:Int)-Int.toNat 0=i:=by omega
 have t2:Int.toNat ((l.length:Nat):Int)-Int.toNat ((i+1:Nat):Int)=l.length-(i+1):=by omega
 have t3:Int.toNat ((i+1:Nat):Int)=i+1:=by omega
 rw [t1,t2,t3];unfold Zvg;rw [if_pos ⟨by omega,by omega,by omega⟩,OB];have e1:(l.take (i+1+(l.length-(i+1)))).drop (i+1)=l.drop (i+1):=by rw [List.take_of_length_le (by omega)]
 have e2:(l.take i++l.drop (i+1)).length=l.length-1:=by simp;omega
 rw [e1];have e3:i+(l.length-(i+1))=l.length-1:=by omega
 simp only [Zjs,ln_eq,t1,t2,e3];have h6:(l.take i++l.drop (i+1)++l.drop (l.length-1)).length=l.length:=by rw [List.length_append,e2,List.length_drop];omega
 rw [OB,h6];unfold vw_;rw [if_pos ⟨by omega,by omega,by omega,by omega⟩,OB];have t4:Int.toNat ((l.length-1:Nat):Int)=l.length-1:=by omega
 have t5:Int.toNat ((l.length:Nat):Int)-(l.length-1)=1:=by omega
 rw [t4,t5];unfold Zug;rw [h6,if_pos ⟨by omega,by omega⟩,OB];unfold Zwg;have e4:(l.take i++l.drop (i+1)++l.drop (l.length-1)).take (l.length-1)=l.take i++l.drop (i+1):=by rw [List.take_left' e2]
 rw [e4];have h8:(l.take i++l.drop (i+1)++List.replicate 1 (SE.mk 0 [] 0 0)++(l.take i++l.drop (i+1)++l.drop (l.length-1)).drop (l.length-1+1)).length=l.length:=by rw [List.length_append,List.length_append,e2,List.length_drop,h6];simp;omega
 rw [h8,if_pos ⟨by omega,by omega⟩,OB];congr 1;rw [List.append_assoc (l.take i++l.drop (i+1))];rw [List.take_left' e2]
def Zwc1 (b:BK) (id:Int) (need:List Int):BK×Int:=if okBk b then (if id≤b.LA then (Zfc1,171) else if Zgc1 (setL need) then (if b.SE.length=8 then (Zfc1,173) else (⟨id,b.SE++[⟨id,setL need,0,0⟩]⟩,0)) else (Zfc1,172)) else (Zfc1,170)
theorem Zxc1 (b:BK) (id:Int) (need:List Int) (hb:Zjc1 b) (J:need.length≤1000000):Z321 b id need=some (Zwc1 b id need):=by
 have hs:=Zac1 need;have h1:=hb.1;simp only [Z321,Zxb1 need J,Zoc1 b hb,Zkc1 (setL need) (by omega),OB,Z221,Zsc1 b hb,Zwc1,ln_eq];rw [Zna1 _ _ (by omega) (by simp;omega),OB];cases hk:okBk b
 ·rfl
 ·simp only [if_true];simp only [decide_true,Bool.not_true,Zia1];by_cases h2:id≤b.LA
  ·simp [h2,Zfc1]
  ·cases h3:Zgc1 (setL need)
   ·simp [h2,Zfc1]
   ·by_cases h4:b.SE.length=8
    ·simp [h2,h4,Zfc1]
    ·have:¬(b.SE.length:Int)=8:=by omega
     simp [h2,h4,this]
def Zyc1 (b:BK):BK×Int×Int:=if okBk b then (match b.SE with | []=>(Zfc1,0,175) | s::l=>if s.SS=1 then (Zfc1,0,175) else (⟨b.LA,⟨s.ID,s.NE,1,s.Age⟩::l⟩,s.ID,0)) else (Zfc1,0,170)
theorem Zzc1 (b:BK) (hb:Zjc1 b):Z621 b=some (Zyc1 b):=by
 simp only [Z621,Zoc1 b hb,OB,Z521,Zsc1 b hb,Zyc1,ln_eq];cases hk:okBk b
 ·rfl
 ·simp only [if_true];simp only [decide_true,Bool.not_true,Zia1];cases hs:b.SE with
  | nil=>simp [Zfc1]
  | cons s l=>
    have h0:at_ (s::l) 0=some s:=rfl;have:¬(((s::l).length:Nat):Int)=0:=by simp;omega
    rw [DN this,Zia1,h0,OB];by_cases h1:s.SS=1
    ·simp [h1,Zfc1]
    ·simp [h1]
def endP (b:BK) (id J:Int):BK×Int:=
 if okBk b then (match Ztc1 b id with
  | none=>(Zfc1,174)
  | some i=>match b.SE[i]? with
    | none=>(Zfc1,174)
    | some s=>if s.SS=J then (⟨b.LA,b.SE.take i++b.SE.drop (i+1)⟩,0) else (Zfc1,175)) else (Zfc1,170)
theorem Z0d1 {b:BK} {id:Int} {i:Nat} (h:Ztc1 b id=some i):∃s,b.SE[i]?=some s∧s.ID=id:=by obtain ⟨hi,hq,_⟩:=List.findIdx?_eq_some_iff_getElem.1 h;exact ⟨_,List.getElem?_eq_getElem hi,by simpa using hq⟩
theorem Z1d1 (b:BK) (id J:Int) (hb:Zjc1 b):Z341 b id J=some (endP b id J):=by
 have h1:=hb.1;simp only [Z341,Z821,Zoc1 b hb,Zuc1 b id hb.1,OB,endP];cases hk:okBk b
 ·simp [Z241,Z141,Zfc1]
 ·simp only [if_true];simp only [decide_true,Bool.not_true,Zia1];cases hf:Ztc1 b id with
  | none=>simp [plc,Z241,Z141,Zfc1]
  | some i=>
    obtain ⟨s,hs,_⟩:=Z0d1 hf;have hi:=(List.getElem?_eq_some_iff.1 hs).1;rw [show plc (some i)=(i:Int) from rfl,DN (by omega),Zia1,Zla1 hs,OB,OB];simp only [hs,decide_true,Zha1,Z241,Z141];by_cases h2:s.SS=J
    ·have hf':Ztc1 ⟨b.LA,b.SE⟩ id=some i:=hf;simp only [h2,decide_true,Bool.not_true,Zia1,Zsc1 b hb,OB,Zuc1 ⟨b.LA,b.SE⟩ id hb.1,hf',if_true];rw [show plc (some i)=(i:Int) from rfl,Zqa1 (by omega),Zvc1 b.SE i hi hb.1,OB]
    ·simp [h2,Zfc1]
theorem Z2d1 (b:BK) (id:Int) (hb:Zjc1 b):Z351 b id=some (endP b id 1):=by simp only [Z351,Z1d1 b id 1 hb,OB]
theorem Z3d1 (b:BK) (id:Int) (hb:Zjc1 b):Z551 b id=some (endP b id 0):=by simp only [Z551,Z1d1 b id 0 hb,OB]
theorem Z4d1 (x y:SX):(decide (x.PE=y.PE)&&(decide (x.EP=y.EP)&&(decide (x.SS=y.SS)&&((x.FK==y.FK)&&((x.DY==y.DY)&&((x.TO==y.TO)&&((x.BO==y.BO)&&((x.Ask==y.Ask)&&true))))))))=decide (x=y):=by rw [Bool.eq_iff_iff];cases x;cases y;simp [SX.mk.injEq]
theorem Z5d1 (x y:ML):(decide (x.From=y.From)&&(decide (x.To=y.To)&&(decide (x.Msg.KI=y.Msg.KI)&&(decide (x.Msg.EP=y.Msg.EP)&&(decide (x.Msg.Num=y.Msg.Num)&&true)))))=decide (x=y):=by rw [Bool.eq_iff_iff];obtain ⟨x1,x2,x3,x4,x5⟩:=x;obtain ⟨y1,y2,y3,y4,y5⟩:=y;simp [ML.mk.injEq,Msg.mk.injEq]
theorem Z6d1 (l m:List SX) (hl:l.length≤1000000):Zyl l m=some (decide (l=m)):=by
 simp only [Zyl,Zhb1];by_cases h:l.length=m.length
 ·simp only [h,decide_true,Bool.not_true,Zia1];rw [Zeb1 l m _ (fun x y=>decide (x=y)) h (by omega) (fun k x y hx hy=>by simp only [Zxl,Zoa1 hx,Zha1,Zla1 hx,Zla1 hy,OB,Z4d1,Zra1 hx (show l.length≤4000000000000000000 by omega),Zja1];cases decide (x=y)<;>rfl) (by simp only [Zxl,Zpa1,Zia1,Zwl,Option.map_some]),Zfb1 l m h]
 ·simp [h,Zgb1 h]
theorem Z7d1 (a b:DI) (hl:a.SD.length≤1000000):Z4m a b=some (decide (a=b)):=by
 obtain ⟨a1,a2,l⟩:=a;obtain ⟨b1,b2,m⟩:=b;dsimp only at hl;simp only [Z4m,Z3m,Zhb1,DI.mk.injEq];by_cases h1:a1=b1
 ·by_cases h2:a2=b2
  ·by_cases h:l.length=m.length
   ·simp only [h1,h2,h,decide_true,Bool.not_true,Zia1,true_and];rw [Zeb1 l m _ (fun x y=>decide (x=y)) h (by omega) (fun k x y hx hy=>by simp only [Z2m,Zoa1 hx,Zha1,Zla1 hx,Zla1 hy,OB,Z4d1,Zra1 hx (show l.length≤4000000000000000000 by omega),Zja1,Option.map_some];cases decide (x=y)<;>rfl) (by simp only [Z2m,Zpa1,Zia1,Z1m,Option.map_some]),Zfb1 l m h]
   ·have:=Zgb1 h;simp [h1,h2,h];rintro rfl;exact h rfl
  ·simp [h1,h2]
 ·simp [h1]
def side0:SX:=⟨0,0,0,false,false,false,false,false⟩
def sideO (d:DI) (p:Int):Option SX:=d.SD.find? fun x=>decide (x.PE=p)
theorem Z8d1 (l m:List ML) (hl:l.length≤1000000):Zdm l m=some (decide (l=m)):=by
 simp only [Zdm,Zhb1];by_cases h:l.length=m.length
 ·simp only [h,decide_true,Bool.not_true,Zia1];rw [Zeb1 l m _ (fun x y=>decide (x=y)) h (by omega) (fun k x y hx hy=>by simp only [Zcm,Zoa1 hx,Zha1,Zla1 hx,Zla1 hy,OB,Z5d1,Zra1 hx (show l.length≤4000000000000000000 by omega),Zja1,Option.map_some];cases decide (x=y)<;>rfl) (by simp only [Zcm,Zpa1,Zia1,Zbm,Option.map_some]),Zfb1 l m h]
 ·simp [h,Zgb1 h]
def Z9d1 (id q:Int) (x:SX):Bool:=decide (q<x.PE)&&(!decide (x.PE=id)&&(decide (0≤x.EP)&&(decide (x.EP≤65535)&&(decide (0≤x.SS)&&(decide (x.SS≤3)&&!(x.DY&&!x.FK))))))
def Zad1 (id:Int):Int→List SX→Bool
 | _,[]=>true
 | q,x::r=>Z9d1 id q x&&Zad1 id x.PE r
def okD (d:DI):Bool:=decide (0≤d.ID)&&(decide (0≤d.PH)&&(decide (d.PH≤2)&&(decide (d.SD.length<64)&&Zad1 d.ID (-1) d.SD)))
theorem Zbd1 (x:SX) (d:DI) (q:Int):Zqs x q d=some (!Z9d1 d.ID q x):=by
 simp only [Zqs,Zps,Zos,Z9d1];by_cases h1:q<x.PE
 ·by_cases h2:x.PE=d.ID
  ·have h1':q<d.ID:=h2 ▸ h1;simp [h2,h1']
  ·by_cases h3:x.EP<0
   ·have:¬0≤x.EP:=by omega
    simp [h1,h2,h3,this]
   ·have h3':0≤x.EP:=by omega
    by_cases h4:65535<x.EP
    ·have:¬x.EP≤65535:=by omega
     simp [h1,h2,h3,h4,this]
    ·have h4':x.EP≤65535:=by omega
     by_cases h5:x.SS<0
     ·have:¬0≤x.SS:=by omega
      simp [h1,h2,h3,h4,h5,this]
     ·have h5':0≤x.SS:=by omega
      by_cases h6:3<x.SS
      ·have:¬x.SS≤3:=by omega
       simp [h1,h2,h3,h4,h5,h6,this]
      ·have h6':x.SS≤3:=by omega
       simp only [h1,h2,h3,h4,h5,h6,h3',h4',h5',h6',decide_true,decide_false,Zha1,Zia1,Bool.not_true,Bool.not_false,Bool.true_and];cases x.DY<;>cases x.FK<;>rfl
 ·simp [h1]
def Zcd1 (id:Int):Nat→Int→List SX→Int×Int
 | _,q,[]=>(-1,q)
 | k,q,x::r=>if Z9d1 id q x then Zcd1 id (k+1) x.PE r else (k,x.PE)
theorem Zdd1 (id:Int):∀(l:List SX) (k:Nat) (q:Int),decide (0≤(Zcd1 id k q l).1)=!Zad1 id q l
 | [],k,q=>by simp [Zcd1,Zad1]
 | x::r,k,q=>by
   by_cases h:Z9d1 id q x=true
   ·have e1:Zcd1 id k q (x::r)=Zcd1 id (k+1) x.PE r:=by simp [Zcd1,h]
    rw [e1,Zdd1 id r (k+1) x.PE];simp [Zad1,h]
   ·have h':Z9d1 id q x=false:=by simpa using h
    have e1:Zcd1 id k q (x::r)=((k:Int),x.PE):=by simp [Zcd1,h']
    rw [e1];simp [Zad1,h']
def Zed1 (q:Int) (pre:List SX):Int:=match pre.getLast? with | some x=>x.PE | none=>q
theorem Zfd1 (q:Int) (pre:List SX) (x:SX):Zed1 q (pre++[x])=x.PE:=by simp [Zed1]
theorem Zgd1 (d:DI):Zb21 d=some (if okD d then 0 else 130):=by
 simp only [Zb21,Za21,okD];by_cases h1:d.ID<0
 ·have:¬0≤d.ID:=by omega
  simp [h1,this]
 have h1':0≤d.ID:=by omega
 by_cases h2:d.PH<0
 ·have:¬0≤d.PH:=by omega
  simp [h1,h2,this]
 have h2':0≤d.PH:=by omega
 by_cases h3:2<d.PH
 ·have:¬d.PH≤2:=by omega
  simp [h1,h2,h3,this]
 have h3':d.PH≤2:=by omega
 by_cases h4:64≤d.SD.length
 ·have h4':(64:Int)≤ln SX.row d.SD:=by rw [ln_eq];omega
  have:¬d.SD.length<64:=by omega
  simp [h1,h2,h3,h4',this]
 have h4':¬(64:Int)≤ln SX.row d.SD:=by rw [ln_eq];omega
 have h4'':d.SD.length<64:=by omega
 simp only [h1,h2,h3,h4',h1',h2',h3',h4'',decide_true,decide_false,Zia1,Bool.true_and];have key:Zhx d.SD (-1) d=some (Zcd1 d.ID 0 (-1) d.SD):=by
  unfold Zhx;refine Z3b1 d.SD _ (fun pre=>((pre.length:Int),Zed1 (-1) pre)) (fun pre post=>some (Zcd1 d.ID pre.length (Zed1 (-1) pre) post)) (fun pre x post h=>?_) ?_
  ·have hx:=Z6b1 h;have hm:=Z7b1 h;dsimp only [Zgx];rw [Zoa1 hx,Zha1,Zla1 hx,OB,Zbd1,OB,Zja1];cases hs:Z9d1 d.ID (Zed1 (-1) pre) x with
   | true=>left;exact ⟨by rw [Zha1,Zbb1,Zfd1,Zqa1 (by omega)],by simp [Zcd1,hs,Zfd1]⟩
   | false=>right;exact ⟨_,rfl,by simp [Zcd1,hs]⟩
  ·dsimp only [Zgx];rw [Zpa1,Zia1];rfl
 simp only [Zg01,key,OB,Zdd1];cases Zad1 d.ID (-1) d.SD<;>rfl
theorem Zhd1 (l:List SX) (hl:l.length≤1000000):Zkm l=some l:=by simp only [Zkm];rw [Zna1 _ _ (by omega) (by simp;omega)];rfl
theorem Zid1 {d:DI} (h:okD d=true):d.SD.length<64:=by simp only [okD,Bool.and_eq_true,decide_eq_true_eq] at h;exact h.2.2.2.1
def Zjd1 (ph:Int) (x:SX):SX:=if x.FK&&(x.DY&&(x.TO&&!decide (ph=2))) then {x with FK:=false,DY:=false} else x
def Zkd1 (ph:Int) (x:SX):SX:=if decide (ph=1)&&((Zjd1 ph x).TO&&!(Zjd1 ph x).FK) then {Zjd1 ph x with TO:=false} else Zjd1 ph x
def Zld1 (id ph:Int) (x:SX):List ML:=
 (if x.FK&&(x.DY&&(x.TO&&!decide (ph=2))) then [⟨id,x.PE,⟨1,x.EP,0⟩⟩] else []) ++
 (if decide (ph=1)&&((Zjd1 ph x).TO&&!(Zjd1 ph x).FK) then [⟨id,x.PE,⟨2,x.EP,0⟩⟩] else [])
def Zmd1 (x:SX):SX:= {x with DY:=true}
def Znd1 (d:DI):DI:=if decide (d.PH=1)&&(d.SD.map (Zkd1 d.PH)).all (·.FK) then ⟨d.ID,2,(d.SD.map (Zkd1 d.PH)).map Zmd1⟩ else ⟨d.ID,d.PH,d.SD.map (Zkd1 d.PH)⟩
def Zod1 (d:DI):List ML:=d.SD.flatMap (Zld1 d.ID d.PH)
theorem Zpd1 (id ph:Int) (x:SX):(Zld1 id ph x).length≤2:=by
 unfold Zld1;rw [List.length_append];have h1:∀(c:Bool) (m:ML),(if c then [m] else []).length≤1:=by intro c m;cases c<;>simp
 have:=h1 (x.FK&&(x.DY&&(x.TO&&!decide (ph=2)))) ⟨id,x.PE,⟨1,x.EP,0⟩⟩;have:=h1 (decide (ph=1)&&((Zjd1 ph x).TO&&!(Zjd1 ph x).FK)) ⟨id,x.PE,⟨2,x.EP,0⟩⟩;omega
theorem Zqd1 (l:List SX) (id ph:Int):(l.flatMap (Zld1 id ph)).length≤2*l.length:=by
 induction l with
 | nil=>simp
 | cons x l ih=>have:=Zpd1 id ph x;rw [List.flatMap_cons,List.length_append,List.length_cons];omega
def has (x:SX) (k:Int):Bool:=if k=1 then x.FK else x.TO
def bn (b:Bool):Nat:=if b then 1 else 0
theorem Zrd1 (ph:Int) (x:SX):(Zkd1 ph x).PE=x.PE∧(Zkd1 ph x).EP=x.EP∧(Zkd1 ph x).SS=x.SS:=by unfold Zkd1 Zjd1;split<;>split<;>exact ⟨rfl,rfl,rfl⟩
theorem Zsd1 (ph:Int) (x:SX) (h:x.DY=true→x.FK=true):(Zkd1 ph x).DY=true→(Zkd1 ph x).FK=true:=by unfold Zkd1 Zjd1;split<;>split<;>simp_all
theorem Ztd1 {id ph:Int} {x:SX} {m:ML} (h:m∈Zld1 id ph x):m.From=id∧m.To=x.PE∧(m.Msg.KI=1∨m.Msg.KI=2)∧m.Msg.EP=x.EP∧m.Msg.Num=0:=by
 unfold Zld1 at h;rw [List.mem_append] at h;rcases h with h | h
 ·split at h
  ·simp at h;subst h;exact ⟨rfl,rfl,.inl rfl,rfl,rfl⟩
  ·simp at h
 ·split at h
  ·simp at h;subst h;exact ⟨rfl,rfl,.inr rfl,rfl,rfl⟩
  ·simp at h
def Zud1 (d:DI) (x:SX):SX:=if decide (d.PH=1)&&(d.SD.map (Zkd1 d.PH)).all (·.FK) then Zmd1 (Zkd1 d.PH x) else Zkd1 d.PH x
theorem Zvd1 (d:DI):(Znd1 d).SD=d.SD.map (Zud1 d):=by
 unfold Znd1 Zud1;split
 ·simp only [List.map_map];rfl
 ·rfl
theorem Zwd1 (d:DI):(Znd1 d).ID=d.ID:=by unfold Znd1;split<;>rfl
theorem Zxd1 (d:DI) (x:SX):(Zud1 d x).PE=x.PE∧(Zud1 d x).EP=x.EP∧(Zud1 d x).SS=x.SS∧∀k,has (Zud1 d x) k=has (Zkd1 d.PH x) k:=by
 obtain ⟨h1,h2,h3⟩:=Zrd1 d.PH x;unfold Zud1;split
 ·exact ⟨h1,h2,h3,fun k=>rfl⟩
 ·exact ⟨h1,h2,h3,fun k=>rfl⟩
theorem Zyd1 (k id ph:Int) (a b:List SX) (x:SX) (E:List ML) (J:E.length≤1000000):Zss k id ph (a.length:Int) E (a++x::b)=some (E++[⟨id,x.PE,⟨k,x.EP,0⟩⟩]):=by simp only [Zss];rw [Z9b1 rfl,OB,Zna1 _ _ (by omega) (by simp;omega),OB]
theorem Zzd1 (d:DI) (l:List SX) (hl:l.length<64) (pre post:List SX) (x:SX) (h:l=pre++x::post) (all:Bool) (A:List SX) (J:A.length=pre.length) (E:List ML) (U:E.length≤1000):
  Zh51 d l (all,(pre.length:Int),A++x::post,E)=some (.inl (all&&(Zkd1 d.PH x).FK,((pre.length+1:Nat):Int),A++Zkd1 d.PH x::post,E++Zld1 d.ID d.PH x)):=by
 have hx:=Z6b1 h;have hm:=Z7b1 h;have at1:∀y:SX,at_ (A++y::post) (pre.length:Int)=some y:=fun y=>by rw [←J];exact Z9b1 rfl
 have st1:∀y z:SX,(A++y::post).set ((pre.length:Int)).toNat z=A++z::post:=fun y z=>by rw [←J];exact Zab1 _ _ _ _
 have sd:∀(k:Int) (y:SX) (E:List ML),E.length≤1000000→Zss k d.ID d.PH (pre.length:Int) E (A++y::post)=some (E++[⟨d.ID,y.PE,⟨k,y.EP,0⟩⟩]):=fun k y E U=>by rw [←J];exact Zyd1 k d.ID d.PH A post y E U
 have fin:∀(y:SX) (E':List ML),Zd51 all (pre.length:Int) (A++y::post,E')=some (.inl (all&&y.FK,((pre.length+1:Nat):Int),A++y::post,E')):=fun y E'=>by dsimp only [Zd51,Zc51];rw [at1,Zqa1 (by omega)];cases all<;>rfl
 have j3:∀(y:SX) (E':List ML),E'.length≤100000→Zf51 d all (pre.length:Int) (A++y::post,E') =
   if decide (d.PH=1)&&(y.TO&&!y.FK) then some (.inl (all&&y.FK,((pre.length+1:Nat):Int),A++{y with TO:=false}::post,E'++[⟨d.ID,y.PE,⟨2,y.EP,0⟩⟩])) else some (.inl (all&&y.FK,((pre.length+1:Nat):Int),A++y::post,E')):=fun y E' hE'=>by
  dsimp only [Zf51];by_cases h1:d.PH=1
  ·rw [DT h1,Zha1,at1,OB];cases ht:y.TO with
   | false=>dsimp only [Ze51];rw [Zia1,Zia1,fin];simp
   | true=>
     cases hf:y.FK with
     | true=>dsimp only [Ze51];rw [Zha1,Bool.not_true,Zia1,fin];simp [hf]
     | false=>dsimp only [Ze51];rw [Zha1,Bool.not_false,Zha1,at1,OB,st1,sd _ _ _ (by omega),OB,fin];simp [hf]
  ·rw [DN h1,Zia1];dsimp only [Ze51];rw [Zia1,fin];simp
 dsimp only [Zh51];rw [Zoa1 hx,Zha1,at1,OB];have j2:∀z:Bool,Zg51 d all (pre.length:Int) (A++x::post) E x z=if z then Zf51 d all (pre.length:Int) (A++{x with FK:=false,DY:=false}::post,E++[⟨d.ID,x.PE,⟨1,x.EP,0⟩⟩]) else Zf51 d all (pre.length:Int) (A++x::post,E):=fun z=>by
  cases z with
  | false=>dsimp only [Zg51];rw [Zia1];rfl
  | true=>dsimp only [Zg51];rw [Zha1,st1,sd _ _ _ (by omega),OB];rfl
 have e:ifb x.FK (ifb x.DY (ifb x.TO (Zg51 d all (pre.length:Int) (A++x::post) E x (!decide (d.PH=2))) (Zg51 d all (pre.length:Int) (A++x::post) E x false)) (Zg51 d all (pre.length:Int) (A++x::post) E x false)) (Zg51 d all (pre.length:Int) (A++x::post) E x false)
   =Zg51 d all (pre.length:Int) (A++x::post) E x (x.FK&&(x.DY&&(x.TO&&!decide (d.PH=2)))):=by
  cases x.FK<;>cases x.DY<;>cases x.TO<;>rfl
 rw [e,j2];cases hz:(x.FK&&(x.DY&&(x.TO&&!decide (d.PH=2)))) with
 | false=>
   rw [if_neg (by simp),j3 _ _ (by omega)];have f1:Zjd1 d.PH x=x:=by simp only [Zjd1,hz];rfl
   unfold Zkd1 Zld1;rw [f1,hz];cases hq:(decide (d.PH=1)&&(x.TO&&!x.FK))<;>simp
 | true=>
   rw [if_pos rfl,j3 _ _ (by simp;omega)];have f1:Zjd1 d.PH x={x with FK:=false,DY:=false}:=by simp only [Zjd1,hz];rfl
   unfold Zkd1 Zld1;rw [f1,hz];cases hq:(decide (d.PH=1)&&(x.TO&&!false))<;>simp_all
theorem Z0e1 (d:DI):Zi51 d=some (if okD d then ((Znd1 d).ID,(Znd1 d).PH,0,(Znd1 d).SD,Zod1 d) else (0,0,130,[],[])):=by
 simp only [Zi51,Zgd1,OB];cases h:okD d with
 | false=>rfl
 | true=>
   have hl:=Zid1 h;simp only [if_true,decide_true,Bool.not_true,Zia1,Zhd1 d.SD (by omega),OB];have key:=Z3b1 d.SD (Zh51 d d.SD) (fun pre=>((pre.map (Zkd1 d.PH)).all (·.FK),(pre.length:Int),pre.map (Zkd1 d.PH)++d.SD.drop pre.length,pre.flatMap (Zld1 d.ID d.PH))) (fun _ _=>some ((Znd1 d).ID,(Znd1 d).PH,0,(Znd1 d).SD,Zod1 d)) (fun pre x post hp=>?_) ?_
   ·simpa using key
   ·left;have hd:d.SD.drop pre.length=x::post:=by rw [hp];simp
    have hd':d.SD.drop (pre++[x]).length=post:=by rw [hp];simp
    have hm:=Z7b1 hp;have hE:=Zqd1 pre d.ID d.PH;refine ⟨?_,rfl⟩;rw [hd,hd',Zzd1 d d.SD hl pre post x hp _ _ (by simp) _ (by omega),Zbb1];simp
   ·have hE:=Zqd1 d.SD d.ID d.PH;dsimp only [Zh51];rw [Zpa1,Zia1];simp only [List.drop_length,List.append_nil];dsimp only [Zb51];by_cases h1:d.PH=1
    ·rw [DT h1,Zha1];dsimp only [Za51];cases h6:(d.SD.map (Zkd1 d.PH)).all (·.FK) with
     | false=>rw [Zia1];unfold Znd1;rw [h6,Bool.and_false];rfl
     | true=>
       rw [Zha1];generalize hS:d.SD.map (Zkd1 d.PH)=S at h6;have h8:S.length<64:=by rw [←hS];simpa using hl
       have k2:=Z5b1 S (Z951 d S (d.SD.flatMap (Zld1 d.ID d.PH))) (fun pre=>((pre.length:Int),pre.map Zmd1++S.drop pre.length)) (d.ID,2,0,S.map Zmd1,d.SD.flatMap (Zld1 d.ID d.PH)) (fun pre x post hp=>?_) ?_
       ·have k3:loop (Z951 d S (d.SD.flatMap (Zld1 d.ID d.PH))) (0,S)=some (d.ID,2,0,S.map Zmd1,d.SD.flatMap (Zld1 d.ID d.PH)):=by simpa using k2
        rw [k3];unfold Znd1;rw [hS,h6,DT h1];rfl
       ·have hx:=Z6b1 hp;have hm:=Z7b1 hp;have hd:S.drop pre.length=x::post:=by rw [hp];simp
        have hd':S.drop (pre++[x]).length=post:=by rw [hp];simp
        dsimp only [Z951];have e1:((pre.length:Nat):Int)=(((pre.map Zmd1).length:Nat):Int):=by simp
        rw [Zoa1 hx,Zha1,hd,hd',e1,Z9b1 rfl,OB,Zab1,←e1,Zbb1,Zqa1 (by omega)];simp [Zmd1]
       ·dsimp only [Z951];rw [Zpa1,Zia1];simp [Z851]
    ·rw [DN h1,Zia1];dsimp only [Za51];rw [Zia1];unfold Znd1;rw [DN h1,Bool.false_and];rfl
def Z1e1 (d:DK) (x:SX):Bool:=decide (x.PE∈d.NE)
def Z2e1 (nd:Bool) (th:Int) (x:SX):Bool:=nd&&(decide (th=2)||(decide (th=1)&&x.FK))
def bot1 (nd:Bool) (th:Int) (x:SX):SX:=if x.BO&&(x.Ask&&!Z2e1 nd th x) then {x with BO:=false} else x
def bot2 (nd:Bool) (th:Int) (x:SX):SX:=if decide (th=1)&&(nd&&((bot1 nd th x).Ask&&!(bot1 nd th x).BO)) then {bot1 nd th x with Ask:=false} else bot1 nd th x
def botM (id:Int) (nd:Bool) (th:Int) (x:SX):List ML:=
 (if x.BO&&(x.Ask&&!Z2e1 nd th x) then [⟨id,x.PE,⟨3,x.EP,0⟩⟩] else []) ++
 (if decide (th=1)&&(nd&&((bot1 nd th x).Ask&&!(bot1 nd th x).BO)) then [⟨id,x.PE,⟨4,x.EP,0⟩⟩] else [])
theorem Z3e1 (nd:Bool) (th:Int) (x:SX):(bot2 nd th x).PE=x.PE∧(bot2 nd th x).EP=x.EP∧(bot2 nd th x).SS=x.SS∧(bot2 nd th x).FK=x.FK∧(bot2 nd th x).DY=x.DY∧(bot2 nd th x).TO=x.TO:=by unfold bot2 bot1;split<;>split<;>exact ⟨rfl,rfl,rfl,rfl,rfl,rfl⟩
theorem Z4e1 (id:Int) (nd:Bool) (th:Int) (x:SX):(botM id nd th x).length≤2:=by
 unfold botM;rw [List.length_append];have h1:∀(c:Bool) (m:ML),(if c then [m] else []).length≤1:=by intro c m;cases c<;>simp
 have:=h1 (x.BO&&(x.Ask&&!Z2e1 nd th x)) ⟨id,x.PE,⟨3,x.EP,0⟩⟩;have:=h1 (decide (th=1)&&(nd&&((bot1 nd th x).Ask&&!(bot1 nd th x).BO))) ⟨id,x.PE,⟨4,x.EP,0⟩⟩;omega
theorem Z5e1 (N:List Int) (id th:Int) (l:List SX):(l.flatMap fun x=>botM id (decide (x.PE∈N)) th x).length≤2*l.length:=by
 induction l with
 | nil=>simp
 | cons x l ih=>have:=Z4e1 id (decide (x.PE∈N)) th x;rw [List.flatMap_cons,List.length_append,List.length_cons];omega
theorem Z6e1 (y:SX) (k id ph th:Int) (N:List Int) (l:List SX) (E:List ML) (J:E.length≤1000000):Z6u y k id ph th l N E=some (E++[⟨id,y.PE,⟨k,y.EP,0⟩⟩]):=by simp only [Z6u];rw [Zna1 _ _ (by omega) (by simp;omega),OB]
theorem Z7e1 (id ph th:Int) (N:List Int) (U:N.length≤1000000) (l:List SX) (hl:l.length≤5000) (pre post:List SX) (x:SX) (h:l=pre++x::post) (all:Bool) (A:List SX) (J:A.length=pre.length) (E:List ML) (Y:E.length≤900000):
  Zz21 id ph th l N (all,(pre.length:Int),A++x::post,E)=some (.inl (all&&(!decide (x.PE∈N)||(bot2 (decide (x.PE∈N)) th x).BO),((pre.length+1:Nat):Int),A++bot2 (decide (x.PE∈N)) th x::post,E++botM id (decide (x.PE∈N)) th x)):=by
 have hx:=Z6b1 h;have hm:=Z7b1 h;have at1:∀y:SX,at_ (A++y::post) (pre.length:Int)=some y:=fun y=>by rw [←J];exact Z9b1 rfl
 have st1:∀y z:SX,(A++y::post).set ((pre.length:Int)).toNat z=A++z::post:=fun y z=>by rw [←J];exact Zab1 _ _ _ _
 generalize h6:decide (x.PE∈N)=nd;have j7:∀(S:List SX) (E':List ML) z,Zs21 (pre.length:Int) S E' z=some (.inl (z,((pre.length+1:Nat):Int),S,E')):=fun S E' z=>by dsimp only [Zs21];rw [Zqa1 (by omega)]
 have j6:∀(y:SX) (E':List ML),Zt21 all (pre.length:Int) nd (A++y::post,E')=some (.inl (all&&(!nd||y.BO),((pre.length+1:Nat):Int),A++y::post,E')):=fun y E'=>by dsimp only [Zt21];rw [at1,OB];simp only [j7];cases all<;>cases nd<;>rfl
 have j4:∀(y:SX) (E':List ML),E'.length≤950000→Zv21 id ph th N all (pre.length:Int) nd (A++y::post,E') =
   if decide (th=1)&&(nd&&(y.Ask&&!y.BO)) then some (.inl (all&&(!nd||y.BO),((pre.length+1:Nat):Int),A++{y with Ask:=false}::post,E'++[⟨id,y.PE,⟨4,y.EP,0⟩⟩])) else some (.inl (all&&(!nd||y.BO),((pre.length+1:Nat):Int),A++y::post,E')):=fun y E' hE'=>by
  have j5:∀z,Zu21 id ph th N all (pre.length:Int) nd (A++y::post) E' z=if z then some (.inl (all&&(!nd||y.BO),((pre.length+1:Nat):Int),A++{y with Ask:=false}::post,E'++[⟨id,y.PE,⟨4,y.EP,0⟩⟩])) else some (.inl (all&&(!nd||y.BO),((pre.length+1:Nat):Int),A++y::post,E')):=fun z=>by
   cases z with
   | false=>dsimp only [Zu21];rw [Zia1,j6];rfl
   | true=>dsimp only [Zu21];rw [Zha1,at1,OB,st1,Z6e1 _ _ _ _ _ _ _ _ (by omega),OB,j6];rfl
  dsimp only [Zv21];rw [at1,OB];simp only [j5];cases decide (th=1)<;>cases nd<;>cases y.Ask<;>rfl
 have j3:∀z,Zw21 id ph th N all (pre.length:Int) (A++x::post) E x nd z=if z then Zv21 id ph th N all (pre.length:Int) nd (A++{x with BO:=false}::post,E++[⟨id,x.PE,⟨3,x.EP,0⟩⟩]) else Zv21 id ph th N all (pre.length:Int) nd (A++x::post,E):=fun z=>by
  cases z with
  | false=>dsimp only [Zw21];rw [Zia1];rfl
  | true=>dsimp only [Zw21];rw [Zha1,st1,Z6e1 _ _ _ _ _ _ _ _ (by omega),OB];rfl
 have j2:∀z,Zx21 id ph th N all (pre.length:Int) (A++x::post) E x nd z=Zw21 id ph th N all (pre.length:Int) (A++x::post) E x nd (x.BO&&(x.Ask&&!z)):=fun z=>by dsimp only [Zx21];cases x.BO<;>cases x.Ask<;>rfl
 have e:Zz21 id ph th l N (all,(pre.length:Int),A++x::post,E)=Zw21 id ph th N all (pre.length:Int) (A++x::post) E x nd (x.BO&&(x.Ask&&!Z2e1 nd th x)):=by dsimp only [Zz21];rw [Zoa1 hx,Zha1,at1,OB,Z3c1 N _ U,OB,h6];dsimp only [Zy21];simp only [j2];unfold Z2e1;cases nd<;>cases decide (th=2)<;>cases decide (th=1)<;>rfl
 rw [e,j3];cases hz:(x.BO&&(x.Ask&&!Z2e1 nd th x)) with
 | false=>
   have b1:bot1 nd th x=x:=by unfold bot1;rw [hz];rfl
   rw [if_neg (by simp),j4 _ _ (by omega)];unfold bot2 botM;rw [b1,hz];cases (decide (th=1)&&(nd&&(x.Ask&&!x.BO)))<;>simp
 | true=>
   have b1:bot1 nd th x={x with BO:=false}:=by unfold bot1;rw [hz];rfl
   rw [if_pos rfl,j4 _ _ (by simp;omega)];unfold bot2 botM;rw [b1,hz];cases (decide (th=1)&&(nd&&(x.Ask&&!false)))<;>simp
theorem Z8e1 (id ph th:Int) (N:List Int) (J:N.length≤1000000) (l:List SX) (hl:l.length≤5000) (E:List ML) (U:E.length≤800000):
  Z031 id ph th l N E=some (if decide (th=1)&&(l.map fun x=>bot2 (decide (x.PE∈N)) th x).all (fun x=>!decide (x.PE∈N)||x.BO) then 2 else th,l.map fun x=>bot2 (decide (x.PE∈N)) th x,E++l.flatMap fun x=>botM id (decide (x.PE∈N)) th x):=by
 have:=Z3b1 l (Zz21 id ph th l N) (fun pre=>((pre.map fun x=>bot2 (decide (x.PE∈N)) th x).all (fun x=>!decide (x.PE∈N)||x.BO),(pre.length:Int),(pre.map fun x=>bot2 (decide (x.PE∈N)) th x)++l.drop pre.length,E++pre.flatMap fun x=>botM id (decide (x.PE∈N)) th x))
  (fun _ _=>some (if decide (th=1)&&(l.map fun x=>bot2 (decide (x.PE∈N)) th x).all (fun x=>!decide (x.PE∈N)||x.BO) then 2 else th,l.map fun x=>bot2 (decide (x.PE∈N)) th x,E++l.flatMap fun x=>botM id (decide (x.PE∈N)) th x)) (fun pre x post h=>.inl ⟨by
    have hd:l.drop pre.length=x::post:=by rw [h];simp
    have hd':l.drop (pre++[x]).length=post:=by rw [h];simp
    have hm:=Z7b1 h;have hE':=Z5e1 N id th pre;rw [hd,hd',Z7e1 id ph th N J l hl pre post x h _ _ (by simp) _ (by rw [List.length_append];omega),Zbb1];have hp:=(Z3e1 (decide (x.PE∈N)) th x).1;simp [hp],rfl⟩) (by
  dsimp only [Zz21];rw [Zpa1,Zia1];dsimp only [Zr21];rw [List.drop_length,List.append_nil];cases decide (th=1) with
  | false=>rfl
  | true=>cases (l.map fun x=>bot2 (decide (x.PE∈N)) th x).all (fun x=>!decide (x.PE∈N)||x.BO)<;>rfl)
 unfold Z031;simpa using this
def Z9e1 (d:DK):Int:=if decide (d.TH=1)&&decide (d.DI.PH=0) then 1 else if decide (d.DI.PH=2)&&(!decide (d.TH=1)&&!d.DI.SD.any (fun x=>decide (x.SS=1))) then 0 else d.DI.PH
def Zae1 (d:DK):DI:=⟨d.DI.ID,Z9e1 d,d.DI.SD⟩
def Zbe1 (d:DK):List SX:=(Znd1 (Zae1 d)).SD.map fun x=>bot2 (Z1e1 d x) d.TH x
def Zce1 (d:DK):Int:=if decide (d.TH=1)&&(Zbe1 d).all (fun x=>!Z1e1 d x||x.BO) then 2 else d.TH
def Zde1 (d:DK):DK:=⟨⟨d.DI.ID,(Znd1 (Zae1 d)).PH,Zbe1 d⟩,Zce1 d,d.NE⟩
def Zee1 (d:DK):List ML:=Zod1 (Zae1 d)++(Znd1 (Zae1 d)).SD.flatMap fun x=>botM d.DI.ID (Z1e1 d x) d.TH x
theorem Zfe1 {d:DK} (h:okD d.DI=true):okD (Zae1 d)=true:=by
 simp only [okD,Bool.and_eq_true,decide_eq_true_eq] at h ⊢;refine ⟨h.1,?_,?_,h.2.2.2⟩
 ·show 0≤Z9e1 d;unfold Z9e1;split
  ·omega
  ·split<;>omega
 ·show Z9e1 d≤2;unfold Z9e1;split
  ·omega
  ·split<;>omega
theorem Zge1 (d:DI):(Znd1 d).SD.length=d.SD.length:=by rw [Zvd1];simp
theorem Zhe1 (d:DK) (h:okD d.DI=true) (J:d.NE.length≤1000000) (out:List ML) (U:out.length≤700000):
  Zq61 d.DI.ID d.DI.PH d.TH d.DI.SD d.NE out=some ((Zde1 d).DI.ID,(Zde1 d).DI.PH,(Zde1 d).TH,(Zde1 d).DI.SD,out++Zee1 d):=by
 have hl:=Zid1 h;have hp:=Zfe1 h;have hd:=Zqd1 d.DI.SD d.DI.ID (Z9e1 d);have e0:(Zae1 d).SD=d.DI.SD:=rfl;have h9:=Zge1 (Zae1 d);rw [e0] at h9;have j2:Zn61 d.DI.ID d.TH d.DI.SD d.NE out (Z9e1 d)=some ((Zde1 d).DI.ID,(Zde1 d).DI.PH,(Zde1 d).TH,(Zde1 d).DI.SD,out++Zee1 d):=by
  dsimp only [Zn61];have e1:(⟨d.DI.ID,Z9e1 d,d.DI.SD⟩:DI)=Zae1 d:=rfl;have hf:(Zod1 (Zae1 d)).length≤130:=by unfold Zod1;rw [e0];show (d.DI.SD.flatMap (Zld1 d.DI.ID (Z9e1 d))).length≤130;omega
  rw [e1,Z0e1,hp,if_pos rfl,OB];dsimp only;rw [Zna1 _ _ (by omega) (by omega),OB,Z8e1 _ _ _ _ J _ (by omega) _ (by rw [List.length_append];omega),OB];rw [Zwd1,List.append_assoc];rfl
 have h6:∀z:Int,z=Z9e1 d→Zn61 d.DI.ID d.TH d.DI.SD d.NE out z=some ((Zde1 d).DI.ID,(Zde1 d).DI.PH,(Zde1 d).TH,(Zde1 d).DI.SD,out++Zee1 d):=fun z e=>by rw [e];exact j2
 have hc:=Zmb1 d.DI.SD (fun z=>Znm z) (fun x=>decide (x.SS=1)) (by omega) (fun x _=>rfl);dsimp only [Zq61,Zp61,Zo61];rw [hc,OB];unfold Z9e1 at h6;by_cases h1:d.TH=1
 ·rw [DT h1] at h6 ⊢;by_cases h2:d.DI.PH=0
  ·rw [DT h2] at h6 ⊢;exact h6 1 rfl
  ·rw [DN h2] at h6 ⊢;have:=h6 d.DI.PH (by simp);rw [Zha1,Zia1,this];cases decide (d.DI.PH=2)<;>rfl
 ·rw [DN h1] at h6 ⊢;rw [Zia1,Zia1];by_cases h2:d.DI.PH=2
  ·rw [DT h2] at h6 ⊢;cases h8:d.DI.SD.any (fun x=>decide (x.SS=1)) with
   | true=>rw [h8] at h6;exact h6 d.DI.PH (by simp)
   | false=>rw [h8] at h6;exact h6 0 (by simp)
  ·rw [DN h2] at h6 ⊢;exact h6 d.DI.PH (by simp)
def Zie1 (x:SX):Nat:=bn x.FK+bn x.TO+bn x.BO+bn x.Ask
def bits (l:List SX):Nat:=(l.map Zie1).sum
def rank (th ph:Int):Nat:=if th=1 then (if ph=0 then 5 else if ph=1 then 4 else 3) else (if ph=1 then 2 else if ph=2 then 1 else 0)
def mu (d:DK):Nat:=bits d.DI.SD+rank d.TH d.DI.PH
theorem Zje1 (id ph:Int) (x:SX):Zie1 (Zkd1 ph x)+(Zld1 id ph x).length=Zie1 x:=by obtain ⟨p,e,st,f,d,t,bo,ask⟩:=x;unfold Zld1 Zkd1 Zjd1 Zie1 bn;generalize h1:decide (ph=1)=q1;generalize h2:decide (ph=2)=q2;cases f<;>cases d<;>cases t<;>cases q1<;>cases q2<;>simp<;>omega
theorem Zke1 (id:Int) (nd:Bool) (th:Int) (x:SX):Zie1 (bot2 nd th x)+(botM id nd th x).length=Zie1 x:=by obtain ⟨p,e,st,f,d,t,bo,ask⟩:=x;unfold botM bot2 bot1 Z2e1 Zie1 bn;generalize h1:decide (th=1)=q1;generalize h2:decide (th=2)=q2;cases bo<;>cases ask<;>cases nd<;>cases q1<;>cases q2<;>cases f<;>simp<;>omega
theorem Zle1 (d:DI) (x:SX):Zie1 (Zud1 d x)=Zie1 (Zkd1 d.PH x):=by unfold Zud1;split<;>rfl
theorem Zme1 (d:DK):bits (Zde1 d).DI.SD+(Zee1 d).length=bits d.DI.SD:=by
 have key:∀l:List SX,((l.map fun x=>bot2 (Z1e1 d (Zud1 (Zae1 d) x)) d.TH (Zud1 (Zae1 d) x)).map Zie1).sum+((l.flatMap (Zld1 d.DI.ID (Z9e1 d))).length+((l.map (Zud1 (Zae1 d))).flatMap fun x=>botM d.DI.ID (Z1e1 d x) d.TH x).length)=(l.map Zie1).sum:=by
  intro l;induction l with
  | nil=>rfl
  | cons x l ih=>have h1:=Zje1 d.DI.ID (Z9e1 d) x;have h2:=Zke1 d.DI.ID (Z1e1 d (Zud1 (Zae1 d) x)) d.TH (Zud1 (Zae1 d) x);have h3:=Zle1 (Zae1 d) x;have e:(Zae1 d).PH=Z9e1 d:=rfl;rw [e] at h3;simp only [List.map_cons,List.sum_cons,List.flatMap_cons,List.length_append];omega
 have:=key d.DI.SD;unfold bits Zee1;rw [List.length_append,Zvd1];show (((Zbe1 d).map Zie1).sum+_=_);unfold Zbe1;rw [Zvd1];simp only [List.map_map] at this ⊢;exact this
theorem Zne1 (d:DI):(Znd1 d).PH=d.PH∧(decide (d.PH=1)&&(d.SD.map (Zkd1 d.PH)).all (·.FK))=false∨d.PH=1∧(Znd1 d).PH=2:=by
 unfold Znd1;cases hq:decide (d.PH=1)&&(d.SD.map (Zkd1 d.PH)).all (·.FK) with
 | false=>exact .inl ⟨rfl,rfl⟩
 | true=>rw [Bool.and_eq_true,decide_eq_true_eq] at hq;exact .inr ⟨hq.1,rfl⟩
theorem Zoe1 {id ph:Int} {x:SX} (h:Zld1 id ph x=[]):Zkd1 ph x=x:=by
 obtain ⟨p,e,st,f,d,t,bo,ask⟩:=x;unfold Zld1 at h;unfold Zkd1;rw [List.append_eq_nil_iff] at h;obtain ⟨h1,h2⟩:=h;split at h1
 ·simp at h1
 ·rename_i q1;split at h2
  ·simp at h2
  ·rename_i q2;rw [if_neg q2];unfold Zjd1;rw [if_neg q1]
theorem Zpe1 {id:Int} {nd:Bool} {th:Int} {x:SX} (h:botM id nd th x=[]):bot2 nd th x=x:=by
 unfold botM at h;unfold bot2;rw [List.append_eq_nil_iff] at h;obtain ⟨h1,h2⟩:=h;split at h1
 ·simp at h1
 ·rename_i q1;split at h2
  ·simp at h2
  ·rename_i q2;rw [if_neg q2];unfold bot1;rw [if_neg q1]
theorem Zqe1 {α:Type} {f:α→α}:∀ {l:List α},(∀x∈l,f x=x)→l.map f=l
 | [],_=>rfl
 | x::l,h=>by rw [List.map_cons,h x (by simp),Zqe1 fun y hy=>h y (by simp [hy])]
theorem Zre1 {th ph ph' th':Int} (h0:0≤ph) (h2:ph≤2) (d:DK) (J:d.TH=th∧d.DI.PH=ph) (h1:ph'=Z9e1 d∨Z9e1 d=1∧ph'=2) (ht:th'=th∨th=1∧th'=2):rank th' ph'<rank th ph∨th'=th∧ph'=ph∧Z9e1 d=ph:=by
 obtain ⟨d1,d2⟩:=J;unfold Z9e1 at h1 ⊢;rw [d1,d2] at h1 ⊢;unfold rank;have hp:ph=0∨ph=1∨ph=2:=by omega
 by_cases h6:th=1
 ·subst h6;rcases hp with rfl | rfl | rfl<;>rcases ht with rfl | ⟨_,rfl⟩<;>simp at h1 ⊢ <;>rcases h1 with rfl | h1<;>simp_all
 ·have:th'=th:=by rcases ht with h | h;exact h;exact absurd h.1 h6
  subst this;rcases hp with rfl | rfl | rfl
  ·simp [h6] at h1 ⊢;rcases h1 with rfl | h1<;>simp_all
  ·simp [h6] at h1 ⊢;rcases h1 with rfl | h1<;>simp_all
  ·cases h8:d.DI.SD.any (fun x=>decide (x.SS=1))<;>simp [h6,h8] at h1 ⊢ <;>simp_all
theorem Zse1 {d:DK} (h0:0≤d.DI.PH) (h2:d.DI.PH≤2):Zde1 d=d∧Zee1 d=[]∨mu (Zde1 d)<mu d:=by
 have hb:=Zme1 d;have hf:=Zne1 (Zae1 d);have ht:Zce1 d=d.TH∨d.TH=1∧Zce1 d=2:=by
  unfold Zce1;cases hh:decide (d.TH=1)&&(Zbe1 d).all (fun x=>!Z1e1 d x||x.BO) with
  | false=>left;rfl
  | true=>right;rw [Bool.and_eq_true,decide_eq_true_eq] at hh;exact ⟨hh.1,rfl⟩
 have e1:(Zde1 d).DI.PH=(Znd1 (Zae1 d)).PH:=rfl;have e2:(Zde1 d).TH=Zce1 d:=rfl;have hr:=Zre1 (th':=Zce1 d) (ph':=(Znd1 (Zae1 d)).PH) h0 h2 d ⟨rfl,rfl⟩ (by
  rcases hf with ⟨q,_⟩ | ⟨q1,q2⟩
  ·exact .inl q
  ·exact .inr ⟨q1,q2⟩) ht
 unfold mu;rw [e1,e2];rcases hr with hr | ⟨r1,r2,r3⟩
 ·right;omega
 ·by_cases hm:(Zee1 d).length=0
  ·left;have hm':Zee1 d=[]:=List.eq_nil_of_length_eq_zero hm;refine ⟨?_,hm'⟩;unfold Zee1 at hm';rw [List.append_eq_nil_iff] at hm';obtain ⟨m1,m2⟩:=hm';have h8:∀x∈d.DI.SD,Zud1 (Zae1 d) x=x:=fun x hx=>by
    have h6:Zld1 d.DI.ID (Z9e1 d) x=[]:=by
     have:∀y∈Zld1 d.DI.ID (Z9e1 d) x,y∈Zod1 (Zae1 d):=fun y hy=>List.mem_flatMap.2 ⟨x,hx,hy⟩;rw [m1] at this;cases hc:Zld1 d.DI.ID (Z9e1 d) x with
     | nil=>rfl
     | cons y l=>exact absurd (this y (by rw [hc];simp)) (by simp)
    have h9:Zkd1 (Z9e1 d) x=x:=Zoe1 h6;unfold Zud1;rw [show (Zae1 d).PH=Z9e1 d from rfl];split
    ·rename_i hc;exfalso;rcases hf with ⟨q,q'⟩ | ⟨q1,q2⟩
     ·have:=q';rw [show (Zae1 d).PH=Z9e1 d from rfl] at this;rw [this] at hc;simp at hc
     ·rw [show (Zae1 d).PH=Z9e1 d from rfl] at q1;rw [q1] at r3;rw [q2] at r2;omega
    ·exact h9
   have hS:(Znd1 (Zae1 d)).SD=d.DI.SD:=by rw [Zvd1];exact Zqe1 h8
   have hB:Zbe1 d=d.DI.SD:=by
    unfold Zbe1;rw [hS];refine Zqe1 fun x hx=>?_;have h6:botM d.DI.ID (Z1e1 d x) d.TH x=[]:=by
     rw [hS] at m2;have:∀y∈botM d.DI.ID (Z1e1 d x) d.TH x,y∈d.DI.SD.flatMap fun x=>botM d.DI.ID (Z1e1 d x) d.TH x:=fun y hy=>List.mem_flatMap.2 ⟨x,hx,hy⟩;rw [m2] at this;cases hc:botM d.DI.ID (Z1e1 d x) d.TH x with
     | nil=>rfl
     | cons y l=>exact absurd (this y (by rw [hc];simp)) (by simp)
    exact Zpe1 h6
   unfold Zde1;rw [hB,r1,r2]
  ·right;rw [r1,r2];omega
theorem Zte1 (id:Int) (f:SX→SX):∀(l:List SX) (q:Int),(∀x∈l,(f x).PE=x.PE∧∀q,Z9d1 id q x=true→Z9d1 id q (f x)=true)→Zad1 id q l=true→Zad1 id q (l.map f)=true
 | [],_,_,_=>rfl
 | x::l,q,h,hk=>by obtain ⟨h1,h2⟩:=h x (by simp);simp only [List.map_cons,Zad1,Bool.and_eq_true] at hk ⊢;refine ⟨h2 q hk.1,?_⟩;rw [h1];exact Zte1 id f l x.PE (fun y hy=>h y (by simp [hy])) hk.2
theorem Zue1 {d:DI} (h:okD d=true) {p:Int} (h0:0≤p) (h2:p≤2) (f:SX→SX) (J:∀x∈d.SD,(f x).PE=x.PE∧∀q,Z9d1 d.ID q x=true→Z9d1 d.ID q (f x)=true):okD ⟨d.ID,p,d.SD.map f⟩=true:=by simp only [okD,Bool.and_eq_true,decide_eq_true_eq] at h ⊢;exact ⟨h.1,h0,h2,by simpa using h.2.2.2.1,Zte1 d.ID f d.SD (-1) J h.2.2.2.2⟩
theorem Zve1 {id q:Int} {x y:SX} (hp:y.PE=x.PE) (he:y.EP=x.EP) (hs:y.SS=x.SS) (J:(x.DY=true→x.FK=true)→y.DY=true→y.FK=true) (h:Z9d1 id q x=true):Z9d1 id q y=true:=by
 unfold Z9d1 at h ⊢;rw [hp,he,hs];simp only [Bool.and_eq_true] at h ⊢;refine ⟨h.1,h.2.1,h.2.2.1,h.2.2.2.1,h.2.2.2.2.1,h.2.2.2.2.2.1,?_⟩;have h7:=h.2.2.2.2.2.2;cases h6:y.DY with
 | false=>rfl
 | true=>
   have:x.DY=true→x.FK=true:=fun e=>by
    rw [e] at h7;cases hf:x.FK with
    | true=>rfl
    | false=>rw [hf] at h7;simp at h7
   rw [J this h6];rfl
theorem Zwe1 {d:DI} (h:okD d=true):okD (Znd1 d)=true:=by
 have hh:=h;simp only [okD,Bool.and_eq_true,decide_eq_true_eq] at hh;have hp:0≤(Znd1 d).PH∧(Znd1 d).PH≤2:=by
  rcases Zne1 d with ⟨q,_⟩ | ⟨_,q⟩
  ·rw [q];exact ⟨hh.2.1,hh.2.2.1⟩
  ·rw [q];omega
 have:=Zue1 h hp.1 hp.2 (Zud1 d) fun x hx=>by
  obtain ⟨p1,p2,p3,_⟩:=Zxd1 d x;refine ⟨p1,fun q=>Zve1 p1 p2 p3 fun hd=>?_⟩;unfold Zud1;split
  ·rename_i hc;rw [Bool.and_eq_true,List.all_eq_true] at hc;exact fun _=>hc.2 (Zkd1 d.PH x) (List.mem_map_of_mem hx)
  ·exact Zsd1 _ _ hd
 rw [←Zvd1] at this;rw [show Znd1 d=⟨d.ID,(Znd1 d).PH,(Znd1 d).SD⟩ by rw [←Zwd1 d]];exact this
theorem Zxe1 {d:DK} (h:okD d.DI=true):okD (Zde1 d).DI=true:=by
 have h1:=Zwe1 (Zfe1 h);have hh:=h1;simp only [okD,Bool.and_eq_true,decide_eq_true_eq] at hh;have:=Zue1 h1 hh.2.1 hh.2.2.1 (fun x=>bot2 (Z1e1 d x) d.TH x) fun x _=>by obtain ⟨p1,p2,p3,p4,p5,_⟩:=Z3e1 (Z1e1 d x) d.TH x;exact ⟨p1,fun q=>Zve1 p1 p2 p3 fun hd e=>by rw [p4];rw [p5] at e;exact hd e⟩
 rw [Zwd1] at this;exact this
def Zye1:Nat→DK→List ML→DK×List ML
 | 0,d,out=>(d,out)
 | n+1,d,out=>if Zde1 d=d then (d,out) else Zye1 n (Zde1 d) (out++Zee1 d)
def Zze1 (d:DK):DK×List ML:=Zye1 300 d []
theorem Z0f1 (l m:List Int) (hl:l.length≤1000000):Zvm l m=some (decide (l=m)):=by
 simp only [Zvm,Zhb1];by_cases h:l.length=m.length
 ·simp only [h,decide_true,Bool.not_true,Zia1];rw [Zeb1 l m _ (fun x y=>decide (x=y)) h (by omega) (fun k x y hx hy=>by simp only [Zum,Zoa1 hx,Zha1,Zla1 hx,Zla1 hy,OB,Zra1 hx (show l.length≤4000000000000000000 by omega),Zja1];cases decide (x=y)<;>rfl) (by simp only [Zum,Zpa1,Zia1,Ztm,Option.map_some]),Zfb1 l m h]
 ·simp [h,Zgb1 h]
theorem Z1f1 (i p t:Int) (S:List SX) (N:List Int) (hs:S.length≤1000000) (J:N.length≤1000000):Z1y i p t S N=some (S,N):=by simp only [Z1y,Zhd1 _ hs,Zqc1 _ J,OB,Z0y]
theorem Z2f1 (a b:DK) (hs:a.DI.SD.length≤1000000) (J:a.NE.length≤1000000):Zmx a b=some (decide (a=b)):=by obtain ⟨⟨i,p,s⟩,t,n⟩:=a;obtain ⟨⟨i',p',s'⟩,t',n'⟩:=b;simp only at hs J;simp only [Zmx,Zws,Zvs,Zlx,Z6d1 s s' hs,Z0f1 n n' J,OB,DK.mk.injEq,DI.mk.injEq];by_cases h1:i=i'<;>by_cases h2:p=p'<;>by_cases h3:s=s'<;>by_cases h4:t=t'<;>by_cases h5:n=n'<;>simp [h1,h2,h3,h4,h5]
theorem Z3f1 (l:List SX):bits l≤4*l.length:=by
 induction l with
 | nil=>simp [bits]
 | cons x l ih=>
   have:Zie1 x≤4:=by unfold Zie1 bn;split<;>split<;>split<;>split<;>omega
   unfold bits at ih ⊢;simp only [List.map_cons,List.sum_cons,List.length_cons];omega
theorem Z4f1 {d:DK} (h:okD d.DI=true):mu d≤257:=by
 have h1:=Zid1 h;have h2:=Z3f1 d.DI.SD;have:rank d.TH d.DI.PH≤5:=by unfold rank;(repeat' split)<;>omega
 unfold mu;omega
theorem Z5f1 {d:DI} (h:okD d=true):0≤d.PH∧d.PH≤2:=by simp only [okD,Bool.and_eq_true,decide_eq_true_eq] at h;exact ⟨h.2.1,h.2.2.1⟩
theorem Z6f1 (S0:List SX) (N:List Int) (J:N.length≤1000000):∀(n:Nat) (d:DK) (out:List ML),d.NE=N→okD d.DI=true→mu d≤n→out.length+bits d.DI.SD≤600000→
  loop (Z781 (S0,N)) (d.DI.ID,d.DI.PH,d.TH,d.DI.SD,out)=some ((Zye1 (n+1) d out).1.DI.ID,(Zye1 (n+1) d out).1.DI.PH,(Zye1 (n+1) d out).1.TH,0,(Zye1 (n+1) d out).1.DI.SD,N,(Zye1 (n+1) d out).2):=fun n=>by
 have step:∀(d:DK) (out:List ML),d.NE=N→okD d.DI=true→out.length+bits d.DI.SD≤600000→Z781 (S0,N) (d.DI.ID,d.DI.PH,d.TH,d.DI.SD,out)=if Zde1 d=d then some (.inr (d.DI.ID,d.DI.PH,d.TH,0,d.DI.SD,N,out)) else some (.inl ((Zde1 d).DI.ID,(Zde1 d).DI.PH,(Zde1 d).TH,(Zde1 d).DI.SD,out++Zee1 d)):=fun d out hd hk ho=>by
  have hl:=Zid1 hk;have hp:=Z5f1 hk;have e:(⟨⟨d.DI.ID,d.DI.PH,d.DI.SD⟩,d.TH,N⟩:DK)=d:=by rw [←hd]
  dsimp only [Z781];have h6:=Zhe1 d hk (by rw [hd];exact J) out (by omega);rw [hd] at h6;rw [Z1f1 _ _ _ _ _ (by omega) J,OB,h6,OB];dsimp only;have e2:(⟨⟨(Zde1 d).DI.ID,(Zde1 d).DI.PH,(Zde1 d).DI.SD⟩,(Zde1 d).TH,N⟩:DK)=Zde1 d:=by rw [←hd];rfl
  rw [e,e2,Z2f1 d _ (by omega) (by rw [hd];exact J),OB];dsimp only [Z681,Z581];by_cases hq:Zde1 d=d
  ·rw [if_pos hq,DT hq.symm,Zha1];have hm:Zee1 d=[]:=by
    rcases Zse1 hp.1 hp.2 with h1 | h1
    ·exact h1.2
    ·rw [hq] at h1;omega
   rw [hm,List.append_nil,hq];rfl
  ·rw [if_neg hq,DN fun e=>hq e.symm,Zia1]
 induction n with
 | zero=>
   intro d out hd hk hm ho;have hp:=Z5f1 hk;have hq:Zde1 d=d:=by
    rcases Zse1 hp.1 hp.2 with h1 | h1
    ·exact h1.1
    ·omega
   rw [Zdc,step d out hd hk ho,if_pos hq];unfold Zye1;rw [if_pos hq]
 | succ n ih=>
   intro d out hd hk hm ho;have hp:=Z5f1 hk;rw [Zdc,step d out hd hk ho];unfold Zye1;by_cases hq:Zde1 d=d
   ·rw [if_pos hq,if_pos hq]
   ·rw [if_neg hq,if_neg hq];have hb:=Zme1 d;refine ih (Zde1 d) (out++Zee1 d) hd (Zxe1 hk) ?_ (by rw [List.length_append];omega);rcases Zse1 hp.1 hp.2 with h1 | h1
    ·exact absurd h1.1 hq
    ·omega
def okI:Option Int→List Int→Bool
 | _,[]=>true
 | p,x::r=>(match p with | none=>true | some q=>decide (q<x))&&okI (some x) r
def Z7f1 (d:DI) (p:Int):Bool:=d.SD.any fun x=>decide (x.PE=p)
def okDr (d:DK):Bool:=okD d.DI&&(decide (0≤d.TH)&&(decide (d.TH≤2)&&(okI none d.NE&&(!(decide (d.TH=0)&&decide (0<d.NE.length))&&d.NE.all (Z7f1 d.DI)))))
theorem Z8f1 (l:List Int) (hl:l.length≤1000000):Zml l=some (okI none l):=by
 unfold Zml;refine Z3b1 l (Zll l) (fun pre=>(pre.length:Int)) (fun pre post=>some (okI pre.getLast? post)) (fun pre x post h=>?_) ?_
 ·have hx:=Z6b1 h;have hm:=Z7b1 h;have j2:∀z,Zkl (pre.length:Int) z=if z then some (.inr false) else some (.inl ((pre.length+1:Nat):Int)):=fun z=>by
   cases z with
   | true=>rfl
   | false=>dsimp only [Zkl];rw [Zia1,Zqa1 (by omega)];rfl
  dsimp only [Zll];rw [Zoa1 hx,Zha1];rcases List.eq_nil_or_concat pre with rfl | ⟨q,y,rfl⟩
  ·left;rw [show decide ((0:Int)<(([]:List Int).length:Nat))=false from rfl,Zia1,j2];exact ⟨rfl,rfl⟩
  ·rw [List.concat_eq_append] at *;have hy:l[q.length]?=some y:=by rw [h];simp
   rw [DT (show (0:Int)<((q++[y]).length:Nat) by rw [Zbb1];omega),Zha1];have e1:wr (((q++[y]).length:Nat)-1)=(q.length:Int):=by rw [Zbb1] at hm ⊢;rw [Zka1 (by omega) (by omega)];omega
   rw [e1,Zla1 hy,OB,Zla1 hx,OB,j2];by_cases hc:x≤y
   ·right;refine ⟨false,by rw [DT hc];rfl,?_⟩;have:¬y<x:=by omega
    simp [okI,this]
   ·left;have:y<x:=by omega
    refine ⟨by rw [DN hc,Zbb1 (q++[y])];rfl,?_⟩;simp [okI,this]
 ·dsimp only [Zll];rw [Zpa1,Zia1];rfl
theorem Z9f1 (d:DK) (J:d.NE.length≤1000000):Za41 d=some (if okDr d then 0 else 150):=by
 simp only [Za41,Zgd1,OB];unfold okDr;cases hk:okD d.DI with
 | false=>rfl
 | true=>
   have hl:=Zid1 hk;rw [if_pos rfl,show decide ((0:Int)=0)=true from rfl,Bool.not_true,Zia1];by_cases h1:d.TH<0
   ·rw [DT h1,Zha1,DN (show ¬0≤d.TH by omega)];rfl
   ·rw [DN h1,Zia1,DT (show 0≤d.TH by omega)];by_cases h2:2<d.TH
    ·rw [DT h2,DN (show ¬d.TH≤2 by omega)];rfl
    ·rw [DN h2,DT (show d.TH≤2 by omega)];dsimp only [Z941];rw [Zia1,Z8f1 _ J,OB];cases hv:okI none d.NE with
     | false=>rfl
     | true=>
       rw [Bool.not_true,Zia1];have j3:∀z,Z841 d z=some (if (!z&&d.NE.all (Z7f1 d.DI))=true then 0 else 150):=fun z=>by
        cases z with
        | true=>rfl
        | false=>dsimp only [Z841];rw [Zia1,Zob1 d.NE (fun z=>Zjx z d) (fun p=>!Z7f1 d.DI p) (by omega) (fun p _=>by simp only [Zjx];rw [Zmb1 d.DI.SD (fun z=>Zrm z p) (fun x=>decide (x.PE=p)) (by omega) (fun x _=>rfl),OB];rfl),OB];have e1:d.NE.any (fun p=>!Z7f1 d.DI p)=!d.NE.all (Z7f1 d.DI):=Zsb1 _ _ _ fun _=>rfl;rw [e1];cases d.NE.all (Z7f1 d.DI)<;>rfl
       rw [ln_eq];simp only [j3,Bool.true_and];have e3:decide ((0:Int)<(d.NE.length:Nat))=decide (0<d.NE.length):=by rw [decide_eq_decide];omega
       rw [e3];cases decide (d.TH=0)<;>rfl
theorem Zaf1 {d:DK} (h:okDr d=true):okD d.DI=true:=by unfold okDr at h;rw [Bool.and_eq_true] at h;exact h.1
theorem Zbf1:∀(n:Nat) (d:DK) (out:List ML),(Zye1 n d out).1.NE=d.NE
 | 0,_,_=>rfl
 | n+1,d,out=>by
   unfold Zye1;split
   ·rfl
   ·rw [Zbf1 n];rfl
theorem Zcf1 (d:DK) (hk:okDr d=true) (J:d.NE.length≤1000000):Z881 d.DI.ID d.DI.PH d.TH d.DI.SD d.NE=some ((Zze1 d).1.DI.ID,(Zze1 d).1.DI.PH,(Zze1 d).1.TH,0,(Zze1 d).1.DI.SD,d.NE,(Zze1 d).2):=by have h6:=Zaf1 hk;have hl:=Zid1 h6;have hb:=Z3f1 d.DI.SD;have hm:=Z4f1 h6;dsimp only [Z881];rw [show (⟨⟨d.DI.ID,d.DI.PH,d.DI.SD⟩,d.TH,d.NE⟩:DK)=d from rfl,Z9f1 d J,OB,if_pos hk,show decide ((0:Int)=0)=true from rfl,Bool.not_true,Zia1,Z1f1 _ _ _ _ _ (by omega) J,OB,Z6f1 _ d.NE J 299 d [] rfl h6 (by omega) (by simp only [List.length_nil];omega)];rfl
theorem Zdf1 (d:DK) (hk:okDr d=true) (J:d.NE.length≤1000000):Zj61 d.DI.ID d.DI.PH d.TH d.DI.SD d.NE=some (if d.TH=0 then (0,0,152,[]) else (d.DI.ID,d.DI.PH,0,d.DI.SD)):=by
 have hl:=Zid1 (Zaf1 hk);dsimp only [Zj61];rw [show (⟨⟨d.DI.ID,d.DI.PH,d.DI.SD⟩,d.TH,d.NE⟩:DK)=d from rfl,Z9f1 d J,OB,if_pos hk,show decide ((0:Int)=0)=true from rfl,Bool.not_true,Zia1];by_cases h1:d.TH=0
 ·rw [DT h1,Zha1,if_pos h1]
 ·rw [DN h1,Zia1,if_neg h1,Z1f1 _ _ _ _ _ (by omega) J,OB]
def Zef1 (k:Int) (x:SX):Bool:=if k=1 then x.FK else if k=2 then x.TO else if k=4 then x.Ask else x.BO
def layK (k:Int) (x:SX):SX:=if k=1 then {x with FK:=true} else if k=2 then {x with TO:=true} else if k=4 then {x with Ask:=true} else {x with BO:=true}
theorem Zff1 (i p J:Int) (m:Msg) (S:List SX) (hk:okD ⟨i,p,S⟩=true) {j:Nat} {x:SX} (U:S.findIdx? (fun x=>decide (x.PE=J)&&decide (x.EP=m.EP))=some j) (hx:S[j]?=some x) (h0:m.Num=0) (hm:m.KI=1∨m.KI=2):
  Z861 i p J m S=some (if Zef1 m.KI x then (0,0,132,[]) else (i,p,0,S.set j (layK m.KI x))):=by
 have hl:S.length<64:=Zid1 hk;dsimp only [Z861];rw [Zgd1,if_pos hk,OB,show decide ((0:Int)=0)=true from rfl,Bool.not_true,Zia1,Zib1 S (fun z=>Zhm z J m) (fun x=>decide (x.PE=J)&&decide (x.EP=m.EP)) (by omega) (fun x _=>by simp only [Zhm,Zgm];cases decide (x.PE=J)<;>rfl),OB,Zxa1,U,Option.isNone_some,Zia1,Zhd1 S (by omega),OB];dsimp only [plc];rw [Zla1 hx,OB];dsimp only [Z761,Z561,Z661];rw [DT h0,Int.toNat_natCast];rcases hm with hm | hm
 ·rw [hm,show decide ((1:Int)=1)=true from rfl,Zha1,Zha1];simp only [Zef1,layK,if_true];cases x.FK<;>rfl
 ·rw [hm,show decide ((2:Int)=1)=false from rfl,Zia1,Zia1,show decide ((2:Int)=2)=true from rfl,Zha1,Zha1];simp only [Zef1,layK,if_true,show ¬(2:Int)=1 by omega,if_false];cases x.TO<;>rfl
theorem Zgf1 (d:DK) (J:Int) (m:Msg) (hk:okDr d=true) (Y:d.NE.length≤1000000) {j:Nat} {x:SX} (U:d.DI.SD.findIdx? (fun x=>decide (x.PE=J)&&decide (x.EP=m.EP))=some j) (hx:d.DI.SD[j]?=some x) (h0:m.Num=0) (hm:1≤m.KI∧m.KI≤4):
  Zj71 d.DI.ID d.DI.PH d.TH J m d.DI.SD d.NE=some (if Zef1 m.KI x then (0,0,0,132,[],[]) else (d.DI.ID,d.DI.PH,d.TH,0,d.DI.SD.set j (layK m.KI x),d.NE)):=by
 have hl:=Zid1 (Zaf1 hk);dsimp only [Zj71];rw [show (⟨⟨d.DI.ID,d.DI.PH,d.DI.SD⟩,d.TH,d.NE⟩:DK)=d from rfl,Z9f1 d Y,if_pos hk,OB,show decide ((0:Int)=0)=true from rfl,Bool.not_true,Zia1,Z1f1 _ _ _ _ _ (by omega) Y,OB];dsimp only;rw [Zib1 d.DI.SD (fun z=>Zlo z J m) (fun x=>decide (x.PE=J)&&decide (x.EP=m.EP)) (by omega) (fun x _=>by simp only [Zlo,Zko];cases decide (x.PE=J)<;>rfl),OB,Zxa1,U,Option.isNone_some,Zia1,DT h0,Bool.not_true,Zia1];have hd:=fun hm=>Zff1 d.DI.ID d.DI.PH J m d.DI.SD (Zaf1 hk) U hx h0 hm;have j1:(m.KI=1∨m.KI=2)→Zi71 d.DI.ID d.DI.PH d.TH J m (d.DI.SD,d.NE) (plc (some j)) true=some (if Zef1 m.KI x then (0,0,0,132,[],[]) else (d.DI.ID,d.DI.PH,d.TH,0,d.DI.SD.set j (layK m.KI x),d.NE)):=fun hq=>by dsimp only [Zi71];rw [Zha1,hd hq,OB];cases Zef1 m.KI x<;>rfl
 have j0:(m.KI=3∨m.KI=4)→Zi71 d.DI.ID d.DI.PH d.TH J m (d.DI.SD,d.NE) (plc (some j)) false=some (if Zef1 m.KI x then (0,0,0,132,[],[]) else (d.DI.ID,d.DI.PH,d.TH,0,d.DI.SD.set j (layK m.KI x),d.NE)):=fun hq=>by
  dsimp only [Zi71,plc];rw [Zia1,Zla1 hx,OB,Int.toNat_natCast];rcases hq with hq | hq
  ·rw [hq,show decide ((3:Int)=4)=false from rfl,Zia1];simp only [Zef1,layK,show ¬(3:Int)=1 by omega,show ¬(3:Int)=2 by omega,show ¬(3:Int)=4 by omega,if_false];cases x.BO<;>rfl
  ·rw [hq,show decide ((4:Int)=4)=true from rfl,Zha1];simp only [Zef1,layK,show ¬(4:Int)=1 by omega,show ¬(4:Int)=2 by omega,if_false,if_true];cases x.Ask<;>rfl
 by_cases k3:m.KI=3
 ·rw [DT k3,Bool.not_true,Zia1];exact j0 (.inl k3)
 ·rw [DN k3,Bool.not_false,Zha1];by_cases k4:m.KI=4
  ·rw [DT k4,Bool.not_true];exact j0 (.inr k4)
  ·rw [DN k4,Bool.not_false];exact j1 (by omega)
structure FewN (n:NO):Prop where
 sides:n.DK.DI.SD.length≤100000
 need:n.DK.NE.length≤100000
 book:n.BK.SE.length≤100000
 needs:∀s∈n.BK.SE,s.NE.length≤100000
 known:n.KN.length≤100000
 told:n.TL.length≤100000
 asked:n.AK.length≤100000
theorem FewN.bk {n:NO} (h:FewN n):Zjc1 n.BK:=⟨by have:=h.book;omega,fun s hs=>by have:=h.needs s hs;omega⟩
def Zhf1 (n:NO) (q:SX→Bool):List Int:=(n.DK.DI.SD.filter q).map (·.PE)
theorem Zif1 (n:NO) (J:FewN n) (p:SX→Option Bool) (q:SX→Bool) (hp:∀x∈n.DK.DI.SD,p x=some (q x)):Z6n n p=some (Zhf1 n q):=by
 have hl:=J.sides;unfold Z6n;refine Z5b1 n.DK.DI.SD _ (fun pre=>((pre.length:Int),(pre.filter q).map (·.PE))) _ (fun pre x post h=>?_) ?_
 ·have hx:=Z6b1 h;have hm:=Z7b1 h;have hf:=List.length_filter_le q pre;dsimp only [Z5n];rw [Zoa1 hx,Zha1,Zla1 hx,OB,hp x (Z8b1 h),OB];cases hq:q x with
  | true=>rw [Zha1,Zna1 _ _ (by omega) (by simp;omega),OB];dsimp only [Z4n];rw [Zqa1 (by omega),Zbb1];simp [hq]
  | false=>rw [Zia1];dsimp only [Z4n];rw [Zqa1 (by omega),Zbb1];simp [hq]
 ·dsimp only [Z5n];rw [Zpa1,Zia1];rfl
def Zjf1 (x:SX):Bool:=decide (x.SS=0)
def Zkf1 (x:SX):Bool:=decide (x.SS=1)
def Zlf1 (x:SX):Bool:=decide (x.SS=3)
theorem Zmf1 (n:NO) (J:FewN n):Z0t n=some (Zhf1 n Zjf1):=by simp only [Z0t,Zif1 n J (fun z=>Z8n z) Zjf1 (fun _ _=>rfl),OB]
def Znf1 (K:List KE) (p:Int):Int:=match K.find? (fun k=>decide (k.PE=p)) with | some k=>k.EP | none=>0
theorem Zof1 (n:NO) (J:FewN n) (p:Int):Zco n p=some (Znf1 n.KN p):=by
 have hl:=J.known;unfold Zco;refine Z3b1 n.KN _ (fun pre=>(pre.length:Int)) (fun _ post=>some (Znf1 post p)) (fun pre x post h=>?_) ?_
 ·have hx:=Z6b1 h;have hm:=Z7b1 h;dsimp only [Zbo];rw [Zoa1 hx,Zha1,Zla1 hx,OB];by_cases hq:x.PE=p
  ·right;exact ⟨x.EP,by rw [DT hq];rfl,by simp [Znf1,hq]⟩
  ·left;exact ⟨by rw [DN hq,Zia1,Zqa1 (by omega),Zbb1],by simp [Znf1,hq]⟩
 ·dsimp only [Zbo];rw [Zpa1,Zia1];rfl
def mayB (n:NO) (k:KE):Bool:=!n.DK.DI.SD.any (fun x=>decide (x.PE=k.PE))&&(decide (0≤k.PE)&&(decide (k.PE<n.DK.DI.ID)&&(decide (Znf1 n.KN k.PE<k.EP)&&decide (k.EP≤65535))))
theorem Zpf1 (n:NO) (J:FewN n) (k:KE):Zoy n k=some (mayB n k):=by have hl:=J.sides;simp only [Zoy,Zmb1 n.DK.DI.SD (fun z=>Zeo z k) (fun x=>decide (x.PE=k.PE)) (by omega) (fun _ _=>rfl),OB,Zof1 n J,Zny];unfold mayB;cases n.DK.DI.SD.any (fun x=>decide (x.PE=k.PE))<;>cases decide (0≤k.PE)<;>cases decide (k.PE<n.DK.DI.ID)<;>cases decide (Znf1 n.KN k.PE<k.EP)<;>rfl
def Zqf1 (l:List KE):Bool:=decide (l.map (·.PE)).Nodup
theorem Zrf1 (l:List KE) (hl:l.length≤1000000):Zsy l=some (Zqf1 l):=by
 unfold Zsy;have key:=Z4b1 l (Zry l) (fun pre=>(pre.length:Int)) (fun pre post=>some (Zqf1 (pre++post))) (fun pre=>(pre.map (·.PE)).Nodup) (fun pre x post h hI=>?_) (fun hI=>?_) l [] rfl (by simp)
 ·exact key
 ·have hx:=Z6b1 h;have hm:=Z7b1 h;have h6:Z9c l 0 (pre.length:Int)=some pre:=by unfold Z9c;rw [if_pos ⟨by omega,by omega,by omega⟩,h];simp
  dsimp only [Zry];rw [Zoa1 hx,Zha1,Zla1 hx,OB,h6,OB,Znb1 pre (fun z=>Zgo z x) (fun y=>decide (y.PE=x.PE)) (by omega) (fun _ _=>rfl),OB];cases ha:pre.any (fun y=>decide (y.PE=x.PE)) with
  | true=>
    right;refine ⟨false,rfl,?_⟩;have:¬((pre++x::post).map (·.PE)).Nodup:=by rw [List.any_eq_true] at ha;obtain ⟨y,hy,hq⟩:=ha;rw [List.map_append,List.map_cons,List.nodup_append];rintro ⟨_,_,h3⟩;exact h3 y.PE (List.mem_map.2 ⟨y,hy,rfl⟩) x.PE (by simp) (by simpa using hq)
    unfold Zqf1;rw [DN this]
  | false=>left;rw [List.any_eq_false] at ha;refine ⟨by rw [Zia1,Zqa1 (by omega),Zbb1],?_,by simp [Zqf1]⟩;rw [List.map_append,List.nodup_append];refine ⟨hI,by simp,?_⟩;intro a ha' b hb;obtain ⟨y,hy,rfl⟩:=List.mem_map.1 ha';simp at hb;subst hb;have:=ha y hy;simpa using this
 ·dsimp only [Zry];rw [Zpa1,Zia1,List.append_nil];have:Zqf1 l=true:=by unfold Zqf1;exact DT hI
  rw [this];rfl
def Zsf1:Int→List KE→Bool
 | _,[]=>true
 | q,k::l=>(decide (q<k.PE)&&(decide (k.PE<64)&&(decide (1≤k.EP)&&decide (k.EP≤65535))))&&Zsf1 k.PE l
def Ztf1 (q:Int) (pre:List KE):Int:=match pre.getLast? with | some x=>x.PE | none=>q
theorem Zuf1 (q:Int) (pre:List KE) (x:KE):Ztf1 q (pre++[x])=x.PE:=by simp [Ztf1]
theorem Zvf1 (l:List KE) (hl:l.length≤1000000) (q:Int):∃z,Zv01 l q=some (!Zsf1 q l,z):=by
 have s1:∀(k:KE) (q:Int),Zfu k q=some (!(decide (q<k.PE)&&(decide (k.PE<64)&&(decide (1≤k.EP)&&decide (k.EP≤65535))))):=fun k q=>by simp only [Zfu,Zeu];cases decide (q<k.PE)<;>cases decide (k.PE<64)<;>cases decide (1≤k.EP)<;>rfl
 have key:∀(post pre:List KE),l=pre++post→∃r z,loop (Zky l) ((pre.length:Int),Ztf1 q pre)=some (r,z)∧decide (0≤r)=!Zsf1 (Ztf1 q pre) post:=by
  intro post;induction post with
  | nil=>
    intro pre h;have h:pre=l:=by simpa using h.symm
    subst h;refine ⟨-1,Ztf1 q pre,?_,rfl⟩;rw [Zdc];dsimp only [Zky];rw [Zpa1,Zia1];rfl
  | cons x post ih=>
    intro pre h;have hx:=Z6b1 h;have hm:=Z7b1 h;rw [Zdc];dsimp only [Zky];rw [Zoa1 hx,Zha1,Zla1 hx,OB,s1,OB];cases hk:(decide (Ztf1 q pre<x.PE)&&(decide (x.PE<64)&&(decide (1≤x.EP)&&decide (x.EP≤65535)))) with
    | false=>exact ⟨pre.length,x.PE,rfl,by simp only [Zsf1,hk,Bool.false_and,Bool.not_false];exact DT (by omega)⟩
    | true=>
      obtain ⟨r,z,h1,h2⟩:=ih (pre++[x]) (by simpa using h);refine ⟨r,z,?_,?_⟩
      ·rw [Bool.not_true,Zia1,Zqa1 (by omega)];rw [Zbb1,Zuf1] at h1;exact h1
      ·rw [h2,Zuf1];simp only [Zsf1,hk,Bool.true_and]
 obtain ⟨r,z,h1,h2⟩:=key l [] rfl;refine ⟨z,?_⟩;have h1:loop (Zky l) (0,q)=some (r,z):=h1;simp only [Zv01,Zly,h1,OB,h2];rfl
def Zwf1 (n:NO) (x:SX):Bool:=decide (x.PE<64)&&(decide (1≤x.EP)&&(decide (Znf1 n.KN x.PE=x.EP)&&!((decide (x.SS=1)||decide (x.SS=3))&&decide (x.PE<n.DK.DI.ID))))
theorem Zxf1 (n:NO) (J:FewN n) (x:SX):Zju x n=some (!Zwf1 n x):=by
 simp only [Zju,Ziu,Zhu,Zof1 n J,OB];unfold Zwf1;by_cases h1:x.PE<64
 ·rw [DT h1,DN (show ¬64≤x.PE by omega)];by_cases h2:1≤x.EP
  ·rw [DT h2,DN (show ¬x.EP<1 by omega)];cases decide (Znf1 n.KN x.PE=x.EP)<;>cases decide (x.SS=1)<;>cases decide (x.SS=3)<;>cases decide (x.PE<n.DK.DI.ID)<;>rfl
  ·rw [DN h2,DT (show x.EP<1 by omega)];cases decide (x.SS=1)<;>rfl
 ·rw [DN h1,DT (show 64≤x.PE by omega)];cases decide (x.SS=1)<;>rfl
def Zyf1 (n:NO):Bool:=decide (n.DK.DI.ID<64)&&(Zsf1 (-1) n.KN&&(n.DK.DI.SD.all (Zwf1 n)&&(okI none n.TL&&n.TL.all fun z=>decide (z∈Zhf1 n Zkf1))))
def Zzf1 (n:NO):Bool:=n.AK.all (mayB n)&&(Zqf1 n.AK&&Zyf1 n)
theorem Z0g1 (n:NO) (q:SX→Bool):(Zhf1 n q).length≤n.DK.DI.SD.length:=by unfold Zhf1;rw [List.length_map];exact List.length_filter_le _ _
theorem Z1g1 (n:NO) (J:FewN n):Zg71 n=some (Zzf1 n):=by
 have h1:=J.asked;have h2:=J.known;have h3:=J.sides;have h4:=J.told;have h5:=Z0g1 n Zkf1;obtain ⟨z,hz⟩:=Zvf1 n.KN (by omega) (-1);have hk:∃z,Zx61 n (-1) (fun z=>Zju z n)=some (Zyf1 n,z):=by
  simp only [Zx61,Zw61,hz,OB,Zmb1 n.DK.DI.SD (fun z=>Zju z n) (fun x=>!Zwf1 n x) (by omega) (fun x _=>Zxf1 n J x),Z8f1 n.TL (by omega),Zif1 n J (fun z=>Zwn z) Zkf1 (fun _ _=>rfl),Zec1 n.TL (Zhf1 n Zkf1) (by omega) (by omega)];unfold Zyf1;have e1:n.DK.DI.SD.any (fun x=>!Zwf1 n x)=!n.DK.DI.SD.all (Zwf1 n):=Zsb1 _ _ _ fun _=>rfl;rw [e1];cases decide (n.DK.DI.ID<64) with
  | false=>exact ⟨-1,rfl⟩
  | true=>cases Zsf1 (-1) n.KN with
    | false=>exact ⟨z,rfl⟩
    | true=>cases n.DK.DI.SD.all (Zwf1 n) with
      | false=>exact ⟨z,rfl⟩
      | true=>cases okI none n.TL with
        | false=>exact ⟨z,rfl⟩
        | true=>exact ⟨z,rfl⟩
 obtain ⟨z',hk⟩:=hk;have e2:n.AK.any (fun k=>!mayB n k)=!n.AK.all (mayB n):=Zsb1 _ _ _ fun _=>rfl;simp only [Zg71,Znb1 n.AK (fun z=>Zx01 z n) (fun k=>!mayB n k) (by omega) (fun k _=>by simp only [Zx01,Zpf1 n J,OB]),OB,e2,Zrf1 n.AK (by omega),Zf71,hk];unfold Zzf1;cases n.AK.all (mayB n)<;>cases Zqf1 n.AK<;>rfl
def Z2g1:SE:=⟨0,[],0,0⟩
theorem Z3g1 (n:NO):Zcn n=some (match n.BK.SE with | []=>(Z2g1,false) | s::_=>(s,true)):=by
 simp only [Zcn,ln_eq];cases h:n.BK.SE with
 | nil=>rfl
 | cons s l=>rw [DN (by simp;omega),Zia1];rfl
def Z4g1 (n:NO):Bool:=match n.BK.SE with | []=>false | s::_=>decide (s.SS=1)
def Z5g1 (n:NO):Bool:=match n.BK.SE with | []=>false | s::_=>decide (s.NE=n.DK.NE)
def Z6g1 (n:NO) (s:SE):Bool:=!(decide (s.SS=0)&&!s.NE.all fun z=>decide (z∈Zhf1 n Zjf1))
def Z7g1 (n:NO):Bool:=(decide (n.DK.TH=2)==Z4g1 n)&&((decide (n.DK.TH=0)||Z5g1 n)&&(!n.DK.NE.any (fun z=>decide (z∈Zhf1 n Zlf1))&&n.BK.SE.all (Z6g1 n)))
theorem Z8g1 (a b:List Int) (ha:a.length≤1000000) (hb:b.length≤1000000):Z931 a b=some ((setL a).filter fun z=>decide (z∈b)):=by simp only [Z931];rw [Zcc1 a (fun z=>Zz01 z b) (fun z=>decide (z∈b)) ha (fun x _=>by simp only [Zz01,Z3c1 b x hb,OB]),OB]
theorem Z9g1 (n:NO) (J:FewN n):Z271 n=some (Z7g1 n):=by
 have h3:=J.sides;have h4:=J.need;have h5:=J.book;have h6:=Z0g1 n Zlf1;have h7:=Z0g1 n Zjf1;have hc:Zzr n.BK.SE (fun z=>Z361 z n)=some (n.BK.SE.any fun s=>!Z6g1 n s):=Zpb1 _ _ _ (by omega) fun s hs=>by have:=J.needs s hs;simp only [Z361,Z261,Zmf1 n J,OB,Zec1 s.NE (Zhf1 n Zjf1) (by omega) (by omega)];unfold Z6g1;cases decide (s.SS=0)<;>cases (s.NE.all fun z=>decide (z∈Zhf1 n Zjf1))<;>rfl
 have e1:(n.BK.SE.any fun s=>!Z6g1 n s)=!n.BK.SE.all (Z6g1 n):=Zsb1 _ _ _ fun _=>rfl;have j2:∀z,Z071 n z=some (!z&&(!n.DK.NE.any (fun z=>decide (z∈Zhf1 n Zlf1))&&n.BK.SE.all (Z6g1 n))):=fun z=>by
  cases z with
  | true=>rfl
  | false=>
    dsimp only [Z071,Zz61];rw [Zia1,Zif1 n J (fun z=>Zio z) Zlf1 (fun _ _=>rfl),OB,Z8g1 _ _ (by omega) (by omega),OB,hc,e1,ln_eq];have e2:decide (((((setL n.DK.NE).filter fun z=>decide (z∈Zhf1 n Zlf1)).length:Nat):Int)=0)=!n.DK.NE.any (fun z=>decide (z∈Zhf1 n Zlf1)):=by
     have hm:=(Z5c1 n.DK.NE).2;cases ha:n.DK.NE.any (fun z=>decide (z∈Zhf1 n Zlf1)) with
     | true=>rw [List.any_eq_true] at ha;obtain ⟨x,hx,hq⟩:=ha;refine DN fun e=>?_;have:((setL n.DK.NE).filter fun z=>decide (z∈Zhf1 n Zlf1))=[]:=List.length_eq_zero_iff.1 (by omega);have h8:x∈((setL n.DK.NE).filter fun z=>decide (z∈Zhf1 n Zlf1)):=List.mem_filter.2 ⟨(hm x).2 hx,hq⟩;rw [this] at h8;simp at h8
     | false=>
       rw [List.any_eq_false] at ha;refine DT ?_;have:((setL n.DK.NE).filter fun z=>decide (z∈Zhf1 n Zlf1))=[]:=by rw [List.filter_eq_nil_iff];intro x hx;exact ha x ((hm x).1 hx)
       rw [this];rfl
    rw [e2];cases n.DK.NE.any (fun z=>decide (z∈Zhf1 n Zlf1)) with
    | true=>rfl
    | false=>rw [Bool.not_false,Zha1,OB];cases n.BK.SE.all (Z6g1 n)<;>rfl
 simp only [Z271,Z3g1,OB,Z171,j2];unfold Z7g1 Z4g1 Z5g1;cases hb:n.BK.SE with
 | nil=>simp only [Zia1,Bool.not_false,Bool.not_true];cases decide (n.DK.TH=2)<;>cases decide (n.DK.TH=0)<;>simp [ifb]
 | cons s l=>have hs:=J.needs s (by rw [hb];simp);simp only [Zha1,Z0f1 s.NE n.DK.NE (by omega),OB,Bool.not_true,Zia1];cases decide (s.SS=1)<;>cases decide (n.DK.TH=2)<;>cases decide (n.DK.TH=0)<;>cases decide (s.NE=n.DK.NE)<;>simp [ifb]
def okN (n:NO):Bool:=okDr n.DK&&(okBk n.BK&&(Zzf1 n&&Z7g1 n))
theorem Zag1 (n:NO) (J:FewN n):Zb81 n=some (if okN n then 0 else 180):=by
 have h4:=J.need;simp only [Zb81,Za81,Z9f1 n.DK (by omega),Zoc1 n.BK J.bk,Z1g1 n J,Z9g1 n J,OB];unfold okN;cases okDr n.DK with
 | false=>rfl
 | true=>cases okBk n.BK with
   | false=>rfl
   | true=>cases Zzf1 n with
     | false=>rfl
     | true=>cases Z7g1 n<;>rfl
def cntB {α:Type} (l:List α) (key:α→Int) (p:Int):Nat:=(l.takeWhile fun x=>decide (key x<p)).length
theorem Zbg1 {α:Type} (q:α→Bool):∀(l:List α) (k:Nat),k≤l.length→(∀i x,l[i]?=some x→i<k→q x=true)→(∀x,l[k]?=some x→q x=false)→(l.takeWhile q).length=k
 | [],k,h,_,_=>by simp at h;simp [h]
 | x::l,0,_,_,h=>by simp [h x rfl]
 | x::l,k+1,hk,h1,h2=>by rw [List.takeWhile_cons,if_pos (h1 0 x rfl (by omega)),List.length_cons,Zbg1 q l k (by simpa using hk) (fun i y hy hi=>h1 (i+1) y (by simpa using hy) (by omega)) fun y hy=>h2 y (by simpa using hy)]
theorem Zcg1 {α β:Type} (l:List α) (key:α→Int) (p:Int) (body:Int×Int→Option ((Int×Int) ⊕ β)) (J:Nat→Option β) (hs:l.Pairwise fun x y=>key x<key y)
  (h1:∀(lo hi:Nat) x,lo<hi→hi≤l.length→l[(lo+hi) / 2]?=some x→body ((lo:Int),(hi:Int))=some (.inl (if key x<p then ((((lo+hi) / 2+1:Nat):Int),(hi:Int)) else ((lo:Int),(((lo+hi) / 2:Nat):Int)))))
  (h2:∀lo:Nat,lo≤l.length→body ((lo:Int),(lo:Int))=(J lo).map .inr):
  ∀(n lo hi:Nat),hi-lo≤n→lo≤hi→hi≤l.length→(∀i x,l[i]?=some x→i<lo→key x<p)→(∀i x,l[i]?=some x→hi≤i→¬key x<p)→loop body ((lo:Int),(hi:Int))=J (cntB l key p):=by
 intro n;have stop:∀lo,lo≤l.length→(∀i x,l[i]?=some x→i<lo→key x<p)→(∀i x,l[i]?=some x→lo≤i→¬key x<p)→loop body ((lo:Int),(lo:Int))=J (cntB l key p):=by intro lo hl a b;have:cntB l key p=lo:=Zbg1 _ l lo hl (fun i x hx hi=>DT (a i x hx hi)) fun x hx=>DN (b lo x hx (Nat.le_refl _));rw [Zdc,h2 lo hl,this];cases J lo<;>rfl
 have mono:∀ {i j:Nat} {x y:α},l[i]?=some x→l[j]?=some y→i<j→key x<key y:=by intro i j x y hx hy h8;rw [List.pairwise_iff_getElem] at hs;obtain ⟨a,rfl⟩:=List.getElem?_eq_some_iff.1 hx;obtain ⟨b,rfl⟩:=List.getElem?_eq_some_iff.1 hy;exact hs i j a b h8
 induction n with
 | zero=>
   intro lo hi hn h9 h6 a b;have:lo=hi:=by omega
   subst this;exact stop lo h6 a b
 | succ n ih=>
   intro lo hi hn h9 h6 a b;by_cases he:lo=hi
   ·subst he;exact stop lo h6 a b
   ·have hm:(lo+hi) / 2<l.length:=by omega
    obtain ⟨x,hx⟩:∃x,l[(lo+hi) / 2]?=some x:=⟨_,List.getElem?_eq_getElem hm⟩
    rw [Zdc,h1 lo hi x (by omega) h6 hx];by_cases hq:key x<p
    ·rw [if_pos hq];refine ih ((lo+hi) / 2+1) hi (by omega) (by omega) h6 (fun i y hy hi'=>?_) b;by_cases e:i=(lo+hi) / 2
     ·subst e;rw [hx] at hy;simp at hy;subst hy;exact hq
     ·have:=mono hy hx (by omega);omega
    ·rw [if_neg hq];refine ih lo ((lo+hi) / 2) (by omega) (by omega) (by omega) a fun i y hy hi'=>?_;by_cases e:i=(lo+hi) / 2
     ·subst e;rw [hx] at hy;simp at hy;subst hy;exact hq
     ·have:=mono hx hy (by omega);omega
theorem Zdg1 {lo hi:Nat} (h:lo+hi≤4000000):wr (Int.fdiv (kw .u64 (wr ((lo:Int)+hi))) (2 ^ min (Int.toNat 1) (IntKind.bits .u64)))=(((lo+hi) / 2:Nat):Int):=by
 have e1:wr ((lo:Int)+hi)=((lo+hi:Nat):Int):=by rw [Zka1 (by omega) (by omega)];omega
 have e2:kw .u64 ((lo+hi:Nat):Int)=((lo+hi:Nat):Int):=by
  show IntKind.u64.wrap _=_;have e:IntKind.u64.wrap ((lo+hi:Nat):Int)=((lo+hi:Nat):Int) % 18446744073709551616:=by simp [IntKind.wrap,IntKind.bits,IntKind.signed]
  rw [e];omega
 have e3:(2:Int) ^ min (Int.toNat 1) (IntKind.bits .u64)=2:=by decide
 rw [e1,e2,e3];have e4:Int.fdiv ((lo+hi:Nat):Int) 2=(((lo+hi) / 2:Nat):Int):=by rw [Int.fdiv_eq_ediv_of_nonneg _ (by omega)];omega
 rw [e4,Zka1 (by omega) (by omega)]
theorem Zeg1 (l:List KE) (p:Int) (hl:l.length≤1000000) (hs:l.Pairwise fun x y=>x.PE<y.PE) (hr:∀x∈l, -100000≤x.PE∧x.PE≤100000) (hp: -100000≤p∧p≤100000):
  Zon l p (fun z=>Zqn z.1 z.2)=some ((cntB l (·.PE) p:Int),match l[cntB l (·.PE) p]? with | some x=>decide (x.PE=p) | none=>false):=by
 have cmp:∀x∈l,Zqn x p=some (x.PE-p):=fun x hx=>by have:=hr x hx;simp only [Zqn];rw [Zka1 (by omega) (by omega)]
 have fin:∀k:Nat,k≤l.length→Zmn l p (fun z=>Zqn z.1 z.2) (k:Int)=some ((k:Int),match l[k]? with | some x=>decide (x.PE=p) | none=>false):=fun k hk=>by
  dsimp only [Zmn];cases hx:l[k]? with
  | none=>
    have:l.length≤k:=by simpa using hx
    have:k=l.length:=by omega
    subst this;rw [Zpa1,Zia1];rfl
  | some x=>rw [Zoa1 hx,Zha1,Zla1 hx,OB,cmp x (List.mem_of_getElem? hx),OB];dsimp only [Zln];rw [show decide (x.PE-p=0)=decide (x.PE=p) from decide_eq_decide.2 (by omega)]
 unfold Zon;rw [ln_eq];refine Zcg1 l (·.PE) p _ (fun k=>some ((k:Int),match l[k]? with | some x=>decide (x.PE=p) | none=>false)) hs (fun lo hi x h1 h2 hx=>?_) (fun lo h6=>?_) l.length 0 l.length (by omega) (by omega) (by omega) (fun i x _ hi=>by omega) (fun i x hx hi=>by have:=(List.getElem?_eq_some_iff.1 hx).1;omega)
 ·dsimp only [Znn];rw [DT (show (lo:Int)<hi by omega),Zha1,Zdg1 (by omega),Zla1 hx,OB,cmp x (List.mem_of_getElem? hx),OB];by_cases hq:x.PE<p
  ·rw [if_pos hq,DT (show x.PE-p<0 by omega),Zha1,Zqa1 (by omega)]
  ·rw [if_neg hq,DN (show ¬x.PE-p<0 by omega),Zia1]
 ·dsimp only [Znn];rw [DN (show ¬(lo:Int)<lo by omega),Zia1,fin lo h6]
theorem Zfg1 (l:List SX) (p:Int) (hl:l.length≤1000000) (hs:l.Pairwise fun x y=>x.PE<y.PE) (hr:∀x∈l, -100000≤x.PE∧x.PE≤100000) (hp: -100000≤p∧p≤100000):
  Zhn l p (fun z=>Zjn z.1 z.2)=some ((cntB l (·.PE) p:Int),match l[cntB l (·.PE) p]? with | some x=>decide (x.PE=p) | none=>false):=by
 have cmp:∀x∈l,Zjn x p=some (x.PE-p):=fun x hx=>by have:=hr x hx;simp only [Zjn];rw [Zka1 (by omega) (by omega)]
 have fin:∀k:Nat,k≤l.length→Zfn l p (fun z=>Zjn z.1 z.2) (k:Int)=some ((k:Int),match l[k]? with | some x=>decide (x.PE=p) | none=>false):=fun k hk=>by
  dsimp only [Zfn];cases hx:l[k]? with
  | none=>
    have:l.length≤k:=by simpa using hx
    have:k=l.length:=by omega
    subst this;rw [Zpa1,Zia1];rfl
  | some x=>rw [Zoa1 hx,Zha1,Zla1 hx,OB,cmp x (List.mem_of_getElem? hx),OB];dsimp only [Zen];rw [show decide (x.PE-p=0)=decide (x.PE=p) from decide_eq_decide.2 (by omega)]
 unfold Zhn;rw [ln_eq];refine Zcg1 l (·.PE) p _ (fun k=>some ((k:Int),match l[k]? with | some x=>decide (x.PE=p) | none=>false)) hs (fun lo hi x h1 h2 hx=>?_) (fun lo h6=>?_) l.length 0 l.length (by omega) (by omega) (by omega) (fun i x _ hi=>by omega) (fun i x hx hi=>by have:=(List.getElem?_eq_some_iff.1 hx).1;omega)
 ·dsimp only [Zgn];rw [DT (show (lo:Int)<hi by omega),Zha1,Zdg1 (by omega),Zla1 hx,OB,cmp x (List.mem_of_getElem? hx),OB];by_cases hq:x.PE<p
  ·rw [if_pos hq,DT (show x.PE-p<0 by omega),Zha1,Zqa1 (by omega)]
  ·rw [if_neg hq,DN (show ¬x.PE-p<0 by omega),Zia1]
 ·dsimp only [Zgn];rw [DN (show ¬(lo:Int)<lo by omega),Zia1,fin lo h6]
def putS (S:List SX) (x:SX):List SX:=S.take (cntB S (·.PE) x.PE)++x::S.drop (cntB S (·.PE) x.PE)
def Zgg1 (K:List KE) (p e:Int):List KE:=
 match K[cntB K (·.PE) p]? with
 | some k=>if k.PE=p then K.set (cntB K (·.PE) p) ⟨p,e⟩ else K.take (cntB K (·.PE) p)++⟨p,e⟩::K.drop (cntB K (·.PE) p)
 | none=>K++[⟨p,e⟩]
theorem Zhg1 {α:Type} (l:List α) (key:α→Int) (p:Int):cntB l key p≤l.length:=by unfold cntB;exact (List.takeWhile_sublist _).length_le
theorem Zig1 {α:Type} {b:Nat} (l:List α) (k:Nat) (v:α) (hb:b≤1000) (hk:k≤l.length) (hl:l.length≤1000000):Zfi b l (k:Int) [v]=some (l.take k++v::l.drop k):=by show Z9i b l (k:Int) v=_;unfold Z9i;have h2:(l.length+1)*b≤1000001*1000:=Nat.mul_le_mul (by omega) hb;rw [if_pos ⟨by omega,by omega,by omega,by omega⟩,Int.toNat_natCast]
theorem Zjg1 (K:List KE) (p e:Int) (hl:K.length≤1000000) (hs:K.Pairwise fun x y=>x.PE<y.PE) (hr:∀x∈K, -100000≤x.PE∧x.PE≤100000) (hp: -100000≤p∧p≤100000):
  ((Zon K p (fun z=>Zqn z.1 z.2)).bind fun x14=>ifb (!x14.2) ((Zj21 K x14.1 [⟨p,0⟩]).bind fun x15=>(at_ x15 x14.1).bind fun x17=>some (x15.set (Int.toNat x14.1) ⟨x17.PE,e⟩)) ((at_ K x14.1).bind fun x17=>some (K.set (Int.toNat x14.1) ⟨x17.PE,e⟩)))=some (Zgg1 K p e):=by
 rw [Zeg1 K p hl hs hr hp,OB];have hc:=Zhg1 K (·.PE) p;have h6:(K.take (cntB K (·.PE) p)).length=cntB K (·.PE) p:=by rw [List.length_take];omega
 have ins:∀y:KE,at_ (K.take (cntB K (·.PE) p)++y::K.drop (cntB K (·.PE) p)) (cntB K (·.PE) p:Int)=some y:=fun y=>by have:=Z9b1 (l:=K.take (cntB K (·.PE) p)++y::K.drop (cntB K (·.PE) p)) (a:=K.take (cntB K (·.PE) p)) (b:=K.drop (cntB K (·.PE) p)) (x:=y) rfl;rwa [h6] at this
 have st:∀y z:KE,(K.take (cntB K (·.PE) p)++y::K.drop (cntB K (·.PE) p)).set (cntB K (·.PE) p) z=K.take (cntB K (·.PE) p)++z::K.drop (cntB K (·.PE) p):=fun y z=>by have:=Zab1 (K.take (cntB K (·.PE) p)) (K.drop (cntB K (·.PE) p)) y z;rwa [h6,Int.toNat_natCast] at this
 have new:ifb (!false) ((Zj21 K (cntB K (·.PE) p:Int) [⟨p,0⟩]).bind fun x15=>(at_ x15 (cntB K (·.PE) p:Int)).bind fun x17=>some (x15.set (Int.toNat (cntB K (·.PE) p:Int)) ⟨x17.PE,e⟩)) ((at_ K (cntB K (·.PE) p:Int)).bind fun x17=>some (K.set (Int.toNat (cntB K (·.PE) p:Int)) ⟨x17.PE,e⟩))=some (K.take (cntB K (·.PE) p)++⟨p,e⟩::K.drop (cntB K (·.PE) p)):=by unfold Zj21;rw [Bool.not_false,Zha1,Zig1 K _ _ (by omega) hc hl,OB,ins,OB,Int.toNat_natCast,st]
 unfold Zgg1;dsimp only;cases hx:K[cntB K (·.PE) p]? with
 | none=>
   rw [new];have h1:K.length≤cntB K (·.PE) p:=by simpa using hx
   have h2:cntB K (·.PE) p=K.length:=by omega
   rw [h2];simp
 | some k=>
   dsimp only;by_cases hq:k.PE=p
   ·rw [DT hq,if_pos hq,Bool.not_true,Zia1,Zla1 hx,OB,Int.toNat_natCast,hq]
   ·rw [DN hq,if_neg hq];exact new
structure RowK (K:List KE):Prop where
 len:K.length≤1000
 up:K.Pairwise fun x y=>x.PE<y.PE
 rng:∀x∈K, -100000≤x.PE∧x.PE≤100000
structure RowS (S:List SX):Prop where
 len:S.length≤1000
 up:S.Pairwise fun x y=>x.PE<y.PE
 rng:∀x∈S, -100000≤x.PE∧x.PE≤100000
theorem Zkg1 (S:List SX) (x:SX) (h:RowS S) (hp: -100000≤x.PE∧x.PE≤100000):
  ∃z,Zhn S x.PE (fun z=>Zjn z.1 z.2)=some ((cntB S (·.PE) x.PE:Int),z)∧Zh21 S (cntB S (·.PE) x.PE:Int) [x]=some (putS S x):=by
 have hl:=h.len;refine ⟨_,Zfg1 S x.PE (by omega) h.up h.rng hp,?_⟩;unfold Zh21;exact Zig1 S _ _ (by omega) (Zhg1 _ _ _) (by omega)
theorem Zlg1 (x:SX) (b c d e f:Int) (S:List SX) (N:List Int) (B:List SE) (K:List KE) (O:List Int) (A:List KE) (U:RowS S) (J:RowK K) (hp: -100000≤x.PE∧x.PE≤100000):
  Zl51 x b c d e f S N B K O A=some (putS S x,Zgg1 K x.PE x.EP):=by
 obtain ⟨z,h1,h2⟩:=Zkg1 S x U hp;have h3:=Zjg1 K x.PE x.EP (by have:=J.len;omega) J.up J.rng hp;dsimp only [Zl51];rw [h1,OB,h2,OB];dsimp only [Zd41,Zc41];rw [h3,OB]
theorem Zmg1 (x:SX) (b c d e:Int) (B:List SE) (O:List Int) (f:Int) (S:List SX) (N:List Int) (K A:List KE) (E:List ML) (V:List EV) (U:RowS S) (J:RowK K) (hp: -100000≤x.PE∧x.PE≤100000):
  Zz51 x b c d e B O f S N K A E V=some (putS S x,Zgg1 K x.PE x.EP):=by
 obtain ⟨z,h1,h2⟩:=Zkg1 S x U hp;have h3:=Zjg1 K x.PE x.EP (by have:=J.len;omega) J.up J.rng hp;dsimp only [Zz51];rw [h1,OB,h2,OB];dsimp only [Zl41,Zk41];rw [h3,OB]
theorem Zng1 {α:Type} (l:List α) (key:α→Int) (p:Int):l.take (cntB l key p)=l.takeWhile (fun x=>decide (key x<p))∧l.drop (cntB l key p)=l.dropWhile fun x=>decide (key x<p):=by
 have h:=List.takeWhile_append_dropWhile (p:=fun x=>decide (key x<p)) (l:=l);have g:∀(a b:List α),a++b=l→l.take a.length=a∧l.drop a.length=b:=by rintro a b rfl;simp
 exact g _ _ h
theorem Zog1 {α:Type} {l:List α} {key:α→Int} {p:Int} {x:α} (h:x∈l.take (cntB l key p)):key x<p:=by
 rw [(Zng1 l key p).1] at h;have:∀(l:List α),x∈l.takeWhile (fun x=>decide (key x<p))→key x<p:=by
  intro l;induction l with
  | nil=>simp
  | cons y l ih=>
    rw [List.takeWhile_cons];split
    ·rename_i hy;intro h;rcases List.mem_cons.1 h with rfl | h
     ·simpa using hy
     ·exact ih h
    ·simp
 exact this l h
theorem Zpg1 {α:Type} {key:α→Int} {p:Int}:∀ {l:List α} {x:α},l.Pairwise (fun x y=>key x<key y)→x∈l.drop (cntB l key p)→p≤key x:=by
 intro l;induction l with
 | nil=>simp
 | cons y l ih=>
   intro x hs h;rw [(Zng1 _ key p).2,List.dropWhile_cons] at h;rw [List.pairwise_cons] at hs;split at h
   ·rw [←(Zng1 l key p).2] at h;exact ih hs.2 h
   ·rename_i hy;have hy:¬key y<p:=by simpa using hy
    rcases List.mem_cons.1 h with rfl | h
    ·omega
    ·have:=hs.1 x h;omega
theorem Zqg1 {α:Type} (l:List α) (k:Nat) (x:α):x∈l↔x∈l.take k∨x∈l.drop k:=by
 conv=>lhs;rw [←List.take_append_drop k l]
 exact List.mem_append
theorem Zrg1 {α:Type} {l:List α} {key:α→Int} {p:Int} {x:α} (hs:l.Pairwise fun x y=>key x<key y) (hx:key x=p) (J:∀y∈l,key y≠p):(l.take (cntB l key p)++x::l.drop (cntB l key p)).Pairwise fun x y=>key x<key y:=by
 rw [List.pairwise_append];refine ⟨hs.sublist (List.take_sublist _ _),?_,?_⟩
 ·rw [List.pairwise_cons];refine ⟨fun y hy=>?_,hs.sublist (List.drop_sublist _ _)⟩;have h1:=Zpg1 hs hy;have h2:=J y (List.mem_of_mem_drop hy);omega
 ·intro y hy z hz;have h1:=Zog1 hy;rcases List.mem_cons.1 hz with rfl | hz
  ·omega
  ·have h2:=Zpg1 hs hz;omega
theorem Zsg1 {S:List SX} {x y:SX}:y∈putS S x↔y=x∨y∈S:=by
 unfold putS;rw [Zqg1 S (cntB S (·.PE) x.PE) y,List.mem_append,List.mem_cons];constructor
 ·rintro (h | h | h)
  ·exact .inr (.inl h)
  ·exact .inl h
  ·exact .inr (.inr h)
 ·rintro (h | h | h)
  ·exact .inr (.inl h)
  ·exact .inl h
  ·exact .inr (.inr h)
theorem Ztg1 (S:List SX) (x:SX):(putS S x).length=S.length+1:=by have:=Zhg1 S (·.PE) x.PE;unfold putS;rw [List.length_append,List.length_cons,List.length_take,List.length_drop];omega
theorem RowS.put {S:List SX} {x:SX} (h:RowS S) (hl:S.length<1000) (J:∀y∈S,y.PE≠x.PE) (hp: -100000≤x.PE∧x.PE≤100000):RowS (putS S x):=
 ⟨by rw [Ztg1];omega,Zrg1 h.up rfl J,fun y hy=>by
   rcases Zsg1.1 hy with rfl | hy
   ·exact hp
   ·exact h.rng y hy⟩
theorem Zug1 {K:List KE} (h:K.Pairwise fun x y=>x.PE<y.PE) (p e:Int):
  (∃k,K[cntB K (·.PE) p]?=some k∧k.PE=p∧Zgg1 K p e=K.set (cntB K (·.PE) p) ⟨p,e⟩)∨(∀k∈K,k.PE≠p)∧Zgg1 K p e=K.take (cntB K (·.PE) p)++⟨p,e⟩::K.drop (cntB K (·.PE) p):=by
 have hc:=Zhg1 K (·.PE) p;unfold Zgg1;cases hx:K[cntB K (·.PE) p]? with
 | none=>
   right;have h1:K.length≤cntB K (·.PE) p:=by simpa using hx
   have h2:cntB K (·.PE) p=K.length:=by omega
   refine ⟨fun k hk=>?_,by rw [h2];simp⟩;have:k∈K.take (cntB K (·.PE) p):=by rw [h2,List.take_length];exact hk
   have:=Zog1 this;omega
 | some k=>
   dsimp only;by_cases hq:k.PE=p
   ·left;exact ⟨k,rfl,hq,by rw [if_pos hq]⟩
   ·right;refine ⟨fun y hy=>?_,by rw [if_neg hq]⟩;rcases (Zqg1 K (cntB K (·.PE) p) y).1 hy with hy | hy
    ·have:=Zog1 hy;omega
    ·obtain ⟨h6,hk⟩:=List.getElem?_eq_some_iff.1 hx;have hd:K.drop (cntB K (·.PE) p)=k::K.drop (cntB K (·.PE) p+1):=by rw [List.drop_eq_getElem_cons h6,hk]
     have h8:k∈K.drop (cntB K (·.PE) p):=by rw [hd];simp
     have h9:=Zpg1 h h8;have hs:(K.drop (cntB K (·.PE) p)).Pairwise fun x y=>x.PE<y.PE:=h.sublist (List.drop_sublist _ _);rw [hd] at hy hs;rcases List.mem_cons.1 hy with rfl | hy
     ·exact hq
     ·have:=(List.pairwise_cons.1 hs).1 y hy;omega
theorem Zvg1 {K:List KE} (h:K.Pairwise fun x y=>x.PE<y.PE) {p e:Int} {k:KE}:k∈Zgg1 K p e→k=⟨p,e⟩∨k∈K∧k.PE≠p:=by
 intro hk;rcases Zug1 h p e with ⟨q,h1,h2,h3⟩ | ⟨h1,h2⟩
 ·rw [h3] at hk;rw [List.mem_iff_getElem?] at hk;obtain ⟨i,hi⟩:=hk;rw [List.getElem?_set] at hi;split at hi
  ·split at hi
   ·simp at hi;exact .inl hi.symm
   ·simp at hi
  ·rename_i hne;refine .inr ⟨List.mem_of_getElem? hi,fun e=>?_⟩;have mono:=List.pairwise_iff_getElem.1 h;obtain ⟨a,ha⟩:=List.getElem?_eq_some_iff.1 hi;obtain ⟨b,hb⟩:=List.getElem?_eq_some_iff.1 h1;rcases Nat.lt_or_gt_of_ne hne with hl | hl
   ·have:=mono _ _ b a hl;rw [ha,hb] at this;omega
   ·have:=mono _ _ a b hl;rw [ha,hb] at this;omega
 ·rw [h2] at hk;rw [List.mem_append,List.mem_cons] at hk;rcases hk with hk | hk | hk
  ·exact .inr ⟨List.mem_of_mem_take hk,h1 k (List.mem_of_mem_take hk)⟩
  ·exact .inl hk
  ·exact .inr ⟨List.mem_of_mem_drop hk,h1 k (List.mem_of_mem_drop hk)⟩
theorem Zwg1 {K:List KE} (h:K.Pairwise fun x y=>x.PE<y.PE) {p e:Int}:⟨p,e⟩∈Zgg1 K p e∧∀k∈K,k.PE≠p→k∈Zgg1 K p e:=by
 rcases Zug1 h p e with ⟨q,h1,h2,h3⟩ | ⟨h1,h2⟩
 ·rw [h3];obtain ⟨b,hb⟩:=List.getElem?_eq_some_iff.1 h1;refine ⟨List.mem_iff_getElem?.2 ⟨_,by rw [List.getElem?_set_self b]⟩,fun k hk hne=>?_⟩;obtain ⟨i,hi⟩:=List.mem_iff_getElem?.1 hk;refine List.mem_iff_getElem?.2 ⟨i,?_⟩;rw [List.getElem?_set,if_neg]
  ·exact hi
  ·rintro rfl;rw [h1] at hi;simp at hi;subst hi;exact hne h2
 ·rw [h2];refine ⟨by simp,fun k hk _=>?_⟩;rw [List.mem_append,List.mem_cons];rcases (Zqg1 K (cntB K (·.PE) p) k).1 hk with h | h
  ·exact .inl h
  ·exact .inr (.inr h)
theorem Zxg1 {K:List KE} (h:K.Pairwise fun x y=>x.PE<y.PE) (p e:Int):(Zgg1 K p e).Pairwise fun x y=>x.PE<y.PE:=by
 rcases Zug1 h p e with ⟨q,h1,h2,h3⟩ | ⟨h1,h2⟩
 ·rw [h3];rw [List.pairwise_iff_getElem] at h ⊢;intro i j hi hj h6;obtain ⟨b,hb⟩:=List.getElem?_eq_some_iff.1 h1;have get:∀(k:Nat) (hk:k<(K.set (cntB K (·.PE) p) ⟨p,e⟩).length),(K.set (cntB K (·.PE) p) ⟨p,e⟩)[k].PE=(K[k]'(by simpa using hk)).PE:=by
   intro k hk;rw [List.getElem_set];split
   ·rename_i e;subst e;rw [hb];exact h2.symm
   ·rfl
  rw [get,get];exact h i j _ _ h6
 ·rw [h2];exact Zrg1 h rfl h1
theorem Zyg1 (K:List KE) (p e:Int):(Zgg1 K p e).length≤K.length+1:=by
 have hc:=Zhg1 K (·.PE) p;unfold Zgg1;split
 ·split
  ·simp
  ·rw [List.length_append,List.length_cons,List.length_take,List.length_drop];omega
 ·simp
theorem RowK.know {K:List KE} {p e:Int} (h:RowK K) (hl:K.length<1000) (hp: -100000≤p∧p≤100000):RowK (Zgg1 K p e):=
 ⟨by have:=Zyg1 K p e;omega,Zxg1 h.up p e,fun k hk=>by
   rcases Zvg1 h.up hk with rfl | ⟨hk,_⟩
   ·exact hp
   ·exact h.rng k hk⟩
theorem Zzg1 {K:List KE} (h:K.Pairwise fun x y=>x.PE<y.PE) {k:KE} (hk:k∈K):Znf1 K k.PE=k.EP:=by
 unfold Znf1;have:K.find? (fun q=>decide (q.PE=k.PE))=some k:=by
  induction K with
  | nil=>simp at hk
  | cons y K ih=>
    rw [List.pairwise_cons] at h;rw [List.find?_cons];rcases List.mem_cons.1 hk with rfl | hk
    ·simp
    ·have:=h.1 k hk;rw [DN (by omega)];exact ih h.2 hk
 rw [this]
theorem Z0h1 {K:List KE} {p:Int} (h:∀k∈K,k.PE≠p):Znf1 K p=0:=by
 unfold Znf1;have:K.find? (fun q=>decide (q.PE=p))=none:=by rw [List.find?_eq_none];intro k hk;simpa using h k hk
 rw [this]
theorem Z1h1 {K:List KE} (h:K.Pairwise fun x y=>x.PE<y.PE) (p e q:Int):Znf1 (Zgg1 K p e) q=if q=p then e else Znf1 K q:=by
 have hp:=Zxg1 h p e;have hm:=Zwg1 h (p:=p) (e:=e);split
 ·rename_i hq;subst hq;exact Zzg1 hp hm.1
 ·rename_i hq;by_cases hx:∃k∈K,k.PE=q
  ·obtain ⟨k,hk,rfl⟩:=hx;rw [Zzg1 hp (hm.2 k hk hq),Zzg1 h hk]
  ·have hx:∀k∈K,k.PE≠q:=fun k hk e=>hx ⟨k,hk,e⟩;rw [Z0h1 hx,Z0h1];intro k hk;rcases Zvg1 h hk with rfl | ⟨hk,_⟩
   ·exact fun e=>hq e.symm
   ·exact hx k hk
def newS (k:KE):SX:=⟨k.PE,k.EP,0,false,false,true,false,true⟩
theorem Z2h1 (x:SX) (k a b c d:Int) (B:List SE) (O:List Int) (f:Int) (S:List SX) (N:List Int) (K A:List KE) (E:List ML) (V:List EV) (J:E.length≤1000000):
  Zau x k a b c d B O f S N K A E V=some (E++[⟨a,x.PE,⟨k,x.EP,0⟩⟩]):=by
 simp only [Zau];rw [Zna1 _ _ (by omega) (by simp;omega),OB]
theorem Z3h1 (k p a b c d:Int) (B:List SE) (O:List Int) (f:Int) (S:List SX) (N:List Int) (K A:List KE) (E:List ML) (V:List EV) (J:V.length≤1000000):
  Zcu k p a b c d B O f S N K A E V=some (V++[⟨k,a,0,p,[]⟩]):=by
 simp only [Zcu];rw [Zna1 _ _ (by omega) (by simp;omega),OB]
theorem Z4h1 (k i a b c d:Int) (B:List SE) (O:List Int) (f:Int) (S:List SX) (N:List Int) (K A:List KE) (E:List ML) (V:List EV) (J:V.length≤1000000):
  Z8u k i a b c d B O f S N K A E V=some (V++[⟨k,a,i,0,[]⟩]):=by
 simp only [Z8u];rw [Zna1 _ _ (by omega) (by simp;omega),OB]
def ansS (S:List SX) (A:List KE):List SX:=A.foldl (fun S k=>putS S (newS k)) S
def ansK (K:List KE) (A:List KE):List KE:=A.foldl (fun K k=>Zgg1 K k.PE k.EP) K
def ansM (id:Int) (A:List KE):List ML:=A.map fun k=>⟨id,k.PE,⟨6,k.EP,0⟩⟩
def ansV (id:Int) (A:List KE):List EV:=A.map fun k=>⟨6,id,0,k.PE,[]⟩
structure AskOK (S:List SX) (A:List KE):Prop where
 rng:∀k∈A, -100000≤k.PE∧k.PE≤100000
 new:∀k∈A,∀x∈S,x.PE≠k.PE
 dis:(A.map (·.PE)).Nodup
theorem Z5h1 (S:List SX) (A:List KE) (k:KE):ansS S (A++[k])=putS (ansS S A) (newS k):=by simp [ansS]
theorem Z6h1 (K:List KE) (A:List KE) (k:KE):ansK K (A++[k])=Zgg1 (ansK K A) k.PE k.EP:=by simp [ansK]
theorem Z7h1 {S:List SX}:∀ {A:List KE} {x:SX},x∈ansS S A↔x∈S∨∃k∈A,x=newS k:=by
 intro A;have:∀(A:List KE) (S:List SX) (x:SX),x∈ansS S A↔x∈S∨∃k∈A,x=newS k:=by
  intro A;induction A with
  | nil=>intro S x;simp [ansS]
  | cons k A ih=>
    intro S x;show x∈ansS (putS S (newS k)) A↔_;rw [ih,Zsg1];constructor
    ·rintro ((h | h) | ⟨q,h1,h2⟩)
     ·exact .inr ⟨k,by simp,h⟩
     ·exact .inl h
     ·exact .inr ⟨q,by simp [h1],h2⟩
    ·rintro (h | ⟨q,h1,h2⟩)
     ·exact .inl (.inr h)
     ·rcases List.mem_cons.1 h1 with rfl | h1
      ·exact .inl (.inl h2)
      ·exact .inr ⟨q,h1,h2⟩
 exact fun {x}=>this A S x
theorem AskOK.mid {S:List SX} {A pre post:List KE} {k:KE} (h:AskOK S A) (e:A=pre++k::post):∀y∈ansS S pre,y.PE≠k.PE:=by
 intro y hy;rcases Z7h1.1 hy with hy | ⟨q,h1,rfl⟩
 ·exact h.new k (by rw [e];simp) y hy
 ·have hd:=h.dis;rw [e,List.map_append,List.map_cons,List.nodup_append] at hd;exact hd.2.2 q.PE (List.mem_map.2 ⟨q,h1,rfl⟩) k.PE (by simp)
theorem Z8h1 {S:List SX} {K A:List KE} (Y:RowS S) (U:RowK K) (J:AskOK S A) (h8:S.length+A.length≤1000) (h9:K.length+A.length≤1000):∀(post pre:List KE),A=pre++post→RowS (ansS S pre)∧RowK (ansK K pre)∧(ansS S pre).length=S.length+pre.length∧(ansK K pre).length≤K.length+pre.length:=by
 intro post;have:∀(n:Nat) (pre:List KE),pre.length=n→(∃post,A=pre++post)→RowS (ansS S pre)∧RowK (ansK K pre)∧(ansS S pre).length=S.length+pre.length∧(ansK K pre).length≤K.length+pre.length:=by
  intro n;induction n with
  | zero=>intro pre h _;have:pre=[]:=List.length_eq_zero_iff.1 h;subst this;exact ⟨Y,U,rfl,Nat.le_refl _⟩
  | succ n ih=>
    intro pre h ⟨post,e⟩;rcases List.eq_nil_or_concat pre with rfl | ⟨q,k,rfl⟩
    ·simp at h
    ·rw [List.concat_eq_append] at *;have hq:q.length=n:=by rw [Zbb1] at h;omega
     obtain ⟨i1,i2,i3,i4⟩:=ih q hq ⟨k::post,by rw [e];simp⟩;have hk:k∈A:=by rw [e];simp
     have h6:q.length+1≤A.length:=by rw [e,List.length_append,Zbb1];omega
     have hr:=J.rng k hk;rw [Z5h1,Z6h1,Zbb1];refine ⟨i1.put (by omega) (J.mid (k:=k) (post:=post) (by rw [e];simp)) hr,i2.know (by omega) hr,by rw [Ztg1];omega,?_⟩;have:=Zyg1 (ansK K q) k.PE k.EP;omega
 exact fun pre e=>this pre.length pre rfl ⟨post,e⟩
theorem Z9h1 (a b c d:Int) (B:List SE) (O:List Int) (f:Int) (S:List SX) (N:List Int) (K A:List KE) (E:List ML) (V:List EV) (Y:RowS S) (U:RowK K) (J:AskOK S A) (h6:S.length+A.length≤1000) (h8:K.length+A.length≤1000) (Z:E.length≤900000) (hV:V.length≤900000):
  Zu61 a b c d B O f S N K A E V=some (ansS S A,ansK K A,E++ansM a A,V++ansV a A):=by
 unfold Zu61;have e0:((0:Int),S,K,E,V)=((([]:List KE).length:Int),ansS S [],ansK K [],E++ansM a [],V++ansV a []):=by simp [ansS,ansK,ansM,ansV]
 rw [e0];refine Z5b1 A _ (fun pre=>((pre.length:Int),ansS S pre,ansK K pre,E++ansM a pre,V++ansV a pre)) _ (fun pre k post h=>?_) ?_
 ·have hx:=Z6b1 h;have hm:=Z7b1 h;obtain ⟨r1,r2,r3,r4⟩:=Z8h1 Y U J h6 h8 (k::post) pre h;have hr:=J.rng k (Z8b1 h);dsimp only [Zt61];rw [Zoa1 hx,Zha1,Zla1 hx,OB];have e1:(⟨k.PE,k.EP,0,false,false,true,false,true⟩:SX)=newS k:=rfl;rw [e1,Zmg1 (newS k) a b c d B O f _ N _ A _ _ r1 r2 hr,OB,Z2h1 _ _ _ _ _ _ _ _ _ _ _ _ _ _ _ (by rw [List.length_append,ansM,List.length_map];omega),OB,Z3h1 _ _ _ _ _ _ _ _ _ _ _ _ _ _ _ (by rw [List.length_append,ansV,List.length_map];omega),OB,Zqa1 (by omega),Zbb1,Z5h1,Z6h1];simp [ansM,ansV,newS]
 ·dsimp only [Zt61];rw [Zpa1,Zia1];rfl
def untB (T:List Int) (x:SX):Bool:=Zkf1 x&&!decide (x.PE∈T)
def Zah1 (id:Int):List SX→List Int→List ML→List Int×List ML
 | [],T,E=>(T,E)
 | x::l,T,E=>if untB T x then Zah1 id l (setL (T++[x.PE])) (E++[⟨id,x.PE,⟨5,x.EP,0⟩⟩]) else Zah1 id l T E
theorem Zbh1 (a b c d:Int) (B:List SE) (O:List Int) (f:Int) (S:List SX) (N:List Int) (K A:List KE) (E:List ML) (V:List EV) (Y:S.length≤1000) (U:O.length≤1000) (J:E.length≤900000):
  Zx51 a b c d B O f S N K A E V=some (Zah1 a S O E):=by
 unfold Zx51;have key:∀(post pre:List SX) (T:List Int) (E:List ML),S=pre++post→T.length≤1000+pre.length→E.length≤900000+pre.length→loop (Zw51 a b c d B f S N K A V) ((pre.length:Int),T,E)=some (Zah1 a post T E):=by
  intro post;induction post with
  | nil=>
    intro pre T E h _ _;have h:pre=S:=by simpa using h.symm
    subst h;rw [Zdc];dsimp only [Zw51];rw [Zpa1,Zia1];rfl
  | cons x post ih=>
    intro pre T E h hT J;have hx:=Z6b1 h;have hm:=Z7b1 h;have h6:Zy11 T x.PE=some (setL (T++[x.PE])):=s_Add T x.PE (by omega);have h8:(setL (T++[x.PE])).length≤T.length+1:=by have:=Zac1 (T++[x.PE]);simpa using this
    have j3:∀(T:List Int) (E:List ML),Zu51 (pre.length:Int) (T,E)=some (.inl (((pre++[x]).length:Int),T,E)):=fun T E=>by dsimp only [Zu51];rw [Zqa1 (by omega),Zbb1]
    have j2:∀z,Zv51 a b c d B f S N K A V (pre.length:Int) T E x z=if z then some (.inl (((pre++[x]).length:Int),setL (T++[x.PE]),E++[⟨a,x.PE,⟨5,x.EP,0⟩⟩])) else some (.inl (((pre++[x]).length:Int),T,E)):=fun z=>by
     cases z with
     | false=>dsimp only [Zv51];rw [Zia1,j3];rfl
     | true=>dsimp only [Zv51];rw [Zha1,Z2h1 _ _ _ _ _ _ _ _ _ _ _ _ _ _ _ (by omega),OB,h6,OB,j3];rfl
    have step:Zw51 a b c d B f S N K A V ((pre.length:Int),T,E)=if untB T x then some (.inl (((pre++[x]).length:Int),setL (T++[x.PE]),E++[⟨a,x.PE,⟨5,x.EP,0⟩⟩])) else some (.inl (((pre++[x]).length:Int),T,E)):=by
     dsimp only [Zw51];rw [Zoa1 hx,Zha1,Zla1 hx,OB];simp only [Zwn,OB,Z3c1 T x.PE (by omega),j2];unfold untB Zkf1;cases decide (x.SS=1) with
     | false=>rfl
     | true=>cases decide (x.PE∈T)<;>rfl
    rw [Zdc,step];unfold Zah1;cases hu:untB T x with
    | true=>rw [if_pos rfl,if_pos rfl];exact ih (pre++[x]) _ _ (by simpa using h) (by rw [Zbb1];omega) (by rw [Zbb1,Zbb1];omega)
    | false=>rw [if_neg (by simp),if_neg (by simp)];exact ih (pre++[x]) T E (by simpa using h) (by rw [Zbb1];omega) (by rw [Zbb1];omega)
 exact key S [] O E rfl (by simpa using U) (by simpa using J)
theorem Zch1 (l:List SX) (p:SX→Option Bool) (q:SX→Bool) (hl:l.length≤1000000) (hp:∀x∈l,p x=some (q x)):Zhy l p=some (l.filter fun x=>!q x):=by
 simp only [Zhy,Zib1 l p q (by omega) hp,OB];cases hf:l.findIdx? q with
 | none=>rw [List.findIdx?_eq_none_iff] at hf;rw [show plc none = -1 from rfl,DT rfl,Zha1,List.filter_eq_self.2 (fun x hx=>by rw [hf x hx];rfl)]
 | some i=>
   obtain ⟨hi,hq,ho⟩:=List.findIdx?_eq_some_iff_getElem.1 hf;rw [show plc (some i)=(i:Int) from rfl,DN (by omega),Zia1,Zqa1 (by omega)]
   let F:List SX→List SX:=fun pre=>pre.filter fun x=>!q x
   have hF:∀pre post,l=pre++post→(F pre).length≤pre.length:=fun pre post _=>List.length_filter_le _ _;have key:=Z2b1 l (Zgy p) (fun pre=>(((F pre).length:Int),(pre.length:Int),F pre++l.drop (F pre).length)) (fun _ _=>some (F l)) (fun pre x post h=>?_) ?_ (l.drop (i+1)) (l.take (i+1)) (by simp)
   ·have e1:F (l.take (i+1))=l.take i:=by
     show (l.take (i+1)).filter _=_;rw [List.take_succ_eq_append_getElem hi,List.filter_append];have a1:(l.take i).filter (fun x=>!q x)=l.take i:=by rw [List.filter_eq_self];intro x hx;obtain ⟨j,hj,rfl⟩:=List.mem_iff_getElem.1 hx;rw [List.getElem_take];have:=ho j (by simp at hj;omega);simpa using this
     have a2: [l[i]].filter (fun x=>!q x)=[]:=by simp [hq]
     rw [a1,a2,List.append_nil]
    rw [e1] at key;have e2:(l.take i).length=i:=by simp;omega
    have e3:(l.take (i+1)).length=i+1:=by simp;omega
    rw [e2,e3,List.take_append_drop] at key;exact key
   ·left;refine ⟨?_,rfl⟩;have hx:=Z6b1 h;have hm:=Z7b1 h;have h8:=hF pre (x::post) h;have h6:(F pre++l.drop (F pre).length).length=l.length:=by simp;omega
    have h9:(F pre++l.drop (F pre).length)[pre.length]?=some x:=by rw [List.getElem?_append_right h8,List.getElem?_drop,show (F pre).length+(pre.length-(F pre).length)=pre.length by omega];exact hx
    dsimp only [Zgy];rw [Zoa1 h9,Zha1,Zla1 h9,OB,hp x (Z8b1 h),OB];have hc:F (pre++[x])=F pre++(if q x then [] else [x]):=by show (pre++[x]).filter _=_;rw [List.filter_append];congr 1;cases hw:q x<;>simp [hw]
    cases hn:q x with
    | true=>rw [Bool.not_true,Zia1];dsimp only [Zfy];rw [Zqa1 (by omega),hc,hn,if_pos rfl,List.append_nil,Zbb1]
    | false=>
      rw [Bool.not_false,Zha1];obtain ⟨d,hd⟩:=Z8c1 (fun x=>!q x) pre post x;rw [←h] at hd;have hd':l.drop (F pre).length=d::l.drop ((F pre).length+1):=hd;have hA:(F pre++l.drop (F pre).length)[(F pre).length]?=some d:=by rw [hd'];simp
      rw [Zla1 hA,OB];dsimp only [Zfy];rw [Zqa1 (by omega),Zqa1 (by omega),hc,hn,if_neg (by simp),Zbb1,hd',Int.toNat_natCast,Zbb1];simp
   ·dsimp only [Zgy];have h8:=hF l [] (by simp);have h6:(F l++l.drop (F l).length).length=l.length:=by simp;omega
    rw [show ((l.length:Int))=((F l++l.drop (F l).length).length:Int) by rw [h6],Zpa1,Zia1];dsimp only [Zey];unfold vw_;rw [ln_eq,h6,if_pos ⟨by omega,by omega,by omega,by omega⟩,OB];unfold Zug;rw [h6,if_pos ⟨by omega,by simp;omega⟩,OB];unfold Z9c;rw [if_pos ⟨by omega,by omega,by simp;omega⟩,OB];simp [Int.toNat_natCast,List.append_assoc]
theorem Zdh1 (p a b c d:Int) (B:List SE) (O:List Int) (f:Int) (S:List SX) (N:List Int) (K A:List KE) (E:List ML) (V:List EV) (J:S.length≤1000):
  Zt01 p a b c d B O f S N K A E V=some (S.filter fun x=>!decide (x.PE=p)):=by
 simp only [Zt01,Zch1 S (fun z=>Zyn z p) (fun x=>decide (x.PE=p)) (by omega) (fun _ _=>rfl),OB]
def Zeh1 (th:Int) (N:List Int) (x:SX):Bool:=decide (x.SS=2)&&!(decide (th=2)&&decide (x.PE∈N))
def Zfh1 (id th:Int) (N:List Int) (x:SX):Option SX:=if Zeh1 th N x then (if id<x.PE then some {x with SS:=3} else none) else some x
def Zgh1 (id th:Int) (N:List Int) (x:SX):List ML:=if Zeh1 th N x then [⟨id,x.PE,⟨if id<x.PE then 7 else 8,x.EP,0⟩⟩] else []
def Zhh1 (id th:Int) (N:List Int) (S:List SX):List SX:=S.filterMap (Zfh1 id th N)
def Zih1 (id th:Int) (N:List Int) (S:List SX):List ML:=S.flatMap (Zgh1 id th N)
theorem goes3 (th:Int) (N:List Int) (x:SX):Zeh1 th N {x with SS:=3}=false:=by simp [Zeh1]
theorem Zjh1 {id th:Int} {N:List Int} {S:List SX} (h:∀x∈S,Zeh1 th N x=false):Zhh1 id th N S=S∧Zih1 id th N S=[]:=by
 induction S with
 | nil=>exact ⟨rfl,rfl⟩
 | cons x S ih=>
   have h1:=h x (by simp);obtain ⟨i1,i2⟩:=ih fun y hy=>h y (List.mem_cons_of_mem _ hy);refine ⟨?_,?_⟩
   ·unfold Zhh1 at i1 ⊢;rw [List.filterMap_cons,Zfh1,h1];simp [i1]
   ·unfold Zih1 at i2 ⊢;rw [List.flatMap_cons,i2,Zgh1,h1];rfl
theorem Zkh1 (id th:Int) (N:List Int) (a b:List SX):Zhh1 id th N (a++b)=Zhh1 id th N a++Zhh1 id th N b:=List.filterMap_append
theorem Zlh1 (id th:Int) (N:List Int) (a b:List SX):Zih1 id th N (a++b)=Zih1 id th N a++Zih1 id th N b:=by simp [Zih1]
theorem Zmh1 (id th:Int) (N:List Int) (S:List SX):∀x∈Zhh1 id th N S,Zeh1 th N x=false:=by
 intro x hx;obtain ⟨y,hy,h⟩:=List.mem_filterMap.1 hx;unfold Zfh1 at h;split at h
 ·split at h
  ·simp at h;subst h;exact goes3 th N y
  ·simp at h
 ·rename_i hg;simp at h;subst h;simpa using hg
theorem Znh1 (id th:Int) (N:List Int) (S:List SX):(Zih1 id th N S).length≤S.length:=by
 induction S with
 | nil=>simp [Zih1]
 | cons x S ih=>
   have:(Zgh1 id th N x).length≤1:=by unfold Zgh1;split<;>simp
   unfold Zih1 at ih ⊢;rw [List.flatMap_cons,List.length_append,List.length_cons];omega
theorem Zoh1 (id th:Int) (N:List Int) (S:List SX):(Zhh1 id th N S).length≤S.length:=List.length_filterMap_le _ _
section
variable (id ph th d:Int) (B:List SE) (O:List Int) (f:Int) (N:List Int) (K A:List KE) (V:List EV)
theorem Zph1 (S:List SX) (J:S.Pairwise fun x y=>x.PE<y.PE) (hl:S.length≤1000) (U:N.length≤100000):∀(post pre:List SX) (E:List ML),S=pre++post→(∀x∈pre,Zeh1 th N x=true→id<x.PE)→E.length≤900000+pre.length→
  (∃q x r,post=q++x::r∧(∀y∈q,Zeh1 th N y=true→id<y.PE)∧Zeh1 th N x=true∧¬id<x.PE∧loop (Z531 id ph th d B O f N K A V S) ((pre.length:Int),Zhh1 id th N pre++post,E)=some (.inl (Zhh1 id th N (pre++q)++r,E++Zih1 id th N (q++[x]))))
  ∨(∀x∈post,Zeh1 th N x=true→id<x.PE)∧loop (Z531 id ph th d B O f N K A V S) ((pre.length:Int),Zhh1 id th N pre++post,E)=some (.inr (E++Zih1 id th N post,Zhh1 id th N S)):=by
 intro post;induction post with
 | nil=>
   intro pre E h hp hE;have h:pre=S:=by simpa using h.symm
   subst h;right;refine ⟨by simp,?_⟩;rw [Zdc];dsimp only [Z531];rw [Zpa1,Zia1];simp [Z231,Zih1]
 | cons x post ih=>
   intro pre E h hp hE;have hx:=Z6b1 h;have hm:=Z7b1 h;have h6:(Zhh1 id th N pre).length=pre.length:=by
    have:∀(l:List SX),(∀x∈l,Zeh1 th N x=true→id<x.PE)→(Zhh1 id th N l).length=l.length:=by
     intro l;induction l with
     | nil=>intro _;rfl
     | cons y l ih=>
       intro hl;have i:=ih fun z hz=>hl z (List.mem_cons_of_mem _ hz);unfold Zhh1 at i ⊢;have hy:=hl y (by simp);have e:∃z,Zfh1 id th N y=some z:=by
        unfold Zfh1;cases hg:Zeh1 th N y with
        | false=>exact ⟨y,by simp⟩
        | true=>exact ⟨_,by simp [hy hg];rfl⟩
       obtain ⟨z,e⟩:=e;rw [List.filterMap_cons,e];simp only [List.length_cons,i]
    exact this pre hp
   have at1:at_ (Zhh1 id th N pre++x::post) (pre.length:Int)=some x:=by rw [←h6];exact Z9b1 rfl
   have st1:∀z:SX,(Zhh1 id th N pre++x::post).set ((pre.length:Int)).toNat z=Zhh1 id th N pre++z::post:=fun z=>by rw [←h6];exact Zab1 _ _ _ _
   have j2:∀(z:SX) (E:List ML),Z331 (pre.length:Int) (Zhh1 id th N pre++z::post,E)=some (.inl (((pre++[x]).length:Int),Zhh1 id th N pre++z::post,E)):=fun z E=>by dsimp only [Z331];rw [Zqa1 (by omega),Zbb1]
   have j3:∀z,Z431 id ph th d B O f N K A V (pre.length:Int) (Zhh1 id th N pre++x::post) E x z=if z then some (.inl (((pre++[x]).length:Int),Zhh1 id th N pre++x::post,E)) else if id<x.PE then some (.inl (((pre++[x]).length:Int),Zhh1 id th N pre++{x with SS:=3}::post,E++[⟨id,x.PE,⟨7,x.EP,0⟩⟩])) else some (.inr (.inl ((Zhh1 id th N pre++x::post).filter fun y=>!decide (y.PE=x.PE),E++[⟨id,x.PE,⟨8,x.EP,0⟩⟩]))):=fun z=>by
    have h8:(Zhh1 id th N pre++x::post).length≤1000:=by rw [List.length_append,h6];rw [h,List.length_append] at hl;exact hl
    cases z with
    | true=>dsimp only [Z431];rw [Zha1,j2];rfl
    | false=>
      dsimp only [Z431];rw [Zia1,if_neg (by simp)];by_cases hq:id<x.PE
      ·rw [DT hq,Zha1,if_pos hq,Z2h1 _ _ _ _ _ _ _ _ _ _ _ _ _ _ _ (by omega),OB,st1,j2]
      ·rw [DN hq,Zia1,if_neg hq,Zdh1 _ _ _ _ _ _ _ _ _ _ _ _ _ _ h8,OB,Z2h1 _ _ _ _ _ _ _ _ _ _ _ _ _ _ _ (by omega),OB];rfl
   have step:Z531 id ph th d B O f N K A V S ((pre.length:Int),Zhh1 id th N pre++x::post,E)=if Zeh1 th N x then (if id<x.PE then some (.inl (((pre++[x]).length:Int),Zhh1 id th N pre++{x with SS:=3}::post,E++[⟨id,x.PE,⟨7,x.EP,0⟩⟩])) else some (.inr (.inl ((Zhh1 id th N pre++x::post).filter fun y=>!decide (y.PE=x.PE),E++[⟨id,x.PE,⟨8,x.EP,0⟩⟩])))) else some (.inl (((pre++[x]).length:Int),Zhh1 id th N pre++x::post,E)):=by
    dsimp only [Z531];rw [Zoa1 hx,Zha1,at1,OB];simp only [Z3c1 N x.PE (show N.length≤1000000 by omega),OB,j3];unfold Zeh1;cases decide (x.SS=2) with
    | false=>rfl
    | true=>cases decide (th=2) with
      | false=>rfl
      | true=>cases decide (x.PE∈N)<;>rfl
   rw [Zdc,step];cases hg:Zeh1 th N x with
   | false=>
     rw [if_neg (by simp)];have e:Zhh1 id th N (pre++[x])=Zhh1 id th N pre++[x]:=by rw [Zkh1];simp [Zhh1,Zfh1,hg]
     have:=ih (pre++[x]) E (by simpa using h) (fun y hy=>by
      rcases List.mem_append.1 hy with hy | hy
      ·exact hp y hy
      ·simp at hy;subst hy;rw [hg];simp) (by rw [Zbb1];omega)
     rw [e,List.append_assoc,List.singleton_append] at this;rcases this with ⟨q,y,r,h1,h2,h3,h4,h5⟩ | ⟨h1,h2⟩
     ·left;refine ⟨x::q,y,r,by rw [h1];rfl,fun z hz=>?_,h3,h4,?_⟩
      ·rcases List.mem_cons.1 hz with rfl | hz
       ·rw [hg];simp
       ·exact h2 z hz
      ·refine Eq.trans h5 ?_;have e2:Zih1 id th N (x::q++[y])=Zih1 id th N (q++[y]):=by show Zih1 id th N ([x]++(q++[y]))=_;rw [Zlh1];simp [Zih1,Zgh1,hg]
       rw [e2,List.append_assoc];rfl
     ·right;refine ⟨fun z hz=>?_,?_⟩
      ·rcases List.mem_cons.1 hz with rfl | hz
       ·rw [hg];simp
       ·exact h1 z hz
      ·refine Eq.trans h2 ?_;have e2:Zih1 id th N (x::post)=Zih1 id th N post:=by show Zih1 id th N ([x]++post)=_;rw [Zlh1];simp [Zih1,Zgh1,hg]
       rw [e2]
   | true=>
     rw [if_pos rfl];by_cases hq:id<x.PE
     ·rw [if_pos hq];have e:Zhh1 id th N (pre++[x])=Zhh1 id th N pre++[{x with SS:=3}]:=by rw [Zkh1];simp [Zhh1,Zfh1,hg,hq]
      have:=ih (pre++[x]) (E++[⟨id,x.PE,⟨7,x.EP,0⟩⟩]) (by simpa using h) (fun y hy=>by
       rcases List.mem_append.1 hy with hy | hy
       ·exact hp y hy
       ·simp at hy;subst hy;exact fun _=>hq) (by rw [Zbb1,Zbb1];omega)
      rw [e,List.append_assoc,List.singleton_append] at this;have em:Zih1 id th N [x]=[⟨id,x.PE,⟨7,x.EP,0⟩⟩]:=by simp [Zih1,Zgh1,hg,hq]
      rcases this with ⟨q,y,r,h1,h2,h3,h4,h5⟩ | ⟨h1,h2⟩
      ·left;refine ⟨x::q,y,r,by rw [h1];rfl,fun z hz=>?_,h3,h4,?_⟩
       ·rcases List.mem_cons.1 hz with rfl | hz
        ·exact fun _=>hq
        ·exact h2 z hz
       ·refine Eq.trans h5 ?_;have e2:Zih1 id th N (x::q++[y])=Zih1 id th N [x]++Zih1 id th N (q++[y]):=Zlh1 id th N [x] (q++[y]);rw [e2,em,List.append_assoc,List.append_assoc];rfl
      ·right;refine ⟨fun z hz=>?_,?_⟩
       ·rcases List.mem_cons.1 hz with rfl | hz
        ·exact fun _=>hq
        ·exact h1 z hz
       ·refine Eq.trans h2 ?_;have e2:Zih1 id th N (x::post)=Zih1 id th N [x]++Zih1 id th N post:=Zlh1 id th N [x] post;rw [e2,em,List.append_assoc]
     ·rw [if_neg hq];left;refine ⟨[],x,post,rfl,by simp,hg,hq,?_⟩;rw [h] at J;rw [List.pairwise_append,List.pairwise_cons] at J;obtain ⟨_,⟨p1,_⟩,p2⟩:=J;have e1:(Zhh1 id th N pre++x::post).filter (fun y=>!decide (y.PE=x.PE))=Zhh1 id th N pre++post:=by
       rw [List.filter_append,List.filter_cons,List.filter_eq_self.2,List.filter_eq_self.2]
       ·simp
       ·intro y hy;have:=p1 y hy;simp;omega
       ·intro y hy;obtain ⟨z,hz,hy⟩:=List.mem_filterMap.1 hy;have:=p2 z hz x (by simp);have e:y.PE=z.PE:=by
         unfold Zfh1 at hy;split at hy
         ·split at hy
          ·simp at hy;subst hy;rfl
          ·simp at hy
         ·simp at hy;subst hy;rfl
        simp;omega
      have em:Zih1 id th N [x]=[⟨id,x.PE,⟨8,x.EP,0⟩⟩]:=by simp [Zih1,Zgh1,hg,hq]
      rw [e1,List.append_nil,List.nil_append,em]
theorem Zqh1 (J:N.length≤100000):∀(n:Nat) (S:List SX) (E:List ML),S.length≤n→S.length≤1000→S.Pairwise (fun x y=>x.PE<y.PE)→E.length+(Zih1 id th N S).length≤900000→
  loop (Z631 id ph th d B O f N K A V) (S,E)=some (E++Zih1 id th N S,Zhh1 id th N S):=by
 intro n;induction n with
 | zero=>
   intro S E hn _ _ _;have:S=[]:=List.length_eq_zero_iff.1 (by omega);subst this;rw [Zdc];dsimp only [Z631];rcases Zph1 id ph th d B O f N K A V [] List.Pairwise.nil (by simp) J [] [] E rfl (by simp) (by simp;omega) with ⟨q,x,r,h,_⟩ | ⟨_,h⟩
   ·have:=congrArg List.length h;simp at this
   ·have h:loop (Z531 id ph th d B O f N K A V []) (0,[],E)=_:=h;rw [h]
 | succ n ih=>
   intro S E hn hl hS hE;rw [Zdc];dsimp only [Z631];rcases Zph1 id ph th d B O f N K A V S hS hl J S [] E rfl (by simp) (by simp;omega) with ⟨q,x,r,h1,h2,h3,h4,h5⟩ | ⟨_,h⟩
   ·have h5:loop (Z531 id ph th d B O f N K A V S) (0,S,E)=_:=h5;rw [h5];dsimp only;have ql:=Zoh1 id th N q;have qm:=Znh1 id th N (q++[x]);have h9:S.length=q.length+(r.length+1):=by rw [h1];simp
    have hx:Zhh1 id th N [x]=[]:=by simp [Zhh1,Zfh1,h3,h4]
    have h6:=Zjh1 (id:=id) (Zmh1 id th N q);have hp:(Zhh1 id th N ([]++q)++r).Pairwise fun x y=>x.PE<y.PE:=by
     rw [h1,List.pairwise_append,List.pairwise_cons] at hS;obtain ⟨s1,⟨_,s2⟩,s3⟩:=hS;have key:∀y∈Zhh1 id th N q,∃z∈q,y.PE=z.PE:=by
      intro y hy;obtain ⟨z,hz,hy⟩:=List.mem_filterMap.1 hy;refine ⟨z,hz,?_⟩;unfold Zfh1 at hy;split at hy
      ·split at hy
       ·simp at hy;subst hy;rfl
       ·simp at hy
      ·simp at hy;subst hy;rfl
     rw [List.nil_append,List.pairwise_append];refine ⟨?_,s2,fun y hy z hz=>?_⟩
     ·unfold Zhh1;rw [List.pairwise_filterMap];refine s1.imp fun {a b} h8 y hy z hz=>?_;have e:∀ {a y:SX},Zfh1 id th N a=some y→y.PE=a.PE:=by
       intro a y hy;unfold Zfh1 at hy;split at hy
       ·split at hy
        ·simp at hy;subst hy;rfl
        ·simp at hy
       ·simp at hy;subst hy;rfl
      rw [e hy,e hz];exact h8
     ·obtain ⟨w,hw,e⟩:=key y hy;rw [e];exact s3 w hw z (List.mem_cons_of_mem _ hz)
    have e3:Zih1 id th N (q++x::r)=Zih1 id th N (q++[x])++Zih1 id th N r:=by rw [←Zlh1];simp
    have e4:Zhh1 id th N (q++x::r)=Zhh1 id th N q++Zhh1 id th N r:=by rw [show q++x::r=q++([x]++r) from rfl,Zkh1,Zkh1,hx];rfl
    have e5:Zih1 id th N (Zhh1 id th N q++r)=Zih1 id th N r:=by rw [Zlh1 id th N (Zhh1 id th N q) r,h6.2];rfl
    have e6:Zhh1 id th N (Zhh1 id th N q++r)=Zhh1 id th N q++Zhh1 id th N r:=by rw [Zkh1 id th N (Zhh1 id th N q) r,h6.1]
    rw [h1,e3,List.length_append] at hE;rw [List.nil_append] at hp ⊢;rw [ih _ _ (by rw [List.length_append];omega) (by rw [List.length_append];omega) hp (by rw [List.length_append,e5];omega)];rw [e5,e6,h1,e3,e4,List.append_assoc]
   ·have h:loop (Z531 id ph th d B O f N K A V S) (0,S,E)=_:=h;rw [h]
end
end NX
end Go.Proofs.YtgamgemlekpepaaGreat
