/-
  Plain laws: loops of models over lists and ranges. No statement of the seat is proved here.
-/
import Derived.Test.YtjemlejoladlcaaGreatL27
namespace Go.Proofs.YtjemlejoladlcaaGreat
namespace NX
open Go
theorem OB {α β:Type} (a:α) (f:α→Option β):(some a).bind f=f a:=rfl
theorem DN {p:Prop} [Decidable p] (h:¬p):decide p=false:=decide_eq_false h
theorem DT {p:Prop} [Decidable p] (h:p):decide p=true:=decide_eq_true h
@[simp] theorem A3 {α:Type} (a b:Option α):A0 true a b=a:=rfl
@[simp] theorem A1 {α:Type} (a b:Option α):A0 false a b=b:=rfl
theorem Jl {α:Type} (e:Bool) (a b:Option α):A0 (!e) a b=A0 e b a:=by cases e<;>rfl
theorem CT {n:Int} (h1: -9223372036854775808≤n) (h2:n≤9223372036854775807):wr n=n:=IntWalk.i64_in n ⟨h1,h2⟩
theorem Aj {α:Type} {l:List α} {k:Nat} {x:α} (h:l[k]?=some x):A4 l (k:Int)=some x:=by unfold A4;rw [if_pos (Int.natCast_nonneg k)];simpa using h
theorem UE {α:Type} {l:List α} {i:Int} (h0:0≤i) (h:i<l.length):∃x,A4 l i=some x∧l[i.toNat]?=some x:=by
 have hlt:i.toNat<l.length:=by omega
 exact ⟨l[i.toNat],by unfold A4;rw [if_pos h0,List.getElem?_eq_getElem hlt],List.getElem?_eq_getElem hlt⟩
theorem B0 {α:Type} {b:Nat} (l m:List α) (hb:b≤1000) (h:l.length+m.length≤100000000):AI b l m=some (l++m):=by unfold AI;rw [if_pos];exact ⟨by have h1:(l.length+m.length)*b≤100000000*1000:=Nat.mul_le_mul h hb;omega,Om⟩
theorem Ay {α:Type} {f:α→List AV} {l:List α} {k:Nat} {x:α} (h:l[k]?=some x):decide ((k:Int)<ln f l)=true:=by have:=(List.getElem?_eq_some_iff.1 h).1;rw [B7];simp;omega
theorem AB {α:Type} {f:α→List AV} {l:List α}:decide ((l.length:Int)<ln f l)=false:=by rw [B7];simp
theorem Al {k:Nat} (h:k≤4000000000000000000):wr ((k:Int)+1)=((k+1:Nat):Int):=CT Om Om
theorem Di {α:Type} {l:List α} {k:Nat} {x:α} (h:l[k]?=some x) (hl:l.length≤4000000000000000000):wr ((k:Int)+1)=((k+1:Nat):Int):=by have:=(List.getElem?_eq_some_iff.1 h).1;exact Al Om
def HZ {σ β:Type} (f:Nat→σ→Option (σ ⊕ β)) (E:σ→Option β):Nat→Nat→σ→Option β
 | 0,_,s=>E s
 | m+1,k,s=>match f k s with
   | none=>none
   | some (.inl s')=>HZ f E m (k+1) s'
   | some (.inr r)=>some r
theorem bF {σ β τ:Type} (body:τ→Option (τ ⊕ β)) (mk:Int→σ→τ) (f:Nat→σ→Option (σ ⊕ β)) (E:σ→Option β) (n:Nat) (hn:n≤4000000000000000000)
  (hb:∀(k:Nat) s,k<n→body (mk k s)=(f k s).map (fun | .inl s'=>.inl (mk (k+1:Nat) s') | .inr r=>.inr r)) (he:∀s,body (mk n s)=(E s).map .inr):
  ∀(m k:Nat) (s:σ),m+k=n→loop body (mk k s)=HZ f E m k s
 | 0,k,s,h=>by
   have:k=n:=by omega
   subst this;rw [B5,he];cases hf:E s<;>simp [HZ,hf]
 | m+1,k,s,h=>by
   rw [B5,hb k s Om];simp only [HZ];cases hf:f k s with
   | none=>rfl
   | some y=>
     cases y with
     | inl s'=>exact bF body mk f E n hn hb he m (k+1) s' Om
     | inr r=>rfl
def Mf {α σ β:Type} (f:α→σ→Option (σ ⊕ β)) (E:σ→Option β):List α→σ→Option β
 | [],s=>E s
 | x::l,s=>match f x s with
   | none=>none
   | some (.inl s')=>Mf f E l s'
   | some (.inr r)=>some r
theorem gM {α σ β:Type} (f:α→σ→Option (σ ⊕ β)) (E:σ→Option β) (l:List α):∀(r:List α) (k:Nat) (s:σ),l.drop k=r→HZ (fun k s=>(l[k]?).bind fun x=>f x s) E r.length k s=Mf f E r s
 | [],k,s,_=>rfl
 | x::r,k,s,h=>by
   have hx:l[k]?=some x:=by have:=congrArg (·[0]?) h;simpa using this
   have hr:l.drop (k+1)=r:=by rw [←List.drop_drop,h];rfl
   simp only [List.length_cons,HZ,Mf,hx,OB];cases hf:f x s with
   | none=>rfl
   | some y=>
     cases y with
     | inl s'=>exact gM f E l r (k+1) s' hr
     | inr r=>rfl
theorem jr {α σ β τ:Type} (l:List α) (body:τ→Option (τ ⊕ β)) (mk:Int→σ→τ) (f:α→σ→Option (σ ⊕ β)) (E:σ→Option β) (hl:l.length≤4000000000000000000)
  (hb:∀(k:Nat) x s,l[k]?=some x→body (mk k s)=(f x s).map (fun | .inl s'=>.inl (mk (k+1:Nat) s') | .inr r=>.inr r)) (he:∀s,body (mk l.length s)=(E s).map .inr) (s:σ):
  loop body (mk 0 s)=Mf f E l s:=by
 have:=bF body mk (fun k s=>(l[k]?).bind fun x=>f x s) E l.length hl (fun k s hk=>by have hx:l[k]?=some l[k]:=List.getElem?_eq_getElem hk;rw [hx,OB];exact hb k _ s hx) he l.length 0 s Om;rw [show ((0:Nat):Int)=0 from rfl] at this;rw [this];exact gM f E l l 0 s rfl
theorem gL {α β:Type} (f:α→Option (Unit ⊕ β)) (q:α→Bool) (g:α→β) (E:Option β) (l:List α) (hf:∀x∈l,f x=if q x then some (.inr (g x)) else some (.inl ())):
  Mf (fun x _=>f x) (fun _=>E) l ()=match l.find? q with | some x=>some (g x) | none=>E:=by
 induction l with
 | nil=>rfl
 | cons x l ih=>
   simp only [Mf,hf x (by simp),List.find?_cons];cases hq:q x with
   | true=>simp
   | false=>simp only [Bool.false_eq_true,if_false];exact ih fun y hy=>hf y (List.mem_cons_of_mem _ hy)
def Bf:Option Nat→Int
 | some i=>i
 | none=> -1
theorem HC (o:Option Nat):decide (0≤Bf o)=o.isSome:=by cases o<;>simp [Bf]
theorem YK (o:Option Nat):decide (Bf o<0)=o.isNone:=by
 cases o with
 | none=>rfl
 | some n=>exact DN (by show ¬((n:Int)<0);omega)
theorem gN {α:Type} (l:List α) (q:α→Bool):∀(r:List α) (k:Nat),l.drop k=r→
  HZ (β:=Int) (fun k (_:Unit)=>(l[k]?).bind fun x=>if q x then some (.inr (k:Int)) else some (.inl ())) (fun _=>some (-1)) r.length k ()=some (Bf ((r.findIdx? q).map (· + k)))
 | [],k,_=>by simp [HZ,Bf]
 | x::r,k,h=>by
   have hx:l[k]?=some x:=by have:=congrArg (·[0]?) h;simpa using this
   have hr:l.drop (k+1)=r:=by rw [←List.drop_drop,h];rfl
   simp only [List.length_cons,HZ,hx,OB,List.findIdx?_cons];cases hq:q x with
   | true=>simp [Bf]
   | false=>
     simp only [Bool.false_eq_true,if_false];rw [gN l q r (k+1) hr];cases r.findIdx? q with
     | none=>rfl
     | some n=>simp only [Option.map_some,Bf];congr 2;omega
theorem Hi {α:Type} (l:List α) (body:Int→Option (Int ⊕ Int)) (q:α→Bool) (hl:l.length≤4000000000000000000)
  (hb:∀(k:Nat) x,l[k]?=some x→body k=some (if q x then .inr (k:Int) else .inl ((k+1:Nat):Int))) (he:body l.length=some (.inr (-1))):loop body 0=some (Bf (l.findIdx? q)):=by
 have:=bF body (fun k (_:Unit)=>k) (fun k _=>(l[k]?).bind fun x=>if q x then some (.inr (k:Int)) else some (.inl ())) (fun _=>some (-1)) l.length hl (fun k s hk=>by have hx:l[k]?=some l[k]:=List.getElem?_eq_getElem hk;rw [hx,OB,hb k _ hx];cases q l[k]<;>rfl) (fun _=>he) l.length 0 () Om;rw [show ((0:Nat):Int)=0 from rfl] at this;rw [this,gN l q l 0 rfl];simp
theorem Hc {α:Type} (l:List α) (q:α→Bool):(l.findIdx? q).isSome=l.any q:=by rw [List.findIdx?_isSome]
theorem bE {α β:Type} (l:List α) (body:Int→Option (Int ⊕ β)) (q:α→Bool) (E no:β) (hl:l.length≤4000000000000000000)
  (hb:∀(k:Nat) x,l[k]?=some x→body k=some (if q x then .inr E else .inl ((k+1:Nat):Int))) (he:body l.length=some (.inr no)):loop body 0=some (if l.any q then E else no):=by
 have:=jr l body (fun k (_:Unit)=>k) (fun x _=>if q x then some (.inr E) else some (.inl ())) (fun _=>some no) hl (fun k x s hx=>by rw [hb k x hx];cases q x<;>rfl) (fun _=>he) ();rw [this,gL (fun x=>if q x then some (.inr E) else some (.inl ())) q (fun _=>E) (some no) l (fun x _=>rfl)];cases h:l.find? q with
 | none=>
   rw [List.find?_eq_none] at h;have:l.any q=false:=by rw [List.any_eq_false];exact h
   simp [this]
 | some x=>
   have:l.any q=true:=by rw [List.any_eq_true];exact ⟨x,List.mem_of_find?_eq_some h,List.find?_some h⟩
   simp [this]
theorem Q5 {α τ β:Type} (l:List α) (body:τ→Option (τ ⊕ β)) (st:List α→τ) (R:List α→List α→Option β)
  (hb:∀pre x post,l=pre++x::post→(body (st pre)=some (.inl (st (pre++[x])))∧R pre (x::post)=R (pre++[x]) post)∨∃r,body (st pre)=some (.inr r)∧R pre (x::post)=some r)
  (he:body (st l)=(R l []).map .inr):∀post pre,l=pre++post→loop body (st pre)=R pre post
 | [],pre,h=>by
   have:pre=l:=by simpa using h.symm
   subst this;rw [B5,he];cases R pre []<;>rfl
 | x::post,pre,h=>by
   rw [B5];rcases hb pre x post h with ⟨h1,h2⟩ | ⟨r,h1,h2⟩
   ·rw [h1,h2];exact Q5 l body st R hb he post (pre++[x]) (by simpa using h)
   ·rw [h1,h2]
theorem Hj {α τ β:Type} (l:List α) (body:τ→Option (τ ⊕ β)) (st:List α→τ) (R:List α→List α→Option β)
 (hb:∀pre x post,l=pre++x::post→(body (st pre)=some (.inl (st (pre++[x])))∧R pre (x::post)=R (pre++[x]) post)∨∃r,body (st pre)=some (.inr r)∧R pre (x::post)=some r)
 (he:body (st l)=(R l []).map .inr):loop body (st [])=R [] l:=Q5 l body st R hb he l [] rfl
theorem ju {α τ β:Type} (l:List α) (body:τ→Option (τ ⊕ β)) (st:List α→τ) (R:List α→List α→Option β) (I:List α→Prop)
  (hb:∀pre x post,l=pre++x::post→I pre→(body (st pre)=some (.inl (st (pre++[x])))∧I (pre++[x])∧R pre (x::post)=R (pre++[x]) post)∨∃r,body (st pre)=some (.inr r)∧R pre (x::post)=some r)
  (he:I l→body (st l)=(R l []).map .inr):∀post pre,l=pre++post→I pre→loop body (st pre)=R pre post
 | [],pre,h,hI=>by
   have:pre=l:=by simpa using h.symm
   subst this;rw [B5,he hI];cases R pre []<;>rfl
 | x::post,pre,h,hI=>by
   rw [B5];rcases hb pre x post h hI with ⟨h1,h3,h2⟩ | ⟨r,h1,h2⟩
   ·rw [h1,h2];exact ju l body st R I hb he post (pre++[x]) (by simpa using h) h3
   ·rw [h1,h2]
theorem CK {α τ β:Type} (l:List α) (body:τ→Option (τ ⊕ β)) (st:List α→τ) (r:β)
  (hb:∀pre x post,l=pre++x::post→body (st pre)=some (.inl (st (pre++[x])))) (he:body (st l)=some (.inr r)):loop body (st [])=some r:=
 Hj l body st (fun _ _=>some r) (fun pre x post h=>.inl ⟨hb pre x post h,rfl⟩) he
theorem Br {α:Type} {l pre post:List α} {x:α} (h:l=pre++x::post):l[pre.length]?=some x:=by subst h;simp
theorem Bp {α:Type} {l pre post:List α} {x:α} (h:l=pre++x::post):pre.length<l.length:=by subst h;simp
theorem Dt {α:Type} {l pre post:List α} {x:α} (h:l=pre++x::post):x∈l:=by subst h;simp
theorem Jd {α:Type} {l a b:List α} {x:α} (h:l=a++x::b):A4 l (a.length:Int)=some x:=Aj (Br h)
theorem LC {α:Type} (a b:List α) (x y:α):(a++x::b).set ((a.length:Int)).toNat y=a++y::b:=by simp
theorem AN {α:Type} (pre:List α) (x:α):(pre++[x]).length=pre.length+1:=by simp
theorem Gv {τ β:Type} (n:Nat) (body:τ→Option (τ ⊕ β)) (st:Nat→τ) (r:β) (hb:∀k,k<n→body (st k)=some (.inl (st (k+1)))) (he:body (st n)=some (.inr r)):loop body (st 0)=some r:=by
 have Af:∀m k,m+k=n→loop body (st k)=some r:=by
  intro m;induction m with
  | zero=>intro k hk;have:k=n:=by omega
          subst this;rw [B5,he]
  | succ m ih=>intro k hk;rw [B5,hb k Om];exact ih (k+1) Om
 exact Af n 0 rfl
theorem js {τ β:Type} (n:Nat) (body:τ→Option (τ ⊕ β)) (st:Nat→τ) (R:Nat→Option β) (hb:∀k,k<n→(body (st k)=some (.inl (st (k+1)))∧R k=R (k+1))∨∃r,body (st k)=some (.inr r)∧R k=some r) (he:body (st n)=(R n).map .inr):loop body (st 0)=R 0:=by
 have Af:∀m k,m+k=n→loop body (st k)=R k:=by
  intro m;induction m with
  | zero=>
    intro k hk;have:k=n:=by omega
    subst this;rw [B5,he];cases R k<;>rfl
  | succ m ih=>
    intro k hk;rw [B5];rcases hb k Om with ⟨h1,h2⟩ | ⟨r,h1,h2⟩
    ·rw [h1,h2];exact ih (k+1) Om
    ·rw [h1,h2]
 exact Af n 0 rfl
theorem MA {α:Type} (l m:List α) (body:Int→Option (Int ⊕ Bool)) (E:α→α→Bool) (h6:l.length=m.length) (hl:l.length≤4000000000000000000)
  (hb:∀(k:Nat) x y,l[k]?=some x→m[k]?=some y→body k=some (if E x y then .inl ((k+1:Nat):Int) else .inr false)) (he:body l.length=some (.inr true)):loop body 0=some ((l.zip m).all fun p=>E p.1 p.2):=by
 rw [bE (l.zip m) body (fun p=>!E p.1 p.2) false true (by simp;omega) (fun k x hx=>by obtain ⟨x1,x2⟩:=x;rw [List.getElem?_zip_eq_some] at hx;rw [hb k x1 x2 hx.1 hx.2];cases E x1 x2<;>rfl) (by rw [show (l.zip m).length=l.length by simp [h6]];exact he)];have:∀(q:List (α×α)),(if q.any (fun p=>!E p.1 p.2) then some false else some true)=some (q.all fun p=>E p.1 p.2):=by
  intro q;induction q with
  | nil=>rfl
  | cons p q ih=>
    rw [List.any_cons,List.all_cons];cases h:E p.1 p.2 with
    | true=>exact ih
    | false=>rfl
 have h2:=this (l.zip m);rw [←h2];cases (l.zip m).any (fun p=>!E p.1 p.2)<;>rfl
theorem LK {α:Type} [DecidableEq α]:∀(l m:List α),l.length=m.length→(l.zip m).all (fun p=>decide (p.1=p.2))=decide (l=m)
 | [],[],_=>rfl
 | [],_::_,h=>by simp at h
 | _::_,[],h=>by simp at h
 | x::l,y::m,h=>by have ih:=LK l m (by simpa using h);simp only [List.zip_cons_cons,List.all_cons,ih];by_cases h1:x=y<;>simp [h1]
theorem My {α:Type} [DecidableEq α] {l m:List α} (h:l.length≠m.length):decide (l=m)=false:=DN (by rintro rfl;exact h rfl)
theorem Mz {α β:Type} (f:α→List AV) (g:β→List AV) (l:List α) (m:List β):decide (ln f l=ln g m)=decide (l.length=m.length):=by rw [B7,B7,decide_eq_decide];omega
theorem Lz (l:List SX) (p:SX→Option Bool) (q:SX→Bool) (hl:l.length≤4000000000000000000) (hp:∀x∈l,p x=some (q x)):Hw l p=some (Bf (l.findIdx? q)):=by
 unfold Hw;refine Hi l _ q hl (fun k x hx=>?_) ?_
 ·simp only [Y1,Ay hx,A3,Aj hx,OB,hp x (List.mem_iff_getElem?.2 ⟨k,hx⟩),Di hx hl];cases q x<;>rfl
 ·simp only [Y1,AB,A1,Y0,Option.map_some]
theorem zp (l:List KE) (p:KE→Option Bool) (q:KE→Bool) (hl:l.length≤4000000000000000000) (hp:∀x∈l,p x=some (q x)):Tz l p=some (Bf (l.findIdx? q)):=by
 unfold Tz;refine Hi l _ q hl (fun k x hx=>?_) ?_
 ·simp only [XU,Ay hx,A3,Aj hx,OB,hp x (List.mem_iff_getElem?.2 ⟨k,hx⟩),Di hx hl];cases q x<;>rfl
 ·simp only [XU,AB,A1,XT,Option.map_some]
theorem mf (l:List Int) (p:Int→Option Bool) (q:Int→Bool) (hl:l.length≤4000000000000000000) (hp:∀x∈l,p x=some (q x)):Ol l p=some (Bf (l.findIdx? q)):=by
 unfold Ol;refine Hi l _ q hl (fun k x hx=>?_) ?_
 ·simp only [Y3,Ay hx,A3,Aj hx,OB,hp x (List.mem_iff_getElem?.2 ⟨k,hx⟩),Di hx hl];cases q x<;>rfl
 ·simp only [Y3,AB,A1,Y2,Option.map_some]
theorem me (l:List SE) (p:SE→Option Bool) (q:SE→Bool) (hl:l.length≤4000000000000000000) (hp:∀x∈l,p x=some (q x)):Ok l p=some (Bf (l.findIdx? q)):=by
 unfold Ok;refine Hi l _ q hl (fun k x hx=>?_) ?_
 ·simp only [XY,Ay hx,A3,Aj hx,OB,hp x (List.mem_iff_getElem?.2 ⟨k,hx⟩),Di hx hl];cases q x<;>rfl
 ·simp only [XY,AB,A1,XX,Option.map_some]
theorem Ue (l:List SX) (p:SX→Option Bool) (q:SX→Bool) (hl:l.length≤4000000000000000000) (hp:∀x∈l,p x=some (q x)):IC l p=some (l.any q):=by unfold IC;rw [Lz l p q hl hp,OB,HC,Hc]
theorem lZ (l:List KE) (p:KE→Option Bool) (q:KE→Bool) (hl:l.length≤4000000000000000000) (hp:∀x∈l,p x=some (q x)):Oa l p=some (l.any q):=by unfold Oa;rw [zp l p q hl hp,OB,HC,Hc]
theorem P7 (l:List Int) (p:Int→Option Bool) (q:Int→Bool) (hl:l.length≤4000000000000000000) (hp:∀x∈l,p x=some (q x)):G7 l p=some (l.any q):=by unfold G7;rw [mf l p q hl hp,OB,HC,Hc]
theorem zb (l:List SE) (p:SE→Option Bool) (q:SE→Bool) (hl:l.length≤4000000000000000000) (hp:∀x∈l,p x=some (q x)):Ob l p=some (l.any q):=by unfold Ob;rw [me l p q hl hp,OB,HC,Hc]
theorem eI {k:Nat} (h:k≤4000000000000000000):wr (((k+1:Nat):Int)-1)=(k:Int):=by rw [CT Om Om];omega
theorem qe {α:Type} (l:List α) (p:α→Bool):l.all (fun x=>!p x)=!l.any p:=by
 induction l with
 | nil=>rfl
 | cons x l ih=>simp [ih]
theorem LT {α:Type} (l:List α) (p q:α→Bool) (h:∀x,p x=!q x):l.any p=!l.all q:=by
 induction l with
 | nil=>rfl
 | cons x l ih=>simp [ih,h]
theorem dJ (l:List Int) (x:Int) (hl:l.length≤1000000):KW l x=some (decide (x∈l)):=by
 unfold KW;rw [bE l (Rr l x) (fun y=>decide (y=x)) true false Om (fun k y hy=>by
  have hw:wr ((k:Int)+1)=((k+1:Nat):Int):=Di hy Om;simp only [Rr,Ay hy,A3,Aj hy,OB,hw];by_cases h:y=x<;>simp [h])
  (by simp only [Rr,AB,A1,WF,Option.map_some])]
 by_cases h:x∈l
 ·have:l.any (fun y=>decide (y=x))=true:=by rw [List.any_eq_true];exact ⟨x,h,by simp⟩
  simp [this,h]
 ·have:l.any (fun y=>decide (y=x))=false:=by rw [List.any_eq_false];intro y hy;simp;rintro rfl;exact h hy
  simp [this,h]
theorem ys {l:List Int} (h:l.Pairwise (· < ·)) {k:Nat} {x y:Int} (hx:l[k]?=some x) (hy:l[k+1]?=some y):x<y:=by rw [List.pairwise_iff_getElem] at h;obtain ⟨h1,rfl⟩:=List.getElem?_eq_some_iff.1 hx;obtain ⟨h2,rfl⟩:=List.getElem?_eq_some_iff.1 hy;exact h k (k+1) h1 h2 Om
theorem fZ {l:List Int} (h:l.Pairwise (· < ·)):Lib.compact l=l:=by
 refine Lib.compact_all l fun j hj=>?_;cases j with
 | zero=>exact Lib.keeps_lt_one _ 0 Om
 | succ j=>have hx:l[j+1]?=some l[j+1]:=List.getElem?_eq_getElem hj;have hy:l[j]?=some l[j]:=List.getElem?_eq_getElem Om;have:=ys h hy hx;refine Lib.keeps_pos ?_;simp only [Nat.add_sub_cancel];rw [getElem!_pos _ _ (by simpa using hj),getElem!_pos _ _ (by simp;omega)];simp only [List.getElem_toArray];omega
def Bm (l:List Int):List Int:=Lib.compact (l.mergeSort fun x y=>decide (x≤y))
theorem Uh (l:List Int) (hl:l.length≤1000000):Gy l=some (Bm l):=by simp only [Gy,CF];rw [B0 _ _ Om (by simp;omega),OB,List.nil_append,DT Om,A3];rfl
theorem Z0s (l:List Int) (hl:l.length≤1000000) (h:l.Pairwise (· < ·)):Gy l=some l:=by rw [Uh l hl];unfold Bm;rw [List.mergeSort_of_pairwise (h.imp fun h6=>DT Om),fZ h]
theorem zl (n:Nat) (hn:n≤3000000):Tv n=some []:=by
 have e0:wr (0-0)=0:=CT Om Om;have e1:wr ((n:Int)-0)=n:=by rw [CT Om Om];omega
 simp only [Tv,XN,Tw,e0,e1];rw [DN Om,A1];by_cases h:0<n
 ·rw [DT Om,A3];unfold LU;rw [if_pos ⟨Om,Om,Om⟩,OB];unfold Cj;rw [if_pos ⟨Om,Om,Om⟩];simp
 ·rw [DN Om,A1]
theorem z6 (a b:List Int) (ha:a.length≤1000000) (hb:b.length≤1000000):Tb [a,b]=some (a++b):=by
 have g0:A4 [a,b] 0=some a:=rfl;have g1:A4 [a,b] (wr (0+1))=some b:=by rw [CT Om Om];rfl
 have l0:ln (Ci 1 Ad) [a,b]=2:=by rw [B7];rfl
 have w1:wr (0+1)=1:=CT Om Om;have w2:wr (1+1)=2:=CT Om Om;have s1:wr (0+ln Ad a)=(a.length:Int):=by rw [B7,CT Om Om];omega
 have s2:wr ((a.length:Int)+ln Ad b)=((a.length+b.length:Nat):Int):=by rw [B7,CT Om Om];omega
 unfold Tb;rw [B5];dsimp only [Te];rw [l0,show decide ((0:Int)<2)=true from rfl,A3,g0,OB,s1,DN Om,A1];dsimp only [Tc];rw [s1,w1,B5];dsimp only [Te];rw [l0,show decide ((1:Int)<2)=true from rfl,A3,←w1,g1,OB,s2,DN Om,A1];dsimp only [Tc];rw [s2,w1,w2,B5];dsimp only [Te];rw [l0,show decide ((2:Int)<2)=false from rfl,A1];dsimp only [Xu];rw [zl _ Om,OB];have k:loop (O7 [a,b]) (0,[])=some (a++b):=by rw [B5];dsimp only [O7];rw [l0,show decide ((0:Int)<2)=true from rfl,A3,g0,OB,B0 _ _ Om (by simp;omega),OB,List.nil_append,w1];dsimp only;rw [B5];dsimp only [O7];rw [l0,show decide ((1:Int)<2)=true from rfl,A3,←w1,g1,OB,B0 _ _ Om Om,OB,w1,w2];dsimp only;rw [B5];dsimp only [O7];rw [l0,show decide ((2:Int)<2)=false from rfl,A1];rfl
 rw [k];rfl
theorem YT (l:List Int) (x:Int) (hl:l.length≤1000000):Ln l x=some (decide (x∈l)):=by
 have h1:TF l x=some (Bf (l.findIdx? fun y=>decide (x=y))):=by
  unfold TF;refine Hi l _ (fun y=>decide (x=y)) Om (fun k y hy=>?_) ?_
  ·simp only [Y9,Ay hy,A3,Aj hy,OB,Di hy (show l.length≤4000000000000000000 by omega)];cases decide (x=y)<;>rfl
  ·simp only [Y9,AB,A1,Y8,Option.map_some]
 simp only [Ln,h1,OB,HC,Hc];congr 1;rw [Bool.eq_iff_iff,List.any_eq_true,decide_eq_true_iff];constructor
 ·rintro ⟨y,hy,h⟩;have:x=y:=by simpa using h
  exact this ▸ hy
 ·intro h;exact ⟨x,h,by simp⟩
theorem IR (l:List Int) (x:Int) (hl:l.length≤1000000):G6 l x=some (decide (x∈l)):=by simp only [G6,YT l x hl,OB]
theorem r9 {E:List Int} (h:E.Pairwise (· ≤ ·)):(Lib.compact E).Pairwise (· < ·)∧∀x,x∈Lib.compact E↔x∈E:=by
 have get:∀j,j<E.length→∃hj:j<E.length,E.toArray[j]! = E[j]:=fun j hj=>⟨hj,by rw [getElem!_pos _ _ (by simpa using hj)];simp⟩
 have mono:∀i j,i≤j→j<E.length→E.toArray[i]!≤E.toArray[j]!:=fun i j h8 hj=>by
  obtain ⟨_,e1⟩:=get i Om;obtain ⟨_,e2⟩:=get j hj;rw [e1,e2];by_cases e:i=j
  ·subst e;exact Int.le_refl _
  ·rw [List.pairwise_iff_getElem] at h;exact h i j Om hj Om
 have Af:∀m,m≤E.length→(Lib.compactUpTo E.toArray m).Pairwise (· < ·)∧(∀x,x∈Lib.compactUpTo E.toArray m↔∃j,j<m∧x=E.toArray[j]!):=by
  intro m;induction m with
  | zero=>intro _;exact ⟨by simp [Lib.compactUpTo],fun x=>by simp [Lib.compactUpTo]⟩
  | succ m ih=>
    intro hm;obtain ⟨h1,h2⟩:=ih Om;rw [Lib.compactUpTo_succ];cases hk:Lib.keeps E.toArray m with
    | true=>
      rw [if_pos rfl];refine ⟨?_,fun x=>?_⟩
      ·rw [List.pairwise_append];refine ⟨h1,by simp,fun x hx y hy=>?_⟩;rw [List.mem_singleton] at hy;subst hy;obtain ⟨j,hj,rfl⟩:=(h2 x).1 hx;unfold Lib.keeps at hk;simp only [decide_eq_true_eq] at hk;have a1:=mono j (m-1) Om Om;have a2:=mono (m-1) m Om Om;rcases hk with e | e
       ·omega
       ·have:E.toArray[m]!≠E.toArray[m-1]!:=e;omega
      ·rw [List.mem_append,h2];constructor
       ·rintro (⟨j,hj,e⟩ | e)
        ·exact ⟨j,Om,e⟩
        ·simp at e;exact ⟨m,Om,by simpa using e⟩
       ·rintro ⟨j,hj,e⟩;by_cases h6:j=m
        ·subst h6;right;simp [e]
        ·exact .inl ⟨j,Om,e⟩
    | false=>
      rw [if_neg (by simp),List.append_nil];refine ⟨h1,fun x=>?_⟩;rw [h2];constructor
      ·rintro ⟨j,hj,e⟩;exact ⟨j,Om,e⟩
      ·rintro ⟨j,hj,e⟩;by_cases h6:j=m
       ·subst h6;unfold Lib.keeps at hk;simp only [decide_eq_false_iff_not,not_or,Classical.not_not] at hk;exact ⟨j-1,Om,by rw [e,hk.2]⟩
       ·exact ⟨j,Om,e⟩
 obtain ⟨k1,k2⟩:=Af E.length (Nat.le_refl _);refine ⟨k1,fun x=>?_⟩;have:=k2 x;unfold Lib.compact;rw [this];constructor
 ·rintro ⟨j,hj,e⟩;obtain ⟨_,e1⟩:=get j hj;rw [e,e1];exact List.getElem_mem hj
 ·intro hx;obtain ⟨j,hj,e⟩:=List.mem_iff_getElem.1 hx;obtain ⟨_,e1⟩:=get j hj;exact ⟨j,hj,by rw [e1,e]⟩
theorem FH (l:List Int):(Bm l).Pairwise (· < ·)∧∀x,x∈Bm l↔x∈l:=by
 have hs:(l.mergeSort fun x y=>decide (x≤y)).Pairwise (· ≤ ·):=by have:=List.pairwise_mergeSort (le:=fun x y:Int=>decide (x≤y)) (by intro a b c;simp;omega) (by intro a b;simp;omega) l;exact this.imp fun h=>by simpa using h
 obtain ⟨h1,h2⟩:=r9 hs;refine ⟨h1,fun x=>?_⟩;unfold Bm;rw [h2];exact (List.mergeSort_perm l _).mem_iff
theorem lG:∀(l:List Int) (q n:Int),l.Pairwise (· < ·)→(∀x∈l,q≤x∧x<n)→l=[]∨(l.length:Int)≤n-q
 | [],_,_,_,_=>.inl rfl
 | x::l,q,n,h,hb=>by
   rw [List.pairwise_cons] at h;have h1:=hb x (by simp);right;rcases lG l (x+1) n h.2 (fun y hy=>⟨by have:=h.1 y hy;omega,(hb y (by simp [hy])).2⟩) with rfl | h2
   ·simp only [List.length_cons,List.length_nil];omega
   ·simp only [List.length_cons];omega
theorem yr {x y:Int} {r:List Int}:(x::y::r).Pairwise (· < ·)↔x<y∧(y::r).Pairwise (· < ·):=by
 constructor
 ·intro h;rw [List.pairwise_cons] at h;exact ⟨h.1 y (by simp),h.2⟩
 ·rintro ⟨h,k⟩;rw [List.pairwise_cons];refine ⟨fun z hz=>?_,k⟩;rw [List.pairwise_cons] at k;rcases List.mem_cons.1 hz with rfl | hz
  ·exact h
  ·have:=k.1 z hz;omega
theorem zI (l:List Int) (hl:l.length≤1000000):IA l=some (decide (l.Pairwise (· < ·))):=by
 unfold IA;have Af:=js l.length (JX l) (fun k=>(k:Int)) (fun k=>some (decide ((l.drop (k-1)).Pairwise (· < ·)))) (fun k hk=>?_) ?_
 ·simpa using Af
 ·obtain ⟨y,hy⟩:∃y,l[k]?=some y:=⟨_,List.getElem?_eq_getElem hk⟩
  dsimp only [JX];rw [Ay hy,A3];cases k with
  | zero=>left;rw [DN Om,A1];dsimp only [JW];rw [A1,Al Om];exact ⟨rfl,rfl⟩
  | succ k=>
    obtain ⟨x,hx⟩:∃x,l[k]?=some x:=⟨_,List.getElem?_eq_getElem Om⟩
    have e1:l.drop k=x::l.drop (k+1):=by obtain ⟨h1,rfl⟩:=List.getElem?_eq_some_iff.1 hx;exact List.drop_eq_getElem_cons h1
    have e2:l.drop (k+1)=y::l.drop (k+2):=by obtain ⟨h1,rfl⟩:=List.getElem?_eq_some_iff.1 hy;exact List.drop_eq_getElem_cons h1
    rw [DT Om,A3,eI Om,Aj hx,OB,Aj hy,OB];dsimp only [JW];rw [show k+1-1=k from rfl,show k+1+1-1=k+1 from rfl,e1,e2,decide_eq_decide.2 (yr (x:=x) (y:=y) (r:=l.drop (k+2)))];by_cases h:y≤x
    ·right;refine ⟨false,by rw [DT h,A3];rfl,?_⟩;rw [DN (by rintro ⟨h1,_⟩;omega)]
    ·left;refine ⟨by rw [DN h,A1,Al Om],?_⟩;have:x<y:=by omega
     simp [this]
 ·dsimp only [JX];rw [AB,A1];have:(l.drop (l.length-1)).Pairwise (· < ·):=by
   have h1:(l.drop (l.length-1)).length≤1:=by rw [List.length_drop];omega
   generalize l.drop (l.length-1)=q at h1
   match q,h1 with
   | [],_=>exact .nil
   | [x],_=>exact List.pairwise_singleton _ _
  rw [DT this];rfl
theorem au {α:Type} (f:α→Bool) (pre post:List α) (x:α):∃d,(pre++x::post).drop (pre.filter f).length=d::(pre++x::post).drop ((pre.filter f).length+1):=by
 have h1:(pre.filter f).length≤pre.length:=List.length_filter_le _ _;have h2:(pre.filter f).length<(pre++x::post).length:=by simp;omega
 exact ⟨_,List.drop_eq_getElem_cons h2⟩
theorem ze (l:List Int) (p:Int→Option Bool) (q:Int→Bool) (hl:l.length≤1000000) (hp:∀x∈l,p x=some (q x)):Tl l p=some (l.filter fun x=>!q x):=by
 simp only [Tl,mf l p q Om hp,OB];cases hf:l.findIdx? q with
 | none=>rw [List.findIdx?_eq_none_iff] at hf;rw [show Bf none = -1 from rfl,DT rfl,A3,List.filter_eq_self.2 (fun x hx=>by rw [hf x hx];rfl)]
 | some i=>
   obtain ⟨hi,hq,hB⟩:=List.findIdx?_eq_some_iff_getElem.1 hf;rw [show Bf (some i)=(i:Int) from rfl,DN Om,A1,Al Om]
   let F:List Int→List Int:=fun pre=>pre.filter fun x=>!q x
   have hF:∀pre post,l=pre++post→(F pre).length≤pre.length:=fun pre post _=>List.length_filter_le _ _;have Af:=Q5 l (Tm p) (fun pre=>(((F pre).length:Int),(pre.length:Int),F pre++l.drop (F pre).length)) (fun _ _=>some (F l)) (fun pre x post h=>?_) ?_ (l.drop (i+1)) (l.take (i+1)) (by simp)
   ·have e1:F (l.take (i+1))=l.take i:=by
     show (l.take (i+1)).filter _=_;rw [List.take_succ_eq_append_getElem hi,List.filter_append];have a1:(l.take i).filter (fun x=>!q x)=l.take i:=by rw [List.filter_eq_self];intro x hx;obtain ⟨j,hj,rfl⟩:=List.mem_iff_getElem.1 hx;rw [List.getElem_take];have:=hB j (by simp at hj;omega);simpa using this
     have a2: [l[i]].filter (fun x=>!q x)=[]:=by simp [hq]
     rw [a1,a2,List.append_nil]
    rw [e1] at Af;have e2:(l.take i).length=i:=by simp;omega
    have e3:(l.take (i+1)).length=i+1:=by simp;omega
    rw [e2,e3,List.take_append_drop] at Af;exact Af
   ·left;refine ⟨?_,rfl⟩;have hx:=Br h;have hm:=Bp h;have h8:=hF pre (x::post) h;have h6:(F pre++l.drop (F pre).length).length=l.length:=by simp;omega
    have h9:(F pre++l.drop (F pre).length)[pre.length]?=some x:=by rw [List.getElem?_append_right h8,List.getElem?_drop,show (F pre).length+(pre.length-(F pre).length)=pre.length by omega];exact hx
    dsimp only [Tm];rw [Ay h9,A3,Aj h9,OB,hp x (Dt h),OB];have hw:F (pre++[x])=F pre++(if q x then [] else [x]):=by show (pre++[x]).filter _=_;rw [List.filter_append];congr 1;cases hC:q x<;>simp [hC]
    cases hA:q x with
    | true=>rw [Bool.not_true,A1];dsimp only [Oh];rw [Al Om,hw,hA,if_pos rfl,List.append_nil,AN]
    | false=>
      rw [Bool.not_false,A3];obtain ⟨d,hd⟩:=au (fun x=>!q x) pre post x;rw [←h] at hd;have hd':l.drop (F pre).length=d::l.drop ((F pre).length+1):=hd;have hD:(F pre++l.drop (F pre).length)[(F pre).length]?=some d:=by rw [hd'];simp
      rw [Aj hD,OB];dsimp only [Oh];rw [Al Om,Al Om,hw,hA,if_neg (by simp),AN,hd',Int.toNat_natCast,AN];simp
   ·dsimp only [Tm];have h8:=hF l [] (by simp);have h6:(F l++l.drop (F l).length).length=l.length:=by simp;omega
    rw [show ((l.length:Int))=((F l++l.drop (F l).length).length:Int) by rw [h6],AB,A1];dsimp only [Xy];unfold DE;rw [B7,h6,if_pos ⟨Om,Om,Om,Om⟩,OB];unfold H9;rw [h6,if_pos ⟨Om,by simp;omega⟩,OB];unfold Cj;rw [if_pos ⟨Om,Om,by simp;omega⟩,OB];simp [Int.toNat_natCast,List.append_assoc]
theorem Za (l:List Int):(Bm l).length≤l.length:=by have:=Lib.compact_length_le (l.mergeSort fun x y=>decide (x≤y));rw [List.length_mergeSort] at this;exact this
theorem Z0Y {l:List Int} (h:l.Pairwise (· < ·)):Bm l=l:=by unfold Bm;rw [List.mergeSort_of_pairwise (h.imp fun h6=>DT Om),fZ h]
theorem mz (l:List Int) (p:Int→Option Bool) (q:Int→Bool) (hl:l.length≤1000000) (hp:∀x∈l,p x=some (q x)):O5 l p=some ((Bm l).filter q):=by have h1:=Za l;simp only [O5,Uh l hl,OB];rw [ze (Bm l) _ (fun x=>!q x) Om (fun x hx=>by simp only [Xq,hp x (((FH l).2 x).1 hx),OB]),OB];simp
theorem mg (a b:List Int) (ha:a.length≤1000000) (hb:b.length≤1000000):O4 a b=some ((Bm a).filter fun z=>!decide (z∈b)):=by simp only [O4];rw [mz a _ (fun z=>!decide (z∈b)) ha (fun x _=>by simp only [Xp,IR b x hb,OB]),OB]
theorem dw (a b:List Int) (ha:a.length≤1000000) (hb:b.length≤1000000):Lh a b=some (a.all fun z=>decide (z∈b)):=by
 simp only [Lh,mg a b ha hb,OB,B7];congr 1;rw [Bool.eq_iff_iff,decide_eq_true_eq,List.all_eq_true];have:((((Bm a).filter fun z=>!decide (z∈b)).length:Nat):Int)=0↔((Bm a).filter fun z=>!decide (z∈b))=[]:=by rw [←List.length_eq_zero_iff];omega
 rw [this,List.filter_eq_nil_iff];constructor
 ·intro h x hx;have:=h x (((FH a).2 x).2 hx);simpa using this
 ·intro h x hx;have:=h x (((FH a).2 x).1 hx);simpa using this
theorem zd (l:List Int) (x:Int) (hl:l.length≤1000000):T3 l x=some ((Bm l).filter fun z=>!decide (z∈ [x])):=by simp only [T3,mg l [x] hl (by simp),OB]
theorem yQ (l:List Int) (x:Int) (hl:l.length≤900000):O3 l x=some (Bm (l++[x])):=by simp only [O3,T4,z6 l [x] Om (by simp),OB,Uh (l++[x]) (by simp;omega)]
def DL:BK:=⟨0,[]⟩
def Ga (n:List Int):Bool:=decide (n.length≤64)&&n.all (fun p=>decide (0≤p))
def K7 (last top:Int) (first:Bool) (s:SE):Bool:=decide (last<s.ID)&&(decide (s.ID≤top)&&(Ga s.NE&&(decide (s.NE.Pairwise (· < ·))&&(decide (0≤s.Age)&&((decide (s.SS=1)&&first)||(decide (s.SS=0)&&decide (s.Age=0)))))))
def HJ (top:Int):Int→Bool→List SE→Bool
 | _,_,[]=>true
 | last,first,s::l=>K7 last top first s&&HJ top s.ID false l
def DB (b:BK):Bool:=decide (0≤b.LA)&&(decide (b.SE.length≤8)&&HJ b.LA 0 true b.SE)
def F1 (b:BK):Prop:=b.SE.length≤1000000∧∀s∈b.SE,s.NE.length≤1000000
theorem mB (n:List Int) (hn:n.length≤1000000):O2 n=some (!Ga n):=by
 simp only [O2,SW,B7,Ga];rw [P7 n _ (fun z=>decide (z<0)) Om (fun x _=>by simp only [Xn])];have:n.any (fun z=>decide (z<0))=!n.all (fun p=>decide (0≤p)):=LT _ _ _ fun x=>by rw [Bool.eq_iff_iff];simp
 rw [this];by_cases h:n.length≤64
 ·rw [DN Om,DT h];rfl
 ·rw [DT Om,DN h];rfl
def G0 (pre:List SE):Int:=match pre.getLast? with | some s=>s.ID | none=>0
theorem wq (pre:List SE) (s:SE):G0 (pre++[s])=s.ID:=by simp [G0]
theorem yY (b:BK) (last i:Int) (s:SE) (g:Bool) (hn:s.NE.length≤1000000):Ix b last i s g =
  if decide (last<s.ID)&&(decide (s.ID≤b.LA)&&(Ga s.NE&&(decide (s.NE.Pairwise (· < ·))&&(decide (0≤s.Age)&&(g||(decide (s.SS=0)&&decide (s.Age=0))))))) then some (.inl (s.ID,wr (i+1))) else some (.inr 170):=by
 have e4:∀z,Iy i s g z=if !z&&(g||(decide (s.SS=0)&&decide (s.Age=0))) then some (.inl (s.ID,wr (i+1))) else some (.inr 170):=fun z=>by
  simp only [Iy,NU];cases z
  ·cases g
   ·by_cases h1:s.SS=0
    ·by_cases h2:s.Age=0<;>simp [h1,h2]
    ·simp [h1]
   ·simp
  ·simp
 simp only [Ix,mB s.NE hn,zI s.NE hn,OB,e4];by_cases h1:s.ID≤last
 ·rw [DT h1,A3,DN (show ¬last<s.ID by omega)];simp
 ·rw [DN h1,A1,DT (show last<s.ID by omega),Bool.true_and];by_cases h2:b.LA<s.ID
  ·rw [DT h2,A3,DN (show ¬s.ID≤b.LA by omega)];simp
  ·rw [DN h2,A1,DT (show s.ID≤b.LA by omega),Bool.true_and];cases Ga s.NE
   ·simp
   ·by_cases h3:s.NE.Pairwise (· < ·)
    ·by_cases h4:s.Age<0
     ·have:¬0≤s.Age:=by omega
      simp [h3,h4,this]
     ·have:0≤s.Age:=by omega
      simp [h3,h4,this]
    ·simp [h3]
theorem Pb (b:BK) (hb:F1 b):Hv b=some (if DB b then 0 else 170):=by
 have hl:loop (NV b) (0,0)=some (if HJ b.LA 0 true b.SE then 0 else 170):=by
  refine Hj b.SE (NV b) (fun pre=>(G0 pre,(pre.length:Int))) (fun pre post=>some (if HJ b.LA (G0 pre) pre.isEmpty post then 0 else 170)) (fun pre x post h=>?_) ?_
  ·have hx:=Br h;have hm:=Bp h;have h1:=hb.1;dsimp only [NV];rw [Ay hx,A3,Aj hx,OB];have e:∀u v:Bool,A0 (decide (x.SS=1)) (Ix b (G0 pre) (pre.length:Int) x u) (Ix b (G0 pre) (pre.length:Int) x v)=Ix b (G0 pre) (pre.length:Int) x (if decide (x.SS=1) then u else v):=fun u v=>by cases decide (x.SS=1)<;>rfl
   rw [e,yY _ _ _ _ _ (hb.2 x (Dt h)),Al Om,wq,AN];have e2:(if decide (x.SS=1)=true then decide ((pre.length:Int)=0) else false)=(decide (x.SS=1)&&pre.isEmpty):=by
    cases pre with
    | nil=>cases decide (x.SS=1)<;>rfl
    | cons a r=>cases decide (x.SS=1)<;>simp<;>omega
   rw [e2];show (_∧some (if (K7 (G0 pre) b.LA pre.isEmpty x&&HJ b.LA x.ID false post) then (0:Int) else 170)=some (if HJ b.LA x.ID (pre++[x]).isEmpty post then 0 else 170))∨∃r,_∧some (if (K7 (G0 pre) b.LA pre.isEmpty x&&HJ b.LA x.ID false post) then (0:Int) else 170)=some r;have e3:(pre++[x]).isEmpty=false:=by simp
   rw [e3];show ((if K7 (G0 pre) b.LA pre.isEmpty x then some (Sum.inl (x.ID,((pre.length+1:Nat):Int))) else some (.inr (170:Int)))=_∧_)∨∃r,(if K7 (G0 pre) b.LA pre.isEmpty x then some (Sum.inl (x.ID,((pre.length+1:Nat):Int))) else some (.inr (170:Int)))=_∧_;cases K7 (G0 pre) b.LA pre.isEmpty x
   ·right;exact ⟨170,rfl,rfl⟩
   ·left;exact ⟨rfl,by rw [Bool.true_and]⟩
  ·dsimp only [NV];rw [AB,A1];rfl
 simp only [Hv,SI,hl,DB,B7];by_cases h1:b.LA<0
 ·have:¬0≤b.LA:=by omega
  simp [h1,this]
 ·have:0≤b.LA:=by omega
  by_cases h2:b.SE.length≤8
  ·have h3:¬(8:Int)<b.SE.length:=by omega
   simp [h1,this,h2,h3]
  ·have h3:(8:Int)<b.SE.length:=by omega
   simp [h1,this,h2,h3]
theorem LD {α:Type} {l:List α} {k:Nat} {x:α} (h:l[k]?=some x):l.set k x=l:=by obtain ⟨h1,rfl⟩:=List.getElem?_eq_some_iff.1 h;exact List.set_getElem_self h1
theorem EN (l:List Int) (h:l.length≤1000000):CF l=some l:=by simp only [CF];rw [B0 _ _ Om (by simp;omega),List.nil_append]
theorem Ud (l:List SE) (h:l.length≤1000000):IB l=some l:=by simp only [IB];rw [B0 _ _ Om (by simp;omega),List.nil_append]
theorem Uf (b:BK) (hb:F1 b):Iz b=some b.SE:=by
 have h1:=hb.1;simp only [Iz,Ud b.SE hb.1,OB];refine CK b.SE _ (fun pre=>((pre.length:Int),b.SE)) b.SE (fun pre x post h=>?_) ?_
 ·have hx:=Br h;have hm:=Bp h;dsimp only [Xo];rw [Ay hx,A3,Aj hx,OB,EN _ (hb.2 x (Dt h)),OB,Al Om,Int.toNat_natCast,LD hx,AN]
 ·dsimp only [Xo];rw [AB,A1];rfl
def Ma (b:BK) (id:Int):Option Nat:=b.SE.findIdx? fun s=>decide (s.ID=id)
theorem mq (b:BK) (id:Int) (hb:b.SE.length≤1000000):O1 b id=some (Bf (Ma b id)):=by simp only [O1];rw [me b.SE _ (fun s=>decide (s.ID=id)) Om (fun x _=>by simp only [Xm]),OB];rfl
theorem m8 (l:List SE) (i:Nat) (hi:i<l.length) (hl:l.length≤1000000):Lo (i:Int) ((i+1:Nat):Int) l=some (l.take i++l.drop (i+1)):=by
 simp only [Lo,B7];unfold DE;rw [if_pos ⟨Om,Om,Om,Om⟩,OB,if_pos ⟨Om,Om,Om,Om⟩,OB,DN Om,A1,if_pos ⟨Om,Om,Om,Om⟩,OB];have t1:Int.toNat (i:Int)-Int.toNat 0=i:=by omega
 have t2:Int.toNat ((l.length:Nat):Int)-Int.toNat ((i+1:Nat):Int)=l.length-(i+1):=by omega
 have t3:Int.toNat ((i+1:Nat):Int)=i+1:=by omega
 rw [t1,t2,t3];unfold Yk;rw [if_pos ⟨Om,Om,Om⟩,OB];have e1:(l.take (i+1+(l.length-(i+1)))).drop (i+1)=l.drop (i+1):=by rw [List.take_of_length_le Om]
 have e2:(l.take i++l.drop (i+1)).length=l.length-1:=by simp;omega
 rw [e1];have e3:i+(l.length-(i+1))=l.length-1:=by omega
 simp only [Xz,B7,t1,t2,e3];have h6:(l.take i++l.drop (i+1)++l.drop (l.length-1)).length=l.length:=by rw [List.length_append,e2,List.length_drop];omega
 rw [OB,h6];unfold DE;rw [if_pos ⟨Om,Om,Om,Om⟩,OB];have t4:Int.toNat ((l.length-1:Nat):Int)=l.length-1:=by omega
 have t5:Int.toNat ((l.length:Nat):Int)-(l.length-1)=1:=by omega
 rw [t4,t5];unfold H9;rw [h6,if_pos ⟨Om,Om⟩,OB];unfold UQ;have e4:(l.take i++l.drop (i+1)++l.drop (l.length-1)).take (l.length-1)=l.take i++l.drop (i+1):=by rw [List.take_left' e2]
 rw [e4];have h8:(l.take i++l.drop (i+1)++List.replicate 1 (SE.mk 0 [] 0 0)++(l.take i++l.drop (i+1)++l.drop (l.length-1)).drop (l.length-1+1)).length=l.length:=by rw [List.length_append,List.length_append,e2,List.length_drop,h6];simp;omega
 rw [h8,if_pos ⟨Om,Om⟩,OB];congr 1;rw [List.append_assoc (l.take i++l.drop (i+1))];rw [List.take_left' e2]
def Ge (b:BK) (id:Int) (need:List Int):BK×Int:=if DB b then (if id≤b.LA then (DL,171) else if Ga (Bm need) then (if b.SE.length=8 then (DL,173) else (⟨id,b.SE++[⟨id,Bm need,0,0⟩]⟩,0)) else (DL,172)) else (DL,170)
theorem zv (b:BK) (id:Int) (need:List Int) (hb:F1 b) (hn:need.length≤1000000):SP b id need=some (Ge b id need):=by
 have hs:=Za need;have h1:=hb.1;simp only [SP,Uh need hn,Pb b hb,mB (Bm need) Om,OB,JV,Uf b hb,Ge,B7];rw [B0 _ _ Om (by simp;omega),OB];cases hk:DB b
 ·rfl
 ·simp only [if_true];simp only [decide_true,Bool.not_true,A1];by_cases h2:id≤b.LA
  ·simp [h2,DL]
  ·cases h3:Ga (Bm need)
   ·simp [h2,DL]
   ·by_cases h4:b.SE.length=8
    ·simp [h2,h4,DL]
    ·have:¬(b.SE.length:Int)=8:=by omega
     simp [h2,h4,this]
def V5 (b:BK):BK×Int×Int:=if DB b then (match b.SE with | []=>(DL,0,175) | s::l=>if s.SS=1 then (DL,0,175) else (⟨b.LA,⟨s.ID,s.NE,1,s.Age⟩::l⟩,s.ID,0)) else (DL,0,170)
theorem zk (b:BK) (hb:F1 b):SM b=some (V5 b):=by
 simp only [SM,Pb b hb,OB,SO,Uf b hb,V5,B7];cases hk:DB b
 ·rfl
 ·simp only [if_true];simp only [decide_true,Bool.not_true,A1];cases hs:b.SE with
  | nil=>simp [DL]
  | cons s l=>
    have h0:A4 (s::l) 0=some s:=rfl;have:¬(((s::l).length:Nat):Int)=0:=by simp;omega
    rw [DN this,A1,h0,OB];by_cases h1:s.SS=1
    ·simp [h1,DL]
    ·simp [h1]
def DA (b:BK) (id E:Int):BK×Int:=
 if DB b then (match Ma b id with
  | none=>(DL,174)
  | some i=>match b.SE[i]? with
    | none=>(DL,174)
    | some s=>if s.SS=E then (⟨b.LA,b.SE.take i++b.SE.drop (i+1)⟩,0) else (DL,175)) else (DL,170)
theorem gw {b:BK} {id:Int} {i:Nat} (h:Ma b id=some i):∃s,b.SE[i]?=some s∧s.ID=id:=by obtain ⟨hi,hq,_⟩:=List.findIdx?_eq_some_iff_getElem.1 h;exact ⟨_,List.getElem?_eq_getElem hi,by simpa using hq⟩
theorem mp (b:BK) (id E:Int) (hb:F1 b):O0 b id E=some (DA b id E):=by
 have h1:=hb.1;simp only [O0,Xl,Pb b hb,mq b id hb.1,OB,DA];cases hk:DB b
 ·simp [Lf,Lg,DL]
 ·simp only [if_true];simp only [decide_true,Bool.not_true,A1];cases hf:Ma b id with
  | none=>simp [Bf,Lf,Lg,DL]
  | some i=>
    obtain ⟨s,hs,_⟩:=gw hf;have hi:=(List.getElem?_eq_some_iff.1 hs).1;rw [show Bf (some i)=(i:Int) from rfl,DN Om,A1,Aj hs,OB,OB];simp only [hs,decide_true,A3,Lf,Lg];by_cases h2:s.SS=E
    ·have hf':Ma ⟨b.LA,b.SE⟩ id=some i:=hf;simp only [h2,decide_true,Bool.not_true,A1,Uf b hb,OB,mq ⟨b.LA,b.SE⟩ id hb.1,hf',if_true];rw [show Bf (some i)=(i:Int) from rfl,Al Om,m8 b.SE i hi hb.1,OB]
    ·simp [h2,DL]
theorem zy (b:BK) (id:Int) (hb:F1 b):SQ b id=some (DA b id 1):=by simp only [SQ,mp b id 1 hb,OB]
theorem yW (b:BK) (id:Int) (hb:F1 b):SH b id=some (DA b id 0):=by simp only [SH,mp b id 0 hb,OB]
theorem oW (x y:SX):(decide (x.PE=y.PE)&&(decide (x.EP=y.EP)&&(decide (x.SS=y.SS)&&((x.FK==y.FK)&&((x.DY==y.DY)&&((x.TO==y.TO)&&((x.BO==y.BO)&&((x.Ask==y.Ask)&&true))))))))=decide (x=y):=by rw [Bool.eq_iff_iff];cases x;cases y;simp [SX.mk.injEq]
theorem eX (x y:ML):(decide (x.From=y.From)&&(decide (x.To=y.To)&&(decide (x.Msg.KI=y.Msg.KI)&&(decide (x.Msg.EP=y.Msg.EP)&&(decide (x.Msg.Num=y.Msg.Num)&&true)))))=decide (x=y):=by rw [Bool.eq_iff_iff];obtain ⟨x1,x2,x3,x4,x5⟩:=x;obtain ⟨y1,y2,y3,y4,y5⟩:=y;simp [ML.mk.injEq,Msg.mk.injEq]
theorem zi (l m:List SX) (hl:l.length≤1000000):Tr l m=some (decide (l=m)):=by
 simp only [Tr,Mz];by_cases h:l.length=m.length
 ·simp only [h,decide_true,Bool.not_true,A1];rw [MA l m _ (fun x y=>decide (x=y)) h Om (fun k x y hx hy=>by simp only [XJ,Ay hx,A3,Aj hx,Aj hy,OB,oW,Di hx (show l.length≤4000000000000000000 by omega),Jl];cases decide (x=y)<;>rfl) (by simp only [XJ,AB,A1,XI,Option.map_some]),LK l m h]
 ·simp [h,My h]
def Zc:SX:=⟨0,0,0,false,false,false,false,false⟩
def C8 (d:DI) (p:Int):Option SX:=d.SD.find? fun x=>decide (x.PE=p)
def El (o:Option SX):SX×Bool:=match o with | some x=>(x,true) | none=>(Zc,false)
theorem aw {α:Type} (q:α→Bool):∀l:List α,match l.findIdx? q with
  | some i=>∃x,l[i]?=some x∧l.find? q=some x
  | none=>l.find? q=none
 | []=>rfl
 | x::l=>by
   have ih:=aw q l;rw [List.findIdx?_cons,List.find?_cons];cases h:q x with
   | true=>exact ⟨x,rfl,by simp⟩
   | false=>
     simp only [Bool.false_eq_true,if_false];cases hf:l.findIdx? q with
     | none=>rw [hf] at ih;simpa using ih
     | some i=>rw [hf] at ih;obtain ⟨y,h1,h2⟩:=ih;exact ⟨y,by simpa using h1,by simpa using h2⟩
theorem YY (d:DI) (p:Int) (hl:d.SD.length≤1000000):JE d p=some (El (C8 d p)):=by unfold JE;have:=jr d.SD (Rv d p) (fun k (_:Unit)=>k) (fun x _=>if decide (x.PE=p) then some (.inr (x,true)) else some (.inl ())) (fun _=>some (Zc,false)) Om (fun k x s hx=>by simp only [Rv,Ay hx,A3,Aj hx,OB,Di hx (show d.SD.length≤4000000000000000000 by omega),Option.map_some];cases decide (x.PE=p)<;>rfl) (fun _=>by simp only [Rv,AB,A1,WH,Option.map_some];rfl) ();rw [this,gL (fun x=>if decide (x.PE=p) then some (.inr (x,true)) else some (.inl ())) (fun x=>decide (x.PE=p)) (fun x=>(x,true)) (some (Zc,false)) d.SD (fun x _=>rfl)];unfold C8;cases d.SD.find? (fun x=>decide (x.PE=p))<;>rfl
def CS (id q:Int) (x:SX):Bool:=decide (q<x.PE)&&(!decide (x.PE=id)&&(decide (0≤x.EP)&&(decide (x.EP≤65535)&&(decide (0≤x.SS)&&(decide (x.SS≤3)&&!(x.DY&&!x.FK))))))
def FD (id:Int):Int→List SX→Bool
 | _,[]=>true
 | q,x::r=>CS id q x&&FD id x.PE r
def Cc (d:DI):Bool:=decide (0≤d.ID)&&(decide (0≤d.PH)&&(decide (d.PH≤2)&&(decide (d.SD.length<64)&&FD d.ID (-1) d.SD)))
theorem Z0d (x:SX) (d:DI) (q:Int):QC x q d=some (!CS d.ID q x):=by
 simp only [QC,QD,Hl,CS];by_cases h1:q<x.PE
 ·by_cases h2:x.PE=d.ID
  ·have h1':q<d.ID:=h2 ▸ h1;simp [h2,h1']
  ·by_cases h3:x.EP<0
   ·have:¬0≤x.EP:=by omega
    simp [h1,h2,h3,this]
   ·have h3':0≤x.EP:=by omega
    by_cases h4:65535<x.EP
    ·have:¬x.EP≤65535:=by omega
     simp [h1,h2,h3,h4,this]
    ·have h4':x.EP≤65535:=by omega
     by_cases h5:x.SS<0
     ·have:¬0≤x.SS:=by omega
      simp [h1,h2,h3,h4,h5,this]
     ·have h5':0≤x.SS:=by omega
      by_cases h6:3<x.SS
      ·have:¬x.SS≤3:=by omega
       simp [h1,h2,h3,h4,h5,h6,this]
      ·have h6':x.SS≤3:=by omega
       simp only [h1,h2,h3,h4,h5,h6,h3',h4',h5',h6',decide_true,decide_false,A3,A1,Bool.not_true,Bool.not_false,Bool.true_and];cases x.DY<;>cases x.FK<;>rfl
 ·simp [h1]
def Gf (id:Int):Nat→Int→List SX→Int×Int
 | _,q,[]=>(-1,q)
 | k,q,x::r=>if CS id q x then Gf id (k+1) x.PE r else (k,x.PE)
theorem mL (id:Int):∀(l:List SX) (k:Nat) (q:Int),decide (0≤(Gf id k q l).1)=!FD id q l
 | [],k,q=>by simp [Gf,FD]
 | x::r,k,q=>by
   by_cases h:CS id q x=true
   ·have e1:Gf id k q (x::r)=Gf id (k+1) x.PE r:=by simp [Gf,h]
    rw [e1,mL id r (k+1) x.PE];simp [FD,h]
   ·have h':CS id q x=false:=by simpa using h
    have e1:Gf id k q (x::r)=((k:Int),x.PE):=by simp [Gf,h']
    rw [e1];simp [FD,h']
def Q0 (q:Int) (pre:List SX):Int:=match pre.getLast? with | some x=>x.PE | none=>q
theorem ja (q:Int) (pre:List SX) (x:SX):Q0 q (pre++[x])=x.PE:=by simp [Q0]
theorem dy (d:DI):KD d=some (if Cc d then 0 else 130):=by
 simp only [KD,Jq,Cc];by_cases h1:d.ID<0
 ·have:¬0≤d.ID:=by omega
  simp [h1,this]
 have h1':0≤d.ID:=by omega
 by_cases h2:d.PH<0
 ·have:¬0≤d.PH:=by omega
  simp [h1,h2,this]
 have h2':0≤d.PH:=by omega
 by_cases h3:2<d.PH
 ·have:¬d.PH≤2:=by omega
  simp [h1,h2,h3,this]
 have h3':d.PH≤2:=by omega
 by_cases h4:64≤d.SD.length
 ·have h4':(64:Int)≤ln SX.row d.SD:=by rw [B7];omega
  have:¬d.SD.length<64:=by omega
  simp [h1,h2,h3,h4',this]
 have h4':¬(64:Int)≤ln SX.row d.SD:=by rw [B7];omega
 have h4'':d.SD.length<64:=by omega
 simp only [h1,h2,h3,h4',h1',h2',h3',h4'',decide_true,decide_false,A1,Bool.true_and];have Af:TC d.SD (-1) d=some (Gf d.ID 0 (-1) d.SD):=by
  unfold TC;refine Hj d.SD _ (fun pre=>((pre.length:Int),Q0 (-1) pre)) (fun pre post=>some (Gf d.ID pre.length (Q0 (-1) pre) post)) (fun pre x post h=>?_) ?_
  ·have hx:=Br h;have hm:=Bp h;dsimp only [XZ];rw [Ay hx,A3,Aj hx,OB,Z0d,OB,Jl];cases hs:CS d.ID (Q0 (-1) pre) x with
   | true=>left;exact ⟨by rw [A3,AN,ja,Al Om],by simp [Gf,hs,ja]⟩
   | false=>right;exact ⟨_,rfl,by simp [Gf,hs]⟩
  ·dsimp only [XZ];rw [AB,A1];rfl
 simp only [Xv,Af,OB,mL];cases FD d.ID (-1) d.SD<;>rfl
theorem HG (l:List SX) (hl:l.length≤1000000):Eu l=some l:=by simp only [Eu];rw [B0 _ _ Om (by simp;omega)];rfl
theorem GT {d:DI} (h:Cc d=true):d.SD.length<64:=by simp only [Cc,Bool.and_eq_true,decide_eq_true_eq] at h;exact h.2.2.2.1
def D4 (ph:Int) (x:SX):SX:=if x.FK&&(x.DY&&(x.TO&&!decide (ph=2))) then {x with FK:=false,DY:=false} else x
def Bj (ph:Int) (x:SX):SX:=if decide (ph=1)&&((D4 ph x).TO&&!(D4 ph x).FK) then {D4 ph x with TO:=false} else D4 ph x
def Cf (id ph:Int) (x:SX):List ML:=
 (if x.FK&&(x.DY&&(x.TO&&!decide (ph=2))) then [⟨id,x.PE,⟨1,x.EP,0⟩⟩] else []) ++
 (if decide (ph=1)&&((D4 ph x).TO&&!(D4 ph x).FK) then [⟨id,x.PE,⟨2,x.EP,0⟩⟩] else [])
def HW (x:SX):SX:= {x with DY:=true}
def BV (d:DI):DI:=if decide (d.PH=1)&&(d.SD.map (Bj d.PH)).all (·.FK) then ⟨d.ID,2,(d.SD.map (Bj d.PH)).map HW⟩ else ⟨d.ID,d.PH,d.SD.map (Bj d.PH)⟩
def He (d:DI):List ML:=d.SD.flatMap (Cf d.ID d.PH)
theorem tj (id ph:Int) (x:SX):(Cf id ph x).length≤2:=by
 unfold Cf;rw [List.length_append];have h1:∀(c:Bool) (m:ML),(if c then [m] else []).length≤1:=by intro c m;cases c<;>simp
 have:=h1 (x.FK&&(x.DY&&(x.TO&&!decide (ph=2)))) ⟨id,x.PE,⟨1,x.EP,0⟩⟩;have:=h1 (decide (ph=1)&&((D4 ph x).TO&&!(D4 ph x).FK)) ⟨id,x.PE,⟨2,x.EP,0⟩⟩;omega
theorem az (l:List SX) (id ph:Int):(l.flatMap (Cf id ph)).length≤2*l.length:=by
 induction l with
 | nil=>simp
 | cons x l ih=>have:=tj id ph x;rw [List.flatMap_cons,List.length_append,List.length_cons];omega
def has (x:SX) (k:Int):Bool:=if k=1 then x.FK else x.TO
def bn (b:Bool):Nat:=if b then 1 else 0
theorem ax (ph:Int) (x:SX):(Bj ph x).PE=x.PE∧(Bj ph x).EP=x.EP∧(Bj ph x).SS=x.SS:=by unfold Bj D4;split<;>split<;>exact ⟨rfl,rfl,rfl⟩
theorem sZ (ph:Int) (x:SX) (h:x.DY=true→x.FK=true):(Bj ph x).DY=true→(Bj ph x).FK=true:=by unfold Bj D4;split<;>split<;>simp_all
theorem gz {id ph:Int} {x:SX} {m:ML} (h:m∈Cf id ph x):m.From=id∧m.To=x.PE∧(m.Msg.KI=1∨m.Msg.KI=2)∧m.Msg.EP=x.EP∧m.Msg.Num=0:=by
 unfold Cf at h;rw [List.mem_append] at h;rcases h with h | h
 ·split at h
  ·simp at h;subst h;exact ⟨rfl,rfl,.inl rfl,rfl,rfl⟩
  ·simp at h
 ·split at h
  ·simp at h;subst h;exact ⟨rfl,rfl,.inr rfl,rfl,rfl⟩
  ·simp at h
def BU (d:DI) (x:SX):SX:=if decide (d.PH=1)&&(d.SD.map (Bj d.PH)).all (·.FK) then HW (Bj d.PH x) else Bj d.PH x
theorem Hd (d:DI):(BV d).SD=d.SD.map (BU d):=by
 unfold BV BU;split
 ·simp only [List.map_map];rfl
 ·rfl
theorem ay (d:DI):(BV d).ID=d.ID:=by unfold BV;split<;>rfl
theorem Mb (d:DI) (x:SX):(BU d x).PE=x.PE∧(BU d x).EP=x.EP∧(BU d x).SS=x.SS∧∀k,has (BU d x) k=has (Bj d.PH x) k:=by
 obtain ⟨h1,h2,h3⟩:=ax d.PH x;unfold BU;split
 ·exact ⟨h1,h2,h3,fun k=>rfl⟩
 ·exact ⟨h1,h2,h3,fun k=>rfl⟩
theorem Z0m (k id ph:Int) (a b:List SX) (x:SX) (E:List ML) (J:E.length≤1000000):KF k id ph (a.length:Int) E (a++x::b)=some (E++[⟨id,x.PE,⟨k,x.EP,0⟩⟩]):=by simp only [KF];rw [Jd rfl,OB,B0 _ _ Om (by simp;omega),OB]
theorem tr (d:DI) (l:List SX) (hl:l.length<64) (pre post:List SX) (x:SX) (h:l=pre++x::post) (all:Bool) (A:List SX) (J:A.length=pre.length) (E:List ML) (U:E.length≤1000):
  N0 d l (all,(pre.length:Int),A++x::post,E)=some (.inl (all&&(Bj d.PH x).FK,((pre.length+1:Nat):Int),A++Bj d.PH x::post,E++Cf d.ID d.PH x)):=by
 have hx:=Br h;have hm:=Bp h;have at1:∀y:SX,A4 (A++y::post) (pre.length:Int)=some y:=fun y=>by rw [←J];exact Jd rfl
 have st1:∀y z:SX,(A++y::post).set ((pre.length:Int)).toNat z=A++z::post:=fun y z=>by rw [←J];exact LC _ _ _ _
 have sd:∀(k:Int) (y:SX) (E:List ML),E.length≤1000000→KF k d.ID d.PH (pre.length:Int) E (A++y::post)=some (E++[⟨d.ID,y.PE,⟨k,y.EP,0⟩⟩]):=fun k y E U=>by rw [←J];exact Z0m k d.ID d.PH A post y E U
 have fin:∀(y:SX) (E':List ML),MY all (pre.length:Int) (A++y::post,E')=some (.inl (all&&y.FK,((pre.length+1:Nat):Int),A++y::post,E')):=fun y E'=>by dsimp only [MY,QF];rw [at1,Al Om];cases all<;>rfl
 have j3:∀(y:SX) (E':List ML),E'.length≤100000→Jr d all (pre.length:Int) (A++y::post,E') =
   if decide (d.PH=1)&&(y.TO&&!y.FK) then some (.inl (all&&y.FK,((pre.length+1:Nat):Int),A++{y with TO:=false}::post,E'++[⟨d.ID,y.PE,⟨2,y.EP,0⟩⟩])) else some (.inl (all&&y.FK,((pre.length+1:Nat):Int),A++y::post,E')):=fun y E' hE'=>by
  dsimp only [Jr];by_cases h1:d.PH=1
  ·rw [DT h1,A3,at1,OB];cases ht:y.TO with
   | false=>dsimp only [Ie];rw [A1,A1,fin];simp
   | true=>
     cases hf:y.FK with
     | true=>dsimp only [Ie];rw [A3,Bool.not_true,A1,fin];simp [hf]
     | false=>dsimp only [Ie];rw [A3,Bool.not_false,A3,at1,OB,st1,sd _ _ _ Om,OB,fin];simp [hf]
  ·rw [DN h1,A1];dsimp only [Ie];rw [A1,fin];simp
 dsimp only [N0];rw [Ay hx,A3,at1,OB];have j2:∀z:Bool,F8 d all (pre.length:Int) (A++x::post) E x z=if z then Jr d all (pre.length:Int) (A++{x with FK:=false,DY:=false}::post,E++[⟨d.ID,x.PE,⟨1,x.EP,0⟩⟩]) else Jr d all (pre.length:Int) (A++x::post,E):=fun z=>by
  cases z with
  | false=>dsimp only [F8];rw [A1];rfl
  | true=>dsimp only [F8];rw [A3,st1,sd _ _ _ Om,OB];rfl
 have e:A0 x.FK (A0 x.DY (A0 x.TO (F8 d all (pre.length:Int) (A++x::post) E x (!decide (d.PH=2))) (F8 d all (pre.length:Int) (A++x::post) E x false)) (F8 d all (pre.length:Int) (A++x::post) E x false)) (F8 d all (pre.length:Int) (A++x::post) E x false)
   =F8 d all (pre.length:Int) (A++x::post) E x (x.FK&&(x.DY&&(x.TO&&!decide (d.PH=2)))):=by
  cases x.FK<;>cases x.DY<;>cases x.TO<;>rfl
 rw [e,j2];cases hz:(x.FK&&(x.DY&&(x.TO&&!decide (d.PH=2)))) with
 | false=>
   rw [if_neg (by simp),j3 _ _ Om];have f1:D4 d.PH x=x:=by simp only [D4,hz];rfl
   unfold Bj Cf;rw [f1,hz];cases hq:(decide (d.PH=1)&&(x.TO&&!x.FK))<;>simp
 | true=>
   rw [if_pos rfl,j3 _ _ (by simp;omega)];have f1:D4 d.PH x={x with FK:=false,DY:=false}:=by simp only [D4,hz];rfl
   unfold Bj Cf;rw [f1,hz];cases hq:(decide (d.PH=1)&&(x.TO&&!false))<;>simp_all
theorem zj (d:DI):QE d=some (if Cc d then ((BV d).ID,(BV d).PH,0,(BV d).SD,He d) else (0,0,130,[],[])):=by
 simp only [QE,dy,OB];cases h:Cc d with
 | false=>rfl
 | true=>
   have hl:=GT h;simp only [if_true,decide_true,Bool.not_true,A1,HG d.SD Om,OB];have Af:=Hj d.SD (N0 d d.SD) (fun pre=>((pre.map (Bj d.PH)).all (·.FK),(pre.length:Int),pre.map (Bj d.PH)++d.SD.drop pre.length,pre.flatMap (Cf d.ID d.PH))) (fun _ _=>some ((BV d).ID,(BV d).PH,0,(BV d).SD,He d)) (fun pre x post hp=>?_) ?_
   ·simpa using Af
   ·left;have hd:d.SD.drop pre.length=x::post:=by rw [hp];simp
    have hd':d.SD.drop (pre++[x]).length=post:=by rw [hp];simp
    have hm:=Bp hp;have hE:=az pre d.ID d.PH;refine ⟨?_,rfl⟩;rw [hd,hd',tr d d.SD hl pre post x hp _ _ (by simp) _ Om,AN];simp
   ·have hE:=az d.SD d.ID d.PH;dsimp only [N0];rw [AB,A1];simp only [List.drop_length,List.append_nil];dsimp only [VH];by_cases h1:d.PH=1
    ·rw [DT h1,A3];dsimp only [MZ];cases h6:(d.SD.map (Bj d.PH)).all (·.FK) with
     | false=>rw [A1];unfold BV;rw [h6,Bool.and_false];rfl
     | true=>
       rw [A3];generalize hS:d.SD.map (Bj d.PH)=S at h6;have h8:S.length<64:=by rw [←hS];simpa using hl
       have k2:=CK S (N1 d S (d.SD.flatMap (Cf d.ID d.PH))) (fun pre=>((pre.length:Int),pre.map HW++S.drop pre.length)) (d.ID,2,0,S.map HW,d.SD.flatMap (Cf d.ID d.PH)) (fun pre x post hp=>?_) ?_
       ·have k3:loop (N1 d S (d.SD.flatMap (Cf d.ID d.PH))) (0,S)=some (d.ID,2,0,S.map HW,d.SD.flatMap (Cf d.ID d.PH)):=by simpa using k2
        rw [k3];unfold BV;rw [hS,h6,DT h1];rfl
       ·have hx:=Br hp;have hm:=Bp hp;have hd:S.drop pre.length=x::post:=by rw [hp];simp
        have hd':S.drop (pre++[x]).length=post:=by rw [hp];simp
        dsimp only [N1];have e1:((pre.length:Nat):Int)=(((pre.map HW).length:Nat):Int):=by simp
        rw [Ay hx,A3,hd,hd',e1,Jd rfl,OB,LC,←e1,AN,Al Om];simp [HW]
       ·dsimp only [N1];rw [AB,A1];simp [QG]
    ·rw [DN h1,A1];dsimp only [MZ];rw [A1];unfold BV;rw [DN h1,Bool.false_and];rfl
def Ch (d:DK) (x:SX):Bool:=decide (x.PE∈d.NE)
def F4 (nd:Bool) (th:Int) (x:SX):Bool:=nd&&(decide (th=2)||(decide (th=1)&&x.FK))
def DM (nd:Bool) (th:Int) (x:SX):SX:=if x.BO&&(x.Ask&&!F4 nd th x) then {x with BO:=false} else x
def C2 (nd:Bool) (th:Int) (x:SX):SX:=if decide (th=1)&&(nd&&((DM nd th x).Ask&&!(DM nd th x).BO)) then {DM nd th x with Ask:=false} else DM nd th x
def Ct (id:Int) (nd:Bool) (th:Int) (x:SX):List ML:=
 (if x.BO&&(x.Ask&&!F4 nd th x) then [⟨id,x.PE,⟨3,x.EP,0⟩⟩] else []) ++
 (if decide (th=1)&&(nd&&((DM nd th x).Ask&&!(DM nd th x).BO)) then [⟨id,x.PE,⟨4,x.EP,0⟩⟩] else [])
theorem Ki (nd:Bool) (th:Int) (x:SX):(C2 nd th x).PE=x.PE∧(C2 nd th x).EP=x.EP∧(C2 nd th x).SS=x.SS∧(C2 nd th x).FK=x.FK∧(C2 nd th x).DY=x.DY∧(C2 nd th x).TO=x.TO:=by unfold C2 DM;split<;>split<;>exact ⟨rfl,rfl,rfl,rfl,rfl,rfl⟩
theorem qy (id:Int) (nd:Bool) (th:Int) (x:SX):(Ct id nd th x).length≤2:=by
 unfold Ct;rw [List.length_append];have h1:∀(c:Bool) (m:ML),(if c then [m] else []).length≤1:=by intro c m;cases c<;>simp
 have:=h1 (x.BO&&(x.Ask&&!F4 nd th x)) ⟨id,x.PE,⟨3,x.EP,0⟩⟩;have:=h1 (decide (th=1)&&(nd&&((DM nd th x).Ask&&!(DM nd th x).BO))) ⟨id,x.PE,⟨4,x.EP,0⟩⟩;omega
theorem qA (N:List Int) (id th:Int) (l:List SX):(l.flatMap fun x=>Ct id (decide (x.PE∈N)) th x).length≤2*l.length:=by
 induction l with
 | nil=>simp
 | cons x l ih=>have:=qy id (decide (x.PE∈N)) th x;rw [List.flatMap_cons,List.length_append,List.length_cons];omega
theorem mE (y:SX) (k id ph th:Int) (N:List Int) (l:List SX) (E:List ML) (J:E.length≤1000000):Na y k id ph th l N E=some (E++[⟨id,y.PE,⟨k,y.EP,0⟩⟩]):=by simp only [Na];rw [B0 _ _ Om (by simp;omega),OB]
theorem qB (id ph th:Int) (N:List Int) (U:N.length≤1000000) (l:List SX) (hl:l.length≤5000) (pre post:List SX) (x:SX) (h:l=pre++x::post) (all:Bool) (A:List SX) (J:A.length=pre.length) (E:List ML) (Y:E.length≤900000):
  KH id ph th l N (all,(pre.length:Int),A++x::post,E)=some (.inl (all&&(!decide (x.PE∈N)||(C2 (decide (x.PE∈N)) th x).BO),((pre.length+1:Nat):Int),A++C2 (decide (x.PE∈N)) th x::post,E++Ct id (decide (x.PE∈N)) th x)):=by
 have hx:=Br h;have hm:=Bp h;have at1:∀y:SX,A4 (A++y::post) (pre.length:Int)=some y:=fun y=>by rw [←J];exact Jd rfl
 have st1:∀y z:SX,(A++y::post).set ((pre.length:Int)).toNat z=A++z::post:=fun y z=>by rw [←J];exact LC _ _ _ _
 generalize h6:decide (x.PE∈N)=nd;have j7:∀(S:List SX) (E':List ML) z,KG (pre.length:Int) S E' z=some (.inl (z,((pre.length+1:Nat):Int),S,E')):=fun S E' z=>by dsimp only [KG];rw [Al Om]
 have j6:∀(y:SX) (E':List ML),N8 all (pre.length:Int) nd (A++y::post,E')=some (.inl (all&&(!nd||y.BO),((pre.length+1:Nat):Int),A++y::post,E')):=fun y E'=>by dsimp only [N8];rw [at1,OB];simp only [j7];cases all<;>cases nd<;>rfl
 have j4:∀(y:SX) (E':List ML),E'.length≤950000→Ju id ph th N all (pre.length:Int) nd (A++y::post,E') =
   if decide (th=1)&&(nd&&(y.Ask&&!y.BO)) then some (.inl (all&&(!nd||y.BO),((pre.length+1:Nat):Int),A++{y with Ask:=false}::post,E'++[⟨id,y.PE,⟨4,y.EP,0⟩⟩])) else some (.inl (all&&(!nd||y.BO),((pre.length+1:Nat):Int),A++y::post,E')):=fun y E' hE'=>by
  have j5:∀z,Ig id ph th N all (pre.length:Int) nd (A++y::post) E' z=if z then some (.inl (all&&(!nd||y.BO),((pre.length+1:Nat):Int),A++{y with Ask:=false}::post,E'++[⟨id,y.PE,⟨4,y.EP,0⟩⟩])) else some (.inl (all&&(!nd||y.BO),((pre.length+1:Nat):Int),A++y::post,E')):=fun z=>by
   cases z with
   | false=>dsimp only [Ig];rw [A1,j6];rfl
   | true=>dsimp only [Ig];rw [A3,at1,OB,st1,mE _ _ _ _ _ _ _ _ Om,OB,j6];rfl
  dsimp only [Ju];rw [at1,OB];simp only [j5];cases decide (th=1)<;>cases nd<;>cases y.Ask<;>rfl
 have j3:∀z,Hn id ph th N all (pre.length:Int) (A++x::post) E x nd z=if z then Ju id ph th N all (pre.length:Int) nd (A++{x with BO:=false}::post,E++[⟨id,x.PE,⟨3,x.EP,0⟩⟩]) else Ju id ph th N all (pre.length:Int) nd (A++x::post,E):=fun z=>by
  cases z with
  | false=>dsimp only [Hn];rw [A1];rfl
  | true=>dsimp only [Hn];rw [A3,st1,mE _ _ _ _ _ _ _ _ Om,OB];rfl
 have j2:∀z,Jt id ph th N all (pre.length:Int) (A++x::post) E x nd z=Hn id ph th N all (pre.length:Int) (A++x::post) E x nd (x.BO&&(x.Ask&&!z)):=fun z=>by dsimp only [Jt];cases x.BO<;>cases x.Ask<;>rfl
 have e:KH id ph th l N (all,(pre.length:Int),A++x::post,E)=Hn id ph th N all (pre.length:Int) (A++x::post) E x nd (x.BO&&(x.Ask&&!F4 nd th x)):=by dsimp only [KH];rw [Ay hx,A3,at1,OB,IR N _ U,OB,h6];dsimp only [VQ];simp only [j2];unfold F4;cases nd<;>cases decide (th=2)<;>cases decide (th=1)<;>rfl
 rw [e,j3];cases hz:(x.BO&&(x.Ask&&!F4 nd th x)) with
 | false=>
   have b1:DM nd th x=x:=by unfold DM;rw [hz];rfl
   rw [if_neg (by simp),j4 _ _ Om];unfold C2 Ct;rw [b1,hz];cases (decide (th=1)&&(nd&&(x.Ask&&!x.BO)))<;>simp
 | true=>
   have b1:DM nd th x={x with BO:=false}:=by unfold DM;rw [hz];rfl
   rw [if_pos rfl,j4 _ _ (by simp;omega)];unfold C2 Ct;rw [b1,hz];cases (decide (th=1)&&(nd&&(x.Ask&&!false)))<;>simp
theorem zO (id ph th:Int) (N:List Int) (J:N.length≤1000000) (l:List SX) (hl:l.length≤5000) (E:List ML) (U:E.length≤800000):
  QU id ph th l N E=some (if decide (th=1)&&(l.map fun x=>C2 (decide (x.PE∈N)) th x).all (fun x=>!decide (x.PE∈N)||x.BO) then 2 else th,l.map fun x=>C2 (decide (x.PE∈N)) th x,E++l.flatMap fun x=>Ct id (decide (x.PE∈N)) th x):=by
 have:=Hj l (KH id ph th l N) (fun pre=>((pre.map fun x=>C2 (decide (x.PE∈N)) th x).all (fun x=>!decide (x.PE∈N)||x.BO),(pre.length:Int),(pre.map fun x=>C2 (decide (x.PE∈N)) th x)++l.drop pre.length,E++pre.flatMap fun x=>Ct id (decide (x.PE∈N)) th x))
  (fun _ _=>some (if decide (th=1)&&(l.map fun x=>C2 (decide (x.PE∈N)) th x).all (fun x=>!decide (x.PE∈N)||x.BO) then 2 else th,l.map fun x=>C2 (decide (x.PE∈N)) th x,E++l.flatMap fun x=>Ct id (decide (x.PE∈N)) th x)) (fun pre x post h=>.inl ⟨by
    have hd:l.drop pre.length=x::post:=by rw [h];simp
    have hd':l.drop (pre++[x]).length=post:=by rw [h];simp
    have hm:=Bp h;have hE':=qA N id th pre;rw [hd,hd',qB id ph th N J l hl pre post x h _ _ (by simp) _ (by rw [List.length_append];omega),AN];have hp:=(Ki (decide (x.PE∈N)) th x).1;simp [hp],rfl⟩) (by
  dsimp only [KH];rw [AB,A1];dsimp only [VO];rw [List.drop_length,List.append_nil];cases decide (th=1) with
  | false=>rfl
  | true=>cases (l.map fun x=>C2 (decide (x.PE∈N)) th x).all (fun x=>!decide (x.PE∈N)||x.BO)<;>rfl)
 unfold QU;simpa using this
def C5 (d:DK):Int:=if decide (d.TH=1)&&decide (d.DI.PH=0) then 1 else if decide (d.DI.PH=2)&&(!decide (d.TH=1)&&!d.DI.SD.any (fun x=>decide (x.SS=1))) then 0 else d.DI.PH
def AC (d:DK):DI:=⟨d.DI.ID,C5 d,d.DI.SD⟩
def Gc (d:DK):List SX:=(BV (AC d)).SD.map fun x=>C2 (Ch d x) d.TH x
def Gd (d:DK):Int:=if decide (d.TH=1)&&(Gc d).all (fun x=>!Ch d x||x.BO) then 2 else d.TH
def Aw (d:DK):DK:=⟨⟨d.DI.ID,(BV (AC d)).PH,Gc d⟩,Gd d,d.NE⟩
def Cq (d:DK):List ML:=He (AC d)++(BV (AC d)).SD.flatMap fun x=>Ct d.DI.ID (Ch d x) d.TH x
theorem lw {d:DK} (h:Cc d.DI=true):Cc (AC d)=true:=by
 simp only [Cc,Bool.and_eq_true,decide_eq_true_eq] at h ⊢;refine ⟨h.1,?_,?_,h.2.2.2⟩
 ·show 0≤C5 d;unfold C5;split
  ·omega
  ·split<;>omega
 ·show C5 d≤2;unfold C5;split
  ·omega
  ·split<;>omega
theorem t8 (d:DI):(BV d).SD.length=d.SD.length:=by rw [Hd];simp
theorem Z0e (d:DK) (h:Cc d.DI=true) (E:d.NE.length≤1000000) (out:List ML) (ho:out.length≤700000):
  QV d.DI.ID d.DI.PH d.TH d.DI.SD d.NE out=some ((Aw d).DI.ID,(Aw d).DI.PH,(Aw d).TH,(Aw d).DI.SD,out++Cq d):=by
 have hl:=GT h;have hp:=lw h;have hw:=az d.DI.SD d.DI.ID (C5 d);have e0:(AC d).SD=d.DI.SD:=rfl;have h9:=t8 (AC d);rw [e0] at h9;have j2:Jv d.DI.ID d.TH d.DI.SD d.NE out (C5 d)=some ((Aw d).DI.ID,(Aw d).DI.PH,(Aw d).TH,(Aw d).DI.SD,out++Cq d):=by
  dsimp only [Jv];have e1:(⟨d.DI.ID,C5 d,d.DI.SD⟩:DI)=AC d:=rfl;have hA:(He (AC d)).length≤130:=by unfold He;rw [e0];show (d.DI.SD.flatMap (Cf d.DI.ID (C5 d))).length≤130;omega
  rw [e1,zj,hp,if_pos rfl,OB];dsimp only;rw [B0 _ _ Om Om,OB,zO _ _ _ _ E _ Om _ (by rw [List.length_append];omega),OB];rw [ay,List.append_assoc];rfl
 have h6:∀z:Int,z=C5 d→Jv d.DI.ID d.TH d.DI.SD d.NE out z=some ((Aw d).DI.ID,(Aw d).DI.PH,(Aw d).TH,(Aw d).DI.SD,out++Cq d):=fun z e=>by rw [e];exact j2
 have hd:=Ue d.DI.SD (fun z=>VT z) (fun x=>decide (x.SS=1)) Om (fun x _=>rfl);dsimp only [QV,QW,N9];rw [hd,OB];unfold C5 at h6;by_cases h1:d.TH=1
 ·rw [DT h1] at h6 ⊢;by_cases h2:d.DI.PH=0
  ·rw [DT h2] at h6 ⊢;exact h6 1 rfl
  ·rw [DN h2] at h6 ⊢;have:=h6 d.DI.PH (by simp);rw [A3,A1,this];cases decide (d.DI.PH=2)<;>rfl
 ·rw [DN h1] at h6 ⊢;rw [A1,A1];by_cases h2:d.DI.PH=2
  ·rw [DT h2] at h6 ⊢;cases h8:d.DI.SD.any (fun x=>decide (x.SS=1)) with
   | true=>rw [h8] at h6;exact h6 d.DI.PH (by simp)
   | false=>rw [h8] at h6;exact h6 0 (by simp)
  ·rw [DN h2] at h6 ⊢;exact h6 d.DI.PH (by simp)
def F0 (x:SX):Nat:=bn x.FK+bn x.TO+bn x.BO+bn x.Ask
def bits (l:List SX):Nat:=(l.map F0).sum
def rank (th ph:Int):Nat:=if th=1 then (if ph=0 then 5 else if ph=1 then 4 else 3) else (if ph=1 then 2 else if ph=2 then 1 else 0)
def mu (d:DK):Nat:=bits d.DI.SD+rank d.TH d.DI.PH
theorem sX (id ph:Int) (x:SX):F0 (Bj ph x)+(Cf id ph x).length=F0 x:=by obtain ⟨p,e,st,f,d,t,bo,ask⟩:=x;unfold Cf Bj D4 F0 bn;generalize h1:decide (ph=1)=q1;generalize h2:decide (ph=2)=q2;cases f<;>cases d<;>cases t<;>cases q1<;>cases q2<;>simp<;>omega
theorem qx (id:Int) (nd:Bool) (th:Int) (x:SX):F0 (C2 nd th x)+(Ct id nd th x).length=F0 x:=by obtain ⟨p,e,st,f,d,t,bo,ask⟩:=x;unfold Ct C2 DM F4 F0 bn;generalize h1:decide (th=1)=q1;generalize h2:decide (th=2)=q2;cases bo<;>cases ask<;>cases nd<;>cases q1<;>cases q2<;>cases f<;>simp<;>omega
theorem t6 (d:DI) (x:SX):F0 (BU d x)=F0 (Bj d.PH x):=by unfold BU;split<;>rfl
theorem d5 (d:DK):bits (Aw d).DI.SD+(Cq d).length=bits d.DI.SD:=by
 have Af:∀l:List SX,((l.map fun x=>C2 (Ch d (BU (AC d) x)) d.TH (BU (AC d) x)).map F0).sum+((l.flatMap (Cf d.DI.ID (C5 d))).length+((l.map (BU (AC d))).flatMap fun x=>Ct d.DI.ID (Ch d x) d.TH x).length)=(l.map F0).sum:=by
  intro l;induction l with
  | nil=>rfl
  | cons x l ih=>have h1:=sX d.DI.ID (C5 d) x;have h2:=qx d.DI.ID (Ch d (BU (AC d) x)) d.TH (BU (AC d) x);have h3:=t6 (AC d) x;have e:(AC d).PH=C5 d:=rfl;rw [e] at h3;simp only [List.map_cons,List.sum_cons,List.flatMap_cons,List.length_append];omega
 have:=Af d.DI.SD;unfold bits Cq;rw [List.length_append,Hd];show (((Gc d).map F0).sum+_=_);unfold Gc;rw [Hd];simp only [List.map_map] at this ⊢;exact this
theorem UY (d:DI):(BV d).PH=d.PH∧(decide (d.PH=1)&&(d.SD.map (Bj d.PH)).all (·.FK))=false∨d.PH=1∧(BV d).PH=2:=by
 unfold BV;cases hq:decide (d.PH=1)&&(d.SD.map (Bj d.PH)).all (·.FK) with
 | false=>exact .inl ⟨rfl,rfl⟩
 | true=>rw [Bool.and_eq_true,decide_eq_true_eq] at hq;exact .inr ⟨hq.1,rfl⟩
theorem tp {id ph:Int} {x:SX} (h:Cf id ph x=[]):Bj ph x=x:=by
 obtain ⟨p,e,st,f,d,t,bo,ask⟩:=x;unfold Cf at h;unfold Bj;rw [List.append_eq_nil_iff] at h;obtain ⟨h1,h2⟩:=h;split at h1
 ·simp at h1
 ·rename_i q1;split at h2
  ·simp at h2
  ·rename_i q2;rw [if_neg q2];unfold D4;rw [if_neg q1]
theorem qz {id:Int} {nd:Bool} {th:Int} {x:SX} (h:Ct id nd th x=[]):C2 nd th x=x:=by
 unfold Ct at h;unfold C2;rw [List.append_eq_nil_iff] at h;obtain ⟨h1,h2⟩:=h;split at h1
 ·simp at h1
 ·rename_i q1;split at h2
  ·simp at h2
  ·rename_i q2;rw [if_neg q2];unfold DM;rw [if_neg q1]
theorem cx {α:Type} {f:α→α}:∀ {l:List α},(∀x∈l,f x=x)→l.map f=l
 | [],_=>rfl
 | x::l,h=>by rw [List.map_cons,h x (by simp),cx fun y hy=>h y (by simp [hy])]
theorem yu {th ph ph' th':Int} (h0:0≤ph) (h2:ph≤2) (d:DK) (E:d.TH=th∧d.DI.PH=ph) (h1:ph'=C5 d∨C5 d=1∧ph'=2) (ht:th'=th∨th=1∧th'=2):rank th' ph'<rank th ph∨th'=th∧ph'=ph∧C5 d=ph:=by
 obtain ⟨d1,d2⟩:=E;unfold C5 at h1 ⊢;rw [d1,d2] at h1 ⊢;unfold rank;have hp:ph=0∨ph=1∨ph=2:=by omega
 by_cases h6:th=1
 ·subst h6;rcases hp with rfl | rfl | rfl<;>rcases ht with rfl | ⟨_,rfl⟩<;>simp at h1 ⊢ <;>rcases h1 with rfl | h1<;>simp_all
 ·have:th'=th:=by rcases ht with h | h;exact h;exact absurd h.1 h6
  subst this;rcases hp with rfl | rfl | rfl
  ·simp [h6] at h1 ⊢;rcases h1 with rfl | h1<;>simp_all
  ·simp [h6] at h1 ⊢;rcases h1 with rfl | h1<;>simp_all
  ·cases h8:d.DI.SD.any (fun x=>decide (x.SS=1))<;>simp [h6,h8] at h1 ⊢ <;>simp_all
theorem YE {d:DK} (h0:0≤d.DI.PH) (h2:d.DI.PH≤2):Aw d=d∧Cq d=[]∨mu (Aw d)<mu d:=by
 have hb:=d5 d;have hf:=UY (AC d);have ht:Gd d=d.TH∨d.TH=1∧Gd d=2:=by
  unfold Gd;cases hh:decide (d.TH=1)&&(Gc d).all (fun x=>!Ch d x||x.BO) with
  | false=>left;rfl
  | true=>right;rw [Bool.and_eq_true,decide_eq_true_eq] at hh;exact ⟨hh.1,rfl⟩
 have e1:(Aw d).DI.PH=(BV (AC d)).PH:=rfl;have e2:(Aw d).TH=Gd d:=rfl;have hr:=yu (th':=Gd d) (ph':=(BV (AC d)).PH) h0 h2 d ⟨rfl,rfl⟩ (by
  rcases hf with ⟨q,_⟩ | ⟨q1,q2⟩
  ·exact .inl q
  ·exact .inr ⟨q1,q2⟩) ht
 unfold mu;rw [e1,e2];rcases hr with hr | ⟨r1,r2,r3⟩
 ·right;omega
 ·by_cases hm:(Cq d).length=0
  ·left;have hm':Cq d=[]:=List.eq_nil_of_length_eq_zero hm;refine ⟨?_,hm'⟩;unfold Cq at hm';rw [List.append_eq_nil_iff] at hm';obtain ⟨m1,m2⟩:=hm';have h8:∀x∈d.DI.SD,BU (AC d) x=x:=fun x hx=>by
    have h6:Cf d.DI.ID (C5 d) x=[]:=by
     have:∀y∈Cf d.DI.ID (C5 d) x,y∈He (AC d):=fun y hy=>List.mem_flatMap.2 ⟨x,hx,hy⟩;rw [m1] at this;cases hc:Cf d.DI.ID (C5 d) x with
     | nil=>rfl
     | cons y l=>exact absurd (this y (by rw [hc];simp)) (by simp)
    have h9:Bj (C5 d) x=x:=tp h6;unfold BU;rw [show (AC d).PH=C5 d from rfl];split
    ·rename_i hc;exfalso;rcases hf with ⟨q,q'⟩ | ⟨q1,q2⟩
     ·have:=q';rw [show (AC d).PH=C5 d from rfl] at this;rw [this] at hc;simp at hc
     ·rw [show (AC d).PH=C5 d from rfl] at q1;rw [q1] at r3;rw [q2] at r2;omega
    ·exact h9
   have hS:(BV (AC d)).SD=d.DI.SD:=by rw [Hd];exact cx h8
   have hB:Gc d=d.DI.SD:=by
    unfold Gc;rw [hS];refine cx fun x hx=>?_;have h6:Ct d.DI.ID (Ch d x) d.TH x=[]:=by
     rw [hS] at m2;have:∀y∈Ct d.DI.ID (Ch d x) d.TH x,y∈d.DI.SD.flatMap fun x=>Ct d.DI.ID (Ch d x) d.TH x:=fun y hy=>List.mem_flatMap.2 ⟨x,hx,hy⟩;rw [m2] at this;cases hc:Ct d.DI.ID (Ch d x) d.TH x with
     | nil=>rfl
     | cons y l=>exact absurd (this y (by rw [hc];simp)) (by simp)
    exact qz h6
   unfold Aw;rw [hB,r1,r2]
  ·right;rw [r1,r2];omega
theorem kW (id:Int) (f:SX→SX):∀(l:List SX) (q:Int),(∀x∈l,(f x).PE=x.PE∧∀q,CS id q x=true→CS id q (f x)=true)→FD id q l=true→FD id q (l.map f)=true
 | [],_,_,_=>rfl
 | x::l,q,h,hk=>by obtain ⟨h1,h2⟩:=h x (by simp);simp only [List.map_cons,FD,Bool.and_eq_true] at hk ⊢;refine ⟨h2 q hk.1,?_⟩;rw [h1];exact kW id f l x.PE (fun y hy=>h y (by simp [hy])) hk.2
theorem kP {d:DI} (h:Cc d=true) {p:Int} (h0:0≤p) (h2:p≤2) (f:SX→SX) (hf:∀x∈d.SD,(f x).PE=x.PE∧∀q,CS d.ID q x=true→CS d.ID q (f x)=true):Cc ⟨d.ID,p,d.SD.map f⟩=true:=by simp only [Cc,Bool.and_eq_true,decide_eq_true_eq] at h ⊢;exact ⟨h.1,h0,h2,by simpa using h.2.2.2.1,kW d.ID f d.SD (-1) hf h.2.2.2.2⟩
theorem nv {id q:Int} {x y:SX} (hp:y.PE=x.PE) (he:y.EP=x.EP) (hs:y.SS=x.SS) (E:(x.DY=true→x.FK=true)→y.DY=true→y.FK=true) (h:CS id q x=true):CS id q y=true:=by
 unfold CS at h ⊢;rw [hp,he,hs];simp only [Bool.and_eq_true] at h ⊢;refine ⟨h.1,h.2.1,h.2.2.1,h.2.2.2.1,h.2.2.2.2.1,h.2.2.2.2.2.1,?_⟩;have h7:=h.2.2.2.2.2.2;cases h6:y.DY with
 | false=>rfl
 | true=>
   have:x.DY=true→x.FK=true:=fun e=>by
    rw [e] at h7;cases hf:x.FK with
    | true=>rfl
    | false=>rw [hf] at h7;simp at h7
   rw [E this h6];rfl
theorem ta {d:DI} (h:Cc d=true):Cc (BV d)=true:=by
 have hh:=h;simp only [Cc,Bool.and_eq_true,decide_eq_true_eq] at hh;have hp:0≤(BV d).PH∧(BV d).PH≤2:=by
  rcases UY d with ⟨q,_⟩ | ⟨_,q⟩
  ·rw [q];exact ⟨hh.2.1,hh.2.2.1⟩
  ·rw [q];omega
 have:=kP h hp.1 hp.2 (BU d) fun x hx=>by
  obtain ⟨p1,p2,p3,_⟩:=Mb d x;refine ⟨p1,fun q=>nv p1 p2 p3 fun hd=>?_⟩;unfold BU;split
  ·rename_i hc;rw [Bool.and_eq_true,List.all_eq_true] at hc;exact fun _=>hc.2 (Bj d.PH x) (List.mem_map_of_mem hx)
  ·exact sZ _ _ hd
 rw [←Hd] at this;rw [show BV d=⟨d.ID,(BV d).PH,(BV d).SD⟩ by rw [←ay d]];exact this
theorem d6 {d:DK} (h:Cc d.DI=true):Cc (Aw d).DI=true:=by
 have h1:=ta (lw h);have hh:=h1;simp only [Cc,Bool.and_eq_true,decide_eq_true_eq] at hh;have:=kP h1 hh.2.1 hh.2.2.1 (fun x=>C2 (Ch d x) d.TH x) fun x _=>by obtain ⟨p1,p2,p3,p4,p5,_⟩:=Ki (Ch d x) d.TH x;exact ⟨p1,fun q=>nv p1 p2 p3 fun hd e=>by rw [p4];rw [p5] at e;exact hd e⟩
 rw [ay] at this;exact this
def BZ:Nat→DK→List ML→DK×List ML
 | 0,d,out=>(d,out)
 | n+1,d,out=>if Aw d=d then (d,out) else BZ n (Aw d) (out++Cq d)
def Bo (d:DK):DK×List ML:=BZ 300 d []
theorem YU (l m:List Int) (hl:l.length≤1000000):JY l m=some (decide (l=m)):=by
 simp only [JY,Mz];by_cases h:l.length=m.length
 ·simp only [h,decide_true,Bool.not_true,A1];rw [MA l m _ (fun x y=>decide (x=y)) h Om (fun k x y hx hy=>by simp only [XL,Ay hx,A3,Aj hx,Aj hy,OB,Di hx (show l.length≤4000000000000000000 by omega),Jl];cases decide (x=y)<;>rfl) (by simp only [XL,AB,A1,XK,Option.map_some]),LK l m h]
 ·simp [h,My h]
theorem YW (i p t:Int) (S:List SX) (N:List Int) (hs:S.length≤1000000) (hn:N.length≤1000000):Jw i p t S N=some (S,N):=by simp only [Jw,HG _ hs,EN _ hn,OB,VU]
theorem mo (a b:DK) (hs:a.DI.SD.length≤1000000) (hn:a.NE.length≤1000000):N6 a b=some (decide (a=b)):=by obtain ⟨⟨i,p,s⟩,t,n⟩:=a;obtain ⟨⟨i',p',s'⟩,t',n'⟩:=b;simp only at hs hn;simp only [N6,VI,N2,N7,zi s s' hs,YU n n' hn,OB,DK.mk.injEq,DI.mk.injEq];by_cases h1:i=i'<;>by_cases h2:p=p'<;>by_cases h3:s=s'<;>by_cases h4:t=t'<;>by_cases h5:n=n'<;>simp [h1,h2,h3,h4,h5]
theorem ZV (l:List SX):bits l≤4*l.length:=by
 induction l with
 | nil=>simp [bits]
 | cons x l ih=>
   have:F0 x≤4:=by unfold F0 bn;split<;>split<;>split<;>split<;>omega
   unfold bits at ih ⊢;simp only [List.map_cons,List.sum_cons,List.length_cons];omega
theorem jU {d:DK} (h:Cc d.DI=true):mu d≤257:=by
 have h1:=GT h;have h2:=ZV d.DI.SD;have:rank d.TH d.DI.PH≤5:=by unfold rank;(repeat' split)<;>omega
 unfold mu;omega
theorem YA {d:DI} (h:Cc d=true):0≤d.PH∧d.PH≤2:=by simp only [Cc,Bool.and_eq_true,decide_eq_true_eq] at h;exact ⟨h.2.1,h.2.2.1⟩
theorem tq (J:List SX) (N:List Int) (E:N.length≤1000000):∀(n:Nat) (d:DK) (out:List ML),d.NE=N→Cc d.DI=true→mu d≤n→out.length+bits d.DI.SD≤600000→
  loop (QQ (J,N)) (d.DI.ID,d.DI.PH,d.TH,d.DI.SD,out)=some ((BZ (n+1) d out).1.DI.ID,(BZ (n+1) d out).1.DI.PH,(BZ (n+1) d out).1.TH,0,(BZ (n+1) d out).1.DI.SD,N,(BZ (n+1) d out).2):=fun n=>by
 have step:∀(d:DK) (out:List ML),d.NE=N→Cc d.DI=true→out.length+bits d.DI.SD≤600000→QQ (J,N) (d.DI.ID,d.DI.PH,d.TH,d.DI.SD,out)=if Aw d=d then some (.inr (d.DI.ID,d.DI.PH,d.TH,0,d.DI.SD,N,out)) else some (.inl ((Aw d).DI.ID,(Aw d).DI.PH,(Aw d).TH,(Aw d).DI.SD,out++Cq d)):=fun d out hd hk ho=>by
  have hl:=GT hk;have hp:=YA hk;have e:(⟨⟨d.DI.ID,d.DI.PH,d.DI.SD⟩,d.TH,N⟩:DK)=d:=by rw [←hd]
  dsimp only [QQ];have h6:=Z0e d hk (by rw [hd];exact E) out Om;rw [hd] at h6;rw [YW _ _ _ _ _ Om E,OB,h6,OB];dsimp only;have e2:(⟨⟨(Aw d).DI.ID,(Aw d).DI.PH,(Aw d).DI.SD⟩,(Aw d).TH,N⟩:DK)=Aw d:=by rw [←hd];rfl
  rw [e,e2,mo d _ Om (by rw [hd];exact E),OB];dsimp only [VK,VM];by_cases hq:Aw d=d
  ·rw [if_pos hq,DT hq.symm,A3];have hm:Cq d=[]:=by
    rcases YE hp.1 hp.2 with h1 | h1
    ·exact h1.2
    ·rw [hq] at h1;omega
   rw [hm,List.append_nil,hq];rfl
  ·rw [if_neg hq,DN fun e=>hq e.symm,A1]
 induction n with
 | zero=>
   intro d out hd hk hm ho;have hp:=YA hk;have hq:Aw d=d:=by
    rcases YE hp.1 hp.2 with h1 | h1
    ·exact h1.1
    ·omega
   rw [B5,step d out hd hk ho,if_pos hq];unfold BZ;rw [if_pos hq]
 | succ n ih=>
   intro d out hd hk hm ho;have hp:=YA hk;rw [B5,step d out hd hk ho];unfold BZ;by_cases hq:Aw d=d
   ·rw [if_pos hq,if_pos hq]
   ·rw [if_neg hq,if_neg hq];have hb:=d5 d;refine ih (Aw d) (out++Cq d) hd (d6 hk) ?_ (by rw [List.length_append];omega);rcases YE hp.1 hp.2 with h1 | h1
    ·exact absurd h1.1 hq
    ·omega
def Gb:Option Int→List Int→Bool
 | _,[]=>true
 | p,x::r=>(match p with | none=>true | some q=>decide (q<x))&&Gb (some x) r
def Jk (d:DI) (p:Int):Bool:=d.SD.any fun x=>decide (x.PE=p)
def EJ (d:DK):Bool:=Cc d.DI&&(decide (0≤d.TH)&&(decide (d.TH≤2)&&(Gb none d.NE&&(!(decide (d.TH=0)&&decide (0<d.NE.length))&&d.NE.all (Jk d.DI)))))
theorem mF (l:List Int) (hl:l.length≤1000000):IA l=some (Gb none l):=by
 unfold IA;refine Hj l (JX l) (fun pre=>(pre.length:Int)) (fun pre post=>some (Gb pre.getLast? post)) (fun pre x post h=>?_) ?_
 ·have hx:=Br h;have hm:=Bp h;have j2:∀z,JW (pre.length:Int) z=if z then some (.inr false) else some (.inl ((pre.length+1:Nat):Int)):=fun z=>by
   cases z with
   | true=>rfl
   | false=>dsimp only [JW];rw [A1,Al Om];rfl
  dsimp only [JX];rw [Ay hx,A3];rcases List.eq_nil_or_concat pre with rfl | ⟨q,y,rfl⟩
  ·left;rw [show decide ((0:Int)<(([]:List Int).length:Nat))=false from rfl,A1,j2];exact ⟨rfl,rfl⟩
  ·rw [List.concat_eq_append] at *;have hy:l[q.length]?=some y:=by rw [h];simp
   rw [DT (show (0:Int)<((q++[y]).length:Nat) by rw [AN];omega),A3];have e1:wr (((q++[y]).length:Nat)-1)=(q.length:Int):=by rw [AN] at hm ⊢;rw [CT Om Om];omega
   rw [e1,Aj hy,OB,Aj hx,OB,j2];by_cases hc:x≤y
   ·right;refine ⟨false,by rw [DT hc];rfl,?_⟩;have:¬y<x:=by omega
    simp [Gb,this]
   ·left;have:y<x:=by omega
    refine ⟨by rw [DN hc,AN (q++[y])];rfl,?_⟩;simp [Gb,this]
 ·dsimp only [JX];rw [AB,A1];rfl
theorem YV (d:DK) (hn:d.NE.length≤1000000):Js d=some (if EJ d then 0 else 150):=by
 simp only [Js,dy,OB];unfold EJ;cases hk:Cc d.DI with
 | false=>rfl
 | true=>
   have hl:=GT hk;rw [if_pos rfl,show decide ((0:Int)=0)=true from rfl,Bool.not_true,A1];by_cases h1:d.TH<0
   ·rw [DT h1,A3,DN (show ¬0≤d.TH by omega)];rfl
   ·rw [DN h1,A1,DT (show 0≤d.TH by omega)];by_cases h2:2<d.TH
    ·rw [DT h2,DN (show ¬d.TH≤2 by omega)];rfl
    ·rw [DN h2,DT (show d.TH≤2 by omega)];dsimp only [N3];rw [A1,mF _ hn,OB];cases hv:Gb none d.NE with
     | false=>rfl
     | true=>
       rw [Bool.not_true,A1];have j3:∀z,N4 d z=some (if (!z&&d.NE.all (Jk d.DI))=true then 0 else 150):=fun z=>by
        cases z with
        | true=>rfl
        | false=>dsimp only [N4];rw [A1,P7 d.NE (fun z=>QN z d) (fun p=>!Jk d.DI p) Om (fun p _=>by simp only [QN];rw [Ue d.DI.SD (fun z=>VJ z p) (fun x=>decide (x.PE=p)) Om (fun x _=>rfl),OB];rfl),OB];have e1:d.NE.any (fun p=>!Jk d.DI p)=!d.NE.all (Jk d.DI):=LT _ _ _ fun _=>rfl;rw [e1];cases d.NE.all (Jk d.DI)<;>rfl
       rw [B7];simp only [j3,Bool.true_and];have e3:decide ((0:Int)<(d.NE.length:Nat))=decide (0<d.NE.length):=by rw [decide_eq_decide];omega
       rw [e3];cases decide (d.TH=0)<;>rfl
theorem OU {d:DK} (h:EJ d=true):Cc d.DI=true:=by unfold EJ at h;rw [Bool.and_eq_true] at h;exact h.1
theorem gD:∀(n:Nat) (d:DK) (out:List ML),(BZ n d out).1.NE=d.NE
 | 0,_,_=>rfl
 | n+1,d,out=>by
   unfold BZ;split
   ·rfl
   ·rw [gD n];rfl
theorem zW (d:DK) (hk:EJ d=true) (hn:d.NE.length≤1000000):N5 d.DI.ID d.DI.PH d.TH d.DI.SD d.NE=some ((Bo d).1.DI.ID,(Bo d).1.DI.PH,(Bo d).1.TH,0,(Bo d).1.DI.SD,d.NE,(Bo d).2):=by have h6:=OU hk;have hl:=GT h6;have hb:=ZV d.DI.SD;have hm:=jU h6;dsimp only [N5];rw [show (⟨⟨d.DI.ID,d.DI.PH,d.DI.SD⟩,d.TH,d.NE⟩:DK)=d from rfl,YV d hn,OB,if_pos hk,show decide ((0:Int)=0)=true from rfl,Bool.not_true,A1,YW _ _ _ _ _ Om hn,OB,tq _ d.NE hn 299 d [] rfl h6 Om (by simp only [List.length_nil];omega)];rfl
theorem zV (d:DK) (hk:EJ d=true) (hn:d.NE.length≤1000000):QP d.DI.ID d.DI.PH d.TH d.DI.SD d.NE=some (if d.TH=0 then (0,0,152,[]) else (d.DI.ID,d.DI.PH,0,d.DI.SD)):=by
 have hl:=GT (OU hk);dsimp only [QP];rw [show (⟨⟨d.DI.ID,d.DI.PH,d.DI.SD⟩,d.TH,d.NE⟩:DK)=d from rfl,YV d hn,OB,if_pos hk,show decide ((0:Int)=0)=true from rfl,Bool.not_true,A1];by_cases h1:d.TH=0
 ·rw [DT h1,A3,if_pos h1]
 ·rw [DN h1,A1,if_neg h1,YW _ _ _ _ _ Om hn,OB]
def Bc (k:Int) (x:SX):Bool:=if k=1 then x.FK else if k=2 then x.TO else if k=4 then x.Ask else x.BO
def CE (k:Int) (x:SX):SX:=if k=1 then {x with FK:=true} else if k=2 then {x with TO:=true} else if k=4 then {x with Ask:=true} else {x with BO:=true}
theorem zT (i p E:Int) (m:Msg) (S:List SX) (hk:Cc ⟨i,p,S⟩=true) {j:Nat} {x:SX} (hf:S.findIdx? (fun x=>decide (x.PE=E)&&decide (x.EP=m.EP))=some j) (hx:S[j]?=some x) (h0:m.Num=0) (hm:m.KI=1∨m.KI=2):
  QJ i p E m S=some (if Bc m.KI x then (0,0,132,[]) else (i,p,0,S.set j (CE m.KI x))):=by
 have hl:S.length<64:=GT hk;dsimp only [QJ];rw [dy,if_pos hk,OB,show decide ((0:Int)=0)=true from rfl,Bool.not_true,A1,Lz S (fun z=>QH z E m) (fun x=>decide (x.PE=E)&&decide (x.EP=m.EP)) Om (fun x _=>by simp only [QH,QI];cases decide (x.PE=E)<;>rfl),OB,YK,hf,Option.isNone_some,A1,HG S Om,OB];dsimp only [Bf];rw [Aj hx,OB];dsimp only [QK,QL,QM];rw [DT h0,Int.toNat_natCast];rcases hm with hm | hm
 ·rw [hm,show decide ((1:Int)=1)=true from rfl,A3,A3];simp only [Bc,CE,if_true];cases x.FK<;>rfl
 ·rw [hm,show decide ((2:Int)=1)=false from rfl,A1,A1,show decide ((2:Int)=2)=true from rfl,A3,A3];simp only [Bc,CE,if_true,show ¬(2:Int)=1 by omega,if_false];cases x.TO<;>rfl
theorem zX (d:DK) (E:Int) (m:Msg) (hk:EJ d=true) (hn:d.NE.length≤1000000) {j:Nat} {x:SX} (hf:d.DI.SD.findIdx? (fun x=>decide (x.PE=E)&&decide (x.EP=m.EP))=some j) (hx:d.DI.SD[j]?=some x) (h0:m.Num=0) (hm:1≤m.KI∧m.KI≤4):
  QT d.DI.ID d.DI.PH d.TH E m d.DI.SD d.NE=some (if Bc m.KI x then (0,0,0,132,[],[]) else (d.DI.ID,d.DI.PH,d.TH,0,d.DI.SD.set j (CE m.KI x),d.NE)):=by
 have hl:=GT (OU hk);dsimp only [QT];rw [show (⟨⟨d.DI.ID,d.DI.PH,d.DI.SD⟩,d.TH,d.NE⟩:DK)=d from rfl,YV d hn,if_pos hk,OB,show decide ((0:Int)=0)=true from rfl,Bool.not_true,A1,YW _ _ _ _ _ Om hn,OB];dsimp only;rw [Lz d.DI.SD (fun z=>QR z E m) (fun x=>decide (x.PE=E)&&decide (x.EP=m.EP)) Om (fun x _=>by simp only [QR,QS];cases decide (x.PE=E)<;>rfl),OB,YK,hf,Option.isNone_some,A1,DT h0,Bool.not_true,A1];have hd:=fun hm=>zT d.DI.ID d.DI.PH E m d.DI.SD (OU hk) hf hx h0 hm;have j1:(m.KI=1∨m.KI=2)→Hm d.DI.ID d.DI.PH d.TH E m (d.DI.SD,d.NE) (Bf (some j)) true=some (if Bc m.KI x then (0,0,0,132,[],[]) else (d.DI.ID,d.DI.PH,d.TH,0,d.DI.SD.set j (CE m.KI x),d.NE)):=fun hq=>by dsimp only [Hm];rw [A3,hd hq,OB];cases Bc m.KI x<;>rfl
 have j0:(m.KI=3∨m.KI=4)→Hm d.DI.ID d.DI.PH d.TH E m (d.DI.SD,d.NE) (Bf (some j)) false=some (if Bc m.KI x then (0,0,0,132,[],[]) else (d.DI.ID,d.DI.PH,d.TH,0,d.DI.SD.set j (CE m.KI x),d.NE)):=fun hq=>by
  dsimp only [Hm,Bf];rw [A1,Aj hx,OB,Int.toNat_natCast];rcases hq with hq | hq
  ·rw [hq,show decide ((3:Int)=4)=false from rfl,A1];simp only [Bc,CE,show ¬(3:Int)=1 by omega,show ¬(3:Int)=2 by omega,show ¬(3:Int)=4 by omega,if_false];cases x.BO<;>rfl
  ·rw [hq,show decide ((4:Int)=4)=true from rfl,A3];simp only [Bc,CE,show ¬(4:Int)=1 by omega,show ¬(4:Int)=2 by omega,if_false,if_true];cases x.Ask<;>rfl
 by_cases k3:m.KI=3
 ·rw [DT k3,Bool.not_true,A1];exact j0 (.inl k3)
 ·rw [DN k3,Bool.not_false,A3];by_cases k4:m.KI=4
  ·rw [DT k4,Bool.not_true];exact j0 (.inr k4)
  ·rw [DN k4,Bool.not_false];exact j1 Om
structure FewN (n:NO):Prop where
 sides:n.DK.DI.SD.length≤100000
 need:n.DK.NE.length≤100000
 book:n.BK.SE.length≤100000
 needs:∀s∈n.BK.SE,s.NE.length≤100000
 known:n.KN.length≤100000
 told:n.TL.length≤100000
 asked:n.AK.length≤100000
theorem FewN.bk {n:NO} (h:FewN n):F1 n.BK:=⟨by have:=h.book;omega,fun s hs=>by have:=h.needs s hs;omega⟩
def CR (n:NO) (q:SX→Bool):List Int:=(n.DK.DI.SD.filter q).map (·.PE)
theorem dH (n:NO) (hn:FewN n) (p:SX→Option Bool) (q:SX→Bool) (hp:∀x∈n.DK.DI.SD,p x=some (q x)):Ld n p=some (CR n q):=by
 have hl:=hn.sides;unfold Ld;refine CK n.DK.DI.SD _ (fun pre=>((pre.length:Int),(pre.filter q).map (·.PE))) _ (fun pre x post h=>?_) ?_
 ·have hx:=Br h;have hm:=Bp h;have hf:=List.length_filter_le q pre;dsimp only [Xh];rw [Ay hx,A3,Aj hx,OB,hp x (Dt h),OB];cases hq:q x with
  | true=>rw [A3,B0 _ _ Om (by simp;omega),OB];dsimp only [NP];rw [Al Om,AN];simp [hq]
  | false=>rw [A1];dsimp only [NP];rw [Al Om,AN];simp [hq]
 ·dsimp only [Xh];rw [AB,A1];rfl
def E4 (x:SX):Bool:=decide (x.SS=0)
def EL (x:SX):Bool:=decide (x.SS=1)
def G2 (x:SX):Bool:=decide (x.SS=3)
theorem zr (n:NO) (hn:FewN n):Rz n=some (CR n E4):=by simp only [Rz,dH n hn (fun z=>Iq z) E4 (fun _ _=>rfl),OB]
def BG (K:List KE) (p:Int):Int:=match K.find? (fun k=>decide (k.PE=p)) with | some k=>k.EP | none=>0
theorem dA (n:NO) (hn:FewN n) (p:Int):L3 n p=some (BG n.KN p):=by
 have hl:=hn.known;unfold L3;refine Hj n.KN _ (fun pre=>(pre.length:Int)) (fun _ post=>some (BG post p)) (fun pre x post h=>?_) ?_
 ·have hx:=Br h;have hm:=Bp h;dsimp only [WM];rw [Ay hx,A3,Aj hx,OB];by_cases hq:x.PE=p
  ·right;exact ⟨x.EP,by rw [DT hq];rfl,by simp [BG,hq]⟩
  ·left;exact ⟨by rw [DN hq,A1,Al Om,AN],by simp [BG,hq]⟩
 ·dsimp only [WM];rw [AB,A1];rfl
def Fb (n:NO) (k:KE):Bool:=!n.DK.DI.SD.any (fun x=>decide (x.PE=k.PE))&&(decide (0≤k.PE)&&(decide (k.PE<n.DK.DI.ID)&&(decide (BG n.KN k.PE<k.EP)&&decide (k.EP≤65535))))
theorem dE (n:NO) (hn:FewN n) (k:KE):Nv n k=some (Fb n k):=by have hl:=hn.sides;simp only [Nv,Ue n.DK.DI.SD (fun z=>WN z k) (fun x=>decide (x.PE=k.PE)) Om (fun _ _=>rfl),OB,dA n hn,JN];unfold Fb;cases n.DK.DI.SD.any (fun x=>decide (x.PE=k.PE))<;>cases decide (0≤k.PE)<;>cases decide (k.PE<n.DK.DI.ID)<;>cases decide (BG n.KN k.PE<k.EP)<;>rfl
def EB (l:List KE):Bool:=decide (l.map (·.PE)).Nodup
theorem dz (l:List KE) (hl:l.length≤1000000):Nu l=some (EB l):=by
 unfold Nu;have Af:=ju l (RG l) (fun pre=>(pre.length:Int)) (fun pre post=>some (EB (pre++post))) (fun pre=>(pre.map (·.PE)).Nodup) (fun pre x post h hI=>?_) (fun hI=>?_) l [] rfl (by simp)
 ·exact Af
 ·have hx:=Br h;have hm:=Bp h;have h6:Cj l 0 (pre.length:Int)=some pre:=by unfold Cj;rw [if_pos ⟨Om,Om,Om⟩,h];simp
  dsimp only [RG];rw [Ay hx,A3,Aj hx,OB,h6,OB,lZ pre (fun z=>WL z x) (fun y=>decide (y.PE=x.PE)) Om (fun _ _=>rfl),OB];cases ha:pre.any (fun y=>decide (y.PE=x.PE)) with
  | true=>
    right;refine ⟨false,rfl,?_⟩;have:¬((pre++x::post).map (·.PE)).Nodup:=by rw [List.any_eq_true] at ha;obtain ⟨y,hy,hq⟩:=ha;rw [List.map_append,List.map_cons,List.nodup_append];rintro ⟨_,_,h3⟩;exact h3 y.PE (List.mem_map.2 ⟨y,hy,rfl⟩) x.PE (by simp) (by simpa using hq)
    unfold EB;rw [DN this]
  | false=>left;rw [List.any_eq_false] at ha;refine ⟨by rw [A1,Al Om,AN],?_,by simp [EB]⟩;rw [List.map_append,List.nodup_append];refine ⟨hI,by simp,?_⟩;intro a ha' b hb;obtain ⟨y,hy,rfl⟩:=List.mem_map.1 ha';simp at hb;subst hb;have:=ha y hy;simpa using this
 ·dsimp only [RG];rw [AB,A1,List.append_nil];have:EB l=true:=by unfold EB;exact DT hI
  rw [this];rfl
def HE:Int→List KE→Bool
 | _,[]=>true
 | q,k::l=>(decide (q<k.PE)&&(decide (k.PE<64)&&(decide (1≤k.EP)&&decide (k.EP≤65535))))&&HE k.PE l
def Mu (q:Int) (pre:List KE):Int:=match pre.getLast? with | some x=>x.PE | none=>q
theorem j9 (q:Int) (pre:List KE) (x:KE):Mu q (pre++[x])=x.PE:=by simp [Mu]
theorem Z0l (l:List KE) (hl:l.length≤1000000) (q:Int):∃z,Tf l q=some (!HE q l,z):=by
 have s1:∀(k:KE) (q:Int),RN k q=some (!(decide (q<k.PE)&&(decide (k.PE<64)&&(decide (1≤k.EP)&&decide (k.EP≤65535))))):=fun k q=>by simp only [RN,L2];cases decide (q<k.PE)<;>cases decide (k.PE<64)<;>cases decide (1≤k.EP)<;>rfl
 have Af:∀(post pre:List KE),l=pre++post→∃r z,loop (Oj l) ((pre.length:Int),Mu q pre)=some (r,z)∧decide (0≤r)=!HE (Mu q pre) post:=by
  intro post;induction post with
  | nil=>
    intro pre h;have h:pre=l:=by simpa using h.symm
    subst h;refine ⟨-1,Mu q pre,?_,rfl⟩;rw [B5];dsimp only [Oj];rw [AB,A1];rfl
  | cons x post ih=>
    intro pre h;have hx:=Br h;have hm:=Bp h;rw [B5];dsimp only [Oj];rw [Ay hx,A3,Aj hx,OB,s1,OB];cases hk:(decide (Mu q pre<x.PE)&&(decide (x.PE<64)&&(decide (1≤x.EP)&&decide (x.EP≤65535)))) with
    | false=>exact ⟨pre.length,x.PE,rfl,by simp only [HE,hk,Bool.false_and,Bool.not_false];exact DT Om⟩
    | true=>
      obtain ⟨r,z,h1,h2⟩:=ih (pre++[x]) (by simpa using h);refine ⟨r,z,?_,?_⟩
      ·rw [Bool.not_true,A1,Al Om];rw [AN,j9] at h1;exact h1
      ·rw [h2,j9];simp only [HE,hk,Bool.true_and]
 obtain ⟨r,z,h1,h2⟩:=Af l [] rfl;refine ⟨z,?_⟩;have h1:loop (Oj l) (0,q)=some (r,z):=h1;simp only [Tf,XS,h1,OB,h2];rfl
def IS (n:NO) (x:SX):Bool:=decide (x.PE<64)&&(decide (1≤x.EP)&&(decide (BG n.KN x.PE=x.EP)&&!((decide (x.SS=1)||decide (x.SS=3))&&decide (x.PE<n.DK.DI.ID))))
theorem Z01 (n:NO) (hn:FewN n) (x:SX):L1 x n=some (!IS n x):=by
 simp only [L1,RM,JL,dA n hn,OB];unfold IS;by_cases h1:x.PE<64
 ·rw [DT h1,DN (show ¬64≤x.PE by omega)];by_cases h2:1≤x.EP
  ·rw [DT h2,DN (show ¬x.EP<1 by omega)];cases decide (BG n.KN x.PE=x.EP)<;>cases decide (x.SS=1)<;>cases decide (x.SS=3)<;>cases decide (x.PE<n.DK.DI.ID)<;>rfl
  ·rw [DN h2,DT (show x.EP<1 by omega)];cases decide (x.SS=1)<;>rfl
 ·rw [DN h1,DT (show 64≤x.PE by omega)];cases decide (x.SS=1)<;>rfl
def Vn (n:NO):Bool:=decide (n.DK.DI.ID<64)&&(HE (-1) n.KN&&(n.DK.DI.SD.all (IS n)&&(Gb none n.TL&&n.TL.all fun z=>decide (z∈CR n EL))))
def PM (n:NO):Bool:=n.AK.all (Fb n)&&(EB n.AK&&Vn n)
theorem YJ (n:NO) (q:SX→Bool):(CR n q).length≤n.DK.DI.SD.length:=by unfold CR;rw [List.length_map];exact List.length_filter_le _ _
theorem Z00 (n:NO) (hn:FewN n):RJ n=some (PM n):=by
 have h1:=hn.asked;have h2:=hn.known;have h3:=hn.sides;have h4:=hn.told;have h5:=YJ n EL;obtain ⟨z,hz⟩:=Z0l n.KN Om (-1);have hk:∃z,RY n (-1) (fun z=>L1 z n)=some (Vn n,z):=by
  simp only [RY,JM,hz,OB,Ue n.DK.DI.SD (fun z=>L1 z n) (fun x=>!IS n x) Om (fun x _=>Z01 n hn x),mF n.TL Om,dH n hn (fun z=>JS z) EL (fun _ _=>rfl),dw n.TL (CR n EL) Om Om];unfold Vn;have e1:n.DK.DI.SD.any (fun x=>!IS n x)=!n.DK.DI.SD.all (IS n):=LT _ _ _ fun _=>rfl;rw [e1];cases decide (n.DK.DI.ID<64) with
  | false=>exact ⟨-1,rfl⟩
  | true=>cases HE (-1) n.KN with
    | false=>exact ⟨z,rfl⟩
    | true=>cases n.DK.DI.SD.all (IS n) with
      | false=>exact ⟨z,rfl⟩
      | true=>cases Gb none n.TL with
        | false=>exact ⟨z,rfl⟩
        | true=>exact ⟨z,rfl⟩
 obtain ⟨z',hk⟩:=hk;have e2:n.AK.any (fun k=>!Fb n k)=!n.AK.all (Fb n):=LT _ _ _ fun _=>rfl;simp only [RJ,lZ n.AK (fun z=>RP z n) (fun k=>!Fb n k) Om (fun k _=>by simp only [RP,dE n hn,OB]),OB,e2,dz n.AK Om,RS,hk];unfold PM;cases n.AK.all (Fb n)<;>cases EB n.AK<;>rfl
def ni:SE:=⟨0,[],0,0⟩
theorem Z02 (n:NO):RT n=some (match n.BK.SE with | []=>(ni,false) | s::_=>(s,true)):=by
 simp only [RT,B7];cases h:n.BK.SE with
 | nil=>rfl
 | cons s l=>rw [DN (by simp;omega),A1];rfl
def Fv (n:NO):Bool:=match n.BK.SE with | []=>false | s::_=>decide (s.SS=1)
def PR (n:NO):Bool:=match n.BK.SE with | []=>false | s::_=>decide (s.NE=n.DK.NE)
def IV (n:NO) (s:SE):Bool:=!(decide (s.SS=0)&&!s.NE.all fun z=>decide (z∈CR n E4))
def Ur (n:NO):Bool:=(decide (n.DK.TH=2)==Fv n)&&((decide (n.DK.TH=0)||PR n)&&(!n.DK.NE.any (fun z=>decide (z∈CR n G2))&&n.BK.SE.all (IV n)))
theorem yV (a b:List Int) (ha:a.length≤1000000) (hb:b.length≤1000000):SY a b=some ((Bm a).filter fun z=>decide (z∈b)):=by simp only [SY];rw [mz a (fun z=>SZ z b) (fun z=>decide (z∈b)) ha (fun x _=>by simp only [SZ,IR b x hb,OB]),OB]
theorem Z0w (n:NO) (hn:FewN n):Su n=some (Ur n):=by
 have h3:=hn.sides;have h4:=hn.need;have h5:=hn.book;have h6:=YJ n G2;have h7:=YJ n E4;have hc:Ob n.BK.SE (fun z=>Sv z n)=some (n.BK.SE.any fun s=>!IV n s):=zb _ _ _ Om fun s hs=>by have:=hn.needs s hs;simp only [Sv,Sw,zr n hn,OB,dw s.NE (CR n E4) Om Om];unfold IV;cases decide (s.SS=0)<;>cases (s.NE.all fun z=>decide (z∈CR n E4))<;>rfl
 have e1:(n.BK.SE.any fun s=>!IV n s)=!n.BK.SE.all (IV n):=LT _ _ _ fun _=>rfl;have j2:∀z,JT n z=some (!z&&(!n.DK.NE.any (fun z=>decide (z∈CR n G2))&&n.BK.SE.all (IV n))):=fun z=>by
  cases z with
  | true=>rfl
  | false=>
    dsimp only [JT,Sz];rw [A1,dH n hn (fun z=>Xi z) G2 (fun _ _=>rfl),OB,yV _ _ Om Om,OB,hc,e1,B7];have e2:decide (((((Bm n.DK.NE).filter fun z=>decide (z∈CR n G2)).length:Nat):Int)=0)=!n.DK.NE.any (fun z=>decide (z∈CR n G2)):=by
     have hm:=(FH n.DK.NE).2;cases ha:n.DK.NE.any (fun z=>decide (z∈CR n G2)) with
     | true=>rw [List.any_eq_true] at ha;obtain ⟨x,hx,hq⟩:=ha;refine DN fun e=>?_;have:((Bm n.DK.NE).filter fun z=>decide (z∈CR n G2))=[]:=List.length_eq_zero_iff.1 Om;have h8:x∈((Bm n.DK.NE).filter fun z=>decide (z∈CR n G2)):=List.mem_filter.2 ⟨(hm x).2 hx,hq⟩;rw [this] at h8;simp at h8
     | false=>
       rw [List.any_eq_false] at ha;refine DT ?_;have:((Bm n.DK.NE).filter fun z=>decide (z∈CR n G2))=[]:=by rw [List.filter_eq_nil_iff];intro x hx;exact ha x ((hm x).1 hx)
       rw [this];rfl
    rw [e2];cases n.DK.NE.any (fun z=>decide (z∈CR n G2)) with
    | true=>rfl
    | false=>rw [Bool.not_false,A3,OB];cases n.BK.SE.all (IV n)<;>rfl
 simp only [Su,Z02,OB,Sy,j2];unfold Ur Fv PR;cases hb:n.BK.SE with
 | nil=>simp only [A1,Bool.not_false,Bool.not_true];cases decide (n.DK.TH=2)<;>cases decide (n.DK.TH=0)<;>simp [A0]
 | cons s l=>have hs:=hn.needs s (by rw [hb];simp);simp only [A3,YU s.NE n.DK.NE Om,OB,Bool.not_true,A1];cases decide (s.SS=1)<;>cases decide (n.DK.TH=2)<;>cases decide (n.DK.TH=0)<;>cases decide (s.NE=n.DK.NE)<;>simp [A0]
def Lv (n:NO):Bool:=EJ n.DK&&(DB n.BK&&(PM n&&Ur n))
theorem YX (n:NO) (hn:FewN n):Il n=some (if Lv n then 0 else 180):=by
 have h4:=hn.need;simp only [Il,KZ,YV n.DK Om,Pb n.BK hn.bk,Z00 n hn,Z0w n hn,OB];unfold Lv;cases EJ n.DK with
 | false=>rfl
 | true=>cases DB n.BK with
   | false=>rfl
   | true=>cases PM n with
     | false=>rfl
     | true=>cases Ur n<;>rfl
def AF {α:Type} (l:List α) (Af:α→Int) (p:Int):Nat:=(l.takeWhile fun x=>decide (Af x<p)).length
theorem og {α:Type} (q:α→Bool):∀(l:List α) (k:Nat),k≤l.length→(∀i x,l[i]?=some x→i<k→q x=true)→(∀x,l[k]?=some x→q x=false)→(l.takeWhile q).length=k
 | [],k,h,_,_=>by simp at h;simp [h]
 | x::l,0,_,_,h=>by simp [h x rfl]
 | x::l,k+1,hk,h1,h2=>by rw [List.takeWhile_cons,if_pos (h1 0 x rfl Om),List.length_cons,og q l k (by simpa using hk) (fun i y hy hi=>h1 (i+1) y (by simpa using hy) Om) fun y hy=>h2 y (by simpa using hy)]
theorem fJ {α β:Type} (l:List α) (Af:α→Int) (p:Int) (body:Int×Int→Option ((Int×Int) ⊕ β)) (E:Nat→Option β) (hs:l.Pairwise fun x y=>Af x<Af y)
  (h1:∀(lo hi:Nat) x,lo<hi→hi≤l.length→l[(lo+hi) / 2]?=some x→body ((lo:Int),(hi:Int))=some (.inl (if Af x<p then ((((lo+hi) / 2+1:Nat):Int),(hi:Int)) else ((lo:Int),(((lo+hi) / 2:Nat):Int)))))
  (h2:∀lo:Nat,lo≤l.length→body ((lo:Int),(lo:Int))=(E lo).map .inr):
  ∀(n lo hi:Nat),hi-lo≤n→lo≤hi→hi≤l.length→(∀i x,l[i]?=some x→i<lo→Af x<p)→(∀i x,l[i]?=some x→hi≤i→¬Af x<p)→loop body ((lo:Int),(hi:Int))=E (AF l Af p):=by
 intro n;have stop:∀lo,lo≤l.length→(∀i x,l[i]?=some x→i<lo→Af x<p)→(∀i x,l[i]?=some x→lo≤i→¬Af x<p)→loop body ((lo:Int),(lo:Int))=E (AF l Af p):=by intro lo hl a b;have:AF l Af p=lo:=og _ l lo hl (fun i x hx hi=>DT (a i x hx hi)) fun x hx=>DN (b lo x hx (Nat.le_refl _));rw [B5,h2 lo hl,this];cases E lo<;>rfl
 have mono:∀ {i j:Nat} {x y:α},l[i]?=some x→l[j]?=some y→i<j→Af x<Af y:=by intro i j x y hx hy h8;rw [List.pairwise_iff_getElem] at hs;obtain ⟨a,rfl⟩:=List.getElem?_eq_some_iff.1 hx;obtain ⟨b,rfl⟩:=List.getElem?_eq_some_iff.1 hy;exact hs i j a b h8
 induction n with
 | zero=>
   intro lo hi hn h9 h6 a b;have:lo=hi:=by omega
   subst this;exact stop lo h6 a b
 | succ n ih=>
   intro lo hi hn h9 h6 a b;by_cases he:lo=hi
   ·subst he;exact stop lo h6 a b
   ·have hm:(lo+hi) / 2<l.length:=by omega
    obtain ⟨x,hx⟩:∃x,l[(lo+hi) / 2]?=some x:=⟨_,List.getElem?_eq_getElem hm⟩
    rw [B5,h1 lo hi x Om h6 hx];by_cases hq:Af x<p
    ·rw [if_pos hq];refine ih ((lo+hi) / 2+1) hi Om Om h6 (fun i y hy hi'=>?_) b;by_cases e:i=(lo+hi) / 2
     ·subst e;rw [hx] at hy;simp at hy;subst hy;exact hq
     ·have:=mono hy hx Om;omega
    ·rw [if_neg hq];refine ih lo ((lo+hi) / 2) Om Om Om a fun i y hy hi'=>?_;by_cases e:i=(lo+hi) / 2
     ·subst e;rw [hx] at hy;simp at hy;subst hy;exact hq
     ·have:=mono hx hy Om;omega
theorem jR {lo hi:Nat} (h:lo+hi≤4000000):wr (Int.fdiv (kw .u64 (wr ((lo:Int)+hi))) (2 ^ min (Int.toNat 1) (IntKind.bits .u64)))=(((lo+hi) / 2:Nat):Int):=by
 have e1:wr ((lo:Int)+hi)=((lo+hi:Nat):Int):=by rw [CT Om Om];omega
 have e2:kw .u64 ((lo+hi:Nat):Int)=((lo+hi:Nat):Int):=by
  show IntKind.u64.wrap _=_;have e:IntKind.u64.wrap ((lo+hi:Nat):Int)=((lo+hi:Nat):Int) % 18446744073709551616:=by simp [IntKind.wrap,IntKind.bits,IntKind.signed]
  rw [e];omega
 have e3:(2:Int) ^ min (Int.toNat 1) (IntKind.bits .u64)=2:=by decide
 rw [e1,e2,e3];have e4:Int.fdiv ((lo+hi:Nat):Int) 2=(((lo+hi) / 2:Nat):Int):=by rw [Int.fdiv_eq_ediv_of_nonneg _ Om];omega
 rw [e4,CT Om Om]
theorem yT (l:List KE) (p:Int) (hl:l.length≤1000000) (hs:l.Pairwise fun x y=>x.PE<y.PE) (hr:∀x∈l, -100000≤x.PE∧x.PE≤100000) (hp: -100000≤p∧p≤100000):
  Li l p (fun z=>Ir z.1 z.2)=some ((AF l (·.PE) p:Int),match l[AF l (·.PE) p]? with | some x=>decide (x.PE=p) | none=>false):=by
 have cmp:∀x∈l,Ir x p=some (x.PE-p):=fun x hx=>by have:=hr x hx;simp only [Ir];rw [CT Om Om]
 have fin:∀k:Nat,k≤l.length→T5 l p (fun z=>Ir z.1 z.2) (k:Int)=some ((k:Int),match l[k]? with | some x=>decide (x.PE=p) | none=>false):=fun k hk=>by
  dsimp only [T5];cases hx:l[k]? with
  | none=>
    have:l.length≤k:=by simpa using hx
    have:k=l.length:=by omega
    subst this;rw [AB,A1];rfl
  | some x=>rw [Ay hx,A3,Aj hx,OB,cmp x (List.mem_of_getElem? hx),OB];dsimp only [T6];rw [show decide (x.PE-p=0)=decide (x.PE=p) from decide_eq_decide.2 Om]
 unfold Li;rw [B7];refine fJ l (·.PE) p _ (fun k=>some ((k:Int),match l[k]? with | some x=>decide (x.PE=p) | none=>false)) hs (fun lo hi x h1 h2 hx=>?_) (fun lo h6=>?_) l.length 0 l.length Om Om Om (fun i x _ hi=>Om) (fun i x hx hi=>by have:=(List.getElem?_eq_some_iff.1 hx).1;omega)
 ·dsimp only [Xr];rw [DT (show (lo:Int)<hi by omega),A3,jR Om,Aj hx,OB,cmp x (List.mem_of_getElem? hx),OB];by_cases hq:x.PE<p
  ·rw [if_pos hq,DT (show x.PE-p<0 by omega),A3,Al Om]
  ·rw [if_neg hq,DN (show ¬x.PE-p<0 by omega),A1]
 ·dsimp only [Xr];rw [DN (show ¬(lo:Int)<lo by omega),A1,fin lo h6]
theorem yU (l:List SX) (p:Int) (hl:l.length≤1000000) (hs:l.Pairwise fun x y=>x.PE<y.PE) (hr:∀x∈l, -100000≤x.PE∧x.PE≤100000) (hp: -100000≤p∧p≤100000):
  Lj l p (fun z=>Is z.1 z.2)=some ((AF l (·.PE) p:Int),match l[AF l (·.PE) p]? with | some x=>decide (x.PE=p) | none=>false):=by
 have cmp:∀x∈l,Is x p=some (x.PE-p):=fun x hx=>by have:=hr x hx;simp only [Is];rw [CT Om Om]
 have fin:∀k:Nat,k≤l.length→T7 l p (fun z=>Is z.1 z.2) (k:Int)=some ((k:Int),match l[k]? with | some x=>decide (x.PE=p) | none=>false):=fun k hk=>by
  dsimp only [T7];cases hx:l[k]? with
  | none=>
    have:l.length≤k:=by simpa using hx
    have:k=l.length:=by omega
    subst this;rw [AB,A1];rfl
  | some x=>rw [Ay hx,A3,Aj hx,OB,cmp x (List.mem_of_getElem? hx),OB];dsimp only [T8];rw [show decide (x.PE-p=0)=decide (x.PE=p) from decide_eq_decide.2 Om]
 unfold Lj;rw [B7];refine fJ l (·.PE) p _ (fun k=>some ((k:Int),match l[k]? with | some x=>decide (x.PE=p) | none=>false)) hs (fun lo hi x h1 h2 hx=>?_) (fun lo h6=>?_) l.length 0 l.length Om Om Om (fun i x _ hi=>Om) (fun i x hx hi=>by have:=(List.getElem?_eq_some_iff.1 hx).1;omega)
 ·dsimp only [Xs];rw [DT (show (lo:Int)<hi by omega),A3,jR Om,Aj hx,OB,cmp x (List.mem_of_getElem? hx),OB];by_cases hq:x.PE<p
  ·rw [if_pos hq,DT (show x.PE-p<0 by omega),A3,Al Om]
  ·rw [if_neg hq,DN (show ¬x.PE-p<0 by omega),A1]
 ·dsimp only [Xs];rw [DN (show ¬(lo:Int)<lo by omega),A1,fin lo h6]
def D9 (S:List SX) (x:SX):List SX:=S.take (AF S (·.PE) x.PE)++x::S.drop (AF S (·.PE) x.PE)
def CZ (K:List KE) (p e:Int):List KE:=
 match K[AF K (·.PE) p]? with
 | some k=>if k.PE=p then K.set (AF K (·.PE) p) ⟨p,e⟩ else K.take (AF K (·.PE) p)++⟨p,e⟩::K.drop (AF K (·.PE) p)
 | none=>K++[⟨p,e⟩]
theorem PJ {α:Type} (l:List α) (Af:α→Int) (p:Int):AF l Af p≤l.length:=by unfold AF;exact (List.takeWhile_sublist _).length_le
theorem ig {α:Type} {b:Nat} (l:List α) (k:Nat) (v:α) (hb:b≤1000) (hk:k≤l.length) (hl:l.length≤1000000):PU b l (k:Int) [v]=some (l.take k++v::l.drop k):=by show Mi b l (k:Int) v=_;unfold Mi;have h2:(l.length+1)*b≤1000001*1000:=Nat.mul_le_mul Om hb;rw [if_pos ⟨Om,Om,Om,Om⟩,Int.toNat_natCast]
theorem j8 (K:List KE) (p e:Int) (hl:K.length≤1000000) (hs:K.Pairwise fun x y=>x.PE<y.PE) (hr:∀x∈K, -100000≤x.PE∧x.PE≤100000) (hp: -100000≤p∧p≤100000):
  ((Li K p (fun z=>Ir z.1 z.2)).bind fun x14=>A0 (!x14.2) ((On K x14.1 [⟨p,0⟩]).bind fun x15=>(A4 x15 x14.1).bind fun x17=>some (x15.set (Int.toNat x14.1) ⟨x17.PE,e⟩)) ((A4 K x14.1).bind fun x17=>some (K.set (Int.toNat x14.1) ⟨x17.PE,e⟩)))=some (CZ K p e):=by
 rw [yT K p hl hs hr hp,OB];have hc:=PJ K (·.PE) p;have h6:(K.take (AF K (·.PE) p)).length=AF K (·.PE) p:=by rw [List.length_take];omega
 have ins:∀y:KE,A4 (K.take (AF K (·.PE) p)++y::K.drop (AF K (·.PE) p)) (AF K (·.PE) p:Int)=some y:=fun y=>by have:=Jd (l:=K.take (AF K (·.PE) p)++y::K.drop (AF K (·.PE) p)) (a:=K.take (AF K (·.PE) p)) (b:=K.drop (AF K (·.PE) p)) (x:=y) rfl;rwa [h6] at this
 have st:∀y z:KE,(K.take (AF K (·.PE) p)++y::K.drop (AF K (·.PE) p)).set (AF K (·.PE) p) z=K.take (AF K (·.PE) p)++z::K.drop (AF K (·.PE) p):=fun y z=>by have:=LC (K.take (AF K (·.PE) p)) (K.drop (AF K (·.PE) p)) y z;rwa [h6,Int.toNat_natCast] at this
 have new:A0 (!false) ((On K (AF K (·.PE) p:Int) [⟨p,0⟩]).bind fun x15=>(A4 x15 (AF K (·.PE) p:Int)).bind fun x17=>some (x15.set (Int.toNat (AF K (·.PE) p:Int)) ⟨x17.PE,e⟩)) ((A4 K (AF K (·.PE) p:Int)).bind fun x17=>some (K.set (Int.toNat (AF K (·.PE) p:Int)) ⟨x17.PE,e⟩))=some (K.take (AF K (·.PE) p)++⟨p,e⟩::K.drop (AF K (·.PE) p)):=by unfold On;rw [Bool.not_false,A3,ig K _ _ Om hc hl,OB,ins,OB,Int.toNat_natCast,st]
 unfold CZ;dsimp only;cases hx:K[AF K (·.PE) p]? with
 | none=>
   rw [new];have h1:K.length≤AF K (·.PE) p:=by simpa using hx
   have h2:AF K (·.PE) p=K.length:=by omega
   rw [h2];simp
 | some k=>
   dsimp only;by_cases hq:k.PE=p
   ·rw [DT hq,if_pos hq,Bool.not_true,A1,Aj hx,OB,Int.toNat_natCast,hq]
   ·rw [DN hq,if_neg hq];exact new
structure RowK (K:List KE):Prop where
 len:K.length≤1000
 up:K.Pairwise fun x y=>x.PE<y.PE
 rng:∀x∈K, -100000≤x.PE∧x.PE≤100000
structure RowS (S:List SX):Prop where
 len:S.length≤1000
 up:S.Pairwise fun x y=>x.PE<y.PE
 rng:∀x∈S, -100000≤x.PE∧x.PE≤100000
theorem lD (S:List SX) (x:SX) (h:RowS S) (hp: -100000≤x.PE∧x.PE≤100000):
  ∃z,Lj S x.PE (fun z=>Is z.1 z.2)=some ((AF S (·.PE) x.PE:Int),z)∧TG S (AF S (·.PE) x.PE:Int) [x]=some (D9 S x):=by
 have hl:=h.len;refine ⟨_,yU S x.PE Om h.up h.rng hp,?_⟩;unfold TG;exact ig S _ _ Om (PJ _ _ _) Om
theorem Z0h (x:SX) (b c d e f:Int) (S:List SX) (N:List Int) (B:List SE) (K:List KE) (O:List Int) (A:List KE) (J:RowS S) (E:RowK K) (hp: -100000≤x.PE∧x.PE≤100000):
  NF x b c d e f S N B K O A=some (D9 S x,CZ K x.PE x.EP):=by
 obtain ⟨z,h1,h2⟩:=lD S x J hp;have h3:=j8 K x.PE x.EP (by have:=E.len;omega) E.up E.rng hp;dsimp only [NF];rw [h1,OB,h2,OB];dsimp only [WP,S6];rw [h3,OB]
theorem Z0i (x:SX) (b c d e:Int) (B:List SE) (O:List Int) (f:Int) (S:List SX) (N:List Int) (K A:List KE) (E:List ML) (V:List EV) (U:RowS S) (J:RowK K) (hp: -100000≤x.PE∧x.PE≤100000):
  Sj x b c d e B O f S N K A E V=some (D9 S x,CZ K x.PE x.EP):=by
 obtain ⟨z,h1,h2⟩:=lD S x U hp;have h3:=j8 K x.PE x.EP (by have:=J.len;omega) J.up J.rng hp;dsimp only [Sj];rw [h1,OB,h2,OB];dsimp only [WQ,S7];rw [h3,OB]
theorem ac {α:Type} (l:List α) (Af:α→Int) (p:Int):l.take (AF l Af p)=l.takeWhile (fun x=>decide (Af x<p))∧l.drop (AF l Af p)=l.dropWhile fun x=>decide (Af x<p):=by
 have h:=List.takeWhile_append_dropWhile (p:=fun x=>decide (Af x<p)) (l:=l);have g:∀(a b:List α),a++b=l→l.take a.length=a∧l.drop a.length=b:=by rintro a b rfl;simp
 exact g _ _ h
theorem bH {α:Type} {l:List α} {Af:α→Int} {p:Int} {x:α} (h:x∈l.take (AF l Af p)):Af x<p:=by
 rw [(ac l Af p).1] at h;have:∀(l:List α),x∈l.takeWhile (fun x=>decide (Af x<p))→Af x<p:=by
  intro l;induction l with
  | nil=>simp
  | cons y l ih=>
    rw [List.takeWhile_cons];split
    ·rename_i hy;intro h;rcases List.mem_cons.1 h with rfl | h
     ·simpa using hy
     ·exact ih h
    ·simp
 exact this l h
theorem aF {α:Type} {Af:α→Int} {p:Int}:∀ {l:List α} {x:α},l.Pairwise (fun x y=>Af x<Af y)→x∈l.drop (AF l Af p)→p≤Af x:=by
 intro l;induction l with
 | nil=>simp
 | cons y l ih=>
   intro x hs h;rw [(ac _ Af p).2,List.dropWhile_cons] at h;rw [List.pairwise_cons] at hs;split at h
   ·rw [←(ac l Af p).2] at h;exact ih hs.2 h
   ·rename_i hy;have hy:¬Af y<p:=by simpa using hy
    rcases List.mem_cons.1 h with rfl | h
    ·omega
    ·have:=hs.1 x h;omega
theorem cE {α:Type} (l:List α) (k:Nat) (x:α):x∈l↔x∈l.take k∨x∈l.drop k:=by
 conv=>lhs;rw [←List.take_append_drop k l]
 exact List.mem_append
theorem V7 {α:Type} {l:List α} {Af:α→Int} {p:Int} {x:α} (hs:l.Pairwise fun x y=>Af x<Af y) (hx:Af x=p) (hn:∀y∈l,Af y≠p):(l.take (AF l Af p)++x::l.drop (AF l Af p)).Pairwise fun x y=>Af x<Af y:=by
 rw [List.pairwise_append];refine ⟨hs.sublist (List.take_sublist _ _),?_,?_⟩
 ·rw [List.pairwise_cons];refine ⟨fun y hy=>?_,hs.sublist (List.drop_sublist _ _)⟩;have h1:=aF hs hy;have h2:=hn y (List.mem_of_mem_drop hy);omega
 ·intro y hy z hz;have h1:=bH hy;rcases List.mem_cons.1 hz with rfl | hz
  ·omega
  ·have h2:=aF hs hz;omega
theorem FA {S:List SX} {x y:SX}:y∈D9 S x↔y=x∨y∈S:=by
 unfold D9;rw [cE S (AF S (·.PE) x.PE) y,List.mem_append,List.mem_cons];constructor
 ·rintro (h | h | h)
  ·exact .inr (.inl h)
  ·exact .inl h
  ·exact .inr (.inr h)
 ·rintro (h | h | h)
  ·exact .inr (.inl h)
  ·exact .inl h
  ·exact .inr (.inr h)
theorem lE (S:List SX) (x:SX):(D9 S x).length=S.length+1:=by have:=PJ S (·.PE) x.PE;unfold D9;rw [List.length_append,List.length_cons,List.length_take,List.length_drop];omega
theorem RowS.put {S:List SX} {x:SX} (h:RowS S) (hl:S.length<1000) (hn:∀y∈S,y.PE≠x.PE) (hp: -100000≤x.PE∧x.PE≤100000):RowS (D9 S x):=
 ⟨by rw [lE];omega,V7 h.up rfl hn,fun y hy=>by
   rcases FA.1 hy with rfl | hy
   ·exact hp
   ·exact h.rng y hy⟩
theorem bm {K:List KE} (h:K.Pairwise fun x y=>x.PE<y.PE) (p e:Int):
  (∃k,K[AF K (·.PE) p]?=some k∧k.PE=p∧CZ K p e=K.set (AF K (·.PE) p) ⟨p,e⟩)∨(∀k∈K,k.PE≠p)∧CZ K p e=K.take (AF K (·.PE) p)++⟨p,e⟩::K.drop (AF K (·.PE) p):=by
 have hc:=PJ K (·.PE) p;unfold CZ;cases hx:K[AF K (·.PE) p]? with
 | none=>
   right;have h1:K.length≤AF K (·.PE) p:=by simpa using hx
   have h2:AF K (·.PE) p=K.length:=by omega
   refine ⟨fun k hk=>?_,by rw [h2];simp⟩;have:k∈K.take (AF K (·.PE) p):=by rw [h2,List.take_length];exact hk
   have:=bH this;omega
 | some k=>
   dsimp only;by_cases hq:k.PE=p
   ·left;exact ⟨k,rfl,hq,by rw [if_pos hq]⟩
   ·right;refine ⟨fun y hy=>?_,by rw [if_neg hq]⟩;rcases (cE K (AF K (·.PE) p) y).1 hy with hy | hy
    ·have:=bH hy;omega
    ·obtain ⟨hlt,hk⟩:=List.getElem?_eq_some_iff.1 hx;have hd:K.drop (AF K (·.PE) p)=k::K.drop (AF K (·.PE) p+1):=by rw [List.drop_eq_getElem_cons hlt,hk]
     have h6:k∈K.drop (AF K (·.PE) p):=by rw [hd];simp
     have h8:=aF h h6;have hs:(K.drop (AF K (·.PE) p)).Pairwise fun x y=>x.PE<y.PE:=h.sublist (List.drop_sublist _ _);rw [hd] at hy hs;rcases List.mem_cons.1 hy with rfl | hy
     ·exact hq
     ·have:=(List.pairwise_cons.1 hs).1 y hy;omega
theorem cB {K:List KE} (h:K.Pairwise fun x y=>x.PE<y.PE) {p e:Int} {k:KE}:k∈CZ K p e→k=⟨p,e⟩∨k∈K∧k.PE≠p:=by
 intro hk;rcases bm h p e with ⟨q,h1,h2,h3⟩ | ⟨h1,h2⟩
 ·rw [h3] at hk;rw [List.mem_iff_getElem?] at hk;obtain ⟨i,hi⟩:=hk;rw [List.getElem?_set] at hi;split at hi
  ·split at hi
   ·simp at hi;exact .inl hi.symm
   ·simp at hi
  ·rename_i hne;refine .inr ⟨List.mem_of_getElem? hi,fun e=>?_⟩;have mono:=List.pairwise_iff_getElem.1 h;obtain ⟨a,ha⟩:=List.getElem?_eq_some_iff.1 hi;obtain ⟨b,hb⟩:=List.getElem?_eq_some_iff.1 h1;rcases Nat.lt_or_gt_of_ne hne with hl | hl
   ·have:=mono _ _ b a hl;rw [ha,hb] at this;omega
   ·have:=mono _ _ a b hl;rw [ha,hb] at this;omega
 ·rw [h2] at hk;rw [List.mem_append,List.mem_cons] at hk;rcases hk with hk | hk | hk
  ·exact .inr ⟨List.mem_of_mem_take hk,h1 k (List.mem_of_mem_take hk)⟩
  ·exact .inl hk
  ·exact .inr ⟨List.mem_of_mem_drop hk,h1 k (List.mem_of_mem_drop hk)⟩
theorem wj {K:List KE} (h:K.Pairwise fun x y=>x.PE<y.PE) {p e:Int}:⟨p,e⟩∈CZ K p e∧∀k∈K,k.PE≠p→k∈CZ K p e:=by
 rcases bm h p e with ⟨q,h1,h2,h3⟩ | ⟨h1,h2⟩
 ·rw [h3];obtain ⟨b,hb⟩:=List.getElem?_eq_some_iff.1 h1;refine ⟨List.mem_iff_getElem?.2 ⟨_,by rw [List.getElem?_set_self b]⟩,fun k hk hne=>?_⟩;obtain ⟨i,hi⟩:=List.mem_iff_getElem?.1 hk;refine List.mem_iff_getElem?.2 ⟨i,?_⟩;rw [List.getElem?_set,if_neg]
  ·exact hi
  ·rintro rfl;rw [h1] at hi;simp at hi;subst hi;exact hne h2
 ·rw [h2];refine ⟨by simp,fun k hk _=>?_⟩;rw [List.mem_append,List.mem_cons];rcases (cE K (AF K (·.PE) p) k).1 hk with h | h
  ·exact .inl h
  ·exact .inr (.inr h)
theorem Vh {K:List KE} (h:K.Pairwise fun x y=>x.PE<y.PE) (p e:Int):(CZ K p e).Pairwise fun x y=>x.PE<y.PE:=by
 rcases bm h p e with ⟨q,h1,h2,h3⟩ | ⟨h1,h2⟩
 ·rw [h3];rw [List.pairwise_iff_getElem] at h ⊢;intro i j hi hj h6;obtain ⟨b,hb⟩:=List.getElem?_eq_some_iff.1 h1;have get:∀(k:Nat) (hk:k<(K.set (AF K (·.PE) p) ⟨p,e⟩).length),(K.set (AF K (·.PE) p) ⟨p,e⟩)[k].PE=(K[k]'(by simpa using hk)).PE:=by
   intro k hk;rw [List.getElem_set];split
   ·rename_i e;subst e;rw [hb];exact h2.symm
   ·rfl
  rw [get,get];exact h i j _ _ h6
 ·rw [h2];exact V7 h rfl h1
theorem iZ (K:List KE) (p e:Int):(CZ K p e).length≤K.length+1:=by
 have hc:=PJ K (·.PE) p;unfold CZ;split
 ·split
  ·simp
  ·rw [List.length_append,List.length_cons,List.length_take,List.length_drop];omega
 ·simp
theorem RowK.know {K:List KE} {p e:Int} (h:RowK K) (hl:K.length<1000) (hp: -100000≤p∧p≤100000):RowK (CZ K p e):=
 ⟨by have:=iZ K p e;omega,Vh h.up p e,fun k hk=>by
   rcases cB h.up hk with rfl | ⟨hk,_⟩
   ·exact hp
   ·exact h.rng k hk⟩
theorem M9 {K:List KE} (h:K.Pairwise fun x y=>x.PE<y.PE) {k:KE} (hk:k∈K):BG K k.PE=k.EP:=by
 unfold BG;have:K.find? (fun q=>decide (q.PE=k.PE))=some k:=by
  induction K with
  | nil=>simp at hk
  | cons y K ih=>
    rw [List.pairwise_cons] at h;rw [List.find?_cons];rcases List.mem_cons.1 hk with rfl | hk
    ·simp
    ·have:=h.1 k hk;rw [DN Om];exact ih h.2 hk
 rw [this]
theorem UT {K:List KE} {p:Int} (h:∀k∈K,k.PE≠p):BG K p=0:=by
 unfold BG;have:K.find? (fun q=>decide (q.PE=p))=none:=by rw [List.find?_eq_none];intro k hk;simpa using h k hk
 rw [this]
theorem UU {K:List KE} (h:K.Pairwise fun x y=>x.PE<y.PE) (p e q:Int):BG (CZ K p e) q=if q=p then e else BG K q:=by
 have hp:=Vh h p e;have hm:=wj h (p:=p) (e:=e);split
 ·rename_i hq;subst hq;exact M9 hp hm.1
 ·rename_i hq;by_cases hx:∃k∈K,k.PE=q
  ·obtain ⟨k,hk,rfl⟩:=hx;rw [M9 hp (hm.2 k hk hq),M9 h hk]
  ·have hx:∀k∈K,k.PE≠q:=fun k hk e=>hx ⟨k,hk,e⟩;rw [UT hx,UT];intro k hk;rcases cB h hk with rfl | ⟨hk,_⟩
   ·exact fun e=>hq e.symm
   ·exact hx k hk
def D7 (k:KE):SX:=⟨k.PE,k.EP,0,false,false,true,false,true⟩
theorem YZ (x:SX) (k a b c d:Int) (B:List SE) (O:List Int) (f:Int) (S:List SX) (N:List Int) (K A:List KE) (E:List ML) (V:List EV) (J:E.length≤1000000):
  JQ x k a b c d B O f S N K A E V=some (E++[⟨a,x.PE,⟨k,x.EP,0⟩⟩]):=by
 simp only [JQ];rw [B0 _ _ Om (by simp;omega),OB]
theorem zZ (k p a b c d:Int) (B:List SE) (O:List Int) (f:Int) (S:List SX) (N:List Int) (K A:List KE) (E:List ML) (V:List EV) (J:V.length≤1000000):
  S4 k p a b c d B O f S N K A E V=some (V++[⟨k,a,0,p,[]⟩]):=by
 simp only [S4];rw [B0 _ _ Om (by simp;omega),OB]
theorem Z0q (k i a b c d:Int) (B:List SE) (O:List Int) (f:Int) (S:List SX) (N:List Int) (K A:List KE) (E:List ML) (V:List EV) (J:V.length≤1000000):
  Sk k i a b c d B O f S N K A E V=some (V++[⟨k,a,i,0,[]⟩]):=by
 simp only [Sk];rw [B0 _ _ Om (by simp;omega),OB]
def CW (S:List SX) (A:List KE):List SX:=A.foldl (fun S k=>D9 S (D7 k)) S
def DG (K:List KE) (A:List KE):List KE:=A.foldl (fun K k=>CZ K k.PE k.EP) K
def Eo (id:Int) (A:List KE):List ML:=A.map fun k=>⟨id,k.PE,⟨6,k.EP,0⟩⟩
def H4 (id:Int) (A:List KE):List EV:=A.map fun k=>⟨6,id,0,k.PE,[]⟩
structure AskOK (S:List SX) (A:List KE):Prop where
 rng:∀k∈A, -100000≤k.PE∧k.PE≤100000
 new:∀k∈A,∀x∈S,x.PE≠k.PE
 dis:(A.map (·.PE)).Nodup
theorem fv (S:List SX) (A:List KE) (k:KE):CW S (A++[k])=D9 (CW S A) (D7 k):=by simp [CW]
theorem fu (K:List KE) (A:List KE) (k:KE):DG K (A++[k])=CZ (DG K A) k.PE k.EP:=by simp [DG]
theorem UD {S:List SX}:∀ {A:List KE} {x:SX},x∈CW S A↔x∈S∨∃k∈A,x=D7 k:=by
 intro A;have:∀(A:List KE) (S:List SX) (x:SX),x∈CW S A↔x∈S∨∃k∈A,x=D7 k:=by
  intro A;induction A with
  | nil=>intro S x;simp [CW]
  | cons k A ih=>
    intro S x;show x∈CW (D9 S (D7 k)) A↔_;rw [ih,FA];constructor
    ·rintro ((h | h) | ⟨q,h1,h2⟩)
     ·exact .inr ⟨k,by simp,h⟩
     ·exact .inl h
     ·exact .inr ⟨q,by simp [h1],h2⟩
    ·rintro (h | ⟨q,h1,h2⟩)
     ·exact .inl (.inr h)
     ·rcases List.mem_cons.1 h1 with rfl | h1
      ·exact .inl (.inl h2)
      ·exact .inr ⟨q,h1,h2⟩
 exact fun {x}=>this A S x
theorem AskOK.mid {S:List SX} {A pre post:List KE} {k:KE} (h:AskOK S A) (e:A=pre++k::post):∀y∈CW S pre,y.PE≠k.PE:=by
 intro y hy;rcases UD.1 hy with hy | ⟨q,h1,rfl⟩
 ·exact h.new k (by rw [e];simp) y hy
 ·have hd:=h.dis;rw [e,List.map_append,List.map_cons,List.nodup_append] at hd;exact hd.2.2 q.PE (List.mem_map.2 ⟨q,h1,rfl⟩) k.PE (by simp)
theorem fw {S:List SX} {K A:List KE} (U:RowS S) (J:RowK K) (E:AskOK S A) (h8:S.length+A.length≤1000) (h9:K.length+A.length≤1000):∀(post pre:List KE),A=pre++post→RowS (CW S pre)∧RowK (DG K pre)∧(CW S pre).length=S.length+pre.length∧(DG K pre).length≤K.length+pre.length:=by
 intro post;have:∀(n:Nat) (pre:List KE),pre.length=n→(∃post,A=pre++post)→RowS (CW S pre)∧RowK (DG K pre)∧(CW S pre).length=S.length+pre.length∧(DG K pre).length≤K.length+pre.length:=by
  intro n;induction n with
  | zero=>intro pre h _;have:pre=[]:=List.length_eq_zero_iff.1 h;subst this;exact ⟨U,J,rfl,Nat.le_refl _⟩
  | succ n ih=>
    intro pre h ⟨post,e⟩;rcases List.eq_nil_or_concat pre with rfl | ⟨q,k,rfl⟩
    ·simp at h
    ·rw [List.concat_eq_append] at *;have hq:q.length=n:=by rw [AN] at h;omega
     obtain ⟨i1,i2,i3,i4⟩:=ih q hq ⟨k::post,by rw [e];simp⟩;have hk:k∈A:=by rw [e];simp
     have h6:q.length+1≤A.length:=by rw [e,List.length_append,AN];omega
     have hr:=E.rng k hk;rw [fv,fu,AN];refine ⟨i1.put Om (E.mid (k:=k) (post:=post) (by rw [e];simp)) hr,i2.know Om hr,by rw [lE];omega,?_⟩;have:=iZ (DG K q) k.PE k.EP;omega
 exact fun pre e=>this pre.length pre rfl ⟨post,e⟩
theorem zK (a b c d:Int) (B:List SE) (O:List Int) (f:Int) (S:List SX) (N:List Int) (K A:List KE) (E:List ML) (V:List EV) (Y:RowS S) (U:RowK K) (J:AskOK S A) (h6:S.length+A.length≤1000) (h8:K.length+A.length≤1000) (Z:E.length≤900000) (hV:V.length≤900000):
  RZ a b c d B O f S N K A E V=some (CW S A,DG K A,E++Eo a A,V++H4 a A):=by
 unfold RZ;have e0:((0:Int),S,K,E,V)=((([]:List KE).length:Int),CW S [],DG K [],E++Eo a [],V++H4 a []):=by simp [CW,DG,Eo,H4]
 rw [e0];refine CK A _ (fun pre=>((pre.length:Int),CW S pre,DG K pre,E++Eo a pre,V++H4 a pre)) _ (fun pre k post h=>?_) ?_
 ·have hx:=Br h;have hm:=Bp h;obtain ⟨r1,r2,r3,r4⟩:=fw Y U J h6 h8 (k::post) pre h;have hr:=J.rng k (Dt h);dsimp only [WO];rw [Ay hx,A3,Aj hx,OB];have e1:(⟨k.PE,k.EP,0,false,false,true,false,true⟩:SX)=D7 k:=rfl;rw [e1,Z0i (D7 k) a b c d B O f _ N _ A _ _ r1 r2 hr,OB,YZ _ _ _ _ _ _ _ _ _ _ _ _ _ _ _ (by rw [List.length_append,Eo,List.length_map];omega),OB,zZ _ _ _ _ _ _ _ _ _ _ _ _ _ _ _ (by rw [List.length_append,H4,List.length_map];omega),OB,Al Om,AN,fv,fu];simp [Eo,H4,D7]
 ·dsimp only [WO];rw [AB,A1];rfl
def Cw (T:List Int) (x:SX):Bool:=EL x&&!decide (x.PE∈T)
def Ca (id:Int):List SX→List Int→List ML→List Int×List ML
 | [],T,E=>(T,E)
 | x::l,T,E=>if Cw T x then Ca id l (Bm (T++[x.PE])) (E++[⟨id,x.PE,⟨5,x.EP,0⟩⟩]) else Ca id l T E
theorem Z0u (a b c d:Int) (B:List SE) (O:List Int) (f:Int) (S:List SX) (N:List Int) (K A:List KE) (E:List ML) (V:List EV) (Y:S.length≤1000) (U:O.length≤1000) (J:E.length≤900000):
  Sp a b c d B O f S N K A E V=some (Ca a S O E):=by
 unfold Sp;have Af:∀(post pre:List SX) (T:List Int) (E:List ML),S=pre++post→T.length≤1000+pre.length→E.length≤900000+pre.length→loop (NJ a b c d B f S N K A V) ((pre.length:Int),T,E)=some (Ca a post T E):=by
  intro post;induction post with
  | nil=>
    intro pre T E h _ _;have h:pre=S:=by simpa using h.symm
    subst h;rw [B5];dsimp only [NJ];rw [AB,A1];rfl
  | cons x post ih=>
    intro pre T E h hT J;have hx:=Br h;have hm:=Bp h;have h6:O3 T x.PE=some (Bm (T++[x.PE])):=yQ T x.PE Om;have h8:(Bm (T++[x.PE])).length≤T.length+1:=by have:=Za (T++[x.PE]);simpa using this
    have j3:∀(T:List Int) (E:List ML),NI (pre.length:Int) (T,E)=some (.inl (((pre++[x]).length:Int),T,E)):=fun T E=>by dsimp only [NI];rw [Al Om,AN]
    have j2:∀z,Lc a b c d B f S N K A V (pre.length:Int) T E x z=if z then some (.inl (((pre++[x]).length:Int),Bm (T++[x.PE]),E++[⟨a,x.PE,⟨5,x.EP,0⟩⟩])) else some (.inl (((pre++[x]).length:Int),T,E)):=fun z=>by
     cases z with
     | false=>dsimp only [Lc];rw [A1,j3];rfl
     | true=>dsimp only [Lc];rw [A3,YZ _ _ _ _ _ _ _ _ _ _ _ _ _ _ _ Om,OB,h6,OB,j3];rfl
    have step:NJ a b c d B f S N K A V ((pre.length:Int),T,E)=if Cw T x then some (.inl (((pre++[x]).length:Int),Bm (T++[x.PE]),E++[⟨a,x.PE,⟨5,x.EP,0⟩⟩])) else some (.inl (((pre++[x]).length:Int),T,E)):=by
     dsimp only [NJ];rw [Ay hx,A3,Aj hx,OB];simp only [JS,OB,IR T x.PE Om,j2];unfold Cw EL;cases decide (x.SS=1) with
     | false=>rfl
     | true=>cases decide (x.PE∈T)<;>rfl
    rw [B5,step];unfold Ca;cases hu:Cw T x with
    | true=>rw [if_pos rfl,if_pos rfl];exact ih (pre++[x]) _ _ (by simpa using h) (by rw [AN];omega) (by rw [AN,AN];omega)
    | false=>rw [if_neg (by simp),if_neg (by simp)];exact ih (pre++[x]) T E (by simpa using h) (by rw [AN];omega) (by rw [AN];omega)
 exact Af S [] O E rfl (by simpa using U) (by simpa using J)
theorem m7 (l:List SX) (p:SX→Option Bool) (q:SX→Bool) (hl:l.length≤1000000) (hp:∀x∈l,p x=some (q x)):Oe l p=some (l.filter fun x=>!q x):=by
 simp only [Oe,Lz l p q Om hp,OB];cases hf:l.findIdx? q with
 | none=>rw [List.findIdx?_eq_none_iff] at hf;rw [show Bf none = -1 from rfl,DT rfl,A3,List.filter_eq_self.2 (fun x hx=>by rw [hf x hx];rfl)]
 | some i=>
   obtain ⟨hi,hq,hB⟩:=List.findIdx?_eq_some_iff_getElem.1 hf;rw [show Bf (some i)=(i:Int) from rfl,DN Om,A1,Al Om]
   let F:List SX→List SX:=fun pre=>pre.filter fun x=>!q x
   have hF:∀pre post,l=pre++post→(F pre).length≤pre.length:=fun pre post _=>List.length_filter_le _ _;have Af:=Q5 l (Tk p) (fun pre=>(((F pre).length:Int),(pre.length:Int),F pre++l.drop (F pre).length)) (fun _ _=>some (F l)) (fun pre x post h=>?_) ?_ (l.drop (i+1)) (l.take (i+1)) (by simp)
   ·have e1:F (l.take (i+1))=l.take i:=by
     show (l.take (i+1)).filter _=_;rw [List.take_succ_eq_append_getElem hi,List.filter_append];have a1:(l.take i).filter (fun x=>!q x)=l.take i:=by rw [List.filter_eq_self];intro x hx;obtain ⟨j,hj,rfl⟩:=List.mem_iff_getElem.1 hx;rw [List.getElem_take];have:=hB j (by simp at hj;omega);simpa using this
     have a2: [l[i]].filter (fun x=>!q x)=[]:=by simp [hq]
     rw [a1,a2,List.append_nil]
    rw [e1] at Af;have e2:(l.take i).length=i:=by simp;omega
    have e3:(l.take (i+1)).length=i+1:=by simp;omega
    rw [e2,e3,List.take_append_drop] at Af;exact Af
   ·left;refine ⟨?_,rfl⟩;have hx:=Br h;have hm:=Bp h;have h8:=hF pre (x::post) h;have h6:(F pre++l.drop (F pre).length).length=l.length:=by simp;omega
    have h9:(F pre++l.drop (F pre).length)[pre.length]?=some x:=by rw [List.getElem?_append_right h8,List.getElem?_drop,show (F pre).length+(pre.length-(F pre).length)=pre.length by omega];exact hx
    dsimp only [Tk];rw [Ay h9,A3,Aj h9,OB,hp x (Dt h),OB];have hw:F (pre++[x])=F pre++(if q x then [] else [x]):=by show (pre++[x]).filter _=_;rw [List.filter_append];congr 1;cases hC:q x<;>simp [hC]
    cases hA:q x with
    | true=>rw [Bool.not_true,A1];dsimp only [Og];rw [Al Om,hw,hA,if_pos rfl,List.append_nil,AN]
    | false=>
      rw [Bool.not_false,A3];obtain ⟨d,hd⟩:=au (fun x=>!q x) pre post x;rw [←h] at hd;have hd':l.drop (F pre).length=d::l.drop ((F pre).length+1):=hd;have hD:(F pre++l.drop (F pre).length)[(F pre).length]?=some d:=by rw [hd'];simp
      rw [Aj hD,OB];dsimp only [Og];rw [Al Om,Al Om,hw,hA,if_neg (by simp),AN,hd',Int.toNat_natCast,AN];simp
   ·dsimp only [Tk];have h8:=hF l [] (by simp);have h6:(F l++l.drop (F l).length).length=l.length:=by simp;omega
    rw [show ((l.length:Int))=((F l++l.drop (F l).length).length:Int) by rw [h6],AB,A1];dsimp only [Xx];unfold DE;rw [B7,h6,if_pos ⟨Om,Om,Om,Om⟩,OB];unfold H9;rw [h6,if_pos ⟨Om,by simp;omega⟩,OB];unfold Cj;rw [if_pos ⟨Om,Om,by simp;omega⟩,OB];simp [Int.toNat_natCast,List.append_assoc]
theorem zY (p a b c d:Int) (B:List SE) (O:List Int) (f:Int) (S:List SX) (N:List Int) (K A:List KE) (E:List ML) (V:List EV) (J:S.length≤1000):
  S2 p a b c d B O f S N K A E V=some (S.filter fun x=>!decide (x.PE=p)):=by
 simp only [S2,m7 S (fun z=>Nw z p) (fun x=>decide (x.PE=p)) Om (fun _ _=>rfl),OB]
def C0 (th:Int) (N:List Int) (x:SX):Bool:=decide (x.SS=2)&&!(decide (th=2)&&decide (x.PE∈N))
def Dp (id th:Int) (N:List Int) (x:SX):Option SX:=if C0 th N x then (if id<x.PE then some {x with SS:=3} else none) else some x
def F5 (id th:Int) (N:List Int) (x:SX):List ML:=if C0 th N x then [⟨id,x.PE,⟨if id<x.PE then 7 else 8,x.EP,0⟩⟩] else []
def AR (id th:Int) (N:List Int) (S:List SX):List SX:=S.filterMap (Dp id th N)
def BB (id th:Int) (N:List Int) (S:List SX):List ML:=S.flatMap (F5 id th N)
theorem ui (th:Int) (N:List Int) (x:SX):C0 th N {x with SS:=3}=false:=by simp [C0]
theorem bz {id th:Int} {N:List Int} {S:List SX} (h:∀x∈S,C0 th N x=false):AR id th N S=S∧BB id th N S=[]:=by
 induction S with
 | nil=>exact ⟨rfl,rfl⟩
 | cons x S ih=>
   have h1:=h x (by simp);obtain ⟨i1,i2⟩:=ih fun y hy=>h y (List.mem_cons_of_mem _ hy);refine ⟨?_,?_⟩
   ·unfold AR at i1 ⊢;rw [List.filterMap_cons,Dp,h1];simp [i1]
   ·unfold BB at i2 ⊢;rw [List.flatMap_cons,i2,F5,h1];rfl
theorem Q3 (id th:Int) (N:List Int) (a b:List SX):AR id th N (a++b)=AR id th N a++AR id th N b:=List.filterMap_append
theorem Mx (id th:Int) (N:List Int) (a b:List SX):BB id th N (a++b)=BB id th N a++BB id th N b:=by simp [BB]
theorem jk (id th:Int) (N:List Int) (S:List SX):∀x∈AR id th N S,C0 th N x=false:=by
 intro x hx;obtain ⟨y,hy,h⟩:=List.mem_filterMap.1 hx;unfold Dp at h;split at h
 ·split at h
  ·simp at h;subst h;exact ui th N y
  ·simp at h
 ·rename_i hg;simp at h;subst h;simpa using hg
theorem bw (id th:Int) (N:List Int) (S:List SX):(BB id th N S).length≤S.length:=by
 induction S with
 | nil=>simp [BB]
 | cons x S ih=>
   have:(F5 id th N x).length≤1:=by unfold F5;split<;>simp
   unfold BB at ih ⊢;rw [List.flatMap_cons,List.length_append,List.length_cons];omega
theorem ji (id th:Int) (N:List Int) (S:List SX):(AR id th N S).length≤S.length:=List.length_filterMap_le _ _
section
variable (id ph th d:Int) (B:List SE) (O:List Int) (f:Int) (N:List Int) (K A:List KE) (V:List EV)
theorem jl (S:List SX) (J:S.Pairwise fun x y=>x.PE<y.PE) (hl:S.length≤1000) (U:N.length≤100000):∀(post pre:List SX) (E:List ML),S=pre++post→(∀x∈pre,C0 th N x=true→id<x.PE)→E.length≤900000+pre.length→
  (∃q x r,post=q++x::r∧(∀y∈q,C0 th N y=true→id<y.PE)∧C0 th N x=true∧¬id<x.PE∧loop (Hs id ph th d B O f N K A V S) ((pre.length:Int),AR id th N pre++post,E)=some (.inl (AR id th N (pre++q)++r,E++BB id th N (q++[x]))))
  ∨(∀x∈post,C0 th N x=true→id<x.PE)∧loop (Hs id ph th d B O f N K A V S) ((pre.length:Int),AR id th N pre++post,E)=some (.inr (E++BB id th N post,AR id th N S)):=by
 intro post;induction post with
 | nil=>
   intro pre E h hp hE;have h:pre=S:=by simpa using h.symm
   subst h;right;refine ⟨by simp,?_⟩;rw [B5];dsimp only [Hs];rw [AB,A1];simp [WS,BB]
 | cons x post ih=>
   intro pre E h hp hE;have hx:=Br h;have hm:=Bp h;have h6:(AR id th N pre).length=pre.length:=by
    have:∀(l:List SX),(∀x∈l,C0 th N x=true→id<x.PE)→(AR id th N l).length=l.length:=by
     intro l;induction l with
     | nil=>intro _;rfl
     | cons y l ih=>
       intro hl;have i:=ih fun z hz=>hl z (List.mem_cons_of_mem _ hz);unfold AR at i ⊢;have hy:=hl y (by simp);have e:∃z,Dp id th N y=some z:=by
        unfold Dp;cases hg:C0 th N y with
        | false=>exact ⟨y,by simp⟩
        | true=>exact ⟨_,by simp [hy hg];rfl⟩
       obtain ⟨z,e⟩:=e;rw [List.filterMap_cons,e];simp only [List.length_cons,i]
    exact this pre hp
   have at1:A4 (AR id th N pre++x::post) (pre.length:Int)=some x:=by rw [←h6];exact Jd rfl
   have st1:∀z:SX,(AR id th N pre++x::post).set ((pre.length:Int)).toNat z=AR id th N pre++z::post:=fun z=>by rw [←h6];exact LC _ _ _ _
   have j2:∀(z:SX) (E:List ML),Nx (pre.length:Int) (AR id th N pre++z::post,E)=some (.inl (((pre++[x]).length:Int),AR id th N pre++z::post,E)):=fun z E=>by dsimp only [Nx];rw [Al Om,AN]
   have j3:∀z,JP id ph th d B O f N K A V (pre.length:Int) (AR id th N pre++x::post) E x z=if z then some (.inl (((pre++[x]).length:Int),AR id th N pre++x::post,E)) else if id<x.PE then some (.inl (((pre++[x]).length:Int),AR id th N pre++{x with SS:=3}::post,E++[⟨id,x.PE,⟨7,x.EP,0⟩⟩])) else some (.inr (.inl ((AR id th N pre++x::post).filter fun y=>!decide (y.PE=x.PE),E++[⟨id,x.PE,⟨8,x.EP,0⟩⟩]))):=fun z=>by
    have h8:(AR id th N pre++x::post).length≤1000:=by rw [List.length_append,h6];rw [h,List.length_append] at hl;exact hl
    cases z with
    | true=>dsimp only [JP];rw [A3,j2];rfl
    | false=>
      dsimp only [JP];rw [A1,if_neg (by simp)];by_cases hq:id<x.PE
      ·rw [DT hq,A3,if_pos hq,YZ _ _ _ _ _ _ _ _ _ _ _ _ _ _ _ Om,OB,st1,j2]
      ·rw [DN hq,A1,if_neg hq,zY _ _ _ _ _ _ _ _ _ _ _ _ _ _ h8,OB,YZ _ _ _ _ _ _ _ _ _ _ _ _ _ _ _ Om,OB];rfl
   have step:Hs id ph th d B O f N K A V S ((pre.length:Int),AR id th N pre++x::post,E)=if C0 th N x then (if id<x.PE then some (.inl (((pre++[x]).length:Int),AR id th N pre++{x with SS:=3}::post,E++[⟨id,x.PE,⟨7,x.EP,0⟩⟩])) else some (.inr (.inl ((AR id th N pre++x::post).filter fun y=>!decide (y.PE=x.PE),E++[⟨id,x.PE,⟨8,x.EP,0⟩⟩])))) else some (.inl (((pre++[x]).length:Int),AR id th N pre++x::post,E)):=by
    dsimp only [Hs];rw [Ay hx,A3,at1,OB];simp only [IR N x.PE (show N.length≤1000000 by omega),OB,j3];unfold C0;cases decide (x.SS=2) with
    | false=>rfl
    | true=>cases decide (th=2) with
      | false=>rfl
      | true=>cases decide (x.PE∈N)<;>rfl
   rw [B5,step];cases hg:C0 th N x with
   | false=>
     rw [if_neg (by simp)];have e:AR id th N (pre++[x])=AR id th N pre++[x]:=by rw [Q3];simp [AR,Dp,hg]
     have:=ih (pre++[x]) E (by simpa using h) (fun y hy=>by
      rcases List.mem_append.1 hy with hy | hy
      ·exact hp y hy
      ·simp at hy;subst hy;rw [hg];simp) (by rw [AN];omega)
     rw [e,List.append_assoc,List.singleton_append] at this;rcases this with ⟨q,y,r,h1,h2,h3,h4,h5⟩ | ⟨h1,h2⟩
     ·left;refine ⟨x::q,y,r,by rw [h1];rfl,fun z hz=>?_,h3,h4,?_⟩
      ·rcases List.mem_cons.1 hz with rfl | hz
       ·rw [hg];simp
       ·exact h2 z hz
      ·refine Eq.trans h5 ?_;have e2:BB id th N (x::q++[y])=BB id th N (q++[y]):=by show BB id th N ([x]++(q++[y]))=_;rw [Mx];simp [BB,F5,hg]
       rw [e2,List.append_assoc];rfl
     ·right;refine ⟨fun z hz=>?_,?_⟩
      ·rcases List.mem_cons.1 hz with rfl | hz
       ·rw [hg];simp
       ·exact h1 z hz
      ·refine Eq.trans h2 ?_;have e2:BB id th N (x::post)=BB id th N post:=by show BB id th N ([x]++post)=_;rw [Mx];simp [BB,F5,hg]
       rw [e2]
   | true=>
     rw [if_pos rfl];by_cases hq:id<x.PE
     ·rw [if_pos hq];have e:AR id th N (pre++[x])=AR id th N pre++[{x with SS:=3}]:=by rw [Q3];simp [AR,Dp,hg,hq]
      have:=ih (pre++[x]) (E++[⟨id,x.PE,⟨7,x.EP,0⟩⟩]) (by simpa using h) (fun y hy=>by
       rcases List.mem_append.1 hy with hy | hy
       ·exact hp y hy
       ·simp at hy;subst hy;exact fun _=>hq) (by rw [AN,AN];omega)
      rw [e,List.append_assoc,List.singleton_append] at this;have em:BB id th N [x]=[⟨id,x.PE,⟨7,x.EP,0⟩⟩]:=by simp [BB,F5,hg,hq]
      rcases this with ⟨q,y,r,h1,h2,h3,h4,h5⟩ | ⟨h1,h2⟩
      ·left;refine ⟨x::q,y,r,by rw [h1];rfl,fun z hz=>?_,h3,h4,?_⟩
       ·rcases List.mem_cons.1 hz with rfl | hz
        ·exact fun _=>hq
        ·exact h2 z hz
       ·refine Eq.trans h5 ?_;have e2:BB id th N (x::q++[y])=BB id th N [x]++BB id th N (q++[y]):=Mx id th N [x] (q++[y]);rw [e2,em,List.append_assoc,List.append_assoc];rfl
      ·right;refine ⟨fun z hz=>?_,?_⟩
       ·rcases List.mem_cons.1 hz with rfl | hz
        ·exact fun _=>hq
        ·exact h1 z hz
       ·refine Eq.trans h2 ?_;have e2:BB id th N (x::post)=BB id th N [x]++BB id th N post:=Mx id th N [x] post;rw [e2,em,List.append_assoc]
     ·rw [if_neg hq];left;refine ⟨[],x,post,rfl,by simp,hg,hq,?_⟩;rw [h] at J;rw [List.pairwise_append,List.pairwise_cons] at J;obtain ⟨_,⟨p1,_⟩,p2⟩:=J;have e1:(AR id th N pre++x::post).filter (fun y=>!decide (y.PE=x.PE))=AR id th N pre++post:=by
       rw [List.filter_append,List.filter_cons,List.filter_eq_self.2,List.filter_eq_self.2]
       ·simp
       ·intro y hy;have:=p1 y hy;simp;omega
       ·intro y hy;obtain ⟨z,hz,hy⟩:=List.mem_filterMap.1 hy;have:=p2 z hz x (by simp);have e:y.PE=z.PE:=by
         unfold Dp at hy;split at hy
         ·split at hy
          ·simp at hy;subst hy;rfl
          ·simp at hy
         ·simp at hy;subst hy;rfl
        simp;omega
      have em:BB id th N [x]=[⟨id,x.PE,⟨8,x.EP,0⟩⟩]:=by simp [BB,F5,hg,hq]
      rw [e1,List.append_nil,List.nil_append,em]
theorem Z0a (J:N.length≤100000):∀(n:Nat) (S:List SX) (E:List ML),S.length≤n→S.length≤1000→S.Pairwise (fun x y=>x.PE<y.PE)→E.length+(BB id th N S).length≤900000→
  loop (S8 id ph th d B O f N K A V) (S,E)=some (E++BB id th N S,AR id th N S):=by
 intro n;induction n with
 | zero=>
   intro S E hn _ _ _;have:S=[]:=List.length_eq_zero_iff.1 Om;subst this;rw [B5];dsimp only [S8];rcases jl id ph th d B O f N K A V [] List.Pairwise.nil (by simp) J [] [] E rfl (by simp) (by simp;omega) with ⟨q,x,r,h,_⟩ | ⟨_,h⟩
   ·have:=congrArg List.length h;simp at this
   ·have h:loop (Hs id ph th d B O f N K A V []) (0,[],E)=_:=h;rw [h]
 | succ n ih=>
   intro S E hn hl hS hE;rw [B5];dsimp only [S8];rcases jl id ph th d B O f N K A V S hS hl J S [] E rfl (by simp) (by simp;omega) with ⟨q,x,r,h1,h2,h3,h4,h5⟩ | ⟨_,h⟩
   ·have h5:loop (Hs id ph th d B O f N K A V S) (0,S,E)=_:=h5;rw [h5];dsimp only;have ql:=ji id th N q;have qm:=bw id th N (q++[x]);have h8:S.length=q.length+(r.length+1):=by rw [h1];simp
    have hx:AR id th N [x]=[]:=by simp [AR,Dp,h3,h4]
    have h6:=bz (id:=id) (jk id th N q);have hp:(AR id th N ([]++q)++r).Pairwise fun x y=>x.PE<y.PE:=by
     rw [h1,List.pairwise_append,List.pairwise_cons] at hS;obtain ⟨s1,⟨_,s2⟩,s3⟩:=hS;have Af:∀y∈AR id th N q,∃z∈q,y.PE=z.PE:=by
      intro y hy;obtain ⟨z,hz,hy⟩:=List.mem_filterMap.1 hy;refine ⟨z,hz,?_⟩;unfold Dp at hy;split at hy
      ·split at hy
       ·simp at hy;subst hy;rfl
       ·simp at hy
      ·simp at hy;subst hy;rfl
     rw [List.nil_append,List.pairwise_append];refine ⟨?_,s2,fun y hy z hz=>?_⟩
     ·unfold AR;rw [List.pairwise_filterMap];refine s1.imp fun {a b} hab y hy z hz=>?_;have e:∀ {a y:SX},Dp id th N a=some y→y.PE=a.PE:=by
       intro a y hy;unfold Dp at hy;split at hy
       ·split at hy
        ·simp at hy;subst hy;rfl
        ·simp at hy
       ·simp at hy;subst hy;rfl
      rw [e hy,e hz];exact hab
     ·obtain ⟨w,hw,e⟩:=Af y hy;rw [e];exact s3 w hw z (List.mem_cons_of_mem _ hz)
    have e3:BB id th N (q++x::r)=BB id th N (q++[x])++BB id th N r:=by rw [←Mx];simp
    have e4:AR id th N (q++x::r)=AR id th N q++AR id th N r:=by rw [show q++x::r=q++([x]++r) from rfl,Q3,Q3,hx];rfl
    have e5:BB id th N (AR id th N q++r)=BB id th N r:=by rw [Mx id th N (AR id th N q) r,h6.2];rfl
    have e6:AR id th N (AR id th N q++r)=AR id th N q++AR id th N r:=by rw [Q3 id th N (AR id th N q) r,h6.1]
    rw [h1,e3,List.length_append] at hE;rw [List.nil_append] at hp ⊢;rw [ih _ _ (by rw [List.length_append];omega) (by rw [List.length_append];omega) hp (by rw [List.length_append,e5];omega)];rw [e5,e6,h1,e3,e4,List.append_assoc]
   ·have h:loop (Hs id ph th d B O f N K A V S) (0,S,E)=_:=h;rw [h]
end
end NX
end Go.Proofs.YtjemlejoladlcaaGreat
/-
  Plain laws: what a node does once. No statement of the seat is proved here.
-/
namespace Go.Proofs.YtjemlejoladlcaaGreat
namespace NX
open Go
def AM (n:NO):NO:=if n.DK.DI.PH=2 then n else ⟨⟨⟨n.DK.DI.ID,n.DK.DI.PH,CW n.DK.DI.SD n.AK⟩,n.DK.TH,n.DK.NE⟩,n.BK,DG n.KN n.AK,n.TL,[]⟩
def DH (n:NO):List ML:=if n.DK.DI.PH=2 then [] else Eo n.DK.DI.ID n.AK
def Kg (n:NO):List EV:=if n.DK.DI.PH=2 then [] else H4 n.DK.DI.ID n.AK
def Cx (n:NO):Option SE:=match n.BK.SE with | []=>none | s::_=>if s.SS=0 then some s else none
def CM (n:NO):DK:=match Cx n with | some s=>if n.DK.TH=0 then ⟨n.DK.DI,1,s.NE⟩ else n.DK | none=>n.DK
def BF (n:NO):NO:=⟨CM n,n.BK,n.KN,n.TL,n.AK⟩
def Fw (n:NO):Int:=if decide (n.DK.DI.PH=0)&&n.DK.DI.SD.any (Cw n.TL) then 1 else n.DK.DI.PH
def BA (n:NO):NO:=⟨⟨⟨n.DK.DI.ID,Fw n,n.DK.DI.SD⟩,n.DK.TH,n.DK.NE⟩,n.BK,n.KN,n.TL,n.AK⟩
def BC (n:NO):NO:=⟨(Bo n.DK).1,n.BK,n.KN,n.TL,n.AK⟩
def FX (n:NO):BK:=match n.BK.SE with | []=>n.BK | s::l=>if s.SS=0 then (if n.DK.TH=2 then ⟨n.BK.LA,⟨s.ID,s.NE,1,s.Age⟩::l⟩ else n.BK) else n.BK
def AG (n:NO):NO:=⟨n.DK,FX n,n.KN,n.TL,n.AK⟩
def DX (n:NO):List EV:=match Cx n with | some s=>if n.DK.TH=2 then [⟨1,n.DK.DI.ID,s.ID,0,[]⟩] else [] | none=>[]
def Cv (n:NO):List Int×List ML:=if n.DK.DI.PH=2 then Ca n.DK.DI.ID n.DK.DI.SD n.TL [] else (n.TL,[])
def BT (n:NO):NO:=⟨n.DK,n.BK,n.KN,(Cv n).1,n.AK⟩
def Dn (n:NO):NO:=⟨⟨⟨n.DK.DI.ID,n.DK.DI.PH,AR n.DK.DI.ID n.DK.TH n.DK.NE n.DK.DI.SD⟩,n.DK.TH,n.DK.NE⟩,n.BK,n.KN,n.TL,n.AK⟩
def E3 (n:NO):List ML:=BB n.DK.DI.ID n.DK.TH n.DK.NE n.DK.DI.SD
def Bx (n:NO):NO:=BA (BF (AM n))
def AS (n:NO):NO:=BC (Bx n)
def onceN (n:NO):NO:=Dn (BT (AG (AS n)))
def Dg (n:NO):List ML:=DH n++((Bo (Bx n).DK).2++((Cv (AG (AS n))).2++E3 (BT (AG (AS n)))))
def EK (n:NO):List EV:=Kg n++DX (AS n)
def GZ (n:NO) (E:List ML) (V:List EV):Int×Int×Int×Int×List SE×List Int×List KE×List EV×List KE×List Int×List ML×List SX:=(n.DK.DI.ID,n.DK.DI.PH,n.DK.TH,n.BK.LA,n.BK.SE,n.TL,n.KN,V,n.AK,n.DK.NE,E,n.DK.DI.SD)
def FM (d:DK) (N:List Int) (M:List ML):Int×Int×Int×Int×List SX×List Int×List ML:=(d.DI.ID,d.DI.PH,d.TH,0,d.DI.SD,N,M)
theorem Uq (id:Int):∀(l:List SX) (T:List Int) (E:List ML),Ca id l T E=((Ca id l T []).1,E++(Ca id l T []).2)
 | [],T,E=>by simp [Ca]
 | x::l,T,E=>by
   unfold Ca;split
   ·rw [Uq id l _ (E++_),Uq id l _ ([]++_)];simp
   ·exact Uq id l T E
theorem Zm (id:Int):∀(l:List SX) (T:List Int) (E:List ML),(Ca id l T E).1.length≤T.length+l.length∧(Ca id l T E).2.length≤E.length+l.length
 | [],T,E=>by simp [Ca]
 | x::l,T,E=>by
   unfold Ca;split
   ·have:=Zm id l (Bm (T++[x.PE])) (E++[⟨id,x.PE,⟨5,x.EP,0⟩⟩]);have h2:=Za (T++[x.PE]);simp only [List.length_append,List.length_cons,List.length_nil] at this h2 ⊢;omega
   ·have:=Zm id l T E;simp only [List.length_cons];omega
section
variable (f:Int)
theorem l9 (m:NO) (J E:List ML) (V:List EV) (U:m.DK.DI.SD.length≤1000) (hs:m.DK.DI.SD.Pairwise fun x y=>x.PE<y.PE) (hO:m.TL.length≤1000) (Z:m.DK.NE.length≤100000) (Y:E.length≤800000):
  L7 m.TL f m.KN m.AK (FM m.DK m.DK.NE J) E (m.BK.LA,m.BK.SE,V)=some (GZ (Dn (BT m)) (E++((Cv m).2++E3 (BT m))) V):=by
 have h1:=Zm m.DK.DI.ID m.DK.DI.SD m.TL [];have h2:=bw m.DK.DI.ID m.DK.TH m.DK.NE m.DK.DI.SD;have j10:∀(T:List Int) (E:List ML),E.length≤890000→NA f m.KN m.AK (FM m.DK m.DK.NE J) m.BK.LA m.BK.SE V (T,E)=some (GZ (Dn ⟨m.DK,m.BK,m.KN,T,m.AK⟩) (E++E3 m) V):=fun T E Y=>by dsimp only [NA,FM,WR];rw [Z0a m.DK.DI.ID m.DK.DI.PH m.DK.TH m.BK.LA m.BK.SE T f m.DK.NE m.KN m.AK V Z _ m.DK.DI.SD E (Nat.le_refl _) U hs Om,OB];rfl
 dsimp only [L7];unfold BT Cv;by_cases hp:m.DK.DI.PH=2
 ·rw [show decide ((FM m.DK m.DK.NE J).2.1=2)=true from DT hp,A3,if_pos hp];dsimp only [FM];rw [Z0u _ _ _ _ _ _ _ _ _ _ _ _ _ U hO Om,OB];have:=j10 (Ca m.DK.DI.ID m.DK.DI.SD m.TL []).1 (E++(Ca m.DK.DI.ID m.DK.DI.SD m.TL []).2) (by rw [List.length_append];simp only [List.length_nil] at h1;omega);rw [Uq];dsimp only;refine Eq.trans this ?_;rw [List.append_assoc];rfl
 ·rw [show decide ((FM m.DK m.DK.NE J).2.1=2)=false from DN hp,A1,if_neg hp];rw [j10 m.TL E Om];rfl
def CQ (n:NO):SE×Bool:=match n.BK.SE with | []=>(ni,false) | s::_=>(s,true)
theorem xy (m:NO) (J E:List ML) (V:List EV) (hB:F1 m.BK) (hk:DB m.BK=true) (hS:m.DK.DI.SD.length≤1000) (hs:m.DK.DI.SD.Pairwise fun x y=>x.PE<y.PE) (Z:m.TL.length≤1000) (Y:m.DK.NE.length≤100000) (U:E.length≤800000) (hV:V.length≤800000):
  Si m.BK.LA m.BK.SE m.TL f m.KN V m.AK (CQ m) (FM m.DK m.DK.NE J) E=some (GZ (Dn (BT (AG m))) (E++((Cv (AG m)).2++E3 (BT (AG m)))) (V++DX m)):=by
 have no:FX m=m.BK→DX m=[]→L7 m.TL f m.KN m.AK (FM m.DK m.DK.NE J) E (m.BK.LA,m.BK.SE,V)=some (GZ (Dn (BT (AG m))) (E++((Cv (AG m)).2++E3 (BT (AG m)))) (V++DX m)):=fun e1 e2=>by
  have e:AG m=m:=by unfold AG;rw [e1]
  rw [e,e2,List.append_nil];exact l9 f m J E V hS hs Z Y U
 dsimp only [Si,ND];simp only [A1];unfold CQ;cases hb:m.BK.SE with
 | nil=>rw [A1,←hb];exact no (by unfold FX;rw [hb]) (by unfold DX Cx;rw [hb])
 | cons s l=>
   rw [A3];by_cases h0:s.SS=0
   ·rw [DT h0,A3];by_cases h2:m.DK.TH=2
    ·rw [show decide ((FM m.DK m.DK.NE J).2.2.1=2)=true from DT h2,A3,←hb,zk m.BK hB,OB];have eg:V5 m.BK=(⟨m.BK.LA,⟨s.ID,s.NE,1,s.Age⟩::l⟩,s.ID,0):=by unfold V5;rw [hk,if_pos rfl,hb];dsimp only;rw [if_neg Om]
     have e1:AG m=⟨m.DK,⟨m.BK.LA,⟨s.ID,s.NE,1,s.Age⟩::l⟩,m.KN,m.TL,m.AK⟩:=by unfold AG FX;rw [hb];dsimp only;rw [if_pos h0,if_pos h2]
     have e2:DX m=[⟨1,m.DK.DI.ID,s.ID,0,[]⟩]:=by unfold DX Cx;rw [hb];dsimp only;rw [if_pos h0];dsimp only;rw [if_pos h2]
     rw [eg];dsimp only [WT,FM];rw [Z0q _ _ _ _ _ _ _ _ _ _ _ _ _ _ _ Om,OB,e1,e2];have:=l9 f ⟨m.DK,⟨m.BK.LA,⟨s.ID,s.NE,1,s.Age⟩::l⟩,m.KN,m.TL,m.AK⟩ J E (V++[⟨1,m.DK.DI.ID,s.ID,0,[]⟩]) hS hs Z Y U;rw [hb];exact this
    ·rw [show decide ((FM m.DK m.DK.NE J).2.2.1=2)=false from DN h2,A1,←hb];exact no (by unfold FX;rw [hb];dsimp only;rw [if_pos h0,if_neg h2]) (by unfold DX Cx;rw [hb];dsimp only;rw [if_pos h0];dsimp only;rw [if_neg h2])
   ·rw [DN h0,A1,←hb];exact no (by unfold FX;rw [hb];dsimp only;rw [if_neg h0]) (by unfold DX Cx;rw [hb];dsimp only;rw [if_neg h0])
theorem Z0x (x:SX) (n:node_node) (h:n.NO.TL.length≤1000):Sf x n=some (Cw n.NO.TL x):=by simp only [Sf,JS,OB,IR n.NO.TL x.PE Om,Sg];unfold Cw EL;cases decide (x.SS=1)<;>rfl
theorem gy (n:Nat):∀(d:DK) (out:List ML),((BZ n d out).1.DI.SD.map (·.PE))=d.DI.SD.map (·.PE)∧(BZ n d out).1.DI.ID=d.DI.ID:=by
 induction n with
 | zero=>intro d out;exact ⟨rfl,rfl⟩
 | succ n ih=>
   intro d out;unfold BZ;split
   ·exact ⟨rfl,rfl⟩
   ·obtain ⟨i1,i2⟩:=ih (Aw d) (out++Cq d);refine ⟨i1.trans ?_,i2⟩;show (Gc d).map _=_;unfold Gc;rw [List.map_map];have e:((fun x:SX=>x.PE)∘fun x=>C2 (Ch d x) d.TH x)=fun x:SX=>x.PE:=by funext x;exact (Ki _ _ _).1
    rw [e,Hd,List.map_map];show d.DI.SD.map _=_;congr 1;funext x;exact (Mb _ x).1
theorem tg (d:DK):(Bo d).1.DI.SD.map (·.PE)=d.DI.SD.map (·.PE)∧(Bo d).1.DI.ID=d.DI.ID∧(Bo d).1.NE=d.NE:=⟨(gy 300 d []).1,(gy 300 d []).2,gD 300 d []⟩
theorem P0 {S S':List SX} (h:S'.map (·.PE)=S.map (·.PE)) (hs:S.Pairwise fun x y=>x.PE<y.PE):S'.Pairwise fun x y=>x.PE<y.PE:=by have h1:(S.map (·.PE)).Pairwise (· < ·):=List.pairwise_map.2 hs;rw [←h] at h1;exact List.pairwise_map.1 h1
theorem gE:∀(n:Nat) (d:DK) (out:List ML),(BZ n d out).2.length+bits (BZ n d out).1.DI.SD=out.length+bits d.DI.SD
 | 0,_,_=>rfl
 | n+1,d,out=>by
   unfold BZ;split
   ·rfl
   ·have h1:=gE n (Aw d) (out++Cq d);have h2:=d5 d;rw [List.length_append] at h1;omega
theorem gx {d:DK} (h:EJ d=true):(Bo d).2.length≤256:=by have h1:=gE 300 d [];have h2:=ZV d.DI.SD;have h3:=GT (OU h);simp only [List.length_nil] at h1;unfold Bo;omega
theorem xv (m:NO) (x20:SE×Bool) (h6:x20=CQ m) (E:List ML) (V:List EV) (J:EJ (BA m).DK=true) (Y:F1 m.BK) (hk:DB m.BK=true) (hs:m.DK.DI.SD.Pairwise fun x y=>x.PE<y.PE) (U:m.TL.length≤1000) (Z:m.DK.NE.length≤100000) (hE:E.length≤700000) (hV:V.length≤800000):
  L6 m.DK.DI.ID m.DK.DI.PH m.BK.LA m.BK.SE m.TL f m.DK.DI.SD m.KN E V m.AK x20 (m.DK.TH,m.DK.NE) =
   some (GZ (Dn (BT (AG (BC (BA m))))) (E++((Bo (BA m).DK).2++((Cv (AG (BC (BA m)))).2++E3 (BT (AG (BC (BA m))))))) (V++DX (BC (BA m)))):=by
 subst h6;have hl:=GT (OU J);have hl:m.DK.DI.SD.length<64:=hl;have hq:=tg (BA m).DK;have h8:(Bo (BA m).DK).1.DI.SD.length=m.DK.DI.SD.length:=by have:=congrArg List.length hq.1;rw [List.length_map,List.length_map] at this;exact this
 have ho:=gx J;have h9:Bo (BA m).DK=Bo ⟨⟨m.DK.DI.ID,Fw m,m.DK.DI.SD⟩,m.DK.TH,m.DK.NE⟩:=rfl;have j5:∀z,z=Fw m→NC m.DK.DI.ID m.BK.LA m.BK.SE m.TL f m.DK.DI.SD m.KN E V m.AK (CQ m) m.DK.TH m.DK.NE z=some (GZ (Dn (BT (AG (BC (BA m))))) (E++((Bo (BA m).DK).2++((Cv (AG (BC (BA m)))).2++E3 (BT (AG (BC (BA m))))))) (V++DX (BC (BA m)))):=fun z hz=>by subst hz;dsimp only [NC];have hf:=zW (BA m).DK J (by show m.DK.NE.length≤1000000;omega);have hf':N5 m.DK.DI.ID (Fw m) m.DK.TH m.DK.DI.SD m.DK.NE=some (FM (Bo (BA m).DK).1 m.DK.NE (Bo (BA m).DK).2):=hf;rw [hf',OB];rw [show (FM (Bo (BA m).DK).1 m.DK.NE (Bo (BA m).DK).2).2.2.2.2.2.2=(Bo (BA m).DK).2 from rfl,B0 _ _ Om Om,OB];have hn:(BC (BA m)).DK.NE=m.DK.NE:=hq.2.2;have:=xy f (BC (BA m)) (Bo (BA m).DK).2 (E++(Bo (BA m).DK).2) V Y hk (by show (Bo (BA m).DK).1.DI.SD.length≤1000;omega) (P0 hq.1 hs) U (by rw [hn];exact Z) (by rw [List.length_append];omega) hV;rw [hn,List.append_assoc] at this;exact this
 dsimp only [L6,Sh];rw [A1,Ue m.DK.DI.SD _ (Cw m.TL) Om (fun x _=>Z0x x _ U),OB];unfold Fw at j5;by_cases h0:m.DK.DI.PH=0
 ·rw [DT h0] at j5 ⊢;rw [A3];cases hu:m.DK.DI.SD.any (Cw m.TL) with
  | true=>rw [hu] at j5;exact j5 1 rfl
  | false=>rw [hu] at j5;exact j5 _ rfl
 ·rw [DN h0] at j5 ⊢;exact j5 _ rfl
theorem Z05 (a b c d:Int) (B:BK) (O:List Int) (S:List SX) (N:List Int) (K A:List KE) (n:NO) (h:n.BK=B):RX a b c d B.SE O S N K A=some (CQ n):=by
 subst h;simp only [RX,B7];unfold CQ;cases h:n.BK.SE with
 | nil=>rfl
 | cons s l=>rw [DN (by simp;omega),A1];rfl
theorem lf (m:NO) (E:List ML) (V:List EV) (hd:EJ (BA (BF m)).DK=true) (U:F1 m.BK) (hk:DB m.BK=true) (hs:m.DK.DI.SD.Pairwise fun x y=>x.PE<y.PE) (Z:m.TL.length≤1000) (J:m.DK.NE.length≤100000) (h9:∀s∈m.BK.SE,s.NE.length≤100000) (Y:E.length≤700000) (hV:V.length≤800000):
  Nz m.DK.DI.ID m.DK.DI.PH m.DK.TH m.BK.LA m.BK.SE m.TL f m.DK.NE (m.DK.DI.SD,m.KN,E,V,m.AK) =
   some (GZ (Dn (BT (AG (BC (BA (BF m)))))) (E++((Bo (BA (BF m)).DK).2++((Cv (AG (BC (BA (BF m))))).2++E3 (BT (AG (BC (BA (BF m)))))))) (V++DX (BC (BA (BF m))))):=by
 have h6:(BF m).DK.DI=m.DK.DI:=by
  show (CM m).DI=_;unfold CM;split
  ·split<;>rfl
  ·rfl
 have h8:(BF m).DK.NE.length≤100000:=by
  show (CM m).NE.length≤_;unfold CM;split
  ·rename_i s hw;split
   ·unfold Cx at hw;split at hw
    ·simp at hw
    ·rename_i s' l hb;split at hw
     ·simp at hw;subst hw;exact h9 _ (by rw [hb];simp)
     ·simp at hw
   ·exact J
  ·exact J
 have Af:=xv f (BF m) (CQ m) rfl E V hd U hk (by rw [h6];exact hs) Z h8 Y hV;rw [h6] at Af;have fin:∀(p:Int×List Int),p=((BF m).DK.TH,(BF m).DK.NE)→L6 m.DK.DI.ID m.DK.DI.PH m.BK.LA m.BK.SE m.TL f m.DK.DI.SD m.KN E V m.AK (CQ m) p=some (GZ (Dn (BT (AG (BC (BA (BF m)))))) (E++((Bo (BA (BF m)).DK).2++((Cv (AG (BC (BA (BF m))))).2++E3 (BT (AG (BC (BA (BF m)))))))) (V++DX (BC (BA (BF m))))):=fun p hp=>by rw [hp];exact Af
 dsimp only [Nz,NB];rw [Z05 _ _ _ _ m.BK _ _ _ _ _ m rfl,OB];simp only [A1];have noT:Cx m=none→(m.DK.TH,m.DK.NE)=((BF m).DK.TH,(BF m).DK.NE):=fun h=>by
  show _=((CM m).TH,(CM m).NE)
  unfold CM;rw [h]
 cases hb:m.BK.SE with
 | nil=>
   have e:(CQ m).2=false:=by unfold CQ;rw [hb]
   rw [e,A1,←hb];exact fin _ (noT (by unfold Cx;rw [hb]))
 | cons s l=>
   have e:CQ m=(s,true):=by unfold CQ;rw [hb]
   rw [←hb];rw [show (CQ m).2=true by rw [e],A3,show (CQ m).1=s by rw [e]];by_cases h0:s.SS=0
   ·have hw:Cx m=some s:=by unfold Cx;rw [hb];dsimp only;rw [if_pos h0]
    rw [DT h0,A3];by_cases h1:m.DK.TH=0
    ·rw [DT h1,A3,EN s.NE (by have:=h9 s (by rw [hb];simp);omega),OB];refine fin _ ?_;show _=((CM m).TH,(CM m).NE)
     unfold CM;rw [hw];dsimp only;rw [if_pos h1]
    ·rw [DN h1,A1];refine fin _ ?_;show _=((CM m).TH,(CM m).NE)
     unfold CM;rw [hw];dsimp only;rw [if_neg h1]
   ·rw [DN h0,A1];exact fin _ (noT (by unfold Cx;rw [hb];dsimp only;rw [if_neg h0]))
structure GoN (n:NO):Prop where
 rowS:RowS n.DK.DI.SD
 rowK:RowK n.KN
 ask:AskOK n.DK.DI.SD n.AK
 lenS:n.DK.DI.SD.length+n.AK.length≤1000
 lenK:n.KN.length+n.AK.length≤1000
 dr:EJ (Bx n).DK=true
 bk:F1 n.BK
 ok:DB n.BK=true
 told:n.TL.length≤1000
 need:n.DK.NE.length≤100000
 needs:∀s∈n.BK.SE,s.NE.length≤100000
theorem Z0f (n:NO) (h:GoN n) (E:List ML) (V:List EV) (J:E.length≤600000) (U:V.length≤600000):
  Ny n.DK.DI.ID n.DK.DI.PH n.DK.TH n.BK.LA n.BK.SE n.TL f n.DK.DI.SD n.DK.NE n.KN n.AK E V=some (GZ (onceN n) (E++Dg n) (V++EK n)):=by
 have hd:=h.dr;have hr:=(fw h.rowS h.rowK h.ask h.lenS h.lenK [] n.AK (by simp)).1;have hA:=h.lenS;dsimp only [Ny];unfold onceN Dg EK AS Bx DH Kg;unfold Bx at hd;by_cases hp:n.DK.DI.PH=2
 ·have e:AM n=n:=by unfold AM;rw [if_pos hp]
  rw [e] at hd ⊢;rw [DT hp,Bool.not_true,A1,if_pos hp,if_pos hp];have:=lf f n E V hd h.bk h.ok h.rowS.up h.told h.need h.needs Om Om;simpa using this
 ·have e:AM n=⟨⟨⟨n.DK.DI.ID,n.DK.DI.PH,CW n.DK.DI.SD n.AK⟩,n.DK.TH,n.DK.NE⟩,n.BK,DG n.KN n.AK,n.TL,[]⟩:=by unfold AM;rw [if_neg hp]
  rw [DN hp,Bool.not_false,A3,if_neg hp,if_neg hp];rw [zK _ _ _ _ _ _ _ _ _ _ _ _ _ h.rowS h.rowK h.ask h.lenS h.lenK Om Om,OB];rw [e] at hd ⊢;have:=lf f ⟨⟨⟨n.DK.DI.ID,n.DK.DI.PH,CW n.DK.DI.SD n.AK⟩,n.DK.TH,n.DK.NE⟩,n.BK,DG n.KN n.AK,n.TL,[]⟩ (E++Eo n.DK.DI.ID n.AK) (V++H4 n.DK.DI.ID n.AK) hd h.bk h.ok hr.up h.told h.need h.needs (by rw [List.length_append,Eo,List.length_map];omega) (by rw [List.length_append,H4,List.length_map];omega);dsimp only at this ⊢;rw [List.append_assoc,List.append_assoc] at this;exact this
end
end NX
end Go.Proofs.YtjemlejoladlcaaGreat
