/-
  Plain laws: loops of models over lists and ranges. No statement of the seat is proved here.
-/
import Derived.Test.YtgnjledocpbchaaGreatM11
namespace Go.Proofs.YtgnjledocpbchaaGreat
namespace NX
open Go
theorem OB {α β:Type} (a:α) (f:α→Option β):(some a).bind f=f a:=rfl
theorem DN {p:Prop} [Decidable p] (h:¬p):decide p=false:=decide_eq_false h
theorem DT {p:Prop} [Decidable p] (h:p):decide p=true:=decide_eq_true h
@[simp] theorem Ag {α:Type} (a b:Option α):A0 true a b=a:=rfl
@[simp] theorem Aa {α:Type} (a b:Option α):A0 false a b=b:=rfl
theorem Je {α:Type} (e:Bool) (a b:Option α):A0 (!e) a b=A0 e b a:=by cases e<;>rfl
theorem D4 {n:Int} (h1: -9223372036854775808≤n) (h2:n≤9223372036854775807):wr n=n:=IntWalk.i64_in n ⟨h1,h2⟩
theorem Ar {α:Type} {l:List α} {k:Nat} {x:α} (h:l[k]?=some x):Ac l (k:Int)=some x:=by unfold Ac;rw [if_pos (Int.natCast_nonneg k)];simpa using h
theorem Z7 {α:Type} {l:List α} {i:Int} (h0:0≤i) (h:i<l.length):∃x,Ac l i=some x∧l[i.toNat]?=some x:=by
 have hlt:i.toNat<l.length:=by omega
 exact ⟨l[i.toNat],by unfold Ac;rw [if_pos h0,List.getElem?_eq_getElem hlt],List.getElem?_eq_getElem hlt⟩
theorem B5 {α:Type} {b:Nat} (l m:List α) (hb:b≤1000) (h:l.length+m.length≤100000000):AD b l m=some (l++m):=by unfold AD;rw [if_pos];exact ⟨by have h1:(l.length+m.length)*b≤100000000*1000:=Nat.mul_le_mul h hb;omega,Om⟩
theorem AQ {α:Type} {f:α→List AV} {l:List α} {k:Nat} {x:α} (h:l[k]?=some x):decide ((k:Int)<ln f l)=true:=by have:=(List.getElem?_eq_some_iff.1 h).1;rw [AX];simp;omega
theorem AT {α:Type} {f:α→List AV} {l:List α}:decide ((l.length:Int)<ln f l)=false:=by rw [AX];simp
theorem AC {k:Nat} (h:k≤4000000000000000000):wr ((k:Int)+1)=((k+1:Nat):Int):=D4 Om Om
theorem EA {α:Type} {l:List α} {k:Nat} {x:α} (h:l[k]?=some x) (hl:l.length≤4000000000000000000):wr ((k:Int)+1)=((k+1:Nat):Int):=by have:=(List.getElem?_eq_some_iff.1 h).1;exact AC Om
def I5 {σ β:Type} (f:Nat→σ→Option (σ ⊕ β)) (E:σ→Option β):Nat→Nat→σ→Option β
 | 0,_,s=>E s
 | m+1,k,s=>match f k s with
   | none=>none
   | some (.inl s')=>I5 f E m (k+1) s'
   | some (.inr r)=>some r
theorem ZV {σ β τ:Type} (body:τ→Option (τ ⊕ β)) (mk:Int→σ→τ) (f:Nat→σ→Option (σ ⊕ β)) (E:σ→Option β) (n:Nat) (hn:n≤4000000000000000000)
  (hb:∀(k:Nat) s,k<n→body (mk k s)=(f k s).map (fun | .inl s'=>.inl (mk (k+1:Nat) s') | .inr r=>.inr r)) (he:∀s,body (mk n s)=(E s).map .inr):
  ∀(m k:Nat) (s:σ),m+k=n→loop body (mk k s)=I5 f E m k s
 | 0,k,s,h=>by
   have:k=n:=by omega
   subst this;rw [Bn,he];cases hf:E s<;>simp [I5,hf]
 | m+1,k,s,h=>by
   rw [Bn,hb k s Om];simp only [I5];cases hf:f k s with
   | none=>rfl
   | some y=>
     cases y with
     | inl s'=>exact ZV body mk f E n hn hb he m (k+1) s' Om
     | inr r=>rfl
def Mb {α σ β:Type} (f:α→σ→Option (σ ⊕ β)) (E:σ→Option β):List α→σ→Option β
 | [],s=>E s
 | x::l,s=>match f x s with
   | none=>none
   | some (.inl s')=>Mb f E l s'
   | some (.inr r)=>some r
theorem fk {α σ β:Type} (f:α→σ→Option (σ ⊕ β)) (E:σ→Option β) (l:List α):∀(r:List α) (k:Nat) (s:σ),l.drop k=r→I5 (fun k s=>(l[k]?).bind fun x=>f x s) E r.length k s=Mb f E r s
 | [],k,s,_=>rfl
 | x::r,k,s,h=>by
   have hx:l[k]?=some x:=by have:=congrArg (·[0]?) h;simpa using this
   have hr:l.drop (k+1)=r:=by rw [←List.drop_drop,h];rfl
   simp only [List.length_cons,I5,Mb,hx,OB];cases hf:f x s with
   | none=>rfl
   | some y=>
     cases y with
     | inl s'=>exact fk f E l r (k+1) s' hr
     | inr r=>rfl
theorem t6 {α σ β τ:Type} (l:List α) (body:τ→Option (τ ⊕ β)) (mk:Int→σ→τ) (f:α→σ→Option (σ ⊕ β)) (E:σ→Option β) (hl:l.length≤4000000000000000000)
  (hb:∀(k:Nat) x s,l[k]?=some x→body (mk k s)=(f x s).map (fun | .inl s'=>.inl (mk (k+1:Nat) s') | .inr r=>.inr r)) (he:∀s,body (mk l.length s)=(E s).map .inr) (s:σ):
  loop body (mk 0 s)=Mb f E l s:=by
 have:=ZV body mk (fun k s=>(l[k]?).bind fun x=>f x s) E l.length hl (fun k s hk=>by have hx:l[k]?=some l[k]:=List.getElem?_eq_getElem hk;rw [hx,OB];exact hb k _ s hx) he l.length 0 s Om;rw [show ((0:Nat):Int)=0 from rfl] at this;rw [this];exact fk f E l l 0 s rfl
theorem qP {α β:Type} (f:α→Option (Unit ⊕ β)) (q:α→Bool) (g:α→β) (E:Option β) (l:List α) (hf:∀x∈l,f x=if q x then some (.inr (g x)) else some (.inl ())):
  Mb (fun x _=>f x) (fun _=>E) l ()=match l.find? q with | some x=>some (g x) | none=>E:=by
 induction l with
 | nil=>rfl
 | cons x l ih=>
   simp only [Mb,hf x (by simp),List.find?_cons];cases hq:q x with
   | true=>simp
   | false=>simp only [Bool.false_eq_true,if_false];exact ih fun y hy=>hf y (List.mem_cons_of_mem _ hy)
def Br:Option Nat→Int
 | some i=>i
 | none=> -1
theorem Lv (o:Option Nat):decide (0≤Br o)=o.isSome:=by cases o<;>simp [Br]
theorem jA (o:Option Nat):decide (Br o<0)=o.isNone:=by
 cases o with
 | none=>rfl
 | some n=>exact DN (by show ¬((n:Int)<0);omega)
theorem fm {α:Type} (l:List α) (q:α→Bool):∀(r:List α) (k:Nat),l.drop k=r→
  I5 (β:=Int) (fun k (_:Unit)=>(l[k]?).bind fun x=>if q x then some (.inr (k:Int)) else some (.inl ())) (fun _=>some (-1)) r.length k ()=some (Br ((r.findIdx? q).map (· + k)))
 | [],k,_=>by simp [I5,Br]
 | x::r,k,h=>by
   have hx:l[k]?=some x:=by have:=congrArg (·[0]?) h;simpa using this
   have hr:l.drop (k+1)=r:=by rw [←List.drop_drop,h];rfl
   simp only [List.length_cons,I5,hx,OB,List.findIdx?_cons];cases hq:q x with
   | true=>simp [Br]
   | false=>
     simp only [Bool.false_eq_true,if_false];rw [fm l q r (k+1) hr];cases r.findIdx? q with
     | none=>rfl
     | some n=>simp only [Option.map_some,Br];congr 2;omega
theorem Kr {α:Type} (l:List α) (body:Int→Option (Int ⊕ Int)) (q:α→Bool) (hl:l.length≤4000000000000000000)
  (hb:∀(k:Nat) x,l[k]?=some x→body k=some (if q x then .inr (k:Int) else .inl ((k+1:Nat):Int))) (he:body l.length=some (.inr (-1))):loop body 0=some (Br (l.findIdx? q)):=by
 have:=ZV body (fun k (_:Unit)=>k) (fun k _=>(l[k]?).bind fun x=>if q x then some (.inr (k:Int)) else some (.inl ())) (fun _=>some (-1)) l.length hl (fun k s hk=>by have hx:l[k]?=some l[k]:=List.getElem?_eq_getElem hk;rw [hx,OB,hb k _ hx];cases q l[k]<;>rfl) (fun _=>he) l.length 0 () Om;rw [show ((0:Nat):Int)=0 from rfl] at this;rw [this,fm l q l 0 rfl];simp
theorem Kl {α:Type} (l:List α) (q:α→Bool):(l.findIdx? q).isSome=l.any q:=by rw [List.findIdx?_isSome]
theorem sZ {α β:Type} (l:List α) (body:Int→Option (Int ⊕ β)) (q:α→Bool) (E no:β) (hl:l.length≤4000000000000000000)
  (hb:∀(k:Nat) x,l[k]?=some x→body k=some (if q x then .inr E else .inl ((k+1:Nat):Int))) (he:body l.length=some (.inr no)):loop body 0=some (if l.any q then E else no):=by
 have:=t6 l body (fun k (_:Unit)=>k) (fun x _=>if q x then some (.inr E) else some (.inl ())) (fun _=>some no) hl (fun k x s hx=>by rw [hb k x hx];cases q x<;>rfl) (fun _=>he) ();rw [this,qP (fun x=>if q x then some (.inr E) else some (.inl ())) q (fun _=>E) (some no) l (fun x _=>rfl)];cases h:l.find? q with
 | none=>
   rw [List.find?_eq_none] at h;have:l.any q=false:=by rw [List.any_eq_false];exact h
   simp [this]
 | some x=>
   have:l.any q=true:=by rw [List.any_eq_true];exact ⟨x,List.mem_of_find?_eq_some h,List.find?_some h⟩
   simp [this]
theorem PM {α τ β:Type} (l:List α) (body:τ→Option (τ ⊕ β)) (st:List α→τ) (R:List α→List α→Option β)
  (hb:∀pre x post,l=pre++x::post→(body (st pre)=some (.inl (st (pre++[x])))∧R pre (x::post)=R (pre++[x]) post)∨∃r,body (st pre)=some (.inr r)∧R pre (x::post)=some r)
  (he:body (st l)=(R l []).map .inr):∀post pre,l=pre++post→loop body (st pre)=R pre post
 | [],pre,h=>by
   have:pre=l:=by simpa using h.symm
   subst this;rw [Bn,he];cases R pre []<;>rfl
 | x::post,pre,h=>by
   rw [Bn];rcases hb pre x post h with ⟨h1,h2⟩ | ⟨r,h1,h2⟩
   ·rw [h1,h2];exact PM l body st R hb he post (pre++[x]) (by simpa using h)
   ·rw [h1,h2]
theorem Jj {α τ β:Type} (l:List α) (body:τ→Option (τ ⊕ β)) (st:List α→τ) (R:List α→List α→Option β)
 (hb:∀pre x post,l=pre++x::post→(body (st pre)=some (.inl (st (pre++[x])))∧R pre (x::post)=R (pre++[x]) post)∨∃r,body (st pre)=some (.inr r)∧R pre (x::post)=some r)
 (he:body (st l)=(R l []).map .inr):loop body (st [])=R [] l:=PM l body st R hb he l [] rfl
theorem gw {α τ β:Type} (l:List α) (body:τ→Option (τ ⊕ β)) (st:List α→τ) (R:List α→List α→Option β) (I:List α→Prop)
  (hb:∀pre x post,l=pre++x::post→I pre→(body (st pre)=some (.inl (st (pre++[x])))∧I (pre++[x])∧R pre (x::post)=R (pre++[x]) post)∨∃r,body (st pre)=some (.inr r)∧R pre (x::post)=some r)
  (he:I l→body (st l)=(R l []).map .inr):∀post pre,l=pre++post→I pre→loop body (st pre)=R pre post
 | [],pre,h,hI=>by
   have:pre=l:=by simpa using h.symm
   subst this;rw [Bn,he hI];cases R pre []<;>rfl
 | x::post,pre,h,hI=>by
   rw [Bn];rcases hb pre x post h hI with ⟨h1,h3,h2⟩ | ⟨r,h1,h2⟩
   ·rw [h1,h2];exact gw l body st R I hb he post (pre++[x]) (by simpa using h) h3
   ·rw [h1,h2]
theorem D0 {α τ β:Type} (l:List α) (body:τ→Option (τ ⊕ β)) (st:List α→τ) (r:β)
  (hb:∀pre x post,l=pre++x::post→body (st pre)=some (.inl (st (pre++[x])))) (he:body (st l)=some (.inr r)):loop body (st [])=some r:=
 Jj l body st (fun _ _=>some r) (fun pre x post h=>.inl ⟨hb pre x post h,rfl⟩) he
theorem BL {α:Type} {l pre post:List α} {x:α} (h:l=pre++x::post):l[pre.length]?=some x:=by subst h;simp
theorem BG {α:Type} {l pre post:List α} {x:α} (h:l=pre++x::post):pre.length<l.length:=by subst h;simp
theorem Di {α:Type} {l pre post:List α} {x:α} (h:l=pre++x::post):x∈l:=by subst h;simp
theorem IU {α:Type} {l a b:List α} {x:α} (h:l=a++x::b):Ac l (a.length:Int)=some x:=Ar (BL h)
theorem LC {α:Type} (a b:List α) (x y:α):(a++x::b).set ((a.length:Int)).toNat y=a++y::b:=by simp
theorem AW {α:Type} (pre:List α) (x:α):(pre++[x]).length=pre.length+1:=by simp
theorem Kq {τ β:Type} (n:Nat) (body:τ→Option (τ ⊕ β)) (st:Nat→τ) (r:β) (hb:∀k,k<n→body (st k)=some (.inl (st (k+1)))) (he:body (st n)=some (.inr r)):loop body (st 0)=some r:=by
 have Ap:∀m k,m+k=n→loop body (st k)=some r:=by
  intro m;induction m with
  | zero=>intro k hk;have:k=n:=by omega
          subst this;rw [Bn,he]
  | succ m ih=>intro k hk;rw [Bn,hb k Om];exact ih (k+1) Om
 exact Ap n 0 rfl
theorem ZU {τ β:Type} (n:Nat) (body:τ→Option (τ ⊕ β)) (st:Nat→τ) (R:Nat→Option β) (hb:∀k,k<n→(body (st k)=some (.inl (st (k+1)))∧R k=R (k+1))∨∃r,body (st k)=some (.inr r)∧R k=some r) (he:body (st n)=(R n).map .inr):loop body (st 0)=R 0:=by
 have Ap:∀m k,m+k=n→loop body (st k)=R k:=by
  intro m;induction m with
  | zero=>
    intro k hk;have:k=n:=by omega
    subst this;rw [Bn,he];cases R k<;>rfl
  | succ m ih=>
    intro k hk;rw [Bn];rcases hb k Om with ⟨h1,h2⟩ | ⟨r,h1,h2⟩
    ·rw [h1,h2];exact ih (k+1) Om
    ·rw [h1,h2]
 exact Ap n 0 rfl
theorem Mq {α:Type} (l m:List α) (body:Int→Option (Int ⊕ Bool)) (E:α→α→Bool) (h6:l.length=m.length) (hl:l.length≤4000000000000000000)
  (hb:∀(k:Nat) x y,l[k]?=some x→m[k]?=some y→body k=some (if E x y then .inl ((k+1:Nat):Int) else .inr false)) (he:body l.length=some (.inr true)):loop body 0=some ((l.zip m).all fun p=>E p.1 p.2):=by
 rw [sZ (l.zip m) body (fun p=>!E p.1 p.2) false true (by simp;omega) (fun k x hx=>by obtain ⟨x1,x2⟩:=x;rw [List.getElem?_zip_eq_some] at hx;rw [hb k x1 x2 hx.1 hx.2];cases E x1 x2<;>rfl) (by rw [show (l.zip m).length=l.length by simp [h6]];exact he)];have:∀(q:List (α×α)),(if q.any (fun p=>!E p.1 p.2) then some false else some true)=some (q.all fun p=>E p.1 p.2):=by
  intro q;induction q with
  | nil=>rfl
  | cons p q ih=>
    rw [List.any_cons,List.all_cons];cases h:E p.1 p.2 with
    | true=>exact ih
    | false=>rfl
 have h2:=this (l.zip m);rw [←h2];cases (l.zip m).any (fun p=>!E p.1 p.2)<;>rfl
theorem LK {α:Type} [DecidableEq α]:∀(l m:List α),l.length=m.length→(l.zip m).all (fun p=>decide (p.1=p.2))=decide (l=m)
 | [],[],_=>rfl
 | [],_::_,h=>by simp at h
 | _::_,[],h=>by simp at h
 | x::l,y::m,h=>by have ih:=LK l m (by simpa using h);simp only [List.zip_cons_cons,List.all_cons,ih];by_cases h1:x=y<;>simp [h1]
theorem Mo {α:Type} [DecidableEq α] {l m:List α} (h:l.length≠m.length):decide (l=m)=false:=DN (by rintro rfl;exact h rfl)
theorem Mp {α β:Type} (f:α→List AV) (g:β→List AV) (l:List α) (m:List β):decide (ln f l=ln g m)=decide (l.length=m.length):=by rw [AX,AX,decide_eq_decide];omega
theorem TK (l:List SX) (p:SX→Option Bool) (q:SX→Bool) (hl:l.length≤4000000000000000000) (hp:∀x∈l,p x=some (q x)):Iz l p=some (Br (l.findIdx? q)):=by
 unfold Iz;refine Kr l _ q hl (fun k x hx=>?_) ?_
 ·simp only [Xx,AQ hx,Ag,Ar hx,OB,hp x (List.mem_iff_getElem?.2 ⟨k,hx⟩),EA hx hl];cases q x<;>rfl
 ·simp only [Xx,AT,Aa,Xw,Option.map_some]
theorem vc (l:List KE) (p:KE→Option Bool) (q:KE→Bool) (hl:l.length≤4000000000000000000) (hp:∀x∈l,p x=some (q x)):Th l p=some (Br (l.findIdx? q)):=by
 unfold Th;refine Kr l _ q hl (fun k x hx=>?_) ?_
 ·simp only [Xo,AQ hx,Ag,Ar hx,OB,hp x (List.mem_iff_getElem?.2 ⟨k,hx⟩),EA hx hl];cases q x<;>rfl
 ·simp only [Xo,AT,Aa,Xl,Option.map_some]
theorem kq (l:List Int) (p:Int→Option Bool) (q:Int→Bool) (hl:l.length≤4000000000000000000) (hp:∀x∈l,p x=some (q x)):Oq l p=some (Br (l.findIdx? q)):=by
 unfold Oq;refine Kr l _ q hl (fun k x hx=>?_) ?_
 ·simp only [Xz,AQ hx,Ag,Ar hx,OB,hp x (List.mem_iff_getElem?.2 ⟨k,hx⟩),EA hx hl];cases q x<;>rfl
 ·simp only [Xz,AT,Aa,Xy,Option.map_some]
theorem ko (l:List SE) (p:SE→Option Bool) (q:SE→Bool) (hl:l.length≤4000000000000000000) (hp:∀x∈l,p x=some (q x)):Oo l p=some (Br (l.findIdx? q)):=by
 unfold Oo;refine Kr l _ q hl (fun k x hx=>?_) ?_
 ·simp only [Xt,AQ hx,Ag,Ar hx,OB,hp x (List.mem_iff_getElem?.2 ⟨k,hx⟩),EA hx hl];cases q x<;>rfl
 ·simp only [Xt,AT,Aa,Xs,Option.map_some]
theorem TI (l:List SX) (p:SX→Option Bool) (q:SX→Bool) (hl:l.length≤4000000000000000000) (hp:∀x∈l,p x=some (q x)):Ix l p=some (l.any q):=by unfold Ix;rw [TK l p q hl hp,OB,Lv,Kl]
theorem kb (l:List KE) (p:KE→Option Bool) (q:KE→Bool) (hl:l.length≤4000000000000000000) (hp:∀x∈l,p x=some (q x)):Og l p=some (l.any q):=by unfold Og;rw [vc l p q hl hp,OB,Lv,Kl]
theorem K1 (l:List Int) (p:Int→Option Bool) (q:Int→Bool) (hl:l.length≤4000000000000000000) (hp:∀x∈l,p x=some (q x)):Fh l p=some (l.any q):=by unfold Fh;rw [kq l p q hl hp,OB,Lv,Kl]
theorem kc (l:List SE) (p:SE→Option Bool) (q:SE→Bool) (hl:l.length≤4000000000000000000) (hp:∀x∈l,p x=some (q x)):Lg l p=some (l.any q):=by unfold Lg;rw [ko l p q hl hp,OB,Lv,Kl]
theorem d5 {k:Nat} (h:k≤4000000000000000000):wr (((k+1:Nat):Int)-1)=(k:Int):=by rw [D4 Om Om];omega
theorem nP {α:Type} (l:List α) (p:α→Bool):l.all (fun x=>!p x)=!l.any p:=by
 induction l with
 | nil=>rfl
 | cons x l ih=>simp [ih]
theorem Kf {α:Type} (l:List α) (p q:α→Bool) (h:∀x,p x=!q x):l.any p=!l.all q:=by
 induction l with
 | nil=>rfl
 | cons x l ih=>simp [ih,h]
theorem jJ {α:Type} {R:α→α→Prop} (E:∀x,¬R x x) (J:∀x y,R x y→¬R y x):∀ {l m:List α},l.Pairwise R→m.Pairwise R→(∀x,x∈l↔x∈m)→l=m
 | [],[],_,_,_=>rfl
 | [],y::m,_,_,h=>absurd ((h y).2 (by simp)) (by simp)
 | x::l,[],_,_,h=>absurd ((h x).1 (by simp)) (by simp)
 | x::l,y::m,hl,hm,h=>by
   rw [List.pairwise_cons] at hl hm;have h6:x=y:=by
    rcases List.mem_cons.1 ((h x).1 (by simp)) with e | e
    ·exact e
    ·rcases List.mem_cons.1 ((h y).2 (by simp)) with e2 | e2
     ·exact e2.symm
     ·exact absurd (hl.1 y e2) (J _ _ (hm.1 x e))
   subst h6;rw [jJ E J hl.2 hm.2 fun z=>?_];constructor
   ·intro hz;rcases List.mem_cons.1 ((h z).1 (List.mem_cons_of_mem _ hz)) with e | e
    ·subst e;exact absurd (hl.1 z hz) (E z)
    ·exact e
   ·intro hz;rcases List.mem_cons.1 ((h z).2 (List.mem_cons_of_mem _ hz)) with e | e
    ·subst e;exact absurd (hm.1 z hz) (E z)
    ·exact e
theorem ut {l:List Int} (h:l.Pairwise (· < ·)) {k:Nat} {x y:Int} (hx:l[k]?=some x) (hy:l[k+1]?=some y):x<y:=by rw [List.pairwise_iff_getElem] at h;obtain ⟨h1,rfl⟩:=List.getElem?_eq_some_iff.1 hx;obtain ⟨h2,rfl⟩:=List.getElem?_eq_some_iff.1 hy;exact h k (k+1) h1 h2 Om
theorem ez {l:List Int} (h:l.Pairwise (· < ·)):Lib.compact l=l:=by
 refine Lib.compact_all l fun j hj=>?_;cases j with
 | zero=>exact Lib.keeps_lt_one _ 0 Om
 | succ j=>have hx:l[j+1]?=some l[j+1]:=List.getElem?_eq_getElem hj;have hy:l[j]?=some l[j]:=List.getElem?_eq_getElem Om;have:=ut h hy hx;refine Lib.keeps_pos ?_;simp only [Nat.add_sub_cancel];rw [getElem!_pos _ _ (by simpa using hj),getElem!_pos _ _ (by simp;omega)];simp only [List.getElem_toArray];omega
def Bm (l:List Int):List Int:=Lib.compact (l.mergeSort fun x y=>decide (x≤y))
theorem TR (l:List Int) (hl:l.length≤1000000):Gb l=some (Bm l):=by simp only [Gb,Ct];rw [B5 _ _ Om (by simp;omega),OB,List.nil_append,DT Om,Ag];rfl
theorem wg (l:List Int) (hl:l.length≤1000000) (h:l.Pairwise (· < ·)):Gb l=some l:=by rw [TR l hl];unfold Bm;rw [List.mergeSort_of_pairwise (h.imp fun h6=>DT Om),ez h]
theorem Yn (l m:List Int) (hl:l.length≤1000000):Hv l m=some (decide (l=m)):=by
 simp only [Hv,Mp];by_cases h:l.length=m.length
 ·simp only [h,decide_true,Bool.not_true,Aa];rw [Mq l m _ (fun x y=>decide (x=y)) h Om (fun k x y hx hy=>by simp only [Wc,AQ hx,Ag,Ar hx,Ar hy,OB,EA hx (show l.length≤4000000000000000000 by omega),Je,Option.map_some];cases decide (x=y)<;>rfl) (by simp only [Wc,AT,Aa,Wa,Option.map_some]),LK l m h]
 ·simp [h,Mo h]
theorem v8 (n:Nat) (hn:n≤3000000):Te n=some []:=by
 have e0:wr (0-0)=0:=D4 Om Om;have e1:wr ((n:Int)-0)=n:=by rw [D4 Om Om];omega
 simp only [Te,Xh,Tf,e0,e1];rw [DN Om,Aa];by_cases h:0<n
 ·rw [DT Om,Ag];unfold LS;rw [if_pos ⟨Om,Om,Om⟩,OB];unfold D3;rw [if_pos ⟨Om,Om,Om⟩];simp
 ·rw [DN Om,Aa]
theorem uU (a b:List Int) (ha:a.length≤1000000) (hb:b.length≤1000000):Lf [a,b]=some (a++b):=by
 have g0:Ac [a,b] 0=some a:=rfl;have g1:Ac [a,b] (wr (0+1))=some b:=by rw [D4 Om Om];rfl
 have l0:ln (Ci 1 Am) [a,b]=2:=by rw [AX];rfl
 have w1:wr (0+1)=1:=D4 Om Om;have w2:wr (1+1)=2:=D4 Om Om;have s1:wr (0+ln Am a)=(a.length:Int):=by rw [AX,D4 Om Om];omega
 have s2:wr ((a.length:Int)+ln Am b)=((a.length+b.length:Nat):Int):=by rw [AX,D4 Om Om];omega
 unfold Lf;rw [Bn];dsimp only [SW];rw [l0,show decide ((0:Int)<2)=true from rfl,Ag,g0,OB,s1,DN Om,Aa];dsimp only [SV];rw [s1,w1,Bn];dsimp only [SW];rw [l0,show decide ((1:Int)<2)=true from rfl,Ag,←w1,g1,OB,s2,DN Om,Aa];dsimp only [SV];rw [s2,w1,w2,Bn];dsimp only [SW];rw [l0,show decide ((2:Int)<2)=false from rfl,Aa];dsimp only [WY];rw [v8 _ Om,OB];have k:loop (Od [a,b]) (0,[])=some (a++b):=by rw [Bn];dsimp only [Od];rw [l0,show decide ((0:Int)<2)=true from rfl,Ag,g0,OB,B5 _ _ Om (by simp;omega),OB,List.nil_append,w1];dsimp only;rw [Bn];dsimp only [Od];rw [l0,show decide ((1:Int)<2)=true from rfl,Ag,←w1,g1,OB,B5 _ _ Om Om,OB,w1,w2];dsimp only;rw [Bn];dsimp only [Od];rw [l0,show decide ((2:Int)<2)=false from rfl,Aa];rfl
 rw [k];rfl
theorem Yi (l:List Int) (x:Int) (hl:l.length≤1000000):Lh l x=some (decide (x∈l)):=by
 have h1:Tl l x=some (Br (l.findIdx? fun y=>decide (x=y))):=by
  unfold Tl;refine Kr l _ (fun y=>decide (x=y)) Om (fun k y hy=>?_) ?_
  ·simp only [XB,AQ hy,Ag,Ar hy,OB,EA hy (show l.length≤4000000000000000000 by omega)];cases decide (x=y)<;>rfl
  ·simp only [XB,AT,Aa,XA,Option.map_some]
 simp only [Lh,h1,OB,Lv,Kl];congr 1;rw [Bool.eq_iff_iff,List.any_eq_true,decide_eq_true_iff];constructor
 ·rintro ⟨y,hy,h⟩;have:x=y:=by simpa using h
  exact this ▸ hy
 ·intro h;exact ⟨x,h,by simp⟩
theorem Gi (l:List Int) (x:Int) (hl:l.length≤1000000):EL l x=some (decide (x∈l)):=by simp only [EL,Yi l x hl,OB]
theorem oH {E:List Int} (h:E.Pairwise (· ≤ ·)):(Lib.compact E).Pairwise (· < ·)∧∀x,x∈Lib.compact E↔x∈E:=by
 have get:∀j,j<E.length→∃hj:j<E.length,E.toArray[j]! = E[j]:=fun j hj=>⟨hj,by rw [getElem!_pos _ _ (by simpa using hj)];simp⟩
 have mono:∀i j,i≤j→j<E.length→E.toArray[i]!≤E.toArray[j]!:=fun i j h8 hj=>by
  obtain ⟨_,e1⟩:=get i Om;obtain ⟨_,e2⟩:=get j hj;rw [e1,e2];by_cases e:i=j
  ·subst e;exact Int.le_refl _
  ·rw [List.pairwise_iff_getElem] at h;exact h i j Om hj Om
 have Ap:∀m,m≤E.length→(Lib.compactUpTo E.toArray m).Pairwise (· < ·)∧(∀x,x∈Lib.compactUpTo E.toArray m↔∃j,j<m∧x=E.toArray[j]!):=by
  intro m;induction m with
  | zero=>intro _;exact ⟨by simp [Lib.compactUpTo],fun x=>by simp [Lib.compactUpTo]⟩
  | succ m ih=>
    intro hm;obtain ⟨h1,h2⟩:=ih Om;rw [Lib.compactUpTo_succ];cases hk:Lib.keeps E.toArray m with
    | true=>
      rw [if_pos rfl];refine ⟨?_,fun x=>?_⟩
      ·rw [List.pairwise_append];refine ⟨h1,by simp,fun x hx y hy=>?_⟩;rw [List.mem_singleton] at hy;subst hy;obtain ⟨j,hj,rfl⟩:=(h2 x).1 hx;unfold Lib.keeps at hk;simp only [decide_eq_true_eq] at hk;have a1:=mono j (m-1) Om Om;have a2:=mono (m-1) m Om Om;rcases hk with e | e
       ·omega
       ·have:E.toArray[m]!≠E.toArray[m-1]!:=e;omega
      ·rw [List.mem_append,h2];constructor
       ·rintro (⟨j,hj,e⟩ | e)
        ·exact ⟨j,Om,e⟩
        ·simp at e;exact ⟨m,Om,by simpa using e⟩
       ·rintro ⟨j,hj,e⟩;by_cases h6:j=m
        ·subst h6;right;simp [e]
        ·exact .inl ⟨j,Om,e⟩
    | false=>
      rw [if_neg (by simp),List.append_nil];refine ⟨h1,fun x=>?_⟩;rw [h2];constructor
      ·rintro ⟨j,hj,e⟩;exact ⟨j,Om,e⟩
      ·rintro ⟨j,hj,e⟩;by_cases h6:j=m
       ·subst h6;unfold Lib.keeps at hk;simp only [decide_eq_false_iff_not,not_or,Classical.not_not] at hk;exact ⟨j-1,Om,by rw [e,hk.2]⟩
       ·exact ⟨j,Om,e⟩
 obtain ⟨k1,k2⟩:=Ap E.length (Nat.le_refl _);refine ⟨k1,fun x=>?_⟩;have:=k2 x;unfold Lib.compact;rw [this];constructor
 ·rintro ⟨j,hj,e⟩;obtain ⟨_,e1⟩:=get j hj;rw [e,e1];exact List.getElem_mem hj
 ·intro hx;obtain ⟨j,hj,e⟩:=List.mem_iff_getElem.1 hx;obtain ⟨_,e1⟩:=get j hj;exact ⟨j,hj,by rw [e1,e]⟩
theorem DO (l:List Int):(Bm l).Pairwise (· < ·)∧∀x,x∈Bm l↔x∈l:=by
 have hs:(l.mergeSort fun x y=>decide (x≤y)).Pairwise (· ≤ ·):=by have:=List.pairwise_mergeSort (le:=fun x y:Int=>decide (x≤y)) (by intro a b c;simp;omega) (by intro a b;simp;omega) l;exact this.imp fun h=>by simpa using h
 obtain ⟨h1,h2⟩:=oH hs;refine ⟨h1,fun x=>?_⟩;unfold Bm;rw [h2];exact (List.mergeSort_perm l _).mem_iff
theorem bO:∀(l:List Int) (q n:Int),l.Pairwise (· < ·)→(∀x∈l,q≤x∧x<n)→l=[]∨(l.length:Int)≤n-q
 | [],_,_,_,_=>.inl rfl
 | x::l,q,n,h,hb=>by
   rw [List.pairwise_cons] at h;have h1:=hb x (by simp);right;rcases bO l (x+1) n h.2 (fun y hy=>⟨by have:=h.1 y hy;omega,(hb y (by simp [hy])).2⟩) with rfl | h2
   ·simp only [List.length_cons,List.length_nil];omega
   ·simp only [List.length_cons];omega
theorem ur {x y:Int} {r:List Int}:(x::y::r).Pairwise (· < ·)↔x<y∧(y::r).Pairwise (· < ·):=by
 constructor
 ·intro h;rw [List.pairwise_cons] at h;exact ⟨h.1 y (by simp),h.2⟩
 ·rintro ⟨h,k⟩;rw [List.pairwise_cons];refine ⟨fun z hz=>?_,k⟩;rw [List.pairwise_cons] at k;rcases List.mem_cons.1 hz with rfl | hz
  ·exact h
  ·have:=k.1 z hz;omega
theorem ky (l:List Int) (hl:l.length≤1000000):HE l=some (decide (l.Pairwise (· < ·))):=by
 unfold HE;have Ap:=ZU l.length (JR l) (fun k=>(k:Int)) (fun k=>some (decide ((l.drop (k-1)).Pairwise (· < ·)))) (fun k hk=>?_) ?_
 ·simpa using Ap
 ·obtain ⟨y,hy⟩:∃y,l[k]?=some y:=⟨_,List.getElem?_eq_getElem hk⟩
  dsimp only [JR];rw [AQ hy,Ag];cases k with
  | zero=>left;rw [DN Om,Aa];dsimp only [JQ];rw [Aa,AC Om];exact ⟨rfl,rfl⟩
  | succ k=>
    obtain ⟨x,hx⟩:∃x,l[k]?=some x:=⟨_,List.getElem?_eq_getElem Om⟩
    have e1:l.drop k=x::l.drop (k+1):=by obtain ⟨h1,rfl⟩:=List.getElem?_eq_some_iff.1 hx;exact List.drop_eq_getElem_cons h1
    have e2:l.drop (k+1)=y::l.drop (k+2):=by obtain ⟨h1,rfl⟩:=List.getElem?_eq_some_iff.1 hy;exact List.drop_eq_getElem_cons h1
    rw [DT Om,Ag,d5 Om,Ar hx,OB,Ar hy,OB];dsimp only [JQ];rw [show k+1-1=k from rfl,show k+1+1-1=k+1 from rfl,e1,e2,decide_eq_decide.2 (ur (x:=x) (y:=y) (r:=l.drop (k+2)))];by_cases h:y≤x
    ·right;refine ⟨false,by rw [DT h,Ag];rfl,?_⟩;rw [DN (by rintro ⟨h1,_⟩;omega)]
    ·left;refine ⟨by rw [DN h,Aa,AC Om],?_⟩;have:x<y:=by omega
     simp [this]
 ·dsimp only [JR];rw [AT,Aa];have:(l.drop (l.length-1)).Pairwise (· < ·):=by
   have h1:(l.drop (l.length-1)).length≤1:=by rw [List.length_drop];omega
   generalize l.drop (l.length-1)=q at h1
   match q,h1 with
   | [],_=>exact .nil
   | [x],_=>exact List.pairwise_singleton _ _
  rw [DT this];rfl
theorem Zq {α:Type} (f:α→Bool) (pre post:List α) (x:α):∃d,(pre++x::post).drop (pre.filter f).length=d::(pre++x::post).drop ((pre.filter f).length+1):=by
 have h1:(pre.filter f).length≤pre.length:=List.length_filter_le _ _;have h2:(pre.filter f).length<(pre++x::post).length:=by simp;omega
 exact ⟨_,List.drop_eq_getElem_cons h2⟩
theorem uW (l:List Int) (p:Int→Option Bool) (q:Int→Bool) (hl:l.length≤1000000) (hp:∀x∈l,p x=some (q x)):T6 l p=some (l.filter fun x=>!q x):=by
 simp only [T6,kq l p q Om hp,OB];cases hf:l.findIdx? q with
 | none=>rw [List.findIdx?_eq_none_iff] at hf;rw [show Br none = -1 from rfl,DT rfl,Ag,List.filter_eq_self.2 (fun x hx=>by rw [hf x hx];rfl)]
 | some i=>
   obtain ⟨hi,hq,hB⟩:=List.findIdx?_eq_some_iff_getElem.1 hf;rw [show Br (some i)=(i:Int) from rfl,DN Om,Aa,AC Om]
   let F:List Int→List Int:=fun pre=>pre.filter fun x=>!q x
   have hF:∀pre post,l=pre++post→(F pre).length≤pre.length:=fun pre post _=>List.length_filter_le _ _;have Ap:=PM l (T7 p) (fun pre=>(((F pre).length:Int),(pre.length:Int),F pre++l.drop (F pre).length)) (fun _ _=>some (F l)) (fun pre x post h=>?_) ?_ (l.drop (i+1)) (l.take (i+1)) (by simp)
   ·have e1:F (l.take (i+1))=l.take i:=by
     show (l.take (i+1)).filter _=_;rw [List.take_succ_eq_append_getElem hi,List.filter_append];have a1:(l.take i).filter (fun x=>!q x)=l.take i:=by rw [List.filter_eq_self];intro x hx;obtain ⟨j,hj,rfl⟩:=List.mem_iff_getElem.1 hx;rw [List.getElem_take];have:=hB j (by simp at hj;omega);simpa using this
     have a2: [l[i]].filter (fun x=>!q x)=[]:=by simp [hq]
     rw [a1,a2,List.append_nil]
    rw [e1] at Ap;have e2:(l.take i).length=i:=by simp;omega
    have e3:(l.take (i+1)).length=i+1:=by simp;omega
    rw [e2,e3,List.take_append_drop] at Ap;exact Ap
   ·left;refine ⟨?_,rfl⟩;have hx:=BL h;have hm:=BG h;have h8:=hF pre (x::post) h;have h6:(F pre++l.drop (F pre).length).length=l.length:=by simp;omega
    have h9:(F pre++l.drop (F pre).length)[pre.length]?=some x:=by rw [List.getElem?_append_right h8,List.getElem?_drop,show (F pre).length+(pre.length-(F pre).length)=pre.length by omega];exact hx
    dsimp only [T7];rw [AQ h9,Ag,Ar h9,OB,hp x (Di h),OB];have hw:F (pre++[x])=F pre++(if q x then [] else [x]):=by show (pre++[x]).filter _=_;rw [List.filter_append];congr 1;cases hC:q x<;>simp [hC]
    cases hA:q x with
    | true=>rw [Bool.not_true,Aa];dsimp only [Ok];rw [AC Om,hw,hA,if_pos rfl,List.append_nil,AW]
    | false=>
      rw [Bool.not_false,Ag];obtain ⟨d,hd⟩:=Zq (fun x=>!q x) pre post x;rw [←h] at hd;have hd':l.drop (F pre).length=d::l.drop ((F pre).length+1):=hd;have hD:(F pre++l.drop (F pre).length)[(F pre).length]?=some d:=by rw [hd'];simp
      rw [Ar hD,OB];dsimp only [Ok];rw [AC Om,AC Om,hw,hA,if_neg (by simp),AW,hd',Int.toNat_natCast,AW];simp
   ·dsimp only [T7];have h8:=hF l [] (by simp);have h6:(F l++l.drop (F l).length).length=l.length:=by simp;omega
    rw [show ((l.length:Int))=((F l++l.drop (F l).length).length:Int) by rw [h6],AT,Aa];dsimp only [X3];unfold DQ;rw [AX,h6,if_pos ⟨Om,Om,Om,Om⟩,OB];unfold He;rw [h6,if_pos ⟨Om,by simp;omega⟩,OB];unfold D3;rw [if_pos ⟨Om,Om,by simp;omega⟩,OB];simp [Int.toNat_natCast,List.append_assoc]
theorem TT (l:List Int):(Bm l).length≤l.length:=by have:=Lib.compact_length_le (l.mergeSort fun x y=>decide (x≤y));rw [List.length_mergeSort] at this;exact this
theorem wP {l:List Int} (h:l.Pairwise (· < ·)):Bm l=l:=by unfold Bm;rw [List.mergeSort_of_pairwise (h.imp fun h6=>DT Om),ez h]
theorem kH (l:List Int) (p:Int→Option Bool) (q:Int→Bool) (hl:l.length≤1000000) (hp:∀x∈l,p x=some (q x)):Ob l p=some ((Bm l).filter q):=by have h1:=TT l;simp only [Ob,TR l hl,OB];rw [uW (Bm l) _ (fun x=>!q x) Om (fun x hx=>by simp only [SL,hp x (((DO l).2 x).1 hx),OB]),OB];simp
theorem kt (a b:List Int) (ha:a.length≤1000000) (hb:b.length≤1000000):O9 a b=some ((Bm a).filter fun z=>!decide (z∈b)):=by simp only [O9];rw [kH a _ (fun z=>!decide (z∈b)) ha (fun x _=>by simp only [SK,Gi b x hb,OB]),OB]
theorem OV (a b:List Int) (ha:a.length≤1000000) (hb:b.length≤1000000):HF a b=some (a.all fun z=>decide (z∈b)):=by
 simp only [HF,kt a b ha hb,OB,AX];congr 1;rw [Bool.eq_iff_iff,decide_eq_true_eq,List.all_eq_true];have:((((Bm a).filter fun z=>!decide (z∈b)).length:Nat):Int)=0↔((Bm a).filter fun z=>!decide (z∈b))=[]:=by rw [←List.length_eq_zero_iff];omega
 rw [this,List.filter_eq_nil_iff];constructor
 ·intro h x hx;have:=h x (((DO a).2 x).2 hx);simpa using this
 ·intro h x hx;have:=h x (((DO a).2 x).1 hx);simpa using this
theorem kd (l:List Int) (x:Int) (hl:l.length≤1000000):O8 l x=some ((Bm l).filter fun z=>!decide (z∈ [x])):=by simp only [O8,kt l [x] hl (by simp),OB]
theorem k9 (l:List Int) (x:Int) (hl:l.length≤900000):La l x=some (Bm (l++[x])):=by simp only [La,Oa,uU l [x] Om (by simp),OB,TR (l++[x]) (by simp;omega)]
def C9:BK:=⟨0,[]⟩
def FF (n:List Int):Bool:=decide (n.length≤64)&&n.all (fun p=>decide (0≤p))
def K4 (last top:Int) (first:Bool) (s:SE):Bool:=decide (last<s.ID)&&(decide (s.ID≤top)&&(FF s.NE&&(decide (s.NE.Pairwise (· < ·))&&(decide (0≤s.Age)&&((decide (s.SS=1)&&first)||(decide (s.SS=0)&&decide (s.Age=0)))))))
def HR (top:Int):Int→Bool→List SE→Bool
 | _,_,[]=>true
 | last,first,s::l=>K4 last top first s&&HR top s.ID false l
def Cw (b:BK):Bool:=decide (0≤b.LA)&&(decide (b.SE.length≤8)&&HR b.LA 0 true b.SE)
def DF (b:BK):Prop:=b.SE.length≤1000000∧∀s∈b.SE,s.NE.length≤1000000
theorem kM (n:List Int) (hn:n.length≤1000000):O6 n=some (!FF n):=by
 simp only [O6,SI,AX,FF];rw [K1 n _ (fun z=>decide (z<0)) Om (fun x _=>by simp only [SH])];have:n.any (fun z=>decide (z<0))=!n.all (fun p=>decide (0≤p)):=Kf _ _ _ fun x=>by rw [Bool.eq_iff_iff];simp
 rw [this];by_cases h:n.length≤64
 ·rw [DN Om,DT h];rfl
 ·rw [DT Om,DN h];rfl
def G4 (pre:List SE):Int:=match pre.getLast? with | some s=>s.ID | none=>0
theorem s5 (pre:List SE) (s:SE):G4 (pre++[s])=s.ID:=by simp [G4]
theorem uR (b:BK) (last i:Int) (s:SE) (g:Bool) (hn:s.NE.length≤1000000):Ir b last i s g =
  if decide (last<s.ID)&&(decide (s.ID≤b.LA)&&(FF s.NE&&(decide (s.NE.Pairwise (· < ·))&&(decide (0≤s.Age)&&(g||(decide (s.SS=0)&&decide (s.Age=0))))))) then some (.inl (s.ID,wr (i+1))) else some (.inr 170):=by
 have e4:∀z,Is i s g z=if !z&&(g||(decide (s.SS=0)&&decide (s.Age=0))) then some (.inl (s.ID,wr (i+1))) else some (.inr 170):=fun z=>by
  simp only [Is,NV];cases z
  ·cases g
   ·by_cases h1:s.SS=0
    ·by_cases h2:s.Age=0<;>simp [h1,h2]
    ·simp [h1]
   ·simp
  ·simp
 simp only [Ir,kM s.NE hn,ky s.NE hn,OB,e4];by_cases h1:s.ID≤last
 ·rw [DT h1,Ag,DN (show ¬last<s.ID by omega)];simp
 ·rw [DN h1,Aa,DT (show last<s.ID by omega),Bool.true_and];by_cases h2:b.LA<s.ID
  ·rw [DT h2,Ag,DN (show ¬s.ID≤b.LA by omega)];simp
  ·rw [DN h2,Aa,DT (show s.ID≤b.LA by omega),Bool.true_and];cases FF s.NE
   ·simp
   ·by_cases h3:s.NE.Pairwise (· < ·)
    ·by_cases h4:s.Age<0
     ·have:¬0≤s.Age:=by omega
      simp [h3,h4,this]
     ·have:0≤s.Age:=by omega
      simp [h3,h4,this]
    ·simp [h3]
theorem LB (b:BK) (hb:DF b):GT b=some (if Cw b then 0 else 170):=by
 have hl:loop (NW b) (0,0)=some (if HR b.LA 0 true b.SE then 0 else 170):=by
  refine Jj b.SE (NW b) (fun pre=>(G4 pre,(pre.length:Int))) (fun pre post=>some (if HR b.LA (G4 pre) pre.isEmpty post then 0 else 170)) (fun pre x post h=>?_) ?_
  ·have hx:=BL h;have hm:=BG h;have h1:=hb.1;dsimp only [NW];rw [AQ hx,Ag,Ar hx,OB];have e:∀u v:Bool,A0 (decide (x.SS=1)) (Ir b (G4 pre) (pre.length:Int) x u) (Ir b (G4 pre) (pre.length:Int) x v)=Ir b (G4 pre) (pre.length:Int) x (if decide (x.SS=1) then u else v):=fun u v=>by cases decide (x.SS=1)<;>rfl
   rw [e,uR _ _ _ _ _ (hb.2 x (Di h)),AC Om,s5,AW];have e2:(if decide (x.SS=1)=true then decide ((pre.length:Int)=0) else false)=(decide (x.SS=1)&&pre.isEmpty):=by
    cases pre with
    | nil=>cases decide (x.SS=1)<;>rfl
    | cons a r=>cases decide (x.SS=1)<;>simp<;>omega
   rw [e2];show (_∧some (if (K4 (G4 pre) b.LA pre.isEmpty x&&HR b.LA x.ID false post) then (0:Int) else 170)=some (if HR b.LA x.ID (pre++[x]).isEmpty post then 0 else 170))∨∃r,_∧some (if (K4 (G4 pre) b.LA pre.isEmpty x&&HR b.LA x.ID false post) then (0:Int) else 170)=some r;have e3:(pre++[x]).isEmpty=false:=by simp
   rw [e3];show ((if K4 (G4 pre) b.LA pre.isEmpty x then some (Sum.inl (x.ID,((pre.length+1:Nat):Int))) else some (.inr (170:Int)))=_∧_)∨∃r,(if K4 (G4 pre) b.LA pre.isEmpty x then some (Sum.inl (x.ID,((pre.length+1:Nat):Int))) else some (.inr (170:Int)))=_∧_;cases K4 (G4 pre) b.LA pre.isEmpty x
   ·right;exact ⟨170,rfl,rfl⟩
   ·left;exact ⟨rfl,by rw [Bool.true_and]⟩
  ·dsimp only [NW];rw [AT,Aa];rfl
 simp only [GT,Sw,hl,Cw,AX];by_cases h1:b.LA<0
 ·have:¬0≤b.LA:=by omega
  simp [h1,this]
 ·have:0≤b.LA:=by omega
  by_cases h2:b.SE.length≤8
  ·have h3:¬(8:Int)<b.SE.length:=by omega
   simp [h1,this,h2,h3]
  ·have h3:(8:Int)<b.SE.length:=by omega
   simp [h1,this,h2,h3]
theorem HS {α:Type} {l:List α} {k:Nat} {x:α} (h:l[k]?=some x):l.set k x=l:=by obtain ⟨h1,rfl⟩:=List.getElem?_eq_some_iff.1 h;exact List.set_getElem_self h1
theorem Ex (l:List Int) (h:l.length≤1000000):Ct l=some l:=by simp only [Ct];rw [B5 _ _ Om (by simp;omega),List.nil_append]
theorem OU (l:List SE) (h:l.length≤1000000):Gc l=some l:=by simp only [Gc];rw [B5 _ _ Om (by simp;omega),List.nil_append]
theorem TM (b:BK) (hb:DF b):Iu b=some b.SE:=by
 have h1:=hb.1;simp only [Iu,OU b.SE hb.1,OB];refine D0 b.SE _ (fun pre=>((pre.length:Int),b.SE)) b.SE (fun pre x post h=>?_) ?_
 ·have hx:=BL h;have hm:=BG h;dsimp only [WU];rw [AQ hx,Ag,Ar hx,OB,Ex _ (hb.2 x (Di h)),OB,AC Om,Int.toNat_natCast,HS hx,AW]
 ·dsimp only [WU];rw [AT,Aa];rfl
def FZ (b:BK) (id:Int):Option Nat:=b.SE.findIdx? fun s=>decide (s.ID=id)
theorem kE (b:BK) (id:Int) (hb:b.SE.length≤1000000):O5 b id=some (Br (FZ b id)):=by simp only [O5];rw [ko b.SE _ (fun s=>decide (s.ID=id)) Om (fun x _=>by simp only [SG]),OB];rfl
theorem kf (l:List SE) (i:Nat) (hi:i<l.length) (hl:l.length≤1000000):Li (i:Int) ((i+1:Nat):Int) l=some (l.take i++l.drop (i+1)):=by
 simp only [Li,AX];unfold DQ;rw [if_pos ⟨Om,Om,Om,Om⟩,OB,if_pos ⟨Om,Om,Om,Om⟩,OB,DN Om,Aa,if_pos ⟨Om,Om,Om,Om⟩,OB];have t1:Int.toNat (i:Int)-Int.toNat 0=i:=by omega
 have t2:Int.toNat ((l.length:Nat):Int)-Int.toNat ((i+1:Nat):Int)=l.length-(i+1):=by omega
 have t3:Int.toNat ((i+1:Nat):Int)=i+1:=by omega
 rw [t1,t2,t3];unfold XH;rw [if_pos ⟨Om,Om,Om⟩,OB];have e1:(l.take (i+1+(l.length-(i+1)))).drop (i+1)=l.drop (i+1):=by rw [List.take_of_length_le Om]
 have e2:(l.take i++l.drop (i+1)).length=l.length-1:=by simp;omega
 rw [e1];have e3:i+(l.length-(i+1))=l.length-1:=by omega
 simp only [X4,AX,t1,t2,e3];have h6:(l.take i++l.drop (i+1)++l.drop (l.length-1)).length=l.length:=by rw [List.length_append,e2,List.length_drop];omega
 rw [OB,h6];unfold DQ;rw [if_pos ⟨Om,Om,Om,Om⟩,OB];have t4:Int.toNat ((l.length-1:Nat):Int)=l.length-1:=by omega
 have t5:Int.toNat ((l.length:Nat):Int)-(l.length-1)=1:=by omega
 rw [t4,t5];unfold He;rw [h6,if_pos ⟨Om,Om⟩,OB];unfold Uq;have e4:(l.take i++l.drop (i+1)++l.drop (l.length-1)).take (l.length-1)=l.take i++l.drop (i+1):=by rw [List.take_left' e2]
 rw [e4];have h8:(l.take i++l.drop (i+1)++List.replicate 1 (SE.mk 0 [] 0 0)++(l.take i++l.drop (i+1)++l.drop (l.length-1)).drop (l.length-1+1)).length=l.length:=by rw [List.length_append,List.length_append,e2,List.length_drop,h6];simp;omega
 rw [h8,if_pos ⟨Om,Om⟩,OB];congr 1;rw [List.append_assoc (l.take i++l.drop (i+1))];rw [List.take_left' e2]
def DA (b:BK) (id:Int) (need:List Int):BK×Int:=if Cw b then (if id≤b.LA then (C9,171) else if FF (Bm need) then (if b.SE.length=8 then (C9,173) else (⟨id,b.SE++[⟨id,Bm need,0,0⟩]⟩,0)) else (C9,172)) else (C9,170)
theorem ku (b:BK) (id:Int) (need:List Int) (hb:DF b) (hn:need.length≤1000000):O0 b id need=some (DA b id need):=by
 have hs:=TT need;have h1:=hb.1;simp only [O0,TR need hn,LB b hb,kM (Bm need) Om,OB,JP,TM b hb,DA,AX];rw [B5 _ _ Om (by simp;omega),OB];cases hk:Cw b
 ·rfl
 ·simp only [if_true];simp only [decide_true,Bool.not_true,Aa];by_cases h2:id≤b.LA
  ·simp [h2,C9]
  ·cases h3:FF (Bm need)
   ·simp [h2,C9]
   ·by_cases h4:b.SE.length=8
    ·simp [h2,h4,C9]
    ·have:¬(b.SE.length:Int)=8:=by omega
     simp [h2,h4,this]
def EJ (b:BK):BK×Int×Int:=if Cw b then (match b.SE with | []=>(C9,0,175) | s::l=>if s.SS=1 then (C9,0,175) else (⟨b.LA,⟨s.ID,s.NE,1,s.Age⟩::l⟩,s.ID,0)) else (C9,0,170)
theorem kl (b:BK) (hb:DF b):NZ b=some (EJ b):=by
 simp only [NZ,LB b hb,OB,SB,TM b hb,EJ,AX];cases hk:Cw b
 ·rfl
 ·simp only [if_true];simp only [decide_true,Bool.not_true,Aa];cases hs:b.SE with
  | nil=>simp [C9]
  | cons s l=>
    have h0:Ac (s::l) 0=some s:=rfl;have:¬(((s::l).length:Nat):Int)=0:=by simp;omega
    rw [DN this,Aa,h0,OB];by_cases h1:s.SS=1
    ·simp [h1,C9]
    ·simp [h1]
def C6 (b:BK) (id E:Int):BK×Int:=
 if Cw b then (match FZ b id with
  | none=>(C9,174)
  | some i=>match b.SE[i]? with
    | none=>(C9,174)
    | some s=>if s.SS=E then (⟨b.LA,b.SE.take i++b.SE.drop (i+1)⟩,0) else (C9,175)) else (C9,170)
theorem eV {b:BK} {id:Int} {i:Nat} (h:FZ b id=some i):∃s,b.SE[i]?=some s∧s.ID=id:=by obtain ⟨hi,hq,_⟩:=List.findIdx?_eq_some_iff_getElem.1 h;exact ⟨_,List.getElem?_eq_getElem hi,by simpa using hq⟩
theorem kD (b:BK) (id E:Int) (hb:DF b):O4 b id E=some (C6 b id E):=by
 have h1:=hb.1;simp only [O4,WT,LB b hb,kE b id hb.1,OB,C6];cases hk:Cw b
 ·simp [L8,L9,C9]
 ·simp only [if_true];simp only [decide_true,Bool.not_true,Aa];cases hf:FZ b id with
  | none=>simp [Br,L8,L9,C9]
  | some i=>
    obtain ⟨s,hs,_⟩:=eV hf;have hi:=(List.getElem?_eq_some_iff.1 hs).1;rw [show Br (some i)=(i:Int) from rfl,DN Om,Aa,Ar hs,OB,OB];simp only [hs,decide_true,Ag,L8,L9];by_cases h2:s.SS=E
    ·have hf':FZ ⟨b.LA,b.SE⟩ id=some i:=hf;simp only [h2,decide_true,Bool.not_true,Aa,TM b hb,OB,kE ⟨b.LA,b.SE⟩ id hb.1,hf',if_true];rw [show Br (some i)=(i:Int) from rfl,AC Om,kf b.SE i hi hb.1,OB]
    ·simp [h2,C9]
theorem bZ (b:BK) (id:Int) (hb:DF b):O1 b id=some (C6 b id 1):=by simp only [O1,kD b id 1 hb,OB]
theorem bU (b:BK) (id:Int) (hb:DF b):NU b id=some (C6 b id 0):=by simp only [NU,kD b id 0 hb,OB]
theorem mI (x y:SX):(decide (x.PE=y.PE)&&(decide (x.EP=y.EP)&&(decide (x.SS=y.SS)&&((x.FK==y.FK)&&((x.DY==y.DY)&&((x.TO==y.TO)&&((x.BO==y.BO)&&((x.Ask==y.Ask)&&true))))))))=decide (x=y):=by rw [Bool.eq_iff_iff];cases x;cases y;simp [SX.mk.injEq]
theorem uZ (l m:List SX) (hl:l.length≤1000000):Ta l m=some (decide (l=m)):=by
 simp only [Ta,Mp];by_cases h:l.length=m.length
 ·simp only [h,decide_true,Bool.not_true,Aa];rw [Mq l m _ (fun x y=>decide (x=y)) h Om (fun k x y hx hy=>by simp only [Xc,AQ hx,Ag,Ar hx,Ar hy,OB,mI,EA hx (show l.length≤4000000000000000000 by omega),Je];cases decide (x=y)<;>rfl) (by simp only [Xc,AT,Aa,Xb,Option.map_some]),LK l m h]
 ·simp [h,Mo h]
def wS:SX:=⟨0,0,0,false,false,false,false,false⟩
def wW (d:DI) (p:Int):Option SX:=d.SD.find? fun x=>decide (x.PE=p)
def D2 (id q:Int) (x:SX):Bool:=decide (q<x.PE)&&(!decide (x.PE=id)&&(decide (0≤x.EP)&&(decide (x.EP≤65535)&&(decide (0≤x.SS)&&(decide (x.SS≤3)&&!(x.DY&&!x.FK))))))
def FH (id:Int):Int→List SX→Bool
 | _,[]=>true
 | q,x::r=>D2 id q x&&FH id x.PE r
def Ch (d:DI):Bool:=decide (0≤d.ID)&&(decide (0≤d.PH)&&(decide (d.PH≤2)&&(decide (d.SD.length<64)&&FH d.ID (-1) d.SD)))
theorem vX (x:SX) (d:DI) (q:Int):Q1 x q d=some (!D2 d.ID q x):=by
 simp only [Q1,Q2,Hn,D2];by_cases h1:q<x.PE
 ·by_cases h2:x.PE=d.ID
  ·have h1':q<d.ID:=h2 ▸ h1;simp [h2,h1']
  ·by_cases h3:x.EP<0
   ·have:¬0≤x.EP:=by omega
    simp [h1,h2,h3,this]
   ·have h3':0≤x.EP:=by omega
    by_cases h4:65535<x.EP
    ·have:¬x.EP≤65535:=by omega
     simp [h1,h2,h3,h4,this]
    ·have h4':x.EP≤65535:=by omega
     by_cases h5:x.SS<0
     ·have:¬0≤x.SS:=by omega
      simp [h1,h2,h3,h4,h5,this]
     ·have h5':0≤x.SS:=by omega
      by_cases h6:3<x.SS
      ·have:¬x.SS≤3:=by omega
       simp [h1,h2,h3,h4,h5,h6,this]
      ·have h6':x.SS≤3:=by omega
       simp only [h1,h2,h3,h4,h5,h6,h3',h4',h5',h6',decide_true,decide_false,Ag,Aa,Bool.not_true,Bool.not_false,Bool.true_and];cases x.DY<;>cases x.FK<;>rfl
 ·simp [h1]
def Gj (id:Int):Nat→Int→List SX→Int×Int
 | _,q,[]=>(-1,q)
 | k,q,x::r=>if D2 id q x then Gj id (k+1) x.PE r else (k,x.PE)
theorem kX (id:Int):∀(l:List SX) (k:Nat) (q:Int),decide (0≤(Gj id k q l).1)=!FH id q l
 | [],k,q=>by simp [Gj,FH]
 | x::r,k,q=>by
   by_cases h:D2 id q x=true
   ·have e1:Gj id k q (x::r)=Gj id (k+1) x.PE r:=by simp [Gj,h]
    rw [e1,kX id r (k+1) x.PE];simp [FH,h]
   ·have h':D2 id q x=false:=by simpa using h
    have e1:Gj id k q (x::r)=((k:Int),x.PE):=by simp [Gj,h']
    rw [e1];simp [FH,h']
def PB (q:Int) (pre:List SX):Int:=match pre.getLast? with | some x=>x.PE | none=>q
theorem g7 (q:Int) (pre:List SX) (x:SX):PB q (pre++[x])=x.PE:=by simp [PB]
theorem c7 (d:DI):Kw d=some (if Ch d then 0 else 130):=by
 simp only [Kw,Jk,Ch];by_cases h1:d.ID<0
 ·have:¬0≤d.ID:=by omega
  simp [h1,this]
 have h1':0≤d.ID:=by omega
 by_cases h2:d.PH<0
 ·have:¬0≤d.PH:=by omega
  simp [h1,h2,this]
 have h2':0≤d.PH:=by omega
 by_cases h3:2<d.PH
 ·have:¬d.PH≤2:=by omega
  simp [h1,h2,h3,this]
 have h3':d.PH≤2:=by omega
 by_cases h4:64≤d.SD.length
 ·have h4':(64:Int)≤ln SX.row d.SD:=by rw [AX];omega
  have:¬d.SD.length<64:=by omega
  simp [h1,h2,h3,h4',this]
 have h4':¬(64:Int)≤ln SX.row d.SD:=by rw [AX];omega
 have h4'':d.SD.length<64:=by omega
 simp only [h1,h2,h3,h4',h1',h2',h3',h4'',decide_true,decide_false,Aa,Bool.true_and];have Ap:Tk d.SD (-1) d=some (Gj d.ID 0 (-1) d.SD):=by
  unfold Tk;refine Jj d.SD _ (fun pre=>((pre.length:Int),PB (-1) pre)) (fun pre post=>some (Gj d.ID pre.length (PB (-1) pre) post)) (fun pre x post h=>?_) ?_
  ·have hx:=BL h;have hm:=BG h;dsimp only [Xu];rw [AQ hx,Ag,Ar hx,OB,vX,OB,Je];cases hs:D2 d.ID (PB (-1) pre) x with
   | true=>left;exact ⟨by rw [Ag,AW,g7,AC Om],by simp [Gj,hs,g7]⟩
   | false=>right;exact ⟨_,rfl,by simp [Gj,hs]⟩
  ·dsimp only [Xu];rw [AT,Aa];rfl
 simp only [WZ,Ap,OB,kX];cases FH d.ID (-1) d.SD<;>rfl
theorem Lz (l:List SX) (hl:l.length≤1000000):EM l=some l:=by simp only [EM];rw [B5 _ _ Om (by simp;omega)];rfl
theorem H2 {d:DI} (h:Ch d=true):d.SD.length<64:=by simp only [Ch,Bool.and_eq_true,decide_eq_true_eq] at h;exact h.2.2.2.1
def DG (ph:Int) (x:SX):SX:=if x.FK&&(x.DY&&(x.TO&&!decide (ph=2))) then {x with FK:=false,DY:=false} else x
def BV (ph:Int) (x:SX):SX:=if decide (ph=1)&&((DG ph x).TO&&!(DG ph x).FK) then {DG ph x with TO:=false} else DG ph x
def Cn (id ph:Int) (x:SX):List ML:=
 (if x.FK&&(x.DY&&(x.TO&&!decide (ph=2))) then [⟨id,x.PE,⟨1,x.EP,0⟩⟩] else []) ++
 (if decide (ph=1)&&((DG ph x).TO&&!(DG ph x).FK) then [⟨id,x.PE,⟨2,x.EP,0⟩⟩] else [])
def IX (x:SX):SX:= {x with DY:=true}
def Cb (d:DI):DI:=if decide (d.PH=1)&&(d.SD.map (BV d.PH)).all (·.FK) then ⟨d.ID,2,(d.SD.map (BV d.PH)).map IX⟩ else ⟨d.ID,d.PH,d.SD.map (BV d.PH)⟩
def I4 (d:DI):List ML:=d.SD.flatMap (Cn d.ID d.PH)
theorem qH (id ph:Int) (x:SX):(Cn id ph x).length≤2:=by
 unfold Cn;rw [List.length_append];have h1:∀(c:Bool) (m:ML),(if c then [m] else []).length≤1:=by intro c m;cases c<;>simp
 have:=h1 (x.FK&&(x.DY&&(x.TO&&!decide (ph=2)))) ⟨id,x.PE,⟨1,x.EP,0⟩⟩;have:=h1 (decide (ph=1)&&((DG ph x).TO&&!(DG ph x).FK)) ⟨id,x.PE,⟨2,x.EP,0⟩⟩;omega
theorem Zs (l:List SX) (id ph:Int):(l.flatMap (Cn id ph)).length≤2*l.length:=by
 induction l with
 | nil=>simp
 | cons x l ih=>have:=qH id ph x;rw [List.flatMap_cons,List.length_append,List.length_cons];omega
def has (x:SX) (k:Int):Bool:=if k=1 then x.FK else x.TO
def bn (b:Bool):Nat:=if b then 1 else 0
theorem eW (ph:Int) (x:SX):(BV ph x).PE=x.PE∧(BV ph x).EP=x.EP∧(BV ph x).SS=x.SS:=by unfold BV DG;split<;>split<;>exact ⟨rfl,rfl,rfl⟩
theorem qx (ph:Int) (x:SX) (h:x.DY=true→x.FK=true):(BV ph x).DY=true→(BV ph x).FK=true:=by unfold BV DG;split<;>split<;>simp_all
theorem qG {id ph:Int} {x:SX} {m:ML} (h:m∈Cn id ph x):m.From=id∧m.To=x.PE∧(m.Msg.KI=1∨m.Msg.KI=2)∧m.Msg.EP=x.EP∧m.Msg.Num=0:=by
 unfold Cn at h;rw [List.mem_append] at h;rcases h with h | h
 ·split at h
  ·simp at h;subst h;exact ⟨rfl,rfl,.inl rfl,rfl,rfl⟩
  ·simp at h
 ·split at h
  ·simp at h;subst h;exact ⟨rfl,rfl,.inr rfl,rfl,rfl⟩
  ·simp at h
def Cl (d:DI) (x:SX):SX:=if decide (d.PH=1)&&(d.SD.map (BV d.PH)).all (·.FK) then IX (BV d.PH x) else BV d.PH x
theorem Hf (d:DI):(Cb d).SD=d.SD.map (Cl d):=by
 unfold Cb Cl;split
 ·simp only [List.map_map];rfl
 ·rfl
theorem Zr (d:DI):(Cb d).ID=d.ID:=by unfold Cb;split<;>rfl
theorem M8 (d:DI) (x:SX):(Cl d x).PE=x.PE∧(Cl d x).EP=x.EP∧(Cl d x).SS=x.SS∧∀k,has (Cl d x) k=has (BV d.PH x) k:=by
 obtain ⟨h1,h2,h3⟩:=eW d.PH x;unfold Cl;split
 ·exact ⟨h1,h2,h3,fun k=>rfl⟩
 ·exact ⟨h1,h2,h3,fun k=>rfl⟩
theorem wa (k id ph:Int) (a b:List SX) (x:SX) (E:List ML) (J:E.length≤1000000):Kx k id ph (a.length:Int) E (a++x::b)=some (E++[⟨id,x.PE,⟨k,x.EP,0⟩⟩]):=by simp only [Kx];rw [IU rfl,OB,B5 _ _ Om (by simp;omega),OB]
theorem qK (d:DI) (l:List SX) (hl:l.length<64) (pre post:List SX) (x:SX) (h:l=pre++x::post) (all:Bool) (A:List SX) (J:A.length=pre.length) (E:List ML) (U:E.length≤1000):
  Mz d l (all,(pre.length:Int),A++x::post,E)=some (.inl (all&&(BV d.PH x).FK,((pre.length+1:Nat):Int),A++BV d.PH x::post,E++Cn d.ID d.PH x)):=by
 have hx:=BL h;have hm:=BG h;have at1:∀y:SX,Ac (A++y::post) (pre.length:Int)=some y:=fun y=>by rw [←J];exact IU rfl
 have st1:∀y z:SX,(A++y::post).set ((pre.length:Int)).toNat z=A++z::post:=fun y z=>by rw [←J];exact LC _ _ _ _
 have sd:∀(k:Int) (y:SX) (E:List ML),E.length≤1000000→Kx k d.ID d.PH (pre.length:Int) E (A++y::post)=some (E++[⟨d.ID,y.PE,⟨k,y.EP,0⟩⟩]):=fun k y E U=>by rw [←J];exact wa k d.ID d.PH A post y E U
 have fin:∀(y:SX) (E':List ML),Mx all (pre.length:Int) (A++y::post,E')=some (.inl (all&&y.FK,((pre.length+1:Nat):Int),A++y::post,E')):=fun y E'=>by dsimp only [Mx,Q4];rw [at1,AC Om];cases all<;>rfl
 have j3:∀(y:SX) (E':List ML),E'.length≤100000→Jl d all (pre.length:Int) (A++y::post,E') =
   if decide (d.PH=1)&&(y.TO&&!y.FK) then some (.inl (all&&y.FK,((pre.length+1:Nat):Int),A++{y with TO:=false}::post,E'++[⟨d.ID,y.PE,⟨2,y.EP,0⟩⟩])) else some (.inl (all&&y.FK,((pre.length+1:Nat):Int),A++y::post,E')):=fun y E' hE'=>by
  dsimp only [Jl];by_cases h1:d.PH=1
  ·rw [DT h1,Ag,at1,OB];cases ht:y.TO with
   | false=>dsimp only [Ii];rw [Aa,Aa,fin];simp
   | true=>
     cases hf:y.FK with
     | true=>dsimp only [Ii];rw [Ag,Bool.not_true,Aa,fin];simp [hf]
     | false=>dsimp only [Ii];rw [Ag,Bool.not_false,Ag,at1,OB,st1,sd _ _ _ Om,OB,fin];simp [hf]
  ·rw [DN h1,Aa];dsimp only [Ii];rw [Aa,fin];simp
 dsimp only [Mz];rw [AQ hx,Ag,at1,OB];have j2:∀z:Bool,Fe d all (pre.length:Int) (A++x::post) E x z=if z then Jl d all (pre.length:Int) (A++{x with FK:=false,DY:=false}::post,E++[⟨d.ID,x.PE,⟨1,x.EP,0⟩⟩]) else Jl d all (pre.length:Int) (A++x::post,E):=fun z=>by
  cases z with
  | false=>dsimp only [Fe];rw [Aa];rfl
  | true=>dsimp only [Fe];rw [Ag,st1,sd _ _ _ Om,OB];rfl
 have e:A0 x.FK (A0 x.DY (A0 x.TO (Fe d all (pre.length:Int) (A++x::post) E x (!decide (d.PH=2))) (Fe d all (pre.length:Int) (A++x::post) E x false)) (Fe d all (pre.length:Int) (A++x::post) E x false)) (Fe d all (pre.length:Int) (A++x::post) E x false)
   =Fe d all (pre.length:Int) (A++x::post) E x (x.FK&&(x.DY&&(x.TO&&!decide (d.PH=2)))):=by
  cases x.FK<;>cases x.DY<;>cases x.TO<;>rfl
 rw [e,j2];cases hz:(x.FK&&(x.DY&&(x.TO&&!decide (d.PH=2)))) with
 | false=>
   rw [if_neg (by simp),j3 _ _ Om];have f1:DG d.PH x=x:=by simp only [DG,hz];rfl
   unfold BV Cn;rw [f1,hz];cases hq:(decide (d.PH=1)&&(x.TO&&!x.FK))<;>simp
 | true=>
   rw [if_pos rfl,j3 _ _ (by simp;omega)];have f1:DG d.PH x={x with FK:=false,DY:=false}:=by simp only [DG,hz];rfl
   unfold BV Cn;rw [f1,hz];cases hq:(decide (d.PH=1)&&(x.TO&&!false))<;>simp_all
theorem v6 (d:DI):Q3 d=some (if Ch d then ((Cb d).ID,(Cb d).PH,0,(Cb d).SD,I4 d) else (0,0,130,[],[])):=by
 simp only [Q3,c7,OB];cases h:Ch d with
 | false=>rfl
 | true=>
   have hl:=H2 h;simp only [if_true,decide_true,Bool.not_true,Aa,Lz d.SD Om,OB];have Ap:=Jj d.SD (Mz d d.SD) (fun pre=>((pre.map (BV d.PH)).all (·.FK),(pre.length:Int),pre.map (BV d.PH)++d.SD.drop pre.length,pre.flatMap (Cn d.ID d.PH))) (fun _ _=>some ((Cb d).ID,(Cb d).PH,0,(Cb d).SD,I4 d)) (fun pre x post hp=>?_) ?_
   ·simpa using Ap
   ·left;have hd:d.SD.drop pre.length=x::post:=by rw [hp];simp
    have hd':d.SD.drop (pre++[x]).length=post:=by rw [hp];simp
    have hm:=BG hp;have hE:=Zs pre d.ID d.PH;refine ⟨?_,rfl⟩;rw [hd,hd',qK d d.SD hl pre post x hp _ _ (by simp) _ Om,AW];simp
   ·have hE:=Zs d.SD d.ID d.PH;dsimp only [Mz];rw [AT,Aa];simp only [List.drop_length,List.append_nil];dsimp only [UX];by_cases h1:d.PH=1
    ·rw [DT h1,Ag];dsimp only [My];cases h6:(d.SD.map (BV d.PH)).all (·.FK) with
     | false=>rw [Aa];unfold Cb;rw [h6,Bool.and_false];rfl
     | true=>
       rw [Ag];generalize hS:d.SD.map (BV d.PH)=S at h6;have h8:S.length<64:=by rw [←hS];simpa using hl
       have k2:=D0 S (MA d S (d.SD.flatMap (Cn d.ID d.PH))) (fun pre=>((pre.length:Int),pre.map IX++S.drop pre.length)) (d.ID,2,0,S.map IX,d.SD.flatMap (Cn d.ID d.PH)) (fun pre x post hp=>?_) ?_
       ·have k3:loop (MA d S (d.SD.flatMap (Cn d.ID d.PH))) (0,S)=some (d.ID,2,0,S.map IX,d.SD.flatMap (Cn d.ID d.PH)):=by simpa using k2
        rw [k3];unfold Cb;rw [hS,h6,DT h1];rfl
       ·have hx:=BL hp;have hm:=BG hp;have hd:S.drop pre.length=x::post:=by rw [hp];simp
        have hd':S.drop (pre++[x]).length=post:=by rw [hp];simp
        dsimp only [MA];have e1:((pre.length:Nat):Int)=(((pre.map IX).length:Nat):Int):=by simp
        rw [AQ hx,Ag,hd,hd',e1,IU rfl,OB,LC,←e1,AW,AC Om];simp [IX]
       ·dsimp only [MA];rw [AT,Aa];simp [Q5]
    ·rw [DN h1,Aa];dsimp only [My];rw [Aa];unfold Cb;rw [DN h1,Bool.false_and];rfl
def Cu (d:DK) (x:SX):Bool:=decide (x.PE∈d.NE)
def Fb (nd:Bool) (th:Int) (x:SX):Bool:=nd&&(decide (th=2)||(decide (th=1)&&x.FK))
def DW (nd:Bool) (th:Int) (x:SX):SX:=if x.BO&&(x.Ask&&!Fb nd th x) then {x with BO:=false} else x
def Ca (nd:Bool) (th:Int) (x:SX):SX:=if decide (th=1)&&(nd&&((DW nd th x).Ask&&!(DW nd th x).BO)) then {DW nd th x with Ask:=false} else DW nd th x
def CG (id:Int) (nd:Bool) (th:Int) (x:SX):List ML:=
 (if x.BO&&(x.Ask&&!Fb nd th x) then [⟨id,x.PE,⟨3,x.EP,0⟩⟩] else []) ++
 (if decide (th=1)&&(nd&&((DW nd th x).Ask&&!(DW nd th x).BO)) then [⟨id,x.PE,⟨4,x.EP,0⟩⟩] else [])
theorem Pf (nd:Bool) (th:Int) (x:SX):(Ca nd th x).PE=x.PE∧(Ca nd th x).EP=x.EP∧(Ca nd th x).SS=x.SS∧(Ca nd th x).FK=x.FK∧(Ca nd th x).DY=x.DY∧(Ca nd th x).TO=x.TO:=by unfold Ca DW;split<;>split<;>exact ⟨rfl,rfl,rfl,rfl,rfl,rfl⟩
theorem o8 (id:Int) (nd:Bool) (th:Int) (x:SX):(CG id nd th x).length≤2:=by
 unfold CG;rw [List.length_append];have h1:∀(c:Bool) (m:ML),(if c then [m] else []).length≤1:=by intro c m;cases c<;>simp
 have:=h1 (x.BO&&(x.Ask&&!Fb nd th x)) ⟨id,x.PE,⟨3,x.EP,0⟩⟩;have:=h1 (decide (th=1)&&(nd&&((DW nd th x).Ask&&!(DW nd th x).BO))) ⟨id,x.PE,⟨4,x.EP,0⟩⟩;omega
theorem oa (N:List Int) (id th:Int) (l:List SX):(l.flatMap fun x=>CG id (decide (x.PE∈N)) th x).length≤2*l.length:=by
 induction l with
 | nil=>simp
 | cons x l ih=>have:=o8 id (decide (x.PE∈N)) th x;rw [List.flatMap_cons,List.length_append,List.length_cons];omega
theorem kQ (y:SX) (k id ph th:Int) (N:List Int) (l:List SX) (E:List ML) (J:E.length≤1000000):MT y k id ph th l N E=some (E++[⟨id,y.PE,⟨k,y.EP,0⟩⟩]):=by simp only [MT];rw [B5 _ _ Om (by simp;omega),OB]
theorem oc (id ph th:Int) (N:List Int) (U:N.length≤1000000) (l:List SX) (hl:l.length≤5000) (pre post:List SX) (x:SX) (h:l=pre++x::post) (all:Bool) (A:List SX) (J:A.length=pre.length) (E:List ML) (Y:E.length≤900000):
  Kz id ph th l N (all,(pre.length:Int),A++x::post,E)=some (.inl (all&&(!decide (x.PE∈N)||(Ca (decide (x.PE∈N)) th x).BO),((pre.length+1:Nat):Int),A++Ca (decide (x.PE∈N)) th x::post,E++CG id (decide (x.PE∈N)) th x)):=by
 have hx:=BL h;have hm:=BG h;have at1:∀y:SX,Ac (A++y::post) (pre.length:Int)=some y:=fun y=>by rw [←J];exact IU rfl
 have st1:∀y z:SX,(A++y::post).set ((pre.length:Int)).toNat z=A++z::post:=fun y z=>by rw [←J];exact LC _ _ _ _
 generalize h6:decide (x.PE∈N)=nd;have j7:∀(S:List SX) (E':List ML) z,Ky (pre.length:Int) S E' z=some (.inl (z,((pre.length+1:Nat):Int),S,E')):=fun S E' z=>by dsimp only [Ky];rw [AC Om]
 have j6:∀(y:SX) (E':List ML),MQ all (pre.length:Int) nd (A++y::post,E')=some (.inl (all&&(!nd||y.BO),((pre.length+1:Nat):Int),A++y::post,E')):=fun y E'=>by dsimp only [MQ];rw [at1,OB];simp only [j7];cases all<;>cases nd<;>rfl
 have j4:∀(y:SX) (E':List ML),E'.length≤950000→Jo id ph th N all (pre.length:Int) nd (A++y::post,E') =
   if decide (th=1)&&(nd&&(y.Ask&&!y.BO)) then some (.inl (all&&(!nd||y.BO),((pre.length+1:Nat):Int),A++{y with Ask:=false}::post,E'++[⟨id,y.PE,⟨4,y.EP,0⟩⟩])) else some (.inl (all&&(!nd||y.BO),((pre.length+1:Nat):Int),A++y::post,E')):=fun y E' hE'=>by
  have j5:∀z,Ij id ph th N all (pre.length:Int) nd (A++y::post) E' z=if z then some (.inl (all&&(!nd||y.BO),((pre.length+1:Nat):Int),A++{y with Ask:=false}::post,E'++[⟨id,y.PE,⟨4,y.EP,0⟩⟩])) else some (.inl (all&&(!nd||y.BO),((pre.length+1:Nat):Int),A++y::post,E')):=fun z=>by
   cases z with
   | false=>dsimp only [Ij];rw [Aa,j6];rfl
   | true=>dsimp only [Ij];rw [Ag,at1,OB,st1,kQ _ _ _ _ _ _ _ _ Om,OB,j6];rfl
  dsimp only [Jo];rw [at1,OB];simp only [j5];cases decide (th=1)<;>cases nd<;>cases y.Ask<;>rfl
 have j3:∀z,Hp id ph th N all (pre.length:Int) (A++x::post) E x nd z=if z then Jo id ph th N all (pre.length:Int) nd (A++{x with BO:=false}::post,E++[⟨id,x.PE,⟨3,x.EP,0⟩⟩]) else Jo id ph th N all (pre.length:Int) nd (A++x::post,E):=fun z=>by
  cases z with
  | false=>dsimp only [Hp];rw [Aa];rfl
  | true=>dsimp only [Hp];rw [Ag,st1,kQ _ _ _ _ _ _ _ _ Om,OB];rfl
 have j2:∀z,Jn id ph th N all (pre.length:Int) (A++x::post) E x nd z=Hp id ph th N all (pre.length:Int) (A++x::post) E x nd (x.BO&&(x.Ask&&!z)):=fun z=>by dsimp only [Jn];cases x.BO<;>cases x.Ask<;>rfl
 have e:Kz id ph th l N (all,(pre.length:Int),A++x::post,E)=Hp id ph th N all (pre.length:Int) (A++x::post) E x nd (x.BO&&(x.Ask&&!Fb nd th x)):=by dsimp only [Kz];rw [AQ hx,Ag,at1,OB,Gi N _ U,OB,h6];dsimp only [V3];simp only [j2];unfold Fb;cases nd<;>cases decide (th=2)<;>cases decide (th=1)<;>rfl
 rw [e,j3];cases hz:(x.BO&&(x.Ask&&!Fb nd th x)) with
 | false=>
   have b1:DW nd th x=x:=by unfold DW;rw [hz];rfl
   rw [if_neg (by simp),j4 _ _ Om];unfold Ca CG;rw [b1,hz];cases (decide (th=1)&&(nd&&(x.Ask&&!x.BO)))<;>simp
 | true=>
   have b1:DW nd th x={x with BO:=false}:=by unfold DW;rw [hz];rfl
   rw [if_pos rfl,j4 _ _ (by simp;omega)];unfold Ca CG;rw [b1,hz];cases (decide (th=1)&&(nd&&(x.Ask&&!false)))<;>simp
theorem vw (id ph th:Int) (N:List Int) (J:N.length≤1000000) (l:List SX) (hl:l.length≤5000) (E:List ML) (U:E.length≤800000):
  Ql id ph th l N E=some (if decide (th=1)&&(l.map fun x=>Ca (decide (x.PE∈N)) th x).all (fun x=>!decide (x.PE∈N)||x.BO) then 2 else th,l.map fun x=>Ca (decide (x.PE∈N)) th x,E++l.flatMap fun x=>CG id (decide (x.PE∈N)) th x):=by
 have:=Jj l (Kz id ph th l N) (fun pre=>((pre.map fun x=>Ca (decide (x.PE∈N)) th x).all (fun x=>!decide (x.PE∈N)||x.BO),(pre.length:Int),(pre.map fun x=>Ca (decide (x.PE∈N)) th x)++l.drop pre.length,E++pre.flatMap fun x=>CG id (decide (x.PE∈N)) th x))
  (fun _ _=>some (if decide (th=1)&&(l.map fun x=>Ca (decide (x.PE∈N)) th x).all (fun x=>!decide (x.PE∈N)||x.BO) then 2 else th,l.map fun x=>Ca (decide (x.PE∈N)) th x,E++l.flatMap fun x=>CG id (decide (x.PE∈N)) th x)) (fun pre x post h=>.inl ⟨by
    have hd:l.drop pre.length=x::post:=by rw [h];simp
    have hd':l.drop (pre++[x]).length=post:=by rw [h];simp
    have hm:=BG h;have hE':=oa N id th pre;rw [hd,hd',oc id ph th N J l hl pre post x h _ _ (by simp) _ (by rw [List.length_append];omega),AW];have hp:=(Pf (decide (x.PE∈N)) th x).1;simp [hp],rfl⟩) (by
  dsimp only [Kz];rw [AT,Aa];dsimp only [V1];rw [List.drop_length,List.append_nil];cases decide (th=1) with
  | false=>rfl
  | true=>cases (l.map fun x=>Ca (decide (x.PE∈N)) th x).all (fun x=>!decide (x.PE∈N)||x.BO)<;>rfl)
 unfold Ql;simpa using this
def Cx (d:DK):Int:=if decide (d.TH=1)&&decide (d.DI.PH=0) then 1 else if decide (d.DI.PH=2)&&(!decide (d.TH=1)&&!d.DI.SD.any (fun x=>decide (x.SS=1))) then 0 else d.DI.PH
def Bo (d:DK):DI:=⟨d.DI.ID,Cx d,d.DI.SD⟩
def Gg (d:DK):List SX:=(Cb (Bo d)).SD.map fun x=>Ca (Cu d x) d.TH x
def Gh (d:DK):Int:=if decide (d.TH=1)&&(Gg d).all (fun x=>!Cu d x||x.BO) then 2 else d.TH
def AY (d:DK):DK:=⟨⟨d.DI.ID,(Cb (Bo d)).PH,Gg d⟩,Gh d,d.NE⟩
def Dp (d:DK):List ML:=I4 (Bo d)++(Cb (Bo d)).SD.flatMap fun x=>CG d.DI.ID (Cu d x) d.TH x
theorem jB {d:DK} (h:Ch d.DI=true):Ch (Bo d)=true:=by
 simp only [Ch,Bool.and_eq_true,decide_eq_true_eq] at h ⊢;refine ⟨h.1,?_,?_,h.2.2.2⟩
 ·show 0≤Cx d;unfold Cx;split
  ·omega
  ·split<;>omega
 ·show Cx d≤2;unfold Cx;split
  ·omega
  ·split<;>omega
theorem qA (d:DI):(Cb d).SD.length=d.SD.length:=by rw [Hf];simp
theorem vY (d:DK) (h:Ch d.DI=true) (E:d.NE.length≤1000000) (out:List ML) (ho:out.length≤700000):
  Qo d.DI.ID d.DI.PH d.TH d.DI.SD d.NE out=some ((AY d).DI.ID,(AY d).DI.PH,(AY d).TH,(AY d).DI.SD,out++Dp d):=by
 have hl:=H2 h;have hp:=jB h;have hA:=Zs d.DI.SD d.DI.ID (Cx d);have e0:(Bo d).SD=d.DI.SD:=rfl;have h9:=qA (Bo d);rw [e0] at h9;have j2:Jp d.DI.ID d.TH d.DI.SD d.NE out (Cx d)=some ((AY d).DI.ID,(AY d).DI.PH,(AY d).TH,(AY d).DI.SD,out++Dp d):=by
  dsimp only [Jp];have e1:(⟨d.DI.ID,Cx d,d.DI.SD⟩:DI)=Bo d:=rfl;have hB:(I4 (Bo d)).length≤130:=by unfold I4;rw [e0];show (d.DI.SD.flatMap (Cn d.DI.ID (Cx d))).length≤130;omega
  rw [e1,v6,hp,if_pos rfl,OB];dsimp only;rw [B5 _ _ Om Om,OB,vw _ _ _ _ E _ Om _ (by rw [List.length_append];omega),OB];rw [Zr,List.append_assoc];rfl
 have h6:∀z:Int,z=Cx d→Jp d.DI.ID d.TH d.DI.SD d.NE out z=some ((AY d).DI.ID,(AY d).DI.PH,(AY d).TH,(AY d).DI.SD,out++Dp d):=fun z e=>by rw [e];exact j2
 have hw:=TI d.DI.SD (fun z=>Qn z) (fun x=>decide (x.SS=1)) Om (fun x _=>rfl);dsimp only [Qo,Qp,MR];rw [hw,OB];unfold Cx at h6;by_cases h1:d.TH=1
 ·rw [DT h1] at h6 ⊢;by_cases h2:d.DI.PH=0
  ·rw [DT h2] at h6 ⊢;exact h6 1 rfl
  ·rw [DN h2] at h6 ⊢;have:=h6 d.DI.PH (by simp);rw [Ag,Aa,this];cases decide (d.DI.PH=2)<;>rfl
 ·rw [DN h1] at h6 ⊢;rw [Aa,Aa];by_cases h2:d.DI.PH=2
  ·rw [DT h2] at h6 ⊢;cases h8:d.DI.SD.any (fun x=>decide (x.SS=1)) with
   | true=>rw [h8] at h6;exact h6 d.DI.PH (by simp)
   | false=>rw [h8] at h6;exact h6 0 (by simp)
  ·rw [DN h2] at h6 ⊢;exact h6 d.DI.PH (by simp)
def F5 (x:SX):Nat:=bn x.FK+bn x.TO+bn x.BO+bn x.Ask
def bits (l:List SX):Nat:=(l.map F5).sum
def rank (th ph:Int):Nat:=if th=1 then (if ph=0 then 5 else if ph=1 then 4 else 3) else (if ph=1 then 2 else if ph=2 then 1 else 0)
def mu (d:DK):Nat:=bits d.DI.SD+rank d.TH d.DI.PH
theorem qv (id ph:Int) (x:SX):F5 (BV ph x)+(Cn id ph x).length=F5 x:=by obtain ⟨p,e,st,f,d,t,bo,ask⟩:=x;unfold Cn BV DG F5 bn;generalize h1:decide (ph=1)=q1;generalize h2:decide (ph=2)=q2;cases f<;>cases d<;>cases t<;>cases q1<;>cases q2<;>simp<;>omega
theorem o7 (id:Int) (nd:Bool) (th:Int) (x:SX):F5 (Ca nd th x)+(CG id nd th x).length=F5 x:=by obtain ⟨p,e,st,f,d,t,bo,ask⟩:=x;unfold CG Ca DW Fb F5 bn;generalize h1:decide (th=1)=q1;generalize h2:decide (th=2)=q2;cases bo<;>cases ask<;>cases nd<;>cases q1<;>cases q2<;>cases f<;>simp<;>omega
theorem qy (d:DI) (x:SX):F5 (Cl d x)=F5 (BV d.PH x):=by unfold Cl;split<;>rfl
theorem bu (d:DK):bits (AY d).DI.SD+(Dp d).length=bits d.DI.SD:=by
 have Ap:∀l:List SX,((l.map fun x=>Ca (Cu d (Cl (Bo d) x)) d.TH (Cl (Bo d) x)).map F5).sum+((l.flatMap (Cn d.DI.ID (Cx d))).length+((l.map (Cl (Bo d))).flatMap fun x=>CG d.DI.ID (Cu d x) d.TH x).length)=(l.map F5).sum:=by
  intro l;induction l with
  | nil=>rfl
  | cons x l ih=>have h1:=qv d.DI.ID (Cx d) x;have h2:=o7 d.DI.ID (Cu d (Cl (Bo d) x)) d.TH (Cl (Bo d) x);have h3:=qy (Bo d) x;have e:(Bo d).PH=Cx d:=rfl;rw [e] at h3;simp only [List.map_cons,List.sum_cons,List.flatMap_cons,List.length_append];omega
 have:=Ap d.DI.SD;unfold bits Dp;rw [List.length_append,Hf];show (((Gg d).map F5).sum+_=_);unfold Gg;rw [Hf];simp only [List.map_map] at this ⊢;exact this
theorem UA (d:DI):(Cb d).PH=d.PH∧(decide (d.PH=1)&&(d.SD.map (BV d.PH)).all (·.FK))=false∨d.PH=1∧(Cb d).PH=2:=by
 unfold Cb;cases hq:decide (d.PH=1)&&(d.SD.map (BV d.PH)).all (·.FK) with
 | false=>exact .inl ⟨rfl,rfl⟩
 | true=>rw [Bool.and_eq_true,decide_eq_true_eq] at hq;exact .inr ⟨hq.1,rfl⟩
theorem qI {id ph:Int} {x:SX} (h:Cn id ph x=[]):BV ph x=x:=by
 obtain ⟨p,e,st,f,d,t,bo,ask⟩:=x;unfold Cn at h;unfold BV;rw [List.append_eq_nil_iff] at h;obtain ⟨h1,h2⟩:=h;split at h1
 ·simp at h1
 ·rename_i q1;split at h2
  ·simp at h2
  ·rename_i q2;rw [if_neg q2];unfold DG;rw [if_neg q1]
theorem o9 {id:Int} {nd:Bool} {th:Int} {x:SX} (h:CG id nd th x=[]):Ca nd th x=x:=by
 unfold CG at h;unfold Ca;rw [List.append_eq_nil_iff] at h;obtain ⟨h1,h2⟩:=h;split at h1
 ·simp at h1
 ·rename_i q1;split at h2
  ·simp at h2
  ·rename_i q2;rw [if_neg q2];unfold DW;rw [if_neg q1]
theorem aV {α:Type} {f:α→α}:∀ {l:List α},(∀x∈l,f x=x)→l.map f=l
 | [],_=>rfl
 | x::l,h=>by rw [List.map_cons,h x (by simp),aV fun y hy=>h y (by simp [hy])]
theorem uv {th ph ph' th':Int} (h0:0≤ph) (h2:ph≤2) (d:DK) (hd:d.TH=th∧d.DI.PH=ph) (h1:ph'=Cx d∨Cx d=1∧ph'=2) (ht:th'=th∨th=1∧th'=2):rank th' ph'<rank th ph∨th'=th∧ph'=ph∧Cx d=ph:=by
 obtain ⟨d1,d2⟩:=hd;unfold Cx at h1 ⊢;rw [d1,d2] at h1 ⊢;unfold rank;have hp:ph=0∨ph=1∨ph=2:=by omega
 by_cases h6:th=1
 ·subst h6;rcases hp with rfl | rfl | rfl<;>rcases ht with rfl | ⟨_,rfl⟩<;>simp at h1 ⊢ <;>rcases h1 with rfl | h1<;>simp_all
 ·have:th'=th:=by rcases ht with h | h;exact h;exact absurd h.1 h6
  subst this;rcases hp with rfl | rfl | rfl
  ·simp [h6] at h1 ⊢;rcases h1 with rfl | h1<;>simp_all
  ·simp [h6] at h1 ⊢;rcases h1 with rfl | h1<;>simp_all
  ·cases h8:d.DI.SD.any (fun x=>decide (x.SS=1))<;>simp [h6,h8] at h1 ⊢ <;>simp_all
theorem Y5 {d:DK} (h0:0≤d.DI.PH) (h2:d.DI.PH≤2):AY d=d∧Dp d=[]∨mu (AY d)<mu d:=by
 have hb:=bu d;have hf:=UA (Bo d);have ht:Gh d=d.TH∨d.TH=1∧Gh d=2:=by
  unfold Gh;cases hh:decide (d.TH=1)&&(Gg d).all (fun x=>!Cu d x||x.BO) with
  | false=>left;rfl
  | true=>right;rw [Bool.and_eq_true,decide_eq_true_eq] at hh;exact ⟨hh.1,rfl⟩
 have e1:(AY d).DI.PH=(Cb (Bo d)).PH:=rfl;have e2:(AY d).TH=Gh d:=rfl;have hr:=uv (th':=Gh d) (ph':=(Cb (Bo d)).PH) h0 h2 d ⟨rfl,rfl⟩ (by
  rcases hf with ⟨q,_⟩ | ⟨q1,q2⟩
  ·exact .inl q
  ·exact .inr ⟨q1,q2⟩) ht
 unfold mu;rw [e1,e2];rcases hr with hr | ⟨r1,r2,r3⟩
 ·right;omega
 ·by_cases hm:(Dp d).length=0
  ·left;have hm':Dp d=[]:=List.eq_nil_of_length_eq_zero hm;refine ⟨?_,hm'⟩;unfold Dp at hm';rw [List.append_eq_nil_iff] at hm';obtain ⟨m1,m2⟩:=hm';have h8:∀x∈d.DI.SD,Cl (Bo d) x=x:=fun x hx=>by
    have h6:Cn d.DI.ID (Cx d) x=[]:=by
     have:∀y∈Cn d.DI.ID (Cx d) x,y∈I4 (Bo d):=fun y hy=>List.mem_flatMap.2 ⟨x,hx,hy⟩;rw [m1] at this;cases hc:Cn d.DI.ID (Cx d) x with
     | nil=>rfl
     | cons y l=>exact absurd (this y (by rw [hc];simp)) (by simp)
    have h9:BV (Cx d) x=x:=qI h6;unfold Cl;rw [show (Bo d).PH=Cx d from rfl];split
    ·rename_i hc;exfalso;rcases hf with ⟨q,q'⟩ | ⟨q1,q2⟩
     ·have:=q';rw [show (Bo d).PH=Cx d from rfl] at this;rw [this] at hc;simp at hc
     ·rw [show (Bo d).PH=Cx d from rfl] at q1;rw [q1] at r3;rw [q2] at r2;omega
    ·exact h9
   have hS:(Cb (Bo d)).SD=d.DI.SD:=by rw [Hf];exact aV h8
   have hB:Gg d=d.DI.SD:=by
    unfold Gg;rw [hS];refine aV fun x hx=>?_;have h6:CG d.DI.ID (Cu d x) d.TH x=[]:=by
     rw [hS] at m2;have:∀y∈CG d.DI.ID (Cu d x) d.TH x,y∈d.DI.SD.flatMap fun x=>CG d.DI.ID (Cu d x) d.TH x:=fun y hy=>List.mem_flatMap.2 ⟨x,hx,hy⟩;rw [m2] at this;cases hc:CG d.DI.ID (Cu d x) d.TH x with
     | nil=>rfl
     | cons y l=>exact absurd (this y (by rw [hc];simp)) (by simp)
    exact o9 h6
   unfold AY;rw [hB,r1,r2]
  ·right;rw [r1,r2];omega
theorem jo (id:Int) (f:SX→SX):∀(l:List SX) (q:Int),(∀x∈l,(f x).PE=x.PE∧∀q,D2 id q x=true→D2 id q (f x)=true)→FH id q l=true→FH id q (l.map f)=true
 | [],_,_,_=>rfl
 | x::l,q,h,hk=>by obtain ⟨h1,h2⟩:=h x (by simp);simp only [List.map_cons,FH,Bool.and_eq_true] at hk ⊢;refine ⟨h2 q hk.1,?_⟩;rw [h1];exact jo id f l x.PE (fun y hy=>h y (by simp [hy])) hk.2
theorem jd {d:DI} (h:Ch d=true) {p:Int} (h0:0≤p) (h2:p≤2) (f:SX→SX) (hf:∀x∈d.SD,(f x).PE=x.PE∧∀q,D2 d.ID q x=true→D2 d.ID q (f x)=true):Ch ⟨d.ID,p,d.SD.map f⟩=true:=by simp only [Ch,Bool.and_eq_true,decide_eq_true_eq] at h ⊢;exact ⟨h.1,h0,h2,by simpa using h.2.2.2.1,jo d.ID f d.SD (-1) hf h.2.2.2.2⟩
theorem lz {id q:Int} {x y:SX} (hp:y.PE=x.PE) (he:y.EP=x.EP) (hs:y.SS=x.SS) (hd:(x.DY=true→x.FK=true)→y.DY=true→y.FK=true) (h:D2 id q x=true):D2 id q y=true:=by
 unfold D2 at h ⊢;rw [hp,he,hs];simp only [Bool.and_eq_true] at h ⊢;refine ⟨h.1,h.2.1,h.2.2.1,h.2.2.2.1,h.2.2.2.2.1,h.2.2.2.2.2.1,?_⟩;have h7:=h.2.2.2.2.2.2;cases h6:y.DY with
 | false=>rfl
 | true=>
   have:x.DY=true→x.FK=true:=fun e=>by
    rw [e] at h7;cases hf:x.FK with
    | true=>rfl
    | false=>rw [hf] at h7;simp at h7
   rw [hd this h6];rfl
theorem qB {d:DI} (h:Ch d=true):Ch (Cb d)=true:=by
 have hh:=h;simp only [Ch,Bool.and_eq_true,decide_eq_true_eq] at hh;have hp:0≤(Cb d).PH∧(Cb d).PH≤2:=by
  rcases UA d with ⟨q,_⟩ | ⟨_,q⟩
  ·rw [q];exact ⟨hh.2.1,hh.2.2.1⟩
  ·rw [q];omega
 have:=jd h hp.1 hp.2 (Cl d) fun x hx=>by
  obtain ⟨p1,p2,p3,_⟩:=M8 d x;refine ⟨p1,fun q=>lz p1 p2 p3 fun hd=>?_⟩;unfold Cl;split
  ·rename_i hc;rw [Bool.and_eq_true,List.all_eq_true] at hc;exact fun _=>hc.2 (BV d.PH x) (List.mem_map_of_mem hx)
  ·exact qx _ _ hd
 rw [←Hf] at this;rw [show Cb d=⟨d.ID,(Cb d).PH,(Cb d).SD⟩ by rw [←Zr d]];exact this
theorem bw {d:DK} (h:Ch d.DI=true):Ch (AY d).DI=true:=by
 have h1:=qB (jB h);have hh:=h1;simp only [Ch,Bool.and_eq_true,decide_eq_true_eq] at hh;have:=jd h1 hh.2.1 hh.2.2.1 (fun x=>Ca (Cu d x) d.TH x) fun x _=>by obtain ⟨p1,p2,p3,p4,p5,_⟩:=Pf (Cu d x) d.TH x;exact ⟨p1,fun q=>lz p1 p2 p3 fun hd e=>by rw [p4];rw [p5] at e;exact hd e⟩
 rw [Zr] at this;exact this
def Cm:Nat→DK→List ML→DK×List ML
 | 0,d,out=>(d,out)
 | n+1,d,out=>if AY d=d then (d,out) else Cm n (AY d) (out++Dp d)
def Bv (d:DK):DK×List ML:=Cm 300 d []
theorem TJ (l m:List Int) (hl:l.length≤1000000):Iy l m=some (decide (l=m)):=by
 simp only [Iy,Mp];by_cases h:l.length=m.length
 ·simp only [h,decide_true,Bool.not_true,Aa];rw [Mq l m _ (fun x y=>decide (x=y)) h Om (fun k x y hx hy=>by simp only [Xe,AQ hx,Ag,Ar hx,Ar hy,OB,EA hx (show l.length≤4000000000000000000 by omega),Je];cases decide (x=y)<;>rfl) (by simp only [Xe,AT,Aa,Xd,Option.map_some]),LK l m h]
 ·simp [h,Mo h]
theorem Yk (i p t:Int) (S:List SX) (N:List Int) (hs:S.length≤1000000) (hn:N.length≤1000000):Jq i p t S N=some (S,N):=by simp only [Jq,Lz _ hs,Ex _ hn,OB,V5]
theorem kC (a b:DK) (hs:a.DI.SD.length≤1000000) (hn:a.NE.length≤1000000):MN a b=some (decide (a=b)):=by obtain ⟨⟨i,p,s⟩,t,n⟩:=a;obtain ⟨⟨i',p',s'⟩,t',n'⟩:=b;simp only at hs hn;simp only [MN,UY,ME,MO,uZ s s' hs,TJ n n' hn,OB,DK.mk.injEq,DI.mk.injEq];by_cases h1:i=i'<;>by_cases h2:p=p'<;>by_cases h3:s=s'<;>by_cases h4:t=t'<;>by_cases h5:n=n'<;>simp [h1,h2,h3,h4,h5]
theorem Zb (l:List SX):bits l≤4*l.length:=by
 induction l with
 | nil=>simp [bits]
 | cons x l ih=>
   have:F5 x≤4:=by unfold F5 bn;split<;>split<;>split<;>split<;>omega
   unfold bits at ih ⊢;simp only [List.map_cons,List.sum_cons,List.length_cons];omega
theorem gT {d:DK} (h:Ch d.DI=true):mu d≤257:=by
 have h1:=H2 h;have h2:=Zb d.DI.SD;have:rank d.TH d.DI.PH≤5:=by unfold rank;(repeat' split)<;>omega
 unfold mu;omega
theorem Y2 {d:DI} (h:Ch d=true):0≤d.PH∧d.PH≤2:=by simp only [Ch,Bool.and_eq_true,decide_eq_true_eq] at h;exact ⟨h.2.1,h.2.2.1⟩
theorem qJ (J:List SX) (N:List Int) (E:N.length≤1000000):∀(n:Nat) (d:DK) (out:List ML),d.NE=N→Ch d.DI=true→mu d≤n→out.length+bits d.DI.SD≤600000→
  loop (Qg (J,N)) (d.DI.ID,d.DI.PH,d.TH,d.DI.SD,out)=some ((Cm (n+1) d out).1.DI.ID,(Cm (n+1) d out).1.DI.PH,(Cm (n+1) d out).1.TH,0,(Cm (n+1) d out).1.DI.SD,N,(Cm (n+1) d out).2):=fun n=>by
 have step:∀(d:DK) (out:List ML),d.NE=N→Ch d.DI=true→out.length+bits d.DI.SD≤600000→Qg (J,N) (d.DI.ID,d.DI.PH,d.TH,d.DI.SD,out)=if AY d=d then some (.inr (d.DI.ID,d.DI.PH,d.TH,0,d.DI.SD,N,out)) else some (.inl ((AY d).DI.ID,(AY d).DI.PH,(AY d).TH,(AY d).DI.SD,out++Dp d)):=fun d out hd hk ho=>by
  have hl:=H2 hk;have hp:=Y2 hk;have e:(⟨⟨d.DI.ID,d.DI.PH,d.DI.SD⟩,d.TH,N⟩:DK)=d:=by rw [←hd]
  dsimp only [Qg];have h6:=vY d hk (by rw [hd];exact E) out Om;rw [hd] at h6;rw [Yk _ _ _ _ _ Om E,OB,h6,OB];dsimp only;have e2:(⟨⟨(AY d).DI.ID,(AY d).DI.PH,(AY d).DI.SD⟩,(AY d).TH,N⟩:DK)=AY d:=by rw [←hd];rfl
  rw [e,e2,kC d _ Om (by rw [hd];exact E),OB];dsimp only [UZ,V0];by_cases hq:AY d=d
  ·rw [if_pos hq,DT hq.symm,Ag];have hm:Dp d=[]:=by
    rcases Y5 hp.1 hp.2 with h1 | h1
    ·exact h1.2
    ·rw [hq] at h1;omega
   rw [hm,List.append_nil,hq];rfl
  ·rw [if_neg hq,DN fun e=>hq e.symm,Aa]
 induction n with
 | zero=>
   intro d out hd hk hm ho;have hp:=Y2 hk;have hq:AY d=d:=by
    rcases Y5 hp.1 hp.2 with h1 | h1
    ·exact h1.1
    ·omega
   rw [Bn,step d out hd hk ho,if_pos hq];unfold Cm;rw [if_pos hq]
 | succ n ih=>
   intro d out hd hk hm ho;have hp:=Y2 hk;rw [Bn,step d out hd hk ho];unfold Cm;by_cases hq:AY d=d
   ·rw [if_pos hq,if_pos hq]
   ·rw [if_neg hq,if_neg hq];have hb:=bu d;refine ih (AY d) (out++Dp d) hd (bw hk) ?_ (by rw [List.length_append];omega);rcases Y5 hp.1 hp.2 with h1 | h1
    ·exact absurd h1.1 hq
    ·omega
def Gf:Option Int→List Int→Bool
 | _,[]=>true
 | p,x::r=>(match p with | none=>true | some q=>decide (q<x))&&Gf (some x) r
def Jd (d:DI) (p:Int):Bool:=d.SD.any fun x=>decide (x.PE=p)
def EQ (d:DK):Bool:=Ch d.DI&&(decide (0≤d.TH)&&(decide (d.TH≤2)&&(Gf none d.NE&&(!(decide (d.TH=0)&&decide (0<d.NE.length))&&d.NE.all (Jd d.DI)))))
theorem kS (l:List Int) (hl:l.length≤1000000):HE l=some (Gf none l):=by
 unfold HE;refine Jj l (JR l) (fun pre=>(pre.length:Int)) (fun pre post=>some (Gf pre.getLast? post)) (fun pre x post h=>?_) ?_
 ·have hx:=BL h;have hm:=BG h;have j2:∀z,JQ (pre.length:Int) z=if z then some (.inr false) else some (.inl ((pre.length+1:Nat):Int)):=fun z=>by
   cases z with
   | true=>rfl
   | false=>dsimp only [JQ];rw [Aa,AC Om];rfl
  dsimp only [JR];rw [AQ hx,Ag];rcases List.eq_nil_or_concat pre with rfl | ⟨q,y,rfl⟩
  ·left;rw [show decide ((0:Int)<(([]:List Int).length:Nat))=false from rfl,Aa,j2];exact ⟨rfl,rfl⟩
  ·rw [List.concat_eq_append] at *;have hy:l[q.length]?=some y:=by rw [h];simp
   rw [DT (show (0:Int)<((q++[y]).length:Nat) by rw [AW];omega),Ag];have e1:wr (((q++[y]).length:Nat)-1)=(q.length:Int):=by rw [AW] at hm ⊢;rw [D4 Om Om];omega
   rw [e1,Ar hy,OB,Ar hx,OB,j2];by_cases hc:x≤y
   ·right;refine ⟨false,by rw [DT hc];rfl,?_⟩;have:¬y<x:=by omega
    simp [Gf,this]
   ·left;have:y<x:=by omega
    refine ⟨by rw [DN hc,AW (q++[y])];rfl,?_⟩;simp [Gf,this]
 ·dsimp only [JR];rw [AT,Aa];rfl
theorem Yj (d:DK) (hn:d.NE.length≤1000000):Jm d=some (if EQ d then 0 else 150):=by
 simp only [Jm,c7,OB];unfold EQ;cases hk:Ch d.DI with
 | false=>rfl
 | true=>
   have hl:=H2 hk;rw [if_pos rfl,show decide ((0:Int)=0)=true from rfl,Bool.not_true,Aa];by_cases h1:d.TH<0
   ·rw [DT h1,Ag,DN (show ¬0≤d.TH by omega)];rfl
   ·rw [DN h1,Aa,DT (show 0≤d.TH by omega)];by_cases h2:2<d.TH
    ·rw [DT h2,DN (show ¬d.TH≤2 by omega)];rfl
    ·rw [DN h2,DT (show d.TH≤2 by omega)];dsimp only [MH];rw [Aa,kS _ hn,OB];cases hv:Gf none d.NE with
     | false=>rfl
     | true=>
       rw [Bool.not_true,Aa];have j3:∀z,MJ d z=some (if (!z&&d.NE.all (Jd d.DI))=true then 0 else 150):=fun z=>by
        cases z with
        | true=>rfl
        | false=>dsimp only [MJ];rw [Aa,K1 d.NE (fun z=>MF z d) (fun p=>!Jd d.DI p) Om (fun p _=>by simp only [MF];rw [TI d.DI.SD (fun z=>Qc z p) (fun x=>decide (x.PE=p)) Om (fun x _=>rfl),OB];rfl),OB];have e1:d.NE.any (fun p=>!Jd d.DI p)=!d.NE.all (Jd d.DI):=Kf _ _ _ fun _=>rfl;rw [e1];cases d.NE.all (Jd d.DI)<;>rfl
       rw [AX];simp only [j3,Bool.true_and];have e3:decide ((0:Int)<(d.NE.length:Nat))=decide (0<d.NE.length):=by rw [decide_eq_decide];omega
       rw [e3];cases decide (d.TH=0)<;>rfl
theorem OK {d:DK} (h:EQ d=true):Ch d.DI=true:=by unfold EQ at h;rw [Bool.and_eq_true] at h;exact h.1
theorem fa:∀(n:Nat) (d:DK) (out:List ML),(Cm n d out).1.NE=d.NE
 | 0,_,_=>rfl
 | n+1,d,out=>by
   unfold Cm;split
   ·rfl
   ·rw [fa n];rfl
theorem vz (d:DK) (hk:EQ d=true) (hn:d.NE.length≤1000000):MK d.DI.ID d.DI.PH d.TH d.DI.SD d.NE=some ((Bv d).1.DI.ID,(Bv d).1.DI.PH,(Bv d).1.TH,0,(Bv d).1.DI.SD,d.NE,(Bv d).2):=by have h6:=OK hk;have hl:=H2 h6;have hb:=Zb d.DI.SD;have hm:=gT h6;dsimp only [MK];rw [show (⟨⟨d.DI.ID,d.DI.PH,d.DI.SD⟩,d.TH,d.NE⟩:DK)=d from rfl,Yj d hn,OB,if_pos hk,show decide ((0:Int)=0)=true from rfl,Bool.not_true,Aa,Yk _ _ _ _ _ Om hn,OB,qJ _ d.NE hn 299 d [] rfl h6 Om (by simp only [List.length_nil];omega)];rfl
theorem vy (d:DK) (hk:EQ d=true) (hn:d.NE.length≤1000000):Qf d.DI.ID d.DI.PH d.TH d.DI.SD d.NE=some (if d.TH=0 then (0,0,152,[]) else (d.DI.ID,d.DI.PH,0,d.DI.SD)):=by
 have hl:=H2 (OK hk);dsimp only [Qf];rw [show (⟨⟨d.DI.ID,d.DI.PH,d.DI.SD⟩,d.TH,d.NE⟩:DK)=d from rfl,Yj d hn,OB,if_pos hk,show decide ((0:Int)=0)=true from rfl,Bool.not_true,Aa];by_cases h1:d.TH=0
 ·rw [DT h1,Ag,if_pos h1]
 ·rw [DN h1,Aa,if_neg h1,Yk _ _ _ _ _ Om hn,OB]
def BF (k:Int) (x:SX):Bool:=if k=1 then x.FK else if k=2 then x.TO else if k=4 then x.Ask else x.BO
def CP (k:Int) (x:SX):SX:=if k=1 then {x with FK:=true} else if k=2 then {x with TO:=true} else if k=4 then {x with Ask:=true} else {x with BO:=true}
theorem vx (i p E:Int) (m:Msg) (S:List SX) (hk:Ch ⟨i,p,S⟩=true) {j:Nat} {x:SX} (hf:S.findIdx? (fun x=>decide (x.PE=E)&&decide (x.EP=m.EP))=some j) (hx:S[j]?=some x) (h0:m.Num=0) (hm:m.KI=1∨m.KI=2):
  Q7 i p E m S=some (if BF m.KI x then (0,0,132,[]) else (i,p,0,S.set j (CP m.KI x))):=by
 have hl:S.length<64:=H2 hk;dsimp only [Q7];rw [c7,if_pos hk,OB,show decide ((0:Int)=0)=true from rfl,Bool.not_true,Aa,TK S (fun z=>MB z E m) (fun x=>decide (x.PE=E)&&decide (x.EP=m.EP)) Om (fun x _=>by simp only [MB,Q6];cases decide (x.PE=E)<;>rfl),OB,jA,hf,Option.isNone_some,Aa,Lz S Om,OB];dsimp only [Br];rw [Ar hx,OB];dsimp only [Q8,Q9,Qb];rw [DT h0,Int.toNat_natCast];rcases hm with hm | hm
 ·rw [hm,show decide ((1:Int)=1)=true from rfl,Ag,Ag];simp only [BF,CP,if_true];cases x.FK<;>rfl
 ·rw [hm,show decide ((2:Int)=1)=false from rfl,Aa,Aa,show decide ((2:Int)=2)=true from rfl,Ag,Ag];simp only [BF,CP,if_true,show ¬(2:Int)=1 by omega,if_false];cases x.TO<;>rfl
theorem vA (d:DK) (E:Int) (m:Msg) (hk:EQ d=true) (hn:d.NE.length≤1000000) {j:Nat} {x:SX} (hf:d.DI.SD.findIdx? (fun x=>decide (x.PE=E)&&decide (x.EP=m.EP))=some j) (hx:d.DI.SD[j]?=some x) (h0:m.Num=0) (hm:1≤m.KI∧m.KI≤4):
  Qj d.DI.ID d.DI.PH d.TH E m d.DI.SD d.NE=some (if BF m.KI x then (0,0,0,132,[],[]) else (d.DI.ID,d.DI.PH,d.TH,0,d.DI.SD.set j (CP m.KI x),d.NE)):=by
 have hl:=H2 (OK hk);dsimp only [Qj];rw [show (⟨⟨d.DI.ID,d.DI.PH,d.DI.SD⟩,d.TH,d.NE⟩:DK)=d from rfl,Yj d hn,if_pos hk,OB,show decide ((0:Int)=0)=true from rfl,Bool.not_true,Aa,Yk _ _ _ _ _ Om hn,OB];dsimp only;rw [TK d.DI.SD (fun z=>MM z E m) (fun x=>decide (x.PE=E)&&decide (x.EP=m.EP)) Om (fun x _=>by simp only [MM,Qh];cases decide (x.PE=E)<;>rfl),OB,jA,hf,Option.isNone_some,Aa,DT h0,Bool.not_true,Aa];have hd:=fun hm=>vx d.DI.ID d.DI.PH E m d.DI.SD (OK hk) hf hx h0 hm;have j1:(m.KI=1∨m.KI=2)→Ho d.DI.ID d.DI.PH d.TH E m (d.DI.SD,d.NE) (Br (some j)) true=some (if BF m.KI x then (0,0,0,132,[],[]) else (d.DI.ID,d.DI.PH,d.TH,0,d.DI.SD.set j (CP m.KI x),d.NE)):=fun hq=>by dsimp only [Ho];rw [Ag,hd hq,OB];cases BF m.KI x<;>rfl
 have j0:(m.KI=3∨m.KI=4)→Ho d.DI.ID d.DI.PH d.TH E m (d.DI.SD,d.NE) (Br (some j)) false=some (if BF m.KI x then (0,0,0,132,[],[]) else (d.DI.ID,d.DI.PH,d.TH,0,d.DI.SD.set j (CP m.KI x),d.NE)):=fun hq=>by
  dsimp only [Ho,Br];rw [Aa,Ar hx,OB,Int.toNat_natCast];rcases hq with hq | hq
  ·rw [hq,show decide ((3:Int)=4)=false from rfl,Aa];simp only [BF,CP,show ¬(3:Int)=1 by omega,show ¬(3:Int)=2 by omega,show ¬(3:Int)=4 by omega,if_false];cases x.BO<;>rfl
  ·rw [hq,show decide ((4:Int)=4)=true from rfl,Ag];simp only [BF,CP,show ¬(4:Int)=1 by omega,show ¬(4:Int)=2 by omega,if_false,if_true];cases x.Ask<;>rfl
 by_cases k3:m.KI=3
 ·rw [DT k3,Bool.not_true,Aa];exact j0 (.inl k3)
 ·rw [DN k3,Bool.not_false,Ag];by_cases k4:m.KI=4
  ·rw [DT k4,Bool.not_true];exact j0 (.inr k4)
  ·rw [DN k4,Bool.not_false];exact j1 Om
structure FewN (n:NO):Prop where
 sides:n.DK.DI.SD.length≤100000
 need:n.DK.NE.length≤100000
 book:n.BK.SE.length≤100000
 needs:∀s∈n.BK.SE,s.NE.length≤100000
 known:n.KN.length≤100000
 told:n.TL.length≤100000
 asked:n.AK.length≤100000
theorem FewN.bk {n:NO} (h:FewN n):DF n.BK:=⟨by have:=h.book;omega,fun s hs=>by have:=h.needs s hs;omega⟩
def D1 (n:NO) (q:SX→Bool):List Int:=(n.DK.DI.SD.filter q).map (·.PE)
theorem cf (n:NO) (hn:FewN n) (p:SX→Option Bool) (q:SX→Bool) (hp:∀x∈n.DK.DI.SD,p x=some (q x)):L5 n p=some (D1 n q):=by
 have hl:=hn.sides;unfold L5;refine D0 n.DK.DI.SD _ (fun pre=>((pre.length:Int),(pre.filter q).map (·.PE))) _ (fun pre x post h=>?_) ?_
 ·have hx:=BL h;have hm:=BG h;have hf:=List.length_filter_le q pre;dsimp only [WR];rw [AQ hx,Ag,Ar hx,OB,hp x (Di h),OB];cases hq:q x with
  | true=>rw [Ag,B5 _ _ Om (by simp;omega),OB];dsimp only [NR];rw [AC Om,AW];simp [hq]
  | false=>rw [Aa];dsimp only [NR];rw [AC Om,AW];simp [hq]
 ·dsimp only [WR];rw [AT,Aa];rfl
def Dy (x:SX):Bool:=decide (x.SS=0)
def ER (x:SX):Bool:=decide (x.SS=1)
def G6 (x:SX):Bool:=decide (x.SS=3)
theorem ve (n:NO) (hn:FewN n):Rq n=some (D1 n Dy):=by simp only [Rq,cf n hn (fun z=>Hx z) Dy (fun _ _=>rfl),OB]
def BR (K:List KE) (p:Int):Int:=match K.find? (fun k=>decide (k.PE=p)) with | some k=>k.EP | none=>0
theorem c9 (n:NO) (hn:FewN n) (p:Int):KU n p=some (BR n.KN p):=by
 have hl:=hn.known;unfold KU;refine Jj n.KN _ (fun pre=>(pre.length:Int)) (fun _ post=>some (BR post p)) (fun pre x post h=>?_) ?_
 ·have hx:=BL h;have hm:=BG h;dsimp only [Wl];rw [AQ hx,Ag,Ar hx,OB];by_cases hq:x.PE=p
  ·right;exact ⟨x.EP,by rw [DT hq];rfl,by simp [BR,hq]⟩
  ·left;exact ⟨by rw [DN hq,Aa,AC Om,AW],by simp [BR,hq]⟩
 ·dsimp only [Wl];rw [AT,Aa];rfl
def Fj (n:NO) (k:KE):Bool:=!n.DK.DI.SD.any (fun x=>decide (x.PE=k.PE))&&(decide (0≤k.PE)&&(decide (k.PE<n.DK.DI.ID)&&(decide (BR n.KN k.PE<k.EP)&&decide (k.EP≤65535))))
theorem ca (n:NO) (hn:FewN n) (k:KE):Nx n k=some (Fj n k):=by have hl:=hn.sides;simp only [Nx,TI n.DK.DI.SD (fun z=>RM z k) (fun x=>decide (x.PE=k.PE)) Om (fun _ _=>rfl),OB,c9 n hn,JJ];unfold Fj;cases n.DK.DI.SD.any (fun x=>decide (x.PE=k.PE))<;>cases decide (0≤k.PE)<;>cases decide (k.PE<n.DK.DI.ID)<;>cases decide (BR n.KN k.PE<k.EP)<;>rfl
def EG (l:List KE):Bool:=decide (l.map (·.PE)).Nodup
theorem c8 (l:List KE) (hl:l.length≤1000000):Nv l=some (EG l):=by
 unfold Nv;have Ap:=gw l (Ru l) (fun pre=>(pre.length:Int)) (fun pre post=>some (EG (pre++post))) (fun pre=>(pre.map (·.PE)).Nodup) (fun pre x post h hI=>?_) (fun hI=>?_) l [] rfl (by simp)
 ·exact Ap
 ·have hx:=BL h;have hm:=BG h;have h6:D3 l 0 (pre.length:Int)=some pre:=by unfold D3;rw [if_pos ⟨Om,Om,Om⟩,h];simp
  dsimp only [Ru];rw [AQ hx,Ag,Ar hx,OB,h6,OB,kb pre (fun z=>Rt z x) (fun y=>decide (y.PE=x.PE)) Om (fun _ _=>rfl),OB];cases ha:pre.any (fun y=>decide (y.PE=x.PE)) with
  | true=>
    right;refine ⟨false,rfl,?_⟩;have:¬((pre++x::post).map (·.PE)).Nodup:=by rw [List.any_eq_true] at ha;obtain ⟨y,hy,hq⟩:=ha;rw [List.map_append,List.map_cons,List.nodup_append];rintro ⟨_,_,h3⟩;exact h3 y.PE (List.mem_map.2 ⟨y,hy,rfl⟩) x.PE (by simp) (by simpa using hq)
    unfold EG;rw [DN this]
  | false=>left;rw [List.any_eq_false] at ha;refine ⟨by rw [Aa,AC Om,AW],?_,by simp [EG]⟩;rw [List.map_append,List.nodup_append];refine ⟨hI,by simp,?_⟩;intro a ha' b hb;obtain ⟨y,hy,rfl⟩:=List.mem_map.1 ha';simp at hb;subst hb;have:=ha y hy;simpa using this
 ·dsimp only [Ru];rw [AT,Aa,List.append_nil];have:EG l=true:=by unfold EG;exact DT hI
  rw [this];rfl
def HO:Int→List KE→Bool
 | _,[]=>true
 | q,k::l=>(decide (q<k.PE)&&(decide (k.PE<64)&&(decide (1≤k.EP)&&decide (k.EP≤65535))))&&HO k.PE l
def Mh (q:Int) (pre:List KE):Int:=match pre.getLast? with | some x=>x.PE | none=>q
theorem g6 (q:Int) (pre:List KE) (x:KE):Mh q (pre++[x])=x.PE:=by simp [Mh]
theorem w8 (l:List KE) (hl:l.length≤1000000) (q:Int):∃z,SY l q=some (!HO q l,z):=by
 have s1:∀(k:KE) (q:Int),Ry k q=some (!(decide (q<k.PE)&&(decide (k.PE<64)&&(decide (1≤k.EP)&&decide (k.EP≤65535))))):=fun k q=>by simp only [Ry,KS];cases decide (q<k.PE)<;>cases decide (k.PE<64)<;>cases decide (1≤k.EP)<;>rfl
 have Ap:∀(post pre:List KE),l=pre++post→∃r z,loop (On l) ((pre.length:Int),Mh q pre)=some (r,z)∧decide (0≤r)=!HO (Mh q pre) post:=by
  intro post;induction post with
  | nil=>
    intro pre h;have h:pre=l:=by simpa using h.symm
    subst h;refine ⟨-1,Mh q pre,?_,rfl⟩;rw [Bn];dsimp only [On];rw [AT,Aa];rfl
  | cons x post ih=>
    intro pre h;have hx:=BL h;have hm:=BG h;rw [Bn];dsimp only [On];rw [AQ hx,Ag,Ar hx,OB,s1,OB];cases hk:(decide (Mh q pre<x.PE)&&(decide (x.PE<64)&&(decide (1≤x.EP)&&decide (x.EP≤65535)))) with
    | false=>exact ⟨pre.length,x.PE,rfl,by simp only [HO,hk,Bool.false_and,Bool.not_false];exact DT Om⟩
    | true=>
      obtain ⟨r,z,h1,h2⟩:=ih (pre++[x]) (by simpa using h);refine ⟨r,z,?_,?_⟩
      ·rw [Bool.not_true,Aa,AC Om];rw [AW,g6] at h1;exact h1
      ·rw [h2,g6];simp only [HO,hk,Bool.true_and]
 obtain ⟨r,z,h1,h2⟩:=Ap l [] rfl;refine ⟨z,?_⟩;have h1:loop (On l) (0,q)=some (r,z):=h1;simp only [SY,Xk,h1,OB,h2];rfl
def IL (n:NO) (x:SX):Bool:=decide (x.PE<64)&&(decide (1≤x.EP)&&(decide (BR n.KN x.PE=x.EP)&&!((decide (x.SS=1)||decide (x.SS=3))&&decide (x.PE<n.DK.DI.ID))))
theorem vF (n:NO) (hn:FewN n) (x:SX):JG x n=some (!IL n x):=by
 simp only [JG,Rw,JH,c9 n hn,OB];unfold IL;by_cases h1:x.PE<64
 ·rw [DT h1,DN (show ¬64≤x.PE by omega)];by_cases h2:1≤x.EP
  ·rw [DT h2,DN (show ¬x.EP<1 by omega)];cases decide (BR n.KN x.PE=x.EP)<;>cases decide (x.SS=1)<;>cases decide (x.SS=3)<;>cases decide (x.PE<n.DK.DI.ID)<;>rfl
  ·rw [DN h2,DT (show x.EP<1 by omega)];cases decide (x.SS=1)<;>rfl
 ·rw [DN h1,DT (show 64≤x.PE by omega)];cases decide (x.SS=1)<;>rfl
def UQ (n:NO):Bool:=decide (n.DK.DI.ID<64)&&(HO (-1) n.KN&&(n.DK.DI.SD.all (IL n)&&(Gf none n.TL&&n.TL.all fun z=>decide (z∈D1 n ER))))
def Po (n:NO):Bool:=n.AK.all (Fj n)&&(EG n.AK&&UQ n)
theorem Yb (n:NO) (q:SX→Bool):(D1 n q).length≤n.DK.DI.SD.length:=by unfold D1;rw [List.length_map];exact List.length_filter_le _ _
theorem vE (n:NO) (hn:FewN n):Rv n=some (Po n):=by
 have h1:=hn.asked;have h2:=hn.known;have h3:=hn.sides;have h4:=hn.told;have h5:=Yb n ER;obtain ⟨z,hz⟩:=w8 n.KN Om (-1);have hk:∃z,RJ n (-1) (fun z=>JG z n)=some (UQ n,z):=by
  simp only [RJ,JI,hz,OB,TI n.DK.DI.SD (fun z=>JG z n) (fun x=>!IL n x) Om (fun x _=>vF n hn x),kS n.TL Om,cf n hn (fun z=>Iq z) ER (fun _ _=>rfl),OV n.TL (D1 n ER) Om Om];unfold UQ;have e1:n.DK.DI.SD.any (fun x=>!IL n x)=!n.DK.DI.SD.all (IL n):=Kf _ _ _ fun _=>rfl;rw [e1];cases decide (n.DK.DI.ID<64) with
  | false=>exact ⟨-1,rfl⟩
  | true=>cases HO (-1) n.KN with
    | false=>exact ⟨z,rfl⟩
    | true=>cases n.DK.DI.SD.all (IL n) with
      | false=>exact ⟨z,rfl⟩
      | true=>cases Gf none n.TL with
        | false=>exact ⟨z,rfl⟩
        | true=>exact ⟨z,rfl⟩
 obtain ⟨z',hk⟩:=hk;have e2:n.AK.any (fun k=>!Fj n k)=!n.AK.all (Fj n):=Kf _ _ _ fun _=>rfl;simp only [Rv,kb n.AK (fun z=>Nw z n) (fun k=>!Fj n k) Om (fun k _=>by simp only [Nw,ca n hn,OB]),OB,e2,c8 n.AK Om,Rz,hk];unfold Po;cases n.AK.all (Fj n)<;>cases EG n.AK<;>rfl
def lk:SE:=⟨0,[],0,0⟩
theorem vG (n:NO):RD n=some (match n.BK.SE with | []=>(lk,false) | s::_=>(s,true)):=by
 simp only [RD,AX];cases h:n.BK.SE with
 | nil=>rfl
 | cons s l=>rw [DN (by simp;omega),Aa];rfl
def I8 (n:NO):Bool:=match n.BK.SE with | []=>false | s::_=>decide (s.SS=1)
def Mf (n:NO):Bool:=match n.BK.SE with | []=>false | s::_=>decide (s.NE=n.DK.NE)
def IM (n:NO) (s:SE):Bool:=!(decide (s.SS=0)&&!s.NE.all fun z=>decide (z∈D1 n Dy))
def U1 (n:NO):Bool:=(decide (n.DK.TH=2)==I8 n)&&((decide (n.DK.TH=0)||Mf n)&&(!n.DK.NE.any (fun z=>decide (z∈D1 n G6))&&n.BK.SE.all (IM n)))
theorem uP (a b:List Int) (ha:a.length≤1000000) (hb:b.length≤1000000):SJ a b=some ((Bm a).filter fun z=>decide (z∈b)):=by simp only [SJ];rw [kH a (fun z=>O7 z b) (fun z=>decide (z∈b)) ha (fun x _=>by simp only [O7,Gi b x hb,OB]),OB]
theorem wl (n:NO) (hn:FewN n):Sn n=some (U1 n):=by
 have h3:=hn.sides;have h4:=hn.need;have h5:=hn.book;have h6:=Yb n G6;have h7:=Yb n Dy;have hc:Lg n.BK.SE (fun z=>NT z n)=some (n.BK.SE.any fun s=>!IM n s):=kc _ _ _ Om fun s hs=>by have:=hn.needs s hs;simp only [NT,Sp,ve n hn,OB,OV s.NE (D1 n Dy) Om Om];unfold IM;cases decide (s.SS=0)<;>cases (s.NE.all fun z=>decide (z∈D1 n Dy))<;>rfl
 have e1:(n.BK.SE.any fun s=>!IM n s)=!n.BK.SE.all (IM n):=Kf _ _ _ fun _=>rfl;have j2:∀z,JO n z=some (!z&&(!n.DK.NE.any (fun z=>decide (z∈D1 n G6))&&n.BK.SE.all (IM n))):=fun z=>by
  cases z with
  | true=>rfl
  | false=>
    dsimp only [JO,Sr];rw [Aa,cf n hn (fun z=>So z) G6 (fun _ _=>rfl),OB,uP _ _ Om Om,OB,hc,e1,AX];have e2:decide (((((Bm n.DK.NE).filter fun z=>decide (z∈D1 n G6)).length:Nat):Int)=0)=!n.DK.NE.any (fun z=>decide (z∈D1 n G6)):=by
     have hm:=(DO n.DK.NE).2;cases ha:n.DK.NE.any (fun z=>decide (z∈D1 n G6)) with
     | true=>rw [List.any_eq_true] at ha;obtain ⟨x,hx,hq⟩:=ha;refine DN fun e=>?_;have:((Bm n.DK.NE).filter fun z=>decide (z∈D1 n G6))=[]:=List.length_eq_zero_iff.1 Om;have h8:x∈((Bm n.DK.NE).filter fun z=>decide (z∈D1 n G6)):=List.mem_filter.2 ⟨(hm x).2 hx,hq⟩;rw [this] at h8;simp at h8
     | false=>
       rw [List.any_eq_false] at ha;refine DT ?_;have:((Bm n.DK.NE).filter fun z=>decide (z∈D1 n G6))=[]:=by rw [List.filter_eq_nil_iff];intro x hx;exact ha x ((hm x).1 hx)
       rw [this];rfl
    rw [e2];cases n.DK.NE.any (fun z=>decide (z∈D1 n G6)) with
    | true=>rfl
    | false=>rw [Bool.not_false,Ag,OB];cases n.BK.SE.all (IM n)<;>rfl
 simp only [Sn,vG,OB,Sq,j2];unfold U1 I8 Mf;cases hb:n.BK.SE with
 | nil=>simp only [Aa,Bool.not_false,Bool.not_true];cases decide (n.DK.TH=2)<;>cases decide (n.DK.TH=0)<;>simp [A0]
 | cons s l=>have hs:=hn.needs s (by rw [hb];simp);simp only [Ag,TJ s.NE n.DK.NE Om,OB,Bool.not_true,Aa];cases decide (s.SS=1)<;>cases decide (n.DK.TH=2)<;>cases decide (n.DK.TH=0)<;>cases decide (s.NE=n.DK.NE)<;>simp [A0]
def Ls (n:NO):Bool:=EQ n.DK&&(Cw n.BK&&(Po n&&U1 n))
theorem Ym (n:NO) (hn:FewN n):Io n=some (if Ls n then 0 else 180):=by
 have h4:=hn.need;simp only [Io,KO,Yj n.DK Om,LB n.BK hn.bk,vE n hn,wl n hn,OB];unfold Ls;cases EQ n.DK with
 | false=>rfl
 | true=>cases Cw n.BK with
   | false=>rfl
   | true=>cases Po n with
     | false=>rfl
     | true=>cases U1 n<;>rfl
def AH {α:Type} (l:List α) (Ap:α→Int) (p:Int):Nat:=(l.takeWhile fun x=>decide (Ap x<p)).length
theorem lY {α:Type} (q:α→Bool):∀(l:List α) (k:Nat),k≤l.length→(∀i x,l[i]?=some x→i<k→q x=true)→(∀x,l[k]?=some x→q x=false)→(l.takeWhile q).length=k
 | [],k,h,_,_=>by simp at h;simp [h]
 | x::l,0,_,_,h=>by simp [h x rfl]
 | x::l,k+1,hk,h1,h2=>by rw [List.takeWhile_cons,if_pos (h1 0 x rfl Om),List.length_cons,lY q l k (by simpa using hk) (fun i y hy hi=>h1 (i+1) y (by simpa using hy) Om) fun y hy=>h2 y (by simpa using hy)]
theorem dS {α β:Type} (l:List α) (Ap:α→Int) (p:Int) (body:Int×Int→Option ((Int×Int) ⊕ β)) (E:Nat→Option β) (hs:l.Pairwise fun x y=>Ap x<Ap y)
  (h1:∀(lo hi:Nat) x,lo<hi→hi≤l.length→l[(lo+hi) / 2]?=some x→body ((lo:Int),(hi:Int))=some (.inl (if Ap x<p then ((((lo+hi) / 2+1:Nat):Int),(hi:Int)) else ((lo:Int),(((lo+hi) / 2:Nat):Int)))))
  (h2:∀lo:Nat,lo≤l.length→body ((lo:Int),(lo:Int))=(E lo).map .inr):
  ∀(n lo hi:Nat),hi-lo≤n→lo≤hi→hi≤l.length→(∀i x,l[i]?=some x→i<lo→Ap x<p)→(∀i x,l[i]?=some x→hi≤i→¬Ap x<p)→loop body ((lo:Int),(hi:Int))=E (AH l Ap p):=by
 intro n;have stop:∀lo,lo≤l.length→(∀i x,l[i]?=some x→i<lo→Ap x<p)→(∀i x,l[i]?=some x→lo≤i→¬Ap x<p)→loop body ((lo:Int),(lo:Int))=E (AH l Ap p):=by intro lo hl a b;have:AH l Ap p=lo:=lY _ l lo hl (fun i x hx hi=>DT (a i x hx hi)) fun x hx=>DN (b lo x hx (Nat.le_refl _));rw [Bn,h2 lo hl,this];cases E lo<;>rfl
 have mono:∀ {i j:Nat} {x y:α},l[i]?=some x→l[j]?=some y→i<j→Ap x<Ap y:=by intro i j x y hx hy h8;rw [List.pairwise_iff_getElem] at hs;obtain ⟨a,rfl⟩:=List.getElem?_eq_some_iff.1 hx;obtain ⟨b,rfl⟩:=List.getElem?_eq_some_iff.1 hy;exact hs i j a b h8
 induction n with
 | zero=>
   intro lo hi hn h9 h6 a b;have:lo=hi:=by omega
   subst this;exact stop lo h6 a b
 | succ n ih=>
   intro lo hi hn h9 h6 a b;by_cases he:lo=hi
   ·subst he;exact stop lo h6 a b
   ·have hm:(lo+hi) / 2<l.length:=by omega
    obtain ⟨x,hx⟩:∃x,l[(lo+hi) / 2]?=some x:=⟨_,List.getElem?_eq_getElem hm⟩
    rw [Bn,h1 lo hi x Om h6 hx];by_cases hq:Ap x<p
    ·rw [if_pos hq];refine ih ((lo+hi) / 2+1) hi Om Om h6 (fun i y hy hi'=>?_) b;by_cases e:i=(lo+hi) / 2
     ·subst e;rw [hx] at hy;simp at hy;subst hy;exact hq
     ·have:=mono hy hx Om;omega
    ·rw [if_neg hq];refine ih lo ((lo+hi) / 2) Om Om Om a fun i y hy hi'=>?_;by_cases e:i=(lo+hi) / 2
     ·subst e;rw [hx] at hy;simp at hy;subst hy;exact hq
     ·have:=mono hx hy Om;omega
theorem gP {lo hi:Nat} (h:lo+hi≤4000000):wr (Int.fdiv (kw .u64 (wr ((lo:Int)+hi))) (2 ^ min (Int.toNat 1) (IntKind.bits .u64)))=(((lo+hi) / 2:Nat):Int):=by
 have e1:wr ((lo:Int)+hi)=((lo+hi:Nat):Int):=by rw [D4 Om Om];omega
 have e2:kw .u64 ((lo+hi:Nat):Int)=((lo+hi:Nat):Int):=by
  show IntKind.u64.wrap _=_;have e:IntKind.u64.wrap ((lo+hi:Nat):Int)=((lo+hi:Nat):Int) % 18446744073709551616:=by simp [IntKind.wrap,IntKind.bits,IntKind.signed]
  rw [e];omega
 have e3:(2:Int) ^ min (Int.toNat 1) (IntKind.bits .u64)=2:=by decide
 rw [e1,e2,e3];have e4:Int.fdiv ((lo+hi:Nat):Int) 2=(((lo+hi) / 2:Nat):Int):=by rw [Int.fdiv_eq_ediv_of_nonneg _ Om];omega
 rw [e4,D4 Om Om]
theorem uN (l:List KE) (p:Int) (hl:l.length≤1000000) (hs:l.Pairwise fun x y=>x.PE<y.PE) (hr:∀x∈l, -100000≤x.PE∧x.PE≤100000) (hp: -100000≤p∧p≤100000):
  Lb l p (fun z=>Hy z.1 z.2)=some ((AH l (·.PE) p:Int),match l[AH l (·.PE) p]? with | some x=>decide (x.PE=p) | none=>false):=by
 have cmp:∀x∈l,Hy x p=some (x.PE-p):=fun x hx=>by have:=hr x hx;simp only [Hy];rw [D4 Om Om]
 have fin:∀k:Nat,k≤l.length→SM l p (fun z=>Hy z.1 z.2) (k:Int)=some ((k:Int),match l[k]? with | some x=>decide (x.PE=p) | none=>false):=fun k hk=>by
  dsimp only [SM];cases hx:l[k]? with
  | none=>
    have:l.length≤k:=by simpa using hx
    have:k=l.length:=by omega
    subst this;rw [AT,Aa];rfl
  | some x=>rw [AQ hx,Ag,Ar hx,OB,cmp x (List.mem_of_getElem? hx),OB];dsimp only [SO];rw [show decide (x.PE-p=0)=decide (x.PE=p) from decide_eq_decide.2 Om]
 unfold Lb;rw [AX];refine dS l (·.PE) p _ (fun k=>some ((k:Int),match l[k]? with | some x=>decide (x.PE=p) | none=>false)) hs (fun lo hi x h1 h2 hx=>?_) (fun lo h6=>?_) l.length 0 l.length Om Om Om (fun i x _ hi=>Om) (fun i x hx hi=>by have:=(List.getElem?_eq_some_iff.1 hx).1;omega)
 ·dsimp only [WV];rw [DT (show (lo:Int)<hi by omega),Ag,gP Om,Ar hx,OB,cmp x (List.mem_of_getElem? hx),OB];by_cases hq:x.PE<p
  ·rw [if_pos hq,DT (show x.PE-p<0 by omega),Ag,AC Om]
  ·rw [if_neg hq,DN (show ¬x.PE-p<0 by omega),Aa]
 ·dsimp only [WV];rw [DN (show ¬(lo:Int)<lo by omega),Aa,fin lo h6]
theorem uO (l:List SX) (p:Int) (hl:l.length≤1000000) (hs:l.Pairwise fun x y=>x.PE<y.PE) (hr:∀x∈l, -100000≤x.PE∧x.PE≤100000) (hp: -100000≤p∧p≤100000):
  Lc l p (fun z=>HC z.1 z.2)=some ((AH l (·.PE) p:Int),match l[AH l (·.PE) p]? with | some x=>decide (x.PE=p) | none=>false):=by
 have cmp:∀x∈l,HC x p=some (x.PE-p):=fun x hx=>by have:=hr x hx;simp only [HC];rw [D4 Om Om]
 have fin:∀k:Nat,k≤l.length→SP l p (fun z=>HC z.1 z.2) (k:Int)=some ((k:Int),match l[k]? with | some x=>decide (x.PE=p) | none=>false):=fun k hk=>by
  dsimp only [SP];cases hx:l[k]? with
  | none=>
    have:l.length≤k:=by simpa using hx
    have:k=l.length:=by omega
    subst this;rw [AT,Aa];rfl
  | some x=>rw [AQ hx,Ag,Ar hx,OB,cmp x (List.mem_of_getElem? hx),OB];dsimp only [SQ];rw [show decide (x.PE-p=0)=decide (x.PE=p) from decide_eq_decide.2 Om]
 unfold Lc;rw [AX];refine dS l (·.PE) p _ (fun k=>some ((k:Int),match l[k]? with | some x=>decide (x.PE=p) | none=>false)) hs (fun lo hi x h1 h2 hx=>?_) (fun lo h6=>?_) l.length 0 l.length Om Om Om (fun i x _ hi=>Om) (fun i x hx hi=>by have:=(List.getElem?_eq_some_iff.1 hx).1;omega)
 ·dsimp only [WW];rw [DT (show (lo:Int)<hi by omega),Ag,gP Om,Ar hx,OB,cmp x (List.mem_of_getElem? hx),OB];by_cases hq:x.PE<p
  ·rw [if_pos hq,DT (show x.PE-p<0 by omega),Ag,AC Om]
  ·rw [if_neg hq,DN (show ¬x.PE-p<0 by omega),Aa]
 ·dsimp only [WW];rw [DN (show ¬(lo:Int)<lo by omega),Aa,fin lo h6]
def Cy (S:List SX) (x:SX):List SX:=S.take (AH S (·.PE) x.PE)++x::S.drop (AH S (·.PE) x.PE)
def D9 (K:List KE) (p e:Int):List KE:=
 match K[AH K (·.PE) p]? with
 | some k=>if k.PE=p then K.set (AH K (·.PE) p) ⟨p,e⟩ else K.take (AH K (·.PE) p)++⟨p,e⟩::K.drop (AH K (·.PE) p)
 | none=>K++[⟨p,e⟩]
theorem Pl {α:Type} (l:List α) (Ap:α→Int) (p:Int):AH l Ap p≤l.length:=by unfold AH;exact (List.takeWhile_sublist _).length_le
theorem fM {α:Type} {b:Nat} (l:List α) (k:Nat) (v:α) (hb:b≤1000) (hk:k≤l.length) (hl:l.length≤1000000):Pv b l (k:Int) [v]=some (l.take k++v::l.drop k):=by show Mg b l (k:Int) v=_;unfold Mg;have h2:(l.length+1)*b≤1000001*1000:=Nat.mul_le_mul Om hb;rw [if_pos ⟨Om,Om,Om,Om⟩,Int.toNat_natCast]
theorem fZ (K:List KE) (p e:Int) (hl:K.length≤1000000) (hs:K.Pairwise fun x y=>x.PE<y.PE) (hr:∀x∈K, -100000≤x.PE∧x.PE≤100000) (hp: -100000≤p∧p≤100000):
  ((Lb K p (fun z=>Hy z.1 z.2)).bind fun x14=>A0 (!x14.2) ((Lk K x14.1 [⟨p,0⟩]).bind fun x15=>(Ac x15 x14.1).bind fun x17=>some (x15.set (Int.toNat x14.1) ⟨x17.PE,e⟩)) ((Ac K x14.1).bind fun x17=>some (K.set (Int.toNat x14.1) ⟨x17.PE,e⟩)))=some (D9 K p e):=by
 rw [uN K p hl hs hr hp,OB];have hc:=Pl K (·.PE) p;have h6:(K.take (AH K (·.PE) p)).length=AH K (·.PE) p:=by rw [List.length_take];omega
 have ins:∀y:KE,Ac (K.take (AH K (·.PE) p)++y::K.drop (AH K (·.PE) p)) (AH K (·.PE) p:Int)=some y:=fun y=>by have:=IU (l:=K.take (AH K (·.PE) p)++y::K.drop (AH K (·.PE) p)) (a:=K.take (AH K (·.PE) p)) (b:=K.drop (AH K (·.PE) p)) (x:=y) rfl;rwa [h6] at this
 have st:∀y z:KE,(K.take (AH K (·.PE) p)++y::K.drop (AH K (·.PE) p)).set (AH K (·.PE) p) z=K.take (AH K (·.PE) p)++z::K.drop (AH K (·.PE) p):=fun y z=>by have:=LC (K.take (AH K (·.PE) p)) (K.drop (AH K (·.PE) p)) y z;rwa [h6,Int.toNat_natCast] at this
 have new:A0 (!false) ((Lk K (AH K (·.PE) p:Int) [⟨p,0⟩]).bind fun x15=>(Ac x15 (AH K (·.PE) p:Int)).bind fun x17=>some (x15.set (Int.toNat (AH K (·.PE) p:Int)) ⟨x17.PE,e⟩)) ((Ac K (AH K (·.PE) p:Int)).bind fun x17=>some (K.set (Int.toNat (AH K (·.PE) p:Int)) ⟨x17.PE,e⟩))=some (K.take (AH K (·.PE) p)++⟨p,e⟩::K.drop (AH K (·.PE) p)):=by unfold Lk;rw [Bool.not_false,Ag,fM K _ _ Om hc hl,OB,ins,OB,Int.toNat_natCast,st]
 unfold D9;dsimp only;cases hx:K[AH K (·.PE) p]? with
 | none=>
   rw [new];have h1:K.length≤AH K (·.PE) p:=by simpa using hx
   have h2:AH K (·.PE) p=K.length:=by omega
   rw [h2];simp
 | some k=>
   dsimp only;by_cases hq:k.PE=p
   ·rw [DT hq,if_pos hq,Bool.not_true,Aa,Ar hx,OB,Int.toNat_natCast,hq]
   ·rw [DN hq,if_neg hq];exact new
structure RowK (K:List KE):Prop where
 len:K.length≤1000
 up:K.Pairwise fun x y=>x.PE<y.PE
 rng:∀x∈K, -100000≤x.PE∧x.PE≤100000
structure RowS (S:List SX):Prop where
 len:S.length≤1000
 up:S.Pairwise fun x y=>x.PE<y.PE
 rng:∀x∈S, -100000≤x.PE∧x.PE≤100000
theorem jG (S:List SX) (x:SX) (h:RowS S) (hp: -100000≤x.PE∧x.PE≤100000):
  ∃z,Lc S x.PE (fun z=>HC z.1 z.2)=some ((AH S (·.PE) x.PE:Int),z)∧Ot S (AH S (·.PE) x.PE:Int) [x]=some (Cy S x):=by
 have hl:=h.len;refine ⟨_,uO S x.PE Om h.up h.rng hp,?_⟩;unfold Ot;exact fM S _ _ Om (Pl _ _ _) Om
theorem w4 (x:SX) (b c d e f:Int) (S:List SX) (N:List Int) (B:List SE) (K:List KE) (O:List Int) (A:List KE) (J:RowS S) (E:RowK K) (hp: -100000≤x.PE∧x.PE≤100000):
  NH x b c d e f S N B K O A=some (Cy S x,D9 K x.PE x.EP):=by
 obtain ⟨z,h1,h2⟩:=jG S x J hp;have h3:=fZ K x.PE x.EP (by have:=E.len;omega) E.up E.rng hp;dsimp only [NH];rw [h1,OB,h2,OB];dsimp only [Wo,RZ];rw [h3,OB]
theorem w5 (x:SX) (b c d e:Int) (B:List SE) (O:List Int) (f:Int) (S:List SX) (N:List Int) (K A:List KE) (E:List ML) (V:List EV) (U:RowS S) (J:RowK K) (hp: -100000≤x.PE∧x.PE≤100000):
  Sc x b c d e B O f S N K A E V=some (Cy S x,D9 K x.PE x.EP):=by
 obtain ⟨z,h1,h2⟩:=jG S x U hp;have h3:=fZ K x.PE x.EP (by have:=J.len;omega) J.up J.rng hp;dsimp only [Sc];rw [h1,OB,h2,OB];dsimp only [Wn,RY];rw [h3,OB]
theorem Zj {α:Type} (l:List α) (Ap:α→Int) (p:Int):l.take (AH l Ap p)=l.takeWhile (fun x=>decide (Ap x<p))∧l.drop (AH l Ap p)=l.dropWhile fun x=>decide (Ap x<p):=by
 have h:=List.takeWhile_append_dropWhile (p:=fun x=>decide (Ap x<p)) (l:=l);have g:∀(a b:List α),a++b=l→l.take a.length=a∧l.drop a.length=b:=by rintro a b rfl;simp
 exact g _ _ h
theorem ZW {α:Type} {l:List α} {Ap:α→Int} {p:Int} {x:α} (h:x∈l.take (AH l Ap p)):Ap x<p:=by
 rw [(Zj l Ap p).1] at h;have:∀(l:List α),x∈l.takeWhile (fun x=>decide (Ap x<p))→Ap x<p:=by
  intro l;induction l with
  | nil=>simp
  | cons y l ih=>
    rw [List.takeWhile_cons];split
    ·rename_i hy;intro h;rcases List.mem_cons.1 h with rfl | h
     ·simpa using hy
     ·exact ih h
    ·simp
 exact this l h
theorem Zv {α:Type} {Ap:α→Int} {p:Int}:∀ {l:List α} {x:α},l.Pairwise (fun x y=>Ap x<Ap y)→x∈l.drop (AH l Ap p)→p≤Ap x:=by
 intro l;induction l with
 | nil=>simp
 | cons y l ih=>
   intro x hs h;rw [(Zj _ Ap p).2,List.dropWhile_cons] at h;rw [List.pairwise_cons] at hs;split at h
   ·rw [←(Zj l Ap p).2] at h;exact ih hs.2 h
   ·rename_i hy;have hy:¬Ap y<p:=by simpa using hy
    rcases List.mem_cons.1 h with rfl | h
    ·omega
    ·have:=hs.1 x h;omega
theorem b6 {α:Type} (l:List α) (k:Nat) (x:α):x∈l↔x∈l.take k∨x∈l.drop k:=by
 conv=>lhs;rw [←List.take_append_drop k l]
 exact List.mem_append
theorem Pw {α:Type} {l:List α} {Ap:α→Int} {p:Int} {x:α} (hs:l.Pairwise fun x y=>Ap x<Ap y) (hx:Ap x=p) (hn:∀y∈l,Ap y≠p):(l.take (AH l Ap p)++x::l.drop (AH l Ap p)).Pairwise fun x y=>Ap x<Ap y:=by
 rw [List.pairwise_append];refine ⟨hs.sublist (List.take_sublist _ _),?_,?_⟩
 ·rw [List.pairwise_cons];refine ⟨fun y hy=>?_,hs.sublist (List.drop_sublist _ _)⟩;have h1:=Zv hs hy;have h2:=hn y (List.mem_of_mem_drop hy);omega
 ·intro y hy z hz;have h1:=ZW hy;rcases List.mem_cons.1 hz with rfl | hz
  ·omega
  ·have h2:=Zv hs hz;omega
theorem Fk {S:List SX} {x y:SX}:y∈Cy S x↔y=x∨y∈S:=by
 unfold Cy;rw [b6 S (AH S (·.PE) x.PE) y,List.mem_append,List.mem_cons];constructor
 ·rintro (h | h | h)
  ·exact .inr (.inl h)
  ·exact .inl h
  ·exact .inr (.inr h)
 ·rintro (h | h | h)
  ·exact .inr (.inl h)
  ·exact .inl h
  ·exact .inr (.inr h)
theorem jH (S:List SX) (x:SX):(Cy S x).length=S.length+1:=by have:=Pl S (·.PE) x.PE;unfold Cy;rw [List.length_append,List.length_cons,List.length_take,List.length_drop];omega
theorem RowS.put {S:List SX} {x:SX} (h:RowS S) (hl:S.length<1000) (hn:∀y∈S,y.PE≠x.PE) (hp: -100000≤x.PE∧x.PE≤100000):RowS (Cy S x):=
 ⟨by rw [jH];omega,Pw h.up rfl hn,fun y hy=>by
   rcases Fk.1 hy with rfl | hy
   ·exact hp
   ·exact h.rng y hy⟩
theorem ZH {K:List KE} (h:K.Pairwise fun x y=>x.PE<y.PE) (p e:Int):
  (∃k,K[AH K (·.PE) p]?=some k∧k.PE=p∧D9 K p e=K.set (AH K (·.PE) p) ⟨p,e⟩)∨(∀k∈K,k.PE≠p)∧D9 K p e=K.take (AH K (·.PE) p)++⟨p,e⟩::K.drop (AH K (·.PE) p):=by
 have hc:=Pl K (·.PE) p;unfold D9;cases hx:K[AH K (·.PE) p]? with
 | none=>
   right;have h1:K.length≤AH K (·.PE) p:=by simpa using hx
   have h2:AH K (·.PE) p=K.length:=by omega
   refine ⟨fun k hk=>?_,by rw [h2];simp⟩;have:k∈K.take (AH K (·.PE) p):=by rw [h2,List.take_length];exact hk
   have:=ZW this;omega
 | some k=>
   dsimp only;by_cases hq:k.PE=p
   ·left;exact ⟨k,rfl,hq,by rw [if_pos hq]⟩
   ·right;refine ⟨fun y hy=>?_,by rw [if_neg hq]⟩;rcases (b6 K (AH K (·.PE) p) y).1 hy with hy | hy
    ·have:=ZW hy;omega
    ·obtain ⟨hlt,hk⟩:=List.getElem?_eq_some_iff.1 hx;have hd:K.drop (AH K (·.PE) p)=k::K.drop (AH K (·.PE) p+1):=by rw [List.drop_eq_getElem_cons hlt,hk]
     have h6:k∈K.drop (AH K (·.PE) p):=by rw [hd];simp
     have h8:=Zv h h6;have hs:(K.drop (AH K (·.PE) p)).Pairwise fun x y=>x.PE<y.PE:=h.sublist (List.drop_sublist _ _);rw [hd] at hy hs;rcases List.mem_cons.1 hy with rfl | hy
     ·exact hq
     ·have:=(List.pairwise_cons.1 hs).1 y hy;omega
theorem aY {K:List KE} (h:K.Pairwise fun x y=>x.PE<y.PE) {p e:Int} {k:KE}:k∈D9 K p e→k=⟨p,e⟩∨k∈K∧k.PE≠p:=by
 intro hk;rcases ZH h p e with ⟨q,h1,h2,h3⟩ | ⟨h1,h2⟩
 ·rw [h3] at hk;rw [List.mem_iff_getElem?] at hk;obtain ⟨i,hi⟩:=hk;rw [List.getElem?_set] at hi;split at hi
  ·split at hi
   ·simp at hi;exact .inl hi.symm
   ·simp at hi
  ·rename_i hne;refine .inr ⟨List.mem_of_getElem? hi,fun e=>?_⟩;have mono:=List.pairwise_iff_getElem.1 h;obtain ⟨a,ha⟩:=List.getElem?_eq_some_iff.1 hi;obtain ⟨b,hb⟩:=List.getElem?_eq_some_iff.1 h1;rcases Nat.lt_or_gt_of_ne hne with hl | hl
   ·have:=mono _ _ b a hl;rw [ha,hb] at this;omega
   ·have:=mono _ _ a b hl;rw [ha,hb] at this;omega
 ·rw [h2] at hk;rw [List.mem_append,List.mem_cons] at hk;rcases hk with hk | hk | hk
  ·exact .inr ⟨List.mem_of_mem_take hk,h1 k (List.mem_of_mem_take hk)⟩
  ·exact .inl hk
  ·exact .inr ⟨List.mem_of_mem_drop hk,h1 k (List.mem_of_mem_drop hk)⟩
theorem rX {K:List KE} (h:K.Pairwise fun x y=>x.PE<y.PE) {p e:Int}:⟨p,e⟩∈D9 K p e∧∀k∈K,k.PE≠p→k∈D9 K p e:=by
 rcases ZH h p e with ⟨q,h1,h2,h3⟩ | ⟨h1,h2⟩
 ·rw [h3];obtain ⟨b,hb⟩:=List.getElem?_eq_some_iff.1 h1;refine ⟨List.mem_iff_getElem?.2 ⟨_,by rw [List.getElem?_set_self b]⟩,fun k hk hne=>?_⟩;obtain ⟨i,hi⟩:=List.mem_iff_getElem?.1 hk;refine List.mem_iff_getElem?.2 ⟨i,?_⟩;rw [List.getElem?_set,if_neg]
  ·exact hi
  ·rintro rfl;rw [h1] at hi;simp at hi;subst hi;exact hne h2
 ·rw [h2];refine ⟨by simp,fun k hk _=>?_⟩;rw [List.mem_append,List.mem_cons];rcases (b6 K (AH K (·.PE) p) k).1 hk with h | h
  ·exact .inl h
  ·exact .inr (.inr h)
theorem UP {K:List KE} (h:K.Pairwise fun x y=>x.PE<y.PE) (p e:Int):(D9 K p e).Pairwise fun x y=>x.PE<y.PE:=by
 rcases ZH h p e with ⟨q,h1,h2,h3⟩ | ⟨h1,h2⟩
 ·rw [h3];rw [List.pairwise_iff_getElem] at h ⊢;intro i j hi hj h6;obtain ⟨b,hb⟩:=List.getElem?_eq_some_iff.1 h1;have get:∀(k:Nat) (hk:k<(K.set (AH K (·.PE) p) ⟨p,e⟩).length),(K.set (AH K (·.PE) p) ⟨p,e⟩)[k].PE=(K[k]'(by simpa using hk)).PE:=by
   intro k hk;rw [List.getElem_set];split
   ·rename_i e;subst e;rw [hb];exact h2.symm
   ·rfl
  rw [get,get];exact h i j _ _ h6
 ·rw [h2];exact Pw h rfl h1
theorem fY (K:List KE) (p e:Int):(D9 K p e).length≤K.length+1:=by
 have hc:=Pl K (·.PE) p;unfold D9;split
 ·split
  ·simp
  ·rw [List.length_append,List.length_cons,List.length_take,List.length_drop];omega
 ·simp
theorem RowK.know {K:List KE} {p e:Int} (h:RowK K) (hl:K.length<1000) (hp: -100000≤p∧p≤100000):RowK (D9 K p e):=
 ⟨by have:=fY K p e;omega,UP h.up p e,fun k hk=>by
   rcases aY h.up hk with rfl | ⟨hk,_⟩
   ·exact hp
   ·exact h.rng k hk⟩
theorem M7 {K:List KE} (h:K.Pairwise fun x y=>x.PE<y.PE) {k:KE} (hk:k∈K):BR K k.PE=k.EP:=by
 unfold BR;have:K.find? (fun q=>decide (q.PE=k.PE))=some k:=by
  induction K with
  | nil=>simp at hk
  | cons y K ih=>
    rw [List.pairwise_cons] at h;rw [List.find?_cons];rcases List.mem_cons.1 hk with rfl | hk
    ·simp
    ·have:=h.1 k hk;rw [DN Om];exact ih h.2 hk
 rw [this]
theorem Uv {K:List KE} {p:Int} (h:∀k∈K,k.PE≠p):BR K p=0:=by
 unfold BR;have:K.find? (fun q=>decide (q.PE=p))=none:=by rw [List.find?_eq_none];intro k hk;simpa using h k hk
 rw [this]
theorem Uw {K:List KE} (h:K.Pairwise fun x y=>x.PE<y.PE) (p e q:Int):BR (D9 K p e) q=if q=p then e else BR K q:=by
 have hp:=UP h p e;have hm:=rX h (p:=p) (e:=e);split
 ·rename_i hq;subst hq;exact M7 hp hm.1
 ·rename_i hq;by_cases hx:∃k∈K,k.PE=q
  ·obtain ⟨k,hk,rfl⟩:=hx;rw [M7 hp (hm.2 k hk hq),M7 h hk]
  ·have hx:∀k∈K,k.PE≠q:=fun k hk e=>hx ⟨k,hk,e⟩;rw [Uv hx,Uv];intro k hk;rcases aY h hk with rfl | ⟨hk,_⟩
   ·exact fun e=>hq e.symm
   ·exact hx k hk
def Cg (k:KE):SX:=⟨k.PE,k.EP,0,false,false,true,false,true⟩
theorem Yo (x:SX) (k a b c d:Int) (B:List SE) (O:List Int) (f:Int) (S:List SX) (N:List Int) (K A:List KE) (E:List ML) (V:List EV) (J:E.length≤1000000):
  JM x k a b c d B O f S N K A E V=some (E++[⟨a,x.PE,⟨k,x.EP,0⟩⟩]):=by
 simp only [JM];rw [B5 _ _ Om (by simp;omega),OB]
theorem vD (k p a b c d:Int) (B:List SE) (O:List Int) (f:Int) (S:List SX) (N:List Int) (K A:List KE) (E:List ML) (V:List EV) (J:V.length≤1000000):
  RX k p a b c d B O f S N K A E V=some (V++[⟨k,a,0,p,[]⟩]):=by
 simp only [RX];rw [B5 _ _ Om (by simp;omega),OB]
theorem we (k i a b c d:Int) (B:List SE) (O:List Int) (f:Int) (S:List SX) (N:List Int) (K A:List KE) (E:List ML) (V:List EV) (J:V.length≤1000000):
  Sd k i a b c d B O f S N K A E V=some (V++[⟨k,a,i,0,[]⟩]):=by
 simp only [Sd];rw [B5 _ _ Om (by simp;omega),OB]
def D6 (S:List SX) (A:List KE):List SX:=A.foldl (fun S k=>Cy S (Cg k)) S
def DU (K:List KE) (A:List KE):List KE:=A.foldl (fun K k=>D9 K k.PE k.EP) K
def EE (id:Int) (A:List KE):List ML:=A.map fun k=>⟨id,k.PE,⟨6,k.EP,0⟩⟩
def FX (id:Int) (A:List KE):List EV:=A.map fun k=>⟨6,id,0,k.PE,[]⟩
structure AskOK (S:List SX) (A:List KE):Prop where
 rng:∀k∈A, -100000≤k.PE∧k.PE≤100000
 new:∀k∈A,∀x∈S,x.PE≠k.PE
 dis:(A.map (·.PE)).Nodup
theorem dE (S:List SX) (A:List KE) (k:KE):D6 S (A++[k])=Cy (D6 S A) (Cg k):=by simp [D6]
theorem dD (K:List KE) (A:List KE) (k:KE):DU K (A++[k])=D9 (DU K A) k.PE k.EP:=by simp [DU]
theorem Pc {S:List SX}:∀ {A:List KE} {x:SX},x∈D6 S A↔x∈S∨∃k∈A,x=Cg k:=by
 intro A;have:∀(A:List KE) (S:List SX) (x:SX),x∈D6 S A↔x∈S∨∃k∈A,x=Cg k:=by
  intro A;induction A with
  | nil=>intro S x;simp [D6]
  | cons k A ih=>
    intro S x;show x∈D6 (Cy S (Cg k)) A↔_;rw [ih,Fk];constructor
    ·rintro ((h | h) | ⟨q,h1,h2⟩)
     ·exact .inr ⟨k,by simp,h⟩
     ·exact .inl h
     ·exact .inr ⟨q,by simp [h1],h2⟩
    ·rintro (h | ⟨q,h1,h2⟩)
     ·exact .inl (.inr h)
     ·rcases List.mem_cons.1 h1 with rfl | h1
      ·exact .inl (.inl h2)
      ·exact .inr ⟨q,h1,h2⟩
 exact fun {x}=>this A S x
theorem AskOK.mid {S:List SX} {A pre post:List KE} {k:KE} (h:AskOK S A) (e:A=pre++k::post):∀y∈D6 S pre,y.PE≠k.PE:=by
 intro y hy;rcases Pc.1 hy with hy | ⟨q,h1,rfl⟩
 ·exact h.new k (by rw [e];simp) y hy
 ·have hd:=h.dis;rw [e,List.map_append,List.map_cons,List.nodup_append] at hd;exact hd.2.2 q.PE (List.mem_map.2 ⟨q,h1,rfl⟩) k.PE (by simp)
theorem dG {S:List SX} {K A:List KE} (U:RowS S) (J:RowK K) (E:AskOK S A) (h8:S.length+A.length≤1000) (h9:K.length+A.length≤1000):∀(post pre:List KE),A=pre++post→RowS (D6 S pre)∧RowK (DU K pre)∧(D6 S pre).length=S.length+pre.length∧(DU K pre).length≤K.length+pre.length:=by
 intro post;have:∀(n:Nat) (pre:List KE),pre.length=n→(∃post,A=pre++post)→RowS (D6 S pre)∧RowK (DU K pre)∧(D6 S pre).length=S.length+pre.length∧(DU K pre).length≤K.length+pre.length:=by
  intro n;induction n with
  | zero=>intro pre h _;have:pre=[]:=List.length_eq_zero_iff.1 h;subst this;exact ⟨U,J,rfl,Nat.le_refl _⟩
  | succ n ih=>
    intro pre h ⟨post,e⟩;rcases List.eq_nil_or_concat pre with rfl | ⟨q,k,rfl⟩
    ·simp at h
    ·rw [List.concat_eq_append] at *;have hq:q.length=n:=by rw [AW] at h;omega
     obtain ⟨i1,i2,i3,i4⟩:=ih q hq ⟨k::post,by rw [e];simp⟩;have hk:k∈A:=by rw [e];simp
     have h6:q.length+1≤A.length:=by rw [e,List.length_append,AW];omega
     have hr:=E.rng k hk;rw [dE,dD,AW];refine ⟨i1.put Om (E.mid (k:=k) (post:=post) (by rw [e];simp)) hr,i2.know Om hr,by rw [jH];omega,?_⟩;have:=fY (DU K q) k.PE k.EP;omega
 exact fun pre e=>this pre.length pre rfl ⟨post,e⟩
theorem vu (a b c d:Int) (B:List SE) (O:List Int) (f:Int) (S:List SX) (N:List Int) (K A:List KE) (E:List ML) (V:List EV) (Y:RowS S) (U:RowK K) (J:AskOK S A) (h6:S.length+A.length≤1000) (h8:K.length+A.length≤1000) (Z:E.length≤900000) (hV:V.length≤900000):
  RN a b c d B O f S N K A E V=some (D6 S A,DU K A,E++EE a A,V++FX a A):=by
 unfold RN;have e0:((0:Int),S,K,E,V)=((([]:List KE).length:Int),D6 S [],DU K [],E++EE a [],V++FX a []):=by simp [D6,DU,EE,FX]
 rw [e0];refine D0 A _ (fun pre=>((pre.length:Int),D6 S pre,DU K pre,E++EE a pre,V++FX a pre)) _ (fun pre k post h=>?_) ?_
 ·have hx:=BL h;have hm:=BG h;obtain ⟨r1,r2,r3,r4⟩:=dG Y U J h6 h8 (k::post) pre h;have hr:=J.rng k (Di h);dsimp only [Wm];rw [AQ hx,Ag,Ar hx,OB];have e1:(⟨k.PE,k.EP,0,false,false,true,false,true⟩:SX)=Cg k:=rfl;rw [e1,w5 (Cg k) a b c d B O f _ N _ A _ _ r1 r2 hr,OB,Yo _ _ _ _ _ _ _ _ _ _ _ _ _ _ _ (by rw [List.length_append,EE,List.length_map];omega),OB,vD _ _ _ _ _ _ _ _ _ _ _ _ _ _ _ (by rw [List.length_append,FX,List.length_map];omega),OB,AC Om,AW,dE,dD];simp [EE,FX,Cg]
 ·dsimp only [Wm];rw [AT,Aa];rfl
def CK (T:List Int) (x:SX):Bool:=ER x&&!decide (x.PE∈T)
def Cr (id:Int):List SX→List Int→List ML→List Int×List ML
 | [],T,E=>(T,E)
 | x::l,T,E=>if CK T x then Cr id l (Bm (T++[x.PE])) (E++[⟨id,x.PE,⟨5,x.EP,0⟩⟩]) else Cr id l T E
theorem wj (a b c d:Int) (B:List SE) (O:List Int) (f:Int) (S:List SX) (N:List Int) (K A:List KE) (E:List ML) (V:List EV) (Y:S.length≤1000) (U:O.length≤1000) (J:E.length≤900000):
  Sh a b c d B O f S N K A E V=some (Cr a S O E):=by
 unfold Sh;have Ap:∀(post pre:List SX) (T:List Int) (E:List ML),S=pre++post→T.length≤1000+pre.length→E.length≤900000+pre.length→loop (NL a b c d B f S N K A V) ((pre.length:Int),T,E)=some (Cr a post T E):=by
  intro post;induction post with
  | nil=>
    intro pre T E h _ _;have h:pre=S:=by simpa using h.symm
    subst h;rw [Bn];dsimp only [NL];rw [AT,Aa];rfl
  | cons x post ih=>
    intro pre T E h hT J;have hx:=BL h;have hm:=BG h;have h6:La T x.PE=some (Bm (T++[x.PE])):=k9 T x.PE Om;have h8:(Bm (T++[x.PE])).length≤T.length+1:=by have:=TT (T++[x.PE]);simpa using this
    have j3:∀(T:List Int) (E:List ML),NK (pre.length:Int) (T,E)=some (.inl (((pre++[x]).length:Int),T,E)):=fun T E=>by dsimp only [NK];rw [AC Om,AW]
    have j2:∀z,L4 a b c d B f S N K A V (pre.length:Int) T E x z=if z then some (.inl (((pre++[x]).length:Int),Bm (T++[x.PE]),E++[⟨a,x.PE,⟨5,x.EP,0⟩⟩])) else some (.inl (((pre++[x]).length:Int),T,E)):=fun z=>by
     cases z with
     | false=>dsimp only [L4];rw [Aa,j3];rfl
     | true=>dsimp only [L4];rw [Ag,Yo _ _ _ _ _ _ _ _ _ _ _ _ _ _ _ Om,OB,h6,OB,j3];rfl
    have step:NL a b c d B f S N K A V ((pre.length:Int),T,E)=if CK T x then some (.inl (((pre++[x]).length:Int),Bm (T++[x.PE]),E++[⟨a,x.PE,⟨5,x.EP,0⟩⟩])) else some (.inl (((pre++[x]).length:Int),T,E)):=by
     dsimp only [NL];rw [AQ hx,Ag,Ar hx,OB];simp only [Iq,OB,Gi T x.PE Om,j2];unfold CK ER;cases decide (x.SS=1) with
     | false=>rfl
     | true=>cases decide (x.PE∈T)<;>rfl
    rw [Bn,step];unfold Cr;cases hu:CK T x with
    | true=>rw [if_pos rfl,if_pos rfl];exact ih (pre++[x]) _ _ (by simpa using h) (by rw [AW];omega) (by rw [AW,AW];omega)
    | false=>rw [if_neg (by simp),if_neg (by simp)];exact ih (pre++[x]) T E (by simpa using h) (by rw [AW];omega) (by rw [AW];omega)
 exact Ap S [] O E rfl (by simpa using U) (by simpa using J)
theorem ke (l:List SX) (p:SX→Option Bool) (q:SX→Bool) (hl:l.length≤1000000) (hp:∀x∈l,p x=some (q x)):Oi l p=some (l.filter fun x=>!q x):=by
 simp only [Oi,TK l p q Om hp,OB];cases hf:l.findIdx? q with
 | none=>rw [List.findIdx?_eq_none_iff] at hf;rw [show Br none = -1 from rfl,DT rfl,Ag,List.filter_eq_self.2 (fun x hx=>by rw [hf x hx];rfl)]
 | some i=>
   obtain ⟨hi,hq,hB⟩:=List.findIdx?_eq_some_iff_getElem.1 hf;rw [show Br (some i)=(i:Int) from rfl,DN Om,Aa,AC Om]
   let F:List SX→List SX:=fun pre=>pre.filter fun x=>!q x
   have hF:∀pre post,l=pre++post→(F pre).length≤pre.length:=fun pre post _=>List.length_filter_le _ _;have Ap:=PM l (T5 p) (fun pre=>(((F pre).length:Int),(pre.length:Int),F pre++l.drop (F pre).length)) (fun _ _=>some (F l)) (fun pre x post h=>?_) ?_ (l.drop (i+1)) (l.take (i+1)) (by simp)
   ·have e1:F (l.take (i+1))=l.take i:=by
     show (l.take (i+1)).filter _=_;rw [List.take_succ_eq_append_getElem hi,List.filter_append];have a1:(l.take i).filter (fun x=>!q x)=l.take i:=by rw [List.filter_eq_self];intro x hx;obtain ⟨j,hj,rfl⟩:=List.mem_iff_getElem.1 hx;rw [List.getElem_take];have:=hB j (by simp at hj;omega);simpa using this
     have a2: [l[i]].filter (fun x=>!q x)=[]:=by simp [hq]
     rw [a1,a2,List.append_nil]
    rw [e1] at Ap;have e2:(l.take i).length=i:=by simp;omega
    have e3:(l.take (i+1)).length=i+1:=by simp;omega
    rw [e2,e3,List.take_append_drop] at Ap;exact Ap
   ·left;refine ⟨?_,rfl⟩;have hx:=BL h;have hm:=BG h;have h8:=hF pre (x::post) h;have h6:(F pre++l.drop (F pre).length).length=l.length:=by simp;omega
    have h9:(F pre++l.drop (F pre).length)[pre.length]?=some x:=by rw [List.getElem?_append_right h8,List.getElem?_drop,show (F pre).length+(pre.length-(F pre).length)=pre.length by omega];exact hx
    dsimp only [T5];rw [AQ h9,Ag,Ar h9,OB,hp x (Di h),OB];have hw:F (pre++[x])=F pre++(if q x then [] else [x]):=by show (pre++[x]).filter _=_;rw [List.filter_append];congr 1;cases hC:q x<;>simp [hC]
    cases hA:q x with
    | true=>rw [Bool.not_true,Aa];dsimp only [Oj];rw [AC Om,hw,hA,if_pos rfl,List.append_nil,AW]
    | false=>
      rw [Bool.not_false,Ag];obtain ⟨d,hd⟩:=Zq (fun x=>!q x) pre post x;rw [←h] at hd;have hd':l.drop (F pre).length=d::l.drop ((F pre).length+1):=hd;have hD:(F pre++l.drop (F pre).length)[(F pre).length]?=some d:=by rw [hd'];simp
      rw [Ar hD,OB];dsimp only [Oj];rw [AC Om,AC Om,hw,hA,if_neg (by simp),AW,hd',Int.toNat_natCast,AW];simp
   ·dsimp only [T5];have h8:=hF l [] (by simp);have h6:(F l++l.drop (F l).length).length=l.length:=by simp;omega
    rw [show ((l.length:Int))=((F l++l.drop (F l).length).length:Int) by rw [h6],AT,Aa];dsimp only [X2];unfold DQ;rw [AX,h6,if_pos ⟨Om,Om,Om,Om⟩,OB];unfold He;rw [h6,if_pos ⟨Om,by simp;omega⟩,OB];unfold D3;rw [if_pos ⟨Om,Om,by simp;omega⟩,OB];simp [Int.toNat_natCast,List.append_assoc]
theorem vB (p a b c d:Int) (B:List SE) (O:List Int) (f:Int) (S:List SX) (N:List Int) (K A:List KE) (E:List ML) (V:List EV) (J:S.length≤1000):
  RT p a b c d B O f S N K A E V=some (S.filter fun x=>!decide (x.PE=p)):=by
 simp only [RT,ke S (fun z=>KW z p) (fun x=>decide (x.PE=p)) Om (fun _ _=>rfl),OB]
def C1 (th:Int) (N:List Int) (x:SX):Bool:=decide (x.SS=2)&&!(decide (th=2)&&decide (x.PE∈N))
def DJ (id th:Int) (N:List Int) (x:SX):Option SX:=if C1 th N x then (if id<x.PE then some {x with SS:=3} else none) else some x
def G7 (id th:Int) (N:List Int) (x:SX):List ML:=if C1 th N x then [⟨id,x.PE,⟨if id<x.PE then 7 else 8,x.EP,0⟩⟩] else []
def B0 (id th:Int) (N:List Int) (S:List SX):List SX:=S.filterMap (DJ id th N)
def BJ (id th:Int) (N:List Int) (S:List SX):List ML:=S.flatMap (G7 id th N)
theorem rD (th:Int) (N:List Int) (x:SX):C1 th N {x with SS:=3}=false:=by simp [C1]
theorem ZO {id th:Int} {N:List Int} {S:List SX} (h:∀x∈S,C1 th N x=false):B0 id th N S=S∧BJ id th N S=[]:=by
 induction S with
 | nil=>exact ⟨rfl,rfl⟩
 | cons x S ih=>
   have h1:=h x (by simp);obtain ⟨i1,i2⟩:=ih fun y hy=>h y (List.mem_cons_of_mem _ hy);refine ⟨?_,?_⟩
   ·unfold B0 at i1 ⊢;rw [List.filterMap_cons,DJ,h1];simp [i1]
   ·unfold BJ at i2 ⊢;rw [List.flatMap_cons,i2,G7,h1];rfl
theorem PK (id th:Int) (N:List Int) (a b:List SX):B0 id th N (a++b)=B0 id th N a++B0 id th N b:=List.filterMap_append
theorem Mn (id th:Int) (N:List Int) (a b:List SX):BJ id th N (a++b)=BJ id th N a++BJ id th N b:=by simp [BJ]
theorem gj (id th:Int) (N:List Int) (S:List SX):∀x∈B0 id th N S,C1 th N x=false:=by
 intro x hx;obtain ⟨y,hy,h⟩:=List.mem_filterMap.1 hx;unfold DJ at h;split at h
 ·split at h
  ·simp at h;subst h;exact rD th N y
  ·simp at h
 ·rename_i hg;simp at h;subst h;simpa using hg
theorem ZN (id th:Int) (N:List Int) (S:List SX):(BJ id th N S).length≤S.length:=by
 induction S with
 | nil=>simp [BJ]
 | cons x S ih=>
   have:(G7 id th N x).length≤1:=by unfold G7;split<;>simp
   unfold BJ at ih ⊢;rw [List.flatMap_cons,List.length_append,List.length_cons];omega
theorem gi (id th:Int) (N:List Int) (S:List SX):(B0 id th N S).length≤S.length:=List.length_filterMap_le _ _
section
variable (id ph th d:Int) (B:List SE) (O:List Int) (f:Int) (N:List Int) (K A:List KE) (V:List EV)
theorem gk (S:List SX) (J:S.Pairwise fun x y=>x.PE<y.PE) (hl:S.length≤1000) (U:N.length≤100000):∀(post pre:List SX) (E:List ML),S=pre++post→(∀x∈pre,C1 th N x=true→id<x.PE)→E.length≤900000+pre.length→
  (∃q x r,post=q++x::r∧(∀y∈q,C1 th N y=true→id<y.PE)∧C1 th N x=true∧¬id<x.PE∧loop (Hz id ph th d B O f N K A V S) ((pre.length:Int),B0 id th N pre++post,E)=some (.inl (B0 id th N (pre++q)++r,E++BJ id th N (q++[x]))))
  ∨(∀x∈post,C1 th N x=true→id<x.PE)∧loop (Hz id ph th d B O f N K A V S) ((pre.length:Int),B0 id th N pre++post,E)=some (.inr (E++BJ id th N post,B0 id th N S)):=by
 intro post;induction post with
 | nil=>
   intro pre E h hp hE;have h:pre=S:=by simpa using h.symm
   subst h;right;refine ⟨by simp,?_⟩;rw [Bn];dsimp only [Hz];rw [AT,Aa];simp [Wq,BJ]
 | cons x post ih=>
   intro pre E h hp hE;have hx:=BL h;have hm:=BG h;have h6:(B0 id th N pre).length=pre.length:=by
    have:∀(l:List SX),(∀x∈l,C1 th N x=true→id<x.PE)→(B0 id th N l).length=l.length:=by
     intro l;induction l with
     | nil=>intro _;rfl
     | cons y l ih=>
       intro hl;have i:=ih fun z hz=>hl z (List.mem_cons_of_mem _ hz);unfold B0 at i ⊢;have hy:=hl y (by simp);have e:∃z,DJ id th N y=some z:=by
        unfold DJ;cases hg:C1 th N y with
        | false=>exact ⟨y,by simp⟩
        | true=>exact ⟨_,by simp [hy hg];rfl⟩
       obtain ⟨z,e⟩:=e;rw [List.filterMap_cons,e];simp only [List.length_cons,i]
    exact this pre hp
   have at1:Ac (B0 id th N pre++x::post) (pre.length:Int)=some x:=by rw [←h6];exact IU rfl
   have st1:∀z:SX,(B0 id th N pre++x::post).set ((pre.length:Int)).toNat z=B0 id th N pre++z::post:=fun z=>by rw [←h6];exact LC _ _ _ _
   have j2:∀(z:SX) (E:List ML),Ny (pre.length:Int) (B0 id th N pre++z::post,E)=some (.inl (((pre++[x]).length:Int),B0 id th N pre++z::post,E)):=fun z E=>by dsimp only [Ny];rw [AC Om,AW]
   have j3:∀z,JL id ph th d B O f N K A V (pre.length:Int) (B0 id th N pre++x::post) E x z=if z then some (.inl (((pre++[x]).length:Int),B0 id th N pre++x::post,E)) else if id<x.PE then some (.inl (((pre++[x]).length:Int),B0 id th N pre++{x with SS:=3}::post,E++[⟨id,x.PE,⟨7,x.EP,0⟩⟩])) else some (.inr (.inl ((B0 id th N pre++x::post).filter fun y=>!decide (y.PE=x.PE),E++[⟨id,x.PE,⟨8,x.EP,0⟩⟩]))):=fun z=>by
    have h8:(B0 id th N pre++x::post).length≤1000:=by rw [List.length_append,h6];rw [h,List.length_append] at hl;exact hl
    cases z with
    | true=>dsimp only [JL];rw [Ag,j2];rfl
    | false=>
      dsimp only [JL];rw [Aa,if_neg (by simp)];by_cases hq:id<x.PE
      ·rw [DT hq,Ag,if_pos hq,Yo _ _ _ _ _ _ _ _ _ _ _ _ _ _ _ Om,OB,st1,j2]
      ·rw [DN hq,Aa,if_neg hq,vB _ _ _ _ _ _ _ _ _ _ _ _ _ _ h8,OB,Yo _ _ _ _ _ _ _ _ _ _ _ _ _ _ _ Om,OB];rfl
   have step:Hz id ph th d B O f N K A V S ((pre.length:Int),B0 id th N pre++x::post,E)=if C1 th N x then (if id<x.PE then some (.inl (((pre++[x]).length:Int),B0 id th N pre++{x with SS:=3}::post,E++[⟨id,x.PE,⟨7,x.EP,0⟩⟩])) else some (.inr (.inl ((B0 id th N pre++x::post).filter fun y=>!decide (y.PE=x.PE),E++[⟨id,x.PE,⟨8,x.EP,0⟩⟩])))) else some (.inl (((pre++[x]).length:Int),B0 id th N pre++x::post,E)):=by
    dsimp only [Hz];rw [AQ hx,Ag,at1,OB];simp only [Gi N x.PE (show N.length≤1000000 by omega),OB,j3];unfold C1;cases decide (x.SS=2) with
    | false=>rfl
    | true=>cases decide (th=2) with
      | false=>rfl
      | true=>cases decide (x.PE∈N)<;>rfl
   rw [Bn,step];cases hg:C1 th N x with
   | false=>
     rw [if_neg (by simp)];have e:B0 id th N (pre++[x])=B0 id th N pre++[x]:=by rw [PK];simp [B0,DJ,hg]
     have:=ih (pre++[x]) E (by simpa using h) (fun y hy=>by
      rcases List.mem_append.1 hy with hy | hy
      ·exact hp y hy
      ·simp at hy;subst hy;rw [hg];simp) (by rw [AW];omega)
     rw [e,List.append_assoc,List.singleton_append] at this;rcases this with ⟨q,y,r,h1,h2,h3,h4,h5⟩ | ⟨h1,h2⟩
     ·left;refine ⟨x::q,y,r,by rw [h1];rfl,fun z hz=>?_,h3,h4,?_⟩
      ·rcases List.mem_cons.1 hz with rfl | hz
       ·rw [hg];simp
       ·exact h2 z hz
      ·refine Eq.trans h5 ?_;have e2:BJ id th N (x::q++[y])=BJ id th N (q++[y]):=by show BJ id th N ([x]++(q++[y]))=_;rw [Mn];simp [BJ,G7,hg]
       rw [e2,List.append_assoc];rfl
     ·right;refine ⟨fun z hz=>?_,?_⟩
      ·rcases List.mem_cons.1 hz with rfl | hz
       ·rw [hg];simp
       ·exact h1 z hz
      ·refine Eq.trans h2 ?_;have e2:BJ id th N (x::post)=BJ id th N post:=by show BJ id th N ([x]++post)=_;rw [Mn];simp [BJ,G7,hg]
       rw [e2]
   | true=>
     rw [if_pos rfl];by_cases hq:id<x.PE
     ·rw [if_pos hq];have e:B0 id th N (pre++[x])=B0 id th N pre++[{x with SS:=3}]:=by rw [PK];simp [B0,DJ,hg,hq]
      have:=ih (pre++[x]) (E++[⟨id,x.PE,⟨7,x.EP,0⟩⟩]) (by simpa using h) (fun y hy=>by
       rcases List.mem_append.1 hy with hy | hy
       ·exact hp y hy
       ·simp at hy;subst hy;exact fun _=>hq) (by rw [AW,AW];omega)
      rw [e,List.append_assoc,List.singleton_append] at this;have em:BJ id th N [x]=[⟨id,x.PE,⟨7,x.EP,0⟩⟩]:=by simp [BJ,G7,hg,hq]
      rcases this with ⟨q,y,r,h1,h2,h3,h4,h5⟩ | ⟨h1,h2⟩
      ·left;refine ⟨x::q,y,r,by rw [h1];rfl,fun z hz=>?_,h3,h4,?_⟩
       ·rcases List.mem_cons.1 hz with rfl | hz
        ·exact fun _=>hq
        ·exact h2 z hz
       ·refine Eq.trans h5 ?_;have e2:BJ id th N (x::q++[y])=BJ id th N [x]++BJ id th N (q++[y]):=Mn id th N [x] (q++[y]);rw [e2,em,List.append_assoc,List.append_assoc];rfl
      ·right;refine ⟨fun z hz=>?_,?_⟩
       ·rcases List.mem_cons.1 hz with rfl | hz
        ·exact fun _=>hq
        ·exact h1 z hz
       ·refine Eq.trans h2 ?_;have e2:BJ id th N (x::post)=BJ id th N [x]++BJ id th N post:=Mn id th N [x] post;rw [e2,em,List.append_assoc]
     ·rw [if_neg hq];left;refine ⟨[],x,post,rfl,by simp,hg,hq,?_⟩;rw [h] at J;rw [List.pairwise_append,List.pairwise_cons] at J;obtain ⟨_,⟨p1,_⟩,p2⟩:=J;have e1:(B0 id th N pre++x::post).filter (fun y=>!decide (y.PE=x.PE))=B0 id th N pre++post:=by
       rw [List.filter_append,List.filter_cons,List.filter_eq_self.2,List.filter_eq_self.2]
       ·simp
       ·intro y hy;have:=p1 y hy;simp;omega
       ·intro y hy;obtain ⟨z,hz,hy⟩:=List.mem_filterMap.1 hy;have:=p2 z hz x (by simp);have e:y.PE=z.PE:=by
         unfold DJ at hy;split at hy
         ·split at hy
          ·simp at hy;subst hy;rfl
          ·simp at hy
         ·simp at hy;subst hy;rfl
        simp;omega
      have em:BJ id th N [x]=[⟨id,x.PE,⟨8,x.EP,0⟩⟩]:=by simp [BJ,G7,hg,hq]
      rw [e1,List.append_nil,List.nil_append,em]
theorem vP (J:N.length≤100000):∀(n:Nat) (S:List SX) (E:List ML),S.length≤n→S.length≤1000→S.Pairwise (fun x y=>x.PE<y.PE)→E.length+(BJ id th N S).length≤900000→
  loop (S0 id ph th d B O f N K A V) (S,E)=some (E++BJ id th N S,B0 id th N S):=by
 intro n;induction n with
 | zero=>
   intro S E hn _ _ _;have:S=[]:=List.length_eq_zero_iff.1 Om;subst this;rw [Bn];dsimp only [S0];rcases gk id ph th d B O f N K A V [] List.Pairwise.nil (by simp) J [] [] E rfl (by simp) (by simp;omega) with ⟨q,x,r,h,_⟩ | ⟨_,h⟩
   ·have:=congrArg List.length h;simp at this
   ·have h:loop (Hz id ph th d B O f N K A V []) (0,[],E)=_:=h;rw [h]
 | succ n ih=>
   intro S E hn hl hS hE;rw [Bn];dsimp only [S0];rcases gk id ph th d B O f N K A V S hS hl J S [] E rfl (by simp) (by simp;omega) with ⟨q,x,r,h1,h2,h3,h4,h5⟩ | ⟨_,h⟩
   ·have h5:loop (Hz id ph th d B O f N K A V S) (0,S,E)=_:=h5;rw [h5];dsimp only;have ql:=gi id th N q;have qm:=ZN id th N (q++[x]);have h8:S.length=q.length+(r.length+1):=by rw [h1];simp
    have hx:B0 id th N [x]=[]:=by simp [B0,DJ,h3,h4]
    have h6:=ZO (id:=id) (gj id th N q);have hp:(B0 id th N ([]++q)++r).Pairwise fun x y=>x.PE<y.PE:=by
     rw [h1,List.pairwise_append,List.pairwise_cons] at hS;obtain ⟨s1,⟨_,s2⟩,s3⟩:=hS;have Ap:∀y∈B0 id th N q,∃z∈q,y.PE=z.PE:=by
      intro y hy;obtain ⟨z,hz,hy⟩:=List.mem_filterMap.1 hy;refine ⟨z,hz,?_⟩;unfold DJ at hy;split at hy
      ·split at hy
       ·simp at hy;subst hy;rfl
       ·simp at hy
      ·simp at hy;subst hy;rfl
     rw [List.nil_append,List.pairwise_append];refine ⟨?_,s2,fun y hy z hz=>?_⟩
     ·unfold B0;rw [List.pairwise_filterMap];refine s1.imp fun {a b} hab y hy z hz=>?_;have e:∀ {a y:SX},DJ id th N a=some y→y.PE=a.PE:=by
       intro a y hy;unfold DJ at hy;split at hy
       ·split at hy
        ·simp at hy;subst hy;rfl
        ·simp at hy
       ·simp at hy;subst hy;rfl
      rw [e hy,e hz];exact hab
     ·obtain ⟨w,hw,e⟩:=Ap y hy;rw [e];exact s3 w hw z (List.mem_cons_of_mem _ hz)
    have e3:BJ id th N (q++x::r)=BJ id th N (q++[x])++BJ id th N r:=by rw [←Mn];simp
    have e4:B0 id th N (q++x::r)=B0 id th N q++B0 id th N r:=by rw [show q++x::r=q++([x]++r) from rfl,PK,PK,hx];rfl
    have e5:BJ id th N (B0 id th N q++r)=BJ id th N r:=by rw [Mn id th N (B0 id th N q) r,h6.2];rfl
    have e6:B0 id th N (B0 id th N q++r)=B0 id th N q++B0 id th N r:=by rw [PK id th N (B0 id th N q) r,h6.1]
    rw [h1,e3,List.length_append] at hE;rw [List.nil_append] at hp ⊢;rw [ih _ _ (by rw [List.length_append];omega) (by rw [List.length_append];omega) hp (by rw [List.length_append,e5];omega)];rw [e5,e6,h1,e3,e4,List.append_assoc]
   ·have h:loop (Hz id ph th d B O f N K A V S) (0,S,E)=_:=h;rw [h]
end
end NX
end Go.Proofs.YtgnjledocpbchaaGreat
/-
  Plain laws: what a node does once. No statement of the seat is proved here.
-/
namespace Go.Proofs.YtgnjledocpbchaaGreat
namespace NX
open Go
def AZ (n:NO):NO:=if n.DK.DI.PH=2 then n else ⟨⟨⟨n.DK.DI.ID,n.DK.DI.PH,D6 n.DK.DI.SD n.AK⟩,n.DK.TH,n.DK.NE⟩,n.BK,DU n.KN n.AK,n.TL,[]⟩
def Gq (n:NO):List ML:=if n.DK.DI.PH=2 then [] else EE n.DK.DI.ID n.AK
def Ha (n:NO):List EV:=if n.DK.DI.PH=2 then [] else FX n.DK.DI.ID n.AK
def Cf (n:NO):Option SE:=match n.BK.SE with | []=>none | s::_=>if s.SS=0 then some s else none
def CJ (n:NO):DK:=match Cf n with | some s=>if n.DK.TH=0 then ⟨n.DK.DI,1,s.NE⟩ else n.DK | none=>n.DK
def BM (n:NO):NO:=⟨CJ n,n.BK,n.KN,n.TL,n.AK⟩
def Gw (n:NO):Int:=if decide (n.DK.DI.PH=0)&&n.DK.DI.SD.any (CK n.TL) then 1 else n.DK.DI.PH
def BB (n:NO):NO:=⟨⟨⟨n.DK.DI.ID,Gw n,n.DK.DI.SD⟩,n.DK.TH,n.DK.NE⟩,n.BK,n.KN,n.TL,n.AK⟩
def BI (n:NO):NO:=⟨(Bv n.DK).1,n.BK,n.KN,n.TL,n.AK⟩
def E9 (n:NO):BK:=match n.BK.SE with | []=>n.BK | s::l=>if s.SS=0 then (if n.DK.TH=2 then ⟨n.BK.LA,⟨s.ID,s.NE,1,s.Age⟩::l⟩ else n.BK) else n.BK
def AL (n:NO):NO:=⟨n.DK,E9 n,n.KN,n.TL,n.AK⟩
def CO (n:NO):List EV:=match Cf n with | some s=>if n.DK.TH=2 then [⟨1,n.DK.DI.ID,s.ID,0,[]⟩] else [] | none=>[]
def Dr (n:NO):List Int×List ML:=if n.DK.DI.PH=2 then Cr n.DK.DI.ID n.DK.DI.SD n.TL [] else (n.TL,[])
def CI (n:NO):NO:=⟨n.DK,n.BK,n.KN,(Dr n).1,n.AK⟩
def Ec (n:NO):NO:=⟨⟨⟨n.DK.DI.ID,n.DK.DI.PH,B0 n.DK.DI.ID n.DK.TH n.DK.NE n.DK.DI.SD⟩,n.DK.TH,n.DK.NE⟩,n.BK,n.KN,n.TL,n.AK⟩
def EK (n:NO):List ML:=BJ n.DK.DI.ID n.DK.TH n.DK.NE n.DK.DI.SD
def Bj (n:NO):NO:=BB (BM (AZ n))
def Aw (n:NO):NO:=BI (Bj n)
def AN (n:NO):NO:=Ec (CI (AL (Aw n)))
def E6 (n:NO):List ML:=Gq n++((Bv (Bj n).DK).2++((Dr (AL (Aw n))).2++EK (CI (AL (Aw n)))))
def Ef (n:NO):List EV:=Ha n++CO (Aw n)
def H6 (n:NO) (E:List ML) (V:List EV):Int×Int×Int×Int×List SE×List Int×List KE×List EV×List KE×List Int×List ML×List SX:=(n.DK.DI.ID,n.DK.DI.PH,n.DK.TH,n.BK.LA,n.BK.SE,n.TL,n.KN,V,n.AK,n.DK.NE,E,n.DK.DI.SD)
def FR (d:DK) (N:List Int) (M:List ML):Int×Int×Int×Int×List SX×List Int×List ML:=(d.DI.ID,d.DI.PH,d.TH,0,d.DI.SD,N,M)
theorem U0 (id:Int):∀(l:List SX) (T:List Int) (E:List ML),Cr id l T E=((Cr id l T []).1,E++(Cr id l T []).2)
 | [],T,E=>by simp [Cr]
 | x::l,T,E=>by
   unfold Cr;split
   ·rw [U0 id l _ (E++_),U0 id l _ ([]++_)];simp
   ·exact U0 id l T E
theorem YE (id:Int):∀(l:List SX) (T:List Int) (E:List ML),(Cr id l T E).1.length≤T.length+l.length∧(Cr id l T E).2.length≤E.length+l.length
 | [],T,E=>by simp [Cr]
 | x::l,T,E=>by
   unfold Cr;split
   ·have:=YE id l (Bm (T++[x.PE])) (E++[⟨id,x.PE,⟨5,x.EP,0⟩⟩]);have h2:=TT (T++[x.PE]);simp only [List.length_append,List.length_cons,List.length_nil] at this h2 ⊢;omega
   ·have:=YE id l T E;simp only [List.length_cons];omega
section
variable (f:Int)
theorem jt (m:NO) (J E:List ML) (V:List EV) (U:m.DK.DI.SD.length≤1000) (hs:m.DK.DI.SD.Pairwise fun x y=>x.PE<y.PE) (hO:m.TL.length≤1000) (Z:m.DK.NE.length≤100000) (Y:E.length≤800000):
  KZ m.TL f m.KN m.AK (FR m.DK m.DK.NE J) E (m.BK.LA,m.BK.SE,V)=some (H6 (Ec (CI m)) (E++((Dr m).2++EK (CI m))) V):=by
 have h1:=YE m.DK.DI.ID m.DK.DI.SD m.TL [];have h2:=ZN m.DK.DI.ID m.DK.TH m.DK.NE m.DK.DI.SD;have j10:∀(T:List Int) (E:List ML),E.length≤890000→NC f m.KN m.AK (FR m.DK m.DK.NE J) m.BK.LA m.BK.SE V (T,E)=some (H6 (Ec ⟨m.DK,m.BK,m.KN,T,m.AK⟩) (E++EK m) V):=fun T E Y=>by dsimp only [NC,FR,Wp];rw [vP m.DK.DI.ID m.DK.DI.PH m.DK.TH m.BK.LA m.BK.SE T f m.DK.NE m.KN m.AK V Z _ m.DK.DI.SD E (Nat.le_refl _) U hs Om,OB];rfl
 dsimp only [KZ];unfold CI Dr;by_cases hp:m.DK.DI.PH=2
 ·rw [show decide ((FR m.DK m.DK.NE J).2.1=2)=true from DT hp,Ag,if_pos hp];dsimp only [FR];rw [wj _ _ _ _ _ _ _ _ _ _ _ _ _ U hO Om,OB];have:=j10 (Cr m.DK.DI.ID m.DK.DI.SD m.TL []).1 (E++(Cr m.DK.DI.ID m.DK.DI.SD m.TL []).2) (by rw [List.length_append];simp only [List.length_nil] at h1;omega);rw [U0];dsimp only;refine Eq.trans this ?_;rw [List.append_assoc];rfl
 ·rw [show decide ((FR m.DK m.DK.NE J).2.1=2)=false from DN hp,Aa,if_neg hp];rw [j10 m.TL E Om];rfl
def CZ (n:NO):SE×Bool:=match n.BK.SE with | []=>(lk,false) | s::_=>(s,true)
theorem tI (m:NO) (J E:List ML) (V:List EV) (hB:DF m.BK) (hk:Cw m.BK=true) (hS:m.DK.DI.SD.length≤1000) (hs:m.DK.DI.SD.Pairwise fun x y=>x.PE<y.PE) (Z:m.TL.length≤1000) (Y:m.DK.NE.length≤100000) (U:E.length≤800000) (hV:V.length≤800000):
  Sa m.BK.LA m.BK.SE m.TL f m.KN V m.AK (CZ m) (FR m.DK m.DK.NE J) E=some (H6 (Ec (CI (AL m))) (E++((Dr (AL m)).2++EK (CI (AL m)))) (V++CO m)):=by
 have no:E9 m=m.BK→CO m=[]→KZ m.TL f m.KN m.AK (FR m.DK m.DK.NE J) E (m.BK.LA,m.BK.SE,V)=some (H6 (Ec (CI (AL m))) (E++((Dr (AL m)).2++EK (CI (AL m)))) (V++CO m)):=fun e1 e2=>by
  have e:AL m=m:=by unfold AL;rw [e1]
  rw [e,e2,List.append_nil];exact jt f m J E V hS hs Z Y U
 dsimp only [Sa,NG];simp only [Aa];unfold CZ;cases hb:m.BK.SE with
 | nil=>rw [Aa,←hb];exact no (by unfold E9;rw [hb]) (by unfold CO Cf;rw [hb])
 | cons s l=>
   rw [Ag];by_cases h0:s.SS=0
   ·rw [DT h0,Ag];by_cases h2:m.DK.TH=2
    ·rw [show decide ((FR m.DK m.DK.NE J).2.2.1=2)=true from DT h2,Ag,←hb,kl m.BK hB,OB];have eg:EJ m.BK=(⟨m.BK.LA,⟨s.ID,s.NE,1,s.Age⟩::l⟩,s.ID,0):=by unfold EJ;rw [hk,if_pos rfl,hb];dsimp only;rw [if_neg Om]
     have e1:AL m=⟨m.DK,⟨m.BK.LA,⟨s.ID,s.NE,1,s.Age⟩::l⟩,m.KN,m.TL,m.AK⟩:=by unfold AL E9;rw [hb];dsimp only;rw [if_pos h0,if_pos h2]
     have e2:CO m=[⟨1,m.DK.DI.ID,s.ID,0,[]⟩]:=by unfold CO Cf;rw [hb];dsimp only;rw [if_pos h0];dsimp only;rw [if_pos h2]
     rw [eg];dsimp only [Wr,FR];rw [we _ _ _ _ _ _ _ _ _ _ _ _ _ _ _ Om,OB,e1,e2];have:=jt f ⟨m.DK,⟨m.BK.LA,⟨s.ID,s.NE,1,s.Age⟩::l⟩,m.KN,m.TL,m.AK⟩ J E (V++[⟨1,m.DK.DI.ID,s.ID,0,[]⟩]) hS hs Z Y U;rw [hb];exact this
    ·rw [show decide ((FR m.DK m.DK.NE J).2.2.1=2)=false from DN h2,Aa,←hb];exact no (by unfold E9;rw [hb];dsimp only;rw [if_pos h0,if_neg h2]) (by unfold CO Cf;rw [hb];dsimp only;rw [if_pos h0];dsimp only;rw [if_neg h2])
   ·rw [DN h0,Aa,←hb];exact no (by unfold E9;rw [hb];dsimp only;rw [if_neg h0]) (by unfold CO Cf;rw [hb];dsimp only;rw [if_neg h0])
theorem wm (x:SX) (n:node_node) (h:n.NO.TL.length≤1000):Nz x n=some (CK n.NO.TL x):=by simp only [Nz,Iq,OB,Gi n.NO.TL x.PE Om,S8];unfold CK ER;cases decide (x.SS=1)<;>rfl
theorem eY (n:Nat):∀(d:DK) (out:List ML),((Cm n d out).1.DI.SD.map (·.PE))=d.DI.SD.map (·.PE)∧(Cm n d out).1.DI.ID=d.DI.ID:=by
 induction n with
 | zero=>intro d out;exact ⟨rfl,rfl⟩
 | succ n ih=>
   intro d out;unfold Cm;split
   ·exact ⟨rfl,rfl⟩
   ·obtain ⟨i1,i2⟩:=ih (AY d) (out++Dp d);refine ⟨i1.trans ?_,i2⟩;show (Gg d).map _=_;unfold Gg;rw [List.map_map];have e:((fun x:SX=>x.PE)∘fun x=>Ca (Cu d x) d.TH x)=fun x:SX=>x.PE:=by funext x;exact (Pf _ _ _).1
    rw [e,Hf,List.map_map];show d.DI.SD.map _=_;congr 1;funext x;exact (M8 _ x).1
theorem qF (d:DK):(Bv d).1.DI.SD.map (·.PE)=d.DI.SD.map (·.PE)∧(Bv d).1.DI.ID=d.DI.ID∧(Bv d).1.NE=d.NE:=⟨(eY 300 d []).1,(eY 300 d []).2,fa 300 d []⟩
theorem OQ {S S':List SX} (h:S'.map (·.PE)=S.map (·.PE)) (hs:S.Pairwise fun x y=>x.PE<y.PE):S'.Pairwise fun x y=>x.PE<y.PE:=by have h1:(S.map (·.PE)).Pairwise (· < ·):=List.pairwise_map.2 hs;rw [←h] at h1;exact List.pairwise_map.1 h1
theorem fb:∀(n:Nat) (d:DK) (out:List ML),(Cm n d out).2.length+bits (Cm n d out).1.DI.SD=out.length+bits d.DI.SD
 | 0,_,_=>rfl
 | n+1,d,out=>by
   unfold Cm;split
   ·rfl
   ·have h1:=fb n (AY d) (out++Dp d);have h2:=bu d;rw [List.length_append] at h1;omega
theorem eX {d:DK} (h:EQ d=true):(Bv d).2.length≤256:=by have h1:=fb 300 d [];have h2:=Zb d.DI.SD;have h3:=H2 (OK h);simp only [List.length_nil] at h1;unfold Bv;omega
theorem tE (m:NO) (x20:SE×Bool) (h6:x20=CZ m) (E:List ML) (V:List EV) (hd:EQ (BB m).DK=true) (U:DF m.BK) (hk:Cw m.BK=true) (hs:m.DK.DI.SD.Pairwise fun x y=>x.PE<y.PE) (J:m.TL.length≤1000) (Y:m.DK.NE.length≤100000) (hE:E.length≤700000) (Z:V.length≤800000):
  KY m.DK.DI.ID m.DK.DI.PH m.BK.LA m.BK.SE m.TL f m.DK.DI.SD m.KN E V m.AK x20 (m.DK.TH,m.DK.NE) =
   some (H6 (Ec (CI (AL (BI (BB m))))) (E++((Bv (BB m).DK).2++((Dr (AL (BI (BB m)))).2++EK (CI (AL (BI (BB m))))))) (V++CO (BI (BB m)))):=by
 subst h6;have hl:=H2 (OK hd);have hl:m.DK.DI.SD.length<64:=hl;have hq:=qF (BB m).DK;have h8:(Bv (BB m).DK).1.DI.SD.length=m.DK.DI.SD.length:=by have:=congrArg List.length hq.1;rw [List.length_map,List.length_map] at this;exact this
 have ho:=eX hd;have h9:Bv (BB m).DK=Bv ⟨⟨m.DK.DI.ID,Gw m,m.DK.DI.SD⟩,m.DK.TH,m.DK.NE⟩:=rfl;have j5:∀z,z=Gw m→NF m.DK.DI.ID m.BK.LA m.BK.SE m.TL f m.DK.DI.SD m.KN E V m.AK (CZ m) m.DK.TH m.DK.NE z=some (H6 (Ec (CI (AL (BI (BB m))))) (E++((Bv (BB m).DK).2++((Dr (AL (BI (BB m)))).2++EK (CI (AL (BI (BB m))))))) (V++CO (BI (BB m)))):=fun z hz=>by subst hz;dsimp only [NF];have hf:=vz (BB m).DK hd (by show m.DK.NE.length≤1000000;omega);have hf':MK m.DK.DI.ID (Gw m) m.DK.TH m.DK.DI.SD m.DK.NE=some (FR (Bv (BB m).DK).1 m.DK.NE (Bv (BB m).DK).2):=hf;rw [hf',OB];rw [show (FR (Bv (BB m).DK).1 m.DK.NE (Bv (BB m).DK).2).2.2.2.2.2.2=(Bv (BB m).DK).2 from rfl,B5 _ _ Om Om,OB];have hn:(BI (BB m)).DK.NE=m.DK.NE:=hq.2.2;have:=tI f (BI (BB m)) (Bv (BB m).DK).2 (E++(Bv (BB m).DK).2) V U hk (by show (Bv (BB m).DK).1.DI.SD.length≤1000;omega) (OQ hq.1 hs) J (by rw [hn];exact Y) (by rw [List.length_append];omega) Z;rw [hn,List.append_assoc] at this;exact this
 dsimp only [KY,S9];rw [Aa,TI m.DK.DI.SD _ (CK m.TL) Om (fun x _=>wm x _ J),OB];unfold Gw at j5;by_cases h0:m.DK.DI.PH=0
 ·rw [DT h0] at j5 ⊢;rw [Ag];cases hu:m.DK.DI.SD.any (CK m.TL) with
  | true=>rw [hu] at j5;exact j5 1 rfl
  | false=>rw [hu] at j5;exact j5 _ rfl
 ·rw [DN h0] at j5 ⊢;exact j5 _ rfl
theorem vJ (a b c d:Int) (B:BK) (O:List Int) (S:List SX) (N:List Int) (K A:List KE) (n:NO) (h:n.BK=B):RG a b c d B.SE O S N K A=some (CZ n):=by
 subst h;simp only [RG,AX];unfold CZ;cases h:n.BK.SE with
 | nil=>rfl
 | cons s l=>rw [DN (by simp;omega),Aa];rfl
theorem jv (m:NO) (E:List ML) (V:List EV) (hd:EQ (BB (BM m)).DK=true) (U:DF m.BK) (hk:Cw m.BK=true) (hs:m.DK.DI.SD.Pairwise fun x y=>x.PE<y.PE) (Z:m.TL.length≤1000) (J:m.DK.NE.length≤100000) (h9:∀s∈m.BK.SE,s.NE.length≤100000) (Y:E.length≤700000) (hV:V.length≤800000):
  NB m.DK.DI.ID m.DK.DI.PH m.DK.TH m.BK.LA m.BK.SE m.TL f m.DK.NE (m.DK.DI.SD,m.KN,E,V,m.AK) =
   some (H6 (Ec (CI (AL (BI (BB (BM m)))))) (E++((Bv (BB (BM m)).DK).2++((Dr (AL (BI (BB (BM m))))).2++EK (CI (AL (BI (BB (BM m)))))))) (V++CO (BI (BB (BM m))))):=by
 have h6:(BM m).DK.DI=m.DK.DI:=by
  show (CJ m).DI=_;unfold CJ;split
  ·split<;>rfl
  ·rfl
 have h8:(BM m).DK.NE.length≤100000:=by
  show (CJ m).NE.length≤_;unfold CJ;split
  ·rename_i s hw;split
   ·unfold Cf at hw;split at hw
    ·simp at hw
    ·rename_i s' l hb;split at hw
     ·simp at hw;subst hw;exact h9 _ (by rw [hb];simp)
     ·simp at hw
   ·exact J
  ·exact J
 have Ap:=tE f (BM m) (CZ m) rfl E V hd U hk (by rw [h6];exact hs) Z h8 Y hV;rw [h6] at Ap;have fin:∀(p:Int×List Int),p=((BM m).DK.TH,(BM m).DK.NE)→KY m.DK.DI.ID m.DK.DI.PH m.BK.LA m.BK.SE m.TL f m.DK.DI.SD m.KN E V m.AK (CZ m) p=some (H6 (Ec (CI (AL (BI (BB (BM m)))))) (E++((Bv (BB (BM m)).DK).2++((Dr (AL (BI (BB (BM m))))).2++EK (CI (AL (BI (BB (BM m)))))))) (V++CO (BI (BB (BM m))))):=fun p hp=>by rw [hp];exact Ap
 dsimp only [NB,ND];rw [vJ _ _ _ _ m.BK _ _ _ _ _ m rfl,OB];simp only [Aa];have noT:Cf m=none→(m.DK.TH,m.DK.NE)=((BM m).DK.TH,(BM m).DK.NE):=fun h=>by
  show _=((CJ m).TH,(CJ m).NE)
  unfold CJ;rw [h]
 cases hb:m.BK.SE with
 | nil=>
   have e:(CZ m).2=false:=by unfold CZ;rw [hb]
   rw [e,Aa,←hb];exact fin _ (noT (by unfold Cf;rw [hb]))
 | cons s l=>
   have e:CZ m=(s,true):=by unfold CZ;rw [hb]
   rw [←hb];rw [show (CZ m).2=true by rw [e],Ag,show (CZ m).1=s by rw [e]];by_cases h0:s.SS=0
   ·have hw:Cf m=some s:=by unfold Cf;rw [hb];dsimp only;rw [if_pos h0]
    rw [DT h0,Ag];by_cases h1:m.DK.TH=0
    ·rw [DT h1,Ag,Ex s.NE (by have:=h9 s (by rw [hb];simp);omega),OB];refine fin _ ?_;show _=((CJ m).TH,(CJ m).NE)
     unfold CJ;rw [hw];dsimp only;rw [if_pos h1]
    ·rw [DN h1,Aa];refine fin _ ?_;show _=((CJ m).TH,(CJ m).NE)
     unfold CJ;rw [hw];dsimp only;rw [if_neg h1]
   ·rw [DN h0,Aa];exact fin _ (noT (by unfold Cf;rw [hb];dsimp only;rw [if_neg h0]))
structure GoN (n:NO):Prop where
 rowS:RowS n.DK.DI.SD
 rowK:RowK n.KN
 ask:AskOK n.DK.DI.SD n.AK
 lenS:n.DK.DI.SD.length+n.AK.length≤1000
 lenK:n.KN.length+n.AK.length≤1000
 dr:EQ (Bj n).DK=true
 bk:DF n.BK
 ok:Cw n.BK=true
 told:n.TL.length≤1000
 need:n.DK.NE.length≤100000
 needs:∀s∈n.BK.SE,s.NE.length≤100000
theorem vZ (n:NO) (h:GoN n) (E:List ML) (V:List EV) (J:E.length≤600000) (U:V.length≤600000):
  NA n.DK.DI.ID n.DK.DI.PH n.DK.TH n.BK.LA n.BK.SE n.TL f n.DK.DI.SD n.DK.NE n.KN n.AK E V=some (H6 (AN n) (E++E6 n) (V++Ef n)):=by
 have hd:=h.dr;have hr:=(dG h.rowS h.rowK h.ask h.lenS h.lenK [] n.AK (by simp)).1;have hA:=h.lenS;dsimp only [NA];unfold AN E6 Ef Aw Bj Gq Ha;unfold Bj at hd;by_cases hp:n.DK.DI.PH=2
 ·have e:AZ n=n:=by unfold AZ;rw [if_pos hp]
  rw [e] at hd ⊢;rw [DT hp,Bool.not_true,Aa,if_pos hp,if_pos hp];have:=jv f n E V hd h.bk h.ok h.rowS.up h.told h.need h.needs Om Om;simpa using this
 ·have e:AZ n=⟨⟨⟨n.DK.DI.ID,n.DK.DI.PH,D6 n.DK.DI.SD n.AK⟩,n.DK.TH,n.DK.NE⟩,n.BK,DU n.KN n.AK,n.TL,[]⟩:=by unfold AZ;rw [if_neg hp]
  rw [DN hp,Bool.not_false,Ag,if_neg hp,if_neg hp];rw [vu _ _ _ _ _ _ _ _ _ _ _ _ _ h.rowS h.rowK h.ask h.lenS h.lenK Om Om,OB];rw [e] at hd ⊢;have:=jv f ⟨⟨⟨n.DK.DI.ID,n.DK.DI.PH,D6 n.DK.DI.SD n.AK⟩,n.DK.TH,n.DK.NE⟩,n.BK,DU n.KN n.AK,n.TL,[]⟩ (E++EE n.DK.DI.ID n.AK) (V++FX n.DK.DI.ID n.AK) hd h.bk h.ok hr.up h.told h.need h.needs (by rw [List.length_append,EE,List.length_map];omega) (by rw [List.length_append,FX,List.length_map];omega);dsimp only at this ⊢;rw [List.append_assoc,List.append_assoc] at this;exact this
end
end NX
end Go.Proofs.YtgnjledocpbchaaGreat
