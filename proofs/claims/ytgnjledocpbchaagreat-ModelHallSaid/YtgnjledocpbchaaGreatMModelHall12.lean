/-
  Plain laws: loops of models over lists and ranges. No statement of the seat is proved here.
-/
import Derived.Test.YtgnjledocpbchaaGreatM11
namespace Go.Proofs.YtgnjledocpbchaaGreat
namespace NX
open Go
theorem OB {α β:Type} (a:α) (f:α→Option β):(some a).bind f=f a:=rfl
theorem DN {p:Prop} [Decidable p] (h:¬p):decide p=false:=decide_eq_false h
theorem DT {p:Prop} [Decidable p] (h:p):decide p=true:=decide_eq_true h
@[simp] theorem Ag {α:Type} (a b:Option α):A0 true a b=a:=rfl
@[simp] theorem Aa {α:Type} (a b:Option α):A0 false a b=b:=rfl
theorem Je {α:Type} (e:Bool) (a b:Option α):A0 (!e) a b=A0 e b a:=by cases e<;>rfl
theorem D4 {n:Int} (h1: -9223372036854775808≤n) (h2:n≤9223372036854775807):wr n=n:=IntWalk.i64_in n ⟨h1,h2⟩
theorem Ar {α:Type} {l:List α} {k:Nat} {x:α} (h:l[k]?=some x):Ac l (k:Int)=some x:=by unfold Ac;rw [if_pos (Int.natCast_nonneg k)];simpa using h
theorem Z7 {α:Type} {l:List α} {i:Int} (h0:0≤i) (h:i<l.length):∃x,Ac l i=some x∧l[i.toNat]?=some x:=by
 have hlt:i.toNat<l.length:=by omega
 exact ⟨l[i.toNat],by unfold Ac;rw [if_pos h0,List.getElem?_eq_getElem hlt],List.getElem?_eq_getElem hlt⟩
theorem B5 {α:Type} {b:Nat} (l m:List α) (hb:b≤1000) (h:l.length+m.length≤100000000):AE b l m=some (l++m):=by unfold AE;rw [if_pos];exact ⟨by have h1:(l.length+m.length)*b≤100000000*1000:=Nat.mul_le_mul h hb;omega,Om⟩
theorem AQ {α:Type} {f:α→List AV} {l:List α} {k:Nat} {x:α} (h:l[k]?=some x):decide ((k:Int)<ln f l)=true:=by have:=(List.getElem?_eq_some_iff.1 h).1;rw [AY];simp;omega
theorem AT {α:Type} {f:α→List AV} {l:List α}:decide ((l.length:Int)<ln f l)=false:=by rw [AY];simp
theorem AC {k:Nat} (h:k≤4000000000000000000):wr ((k:Int)+1)=((k+1:Nat):Int):=D4 Om Om
theorem EA {α:Type} {l:List α} {k:Nat} {x:α} (h:l[k]?=some x) (hl:l.length≤4000000000000000000):wr ((k:Int)+1)=((k+1:Nat):Int):=by have:=(List.getElem?_eq_some_iff.1 h).1;exact AC Om
def I5 {σ β:Type} (f:Nat→σ→Option (σ ⊕ β)) (E:σ→Option β):Nat→Nat→σ→Option β
 | 0,_,s=>E s
 | m+1,k,s=>match f k s with
   | none=>none
   | some (.inl s')=>I5 f E m (k+1) s'
   | some (.inr r)=>some r
theorem ZV {σ β τ:Type} (body:τ→Option (τ ⊕ β)) (mk:Int→σ→τ) (f:Nat→σ→Option (σ ⊕ β)) (E:σ→Option β) (n:Nat) (hn:n≤4000000000000000000)
  (hb:∀(k:Nat) s,k<n→body (mk k s)=(f k s).map (fun | .inl s'=>.inl (mk (k+1:Nat) s') | .inr r=>.inr r)) (he:∀s,body (mk n s)=(E s).map .inr):
  ∀(m k:Nat) (s:σ),m+k=n→loop body (mk k s)=I5 f E m k s
 | 0,k,s,h=>by
   have:k=n:=by omega
   subst this;rw [Bn,he];cases hf:E s<;>simp [I5,hf]
 | m+1,k,s,h=>by
   rw [Bn,hb k s Om];simp only [I5];cases hf:f k s with
   | none=>rfl
   | some y=>
     cases y with
     | inl s'=>exact ZV body mk f E n hn hb he m (k+1) s' Om
     | inr r=>rfl
def fJ {α σ β:Type} (f:α→σ→Option (σ ⊕ β)) (E:σ→Option β):List α→σ→Option β
 | [],s=>E s
 | x::l,s=>match f x s with
   | none=>none
   | some (.inl s')=>fJ f E l s'
   | some (.inr r)=>some r
theorem oj {α σ β:Type} (f:α→σ→Option (σ ⊕ β)) (E:σ→Option β) (l:List α):∀(r:List α) (k:Nat) (s:σ),l.drop k=r→I5 (fun k s=>(l[k]?).bind fun x=>f x s) E r.length k s=fJ f E r s
 | [],k,s,_=>rfl
 | x::r,k,s,h=>by
   have hx:l[k]?=some x:=by have:=congrArg (·[0]?) h;simpa using this
   have hr:l.drop (k+1)=r:=by rw [←List.drop_drop,h];rfl
   simp only [List.length_cons,I5,fJ,hx,OB];cases hf:f x s with
   | none=>rfl
   | some y=>
     cases y with
     | inl s'=>exact oj f E l r (k+1) s' hr
     | inr r=>rfl
theorem t6 {α σ β τ:Type} (l:List α) (body:τ→Option (τ ⊕ β)) (mk:Int→σ→τ) (f:α→σ→Option (σ ⊕ β)) (E:σ→Option β) (hl:l.length≤4000000000000000000)
  (hb:∀(k:Nat) x s,l[k]?=some x→body (mk k s)=(f x s).map (fun | .inl s'=>.inl (mk (k+1:Nat) s') | .inr r=>.inr r)) (he:∀s,body (mk l.length s)=(E s).map .inr) (s:σ):
  loop body (mk 0 s)=fJ f E l s:=by
 have:=ZV body mk (fun k s=>(l[k]?).bind fun x=>f x s) E l.length hl (fun k s hk=>by have hx:l[k]?=some l[k]:=List.getElem?_eq_getElem hk;rw [hx,OB];exact hb k _ s hx) he l.length 0 s Om;rw [show ((0:Nat):Int)=0 from rfl] at this;rw [this];exact oj f E l l 0 s rfl
theorem qP {α β:Type} (f:α→Option (Unit ⊕ β)) (q:α→Bool) (g:α→β) (E:Option β) (l:List α) (hf:∀x∈l,f x=if q x then some (.inr (g x)) else some (.inl ())):
  fJ (fun x _=>f x) (fun _=>E) l ()=match l.find? q with | some x=>some (g x) | none=>E:=by
 induction l with
 | nil=>rfl
 | cons x l ih=>
   simp only [fJ,hf x (by simp),List.find?_cons];cases hq:q x with
   | true=>simp
   | false=>simp only [Bool.false_eq_true,if_false];exact ih fun y hy=>hf y (List.mem_cons_of_mem _ hy)
def Br:Option Nat→Int
 | some i=>i
 | none=> -1
theorem Lv (o:Option Nat):decide (0≤Br o)=o.isSome:=by cases o<;>simp [Br]
theorem jA (o:Option Nat):decide (Br o<0)=o.isNone:=by
 cases o with
 | none=>rfl
 | some n=>exact DN (by show ¬((n:Int)<0);omega)
theorem oN {α:Type} (l:List α) (q:α→Bool):∀(r:List α) (k:Nat),l.drop k=r→
  I5 (β:=Int) (fun k (_:Unit)=>(l[k]?).bind fun x=>if q x then some (.inr (k:Int)) else some (.inl ())) (fun _=>some (-1)) r.length k ()=some (Br ((r.findIdx? q).map (· + k)))
 | [],k,_=>by simp [I5,Br]
 | x::r,k,h=>by
   have hx:l[k]?=some x:=by have:=congrArg (·[0]?) h;simpa using this
   have hr:l.drop (k+1)=r:=by rw [←List.drop_drop,h];rfl
   simp only [List.length_cons,I5,hx,OB,List.findIdx?_cons];cases hq:q x with
   | true=>simp [Br]
   | false=>
     simp only [Bool.false_eq_true,if_false];rw [oN l q r (k+1) hr];cases r.findIdx? q with
     | none=>rfl
     | some n=>simp only [Option.map_some,Br];congr 2;omega
theorem eR {α:Type} (l:List α) (body:Int→Option (Int ⊕ Int)) (q:α→Bool) (hl:l.length≤4000000000000000000)
  (hb:∀(k:Nat) x,l[k]?=some x→body k=some (if q x then .inr (k:Int) else .inl ((k+1:Nat):Int))) (he:body l.length=some (.inr (-1))):loop body 0=some (Br (l.findIdx? q)):=by
 have:=ZV body (fun k (_:Unit)=>k) (fun k _=>(l[k]?).bind fun x=>if q x then some (.inr (k:Int)) else some (.inl ())) (fun _=>some (-1)) l.length hl (fun k s hk=>by have hx:l[k]?=some l[k]:=List.getElem?_eq_getElem hk;rw [hx,OB,hb k _ hx];cases q l[k]<;>rfl) (fun _=>he) l.length 0 () Om;rw [show ((0:Nat):Int)=0 from rfl] at this;rw [this,oN l q l 0 rfl];simp
theorem Kl {α:Type} (l:List α) (q:α→Bool):(l.findIdx? q).isSome=l.any q:=by rw [List.findIdx?_isSome]
theorem xV {α β:Type} (l:List α) (body:Int→Option (Int ⊕ β)) (q:α→Bool) (E no:β) (hl:l.length≤4000000000000000000)
  (hb:∀(k:Nat) x,l[k]?=some x→body k=some (if q x then .inr E else .inl ((k+1:Nat):Int))) (he:body l.length=some (.inr no)):loop body 0=some (if l.any q then E else no):=by
 have:=t6 l body (fun k (_:Unit)=>k) (fun x _=>if q x then some (.inr E) else some (.inl ())) (fun _=>some no) hl (fun k x s hx=>by rw [hb k x hx];cases q x<;>rfl) (fun _=>he) ();rw [this,qP (fun x=>if q x then some (.inr E) else some (.inl ())) q (fun _=>E) (some no) l (fun x _=>rfl)];cases h:l.find? q with
 | none=>
   rw [List.find?_eq_none] at h;have:l.any q=false:=by rw [List.any_eq_false];exact h
   simp [this]
 | some x=>
   have:l.any q=true:=by rw [List.any_eq_true];exact ⟨x,List.mem_of_find?_eq_some h,List.find?_some h⟩
   simp [this]
theorem PM {α τ β:Type} (l:List α) (body:τ→Option (τ ⊕ β)) (st:List α→τ) (R:List α→List α→Option β)
  (hb:∀pre x post,l=pre++x::post→(body (st pre)=some (.inl (st (pre++[x])))∧R pre (x::post)=R (pre++[x]) post)∨∃r,body (st pre)=some (.inr r)∧R pre (x::post)=some r)
  (he:body (st l)=(R l []).map .inr):∀post pre,l=pre++post→loop body (st pre)=R pre post
 | [],pre,h=>by
   have:pre=l:=by simpa using h.symm
   subst this;rw [Bn,he];cases R pre []<;>rfl
 | x::post,pre,h=>by
   rw [Bn];rcases hb pre x post h with ⟨h1,h2⟩ | ⟨r,h1,h2⟩
   ·rw [h1,h2];exact PM l body st R hb he post (pre++[x]) (by simpa using h)
   ·rw [h1,h2]
theorem Jj {α τ β:Type} (l:List α) (body:τ→Option (τ ⊕ β)) (st:List α→τ) (R:List α→List α→Option β)
 (hb:∀pre x post,l=pre++x::post→(body (st pre)=some (.inl (st (pre++[x])))∧R pre (x::post)=R (pre++[x]) post)∨∃r,body (st pre)=some (.inr r)∧R pre (x::post)=some r)
 (he:body (st l)=(R l []).map .inr):loop body (st [])=R [] l:=PM l body st R hb he l [] rfl
theorem oO {α τ β:Type} (l:List α) (body:τ→Option (τ ⊕ β)) (st:List α→τ) (R:List α→List α→Option β) (I:List α→Prop)
  (hb:∀pre x post,l=pre++x::post→I pre→(body (st pre)=some (.inl (st (pre++[x])))∧I (pre++[x])∧R pre (x::post)=R (pre++[x]) post)∨∃r,body (st pre)=some (.inr r)∧R pre (x::post)=some r)
  (he:I l→body (st l)=(R l []).map .inr):∀post pre,l=pre++post→I pre→loop body (st pre)=R pre post
 | [],pre,h,hI=>by
   have:pre=l:=by simpa using h.symm
   subst this;rw [Bn,he hI];cases R pre []<;>rfl
 | x::post,pre,h,hI=>by
   rw [Bn];rcases hb pre x post h hI with ⟨h1,h3,h2⟩ | ⟨r,h1,h2⟩
   ·rw [h1,h2];exact oO l body st R I hb he post (pre++[x]) (by simpa using h) h3
   ·rw [h1,h2]
theorem D0 {α τ β:Type} (l:List α) (body:τ→Option (τ ⊕ β)) (st:List α→τ) (r:β)
  (hb:∀pre x post,l=pre++x::post→body (st pre)=some (.inl (st (pre++[x])))) (he:body (st l)=some (.inr r)):loop body (st [])=some r:=
 Jj l body st (fun _ _=>some r) (fun pre x post h=>.inl ⟨hb pre x post h,rfl⟩) he
theorem BL {α:Type} {l pre post:List α} {x:α} (h:l=pre++x::post):l[pre.length]?=some x:=by subst h;simp
theorem BG {α:Type} {l pre post:List α} {x:α} (h:l=pre++x::post):pre.length<l.length:=by subst h;simp
theorem Di {α:Type} {l pre post:List α} {x:α} (h:l=pre++x::post):x∈l:=by subst h;simp
theorem IU {α:Type} {l a b:List α} {x:α} (h:l=a++x::b):Ac l (a.length:Int)=some x:=Ar (BL h)
theorem eT {α:Type} (a b:List α) (x y:α):(a++x::b).set ((a.length:Int)).toNat y=a++y::b:=by simp
theorem bb {α:Type} (pre:List α) (x:α):(pre++[x]).length=pre.length+1:=by simp
theorem Kq {τ β:Type} (n:Nat) (body:τ→Option (τ ⊕ β)) (st:Nat→τ) (r:β) (hb:∀k,k<n→body (st k)=some (.inl (st (k+1)))) (he:body (st n)=some (.inr r)):loop body (st 0)=some r:=by
 have Ap:∀m k,m+k=n→loop body (st k)=some r:=by
  intro m;induction m with
  | zero=>intro k hk;have:k=n:=by omega
          subst this;rw [Bn,he]
  | succ m ih=>intro k hk;rw [Bn,hb k Om];exact ih (k+1) Om
 exact Ap n 0 rfl
theorem ZU {τ β:Type} (n:Nat) (body:τ→Option (τ ⊕ β)) (st:Nat→τ) (R:Nat→Option β) (hb:∀k,k<n→(body (st k)=some (.inl (st (k+1)))∧R k=R (k+1))∨∃r,body (st k)=some (.inr r)∧R k=some r) (he:body (st n)=(R n).map .inr):loop body (st 0)=R 0:=by
 have Ap:∀m k,m+k=n→loop body (st k)=R k:=by
  intro m;induction m with
  | zero=>
    intro k hk;have:k=n:=by omega
    subst this;rw [Bn,he];cases R k<;>rfl
  | succ m ih=>
    intro k hk;rw [Bn];rcases hb k Om with ⟨h1,h2⟩ | ⟨r,h1,h2⟩
    ·rw [h1,h2];exact ih (k+1) Om
    ·rw [h1,h2]
 exact Ap n 0 rfl
theorem fL {α:Type} (l m:List α) (body:Int→Option (Int ⊕ Bool)) (E:α→α→Bool) (h6:l.length=m.length) (hl:l.length≤4000000000000000000)
  (hb:∀(k:Nat) x y,l[k]?=some x→m[k]?=some y→body k=some (if E x y then .inl ((k+1:Nat):Int) else .inr false)) (he:body l.length=some (.inr true)):loop body 0=some ((l.zip m).all fun p=>E p.1 p.2):=by
 rw [xV (l.zip m) body (fun p=>!E p.1 p.2) false true (by simp;omega) (fun k x hx=>by obtain ⟨x1,x2⟩:=x;rw [List.getElem?_zip_eq_some] at hx;rw [hb k x1 x2 hx.1 hx.2];cases E x1 x2<;>rfl) (by rw [show (l.zip m).length=l.length by simp [h6]];exact he)];have:∀(q:List (α×α)),(if q.any (fun p=>!E p.1 p.2) then some false else some true)=some (q.all fun p=>E p.1 p.2):=by
  intro q;induction q with
  | nil=>rfl
  | cons p q ih=>
    rw [List.any_cons,List.all_cons];cases h:E p.1 p.2 with
    | true=>exact ih
    | false=>rfl
 have h2:=this (l.zip m);rw [←h2];cases (l.zip m).any (fun p=>!E p.1 p.2)<;>rfl
theorem fe {α:Type} [DecidableEq α]:∀(l m:List α),l.length=m.length→(l.zip m).all (fun p=>decide (p.1=p.2))=decide (l=m)
 | [],[],_=>rfl
 | [],_::_,h=>by simp at h
 | _::_,[],h=>by simp at h
 | x::l,y::m,h=>by have ih:=fe l m (by simpa using h);simp only [List.zip_cons_cons,List.all_cons,ih];by_cases h1:x=y<;>simp [h1]
theorem Mo {α:Type} [DecidableEq α] {l m:List α} (h:l.length≠m.length):decide (l=m)=false:=DN (by rintro rfl;exact h rfl)
theorem Mp {α β:Type} (f:α→List AV) (g:β→List AV) (l:List α) (m:List β):decide (ln f l=ln g m)=decide (l.length=m.length):=by rw [AY,AY,decide_eq_decide];omega
theorem TK (l:List SX) (p:SX→Option Bool) (q:SX→Bool) (hl:l.length≤4000000000000000000) (hp:∀x∈l,p x=some (q x)):IA l p=some (Br (l.findIdx? q)):=by
 unfold IA;refine eR l _ q hl (fun k x hx=>?_) ?_
 ·simp only [Xx,AQ hx,Ag,Ar hx,OB,hp x (List.mem_iff_getElem?.2 ⟨k,hx⟩),EA hx hl];cases q x<;>rfl
 ·simp only [Xx,AT,Aa,Xw,Option.map_some]
theorem vc (l:List KE) (p:KE→Option Bool) (q:KE→Bool) (hl:l.length≤4000000000000000000) (hp:∀x∈l,p x=some (q x)):Tf l p=some (Br (l.findIdx? q)):=by
 unfold Tf;refine eR l _ q hl (fun k x hx=>?_) ?_
 ·simp only [Xo,AQ hx,Ag,Ar hx,OB,hp x (List.mem_iff_getElem?.2 ⟨k,hx⟩),EA hx hl];cases q x<;>rfl
 ·simp only [Xo,AT,Aa,Xl,Option.map_some]
theorem kq (l:List Int) (p:Int→Option Bool) (q:Int→Bool) (hl:l.length≤4000000000000000000) (hp:∀x∈l,p x=some (q x)):Oq l p=some (Br (l.findIdx? q)):=by
 unfold Oq;refine eR l _ q hl (fun k x hx=>?_) ?_
 ·simp only [Xz,AQ hx,Ag,Ar hx,OB,hp x (List.mem_iff_getElem?.2 ⟨k,hx⟩),EA hx hl];cases q x<;>rfl
 ·simp only [Xz,AT,Aa,Xy,Option.map_some]
theorem ko (l:List SE) (p:SE→Option Bool) (q:SE→Bool) (hl:l.length≤4000000000000000000) (hp:∀x∈l,p x=some (q x)):Oo l p=some (Br (l.findIdx? q)):=by
 unfold Oo;refine eR l _ q hl (fun k x hx=>?_) ?_
 ·simp only [Xt,AQ hx,Ag,Ar hx,OB,hp x (List.mem_iff_getElem?.2 ⟨k,hx⟩),EA hx hl];cases q x<;>rfl
 ·simp only [Xt,AT,Aa,Xs,Option.map_some]
theorem TI (l:List SX) (p:SX→Option Bool) (q:SX→Bool) (hl:l.length≤4000000000000000000) (hp:∀x∈l,p x=some (q x)):Iy l p=some (l.any q):=by unfold Iy;rw [TK l p q hl hp,OB,Lv,Kl]
theorem kb (l:List KE) (p:KE→Option Bool) (q:KE→Bool) (hl:l.length≤4000000000000000000) (hp:∀x∈l,p x=some (q x)):Og l p=some (l.any q):=by unfold Og;rw [vc l p q hl hp,OB,Lv,Kl]
theorem K1 (l:List Int) (p:Int→Option Bool) (q:Int→Bool) (hl:l.length≤4000000000000000000) (hp:∀x∈l,p x=some (q x)):Fh l p=some (l.any q):=by unfold Fh;rw [kq l p q hl hp,OB,Lv,Kl]
theorem kc (l:List SE) (p:SE→Option Bool) (q:SE→Bool) (hl:l.length≤4000000000000000000) (hp:∀x∈l,p x=some (q x)):Lf l p=some (l.any q):=by unfold Lf;rw [ko l p q hl hp,OB,Lv,Kl]
theorem d5 {k:Nat} (h:k≤4000000000000000000):wr (((k+1:Nat):Int)-1)=(k:Int):=by rw [D4 Om Om];omega
theorem nP {α:Type} (l:List α) (p:α→Bool):l.all (fun x=>!p x)=!l.any p:=by
 induction l with
 | nil=>rfl
 | cons x l ih=>simp [ih]
theorem Kf {α:Type} (l:List α) (p q:α→Bool) (h:∀x,p x=!q x):l.any p=!l.all q:=by
 induction l with
 | nil=>rfl
 | cons x l ih=>simp [ih,h]
theorem jJ {α:Type} {R:α→α→Prop} (E:∀x,¬R x x) (J:∀x y,R x y→¬R y x):∀ {l m:List α},l.Pairwise R→m.Pairwise R→(∀x,x∈l↔x∈m)→l=m
 | [],[],_,_,_=>rfl
 | [],y::m,_,_,h=>absurd ((h y).2 (by simp)) (by simp)
 | x::l,[],_,_,h=>absurd ((h x).1 (by simp)) (by simp)
 | x::l,y::m,hl,hm,h=>by
   rw [List.pairwise_cons] at hl hm;have h6:x=y:=by
    rcases List.mem_cons.1 ((h x).1 (by simp)) with e | e
    ·exact e
    ·rcases List.mem_cons.1 ((h y).2 (by simp)) with e2 | e2
     ·exact e2.symm
     ·exact absurd (hl.1 y e2) (J _ _ (hm.1 x e))
   subst h6;rw [jJ E J hl.2 hm.2 fun z=>?_];constructor
   ·intro hz;rcases List.mem_cons.1 ((h z).1 (List.mem_cons_of_mem _ hz)) with e | e
    ·subst e;exact absurd (hl.1 z hz) (E z)
    ·exact e
   ·intro hz;rcases List.mem_cons.1 ((h z).2 (List.mem_cons_of_mem _ hz)) with e | e
    ·subst e;exact absurd (hm.1 z hz) (E z)
    ·exact e
theorem xW {l:List Int} (h:l.Pairwise (· < ·)) {k:Nat} {x y:Int} (hx:l[k]?=some x) (hy:l[k+1]?=some y):x<y:=by rw [List.pairwise_iff_getElem] at h;obtain ⟨h1,rfl⟩:=List.getElem?_eq_some_iff.1 hx;obtain ⟨h2,rfl⟩:=List.getElem?_eq_some_iff.1 hy;exact h k (k+1) h1 h2 Om
theorem qk {l:List Int} (h:l.Pairwise (· < ·)):Lib.compact l=l:=by
 refine Lib.compact_all l fun j hj=>?_;cases j with
 | zero=>exact Lib.keeps_lt_one _ 0 Om
 | succ j=>have hx:l[j+1]?=some l[j+1]:=List.getElem?_eq_getElem hj;have hy:l[j]?=some l[j]:=List.getElem?_eq_getElem Om;have:=xW h hy hx;refine Lib.keeps_pos ?_;simp only [Nat.add_sub_cancel];rw [getElem!_pos _ _ (by simpa using hj),getElem!_pos _ _ (by simp;omega)];simp only [List.getElem_toArray];omega
def Bm (l:List Int):List Int:=Lib.compact (l.mergeSort fun x y=>decide (x≤y))
theorem gq (l:List Int) (hl:l.length≤1000000):Gb l=some (Bm l):=by simp only [Gb,Cp];rw [B5 _ _ Om (by simp;omega),OB,List.nil_append,DT Om,Ag];rfl
theorem wg (l:List Int) (hl:l.length≤1000000) (h:l.Pairwise (· < ·)):Gb l=some l:=by rw [gq l hl];unfold Bm;rw [List.mergeSort_of_pairwise (h.imp fun h6=>DT Om),qk h]
theorem Yn (l m:List Int) (hl:l.length≤1000000):Hv l m=some (decide (l=m)):=by
 simp only [Hv,Mp];by_cases h:l.length=m.length
 ·simp only [h,decide_true,Bool.not_true,Aa];rw [fL l m _ (fun x y=>decide (x=y)) h Om (fun k x y hx hy=>by simp only [Wc,AQ hx,Ag,Ar hx,Ar hy,OB,EA hx (show l.length≤4000000000000000000 by omega),Je,Option.map_some];cases decide (x=y)<;>rfl) (by simp only [Wc,AT,Aa,Wa,Option.map_some]),fe l m h]
 ·simp [h,Mo h]
theorem v8 (n:Nat) (hn:n≤3000000):Tb n=some []:=by
 have e0:wr (0-0)=0:=D4 Om Om;have e1:wr ((n:Int)-0)=n:=by rw [D4 Om Om];omega
 simp only [Tb,Xh,Tc,e0,e1];rw [DN Om,Aa];by_cases h:0<n
 ·rw [DT Om,Ag];unfold LQ;rw [if_pos ⟨Om,Om,Om⟩,OB];unfold D3;rw [if_pos ⟨Om,Om,Om⟩];simp
 ·rw [DN Om,Aa]
theorem uU (a b:List Int) (ha:a.length≤1000000) (hb:b.length≤1000000):Le [a,b]=some (a++b):=by
 have g0:Ac [a,b] 0=some a:=rfl;have g1:Ac [a,b] (wr (0+1))=some b:=by rw [D4 Om Om];rfl
 have l0:ln (Ci 1 Am) [a,b]=2:=by rw [AY];rfl
 have w1:wr (0+1)=1:=D4 Om Om;have w2:wr (1+1)=2:=D4 Om Om;have s1:wr (0+ln Am a)=(a.length:Int):=by rw [AY,D4 Om Om];omega
 have s2:wr ((a.length:Int)+ln Am b)=((a.length+b.length:Nat):Int):=by rw [AY,D4 Om Om];omega
 unfold Le;rw [Bn];dsimp only [SU];rw [l0,show decide ((0:Int)<2)=true from rfl,Ag,g0,OB,s1,DN Om,Aa];dsimp only [SR];rw [s1,w1,Bn];dsimp only [SU];rw [l0,show decide ((1:Int)<2)=true from rfl,Ag,←w1,g1,OB,s2,DN Om,Aa];dsimp only [SR];rw [s2,w1,w2,Bn];dsimp only [SU];rw [l0,show decide ((2:Int)<2)=false from rfl,Aa];dsimp only [WY];rw [v8 _ Om,OB];have k:loop (Od [a,b]) (0,[])=some (a++b):=by rw [Bn];dsimp only [Od];rw [l0,show decide ((0:Int)<2)=true from rfl,Ag,g0,OB,B5 _ _ Om (by simp;omega),OB,List.nil_append,w1];dsimp only;rw [Bn];dsimp only [Od];rw [l0,show decide ((1:Int)<2)=true from rfl,Ag,←w1,g1,OB,B5 _ _ Om Om,OB,w1,w2];dsimp only;rw [Bn];dsimp only [Od];rw [l0,show decide ((2:Int)<2)=false from rfl,Aa];rfl
 rw [k];rfl
theorem Yi (l:List Int) (x:Int) (hl:l.length≤1000000):Lg l x=some (decide (x∈l)):=by
 have h1:Tj l x=some (Br (l.findIdx? fun y=>decide (x=y))):=by
  unfold Tj;refine eR l _ (fun y=>decide (x=y)) Om (fun k y hy=>?_) ?_
  ·simp only [XB,AQ hy,Ag,Ar hy,OB,EA hy (show l.length≤4000000000000000000 by omega)];cases decide (x=y)<;>rfl
  ·simp only [XB,AT,Aa,XA,Option.map_some]
 simp only [Lg,h1,OB,Lv,Kl];congr 1;rw [Bool.eq_iff_iff,List.any_eq_true,decide_eq_true_iff];constructor
 ·rintro ⟨y,hy,h⟩;have:x=y:=by simpa using h
  exact this ▸ hy
 ·intro h;exact ⟨x,h,by simp⟩
theorem Gi (l:List Int) (x:Int) (hl:l.length≤1000000):EM l x=some (decide (x∈l)):=by simp only [EM,Yi l x hl,OB]
theorem oH {E:List Int} (h:E.Pairwise (· ≤ ·)):(Lib.compact E).Pairwise (· < ·)∧∀x,x∈Lib.compact E↔x∈E:=by
 have get:∀j,j<E.length→∃hj:j<E.length,E.toArray[j]! = E[j]:=fun j hj=>⟨hj,by rw [getElem!_pos _ _ (by simpa using hj)];simp⟩
 have mono:∀i j,i≤j→j<E.length→E.toArray[i]!≤E.toArray[j]!:=fun i j h8 hj=>by
  obtain ⟨_,e1⟩:=get i Om;obtain ⟨_,e2⟩:=get j hj;rw [e1,e2];by_cases e:i=j
  ·subst e;exact Int.le_refl _
  ·rw [List.pairwise_iff_getElem] at h;exact h i j Om hj Om
 have Ap:∀m,m≤E.length→(Lib.compactUpTo E.toArray m).Pairwise (· < ·)∧(∀x,x∈Lib.compactUpTo E.toArray m↔∃j,j<m∧x=E.toArray[j]!):=by
  intro m;induction m with
  | zero=>intro _;exact ⟨by simp [Lib.compactUpTo],fun x=>by simp [Lib.compactUpTo]⟩
  | succ m ih=>
    intro hm;obtain ⟨h1,h2⟩:=ih Om;rw [Lib.compactUpTo_succ];cases hk:Lib.keeps E.toArray m with
    | true=>
      rw [if_pos rfl];refine ⟨?_,fun x=>?_⟩
      ·rw [List.pairwise_append];refine ⟨h1,by simp,fun x hx y hy=>?_⟩;rw [List.mem_singleton] at hy;subst hy;obtain ⟨j,hj,rfl⟩:=(h2 x).1 hx;unfold Lib.keeps at hk;simp only [decide_eq_true_eq] at hk;have a1:=mono j (m-1) Om Om;have a2:=mono (m-1) m Om Om;rcases hk with e | e
       ·omega
       ·have:E.toArray[m]!≠E.toArray[m-1]!:=e;omega
      ·rw [List.mem_append,h2];constructor
       ·rintro (⟨j,hj,e⟩ | e)
        ·exact ⟨j,Om,e⟩
        ·simp at e;exact ⟨m,Om,by simpa using e⟩
       ·rintro ⟨j,hj,e⟩;by_cases h6:j=m
        ·subst h6;right;simp [e]
        ·exact .inl ⟨j,Om,e⟩
    | false=>
      rw [if_neg (by simp),List.append_nil];refine ⟨h1,fun x=>?_⟩;rw [h2];constructor
      ·rintro ⟨j,hj,e⟩;exact ⟨j,Om,e⟩
      ·rintro ⟨j,hj,e⟩;by_cases h6:j=m
       ·subst h6;unfold Lib.keeps at hk;simp only [decide_eq_false_iff_not,not_or,Classical.not_not] at hk;exact ⟨j-1,Om,by rw [e,hk.2]⟩
       ·exact ⟨j,Om,e⟩
 obtain ⟨k1,k2⟩:=Ap E.length (Nat.le_refl _);refine ⟨k1,fun x=>?_⟩;have:=k2 x;unfold Lib.compact;rw [this];constructor
 ·rintro ⟨j,hj,e⟩;obtain ⟨_,e1⟩:=get j hj;rw [e,e1];exact List.getElem_mem hj
 ·intro hx;obtain ⟨j,hj,e⟩:=List.mem_iff_getElem.1 hx;obtain ⟨_,e1⟩:=get j hj;exact ⟨j,hj,by rw [e1,e]⟩
theorem DO (l:List Int):(Bm l).Pairwise (· < ·)∧∀x,x∈Bm l↔x∈l:=by
 have hs:(l.mergeSort fun x y=>decide (x≤y)).Pairwise (· ≤ ·):=by have:=List.pairwise_mergeSort (le:=fun x y:Int=>decide (x≤y)) (by intro a b c;simp;omega) (by intro a b;simp;omega) l;exact this.imp fun h=>by simpa using h
 obtain ⟨h1,h2⟩:=oH hs;refine ⟨h1,fun x=>?_⟩;unfold Bm;rw [h2];exact (List.mergeSort_perm l _).mem_iff
theorem jX:∀(l:List Int) (q n:Int),l.Pairwise (· < ·)→(∀x∈l,q≤x∧x<n)→l=[]∨(l.length:Int)≤n-q
 | [],_,_,_,_=>.inl rfl
 | x::l,q,n,h,hb=>by
   rw [List.pairwise_cons] at h;have h1:=hb x (by simp);right;rcases jX l (x+1) n h.2 (fun y hy=>⟨by have:=h.1 y hy;omega,(hb y (by simp [hy])).2⟩) with rfl | h2
   ·simp only [List.length_cons,List.length_nil];omega
   ·simp only [List.length_cons];omega
theorem xX {x y:Int} {r:List Int}:(x::y::r).Pairwise (· < ·)↔x<y∧(y::r).Pairwise (· < ·):=by
 constructor
 ·intro h;rw [List.pairwise_cons] at h;exact ⟨h.1 y (by simp),h.2⟩
 ·rintro ⟨h,k⟩;rw [List.pairwise_cons];refine ⟨fun z hz=>?_,k⟩;rw [List.pairwise_cons] at k;rcases List.mem_cons.1 hz with rfl | hz
  ·exact h
  ·have:=k.1 z hz;omega
theorem ky (l:List Int) (hl:l.length≤1000000):HF l=some (decide (l.Pairwise (· < ·))):=by
 unfold HF;have Ap:=ZU l.length (JQ l) (fun k=>(k:Int)) (fun k=>some (decide ((l.drop (k-1)).Pairwise (· < ·)))) (fun k hk=>?_) ?_
 ·simpa using Ap
 ·obtain ⟨y,hy⟩:∃y,l[k]?=some y:=⟨_,List.getElem?_eq_getElem hk⟩
  dsimp only [JQ];rw [AQ hy,Ag];cases k with
  | zero=>left;rw [DN Om,Aa];dsimp only [JP];rw [Aa,AC Om];exact ⟨rfl,rfl⟩
  | succ k=>
    obtain ⟨x,hx⟩:∃x,l[k]?=some x:=⟨_,List.getElem?_eq_getElem Om⟩
    have e1:l.drop k=x::l.drop (k+1):=by obtain ⟨h1,rfl⟩:=List.getElem?_eq_some_iff.1 hx;exact List.drop_eq_getElem_cons h1
    have e2:l.drop (k+1)=y::l.drop (k+2):=by obtain ⟨h1,rfl⟩:=List.getElem?_eq_some_iff.1 hy;exact List.drop_eq_getElem_cons h1
    rw [DT Om,Ag,d5 Om,Ar hx,OB,Ar hy,OB];dsimp only [JP];rw [show k+1-1=k from rfl,show k+1+1-1=k+1 from rfl,e1,e2,decide_eq_decide.2 (xX (x:=x) (y:=y) (r:=l.drop (k+2)))];by_cases h:y≤x
    ·right;refine ⟨false,by rw [DT h,Ag];rfl,?_⟩;rw [DN (by rintro ⟨h1,_⟩;omega)]
    ·left;refine ⟨by rw [DN h,Aa,AC Om],?_⟩;have:x<y:=by omega
     simp [this]
 ·dsimp only [JQ];rw [AT,Aa];have:(l.drop (l.length-1)).Pairwise (· < ·):=by
   have h1:(l.drop (l.length-1)).length≤1:=by rw [List.length_drop];omega
   generalize l.drop (l.length-1)=q at h1
   match q,h1 with
   | [],_=>exact .nil
   | [x],_=>exact List.pairwise_singleton _ _
  rw [DT this];rfl
theorem Zq {α:Type} (f:α→Bool) (pre post:List α) (x:α):∃d,(pre++x::post).drop (pre.filter f).length=d::(pre++x::post).drop ((pre.filter f).length+1):=by
 have h1:(pre.filter f).length≤pre.length:=List.length_filter_le _ _;have h2:(pre.filter f).length<(pre++x::post).length:=by simp;omega
 exact ⟨_,List.drop_eq_getElem_cons h2⟩
theorem uW (l:List Int) (p:Int→Option Bool) (q:Int→Bool) (hl:l.length≤1000000) (hp:∀x∈l,p x=some (q x)):T4 l p=some (l.filter fun x=>!q x):=by
 simp only [T4,kq l p q Om hp,OB];cases hf:l.findIdx? q with
 | none=>rw [List.findIdx?_eq_none_iff] at hf;rw [show Br none = -1 from rfl,DT rfl,Ag,List.filter_eq_self.2 (fun x hx=>by rw [hf x hx];rfl)]
 | some i=>
   obtain ⟨hi,hq,hB⟩:=List.findIdx?_eq_some_iff_getElem.1 hf;rw [show Br (some i)=(i:Int) from rfl,DN Om,Aa,AC Om]
   let F:List Int→List Int:=fun pre=>pre.filter fun x=>!q x
   have hF:∀pre post,l=pre++post→(F pre).length≤pre.length:=fun pre post _=>List.length_filter_le _ _;have Ap:=PM l (T5 p) (fun pre=>(((F pre).length:Int),(pre.length:Int),F pre++l.drop (F pre).length)) (fun _ _=>some (F l)) (fun pre x post h=>?_) ?_ (l.drop (i+1)) (l.take (i+1)) (by simp)
   ·have e1:F (l.take (i+1))=l.take i:=by
     show (l.take (i+1)).filter _=_;rw [List.take_succ_eq_append_getElem hi,List.filter_append];have a1:(l.take i).filter (fun x=>!q x)=l.take i:=by rw [List.filter_eq_self];intro x hx;obtain ⟨j,hj,rfl⟩:=List.mem_iff_getElem.1 hx;rw [List.getElem_take];have:=hB j (by simp at hj;omega);simpa using this
     have a2: [l[i]].filter (fun x=>!q x)=[]:=by simp [hq]
     rw [a1,a2,List.append_nil]
    rw [e1] at Ap;have e2:(l.take i).length=i:=by simp;omega
    have e3:(l.take (i+1)).length=i+1:=by simp;omega
    rw [e2,e3,List.take_append_drop] at Ap;exact Ap
   ·left;refine ⟨?_,rfl⟩;have hx:=BL h;have hm:=BG h;have h8:=hF pre (x::post) h;have h6:(F pre++l.drop (F pre).length).length=l.length:=by simp;omega
    have h9:(F pre++l.drop (F pre).length)[pre.length]?=some x:=by rw [List.getElem?_append_right h8,List.getElem?_drop,show (F pre).length+(pre.length-(F pre).length)=pre.length by omega];exact hx
    dsimp only [T5];rw [AQ h9,Ag,Ar h9,OB,hp x (Di h),OB];have hw:F (pre++[x])=F pre++(if q x then [] else [x]):=by show (pre++[x]).filter _=_;rw [List.filter_append];congr 1;cases hC:q x<;>simp [hC]
    cases hA:q x with
    | true=>rw [Bool.not_true,Aa];dsimp only [Ok];rw [AC Om,hw,hA,if_pos rfl,List.append_nil,bb]
    | false=>
      rw [Bool.not_false,Ag];obtain ⟨d,hd⟩:=Zq (fun x=>!q x) pre post x;rw [←h] at hd;have hd':l.drop (F pre).length=d::l.drop ((F pre).length+1):=hd;have hD:(F pre++l.drop (F pre).length)[(F pre).length]?=some d:=by rw [hd'];simp
      rw [Ar hD,OB];dsimp only [Ok];rw [AC Om,AC Om,hw,hA,if_neg (by simp),bb,hd',Int.toNat_natCast,bb];simp
   ·dsimp only [T5];have h8:=hF l [] (by simp);have h6:(F l++l.drop (F l).length).length=l.length:=by simp;omega
    rw [show ((l.length:Int))=((F l++l.drop (F l).length).length:Int) by rw [h6],AT,Aa];dsimp only [X3];unfold DQ;rw [AY,h6,if_pos ⟨Om,Om,Om,Om⟩,OB];unfold He;rw [h6,if_pos ⟨Om,by simp;omega⟩,OB];unfold D3;rw [if_pos ⟨Om,Om,by simp;omega⟩,OB];simp [Int.toNat_natCast,List.append_assoc]
theorem gx (l:List Int):(Bm l).length≤l.length:=by have:=Lib.compact_length_le (l.mergeSort fun x y=>decide (x≤y));rw [List.length_mergeSort] at this;exact this
theorem xY {l:List Int} (h:l.Pairwise (· < ·)):Bm l=l:=by unfold Bm;rw [List.mergeSort_of_pairwise (h.imp fun h6=>DT Om),qk h]
theorem kH (l:List Int) (p:Int→Option Bool) (q:Int→Bool) (hl:l.length≤1000000) (hp:∀x∈l,p x=some (q x)):Ob l p=some ((Bm l).filter q):=by have h1:=gx l;simp only [Ob,gq l hl,OB];rw [uW (Bm l) _ (fun x=>!q x) Om (fun x hx=>by simp only [SJ,hp x (((DO l).2 x).1 hx),OB]),OB];simp
theorem kt (a b:List Int) (ha:a.length≤1000000) (hb:b.length≤1000000):O9 a b=some ((Bm a).filter fun z=>!decide (z∈b)):=by simp only [O9];rw [kH a _ (fun z=>!decide (z∈b)) ha (fun x _=>by simp only [SI,Gi b x hb,OB]),OB]
theorem OV (a b:List Int) (ha:a.length≤1000000) (hb:b.length≤1000000):HG a b=some (a.all fun z=>decide (z∈b)):=by
 simp only [HG,kt a b ha hb,OB,AY];congr 1;rw [Bool.eq_iff_iff,decide_eq_true_eq,List.all_eq_true];have:((((Bm a).filter fun z=>!decide (z∈b)).length:Nat):Int)=0↔((Bm a).filter fun z=>!decide (z∈b))=[]:=by rw [←List.length_eq_zero_iff];omega
 rw [this,List.filter_eq_nil_iff];constructor
 ·intro h x hx;have:=h x (((DO a).2 x).2 hx);simpa using this
 ·intro h x hx;have:=h x (((DO a).2 x).1 hx);simpa using this
theorem kd (l:List Int) (x:Int) (hl:l.length≤1000000):O8 l x=some ((Bm l).filter fun z=>!decide (z∈ [x])):=by simp only [O8,kt l [x] hl (by simp),OB]
theorem qn (l:List Int) (x:Int) (hl:l.length≤900000):L9 l x=some (Bm (l++[x])):=by simp only [L9,Oa,uU l [x] Om (by simp),OB,gq (l++[x]) (by simp;omega)]
def C9:BK:=⟨0,[]⟩
def FF (n:List Int):Bool:=decide (n.length≤64)&&n.all (fun p=>decide (0≤p))
def K4 (last top:Int) (first:Bool) (s:SE):Bool:=decide (last<s.ID)&&(decide (s.ID≤top)&&(FF s.NE&&(decide (s.NE.Pairwise (· < ·))&&(decide (0≤s.Age)&&((decide (s.SS=1)&&first)||(decide (s.SS=0)&&decide (s.Age=0)))))))
def bR (top:Int):Int→Bool→List SE→Bool
 | _,_,[]=>true
 | last,first,s::l=>K4 last top first s&&bR top s.ID false l
def Cw (b:BK):Bool:=decide (0≤b.LA)&&(decide (b.SE.length≤8)&&bR b.LA 0 true b.SE)
def DF (b:BK):Prop:=b.SE.length≤1000000∧∀s∈b.SE,s.NE.length≤1000000
theorem kM (n:List Int) (hn:n.length≤1000000):O6 n=some (!FF n):=by
 simp only [O6,SG,AY,FF];rw [K1 n _ (fun z=>decide (z<0)) Om (fun x _=>by simp only [SF])];have:n.any (fun z=>decide (z<0))=!n.all (fun p=>decide (0≤p)):=Kf _ _ _ fun x=>by rw [Bool.eq_iff_iff];simp
 rw [this];by_cases h:n.length≤64
 ·rw [DN Om,DT h];rfl
 ·rw [DT Om,DN h];rfl
def G4 (pre:List SE):Int:=match pre.getLast? with | some s=>s.ID | none=>0
theorem xZ (pre:List SE) (s:SE):G4 (pre++[s])=s.ID:=by simp [G4]
theorem uR (b:BK) (last i:Int) (s:SE) (g:Bool) (hn:s.NE.length≤1000000):Is b last i s g =
  if decide (last<s.ID)&&(decide (s.ID≤b.LA)&&(FF s.NE&&(decide (s.NE.Pairwise (· < ·))&&(decide (0≤s.Age)&&(g||(decide (s.SS=0)&&decide (s.Age=0))))))) then some (.inl (s.ID,wr (i+1))) else some (.inr 170):=by
 have e4:∀z,Iu i s g z=if !z&&(g||(decide (s.SS=0)&&decide (s.Age=0))) then some (.inl (s.ID,wr (i+1))) else some (.inr 170):=fun z=>by
  simp only [Iu,NV];cases z
  ·cases g
   ·by_cases h1:s.SS=0
    ·by_cases h2:s.Age=0<;>simp [h1,h2]
    ·simp [h1]
   ·simp
  ·simp
 simp only [Is,kM s.NE hn,ky s.NE hn,OB,e4];by_cases h1:s.ID≤last
 ·rw [DT h1,Ag,DN (show ¬last<s.ID by omega)];simp
 ·rw [DN h1,Aa,DT (show last<s.ID by omega),Bool.true_and];by_cases h2:b.LA<s.ID
  ·rw [DT h2,Ag,DN (show ¬s.ID≤b.LA by omega)];simp
  ·rw [DN h2,Aa,DT (show s.ID≤b.LA by omega),Bool.true_and];cases FF s.NE
   ·simp
   ·by_cases h3:s.NE.Pairwise (· < ·)
    ·by_cases h4:s.Age<0
     ·have:¬0≤s.Age:=by omega
      simp [h3,h4,this]
     ·have:0≤s.Age:=by omega
      simp [h3,h4,this]
    ·simp [h3]
theorem LB (b:BK) (hb:DF b):GT b=some (if Cw b then 0 else 170):=by
 have hl:loop (NW b) (0,0)=some (if bR b.LA 0 true b.SE then 0 else 170):=by
  refine Jj b.SE (NW b) (fun pre=>(G4 pre,(pre.length:Int))) (fun pre post=>some (if bR b.LA (G4 pre) pre.isEmpty post then 0 else 170)) (fun pre x post h=>?_) ?_
  ·have hx:=BL h;have hm:=BG h;have h1:=hb.1;dsimp only [NW];rw [AQ hx,Ag,Ar hx,OB];have e:∀u v:Bool,A0 (decide (x.SS=1)) (Is b (G4 pre) (pre.length:Int) x u) (Is b (G4 pre) (pre.length:Int) x v)=Is b (G4 pre) (pre.length:Int) x (if decide (x.SS=1) then u else v):=fun u v=>by cases decide (x.SS=1)<;>rfl
   rw [e,uR _ _ _ _ _ (hb.2 x (Di h)),AC Om,xZ,bb];have e2:(if decide (x.SS=1)=true then decide ((pre.length:Int)=0) else false)=(decide (x.SS=1)&&pre.isEmpty):=by
    cases pre with
    | nil=>cases decide (x.SS=1)<;>rfl
    | cons a r=>cases decide (x.SS=1)<;>simp<;>omega
   rw [e2];show (_∧some (if (K4 (G4 pre) b.LA pre.isEmpty x&&bR b.LA x.ID false post) then (0:Int) else 170)=some (if bR b.LA x.ID (pre++[x]).isEmpty post then 0 else 170))∨∃r,_∧some (if (K4 (G4 pre) b.LA pre.isEmpty x&&bR b.LA x.ID false post) then (0:Int) else 170)=some r;have e3:(pre++[x]).isEmpty=false:=by simp
   rw [e3];show ((if K4 (G4 pre) b.LA pre.isEmpty x then some (Sum.inl (x.ID,((pre.length+1:Nat):Int))) else some (.inr (170:Int)))=_∧_)∨∃r,(if K4 (G4 pre) b.LA pre.isEmpty x then some (Sum.inl (x.ID,((pre.length+1:Nat):Int))) else some (.inr (170:Int)))=_∧_;cases K4 (G4 pre) b.LA pre.isEmpty x
   ·right;exact ⟨170,rfl,rfl⟩
   ·left;exact ⟨rfl,by rw [Bool.true_and]⟩
  ·dsimp only [NW];rw [AT,Aa];rfl
 simp only [GT,Su,hl,Cw,AY];by_cases h1:b.LA<0
 ·have:¬0≤b.LA:=by omega
  simp [h1,this]
 ·have:0≤b.LA:=by omega
  by_cases h2:b.SE.length≤8
  ·have h3:¬(8:Int)<b.SE.length:=by omega
   simp [h1,this,h2,h3]
  ·have h3:(8:Int)<b.SE.length:=by omega
   simp [h1,this,h2,h3]
theorem HS {α:Type} {l:List α} {k:Nat} {x:α} (h:l[k]?=some x):l.set k x=l:=by obtain ⟨h1,rfl⟩:=List.getElem?_eq_some_iff.1 h;exact List.set_getElem_self h1
theorem Ex (l:List Int) (h:l.length≤1000000):Cp l=some l:=by simp only [Cp];rw [B5 _ _ Om (by simp;omega),List.nil_append]
theorem OU (l:List SE) (h:l.length≤1000000):Gc l=some l:=by simp only [Gc];rw [B5 _ _ Om (by simp;omega),List.nil_append]
theorem TM (b:BK) (hb:DF b):Iv b=some b.SE:=by
 have h1:=hb.1;simp only [Iv,OU b.SE hb.1,OB];refine D0 b.SE _ (fun pre=>((pre.length:Int),b.SE)) b.SE (fun pre x post h=>?_) ?_
 ·have hx:=BL h;have hm:=BG h;dsimp only [WU];rw [AQ hx,Ag,Ar hx,OB,Ex _ (hb.2 x (Di h)),OB,AC Om,Int.toNat_natCast,HS hx,bb]
 ·dsimp only [WU];rw [AT,Aa];rfl
def FZ (b:BK) (id:Int):Option Nat:=b.SE.findIdx? fun s=>decide (s.ID=id)
theorem kE (b:BK) (id:Int) (hb:b.SE.length≤1000000):O5 b id=some (Br (FZ b id)):=by simp only [O5];rw [ko b.SE _ (fun s=>decide (s.ID=id)) Om (fun x _=>by simp only [SC]),OB];rfl
theorem kf (l:List SE) (i:Nat) (hi:i<l.length) (hl:l.length≤1000000):Lh (i:Int) ((i+1:Nat):Int) l=some (l.take i++l.drop (i+1)):=by
 simp only [Lh,AY];unfold DQ;rw [if_pos ⟨Om,Om,Om,Om⟩,OB,if_pos ⟨Om,Om,Om,Om⟩,OB,DN Om,Aa,if_pos ⟨Om,Om,Om,Om⟩,OB];have t1:Int.toNat (i:Int)-Int.toNat 0=i:=by omega
 have t2:Int.toNat ((l.length:Nat):Int)-Int.toNat ((i+1:Nat):Int)=l.length-(i+1):=by omega
 have t3:Int.toNat ((i+1:Nat):Int)=i+1:=by omega
 rw [t1,t2,t3];unfold XH;rw [if_pos ⟨Om,Om,Om⟩,OB];have e1:(l.take (i+1+(l.length-(i+1)))).drop (i+1)=l.drop (i+1):=by rw [List.take_of_length_le Om]
 have e2:(l.take i++l.drop (i+1)).length=l.length-1:=by simp;omega
 rw [e1];have e3:i+(l.length-(i+1))=l.length-1:=by omega
 simp only [X4,AY,t1,t2,e3];have h6:(l.take i++l.drop (i+1)++l.drop (l.length-1)).length=l.length:=by rw [List.length_append,e2,List.length_drop];omega
 rw [OB,h6];unfold DQ;rw [if_pos ⟨Om,Om,Om,Om⟩,OB];have t4:Int.toNat ((l.length-1:Nat):Int)=l.length-1:=by omega
 have t5:Int.toNat ((l.length:Nat):Int)-(l.length-1)=1:=by omega
 rw [t4,t5];unfold He;rw [h6,if_pos ⟨Om,Om⟩,OB];unfold Up;have e4:(l.take i++l.drop (i+1)++l.drop (l.length-1)).take (l.length-1)=l.take i++l.drop (i+1):=by rw [List.take_left' e2]
 rw [e4];have h8:(l.take i++l.drop (i+1)++List.replicate 1 (SE.mk 0 [] 0 0)++(l.take i++l.drop (i+1)++l.drop (l.length-1)).drop (l.length-1+1)).length=l.length:=by rw [List.length_append,List.length_append,e2,List.length_drop,h6];simp;omega
 rw [h8,if_pos ⟨Om,Om⟩,OB];congr 1;rw [List.append_assoc (l.take i++l.drop (i+1))];rw [List.take_left' e2]
def DA (b:BK) (id:Int) (need:List Int):BK×Int:=if Cw b then (if id≤b.LA then (C9,171) else if FF (Bm need) then (if b.SE.length=8 then (C9,173) else (⟨id,b.SE++[⟨id,Bm need,0,0⟩]⟩,0)) else (C9,172)) else (C9,170)
theorem ku (b:BK) (id:Int) (need:List Int) (hb:DF b) (hn:need.length≤1000000):O0 b id need=some (DA b id need):=by
 have hs:=gx need;have h1:=hb.1;simp only [O0,gq need hn,LB b hb,kM (Bm need) Om,OB,JO,TM b hb,DA,AY];rw [B5 _ _ Om (by simp;omega),OB];cases hk:Cw b
 ·rfl
 ·simp only [if_true];simp only [decide_true,Bool.not_true,Aa];by_cases h2:id≤b.LA
  ·simp [h2,C9]
  ·cases h3:FF (Bm need)
   ·simp [h2,C9]
   ·by_cases h4:b.SE.length=8
    ·simp [h2,h4,C9]
    ·have:¬(b.SE.length:Int)=8:=by omega
     simp [h2,h4,this]
def bK (b:BK):BK×Int×Int:=if Cw b then (match b.SE with | []=>(C9,0,175) | s::l=>if s.SS=1 then (C9,0,175) else (⟨b.LA,⟨s.ID,s.NE,1,s.Age⟩::l⟩,s.ID,0)) else (C9,0,170)
theorem kl (b:BK) (hb:DF b):NZ b=some (bK b):=by
 simp only [NZ,LB b hb,OB,Sz,TM b hb,bK,AY];cases hk:Cw b
 ·rfl
 ·simp only [if_true];simp only [decide_true,Bool.not_true,Aa];cases hs:b.SE with
  | nil=>simp [C9]
  | cons s l=>
    have h0:Ac (s::l) 0=some s:=rfl;have:¬(((s::l).length:Nat):Int)=0:=by simp;omega
    rw [DN this,Aa,h0,OB];by_cases h1:s.SS=1
    ·simp [h1,C9]
    ·simp [h1]
def C6 (b:BK) (id E:Int):BK×Int:=
 if Cw b then (match FZ b id with
  | none=>(C9,174)
  | some i=>match b.SE[i]? with
    | none=>(C9,174)
    | some s=>if s.SS=E then (⟨b.LA,b.SE.take i++b.SE.drop (i+1)⟩,0) else (C9,175)) else (C9,170)
theorem qr {b:BK} {id:Int} {i:Nat} (h:FZ b id=some i):∃s,b.SE[i]?=some s∧s.ID=id:=by obtain ⟨hi,hq,_⟩:=List.findIdx?_eq_some_iff_getElem.1 h;exact ⟨_,List.getElem?_eq_getElem hi,by simpa using hq⟩
theorem kD (b:BK) (id E:Int) (hb:DF b):O4 b id E=some (C6 b id E):=by
 have h1:=hb.1;simp only [O4,WT,LB b hb,kE b id hb.1,OB,C6];cases hk:Cw b
 ·simp [L7,L8,C9]
 ·simp only [if_true];simp only [decide_true,Bool.not_true,Aa];cases hf:FZ b id with
  | none=>simp [Br,L7,L8,C9]
  | some i=>
    obtain ⟨s,hs,_⟩:=qr hf;have hi:=(List.getElem?_eq_some_iff.1 hs).1;rw [show Br (some i)=(i:Int) from rfl,DN Om,Aa,Ar hs,OB,OB];simp only [hs,decide_true,Ag,L7,L8];by_cases h2:s.SS=E
    ·have hf':FZ ⟨b.LA,b.SE⟩ id=some i:=hf;simp only [h2,decide_true,Bool.not_true,Aa,TM b hb,OB,kE ⟨b.LA,b.SE⟩ id hb.1,hf',if_true];rw [show Br (some i)=(i:Int) from rfl,AC Om,kf b.SE i hi hb.1,OB]
    ·simp [h2,C9]
theorem bZ (b:BK) (id:Int) (hb:DF b):O1 b id=some (C6 b id 1):=by simp only [O1,kD b id 1 hb,OB]
theorem jY (b:BK) (id:Int) (hb:DF b):NU b id=some (C6 b id 0):=by simp only [NU,kD b id 0 hb,OB]
theorem ya (x y:SX):(decide (x.PE=y.PE)&&(decide (x.EP=y.EP)&&(decide (x.SS=y.SS)&&((x.FK==y.FK)&&((x.DY==y.DY)&&((x.TO==y.TO)&&((x.BO==y.BO)&&((x.Ask==y.Ask)&&true))))))))=decide (x=y):=by rw [Bool.eq_iff_iff];cases x;cases y;simp [SX.mk.injEq]
theorem uZ (l m:List SX) (hl:l.length≤1000000):T8 l m=some (decide (l=m)):=by
 simp only [T8,Mp];by_cases h:l.length=m.length
 ·simp only [h,decide_true,Bool.not_true,Aa];rw [fL l m _ (fun x y=>decide (x=y)) h Om (fun k x y hx hy=>by simp only [Xc,AQ hx,Ag,Ar hx,Ar hy,OB,ya,EA hx (show l.length≤4000000000000000000 by omega),Je];cases decide (x=y)<;>rfl) (by simp only [Xc,AT,Aa,Xb,Option.map_some]),fe l m h]
 ·simp [h,Mo h]
def wS:SX:=⟨0,0,0,false,false,false,false,false⟩
def wW (d:DI) (p:Int):Option SX:=d.SD.find? fun x=>decide (x.PE=p)
def D2 (id q:Int) (x:SX):Bool:=decide (q<x.PE)&&(!decide (x.PE=id)&&(decide (0≤x.EP)&&(decide (x.EP≤65535)&&(decide (0≤x.SS)&&(decide (x.SS≤3)&&!(x.DY&&!x.FK))))))
def FH (id:Int):Int→List SX→Bool
 | _,[]=>true
 | q,x::r=>D2 id q x&&FH id x.PE r
def Ch (d:DI):Bool:=decide (0≤d.ID)&&(decide (0≤d.PH)&&(decide (d.PH≤2)&&(decide (d.SD.length<64)&&FH d.ID (-1) d.SD)))
theorem vX (x:SX) (d:DI) (q:Int):Q1 x q d=some (!D2 d.ID q x):=by
 simp only [Q1,Q2,Hn,D2];by_cases h1:q<x.PE
 ·by_cases h2:x.PE=d.ID
  ·have h1':q<d.ID:=h2 ▸ h1;simp [h2,h1']
  ·by_cases h3:x.EP<0
   ·have:¬0≤x.EP:=by omega
    simp [h1,h2,h3,this]
   ·have h3':0≤x.EP:=by omega
    by_cases h4:65535<x.EP
    ·have:¬x.EP≤65535:=by omega
     simp [h1,h2,h3,h4,this]
    ·have h4':x.EP≤65535:=by omega
     by_cases h5:x.SS<0
     ·have:¬0≤x.SS:=by omega
      simp [h1,h2,h3,h4,h5,this]
     ·have h5':0≤x.SS:=by omega
      by_cases h6:3<x.SS
      ·have:¬x.SS≤3:=by omega
       simp [h1,h2,h3,h4,h5,h6,this]
      ·have h6':x.SS≤3:=by omega
       simp only [h1,h2,h3,h4,h5,h6,h3',h4',h5',h6',decide_true,decide_false,Ag,Aa,Bool.not_true,Bool.not_false,Bool.true_and];cases x.DY<;>cases x.FK<;>rfl
 ·simp [h1]
def Gj (id:Int):Nat→Int→List SX→Int×Int
 | _,q,[]=>(-1,q)
 | k,q,x::r=>if D2 id q x then Gj id (k+1) x.PE r else (k,x.PE)
theorem kX (id:Int):∀(l:List SX) (k:Nat) (q:Int),decide (0≤(Gj id k q l).1)=!FH id q l
 | [],k,q=>by simp [Gj,FH]
 | x::r,k,q=>by
   by_cases h:D2 id q x=true
   ·have e1:Gj id k q (x::r)=Gj id (k+1) x.PE r:=by simp [Gj,h]
    rw [e1,kX id r (k+1) x.PE];simp [FH,h]
   ·have h':D2 id q x=false:=by simpa using h
    have e1:Gj id k q (x::r)=((k:Int),x.PE):=by simp [Gj,h']
    rw [e1];simp [FH,h']
def PB (q:Int) (pre:List SX):Int:=match pre.getLast? with | some x=>x.PE | none=>q
theorem g7 (q:Int) (pre:List SX) (x:SX):PB q (pre++[x])=x.PE:=by simp [PB]
theorem c7 (d:DI):Kv d=some (if Ch d then 0 else 130):=by
 simp only [Kv,Jl,Ch];by_cases h1:d.ID<0
 ·have:¬0≤d.ID:=by omega
  simp [h1,this]
 have h1':0≤d.ID:=by omega
 by_cases h2:d.PH<0
 ·have:¬0≤d.PH:=by omega
  simp [h1,h2,this]
 have h2':0≤d.PH:=by omega
 by_cases h3:2<d.PH
 ·have:¬d.PH≤2:=by omega
  simp [h1,h2,h3,this]
 have h3':d.PH≤2:=by omega
 by_cases h4:64≤d.SD.length
 ·have h4':(64:Int)≤ln SX.row d.SD:=by rw [AY];omega
  have:¬d.SD.length<64:=by omega
  simp [h1,h2,h3,h4',this]
 have h4':¬(64:Int)≤ln SX.row d.SD:=by rw [AY];omega
 have h4'':d.SD.length<64:=by omega
 simp only [h1,h2,h3,h4',h1',h2',h3',h4'',decide_true,decide_false,Aa,Bool.true_and];have Ap:Ti d.SD (-1) d=some (Gj d.ID 0 (-1) d.SD):=by
  unfold Ti;refine Jj d.SD _ (fun pre=>((pre.length:Int),PB (-1) pre)) (fun pre post=>some (Gj d.ID pre.length (PB (-1) pre) post)) (fun pre x post h=>?_) ?_
  ·have hx:=BL h;have hm:=BG h;dsimp only [Xu];rw [AQ hx,Ag,Ar hx,OB,vX,OB,Je];cases hs:D2 d.ID (PB (-1) pre) x with
   | true=>left;exact ⟨by rw [Ag,bb,g7,AC Om],by simp [Gj,hs,g7]⟩
   | false=>right;exact ⟨_,rfl,by simp [Gj,hs]⟩
  ·dsimp only [Xu];rw [AT,Aa];rfl
 simp only [WZ,Ap,OB,kX];cases FH d.ID (-1) d.SD<;>rfl
theorem Lz (l:List SX) (hl:l.length≤1000000):Ew l=some l:=by simp only [Ew];rw [B5 _ _ Om (by simp;omega)];rfl
theorem H2 {d:DI} (h:Ch d=true):d.SD.length<64:=by simp only [Ch,Bool.and_eq_true,decide_eq_true_eq] at h;exact h.2.2.2.1
def DG (ph:Int) (x:SX):SX:=if x.FK&&(x.DY&&(x.TO&&!decide (ph=2))) then {x with FK:=false,DY:=false} else x
def BV (ph:Int) (x:SX):SX:=if decide (ph=1)&&((DG ph x).TO&&!(DG ph x).FK) then {DG ph x with TO:=false} else DG ph x
def Cn (id ph:Int) (x:SX):List ML:=
 (if x.FK&&(x.DY&&(x.TO&&!decide (ph=2))) then [⟨id,x.PE,⟨1,x.EP,0⟩⟩] else []) ++
 (if decide (ph=1)&&((DG ph x).TO&&!(DG ph x).FK) then [⟨id,x.PE,⟨2,x.EP,0⟩⟩] else [])
def IX (x:SX):SX:= {x with DY:=true}
def Cb (d:DI):DI:=if decide (d.PH=1)&&(d.SD.map (BV d.PH)).all (·.FK) then ⟨d.ID,2,(d.SD.map (BV d.PH)).map IX⟩ else ⟨d.ID,d.PH,d.SD.map (BV d.PH)⟩
def I4 (d:DI):List ML:=d.SD.flatMap (Cn d.ID d.PH)
theorem qH (id ph:Int) (x:SX):(Cn id ph x).length≤2:=by
 unfold Cn;rw [List.length_append];have h1:∀(c:Bool) (m:ML),(if c then [m] else []).length≤1:=by intro c m;cases c<;>simp
 have:=h1 (x.FK&&(x.DY&&(x.TO&&!decide (ph=2)))) ⟨id,x.PE,⟨1,x.EP,0⟩⟩;have:=h1 (decide (ph=1)&&((DG ph x).TO&&!(DG ph x).FK)) ⟨id,x.PE,⟨2,x.EP,0⟩⟩;omega
theorem Zs (l:List SX) (id ph:Int):(l.flatMap (Cn id ph)).length≤2*l.length:=by
 induction l with
 | nil=>simp
 | cons x l ih=>have:=qH id ph x;rw [List.flatMap_cons,List.length_append,List.length_cons];omega
def has (x:SX) (k:Int):Bool:=if k=1 then x.FK else x.TO
def bn (b:Bool):Nat:=if b then 1 else 0
theorem qO (ph:Int) (x:SX):(BV ph x).PE=x.PE∧(BV ph x).EP=x.EP∧(BV ph x).SS=x.SS:=by unfold BV DG;split<;>split<;>exact ⟨rfl,rfl,rfl⟩
theorem qx (ph:Int) (x:SX) (h:x.DY=true→x.FK=true):(BV ph x).DY=true→(BV ph x).FK=true:=by unfold BV DG;split<;>split<;>simp_all
theorem qG {id ph:Int} {x:SX} {m:ML} (h:m∈Cn id ph x):m.From=id∧m.To=x.PE∧(m.Msg.KI=1∨m.Msg.KI=2)∧m.Msg.EP=x.EP∧m.Msg.Num=0:=by
 unfold Cn at h;rw [List.mem_append] at h;rcases h with h | h
 ·split at h
  ·simp at h;subst h;exact ⟨rfl,rfl,.inl rfl,rfl,rfl⟩
  ·simp at h
 ·split at h
  ·simp at h;subst h;exact ⟨rfl,rfl,.inr rfl,rfl,rfl⟩
  ·simp at h
def Cl (d:DI) (x:SX):SX:=if decide (d.PH=1)&&(d.SD.map (BV d.PH)).all (·.FK) then IX (BV d.PH x) else BV d.PH x
theorem Hf (d:DI):(Cb d).SD=d.SD.map (Cl d):=by
 unfold Cb Cl;split
 ·simp only [List.map_map];rfl
 ·rfl
theorem Zr (d:DI):(Cb d).ID=d.ID:=by unfold Cb;split<;>rfl
theorem M8 (d:DI) (x:SX):(Cl d x).PE=x.PE∧(Cl d x).EP=x.EP∧(Cl d x).SS=x.SS∧∀k,has (Cl d x) k=has (BV d.PH x) k:=by
 obtain ⟨h1,h2,h3⟩:=qO d.PH x;unfold Cl;split
 ·exact ⟨h1,h2,h3,fun k=>rfl⟩
 ·exact ⟨h1,h2,h3,fun k=>rfl⟩
theorem wa (k id ph:Int) (a b:List SX) (x:SX) (E:List ML) (J:E.length≤1000000):Kw k id ph (a.length:Int) E (a++x::b)=some (E++[⟨id,x.PE,⟨k,x.EP,0⟩⟩]):=by simp only [Kw];rw [IU rfl,OB,B5 _ _ Om (by simp;omega),OB]
theorem qK (d:DI) (l:List SX) (hl:l.length<64) (pre post:List SX) (x:SX) (h:l=pre++x::post) (all:Bool) (A:List SX) (J:A.length=pre.length) (E:List ML) (U:E.length≤1000):
  My d l (all,(pre.length:Int),A++x::post,E)=some (.inl (all&&(BV d.PH x).FK,((pre.length+1:Nat):Int),A++BV d.PH x::post,E++Cn d.ID d.PH x)):=by
 have hx:=BL h;have hm:=BG h;have at1:∀y:SX,Ac (A++y::post) (pre.length:Int)=some y:=fun y=>by rw [←J];exact IU rfl
 have st1:∀y z:SX,(A++y::post).set ((pre.length:Int)).toNat z=A++z::post:=fun y z=>by rw [←J];exact eT _ _ _ _
 have sd:∀(k:Int) (y:SX) (E:List ML),E.length≤1000000→Kw k d.ID d.PH (pre.length:Int) E (A++y::post)=some (E++[⟨d.ID,y.PE,⟨k,y.EP,0⟩⟩]):=fun k y E U=>by rw [←J];exact wa k d.ID d.PH A post y E U
 have fin:∀(y:SX) (E':List ML),Mw all (pre.length:Int) (A++y::post,E')=some (.inl (all&&y.FK,((pre.length+1:Nat):Int),A++y::post,E')):=fun y E'=>by dsimp only [Mw,Q4];rw [at1,AC Om];cases all<;>rfl
 have j3:∀(y:SX) (E':List ML),E'.length≤100000→Jm d all (pre.length:Int) (A++y::post,E') =
   if decide (d.PH=1)&&(y.TO&&!y.FK) then some (.inl (all&&y.FK,((pre.length+1:Nat):Int),A++{y with TO:=false}::post,E'++[⟨d.ID,y.PE,⟨2,y.EP,0⟩⟩])) else some (.inl (all&&y.FK,((pre.length+1:Nat):Int),A++y::post,E')):=fun y E' hE'=>by
  dsimp only [Jm];by_cases h1:d.PH=1
  ·rw [DT h1,Ag,at1,OB];cases ht:y.TO with
   | false=>dsimp only [Ij];rw [Aa,Aa,fin];simp
   | true=>
     cases hf:y.FK with
     | true=>dsimp only [Ij];rw [Ag,Bool.not_true,Aa,fin];simp [hf]
     | false=>dsimp only [Ij];rw [Ag,Bool.not_false,Ag,at1,OB,st1,sd _ _ _ Om,OB,fin];simp [hf]
  ·rw [DN h1,Aa];dsimp only [Ij];rw [Aa,fin];simp
 dsimp only [My];rw [AQ hx,Ag,at1,OB];have j2:∀z:Bool,Fe d all (pre.length:Int) (A++x::post) E x z=if z then Jm d all (pre.length:Int) (A++{x with FK:=false,DY:=false}::post,E++[⟨d.ID,x.PE,⟨1,x.EP,0⟩⟩]) else Jm d all (pre.length:Int) (A++x::post,E):=fun z=>by
  cases z with
  | false=>dsimp only [Fe];rw [Aa];rfl
  | true=>dsimp only [Fe];rw [Ag,st1,sd _ _ _ Om,OB];rfl
 have e:A0 x.FK (A0 x.DY (A0 x.TO (Fe d all (pre.length:Int) (A++x::post) E x (!decide (d.PH=2))) (Fe d all (pre.length:Int) (A++x::post) E x false)) (Fe d all (pre.length:Int) (A++x::post) E x false)) (Fe d all (pre.length:Int) (A++x::post) E x false)
   =Fe d all (pre.length:Int) (A++x::post) E x (x.FK&&(x.DY&&(x.TO&&!decide (d.PH=2)))):=by
  cases x.FK<;>cases x.DY<;>cases x.TO<;>rfl
 rw [e,j2];cases hz:(x.FK&&(x.DY&&(x.TO&&!decide (d.PH=2)))) with
 | false=>
   rw [if_neg (by simp),j3 _ _ Om];have f1:DG d.PH x=x:=by simp only [DG,hz];rfl
   unfold BV Cn;rw [f1,hz];cases hq:(decide (d.PH=1)&&(x.TO&&!x.FK))<;>simp
 | true=>
   rw [if_pos rfl,j3 _ _ (by simp;omega)];have f1:DG d.PH x={x with FK:=false,DY:=false}:=by simp only [DG,hz];rfl
   unfold BV Cn;rw [f1,hz];cases hq:(decide (d.PH=1)&&(x.TO&&!false))<;>simp_all
theorem v6 (d:DI):Q3 d=some (if Ch d then ((Cb d).ID,(Cb d).PH,0,(Cb d).SD,I4 d) else (0,0,130,[],[])):=by
 simp only [Q3,c7,OB];cases h:Ch d with
 | false=>rfl
 | true=>
   have hl:=H2 h;simp only [if_true,decide_true,Bool.not_true,Aa,Lz d.SD Om,OB];have Ap:=Jj d.SD (My d d.SD) (fun pre=>((pre.map (BV d.PH)).all (·.FK),(pre.length:Int),pre.map (BV d.PH)++d.SD.drop pre.length,pre.flatMap (Cn d.ID d.PH))) (fun _ _=>some ((Cb d).ID,(Cb d).PH,0,(Cb d).SD,I4 d)) (fun pre x post hp=>?_) ?_
   ·simpa using Ap
   ·left;have hd:d.SD.drop pre.length=x::post:=by rw [hp];simp
    have hd':d.SD.drop (pre++[x]).length=post:=by rw [hp];simp
    have hm:=BG hp;have hE:=Zs pre d.ID d.PH;refine ⟨?_,rfl⟩;rw [hd,hd',qK d d.SD hl pre post x hp _ _ (by simp) _ Om,bb];simp
   ·have hE:=Zs d.SD d.ID d.PH;dsimp only [My];rw [AT,Aa];simp only [List.drop_length,List.append_nil];dsimp only [UW];by_cases h1:d.PH=1
    ·rw [DT h1,Ag];dsimp only [Mx];cases h6:(d.SD.map (BV d.PH)).all (·.FK) with
     | false=>rw [Aa];unfold Cb;rw [h6,Bool.and_false];rfl
     | true=>
       rw [Ag];generalize hS:d.SD.map (BV d.PH)=S at h6;have h8:S.length<64:=by rw [←hS];simpa using hl
       have k2:=D0 S (Mz d S (d.SD.flatMap (Cn d.ID d.PH))) (fun pre=>((pre.length:Int),pre.map IX++S.drop pre.length)) (d.ID,2,0,S.map IX,d.SD.flatMap (Cn d.ID d.PH)) (fun pre x post hp=>?_) ?_
       ·have k3:loop (Mz d S (d.SD.flatMap (Cn d.ID d.PH))) (0,S)=some (d.ID,2,0,S.map IX,d.SD.flatMap (Cn d.ID d.PH)):=by simpa using k2
        rw [k3];unfold Cb;rw [hS,h6,DT h1];rfl
       ·have hx:=BL hp;have hm:=BG hp;have hd:S.drop pre.length=x::post:=by rw [hp];simp
        have hd':S.drop (pre++[x]).length=post:=by rw [hp];simp
        dsimp only [Mz];have e1:((pre.length:Nat):Int)=(((pre.map IX).length:Nat):Int):=by simp
        rw [AQ hx,Ag,hd,hd',e1,IU rfl,OB,eT,←e1,bb,AC Om];simp [IX]
       ·dsimp only [Mz];rw [AT,Aa];simp [Q5]
    ·rw [DN h1,Aa];dsimp only [Mx];rw [Aa];unfold Cb;rw [DN h1,Bool.false_and];rfl
def Cu (d:DK) (x:SX):Bool:=decide (x.PE∈d.NE)
def Fb (nd:Bool) (th:Int) (x:SX):Bool:=nd&&(decide (th=2)||(decide (th=1)&&x.FK))
def DW (nd:Bool) (th:Int) (x:SX):SX:=if x.BO&&(x.Ask&&!Fb nd th x) then {x with BO:=false} else x
def Ca (nd:Bool) (th:Int) (x:SX):SX:=if decide (th=1)&&(nd&&((DW nd th x).Ask&&!(DW nd th x).BO)) then {DW nd th x with Ask:=false} else DW nd th x
def CG (id:Int) (nd:Bool) (th:Int) (x:SX):List ML:=
 (if x.BO&&(x.Ask&&!Fb nd th x) then [⟨id,x.PE,⟨3,x.EP,0⟩⟩] else []) ++
 (if decide (th=1)&&(nd&&((DW nd th x).Ask&&!(DW nd th x).BO)) then [⟨id,x.PE,⟨4,x.EP,0⟩⟩] else [])
theorem Pf (nd:Bool) (th:Int) (x:SX):(Ca nd th x).PE=x.PE∧(Ca nd th x).EP=x.EP∧(Ca nd th x).SS=x.SS∧(Ca nd th x).FK=x.FK∧(Ca nd th x).DY=x.DY∧(Ca nd th x).TO=x.TO:=by unfold Ca DW;split<;>split<;>exact ⟨rfl,rfl,rfl,rfl,rfl,rfl⟩
theorem o8 (id:Int) (nd:Bool) (th:Int) (x:SX):(CG id nd th x).length≤2:=by
 unfold CG;rw [List.length_append];have h1:∀(c:Bool) (m:ML),(if c then [m] else []).length≤1:=by intro c m;cases c<;>simp
 have:=h1 (x.BO&&(x.Ask&&!Fb nd th x)) ⟨id,x.PE,⟨3,x.EP,0⟩⟩;have:=h1 (decide (th=1)&&(nd&&((DW nd th x).Ask&&!(DW nd th x).BO))) ⟨id,x.PE,⟨4,x.EP,0⟩⟩;omega
theorem oa (N:List Int) (id th:Int) (l:List SX):(l.flatMap fun x=>CG id (decide (x.PE∈N)) th x).length≤2*l.length:=by
 induction l with
 | nil=>simp
 | cons x l ih=>have:=o8 id (decide (x.PE∈N)) th x;rw [List.flatMap_cons,List.length_append,List.length_cons];omega
theorem kQ (y:SX) (k id ph th:Int) (N:List Int) (l:List SX) (E:List ML) (J:E.length≤1000000):MR y k id ph th l N E=some (E++[⟨id,y.PE,⟨k,y.EP,0⟩⟩]):=by simp only [MR];rw [B5 _ _ Om (by simp;omega),OB]
theorem oc (id ph th:Int) (N:List Int) (U:N.length≤1000000) (l:List SX) (hl:l.length≤5000) (pre post:List SX) (x:SX) (h:l=pre++x::post) (all:Bool) (A:List SX) (J:A.length=pre.length) (E:List ML) (Y:E.length≤900000):
  Ky id ph th l N (all,(pre.length:Int),A++x::post,E)=some (.inl (all&&(!decide (x.PE∈N)||(Ca (decide (x.PE∈N)) th x).BO),((pre.length+1:Nat):Int),A++Ca (decide (x.PE∈N)) th x::post,E++CG id (decide (x.PE∈N)) th x)):=by
 have hx:=BL h;have hm:=BG h;have at1:∀y:SX,Ac (A++y::post) (pre.length:Int)=some y:=fun y=>by rw [←J];exact IU rfl
 have st1:∀y z:SX,(A++y::post).set ((pre.length:Int)).toNat z=A++z::post:=fun y z=>by rw [←J];exact eT _ _ _ _
 generalize h6:decide (x.PE∈N)=nd;have j7:∀(S:List SX) (E':List ML) z,Kx (pre.length:Int) S E' z=some (.inl (z,((pre.length+1:Nat):Int),S,E')):=fun S E' z=>by dsimp only [Kx];rw [AC Om]
 have j6:∀(y:SX) (E':List ML),MO all (pre.length:Int) nd (A++y::post,E')=some (.inl (all&&(!nd||y.BO),((pre.length+1:Nat):Int),A++y::post,E')):=fun y E'=>by dsimp only [MO];rw [at1,OB];simp only [j7];cases all<;>cases nd<;>rfl
 have j4:∀(y:SX) (E':List ML),E'.length≤950000→Jp id ph th N all (pre.length:Int) nd (A++y::post,E') =
   if decide (th=1)&&(nd&&(y.Ask&&!y.BO)) then some (.inl (all&&(!nd||y.BO),((pre.length+1:Nat):Int),A++{y with Ask:=false}::post,E'++[⟨id,y.PE,⟨4,y.EP,0⟩⟩])) else some (.inl (all&&(!nd||y.BO),((pre.length+1:Nat):Int),A++y::post,E')):=fun y E' hE'=>by
  have j5:∀z,Ik id ph th N all (pre.length:Int) nd (A++y::post) E' z=if z then some (.inl (all&&(!nd||y.BO),((pre.length+1:Nat):Int),A++{y with Ask:=false}::post,E'++[⟨id,y.PE,⟨4,y.EP,0⟩⟩])) else some (.inl (all&&(!nd||y.BO),((pre.length+1:Nat):Int),A++y::post,E')):=fun z=>by
   cases z with
   | false=>dsimp only [Ik];rw [Aa,j6];rfl
   | true=>dsimp only [Ik];rw [Ag,at1,OB,st1,kQ _ _ _ _ _ _ _ _ Om,OB,j6];rfl
  dsimp only [Jp];rw [at1,OB];simp only [j5];cases decide (th=1)<;>cases nd<;>cases y.Ask<;>rfl
 have j3:∀z,Hp id ph th N all (pre.length:Int) (A++x::post) E x nd z=if z then Jp id ph th N all (pre.length:Int) nd (A++{x with BO:=false}::post,E++[⟨id,x.PE,⟨3,x.EP,0⟩⟩]) else Jp id ph th N all (pre.length:Int) nd (A++x::post,E):=fun z=>by
  cases z with
  | false=>dsimp only [Hp];rw [Aa];rfl
  | true=>dsimp only [Hp];rw [Ag,st1,kQ _ _ _ _ _ _ _ _ Om,OB];rfl
 have j2:∀z,Jo id ph th N all (pre.length:Int) (A++x::post) E x nd z=Hp id ph th N all (pre.length:Int) (A++x::post) E x nd (x.BO&&(x.Ask&&!z)):=fun z=>by dsimp only [Jo];cases x.BO<;>cases x.Ask<;>rfl
 have e:Ky id ph th l N (all,(pre.length:Int),A++x::post,E)=Hp id ph th N all (pre.length:Int) (A++x::post) E x nd (x.BO&&(x.Ask&&!Fb nd th x)):=by dsimp only [Ky];rw [AQ hx,Ag,at1,OB,Gi N _ U,OB,h6];dsimp only [V2];simp only [j2];unfold Fb;cases nd<;>cases decide (th=2)<;>cases decide (th=1)<;>rfl
 rw [e,j3];cases hz:(x.BO&&(x.Ask&&!Fb nd th x)) with
 | false=>
   have b1:DW nd th x=x:=by unfold DW;rw [hz];rfl
   rw [if_neg (by simp),j4 _ _ Om];unfold Ca CG;rw [b1,hz];cases (decide (th=1)&&(nd&&(x.Ask&&!x.BO)))<;>simp
 | true=>
   have b1:DW nd th x={x with BO:=false}:=by unfold DW;rw [hz];rfl
   rw [if_pos rfl,j4 _ _ (by simp;omega)];unfold Ca CG;rw [b1,hz];cases (decide (th=1)&&(nd&&(x.Ask&&!false)))<;>simp
theorem vw (id ph th:Int) (N:List Int) (J:N.length≤1000000) (l:List SX) (hl:l.length≤5000) (E:List ML) (U:E.length≤800000):
  Ql id ph th l N E=some (if decide (th=1)&&(l.map fun x=>Ca (decide (x.PE∈N)) th x).all (fun x=>!decide (x.PE∈N)||x.BO) then 2 else th,l.map fun x=>Ca (decide (x.PE∈N)) th x,E++l.flatMap fun x=>CG id (decide (x.PE∈N)) th x):=by
 have:=Jj l (Ky id ph th l N) (fun pre=>((pre.map fun x=>Ca (decide (x.PE∈N)) th x).all (fun x=>!decide (x.PE∈N)||x.BO),(pre.length:Int),(pre.map fun x=>Ca (decide (x.PE∈N)) th x)++l.drop pre.length,E++pre.flatMap fun x=>CG id (decide (x.PE∈N)) th x))
  (fun _ _=>some (if decide (th=1)&&(l.map fun x=>Ca (decide (x.PE∈N)) th x).all (fun x=>!decide (x.PE∈N)||x.BO) then 2 else th,l.map fun x=>Ca (decide (x.PE∈N)) th x,E++l.flatMap fun x=>CG id (decide (x.PE∈N)) th x)) (fun pre x post h=>.inl ⟨by
    have hd:l.drop pre.length=x::post:=by rw [h];simp
    have hd':l.drop (pre++[x]).length=post:=by rw [h];simp
    have hm:=BG h;have hE':=oa N id th pre;rw [hd,hd',oc id ph th N J l hl pre post x h _ _ (by simp) _ (by rw [List.length_append];omega),bb];have hp:=(Pf (decide (x.PE∈N)) th x).1;simp [hp],rfl⟩) (by
  dsimp only [Ky];rw [AT,Aa];dsimp only [V0];rw [List.drop_length,List.append_nil];cases decide (th=1) with
  | false=>rfl
  | true=>cases (l.map fun x=>Ca (decide (x.PE∈N)) th x).all (fun x=>!decide (x.PE∈N)||x.BO)<;>rfl)
 unfold Ql;simpa using this
def Cx (d:DK):Int:=if decide (d.TH=1)&&decide (d.DI.PH=0) then 1 else if decide (d.DI.PH=2)&&(!decide (d.TH=1)&&!d.DI.SD.any (fun x=>decide (x.SS=1))) then 0 else d.DI.PH
def Bo (d:DK):DI:=⟨d.DI.ID,Cx d,d.DI.SD⟩
def Gg (d:DK):List SX:=(Cb (Bo d)).SD.map fun x=>Ca (Cu d x) d.TH x
def Gh (d:DK):Int:=if decide (d.TH=1)&&(Gg d).all (fun x=>!Cu d x||x.BO) then 2 else d.TH
def bc (d:DK):DK:=⟨⟨d.DI.ID,(Cb (Bo d)).PH,Gg d⟩,Gh d,d.NE⟩
def Dp (d:DK):List ML:=I4 (Bo d)++(Cb (Bo d)).SD.flatMap fun x=>CG d.DI.ID (Cu d x) d.TH x
theorem qR {d:DK} (h:Ch d.DI=true):Ch (Bo d)=true:=by
 simp only [Ch,Bool.and_eq_true,decide_eq_true_eq] at h ⊢;refine ⟨h.1,?_,?_,h.2.2.2⟩
 ·show 0≤Cx d;unfold Cx;split
  ·omega
  ·split<;>omega
 ·show Cx d≤2;unfold Cx;split
  ·omega
  ·split<;>omega
theorem qA (d:DI):(Cb d).SD.length=d.SD.length:=by rw [Hf];simp
theorem vY (d:DK) (h:Ch d.DI=true) (E:d.NE.length≤1000000) (out:List ML) (ho:out.length≤700000):
  Qo d.DI.ID d.DI.PH d.TH d.DI.SD d.NE out=some ((bc d).DI.ID,(bc d).DI.PH,(bc d).TH,(bc d).DI.SD,out++Dp d):=by
 have hl:=H2 h;have hp:=qR h;have hA:=Zs d.DI.SD d.DI.ID (Cx d);have e0:(Bo d).SD=d.DI.SD:=rfl;have h9:=qA (Bo d);rw [e0] at h9;have j2:Jq d.DI.ID d.TH d.DI.SD d.NE out (Cx d)=some ((bc d).DI.ID,(bc d).DI.PH,(bc d).TH,(bc d).DI.SD,out++Dp d):=by
  dsimp only [Jq];have e1:(⟨d.DI.ID,Cx d,d.DI.SD⟩:DI)=Bo d:=rfl;have hB:(I4 (Bo d)).length≤130:=by unfold I4;rw [e0];show (d.DI.SD.flatMap (Cn d.DI.ID (Cx d))).length≤130;omega
  rw [e1,v6,hp,if_pos rfl,OB];dsimp only;rw [B5 _ _ Om Om,OB,vw _ _ _ _ E _ Om _ (by rw [List.length_append];omega),OB];rw [Zr,List.append_assoc];rfl
 have h6:∀z:Int,z=Cx d→Jq d.DI.ID d.TH d.DI.SD d.NE out z=some ((bc d).DI.ID,(bc d).DI.PH,(bc d).TH,(bc d).DI.SD,out++Dp d):=fun z e=>by rw [e];exact j2
 have hw:=TI d.DI.SD (fun z=>Qn z) (fun x=>decide (x.SS=1)) Om (fun x _=>rfl);dsimp only [Qo,Qp,MQ];rw [hw,OB];unfold Cx at h6;by_cases h1:d.TH=1
 ·rw [DT h1] at h6 ⊢;by_cases h2:d.DI.PH=0
  ·rw [DT h2] at h6 ⊢;exact h6 1 rfl
  ·rw [DN h2] at h6 ⊢;have:=h6 d.DI.PH (by simp);rw [Ag,Aa,this];cases decide (d.DI.PH=2)<;>rfl
 ·rw [DN h1] at h6 ⊢;rw [Aa,Aa];by_cases h2:d.DI.PH=2
  ·rw [DT h2] at h6 ⊢;cases h8:d.DI.SD.any (fun x=>decide (x.SS=1)) with
   | true=>rw [h8] at h6;exact h6 d.DI.PH (by simp)
   | false=>rw [h8] at h6;exact h6 0 (by simp)
  ·rw [DN h2] at h6 ⊢;exact h6 d.DI.PH (by simp)
def F5 (x:SX):Nat:=bn x.FK+bn x.TO+bn x.BO+bn x.Ask
def bits (l:List SX):Nat:=(l.map F5).sum
def rank (th ph:Int):Nat:=if th=1 then (if ph=0 then 5 else if ph=1 then 4 else 3) else (if ph=1 then 2 else if ph=2 then 1 else 0)
def mu (d:DK):Nat:=bits d.DI.SD+rank d.TH d.DI.PH
theorem yb (id ph:Int) (x:SX):F5 (BV ph x)+(Cn id ph x).length=F5 x:=by obtain ⟨p,e,st,f,d,t,bo,ask⟩:=x;unfold Cn BV DG F5 bn;generalize h1:decide (ph=1)=q1;generalize h2:decide (ph=2)=q2;cases f<;>cases d<;>cases t<;>cases q1<;>cases q2<;>simp<;>omega
theorem yc (id:Int) (nd:Bool) (th:Int) (x:SX):F5 (Ca nd th x)+(CG id nd th x).length=F5 x:=by obtain ⟨p,e,st,f,d,t,bo,ask⟩:=x;unfold CG Ca DW Fb F5 bn;generalize h1:decide (th=1)=q1;generalize h2:decide (th=2)=q2;cases bo<;>cases ask<;>cases nd<;>cases q1<;>cases q2<;>cases f<;>simp<;>omega
theorem qy (d:DI) (x:SX):F5 (Cl d x)=F5 (BV d.PH x):=by unfold Cl;split<;>rfl
theorem lA (d:DK):bits (bc d).DI.SD+(Dp d).length=bits d.DI.SD:=by
 have Ap:∀l:List SX,((l.map fun x=>Ca (Cu d (Cl (Bo d) x)) d.TH (Cl (Bo d) x)).map F5).sum+((l.flatMap (Cn d.DI.ID (Cx d))).length+((l.map (Cl (Bo d))).flatMap fun x=>CG d.DI.ID (Cu d x) d.TH x).length)=(l.map F5).sum:=by
  intro l;induction l with
  | nil=>rfl
  | cons x l ih=>have h1:=yb d.DI.ID (Cx d) x;have h2:=yc d.DI.ID (Cu d (Cl (Bo d) x)) d.TH (Cl (Bo d) x);have h3:=qy (Bo d) x;have e:(Bo d).PH=Cx d:=rfl;rw [e] at h3;simp only [List.map_cons,List.sum_cons,List.flatMap_cons,List.length_append];omega
 have:=Ap d.DI.SD;unfold bits Dp;rw [List.length_append,Hf];show (((Gg d).map F5).sum+_=_);unfold Gg;rw [Hf];simp only [List.map_map] at this ⊢;exact this
theorem gS (d:DI):(Cb d).PH=d.PH∧(decide (d.PH=1)&&(d.SD.map (BV d.PH)).all (·.FK))=false∨d.PH=1∧(Cb d).PH=2:=by
 unfold Cb;cases hq:decide (d.PH=1)&&(d.SD.map (BV d.PH)).all (·.FK) with
 | false=>exact .inl ⟨rfl,rfl⟩
 | true=>rw [Bool.and_eq_true,decide_eq_true_eq] at hq;exact .inr ⟨hq.1,rfl⟩
theorem qI {id ph:Int} {x:SX} (h:Cn id ph x=[]):BV ph x=x:=by
 obtain ⟨p,e,st,f,d,t,bo,ask⟩:=x;unfold Cn at h;unfold BV;rw [List.append_eq_nil_iff] at h;obtain ⟨h1,h2⟩:=h;split at h1
 ·simp at h1
 ·rename_i q1;split at h2
  ·simp at h2
  ·rename_i q2;rw [if_neg q2];unfold DG;rw [if_neg q1]
theorem o9 {id:Int} {nd:Bool} {th:Int} {x:SX} (h:CG id nd th x=[]):Ca nd th x=x:=by
 unfold CG at h;unfold Ca;rw [List.append_eq_nil_iff] at h;obtain ⟨h1,h2⟩:=h;split at h1
 ·simp at h1
 ·rename_i q1;split at h2
  ·simp at h2
  ·rename_i q2;rw [if_neg q2];unfold DW;rw [if_neg q1]
theorem lB {α:Type} {f:α→α}:∀ {l:List α},(∀x∈l,f x=x)→l.map f=l
 | [],_=>rfl
 | x::l,h=>by rw [List.map_cons,h x (by simp),lB fun y hy=>h y (by simp [hy])]
theorem uv {th ph ph' th':Int} (h0:0≤ph) (h2:ph≤2) (d:DK) (hd:d.TH=th∧d.DI.PH=ph) (h1:ph'=Cx d∨Cx d=1∧ph'=2) (ht:th'=th∨th=1∧th'=2):rank th' ph'<rank th ph∨th'=th∧ph'=ph∧Cx d=ph:=by
 obtain ⟨d1,d2⟩:=hd;unfold Cx at h1 ⊢;rw [d1,d2] at h1 ⊢;unfold rank;have hp:ph=0∨ph=1∨ph=2:=by omega
 by_cases h6:th=1
 ·subst h6;rcases hp with rfl | rfl | rfl<;>rcases ht with rfl | ⟨_,rfl⟩<;>simp at h1 ⊢ <;>rcases h1 with rfl | h1<;>simp_all
 ·have:th'=th:=by rcases ht with h | h;exact h;exact absurd h.1 h6
  subst this;rcases hp with rfl | rfl | rfl
  ·simp [h6] at h1 ⊢;rcases h1 with rfl | h1<;>simp_all
  ·simp [h6] at h1 ⊢;rcases h1 with rfl | h1<;>simp_all
  ·cases h8:d.DI.SD.any (fun x=>decide (x.SS=1))<;>simp [h6,h8] at h1 ⊢ <;>simp_all
theorem Y5 {d:DK} (h0:0≤d.DI.PH) (h2:d.DI.PH≤2):bc d=d∧Dp d=[]∨mu (bc d)<mu d:=by
 have hb:=lA d;have hf:=gS (Bo d);have ht:Gh d=d.TH∨d.TH=1∧Gh d=2:=by
  unfold Gh;cases hh:decide (d.TH=1)&&(Gg d).all (fun x=>!Cu d x||x.BO) with
  | false=>left;rfl
  | true=>right;rw [Bool.and_eq_true,decide_eq_true_eq] at hh;exact ⟨hh.1,rfl⟩
 have e1:(bc d).DI.PH=(Cb (Bo d)).PH:=rfl;have e2:(bc d).TH=Gh d:=rfl;have hr:=uv (th':=Gh d) (ph':=(Cb (Bo d)).PH) h0 h2 d ⟨rfl,rfl⟩ (by
  rcases hf with ⟨q,_⟩ | ⟨q1,q2⟩
  ·exact .inl q
  ·exact .inr ⟨q1,q2⟩) ht
 unfold mu;rw [e1,e2];rcases hr with hr | ⟨r1,r2,r3⟩
 ·right;omega
 ·by_cases hm:(Dp d).length=0
  ·left;have hm':Dp d=[]:=List.eq_nil_of_length_eq_zero hm;refine ⟨?_,hm'⟩;unfold Dp at hm';rw [List.append_eq_nil_iff] at hm';obtain ⟨m1,m2⟩:=hm';have h8:∀x∈d.DI.SD,Cl (Bo d) x=x:=fun x hx=>by
    have h6:Cn d.DI.ID (Cx d) x=[]:=by
     have:∀y∈Cn d.DI.ID (Cx d) x,y∈I4 (Bo d):=fun y hy=>List.mem_flatMap.2 ⟨x,hx,hy⟩;rw [m1] at this;cases hc:Cn d.DI.ID (Cx d) x with
     | nil=>rfl
     | cons y l=>exact absurd (this y (by rw [hc];simp)) (by simp)
    have h9:BV (Cx d) x=x:=qI h6;unfold Cl;rw [show (Bo d).PH=Cx d from rfl];split
    ·rename_i hc;exfalso;rcases hf with ⟨q,q'⟩ | ⟨q1,q2⟩
     ·have:=q';rw [show (Bo d).PH=Cx d from rfl] at this;rw [this] at hc;simp at hc
     ·rw [show (Bo d).PH=Cx d from rfl] at q1;rw [q1] at r3;rw [q2] at r2;omega
    ·exact h9
   have hS:(Cb (Bo d)).SD=d.DI.SD:=by rw [Hf];exact lB h8
   have hB:Gg d=d.DI.SD:=by
    unfold Gg;rw [hS];refine lB fun x hx=>?_;have h6:CG d.DI.ID (Cu d x) d.TH x=[]:=by
     rw [hS] at m2;have:∀y∈CG d.DI.ID (Cu d x) d.TH x,y∈d.DI.SD.flatMap fun x=>CG d.DI.ID (Cu d x) d.TH x:=fun y hy=>List.mem_flatMap.2 ⟨x,hx,hy⟩;rw [m2] at this;cases hc:CG d.DI.ID (Cu d x) d.TH x with
     | nil=>rfl
     | cons y l=>exact absurd (this y (by rw [hc];simp)) (by simp)
    exact o9 h6
   unfold bc;rw [hB,r1,r2]
  ·right;rw [r1,r2];omega
theorem qX (id:Int) (f:SX→SX):∀(l:List SX) (q:Int),(∀x∈l,(f x).PE=x.PE∧∀q,D2 id q x=true→D2 id q (f x)=true)→FH id q l=true→FH id q (l.map f)=true
 | [],_,_,_=>rfl
 | x::l,q,h,hk=>by obtain ⟨h1,h2⟩:=h x (by simp);simp only [List.map_cons,FH,Bool.and_eq_true] at hk ⊢;refine ⟨h2 q hk.1,?_⟩;rw [h1];exact qX id f l x.PE (fun y hy=>h y (by simp [hy])) hk.2
theorem jd {d:DI} (h:Ch d=true) {p:Int} (h0:0≤p) (h2:p≤2) (f:SX→SX) (hf:∀x∈d.SD,(f x).PE=x.PE∧∀q,D2 d.ID q x=true→D2 d.ID q (f x)=true):Ch ⟨d.ID,p,d.SD.map f⟩=true:=by simp only [Ch,Bool.and_eq_true,decide_eq_true_eq] at h ⊢;exact ⟨h.1,h0,h2,by simpa using h.2.2.2.1,qX d.ID f d.SD (-1) hf h.2.2.2.2⟩
theorem lz {id q:Int} {x y:SX} (hp:y.PE=x.PE) (he:y.EP=x.EP) (hs:y.SS=x.SS) (hd:(x.DY=true→x.FK=true)→y.DY=true→y.FK=true) (h:D2 id q x=true):D2 id q y=true:=by
 unfold D2 at h ⊢;rw [hp,he,hs];simp only [Bool.and_eq_true] at h ⊢;refine ⟨h.1,h.2.1,h.2.2.1,h.2.2.2.1,h.2.2.2.2.1,h.2.2.2.2.2.1,?_⟩;have h7:=h.2.2.2.2.2.2;cases h6:y.DY with
 | false=>rfl
 | true=>
   have:x.DY=true→x.FK=true:=fun e=>by
    rw [e] at h7;cases hf:x.FK with
    | true=>rfl
    | false=>rw [hf] at h7;simp at h7
   rw [hd this h6];rfl
theorem qB {d:DI} (h:Ch d=true):Ch (Cb d)=true:=by
 have hh:=h;simp only [Ch,Bool.and_eq_true,decide_eq_true_eq] at hh;have hp:0≤(Cb d).PH∧(Cb d).PH≤2:=by
  rcases gS d with ⟨q,_⟩ | ⟨_,q⟩
  ·rw [q];exact ⟨hh.2.1,hh.2.2.1⟩
  ·rw [q];omega
 have:=jd h hp.1 hp.2 (Cl d) fun x hx=>by
  obtain ⟨p1,p2,p3,_⟩:=M8 d x;refine ⟨p1,fun q=>lz p1 p2 p3 fun hd=>?_⟩;unfold Cl;split
  ·rename_i hc;rw [Bool.and_eq_true,List.all_eq_true] at hc;exact fun _=>hc.2 (BV d.PH x) (List.mem_map_of_mem hx)
  ·exact qx _ _ hd
 rw [←Hf] at this;rw [show Cb d=⟨d.ID,(Cb d).PH,(Cb d).SD⟩ by rw [←Zr d]];exact this
theorem lU {d:DK} (h:Ch d.DI=true):Ch (bc d).DI=true:=by
 have h1:=qB (qR h);have hh:=h1;simp only [Ch,Bool.and_eq_true,decide_eq_true_eq] at hh;have:=jd h1 hh.2.1 hh.2.2.1 (fun x=>Ca (Cu d x) d.TH x) fun x _=>by obtain ⟨p1,p2,p3,p4,p5,_⟩:=Pf (Cu d x) d.TH x;exact ⟨p1,fun q=>lz p1 p2 p3 fun hd e=>by rw [p4];rw [p5] at e;exact hd e⟩
 rw [Zr] at this;exact this
def Cm:Nat→DK→List ML→DK×List ML
 | 0,d,out=>(d,out)
 | n+1,d,out=>if bc d=d then (d,out) else Cm n (bc d) (out++Dp d)
def Bv (d:DK):DK×List ML:=Cm 300 d []
theorem TJ (l m:List Int) (hl:l.length≤1000000):Iz l m=some (decide (l=m)):=by
 simp only [Iz,Mp];by_cases h:l.length=m.length
 ·simp only [h,decide_true,Bool.not_true,Aa];rw [fL l m _ (fun x y=>decide (x=y)) h Om (fun k x y hx hy=>by simp only [Xe,AQ hx,Ag,Ar hx,Ar hy,OB,EA hx (show l.length≤4000000000000000000 by omega),Je];cases decide (x=y)<;>rfl) (by simp only [Xe,AT,Aa,Xd,Option.map_some]),fe l m h]
 ·simp [h,Mo h]
theorem Yk (i p t:Int) (S:List SX) (N:List Int) (hs:S.length≤1000000) (hn:N.length≤1000000):MT i p t S N=some (S,N):=by simp only [MT,Lz _ hs,Ex _ hn,OB,a8]
theorem kC (a b:DK) (hs:a.DI.SD.length≤1000000) (hn:a.NE.length≤1000000):MM a b=some (decide (a=b)):=by obtain ⟨⟨i,p,s⟩,t,n⟩:=a;obtain ⟨⟨i',p',s'⟩,t',n'⟩:=b;simp only at hs hn;simp only [MM,UX,MB,MN,uZ s s' hs,TJ n n' hn,OB,DK.mk.injEq,DI.mk.injEq];by_cases h1:i=i'<;>by_cases h2:p=p'<;>by_cases h3:s=s'<;>by_cases h4:t=t'<;>by_cases h5:n=n'<;>simp [h1,h2,h3,h4,h5]
theorem Zb (l:List SX):bits l≤4*l.length:=by
 induction l with
 | nil=>simp [bits]
 | cons x l ih=>
   have:F5 x≤4:=by unfold F5 bn;split<;>split<;>split<;>split<;>omega
   unfold bits at ih ⊢;simp only [List.map_cons,List.sum_cons,List.length_cons];omega
theorem gT {d:DK} (h:Ch d.DI=true):mu d≤257:=by
 have h1:=H2 h;have h2:=Zb d.DI.SD;have:rank d.TH d.DI.PH≤5:=by unfold rank;(repeat' split)<;>omega
 unfold mu;omega
theorem Y2 {d:DI} (h:Ch d=true):0≤d.PH∧d.PH≤2:=by simp only [Ch,Bool.and_eq_true,decide_eq_true_eq] at h;exact ⟨h.2.1,h.2.2.1⟩
theorem qJ (J:List SX) (N:List Int) (E:N.length≤1000000):∀(n:Nat) (d:DK) (out:List ML),d.NE=N→Ch d.DI=true→mu d≤n→out.length+bits d.DI.SD≤600000→
  loop (Qg (J,N)) (d.DI.ID,d.DI.PH,d.TH,d.DI.SD,out)=some ((Cm (n+1) d out).1.DI.ID,(Cm (n+1) d out).1.DI.PH,(Cm (n+1) d out).1.TH,0,(Cm (n+1) d out).1.DI.SD,N,(Cm (n+1) d out).2):=fun n=>by
 have step:∀(d:DK) (out:List ML),d.NE=N→Ch d.DI=true→out.length+bits d.DI.SD≤600000→Qg (J,N) (d.DI.ID,d.DI.PH,d.TH,d.DI.SD,out)=if bc d=d then some (.inr (d.DI.ID,d.DI.PH,d.TH,0,d.DI.SD,N,out)) else some (.inl ((bc d).DI.ID,(bc d).DI.PH,(bc d).TH,(bc d).DI.SD,out++Dp d)):=fun d out hd hk ho=>by
  have hl:=H2 hk;have hp:=Y2 hk;have e:(⟨⟨d.DI.ID,d.DI.PH,d.DI.SD⟩,d.TH,N⟩:DK)=d:=by rw [←hd]
  dsimp only [Qg];have h6:=vY d hk (by rw [hd];exact E) out Om;rw [hd] at h6;rw [Yk _ _ _ _ _ Om E,OB,h6,OB];dsimp only;have e2:(⟨⟨(bc d).DI.ID,(bc d).DI.PH,(bc d).DI.SD⟩,(bc d).TH,N⟩:DK)=bc d:=by rw [←hd];rfl
  rw [e,e2,kC d _ Om (by rw [hd];exact E),OB];dsimp only [UY,UZ];by_cases hq:bc d=d
  ·rw [if_pos hq,DT hq.symm,Ag];have hm:Dp d=[]:=by
    rcases Y5 hp.1 hp.2 with h1 | h1
    ·exact h1.2
    ·rw [hq] at h1;omega
   rw [hm,List.append_nil,hq];rfl
  ·rw [if_neg hq,DN fun e=>hq e.symm,Aa]
 induction n with
 | zero=>
   intro d out hd hk hm ho;have hp:=Y2 hk;have hq:bc d=d:=by
    rcases Y5 hp.1 hp.2 with h1 | h1
    ·exact h1.1
    ·omega
   rw [Bn,step d out hd hk ho,if_pos hq];unfold Cm;rw [if_pos hq]
 | succ n ih=>
   intro d out hd hk hm ho;have hp:=Y2 hk;rw [Bn,step d out hd hk ho];unfold Cm;by_cases hq:bc d=d
   ·rw [if_pos hq,if_pos hq]
   ·rw [if_neg hq,if_neg hq];have hb:=lA d;refine ih (bc d) (out++Dp d) hd (lU hk) ?_ (by rw [List.length_append];omega);rcases Y5 hp.1 hp.2 with h1 | h1
    ·exact absurd h1.1 hq
    ·omega
def Gf:Option Int→List Int→Bool
 | _,[]=>true
 | p,x::r=>(match p with | none=>true | some q=>decide (q<x))&&Gf (some x) r
def Jd (d:DI) (p:Int):Bool:=d.SD.any fun x=>decide (x.PE=p)
def EQ (d:DK):Bool:=Ch d.DI&&(decide (0≤d.TH)&&(decide (d.TH≤2)&&(Gf none d.NE&&(!(decide (d.TH=0)&&decide (0<d.NE.length))&&d.NE.all (Jd d.DI)))))
theorem kS (l:List Int) (hl:l.length≤1000000):HF l=some (Gf none l):=by
 unfold HF;refine Jj l (JQ l) (fun pre=>(pre.length:Int)) (fun pre post=>some (Gf pre.getLast? post)) (fun pre x post h=>?_) ?_
 ·have hx:=BL h;have hm:=BG h;have j2:∀z,JP (pre.length:Int) z=if z then some (.inr false) else some (.inl ((pre.length+1:Nat):Int)):=fun z=>by
   cases z with
   | true=>rfl
   | false=>dsimp only [JP];rw [Aa,AC Om];rfl
  dsimp only [JQ];rw [AQ hx,Ag];rcases List.eq_nil_or_concat pre with rfl | ⟨q,y,rfl⟩
  ·left;rw [show decide ((0:Int)<(([]:List Int).length:Nat))=false from rfl,Aa,j2];exact ⟨rfl,rfl⟩
  ·rw [List.concat_eq_append] at *;have hy:l[q.length]?=some y:=by rw [h];simp
   rw [DT (show (0:Int)<((q++[y]).length:Nat) by rw [bb];omega),Ag];have e1:wr (((q++[y]).length:Nat)-1)=(q.length:Int):=by rw [bb] at hm ⊢;rw [D4 Om Om];omega
   rw [e1,Ar hy,OB,Ar hx,OB,j2];by_cases hc:x≤y
   ·right;refine ⟨false,by rw [DT hc];rfl,?_⟩;have:¬y<x:=by omega
    simp [Gf,this]
   ·left;have:y<x:=by omega
    refine ⟨by rw [DN hc,bb (q++[y])];rfl,?_⟩;simp [Gf,this]
 ·dsimp only [JQ];rw [AT,Aa];rfl
theorem Yj (d:DK) (hn:d.NE.length≤1000000):Jn d=some (if EQ d then 0 else 150):=by
 simp only [Jn,c7,OB];unfold EQ;cases hk:Ch d.DI with
 | false=>rfl
 | true=>
   have hl:=H2 hk;rw [if_pos rfl,show decide ((0:Int)=0)=true from rfl,Bool.not_true,Aa];by_cases h1:d.TH<0
   ·rw [DT h1,Ag,DN (show ¬0≤d.TH by omega)];rfl
   ·rw [DN h1,Aa,DT (show 0≤d.TH by omega)];by_cases h2:2<d.TH
    ·rw [DT h2,DN (show ¬d.TH≤2 by omega)];rfl
    ·rw [DN h2,DT (show d.TH≤2 by omega)];dsimp only [MF];rw [Aa,kS _ hn,OB];cases hv:Gf none d.NE with
     | false=>rfl
     | true=>
       rw [Bool.not_true,Aa];have j3:∀z,MH d z=some (if (!z&&d.NE.all (Jd d.DI))=true then 0 else 150):=fun z=>by
        cases z with
        | true=>rfl
        | false=>dsimp only [MH];rw [Aa,K1 d.NE (fun z=>ME z d) (fun p=>!Jd d.DI p) Om (fun p _=>by simp only [ME];rw [TI d.DI.SD (fun z=>Qc z p) (fun x=>decide (x.PE=p)) Om (fun x _=>rfl),OB];rfl),OB];have e1:d.NE.any (fun p=>!Jd d.DI p)=!d.NE.all (Jd d.DI):=Kf _ _ _ fun _=>rfl;rw [e1];cases d.NE.all (Jd d.DI)<;>rfl
       rw [AY];simp only [j3,Bool.true_and];have e3:decide ((0:Int)<(d.NE.length:Nat))=decide (0<d.NE.length):=by rw [decide_eq_decide];omega
       rw [e3];cases decide (d.TH=0)<;>rfl
theorem OK {d:DK} (h:EQ d=true):Ch d.DI=true:=by unfold EQ at h;rw [Bool.and_eq_true] at h;exact h.1
theorem fa:∀(n:Nat) (d:DK) (out:List ML),(Cm n d out).1.NE=d.NE
 | 0,_,_=>rfl
 | n+1,d,out=>by
   unfold Cm;split
   ·rfl
   ·rw [fa n];rfl
theorem vz (d:DK) (hk:EQ d=true) (hn:d.NE.length≤1000000):MJ d.DI.ID d.DI.PH d.TH d.DI.SD d.NE=some ((Bv d).1.DI.ID,(Bv d).1.DI.PH,(Bv d).1.TH,0,(Bv d).1.DI.SD,d.NE,(Bv d).2):=by have h6:=OK hk;have hl:=H2 h6;have hb:=Zb d.DI.SD;have hm:=gT h6;dsimp only [MJ];rw [show (⟨⟨d.DI.ID,d.DI.PH,d.DI.SD⟩,d.TH,d.NE⟩:DK)=d from rfl,Yj d hn,OB,if_pos hk,show decide ((0:Int)=0)=true from rfl,Bool.not_true,Aa,Yk _ _ _ _ _ Om hn,OB,qJ _ d.NE hn 299 d [] rfl h6 Om (by simp only [List.length_nil];omega)];rfl
theorem vy (d:DK) (hk:EQ d=true) (hn:d.NE.length≤1000000):Qf d.DI.ID d.DI.PH d.TH d.DI.SD d.NE=some (if d.TH=0 then (0,0,152,[]) else (d.DI.ID,d.DI.PH,0,d.DI.SD)):=by
 have hl:=H2 (OK hk);dsimp only [Qf];rw [show (⟨⟨d.DI.ID,d.DI.PH,d.DI.SD⟩,d.TH,d.NE⟩:DK)=d from rfl,Yj d hn,OB,if_pos hk,show decide ((0:Int)=0)=true from rfl,Bool.not_true,Aa];by_cases h1:d.TH=0
 ·rw [DT h1,Ag,if_pos h1]
 ·rw [DN h1,Aa,if_neg h1,Yk _ _ _ _ _ Om hn,OB]
def BF (k:Int) (x:SX):Bool:=if k=1 then x.FK else if k=2 then x.TO else if k=4 then x.Ask else x.BO
def CP (k:Int) (x:SX):SX:=if k=1 then {x with FK:=true} else if k=2 then {x with TO:=true} else if k=4 then {x with Ask:=true} else {x with BO:=true}
theorem vx (i p E:Int) (m:Msg) (S:List SX) (hk:Ch ⟨i,p,S⟩=true) {j:Nat} {x:SX} (hf:S.findIdx? (fun x=>decide (x.PE=E)&&decide (x.EP=m.EP))=some j) (hx:S[j]?=some x) (h0:m.Num=0) (hm:m.KI=1∨m.KI=2):
  Q7 i p E m S=some (if BF m.KI x then (0,0,132,[]) else (i,p,0,S.set j (CP m.KI x))):=by
 have hl:S.length<64:=H2 hk;dsimp only [Q7];rw [c7,if_pos hk,OB,show decide ((0:Int)=0)=true from rfl,Bool.not_true,Aa,TK S (fun z=>MA z E m) (fun x=>decide (x.PE=E)&&decide (x.EP=m.EP)) Om (fun x _=>by simp only [MA,Q6];cases decide (x.PE=E)<;>rfl),OB,jA,hf,Option.isNone_some,Aa,Lz S Om,OB];dsimp only [Br];rw [Ar hx,OB];dsimp only [Q8,Q9,Qb];rw [DT h0,Int.toNat_natCast];rcases hm with hm | hm
 ·rw [hm,show decide ((1:Int)=1)=true from rfl,Ag,Ag];simp only [BF,CP,if_true];cases x.FK<;>rfl
 ·rw [hm,show decide ((2:Int)=1)=false from rfl,Aa,Aa,show decide ((2:Int)=2)=true from rfl,Ag,Ag];simp only [BF,CP,if_true,show ¬(2:Int)=1 by omega,if_false];cases x.TO<;>rfl
theorem vA (d:DK) (E:Int) (m:Msg) (hk:EQ d=true) (hn:d.NE.length≤1000000) {j:Nat} {x:SX} (hf:d.DI.SD.findIdx? (fun x=>decide (x.PE=E)&&decide (x.EP=m.EP))=some j) (hx:d.DI.SD[j]?=some x) (h0:m.Num=0) (hm:1≤m.KI∧m.KI≤4):
  Qj d.DI.ID d.DI.PH d.TH E m d.DI.SD d.NE=some (if BF m.KI x then (0,0,0,132,[],[]) else (d.DI.ID,d.DI.PH,d.TH,0,d.DI.SD.set j (CP m.KI x),d.NE)):=by
 have hl:=H2 (OK hk);dsimp only [Qj];rw [show (⟨⟨d.DI.ID,d.DI.PH,d.DI.SD⟩,d.TH,d.NE⟩:DK)=d from rfl,Yj d hn,if_pos hk,OB,show decide ((0:Int)=0)=true from rfl,Bool.not_true,Aa,Yk _ _ _ _ _ Om hn,OB];dsimp only;rw [TK d.DI.SD (fun z=>MK z E m) (fun x=>decide (x.PE=E)&&decide (x.EP=m.EP)) Om (fun x _=>by simp only [MK,Qh];cases decide (x.PE=E)<;>rfl),OB,jA,hf,Option.isNone_some,Aa,DT h0,Bool.not_true,Aa];have hd:=fun hm=>vx d.DI.ID d.DI.PH E m d.DI.SD (OK hk) hf hx h0 hm;have j1:(m.KI=1∨m.KI=2)→Ho d.DI.ID d.DI.PH d.TH E m (d.DI.SD,d.NE) (Br (some j)) true=some (if BF m.KI x then (0,0,0,132,[],[]) else (d.DI.ID,d.DI.PH,d.TH,0,d.DI.SD.set j (CP m.KI x),d.NE)):=fun hq=>by dsimp only [Ho];rw [Ag,hd hq,OB];cases BF m.KI x<;>rfl
 have j0:(m.KI=3∨m.KI=4)→Ho d.DI.ID d.DI.PH d.TH E m (d.DI.SD,d.NE) (Br (some j)) false=some (if BF m.KI x then (0,0,0,132,[],[]) else (d.DI.ID,d.DI.PH,d.TH,0,d.DI.SD.set j (CP m.KI x),d.NE)):=fun hq=>by
  dsimp only [Ho,Br];rw [Aa,Ar hx,OB,Int.toNat_natCast];rcases hq with hq | hq
  ·rw [hq,show decide ((3:Int)=4)=false from rfl,Aa];simp only [BF,CP,show ¬(3:Int)=1 by omega,show ¬(3:Int)=2 by omega,show ¬(3:Int)=4 by omega,if_false];cases x.BO<;>rfl
  ·rw [hq,show decide ((4:Int)=4)=true from rfl,Ag];simp only [BF,CP,show ¬(4:Int)=1 by omega,show ¬(4:Int)=2 by omega,if_false,if_true];cases x.Ask<;>rfl
 by_cases k3:m.KI=3
 ·rw [DT k3,Bool.not_true,Aa];exact j0 (.inl k3)
 ·rw [DN k3,Bool.not_false,Ag];by_cases k4:m.KI=4
  ·rw [DT k4,Bool.not_true];exact j0 (.inr k4)
  ·rw [DN k4,Bool.not_false];exact j1 Om
structure FewN (n:NO):Prop where
 sides:n.DK.DI.SD.length≤100000
 need:n.DK.NE.length≤100000
 book:n.BK.SE.length≤100000
 needs:∀s∈n.BK.SE,s.NE.length≤100000
 known:n.KN.length≤100000
 told:n.TL.length≤100000
 asked:n.AK.length≤100000
theorem FewN.bk {n:NO} (h:FewN n):DF n.BK:=⟨by have:=h.book;omega,fun s hs=>by have:=h.needs s hs;omega⟩
def D1 (n:NO) (q:SX→Bool):List Int:=(n.DK.DI.SD.filter q).map (·.PE)
theorem cf (n:NO) (hn:FewN n) (p:SX→Option Bool) (q:SX→Bool) (hp:∀x∈n.DK.DI.SD,p x=some (q x)):L4 n p=some (D1 n q):=by
 have hl:=hn.sides;unfold L4;refine D0 n.DK.DI.SD _ (fun pre=>((pre.length:Int),(pre.filter q).map (·.PE))) _ (fun pre x post h=>?_) ?_
 ·have hx:=BL h;have hm:=BG h;have hf:=List.length_filter_le q pre;dsimp only [WR];rw [AQ hx,Ag,Ar hx,OB,hp x (Di h),OB];cases hq:q x with
  | true=>rw [Ag,B5 _ _ Om (by simp;omega),OB];dsimp only [NR];rw [AC Om,bb];simp [hq]
  | false=>rw [Aa];dsimp only [NR];rw [AC Om,bb];simp [hq]
 ·dsimp only [WR];rw [AT,Aa];rfl
def Dy (x:SX):Bool:=decide (x.SS=0)
def ER (x:SX):Bool:=decide (x.SS=1)
def G6 (x:SX):Bool:=decide (x.SS=3)
theorem ve (n:NO) (hn:FewN n):Rq n=some (D1 n Dy):=by simp only [Rq,cf n hn (fun z=>Hx z) Dy (fun _ _=>rfl),OB]
def BR (K:List KE) (p:Int):Int:=match K.find? (fun k=>decide (k.PE=p)) with | some k=>k.EP | none=>0
theorem c9 (n:NO) (hn:FewN n) (p:Int):KS n p=some (BR n.KN p):=by
 have hl:=hn.known;unfold KS;refine Jj n.KN _ (fun pre=>(pre.length:Int)) (fun _ post=>some (BR post p)) (fun pre x post h=>?_) ?_
 ·have hx:=BL h;have hm:=BG h;dsimp only [Wl];rw [AQ hx,Ag,Ar hx,OB];by_cases hq:x.PE=p
  ·right;exact ⟨x.EP,by rw [DT hq];rfl,by simp [BR,hq]⟩
  ·left;exact ⟨by rw [DN hq,Aa,AC Om,bb],by simp [BR,hq]⟩
 ·dsimp only [Wl];rw [AT,Aa];rfl
def Fj (n:NO) (k:KE):Bool:=!n.DK.DI.SD.any (fun x=>decide (x.PE=k.PE))&&(decide (0≤k.PE)&&(decide (k.PE<n.DK.DI.ID)&&(decide (BR n.KN k.PE<k.EP)&&decide (k.EP≤65535))))
theorem ca (n:NO) (hn:FewN n) (k:KE):Nx n k=some (Fj n k):=by have hl:=hn.sides;simp only [Nx,TI n.DK.DI.SD (fun z=>RM z k) (fun x=>decide (x.PE=k.PE)) Om (fun _ _=>rfl),OB,c9 n hn,JJ];unfold Fj;cases n.DK.DI.SD.any (fun x=>decide (x.PE=k.PE))<;>cases decide (0≤k.PE)<;>cases decide (k.PE<n.DK.DI.ID)<;>cases decide (BR n.KN k.PE<k.EP)<;>rfl
def EG (l:List KE):Bool:=decide (l.map (·.PE)).Nodup
theorem c8 (l:List KE) (hl:l.length≤1000000):Nv l=some (EG l):=by
 unfold Nv;have Ap:=oO l (Ru l) (fun pre=>(pre.length:Int)) (fun pre post=>some (EG (pre++post))) (fun pre=>(pre.map (·.PE)).Nodup) (fun pre x post h hI=>?_) (fun hI=>?_) l [] rfl (by simp)
 ·exact Ap
 ·have hx:=BL h;have hm:=BG h;have h6:D3 l 0 (pre.length:Int)=some pre:=by unfold D3;rw [if_pos ⟨Om,Om,Om⟩,h];simp
  dsimp only [Ru];rw [AQ hx,Ag,Ar hx,OB,h6,OB,kb pre (fun z=>Rt z x) (fun y=>decide (y.PE=x.PE)) Om (fun _ _=>rfl),OB];cases ha:pre.any (fun y=>decide (y.PE=x.PE)) with
  | true=>
    right;refine ⟨false,rfl,?_⟩;have:¬((pre++x::post).map (·.PE)).Nodup:=by rw [List.any_eq_true] at ha;obtain ⟨y,hy,hq⟩:=ha;rw [List.map_append,List.map_cons,List.nodup_append];rintro ⟨_,_,h3⟩;exact h3 y.PE (List.mem_map.2 ⟨y,hy,rfl⟩) x.PE (by simp) (by simpa using hq)
    unfold EG;rw [DN this]
  | false=>left;rw [List.any_eq_false] at ha;refine ⟨by rw [Aa,AC Om,bb],?_,by simp [EG]⟩;rw [List.map_append,List.nodup_append];refine ⟨hI,by simp,?_⟩;intro a ha' b hb;obtain ⟨y,hy,rfl⟩:=List.mem_map.1 ha';simp at hb;subst hb;have:=ha y hy;simpa using this
 ·dsimp only [Ru];rw [AT,Aa,List.append_nil];have:EG l=true:=by unfold EG;exact DT hI
  rw [this];rfl
def cr:Int→List KE→Bool
 | _,[]=>true
 | q,k::l=>(decide (q<k.PE)&&(decide (k.PE<64)&&(decide (1≤k.EP)&&decide (k.EP≤65535))))&&cr k.PE l
def fP (q:Int) (pre:List KE):Int:=match pre.getLast? with | some x=>x.PE | none=>q
theorem qY (q:Int) (pre:List KE) (x:KE):fP q (pre++[x])=x.PE:=by simp [fP]
theorem w8 (l:List KE) (hl:l.length≤1000000) (q:Int):∃z,SV l q=some (!cr q l,z):=by
 have s1:∀(k:KE) (q:Int),Ry k q=some (!(decide (q<k.PE)&&(decide (k.PE<64)&&(decide (1≤k.EP)&&decide (k.EP≤65535))))):=fun k q=>by simp only [Ry,KR];cases decide (q<k.PE)<;>cases decide (k.PE<64)<;>cases decide (1≤k.EP)<;>rfl
 have Ap:∀(post pre:List KE),l=pre++post→∃r z,loop (On l) ((pre.length:Int),fP q pre)=some (r,z)∧decide (0≤r)=!cr (fP q pre) post:=by
  intro post;induction post with
  | nil=>
    intro pre h;have h:pre=l:=by simpa using h.symm
    subst h;refine ⟨-1,fP q pre,?_,rfl⟩;rw [Bn];dsimp only [On];rw [AT,Aa];rfl
  | cons x post ih=>
    intro pre h;have hx:=BL h;have hm:=BG h;rw [Bn];dsimp only [On];rw [AQ hx,Ag,Ar hx,OB,s1,OB];cases hk:(decide (fP q pre<x.PE)&&(decide (x.PE<64)&&(decide (1≤x.EP)&&decide (x.EP≤65535)))) with
    | false=>exact ⟨pre.length,x.PE,rfl,by simp only [cr,hk,Bool.false_and,Bool.not_false];exact DT Om⟩
    | true=>
      obtain ⟨r,z,h1,h2⟩:=ih (pre++[x]) (by simpa using h);refine ⟨r,z,?_,?_⟩
      ·rw [Bool.not_true,Aa,AC Om];rw [bb,qY] at h1;exact h1
      ·rw [h2,qY];simp only [cr,hk,Bool.true_and]
 obtain ⟨r,z,h1,h2⟩:=Ap l [] rfl;refine ⟨z,?_⟩;have h1:loop (On l) (0,q)=some (r,z):=h1;simp only [SV,Xk,h1,OB,h2];rfl
def IL (n:NO) (x:SX):Bool:=decide (x.PE<64)&&(decide (1≤x.EP)&&(decide (BR n.KN x.PE=x.EP)&&!((decide (x.SS=1)||decide (x.SS=3))&&decide (x.PE<n.DK.DI.ID))))
theorem vF (n:NO) (hn:FewN n) (x:SX):JG x n=some (!IL n x):=by
 simp only [JG,Rw,JH,c9 n hn,OB];unfold IL;by_cases h1:x.PE<64
 ·rw [DT h1,DN (show ¬64≤x.PE by omega)];by_cases h2:1≤x.EP
  ·rw [DT h2,DN (show ¬x.EP<1 by omega)];cases decide (BR n.KN x.PE=x.EP)<;>cases decide (x.SS=1)<;>cases decide (x.SS=3)<;>cases decide (x.PE<n.DK.DI.ID)<;>rfl
  ·rw [DN h2,DT (show x.EP<1 by omega)];cases decide (x.SS=1)<;>rfl
 ·rw [DN h1,DT (show 64≤x.PE by omega)];cases decide (x.SS=1)<;>rfl
def gZ (n:NO):Bool:=decide (n.DK.DI.ID<64)&&(cr (-1) n.KN&&(n.DK.DI.SD.all (IL n)&&(Gf none n.TL&&n.TL.all fun z=>decide (z∈D1 n ER))))
def Po (n:NO):Bool:=n.AK.all (Fj n)&&(EG n.AK&&gZ n)
theorem Yb (n:NO) (q:SX→Bool):(D1 n q).length≤n.DK.DI.SD.length:=by unfold D1;rw [List.length_map];exact List.length_filter_le _ _
theorem vE (n:NO) (hn:FewN n):Rv n=some (Po n):=by
 have h1:=hn.asked;have h2:=hn.known;have h3:=hn.sides;have h4:=hn.told;have h5:=Yb n ER;obtain ⟨z,hz⟩:=w8 n.KN Om (-1);have hk:∃z,RJ n (-1) (fun z=>JG z n)=some (gZ n,z):=by
  simp only [RJ,JI,hz,OB,TI n.DK.DI.SD (fun z=>JG z n) (fun x=>!IL n x) Om (fun x _=>vF n hn x),kS n.TL Om,cf n hn (fun z=>Ir z) ER (fun _ _=>rfl),OV n.TL (D1 n ER) Om Om];unfold gZ;have e1:n.DK.DI.SD.any (fun x=>!IL n x)=!n.DK.DI.SD.all (IL n):=Kf _ _ _ fun _=>rfl;rw [e1];cases decide (n.DK.DI.ID<64) with
  | false=>exact ⟨-1,rfl⟩
  | true=>cases cr (-1) n.KN with
    | false=>exact ⟨z,rfl⟩
    | true=>cases n.DK.DI.SD.all (IL n) with
      | false=>exact ⟨z,rfl⟩
      | true=>cases Gf none n.TL with
        | false=>exact ⟨z,rfl⟩
        | true=>exact ⟨z,rfl⟩
 obtain ⟨z',hk⟩:=hk;have e2:n.AK.any (fun k=>!Fj n k)=!n.AK.all (Fj n):=Kf _ _ _ fun _=>rfl;simp only [Rv,kb n.AK (fun z=>Nw z n) (fun k=>!Fj n k) Om (fun k _=>by simp only [Nw,ca n hn,OB]),OB,e2,c8 n.AK Om,Rz,hk];unfold Po;cases n.AK.all (Fj n)<;>cases EG n.AK<;>rfl
def rI:SE:=⟨0,[],0,0⟩
theorem vG (n:NO):RD n=some (match n.BK.SE with | []=>(rI,false) | s::_=>(s,true)):=by
 simp only [RD,AY];cases h:n.BK.SE with
 | nil=>rfl
 | cons s l=>rw [DN (by simp;omega),Aa];rfl
def I8 (n:NO):Bool:=match n.BK.SE with | []=>false | s::_=>decide (s.SS=1)
def ga (n:NO):Bool:=match n.BK.SE with | []=>false | s::_=>decide (s.NE=n.DK.NE)
def IM (n:NO) (s:SE):Bool:=!(decide (s.SS=0)&&!s.NE.all fun z=>decide (z∈D1 n Dy))
def U1 (n:NO):Bool:=(decide (n.DK.TH=2)==I8 n)&&((decide (n.DK.TH=0)||ga n)&&(!n.DK.NE.any (fun z=>decide (z∈D1 n G6))&&n.BK.SE.all (IM n)))
theorem uP (a b:List Int) (ha:a.length≤1000000) (hb:b.length≤1000000):SH a b=some ((Bm a).filter fun z=>decide (z∈b)):=by simp only [SH];rw [kH a (fun z=>O7 z b) (fun z=>decide (z∈b)) ha (fun x _=>by simp only [O7,Gi b x hb,OB]),OB]
theorem wl (n:NO) (hn:FewN n):Sj n=some (U1 n):=by
 have h3:=hn.sides;have h4:=hn.need;have h5:=hn.book;have h6:=Yb n G6;have h7:=Yb n Dy;have hc:Lf n.BK.SE (fun z=>NT z n)=some (n.BK.SE.any fun s=>!IM n s):=kc _ _ _ Om fun s hs=>by have:=hn.needs s hs;simp only [NT,Sn,ve n hn,OB,OV s.NE (D1 n Dy) Om Om];unfold IM;cases decide (s.SS=0)<;>cases (s.NE.all fun z=>decide (z∈D1 n Dy))<;>rfl
 have e1:(n.BK.SE.any fun s=>!IM n s)=!n.BK.SE.all (IM n):=Kf _ _ _ fun _=>rfl;have j2:∀z,JN n z=some (!z&&(!n.DK.NE.any (fun z=>decide (z∈D1 n G6))&&n.BK.SE.all (IM n))):=fun z=>by
  cases z with
  | true=>rfl
  | false=>
    dsimp only [JN,Sp];rw [Aa,cf n hn (fun z=>Sk z) G6 (fun _ _=>rfl),OB,uP _ _ Om Om,OB,hc,e1,AY];have e2:decide (((((Bm n.DK.NE).filter fun z=>decide (z∈D1 n G6)).length:Nat):Int)=0)=!n.DK.NE.any (fun z=>decide (z∈D1 n G6)):=by
     have hm:=(DO n.DK.NE).2;cases ha:n.DK.NE.any (fun z=>decide (z∈D1 n G6)) with
     | true=>rw [List.any_eq_true] at ha;obtain ⟨x,hx,hq⟩:=ha;refine DN fun e=>?_;have:((Bm n.DK.NE).filter fun z=>decide (z∈D1 n G6))=[]:=List.length_eq_zero_iff.1 Om;have h8:x∈((Bm n.DK.NE).filter fun z=>decide (z∈D1 n G6)):=List.mem_filter.2 ⟨(hm x).2 hx,hq⟩;rw [this] at h8;simp at h8
     | false=>
       rw [List.any_eq_false] at ha;refine DT ?_;have:((Bm n.DK.NE).filter fun z=>decide (z∈D1 n G6))=[]:=by rw [List.filter_eq_nil_iff];intro x hx;exact ha x ((hm x).1 hx)
       rw [this];rfl
    rw [e2];cases n.DK.NE.any (fun z=>decide (z∈D1 n G6)) with
    | true=>rfl
    | false=>rw [Bool.not_false,Ag,OB];cases n.BK.SE.all (IM n)<;>rfl
 simp only [Sj,vG,OB,So,j2];unfold U1 I8 ga;cases hb:n.BK.SE with
 | nil=>simp only [Aa,Bool.not_false,Bool.not_true];cases decide (n.DK.TH=2)<;>cases decide (n.DK.TH=0)<;>simp [A0]
 | cons s l=>have hs:=hn.needs s (by rw [hb];simp);simp only [Ag,TJ s.NE n.DK.NE Om,OB,Bool.not_true,Aa];cases decide (s.SS=1)<;>cases decide (n.DK.TH=2)<;>cases decide (n.DK.TH=0)<;>cases decide (s.NE=n.DK.NE)<;>simp [A0]
def Ls (n:NO):Bool:=EQ n.DK&&(Cw n.BK&&(Po n&&U1 n))
theorem Ym (n:NO) (hn:FewN n):Ip n=some (if Ls n then 0 else 180):=by
 have h4:=hn.need;simp only [Ip,KM,Yj n.DK Om,LB n.BK hn.bk,vE n hn,wl n hn,OB];unfold Ls;cases EQ n.DK with
 | false=>rfl
 | true=>cases Cw n.BK with
   | false=>rfl
   | true=>cases Po n with
     | false=>rfl
     | true=>cases U1 n<;>rfl
def AH {α:Type} (l:List α) (Ap:α→Int) (p:Int):Nat:=(l.takeWhile fun x=>decide (Ap x<p)).length
theorem rM {α:Type} (q:α→Bool):∀(l:List α) (k:Nat),k≤l.length→(∀i x,l[i]?=some x→i<k→q x=true)→(∀x,l[k]?=some x→q x=false)→(l.takeWhile q).length=k
 | [],k,h,_,_=>by simp at h;simp [h]
 | x::l,0,_,_,h=>by simp [h x rfl]
 | x::l,k+1,hk,h1,h2=>by rw [List.takeWhile_cons,if_pos (h1 0 x rfl Om),List.length_cons,rM q l k (by simpa using hk) (fun i y hy hi=>h1 (i+1) y (by simpa using hy) Om) fun y hy=>h2 y (by simpa using hy)]
theorem dS {α β:Type} (l:List α) (Ap:α→Int) (p:Int) (body:Int×Int→Option ((Int×Int) ⊕ β)) (E:Nat→Option β) (hs:l.Pairwise fun x y=>Ap x<Ap y)
  (h1:∀(lo hi:Nat) x,lo<hi→hi≤l.length→l[(lo+hi) / 2]?=some x→body ((lo:Int),(hi:Int))=some (.inl (if Ap x<p then ((((lo+hi) / 2+1:Nat):Int),(hi:Int)) else ((lo:Int),(((lo+hi) / 2:Nat):Int)))))
  (h2:∀lo:Nat,lo≤l.length→body ((lo:Int),(lo:Int))=(E lo).map .inr):
  ∀(n lo hi:Nat),hi-lo≤n→lo≤hi→hi≤l.length→(∀i x,l[i]?=some x→i<lo→Ap x<p)→(∀i x,l[i]?=some x→hi≤i→¬Ap x<p)→loop body ((lo:Int),(hi:Int))=E (AH l Ap p):=by
 intro n;have stop:∀lo,lo≤l.length→(∀i x,l[i]?=some x→i<lo→Ap x<p)→(∀i x,l[i]?=some x→lo≤i→¬Ap x<p)→loop body ((lo:Int),(lo:Int))=E (AH l Ap p):=by intro lo hl a b;have:AH l Ap p=lo:=rM _ l lo hl (fun i x hx hi=>DT (a i x hx hi)) fun x hx=>DN (b lo x hx (Nat.le_refl _));rw [Bn,h2 lo hl,this];cases E lo<;>rfl
 have mono:∀ {i j:Nat} {x y:α},l[i]?=some x→l[j]?=some y→i<j→Ap x<Ap y:=by intro i j x y hx hy h8;rw [List.pairwise_iff_getElem] at hs;obtain ⟨a,rfl⟩:=List.getElem?_eq_some_iff.1 hx;obtain ⟨b,rfl⟩:=List.getElem?_eq_some_iff.1 hy;exact hs i j a b h8
 induction n with
 | zero=>
   intro lo hi hn h9 h6 a b;have:lo=hi:=by omega
   subst this;exact stop lo h6 a b
 | succ n ih=>
   intro lo hi hn h9 h6 a b;by_cases he:lo=hi
   ·subst he;exact stop lo h6 a b
   ·have hm:(lo+hi) / 2<l.length:=by omega
    obtain ⟨x,hx⟩:∃x,l[(lo+hi) / 2]?=some x:=⟨_,List.getElem?_eq_getElem hm⟩
    rw [Bn,h1 lo hi x Om h6 hx];by_cases hq:Ap x<p
    ·rw [if_pos hq];refine ih ((lo+hi) / 2+1) hi Om Om h6 (fun i y hy hi'=>?_) b;by_cases e:i=(lo+hi) / 2
     ·subst e;rw [hx] at hy;simp at hy;subst hy;exact hq
     ·have:=mono hy hx Om;omega
    ·rw [if_neg hq];refine ih lo ((lo+hi) / 2) Om Om Om a fun i y hy hi'=>?_;by_cases e:i=(lo+hi) / 2
     ·subst e;rw [hx] at hy;simp at hy;subst hy;exact hq
     ·have:=mono hx hy Om;omega
theorem gP {lo hi:Nat} (h:lo+hi≤4000000):wr (Int.fdiv (kw .u64 (wr ((lo:Int)+hi))) (2 ^ min (Int.toNat 1) (IntKind.bits .u64)))=(((lo+hi) / 2:Nat):Int):=by
 have e1:wr ((lo:Int)+hi)=((lo+hi:Nat):Int):=by rw [D4 Om Om];omega
 have e2:kw .u64 ((lo+hi:Nat):Int)=((lo+hi:Nat):Int):=by
  show IntKind.u64.wrap _=_;have e:IntKind.u64.wrap ((lo+hi:Nat):Int)=((lo+hi:Nat):Int) % 18446744073709551616:=by simp [IntKind.wrap,IntKind.bits,IntKind.signed]
  rw [e];omega
 have e3:(2:Int) ^ min (Int.toNat 1) (IntKind.bits .u64)=2:=by decide
 rw [e1,e2,e3];have e4:Int.fdiv ((lo+hi:Nat):Int) 2=(((lo+hi) / 2:Nat):Int):=by rw [Int.fdiv_eq_ediv_of_nonneg _ Om];omega
 rw [e4,D4 Om Om]
theorem uN (l:List KE) (p:Int) (hl:l.length≤1000000) (hs:l.Pairwise fun x y=>x.PE<y.PE) (hr:∀x∈l, -100000≤x.PE∧x.PE≤100000) (hp: -100000≤p∧p≤100000):
  La l p (fun z=>Hy z.1 z.2)=some ((AH l (·.PE) p:Int),match l[AH l (·.PE) p]? with | some x=>decide (x.PE=p) | none=>false):=by
 have cmp:∀x∈l,Hy x p=some (x.PE-p):=fun x hx=>by have:=hr x hx;simp only [Hy];rw [D4 Om Om]
 have fin:∀k:Nat,k≤l.length→SK l p (fun z=>Hy z.1 z.2) (k:Int)=some ((k:Int),match l[k]? with | some x=>decide (x.PE=p) | none=>false):=fun k hk=>by
  dsimp only [SK];cases hx:l[k]? with
  | none=>
    have:l.length≤k:=by simpa using hx
    have:k=l.length:=by omega
    subst this;rw [AT,Aa];rfl
  | some x=>rw [AQ hx,Ag,Ar hx,OB,cmp x (List.mem_of_getElem? hx),OB];dsimp only [SL];rw [show decide (x.PE-p=0)=decide (x.PE=p) from decide_eq_decide.2 Om]
 unfold La;rw [AY];refine dS l (·.PE) p _ (fun k=>some ((k:Int),match l[k]? with | some x=>decide (x.PE=p) | none=>false)) hs (fun lo hi x h1 h2 hx=>?_) (fun lo h6=>?_) l.length 0 l.length Om Om Om (fun i x _ hi=>Om) (fun i x hx hi=>by have:=(List.getElem?_eq_some_iff.1 hx).1;omega)
 ·dsimp only [WV];rw [DT (show (lo:Int)<hi by omega),Ag,gP Om,Ar hx,OB,cmp x (List.mem_of_getElem? hx),OB];by_cases hq:x.PE<p
  ·rw [if_pos hq,DT (show x.PE-p<0 by omega),Ag,AC Om]
  ·rw [if_neg hq,DN (show ¬x.PE-p<0 by omega),Aa]
 ·dsimp only [WV];rw [DN (show ¬(lo:Int)<lo by omega),Aa,fin lo h6]
theorem uO (l:List SX) (p:Int) (hl:l.length≤1000000) (hs:l.Pairwise fun x y=>x.PE<y.PE) (hr:∀x∈l, -100000≤x.PE∧x.PE≤100000) (hp: -100000≤p∧p≤100000):
  Lb l p (fun z=>HD z.1 z.2)=some ((AH l (·.PE) p:Int),match l[AH l (·.PE) p]? with | some x=>decide (x.PE=p) | none=>false):=by
 have cmp:∀x∈l,HD x p=some (x.PE-p):=fun x hx=>by have:=hr x hx;simp only [HD];rw [D4 Om Om]
 have fin:∀k:Nat,k≤l.length→SM l p (fun z=>HD z.1 z.2) (k:Int)=some ((k:Int),match l[k]? with | some x=>decide (x.PE=p) | none=>false):=fun k hk=>by
  dsimp only [SM];cases hx:l[k]? with
  | none=>
    have:l.length≤k:=by simpa using hx
    have:k=l.length:=by omega
    subst this;rw [AT,Aa];rfl
  | some x=>rw [AQ hx,Ag,Ar hx,OB,cmp x (List.mem_of_getElem? hx),OB];dsimp only [SO];rw [show decide (x.PE-p=0)=decide (x.PE=p) from decide_eq_decide.2 Om]
 unfold Lb;rw [AY];refine dS l (·.PE) p _ (fun k=>some ((k:Int),match l[k]? with | some x=>decide (x.PE=p) | none=>false)) hs (fun lo hi x h1 h2 hx=>?_) (fun lo h6=>?_) l.length 0 l.length Om Om Om (fun i x _ hi=>Om) (fun i x hx hi=>by have:=(List.getElem?_eq_some_iff.1 hx).1;omega)
 ·dsimp only [WW];rw [DT (show (lo:Int)<hi by omega),Ag,gP Om,Ar hx,OB,cmp x (List.mem_of_getElem? hx),OB];by_cases hq:x.PE<p
  ·rw [if_pos hq,DT (show x.PE-p<0 by omega),Ag,AC Om]
  ·rw [if_neg hq,DN (show ¬x.PE-p<0 by omega),Aa]
 ·dsimp only [WW];rw [DN (show ¬(lo:Int)<lo by omega),Aa,fin lo h6]
def Cy (S:List SX) (x:SX):List SX:=S.take (AH S (·.PE) x.PE)++x::S.drop (AH S (·.PE) x.PE)
def D9 (K:List KE) (p e:Int):List KE:=
 match K[AH K (·.PE) p]? with
 | some k=>if k.PE=p then K.set (AH K (·.PE) p) ⟨p,e⟩ else K.take (AH K (·.PE) p)++⟨p,e⟩::K.drop (AH K (·.PE) p)
 | none=>K++[⟨p,e⟩]
theorem Pl {α:Type} (l:List α) (Ap:α→Int) (p:Int):AH l Ap p≤l.length:=by unfold AH;exact (List.takeWhile_sublist _).length_le
theorem rN {α:Type} {b:Nat} (l:List α) (k:Nat) (v:α) (hb:b≤1000) (hk:k≤l.length) (hl:l.length≤1000000):Pv b l (k:Int) [v]=some (l.take k++v::l.drop k):=by show Mf b l (k:Int) v=_;unfold Mf;have h2:(l.length+1)*b≤1000001*1000:=Nat.mul_le_mul Om hb;rw [if_pos ⟨Om,Om,Om,Om⟩,Int.toNat_natCast]
theorem sX (K:List KE) (p e:Int) (hl:K.length≤1000000) (hs:K.Pairwise fun x y=>x.PE<y.PE) (hr:∀x∈K, -100000≤x.PE∧x.PE≤100000) (hp: -100000≤p∧p≤100000):
  ((La K p (fun z=>Hy z.1 z.2)).bind fun x14=>A0 (!x14.2) ((Lj K x14.1 [⟨p,0⟩]).bind fun x15=>(Ac x15 x14.1).bind fun x17=>some (x15.set (Int.toNat x14.1) ⟨x17.PE,e⟩)) ((Ac K x14.1).bind fun x17=>some (K.set (Int.toNat x14.1) ⟨x17.PE,e⟩)))=some (D9 K p e):=by
 rw [uN K p hl hs hr hp,OB];have hc:=Pl K (·.PE) p;have h6:(K.take (AH K (·.PE) p)).length=AH K (·.PE) p:=by rw [List.length_take];omega
 have ins:∀y:KE,Ac (K.take (AH K (·.PE) p)++y::K.drop (AH K (·.PE) p)) (AH K (·.PE) p:Int)=some y:=fun y=>by have:=IU (l:=K.take (AH K (·.PE) p)++y::K.drop (AH K (·.PE) p)) (a:=K.take (AH K (·.PE) p)) (b:=K.drop (AH K (·.PE) p)) (x:=y) rfl;rwa [h6] at this
 have st:∀y z:KE,(K.take (AH K (·.PE) p)++y::K.drop (AH K (·.PE) p)).set (AH K (·.PE) p) z=K.take (AH K (·.PE) p)++z::K.drop (AH K (·.PE) p):=fun y z=>by have:=eT (K.take (AH K (·.PE) p)) (K.drop (AH K (·.PE) p)) y z;rwa [h6,Int.toNat_natCast] at this
 have new:A0 (!false) ((Lj K (AH K (·.PE) p:Int) [⟨p,0⟩]).bind fun x15=>(Ac x15 (AH K (·.PE) p:Int)).bind fun x17=>some (x15.set (Int.toNat (AH K (·.PE) p:Int)) ⟨x17.PE,e⟩)) ((Ac K (AH K (·.PE) p:Int)).bind fun x17=>some (K.set (Int.toNat (AH K (·.PE) p:Int)) ⟨x17.PE,e⟩))=some (K.take (AH K (·.PE) p)++⟨p,e⟩::K.drop (AH K (·.PE) p)):=by unfold Lj;rw [Bool.not_false,Ag,rN K _ _ Om hc hl,OB,ins,OB,Int.toNat_natCast,st]
 unfold D9;dsimp only;cases hx:K[AH K (·.PE) p]? with
 | none=>
   rw [new];have h1:K.length≤AH K (·.PE) p:=by simpa using hx
   have h2:AH K (·.PE) p=K.length:=by omega
   rw [h2];simp
 | some k=>
   dsimp only;by_cases hq:k.PE=p
   ·rw [DT hq,if_pos hq,Bool.not_true,Aa,Ar hx,OB,Int.toNat_natCast,hq]
   ·rw [DN hq,if_neg hq];exact new
structure RowK (K:List KE):Prop where
 len:K.length≤1000
 up:K.Pairwise fun x y=>x.PE<y.PE
 rng:∀x∈K, -100000≤x.PE∧x.PE≤100000
structure RowS (S:List SX):Prop where
 len:S.length≤1000
 up:S.Pairwise fun x y=>x.PE<y.PE
 rng:∀x∈S, -100000≤x.PE∧x.PE≤100000
theorem s9 (S:List SX) (x:SX) (h:RowS S) (hp: -100000≤x.PE∧x.PE≤100000):
  ∃z,Lb S x.PE (fun z=>HD z.1 z.2)=some ((AH S (·.PE) x.PE:Int),z)∧Ot S (AH S (·.PE) x.PE:Int) [x]=some (Cy S x):=by
 have hl:=h.len;refine ⟨_,uO S x.PE Om h.up h.rng hp,?_⟩;unfold Ot;exact rN S _ _ Om (Pl _ _ _) Om
theorem w4 (x:SX) (b c d e f:Int) (S:List SX) (N:List Int) (B:List SE) (K:List KE) (O:List Int) (A:List KE) (J:RowS S) (E:RowK K) (hp: -100000≤x.PE∧x.PE≤100000):
  Sa x b c d e f S N B K O A=some (Cy S x,D9 K x.PE x.EP):=by
 obtain ⟨z,h1,h2⟩:=s9 S x J hp;have h3:=sX K x.PE x.EP (by have:=E.len;omega) E.up E.rng hp;dsimp only [Sa];rw [h1,OB,h2,OB];dsimp only [Wo,RX];rw [h3,OB]
theorem w5 (x:SX) (b c d e:Int) (B:List SE) (O:List Int) (f:Int) (S:List SX) (N:List Int) (K A:List KE) (E:List ML) (V:List EV) (U:RowS S) (J:RowK K) (hp: -100000≤x.PE∧x.PE≤100000):
  aG x b c d e B O f S N K A E V=some (Cy S x,D9 K x.PE x.EP):=by
 obtain ⟨z,h1,h2⟩:=s9 S x U hp;have h3:=sX K x.PE x.EP (by have:=J.len;omega) J.up J.rng hp;dsimp only [aG];rw [h1,OB,h2,OB];dsimp only [aF,Wn];rw [h3,OB]
theorem Zj {α:Type} (l:List α) (Ap:α→Int) (p:Int):l.take (AH l Ap p)=l.takeWhile (fun x=>decide (Ap x<p))∧l.drop (AH l Ap p)=l.dropWhile fun x=>decide (Ap x<p):=by
 have h:=List.takeWhile_append_dropWhile (p:=fun x=>decide (Ap x<p)) (l:=l);have g:∀(a b:List α),a++b=l→l.take a.length=a∧l.drop a.length=b:=by rintro a b rfl;simp
 exact g _ _ h
theorem ZW {α:Type} {l:List α} {Ap:α→Int} {p:Int} {x:α} (h:x∈l.take (AH l Ap p)):Ap x<p:=by
 rw [(Zj l Ap p).1] at h;have:∀(l:List α),x∈l.takeWhile (fun x=>decide (Ap x<p))→Ap x<p:=by
  intro l;induction l with
  | nil=>simp
  | cons y l ih=>
    rw [List.takeWhile_cons];split
    ·rename_i hy;intro h;rcases List.mem_cons.1 h with rfl | h
     ·simpa using hy
     ·exact ih h
    ·simp
 exact this l h
theorem Zv {α:Type} {Ap:α→Int} {p:Int}:∀ {l:List α} {x:α},l.Pairwise (fun x y=>Ap x<Ap y)→x∈l.drop (AH l Ap p)→p≤Ap x:=by
 intro l;induction l with
 | nil=>simp
 | cons y l ih=>
   intro x hs h;rw [(Zj _ Ap p).2,List.dropWhile_cons] at h;rw [List.pairwise_cons] at hs;split at h
   ·rw [←(Zj l Ap p).2] at h;exact ih hs.2 h
   ·rename_i hy;have hy:¬Ap y<p:=by simpa using hy
    rcases List.mem_cons.1 h with rfl | h
    ·omega
    ·have:=hs.1 x h;omega
theorem l4 {α:Type} (l:List α) (k:Nat) (x:α):x∈l↔x∈l.take k∨x∈l.drop k:=by
 conv=>lhs;rw [←List.take_append_drop k l]
 exact List.mem_append
theorem Pw {α:Type} {l:List α} {Ap:α→Int} {p:Int} {x:α} (hs:l.Pairwise fun x y=>Ap x<Ap y) (hx:Ap x=p) (hn:∀y∈l,Ap y≠p):(l.take (AH l Ap p)++x::l.drop (AH l Ap p)).Pairwise fun x y=>Ap x<Ap y:=by
 rw [List.pairwise_append];refine ⟨hs.sublist (List.take_sublist _ _),?_,?_⟩
 ·rw [List.pairwise_cons];refine ⟨fun y hy=>?_,hs.sublist (List.drop_sublist _ _)⟩;have h1:=Zv hs hy;have h2:=hn y (List.mem_of_mem_drop hy);omega
 ·intro y hy z hz;have h1:=ZW hy;rcases List.mem_cons.1 hz with rfl | hz
  ·omega
  ·have h2:=Zv hs hz;omega
theorem Fk {S:List SX} {x y:SX}:y∈Cy S x↔y=x∨y∈S:=by
 unfold Cy;rw [l4 S (AH S (·.PE) x.PE) y,List.mem_append,List.mem_cons];constructor
 ·rintro (h | h | h)
  ·exact .inr (.inl h)
  ·exact .inl h
  ·exact .inr (.inr h)
 ·rintro (h | h | h)
  ·exact .inr (.inl h)
  ·exact .inl h
  ·exact .inr (.inr h)
theorem te (S:List SX) (x:SX):(Cy S x).length=S.length+1:=by have:=Pl S (·.PE) x.PE;unfold Cy;rw [List.length_append,List.length_cons,List.length_take,List.length_drop];omega
theorem RowS.put {S:List SX} {x:SX} (h:RowS S) (hl:S.length<1000) (hn:∀y∈S,y.PE≠x.PE) (hp: -100000≤x.PE∧x.PE≤100000):RowS (Cy S x):=
 ⟨by rw [te];omega,Pw h.up rfl hn,fun y hy=>by
   rcases Fk.1 hy with rfl | hy
   ·exact hp
   ·exact h.rng y hy⟩
theorem ZH {K:List KE} (h:K.Pairwise fun x y=>x.PE<y.PE) (p e:Int):
  (∃k,K[AH K (·.PE) p]?=some k∧k.PE=p∧D9 K p e=K.set (AH K (·.PE) p) ⟨p,e⟩)∨(∀k∈K,k.PE≠p)∧D9 K p e=K.take (AH K (·.PE) p)++⟨p,e⟩::K.drop (AH K (·.PE) p):=by
 have hc:=Pl K (·.PE) p;unfold D9;cases hx:K[AH K (·.PE) p]? with
 | none=>
   right;have h1:K.length≤AH K (·.PE) p:=by simpa using hx
   have h2:AH K (·.PE) p=K.length:=by omega
   refine ⟨fun k hk=>?_,by rw [h2];simp⟩;have:k∈K.take (AH K (·.PE) p):=by rw [h2,List.take_length];exact hk
   have:=ZW this;omega
 | some k=>
   dsimp only;by_cases hq:k.PE=p
   ·left;exact ⟨k,rfl,hq,by rw [if_pos hq]⟩
   ·right;refine ⟨fun y hy=>?_,by rw [if_neg hq]⟩;rcases (l4 K (AH K (·.PE) p) y).1 hy with hy | hy
    ·have:=ZW hy;omega
    ·obtain ⟨hlt,hk⟩:=List.getElem?_eq_some_iff.1 hx;have hd:K.drop (AH K (·.PE) p)=k::K.drop (AH K (·.PE) p+1):=by rw [List.drop_eq_getElem_cons hlt,hk]
     have h6:k∈K.drop (AH K (·.PE) p):=by rw [hd];simp
     have h8:=Zv h h6;have hs:(K.drop (AH K (·.PE) p)).Pairwise fun x y=>x.PE<y.PE:=h.sublist (List.drop_sublist _ _);rw [hd] at hy hs;rcases List.mem_cons.1 hy with rfl | hy
     ·exact hq
     ·have:=(List.pairwise_cons.1 hs).1 y hy;omega
theorem aY {K:List KE} (h:K.Pairwise fun x y=>x.PE<y.PE) {p e:Int} {k:KE}:k∈D9 K p e→k=⟨p,e⟩∨k∈K∧k.PE≠p:=by
 intro hk;rcases ZH h p e with ⟨q,h1,h2,h3⟩ | ⟨h1,h2⟩
 ·rw [h3] at hk;rw [List.mem_iff_getElem?] at hk;obtain ⟨i,hi⟩:=hk;rw [List.getElem?_set] at hi;split at hi
  ·split at hi
   ·simp at hi;exact .inl hi.symm
   ·simp at hi
  ·rename_i hne;refine .inr ⟨List.mem_of_getElem? hi,fun e=>?_⟩;have mono:=List.pairwise_iff_getElem.1 h;obtain ⟨a,ha⟩:=List.getElem?_eq_some_iff.1 hi;obtain ⟨b,hb⟩:=List.getElem?_eq_some_iff.1 h1;rcases Nat.lt_or_gt_of_ne hne with hl | hl
   ·have:=mono _ _ b a hl;rw [ha,hb] at this;omega
   ·have:=mono _ _ a b hl;rw [ha,hb] at this;omega
 ·rw [h2] at hk;rw [List.mem_append,List.mem_cons] at hk;rcases hk with hk | hk | hk
  ·exact .inr ⟨List.mem_of_mem_take hk,h1 k (List.mem_of_mem_take hk)⟩
  ·exact .inl hk
  ·exact .inr ⟨List.mem_of_mem_drop hk,h1 k (List.mem_of_mem_drop hk)⟩
theorem yd {K:List KE} (h:K.Pairwise fun x y=>x.PE<y.PE) {p e:Int}:⟨p,e⟩∈D9 K p e∧∀k∈K,k.PE≠p→k∈D9 K p e:=by
 rcases ZH h p e with ⟨q,h1,h2,h3⟩ | ⟨h1,h2⟩
 ·rw [h3];obtain ⟨b,hb⟩:=List.getElem?_eq_some_iff.1 h1;refine ⟨List.mem_iff_getElem?.2 ⟨_,by rw [List.getElem?_set_self b]⟩,fun k hk hne=>?_⟩;obtain ⟨i,hi⟩:=List.mem_iff_getElem?.1 hk;refine List.mem_iff_getElem?.2 ⟨i,?_⟩;rw [List.getElem?_set,if_neg]
  ·exact hi
  ·rintro rfl;rw [h1] at hi;simp at hi;subst hi;exact hne h2
 ·rw [h2];refine ⟨by simp,fun k hk _=>?_⟩;rw [List.mem_append,List.mem_cons];rcases (l4 K (AH K (·.PE) p) k).1 hk with h | h
  ·exact .inl h
  ·exact .inr (.inr h)
theorem UP {K:List KE} (h:K.Pairwise fun x y=>x.PE<y.PE) (p e:Int):(D9 K p e).Pairwise fun x y=>x.PE<y.PE:=by
 rcases ZH h p e with ⟨q,h1,h2,h3⟩ | ⟨h1,h2⟩
 ·rw [h3];rw [List.pairwise_iff_getElem] at h ⊢;intro i j hi hj h6;obtain ⟨b,hb⟩:=List.getElem?_eq_some_iff.1 h1;have get:∀(k:Nat) (hk:k<(K.set (AH K (·.PE) p) ⟨p,e⟩).length),(K.set (AH K (·.PE) p) ⟨p,e⟩)[k].PE=(K[k]'(by simpa using hk)).PE:=by
   intro k hk;rw [List.getElem_set];split
   ·rename_i e;subst e;rw [hb];exact h2.symm
   ·rfl
  rw [get,get];exact h i j _ _ h6
 ·rw [h2];exact Pw h rfl h1
theorem tj (K:List KE) (p e:Int):(D9 K p e).length≤K.length+1:=by
 have hc:=Pl K (·.PE) p;unfold D9;split
 ·split
  ·simp
  ·rw [List.length_append,List.length_cons,List.length_take,List.length_drop];omega
 ·simp
theorem RowK.know {K:List KE} {p e:Int} (h:RowK K) (hl:K.length<1000) (hp: -100000≤p∧p≤100000):RowK (D9 K p e):=
 ⟨by have:=tj K p e;omega,UP h.up p e,fun k hk=>by
   rcases aY h.up hk with rfl | ⟨hk,_⟩
   ·exact hp
   ·exact h.rng k hk⟩
theorem M7 {K:List KE} (h:K.Pairwise fun x y=>x.PE<y.PE) {k:KE} (hk:k∈K):BR K k.PE=k.EP:=by
 unfold BR;have:K.find? (fun q=>decide (q.PE=k.PE))=some k:=by
  induction K with
  | nil=>simp at hk
  | cons y K ih=>
    rw [List.pairwise_cons] at h;rw [List.find?_cons];rcases List.mem_cons.1 hk with rfl | hk
    ·simp
    ·have:=h.1 k hk;rw [DN Om];exact ih h.2 hk
 rw [this]
theorem Uv {K:List KE} {p:Int} (h:∀k∈K,k.PE≠p):BR K p=0:=by
 unfold BR;have:K.find? (fun q=>decide (q.PE=p))=none:=by rw [List.find?_eq_none];intro k hk;simpa using h k hk
 rw [this]
theorem g9 {K:List KE} (h:K.Pairwise fun x y=>x.PE<y.PE) (p e q:Int):BR (D9 K p e) q=if q=p then e else BR K q:=by
 have hp:=UP h p e;have hm:=yd h (p:=p) (e:=e);split
 ·rename_i hq;subst hq;exact M7 hp hm.1
 ·rename_i hq;by_cases hx:∃k∈K,k.PE=q
  ·obtain ⟨k,hk,rfl⟩:=hx;rw [M7 hp (hm.2 k hk hq),M7 h hk]
  ·have hx:∀k∈K,k.PE≠q:=fun k hk e=>hx ⟨k,hk,e⟩;rw [Uv hx,Uv];intro k hk;rcases aY h hk with rfl | ⟨hk,_⟩
   ·exact fun e=>hq e.symm
   ·exact hx k hk
def Cg (k:KE):SX:=⟨k.PE,k.EP,0,false,false,true,false,true⟩
theorem Yo (x:SX) (k a b c d:Int) (B:List SE) (O:List Int) (f:Int) (S:List SX) (N:List Int) (K A:List KE) (E:List ML) (V:List EV) (J:E.length≤1000000):
  JL x k a b c d B O f S N K A E V=some (E++[⟨a,x.PE,⟨k,x.EP,0⟩⟩]):=by
 simp only [JL];rw [B5 _ _ Om (by simp;omega),OB]
theorem vD (k p a b c d:Int) (B:List SE) (O:List Int) (f:Int) (S:List SX) (N:List Int) (K A:List KE) (E:List ML) (V:List EV) (J:V.length≤1000000):
  RU k p a b c d B O f S N K A E V=some (V++[⟨k,a,0,p,[]⟩]):=by
 simp only [RU];rw [B5 _ _ Om (by simp;omega),OB]
theorem we (k i a b c d:Int) (B:List SE) (O:List Int) (f:Int) (S:List SX) (N:List Int) (K A:List KE) (E:List ML) (V:List EV) (J:V.length≤1000000):
  Ws k i a b c d B O f S N K A E V=some (V++[⟨k,a,i,0,[]⟩]):=by
 simp only [Ws];rw [B5 _ _ Om (by simp;omega),OB]
def D6 (S:List SX) (A:List KE):List SX:=A.foldl (fun S k=>Cy S (Cg k)) S
def DU (K:List KE) (A:List KE):List KE:=A.foldl (fun K k=>D9 K k.PE k.EP) K
def bL (id:Int) (A:List KE):List ML:=A.map fun k=>⟨id,k.PE,⟨6,k.EP,0⟩⟩
def FX (id:Int) (A:List KE):List EV:=A.map fun k=>⟨6,id,0,k.PE,[]⟩
structure AskOK (S:List SX) (A:List KE):Prop where
 rng:∀k∈A, -100000≤k.PE∧k.PE≤100000
 new:∀k∈A,∀x∈S,x.PE≠k.PE
 dis:(A.map (·.PE)).Nodup
theorem dE (S:List SX) (A:List KE) (k:KE):D6 S (A++[k])=Cy (D6 S A) (Cg k):=by simp [D6]
theorem dD (K:List KE) (A:List KE) (k:KE):DU K (A++[k])=D9 (DU K A) k.PE k.EP:=by simp [DU]
theorem Pc {S:List SX}:∀ {A:List KE} {x:SX},x∈D6 S A↔x∈S∨∃k∈A,x=Cg k:=by
 intro A;have:∀(A:List KE) (S:List SX) (x:SX),x∈D6 S A↔x∈S∨∃k∈A,x=Cg k:=by
  intro A;induction A with
  | nil=>intro S x;simp [D6]
  | cons k A ih=>
    intro S x;show x∈D6 (Cy S (Cg k)) A↔_;rw [ih,Fk];constructor
    ·rintro ((h | h) | ⟨q,h1,h2⟩)
     ·exact .inr ⟨k,by simp,h⟩
     ·exact .inl h
     ·exact .inr ⟨q,by simp [h1],h2⟩
    ·rintro (h | ⟨q,h1,h2⟩)
     ·exact .inl (.inr h)
     ·rcases List.mem_cons.1 h1 with rfl | h1
      ·exact .inl (.inl h2)
      ·exact .inr ⟨q,h1,h2⟩
 exact fun {x}=>this A S x
theorem AskOK.mid {S:List SX} {A pre post:List KE} {k:KE} (h:AskOK S A) (e:A=pre++k::post):∀y∈D6 S pre,y.PE≠k.PE:=by
 intro y hy;rcases Pc.1 hy with hy | ⟨q,h1,rfl⟩
 ·exact h.new k (by rw [e];simp) y hy
 ·have hd:=h.dis;rw [e,List.map_append,List.map_cons,List.nodup_append] at hd;exact hd.2.2 q.PE (List.mem_map.2 ⟨q,h1,rfl⟩) k.PE (by simp)
theorem dG {S:List SX} {K A:List KE} (U:RowS S) (J:RowK K) (E:AskOK S A) (h8:S.length+A.length≤1000) (h9:K.length+A.length≤1000):∀(post pre:List KE),A=pre++post→RowS (D6 S pre)∧RowK (DU K pre)∧(D6 S pre).length=S.length+pre.length∧(DU K pre).length≤K.length+pre.length:=by
 intro post;have:∀(n:Nat) (pre:List KE),pre.length=n→(∃post,A=pre++post)→RowS (D6 S pre)∧RowK (DU K pre)∧(D6 S pre).length=S.length+pre.length∧(DU K pre).length≤K.length+pre.length:=by
  intro n;induction n with
  | zero=>intro pre h _;have:pre=[]:=List.length_eq_zero_iff.1 h;subst this;exact ⟨U,J,rfl,Nat.le_refl _⟩
  | succ n ih=>
    intro pre h ⟨post,e⟩;rcases List.eq_nil_or_concat pre with rfl | ⟨q,k,rfl⟩
    ·simp at h
    ·rw [List.concat_eq_append] at *;have hq:q.length=n:=by rw [bb] at h;omega
     obtain ⟨i1,i2,i3,i4⟩:=ih q hq ⟨k::post,by rw [e];simp⟩;have hk:k∈A:=by rw [e];simp
     have h6:q.length+1≤A.length:=by rw [e,List.length_append,bb];omega
     have hr:=E.rng k hk;rw [dE,dD,bb];refine ⟨i1.put Om (E.mid (k:=k) (post:=post) (by rw [e];simp)) hr,i2.know Om hr,by rw [te];omega,?_⟩;have:=tj (DU K q) k.PE k.EP;omega
 exact fun pre e=>this pre.length pre rfl ⟨post,e⟩
theorem vu (a b c d:Int) (B:List SE) (O:List Int) (f:Int) (S:List SX) (N:List Int) (K A:List KE) (E:List ML) (V:List EV) (Y:RowS S) (U:RowK K) (J:AskOK S A) (h6:S.length+A.length≤1000) (h8:K.length+A.length≤1000) (Z:E.length≤900000) (hV:V.length≤900000):
  RN a b c d B O f S N K A E V=some (D6 S A,DU K A,E++bL a A,V++FX a A):=by
 unfold RN;have e0:((0:Int),S,K,E,V)=((([]:List KE).length:Int),D6 S [],DU K [],E++bL a [],V++FX a []):=by simp [D6,DU,bL,FX]
 rw [e0];refine D0 A _ (fun pre=>((pre.length:Int),D6 S pre,DU K pre,E++bL a pre,V++FX a pre)) _ (fun pre k post h=>?_) ?_
 ·have hx:=BL h;have hm:=BG h;obtain ⟨r1,r2,r3,r4⟩:=dG Y U J h6 h8 (k::post) pre h;have hr:=J.rng k (Di h);dsimp only [Wm];rw [AQ hx,Ag,Ar hx,OB];have e1:(⟨k.PE,k.EP,0,false,false,true,false,true⟩:SX)=Cg k:=rfl;rw [e1,w5 (Cg k) a b c d B O f _ N _ A _ _ r1 r2 hr,OB,Yo _ _ _ _ _ _ _ _ _ _ _ _ _ _ _ (by rw [List.length_append,bL,List.length_map];omega),OB,vD _ _ _ _ _ _ _ _ _ _ _ _ _ _ _ (by rw [List.length_append,FX,List.length_map];omega),OB,AC Om,bb,dE,dD];simp [bL,FX,Cg]
 ·dsimp only [Wm];rw [AT,Aa];rfl
def CK (T:List Int) (x:SX):Bool:=ER x&&!decide (x.PE∈T)
def bd (id:Int):List SX→List Int→List ML→List Int×List ML
 | [],T,E=>(T,E)
 | x::l,T,E=>if CK T x then bd id l (Bm (T++[x.PE])) (E++[⟨id,x.PE,⟨5,x.EP,0⟩⟩]) else bd id l T E
theorem wj (a b c d:Int) (B:List SE) (O:List Int) (f:Int) (S:List SX) (N:List Int) (K A:List KE) (E:List ML) (V:List EV) (Y:S.length≤1000) (U:O.length≤1000) (J:E.length≤900000):
  Sf a b c d B O f S N K A E V=some (bd a S O E):=by
 unfold Sf;have Ap:∀(post pre:List SX) (T:List Int) (E:List ML),S=pre++post→T.length≤1000+pre.length→E.length≤900000+pre.length→loop (NL a b c d B f S N K A V) ((pre.length:Int),T,E)=some (bd a post T E):=by
  intro post;induction post with
  | nil=>
    intro pre T E h _ _;have h:pre=S:=by simpa using h.symm
    subst h;rw [Bn];dsimp only [NL];rw [AT,Aa];rfl
  | cons x post ih=>
    intro pre T E h hT J;have hx:=BL h;have hm:=BG h;have h6:L9 T x.PE=some (Bm (T++[x.PE])):=qn T x.PE Om;have h8:(Bm (T++[x.PE])).length≤T.length+1:=by have:=gx (T++[x.PE]);simpa using this
    have j3:∀(T:List Int) (E:List ML),NK (pre.length:Int) (T,E)=some (.inl (((pre++[x]).length:Int),T,E)):=fun T E=>by dsimp only [NK];rw [AC Om,bb]
    have j2:∀z,L3 a b c d B f S N K A V (pre.length:Int) T E x z=if z then some (.inl (((pre++[x]).length:Int),Bm (T++[x.PE]),E++[⟨a,x.PE,⟨5,x.EP,0⟩⟩])) else some (.inl (((pre++[x]).length:Int),T,E)):=fun z=>by
     cases z with
     | false=>dsimp only [L3];rw [Aa,j3];rfl
     | true=>dsimp only [L3];rw [Ag,Yo _ _ _ _ _ _ _ _ _ _ _ _ _ _ _ Om,OB,h6,OB,j3];rfl
    have step:NL a b c d B f S N K A V ((pre.length:Int),T,E)=if CK T x then some (.inl (((pre++[x]).length:Int),Bm (T++[x.PE]),E++[⟨a,x.PE,⟨5,x.EP,0⟩⟩])) else some (.inl (((pre++[x]).length:Int),T,E)):=by
     dsimp only [NL];rw [AQ hx,Ag,Ar hx,OB];simp only [Ir,OB,Gi T x.PE Om,j2];unfold CK ER;cases decide (x.SS=1) with
     | false=>rfl
     | true=>cases decide (x.PE∈T)<;>rfl
    rw [Bn,step];unfold bd;cases hu:CK T x with
    | true=>rw [if_pos rfl,if_pos rfl];exact ih (pre++[x]) _ _ (by simpa using h) (by rw [bb];omega) (by rw [bb,bb];omega)
    | false=>rw [if_neg (by simp),if_neg (by simp)];exact ih (pre++[x]) T E (by simpa using h) (by rw [bb];omega) (by rw [bb];omega)
 exact Ap S [] O E rfl (by simpa using U) (by simpa using J)
theorem ke (l:List SX) (p:SX→Option Bool) (q:SX→Bool) (hl:l.length≤1000000) (hp:∀x∈l,p x=some (q x)):Oi l p=some (l.filter fun x=>!q x):=by
 simp only [Oi,TK l p q Om hp,OB];cases hf:l.findIdx? q with
 | none=>rw [List.findIdx?_eq_none_iff] at hf;rw [show Br none = -1 from rfl,DT rfl,Ag,List.filter_eq_self.2 (fun x hx=>by rw [hf x hx];rfl)]
 | some i=>
   obtain ⟨hi,hq,hB⟩:=List.findIdx?_eq_some_iff_getElem.1 hf;rw [show Br (some i)=(i:Int) from rfl,DN Om,Aa,AC Om]
   let F:List SX→List SX:=fun pre=>pre.filter fun x=>!q x
   have hF:∀pre post,l=pre++post→(F pre).length≤pre.length:=fun pre post _=>List.length_filter_le _ _;have Ap:=PM l (T3 p) (fun pre=>(((F pre).length:Int),(pre.length:Int),F pre++l.drop (F pre).length)) (fun _ _=>some (F l)) (fun pre x post h=>?_) ?_ (l.drop (i+1)) (l.take (i+1)) (by simp)
   ·have e1:F (l.take (i+1))=l.take i:=by
     show (l.take (i+1)).filter _=_;rw [List.take_succ_eq_append_getElem hi,List.filter_append];have a1:(l.take i).filter (fun x=>!q x)=l.take i:=by rw [List.filter_eq_self];intro x hx;obtain ⟨j,hj,rfl⟩:=List.mem_iff_getElem.1 hx;rw [List.getElem_take];have:=hB j (by simp at hj;omega);simpa using this
     have a2: [l[i]].filter (fun x=>!q x)=[]:=by simp [hq]
     rw [a1,a2,List.append_nil]
    rw [e1] at Ap;have e2:(l.take i).length=i:=by simp;omega
    have e3:(l.take (i+1)).length=i+1:=by simp;omega
    rw [e2,e3,List.take_append_drop] at Ap;exact Ap
   ·left;refine ⟨?_,rfl⟩;have hx:=BL h;have hm:=BG h;have h8:=hF pre (x::post) h;have h6:(F pre++l.drop (F pre).length).length=l.length:=by simp;omega
    have h9:(F pre++l.drop (F pre).length)[pre.length]?=some x:=by rw [List.getElem?_append_right h8,List.getElem?_drop,show (F pre).length+(pre.length-(F pre).length)=pre.length by omega];exact hx
    dsimp only [T3];rw [AQ h9,Ag,Ar h9,OB,hp x (Di h),OB];have hw:F (pre++[x])=F pre++(if q x then [] else [x]):=by show (pre++[x]).filter _=_;rw [List.filter_append];congr 1;cases hC:q x<;>simp [hC]
    cases hA:q x with
    | true=>rw [Bool.not_true,Aa];dsimp only [Oj];rw [AC Om,hw,hA,if_pos rfl,List.append_nil,bb]
    | false=>
      rw [Bool.not_false,Ag];obtain ⟨d,hd⟩:=Zq (fun x=>!q x) pre post x;rw [←h] at hd;have hd':l.drop (F pre).length=d::l.drop ((F pre).length+1):=hd;have hD:(F pre++l.drop (F pre).length)[(F pre).length]?=some d:=by rw [hd'];simp
      rw [Ar hD,OB];dsimp only [Oj];rw [AC Om,AC Om,hw,hA,if_neg (by simp),bb,hd',Int.toNat_natCast,bb];simp
   ·dsimp only [T3];have h8:=hF l [] (by simp);have h6:(F l++l.drop (F l).length).length=l.length:=by simp;omega
    rw [show ((l.length:Int))=((F l++l.drop (F l).length).length:Int) by rw [h6],AT,Aa];dsimp only [X2];unfold DQ;rw [AY,h6,if_pos ⟨Om,Om,Om,Om⟩,OB];unfold He;rw [h6,if_pos ⟨Om,by simp;omega⟩,OB];unfold D3;rw [if_pos ⟨Om,Om,by simp;omega⟩,OB];simp [Int.toNat_natCast,List.append_assoc]
theorem vB (p a b c d:Int) (B:List SE) (O:List Int) (f:Int) (S:List SX) (N:List Int) (K A:List KE) (E:List ML) (V:List EV) (J:S.length≤1000):
  RT p a b c d B O f S N K A E V=some (S.filter fun x=>!decide (x.PE=p)):=by
 simp only [RT,ke S (fun z=>KV z p) (fun x=>decide (x.PE=p)) Om (fun _ _=>rfl),OB]
def C1 (th:Int) (N:List Int) (x:SX):Bool:=decide (x.SS=2)&&!(decide (th=2)&&decide (x.PE∈N))
def DJ (id th:Int) (N:List Int) (x:SX):Option SX:=if C1 th N x then (if id<x.PE then some {x with SS:=3} else none) else some x
def G7 (id th:Int) (N:List Int) (x:SX):List ML:=if C1 th N x then [⟨id,x.PE,⟨if id<x.PE then 7 else 8,x.EP,0⟩⟩] else []
def B0 (id th:Int) (N:List Int) (S:List SX):List SX:=S.filterMap (DJ id th N)
def BJ (id th:Int) (N:List Int) (S:List SX):List ML:=S.flatMap (G7 id th N)
theorem ye (th:Int) (N:List Int) (x:SX):C1 th N {x with SS:=3}=false:=by simp [C1]
theorem ZO {id th:Int} {N:List Int} {S:List SX} (h:∀x∈S,C1 th N x=false):B0 id th N S=S∧BJ id th N S=[]:=by
 induction S with
 | nil=>exact ⟨rfl,rfl⟩
 | cons x S ih=>
   have h1:=h x (by simp);obtain ⟨i1,i2⟩:=ih fun y hy=>h y (List.mem_cons_of_mem _ hy);refine ⟨?_,?_⟩
   ·unfold B0 at i1 ⊢;rw [List.filterMap_cons,DJ,h1];simp [i1]
   ·unfold BJ at i2 ⊢;rw [List.flatMap_cons,i2,G7,h1];rfl
theorem PK (id th:Int) (N:List Int) (a b:List SX):B0 id th N (a++b)=B0 id th N a++B0 id th N b:=List.filterMap_append
theorem Mn (id th:Int) (N:List Int) (a b:List SX):BJ id th N (a++b)=BJ id th N a++BJ id th N b:=by simp [BJ]
theorem tr (id th:Int) (N:List Int) (S:List SX):∀x∈B0 id th N S,C1 th N x=false:=by
 intro x hx;obtain ⟨y,hy,h⟩:=List.mem_filterMap.1 hx;unfold DJ at h;split at h
 ·split at h
  ·simp at h;subst h;exact ye th N y
  ·simp at h
 ·rename_i hg;simp at h;subst h;simpa using hg
theorem ZN (id th:Int) (N:List Int) (S:List SX):(BJ id th N S).length≤S.length:=by
 induction S with
 | nil=>simp [BJ]
 | cons x S ih=>
   have:(G7 id th N x).length≤1:=by unfold G7;split<;>simp
   unfold BJ at ih ⊢;rw [List.flatMap_cons,List.length_append,List.length_cons];omega
theorem t7 (id th:Int) (N:List Int) (S:List SX):(B0 id th N S).length≤S.length:=List.length_filterMap_le _ _
section
variable (id ph th d:Int) (B:List SE) (O:List Int) (f:Int) (N:List Int) (K A:List KE) (V:List EV)
theorem t8 (S:List SX) (J:S.Pairwise fun x y=>x.PE<y.PE) (hl:S.length≤1000) (U:N.length≤100000):∀(post pre:List SX) (E:List ML),S=pre++post→(∀x∈pre,C1 th N x=true→id<x.PE)→E.length≤900000+pre.length→
  (∃q x r,post=q++x::r∧(∀y∈q,C1 th N y=true→id<y.PE)∧C1 th N x=true∧¬id<x.PE∧loop (Hz id ph th d B O f N K A V S) ((pre.length:Int),B0 id th N pre++post,E)=some (.inl (B0 id th N (pre++q)++r,E++BJ id th N (q++[x]))))
  ∨(∀x∈post,C1 th N x=true→id<x.PE)∧loop (Hz id ph th d B O f N K A V S) ((pre.length:Int),B0 id th N pre++post,E)=some (.inr (E++BJ id th N post,B0 id th N S)):=by
 intro post;induction post with
 | nil=>
   intro pre E h hp hE;have h:pre=S:=by simpa using h.symm
   subst h;right;refine ⟨by simp,?_⟩;rw [Bn];dsimp only [Hz];rw [AT,Aa];simp [Wq,BJ]
 | cons x post ih=>
   intro pre E h hp hE;have hx:=BL h;have hm:=BG h;have h6:(B0 id th N pre).length=pre.length:=by
    have:∀(l:List SX),(∀x∈l,C1 th N x=true→id<x.PE)→(B0 id th N l).length=l.length:=by
     intro l;induction l with
     | nil=>intro _;rfl
     | cons y l ih=>
       intro hl;have i:=ih fun z hz=>hl z (List.mem_cons_of_mem _ hz);unfold B0 at i ⊢;have hy:=hl y (by simp);have e:∃z,DJ id th N y=some z:=by
        unfold DJ;cases hg:C1 th N y with
        | false=>exact ⟨y,by simp⟩
        | true=>exact ⟨_,by simp [hy hg];rfl⟩
       obtain ⟨z,e⟩:=e;rw [List.filterMap_cons,e];simp only [List.length_cons,i]
    exact this pre hp
   have at1:Ac (B0 id th N pre++x::post) (pre.length:Int)=some x:=by rw [←h6];exact IU rfl
   have st1:∀z:SX,(B0 id th N pre++x::post).set ((pre.length:Int)).toNat z=B0 id th N pre++z::post:=fun z=>by rw [←h6];exact eT _ _ _ _
   have j2:∀(z:SX) (E:List ML),Nz (pre.length:Int) (B0 id th N pre++z::post,E)=some (.inl (((pre++[x]).length:Int),B0 id th N pre++z::post,E)):=fun z E=>by dsimp only [Nz];rw [AC Om,bb]
   have j3:∀z,JK id ph th d B O f N K A V (pre.length:Int) (B0 id th N pre++x::post) E x z=if z then some (.inl (((pre++[x]).length:Int),B0 id th N pre++x::post,E)) else if id<x.PE then some (.inl (((pre++[x]).length:Int),B0 id th N pre++{x with SS:=3}::post,E++[⟨id,x.PE,⟨7,x.EP,0⟩⟩])) else some (.inr (.inl ((B0 id th N pre++x::post).filter fun y=>!decide (y.PE=x.PE),E++[⟨id,x.PE,⟨8,x.EP,0⟩⟩]))):=fun z=>by
    have h8:(B0 id th N pre++x::post).length≤1000:=by rw [List.length_append,h6];rw [h,List.length_append] at hl;exact hl
    cases z with
    | true=>dsimp only [JK];rw [Ag,j2];rfl
    | false=>
      dsimp only [JK];rw [Aa,if_neg (by simp)];by_cases hq:id<x.PE
      ·rw [DT hq,Ag,if_pos hq,Yo _ _ _ _ _ _ _ _ _ _ _ _ _ _ _ Om,OB,st1,j2]
      ·rw [DN hq,Aa,if_neg hq,vB _ _ _ _ _ _ _ _ _ _ _ _ _ _ h8,OB,Yo _ _ _ _ _ _ _ _ _ _ _ _ _ _ _ Om,OB];rfl
   have step:Hz id ph th d B O f N K A V S ((pre.length:Int),B0 id th N pre++x::post,E)=if C1 th N x then (if id<x.PE then some (.inl (((pre++[x]).length:Int),B0 id th N pre++{x with SS:=3}::post,E++[⟨id,x.PE,⟨7,x.EP,0⟩⟩])) else some (.inr (.inl ((B0 id th N pre++x::post).filter fun y=>!decide (y.PE=x.PE),E++[⟨id,x.PE,⟨8,x.EP,0⟩⟩])))) else some (.inl (((pre++[x]).length:Int),B0 id th N pre++x::post,E)):=by
    dsimp only [Hz];rw [AQ hx,Ag,at1,OB];simp only [Gi N x.PE (show N.length≤1000000 by omega),OB,j3];unfold C1;cases decide (x.SS=2) with
    | false=>rfl
    | true=>cases decide (th=2) with
      | false=>rfl
      | true=>cases decide (x.PE∈N)<;>rfl
   rw [Bn,step];cases hg:C1 th N x with
   | false=>
     rw [if_neg (by simp)];have e:B0 id th N (pre++[x])=B0 id th N pre++[x]:=by rw [PK];simp [B0,DJ,hg]
     have:=ih (pre++[x]) E (by simpa using h) (fun y hy=>by
      rcases List.mem_append.1 hy with hy | hy
      ·exact hp y hy
      ·simp at hy;subst hy;rw [hg];simp) (by rw [bb];omega)
     rw [e,List.append_assoc,List.singleton_append] at this;rcases this with ⟨q,y,r,h1,h2,h3,h4,h5⟩ | ⟨h1,h2⟩
     ·left;refine ⟨x::q,y,r,by rw [h1];rfl,fun z hz=>?_,h3,h4,?_⟩
      ·rcases List.mem_cons.1 hz with rfl | hz
       ·rw [hg];simp
       ·exact h2 z hz
      ·refine Eq.trans h5 ?_;have e2:BJ id th N (x::q++[y])=BJ id th N (q++[y]):=by show BJ id th N ([x]++(q++[y]))=_;rw [Mn];simp [BJ,G7,hg]
       rw [e2,List.append_assoc];rfl
     ·right;refine ⟨fun z hz=>?_,?_⟩
      ·rcases List.mem_cons.1 hz with rfl | hz
       ·rw [hg];simp
       ·exact h1 z hz
      ·refine Eq.trans h2 ?_;have e2:BJ id th N (x::post)=BJ id th N post:=by show BJ id th N ([x]++post)=_;rw [Mn];simp [BJ,G7,hg]
       rw [e2]
   | true=>
     rw [if_pos rfl];by_cases hq:id<x.PE
     ·rw [if_pos hq];have e:B0 id th N (pre++[x])=B0 id th N pre++[{x with SS:=3}]:=by rw [PK];simp [B0,DJ,hg,hq]
      have:=ih (pre++[x]) (E++[⟨id,x.PE,⟨7,x.EP,0⟩⟩]) (by simpa using h) (fun y hy=>by
       rcases List.mem_append.1 hy with hy | hy
       ·exact hp y hy
       ·simp at hy;subst hy;exact fun _=>hq) (by rw [bb,bb];omega)
      rw [e,List.append_assoc,List.singleton_append] at this;have em:BJ id th N [x]=[⟨id,x.PE,⟨7,x.EP,0⟩⟩]:=by simp [BJ,G7,hg,hq]
      rcases this with ⟨q,y,r,h1,h2,h3,h4,h5⟩ | ⟨h1,h2⟩
      ·left;refine ⟨x::q,y,r,by rw [h1];rfl,fun z hz=>?_,h3,h4,?_⟩
       ·rcases List.mem_cons.1 hz with rfl | hz
        ·exact fun _=>hq
        ·exact h2 z hz
       ·refine Eq.trans h5 ?_;have e2:BJ id th N (x::q++[y])=BJ id th N [x]++BJ id th N (q++[y]):=Mn id th N [x] (q++[y]);rw [e2,em,List.append_assoc,List.append_assoc];rfl
      ·right;refine ⟨fun z hz=>?_,?_⟩
       ·rcases List.mem_cons.1 hz with rfl | hz
        ·exact fun _=>hq
        ·exact h1 z hz
       ·refine Eq.trans h2 ?_;have e2:BJ id th N (x::post)=BJ id th N [x]++BJ id th N post:=Mn id th N [x] post;rw [e2,em,List.append_assoc]
     ·rw [if_neg hq];left;refine ⟨[],x,post,rfl,by simp,hg,hq,?_⟩;rw [h] at J;rw [List.pairwise_append,List.pairwise_cons] at J;obtain ⟨_,⟨p1,_⟩,p2⟩:=J;have e1:(B0 id th N pre++x::post).filter (fun y=>!decide (y.PE=x.PE))=B0 id th N pre++post:=by
       rw [List.filter_append,List.filter_cons,List.filter_eq_self.2,List.filter_eq_self.2]
       ·simp
       ·intro y hy;have:=p1 y hy;simp;omega
       ·intro y hy;obtain ⟨z,hz,hy⟩:=List.mem_filterMap.1 hy;have:=p2 z hz x (by simp);have e:y.PE=z.PE:=by
         unfold DJ at hy;split at hy
         ·split at hy
          ·simp at hy;subst hy;rfl
          ·simp at hy
         ·simp at hy;subst hy;rfl
        simp;omega
      have em:BJ id th N [x]=[⟨id,x.PE,⟨8,x.EP,0⟩⟩]:=by simp [BJ,G7,hg,hq]
      rw [e1,List.append_nil,List.nil_append,em]
theorem vP (J:N.length≤100000):∀(n:Nat) (S:List SX) (E:List ML),S.length≤n→S.length≤1000→S.Pairwise (fun x y=>x.PE<y.PE)→E.length+(BJ id th N S).length≤900000→
  loop (RY id ph th d B O f N K A V) (S,E)=some (E++BJ id th N S,B0 id th N S):=by
 intro n;induction n with
 | zero=>
   intro S E hn _ _ _;have:S=[]:=List.length_eq_zero_iff.1 Om;subst this;rw [Bn];dsimp only [RY];rcases t8 id ph th d B O f N K A V [] List.Pairwise.nil (by simp) J [] [] E rfl (by simp) (by simp;omega) with ⟨q,x,r,h,_⟩ | ⟨_,h⟩
   ·have:=congrArg List.length h;simp at this
   ·have h:loop (Hz id ph th d B O f N K A V []) (0,[],E)=_:=h;rw [h]
 | succ n ih=>
   intro S E hn hl hS hE;rw [Bn];dsimp only [RY];rcases t8 id ph th d B O f N K A V S hS hl J S [] E rfl (by simp) (by simp;omega) with ⟨q,x,r,h1,h2,h3,h4,h5⟩ | ⟨_,h⟩
   ·have h5:loop (Hz id ph th d B O f N K A V S) (0,S,E)=_:=h5;rw [h5];dsimp only;have ql:=t7 id th N q;have qm:=ZN id th N (q++[x]);have h8:S.length=q.length+(r.length+1):=by rw [h1];simp
    have hx:B0 id th N [x]=[]:=by simp [B0,DJ,h3,h4]
    have h6:=ZO (id:=id) (tr id th N q);have hp:(B0 id th N ([]++q)++r).Pairwise fun x y=>x.PE<y.PE:=by
     rw [h1,List.pairwise_append,List.pairwise_cons] at hS;obtain ⟨s1,⟨_,s2⟩,s3⟩:=hS;have Ap:∀y∈B0 id th N q,∃z∈q,y.PE=z.PE:=by
      intro y hy;obtain ⟨z,hz,hy⟩:=List.mem_filterMap.1 hy;refine ⟨z,hz,?_⟩;unfold DJ at hy;split at hy
      ·split at hy
       ·simp at hy;subst hy;rfl
       ·simp at hy
      ·simp at hy;subst hy;rfl
     rw [List.nil_append,List.pairwise_append];refine ⟨?_,s2,fun y hy z hz=>?_⟩
     ·unfold B0;rw [List.pairwise_filterMap];refine s1.imp fun {a b} hab y hy z hz=>?_;have e:∀ {a y:SX},DJ id th N a=some y→y.PE=a.PE:=by
       intro a y hy;unfold DJ at hy;split at hy
       ·split at hy
        ·simp at hy;subst hy;rfl
        ·simp at hy
       ·simp at hy;subst hy;rfl
      rw [e hy,e hz];exact hab
     ·obtain ⟨w,hw,e⟩:=Ap y hy;rw [e];exact s3 w hw z (List.mem_cons_of_mem _ hz)
    have e3:BJ id th N (q++x::r)=BJ id th N (q++[x])++BJ id th N r:=by rw [←Mn];simp
    have e4:B0 id th N (q++x::r)=B0 id th N q++B0 id th N r:=by rw [show q++x::r=q++([x]++r) from rfl,PK,PK,hx];rfl
    have e5:BJ id th N (B0 id th N q++r)=BJ id th N r:=by rw [Mn id th N (B0 id th N q) r,h6.2];rfl
    have e6:B0 id th N (B0 id th N q++r)=B0 id th N q++B0 id th N r:=by rw [PK id th N (B0 id th N q) r,h6.1]
    rw [h1,e3,List.length_append] at hE;rw [List.nil_append] at hp ⊢;rw [ih _ _ (by rw [List.length_append];omega) (by rw [List.length_append];omega) hp (by rw [List.length_append,e5];omega)];rw [e5,e6,h1,e3,e4,List.append_assoc]
   ·have h:loop (Hz id ph th d B O f N K A V S) (0,S,E)=_:=h;rw [h]
end
end NX
end Go.Proofs.YtgnjledocpbchaaGreat
/-
  Plain laws: what a node does once. No statement of the seat is proved here.
-/
namespace Go.Proofs.YtgnjledocpbchaaGreat
namespace NX
open Go
def AZ (n:NO):NO:=if n.DK.DI.PH=2 then n else ⟨⟨⟨n.DK.DI.ID,n.DK.DI.PH,D6 n.DK.DI.SD n.AK⟩,n.DK.TH,n.DK.NE⟩,n.BK,DU n.KN n.AK,n.TL,[]⟩
def Gq (n:NO):List ML:=if n.DK.DI.PH=2 then [] else bL n.DK.DI.ID n.AK
def Ha (n:NO):List EV:=if n.DK.DI.PH=2 then [] else FX n.DK.DI.ID n.AK
def Cf (n:NO):Option SE:=match n.BK.SE with | []=>none | s::_=>if s.SS=0 then some s else none
def CJ (n:NO):DK:=match Cf n with | some s=>if n.DK.TH=0 then ⟨n.DK.DI,1,s.NE⟩ else n.DK | none=>n.DK
def BM (n:NO):NO:=⟨CJ n,n.BK,n.KN,n.TL,n.AK⟩
def Gw (n:NO):Int:=if decide (n.DK.DI.PH=0)&&n.DK.DI.SD.any (CK n.TL) then 1 else n.DK.DI.PH
def BB (n:NO):NO:=⟨⟨⟨n.DK.DI.ID,Gw n,n.DK.DI.SD⟩,n.DK.TH,n.DK.NE⟩,n.BK,n.KN,n.TL,n.AK⟩
def BI (n:NO):NO:=⟨(Bv n.DK).1,n.BK,n.KN,n.TL,n.AK⟩
def bp (n:NO):BK:=match n.BK.SE with | []=>n.BK | s::l=>if s.SS=0 then (if n.DK.TH=2 then ⟨n.BK.LA,⟨s.ID,s.NE,1,s.Age⟩::l⟩ else n.BK) else n.BK
def AL (n:NO):NO:=⟨n.DK,bp n,n.KN,n.TL,n.AK⟩
def CO (n:NO):List EV:=match Cf n with | some s=>if n.DK.TH=2 then [⟨1,n.DK.DI.ID,s.ID,0,[]⟩] else [] | none=>[]
def Dr (n:NO):List Int×List ML:=if n.DK.DI.PH=2 then bd n.DK.DI.ID n.DK.DI.SD n.TL [] else (n.TL,[])
def CI (n:NO):NO:=⟨n.DK,n.BK,n.KN,(Dr n).1,n.AK⟩
def br (n:NO):NO:=⟨⟨⟨n.DK.DI.ID,n.DK.DI.PH,B0 n.DK.DI.ID n.DK.TH n.DK.NE n.DK.DI.SD⟩,n.DK.TH,n.DK.NE⟩,n.BK,n.KN,n.TL,n.AK⟩
def EK (n:NO):List ML:=BJ n.DK.DI.ID n.DK.TH n.DK.NE n.DK.DI.SD
def Bj (n:NO):NO:=BB (BM (AZ n))
def Aw (n:NO):NO:=BI (Bj n)
def AN (n:NO):NO:=br (CI (AL (Aw n)))
def E6 (n:NO):List ML:=Gq n++((Bv (Bj n).DK).2++((Dr (AL (Aw n))).2++EK (CI (AL (Aw n)))))
def bA (n:NO):List EV:=Ha n++CO (Aw n)
def H6 (n:NO) (E:List ML) (V:List EV):Int×Int×Int×Int×List SE×List Int×List KE×List EV×List KE×List Int×List ML×List SX:=(n.DK.DI.ID,n.DK.DI.PH,n.DK.TH,n.BK.LA,n.BK.SE,n.TL,n.KN,V,n.AK,n.DK.NE,E,n.DK.DI.SD)
def FR (d:DK) (N:List Int) (M:List ML):Int×Int×Int×Int×List SX×List Int×List ML:=(d.DI.ID,d.DI.PH,d.TH,0,d.DI.SD,N,M)
theorem U0 (id:Int):∀(l:List SX) (T:List Int) (E:List ML),bd id l T E=((bd id l T []).1,E++(bd id l T []).2)
 | [],T,E=>by simp [bd]
 | x::l,T,E=>by
   unfold bd;split
   ·rw [U0 id l _ (E++_),U0 id l _ ([]++_)];simp
   ·exact U0 id l T E
theorem YE (id:Int):∀(l:List SX) (T:List Int) (E:List ML),(bd id l T E).1.length≤T.length+l.length∧(bd id l T E).2.length≤E.length+l.length
 | [],T,E=>by simp [bd]
 | x::l,T,E=>by
   unfold bd;split
   ·have:=YE id l (Bm (T++[x.PE])) (E++[⟨id,x.PE,⟨5,x.EP,0⟩⟩]);have h2:=gx (T++[x.PE]);simp only [List.length_append,List.length_cons,List.length_nil] at this h2 ⊢;omega
   ·have:=YE id l T E;simp only [List.length_cons];omega
section
variable (f:Int)
theorem jt (m:NO) (J E:List ML) (V:List EV) (U:m.DK.DI.SD.length≤1000) (hs:m.DK.DI.SD.Pairwise fun x y=>x.PE<y.PE) (hO:m.TL.length≤1000) (Z:m.DK.NE.length≤100000) (Y:E.length≤800000):
  KY m.TL f m.KN m.AK (FR m.DK m.DK.NE J) E (m.BK.LA,m.BK.SE,V)=some (H6 (br (CI m)) (E++((Dr m).2++EK (CI m))) V):=by
 have h1:=YE m.DK.DI.ID m.DK.DI.SD m.TL [];have h2:=ZN m.DK.DI.ID m.DK.TH m.DK.NE m.DK.DI.SD;have j10:∀(T:List Int) (E:List ML),E.length≤890000→ND f m.KN m.AK (FR m.DK m.DK.NE J) m.BK.LA m.BK.SE V (T,E)=some (H6 (br ⟨m.DK,m.BK,m.KN,T,m.AK⟩) (E++EK m) V):=fun T E Y=>by dsimp only [ND,FR,Wp];rw [vP m.DK.DI.ID m.DK.DI.PH m.DK.TH m.BK.LA m.BK.SE T f m.DK.NE m.KN m.AK V Z _ m.DK.DI.SD E (Nat.le_refl _) U hs Om,OB];rfl
 dsimp only [KY];unfold CI Dr;by_cases hp:m.DK.DI.PH=2
 ·rw [show decide ((FR m.DK m.DK.NE J).2.1=2)=true from DT hp,Ag,if_pos hp];dsimp only [FR];rw [wj _ _ _ _ _ _ _ _ _ _ _ _ _ U hO Om,OB];have:=j10 (bd m.DK.DI.ID m.DK.DI.SD m.TL []).1 (E++(bd m.DK.DI.ID m.DK.DI.SD m.TL []).2) (by rw [List.length_append];simp only [List.length_nil] at h1;omega);rw [U0];dsimp only;refine Eq.trans this ?_;rw [List.append_assoc];rfl
 ·rw [show decide ((FR m.DK m.DK.NE J).2.1=2)=false from DN hp,Aa,if_neg hp];rw [j10 m.TL E Om];rfl
def CZ (n:NO):SE×Bool:=match n.BK.SE with | []=>(rI,false) | s::_=>(s,true)
theorem tI (m:NO) (J E:List ML) (V:List EV) (hB:DF m.BK) (hk:Cw m.BK=true) (hS:m.DK.DI.SD.length≤1000) (hs:m.DK.DI.SD.Pairwise fun x y=>x.PE<y.PE) (Z:m.TL.length≤1000) (Y:m.DK.NE.length≤100000) (U:E.length≤800000) (hV:V.length≤800000):
  S8 m.BK.LA m.BK.SE m.TL f m.KN V m.AK (CZ m) (FR m.DK m.DK.NE J) E=some (H6 (br (CI (AL m))) (E++((Dr (AL m)).2++EK (CI (AL m)))) (V++CO m)):=by
 have no:bp m=m.BK→CO m=[]→KY m.TL f m.KN m.AK (FR m.DK m.DK.NE J) E (m.BK.LA,m.BK.SE,V)=some (H6 (br (CI (AL m))) (E++((Dr (AL m)).2++EK (CI (AL m)))) (V++CO m)):=fun e1 e2=>by
  have e:AL m=m:=by unfold AL;rw [e1]
  rw [e,e2,List.append_nil];exact jt f m J E V hS hs Z Y U
 dsimp only [S8,NH];simp only [Aa];unfold CZ;cases hb:m.BK.SE with
 | nil=>rw [Aa,←hb];exact no (by unfold bp;rw [hb]) (by unfold CO Cf;rw [hb])
 | cons s l=>
   rw [Ag];by_cases h0:s.SS=0
   ·rw [DT h0,Ag];by_cases h2:m.DK.TH=2
    ·rw [show decide ((FR m.DK m.DK.NE J).2.2.1=2)=true from DT h2,Ag,←hb,kl m.BK hB,OB];have eg:bK m.BK=(⟨m.BK.LA,⟨s.ID,s.NE,1,s.Age⟩::l⟩,s.ID,0):=by unfold bK;rw [hk,if_pos rfl,hb];dsimp only;rw [if_neg Om]
     have e1:AL m=⟨m.DK,⟨m.BK.LA,⟨s.ID,s.NE,1,s.Age⟩::l⟩,m.KN,m.TL,m.AK⟩:=by unfold AL bp;rw [hb];dsimp only;rw [if_pos h0,if_pos h2]
     have e2:CO m=[⟨1,m.DK.DI.ID,s.ID,0,[]⟩]:=by unfold CO Cf;rw [hb];dsimp only;rw [if_pos h0];dsimp only;rw [if_pos h2]
     rw [eg];dsimp only [Wr,FR];rw [we _ _ _ _ _ _ _ _ _ _ _ _ _ _ _ Om,OB,e1,e2];have:=jt f ⟨m.DK,⟨m.BK.LA,⟨s.ID,s.NE,1,s.Age⟩::l⟩,m.KN,m.TL,m.AK⟩ J E (V++[⟨1,m.DK.DI.ID,s.ID,0,[]⟩]) hS hs Z Y U;rw [hb];exact this
    ·rw [show decide ((FR m.DK m.DK.NE J).2.2.1=2)=false from DN h2,Aa,←hb];exact no (by unfold bp;rw [hb];dsimp only;rw [if_pos h0,if_neg h2]) (by unfold CO Cf;rw [hb];dsimp only;rw [if_pos h0];dsimp only;rw [if_neg h2])
   ·rw [DN h0,Aa,←hb];exact no (by unfold bp;rw [hb];dsimp only;rw [if_neg h0]) (by unfold CO Cf;rw [hb];dsimp only;rw [if_neg h0])
theorem wm (x:SX) (n:node_node) (h:n.NO.TL.length≤1000):NA x n=some (CK n.NO.TL x):=by simp only [NA,Ir,OB,Gi n.NO.TL x.PE Om,S6];unfold CK ER;cases decide (x.SS=1)<;>rfl
theorem eY (n:Nat):∀(d:DK) (out:List ML),((Cm n d out).1.DI.SD.map (·.PE))=d.DI.SD.map (·.PE)∧(Cm n d out).1.DI.ID=d.DI.ID:=by
 induction n with
 | zero=>intro d out;exact ⟨rfl,rfl⟩
 | succ n ih=>
   intro d out;unfold Cm;split
   ·exact ⟨rfl,rfl⟩
   ·obtain ⟨i1,i2⟩:=ih (bc d) (out++Dp d);refine ⟨i1.trans ?_,i2⟩;show (Gg d).map _=_;unfold Gg;rw [List.map_map];have e:((fun x:SX=>x.PE)∘fun x=>Ca (Cu d x) d.TH x)=fun x:SX=>x.PE:=by funext x;exact (Pf _ _ _).1
    rw [e,Hf,List.map_map];show d.DI.SD.map _=_;congr 1;funext x;exact (M8 _ x).1
theorem qF (d:DK):(Bv d).1.DI.SD.map (·.PE)=d.DI.SD.map (·.PE)∧(Bv d).1.DI.ID=d.DI.ID∧(Bv d).1.NE=d.NE:=⟨(eY 300 d []).1,(eY 300 d []).2,fa 300 d []⟩
theorem OQ {S S':List SX} (h:S'.map (·.PE)=S.map (·.PE)) (hs:S.Pairwise fun x y=>x.PE<y.PE):S'.Pairwise fun x y=>x.PE<y.PE:=by have h1:(S.map (·.PE)).Pairwise (· < ·):=List.pairwise_map.2 hs;rw [←h] at h1;exact List.pairwise_map.1 h1
theorem fb:∀(n:Nat) (d:DK) (out:List ML),(Cm n d out).2.length+bits (Cm n d out).1.DI.SD=out.length+bits d.DI.SD
 | 0,_,_=>rfl
 | n+1,d,out=>by
   unfold Cm;split
   ·rfl
   ·have h1:=fb n (bc d) (out++Dp d);have h2:=lA d;rw [List.length_append] at h1;omega
theorem ud {d:DK} (h:EQ d=true):(Bv d).2.length≤256:=by have h1:=fb 300 d [];have h2:=Zb d.DI.SD;have h3:=H2 (OK h);simp only [List.length_nil] at h1;unfold Bv;omega
theorem yf (m:NO) (x20:SE×Bool) (h6:x20=CZ m) (E:List ML) (V:List EV) (hd:EQ (BB m).DK=true) (U:DF m.BK) (hk:Cw m.BK=true) (hs:m.DK.DI.SD.Pairwise fun x y=>x.PE<y.PE) (J:m.TL.length≤1000) (Y:m.DK.NE.length≤100000) (hE:E.length≤700000) (Z:V.length≤800000):
  KX m.DK.DI.ID m.DK.DI.PH m.BK.LA m.BK.SE m.TL f m.DK.DI.SD m.KN E V m.AK x20 (m.DK.TH,m.DK.NE) =
   some (H6 (br (CI (AL (BI (BB m))))) (E++((Bv (BB m).DK).2++((Dr (AL (BI (BB m)))).2++EK (CI (AL (BI (BB m))))))) (V++CO (BI (BB m)))):=by
 subst h6;have hl:=H2 (OK hd);have hl:m.DK.DI.SD.length<64:=hl;have hq:=qF (BB m).DK;have h8:(Bv (BB m).DK).1.DI.SD.length=m.DK.DI.SD.length:=by have:=congrArg List.length hq.1;rw [List.length_map,List.length_map] at this;exact this
 have ho:=ud hd;have h9:Bv (BB m).DK=Bv ⟨⟨m.DK.DI.ID,Gw m,m.DK.DI.SD⟩,m.DK.TH,m.DK.NE⟩:=rfl;have j5:∀z,z=Gw m→NG m.DK.DI.ID m.BK.LA m.BK.SE m.TL f m.DK.DI.SD m.KN E V m.AK (CZ m) m.DK.TH m.DK.NE z=some (H6 (br (CI (AL (BI (BB m))))) (E++((Bv (BB m).DK).2++((Dr (AL (BI (BB m)))).2++EK (CI (AL (BI (BB m))))))) (V++CO (BI (BB m)))):=fun z hz=>by subst hz;dsimp only [NG];have hf:=vz (BB m).DK hd (by show m.DK.NE.length≤1000000;omega);have hf':MJ m.DK.DI.ID (Gw m) m.DK.TH m.DK.DI.SD m.DK.NE=some (FR (Bv (BB m).DK).1 m.DK.NE (Bv (BB m).DK).2):=hf;rw [hf',OB];rw [show (FR (Bv (BB m).DK).1 m.DK.NE (Bv (BB m).DK).2).2.2.2.2.2.2=(Bv (BB m).DK).2 from rfl,B5 _ _ Om Om,OB];have hn:(BI (BB m)).DK.NE=m.DK.NE:=hq.2.2;have:=tI f (BI (BB m)) (Bv (BB m).DK).2 (E++(Bv (BB m).DK).2) V U hk (by show (Bv (BB m).DK).1.DI.SD.length≤1000;omega) (OQ hq.1 hs) J (by rw [hn];exact Y) (by rw [List.length_append];omega) Z;rw [hn,List.append_assoc] at this;exact this
 dsimp only [KX,S7];rw [Aa,TI m.DK.DI.SD _ (CK m.TL) Om (fun x _=>wm x _ J),OB];unfold Gw at j5;by_cases h0:m.DK.DI.PH=0
 ·rw [DT h0] at j5 ⊢;rw [Ag];cases hu:m.DK.DI.SD.any (CK m.TL) with
  | true=>rw [hu] at j5;exact j5 1 rfl
  | false=>rw [hu] at j5;exact j5 _ rfl
 ·rw [DN h0] at j5 ⊢;exact j5 _ rfl
theorem vJ (a b c d:Int) (B:BK) (O:List Int) (S:List SX) (N:List Int) (K A:List KE) (n:NO) (h:n.BK=B):RG a b c d B.SE O S N K A=some (CZ n):=by
 subst h;simp only [RG,AY];unfold CZ;cases h:n.BK.SE with
 | nil=>rfl
 | cons s l=>rw [DN (by simp;omega),Aa];rfl
theorem jv (m:NO) (E:List ML) (V:List EV) (hd:EQ (BB (BM m)).DK=true) (U:DF m.BK) (hk:Cw m.BK=true) (hs:m.DK.DI.SD.Pairwise fun x y=>x.PE<y.PE) (Z:m.TL.length≤1000) (J:m.DK.NE.length≤100000) (h9:∀s∈m.BK.SE,s.NE.length≤100000) (Y:E.length≤700000) (hV:V.length≤800000):
  NC m.DK.DI.ID m.DK.DI.PH m.DK.TH m.BK.LA m.BK.SE m.TL f m.DK.NE (m.DK.DI.SD,m.KN,E,V,m.AK) =
   some (H6 (br (CI (AL (BI (BB (BM m)))))) (E++((Bv (BB (BM m)).DK).2++((Dr (AL (BI (BB (BM m))))).2++EK (CI (AL (BI (BB (BM m)))))))) (V++CO (BI (BB (BM m))))):=by
 have h6:(BM m).DK.DI=m.DK.DI:=by
  show (CJ m).DI=_;unfold CJ;split
  ·split<;>rfl
  ·rfl
 have h8:(BM m).DK.NE.length≤100000:=by
  show (CJ m).NE.length≤_;unfold CJ;split
  ·rename_i s hw;split
   ·unfold Cf at hw;split at hw
    ·simp at hw
    ·rename_i s' l hb;split at hw
     ·simp at hw;subst hw;exact h9 _ (by rw [hb];simp)
     ·simp at hw
   ·exact J
  ·exact J
 have Ap:=yf f (BM m) (CZ m) rfl E V hd U hk (by rw [h6];exact hs) Z h8 Y hV;rw [h6] at Ap;have fin:∀(p:Int×List Int),p=((BM m).DK.TH,(BM m).DK.NE)→KX m.DK.DI.ID m.DK.DI.PH m.BK.LA m.BK.SE m.TL f m.DK.DI.SD m.KN E V m.AK (CZ m) p=some (H6 (br (CI (AL (BI (BB (BM m)))))) (E++((Bv (BB (BM m)).DK).2++((Dr (AL (BI (BB (BM m))))).2++EK (CI (AL (BI (BB (BM m)))))))) (V++CO (BI (BB (BM m))))):=fun p hp=>by rw [hp];exact Ap
 dsimp only [NC,NF];rw [vJ _ _ _ _ m.BK _ _ _ _ _ m rfl,OB];simp only [Aa];have noT:Cf m=none→(m.DK.TH,m.DK.NE)=((BM m).DK.TH,(BM m).DK.NE):=fun h=>by
  show _=((CJ m).TH,(CJ m).NE)
  unfold CJ;rw [h]
 cases hb:m.BK.SE with
 | nil=>
   have e:(CZ m).2=false:=by unfold CZ;rw [hb]
   rw [e,Aa,←hb];exact fin _ (noT (by unfold Cf;rw [hb]))
 | cons s l=>
   have e:CZ m=(s,true):=by unfold CZ;rw [hb]
   rw [←hb];rw [show (CZ m).2=true by rw [e],Ag,show (CZ m).1=s by rw [e]];by_cases h0:s.SS=0
   ·have hw:Cf m=some s:=by unfold Cf;rw [hb];dsimp only;rw [if_pos h0]
    rw [DT h0,Ag];by_cases h1:m.DK.TH=0
    ·rw [DT h1,Ag,Ex s.NE (by have:=h9 s (by rw [hb];simp);omega),OB];refine fin _ ?_;show _=((CJ m).TH,(CJ m).NE)
     unfold CJ;rw [hw];dsimp only;rw [if_pos h1]
    ·rw [DN h1,Aa];refine fin _ ?_;show _=((CJ m).TH,(CJ m).NE)
     unfold CJ;rw [hw];dsimp only;rw [if_neg h1]
   ·rw [DN h0,Aa];exact fin _ (noT (by unfold Cf;rw [hb];dsimp only;rw [if_neg h0]))
structure GoN (n:NO):Prop where
 rowS:RowS n.DK.DI.SD
 rowK:RowK n.KN
 ask:AskOK n.DK.DI.SD n.AK
 lenS:n.DK.DI.SD.length+n.AK.length≤1000
 lenK:n.KN.length+n.AK.length≤1000
 dr:EQ (Bj n).DK=true
 bk:DF n.BK
 ok:Cw n.BK=true
 told:n.TL.length≤1000
 need:n.DK.NE.length≤100000
 needs:∀s∈n.BK.SE,s.NE.length≤100000
theorem vZ (n:NO) (h:GoN n) (E:List ML) (V:List EV) (J:E.length≤600000) (U:V.length≤600000):
  NB n.DK.DI.ID n.DK.DI.PH n.DK.TH n.BK.LA n.BK.SE n.TL f n.DK.DI.SD n.DK.NE n.KN n.AK E V=some (H6 (AN n) (E++E6 n) (V++bA n)):=by
 have hd:=h.dr;have hr:=(dG h.rowS h.rowK h.ask h.lenS h.lenK [] n.AK (by simp)).1;have hA:=h.lenS;dsimp only [NB];unfold AN E6 bA Aw Bj Gq Ha;unfold Bj at hd;by_cases hp:n.DK.DI.PH=2
 ·have e:AZ n=n:=by unfold AZ;rw [if_pos hp]
  rw [e] at hd ⊢;rw [DT hp,Bool.not_true,Aa,if_pos hp,if_pos hp];have:=jv f n E V hd h.bk h.ok h.rowS.up h.told h.need h.needs Om Om;simpa using this
 ·have e:AZ n=⟨⟨⟨n.DK.DI.ID,n.DK.DI.PH,D6 n.DK.DI.SD n.AK⟩,n.DK.TH,n.DK.NE⟩,n.BK,DU n.KN n.AK,n.TL,[]⟩:=by unfold AZ;rw [if_neg hp]
  rw [DN hp,Bool.not_false,Ag,if_neg hp,if_neg hp];rw [vu _ _ _ _ _ _ _ _ _ _ _ _ _ h.rowS h.rowK h.ask h.lenS h.lenK Om Om,OB];rw [e] at hd ⊢;have:=jv f ⟨⟨⟨n.DK.DI.ID,n.DK.DI.PH,D6 n.DK.DI.SD n.AK⟩,n.DK.TH,n.DK.NE⟩,n.BK,DU n.KN n.AK,n.TL,[]⟩ (E++bL n.DK.DI.ID n.AK) (V++FX n.DK.DI.ID n.AK) hd h.bk h.ok hr.up h.told h.need h.needs (by rw [List.length_append,bL,List.length_map];omega) (by rw [List.length_append,FX,List.length_map];omega);dsimp only at this ⊢;rw [List.append_assoc,List.append_assoc] at this;exact this
end
structure SideOK (id:Int) (x:SX):Prop where
 lo:0≤x.PE
 ne:x.PE≠id
 e0:0≤x.EP
 e1:x.EP≤65535
 s0:0≤x.SS
 s3:x.SS≤3
 df:x.DY=true→x.FK=true
theorem ug (id:Int):∀(S:List SX) (q:Int),FH id q S=true↔(S.Pairwise fun x y=>x.PE<y.PE)∧∀x∈S,D2 id q x=true
 | [],q=>by simp [FH]
 | x::S,q=>by
   have hx:∀ {y:SX},D2 id q x=true→D2 id x.PE y=true→D2 id q y=true:=by intro y h1 h2;simp only [D2,Bool.and_eq_true,decide_eq_true_eq] at h1 h2 ⊢;exact ⟨Om,h2.2⟩
   have hy:∀ {y:SX},x.PE<y.PE→D2 id q y=true→D2 id x.PE y=true:=by intro y h1 h2;simp only [D2,Bool.and_eq_true,decide_eq_true_eq] at h2 ⊢;exact ⟨h1,h2.2⟩
   simp only [FH,Bool.and_eq_true,ug id S x.PE,List.pairwise_cons,List.mem_cons,forall_eq_or_imp];constructor
   ·rintro ⟨h1,h2,h3⟩;refine ⟨⟨fun y hy=>?_,h2⟩,h1,fun y hy=>hx h1 (h3 y hy)⟩;have:=h3 y hy;simp only [D2,Bool.and_eq_true,decide_eq_true_eq] at this;exact this.1
   ·rintro ⟨⟨h1,h2⟩,h3,h4⟩;exact ⟨h3,h2,fun y hy'=>hy (h1 y hy') (h4 y hy')⟩
theorem wU (id:Int) (x:SX):D2 id (-1) x=true↔SideOK id x:=by
 simp only [D2,Bool.and_eq_true,decide_eq_true_eq,Bool.not_eq_true',decide_eq_false_iff_not,Bool.and_eq_false_iff,Bool.not_eq_false'];constructor
 ·rintro ⟨h1,h2,h3,h4,h5,h6,h7⟩;refine ⟨Om,h2,h3,h4,h5,h6,fun h=>?_⟩;rcases h7 with h7 | h7
  ·rw [h] at h7;simp at h7
  ·exact h7
 ·rintro ⟨h1,h2,h3,h4,h5,h6,h7⟩;refine ⟨Om,h2,h3,h4,h5,h6,?_⟩;cases hd:x.DY with
  | false=>exact .inl rfl
  | true=>exact .inr (h7 hd)
structure DinOK (d:DI):Prop where
 id0:0≤d.ID
 p0:0≤d.PH
 p2:d.PH≤2
 len:d.SD.length<64
 up:d.SD.Pairwise fun x y=>x.PE<y.PE
 side:∀x∈d.SD,SideOK d.ID x
theorem Y1 (d:DI):Ch d=true↔DinOK d:=by
 simp only [Ch,Bool.and_eq_true,decide_eq_true_eq,ug,wU];constructor
 ·rintro ⟨h1,h2,h3,h4,h5,h6⟩;exact ⟨h1,h2,h3,h4,h5,h6⟩
 ·rintro ⟨h1,h2,h3,h4,h5,h6⟩;exact ⟨h1,h2,h3,h4,h5,h6⟩
theorem l8:∀(l:List Int) (q:Option Int),Gf q l=true↔l.Pairwise (· < ·)∧∀y,q=some y→∀x∈l,y<x
 | [],q=>by simp [Gf]
 | x::l,q=>by
   simp only [Gf,Bool.and_eq_true,l8 l (some x),List.pairwise_cons,List.mem_cons,forall_eq_or_imp,Option.some.injEq];cases q with
   | none=>
     constructor
     ·rintro ⟨_,h1,h2⟩;exact ⟨⟨h2 x rfl,h1⟩,by simp⟩
     ·rintro ⟨⟨h2,h1⟩,_⟩;exact ⟨rfl,h1,fun y e=>by subst e;exact h2⟩
   | some y=>
     simp only [decide_eq_true_eq];constructor
     ·rintro ⟨h0,h1,h2⟩;exact ⟨⟨h2 x rfl,h1⟩,fun z e=>by simp only [Option.some.injEq] at e;subst e;exact ⟨h0,fun w hw=>Int.lt_trans h0 (h2 x rfl w hw)⟩⟩
     ·rintro ⟨⟨h2,h1⟩,h3⟩;exact ⟨(h3 y rfl).1,h1,fun z e=>by subst e;exact h2⟩
theorem jW:∀(l:List KE) (q:Int),cr q l=true↔(l.Pairwise fun x y=>x.PE<y.PE)∧∀k∈l,q<k.PE∧k.PE<64∧1≤k.EP∧k.EP≤65535
 | [],q=>by simp [cr]
 | x::l,q=>by
   simp only [cr,Bool.and_eq_true,decide_eq_true_eq,jW l x.PE,List.pairwise_cons,List.mem_cons,forall_eq_or_imp];constructor
   ·rintro ⟨⟨h1,h2,h3,h4⟩,h5,h6⟩;exact ⟨⟨fun y hy=>(h6 y hy).1,h5⟩,⟨h1,h2,h3,h4⟩,fun y hy=>⟨Int.lt_trans h1 (h6 y hy).1,(h6 y hy).2⟩⟩
   ·rintro ⟨⟨h1,h2⟩,⟨h3,h4,h5,h6⟩,h7⟩;exact ⟨⟨h3,h4,h5,h6⟩,h2,fun y hy=>⟨h1 y hy,(h7 y hy).2⟩⟩
structure DrOK (d:DK):Prop where
 din:DinOK d.DI
 t0:0≤d.TH
 t2:d.TH≤2
 up:d.NE.Pairwise (· < ·)
 nz:d.TH=0→d.NE=[]
 has:∀p∈d.NE,∃x∈d.DI.SD,x.PE=p
theorem yg (d:DI) (p:Int):Jd d p=true↔∃x∈d.SD,x.PE=p:=by unfold Jd;rw [List.any_eq_true];simp
theorem Tz (d:DK):EQ d=true↔DrOK d:=by
 unfold EQ;simp only [Bool.and_eq_true,decide_eq_true_eq,Y1,l8,List.all_eq_true,yg,Bool.not_eq_true',Bool.and_eq_false_iff,decide_eq_false_iff_not];constructor
 ·rintro ⟨h1,h2,h3,h4,h5,h6⟩;refine ⟨h1,h2,h3,h4.1,fun h=>?_,h6⟩;rcases h5 with h5 | h5
  ·exact absurd h h5
  ·exact List.eq_nil_of_length_eq_zero Om
 ·rintro ⟨h1,h2,h3,h4,h5,h6⟩;refine ⟨h1,h2,h3,⟨h4,by simp⟩,?_,h6⟩;by_cases h:d.TH=0
  ·right;rw [h5 h];simp
  ·left;exact h
structure OkN (n:NO):Prop where
 dr:DrOK n.DK
 bk:Cw n.BK=true
 may:∀k∈n.AK,(∀x∈n.DK.DI.SD,x.PE≠k.PE)∧0≤k.PE∧k.PE<n.DK.DI.ID∧BR n.KN k.PE<k.EP∧k.EP≤65535
 dis:(n.AK.map (·.PE)).Nodup
 id:n.DK.DI.ID<64
 kup:n.KN.Pairwise fun x y=>x.PE<y.PE
 kr:∀k∈n.KN,0≤k.PE∧k.PE<64∧1≤k.EP∧k.EP≤65535
 sd:∀x∈n.DK.DI.SD,x.PE<64∧1≤x.EP∧BR n.KN x.PE=x.EP∧(x.SS=1∨x.SS=3→n.DK.DI.ID≤x.PE)
 told:n.TL.Pairwise (· < ·)
 tin:∀p∈n.TL,∃x∈n.DK.DI.SD,x.SS=1∧x.PE=p
 th:n.DK.TH=2↔I8 n=true
 hq:n.DK.TH=0∨ga n=true
 nl:∀x∈n.DK.DI.SD,x.PE∈n.DK.NE→x.SS≠3
 wt:∀s∈n.BK.SE,s.SS=0→∀p∈s.NE,∃x∈n.DK.DI.SD,x.SS=0∧x.PE=p
theorem aW (n:NO) (k:KE):Fj n k=true↔(∀x∈n.DK.DI.SD,x.PE≠k.PE)∧0≤k.PE∧k.PE<n.DK.DI.ID∧BR n.KN k.PE<k.EP∧k.EP≤65535:=by unfold Fj;simp only [Bool.and_eq_true,decide_eq_true_eq,Bool.not_eq_true',List.any_eq_false]
theorem wV (n:NO) (x:SX):IL n x=true↔x.PE<64∧1≤x.EP∧BR n.KN x.PE=x.EP∧(x.SS=1∨x.SS=3→n.DK.DI.ID≤x.PE):=by
 unfold IL;simp only [Bool.and_eq_true,decide_eq_true_eq,Bool.not_eq_true',Bool.and_eq_false_iff,Bool.or_eq_false_iff,decide_eq_false_iff_not];constructor
 ·rintro ⟨h1,h2,h3,h4⟩;exact ⟨h1,h2,h3,fun h=>Om⟩
 ·rintro ⟨h1,h2,h3,h4⟩;exact ⟨h1,h2,h3,Om⟩
theorem aZ (n:NO) (q:SX→Bool) (p:Int):p∈D1 n q↔∃x∈n.DK.DI.SD,q x=true∧x.PE=p:=by
 unfold D1;simp only [List.mem_map,List.mem_filter];constructor
 ·rintro ⟨x,⟨h1,h2⟩,h3⟩;exact ⟨x,h1,h2,h3⟩
 ·rintro ⟨x,h1,h2,h3⟩;exact ⟨x,⟨h1,h2⟩,h3⟩
theorem xr (n:NO) (s:SE):IM n s=true↔(s.SS=0→∀p∈s.NE,∃x∈n.DK.DI.SD,x.SS=0∧x.PE=p):=by
 unfold IM;simp only [Bool.not_eq_true',Bool.and_eq_false_iff,decide_eq_false_iff_not,Bool.not_eq_false',List.all_eq_true,decide_eq_true_eq,aZ,Dy];constructor
 ·rintro (h | h)
  ·exact fun e=>absurd e h
  ·exact fun _=>h
 ·intro h;by_cases e:s.SS=0
  ·exact .inr (h e)
  ·exact .inl e
theorem Y3 (n:NO):Ls n=true↔OkN n:=by
 unfold Ls Po gZ U1 EG;simp only [Bool.and_eq_true,Tz,List.all_eq_true,aW,decide_eq_true_eq,jW,wV,l8,aZ,ER,G6,Bool.or_eq_true,beq_iff_eq,Bool.not_eq_true',List.any_eq_false,xr];constructor
 ·rintro ⟨h1,h2,⟨h3,h4,h5,h6,h7,h8,h9⟩,hw,hA,hB,hC⟩;exact ⟨h1,h2,h3,h4,h5,h6.1,fun k hk=>by have:=h6.2 k hk;omega,h7,h8.1,h9,by rw [←hw];simp,hA,fun x hx hn e=>hB x.PE hn ⟨x,hx,e,rfl⟩,hC⟩
 ·rintro ⟨h1,h2,h3,h4,h5,h6,h6',h7,h8,h9,hw,hA,hB,hC⟩;refine ⟨h1,h2,⟨h3,h4,h5,⟨h6,fun k hk=>by have:=h6' k hk;omega⟩,h7,⟨h8,by simp⟩,h9⟩,?_,hA,?_,hC⟩
  ·rw [Bool.eq_iff_iff];simpa using hw
  ·rintro p hp ⟨x,hx,e,rfl⟩;exact hB x hx hp e
structure SessOK (top last:Int) (s:SE):Prop where
 lo:last<s.ID
 hi:s.ID≤top
 nb:FF s.NE=true
 up:s.NE.Pairwise (· < ·)
 age:0≤s.Age
 st:s.SS=1∨s.SS=0∧s.Age=0
theorem uj (top:Int):∀(l:List SE) (last:Int) (first:Bool),bR top last first l=true↔(l.Pairwise fun x y=>x.ID<y.ID)∧(∀s∈l,SessOK top last s)∧∀s∈(if first then l.tail else l),s.SS=0
 | [],_,_=>by simp [bR]
 | x::l,last,first=>by
   have e:K4 last top first x=true↔SessOK top last x∧(first=false→x.SS=0):=by
    unfold K4;simp only [Bool.and_eq_true,decide_eq_true_eq,Bool.or_eq_true];constructor
    ·rintro ⟨h1,h2,h3,h4,h5,h6⟩;refine ⟨⟨h1,h2,h3,h4,h5,?_⟩,fun hf=>?_⟩
     ·rcases h6 with h | h
      ·exact .inl h.1
      ·exact .inr h
     ·rcases h6 with h | h
      ·rw [hf] at h;simp at h
      ·exact h.1
    ·rintro ⟨⟨h1,h2,h3,h4,h5,h6⟩,h7⟩;refine ⟨h1,h2,h3,h4,h5,?_⟩;rcases h6 with h | h
     ·cases first with
      | true=>exact .inl ⟨h,rfl⟩
      | false=>have:=h7 rfl;omega
     ·exact .inr h
   simp only [bR,Bool.and_eq_true,e,uj top l x.ID false,List.pairwise_cons,List.mem_cons,forall_eq_or_imp];constructor
   ·rintro ⟨⟨h1,h2⟩,h3,h4,h5⟩;have h5:∀s∈l,s.SS=0:=h5;refine ⟨⟨fun y hy=>(h4 y hy).lo,h3⟩,⟨h1,fun y hy=>?_⟩,?_⟩
    ·have:=h4 y hy;exact {this with lo:=Int.lt_trans h1.lo this.lo}
    ·cases first with
     | true=>exact h5
     | false=>
       intro s hs;rcases List.mem_cons.1 hs with rfl | hs
       ·exact h2 rfl
       ·exact h5 s hs
   ·rintro ⟨⟨h1,h2⟩,⟨h3,h4⟩,h5⟩;refine ⟨⟨h3,fun hf=>?_⟩,h2,fun y hy=> {h4 y hy with lo:=h1 y hy},?_⟩
    ·subst hf;exact h5 x (by simp)
    ·cases first with
     | true=>exact h5
     | false=>exact fun s hs=>h5 s (List.mem_cons_of_mem _ hs)
structure BkOK (b:BK):Prop where
 last:0≤b.LA
 len:b.SE.length≤8
 up:b.SE.Pairwise fun x y=>x.ID<y.ID
 ok:∀s∈b.SE,SessOK b.LA 0 s
 tl:∀s∈b.SE.tail,s.SS=0
theorem CR (b:BK):Cw b=true↔BkOK b:=by
 unfold Cw;simp only [Bool.and_eq_true,decide_eq_true_eq,uj];constructor
 ·rintro ⟨h1,h2,h3,h4,h5⟩;exact ⟨h1,h2,h3,h4,h5⟩
 ·rintro ⟨h1,h2,h3,h4,h5⟩;exact ⟨h1,h2,h3,h4,h5⟩
theorem b9 {l:List Int} (h:FF l=true):l.length≤64:=by unfold FF at h;rw [Bool.and_eq_true,decide_eq_true_eq] at h;exact h.1
theorem BkOK.few {b:BK} (h:BkOK b):DF b:=⟨by have:=h.len;omega,fun s hs=>by have:=b9 (h.ok s hs).nb;omega⟩
theorem P6 {l:List Int} (h:l.Pairwise (· < ·)) {n:Int} (hn:0≤n) (hr:∀x∈l,0≤x∧x<n):(l.length:Int)≤n:=by
 rcases jX l 0 n h hr with rfl | h
 ·simpa using hn
 ·omega
theorem xq {l:List Int} (h:l.Pairwise (· < ·)) {n id:Int} (hi:0≤id∧id<n) (hr:∀x∈l,0≤x∧x<n∧x≠id):(l.length:Int)<n:=by
 have h1:(l.take (AH l (fun x=>x) id)++id::l.drop (AH l (fun x=>x) id)).Pairwise fun x y=>x<y:=Pw (Ap:=fun x:Int=>x) (p:=id) h rfl fun y hy=>(hr y hy).2.2;have h2:=P6 h1 (n:=n) Om fun x hx=>by
  rw [List.mem_append,List.mem_cons] at hx;rcases hx with hx | rfl | hx
  ·have:=hr x (List.mem_of_mem_take hx);omega
  ·omega
  ·have:=hr x (List.mem_of_mem_drop hx);omega
 rw [List.length_append,List.length_cons] at h2;have h3:l.length=(l.take (AH l (fun x=>x) id)).length+(l.drop (AH l (fun x=>x) id)).length:=by rw [←List.length_append,List.take_append_drop]
 omega
theorem OkN.peer0 {n:NO} (h:OkN n) {x:SX} (hx:x∈n.DK.DI.SD):0≤x.PE∧x.PE<64∧x.PE≠n.DK.DI.ID:=⟨(h.dr.din.side x hx).lo,(h.sd x hx).1,(h.dr.din.side x hx).ne⟩
theorem OkN.needL {n:NO} (h:OkN n):n.DK.NE.length≤64:=by
 have:=P6 h.dr.up (n:=64) Om fun p hp=>by obtain ⟨x,hx,rfl⟩:=h.dr.has p hp;have:=h.peer0 hx;omega
 omega
theorem OkN.toldL {n:NO} (h:OkN n):n.TL.length≤64:=by
 have:=P6 h.told (n:=64) Om fun p hp=>by obtain ⟨x,hx,_,rfl⟩:=h.tin p hp;have:=h.peer0 hx;omega
 omega
theorem OkN.knownL {n:NO} (h:OkN n):n.KN.length≤64:=by
 have:=P6 (l:=n.KN.map (·.PE)) (List.pairwise_map.2 h.kup) (n:=64) Om fun p hp=>by obtain ⟨k,hk,rfl⟩:=List.mem_map.1 hp;have:=h.kr k hk;omega
 rw [List.length_map] at this;omega
theorem yh {l:List Int} (h:l.Nodup) {n:Nat} (hr:∀x∈l,0≤x∧x<(n:Int)):l.length≤n:=by
 have hs:=DO l;have h1:∀(a b:List Int),a.Nodup→(∀x∈a,x∈b)→a.length≤b.length:=by
  intro a;induction a with
  | nil=>intro b _ _;simp
  | cons x a ih=>intro b ha hb;rw [List.nodup_cons] at ha;have h6:=hb x (by simp);have:=ih (b.erase x) ha.2 fun y hy=>(List.mem_erase_of_ne (fun e=>ha.1 (by rw [←e];exact hy))).2 (hb y (List.mem_cons_of_mem _ hy));rw [List.length_erase_of_mem h6] at this;have:=List.length_pos_of_mem h6;simp only [List.length_cons];omega
 have h2:=h1 l (Bm l) h fun x hx=>(hs.2 x).2 hx;have h3:=P6 hs.1 (n:=n) Om fun x hx=>hr x ((hs.2 x).1 hx);omega
theorem OkN.askedL {n:NO} (h:OkN n):n.AK.length≤64:=by
 have:=yh h.dis (n:=64) fun p hp=>by obtain ⟨k,hk,rfl⟩:=List.mem_map.1 hp;have:=h.may k hk;have:=h.id;omega
 rw [List.length_map] at this;exact this
theorem OkN.few {n:NO} (h:OkN n):FewN n:=by have h1:=h.needL;have h2:=h.toldL;have h3:=h.knownL;have h4:=h.askedL;have h5:=h.dr.din.len;have h6:=(CR _).1 h.bk;have h7:=h6.len;exact ⟨Om,Om,Om,fun s hs=>by have:=b9 (h6.ok s hs).nb;omega,Om,Om,Om⟩
theorem OkN.rowS {n:NO} (h:OkN n):RowS n.DK.DI.SD:=⟨by have:=h.dr.din.len;omega,h.dr.din.up,fun x hx=>by have:=h.peer0 hx;omega⟩
theorem OkN.rowK {n:NO} (h:OkN n):RowK n.KN:=⟨by have:=h.knownL;omega,h.kup,fun k hk=>by have:=h.kr k hk;omega⟩
theorem Pp {K:List KE} (hu:K.Pairwise fun x y=>x.PE<y.PE) (h:∀k∈K,1≤k.EP∧k.EP≤65535) (p:Int):0≤BR K p∧BR K p≤65535:=by
 by_cases hx:∃k∈K,k.PE=p
 ·obtain ⟨k,hk,rfl⟩:=hx;rw [M7 hu hk];have:=h k hk;omega
 ·rw [Uv fun k hk e=>hx ⟨k,hk,e⟩];omega
theorem fg {S:List SX} (h:S.Pairwise fun x y=>x.PE<y.PE) {x y:SX} (hx:x∈S) (hy:y∈S) (e:x.PE=y.PE):x=y:=by
 induction S with
 | nil=>simp at hx
 | cons z S ih=>
   rw [List.pairwise_cons] at h;rcases List.mem_cons.1 hx with hx1 | hx1<;>rcases List.mem_cons.1 hy with hy1 | hy1
   ·rw [hx1,hy1]
   ·have:=h.1 y hy1;rw [←hx1] at this;omega
   ·have:=h.1 x hx1;rw [←hy1] at this;omega
   ·exact ih h.2 hx1 hy1
def ct (n:NO) (x:SX) (A:List KE):NO:=⟨⟨⟨n.DK.DI.ID,n.DK.DI.PH,Cy n.DK.DI.SD x⟩,n.DK.TH,n.DK.NE⟩,n.BK,D9 n.KN x.PE x.EP,n.TL,A⟩
theorem OkN.put {n:NO} (h:OkN n) {x:SX} {A:List KE} (hp:0≤x.PE∧x.PE<64∧x.PE≠n.DK.DI.ID) (hn:∀y∈n.DK.DI.SD,y.PE≠x.PE) (he:1≤x.EP∧x.EP≤65535)
  (hs:x.SS=0∨x.SS=1∧n.DK.DI.ID≤x.PE) (hd:x.DY=true→x.FK=true) (E:∀k∈A,k∈n.AK∧k.PE≠x.PE) (hw:(A.map (·.PE)).Nodup):OkN (ct n x A):=by
 have h8:=h.id;have h6:=h.dr.din;have h9:(Cy n.DK.DI.SD x).Pairwise fun x y=>x.PE<y.PE:=Pw h.rowS.up rfl hn;refine ⟨⟨⟨h6.id0,h6.p0,h6.p2,?_,h9,fun y hy=>?_⟩,h.dr.t0,h.dr.t2,h.dr.up,h.dr.nz,fun p hp=>?_⟩,h.bk,fun k hk=>?_,hw,h8,UP h.kup _ _,fun k hk=>?_,fun y hy=>?_,h.told,fun p hp=>?_,h.th,h.hq,fun y hy hB=>?_,fun s hs' h0 p hp=>?_⟩
 ·have:=xq (l:=(Cy n.DK.DI.SD x).map (·.PE)) (List.pairwise_map.2 h9) (n:=64) (id:=n.DK.DI.ID) ⟨h6.id0,h8⟩ fun p hp'=>by
   obtain ⟨y,hy,rfl⟩:=List.mem_map.1 hp';rcases Fk.1 hy with rfl | hy
   ·exact hp
   ·exact h.peer0 hy
  rw [List.length_map] at this;show (Cy n.DK.DI.SD x).length<64;omega
 ·rcases Fk.1 hy with rfl | hy
  ·exact ⟨hp.1,hp.2.2,Om,he.2,Om,Om,hd⟩
  ·exact h6.side y hy
 ·obtain ⟨y,hy,e⟩:=h.dr.has p hp;exact ⟨y,Fk.2 (.inr hy),e⟩
 ·obtain ⟨hk,hne⟩:=E k hk;have hm:=h.may k hk;refine ⟨fun y hy=>?_,hm.2.1,hm.2.2.1,?_,hm.2.2.2.2⟩
  ·rcases Fk.1 hy with rfl | hy
   ·exact fun e=>hne e.symm
   ·exact hm.1 y hy
  ·show BR (D9 n.KN x.PE x.EP) k.PE<k.EP;rw [g9 h.kup,if_neg hne];exact hm.2.2.2.1
 ·rcases aY h.kup hk with rfl | ⟨hk,_⟩
  ·exact ⟨hp.1,hp.2.1,he⟩
  ·exact h.kr k hk
 ·show y.PE<64∧1≤y.EP∧BR (D9 n.KN x.PE x.EP) y.PE=y.EP∧(y.SS=1∨y.SS=3→n.DK.DI.ID≤y.PE)
  rw [g9 h.kup];rcases Fk.1 hy with rfl | hy
  ·exact ⟨hp.2.1,he.1,if_pos rfl,fun _=>Om⟩
  ·rw [if_neg (hn y hy)];exact h.sd y hy
 ·obtain ⟨y,hy,e⟩:=h.tin p hp;exact ⟨y,Fk.2 (.inr hy),e⟩
 ·rcases Fk.1 hy with rfl | hy
  ·omega
  ·exact h.nl y hy hB
 ·obtain ⟨y,hy,e⟩:=h.wt s hs' h0 p hp;exact ⟨y,Fk.2 (.inr hy),e⟩
theorem OkN.ans1:∀(A:List KE) (n:NO),OkN n→n.AK=A→OkN ⟨⟨⟨n.DK.DI.ID,n.DK.DI.PH,D6 n.DK.DI.SD A⟩,n.DK.TH,n.DK.NE⟩,n.BK,DU n.KN A,n.TL,[]⟩
 | [],n,h,e=>by obtain ⟨d,b,k,t,a⟩:=n;dsimp only at e;subst e;exact h
 | k::A,n,h,e=>by have hm:=h.may k (by rw [e];simp);have hd:=h.dis;rw [e,List.map_cons,List.nodup_cons] at hd;have h6:=h.id;have h0:=Pp h.kup (fun k hk=>(h.kr k hk).2.2) k.PE;have h1:OkN (ct n (Cg k) A):=h.put (x:=Cg k) ⟨hm.2.1,by show k.PE<64;omega,by show k.PE≠_;omega⟩ hm.1 ⟨by show 1≤k.EP;omega,hm.2.2.2.2⟩ (.inl rfl) (by simp [Cg]) (fun q hq=>⟨by rw [e];simp [hq],fun eq=>hd.1 (List.mem_map.2 ⟨q,hq,eq⟩)⟩) hd.2;exact OkN.ans1 A (ct n (Cg k) A) h1 rfl
theorem OkN.ans {n:NO} (h:OkN n):OkN (AZ n):=by
 unfold AZ;split
 ·exact h
 ·exact OkN.ans1 n.AK n h rfl
theorem uk {n:NO} (h:BkOK n.BK) {s:SE} {l:List SE} (hb:n.BK.SE=s::l):s.SS=1∨s.SS=0:=by have:=(h.ok s (by rw [hb];simp)).st;omega
theorem xu {n:NO} {s:SE} (h:Cf n=some s):∃l,n.BK.SE=s::l∧s.SS=0:=by
 unfold Cf at h;split at h
 ·simp at h
 ·rename_i s' l hb;split at h
  ·simp at h;subst h;exact ⟨l,hb,by assumption⟩
  ·simp at h
theorem OkN.thi {n:NO} (h:OkN n):OkN (BM n):=by
 unfold BM CJ;cases hw:Cf n with
 | none=>exact h
 | some s=>
   dsimp only;split
   ·rename_i h0;obtain ⟨l,hb,hs⟩:=xu hw;have h6:=(CR _).1 h.bk;have hm:s∈n.BK.SE:=by rw [hb];simp
    have hok:=h6.ok s hm;have hl:=h.wt s hm hs;refine {h with dr:=⟨h.dr.din,by show (0:Int)≤1;omega,by show (1:Int)≤2;omega,hok.up,fun e=>by simp at e,fun p hp=>?_⟩,th:=?_,hq:=.inr ?_,nl:=fun x hx hn e3=>?_}
    ·obtain ⟨x,hx,_,e⟩:=hl p hp;exact ⟨x,hx,e⟩
    ·have:I8 n=false:=by unfold I8;rw [hb];simp [hs]
     show (1:Int)=2↔I8 n=true;rw [this];simp
    ·show (match n.BK.SE with | []=>false | s'::_=>decide (s'.NE=s.NE))=true;rw [hb];simp
    ·obtain ⟨y,hy,h8,e⟩:=hl x.PE hn;have:=fg h.rowS.up hx hy e.symm;subst this;omega
   ·exact h
theorem rL {n:NO} (h:OkN n):0≤Gw n∧Gw n≤2:=by have h0:=h.dr.din.p0;have h2:=h.dr.din.p2;unfold Gw;split<;>omega
theorem OkN.hun {n:NO} (h:OkN n):OkN (BB n):=by have hp:=rL h;exact {h with dr:= {h.dr with din:= {h.dr.din with p0:=hp.1,p2:=hp.2}}}
theorem OkN.pre {n:NO} (h:OkN n):OkN (Bj n):=h.ans.thi.hun
theorem OkN.go {n:NO} (h:OkN n):GoN n:=by have h1:=h.dr.din.len;have h2:=h.askedL;have h3:=h.knownL;have h4:=(CR _).1 h.bk;have h5:=h.toldL;have h6:=h.needL;have h8:=h.id;exact ⟨h.rowS,h.rowK,⟨fun k hk=>by have:=h.may k hk;omega,fun k hk=>(h.may k hk).1,h.dis⟩,Om,Om,(Tz _).2 h.pre.dr,h4.few,h.bk,Om,Om,fun s hs=>by have:=b9 (h4.ok s hs).nb;omega⟩
def CN (x:SX):Int×Int×Int:=(x.PE,x.EP,x.SS)
def fh (d:DK) (x:SX):SX:=Ca (Cu d x) d.TH (Cl (Bo d) x)
theorem TA (d:DK):(bc d).DI.SD=d.DI.SD.map (fh d):=by show Gg d=_;unfold Gg;rw [Hf,List.map_map];refine List.map_congr_left fun x _=>?_;show Ca (Cu d (Cl (Bo d) x)) d.TH _=Ca (Cu d x) d.TH _;rw [show Cu d (Cl (Bo d) x)=Cu d x by unfold Cu;rw [(M8 (Bo d) x).1]]
theorem gy (d:DK) (x:SX):CN (fh d x)=CN x:=by obtain ⟨p1,p2,p3,_⟩:=Pf (Cu d x) d.TH (Cl (Bo d) x);obtain ⟨q1,q2,q3,_⟩:=M8 (Bo d) x;unfold CN fh;rw [p1,p2,p3,q1,q2,q3]
theorem jr (d:DK):Gh d=d.TH∨d.TH=1∧Gh d=2∧∀x∈(bc d).DI.SD,x.PE∈d.NE→x.BO=true:=by
 unfold Gh;cases hh:decide (d.TH=1)&&(Gg d).all (fun x=>!Cu d x||x.BO) with
 | false=>left;rfl
 | true=>right;rw [Bool.and_eq_true,decide_eq_true_eq,List.all_eq_true] at hh;refine ⟨hh.1,rfl,fun x hx hn=>?_⟩;have:=hh.2 x hx;unfold Cu at this;simpa [hn] using this
structure FireR (a b:DK):Prop where
 id:b.DI.ID=a.DI.ID
 need:b.NE=a.NE
 core:b.DI.SD.map CN=a.DI.SD.map CN
 th:b.TH=a.TH∨a.TH=1∧b.TH=2
theorem FireR.refl (a:DK):FireR a a:=⟨rfl,rfl,rfl,.inl rfl⟩
theorem FireR.once {a b:DK} (h:FireR a b):FireR a (bc b):=by
 refine ⟨h.id,h.need,?_,?_⟩
 ·rw [TA,List.map_map,←h.core];exact List.map_congr_left fun x _=>gy b x
 ·show Gh b=a.TH∨a.TH=1∧Gh b=2;have:=h.th;rcases jr b with e | ⟨e1,e2,_⟩
  ·rw [e];exact this
  ·omega
theorem gc {P:DK→Prop} (hs:∀d,P d→P (bc d)):∀(n:Nat) (d:DK) (out:List ML),P d→P (Cm n d out).1
 | 0,_,_,h=>h
 | n+1,d,out,h=>by
   unfold Cm;split
   ·exact h
   ·exact gc hs n _ _ (hs d h)
theorem fp (d:DK):FireR d (Bv d).1:=gc (P:=FireR d) (fun _ h=>h.once) 300 d [] (FireR.refl d)
theorem cE {S S':List SX} (h:S'.map CN=S.map CN) {x:SX} (hx:x∈S'):∃y∈S,y.PE=x.PE∧y.EP=x.EP∧y.SS=x.SS:=by
 have:CN x∈S.map CN:=by rw [←h];exact List.mem_map_of_mem hx
 obtain ⟨y,hy,e⟩:=List.mem_map.1 this;unfold CN at e;simp only [Prod.mk.injEq] at e;exact ⟨y,hy,e⟩
theorem oL {S S':List SX} (h:S'.map CN=S.map CN):S'.map (·.PE)=S.map (·.PE):=by have:=congrArg (List.map fun c:Int×Int×Int=>c.1) h;rw [List.map_map,List.map_map] at this;exact this
theorem eZ:∀(n:Nat) (d:DK) (out:List ML),Ch d.DI=true→mu d<n→bc (Cm n d out).1=(Cm n d out).1
 | 0,_,_,_,h=>by omega
 | n+1,d,out,hk,h=>by
   have hp:=Y2 hk;unfold Cm;by_cases hq:bc d=d
   ·rw [if_pos hq];exact hq
   ·rw [if_neg hq];rcases Y5 hp.1 hp.2 with h1 | h1
    ·exact absurd h1.1 hq
    ·exact eZ n (bc d) _ (lU hk) Om
theorem qD {d:DK} (h:Ch d.DI=true):bc (Bv d).1=(Bv d).1:=eZ 300 d [] h (by have:=gT h;omega)
theorem qC {d:DK} (h:bc d=d):Bv d=(d,[]):=by unfold Bv Cm;rw [if_pos h]
theorem DrOK.once {d:DK} (h:DrOK d):DrOK (bc d):=by have hk:=(Y1 _).1 (lU ((Y1 _).2 h.din));have hr:=(FireR.refl d).once;have ht:=hr.th;have h0:=h.t0;have h2:=h.t2;refine ⟨hk,Om,Om,h.up,fun e=>h.nz Om,fun p hp=>?_⟩;obtain ⟨x,hx,e⟩:=h.has p hp;obtain ⟨y,hy,e1,_⟩:=cE hr.core.symm hx;exact ⟨y,hy,Om⟩
theorem DrOK.fire {d:DK} (h:DrOK d):DrOK (Bv d).1:=gc (P:=DrOK) (fun _ h=>h.once) 300 d [] h
def BZ (d:DK):Prop:=d.TH=2→∀x∈d.DI.SD,x.PE∈d.NE→x.BO=true
theorem yi (ph:Int) (x:SX):(BV ph x).BO=x.BO∧(BV ph x).Ask=x.Ask:=by unfold BV DG;split<;>split<;>exact ⟨rfl,rfl⟩
theorem qz (d:DI) (x:SX):(Cl d x).BO=x.BO∧(Cl d x).Ask=x.Ask:=by unfold Cl;split<;>exact yi _ _
theorem yj {d:DK} (h:BZ d):BZ (bc d):=by
 intro h2 x hx hn;have h6:=hx;rw [TA] at hx;obtain ⟨y,hy,rfl⟩:=List.mem_map.1 hx;have h2:Gh d=2:=h2;rcases jr d with e | ⟨_,_,e⟩
 ·have hd:d.TH=2:=by omega
  have hc:=gy d y;unfold CN at hc;simp only [Prod.mk.injEq] at hc;have hn:y.PE∈d.NE:=by rw [←hc.1];exact hn
  have hb:=h hd y hy hn;unfold fh Ca DW Fb Cu;rw [hd];simp [hn,(qz (Bo d) y).1,hb]
 ·exact e _ h6 hn
theorem uw {d:DK} (h:BZ d):BZ (Bv d).1:=gc (P:=BZ) (fun _ h=>yj h) 300 d [] h
def gn (d:DK):Prop:=d.DI.PH≠0∧∃x∈d.DI.SD,x.SS=1
theorem yk {d:DK} (h:gn d):gn (bc d):=by
 obtain ⟨h0,x,hx,h1⟩:=h;refine ⟨?_,?_⟩
 ·show (Cb (Bo d)).PH≠0;have hp:Cx d≠0:=by unfold Cx;have:d.DI.SD.any (fun x=>decide (x.SS=1))=true:=List.any_eq_true.2 ⟨x,hx,by simpa using h1⟩;rw [this,DN h0];simp [h0]
  rcases gS (Bo d) with ⟨e,_⟩ | ⟨_,e⟩
  ·rw [e];exact hp
  ·rw [e];omega
 ·obtain ⟨y,hy,_,_,e⟩:=cE ((FireR.refl d).once).core.symm hx;exact ⟨y,hy,Om⟩
theorem yl {d:DK} (h:gn d):gn (Bv d).1:=gc (P:=gn) (fun _ h=>yk h) 300 d [] h
def fq (d:DK):Prop:=d.DI.PH=2∧∃x∈d.DI.SD,x.SS=1
theorem ym {d:DK} (h:fq d):fq (bc d):=by
 obtain ⟨h0,x,hx,h1⟩:=h;refine ⟨?_,?_⟩
 ·show (Cb (Bo d)).PH=2;have hp:Cx d=2:=by unfold Cx;have:d.DI.SD.any (fun x=>decide (x.SS=1))=true:=List.any_eq_true.2 ⟨x,hx,by simpa using h1⟩;rw [this,h0];simp
  rcases gS (Bo d) with ⟨e,_⟩ | ⟨_,e⟩
  ·rw [e];exact hp
  ·exact e
 ·obtain ⟨y,hy,_,_,e⟩:=cE ((FireR.refl d).once).core.symm hx;exact ⟨y,hy,Om⟩
theorem yn {d:DK} (h:fq d):fq (Bv d).1:=gc (P:=fq) (fun _ h=>ym h) 300 d [] h
def Ll (id:Int) (S:List SX) (m:ML):Prop:=m.From=id∧(∃x∈S,x.PE=m.To)∧m.Msg.Num=0
theorem uy {id:Int} {nd:Bool} {th:Int} {x:SX} {m:ML} (h:m∈CG id nd th x):m.From=id∧m.To=x.PE∧m.Msg.Num=0:=by
 unfold CG at h;rw [List.mem_append] at h;rcases h with h | h
 ·split at h
  ·simp at h;subst h;exact ⟨rfl,rfl,rfl⟩
  ·simp at h
 ·split at h
  ·simp at h;subst h;exact ⟨rfl,rfl,rfl⟩
  ·simp at h
theorem tD {d:DK} {m:ML} (h:m∈Dp d):Ll d.DI.ID d.DI.SD m:=by
 unfold Dp at h;rw [List.mem_append] at h;rcases h with h | h
 ·unfold I4 at h;obtain ⟨x,hx,hm⟩:=List.mem_flatMap.1 h;obtain ⟨h1,h2,_,_,h3⟩:=qG hm;exact ⟨h1,⟨x,hx,h2.symm⟩,h3⟩
 ·obtain ⟨x,hx,hm⟩:=List.mem_flatMap.1 h;obtain ⟨h1,h2,h3⟩:=uy hm;rw [Hf] at hx;obtain ⟨y,hy,rfl⟩:=List.mem_map.1 hx;exact ⟨h1,⟨y,hy,by rw [h2,(M8 (Bo d) y).1]⟩,h3⟩
theorem f0 {id:Int} {S:List SX}:∀(n:Nat) (d:DK) (out:List ML),d.DI.ID=id→d.DI.SD.map CN=S.map CN→(∀m∈out,Ll id S m)→∀m∈(Cm n d out).2,Ll id S m
 | 0,_,_,_,_,h=>h
 | n+1,d,out,h1,h2,h=>by
   unfold Cm;split
   ·exact h
   ·refine f0 n (bc d) _ h1 ?_ fun m hm=>?_
    ·rw [TA,List.map_map,←h2];exact List.map_congr_left fun x _=>gy d x
    ·rcases List.mem_append.1 hm with hm | hm
     ·exact h m hm
     ·obtain ⟨q1,⟨x,hx,q2⟩,q3⟩:=tD hm;obtain ⟨y,hy,e,_⟩:=cE h2 hx;exact ⟨Om,⟨y,hy,Om⟩,q3⟩
theorem qE {d:DK}:∀m∈(Bv d).2,Ll d.DI.ID d.DI.SD m:=f0 300 d [] rfl rfl (by simp)
theorem Zz (n:NO):bp n=n.BK∧CO n=[]∨∃s l,n.BK.SE=s::l∧s.SS=0∧n.DK.TH=2∧bp n=⟨n.BK.LA,⟨s.ID,s.NE,1,s.Age⟩::l⟩∧CO n=[⟨1,n.DK.DI.ID,s.ID,0,[]⟩]:=by
 unfold bp CO Cf;cases hb:n.BK.SE with
 | nil=>left;exact ⟨rfl,rfl⟩
 | cons s l=>
   dsimp only;by_cases h0:s.SS=0
   ·rw [if_pos h0,if_pos h0];by_cases h2:n.DK.TH=2
    ·right;rw [if_pos h2];dsimp only;rw [if_pos h2];exact ⟨s,l,rfl,h0,h2,rfl,rfl⟩
    ·left;rw [if_neg h2];dsimp only;rw [if_neg h2];exact ⟨rfl,rfl⟩
   ·left;rw [if_neg h0,if_neg h0];exact ⟨rfl,rfl⟩
theorem BkOK.grant {b:BK} (h:BkOK b) {s:SE} {l:List SE} (e:b.SE=s::l):BkOK ⟨b.LA,⟨s.ID,s.NE,1,s.Age⟩::l⟩:=by
 have h1:=h.up;have h2:=h.len;have h3:=h.tl;rw [e] at h1 h2 h3;have hs:=h.ok s (by rw [e];simp);refine ⟨h.last,h2,?_,fun t ht=>?_,h3⟩
 ·rw [List.pairwise_cons] at h1 ⊢;exact h1
 ·rcases List.mem_cons.1 ht with rfl | ht
  ·exact {hs with st:=.inl rfl}
  ·exact h.ok t (by rw [e];exact List.mem_cons_of_mem _ ht)
theorem Hj (n:NO):ga n=true↔∃s l,n.BK.SE=s::l∧s.NE=n.DK.NE:=by
 unfold ga;split
 ·rename_i h;simp [h]
 ·rename_i s l h;rw [decide_eq_true_eq];constructor
  ·exact fun e=>⟨s,l,h,e⟩
  ·rintro ⟨s',l',h',e⟩;rw [h] at h';simp only [List.cons.injEq] at h';rw [h'.1];exact e
theorem F8 (n:NO):I8 n=true↔∃s l,n.BK.SE=s::l∧s.SS=1:=by
 unfold I8;split
 ·rename_i h;simp [h]
 ·rename_i s l h;rw [decide_eq_true_eq];constructor
  ·exact fun e=>⟨s,l,h,e⟩
  ·rintro ⟨s',l',h',e⟩;rw [h] at h';simp only [List.cons.injEq] at h';rw [h'.1];exact e
theorem OkN.thirsty {n:NO} (h:OkN n) (h1:n.DK.TH=1):∃s l,n.BK.SE=s::l∧s.SS=0∧s.NE=n.DK.NE:=by
 have hq:=h.hq;have h6:=(CR _).1 h.bk;obtain ⟨s,l,hb,hn⟩:=(Hj n).1 (by rcases hq with hq | hq;omega;exact hq);refine ⟨s,l,hb,?_,hn⟩;rcases uk h6 hb with e | e
 ·have:=h.th.2 ((F8 n).2 ⟨s,l,hb,e⟩);omega
 ·exact e
theorem OkN.drinks {n:NO} (h:OkN n) (h1:n.DK.TH=2):∃s l,n.BK.SE=s::l∧s.SS=1∧s.NE=n.DK.NE:=by have hq:=h.hq;obtain ⟨s,l,hb,hn⟩:=(Hj n).1 (by rcases hq with hq | hq;omega;exact hq);obtain ⟨s',l',hb',hs⟩:=(F8 n).1 (h.th.1 h1);rw [hb] at hb';simp only [List.cons.injEq] at hb';exact ⟨s,l,hb,by rw [hb'.1];exact hs,hn⟩
theorem OkN.nowait {n:NO} (h:OkN n) (h1:n.DK.TH=2):Cf n=none:=by obtain ⟨s,l,hb,hs,_⟩:=h.drinks h1;unfold Cf;rw [hb];dsimp only;rw [if_neg Om]
theorem OkN.firgra {m:NO} (h:OkN m):OkN (AL (BI m)):=by
 have hR:=fp m.DK;have h9:=(CR _).1 h.bk;have hw:=h.dr.fire;have h8:(AL (BI m)).DK.DI.ID=m.DK.DI.ID:=hR.id;have side:∀ {x:SX},x∈(AL (BI m)).DK.DI.SD→∃y∈m.DK.DI.SD,y.PE=x.PE∧y.EP=x.EP∧y.SS=x.SS:=fun hx=>cE hR.core hx;have edis:∀ {x:SX},x∈m.DK.DI.SD→∃y∈(AL (BI m)).DK.DI.SD,y.PE=x.PE∧y.EP=x.EP∧y.SS=x.SS:=fun hx=>cE hR.core.symm hx;have hg:=Zz (BI m);have hb':(AL (BI m)).BK=bp (BI m):=rfl;have ht':(AL (BI m)).DK.TH=(Bv m.DK).1.TH:=rfl;have hA:=hR.th;refine ⟨hw,?_,fun k hk=>?_,h.dis,by rw [h8];exact h.id,h.kup,h.kr,fun x hx=>?_,h.told,fun p hp=>?_,?_,?_,fun x hx hn=>?_,fun s hs h0 p hp=>?_⟩
 ·rw [hb',CR];rcases hg with ⟨e,_⟩ | ⟨s,l,e1,_,_,e2,_⟩
  ·rw [e];exact h9
  ·rw [e2];exact h9.grant e1
 ·have hm:=h.may k hk;rw [h8];exact ⟨fun x hx=>by obtain ⟨y,hy,e,_⟩:=side hx;rw [←e];exact hm.1 y hy,hm.2⟩
 ·obtain ⟨y,hy,e1,e2,e3⟩:=side hx;have:=h.sd y hy;rw [h8,←e1,←e2,←e3];exact this
 ·obtain ⟨x,hx,h1,e⟩:=h.tin p hp;obtain ⟨y,hy,e1,_,e3⟩:=edis hx;exact ⟨y,hy,Om,Om⟩
 ·rw [F8,hb',ht'];constructor
  ·intro h2;rcases hg with ⟨e,_⟩ | ⟨s,l,e1,_,_,e2,_⟩
   ·rw [e];rcases hA with q | ⟨q1,_⟩
    ·exact (F8 m).1 (h.th.1 Om)
    ·exfalso;obtain ⟨s,l,hb,hs,_⟩:=h.thirsty q1;have:bp (BI m)=⟨m.BK.LA,⟨s.ID,s.NE,1,s.Age⟩::l⟩:=by unfold bp;rw [show (BI m).BK.SE=s::l from hb];dsimp only;rw [if_pos hs,if_pos (show (BI m).DK.TH=2 from h2)];rfl
     rw [this] at e;have e:=congrArg BK.SE e;rw [show (BI m).BK.SE=s::l from hb] at e;simp only [List.cons.injEq] at e;have:=congrArg SE.SS e.1;simp only at this;omega
   ·rw [e2];exact ⟨_,l,rfl,rfl⟩
  ·rintro ⟨s',l',e',hs'⟩;rcases hg with ⟨e,_⟩ | ⟨s,l,e1,_,e3,_,_⟩
   ·rw [e] at e';have:=h.th.2 ((F8 m).2 ⟨s',l',e',hs'⟩);omega
   ·exact e3
 ·rw [ht'];rcases h.hq with q | q
  ·left;omega
  ·right;obtain ⟨s,l,hb,hn⟩:=(Hj m).1 q;rw [Hj,hb'];have h6:(AL (BI m)).DK.NE=m.DK.NE:=hR.need;rw [h6];rcases hg with ⟨e,_⟩ | ⟨s',l',e1,_,_,e2,_⟩
   ·rw [e];exact ⟨s,l,hb,hn⟩
   ·rw [e2];have e1:m.BK.SE=s'::l':=e1;rw [hb] at e1;simp only [List.cons.injEq] at e1;exact ⟨_,l',rfl,by rw [←hn,e1.1]⟩
 ·have h6:(AL (BI m)).DK.NE=m.DK.NE:=hR.need;rw [h6] at hn;obtain ⟨y,hy,e1,_,e3⟩:=side hx;rw [←e3];rw [←e1] at hn;exact h.nl y hy hn
 ·rw [hb'] at hs;have hs':s∈m.BK.SE:=by
   rcases hg with ⟨e,_⟩ | ⟨s',l',e1,_,_,e2,_⟩
   ·rw [e] at hs;exact hs
   ·rw [e2] at hs;rcases List.mem_cons.1 hs with rfl | hs
    ·exact absurd h0 (by show ¬(1:Int)=0;omega)
    ·have e1:m.BK.SE=s'::l':=e1;rw [e1];exact List.mem_cons_of_mem _ hs
  obtain ⟨x,hx,e0,e⟩:=h.wt s hs' h0 p hp;obtain ⟨y,hy,e1,_,e3⟩:=edis hx;exact ⟨y,hy,Om,Om⟩
theorem l9 (id:Int):∀(S:List SX) (T:List Int) (E:List ML) (p:Int),p∈(bd id S T E).1↔p∈T∨∃x∈S,x.SS=1∧x.PE=p
 | [],T,E,p=>by simp [bd]
 | x::S,T,E,p=>by
   have hs:=(DO (T++[x.PE])).2;unfold bd;cases hu:CK T x with
   | true=>
     rw [if_pos rfl,l9 id S];unfold CK ER at hu;rw [Bool.and_eq_true,decide_eq_true_eq] at hu;rw [hs,List.mem_append,List.mem_singleton];constructor
     ·rintro ((h | h) | ⟨y,hy,h⟩)
      ·exact .inl h
      ·exact .inr ⟨x,by simp,hu.1,h.symm⟩
      ·exact .inr ⟨y,List.mem_cons_of_mem _ hy,h⟩
     ·rintro (h | ⟨y,hy,h⟩)
      ·exact .inl (.inl h)
      ·rcases List.mem_cons.1 hy with rfl | hy
       ·exact .inl (.inr h.2.symm)
       ·exact .inr ⟨y,hy,h⟩
   | false=>
     rw [if_neg (by simp),l9 id S];unfold CK ER at hu;rw [Bool.and_eq_false_iff,decide_eq_false_iff_not,Bool.not_eq_false',decide_eq_true_eq] at hu;constructor
     ·rintro (h | ⟨y,hy,h⟩)
      ·exact .inl h
      ·exact .inr ⟨y,List.mem_cons_of_mem _ hy,h⟩
     ·rintro (h | ⟨y,hy,h⟩)
      ·exact .inl h
      ·rcases List.mem_cons.1 hy with rfl | hy
       ·rcases hu with hu | hu
        ·exact absurd h.1 hu
        ·rw [h.2] at hu;exact .inl hu
       ·exact .inr ⟨y,hy,h⟩
theorem md (id:Int):∀(S:List SX) (T:List Int) (E:List ML),T.Pairwise (· < ·)→(bd id S T E).1.Pairwise (· < ·)
 | [],T,E,h=>h
 | x::S,T,E,h=>by
   unfold bd;split
   ·exact md id S _ _ (DO _).1
   ·exact md id S _ _ h
theorem cN (id:Int) (J:List SX):∀(S:List SX) (T:List Int) (E:List ML),(∀x∈S,x∈J)→(∀m∈E,Ll id J m)→∀m∈(bd id S T E).2,Ll id J m
 | [],T,E,_,h=>h
 | x::S,T,E,hS,h=>by
   unfold bd;split
   ·refine cN id J S _ _ (fun y hy=>hS y (List.mem_cons_of_mem _ hy)) fun m hm=>?_;rcases List.mem_append.1 hm with hm | hm
    ·exact h m hm
    ·simp at hm;subst hm;exact ⟨rfl,⟨x,hS x (by simp),rfl⟩,rfl⟩
   ·exact cN id J S _ _ (fun y hy=>hS y (List.mem_cons_of_mem _ hy)) h
theorem uH (id:Int):∀(S:List SX) (T:List Int) (E:List ML),(∀x∈S,CK T x=false)→bd id S T E=(T,E)
 | [],T,E,_=>rfl
 | x::S,T,E,h=>by unfold bd;rw [h x (by simp),if_neg (by simp)];exact uH id S T E fun y hy=>h y (List.mem_cons_of_mem _ hy)
theorem YD (n:NO) (p:Int):p∈(Dr n).1↔p∈n.TL∨n.DK.DI.PH=2∧∃x∈n.DK.DI.SD,x.SS=1∧x.PE=p:=by
 unfold Dr;split
 ·rename_i h;rw [l9];simp [h]
 ·rename_i h;simp [h]
theorem OkN.tel {m:NO} (h:OkN m):OkN (CI m):=by
 refine {h with told:=?_,tin:=fun p hp=>?_}
 ·show (Dr m).1.Pairwise _;unfold Dr;split
  ·exact md _ _ _ _ h.told
  ·exact h.told
 ·rcases (YD m p).1 hp with hp | ⟨_,hp⟩
  ·exact h.tin p hp
  ·exact hp
theorem Tp {id th:Int} {N:List Int} {S:List SX} {x:SX} (h:x∈B0 id th N S):∃y∈S,(x=y∧C1 th N y=false)∨(C1 th N y=true∧id<y.PE∧x={y with SS:=3}):=by
 obtain ⟨y,hy,e⟩:=List.mem_filterMap.1 h;refine ⟨y,hy,?_⟩;unfold DJ at e;cases hg:C1 th N y with
 | false=>rw [hg,if_neg (by simp)] at e;simp at e;exact .inl ⟨e.symm,rfl⟩
 | true=>
   rw [hg,if_pos rfl] at e;split at e
   ·simp at e;exact .inr ⟨rfl,by assumption,e.symm⟩
   ·simp at e
theorem yo {id th:Int} {N:List Int} {S:List SX} {y:SX} (h:y∈S) (hg:C1 th N y=false):y∈B0 id th N S:=List.mem_filterMap.2 ⟨y,h,by unfold DJ;rw [hg,if_neg (by simp)]⟩
theorem i5 {th:Int} {N:List Int} {x:SX} (h:C1 th N x=true):x.SS=2:=by unfold C1 at h;rw [Bool.and_eq_true,decide_eq_true_eq] at h;exact h.1
theorem Zw {th:Int} {N:List Int} {x:SX} (h:x.SS≠2):C1 th N x=false:=by unfold C1;rw [DN h];rfl
theorem OkN.needed {m:NO} (h:OkN m) {x:SX} (hx:x∈m.DK.DI.SD) (hn:x.PE∈m.DK.NE):C1 m.DK.TH m.DK.NE x=false:=by
 cases hg:C1 m.DK.TH m.DK.NE x with
 | false=>rfl
 | true=>
   exfalso;have h2:=i5 hg;unfold C1 at hg;rw [DT h2,DT hn] at hg;simp at hg;have h0:=h.dr.t0;have ht:=h.dr.t2;have hz:m.DK.TH≠0:=fun e=>by rw [h.dr.nz e] at hn;simp at hn
   obtain ⟨s,l,hb,hs,e⟩:=h.thirsty Om;obtain ⟨y,hy,h6,ey⟩:=h.wt s (by rw [hb];simp) hs x.PE (by rw [e];exact hn);have:=fg h.rowS.up hx hy ey.symm;subst this;omega
theorem OkN.lea {m:NO} (h:OkN m):OkN (br m):=by
 have h8:∀ {x:SX},x∈(br m).DK.DI.SD→∃y∈m.DK.DI.SD,(x=y∧C1 m.DK.TH m.DK.NE y=false)∨(C1 m.DK.TH m.DK.NE y=true∧m.DK.DI.ID<y.PE∧x={y with SS:=3}):=fun hx=>Tp hx;have hw:∀ {x:SX},x∈(br m).DK.DI.SD→∃y∈m.DK.DI.SD,x.PE=y.PE:=fun hx=>by
  obtain ⟨y,hy,(⟨rfl,_⟩ | ⟨_,_,rfl⟩)⟩:=h8 hx
  ·exact ⟨_,hy,rfl⟩
  ·exact ⟨y,hy,rfl⟩
 have h9:∀ {y:SX},y∈m.DK.DI.SD→C1 m.DK.TH m.DK.NE y=false→y∈(br m).DK.DI.SD:=fun hy hg=>yo hy hg;have h6:=h.dr.din;refine ⟨⟨⟨h6.id0,h6.p0,h6.p2,?_,?_,fun x hx=>?_⟩,h.dr.t0,h.dr.t2,h.dr.up,h.dr.nz,fun p hp=>?_⟩,h.bk,fun k hk=>⟨fun x hx=>?_,(h.may k hk).2⟩,h.dis,h.id,h.kup,h.kr,fun x hx=>?_,h.told,fun p hp=>?_,h.th,h.hq,fun x hx hn=>?_,fun s hs h0 p hp=>?_⟩
 ·have:=t7 m.DK.DI.ID m.DK.TH m.DK.NE m.DK.DI.SD;have:=h6.len;show (B0 _ _ _ _).length<64;omega
 ·show (B0 _ _ _ _).Pairwise _;unfold B0;rw [List.pairwise_filterMap];refine h6.up.imp fun {a b} hab y hy z hz=>?_;have e:∀ {a y:SX},DJ m.DK.DI.ID m.DK.TH m.DK.NE a=some y→y.PE=a.PE:=by
   intro a y hy;unfold DJ at hy;split at hy
   ·split at hy
    ·simp at hy;subst hy;rfl
    ·simp at hy
   ·simp at hy;subst hy;rfl
  rw [e hy,e hz];exact hab
 ·obtain ⟨y,hy,(⟨rfl,_⟩ | ⟨_,_,rfl⟩)⟩:=h8 hx
  ·exact h6.side _ hy
  ·have:=h6.side y hy;exact ⟨this.lo,this.ne,this.e0,this.e1,by show (0:Int)≤3;omega,by show (3:Int)≤3;omega,this.df⟩
 ·obtain ⟨x,hx,e⟩:=h.dr.has p hp;exact ⟨x,h9 hx (h.needed hx (by rw [e];exact hp)),e⟩
 ·obtain ⟨y,hy,e⟩:=hw hx;rw [e];exact (h.may k hk).1 y hy
 ·obtain ⟨y,hy,(⟨rfl,_⟩ | ⟨_,hi,rfl⟩)⟩:=h8 hx
  ·exact h.sd _ hy
  ·have:=h.sd y hy;exact ⟨this.1,this.2.1,this.2.2.1,fun _=>by show m.DK.DI.ID≤y.PE;omega⟩
 ·obtain ⟨x,hx,h1,e⟩:=h.tin p hp;exact ⟨x,h9 hx (Zw Om),h1,e⟩
 ·obtain ⟨y,hy,(⟨rfl,_⟩ | ⟨hg,_,rfl⟩)⟩:=h8 hx
  ·exact h.nl _ hy hn
  ·have:=h.needed hy hn;rw [hg] at this;simp at this
 ·obtain ⟨x,hx,e0,e⟩:=h.wt s hs h0 p hp;exact ⟨x,h9 hx (Zw Om),e0,e⟩
theorem OkN.once {n:NO} (h:OkN n):OkN (AN n):=h.pre.firgra.tel.lea
theorem yp (x y:KE):(decide (x.PE=y.PE)&&(decide (x.EP=y.EP)&&true))=decide (x=y):=by obtain ⟨a,b⟩:=x;obtain ⟨c,d⟩:=y;simp only [KE.mk.injEq,Bool.and_true];by_cases h1:a=c<;>by_cases h2:b=d<;>simp [h1,h2]
theorem kg (l m:List KE) (hl:l.length≤1000000):Ol l m=some (decide (l=m)):=by
 simp only [Ol,Mp];by_cases h:l.length=m.length
 ·simp only [h,decide_true,Bool.not_true,Aa];rw [fL l m _ (fun x y=>decide (x=y)) h Om (fun k x y hx hy=>by simp only [Xa,AQ hx,Ag,Ar hx,Ar hy,OB,yp,EA hx (show l.length≤4000000000000000000 by omega),Je];cases decide (x=y)<;>rfl) (by simp only [Xa,AT,Aa,X9,Option.map_some]),fe l m h]
 ·simp [h,Mo h]
theorem wc (x y:SE) (hx:x.NE.length≤1000000):L5 x y=some (decide (x=y)):=by obtain ⟨i,n,s,a⟩:=x;obtain ⟨i',n',s',a'⟩:=y;simp only at hx;simp only [L5,L6,TJ n n' hx,OB,SE.mk.injEq];by_cases h1:i=i'<;>by_cases h2:s=s'<;>by_cases h3:a=a'<;>by_cases h4:n=n'<;>simp [h1,h2,h3,h4]
theorem kR (b c:BK) (hb:DF b):O2 b c=some (decide (b=c)):=by
 obtain ⟨L,l⟩:=b;obtain ⟨L',m⟩:=c;have h1:l.length≤1000000:=hb.1;have h2:∀s∈l,s.NE.length≤1000000:=hb.2;have e:T7 l m (fun z=>L5 z.1 z.2)=some (decide (l=m)):=by
  simp only [T7,Mp];by_cases h:l.length=m.length
  ·simp only [h,decide_true,Bool.not_true,Aa];rw [fL l m _ (fun x y=>decide (x=y)) h Om (fun k x y hx hy=>by have hm:=h2 x (List.mem_of_getElem? hx);simp only [X8,AQ hx,Ag,Ar hx,Ar hy,OB,wc x y hm,EA hx (show l.length≤4000000000000000000 by omega),Je];cases decide (x=y)<;>rfl) (by simp only [X8,AT,Aa,X7,Option.map_some]),fe l m h]
  ·simp [h,Mo h]
 simp only [O2,SA,e,OB,BK.mk.injEq];by_cases q1:L=L'<;>by_cases q2:l=m<;>simp [q1,q2]
theorem vU (a b:NO) (h:FewN a):JE a b=some (decide (a=b)):=by have h1:=h.sides;have h2:=h.need;have h3:=h.told;have h4:=h.known;have h5:=h.asked;obtain ⟨d,k,K,T,A⟩:=a;obtain ⟨d',k',K',T',A'⟩:=b;simp only at h1 h2 h3 h4 h5;simp only [JE,JF,kC d d' Om Om,kR k k' h.bk,kg K K' Om,kg A A' Om,TJ T T' Om,OB,NO.mk.injEq];by_cases q1:d=d'<;>by_cases q2:k=k'<;>by_cases q3:K=K'<;>by_cases q4:T=T'<;>by_cases q5:A=A'<;>simp [q1,q2,q3,q4,q5]
theorem HP (l:List KE) (h:l.length≤1000000):Ek l=some l:=by simp only [Ek];rw [B5 _ _ Om (by simp;omega),List.nil_append]
theorem w3 (n:NO) (a b c d:Int) (h:FewN n):NP a b c d n.BK.SE n.TL n.DK.DI.SD n.DK.NE n.KN n.AK=some (n.DK.DI.SD,n.DK.NE,n.KN,n.TL,n.AK,n.BK.SE):=by
 have h1:=h.sides;have h2:=h.need;have h3:=h.told;have h4:=h.known;have h5:=h.asked;have h6:=h.book;dsimp only [NP,WL,WM];rw [Lz _ Om,OB,Ex _ Om,OB,HP _ Om,OB,Ex _ Om,OB,HP _ Om,OB,OU _ Om,OB];refine D0 n.BK.SE _ (fun pre=>((pre.length:Int),n.BK.SE)) _ (fun pre x post h0=>?_) ?_
 ·have hx:=BL h0;have hm:=BG h0;have hN:=h.needs x (Di h0);dsimp only [WP,WO];rw [AQ hx,Ag,Ar hx,OB,Ex _ Om,OB,AC Om,Int.toNat_natCast,HS hx,bb]
 ·dsimp only [WP,WN];rw [AT,Aa];rfl
theorem kN (n:NO) (h:FewN n):NN n=some (n.DK.DI.SD,n.DK.NE,n.KN,n.TL,n.AK,n.BK.SE):=by
 have h1:=h.sides;have h2:=h.need;have h3:=h.told;have h4:=h.known;have h5:=h.asked;have h6:=h.book;dsimp only [NN,WG,WH];rw [Lz _ Om,OB,Ex _ Om,OB,HP _ Om,OB,Ex _ Om,OB,HP _ Om,OB,OU _ Om,OB];refine D0 n.BK.SE _ (fun pre=>((pre.length:Int),n.BK.SE)) _ (fun pre x post h0=>?_) ?_
 ·have hx:=BL h0;have hm:=BG h0;have hN:=h.needs x (Di h0);dsimp only [WK,WJ];rw [AQ hx,Ag,Ar hx,OB,Ex _ Om,OB,AC Om,Int.toNat_natCast,HS hx,bb]
 ·dsimp only [WK,WI];rw [AT,Aa];rfl
structure Quiet (n:NO):Prop where
 ask:n.DK.DI.PH=2∨n.AK=[]
 thi:Cf n=none∨n.DK.TH≠0
 hun:n.DK.DI.PH≠0∨n.DK.DI.SD.any (CK n.TL)=false
 fire:bc n.DK=n.DK
 tel:n.DK.DI.PH≠2∨n.DK.DI.SD.any (CK n.TL)=false
 lea:n.DK.DI.SD.any (C1 n.DK.TH n.DK.NE)=false
theorem Quiet.pre {n:NO} (h:Quiet n):Bj n=n∧AZ n=n∧Gq n=[]∧Ha n=[]:=by
 obtain ⟨⟨⟨id,ph,S⟩,th,N⟩,B,K,T,A⟩:=n;have ha:=h.ask;have ht:=h.thi;have hh:=h.hun;simp only at ha ht hh;have e1:AZ ⟨⟨⟨id,ph,S⟩,th,N⟩,B,K,T,A⟩=⟨⟨⟨id,ph,S⟩,th,N⟩,B,K,T,A⟩∧Gq ⟨⟨⟨id,ph,S⟩,th,N⟩,B,K,T,A⟩=[]∧Ha ⟨⟨⟨id,ph,S⟩,th,N⟩,B,K,T,A⟩=[]:=by
  unfold AZ Gq Ha;dsimp only;split
  ·exact ⟨rfl,rfl,rfl⟩
  ·rename_i h2;rcases ha with ha | ha
   ·exact absurd ha h2
   ·subst ha;exact ⟨rfl,rfl,rfl⟩
 have e2:BM ⟨⟨⟨id,ph,S⟩,th,N⟩,B,K,T,A⟩=⟨⟨⟨id,ph,S⟩,th,N⟩,B,K,T,A⟩:=by
  unfold BM CJ;split
  ·rename_i s hw;rcases ht with ht | ht
   ·rw [hw] at ht;simp at ht
   ·dsimp only;rw [if_neg ht]
  ·rfl
 have e3:BB ⟨⟨⟨id,ph,S⟩,th,N⟩,B,K,T,A⟩=⟨⟨⟨id,ph,S⟩,th,N⟩,B,K,T,A⟩:=by
  unfold BB Gw;dsimp only;rcases hh with hh | hh
  ·rw [DN hh];rfl
  ·rw [hh,Bool.and_false];rfl
 unfold Bj;rw [e1.1,e2,e3];exact ⟨rfl,rfl,e1.2⟩
theorem Z3 {α:Type} {l:List α} {q:α→Bool} (h:l.any q=false):∀x∈l,q x=false:=by rw [List.any_eq_false] at h;intro x hx;simpa using h x hx
theorem Quiet.once {n:NO} (hk:OkN n) (h:Quiet n):AN n=n∧E6 n=[]∧bA n=[]:=by
 obtain ⟨p1,p2,p3,p4⟩:=h.pre;have hf:=qC h.fire;have hm:Aw n=n:=by unfold Aw;rw [p1];unfold BI;rw [hf]
 have hg:AL n=n∧CO n=[]:=by
  rcases Zz n with ⟨e1,e2⟩ | ⟨s,l,e1,e2,e3,_⟩
  ·exact ⟨by unfold AL;rw [e1],e2⟩
  ·exfalso;have:=hk.nowait e3;unfold Cf at this;rw [e1] at this;dsimp only at this;rw [if_pos e2] at this;simp at this
 have ht:CI n=n∧(Dr n).2=[]:=by
  have:Dr n=(n.TL,[]):=by
   unfold Dr;split
   ·rename_i h2;rcases h.tel with q | q
    ·exact absurd h2 q
    ·exact uH _ _ _ _ (Z3 q)
   ·rfl
  unfold CI;rw [this];exact ⟨rfl,rfl⟩
 have hl:=ZO (id:=n.DK.DI.ID) (Z3 h.lea);have h6:br n=n:=by unfold br;rw [hl.1]
 unfold AN E6 bA EK;rw [hm,hg.1,ht.1,h6,p1,p3,p4,hg.2,ht.2,hf,hl.2];exact ⟨rfl,rfl,rfl⟩
theorem Hb (n:NO):(AZ n).TL=n.TL∧(AZ n).BK=n.BK∧(AZ n).DK.TH=n.DK.TH∧(AZ n).DK.NE=n.DK.NE∧(AZ n).DK.DI.ID=n.DK.DI.ID∧(AZ n).DK.DI.PH=n.DK.DI.PH:=by unfold AZ;split<;>exact ⟨rfl,rfl,rfl,rfl,rfl,rfl⟩
theorem dI {n:NO} {x:SX} (h:x∈(AZ n).DK.DI.SD):x∈n.DK.DI.SD∨∃k∈n.AK,x=Cg k:=by
 unfold AZ at h;split at h
 ·exact .inl h
 ·exact Pc.1 h
theorem Z2 {n:NO} {x:SX} (h:x∈n.DK.DI.SD):x∈(AZ n).DK.DI.SD:=by
 unfold AZ;split
 ·exact h
 ·exact Pc.2 (.inl h)
theorem cR (n:NO):(BM n).DK.DI=n.DK.DI:=by
 show (CJ n).DI=_;unfold CJ;split
 ·split<;>rfl
 ·rfl
theorem mg (n:NO):(Bj n).DK.DI.SD=(AZ n).DK.DI.SD:=by show (BM (AZ n)).DK.DI.SD=_;rw [cR]
theorem mt (n:NO):(Bj n).DK.DI.ID=n.DK.DI.ID:=by show (BM (AZ n)).DK.DI.ID=_;rw [cR];exact (Hb n).2.2.2.2.1
theorem xt (n:NO):Cf (AZ n)=Cf n:=by unfold Cf;rw [(Hb n).2.1]
theorem jC (n:NO):(Bj n).DK.DI.PH=if decide (n.DK.DI.PH=0)&&(AZ n).DK.DI.SD.any (CK n.TL) then 1 else n.DK.DI.PH:=by show Gw (BM (AZ n))=_;unfold Gw;rw [cR,(Hb n).2.2.2.2.2,show (BM (AZ n)).TL=n.TL from (Hb n).1]
theorem jD (n:NO):(Cf n=none∨n.DK.TH≠0)∧(Bj n).DK.TH=n.DK.TH∧(Bj n).DK.NE=n.DK.NE∨n.DK.TH=0∧∃s,Cf n=some s∧(Bj n).DK.TH=1∧(Bj n).DK.NE=s.NE:=by
 have e1:(Bj n).DK.TH=(CJ (AZ n)).TH:=rfl;have e2:(Bj n).DK.NE=(CJ (AZ n)).NE:=rfl;rw [e1,e2];unfold CJ;rw [xt,(Hb n).2.2.1];cases hw:Cf n with
 | none=>left;exact ⟨.inl rfl,(Hb n).2.2.1,(Hb n).2.2.2.1⟩
 | some s=>
   by_cases h0:n.DK.TH=0
   ·right;dsimp only;rw [if_pos h0];exact ⟨h0,s,rfl,rfl,rfl⟩
   ·left;dsimp only;rw [if_neg h0];exact ⟨.inr h0,(Hb n).2.2.1,(Hb n).2.2.2.1⟩
theorem gO {n:NO} {x:SX} (h:x∈(Aw n).DK.DI.SD):∃y∈(AZ n).DK.DI.SD,y.PE=x.PE∧y.EP=x.EP∧y.SS=x.SS:=by have:=cE (fp (Bj n).DK).core h;rw [mg] at this;exact this
theorem tL {n:NO} {x:SX} (h:x∈(AN n).DK.DI.SD):∃y∈(AZ n).DK.DI.SD,y.PE=x.PE∧y.EP=x.EP∧(y.SS=x.SS∨y.SS=2∧x.SS=3):=by
 obtain ⟨z,hz,hq⟩:=Tp h;obtain ⟨y,hy,e1,e2,e3⟩:=gO (n:=n) hz;refine ⟨y,hy,?_⟩;rcases hq with ⟨rfl,_⟩ | ⟨hg,_,rfl⟩
 ·exact ⟨e1,e2,.inl e3⟩
 ·exact ⟨e1,e2,.inr ⟨by rw [e3];exact i5 hg,rfl⟩⟩
theorem xn {n:NO} {p:Int} (h:p∈n.TL):p∈(AN n).TL:=(YD (AL (Aw n)) p).2 (.inl (by show p∈(AZ n).TL;rw [(Hb n).1];exact h))
theorem bz {n:NO} (h:(AN n).DK.DI.SD.any (CK (AN n).TL)=true):∃z∈n.DK.DI.SD,CK n.TL z=true:=by
 obtain ⟨x,hx,hu⟩:=List.any_eq_true.1 h;unfold CK ER at hu ⊢;simp only [Bool.and_eq_true,decide_eq_true_eq,Bool.not_eq_true',decide_eq_false_iff_not] at hu ⊢;obtain ⟨y,hy,e1,e2,e3⟩:=tL hx;rcases dI hy with hy | ⟨k,_,rfl⟩
 ·exact ⟨y,hy,Om,fun hm=>hu.2 (by rw [←e1];exact xn hm)⟩
 ·exfalso;have:(Cg k).SS=0:=rfl;omega
def K9 (th:Int):Nat:=if th=0 then 2 else if th=1 then 1 else 0
def cG (n:NO):Bool:=n.DK.DI.SD.any (C1 n.DK.TH n.DK.NE)
def FS (n:NO):Bool:=n.DK.DI.SD.any (CK n.TL)
def Ov (n:NO):Nat:=bn (!n.AK.isEmpty)+K9 n.DK.TH+bn (decide (n.DK.DI.PH=0)&&FS n)+bn (!decide (bc n.DK=n.DK))+bn (FS n)+2*bn (cG n)
theorem LU (b:Bool):bn b≤1:=by cases b<;>simp [bn]
theorem yq {a b:Bool} (h:a=true→b=true):bn a≤bn b:=by
 cases a with
 | false=>simp [bn]
 | true=>rw [h rfl];exact Nat.le_refl _
theorem je {a:Bool} (h:a=false):bn a=0:=by rw [h];rfl
theorem dP {a:Bool} (h:a=true):bn a=1:=by rw [h];rfl
theorem js (n:NO):(AN n).AK=if n.DK.DI.PH=2 then n.AK else []:=by show (AZ n).AK=_;unfold AZ;split<;>rfl
theorem tH (n:NO):cG (AN n)=false:=by unfold cG;rw [List.any_eq_false];intro x hx;have:=tr _ _ _ _ x hx;rw [show (AN n).DK.TH=(CI (AL (Aw n))).DK.TH from rfl,show (AN n).DK.NE=(CI (AL (Aw n))).DK.NE from rfl,this];simp
theorem tO (n:NO) (h:OkN n):(K9 (AN n).DK.TH≤K9 n.DK.TH)∧((Cf n=none∨n.DK.TH≠0)∨K9 (AN n).DK.TH<K9 n.DK.TH):=by
 have hR:=(fp (Bj n).DK).th;have e:(AN n).DK.TH=(Bv (Bj n).DK).1.TH:=rfl;have h0:=h.dr.t0;have h2:=h.dr.t2;rw [e];unfold K9;rcases jD n with ⟨q1,q2,_⟩ | ⟨q1,s,_,q2,_⟩
 ·refine ⟨?_,.inl q1⟩
  (repeat' split)<;>omega
 ·refine ⟨?_,.inr ?_⟩<;>(repeat' split)<;>omega
theorem td {n:NO} (hg:cG n=false):∀x∈(Aw n).DK.DI.SD,C1 (Aw n).DK.TH (Aw n).DK.NE x=false:=by
 intro x hx;by_cases h2:x.SS=2
 ·obtain ⟨y,hy,e1,_,e3⟩:=gO hx;rcases dI hy with hy | ⟨k,_,rfl⟩
  ·have:=Z3 hg y hy;unfold C1 at this ⊢;rw [DT (show y.SS=2 by omega),Bool.true_and,Bool.not_eq_false',Bool.and_eq_true,decide_eq_true_eq,decide_eq_true_eq] at this;have hR:=fp (Bj n).DK;have h9:=hR.th;have h6:(Aw n).DK.NE=(Bj n).DK.NE:=hR.need;have h8:(Aw n).DK.TH=(Bv (Bj n).DK).1.TH:=rfl;rcases jD n with ⟨_,q2,q3⟩ | ⟨q1,_⟩
   ·rw [h6,q3,h8,DT (show (Bv (Bj n).DK).1.TH=2 by omega),←e1,DT this.2];simp
   ·omega
  ·exfalso;have:(Cg k).SS=0:=rfl;omega
 ·exact Zw h2
theorem tF {n:NO} (h:OkN n) (hg:cG n=false):bc (AN n).DK=(AN n).DK:=by
 have hc:=ZO (id:=(Aw n).DK.DI.ID) (td hg);have e:(AN n).DK=(Aw n).DK:=by show (⟨⟨(Aw n).DK.DI.ID,(Aw n).DK.DI.PH,B0 (Aw n).DK.DI.ID (Aw n).DK.TH (Aw n).DK.NE (Aw n).DK.DI.SD⟩,(Aw n).DK.TH,(Aw n).DK.NE⟩:DK)=_;rw [hc.1]
 rw [e];exact qD ((Y1 _).2 h.pre.dr.din)
theorem tJ {n:NO} (hu:FS (AN n)=true):(AN n).DK.DI.PH≠0:=by
 obtain ⟨z,hz,hz'⟩:=bz hu;have hs:z.SS=1:=by unfold CK ER at hz';rw [Bool.and_eq_true,decide_eq_true_eq] at hz';exact hz'.1
 have hb:gn (Bj n).DK:=by
  refine ⟨?_,z,by rw [mg];exact Z2 hz,hs⟩;rw [jC];split
  ·omega
  ·rename_i hc;intro e;exact hc (by rw [DT e,Bool.true_and];exact List.any_eq_true.2 ⟨z,Z2 hz,hz'⟩)
 exact (yl hb).1
theorem yr {n:NO} (h:fq n.DK):fq (Bj n).DK:=by obtain ⟨h1,x,hx,h2⟩:=h;refine ⟨?_,x,by rw [mg];exact Z2 hx,h2⟩;rw [jC,DN Om];exact h1
theorem tM {n:NO} (hp:n.DK.DI.PH=2):FS (AN n)=false:=by
 cases hu:FS (AN n) with
 | false=>rfl
 | true=>
   exfalso;obtain ⟨x,hx,h6⟩:=List.any_eq_true.1 hu;obtain ⟨z,hz,hz'⟩:=bz hu;have hs:z.SS=1:=by unfold CK ER at hz';rw [Bool.and_eq_true,decide_eq_true_eq] at hz';exact hz'.1
   have he:=yn (yr (n:=n) ⟨hp,z,hz,hs⟩);unfold CK ER at h6;simp only [Bool.and_eq_true,decide_eq_true_eq,Bool.not_eq_true',decide_eq_false_iff_not] at h6;refine h6.2 ?_;refine (YD (AL (Aw n)) x.PE).2 (.inr ⟨he.1,?_⟩);obtain ⟨y,hy,hq⟩:=Tp hx;rcases hq with ⟨rfl,_⟩ | ⟨_,_,rfl⟩
   ·exact ⟨_,hy,h6.1,rfl⟩
   ·exact absurd h6.1 (by show ¬(3:Int)=1;omega)
theorem ju {n:NO} (h:OkN n):Quiet n∨Ov (AN n)<Ov n:=by
 have a1:bn (!(AN n).AK.isEmpty)≤bn (!n.AK.isEmpty):=by
  rw [js];split
  ·exact Nat.le_refl _
  ·simp [bn]
 have a2:=tO n h;have a3:bn (decide ((AN n).DK.DI.PH=0)&&FS (AN n))=0:=je (by
  cases hu:FS (AN n) with
  | false=>simp
  | true=>rw [DN (tJ hu)];rfl)
 have a4:bn (FS (AN n))≤bn (FS n):=yq fun hu=>by obtain ⟨z,hz,hz'⟩:=bz hu;exact List.any_eq_true.2 ⟨z,hz,hz'⟩
 have a5:bn (cG (AN n))=0:=je (tH n);have a6:=LU (!decide (bc (AN n).DK=(AN n).DK));have a7:cG n=false→bn (!decide (bc (AN n).DK=(AN n).DK))=0:=fun hg=>je (by rw [DT (tF h hg)];rfl);unfold Ov;cases hg:cG n with
 | true=>right;rw [show bn true=1 from rfl,a3,a5];omega
 | false=>
   rw [a7 hg,a3,a5,show bn false=0 from rfl];by_cases c1:n.DK.DI.PH=2∨n.AK=[]
   ·by_cases c2:Cf n=none∨n.DK.TH≠0
    ·cases c3:decide (n.DK.DI.PH=0)&&FS n with
     | true=>right;rw [show bn true=1 from rfl];omega
     | false=>
       by_cases c4:bc n.DK=n.DK
       ·by_cases c5:n.DK.DI.PH=2∧FS n=true
        ·right;rw [dP c5.2,je (tM c5.1)];omega
        ·left;refine ⟨c1,c2,?_,c4,?_,hg⟩
         ·rw [Bool.and_eq_false_iff,decide_eq_false_iff_not] at c3;exact c3
         ·by_cases hp:n.DK.DI.PH=2
          ·right;cases hu:n.DK.DI.SD.any (CK n.TL) with
           | false=>rfl
           | true=>exact absurd ⟨hp,hu⟩ c5
          ·exact .inl hp
       ·right;rw [DN c4,show bn (!false)=1 from rfl];omega
    ·right;rcases a2.2 with q | q
     ·exact absurd q c2
     ·omega
   ·right;have c1:=not_or.1 c1;rw [js,if_neg c1.1];have:bn (!n.AK.isEmpty)=1:=dP (by cases he:n.AK with
     | nil=>exact absurd he c1.2
     | cons a l=>rfl)
    rw [this];have:bn (!([]:List KE).isEmpty)=0:=rfl;omega
theorem ys (n:NO):Ov n≤8:=by
 have b1:=LU (!n.AK.isEmpty);have b2:=LU (decide (n.DK.DI.PH=0)&&FS n);have b3:=LU (!decide (bc n.DK=n.DK));have b4:=LU (FS n);have b5:=LU (cG n);have:K9 n.DK.TH≤2:=by unfold K9;(repeat' split)<;>omega
 unfold Ov;omega
theorem uu {n:NO} (h:OkN n):Quiet n↔AN n=n:=by
 constructor
 ·exact fun q=>(q.once h).1
 ·intro e;rcases ju h with q | q
  ·exact q
  ·rw [e] at q;omega
def Gl:Nat→NO→List ML→List EV→NO×List ML×List EV
 | 0,n,E,V=>(n,E,V)
 | k+1,n,E,V=>if AN n=n then (n,E,V) else Gl k (AN n) (E++E6 n) (V++bA n)
def BE (n:NO) (E:List ML) (V:List EV):NO×List ML×List EV:=Gl 9 n E V
theorem jp {n:NO} (h:OkN n):(E6 n).length≤500:=by
 have h1:=h.askedL;have h2:=ud ((Tz _).2 h.pre.dr);have hm:OkN (AL (Aw n)):=h.pre.firgra;have h3:=hm.dr.din.len;have h4:(Dr (AL (Aw n))).2.length≤64:=by
  unfold Dr;split
  ·have:=YE (AL (Aw n)).DK.DI.ID (AL (Aw n)).DK.DI.SD (AL (Aw n)).TL [];simp only [List.length_nil] at this;omega
  ·simp
 have h5:(EK (CI (AL (Aw n)))).length≤64:=by have:=ZN (AL (Aw n)).DK.DI.ID (AL (Aw n)).DK.TH (AL (Aw n)).DK.NE (AL (Aw n)).DK.DI.SD;unfold EK;show (BJ (AL (Aw n)).DK.DI.ID (AL (Aw n)).DK.TH (AL (Aw n)).DK.NE (AL (Aw n)).DK.DI.SD).length≤64;omega
 have h6:(Gq n).length≤64:=by
  unfold Gq;split
  ·simp
  ·unfold bL;rw [List.length_map];omega
 unfold E6;simp only [List.length_append];omega
theorem jq {n:NO} (h:OkN n):(bA n).length≤500:=by
 have h1:=h.askedL;have h6:(Ha n).length≤64:=by
  unfold Ha;split
  ·simp
  ·unfold FX;rw [List.length_map];omega
 have:(CO (Aw n)).length≤1:=by rcases Zz (Aw n) with ⟨_,e⟩ | ⟨s,l,_,_,_,_,e⟩<;>rw [e]<;>simp
 unfold bA;rw [List.length_append];omega
def cU (r:NO×List ML×List EV):Int×Int×Int×Int×List SE×List Int×Int×List SX×List Int×List KE×List KE×List ML×List EV:=(r.1.DK.DI.ID,r.1.DK.DI.PH,r.1.DK.TH,r.1.BK.LA,r.1.BK.SE,r.1.TL,0,r.1.DK.DI.SD,r.1.DK.NE,r.1.KN,r.1.AK,r.2.1,r.2.2)
theorem lx (body:Int×Int×Int×Int×List SE×List Int×List ML×List KE×List EV×List KE×List Int×List SX→Option ((Int×Int×Int×Int×List SE×List Int×List ML×List KE×List EV×List KE×List Int×List SX) ⊕ (Int×Int×Int×Int×List SE×List Int×Int×List SX×List Int×List KE×List KE×List ML×List EV)))
  (hb:∀(n:NO) E V,OkN n→E.length≤600000→V.length≤600000→body (n.DK.DI.ID,n.DK.DI.PH,n.DK.TH,n.BK.LA,n.BK.SE,n.TL,E,n.KN,V,n.AK,n.DK.NE,n.DK.DI.SD) =
    if n=AN n then some (.inr (cU (AN n,E++E6 n,V++bA n))) else some (.inl ((AN n).DK.DI.ID,(AN n).DK.DI.PH,(AN n).DK.TH,(AN n).BK.LA,(AN n).BK.SE,(AN n).TL,E++E6 n,(AN n).KN,V++bA n,(AN n).AK,(AN n).DK.NE,(AN n).DK.DI.SD))):
  ∀(k:Nat) (n:NO) (E:List ML) (V:List EV),OkN n→Ov n<k→E.length+500*k≤500000→V.length+500*k≤500000→
   loop body (n.DK.DI.ID,n.DK.DI.PH,n.DK.TH,n.BK.LA,n.BK.SE,n.TL,E,n.KN,V,n.AK,n.DK.NE,n.DK.DI.SD)=some (cU (Gl k n E V))
 | 0,_,_,_,_,h,_,_=>by omega
 | k+1,n,E,V,hn,hm,hE,hV=>by
   have l1:=jp hn;have l2:=jq hn;rw [Bn,hb n E V hn Om Om];unfold Gl;by_cases hq:AN n=n
   ·obtain ⟨q1,q2,q3⟩:=((uu hn).2 hq).once hn;rw [if_pos hq.symm,if_pos hq,q2,q3,List.append_nil,List.append_nil,hq]
   ·rw [if_neg fun e=>hq e.symm,if_neg hq];refine lx body hb k (AN n) _ _ hn.once ?_ (by rw [List.length_append];omega) (by rw [List.length_append];omega);rcases ju hn with q | q
    ·exact absurd (q.once hn).1 hq
    ·omega
theorem wQ (f:Int) (n:NO) (E:List ML) (V:List EV) (hn:OkN n) (J:E.length≤600000) (U:V.length≤600000):
  (NP n.DK.DI.ID n.DK.DI.PH n.DK.TH n.BK.LA n.BK.SE n.TL n.DK.DI.SD n.DK.NE n.KN n.AK)=some (n.DK.DI.SD,n.DK.NE,n.KN,n.TL,n.AK,n.BK.SE)
  ∧NB n.DK.DI.ID n.DK.DI.PH n.DK.TH n.BK.LA n.BK.SE n.TL f n.DK.DI.SD n.DK.NE n.KN n.AK E V=some (H6 (AN n) (E++E6 n) (V++bA n))
  ∧JE n (AN n)=some (decide (n=AN n)):=
 ⟨w3 n _ _ _ _ hn.few,vZ f n hn.go E V J U,vU n _ hn.few⟩
theorem kT (n:NO) (h:OkN n) (V:List EV) (J:V.length≤100000):
  JM n.DK.DI.ID n.DK.DI.PH n.DK.TH n.BK.LA n.BK.SE n.TL 0 n.DK.DI.SD n.DK.NE n.KN n.AK V=some (cU (BE n [] V)):=by
 dsimp only [JM];rw [DT rfl,Bool.not_true,Aa];refine lx _ (fun m E V hm hE J=>?_) 9 n [] V h (by have:=ys n;omega) (by simp) Om;obtain ⟨e1,e2,e3⟩:=wQ 0 m E V hm hE J;dsimp only [aH];rw [e1,OB,e2,OB];have e3':JE m (AN m)=some (decide (m=AN m)):=e3;dsimp only [H6];rw [e3',OB];by_cases hq:m=AN m
 ·rw [if_pos hq,DT hq];rfl
 ·rw [if_neg hq,DN hq];rfl
theorem kU (a b c d e:Int) (B:List SE) (he:e≠0) (V:List EV) (N:List Int) (S:List SX) (T:List Int) (A K:List KE):
  JM a b c d B T e S N K A V=some (0,0,0,0,[],[],e,[],[],[],[],[],[]):=by
 dsimp only [JM];rw [DN he,Bool.not_false,Ag]
theorem lu {P:NO→List ML→List EV→Prop} (hs:∀n E V,OkN n→P n E V→P (AN n) (E++E6 n) (V++bA n)):∀(k:Nat) (n:NO) (E:List ML) (V:List EV),OkN n→P n E V→P (Gl k n E V).1 (Gl k n E V).2.1 (Gl k n E V).2.2
 | 0,_,_,_,_,h=>h
 | k+1,n,E,V,hn,h=>by
   unfold Gl;split
   ·exact h
   ·exact lu hs k _ _ _ hn.once (hs n E V hn h)
theorem fu {P:NO→List ML→List EV→Prop} (hs:∀n E V,OkN n→P n E V→P (AN n) (E++E6 n) (V++bA n)) {n:NO} {E:List ML} {V:List EV} (hn:OkN n) (h:P n E V):P (BE n E V).1 (BE n E V).2.1 (BE n E V).2.2:=lu hs 9 n E V hn h
theorem yt {n:NO} (h:OkN n) (E:List ML) (V:List EV):OkN (BE n E V).1:=fu (P:=fun n _ _=>OkN n) (fun _ _ _ h _=>h.once) h h
def Bw (p:Int) (s:SE):Bool:=decide (s.SS=0)&&decide (p∈s.NE)
def Co (p:Int) (l:List SE):List Int:=(l.filter (Bw p)).map (·.ID)
theorem kh (s:SE) (p:Int) (Pu:List Int) (hs:s.NE.length≤1000000) (hi:Pu.length≤1000000):NY s p Pu=some (Bw p s,if Bw p s then Pu++[s.ID] else Pu):=by simp only [NY,Sw,Sy,Gi s.NE p hs,OB];rw [B5 _ _ Om (by simp;omega),OB];unfold Bw;cases decide (s.SS=0)<;>cases decide (p∈s.NE)<;>rfl
theorem uI (p:Int) (l:List SE) (s:SE):Co p (l++[s])=if Bw p s then Co p l++[s.ID] else Co p l:=by unfold Co;rw [List.filter_append,List.map_append];cases h:Bw p s<;>simp [h]
theorem Me (p:Int) (l:List SE):(Co p l).length≤l.length:=by unfold Co;rw [List.length_map];exact List.length_filter_le _ _
theorem vd (p:Int) (l:List SE) (hl:l.length≤100000) (hn:∀s∈l,s.NE.length≤1000000):
  Tg p l=some (match l.findIdx? (Bw p) with | some i=>((i:Int),Co p (l.take (i+1))) | none=>(-1,[])):=by
 unfold Tg;have Ap:∀(post pre:List SE),l=pre++post→(∀s∈pre,Bw p s=false)→loop (Th p l) ((pre.length:Int),([]:List Int))=some (match l.findIdx? (Bw p) with | some i=>((i:Int),Co p (l.take (i+1))) | none=>(-1,[])):=by
  intro post;induction post with
  | nil=>
    intro pre h hp;have h:pre=l:=by simpa using h.symm
    subst h;have:pre.findIdx? (Bw p)=none:=by rw [List.findIdx?_eq_none_iff];exact hp
    rw [this,Bn];dsimp only [Th];rw [AT,Aa];rfl
  | cons x post ih=>
    intro pre h hp;have hx:=BL h;have hm:=BG h;rw [Bn];dsimp only [Th];rw [AQ hx,Ag,Ar hx,OB,kh x p [] (hn x (Di h)) (by simp),OB];cases hg:Bw p x with
    | true=>
      have hf:l.findIdx? (Bw p)=some pre.length:=by
       rw [List.findIdx?_eq_some_iff_getElem];refine ⟨Om,?_,fun j hj=>?_⟩
       ·have:l[pre.length]'Om=x:=(List.getElem?_eq_some_iff.1 hx).2;rw [this];exact hg
       ·have h6:l[j]?=pre[j]?:=by rw [h,List.getElem?_append_left hj]
        have:l[j]'Om∈pre:=by have e:l[j]?=some (l[j]'Om):=List.getElem?_eq_getElem _;rw [h6] at e;exact List.mem_of_getElem? e
        simpa using hp _ this
      rw [hf];have ht:l.take (pre.length+1)=pre++[x]:=by rw [h,show pre++x::post=(pre++[x])++post by simp,List.take_left' (by simp)]
      have hz:Co p pre=[]:=by unfold Co;rw [List.filter_eq_nil_iff.2 fun s hs=>by rw [hp s hs];simp];rfl
      dsimp only;rw [ht,uI,hg,hz];rfl
    | false=>
      have:=ih (pre++[x]) (by simpa using h) fun s hs=>by
       rcases List.mem_append.1 hs with hs | hs
       ·exact hp s hs
       ·simp at hs;subst hs;exact hg
      rw [bb] at this;rw [←this];dsimp only;rw [if_neg (by simp),Aa,AC Om]
 exact Ap l [] rfl (by simp)
theorem uX (p:Int) (l:List SE) (hl:l.length≤100000) (hn:∀s∈l,s.NE.length≤1000000):
  SY p l=some (Co p l,l.filter fun s=>!Bw p s):=by
 simp only [SY,vd p l hl hn,OB];cases hf:l.findIdx? (Bw p) with
 | none=>
   rw [List.findIdx?_eq_none_iff] at hf;dsimp only;rw [DT rfl,Ag,List.filter_eq_self.2 (fun x hx=>by rw [hf x hx];rfl)];have:Co p l=[]:=by unfold Co;rw [List.filter_eq_nil_iff.2 fun s hs=>by rw [hf s hs];simp];rfl
   rw [this]
 | some i=>
   obtain ⟨hi,hq,hB⟩:=List.findIdx?_eq_some_iff_getElem.1 hf;dsimp only;rw [DN Om,Aa,AC Om]
   let F:List SE→List SE:=fun pre=>pre.filter fun x=>!Bw p x
   have hF:∀pre post,l=pre++post→(F pre).length≤pre.length:=fun pre post _=>List.length_filter_le _ _;have Ap:=PM l (SZ p) (fun pre=>(((F pre).length:Int),(pre.length:Int),F pre++l.drop (F pre).length,Co p pre)) (fun _ _=>some (Co p l,F l)) (fun pre x post h=>?_) ?_ (l.drop (i+1)) (l.take (i+1)) (by simp)
   ·have e1:F (l.take (i+1))=l.take i:=by
     show (l.take (i+1)).filter _=_;rw [List.take_succ_eq_append_getElem hi,List.filter_append];have a1:(l.take i).filter (fun x=>!Bw p x)=l.take i:=by rw [List.filter_eq_self];intro x hx;obtain ⟨j,hj,rfl⟩:=List.mem_iff_getElem.1 hx;rw [List.getElem_take];have:=hB j (by simp at hj;omega);simpa using this
     have a2: [l[i]].filter (fun x=>!Bw p x)=[]:=by simp [hq]
     rw [a1,a2,List.append_nil]
    rw [e1] at Ap;have e2:(l.take i).length=i:=by simp;omega
    have e3:(l.take (i+1)).length=i+1:=by simp;omega
    rw [e2,e3,List.take_append_drop] at Ap;exact Ap
   ·left;refine ⟨?_,rfl⟩;have hx:=BL h;have hm:=BG h;have h8:=hF pre (x::post) h;have hE:=Me p pre;have h6:(F pre++l.drop (F pre).length).length=l.length:=by simp;omega
    have h9:(F pre++l.drop (F pre).length)[pre.length]?=some x:=by rw [List.getElem?_append_right h8,List.getElem?_drop,show (F pre).length+(pre.length-(F pre).length)=pre.length by omega];exact hx
    dsimp only [SZ];rw [AQ h9,Ag,Ar h9,OB,kh x p _ (hn x (Di h)) Om,OB];have hw:F (pre++[x])=F pre++(if Bw p x then [] else [x]):=by show (pre++[x]).filter _=_;rw [List.filter_append];congr 1;cases hC:Bw p x<;>simp [hC]
    rw [←uI];cases hA:Bw p x with
    | true=>rw [Bool.not_true,Aa];dsimp only [Oh];rw [AC Om,hw,hA,if_pos rfl,List.append_nil,bb]
    | false=>
      rw [Bool.not_false,Ag];obtain ⟨d,hd⟩:=Zq (fun x=>!Bw p x) pre post x;rw [←h] at hd;have hd':l.drop (F pre).length=d::l.drop ((F pre).length+1):=hd;have hD:(F pre++l.drop (F pre).length)[(F pre).length]?=some d:=by rw [hd'];simp
      rw [Ar hD,OB];dsimp only [Oh];rw [AC Om,AC Om,hw,hA,if_neg (by simp),bb,hd',Int.toNat_natCast,bb];simp
   ·dsimp only [SZ];have h8:=hF l [] (by simp);have h6:(F l++l.drop (F l).length).length=l.length:=by simp;omega
    rw [show ((l.length:Int))=((F l++l.drop (F l).length).length:Int) by rw [h6],AT,Aa];dsimp only [X1];unfold DQ;rw [AY,h6,if_pos ⟨Om,Om,Om,Om⟩,OB];unfold He;rw [h6,if_pos ⟨Om,by simp;omega⟩,OB];unfold D3;rw [if_pos ⟨Om,Om,by simp;omega⟩,OB];simp [Int.toNat_natCast,List.append_assoc]
theorem wb (b:BK) (p:Int) (hk:Cw b=true):Sv b p=some (⟨b.LA,b.SE.filter fun s=>!Bw p s⟩,Co p b.SE,0):=by have h:=(CR b).1 hk;have hf:=h.few;have hl:=h.len;simp only [Sv,LB b hf,hk,if_true,OB,TM b hf,uX p b.SE Om (fun s hs=>hf.2 s hs),decide_true,Bool.not_true,Aa]
theorem BkOK.sub {b:BK} (h:BkOK b) {l:List SE} (hs:l.Sublist b.SE):BkOK ⟨b.LA,l⟩:=⟨h.last,Nat.le_trans hs.length_le h.len,h.up.sublist hs,fun s hm=>h.ok s (hs.subset hm),fun s hm=>h.tl s (hs.tail.subset hm)⟩
theorem ji {α:Type} (l:List α) (i:Nat):(l.take i++l.drop (i+1)).Sublist l:=by
 conv=>rhs;rw [←List.take_append_drop i l]
 refine List.Sublist.append (List.Sublist.refl _) ?_;rw [←List.drop_drop];exact List.drop_sublist _ _
def FO (s:SE):SE:=⟨s.ID,s.NE,s.SS,max s.Age (min s.Age 4611686018427387903+1)⟩
def Dk (b:BK) (hold:Int):BK×Int:=match b.SE with
 | []=>(b,0)
 | s::l=>if s.SS=1 then (if (FO s).Age<hold then (⟨b.LA,FO s::l⟩,0) else (⟨b.LA,l⟩,s.ID)) else (b,0)
theorem vr (b:BK) (hold:Int) (hk:Cw b=true):SB b hold=some ((Dk b hold).1,(Dk b hold).2,0):=by
 have h:=(CR b).1 hk;have hf:=h.few;have hl:=h.len;simp only [SB,LB b hf,hk,if_true,OB,TM b hf,decide_true,Bool.not_true,Aa,AY];unfold Dk;cases hb:b.SE with
 | nil=>dsimp only;rw [show decide (((([]:List SE).length:Nat):Int)=0)=true from rfl,Ag];dsimp only [O3];rw [Ag,←hb]
 | cons s l=>
   have hs:=h.ok s (by rw [hb];simp);have h0:Ac (s::l) 0=some s:=rfl;dsimp only;rw [DN (by simp;omega),Aa,h0,OB];dsimp only [O3];by_cases h1:s.SS=1
   ·have h8:=hs.age;have h6:wr (min s.Age 4611686018427387903+1)=min s.Age 4611686018427387903+1:=D4 Om Om;rw [DT h1,Bool.not_true,Aa,h0,OB,h6,if_pos h1];have e:(⟨s.ID,s.NE,s.SS,max s.Age (min s.Age 4611686018427387903+1)⟩:SE)=FO s:=rfl;rw [e];have es:(s::l).set (Int.toNat 0) (FO s)=FO s::l:=rfl;rw [es];by_cases hh:(FO s).Age<hold
    ·rw [if_pos hh,show decide (max s.Age (min s.Age 4611686018427387903+1)<hold)=true from DT hh,Ag]
    ·rw [if_neg hh,show decide (max s.Age (min s.Age 4611686018427387903+1)<hold)=false from DN hh,Aa];have hd:=kf (FO s::l) 0 (by simp) (by rw [hb] at hl;simp at hl ⊢;omega);have hd:Lh 0 1 (FO s::l)=some l:=hd;rw [hd,OB]
   ·rw [DN h1,Bool.not_false,Ag,if_neg h1,←hb]
theorem BkOK.tick {b:BK} (h:BkOK b) (hold:Int):BkOK (Dk b hold).1:=by
 unfold Dk;cases hb:b.SE with
 | nil=>exact h
 | cons s l=>
   dsimp only;split
   ·rename_i h1;split
    ·have hu:=h.up;have hl:=h.len;have ht:=h.tl;have hs:=h.ok s (by rw [hb];simp);rw [hb] at hu hl ht;refine ⟨h.last,hl,?_,fun t ht'=>?_,ht⟩
     ·rw [List.pairwise_cons] at hu ⊢;exact hu
     ·rcases List.mem_cons.1 ht' with rfl | ht'
      ·have:=hs.age;exact {hs with age:=by show 0≤max s.Age _;omega,st:=.inl h1}
      ·exact h.ok t (by rw [hb];exact List.mem_cons_of_mem _ ht')
    ·exact h.sub (by rw [hb];exact List.sublist_cons_self _ _)
   ·exact h
def Dm (is:Bool) (c e:Int):Int:=if decide (e=0)&&!is then c else e
theorem cb (is:Bool) (c a b d f:Int) (B:List SE) (e:Int) (S:List SX) (N:List Int) (K:List KE) (T:List Int) (A:List KE):HC is c a b d f B e S N K T A=some (decide (Dm is c e=0),Dm is c e):=by simp only [HC,S4,S5,Dm];by_cases h:e=0<;>cases is<;>simp [h,A0]
theorem TQ (is:Bool) (c a b d f e:Int) (S:List SX) (N:List Int) (B:List SE) (K:List KE) (T:List Int) (A:List KE):Ev is c a b d f e S N B K T A=some (decide (Dm is c e=0),Dm is c e):=by simp only [Ev,RZ,S0,Dm];by_cases h:e=0<;>cases is<;>simp [h,A0]
theorem ce (c a b d f e:Int) (S:List SX) (N:List Int) (B:List SE) (K:List KE) (T:List Int) (A:List KE):Fg c a b d f e S N B K T A=some (decide (Dm false c e=0),Dm false c e):=by simp only [Fg,S2,S3,Dm];by_cases h:e=0<;>simp [h,A0]
theorem Ox {c e:Int} (is:Bool) (h:e≠0):Dm is c e=e:=by unfold Dm;rw [DN h];rfl
theorem FG (c e:Int):Dm true c e=e:=by unfold Dm;simp
theorem bJ (c:Int):Dm false c 0=c:=rfl
def C7 (S:List SX) (p:Int):Option Nat:=S.findIdx? fun x=>decide (x.PE=p)
theorem cj (x:node_node) (p:Int) (h:x.NO.DK.DI.SD.length≤1000000):KZ x p=some (Br (C7 x.NO.DK.DI.SD p)):=by simp only [KZ,TK x.NO.DK.DI.SD (fun z=>S9 z p) (fun x=>decide (x.PE=p)) Om (fun _ _=>rfl),OB];rfl
theorem Lu {S:List SX} {p:Int} {j:Nat} (h:C7 S p=some j):∃x,S[j]?=some x∧x.PE=p:=by obtain ⟨hi,hq,_⟩:=List.findIdx?_eq_some_iff_getElem.1 h;exact ⟨_,List.getElem?_eq_getElem hi,by simpa using hq⟩
theorem mF {S:List SX} {p:Int} (h:C7 S p=none):∀x∈S,x.PE≠p:=by unfold C7 at h;rw [List.findIdx?_eq_none_iff] at h;intro x hx;simpa using h x hx
theorem kW (d:DK) (h:DrOK d) (E:d.NE.length≤1000000) (K A:List KE) (T:List Int) (V:List EV) (x:Int) (B:List SE) (e:Int):
  HE d.DI.ID d.DI.PH d.TH x B e d.DI.SD d.NE K T A V=some (d.DI.ID,d.DI.PH,0,d.DI.SD,[]):=by
 simp only [HE,Sh,vy d ((Tz d).2 h) E,OB];by_cases h0:d.TH=0
 ·rw [if_pos h0,h.nz h0,h0];rfl
 ·rw [if_neg h0];rfl
theorem c6 (r:BK×Int) (b c d L:Int) (l:List SE) (S:List SX) (N:List Int) (K:List KE) (T:List Int) (A:List KE):KU r.1 r.2 b c d L l 0 S N K T A=some (if r.2=0 then (true,r.1.LA,r.1.SE,0) else (false,L,l,r.2)):=by
 simp only [KU,RP,cb,OB];by_cases h:r.2=0
 ·rw [if_pos h,h];rfl
 ·rw [if_neg h,DN h,bJ,DN h];rfl
theorem ck (k i a b c d:Int) (B:List SE) (e:Int) (S:List SX) (N:List Int) (K:List KE) (T:List Int) (A:List KE):L0 k i a b c d B e S N K T A=some [⟨k,a,i,0,[]⟩]:=by simp only [L0];rw [B5 _ _ Om (by simp),OB];rfl
theorem vf (n:NO) (hn:FewN n) (a b c d:Int) (N:List Int) (B:List SE) (K:List KE) (T:List Int) (A:List KE):Rr a b c d B n.DK.DI.SD N K T A=some (D1 n Dy):=by
 have hl:=hn.sides;simp only [Rr,WQ];have:loop (Si n.DK.DI.SD fun z=>Hx z) (0,([]:List Int))=some (D1 n Dy):=by
  refine D0 n.DK.DI.SD _ (fun pre=>((pre.length:Int),(pre.filter Dy).map (·.PE))) _ (fun pre x post h=>?_) ?_
  ·have hx:=BL h;have hm:=BG h;have hf:=List.length_filter_le Dy pre;dsimp only [Si];rw [AQ hx,Ag,Ar hx,OB,show Hx x=some (Dy x) from rfl,OB];cases hq:Dy x with
   | true=>rw [Ag,B5 _ _ Om (by simp;omega),OB];dsimp only [NQ];rw [AC Om,bb];simp [hq]
   | false=>rw [Aa];dsimp only [NQ];rw [AC Om,bb];simp [hq]
  ·dsimp only [Si];rw [AT,Aa];rfl
 rw [this];rfl
def LV (n:NO) (b:BK):NO:=⟨n.DK,b,n.KN,n.TL,n.AK⟩
def dO (n:NO) (b:BK):NO:=⟨⟨n.DK.DI,0,[]⟩,b,n.KN,n.TL,n.AK⟩
def CF (n:NO) (a:Do):Int×NO×List EV:=
 if a.KI=0 then
  (if (DA n.BK a.ID a.NE).2=0 then (if (a.NE.all fun z=>decide (z∈D1 n Dy))=true then (0,LV n (DA n.BK a.ID a.NE).1,[⟨0,n.DK.DI.ID,a.ID,0,Bm a.NE⟩]) else (181,n,[])) else ((DA n.BK a.ID a.NE).2,n,[]))
 else if a.KI=1 then
  (if (C6 n.BK a.ID 1).2=0 then (0,dO n (C6 n.BK a.ID 1).1,[⟨2,n.DK.DI.ID,a.ID,0,[]⟩]) else ((C6 n.BK a.ID 1).2,n,[]))
 else if a.KI=2 then
  (if (C6 n.BK a.ID 0).2=0 then (0,if (CZ n).1.ID=a.ID∧n.DK.TH=1 then dO n (C6 n.BK a.ID 0).1 else LV n (C6 n.BK a.ID 0).1,[⟨3,n.DK.DI.ID,a.ID,0,[]⟩]) else ((C6 n.BK a.ID 0).2,n,[]))
 else if a.KI=3 then
  (if (Dk n.BK a.Hold).2=0 then (0,LV n (Dk n.BK a.Hold).1,[]) else (0,dO n (Dk n.BK a.Hold).1,[⟨4,n.DK.DI.ID,(Dk n.BK a.Hold).2,0,[]⟩]))
 else (0,n,[])
def yu (e:Int) (m:NO) (V:List EV):Int×Int×Int×Int×List SE×Int×List EV×List SX×List Int:=(m.DK.DI.ID,m.DK.DI.PH,m.DK.TH,m.BK.LA,m.BK.SE,e,V,m.DK.DI.SD,m.DK.NE)
theorem vH (n:NO) (a b c d:Int) (S:List SX) (N:List Int) (K:List KE) (T:List Int) (A:List KE):RH a b c d S N n.BK.SE K T A=some (CZ n):=by
 simp only [RH,AY];unfold CZ;cases h:n.BK.SE with
 | nil=>rfl
 | cons s l=>rw [DN (by simp;omega),Aa];rfl
theorem vI (n:NO) (a b c d:Int) (S:List SX) (N:List Int) (K:List KE) (T:List Int) (A:List KE):RE a b c d n.BK.SE S N K T A=some (CZ n):=by
 simp only [RE,AY];unfold CZ;cases h:n.BK.SE with
 | nil=>rfl
 | cons s l=>rw [DN (by simp;omega),Aa];rfl
theorem wf (n:NO) (a:Do) (h:OkN n) (ha:a.NE.length≤1000):
  NI a n.DK.DI.ID n.DK.DI.PH n.DK.TH n.BK.LA 0 n.DK.DI.SD n.DK.NE n.BK.SE n.KN n.TL n.AK=some (yu (CF n a).1 (CF n a).2.1 (CF n a).2.2):=by
 have hf:=h.few;have hb:=hf.bk;have hN:=hf.need;have hS:=hf.sides;have hp:=Yb n Dy;have h6:∀(x:Int) (B:List SE) (e:Int) (K A:List KE) (T:List Int) (V:List EV),HE n.DK.DI.ID n.DK.DI.PH n.DK.TH x B e n.DK.DI.SD n.DK.NE K T A V=some (n.DK.DI.ID,n.DK.DI.PH,0,n.DK.DI.SD,[]):=fun x B e K A T V=>kW n.DK h.dr Om K A T V x B e;unfold NI CF;have eb:(⟨n.BK.LA,n.BK.SE⟩:BK)=n.BK:=rfl;rw [eb];by_cases k0:a.KI=0
 ·rw [DT k0,Ag,if_pos k0,ku n.BK a.ID a.NE hb Om,OB];dsimp only [Wu];rw [cb,OB];by_cases e0:(DA n.BK a.ID a.NE).2=0
  ·rw [if_pos e0,e0,DT rfl,FG];dsimp only;rw [DT rfl,Ag,vf n hf,OB,OV a.NE (D1 n Dy) Om Om,OB,cb,OB];dsimp only [Sc];cases hw:(a.NE.all fun z=>decide (z∈D1 n Dy)) with
   | true=>rw [FG,DT rfl,Ag,gq a.NE Om,OB,B5 _ _ Om (by simp),OB];rfl
   | false=>rfl
  ·rw [if_neg e0,DN e0,bJ];dsimp only;rw [DN e0,Aa];rfl
 ·rw [DN k0,Aa,if_neg k0];by_cases k1:a.KI=1
  ·rw [DT k1,Ag,if_pos k1,bZ n.BK a.ID hb,OB,c6,OB];by_cases e0:(C6 n.BK a.ID 1).2=0
   ·rw [if_pos e0,if_pos e0];dsimp only;rw [Ag,ck,OB,h6,OB];rfl
   ·rw [if_neg e0,if_neg e0];rfl
  ·rw [DN k1,Aa,if_neg k1];by_cases k2:a.KI=2
   ·rw [DT k2,Ag,if_pos k2,vH n,OB,jY n.BK a.ID hb,OB,c6,OB];by_cases e0:(C6 n.BK a.ID 0).2=0
    ·rw [if_pos e0,if_pos e0];dsimp only;rw [Ag,ck,OB];dsimp only [Sd];rw [h6,OB];by_cases c1:(CZ n).1.ID=a.ID
     ·rw [DT c1];by_cases c2:n.DK.TH=1
      ·rw [DT c2,if_pos ⟨c1,c2⟩];rfl
      ·rw [DN c2,if_neg fun c=>c2 c.2];rfl
     ·rw [DN c1,if_neg fun c=>c1 c.1];rfl
    ·rw [if_neg e0,if_neg e0];rfl
   ·rw [DN k2,Aa,if_neg k2];by_cases k3:a.KI=3
    ·rw [DT k3,Ag,if_pos k3,vr n.BK a.Hold h.bk,OB];dsimp only [Wv,Se];have:=c6 ((Dk n.BK a.Hold).1,0) n.DK.DI.ID n.DK.DI.PH n.DK.TH n.BK.LA n.BK.SE n.DK.DI.SD n.DK.NE n.KN n.TL n.AK;dsimp only at this;rw [this,OB,if_pos rfl];dsimp only;rw [Ag];by_cases e0:(Dk n.BK a.Hold).2=0
     ·rw [if_pos e0,DT e0];rfl
     ·rw [if_neg e0,DN e0,Bool.not_false,Ag,ck,OB,h6,OB];rfl
    ·rw [DN k3,Aa,if_neg k3];rfl
theorem mM {α:Type} {S:List α} {j:Nat} {x:α} (h:S[j]?=some x) (y:α):S=S.take j++x::S.drop (j+1)∧S.set j y=S.take j++y::S.drop (j+1):=by
 obtain ⟨hj,hx⟩:=List.getElem?_eq_some_iff.1 h;have e1:S=S.take j++x::S.drop (j+1):=by rw [←hx];simp
 refine ⟨e1,?_⟩;have hl:(S.take j).length=j:=by simp;omega
 conv=>lhs;rw [e1]
 rw [List.set_append_right _ _ Om,hl,Nat.sub_self];rfl
theorem K5 {S:List SX} (hu:S.Pairwise fun x y=>x.PE<y.PE) {j:Nat} {x:SX} (h:S[j]?=some x) (y:SX) {z:SX}:z∈S.set j y↔z=y∨z∈S∧z.PE≠x.PE:=by
 obtain ⟨e1,e2⟩:=mM h y;have hu':=hu;rw [e1,List.pairwise_append,List.pairwise_cons] at hu';obtain ⟨_,⟨u2,_⟩,u3⟩:=hu';rw [e2,List.mem_append,List.mem_cons];constructor
 ·rintro (hz | hz | hz)
  ·have:=u3 z hz x (by simp);exact .inr ⟨by rw [e1];simp [hz],Om⟩
  ·exact .inl hz
  ·have:=u2 z hz;exact .inr ⟨by rw [e1];simp [hz],Om⟩
 ·rintro (hz | ⟨hz,hn⟩)
  ·exact .inr (.inl hz)
  ·rw [e1,List.mem_append,List.mem_cons] at hz;rcases hz with hz | hz | hz
   ·exact .inl hz
   ·rw [hz] at hn;exact absurd rfl hn
   ·exact .inr (.inr hz)
theorem lr {S:List SX} {j:Nat} {x y:SX} (h:S[j]?=some x) (hp:y.PE=x.PE):(S.set j y).map (·.PE)=S.map (·.PE):=by
 obtain ⟨e1,e2⟩:=mM h y;rw [e2]
 conv=>rhs;rw [e1]
 simp [hp]
theorem DrOK.state {d:DK} (h:DrOK d) {j:Nat} {x:SX} (hx:d.DI.SD[j]?=some x) {s:Int} (hs:0≤s∧s≤3):DrOK ⟨⟨d.DI.ID,d.DI.PH,d.DI.SD.set j {x with SS:=s}⟩,d.TH,d.NE⟩:=by
 have h6:=h.din.up;have hm:=fun {z:SX}=>K5 (z:=z) h6 hx {x with SS:=s};have h8:=List.mem_of_getElem? hx;refine ⟨⟨h.din.id0,h.din.p0,h.din.p2,by rw [List.length_set];exact h.din.len,OQ (lr hx rfl) h6,fun z hz=>?_⟩,h.t0,h.t2,h.up,h.nz,fun p hp=>?_⟩
 ·rcases hm.1 hz with rfl | ⟨hz,_⟩
  ·have:=h.din.side x h8;exact ⟨this.lo,this.ne,this.e0,this.e1,hs.1,hs.2,this.df⟩
  ·exact h.din.side z hz
 ·obtain ⟨y,hy,e⟩:=h.has p hp;by_cases hq:y.PE=x.PE
  ·exact ⟨_,hm.2 (.inl rfl),by show x.PE=p;omega⟩
  ·exact ⟨y,hm.2 (.inr ⟨hy,hq⟩),e⟩
def OX (n:NO) (p:Int):Bool:=(CZ n).2&&(decide (n.DK.TH=1)&&decide ((CZ n).1.ID∈Co p n.BK.SE))
def m6 (n:NO) (p:Int):BK:=⟨n.BK.LA,n.BK.SE.filter fun s=>!Bw p s⟩
def OY (n:NO) (j:Nat) (x:SX):DI:=⟨n.DK.DI.ID,n.DK.DI.PH,n.DK.DI.SD.set j {x with SS:=2}⟩
def Bp (n:NO) (j:Nat) (x:SX):NO:=⟨if OX n x.PE then ⟨OY n j x,0,[]⟩ else ⟨OY n j x,n.DK.TH,n.DK.NE⟩,m6 n x.PE,n.KN,n.TL,n.AK⟩
def G0 (id:Int) (l:List Int):List EV:=l.map fun i=>⟨5,id,i,0,[]⟩
def Ez (n:NO) (p:Int):List EV:=⟨7,n.DK.DI.ID,0,p,[]⟩::G0 n.DK.DI.ID (Co p n.BK.SE)
theorem kV (n:NO) (h:OkN n) (p:Int) (j:Nat) (x:SX) (hp:C7 n.DK.DI.SD p=some j) (hx:n.DK.DI.SD[j]?=some x) (h8:x.PE=p) (e:Int):
  L1 p n.DK.DI.ID n.DK.DI.PH n.DK.TH n.BK.LA e n.DK.DI.SD n.DK.NE n.BK.SE n.KN n.TL n.AK =
   some ((Bp n j x).DK.DI.ID,(Bp n j x).DK.DI.PH,(Bp n j x).DK.TH,(Bp n j x).BK.LA,(Bp n j x).BK.SE,Ez n p,(Bp n j x).DK.DI.SD,(Bp n j x).DK.NE):=by
 subst h8;have hf:=h.few;have hS:=hf.sides;have hN:=hf.need;have hB:=hf.book;have hg:=Me x.PE n.BK.SE;have h9:=h.dr.state hx (s:=2) Om;unfold L1;rw [cj _ _ (show _≤_ by dsimp only;omega),OB];dsimp only;rw [hp];dsimp only [Br];rw [Ar hx,OB,Int.toNat_natCast];have hw:(⟨x.PE,x.EP,2,x.FK,x.DY,x.TO,x.BO,x.Ask⟩:SX)={x with SS:=2}:=rfl;rw [hw];dsimp only [Ww];have h6:∀(S:List SX),Ny 7 x.PE n.DK.DI.ID n.DK.DI.PH n.DK.TH n.BK.LA e S n.DK.NE n.BK.SE n.KN n.TL n.AK=some [⟨7,n.DK.DI.ID,0,x.PE,[]⟩]:=fun S=>by simp only [Ny];rw [B5 _ _ Om (by simp),OB];rfl
 rw [h6,OB,show (⟨n.BK.LA,n.BK.SE⟩:BK)=n.BK from rfl,wb n.BK x.PE h.bk,OB,vI n,OB];have j3:∀(d:DK),d.DI.ID=n.DK.DI.ID→NJ e n.KN n.TL n.AK [⟨7,n.DK.DI.ID,0,x.PE,[]⟩] (⟨n.BK.LA,n.BK.SE.filter fun s=>!Bw x.PE s⟩,Co x.PE n.BK.SE,0) (d.DI.ID,d.DI.PH,d.TH,d.DI.SD,d.NE) =
   some (d.DI.ID,d.DI.PH,d.TH,(m6 n x.PE).LA,(m6 n x.PE).SE,Ez n x.PE,d.DI.SD,d.NE):=fun d hA=>by
  dsimp only [NJ];refine D0 (Co x.PE n.BK.SE) _ (fun pre=>((pre.length:Int),⟨7,n.DK.DI.ID,0,x.PE,[]⟩::G0 n.DK.DI.ID pre)) _ (fun pre y post h0=>?_) ?_
  ·have hy:=BL h0;have hm:=BG h0;have hD:(G0 n.DK.DI.ID pre).length=pre.length:=by unfold G0;rw [List.length_map]
   dsimp only [WB,Sb];rw [AQ hy,Ag,Ar hy,OB,B5 _ _ Om (by simp;omega),OB,OB,AC Om,bb,hA];simp [G0]
  ·dsimp only [WB,WA];rw [AT,Aa];rfl
 have hC:∀(x':Int) (B:List SE) (e:Int) (K A:List KE) (T:List Int) (V:List EV),HE n.DK.DI.ID n.DK.DI.PH n.DK.TH x' B e (n.DK.DI.SD.set j {x with SS:=2}) n.DK.NE K T A V=some (n.DK.DI.ID,n.DK.DI.PH,0,n.DK.DI.SD.set j {x with SS:=2},[]):=fun x' B e K A T V=>kW _ h9 (by show n.DK.NE.length≤_;omega) K A T V x' B e;have j2:∀z,z=OX n x.PE→L2 n.DK.DI.ID n.DK.DI.PH n.DK.TH n.BK.LA e n.DK.NE n.BK.SE n.KN n.TL n.AK (n.DK.DI.SD.set j {x with SS:=2}) [⟨7,n.DK.DI.ID,0,x.PE,[]⟩] (⟨n.BK.LA,n.BK.SE.filter fun s=>!Bw x.PE s⟩,Co x.PE n.BK.SE,0) z=some ((Bp n j x).DK.DI.ID,(Bp n j x).DK.DI.PH,(Bp n j x).DK.TH,(Bp n j x).BK.LA,(Bp n j x).BK.SE,Ez n x.PE,(Bp n j x).DK.DI.SD,(Bp n j x).DK.NE):=fun z hz=>by
  dsimp only [L2];cases z with
  | true=>rw [Ag,hC,OB];have:=j3 ⟨OY n j x,0,[]⟩ rfl;refine Eq.trans this ?_;unfold Bp;rw [←hz];rfl
  | false=>rw [Aa];have:=j3 ⟨OY n j x,n.DK.TH,n.DK.NE⟩ rfl;refine Eq.trans this ?_;unfold Bp;rw [←hz];rfl
 unfold OX at j2;cases h1:(CZ n).2 with
 | false=>rw [Aa];exact j2 false (by rw [h1];rfl)
 | true=>
   rw [Ag];by_cases h2:n.DK.TH=1
   ·rw [DT h2,Ag,Yi _ _ (by dsimp only;omega),OB];exact j2 _ (by rw [h1,DT h2];rfl)
   ·rw [DN h2,Aa];exact j2 false (by rw [h1,DN h2];rfl)
theorem fc {n:NO} {s:SE} {l:List SE} (h:n.BK.SE=s::l):CZ n=(s,true):=by unfold CZ;rw [h]
theorem OkN.shut {n:NO} (h:OkN n) {j:Nat} {x:SX} (hx:n.DK.DI.SD[j]?=some x) (h0:x.SS=0):OkN (Bp n j x):=by
 have hD:=(CR _).1 h.bk;have h9:=List.mem_of_getElem? hx;have hE:=h.dr.state hx (s:=2) Om;have hm:∀ {z:SX},z∈(OY n j x).SD↔z={x with SS:=2}∨z∈n.DK.DI.SD∧z.PE≠x.PE:=fun {z}=>K5 (z:=z) h.rowS.up hx {x with SS:=2};have h6:(Bp n j x).DK.DI=OY n j x:=by unfold Bp;dsimp only;split<;>rfl
 have hC:∀p∈(Bp n j x).DK.NE,p∈n.DK.NE:=by
  unfold Bp;dsimp only;split
  ·intro p hp;simp at hp
  ·exact fun p hp=>hp
 have hI:∀s∈n.BK.SE,s.SS=1→Bw x.PE s=false:=fun s _ e=>by unfold Bw;rw [DN Om];rfl
 refine ⟨?_,(CR _).2 (hD.sub List.filter_sublist),fun k hk=>?_,h.dis,?_,h.kup,h.kr,fun z hz=>?_,h.told,fun p hp=>?_,?_,?_,fun z hz hn=>?_,fun s hs hw p hp=>?_⟩
 ·unfold Bp;dsimp only;split
  ·exact ⟨hE.din,by show (0:Int)≤0;omega,by show (0:Int)≤2;omega,.nil,fun _=>rfl,by simp⟩
  ·exact hE
 ·have:=h.may k hk;rw [h6];exact ⟨fun z hz=>by
   rcases hm.1 hz with rfl | ⟨hz,_⟩
   ·exact this.1 x h9
   ·exact this.1 z hz,this.2⟩
 ·rw [h6];exact h.id
 ·rw [h6] at hz ⊢;rcases hm.1 hz with rfl | ⟨hz,_⟩
  ·have:=h.sd x h9;exact ⟨this.1,this.2.1,this.2.2.1,fun e=>by have e:(2:Int)=1∨(2:Int)=3:=e;omega⟩
  ·exact h.sd z hz
 ·obtain ⟨z,hz,e1,e⟩:=h.tin p hp;rw [h6];refine ⟨z,hm.2 (.inr ⟨hz,fun q=>?_⟩),e1,e⟩;have:=fg h.rowS.up hz h9 q;subst this;omega
 ·rw [F8];constructor
  ·intro e;have h2:n.DK.TH=2:=by
    unfold Bp at e;dsimp only at e;split at e
    ·have e:(0:Int)=2:=e;omega
    ·exact e
   obtain ⟨s,l,hb,h8,_⟩:=h.drinks h2;refine ⟨s,l.filter fun s=>!Bw x.PE s,?_,h8⟩;show (n.BK.SE.filter _)=_;rw [hb,List.filter_cons,hI s (by rw [hb];simp) h8];simp
  ·rintro ⟨s,l,hb,h8⟩;have hb:n.BK.SE.filter (fun s=>!Bw x.PE s)=s::l:=hb;have hsm:s∈n.BK.SE:=(List.mem_filter.1 (by rw [hb];simp)).1;cases hB:n.BK.SE with
   | nil=>rw [hB] at hsm;simp at hsm
   | cons t r=>
     have hG:=hD.tl;rw [hB] at hG hsm;rcases List.mem_cons.1 hsm with rfl | hsm
     ·have h2:=h.th.2 ((F8 n).2 ⟨s,r,hB,h8⟩);unfold Bp OX;dsimp only;rw [DN (show ¬n.DK.TH=1 by omega)];simp [h2]
     ·have:=hG s hsm;omega
 ·cases hc:OX n x.PE with
  | true=>left;unfold Bp;dsimp only;rw [hc];rfl
  | false=>
    rcases h.hq with q | q
    ·left;unfold Bp;dsimp only;rw [hc];exact q
    ·by_cases hz:n.DK.TH=0
     ·left;unfold Bp;dsimp only;rw [hc];exact hz
     ·right;obtain ⟨s,l,hb,hn⟩:=(Hj n).1 q;have hsm:s∈n.BK.SE:=by rw [hb];simp
      have hg:Bw x.PE s=false:=by
       cases hg:Bw x.PE s with
       | false=>rfl
       | true=>
         exfalso;have hw:s.SS=0:=by unfold Bw at hg;rw [Bool.and_eq_true,decide_eq_true_eq] at hg;exact hg.1
         have ht:n.DK.TH=1:=by
          have:=h.dr.t0;have:=h.dr.t2;by_cases e2:n.DK.TH=2
          ·obtain ⟨s',l',hb',hs',_⟩:=h.drinks e2;rw [hb] at hb';simp only [List.cons.injEq] at hb';rw [←hb'.1] at hs';omega
          ·omega
         unfold OX at hc;rw [fc hb,DT ht,DT (show (s,true).1.ID∈Co x.PE n.BK.SE from List.mem_map.2 ⟨s,List.mem_filter.2 ⟨hsm,hg⟩,rfl⟩)] at hc;simp at hc
      rw [Hj];refine ⟨s,l.filter fun s=>!Bw x.PE s,?_,?_⟩
      ·show (n.BK.SE.filter _)=_;rw [hb,List.filter_cons,hg];simp
      ·unfold Bp;dsimp only;rw [hc];exact hn
 ·rw [h6] at hz;rcases hm.1 hz with rfl | ⟨hz,_⟩
  ·show (2:Int)≠3;omega
  ·exact h.nl z hz (hC _ hn)
 ·have hs:s∈n.BK.SE.filter fun s=>!Bw x.PE s:=hs;obtain ⟨h8,hA⟩:=List.mem_filter.1 hs;obtain ⟨y,hy,e0,e⟩:=h.wt s h8 hw p hp;rw [h6];refine ⟨y,hm.2 (.inr ⟨hy,fun q=>?_⟩),e0,e⟩;unfold Bw at hA;rw [DT hw,DT (show x.PE∈s.NE by rw [←q,e];exact hp)] at hA;simp at hA
def XM:NO:=⟨⟨⟨0,0,[]⟩,0,[]⟩,⟨0,[]⟩,[],[],[]⟩
def be (e:Int) (m:NO) (V:List EV):NO×List ML×List EV×Int:=if e=0 then ((BE m [] V).1,(BE m [] V).2.1,(BE m [] V).2.2,0) else (XM,[],[],e)
def addS (n:NO) (p:Int):SX:=⟨p,BR n.KN p+1,1,true,true,false,true,false⟩
def B9 (n:NO) (a:Do):Int×NO×List EV:=
 if a.KI=0∨a.KI=1∨a.KI=2∨a.KI=3 then CF n a
 else if a.KI=4 then
  (if n.DK.DI.ID<a.PE∧a.PE<64 then (match C7 n.DK.DI.SD a.PE with
    | some _=>(183,n,[])
    | none=>if BR n.KN a.PE<65535 then (0,ct n (addS n a.PE) n.AK,[]) else (186,n,[])) else (182,n,[]))
 else if a.KI=5 then
  (if n.DK.DI.ID<a.PE∧a.PE<64 then (match C7 n.DK.DI.SD a.PE with
    | none=>(184,n,[])
    | some j=>match n.DK.DI.SD[j]? with
      | none=>(184,n,[])
      | some x=>if x.SS=0 then (0,Bp n j x,Ez n a.PE) else (185,n,[])) else (182,n,[]))
 else (188,n,[])
theorem jk (m:NO) (V:List EV) (e:Int) (x3:List SX×List Int×List KE×List Int×List KE×List SE) (J:x3.2.2.2.1=m.TL) (E:x3.2.2.2.2.1=m.AK) (h:e=0→OkN m) (U:V.length≤100000):
  G9 x3 (m.DK.DI.ID,m.DK.DI.PH,m.DK.TH,m.BK.LA,m.BK.SE,e,m.DK.DI.SD,m.DK.NE,m.KN,V)=some (be e m V):=by
 dsimp only [G9];rw [J,E];unfold be;by_cases he:e=0
 ·subst he;rw [kT m (h rfl) V U,OB,if_pos rfl];rfl
 ·rw [kU _ _ _ _ e _ he,OB,if_neg he];rfl
theorem OkN.book {n:NO} (h:OkN n) {b:BK} (hb:BkOK b) (hg:n.DK.TH=2↔∃s l,b.SE=s::l∧s.SS=1) (hq:n.DK.TH=0∨∃s l,b.SE=s::l∧s.NE=n.DK.NE)
  (E:∀s∈b.SE,s.SS=0→∀p∈s.NE,∃x∈n.DK.DI.SD,x.SS=0∧x.PE=p):OkN (LV n b):=
 {h with bk:=(CR _).2 hb,th:=by rw [F8];exact hg,hq:=by rw [Hj];exact hq,wt:=E}
theorem OkN.calm {n:NO} (h:OkN n) {b:BK} (hb:BkOK b) (h0:∀s∈b.SE,s.SS=0) (E:∀s∈b.SE,s.SS=0→∀p∈s.NE,∃x∈n.DK.DI.SD,x.SS=0∧x.PE=p):OkN (dO n b):=
 {h with
  dr:=⟨h.dr.din,by show (0:Int)≤0;omega,by show (0:Int)≤2;omega,.nil,fun _=>rfl,fun p hp=>by have:p∈([]:List Int):=hp;simp at this⟩
  bk:=(CR _).2 hb
  th:=by
   rw [F8];constructor
   ·intro e;have:(0:Int)=2:=e;omega
   ·rintro ⟨s,l,e,hs⟩;have e:b.SE=s::l:=e;have:=h0 s (by rw [e];simp);omega
  hq:=.inl rfl
  nl:=fun x _ hx=>by have:x.PE∈([]:List Int):=hx;simp at this
  wt:=E}
theorem u1 {b:BK} {id w:Int} (h:(C6 b id w).2=0):∃i s,b.SE[i]?=some s∧s.ID=id∧s.SS=w∧(C6 b id w).1=⟨b.LA,b.SE.take i++b.SE.drop (i+1)⟩:=by
 unfold C6 at h ⊢;split at h
 ·rename_i hk;rw [if_pos hk];cases hf:FZ b id with
  | none=>rw [hf] at h;simp at h
  | some i=>
    obtain ⟨s,hs,h6⟩:=qr hf;rw [hf] at h;dsimp only at h ⊢;rw [hs] at h;dsimp only at h;rw [hs];split at h
    ·rename_i hw;exact ⟨i,s,hs,h6,hw,by dsimp only;rw [if_pos hw]⟩
    ·simp at h
 ·simp at h
theorem Ur {α:Type} {l:List α} {i:Nat} {x:α} (h:x∈l.take i++l.drop (i+1)):x∈l:=(ji l i).subset h
structure EvOK (id:Int) (v:EV):Prop where
 node:v.NO=id
 edge:6≤v.KI→v.ID=0
 sess:v.KI<6→v.PE=0
 need:v.KI≠0→v.NE=[]
theorem lm {n:NO} {a:Do} (h:OkN n) (he:(CF n a).1=0):OkN (CF n a).2.1∧(CF n a).2.1.DK.DI=n.DK.DI∧(CF n a).2.1.TL=n.TL∧(CF n a).2.1.AK=n.AK∧(CF n a).2.1.KN=n.KN∧(∀v∈(CF n a).2.2,EvOK n.DK.DI.ID v∧v.KI≠1)∧(CF n a).2.2.length≤1:=by
 have h6:=(CR _).1 h.bk;have hB:n.DK.TH≠2→∀s∈n.BK.SE,s.SS=0:=fun h2 s hs=>by
  cases hb:n.BK.SE with
  | nil=>rw [hb] at hs;simp at hs
  | cons t r=>
    have h8:=h6.tl;rw [hb] at h8 hs;rcases List.mem_cons.1 hs with rfl | hs
    ·rcases uk h6 hb with e | e
     ·exact absurd (h.th.2 ((F8 n).2 ⟨s,r,hb,e⟩)) h2
     ·exact e
    ·exact h8 s hs
 revert he;unfold CF;split
 ·split
  ·rename_i k0 e0;split
   ·rename_i hw;intro _;refine ⟨?_,rfl,rfl,rfl,rfl,?_,by simp⟩
    ·have hG:n.BK.LA<a.ID∧FF (Bm a.NE)=true∧n.BK.SE.length≠8∧DA n.BK a.ID a.NE=(⟨a.ID,n.BK.SE++[⟨a.ID,Bm a.NE,0,0⟩]⟩,0):=by
      unfold DA at e0 ⊢;rw [if_pos h.bk] at e0 ⊢;by_cases c1:a.ID≤n.BK.LA
      ·rw [if_pos c1] at e0;simp at e0
      ·rw [if_neg c1] at e0 ⊢;cases c2:FF (Bm a.NE) with
       | false=>rw [c2] at e0;simp at e0
       | true=>
         rw [c2,if_pos rfl] at e0;rw [if_pos rfl];by_cases c3:n.BK.SE.length=8
         ·rw [if_pos c3] at e0;simp at e0
         ·rw [if_neg c3];exact ⟨Om,rfl,c3,rfl⟩
     obtain ⟨o1,o2,o3,o4⟩:=hG;have hC:=DO a.NE;have hL:=h6.last;have hN:=h6.len;rw [o4];refine h.book ⟨by show 0≤a.ID;omega,by show (n.BK.SE++[_]).length≤8;rw [bb];omega,?_,fun s hs=>?_,fun s hs=>?_⟩ ?_ ?_ fun s hs hI p hp=>?_
     ·show (n.BK.SE++[_]).Pairwise _;rw [List.pairwise_append];refine ⟨h6.up,by simp,fun s hs t ht=>?_⟩;simp at ht;subst ht;have:=(h6.ok s hs).hi;show s.ID<a.ID;omega
     ·have hs:s∈n.BK.SE++[⟨a.ID,Bm a.NE,0,0⟩]:=hs;rcases List.mem_append.1 hs with hs | hs
      ·have:=h6.ok s hs;exact {this with hi:=by have:=this.hi;show s.ID≤a.ID;omega}
      ·simp at hs;subst hs;exact ⟨by show 0<a.ID;omega,by show a.ID≤a.ID;omega,o2,hC.1,by show (0:Int)≤0;omega,.inr ⟨rfl,rfl⟩⟩
     ·have hs:s∈(n.BK.SE++[(⟨a.ID,Bm a.NE,0,0⟩:SE)]).tail:=hs;cases hb:n.BK.SE with
      | nil=>rw [hb] at hs;simp at hs
      | cons t r=>
        have h8:=h6.tl;rw [hb] at h8 hs;have hs:s∈r++[⟨a.ID,Bm a.NE,0,0⟩]:=hs;rcases List.mem_append.1 hs with hs | hs
        ·exact h8 s hs
        ·simp at hs;subst hs;rfl
     ·rw [h.th,F8];show (∃s l,n.BK.SE=s::l∧s.SS=1)↔∃s l,n.BK.SE++[⟨a.ID,Bm a.NE,0,0⟩]=s::l∧s.SS=1;cases hb:n.BK.SE with
      | nil=>simp
      | cons t r=>simp
     ·rcases h.hq with q | q
      ·exact .inl q
      ·right;obtain ⟨s,l,hb,hn⟩:=(Hj n).1 q;exact ⟨s,l++[⟨a.ID,Bm a.NE,0,0⟩],by show n.BK.SE++_=_;rw [hb];rfl,hn⟩
     ·have hs:s∈n.BK.SE++[⟨a.ID,Bm a.NE,0,0⟩]:=hs;rcases List.mem_append.1 hs with hs | hs
      ·exact h.wt s hs hI p hp
      ·simp at hs;subst hs;have:=List.all_eq_true.1 hw p ((hC.2 p).1 hp);rw [decide_eq_true_eq,aZ] at this;obtain ⟨x,hx,hl,e⟩:=this;exact ⟨x,hx,by simpa [Dy] using hl,e⟩
    ·intro v hv;simp at hv;subst hv;exact ⟨⟨rfl,fun q=>by have q:(6:Int)≤0:=q;omega,fun _=>rfl,fun q=>absurd rfl q⟩,by show (0:Int)≠1;omega⟩
   ·intro he;simp at he
  ·rename_i e0;exact fun he=>absurd he e0
 ·split
  ·split
   ·rename_i e0;intro _;obtain ⟨i,s,hs,hD,hJ,eb⟩:=u1 e0;refine ⟨?_,rfl,rfl,rfl,rfl,?_,by simp⟩
    ·rw [eb];have hz:∀t∈n.BK.SE.take i++n.BK.SE.drop (i+1),t.SS=0:=by
      intro t ht;cases hb:n.BK.SE with
      | nil=>rw [hb] at hs;simp at hs
      | cons u r=>
        have h8:=h6.tl;rw [hb] at h8 hs ht;cases i with
        | zero=>exact h8 t (by simpa using ht)
        | succ i=>have:s∈r:=List.mem_of_getElem? (by simpa using hs);have:=h8 s this;omega
     exact h.calm (h6.sub (ji _ _)) hz fun t ht h0 p hp=>h.wt t (Ur ht) h0 p hp
    ·intro v hv;simp at hv;subst hv;exact ⟨⟨rfl,fun q=>by have q:(6:Int)≤2:=q;omega,fun _=>rfl,fun _=>rfl⟩,by show (2:Int)≠1;omega⟩
   ·rename_i e0;exact fun he=>absurd he e0
  ·split
   ·split
    ·rename_i e0;intro _;obtain ⟨i,s,hs,hD,hJ,eb⟩:=u1 e0;have hE:∀v∈ [(⟨3,n.DK.DI.ID,a.ID,0,[]⟩:EV)],EvOK n.DK.DI.ID v∧v.KI≠1:=fun v hv=>by simp at hv;subst hv;exact ⟨⟨rfl,fun q=>by have q:(6:Int)≤3:=q;omega,fun _=>rfl,fun _=>rfl⟩,by show (3:Int)≠1;omega⟩
     have hw:∀t∈n.BK.SE.take i++n.BK.SE.drop (i+1),t.SS=0→∀p∈t.NE,∃x∈n.DK.DI.SD,x.SS=0∧x.PE=p:=fun t ht h0 p hp=>h.wt t (Ur ht) h0 p hp;split
     ·rename_i hc;refine ⟨?_,rfl,rfl,rfl,rfl,hE,by simp⟩;rw [eb];exact h.calm (h6.sub (ji _ _)) (fun t ht=>hB Om t (Ur ht)) hw
     ·rename_i hc;refine ⟨?_,rfl,rfl,rfl,rfl,hE,by simp⟩;rw [eb];have hA:n.DK.TH≠0→∃t r,n.BK.SE=t::r∧t.NE=n.DK.NE∧∃r',n.BK.SE.take i++n.BK.SE.drop (i+1)=t::r':=fun hz=>by
       obtain ⟨t,r,hb,hn⟩:=(Hj n).1 (by rcases h.hq with q | q;exact absurd q hz;exact q);refine ⟨t,r,hb,hn,?_⟩;cases i with
       | succ i=>rw [hb];exact ⟨_,rfl⟩
       | zero=>
         exfalso;rw [hb] at hs;simp at hs;subst hs;have h0:=h.dr.t0;have h2:=h.dr.t2;by_cases e1:n.DK.TH=1
         ·exact hc ⟨by rw [fc hb];exact hD,e1⟩
         ·obtain ⟨t',r',hb',hs',_⟩:=h.drinks Om;rw [hb] at hb';simp only [List.cons.injEq] at hb';rw [←hb'.1] at hs';omega
      refine h.book (h6.sub (ji n.BK.SE i)) ?_ ?_ hw
      ·constructor
       ·intro h2;obtain ⟨t,r,hb,_,r',e⟩:=hA Om;obtain ⟨t',r2,hb',hs',_⟩:=h.drinks h2;rw [hb] at hb';simp only [List.cons.injEq] at hb';exact ⟨t,r',e,by rw [hb'.1];exact hs'⟩
       ·rintro ⟨t,r',e,ht⟩;have hK:t∈n.BK.SE:=Ur (i:=i) (by rw [show n.BK.SE.take i++n.BK.SE.drop (i+1)=t::r' from e];simp);by_cases h2:n.DK.TH=2
        ·exact h2
        ·have:=hB h2 t hK;omega
      ·by_cases hz:n.DK.TH=0
       ·exact .inl hz
       ·obtain ⟨t,r,hb,hn,r',e⟩:=hA hz;exact .inr ⟨t,r',e,hn⟩
    ·rename_i e0;exact fun he=>absurd he e0
   ·split
    ·have h9:=h6.tick a.Hold;split
     ·rename_i e0;intro _;refine ⟨?_,rfl,rfl,rfl,rfl,by simp,by simp⟩;unfold Dk at e0 h9 ⊢;cases hb:n.BK.SE with
      | nil=>exact h
      | cons s l=>
        rw [hb] at e0 h9;dsimp only at e0 h9 ⊢;by_cases h1:s.SS=1
        ·rw [if_pos h1] at e0 h9 ⊢;by_cases hh:(FO s).Age<a.Hold
         ·rw [if_pos hh] at h9 ⊢;refine h.book h9 ?_ ?_ fun t ht h0 p hp=>?_
          ·constructor
           ·intro _;exact ⟨FO s,l,rfl,h1⟩
           ·intro _;exact h.th.2 ((F8 n).2 ⟨s,l,hb,h1⟩)
          ·rcases h.hq with q | q
           ·exact .inl q
           ·obtain ⟨t,r,hb',hn⟩:=(Hj n).1 q;rw [hb] at hb';simp only [List.cons.injEq] at hb';exact .inr ⟨FO s,l,rfl,by rw [←hn,←hb'.1];rfl⟩
          ·have ht:t∈FO s::l:=ht;rcases List.mem_cons.1 ht with rfl | ht
           ·have h0:s.SS=0:=h0;omega
           ·exact h.wt t (by rw [hb];exact List.mem_cons_of_mem _ ht) h0 p hp
         ·rw [if_neg hh] at e0;have:=(h6.ok s (by rw [hb];simp)).lo;have e0:s.ID=0:=e0;omega
        ·rw [if_neg h1];exact h
     ·rename_i e0;intro _;refine ⟨?_,rfl,rfl,rfl,rfl,?_,by simp⟩
      ·unfold Dk at e0 h9 ⊢;cases hb:n.BK.SE with
       | nil=>rw [hb] at e0;exact absurd rfl e0
       | cons s l=>
         rw [hb] at e0 h9;dsimp only at e0 h9 ⊢;by_cases h1:s.SS=1
         ·rw [if_pos h1] at e0 h9 ⊢;by_cases hh:(FO s).Age<a.Hold
          ·rw [if_pos hh] at e0;exact absurd rfl e0
          ·rw [if_neg hh] at h9 ⊢;have h8:=h6.tl;rw [hb] at h8;exact h.calm h9 (fun t ht=>h8 t ht) fun t ht h0 p hp=>h.wt t (by rw [hb];exact List.mem_cons_of_mem _ ht) h0 p hp
         ·rw [if_neg h1] at e0;exact absurd rfl e0
      ·intro v hv;simp at hv;subst hv;exact ⟨⟨rfl,fun q=>by have q:(6:Int)≤4:=q;omega,fun _=>rfl,fun _=>rfl⟩,by show (4:Int)≠1;omega⟩
    ·intro _;exact ⟨h,rfl,rfl,rfl,rfl,by simp,by simp⟩
def BN (n:NO):List SX×List Int×List KE×List Int×List KE×List SE:=(n.DK.DI.SD,n.DK.NE,n.KN,n.TL,n.AK,n.BK.SE)
def ZF (a:Do):Bool:=decide (a.KI=0∨a.KI=1∨a.KI=2∨a.KI=3)
theorem nI (n:NO) (a:Do) (hf:FewN n):KJ n a=JA n a (BN n) (if Ls n then 0 else 180) (Br (C7 n.DK.DI.SD a.PE)) (BR n.KN a.PE) (ZF a):=by
 have hS:=hf.sides;unfold KJ;rw [kN n hf,OB,Ym n hf,OB,cj _ _ (show _≤_ by dsimp only;omega),OB,c9 n hf,OB];unfold ZF BN;by_cases c0:a.KI=0
 ·simp [c0,A0]
 ·by_cases c1:a.KI=1
  ·simp [c1,A0]
  ·by_cases c2:a.KI=2
   ·simp [c2,A0]
   ·by_cases c3:a.KI=3
    ·simp [c3,A0]
    ·simp [c0,c1,c2,c3,A0]
theorem Pa {n:NO} {a:Do} (h:OkN n) (he:(B9 n a).1=0):OkN (B9 n a).2.1∧(B9 n a).2.1.DK.DI.ID=n.DK.DI.ID∧(B9 n a).2.1.TL=n.TL∧(B9 n a).2.1.AK=n.AK∧(∀v∈(B9 n a).2.2,EvOK n.DK.DI.ID v∧v.KI≠1)∧(B9 n a).2.2.length≤1000:=by
 revert he;unfold B9;split
 ·intro he;obtain ⟨h1,h2,h3,h4,h5,h6,h7⟩:=lm h he;exact ⟨h1,by rw [h2],h3,h4,h6,Om⟩
 ·split
  ·split
   ·rename_i hp;cases h8:C7 n.DK.DI.SD a.PE with
    | some j=>intro he;simp at he
    | none=>
      dsimp only;split
      ·rename_i hq;intro _;have h0:=Pp h.kup (fun k hk=>(h.kr k hk).2.2) a.PE;have hw:=h.dr.din.id0;refine ⟨h.put (x:=addS n a.PE) ⟨by show 0≤a.PE;omega,hp.2,by show a.PE≠_;omega⟩ (mF h8) ⟨by show 1≤BR n.KN a.PE+1;omega,by show BR n.KN a.PE+1≤65535;omega⟩ (.inr ⟨rfl,by show n.DK.DI.ID≤a.PE;omega⟩) (fun _=>rfl) (fun k hk=>⟨hk,by have:=h.may k hk;show k.PE≠a.PE;omega⟩) h.dis,rfl,rfl,rfl,by simp,by simp⟩
      ·intro he;simp at he
   ·intro he;simp at he
  ·split
   ·split
    ·cases h8:C7 n.DK.DI.SD a.PE with
     | none=>intro he;simp at he
     | some j=>
       dsimp only;obtain ⟨x,hx,hA⟩:=Lu h8;rw [hx];dsimp only;split
       ·rename_i h0;intro _;have hg:=Me a.PE n.BK.SE;have hb:=((CR _).1 h.bk).len;have h9:(Bp n j x).DK.DI.ID=n.DK.DI.ID:=by unfold Bp;dsimp only;split<;>rfl
        refine ⟨h.shut hx h0,h9,rfl,rfl,fun v hv=>?_,by unfold Ez G0;simp only [List.length_cons,List.length_map];omega⟩;rcases List.mem_cons.1 hv with rfl | hv
        ·exact ⟨⟨rfl,fun _=>rfl,fun q=>by have q:(7:Int)<6:=q;omega,fun _=>rfl⟩,by show (7:Int)≠1;omega⟩
        ·obtain ⟨i,_,rfl⟩:=List.mem_map.1 hv;exact ⟨⟨rfl,fun q=>by have q:(6:Int)≤5:=q;omega,fun _=>rfl,fun _=>rfl⟩,by show (5:Int)≠1;omega⟩
       ·intro he;simp at he
    ·intro he;simp at he
   ·intro he;simp at he
theorem uL (n:NO) (a:Do) (h:OkN n) (ha:a.NE.length≤1000):KJ n a=some (be (B9 n a).1 (B9 n a).2.1 (B9 n a).2.2):=by
 have hf:=h.few;have hok:=fun he=>Pa (a:=a) h he;have bad:∀e:Int,e≠0→G9 (BN n) (n.DK.DI.ID,n.DK.DI.PH,n.DK.TH,n.BK.LA,n.BK.SE,e,n.DK.DI.SD,n.DK.NE,n.KN,[])=some (be e n []):=fun e he=>jk n [] e (BN n) rfl rfl (fun q=>absurd q he) (by simp);have n2:∀(is:Bool) (c e:Int),Ev is c n.DK.DI.ID n.DK.DI.PH n.DK.TH n.BK.LA e (BN n).1 (BN n).2.1 (BN n).2.2.2.2.2 (BN n).2.2.1 (BN n).2.2.2.1 (BN n).2.2.2.2.1=some (decide (Dm is c e=0),Dm is c e):=fun is c e=>TQ _ _ _ _ _ _ _ _ _ _ _ _ _;have n3:∀c e,Fg c n.DK.DI.ID n.DK.DI.PH n.DK.TH n.BK.LA e (BN n).1 (BN n).2.1 (BN n).2.2.2.2.2 (BN n).2.2.1 (BN n).2.2.2.1 (BN n).2.2.2.2.1=some (decide (Dm false c e=0),Dm false c e):=fun c e=>ce _ _ _ _ _ _ _ _ _ _ _ _;rw [nI n a hf,(Y3 n).2 h,if_pos rfl];dsimp only [JA];unfold ZF;by_cases hk:a.KI=0∨a.KI=1∨a.KI=2∨a.KI=3
 ·have eA:B9 n a=CF n a:=by unfold B9;rw [if_pos hk]
  rw [eA] at hok ⊢;rw [DT hk,Ag,DT rfl,Ag];have hs:=wf n a h ha;have hs:NI a n.DK.DI.ID n.DK.DI.PH n.DK.TH n.BK.LA 0 (BN n).1 (BN n).2.1 (BN n).2.2.2.2.2 (BN n).2.2.1 (BN n).2.2.2.1 (BN n).2.2.2.2.1=_:=hs;rw [hs,OB];by_cases he:(CF n a).1=0
  ·obtain ⟨h1,_,h3,h4,h5,h6⟩:=hok he;obtain ⟨_,_,_,_,q5,_⟩:=lm h he;have:=jk (CF n a).2.1 (CF n a).2.2 (CF n a).1 (BN n) h3.symm h4.symm (fun _=>h1) Om;rw [q5] at this;exact this
  ·have e:(CF n a).2.1=n∧(CF n a).2.2=[]:=by
    revert he;unfold CF;split
    ·split
     ·split
      ·intro he;exact absurd rfl he
      ·intro _;exact ⟨rfl,rfl⟩
     ·intro _;exact ⟨rfl,rfl⟩
    ·split
     ·split
      ·intro he;exact absurd rfl he
      ·intro _;exact ⟨rfl,rfl⟩
     ·split
      ·split
       ·intro he;exact absurd rfl he
       ·intro _;exact ⟨rfl,rfl⟩
      ·split
       ·split
        ·intro he;exact absurd rfl he
        ·intro he;exact absurd rfl he
       ·intro he;exact absurd rfl he
   have:=bad (CF n a).1 he;rw [e.1,e.2];exact this
 ·rw [DN hk,Aa];unfold B9;rw [if_neg hk];by_cases k4:a.KI=4
  ·rw [DT k4,Ag,if_pos k4];have j3b:∀e:Int,e≠0→KK n a (BN n) (Br (C7 n.DK.DI.SD a.PE)) (BR n.KN a.PE) e=some (be e n []):=fun e he=>by dsimp only [KK];rw [n2,OB,Ox _ he,n2,OB,Ox _ he,DN he];exact bad e he
   by_cases c1:n.DK.DI.ID<a.PE
   ·rw [DT c1,Ag,n2,OB];by_cases c2:a.PE<64
    ·rw [DT c2,FG,if_pos ⟨c1,c2⟩];dsimp only [KK];rw [n2,OB];cases h8:C7 n.DK.DI.SD a.PE with
     | some j=>rw [show Br (some j)=(j:Int) from rfl,DN (show ¬(j:Int)<0 by omega),bJ];dsimp only;rw [n2,OB,Ox _ Om];exact bad 183 Om
     | none=>
       rw [show Br none = -1 from rfl,DT (show (-1:Int)<0 by omega),FG];dsimp only;rw [n2,OB];by_cases c3:BR n.KN a.PE<65535
       ·have eA:B9 n a=(0,ct n (addS n a.PE) n.AK,[]):=by unfold B9;rw [if_neg hk,if_pos k4,if_pos ⟨c1,c2⟩,h8];dsimp only;rw [if_pos c3]
        rw [if_pos c3];rw [DT c3,FG,DT rfl,Ag];have h0:=Pp h.kup (fun k hk=>(h.kr k hk).2.2) a.PE;have hw:Sa (addS n a.PE) n.DK.DI.ID n.DK.DI.PH n.DK.TH n.BK.LA 0 (BN n).1 (BN n).2.1 (BN n).2.2.2.2.2 (BN n).2.2.1 (BN n).2.2.2.1 (BN n).2.2.2.2.1=some (Cy n.DK.DI.SD (addS n a.PE),D9 n.KN (addS n a.PE).PE (addS n a.PE).EP):=w4 (addS n a.PE) _ _ _ _ _ _ _ _ _ _ _ h.rowS h.rowK (by have:=h.dr.din.id0;show -100000≤a.PE∧a.PE≤100000;omega);rw [show (⟨a.PE,wr (BR n.KN a.PE+1),1,true,true,false,true,false⟩:SX)=addS n a.PE by unfold addS;rw [D4 Om Om],hw,OB];obtain ⟨h1,_,h3,h4,h5,h6⟩:=hok (by rw [eA]);rw [eA] at h1;exact jk (ct n (addS n a.PE) n.AK) [] 0 (BN n) rfl rfl (fun _=>h1) (by simp)
       ·rw [if_neg c3,DN c3,bJ];dsimp only;rw [DN (show ¬(186:Int)=0 by omega),Aa];exact bad 186 Om
    ·rw [DN c2,bJ,if_neg fun q=>c2 q.2];exact j3b 182 Om
   ·rw [DN c1,Aa,n3,OB,bJ,if_neg fun q=>c1 q.1];exact j3b 182 Om
  ·rw [DN k4,Aa,if_neg k4];by_cases k5:a.KI=5
   ·rw [DT k5,Ag,if_pos k5];have j4b:∀e:Int,e≠0→KL n a (BN n) (Br (C7 n.DK.DI.SD a.PE)) e=some (be e n []):=fun e he=>by dsimp only [KL];rw [n2,OB,Ox _ he,DN he];exact bad e he
    by_cases c1:n.DK.DI.ID<a.PE
    ·rw [DT c1,Ag,n2,OB];by_cases c2:a.PE<64
     ·rw [DT c2,FG,if_pos ⟨c1,c2⟩];dsimp only [KL];rw [n2,OB];cases h8:C7 n.DK.DI.SD a.PE with
      | none=>rw [show Br none = -1 from rfl,DN (show ¬(0:Int)≤ -1 by omega),bJ];exact bad 184 Om
      | some j=>
        obtain ⟨x,hx,hA⟩:=Lu h8;rw [show Br (some j)=(j:Int) from rfl,DT (show (0:Int)≤j by omega),FG];dsimp only;rw [DT rfl,Ag,show (BN n).1=n.DK.DI.SD from rfl,Ar hx,OB,hx];dsimp only;have hB:Hx x=some (decide (x.SS=0)):=rfl;rw [hB,OB,TQ,OB];dsimp only [Rp];by_cases h0:x.SS=0
        ·rw [if_pos h0,DT h0,FG,DT rfl,Ag];have h9:=kV n h a.PE j x h8 hx hA 0;have h9:L1 a.PE n.DK.DI.ID n.DK.DI.PH n.DK.TH n.BK.LA 0 (BN n).1 (BN n).2.1 (BN n).2.2.2.2.2 (BN n).2.2.1 (BN n).2.2.2.1 (BN n).2.2.2.2.1=_:=h9;rw [h9,OB];have hg:=Me a.PE n.BK.SE;have hb:=((CR _).1 h.bk).len;exact jk (Bp n j x) (Ez n a.PE) 0 (BN n) rfl rfl (fun _=>h.shut hx h0) (by unfold Ez G0;simp only [List.length_cons,List.length_map];omega)
        ·rw [if_neg h0,DN h0,bJ,DN (show ¬(185:Int)=0 by omega),Aa];exact bad 185 Om
     ·rw [DN c2,bJ,if_neg fun q=>c2 q.2];exact j4b 182 Om
    ·rw [DN c1,Aa,n3,OB,bJ,if_neg fun q=>c1 q.1];exact j4b 182 Om
   ·rw [DN k5,Aa,if_neg k5,n3,OB,bJ];exact bad 188 Om
theorem OkN.sides {n:NO} (h:OkN n) {S:List SX} (hc:S.map CN=n.DK.DI.SD.map CN) (hd:∀x∈S,x.DY=true→x.FK=true):OkN ⟨⟨⟨n.DK.DI.ID,n.DK.DI.PH,S⟩,n.DK.TH,n.DK.NE⟩,n.BK,n.KN,n.TL,n.AK⟩:=by
 have side:∀ {x:SX},x∈S→∃y∈n.DK.DI.SD,y.PE=x.PE∧y.EP=x.EP∧y.SS=x.SS:=fun hx=>cE hc hx;have edis:∀ {x:SX},x∈n.DK.DI.SD→∃y∈S,y.PE=x.PE∧y.EP=x.EP∧y.SS=x.SS:=fun hx=>cE hc.symm hx;have hl:S.length=n.DK.DI.SD.length:=by have:=congrArg List.length hc;rwa [List.length_map,List.length_map] at this
 refine {h with
  dr:=⟨⟨h.dr.din.id0,h.dr.din.p0,h.dr.din.p2,by show S.length<64;rw [hl];exact h.dr.din.len,OQ (oL hc) h.dr.din.up,fun x hx=>?_⟩,h.dr.t0,h.dr.t2,h.dr.up,h.dr.nz,fun p hp=>?_⟩
  may:=fun k hk=>⟨fun x hx=>?_,(h.may k hk).2⟩
  sd:=fun x hx=>?_
  tin:=fun p hp=>?_
  nl:=fun x hx hn=>?_
  wt:=fun s hs h0 p hp=>?_}
 ·obtain ⟨y,hy,e1,e2,e3⟩:=side hx;have:=h.dr.din.side y hy;exact ⟨by rw [←e1];exact this.lo,by rw [←e1];exact this.ne,by rw [←e2];exact this.e0,by rw [←e2];exact this.e1,by rw [←e3];exact this.s0,by rw [←e3];exact this.s3,hd x hx⟩
 ·obtain ⟨x,hx,e⟩:=h.dr.has p hp;obtain ⟨y,hy,e1,_⟩:=edis hx;exact ⟨y,hy,Om⟩
 ·obtain ⟨y,hy,e1,_⟩:=side hx;rw [←e1];exact (h.may k hk).1 y hy
 ·obtain ⟨y,hy,e1,e2,e3⟩:=side hx;have:=h.sd y hy;rw [←e1,←e2,←e3];exact this
 ·obtain ⟨x,hx,e,e'⟩:=h.tin p hp;obtain ⟨y,hy,e1,_,e3⟩:=edis hx;exact ⟨y,hy,Om,Om⟩
 ·obtain ⟨y,hy,e1,_,e3⟩:=side hx;rw [←e3];exact h.nl y hy (by rw [e1];exact hn)
 ·obtain ⟨x,hx,e,e'⟩:=h.wt s hs h0 p hp;obtain ⟨y,hy,e1,_,e3⟩:=edis hx;exact ⟨y,hy,Om,Om⟩
theorem g8 (k:Int) (x:SX):CN (CP k x)=CN x:=by
 unfold CP;split
 ·rfl
 ·split
  ·rfl
  ·split<;>rfl
theorem s7 (k:Int) (x:SX) (h:x.DY=true→x.FK=true):(CP k x).DY=true→(CP k x).FK=true:=by
 unfold CP;split
 ·exact fun _=>rfl
 ·split
  ·exact h
  ·split<;>exact h
theorem lq {S:List SX} {j:Nat} {x y:SX} (h:S[j]?=some x) (hc:CN y=CN x):(S.set j y).map CN=S.map CN:=by
 obtain ⟨e1,e2⟩:=mM h y;rw [e2]
 conv=>rhs;rw [e1]
 simp [hc]
def dQ (n:NO) (j:Nat) (x:SX) (k:Int):NO:=⟨⟨⟨n.DK.DI.ID,n.DK.DI.PH,n.DK.DI.SD.set j (CP k x)⟩,n.DK.TH,n.DK.NE⟩,n.BK,n.KN,n.TL,n.AK⟩
theorem OkN.lay {n:NO} (h:OkN n) {j:Nat} {x:SX} (hx:n.DK.DI.SD[j]?=some x) (k:Int):OkN (dQ n j x k):=by
 refine h.sides (lq hx (g8 k x)) fun z hz=>?_;rcases (K5 h.rowS.up hx _).1 hz with rfl | ⟨hz,_⟩
 ·exact s7 k x (h.dr.din.side x (List.mem_of_getElem? hx)).df
 ·exact (h.dr.din.side z hz).df
def LT (n:NO) (k:KE):NO:=⟨n.DK,n.BK,n.KN,n.TL,n.AK++[k]⟩
theorem OkN.ask {n:NO} (h:OkN n) {k:KE} (hm:Fj n k=true) (hd:EG (n.AK++[k])=true):OkN (LT n k):=
 {h with
  may:=fun q hq=>by
   have hq:q∈n.AK++[k]:=hq;rcases List.mem_append.1 hq with hq | hq
   ·exact h.may q hq
   ·simp at hq;subst hq;exact (aW n _).1 hm
  dis:=by unfold EG at hd;rw [decide_eq_true_eq] at hd;exact hd}
def cM (n:NO) (j:Nat) (x:SX):NO:=⟨⟨⟨n.DK.DI.ID,n.DK.DI.PH,n.DK.DI.SD.set j {x with SS:=0}⟩,n.DK.TH,n.DK.NE⟩,n.BK,n.KN,(Bm n.TL).filter fun z=>!decide (z∈ [x.PE]),n.AK⟩
theorem OkN.live {n:NO} (h:OkN n) {j:Nat} {x:SX} (hx:n.DK.DI.SD[j]?=some x):OkN (cM n j x):=by
 have h6:=List.mem_of_getElem? hx;have hm:∀ {z:SX},z∈(cM n j x).DK.DI.SD↔z={x with SS:=0}∨z∈n.DK.DI.SD∧z.PE≠x.PE:=fun {z}=>K5 (z:=z) h.rowS.up hx {x with SS:=0};refine {h with
  dr:=h.dr.state hx Om
  may:=fun k hk=>⟨fun z hz=>?_,(h.may k hk).2⟩
  sd:=fun z hz=>?_
  told:=(DO n.TL).1.filter _
  tin:=fun p hp=>?_
  nl:=fun z hz hn=>?_
  wt:=fun s hs h0 p hp=>?_}
 ·rcases hm.1 hz with rfl | ⟨hz,_⟩
  ·exact (h.may k hk).1 x h6
  ·exact (h.may k hk).1 z hz
 ·rcases hm.1 hz with rfl | ⟨hz,_⟩
  ·have:=h.sd x h6;exact ⟨this.1,this.2.1,this.2.2.1,fun e=>by have e:(0:Int)=1∨(0:Int)=3:=e;omega⟩
  ·exact h.sd z hz
 ·obtain ⟨h1,h2⟩:=List.mem_filter.1 hp;obtain ⟨z,hz,e1,e⟩:=h.tin p (((DO n.TL).2 p).1 h1);refine ⟨z,hm.2 (.inr ⟨hz,fun q=>?_⟩),e1,e⟩;rw [DT (show p∈ [x.PE] by rw [←e,q];simp)] at h2;simp at h2
 ·rcases hm.1 hz with rfl | ⟨hz,_⟩
  ·show (0:Int)≠3;omega
  ·exact h.nl z hz hn
 ·obtain ⟨z,hz,e0,e⟩:=h.wt s hs h0 p hp;by_cases q:z.PE=x.PE
  ·exact ⟨_,hm.2 (.inl rfl),rfl,by show x.PE=p;omega⟩
  ·exact ⟨z,hm.2 (.inr ⟨hz,q⟩),e0,e⟩
def I3 (n:NO) (p:Int):NO:=⟨⟨⟨n.DK.DI.ID,n.DK.DI.PH,n.DK.DI.SD.filter fun x=>!decide (x.PE=p)⟩,n.DK.TH,n.DK.NE⟩,n.BK,n.KN,n.TL,n.AK⟩
theorem OkN.drop {n:NO} (h:OkN n) {x:SX} (hx:x∈n.DK.DI.SD) (h3:x.SS=3):OkN (I3 n x.PE):=by
 have hm:∀ {z:SX},z∈(I3 n x.PE).DK.DI.SD↔z∈n.DK.DI.SD∧z.PE≠x.PE:=fun {z}=>by show z∈n.DK.DI.SD.filter _↔_;rw [List.mem_filter];simp
 have hne:∀ {z:SX},z∈n.DK.DI.SD→z.SS≠3→z.PE≠x.PE:=fun hz hs q=>by have:=fg h.rowS.up hz hx q;subst this;exact hs h3
 refine {h with
  dr:=⟨⟨h.dr.din.id0,h.dr.din.p0,h.dr.din.p2,Nat.lt_of_le_of_lt (List.length_filter_le _ _) h.dr.din.len,h.dr.din.up.filter _,fun z hz=>h.dr.din.side z (hm.1 hz).1⟩,h.dr.t0,h.dr.t2,h.dr.up,h.dr.nz,fun p hp=>?_⟩
  may:=fun k hk=>⟨fun z hz=>(h.may k hk).1 z (hm.1 hz).1,(h.may k hk).2⟩
  sd:=fun z hz=>h.sd z (hm.1 hz).1
  tin:=fun p hp=>?_
  nl:=fun z hz hn=>h.nl z (hm.1 hz).1 hn
  wt:=fun s hs h0 p hp=>?_}
 ·obtain ⟨z,hz,e⟩:=h.dr.has p hp;exact ⟨z,hm.2 ⟨hz,hne hz (h.nl z hz (by rw [e];exact hp))⟩,e⟩
 ·obtain ⟨z,hz,e1,e⟩:=h.tin p hp;exact ⟨z,hm.2 ⟨hz,hne hz Om⟩,e1,e⟩
 ·obtain ⟨z,hz,e0,e⟩:=h.wt s hs h0 p hp;exact ⟨z,hm.2 ⟨hz,hne hz Om⟩,e0,e⟩
def BQ (n:NO) (p:Int):Option (Nat×SX):=match C7 n.DK.DI.SD p with | none=>none | some j=>(n.DK.DI.SD[j]?).map fun x=>(j,x)
def E0 (o:Option (Nat×SX)) (m:Msg) (s:Int):Bool:=match o with | none=>false | some (_,x)=>decide (x.EP=m.EP)&&decide (x.SS=s)
def jO (o:Option (Nat×SX)):Nat:=match o with | none=>0 | some (j,_)=>j
def xO (o:Option (Nat×SX)):SX:=match o with | none=>wS | some (_,x)=>x
def Hg (o:Option (Nat×SX)) (m:Msg):Bool:=match o with | none=>false | some (_,x)=>decide (x.EP=m.EP)
def Eb (m:Msg):Bool:=decide (m.KI=1∨m.KI=2∨m.KI=3∨m.KI=4)
def Bc (n:NO) (p:Int) (m:Msg):Int×NO×List EV:=
 if m.Num≠0 then (187,n,[])
 else if Eb m=true then
  (if Hg (BQ n p) m=true then (if BF m.KI (xO (BQ n p))=true then (187,n,[]) else (0,dQ n (jO (BQ n p)) (xO (BQ n p)) m.KI,[])) else (0,n,[]))
 else if m.KI=5 then (if Fj n ⟨p,m.EP⟩=true∧EG (n.AK++[⟨p,m.EP⟩])=true then (0,LT n ⟨p,m.EP⟩,[]) else (187,n,[]))
 else if m.KI=6 then (if E0 (BQ n p) m 1=true∧p∈n.TL then (0,cM n (jO (BQ n p)) (xO (BQ n p)),[⟨6,n.DK.DI.ID,0,p,[]⟩]) else (187,n,[]))
 else if m.KI=7 then (if E0 (BQ n p) m 0=true∧p<n.DK.DI.ID then (0,Bp n (jO (BQ n p)) (xO (BQ n p)),Ez n p) else (187,n,[]))
 else if m.KI=8 then (if E0 (BQ n p) m 3=true then (0,I3 n p,[⟨8,n.DK.DI.ID,0,p,[]⟩]) else (187,n,[]))
 else (187,n,[])
theorem dW {n:NO} {p:Int} {j:Nat} {x:SX} (h:BQ n p=some (j,x)):C7 n.DK.DI.SD p=some j∧n.DK.DI.SD[j]?=some x∧x.PE=p:=by
 unfold BQ at h;cases hp:C7 n.DK.DI.SD p with
 | none=>rw [hp] at h;simp at h
 | some i=>obtain ⟨y,hy,e⟩:=Lu hp;rw [hp] at h;dsimp only at h;rw [hy] at h;simp only [Option.map_some,Option.some.injEq,Prod.mk.injEq] at h;obtain ⟨rfl,rfl⟩:=h;exact ⟨rfl,hy,e⟩
theorem nL {n:NO} {p:Int} (h:BQ n p=none):C7 n.DK.DI.SD p=none:=by
 unfold BQ at h;cases hp:C7 n.DK.DI.SD p with
 | none=>rfl
 | some i=>obtain ⟨y,hy,e⟩:=Lu hp;rw [hp] at h;dsimp only at h;rw [hy] at h;simp at h
theorem Gx {n:NO} {p s:Int} {m:Msg} (h:E0 (BQ n p) m s=true):∃j x,BQ n p=some (j,x)∧x.EP=m.EP∧x.SS=s∧n.DK.DI.SD[j]?=some x∧x.PE=p∧C7 n.DK.DI.SD p=some j:=by
 cases hs:BQ n p with
 | none=>rw [hs] at h;simp [E0] at h
 | some q=>obtain ⟨j,x⟩:=q;rw [hs] at h;unfold E0 at h;simp only [Bool.and_eq_true,decide_eq_true_eq] at h;obtain ⟨h1,h2,h3⟩:=dW hs;exact ⟨j,x,rfl,h.1,h.2,h2,h3,h1⟩
theorem Pq {n:NO} {p:Int} {m:Msg} (h:OkN n) (he:(Bc n p m).1=0):OkN (Bc n p m).2.1∧(Bc n p m).2.1.DK.DI.ID=n.DK.DI.ID∧(∀v∈(Bc n p m).2.2,EvOK n.DK.DI.ID v∧v.KI≠1)∧(Bc n p m).2.2.length≤1000:=by
 revert he;unfold Bc;split
 ·intro he;simp at he
 ·split
  ·split
   ·rename_i hs;split
    ·intro he;simp at he
    ·intro _;refine ⟨?_,rfl,by simp,by simp⟩;cases hq:BQ n p with
     | none=>rw [hq] at hs;simp [Hg] at hs
     | some q=>obtain ⟨j,x⟩:=q;exact h.lay (dW hq).2.1 _
   ·intro _;exact ⟨h,rfl,by simp,by simp⟩
  ·split
   ·split
    ·rename_i hc;intro _;exact ⟨h.ask hc.1 hc.2,rfl,by simp,by simp⟩
    ·intro he;simp at he
   ·split
    ·split
     ·rename_i hc;intro _;obtain ⟨j,x,hq,_,_,hx,_,_⟩:=Gx hc.1;rw [hq];refine ⟨h.live hx,rfl,fun v hv=>?_,by simp⟩;simp at hv;subst hv;exact ⟨⟨rfl,fun _=>rfl,fun q=>by have q:(6:Int)<6:=q;omega,fun _=>rfl⟩,by show (6:Int)≠1;omega⟩
     ·intro he;simp at he
    ·split
     ·split
      ·rename_i hc;intro _;obtain ⟨j,x,hq,_,h0,hx,h6,_⟩:=Gx hc.1;rw [hq];have hg:=Me p n.BK.SE;have hb:=((CR _).1 h.bk).len;have h8:(Bp n j x).DK.DI.ID=n.DK.DI.ID:=by unfold Bp;dsimp only;split<;>rfl
       refine ⟨h.shut hx h0,h8,fun v hv=>?_,by unfold Ez G0;simp only [List.length_cons,List.length_map];omega⟩;rcases List.mem_cons.1 hv with rfl | hv
       ·exact ⟨⟨rfl,fun _=>rfl,fun q=>by have q:(7:Int)<6:=q;omega,fun _=>rfl⟩,by show (7:Int)≠1;omega⟩
       ·obtain ⟨i,_,rfl⟩:=List.mem_map.1 hv;exact ⟨⟨rfl,fun q=>by have q:(6:Int)≤5:=q;omega,fun _=>rfl,fun _=>rfl⟩,by show (5:Int)≠1;omega⟩
      ·intro he;simp at he
     ·split
      ·split
       ·rename_i hc;intro _;obtain ⟨j,x,hq,_,h3,hx,h6,_⟩:=Gx hc;have:=h.drop (List.mem_of_getElem? hx) h3;rw [h6] at this;refine ⟨this,rfl,fun v hv=>?_,by simp⟩;simp at hv;subst hv;exact ⟨⟨rfl,fun _=>rfl,fun q=>by have q:(8:Int)<6:=q;omega,fun _=>rfl⟩,by show (8:Int)≠1;omega⟩
       ·intro he;simp at he
      ·intro he;simp at he
theorem fo (m:NO) (V:List EV) (e:Int) (K:List KE) (E:K=m.KN) (h:e=0→OkN m) (J:V.length≤100000):
  Ec K (m.DK.DI.ID,m.DK.DI.PH,m.DK.TH,m.BK.LA,m.BK.SE,m.TL,e,m.DK.DI.SD,m.DK.NE,m.AK,V)=some (be e m V):=by
 subst E;dsimp only [Ec];unfold be;by_cases he:e=0
 ·subst he;rw [kT m (h rfl) V J,OB,if_pos rfl];rfl
 ·rw [kU _ _ _ _ e _ he,OB,if_neg he];rfl
theorem OW (n:NO) (s:Int) (p:Int) (m:Msg) (x:node_node) (hx:x.NO.DK.DI.SD=n.DK.DI.SD):KQ s (Br (C7 n.DK.DI.SD p)) x m=some (E0 (BQ n p) m s):=by
 simp only [KQ,Nu,hx];cases hq:BQ n p with
 | none=>rw [nL hq];rfl
 | some q=>obtain ⟨j,y⟩:=q;obtain ⟨h1,h2,h3⟩:=dW hq;rw [h1,show Br (some j)=(j:Int) from rfl,DT (show (0:Int)≤j by omega),Ag,Ar h2,OB,OB];unfold E0;dsimp only;cases decide (y.EP=m.EP)<;>rfl
theorem qU (n:NO) (p:Int) (m:Msg) (hf:FewN n):KO n p m=Hw n p m n.DK.DI.SD n.DK.NE n.KN n.TL n.AK n.BK.SE (decide (Dm (decide (m.Num=0)) 187 (if Ls n then 0 else 180)=0),Dm (decide (m.Num=0)) 187 (if Ls n then 0 else 180)) (Br (C7 n.DK.DI.SD p)) (Eb m):=by
 have hS:=hf.sides;unfold KO;rw [kN n hf,OB,Ym n hf,OB];dsimp only [Wh];rw [TQ,OB,cj _ _ (show _≤_ by dsimp only;omega),OB];unfold Eb;by_cases c1:m.KI=1
 ·simp [c1,A0]
 ·by_cases c2:m.KI=2
  ·simp [c2,A0]
  ·by_cases c3:m.KI=3
   ·simp [c3,A0]
   ·by_cases c4:m.KI=4
    ·simp [c4,A0]
    ·simp [c1,c2,c3,c4,A0]
theorem yv (n:NO) (p:Int) (m:Msg) (hf:FewN n) (e:Int) (he:e≠0) (z:Bool):Hw n p m n.DK.DI.SD n.DK.NE n.KN n.TL n.AK n.BK.SE (decide (e=0),e) (Br (C7 n.DK.DI.SD p)) z=some (XM,[],[],e):=by
 have hA:=hf.asked;have hT:=hf.told;have h6:Ec n.KN (n.DK.DI.ID,n.DK.DI.PH,n.DK.TH,n.BK.LA,n.BK.SE,n.TL,e,n.DK.DI.SD,n.DK.NE,n.AK,[])=some (XM,[],[],e):=by have:=fo n [] e n.KN rfl (fun q=>absurd q he) (by simp);unfold be at this;rw [if_neg he] at this;exact this
 have n2:∀(is:Bool) (c:Int),Ev is c n.DK.DI.ID n.DK.DI.PH n.DK.TH n.BK.LA e n.DK.DI.SD n.DK.NE n.BK.SE n.KN n.TL n.AK=some (false,e):=fun is c=>by rw [TQ,Ox is he,DN he]
 have n3:∀c,Fg c n.DK.DI.ID n.DK.DI.PH n.DK.TH n.BK.LA e n.DK.DI.SD n.DK.NE n.BK.SE n.KN n.TL n.AK=some (false,e):=fun c=>by rw [ce,Ox _ he,DN he]
 dsimp only [Hw];cases z with
 | true=>rw [Ag,DN he,Aa];dsimp only [Iq];rw [Aa];exact h6
 | false=>
   rw [Aa];cases decide (m.KI=5) with
   | true=>rw [Ag,ca n hf,OB,HP _ Om,OB,B5 _ _ Om (by simp;omega),OB,c8 _ (by simp;omega),OB,n2,n3,OB];dsimp only [JB];rw [Aa,h6];cases Fj n ⟨p,m.EP⟩<;>rfl
   | false=>
     rw [Aa];cases decide (m.KI=6) with
     | true=>rw [Ag,OW n 1 p m _ rfl,OB,Gi _ _ Om,OB,n2,n3,OB];dsimp only [JC];rw [Aa,h6];cases E0 (BQ n p) m 1<;>rfl
     | false=>
       rw [Aa];cases decide (m.KI=7) with
       | true=>rw [Ag,OW n 0 p m _ rfl,OB,n2,n3,OB];dsimp only [JD];rw [Aa,h6];cases E0 (BQ n p) m 0<;>rfl
       | false=>
         rw [Aa];cases decide (m.KI=8) with
         | true=>rw [Ag,OW n 3 p m _ rfl,OB,n2,OB];exact h6
         | false=>rw [Aa,n3,OB];exact h6
theorem v7 (n:NO) (p:Int) (m:Msg) (h:OkN n):KO n p m=some (be (Bc n p m).1 (Bc n p m).2.1 (Bc n p m).2.2):=by
 have hf:=h.few;have hA:=hf.asked;have hT:=hf.told;have hS:=hf.sides;have hN:=hf.need;rw [qU n p m hf,(Y3 n).2 h,if_pos rfl];have hok:=fun he=>Pq (p:=p) (m:=m) h he;by_cases hn:m.Num=0
 ·have eG:Bc n p m=_:=rfl;have h6:∀(r:NO) (V:List EV) (e:Int),n.KN=r.KN→r.DK.DI.ID=r.DK.DI.ID→(e=0→OkN r)→V.length≤100000→Ec n.KN (r.DK.DI.ID,r.DK.DI.PH,r.DK.TH,r.BK.LA,r.BK.SE,r.TL,e,r.DK.DI.SD,r.DK.NE,r.AK,V)=some (be e r V):=fun r V e hK _ h1 hV=>fo r V e n.KN hK h1 hV;have bad:∀e:Int,e≠0→Ec n.KN (n.DK.DI.ID,n.DK.DI.PH,n.DK.TH,n.BK.LA,n.BK.SE,n.TL,e,n.DK.DI.SD,n.DK.NE,n.AK,[])=some (be e n []):=fun e he=>h6 n [] e rfl rfl (fun q=>absurd q he) (by simp);have n2:∀(is:Bool) (c:Int),Ev is c n.DK.DI.ID n.DK.DI.PH n.DK.TH n.BK.LA 0 n.DK.DI.SD n.DK.NE n.BK.SE n.KN n.TL n.AK=some (decide (Dm is c 0=0),Dm is c 0):=fun is c=>TQ _ _ _ _ _ _ _ _ _ _ _ _ _;have n3:∀c,Fg c n.DK.DI.ID n.DK.DI.PH n.DK.TH n.BK.LA 0 n.DK.DI.SD n.DK.NE n.BK.SE n.KN n.TL n.AK=some (decide (c=0),c):=fun c=>ce _ _ _ _ _ _ _ _ _ _ _ _;rw [DT hn,FG,DT rfl];unfold Bc at hok ⊢;rw [if_neg fun q=>q hn] at hok ⊢;dsimp only [Hw];cases hk:Eb m with
  | true=>
    rw [Ag,DT rfl,Ag,if_pos rfl];rw [hk,if_pos rfl] at hok;have j4f:Iq n p m n.DK.DI.SD n.DK.NE n.KN n.TL n.AK n.BK.SE (true,0) false=some (be 0 n []):=by dsimp only [Iq];rw [Aa];exact h6 n [] 0 rfl rfl (fun _=>h) (by simp)
    cases hq:BQ n p with
    | none=>rw [nL hq,show Br none = -1 from rfl,DN (show ¬(0:Int)≤ -1 by omega),Aa,if_neg (by simp [Hg])];exact j4f
    | some q=>
      obtain ⟨j,x⟩:=q;obtain ⟨h1,h2,h3⟩:=dW hq;rw [h1,show Br (some j)=(j:Int) from rfl,DT (show (0:Int)≤j by omega),Ag,Ar h2,OB];have ex:xO (some (j,x))=x:=rfl;have ej:jO (some (j,x))=j:=rfl;rw [ex,ej];rw [hq,ex,ej] at hok;by_cases h8:x.EP=m.EP
      ·rw [DT h8,if_pos (show Hg (some (j,x)) m=true from DT h8)];rw [if_pos (show Hg (some (j,x)) m=true from DT h8)] at hok;have hC:n.DK.DI.SD.findIdx? (fun x=>decide (x.PE=p)&&decide (x.EP=m.EP))=some j:=by
        obtain ⟨g1,g2,g3⟩:=List.findIdx?_eq_some_iff_getElem.1 h1;obtain ⟨_,hD⟩:=List.getElem?_eq_some_iff.1 h2;rw [List.findIdx?_eq_some_iff_getElem];refine ⟨g1,?_,fun i hi=>?_⟩
        ·rw [hD,DT h3,DT h8];rfl
        ·have:=g3 i hi;simp only [decide_eq_true_eq] at this;rw [DN this];simp
       have hE:1≤m.KI∧m.KI≤4:=by unfold Eb at hk;rw [decide_eq_true_eq] at hk;omega
       have hg:=vA n.DK p m ((Tz _).2 h.dr) Om hC h2 hn hE;dsimp only [Iq,WC];rw [Ag,hg,OB];dsimp only [WD,Sg];by_cases hl:BF m.KI x=true
       ·simp only [if_pos hl];rw [n2,OB];exact bad 187 Om
       ·rw [if_neg hl] at hok;simp only [if_neg hl];rw [n2,OB];exact h6 (dQ n j x m.KI) [] 0 rfl rfl (fun _=>(hok rfl).1) (by simp)
      ·rw [DN h8,if_neg (show ¬Hg (some (j,x)) m=true from fun q=>h8 (of_decide_eq_true q))];exact j4f
  | false=>
    rw [Aa,if_neg (by simp)];rw [hk,if_neg (by simp)] at hok;by_cases k5:m.KI=5
    ·rw [DT k5,Ag,if_pos k5,ca n hf,OB];rw [if_pos k5] at hok;have j5f:JB n p m n.DK.DI.SD n.DK.NE n.KN n.TL n.AK n.BK.SE (false,187)=some (be 187 n []):=by dsimp only [JB];rw [Aa];exact bad 187 Om
     cases hm:Fj n ⟨p,m.EP⟩ with
     | false=>rw [Aa,n3,OB,if_neg (by simp),DN (show ¬(187:Int)=0 by omega)];exact j5f
     | true=>
       rw [Ag,HP _ Om,OB,B5 _ _ Om (by simp;omega),OB,c8 _ (by simp;omega),OB,n2,OB];cases hd:EG (n.AK++[⟨p,m.EP⟩]) with
       | false=>rw [bJ,DN (show ¬(187:Int)=0 by omega),if_neg (by simp)];exact j5f
       | true=>rw [FG,DT rfl,if_pos ⟨rfl,rfl⟩];dsimp only [JB];rw [Ag,B5 _ _ Om (by simp;omega),OB];exact h6 (LT n ⟨p,m.EP⟩) [] 0 rfl rfl (fun _=>h.ask hm hd) (by simp)
    ·rw [DN k5,Aa,if_neg k5];rw [if_neg k5] at hok;by_cases k6:m.KI=6
     ·rw [DT k6,Ag,if_pos k6,OW n 1 p m _ rfl,OB];have j6f:JC n p n.DK.DI.SD n.DK.NE n.KN n.TL n.AK n.BK.SE (Br (C7 n.DK.DI.SD p)) (false,187)=some (be 187 n []):=by dsimp only [JC];rw [Aa];exact bad 187 Om
      cases hi:E0 (BQ n p) m 1 with
      | false=>rw [Aa,n3,OB,if_neg (by simp),DN (show ¬(187:Int)=0 by omega)];exact j6f
      | true=>
        rw [Ag,Gi _ _ Om,OB,n2,OB];by_cases ht:p∈n.TL
        ·obtain ⟨j,x,hq,_,_,hx,hw,hB⟩:=Gx hi;rw [DT ht,FG,DT rfl,if_pos ⟨rfl,ht⟩,hq,hB];dsimp only [JC,xO,jO];rw [Ag,show Br (some j)=(j:Int) from rfl,Ar hx,OB,kd _ _ Om,OB,Int.toNat_natCast];have h9:∀(S:List SX) (T:List Int) (e:Int),KW 6 p n.DK.DI.ID n.DK.DI.PH n.DK.TH n.BK.LA T e S n.DK.NE n.BK.SE n.KN n.AK=some [⟨6,n.DK.DI.ID,0,p,[]⟩]:=fun S T e=>by simp only [KW];rw [B5 _ _ Om (by simp),OB];rfl
         rw [h9,OB];have:=h6 (cM n j x) [⟨6,n.DK.DI.ID,0,p,[]⟩] 0 rfl rfl (fun _=>h.live hx) (by simp);subst hw;exact this
        ·rw [DN ht,bJ,DN (show ¬(187:Int)=0 by omega),if_neg fun q=>ht q.2];exact j6f
     ·rw [DN k6,Aa,if_neg k6];rw [if_neg k6] at hok;by_cases k7:m.KI=7
      ·rw [DT k7,Ag,if_pos k7,OW n 0 p m _ rfl,OB];have j7f:JD n p n.DK.DI.SD n.DK.NE n.KN n.TL n.AK n.BK.SE (false,187)=some (be 187 n []):=by dsimp only [JD];rw [Aa];exact bad 187 Om
       cases hi:E0 (BQ n p) m 0 with
       | false=>rw [Aa,n3,OB,if_neg (by simp),DN (show ¬(187:Int)=0 by omega)];exact j7f
       | true=>
         rw [Ag,n2,OB];by_cases hp:p<n.DK.DI.ID
         ·obtain ⟨j,x,hq,_,h0,hx,hw,hB⟩:=Gx hi;have hg:=Me p n.BK.SE;have hb:=((CR _).1 h.bk).len;rw [DT hp,FG,DT rfl,if_pos ⟨rfl,hp⟩,hq];dsimp only [JD,xO,jO];rw [Ag,kV n h p j x hB hx hw 0,OB];exact h6 (Bp n j x) (Ez n p) 0 rfl rfl (fun _=>h.shut hx h0) (by unfold Ez G0;simp only [List.length_cons,List.length_map];omega)
         ·rw [DN hp,bJ,DN (show ¬(187:Int)=0 by omega),if_neg fun q=>hp q.2];exact j7f
      ·rw [DN k7,Aa,if_neg k7];rw [if_neg k7] at hok;by_cases k8:m.KI=8
       ·rw [DT k8,Ag,if_pos k8,OW n 3 p m _ rfl,OB,n2,OB];cases hi:E0 (BQ n p) m 3 with
        | false=>rw [bJ];dsimp only;rw [DN (show ¬(187:Int)=0 by omega),Aa,if_neg (by simp)];exact bad 187 Om
        | true=>
          obtain ⟨j,x,hq,_,h3,hx,hw,hB⟩:=Gx hi;rw [FG];dsimp only;rw [DT rfl,Ag,if_pos rfl];have hG:RS p n.DK.DI.ID n.DK.DI.PH n.DK.TH n.BK.LA 0 n.DK.DI.SD n.DK.NE n.BK.SE n.KN n.TL n.AK=some (n.DK.DI.SD.filter fun x=>!decide (x.PE=p)):=by simp only [RS,ke n.DK.DI.SD (fun z=>KV z p) (fun x=>decide (x.PE=p)) Om (fun _ _=>rfl),OB]
          have h9:∀(S:List SX),Ny 8 p n.DK.DI.ID n.DK.DI.PH n.DK.TH n.BK.LA 0 S n.DK.NE n.BK.SE n.KN n.TL n.AK=some [⟨8,n.DK.DI.ID,0,p,[]⟩]:=fun S=>by simp only [Ny];rw [B5 _ _ Om (by simp),OB];rfl
          rw [hG,OB,h9,OB];have:=h.drop (List.mem_of_getElem? hx) h3;rw [hw] at this;exact h6 (I3 n p) [⟨8,n.DK.DI.ID,0,p,[]⟩] 0 rfl rfl (fun _=>this) (by simp)
       ·rw [DN k8,Aa,if_neg k8,n3,OB];exact bad 187 Om
 ·rw [DN hn,bJ];have:=yv n p m hf 187 Om (Eb m);rw [this];unfold Bc;rw [if_pos hn];rfl
end NX
end Go.Proofs.YtgnjledocpbchaaGreat
