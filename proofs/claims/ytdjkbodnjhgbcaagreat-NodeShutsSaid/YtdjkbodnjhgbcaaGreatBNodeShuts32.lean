/-
  The function narthex/narthexref01.Has: its code compiled, a model, and that the code answers as the model. Written by a program of ours (lb.py). No statement of the seat is proved here.
-/
import Derived.Test.YtdjkbodnjhgbcaaGreatB31
set_option maxRecDepth 100000
set_option maxHeartbeats 4000000
namespace Go.Proofs.YtdjkbodnjhgbcaaGreat
namespace NX
open Go
noncomputable section
@[go_sem] def e18:EC:=(by have h:=hF Tryz.f18;(conv at h=>rhs;reduce);dsimp only[go_sem] at h;exact ⟨_,h⟩:DP Tryz.f18).1
theorem ok18:FnOK Tryz.prog 18 Tryz.f18 e18 [.t 4] 2 16:=okA
def Zrl:Unit→Option Bool
| ()=>
 some false
def Zsl (x1:List Int) (x2:Int):Int→Option (Int ⊕ Bool)
| x5=>
 ifb (decide (x5<(ln Z15 x1))) (
 (at_ x1 x5).bind fun x6=>
 ifb (decide (x6=x2)) (
 Option.map Sum.inr (some true)) (
 some (.inl (wr (x5+1))))) (
 Option.map Sum.inr (Zrl ()))
def Ztl (x1:List Int) (x2:Int):Option Bool:=
 loop (Zsl x1 x2) 0
theorem Zul (x1:List Int) (x2:Int) (r:Bool) (h:Ztl x1 x2=some r):Z03 Tryz.prog 18 [Sp0 x1,.iv x2] (.bv r):=by
 refine FP ok18 fun w0 H0=>?_
 rw [Ztl] at h
 refine Zv2 9 ?_;dsimp only[go_sem];refine An (Zo4 (fun (_:Unit)=>(⟨an 18 [],[],[]⟩:St)) Zrl r ?_ fun J1=>?_)
 ·rintro ⟨⟩ h;rw [Zrl] at h;(try dsimp only);refine Zv2 4 ?_;dsimp only[go_sem];refine An ?_;exact Zw4 (res:=fun (r:Bool)=>.bv r) ok18 h
 ·refine Zv2 1 ?_;dsimp only[go_sem];refine An (Zp4 h (fun (x5:Int)=>(⟨(Sp0 x1 :: .iv x2::an 3 (.iv x5::an 12 [])),[],[]⟩:St)) (by simp [go_sem]) (by intro x5;first | rfl | simp [go_sem]) ?_);rintro n1 x5 y1 h hin1 hout1;rw [Zsl] at h;(try dsimp only);refine Zv2 8 ?_;dsimp only[go_sem];refine An (MI h (fun h=>?_) fun h=>?_)
  ·refine Zv2 7 ?_;dsimp only[go_sem];refine An ?_;have ⟨x6,ex6,h⟩:=Bs h;refine Zs4 Z15 ex6 trivial rfl rfl rfl (Zv2 4 ?_);dsimp only[go_sem];refine An (MI h (fun h=>?_) fun h=>?_)
   ·refine Zv2 4 ?_;dsimp only[go_sem];refine An ?_;exact Zw4 (res:=fun (r:Bool)=>.bv r) ok18 (Zn4 h hout1)
   ·refine Zv2 7 ?_;dsimp only[go_sem];refine An ?_;exact Zx4 h hin1
  ·refine Zv2 1 ?_;dsimp only[go_sem];refine An ?_;exact Zy4 J1 (s:=()) (Zn4 h hout1)
@[go_sem] def e20:EC:=(by have h:=hF Tryz.f20;(conv at h=>rhs;reduce);dsimp only[go_sem] at h;exact ⟨_,h⟩:DP Tryz.f20).1
theorem ok20:FnOK Tryz.prog 20 Tryz.f20 e20 [.c 4 (some 8),.t 5] 2 26:=okA
def Z0m:Unit→Option (Side×Bool)
| ()=>
 some ((Side.mk 0 0 0 false false false false false),false)
def Z1m (x1:DI) (x2:Int):Int→Option (Int ⊕ (Side×Bool))
| x6=>
 ifb (decide (x6<(ln Side.row x1.SD))) (
 (at_ x1.SD x6).bind fun x7=>
 ifb (decide (x7.Peer=x2)) (
 (at_ x1.SD x6).bind fun x8=>
 Option.map Sum.inr (some (x8,true))) (
 some (.inl (wr (x6+1))))) (
 Option.map Sum.inr (Z0m ()))
def Z2m (x1:DI) (x2:Int):Option (Side×Bool):=
 loop (Z1m x1 x2) 0
theorem Z3m (x1:DI) (x2:Int) (r:(Side×Bool)) (h:Z2m x1 x2=some r):Z03 Tryz.prog 20 [.agg (DI.row x1),.iv x2] (.tup [.agg (Side.row r.1),.bv r.2]):=by
 refine FP ok20 fun w0 H0=>?_
 rw [Z2m] at h
 refine Zv2 11 ?_;dsimp only[go_sem];refine An (Zo4 (fun (_:Unit)=>(⟨an 4 (.ptr 1 0::an 23 []),[none,some ⟨65,[.iv 0,.iv 0,.iv 0,.ff,.ff,.ff,.ff,.ff]⟩],[]⟩:St)) Z0m r ?_ fun J1=>?_)
 ·rintro ⟨⟩ h;rw [Z0m] at h;(try dsimp only);refine Zv2 6 ?_;dsimp only[go_sem];refine An ?_;exact Zw4 (res:=fun (r:(Side×Bool))=>.tup [.agg (Side.row r.1),.bv r.2]) ok20 h
 ·refine Zv2 1 ?_;dsimp only[go_sem];refine An (Zp4 h (fun (x6:Int)=>(⟨(.any :: .iv x2 :: .ptr 0 0 :: .any :: .ptr 1 0 :: .any :: .iv x6::an 21 []),[some ⟨25,DI.row x1⟩,some ⟨65,[.iv 0,.iv 0,.iv 0,.ff,.ff,.ff,.ff,.ff]⟩],[]⟩:St)) (by simp [go_sem]) (by intro x6;first | rfl | simp [go_sem]) ?_);rintro n1 x6 y1 h hin1 hout1;rw [Z1m] at h;(try dsimp only);refine Zv2 9 ?_;dsimp only[go_sem];refine An (MI h (fun h=>?_) fun h=>?_)
  ·refine Zv2 8 ?_;dsimp only[go_sem];refine An ?_;have ⟨x7,ex7,h⟩:=Bs h;refine Zs4 Side.row ex7 trivial rfl rfl rfl (Zv2 5 ?_);dsimp only[go_sem];refine An (MI h (fun h=>?_) fun h=>?_)
   ·refine Zv2 5 ?_;dsimp only[go_sem];refine An ?_;have ⟨x8,ex8,h⟩:=Bs h;refine Zs4 Side.row ex8 trivial rfl rfl rfl (Zv2 4 ?_);dsimp only[go_sem];refine An ?_;exact Zw4 (res:=fun (r:(Side×Bool))=>.tup [.agg (Side.row r.1),.bv r.2]) ok20 (Zn4 h hout1)
   ·refine Zv2 7 ?_;dsimp only[go_sem];refine An ?_;exact Zx4 h hin1
  ·refine Zv2 1 ?_;dsimp only[go_sem];refine An ?_;exact Zy4 J1 (s:=()) (Zn4 h hout1)
@[go_sem] def e19:EC:=(by have h:=hF Tryz.f19;(conv at h=>rhs;reduce);dsimp only[go_sem] at h;exact ⟨_,h⟩:DP Tryz.f19).1
theorem ok19:FnOK Tryz.prog 19 Tryz.f19 e19 [.t 4] 2 20:=okA
def Zym:Unit→Option Int
| ()=>
 some (-1)
def Zzm (x1:Book) (x2:Int):Int→Option (Int ⊕ Int)
| x5=>
 ifb (decide (x5<(ln Sess.row x1.Sess))) (
 (at_ x1.Sess x5).bind fun x6=>
 ifb (decide (x6.ID=x2)) (
 Option.map Sum.inr (some x5)) (
 some (.inl (wr (x5+1))))) (
 Option.map Sum.inr (Zym ()))
def Z0n (x1:Book) (x2:Int):Option Int:=
 loop (Zzm x1 x2) 0
theorem Z1n (x1:Book) (x2:Int) (r:Int) (h:Z0n x1 x2=some r):Z03 Tryz.prog 19 [.agg (Book.row x1),.iv x2] (.iv r):=by
 refine FP ok19 fun w0 H0=>?_
 rw [Z0n] at h
 refine Zv2 10 ?_;dsimp only[go_sem];refine An (Zo4 (fun (_:Unit)=>(⟨an 22 [],[],[]⟩:St)) Zym r ?_ fun J1=>?_)
 ·rintro ⟨⟩ h;rw [Zym] at h;(try dsimp only);refine Zv2 4 ?_;dsimp only[go_sem];refine An ?_;exact Zw4 (res:=fun (r:Int)=>.iv r) ok19 h
 ·refine Zv2 1 ?_;dsimp only[go_sem];refine An (Zp4 h (fun (x5:Int)=>(⟨(.any :: .iv x2 :: .ptr 0 0 :: .any :: .any :: .iv x5::an 16 []),[some ⟨32,Book.row x1⟩],[]⟩:St)) (by simp [go_sem]) (by intro x5;first | rfl | simp [go_sem]) ?_);rintro n1 x5 y1 h hin1 hout1;rw [Zzm] at h;(try dsimp only);refine Zv2 9 ?_;dsimp only[go_sem];refine An (MI h (fun h=>?_) fun h=>?_)
  ·refine Zv2 8 ?_;dsimp only[go_sem];refine An ?_;have ⟨x6,ex6,h⟩:=Bs h;refine Zs4 Sess.row ex6 trivial rfl rfl rfl (Zv2 5 ?_);dsimp only[go_sem];refine An (MI h (fun h=>?_) fun h=>?_)
   ·refine Zv2 5 ?_;dsimp only[go_sem];refine An ?_;exact Zw4 (res:=fun (r:Int)=>.iv r) ok19 (Zn4 h hout1)
   ·refine Zv2 7 ?_;dsimp only[go_sem];refine An ?_;exact Zx4 h hin1
  ·refine Zv2 1 ?_;dsimp only[go_sem];refine An ?_;exact Zy4 J1 (s:=()) (Zn4 h hout1)
@[go_sem] def e6:EC:=(by have h:=hF Tryz.f6;(conv at h=>rhs;reduce);dsimp only[go_sem] at h;exact ⟨_,h⟩:DP Tryz.f6).1
@[go_sem] def e3:EC:=(by have h:=hF Tryz.f3;(conv at h=>rhs;reduce);dsimp only[go_sem] at h;exact ⟨_,h⟩:DP Tryz.f3).1
@[go_sem] def e7:EC:=(by have h:=hF Tryz.f7;(conv at h=>rhs;reduce);dsimp only[go_sem] at h;exact ⟨_,h⟩:DP Tryz.f7).1
theorem OB {α β:Type} (a:α) (f:α→Option β):(some a).bind f=f a:=rfl
theorem DN {p:Prop} [Decidable p] (h:¬p):decide p=false:=decide_eq_false h
theorem DT {p:Prop} [Decidable p] (h:p):decide p=true:=decide_eq_true h
@[simp] theorem Zvn {α:Type} (a b:Option α):ifb true a b=a:=rfl
@[simp] theorem Zwn {α:Type} (a b:Option α):ifb false a b=b:=rfl
theorem Zxn {α:Type} (e:Bool) (a b:Option α):ifb (!e) a b=ifb e b a:=by cases e<;>rfl
theorem Zyn {n:Int} (h1: -9223372036854775808≤n) (h2:n≤9223372036854775807):wr n=n:=IntWalk.i64_in n ⟨h1,h2⟩
theorem Zzn {α:Type} {l:List α} {k:Nat} {x:α} (h:l[k]?=some x):at_ l (k:Int)=some x:=by
 unfold at_;rw [if_pos (Int.natCast_nonneg k)];simpa using h
theorem Z0o {α:Type} {b:Nat} (l m:List α) (hb:b≤1000) (h:l.length+m.length≤100000000):Zj4 b l m=some (l++m):=by
 unfold Zj4
 rw [if_pos]
 exact ⟨by
  have h1:(l.length+m.length)*b≤100000000*1000:=Nat.mul_le_mul h hb
  omega,by omega⟩
theorem Z1o {α:Type} {f:α→List AV} {l:List α} {k:Nat} {x:α} (h:l[k]?=some x):decide ((k:Int)<ln f l)=true:=by
 have:=(List.getElem?_eq_some_iff.1 h).1
 rw [ln_eq];simp;omega
theorem Z2o {α:Type} {f:α→List AV} {l:List α}:decide ((l.length:Int)<ln f l)=false:=by rw [ln_eq];simp
theorem Z3o {k:Nat} (h:k≤4000000000000000000):wr ((k:Int)+1)=((k+1:Nat):Int):=Zyn (by omega) (by omega)
theorem Z4o {α:Type} {l:List α} {k:Nat} {x:α} (h:l[k]?=some x) (hl:l.length≤4000000000000000000):wr ((k:Int)+1)=((k+1:Nat):Int):=by
 have:=(List.getElem?_eq_some_iff.1 h).1
 exact Z3o (by omega)
def forR {σ β:Type} (f:Nat→σ→Option (σ ⊕ β)) (fin:σ→Option β):Nat→Nat→σ→Option β
 | 0,_,s=>fin s
 | m+1,k,s=>match f k s with
   | none=>none
   | some (.inl s')=>forR f fin m (k+1) s'
   | some (.inr r)=>some r
theorem Z5o {σ β τ:Type} (body:τ→Option (τ ⊕ β)) (mk:Int→σ→τ) (f:Nat→σ→Option (σ ⊕ β)) (fin:σ→Option β) (n:Nat) (hn:n≤4000000000000000000)
  (hb:∀(k:Nat) s,k<n→body (mk k s)=(f k s).map (fun | .inl s'=>.inl (mk (k+1:Nat) s') | .inr r=>.inr r)) (he:∀s,body (mk n s)=(fin s).map .inr):
  ∀(m k:Nat) (s:σ),m+k=n→loop body (mk k s)=forR f fin m k s
 | 0,k,s,h=>by
   have:k=n:=by omega
   subst this
   rw [loop_eq,he]
   cases hf:fin s<;>simp [forR,hf]
 | m+1,k,s,h=>by
   rw [loop_eq,hb k s (by omega)]
   simp only [forR]
   cases hf:f k s with
   | none=>rfl
   | some y=>
     cases y with
     | inl s'=>exact Z5o body mk f fin n hn hb he m (k+1) s' (by omega)
     | inr r=>rfl
def forL {α σ β:Type} (f:α→σ→Option (σ ⊕ β)) (fin:σ→Option β):List α→σ→Option β
 | [],s=>fin s
 | x::l,s=>match f x s with
   | none=>none
   | some (.inl s')=>forL f fin l s'
   | some (.inr r)=>some r
theorem forR_forL {α σ β:Type} (f:α→σ→Option (σ ⊕ β)) (fin:σ→Option β) (l:List α):∀(r:List α) (k:Nat) (s:σ),l.drop k=r→forR (fun k s=>(l[k]?).bind fun x=>f x s) fin r.length k s=forL f fin r s
 | [],k,s,_=>rfl
 | x::r,k,s,h=>by
   have hx:l[k]?=some x:=by
    have:=congrArg (·[0]?) h
    simpa using this
   have hr:l.drop (k+1)=r:=by
    rw [←List.drop_drop,h];rfl
   simp only [List.length_cons,forR,forL,hx,OB]
   cases hf:f x s with
   | none=>rfl
   | some y=>
     cases y with
     | inl s'=>exact forR_forL f fin l r (k+1) s' hr
     | inr r=>rfl
theorem loop_forL {α σ β τ:Type} (l:List α) (body:τ→Option (τ ⊕ β)) (mk:Int→σ→τ) (f:α→σ→Option (σ ⊕ β)) (fin:σ→Option β) (hl:l.length≤4000000000000000000)
  (hb:∀(k:Nat) x s,l[k]?=some x→body (mk k s)=(f x s).map (fun | .inl s'=>.inl (mk (k+1:Nat) s') | .inr r=>.inr r)) (he:∀s,body (mk l.length s)=(fin s).map .inr) (s:σ):
  loop body (mk 0 s)=forL f fin l s:=by
 have:=Z5o body mk (fun k s=>(l[k]?).bind fun x=>f x s) fin l.length hl (fun k s hk=>by
  have hx:l[k]?=some l[k]:=List.getElem?_eq_getElem hk
  rw [hx,OB];exact hb k _ s hx) he l.length 0 s (by omega)
 rw [show ((0:Nat):Int)=0 from rfl] at this
 rw [this]
 exact forR_forL f fin l l 0 s rfl
theorem forL_find {α β:Type} (f:α→Option (Unit ⊕ β)) (q:α→Bool) (g:α→β) (fin:Option β) (l:List α) (hf:∀x∈l,f x=if q x then some (.inr (g x)) else some (.inl ())):
  forL (fun x _=>f x) (fun _=>fin) l ()=match l.find? q with | some x=>some (g x) | none=>fin:=by
 induction l with
 | nil=>rfl
 | cons x l ih=>
   simp only [forL,hf x (by simp),List.find?_cons]
   cases hq:q x with
   | true=>simp
   | false=>
     simp only [Bool.false_eq_true,if_false]
     exact ih fun y hy=>hf y (List.mem_cons_of_mem _ hy)
def plc:Option Nat→Int
 | some i=>i
 | none=> -1
theorem Z6o (o:Option Nat):decide (0≤plc o)=o.isSome:=by cases o<;>simp [plc]
theorem plc_neg (o:Option Nat):decide (plc o<0)=o.isNone:=by
 cases o with
 | none=>rfl
 | some n=>exact DN (by show ¬((n:Int)<0);omega)
theorem Z7o {α:Type} (l:List α) (q:α→Bool):∀(r:List α) (k:Nat),l.drop k=r→
  forR (β:=Int) (fun k (_:Unit)=>(l[k]?).bind fun x=>if q x then some (.inr (k:Int)) else some (.inl ())) (fun _=>some (-1)) r.length k ()=some (plc ((r.findIdx? q).map (· + k)))
 | [],k,_=>by simp [forR,plc]
 | x::r,k,h=>by
   have hx:l[k]?=some x:=by have:=congrArg (·[0]?) h;simpa using this
   have hr:l.drop (k+1)=r:=by rw [←List.drop_drop,h];rfl
   simp only [List.length_cons,forR,hx,OB,List.findIdx?_cons]
   cases hq:q x with
   | true=>simp [plc]
   | false=>
     simp only [Bool.false_eq_true,if_false]
     rw [Z7o l q r (k+1) hr]
     cases r.findIdx? q with
     | none=>rfl
     | some n=>simp only [Option.map_some,plc];congr 2;omega
theorem Z8o {α:Type} (l:List α) (body:Int→Option (Int ⊕ Int)) (q:α→Bool) (hl:l.length≤4000000000000000000)
  (hb:∀(k:Nat) x,l[k]?=some x→body k=some (if q x then .inr (k:Int) else .inl ((k+1:Nat):Int))) (he:body l.length=some (.inr (-1))):loop body 0=some (plc (l.findIdx? q)):=by
 have:=Z5o body (fun k (_:Unit)=>k) (fun k _=>(l[k]?).bind fun x=>if q x then some (.inr (k:Int)) else some (.inl ())) (fun _=>some (-1)) l.length hl (fun k s hk=>by
  have hx:l[k]?=some l[k]:=List.getElem?_eq_getElem hk
  rw [hx,OB,hb k _ hx]
  cases q l[k]<;>rfl) (fun _=>he) l.length 0 () (by omega)
 rw [show ((0:Nat):Int)=0 from rfl] at this
 rw [this,Z7o l q l 0 rfl]
 simp
theorem Z9o {α:Type} (l:List α) (q:α→Bool):(l.findIdx? q).isSome=l.any q:=by rw [List.findIdx?_isSome]
theorem loop_any {α β:Type} (l:List α) (body:Int→Option (Int ⊕ β)) (q:α→Bool) (yes no:β) (hl:l.length≤4000000000000000000)
  (hb:∀(k:Nat) x,l[k]?=some x→body k=some (if q x then .inr yes else .inl ((k+1:Nat):Int))) (he:body l.length=some (.inr no)):loop body 0=some (if l.any q then yes else no):=by
 have:=loop_forL l body (fun k (_:Unit)=>k) (fun x _=>if q x then some (.inr yes) else some (.inl ())) (fun _=>some no) hl (fun k x s hx=>by
  rw [hb k x hx]
  cases q x<;>rfl) (fun _=>he) ()
 rw [this,forL_find (fun x=>if q x then some (.inr yes) else some (.inl ())) q (fun _=>yes) (some no) l (fun x _=>rfl)]
 cases h:l.find? q with
 | none=>
   rw [List.find?_eq_none] at h
   have:l.any q=false:=by rw [List.any_eq_false];exact h
   simp [this]
 | some x=>
   have:l.any q=true:=by rw [List.any_eq_true];exact ⟨x,List.mem_of_find?_eq_some h,List.find?_some h⟩
   simp [this]
theorem Zao {α τ β:Type} (l:List α) (body:τ→Option (τ ⊕ β)) (st:List α→τ) (R:List α→List α→Option β)
  (hb:∀pre x post,l=pre++x::post→(body (st pre)=some (.inl (st (pre++[x])))∧R pre (x::post)=R (pre++[x]) post)∨∃r,body (st pre)=some (.inr r)∧R pre (x::post)=some r)
  (he:body (st l)=(R l []).map .inr):∀post pre,l=pre++post→loop body (st pre)=R pre post
 | [],pre,h=>by
   have:pre=l:=by simpa using h.symm
   subst this
   rw [loop_eq,he]
   cases R pre []<;>rfl
 | x::post,pre,h=>by
   rw [loop_eq]
   rcases hb pre x post h with ⟨h1,h2⟩ | ⟨r,h1,h2⟩
   ·rw [h1,h2]
    exact Zao l body st R hb he post (pre++[x]) (by simpa using h)
   ·rw [h1,h2]
theorem Zbo {α τ β:Type} (l:List α) (body:τ→Option (τ ⊕ β)) (st:List α→τ) (R:List α→List α→Option β)
 (hb:∀pre x post,l=pre++x::post→(body (st pre)=some (.inl (st (pre++[x])))∧R pre (x::post)=R (pre++[x]) post)∨∃r,body (st pre)=some (.inr r)∧R pre (x::post)=some r)
 (he:body (st l)=(R l []).map .inr):loop body (st [])=R [] l:=Zao l body st R hb he l [] rfl
theorem loop_ppI {α τ β:Type} (l:List α) (body:τ→Option (τ ⊕ β)) (st:List α→τ) (R:List α→List α→Option β) (I:List α→Prop)
  (hb:∀pre x post,l=pre++x::post→I pre→(body (st pre)=some (.inl (st (pre++[x])))∧I (pre++[x])∧R pre (x::post)=R (pre++[x]) post)∨∃r,body (st pre)=some (.inr r)∧R pre (x::post)=some r)
  (he:I l→body (st l)=(R l []).map .inr):∀post pre,l=pre++post→I pre→loop body (st pre)=R pre post
 | [],pre,h,hI=>by
   have:pre=l:=by simpa using h.symm
   subst this
   rw [loop_eq,he hI]
   cases R pre []<;>rfl
 | x::post,pre,h,hI=>by
   rw [loop_eq]
   rcases hb pre x post h hI with ⟨h1,h3,h2⟩ | ⟨r,h1,h2⟩
   ·rw [h1,h2]
    exact loop_ppI l body st R I hb he post (pre++[x]) (by simpa using h) h3
   ·rw [h1,h2]
theorem Zco {α τ β:Type} (l:List α) (body:τ→Option (τ ⊕ β)) (st:List α→τ) (r:β)
  (hb:∀pre x post,l=pre++x::post→body (st pre)=some (.inl (st (pre++[x])))) (he:body (st l)=some (.inr r)):loop body (st [])=some r:=
 Zbo l body st (fun _ _=>some r) (fun pre x post h=>.inl ⟨hb pre x post h,rfl⟩) he
theorem Zdo {α:Type} {l pre post:List α} {x:α} (h:l=pre++x::post):l[pre.length]?=some x:=by subst h;simp
theorem Zeo {α:Type} {l pre post:List α} {x:α} (h:l=pre++x::post):pre.length<l.length:=by subst h;simp
theorem Zfo {α:Type} {l pre post:List α} {x:α} (h:l=pre++x::post):x∈l:=by subst h;simp
theorem Zgo {α:Type} {l a b:List α} {x:α} (h:l=a++x::b):at_ l (a.length:Int)=some x:=Zzn (Zdo h)
theorem Zho {α:Type} (a b:List α) (x y:α):(a++x::b).set ((a.length:Int)).toNat y=a++y::b:=by simp
theorem Zio {α:Type} (pre:List α) (x:α):(pre++[x]).length=pre.length+1:=by simp
theorem loop_natI {τ β:Type} (n:Nat) (body:τ→Option (τ ⊕ β)) (st:Nat→τ) (R:Nat→Option β) (hb:∀k,k<n→(body (st k)=some (.inl (st (k+1)))∧R k=R (k+1))∨∃r,body (st k)=some (.inr r)∧R k=some r) (he:body (st n)=(R n).map .inr):loop body (st 0)=R 0:=by
 have key:∀m k,m+k=n→loop body (st k)=R k:=by
  intro m
  induction m with
  | zero=>
    intro k hk
    have:k=n:=by omega
    subst this
    rw [loop_eq,he]
    cases R k<;>rfl
  | succ m ih=>
    intro k hk
    rw [loop_eq]
    rcases hb k (by omega) with ⟨h1,h2⟩ | ⟨r,h1,h2⟩
    ·rw [h1,h2];exact ih (k+1) (by omega)
    ·rw [h1,h2]
 exact key n 0 rfl
theorem Zjo {α:Type} (l m:List α) (body:Int→Option (Int ⊕ Bool)) (eqv:α→α→Bool) (h6:l.length=m.length) (hl:l.length≤4000000000000000000)
  (hb:∀(k:Nat) x y,l[k]?=some x→m[k]?=some y→body k=some (if eqv x y then .inl ((k+1:Nat):Int) else .inr false)) (he:body l.length=some (.inr true)):loop body 0=some ((l.zip m).all fun p=>eqv p.1 p.2):=by
 rw [loop_any (l.zip m) body (fun p=>!eqv p.1 p.2) false true (by simp;omega) (fun k x hx=>by
  obtain ⟨x1,x2⟩:=x
  rw [List.getElem?_zip_eq_some] at hx
  rw [hb k x1 x2 hx.1 hx.2]
  cases eqv x1 x2<;>rfl) (by rw [show (l.zip m).length=l.length by simp [h6]];exact he)]
 have:∀(q:List (α×α)),(if q.any (fun p=>!eqv p.1 p.2) then some false else some true)=some (q.all fun p=>eqv p.1 p.2):=by
  intro q
  induction q with
  | nil=>rfl
  | cons p q ih=>
    rw [List.any_cons,List.all_cons]
    cases h:eqv p.1 p.2 with
    | true=>exact ih
    | false=>rfl
 have h2:=this (l.zip m)
 rw [←h2]
 cases (l.zip m).any (fun p=>!eqv p.1 p.2)<;>rfl
theorem Zko {α:Type} [DecidableEq α]:∀(l m:List α),l.length=m.length→(l.zip m).all (fun p=>decide (p.1=p.2))=decide (l=m)
 | [],[],_=>rfl
 | [],_::_,h=>by simp at h
 | _::_,[],h=>by simp at h
 | x::l,y::m,h=>by
   have ih:=Zko l m (by simpa using h)
   simp only [List.zip_cons_cons,List.all_cons,ih]
   by_cases h1:x=y<;>simp [h1]
theorem Zlo {α:Type} [DecidableEq α] {l m:List α} (h:l.length≠m.length):decide (l=m)=false:=DN (by rintro rfl;exact h rfl)
theorem Zmo {α β:Type} (f:α→List AV) (g:β→List AV) (l:List α) (m:List β):decide (ln f l=ln g m)=decide (l.length=m.length):=by
 rw [ln_eq,ln_eq,decide_eq_decide];omega
theorem Zno (l:List Side) (p:Side→Option Bool) (q:Side→Bool) (hl:l.length≤4000000000000000000) (hp:∀x∈l,p x=some (q x)):Zf7 l p=some (plc (l.findIdx? q)):=by
 unfold Zf7
 refine Z8o l _ q hl (fun k x hx=>?_) ?_
 ·simp only [Ze7,Z1o hx,Zvn,Zzn hx,OB,hp x (List.mem_iff_getElem?.2 ⟨k,hx⟩),Z4o hx hl]
  cases q x<;>rfl
 ·simp only [Ze7,Z2o,Zwn,Zd7,Option.map_some]
theorem Zoo (l:List KE) (p:KE→Option Bool) (q:KE→Bool) (hl:l.length≤4000000000000000000) (hp:∀x∈l,p x=some (q x)):Zj7 l p=some (plc (l.findIdx? q)):=by
 unfold Zj7
 refine Z8o l _ q hl (fun k x hx=>?_) ?_
 ·simp only [Zi7,Z1o hx,Zvn,Zzn hx,OB,hp x (List.mem_iff_getElem?.2 ⟨k,hx⟩),Z4o hx hl]
  cases q x<;>rfl
 ·simp only [Zi7,Z2o,Zwn,Zh7,Option.map_some]
theorem Zpo (l:List Int) (p:Int→Option Bool) (q:Int→Bool) (hl:l.length≤4000000000000000000) (hp:∀x∈l,p x=some (q x)):Zr7 l p=some (plc (l.findIdx? q)):=by
 unfold Zr7
 refine Z8o l _ q hl (fun k x hx=>?_) ?_
 ·simp only [Zq7,Z1o hx,Zvn,Zzn hx,OB,hp x (List.mem_iff_getElem?.2 ⟨k,hx⟩),Z4o hx hl]
  cases q x<;>rfl
 ·simp only [Zq7,Z2o,Zwn,Zp7,Option.map_some]
theorem Zqo (l:List Sess) (p:Sess→Option Bool) (q:Sess→Bool) (hl:l.length≤4000000000000000000) (hp:∀x∈l,p x=some (q x)):Zn7 l p=some (plc (l.findIdx? q)):=by
 unfold Zn7
 refine Z8o l _ q hl (fun k x hx=>?_) ?_
 ·simp only [Zm7,Z1o hx,Zvn,Zzn hx,OB,hp x (List.mem_iff_getElem?.2 ⟨k,hx⟩),Z4o hx hl]
  cases q x<;>rfl
 ·simp only [Zm7,Z2o,Zwn,Zl7,Option.map_some]
theorem Zro (l:List Side) (p:Side→Option Bool) (q:Side→Bool) (hl:l.length≤4000000000000000000) (hp:∀x∈l,p x=some (q x)):Zqa l p=some (l.any q):=by
 unfold Zqa
 rw [Zno l p q hl hp,OB,Z6o,Z9o]
theorem Zso (l:List KE) (p:KE→Option Bool) (q:KE→Bool) (hl:l.length≤4000000000000000000) (hp:∀x∈l,p x=some (q x)):Zsa l p=some (l.any q):=by
 unfold Zsa
 rw [Zoo l p q hl hp,OB,Z6o,Z9o]
theorem Zto (l:List Int) (p:Int→Option Bool) (q:Int→Bool) (hl:l.length≤4000000000000000000) (hp:∀x∈l,p x=some (q x)):Zwa l p=some (l.any q):=by
 unfold Zwa
 rw [Zpo l p q hl hp,OB,Z6o,Z9o]
theorem Zuo (l:List Sess) (p:Sess→Option Bool) (q:Sess→Bool) (hl:l.length≤4000000000000000000) (hp:∀x∈l,p x=some (q x)):Zua l p=some (l.any q):=by
 unfold Zua
 rw [Zqo l p q hl hp,OB,Z6o,Z9o]
theorem wr_pred {k:Nat} (h:k≤4000000000000000000):wr (((k+1:Nat):Int)-1)=(k:Int):=by
 rw [Zyn (by omega) (by omega)];omega
theorem Zvo {α:Type} (l:List α) (p q:α→Bool) (h:∀x,p x=!q x):l.any p=!l.all q:=by
 induction l with
 | nil=>rfl
 | cons x l ih=>simp [ih,h]
theorem Zwo (l:List Int) (x:Int) (hl:l.length≤1000000):Ztl l x=some (decide (x∈l)):=by
 unfold Ztl
 rw [loop_any l (Zsl l x) (fun y=>decide (y=x)) true false (by omega) (fun k y hy=>by
  have hw:wr ((k:Int)+1)=((k+1:Nat):Int):=Z4o hy (by omega)
  simp only [Zsl,Z1o hy,Zvn,Zzn hy,OB,hw]
  by_cases h:y=x<;>simp [h])
  (by simp only [Zsl,Z2o,Zwn,Zrl,Option.map_some])]
 by_cases h:x∈l
 ·have:l.any (fun y=>decide (y=x))=true:=by rw [List.any_eq_true];exact ⟨x,h,by simp⟩
  simp [this,h]
 ·have:l.any (fun y=>decide (y=x))=false:=by
   rw [List.any_eq_false];intro y hy;simp;rintro rfl;exact h hy
  simp [this,h]
theorem pw_chain {l:List Int} (h:l.Pairwise (· < ·)) {k:Nat} {x y:Int} (hx:l[k]?=some x) (hy:l[k+1]?=some y):x<y:=by
 rw [List.pairwise_iff_getElem] at h
 obtain ⟨h1,rfl⟩:=List.getElem?_eq_some_iff.1 hx
 obtain ⟨h2,rfl⟩:=List.getElem?_eq_some_iff.1 hy
 exact h k (k+1) h1 h2 (by omega)
theorem compact_pw {l:List Int} (h:l.Pairwise (· < ·)):Lib.compact l=l:=by
 refine Lib.compact_all l fun j hj=>?_
 cases j with
 | zero=>exact Lib.keeps_lt_one _ 0 (by omega)
 | succ j=>
   have hx:l[j+1]?=some l[j+1]:=List.getElem?_eq_getElem hj
   have hy:l[j]?=some l[j]:=List.getElem?_eq_getElem (by omega)
   have:=pw_chain h hy hx
   refine Lib.keeps_pos ?_
   simp only [Nat.add_sub_cancel]
   rw [getElem!_pos _ _ (by simpa using hj),getElem!_pos _ _ (by simp;omega)]
   simp only [List.getElem_toArray]
   omega
def Zxo (l:List Int):List Int:=Lib.compact (l.mergeSort fun x y=>decide (x≤y))
theorem s_setL (l:List Int) (hl:l.length≤1000000):Zza l=some (Zxo l):=by
 simp only [Zza,Zx7]
 rw [Z0o _ _ (by omega) (by simp;omega),OB,List.nil_append,DT (by omega),Zvn]
 rfl
theorem Zyo (l m:List Int) (hl:l.length≤1000000):Zv7 l m=some (decide (l=m)):=by
 simp only [Zv7,Zmo]
 by_cases h:l.length=m.length
 ·simp only [h,decide_true,Bool.not_true,Zwn]
  rw [Zjo l m _ (fun x y=>decide (x=y)) h (by omega) (fun k x y hx hy=>by
   simp only [Zu7,Z1o hx,Zvn,Zzn hx,Zzn hy,OB,Z4o hx (show l.length≤4000000000000000000 by omega),Zxn,Option.map_some]
   cases decide (x=y)<;>rfl) (by simp only [Zu7,Z2o,Zwn,Zt7,Option.map_some]),Zko l m h]
 ·simp [h,Zlo h]
theorem s_Grow (n:Nat) (hn:n≤3000000):Z3b n=some []:=by
 have e0:wr (0-0)=0:=Zyn (by omega) (by omega)
 have e1:wr ((n:Int)-0)=n:=by rw [Zyn (by omega) (by omega)];omega
 simp only [Z3b,Z2b,Z1b,e0,e1]
 rw [DN (by omega),Zwn]
 by_cases h:0<n
 ·rw [DT (by omega),Zvn]
  unfold apz_
  rw [if_pos ⟨by omega,by omega,by omega⟩,OB]
  unfold sub_
  rw [if_pos ⟨by omega,by omega,by omega⟩]
  simp
 ·rw [DN (by omega),Zwn]
theorem s_Concat (a b:List Int) (ha:a.length≤1000000) (hb:b.length≤1000000):Zfd [a,b]=some (a++b):=by
 have g0:at_ [a,b] 0=some a:=rfl
 have g1:at_ [a,b] (wr (0+1))=some b:=by rw [Zyn (by omega) (by omega)];rfl
 have l0:ln (Z25 1 Z15) [a,b]=2:=by rw [ln_eq];rfl
 have w1:wr (0+1)=1:=Zyn (by omega) (by omega)
 have w2:wr (1+1)=2:=Zyn (by omega) (by omega)
 have s1:wr (0+ln Z15 a)=(a.length:Int):=by rw [ln_eq,Zyn (by omega) (by omega)];omega
 have s2:wr ((a.length:Int)+ln Z15 b)=((a.length+b.length:Nat):Int):=by rw [ln_eq,Zyn (by omega) (by omega)];omega
 unfold Zfd
 rw [loop_eq]
 dsimp only [Zed]
 rw [l0,show decide ((0:Int)<2)=true from rfl,Zvn,g0,OB,s1,DN (by omega),Zwn]
 dsimp only [Zdd]
 rw [s1,w1,loop_eq]
 dsimp only [Zed]
 rw [l0,show decide ((1:Int)<2)=true from rfl,Zvn,←w1,g1,OB,s2,DN (by omega),Zwn]
 dsimp only [Zdd]
 rw [s2,w1,w2,loop_eq]
 dsimp only [Zed]
 rw [l0,show decide ((2:Int)<2)=false from rfl,Zwn]
 dsimp only [Zcd]
 rw [s_Grow _ (by omega),OB]
 have k:loop (Zbd [a,b]) (0,[])=some (a++b):=by
  rw [loop_eq]
  dsimp only [Zbd]
  rw [l0,show decide ((0:Int)<2)=true from rfl,Zvn,g0,OB,Z0o _ _ (by omega) (by simp;omega),OB,List.nil_append,w1]
  dsimp only
  rw [loop_eq]
  dsimp only [Zbd]
  rw [l0,show decide ((1:Int)<2)=true from rfl,Zvn,←w1,g1,OB,Z0o _ _ (by omega) (by omega),OB,w1,w2]
  dsimp only
  rw [loop_eq]
  dsimp only [Zbd]
  rw [l0,show decide ((2:Int)<2)=false from rfl,Zwn]
  rfl
 rw [k];rfl
theorem Zzo (l:List Int) (x:Int) (hl:l.length≤1000000):Z5b l x=some (decide (x∈l)):=by
 have h1:Z28 l x=some (plc (l.findIdx? fun y=>decide (x=y))):=by
  unfold Z28
  refine Z8o l _ (fun y=>decide (x=y)) (by omega) (fun k y hy=>?_) ?_
  ·simp only [Z18,Z1o hy,Zvn,Zzn hy,OB,Z4o hy (show l.length≤4000000000000000000 by omega)]
   cases decide (x=y)<;>rfl
  ·simp only [Z18,Z2o,Zwn,Z08,Option.map_some]
 simp only [Z5b,h1,OB,Z6o,Z9o]
 congr 1
 rw [Bool.eq_iff_iff,List.any_eq_true,decide_eq_true_iff]
 constructor
 ·rintro ⟨y,hy,h⟩
  have:x=y:=by simpa using h
  exact this ▸ hy
 ·intro h;exact ⟨x,h,by simp⟩
theorem Z0p (l:List Int) (x:Int) (hl:l.length≤1000000):Zhd l x=some (decide (x∈l)):=by
 simp only [Zhd,Zzo l x hl,OB]
theorem Z1p {zs:List Int} (h:zs.Pairwise (· ≤ ·)):(Lib.compact zs).Pairwise (· < ·)∧∀x,x∈Lib.compact zs↔x∈zs:=by
 have get:∀j,j<zs.length→∃hj:j<zs.length,zs.toArray[j]! = zs[j]:=fun j hj=>⟨hj,by rw [getElem!_pos _ _ (by simpa using hj)];simp⟩
 have mono:∀i j,i≤j→j<zs.length→zs.toArray[i]!≤zs.toArray[j]!:=fun i j h8 hj=>by
  obtain ⟨_,e1⟩:=get i (by omega)
  obtain ⟨_,e2⟩:=get j hj
  rw [e1,e2]
  by_cases e:i=j
  ·subst e;exact Int.le_refl _
  ·rw [List.pairwise_iff_getElem] at h
   exact h i j (by omega) hj (by omega)
 have key:∀m,m≤zs.length→(Lib.compactUpTo zs.toArray m).Pairwise (· < ·)∧(∀x,x∈Lib.compactUpTo zs.toArray m↔∃j,j<m∧x=zs.toArray[j]!):=by
  intro m
  induction m with
  | zero=>intro _;exact ⟨by simp [Lib.compactUpTo],fun x=>by simp [Lib.compactUpTo]⟩
  | succ m ih=>
    intro hm
    obtain ⟨h1,h2⟩:=ih (by omega)
    rw [Lib.compactUpTo_succ]
    cases hk:Lib.keeps zs.toArray m with
    | true=>
      rw [if_pos rfl]
      refine ⟨?_,fun x=>?_⟩
      ·rw [List.pairwise_append]
       refine ⟨h1,by simp,fun x hx y hy=>?_⟩
       rw [List.mem_singleton] at hy
       subst hy
       obtain ⟨j,hj,rfl⟩:=(h2 x).1 hx
       unfold Lib.keeps at hk
       simp only [decide_eq_true_eq] at hk
       have a1:=mono j (m-1) (by omega) (by omega)
       have a2:=mono (m-1) m (by omega) (by omega)
       rcases hk with e | e
       ·omega
       ·have:zs.toArray[m]!≠zs.toArray[m-1]!:=e
        omega
      ·rw [List.mem_append,h2]
       constructor
       ·rintro (⟨j,hj,e⟩ | e)
        ·exact ⟨j,by omega,e⟩
        ·simp at e;exact ⟨m,by omega,by simpa using e⟩
       ·rintro ⟨j,hj,e⟩
        by_cases h6:j=m
        ·subst h6;right;simp [e]
        ·exact .inl ⟨j,by omega,e⟩
    | false=>
      rw [if_neg (by simp),List.append_nil]
      refine ⟨h1,fun x=>?_⟩
      rw [h2]
      constructor
      ·rintro ⟨j,hj,e⟩;exact ⟨j,by omega,e⟩
      ·rintro ⟨j,hj,e⟩
       by_cases h6:j=m
       ·subst h6
        unfold Lib.keeps at hk
        simp only [decide_eq_false_iff_not,not_or,Classical.not_not] at hk
        exact ⟨j-1,by omega,by rw [e,hk.2]⟩
       ·exact ⟨j,by omega,e⟩
 obtain ⟨k1,k2⟩:=key zs.length (Nat.le_refl _)
 refine ⟨k1,fun x=>?_⟩
 have:=k2 x
 unfold Lib.compact
 rw [this]
 constructor
 ·rintro ⟨j,hj,e⟩
  obtain ⟨_,e1⟩:=get j hj
  rw [e,e1];exact List.getElem_mem hj
 ·intro hx
  obtain ⟨j,hj,e⟩:=List.mem_iff_getElem.1 hx
  obtain ⟨_,e1⟩:=get j hj
  exact ⟨j,hj,by rw [e1,e]⟩
theorem Z2p (l:List Int):(Zxo l).Pairwise (· < ·)∧∀x,x∈Zxo l↔x∈l:=by
 have hs:(l.mergeSort fun x y=>decide (x≤y)).Pairwise (· ≤ ·):=by
  have:=List.pairwise_mergeSort (le:=fun x y:Int=>decide (x≤y)) (by intro a b c;simp;omega) (by intro a b;simp;omega) l
  exact this.imp fun h=>by simpa using h
 obtain ⟨h1,h2⟩:=Z1p hs
 refine ⟨h1,fun x=>?_⟩
 unfold Zxo
 rw [h2]
 exact (List.mergeSort_perm l _).mem_iff
theorem pw_len:∀(l:List Int) (q n:Int),l.Pairwise (· < ·)→(∀x∈l,q≤x∧x<n)→l=[]∨(l.length:Int)≤n-q
 | [],_,_,_,_=>.inl rfl
 | x::l,q,n,h,hb=>by
   rw [List.pairwise_cons] at h
   have h1:=hb x (by simp)
   right
   rcases pw_len l (x+1) n h.2 (fun y hy=>⟨by have:=h.1 y hy;omega,(hb y (by simp [hy])).2⟩) with rfl | h2
   ·simp only [List.length_cons,List.length_nil];omega
   ·simp only [List.length_cons];omega
theorem pw2 {x y:Int} {r:List Int}:(x::y::r).Pairwise (· < ·)↔x<y∧(y::r).Pairwise (· < ·):=by
 constructor
 ·intro h
  rw [List.pairwise_cons] at h
  exact ⟨h.1 y (by simp),h.2⟩
 ·rintro ⟨h,k⟩
  rw [List.pairwise_cons]
  refine ⟨fun z hz=>?_,k⟩
  rw [List.pairwise_cons] at k
  rcases List.mem_cons.1 hz with rfl | hz
  ·exact h
  ·have:=k.1 z hz;omega
theorem s_Valid (l:List Int) (hl:l.length≤1000000):Z88 l=some (decide (l.Pairwise (· < ·))):=by
 unfold Z88
 have key:=loop_natI l.length (Z78 l) (fun k=>(k:Int)) (fun k=>some (decide ((l.drop (k-1)).Pairwise (· < ·)))) (fun k hk=>?_) ?_
 ·simpa using key
 ·obtain ⟨y,hy⟩:∃y,l[k]?=some y:=⟨_,List.getElem?_eq_getElem hk⟩
  dsimp only [Z78]
  rw [Z1o hy,Zvn]
  cases k with
  | zero=>
    left
    rw [DN (by omega),Zwn]
    dsimp only [Z68]
    rw [Zwn,Z3o (by omega)]
    exact ⟨rfl,rfl⟩
  | succ k=>
    obtain ⟨x,hx⟩:∃x,l[k]?=some x:=⟨_,List.getElem?_eq_getElem (by omega)⟩
    have e1:l.drop k=x::l.drop (k+1):=by
     obtain ⟨h1,rfl⟩:=List.getElem?_eq_some_iff.1 hx
     exact List.drop_eq_getElem_cons h1
    have e2:l.drop (k+1)=y::l.drop (k+2):=by
     obtain ⟨h1,rfl⟩:=List.getElem?_eq_some_iff.1 hy
     exact List.drop_eq_getElem_cons h1
    rw [DT (by omega),Zvn,wr_pred (by omega),Zzn hx,OB,Zzn hy,OB]
    dsimp only [Z68]
    rw [show k+1-1=k from rfl,show k+1+1-1=k+1 from rfl,e1,e2,decide_eq_decide.2 (pw2 (x:=x) (y:=y) (r:=l.drop (k+2)))]
    by_cases h:y≤x
    ·right
     refine ⟨false,by rw [DT h,Zvn];rfl,?_⟩
     rw [DN (by rintro ⟨h1,_⟩;omega)]
    ·left
     refine ⟨by rw [DN h,Zwn,Z3o (by omega)],?_⟩
     have:x<y:=by omega
     simp [this]
 ·dsimp only [Z78]
  rw [Z2o,Zwn]
  have:(l.drop (l.length-1)).Pairwise (· < ·):=by
   have h1:(l.drop (l.length-1)).length≤1:=by rw [List.length_drop];omega
   generalize l.drop (l.length-1)=q at h1
   match q,h1 with
   | [],_=>exact .nil
   | [x],_=>exact List.pairwise_singleton _ _
  rw [DT this];rfl
theorem Z3p {α:Type} (f:α→Bool) (pre post:List α) (x:α):∃d,(pre++x::post).drop (pre.filter f).length=d::(pre++x::post).drop ((pre.filter f).length+1):=by
 have h1:(pre.filter f).length≤pre.length:=List.length_filter_le _ _
 have h2:(pre.filter f).length<(pre++x::post).length:=by simp;omega
 exact ⟨_,List.drop_eq_getElem_cons h2⟩
theorem s_DeleteFunc (l:List Int) (p:Int→Option Bool) (q:Int→Bool) (hl:l.length≤1000000) (hp:∀x∈l,p x=some (q x)):Zmd l p=some (l.filter fun x=>!q x):=by
 simp only [Zmd,Zpo l p q (by omega) hp,OB]
 cases hf:l.findIdx? q with
 | none=>
   rw [List.findIdx?_eq_none_iff] at hf
   rw [show plc none = -1 from rfl,DT rfl,Zvn,List.filter_eq_self.2 (fun x hx=>by rw [hf x hx];rfl)]
 | some i=>
   obtain ⟨hi,hq,hn⟩:=List.findIdx?_eq_some_iff_getElem.1 hf
   rw [show plc (some i)=(i:Int) from rfl,DN (by omega),Zwn,Z3o (by omega)]
   let F:List Int→List Int:=fun pre=>pre.filter fun x=>!q x
   have hF:∀pre post,l=pre++post→(F pre).length≤pre.length:=fun pre post _=>List.length_filter_le _ _
   have key:=Zao l (Zld p) (fun pre=>(((F pre).length:Int),(pre.length:Int),F pre++l.drop (F pre).length)) (fun _ _=>some (F l)) (fun pre x post h=>?_) ?_ (l.drop (i+1)) (l.take (i+1)) (by simp)
   ·have e1:F (l.take (i+1))=l.take i:=by
     show (l.take (i+1)).filter _=_
     rw [List.take_succ_eq_append_getElem hi,List.filter_append]
     have a1:(l.take i).filter (fun x=>!q x)=l.take i:=by
      rw [List.filter_eq_self]
      intro x hx
      obtain ⟨j,hj,rfl⟩:=List.mem_iff_getElem.1 hx
      rw [List.getElem_take]
      have:=hn j (by simp at hj;omega)
      simpa using this
     have a2: [l[i]].filter (fun x=>!q x)=[]:=by simp [hq]
     rw [a1,a2,List.append_nil]
    rw [e1] at key
    have e2:(l.take i).length=i:=by simp;omega
    have e3:(l.take (i+1)).length=i+1:=by simp;omega
    rw [e2,e3,List.take_append_drop] at key
    exact key
   ·left
    refine ⟨?_,rfl⟩
    have hx:=Zdo h
    have hm:=Zeo h
    have h8:=hF pre (x::post) h
    have h6:(F pre++l.drop (F pre).length).length=l.length:=by simp;omega
    have h9:(F pre++l.drop (F pre).length)[pre.length]?=some x:=by
     rw [List.getElem?_append_right h8,List.getElem?_drop,show (F pre).length+(pre.length-(F pre).length)=pre.length by omega];exact hx
    dsimp only [Zld]
    rw [Z1o h9,Zvn,Zzn h9,OB,hp x (Zfo h),OB]
    have hc:F (pre++[x])=F pre++(if q x then [] else [x]):=by
     show (pre++[x]).filter _=_
     rw [List.filter_append]
     congr 1
     cases ho:q x<;>simp [ho]
    cases he:q x with
    | true=>
      rw [Bool.not_true,Zwn]
      dsimp only [Zkd]
      rw [Z3o (by omega),hc,he,if_pos rfl,List.append_nil,Zio]
    | false=>
      rw [Bool.not_false,Zvn]
      obtain ⟨d,hd⟩:=Z3p (fun x=>!q x) pre post x
      rw [←h] at hd
      have hd':l.drop (F pre).length=d::l.drop ((F pre).length+1):=hd
      have hw:(F pre++l.drop (F pre).length)[(F pre).length]?=some d:=by rw [hd'];simp
      rw [Zzn hw,OB]
      dsimp only [Zkd]
      rw [Z3o (by omega),Z3o (by omega),hc,he,if_neg (by simp),Zio,hd',Int.toNat_natCast,Zio]
      simp
   ·dsimp only [Zld]
    have h8:=hF l [] (by simp)
    have h6:(F l++l.drop (F l).length).length=l.length:=by simp;omega
    rw [show ((l.length:Int))=((F l++l.drop (F l).length).length:Int) by rw [h6],Z2o,Zwn]
    dsimp only [Zjd]
    unfold vw_
    rw [ln_eq,h6,if_pos ⟨by omega,by omega,by omega,by omega⟩,OB]
    unfold clr_
    rw [h6,if_pos ⟨by omega,by simp;omega⟩,OB]
    unfold sub_
    rw [if_pos ⟨by omega,by omega,by simp;omega⟩,OB]
    simp [Int.toNat_natCast,List.append_assoc]
theorem Z4p (l:List Int):(Zxo l).length≤l.length:=by
 have:=Lib.compact_length_le (l.mergeSort fun x y=>decide (x≤y))
 rw [List.length_mergeSort] at this
 exact this
theorem setL_pw {l:List Int} (h:l.Pairwise (· < ·)):Zxo l=l:=by
 unfold Zxo
 rw [List.mergeSort_of_pairwise (h.imp fun h6=>DT (by omega)),compact_pw h]
theorem s_keep (l:List Int) (p:Int→Option Bool) (q:Int→Bool) (hl:l.length≤1000000) (hp:∀x∈l,p x=some (q x)):Zjf l p=some ((Zxo l).filter q):=by
 have h1:=Z4p l
 simp only [Zjf,s_setL l hl,OB]
 rw [s_DeleteFunc (Zxo l) _ (fun x=>!q x) (by omega) (fun x hx=>by simp only [Z48,hp x (((Z2p l).2 x).1 hx),OB]),OB]
 simp
theorem s_Minus (a b:List Int) (ha:a.length≤1000000) (hb:b.length≤1000000):Zbg a b=some ((Zxo a).filter fun z=>!decide (z∈b)):=by
 simp only [Zbg]
 rw [s_keep a _ (fun z=>!decide (z∈b)) ha (fun x _=>by simp only [Zif,Z0p b x hb,OB]),OB]
theorem s_Within (a b:List Int) (ha:a.length≤1000000) (hb:b.length≤1000000):Zmh a b=some (a.all fun z=>decide (z∈b)):=by
 simp only [Zmh,s_Minus a b ha hb,OB,ln_eq]
 congr 1
 rw [Bool.eq_iff_iff,decide_eq_true_eq,List.all_eq_true]
 have:((((Zxo a).filter fun z=>!decide (z∈b)).length:Nat):Int)=0↔((Zxo a).filter fun z=>!decide (z∈b))=[]:=by rw [←List.length_eq_zero_iff];omega
 rw [this,List.filter_eq_nil_iff]
 constructor
 ·intro h x hx
  have:=h x (((Z2p a).2 x).2 hx)
  simpa using this
 ·intro h x hx
  have:=h x (((Z2p a).2 x).1 hx)
  simpa using this
theorem s_Del (l:List Int) (x:Int) (hl:l.length≤1000000):Zkh l x=some ((Zxo l).filter fun z=>!decide (z∈ [x])):=by
 simp only [Zkh,s_Minus l [x] hl (by simp),OB]
theorem s_Add (l:List Int) (x:Int) (hl:l.length≤900000):Zag l x=some (Zxo (l++[x])):=by
 simp only [Zag,Zhf,s_Concat l [x] (by omega) (by simp),OB,s_setL (l++[x]) (by simp;omega)]
def Z5p:Book:=⟨0,[]⟩
def Z6p (n:List Int):Bool:=decide (n.length≤64)&&n.all (fun p=>decide (0≤p))
def sessB (last top:Int) (first:Bool) (s:Sess):Bool:=
 decide (last<s.ID)&&(decide (s.ID≤top)&&(Z6p s.Need&&(decide (s.Need.Pairwise (· < ·))&&(decide (0≤s.Age)&&((decide (s.State=1)&&first)||(decide (s.State=0)&&decide (s.Age=0)))))))
def Z7p (top:Int):Int→Bool→List Sess→Bool
 | _,_,[]=>true
 | last,first,s::l=>sessB last top first s&&Z7p top s.ID false l
def okBk (b:Book):Bool:=decide (0≤b.Last)&&(decide (b.Sess.length≤8)&&Z7p b.Last 0 true b.Sess)
def Z8p (b:Book):Prop:=b.Sess.length≤1000000∧∀s∈b.Sess,s.Need.length≤1000000
theorem s_odd (n:List Int) (hn:n.length≤1000000):Ztd n=some (!Z6p n):=by
 simp only [Ztd,Zsd,ln_eq,Z6p]
 rw [Zto n _ (fun z=>decide (z<0)) (by omega) (fun x _=>by simp only [Zc8])]
 have:n.any (fun z=>decide (z<0))=!n.all (fun p=>decide (0≤p)):=Zvo _ _ _ fun x=>by
  rw [Bool.eq_iff_iff];simp
 rw [this]
 by_cases h:n.length≤64
 ·rw [DN (by omega),DT h];rfl
 ·rw [DT (by omega),DN h];rfl
def Z9p (pre:List Sess):Int:=match pre.getLast? with | some s=>s.ID | none=>0
theorem lastID_snoc (pre:List Sess) (s:Sess):Z9p (pre++[s])=s.ID:=by simp [Z9p]
theorem s_Check3 (b:Book) (last i:Int) (s:Sess) (g:Bool) (hn:s.Need.length≤1000000):Zof b last i s g =
  if decide (last<s.ID)&&(decide (s.ID≤b.Last)&&(Z6p s.Need&&(decide (s.Need.Pairwise (· < ·))&&(decide (0≤s.Age)&&(g||(decide (s.State=0)&&decide (s.Age=0))))))) then some (.inl (s.ID,wr (i+1))) else some (.inr 170):=by
 have e4:∀z,Znf i s g z=if !z&&(g||(decide (s.State=0)&&decide (s.Age=0))) then some (.inl (s.ID,wr (i+1))) else some (.inr 170):=fun z=>by
  simp only [Znf,Zmf]
  cases z
  ·cases g
   ·by_cases h1:s.State=0
    ·by_cases h2:s.Age=0<;>simp [h1,h2]
    ·simp [h1]
   ·simp
  ·simp
 simp only [Zof,s_odd s.Need hn,s_Valid s.Need hn,OB,e4]
 by_cases h1:s.ID≤last
 ·rw [DT h1,Zvn,DN (show ¬last<s.ID by omega)];simp
 ·rw [DN h1,Zwn,DT (show last<s.ID by omega),Bool.true_and]
  by_cases h2:b.Last<s.ID
  ·rw [DT h2,Zvn,DN (show ¬s.ID≤b.Last by omega)];simp
  ·rw [DN h2,Zwn,DT (show s.ID≤b.Last by omega),Bool.true_and]
   cases Z6p s.Need
   ·simp
   ·by_cases h3:s.Need.Pairwise (· < ·)
    ·by_cases h4:s.Age<0
     ·have:¬0≤s.Age:=by omega
      simp [h3,h4,this]
     ·have:0≤s.Age:=by omega
      simp [h3,h4,this]
    ·simp [h3]
theorem Zap (b:Book) (hb:Z8p b):Zrf b=some (if okBk b then 0 else 170):=by
 have hl:loop (Zpf b) (0,0)=some (if Z7p b.Last 0 true b.Sess then 0 else 170):=by
  refine Zbo b.Sess (Zpf b) (fun pre=>(Z9p pre,(pre.length:Int))) (fun pre post=>some (if Z7p b.Last (Z9p pre) pre.isEmpty post then 0 else 170)) (fun pre x post h=>?_) ?_
  ·have hx:=Zdo h
   have hm:=Zeo h
   have h1:=hb.1
   dsimp only [Zpf]
   rw [Z1o hx,Zvn,Zzn hx,OB]
   have e:∀u v:Bool,ifb (decide (x.State=1)) (Zof b (Z9p pre) (pre.length:Int) x u) (Zof b (Z9p pre) (pre.length:Int) x v)=Zof b (Z9p pre) (pre.length:Int) x (if decide (x.State=1) then u else v):=fun u v=>by
    cases decide (x.State=1)<;>rfl
   rw [e,s_Check3 _ _ _ _ _ (hb.2 x (Zfo h)),Z3o (by omega),lastID_snoc,Zio]
   have e2:(if decide (x.State=1)=true then decide ((pre.length:Int)=0) else false)=(decide (x.State=1)&&pre.isEmpty):=by
    cases pre with
    | nil=>cases decide (x.State=1)<;>rfl
    | cons a r=>cases decide (x.State=1)<;>simp<;>omega
   rw [e2]
   show (_∧some (if (sessB (Z9p pre) b.Last pre.isEmpty x&&Z7p b.Last x.ID false post) then (0:Int) else 170)=some (if Z7p b.Last x.ID (pre++[x]).isEmpty post then 0 else 170))∨∃r,_∧some (if (sessB (Z9p pre) b.Last pre.isEmpty x&&Z7p b.Last x.ID false post) then (0:Int) else 170)=some r
   have e3:(pre++[x]).isEmpty=false:=by simp
   rw [e3]
   show ((if sessB (Z9p pre) b.Last pre.isEmpty x then some (Sum.inl (x.ID,((pre.length+1:Nat):Int))) else some (.inr (170:Int)))=_∧_)∨∃r,(if sessB (Z9p pre) b.Last pre.isEmpty x then some (Sum.inl (x.ID,((pre.length+1:Nat):Int))) else some (.inr (170:Int)))=_∧_
   cases sessB (Z9p pre) b.Last pre.isEmpty x
   ·right;exact ⟨170,rfl,rfl⟩
   ·left;exact ⟨rfl,by rw [Bool.true_and]⟩
  ·dsimp only [Zpf]
   rw [Z2o,Zwn];rfl
 simp only [Zrf,Zqf,hl,okBk,ln_eq]
 by_cases h1:b.Last<0
 ·have:¬0≤b.Last:=by omega
  simp [h1,this]
 ·have:0≤b.Last:=by omega
  by_cases h2:b.Sess.length≤8
  ·have h3:¬(8:Int)<b.Sess.length:=by omega
   simp [h1,this,h2,h3]
  ·have h3:(8:Int)<b.Sess.length:=by omega
   simp [h1,this,h2,h3]
theorem set_same {α:Type} {l:List α} {k:Nat} {x:α} (h:l[k]?=some x):l.set k x=l:=by
 obtain ⟨h1,rfl⟩:=List.getElem?_eq_some_iff.1 h
 exact List.set_getElem_self h1
theorem Zbp (l:List Int) (h:l.length≤1000000):Zx7 l=some l:=by
 simp only [Zx7]
 rw [Z0o _ _ (by omega) (by simp;omega),List.nil_append]
theorem Zcp (l:List Sess) (h:l.length≤1000000):Za8 l=some l:=by
 simp only [Za8]
 rw [Z0o _ _ (by omega) (by simp;omega),List.nil_append]
theorem Zdp (b:Book) (hb:Z8p b):Zqd b=some b.Sess:=by
 have h1:=hb.1
 simp only [Zqd,Zcp b.Sess hb.1,OB]
 refine Zco b.Sess _ (fun pre=>((pre.length:Int),b.Sess)) b.Sess (fun pre x post h=>?_) ?_
 ·have hx:=Zdo h
  have hm:=Zeo h
  dsimp only [Zpd]
  rw [Z1o hx,Zvn,Zzn hx,OB,Zbp _ (hb.2 x (Zfo h)),OB,Z3o (by omega),Int.toNat_natCast,set_same hx,Zio]
 ·dsimp only [Zpd]
  rw [Z2o,Zwn];rfl
def Zep (b:Book) (id:Int):Option Nat:=b.Sess.findIdx? fun s=>decide (s.ID=id)
theorem s_find (b:Book) (id:Int) (hb:b.Sess.length≤1000000):Zab b id=some (plc (Zep b id)):=by
 simp only [Zab]
 rw [Zqo b.Sess _ (fun s=>decide (s.ID=id)) (by omega) (fun x _=>by simp only [Zd8]),OB]
 rfl
theorem Zfp (l:List Sess) (i:Nat) (hi:i<l.length) (hl:l.length≤1000000):Z8b (i:Int) ((i+1:Nat):Int) l=some (l.take i++l.drop (i+1)):=by
 simp only [Z8b,ln_eq]
 unfold vw_
 rw [if_pos ⟨by omega,by omega,by omega,by omega⟩,OB,if_pos ⟨by omega,by omega,by omega,by omega⟩,OB,DN (by omega),Zwn,if_pos ⟨by omega,by omega,by omega,by omega⟩,OB]
 have t1:Int.toNat (i:Int)-Int.toNat 0=i:=by omega
 have t2:Int.toNat ((l.length:Nat):Int)-Int.toNat ((i+1:Nat):Int)=l.length-(i+1):=by omega
 have t3:Int.toNat ((i+1:Nat):Int)=i+1:=by omega
 rw [t1,t2,t3]
 unfold mvv_
 rw [if_pos ⟨by omega,by omega,by omega⟩,OB]
 have e1:(l.take (i+1+(l.length-(i+1)))).drop (i+1)=l.drop (i+1):=by
  rw [List.take_of_length_le (by omega)]
 have e2:(l.take i++l.drop (i+1)).length=l.length-1:=by simp;omega
 rw [e1]
 have e3:i+(l.length-(i+1))=l.length-1:=by omega
 simp only [Z7b,ln_eq,t1,t2,e3]
 have h6:(l.take i++l.drop (i+1)++l.drop (l.length-1)).length=l.length:=by rw [List.length_append,e2,List.length_drop];omega
 rw [OB,h6]
 unfold vw_
 rw [if_pos ⟨by omega,by omega,by omega,by omega⟩,OB]
 have t4:Int.toNat ((l.length-1:Nat):Int)=l.length-1:=by omega
 have t5:Int.toNat ((l.length:Nat):Int)-(l.length-1)=1:=by omega
 rw [t4,t5]
 unfold clr_
 rw [h6,if_pos ⟨by omega,by omega⟩,OB]
 unfold cut_
 have e4:(l.take i++l.drop (i+1)++l.drop (l.length-1)).take (l.length-1)=l.take i++l.drop (i+1):=by
  rw [List.take_left' e2]
 rw [e4]
 have h8:(l.take i++l.drop (i+1)++List.replicate 1 (Sess.mk 0 [] 0 0)++(l.take i++l.drop (i+1)++l.drop (l.length-1)).drop (l.length-1+1)).length=l.length:=by
  rw [List.length_append,List.length_append,e2,List.length_drop,h6];simp;omega
 rw [h8,if_pos ⟨by omega,by omega⟩,OB]
 congr 1
 rw [List.append_assoc (l.take i++l.drop (i+1))]
 rw [List.take_left' e2]
def openP (b:Book) (id:Int) (need:List Int):Book×Int:=
 if okBk b then (if id≤b.Last then (Z5p,171) else if Z6p (Zxo need) then (if b.Sess.length=8 then (Z5p,173) else (⟨id,b.Sess++[⟨id,Zxo need,0,0⟩]⟩,0)) else (Z5p,172)) else (Z5p,170)
theorem s_Open (b:Book) (id:Int) (need:List Int) (hb:Z8p b) (hn:need.length≤1000000):Zeg b id need=some (openP b id need):=by
 have hs:=Z4p need
 have h1:=hb.1
 simp only [Zeg,s_setL need hn,Zap b hb,s_odd (Zxo need) (by omega),OB,Zdg,Zdp b hb,openP,ln_eq]
 rw [Z0o _ _ (by omega) (by simp;omega),OB]
 cases hk:okBk b
 ·rfl
 ·simp only [if_true]
  simp only [decide_true,Bool.not_true,Zwn]
  by_cases h2:id≤b.Last
  ·simp [h2,Z5p]
  ·cases h3:Z6p (Zxo need)
   ·simp [h2,Z5p]
   ·by_cases h4:b.Sess.length=8
    ·simp [h2,h4,Z5p]
    ·have:¬(b.Sess.length:Int)=8:=by omega
     simp [h2,h4,this]
def grantP (b:Book):Book×Int×Int:=
 if okBk b then (match b.Sess with | []=>(Z5p,0,175) | s::l=>if s.State=1 then (Z5p,0,175) else (⟨b.Last,⟨s.ID,s.Need,1,s.Age⟩::l⟩,s.ID,0)) else (Z5p,0,170)
theorem s_Grant (b:Book) (hb:Z8p b):Zig b=some (grantP b):=by
 simp only [Zig,Zap b hb,OB,Zhg,Zdp b hb,grantP,ln_eq]
 cases hk:okBk b
 ·rfl
 ·simp only [if_true]
  simp only [decide_true,Bool.not_true,Zwn]
  cases hs:b.Sess with
  | nil=>simp [Z5p]
  | cons s l=>
    have h0:at_ (s::l) 0=some s:=rfl
    have:¬(((s::l).length:Nat):Int)=0:=by simp;omega
    rw [DN this,Zwn,h0,OB]
    by_cases h1:s.State=1
    ·simp [h1,Z5p]
    ·simp [h1]
def endP (b:Book) (id want:Int):Book×Int:=
 if okBk b then (match Zep b id with
  | none=>(Z5p,174)
  | some i=>match b.Sess[i]? with
    | none=>(Z5p,174)
    | some s=>if s.State=want then (⟨b.Last,b.Sess.take i++b.Sess.drop (i+1)⟩,0) else (Z5p,175)) else (Z5p,170)
theorem findB_lt {b:Book} {id:Int} {i:Nat} (h:Zep b id=some i):∃s,b.Sess[i]?=some s∧s.ID=id:=by
 obtain ⟨hi,hq,_⟩:=List.findIdx?_eq_some_iff_getElem.1 h
 exact ⟨_,List.getElem?_eq_getElem hi,by simpa using hq⟩
theorem s_end (b:Book) (id want:Int) (hb:Z8p b):Zrh b id want=some (endP b id want):=by
 have h1:=hb.1
 simp only [Zrh,Zkg,Zap b hb,s_find b id hb.1,OB,endP]
 cases hk:okBk b
 ·simp [Zqh,Zph,Z5p]
 ·simp only [if_true]
  simp only [decide_true,Bool.not_true,Zwn]
  cases hf:Zep b id with
  | none=>simp [plc,Zqh,Zph,Z5p]
  | some i=>
    obtain ⟨s,hs,_⟩:=findB_lt hf
    have hi:=(List.getElem?_eq_some_iff.1 hs).1
    rw [show plc (some i)=(i:Int) from rfl,DN (by omega),Zwn,Zzn hs,OB,OB]
    simp only [hs,decide_true,Zvn,Zqh,Zph]
    by_cases h2:s.State=want
    ·have hf':Zep ⟨b.Last,b.Sess⟩ id=some i:=hf
     simp only [h2,decide_true,Bool.not_true,Zwn,Zdp b hb,OB,s_find ⟨b.Last,b.Sess⟩ id hb.1,hf',if_true]
     rw [show plc (some i)=(i:Int) from rfl,Z3o (by omega),Zfp b.Sess i hi hb.1,OB]
    ·simp [h2,Z5p]
theorem s_Release (b:Book) (id:Int) (hb:Z8p b):Z8i b id=some (endP b id 1):=by
 simp only [Z8i,s_end b id 1 hb,OB]
theorem s_Cancel (b:Book) (id:Int) (hb:Z8p b):Zai b id=some (endP b id 0):=by
 simp only [Zai,s_end b id 0 hb,OB]
theorem Side_eqB (x y:Side):(decide (x.Peer=y.Peer)&&(decide (x.Epoch=y.Epoch)&&(decide (x.State=y.State)&&((x.Fork==y.Fork)&&((x.DY==y.DY)&&((x.Token==y.Token)&&((x.BO==y.BO)&&((x.Ask==y.Ask)&&true))))))))=decide (x=y):=by
 rw [Bool.eq_iff_iff];cases x;cases y;simp [Side.mk.injEq]
theorem s_EqualSide (l m:List Side) (hl:l.length≤1000000):Zg8 l m=some (decide (l=m)):=by
 simp only [Zg8,Zmo]
 by_cases h:l.length=m.length
 ·simp only [h,decide_true,Bool.not_true,Zwn]
  rw [Zjo l m _ (fun x y=>decide (x=y)) h (by omega) (fun k x y hx hy=>by
   simp only [Zf8,Z1o hx,Zvn,Zzn hx,Zzn hy,OB,Side_eqB,Z4o hx (show l.length≤4000000000000000000 by omega),Zxn]
   cases decide (x=y)<;>rfl) (by simp only [Zf8,Z2o,Zwn,Ze8,Option.map_some]),Zko l m h]
 ·simp [h,Zlo h]
def side0:Side:=⟨0,0,0,false,false,false,false,false⟩
def Zgp (d:DI) (p:Int):Option Side:=d.SD.find? fun x=>decide (x.Peer=p)
def Zhp (o:Option Side):Side×Bool:=match o with | some x=>(x,true) | none=>(side0,false)
theorem Zip (d:DI) (p:Int) (hl:d.SD.length≤1000000):Z2m d p=some (Zhp (Zgp d p)):=by
 unfold Z2m
 have:=loop_forL d.SD (Z1m d p) (fun k (_:Unit)=>k) (fun x _=>if decide (x.Peer=p) then some (.inr (x,true)) else some (.inl ())) (fun _=>some (side0,false)) (by omega) (fun k x s hx=>by
  simp only [Z1m,Z1o hx,Zvn,Zzn hx,OB,Z4o hx (show d.SD.length≤4000000000000000000 by omega),Option.map_some]
  cases decide (x.Peer=p)<;>rfl) (fun _=>by simp only [Z1m,Z2o,Zwn,Z0m,Option.map_some];rfl) ()
 rw [this,forL_find (fun x=>if decide (x.Peer=p) then some (.inr (x,true)) else some (.inl ())) (fun x=>decide (x.Peer=p)) (fun x=>(x,true)) (some (side0,false)) d.SD (fun x _=>rfl)]
 unfold Zgp
 cases d.SD.find? (fun x=>decide (x.Peer=p))<;>rfl
def Zkp (id q:Int) (x:Side):Bool:=decide (q<x.Peer)&&(!decide (x.Peer=id)&&(decide (0≤x.Epoch)&&(decide (x.Epoch≤65535)&&(decide (0≤x.State)&&(decide (x.State≤3)&&!(x.DY&&!x.Fork))))))
def Zlp (id:Int):Int→List Side→Bool
 | _,[]=>true
 | q,x::r=>Zkp id q x&&Zlp id x.Peer r
def okD (d:DI):Bool:=decide (0≤d.ID)&&(decide (0≤d.PH)&&(decide (d.PH≤2)&&(decide (d.SD.length<64)&&Zlp d.ID (-1) d.SD)))
theorem s_oddD (x:Side) (d:DI) (q:Int):Zeb x q d=some (!Zkp d.ID q x):=by
 simp only [Zeb,Zdb,Zcb,Zkp]
 by_cases h1:q<x.Peer
 ·by_cases h2:x.Peer=d.ID
  ·have h1':q<d.ID:=h2 ▸ h1
   simp [h2,h1']
  ·by_cases h3:x.Epoch<0
   ·have:¬0≤x.Epoch:=by omega
    simp [h1,h2,h3,this]
   ·have h3':0≤x.Epoch:=by omega
    by_cases h4:65535<x.Epoch
    ·have:¬x.Epoch≤65535:=by omega
     simp [h1,h2,h3,h4,this]
    ·have h4':x.Epoch≤65535:=by omega
     by_cases h5:x.State<0
     ·have:¬0≤x.State:=by omega
      simp [h1,h2,h3,h4,h5,this]
     ·have h5':0≤x.State:=by omega
      by_cases h6:3<x.State
      ·have:¬x.State≤3:=by omega
       simp [h1,h2,h3,h4,h5,h6,this]
      ·have h6':x.State≤3:=by omega
       simp only [h1,h2,h3,h4,h5,h6,h3',h4',h5',h6',decide_true,decide_false,Zvn,Zwn,Bool.not_true,Bool.not_false,Bool.true_and]
       cases x.DY<;>cases x.Fork<;>rfl
 ·simp [h1]
def Zmp (id:Int):Nat→Int→List Side→Int×Int
 | _,q,[]=>(-1,q)
 | k,q,x::r=>if Zkp id q x then Zmp id (k+1) x.Peer r else (k,x.Peer)
theorem scanD_ok (id:Int):∀(l:List Side) (k:Nat) (q:Int),decide (0≤(Zmp id k q l).1)=!Zlp id q l
 | [],k,q=>by simp [Zmp,Zlp]
 | x::r,k,q=>by
   by_cases h:Zkp id q x=true
   ·have e1:Zmp id k q (x::r)=Zmp id (k+1) x.Peer r:=by simp [Zmp,h]
    rw [e1,scanD_ok id r (k+1) x.Peer]
    simp [Zlp,h]
   ·have h':Zkp id q x=false:=by simpa using h
    have e1:Zmp id k q (x::r)=((k:Int),x.Peer):=by simp [Zmp,h']
    rw [e1]
    simp [Zlp,h']
def lastQ (q:Int) (pre:List Side):Int:=match pre.getLast? with | some x=>x.Peer | none=>q
theorem Znp (q:Int) (pre:List Side) (x:Side):lastQ q (pre++[x])=x.Peer:=by simp [lastQ]
theorem s_dCheck (d:DI):Zmg d=some (if okD d then 0 else 130):=by
 simp only [Zmg,Zlg,okD]
 by_cases h1:d.ID<0
 ·have:¬0≤d.ID:=by omega
  simp [h1,this]
 have h1':0≤d.ID:=by omega
 by_cases h2:d.PH<0
 ·have:¬0≤d.PH:=by omega
  simp [h1,h2,this]
 have h2':0≤d.PH:=by omega
 by_cases h3:2<d.PH
 ·have:¬d.PH≤2:=by omega
  simp [h1,h2,h3,this]
 have h3':d.PH≤2:=by omega
 by_cases h4:64≤d.SD.length
 ·have h4':(64:Int)≤ln Side.row d.SD:=by rw [ln_eq];omega
  have:¬d.SD.length<64:=by omega
  simp [h1,h2,h3,h4',this]
 have h4':¬(64:Int)≤ln Side.row d.SD:=by rw [ln_eq];omega
 have h4'':d.SD.length<64:=by omega
 simp only [h1,h2,h3,h4',h1',h2',h3',h4'',decide_true,decide_false,Zwn,Bool.true_and]
 have key:Zxd d.SD (-1) d=some (Zmp d.ID 0 (-1) d.SD):=by
  unfold Zxd
  refine Zbo d.SD _ (fun pre=>((pre.length:Int),lastQ (-1) pre)) (fun pre post=>some (Zmp d.ID pre.length (lastQ (-1) pre) post)) (fun pre x post h=>?_) ?_
  ·have hx:=Zdo h
   have hm:=Zeo h
   dsimp only [Zwd]
   rw [Z1o hx,Zvn,Zzn hx,OB,s_oddD,OB,Zxn]
   cases hs:Zkp d.ID (lastQ (-1) pre) x with
   | true=>
     left
     exact ⟨by rw [Zvn,Zio,Znp,Z3o (by omega)],by simp [Zmp,hs,Znp]⟩
   | false=>
     right
     exact ⟨_,rfl,by simp [Zmp,hs]⟩
  ·dsimp only [Zwd]
   rw [Z2o,Zwn];rfl
 simp only [Ztf,key,OB,scanD_ok]
 cases Zlp d.ID (-1) d.SD<;>rfl
theorem Zop (l:List Side) (hl:l.length≤1000000):Zk8 l=some l:=by
 simp only [Zk8]
 rw [Z0o _ _ (by omega) (by simp;omega)];rfl
theorem Zpp {d:DI} (h:okD d=true):d.SD.length<64:=by
 simp only [okD,Bool.and_eq_true,decide_eq_true_eq] at h;exact h.2.2.2.1
def Zqp (ph:Int) (x:Side):Side:=if x.Fork&&(x.DY&&(x.Token&&!decide (ph=2))) then {x with Fork:=false,DY:=false} else x
def Zrp (ph:Int) (x:Side):Side:=if decide (ph=1)&&((Zqp ph x).Token&&!(Zqp ph x).Fork) then {Zqp ph x with Token:=false} else Zqp ph x
def Zsp (id ph:Int) (x:Side):List Mail:=
 (if x.Fork&&(x.DY&&(x.Token&&!decide (ph=2))) then [⟨id,x.Peer,⟨1,x.Epoch,0⟩⟩] else []) ++
 (if decide (ph=1)&&((Zqp ph x).Token&&!(Zqp ph x).Fork) then [⟨id,x.Peer,⟨2,x.Epoch,0⟩⟩] else [])
def Ztp (x:Side):Side:= {x with DY:=true}
def Zup (d:DI):DI:=if decide (d.PH=1)&&(d.SD.map (Zrp d.PH)).all (·.Fork) then ⟨d.ID,2,(d.SD.map (Zrp d.PH)).map Ztp⟩ else ⟨d.ID,d.PH,d.SD.map (Zrp d.PH)⟩
def Zvp (d:DI):List Mail:=d.SD.flatMap (Zsp d.ID d.PH)
theorem fireM_len (id ph:Int) (x:Side):(Zsp id ph x).length≤2:=by
 unfold Zsp
 rw [List.length_append]
 have h1:∀(c:Bool) (m:Mail),(if c then [m] else []).length≤1:=by intro c m;cases c<;>simp
 have:=h1 (x.Fork&&(x.DY&&(x.Token&&!decide (ph=2)))) ⟨id,x.Peer,⟨1,x.Epoch,0⟩⟩
 have:=h1 (decide (ph=1)&&((Zqp ph x).Token&&!(Zqp ph x).Fork)) ⟨id,x.Peer,⟨2,x.Epoch,0⟩⟩
 omega
theorem Zwp (l:List Side) (id ph:Int):(l.flatMap (Zsp id ph)).length≤2*l.length:=by
 induction l with
 | nil=>simp
 | cons x l ih=>have:=fireM_len id ph x;rw [List.flatMap_cons,List.length_append,List.length_cons];omega
def has (x:Side) (k:Int):Bool:=if k=1 then x.Fork else x.Token
def bn (b:Bool):Nat:=if b then 1 else 0
theorem fire2_peer (ph:Int) (x:Side):(Zrp ph x).Peer=x.Peer∧(Zrp ph x).Epoch=x.Epoch∧(Zrp ph x).State=x.State:=by
 unfold Zrp Zqp
 split<;>split<;>exact ⟨rfl,rfl,rfl⟩
theorem fire2_dirty (ph:Int) (x:Side) (h:x.DY=true→x.Fork=true):(Zrp ph x).DY=true→(Zrp ph x).Fork=true:=by
 unfold Zrp Zqp
 split<;>split<;>simp_all
def Zxp (d:DI) (x:Side):Side:=if decide (d.PH=1)&&(d.SD.map (Zrp d.PH)).all (·.Fork) then Ztp (Zrp d.PH x) else Zrp d.PH x
theorem Zyp (d:DI):(Zup d).SD=d.SD.map (Zxp d):=by
 unfold Zup Zxp
 split
 ·simp only [List.map_map];rfl
 ·rfl
theorem fireD_id (d:DI):(Zup d).ID=d.ID:=by unfold Zup;split<;>rfl
theorem Zzp (d:DI) (x:Side):(Zxp d x).Peer=x.Peer∧(Zxp d x).Epoch=x.Epoch∧(Zxp d x).State=x.State∧∀k,has (Zxp d x) k=has (Zrp d.PH x) k:=by
 obtain ⟨h1,h2,h3⟩:=fire2_peer d.PH x
 unfold Zxp
 split
 ·exact ⟨h1,h2,h3,fun k=>rfl⟩
 ·exact ⟨h1,h2,h3,fun k=>rfl⟩
theorem sideO_some {d:DI} {b:Int} {x:Side} (h:Zgp d b=some x):x∈d.SD∧x.Peer=b:=by
 unfold Zgp at h
 exact ⟨List.mem_of_find?_eq_some h,by simpa using List.find?_some h⟩
theorem s_send (k id ph:Int) (a b:List Side) (x:Side) (E:List Mail) (hE:E.length≤1000000):Zgb k id ph (a.length:Int) E (a++x::b)=some (E++[⟨id,x.Peer,⟨k,x.Epoch,0⟩⟩]):=by
 simp only [Zgb]
 rw [Zgo rfl,OB,Z0o _ _ (by omega) (by simp;omega),OB]
theorem fire_step (d:DI) (l:List Side) (hl:l.length<64) (pre post:List Side) (x:Side) (h:l=pre++x::post) (all:Bool) (A:List Side) (hA:A.length=pre.length) (E:List Mail) (hE:E.length≤1000):
  Zki d l (all,(pre.length:Int),A++x::post,E)=some (.inl (all&&(Zrp d.PH x).Fork,((pre.length+1:Nat):Int),A++Zrp d.PH x::post,E++Zsp d.ID d.PH x)):=by
 have hx:=Zdo h
 have hm:=Zeo h
 have at1:∀y:Side,at_ (A++y::post) (pre.length:Int)=some y:=fun y=>by rw [←hA];exact Zgo rfl
 have st1:∀y z:Side,(A++y::post).set ((pre.length:Int)).toNat z=A++z::post:=fun y z=>by rw [←hA];exact Zho _ _ _ _
 have sd:∀(k:Int) (y:Side) (E:List Mail),E.length≤1000000→Zgb k d.ID d.PH (pre.length:Int) E (A++y::post)=some (E++[⟨d.ID,y.Peer,⟨k,y.Epoch,0⟩⟩]):=fun k y E hE=>by rw [←hA];exact s_send k d.ID d.PH A post y E hE
 have fin:∀(y:Side) (E':List Mail),Zgi all (pre.length:Int) (A++y::post,E')=some (.inl (all&&y.Fork,((pre.length+1:Nat):Int),A++y::post,E')):=fun y E'=>by
  dsimp only [Zgi,Zfi]
  rw [at1,Z3o (by omega)]
  cases all<;>rfl
 have j3:∀(y:Side) (E':List Mail),E'.length≤100000→Zii d all (pre.length:Int) (A++y::post,E') =
   if decide (d.PH=1)&&(y.Token&&!y.Fork) then some (.inl (all&&y.Fork,((pre.length+1:Nat):Int),A++{y with Token:=false}::post,E'++[⟨d.ID,y.Peer,⟨2,y.Epoch,0⟩⟩])) else some (.inl (all&&y.Fork,((pre.length+1:Nat):Int),A++y::post,E')):=fun y E' hE'=>by
  dsimp only [Zii]
  by_cases h1:d.PH=1
  ·rw [DT h1,Zvn,at1,OB]
   cases ht:y.Token with
   | false=>dsimp only [Zhi];rw [Zwn,Zwn,fin];simp
   | true=>
     cases hf:y.Fork with
     | true=>dsimp only [Zhi];rw [Zvn,Bool.not_true,Zwn,fin];simp [hf]
     | false=>
       dsimp only [Zhi]
       rw [Zvn,Bool.not_false,Zvn,at1,OB,st1,sd _ _ _ (by omega),OB,fin]
       simp [hf]
  ·rw [DN h1,Zwn];dsimp only [Zhi];rw [Zwn,fin];simp
 dsimp only [Zki]
 rw [Z1o hx,Zvn,at1,OB]
 have j2:∀z:Bool,Zji d all (pre.length:Int) (A++x::post) E x z=if z then Zii d all (pre.length:Int) (A++{x with Fork:=false,DY:=false}::post,E++[⟨d.ID,x.Peer,⟨1,x.Epoch,0⟩⟩]) else Zii d all (pre.length:Int) (A++x::post,E):=fun z=>by
  cases z with
  | false=>dsimp only [Zji];rw [Zwn];rfl
  | true=>
    dsimp only [Zji]
    rw [Zvn,st1,sd _ _ _ (by omega),OB];rfl
 have e:ifb x.Fork (ifb x.DY (ifb x.Token (Zji d all (pre.length:Int) (A++x::post) E x (!decide (d.PH=2))) (Zji d all (pre.length:Int) (A++x::post) E x false)) (Zji d all (pre.length:Int) (A++x::post) E x false)) (Zji d all (pre.length:Int) (A++x::post) E x false)
   =Zji d all (pre.length:Int) (A++x::post) E x (x.Fork&&(x.DY&&(x.Token&&!decide (d.PH=2)))):=by
  cases x.Fork<;>cases x.DY<;>cases x.Token<;>rfl
 rw [e,j2]
 cases hz:(x.Fork&&(x.DY&&(x.Token&&!decide (d.PH=2)))) with
 | false=>
   rw [if_neg (by simp),j3 _ _ (by omega)]
   have f1:Zqp d.PH x=x:=by simp only [Zqp,hz];rfl
   unfold Zrp Zsp
   rw [f1,hz]
   cases hq:(decide (d.PH=1)&&(x.Token&&!x.Fork))<;>simp
 | true=>
   rw [if_pos rfl,j3 _ _ (by simp;omega)]
   have f1:Zqp d.PH x={x with Fork:=false,DY:=false}:=by simp only [Zqp,hz];rfl
   unfold Zrp Zsp
   rw [f1,hz]
   cases hq:(decide (d.PH=1)&&(x.Token&&!false))<;>simp_all
theorem s_Fire (d:DI):Zli d=some (if okD d then ((Zup d).ID,(Zup d).PH,0,(Zup d).SD,Zvp d) else (0,0,130,[],[])):=by
 simp only [Zli,s_dCheck,OB]
 cases h:okD d with
 | false=>rfl
 | true=>
   have hl:=Zpp h
   simp only [if_true,decide_true,Bool.not_true,Zwn,Zop d.SD (by omega),OB]
   have key:=Zbo d.SD (Zki d d.SD) (fun pre=>((pre.map (Zrp d.PH)).all (·.Fork),(pre.length:Int),pre.map (Zrp d.PH)++d.SD.drop pre.length,pre.flatMap (Zsp d.ID d.PH))) (fun _ _=>some ((Zup d).ID,(Zup d).PH,0,(Zup d).SD,Zvp d)) (fun pre x post hp=>?_) ?_
   ·simpa using key
   ·left
    have hd:d.SD.drop pre.length=x::post:=by rw [hp];simp
    have hd':d.SD.drop (pre++[x]).length=post:=by rw [hp];simp
    have hm:=Zeo hp
    have hE:=Zwp pre d.ID d.PH
    refine ⟨?_,rfl⟩
    rw [hd,hd',fire_step d d.SD hl pre post x hp _ _ (by simp) _ (by omega),Zio]
    simp
   ·have hE:=Zwp d.SD d.ID d.PH
    dsimp only [Zki]
    rw [Z2o,Zwn]
    simp only [List.drop_length,List.append_nil]
    dsimp only [Zei]
    by_cases h1:d.PH=1
    ·rw [DT h1,Zvn]
     dsimp only [Zdi]
     cases h6:(d.SD.map (Zrp d.PH)).all (·.Fork) with
     | false=>
       rw [Zwn]
       unfold Zup
       rw [h6,Bool.and_false]
       rfl
     | true=>
       rw [Zvn]
       generalize hS:d.SD.map (Zrp d.PH)=S at h6
       have h8:S.length<64:=by rw [←hS];simpa using hl
       have k2:=Zco S (Zci d S (d.SD.flatMap (Zsp d.ID d.PH))) (fun pre=>((pre.length:Int),pre.map Ztp++S.drop pre.length)) (d.ID,2,0,S.map Ztp,d.SD.flatMap (Zsp d.ID d.PH)) (fun pre x post hp=>?_) ?_
       ·have k3:loop (Zci d S (d.SD.flatMap (Zsp d.ID d.PH))) (0,S)=some (d.ID,2,0,S.map Ztp,d.SD.flatMap (Zsp d.ID d.PH)):=by simpa using k2
        rw [k3]
        unfold Zup
        rw [hS,h6,DT h1]
        rfl
       ·have hx:=Zdo hp
        have hm:=Zeo hp
        have hd:S.drop pre.length=x::post:=by rw [hp];simp
        have hd':S.drop (pre++[x]).length=post:=by rw [hp];simp
        dsimp only [Zci]
        have e1:((pre.length:Nat):Int)=(((pre.map Ztp).length:Nat):Int):=by simp
        rw [Z1o hx,Zvn,hd,hd',e1,Zgo rfl,OB,Zho,←e1,Zio,Z3o (by omega)]
        simp [Ztp]
       ·dsimp only [Zci]
        rw [Z2o,Zwn]
        simp [Zbi]
    ·rw [DN h1,Zwn]
     dsimp only [Zdi]
     rw [Zwn]
     unfold Zup
     rw [DN h1,Bool.false_and]
     rfl
def Z0q (d:DK) (x:Side):Bool:=decide (x.Peer∈d.Need)
def keepB (nd:Bool) (th:Int) (x:Side):Bool:=nd&&(decide (th=2)||(decide (th=1)&&x.Fork))
def bot1 (nd:Bool) (th:Int) (x:Side):Side:=if x.BO&&(x.Ask&&!keepB nd th x) then {x with BO:=false} else x
def Z1q (nd:Bool) (th:Int) (x:Side):Side:=if decide (th=1)&&(nd&&((bot1 nd th x).Ask&&!(bot1 nd th x).BO)) then {bot1 nd th x with Ask:=false} else bot1 nd th x
def Z2q (id:Int) (nd:Bool) (th:Int) (x:Side):List Mail:=
 (if x.BO&&(x.Ask&&!keepB nd th x) then [⟨id,x.Peer,⟨3,x.Epoch,0⟩⟩] else []) ++
 (if decide (th=1)&&(nd&&((bot1 nd th x).Ask&&!(bot1 nd th x).BO)) then [⟨id,x.Peer,⟨4,x.Epoch,0⟩⟩] else [])
theorem Z3q (nd:Bool) (th:Int) (x:Side):(Z1q nd th x).Peer=x.Peer∧(Z1q nd th x).Epoch=x.Epoch∧(Z1q nd th x).State=x.State∧(Z1q nd th x).Fork=x.Fork∧(Z1q nd th x).DY=x.DY∧(Z1q nd th x).Token=x.Token:=by
 unfold Z1q bot1
 split<;>split<;>exact ⟨rfl,rfl,rfl,rfl,rfl,rfl⟩
theorem botM_len (id:Int) (nd:Bool) (th:Int) (x:Side):(Z2q id nd th x).length≤2:=by
 unfold Z2q
 rw [List.length_append]
 have h1:∀(c:Bool) (m:Mail),(if c then [m] else []).length≤1:=by intro c m;cases c<;>simp
 have:=h1 (x.BO&&(x.Ask&&!keepB nd th x)) ⟨id,x.Peer,⟨3,x.Epoch,0⟩⟩
 have:=h1 (decide (th=1)&&(nd&&((bot1 nd th x).Ask&&!(bot1 nd th x).BO))) ⟨id,x.Peer,⟨4,x.Epoch,0⟩⟩
 omega
theorem botMs_len (N:List Int) (id th:Int) (l:List Side):(l.flatMap fun x=>Z2q id (decide (x.Peer∈N)) th x).length≤2*l.length:=by
 induction l with
 | nil=>simp
 | cons x l ih=>have:=botM_len id (decide (x.Peer∈N)) th x;rw [List.flatMap_cons,List.length_append,List.length_cons];omega
theorem s_send2 (y:Side) (k id ph th:Int) (N:List Int) (l:List Side) (E:List Mail) (hE:E.length≤1000000):Zmc y k id ph th l N E=some (E++[⟨id,y.Peer,⟨k,y.Epoch,0⟩⟩]):=by
 simp only [Zmc]
 rw [Z0o _ _ (by omega) (by simp;omega),OB]
theorem bot_step (id ph th:Int) (N:List Int) (hN:N.length≤1000000) (l:List Side) (hl:l.length≤5000) (pre post:List Side) (x:Side) (h:l=pre++x::post) (all:Bool) (A:List Side) (hA:A.length=pre.length) (E:List Mail) (hE:E.length≤900000):
  Z9h id ph th l N (all,(pre.length:Int),A++x::post,E)=some (.inl (all&&(!decide (x.Peer∈N)||(Z1q (decide (x.Peer∈N)) th x).BO),((pre.length+1:Nat):Int),A++Z1q (decide (x.Peer∈N)) th x::post,E++Z2q id (decide (x.Peer∈N)) th x)):=by
 have hx:=Zdo h
 have hm:=Zeo h
 have at1:∀y:Side,at_ (A++y::post) (pre.length:Int)=some y:=fun y=>by rw [←hA];exact Zgo rfl
 have st1:∀y z:Side,(A++y::post).set ((pre.length:Int)).toNat z=A++z::post:=fun y z=>by rw [←hA];exact Zho _ _ _ _
 generalize h6:decide (x.Peer∈N)=nd
 have j7:∀(S:List Side) (E':List Mail) z,Z2h (pre.length:Int) S E' z=some (.inl (z,((pre.length+1:Nat):Int),S,E')):=fun S E' z=>by
  dsimp only [Z2h]
  rw [Z3o (by omega)]
 have j6:∀(y:Side) (E':List Mail),Z3h all (pre.length:Int) nd (A++y::post,E')=some (.inl (all&&(!nd||y.BO),((pre.length+1:Nat):Int),A++y::post,E')):=fun y E'=>by
  dsimp only [Z3h]
  rw [at1,OB]
  simp only [j7]
  cases all<;>cases nd<;>rfl
 have j4:∀(y:Side) (E':List Mail),E'.length≤950000→Z5h id ph th N all (pre.length:Int) nd (A++y::post,E') =
   if decide (th=1)&&(nd&&(y.Ask&&!y.BO)) then some (.inl (all&&(!nd||y.BO),((pre.length+1:Nat):Int),A++{y with Ask:=false}::post,E'++[⟨id,y.Peer,⟨4,y.Epoch,0⟩⟩])) else some (.inl (all&&(!nd||y.BO),((pre.length+1:Nat):Int),A++y::post,E')):=fun y E' hE'=>by
  have j5:∀z,Z4h id ph th N all (pre.length:Int) nd (A++y::post) E' z=if z then some (.inl (all&&(!nd||y.BO),((pre.length+1:Nat):Int),A++{y with Ask:=false}::post,E'++[⟨id,y.Peer,⟨4,y.Epoch,0⟩⟩])) else some (.inl (all&&(!nd||y.BO),((pre.length+1:Nat):Int),A++y::post,E')):=fun z=>by
   cases z with
   | false=>dsimp only [Z4h];rw [Zwn,j6];rfl
   | true=>
     dsimp only [Z4h]
     rw [Zvn,at1,OB,st1,s_send2 _ _ _ _ _ _ _ _ (by omega),OB,j6]
     rfl
  dsimp only [Z5h]
  rw [at1,OB]
  simp only [j5]
  cases decide (th=1)<;>cases nd<;>cases y.Ask<;>rfl
 have j3:∀z,Z6h id ph th N all (pre.length:Int) (A++x::post) E x nd z=if z then Z5h id ph th N all (pre.length:Int) nd (A++{x with BO:=false}::post,E++[⟨id,x.Peer,⟨3,x.Epoch,0⟩⟩]) else Z5h id ph th N all (pre.length:Int) nd (A++x::post,E):=fun z=>by
  cases z with
  | false=>dsimp only [Z6h];rw [Zwn];rfl
  | true=>
    dsimp only [Z6h]
    rw [Zvn,st1,s_send2 _ _ _ _ _ _ _ _ (by omega),OB]
    rfl
 have j2:∀z,Z7h id ph th N all (pre.length:Int) (A++x::post) E x nd z=Z6h id ph th N all (pre.length:Int) (A++x::post) E x nd (x.BO&&(x.Ask&&!z)):=fun z=>by
  dsimp only [Z7h]
  cases x.BO<;>cases x.Ask<;>rfl
 have e:Z9h id ph th l N (all,(pre.length:Int),A++x::post,E)=Z6h id ph th N all (pre.length:Int) (A++x::post) E x nd (x.BO&&(x.Ask&&!keepB nd th x)):=by
  dsimp only [Z9h]
  rw [Z1o hx,Zvn,at1,OB,Z0p N _ hN,OB,h6]
  dsimp only [Z8h]
  simp only [j2]
  unfold keepB
  cases nd<;>cases decide (th=2)<;>cases decide (th=1)<;>rfl
 rw [e,j3]
 cases hz:(x.BO&&(x.Ask&&!keepB nd th x)) with
 | false=>
   have b1:bot1 nd th x=x:=by unfold bot1;rw [hz];rfl
   rw [if_neg (by simp),j4 _ _ (by omega)]
   unfold Z1q Z2q
   rw [b1,hz]
   cases (decide (th=1)&&(nd&&(x.Ask&&!x.BO)))<;>simp
 | true=>
   have b1:bot1 nd th x={x with BO:=false}:=by unfold bot1;rw [hz];rfl
   rw [if_pos rfl,j4 _ _ (by simp;omega)]
   unfold Z1q Z2q
   rw [b1,hz]
   cases (decide (th=1)&&(nd&&(x.Ask&&!false)))<;>simp
theorem s_bottles (id ph th:Int) (N:List Int) (hN:N.length≤1000000) (l:List Side) (hl:l.length≤5000) (E:List Mail) (hE:E.length≤800000):
  Zah id ph th l N E=some (if decide (th=1)&&(l.map fun x=>Z1q (decide (x.Peer∈N)) th x).all (fun x=>!decide (x.Peer∈N)||x.BO) then 2 else th,l.map fun x=>Z1q (decide (x.Peer∈N)) th x,E++l.flatMap fun x=>Z2q id (decide (x.Peer∈N)) th x):=by
 have:=Zbo l (Z9h id ph th l N) (fun pre=>((pre.map fun x=>Z1q (decide (x.Peer∈N)) th x).all (fun x=>!decide (x.Peer∈N)||x.BO),(pre.length:Int),(pre.map fun x=>Z1q (decide (x.Peer∈N)) th x)++l.drop pre.length,E++pre.flatMap fun x=>Z2q id (decide (x.Peer∈N)) th x))
  (fun _ _=>some (if decide (th=1)&&(l.map fun x=>Z1q (decide (x.Peer∈N)) th x).all (fun x=>!decide (x.Peer∈N)||x.BO) then 2 else th,l.map fun x=>Z1q (decide (x.Peer∈N)) th x,E++l.flatMap fun x=>Z2q id (decide (x.Peer∈N)) th x)) (fun pre x post h=>.inl ⟨by
    have hd:l.drop pre.length=x::post:=by rw [h];simp
    have hd':l.drop (pre++[x]).length=post:=by rw [h];simp
    have hm:=Zeo h
    have hE':=botMs_len N id th pre
    rw [hd,hd',bot_step id ph th N hN l hl pre post x h _ _ (by simp) _ (by rw [List.length_append];omega),Zio]
    have hp:=(Z3q (decide (x.Peer∈N)) th x).1
    simp [hp],rfl⟩) (by
  dsimp only [Z9h]
  rw [Z2o,Zwn]
  dsimp only [Z1h]
  rw [List.drop_length,List.append_nil]
  cases decide (th=1) with
  | false=>rfl
  | true=>cases (l.map fun x=>Z1q (decide (x.Peer∈N)) th x).all (fun x=>!decide (x.Peer∈N)||x.BO)<;>rfl)
 unfold Zah
 simpa using this
def Z4q (d:DK):Int:=if decide (d.TH=1)&&decide (d.DI.PH=0) then 1 else if decide (d.DI.PH=2)&&(!decide (d.TH=1)&&!d.DI.SD.any (fun x=>decide (x.State=1))) then 0 else d.DI.PH
def Z5q (d:DK):DI:=⟨d.DI.ID,Z4q d,d.DI.SD⟩
def Z6q (d:DK):List Side:=(Zup (Z5q d)).SD.map fun x=>Z1q (Z0q d x) d.TH x
def Z7q (d:DK):Int:=if decide (d.TH=1)&&(Z6q d).all (fun x=>!Z0q d x||x.BO) then 2 else d.TH
def Z8q (d:DK):DK:=⟨⟨d.DI.ID,(Zup (Z5q d)).PH,Z6q d⟩,Z7q d,d.Need⟩
def Z9q (d:DK):List Mail:=Zvp (Z5q d)++(Zup (Z5q d)).SD.flatMap fun x=>Z2q d.DI.ID (Z0q d x) d.TH x
theorem pre_ok {d:DK} (h:okD d.DI=true):okD (Z5q d)=true:=by
 simp only [okD,Bool.and_eq_true,decide_eq_true_eq] at h ⊢
 refine ⟨h.1,?_,?_,h.2.2.2⟩
 ·show 0≤Z4q d
  unfold Z4q;split
  ·omega
  ·split<;>omega
 ·show Z4q d≤2
  unfold Z4q;split
  ·omega
  ·split<;>omega
theorem fireD_len (d:DI):(Zup d).SD.length=d.SD.length:=by rw [Zyp];simp
theorem s_once (d:DK) (h:okD d.DI=true) (hN:d.Need.length≤1000000) (out:List Mail) (ho:out.length≤700000):
  Zfj d.DI.ID d.DI.PH d.TH d.DI.SD d.Need out=some ((Z8q d).DI.ID,(Z8q d).DI.PH,(Z8q d).TH,(Z8q d).DI.SD,out++Z9q d):=by
 have hl:=Zpp h
 have hp:=pre_ok h
 have hd:=Zwp d.DI.SD d.DI.ID (Z4q d)
 have e0:(Z5q d).SD=d.DI.SD:=rfl
 have h9:=fireD_len (Z5q d)
 rw [e0] at h9
 have j2:Zcj d.DI.ID d.TH d.DI.SD d.Need out (Z4q d)=some ((Z8q d).DI.ID,(Z8q d).DI.PH,(Z8q d).TH,(Z8q d).DI.SD,out++Z9q d):=by
  dsimp only [Zcj]
  have e1:(⟨d.DI.ID,Z4q d,d.DI.SD⟩:DI)=Z5q d:=rfl
  have he:(Zvp (Z5q d)).length≤130:=by unfold Zvp;rw [e0];show (d.DI.SD.flatMap (Zsp d.DI.ID (Z4q d))).length≤130;omega
  rw [e1,s_Fire,hp,if_pos rfl,OB]
  dsimp only
  rw [Z0o _ _ (by omega) (by omega),OB,s_bottles _ _ _ _ hN _ (by omega) _ (by rw [List.length_append];omega),OB]
  rw [fireD_id,List.append_assoc]
  rfl
 have h6:∀z:Int,z=Z4q d→Zcj d.DI.ID d.TH d.DI.SD d.Need out z=some ((Z8q d).DI.ID,(Z8q d).DI.PH,(Z8q d).TH,(Z8q d).DI.SD,out++Z9q d):=fun z e=>by rw [e];exact j2
 have hc:=Zro d.DI.SD (fun z=>Zm8 z) (fun x=>decide (x.State=1)) (by omega) (fun x _=>rfl)
 dsimp only [Zfj,Zej,Zdj]
 rw [hc,OB]
 unfold Z4q at h6
 by_cases h1:d.TH=1
 ·rw [DT h1] at h6 ⊢
  by_cases h2:d.DI.PH=0
  ·rw [DT h2] at h6 ⊢
   exact h6 1 rfl
  ·rw [DN h2] at h6 ⊢
   have:=h6 d.DI.PH (by simp)
   rw [Zvn,Zwn,this]
   cases decide (d.DI.PH=2)<;>rfl
 ·rw [DN h1] at h6 ⊢
  rw [Zwn,Zwn]
  by_cases h2:d.DI.PH=2
  ·rw [DT h2] at h6 ⊢
   cases h8:d.DI.SD.any (fun x=>decide (x.State=1)) with
   | true=>
     rw [h8] at h6
     exact h6 d.DI.PH (by simp)
   | false=>
     rw [h8] at h6
     exact h6 0 (by simp)
  ·rw [DN h2] at h6 ⊢
   exact h6 d.DI.PH (by simp)
def Zaq (x:Side):Nat:=bn x.Fork+bn x.Token+bn x.BO+bn x.Ask
def bits (l:List Side):Nat:=(l.map Zaq).sum
def rank (th ph:Int):Nat:=if th=1 then (if ph=0 then 5 else if ph=1 then 4 else 3) else (if ph=1 then 2 else if ph=2 then 1 else 0)
def mu (d:DK):Nat:=bits d.DI.SD+rank d.TH d.DI.PH
theorem fire2_bits (id ph:Int) (x:Side):Zaq (Zrp ph x)+(Zsp id ph x).length=Zaq x:=by
 obtain ⟨p,e,st,f,d,t,bo,ask⟩:=x
 unfold Zsp Zrp Zqp Zaq bn
 generalize h1:decide (ph=1)=q1
 generalize h2:decide (ph=2)=q2
 cases f<;>cases d<;>cases t<;>cases q1<;>cases q2<;>simp<;>omega
theorem bot2_bits (id:Int) (nd:Bool) (th:Int) (x:Side):Zaq (Z1q nd th x)+(Z2q id nd th x).length=Zaq x:=by
 obtain ⟨p,e,st,f,d,t,bo,ask⟩:=x
 unfold Z2q Z1q bot1 keepB Zaq bn
 generalize h1:decide (th=1)=q1
 generalize h2:decide (th=2)=q2
 cases bo<;>cases ask<;>cases nd<;>cases q1<;>cases q2<;>cases f<;>simp<;>omega
theorem fire3_bits (d:DI) (x:Side):Zaq (Zxp d x)=Zaq (Zrp d.PH x):=by unfold Zxp;split<;>rfl
theorem Zbq (d:DK):bits (Z8q d).DI.SD+(Z9q d).length=bits d.DI.SD:=by
 have key:∀l:List Side,((l.map fun x=>Z1q (Z0q d (Zxp (Z5q d) x)) d.TH (Zxp (Z5q d) x)).map Zaq).sum+((l.flatMap (Zsp d.DI.ID (Z4q d))).length+((l.map (Zxp (Z5q d))).flatMap fun x=>Z2q d.DI.ID (Z0q d x) d.TH x).length)=(l.map Zaq).sum:=by
  intro l
  induction l with
  | nil=>rfl
  | cons x l ih=>
    have h1:=fire2_bits d.DI.ID (Z4q d) x
    have h2:=bot2_bits d.DI.ID (Z0q d (Zxp (Z5q d) x)) d.TH (Zxp (Z5q d) x)
    have h3:=fire3_bits (Z5q d) x
    have e:(Z5q d).PH=Z4q d:=rfl
    rw [e] at h3
    simp only [List.map_cons,List.sum_cons,List.flatMap_cons,List.length_append]
    omega
 have:=key d.DI.SD
 unfold bits Z9q
 rw [List.length_append,Zyp]
 show (((Z6q d).map Zaq).sum+_=_)
 unfold Z6q
 rw [Zyp]
 simp only [List.map_map] at this ⊢
 exact this
theorem Zcq (d:DI):(Zup d).PH=d.PH∧(decide (d.PH=1)&&(d.SD.map (Zrp d.PH)).all (·.Fork))=false∨d.PH=1∧(Zup d).PH=2:=by
 unfold Zup
 cases hq:decide (d.PH=1)&&(d.SD.map (Zrp d.PH)).all (·.Fork) with
 | false=>exact .inl ⟨rfl,rfl⟩
 | true=>
   rw [Bool.and_eq_true,decide_eq_true_eq] at hq
   exact .inr ⟨hq.1,rfl⟩
theorem fireM_nil {id ph:Int} {x:Side} (h:Zsp id ph x=[]):Zrp ph x=x:=by
 obtain ⟨p,e,st,f,d,t,bo,ask⟩:=x
 unfold Zsp at h
 unfold Zrp
 rw [List.append_eq_nil_iff] at h
 obtain ⟨h1,h2⟩:=h
 split at h1
 ·simp at h1
 ·rename_i q1
  split at h2
  ·simp at h2
  ·rename_i q2
   rw [if_neg q2]
   unfold Zqp
   rw [if_neg q1]
theorem botM_nil {id:Int} {nd:Bool} {th:Int} {x:Side} (h:Z2q id nd th x=[]):Z1q nd th x=x:=by
 unfold Z2q at h
 unfold Z1q
 rw [List.append_eq_nil_iff] at h
 obtain ⟨h1,h2⟩:=h
 split at h1
 ·simp at h1
 ·rename_i q1
  split at h2
  ·simp at h2
  ·rename_i q2
   rw [if_neg q2]
   unfold bot1
   rw [if_neg q1]
theorem map_same {α:Type} {f:α→α}:∀ {l:List α},(∀x∈l,f x=x)→l.map f=l
 | [],_=>rfl
 | x::l,h=>by rw [List.map_cons,h x (by simp),map_same fun y hy=>h y (by simp [hy])]
theorem rank_le {th ph ph' th':Int} (h0:0≤ph) (h2:ph≤2) (d:DK) (hd:d.TH=th∧d.DI.PH=ph) (h1:ph'=Z4q d∨Z4q d=1∧ph'=2) (ht:th'=th∨th=1∧th'=2):rank th' ph'<rank th ph∨th'=th∧ph'=ph∧Z4q d=ph:=by
 obtain ⟨d1,d2⟩:=hd
 unfold Z4q at h1 ⊢
 rw [d1,d2] at h1 ⊢
 unfold rank
 have hp:ph=0∨ph=1∨ph=2:=by omega
 by_cases h6:th=1
 ·subst h6
  rcases hp with rfl | rfl | rfl<;>rcases ht with rfl | ⟨_,rfl⟩<;>simp at h1 ⊢ <;>rcases h1 with rfl | h1<;>simp_all
 ·have:th'=th:=by rcases ht with h | h;exact h;exact absurd h.1 h6
  subst this
  rcases hp with rfl | rfl | rfl
  ·simp [h6] at h1 ⊢;rcases h1 with rfl | h1<;>simp_all
  ·simp [h6] at h1 ⊢;rcases h1 with rfl | h1<;>simp_all
  ·cases h8:d.DI.SD.any (fun x=>decide (x.State=1))<;>simp [h6,h8] at h1 ⊢ <;>simp_all
theorem once_mu {d:DK} (h0:0≤d.DI.PH) (h2:d.DI.PH≤2):Z8q d=d∧Z9q d=[]∨mu (Z8q d)<mu d:=by
 have hb:=Zbq d
 have hf:=Zcq (Z5q d)
 have ht:Z7q d=d.TH∨d.TH=1∧Z7q d=2:=by
  unfold Z7q
  cases hh:decide (d.TH=1)&&(Z6q d).all (fun x=>!Z0q d x||x.BO) with
  | false=>left;rfl
  | true=>right;rw [Bool.and_eq_true,decide_eq_true_eq] at hh;exact ⟨hh.1,rfl⟩
 have e1:(Z8q d).DI.PH=(Zup (Z5q d)).PH:=rfl
 have e2:(Z8q d).TH=Z7q d:=rfl
 have hr:=rank_le (th':=Z7q d) (ph':=(Zup (Z5q d)).PH) h0 h2 d ⟨rfl,rfl⟩ (by
  rcases hf with ⟨q,_⟩ | ⟨q1,q2⟩
  ·exact .inl q
  ·exact .inr ⟨q1,q2⟩) ht
 unfold mu
 rw [e1,e2]
 rcases hr with hr | ⟨r1,r2,r3⟩
 ·right;omega
 ·by_cases hm:(Z9q d).length=0
  ·left
   have hm':Z9q d=[]:=List.eq_nil_of_length_eq_zero hm
   refine ⟨?_,hm'⟩
   unfold Z9q at hm'
   rw [List.append_eq_nil_iff] at hm'
   obtain ⟨m1,m2⟩:=hm'
   have h8:∀x∈d.DI.SD,Zxp (Z5q d) x=x:=fun x hx=>by
    have h6:Zsp d.DI.ID (Z4q d) x=[]:=by
     have:∀y∈Zsp d.DI.ID (Z4q d) x,y∈Zvp (Z5q d):=fun y hy=>List.mem_flatMap.2 ⟨x,hx,hy⟩
     rw [m1] at this
     cases hc:Zsp d.DI.ID (Z4q d) x with
     | nil=>rfl
     | cons y l=>exact absurd (this y (by rw [hc];simp)) (by simp)
    have h9:Zrp (Z4q d) x=x:=fireM_nil h6
    unfold Zxp
    rw [show (Z5q d).PH=Z4q d from rfl]
    split
    ·rename_i hc
     exfalso
     rcases hf with ⟨q,q'⟩ | ⟨q1,q2⟩
     ·have:=q';rw [show (Z5q d).PH=Z4q d from rfl] at this;rw [this] at hc;simp at hc
     ·rw [show (Z5q d).PH=Z4q d from rfl] at q1
      rw [q1] at r3
      rw [q2] at r2
      omega
    ·exact h9
   have hS:(Zup (Z5q d)).SD=d.DI.SD:=by
    rw [Zyp];exact map_same h8
   have hB:Z6q d=d.DI.SD:=by
    unfold Z6q
    rw [hS]
    refine map_same fun x hx=>?_
    have h6:Z2q d.DI.ID (Z0q d x) d.TH x=[]:=by
     rw [hS] at m2
     have:∀y∈Z2q d.DI.ID (Z0q d x) d.TH x,y∈d.DI.SD.flatMap fun x=>Z2q d.DI.ID (Z0q d x) d.TH x:=fun y hy=>List.mem_flatMap.2 ⟨x,hx,hy⟩
     rw [m2] at this
     cases hc:Z2q d.DI.ID (Z0q d x) d.TH x with
     | nil=>rfl
     | cons y l=>exact absurd (this y (by rw [hc];simp)) (by simp)
    exact botM_nil h6
   unfold Z8q
   rw [hB,r1,r2]
  ·right
   rw [r1,r2]
   omega
theorem Zdq (id:Int) (f:Side→Side):∀(l:List Side) (q:Int),(∀x∈l,(f x).Peer=x.Peer∧∀q,Zkp id q x=true→Zkp id q (f x)=true)→Zlp id q l=true→Zlp id q (l.map f)=true
 | [],_,_,_=>rfl
 | x::l,q,h,hk=>by
   obtain ⟨h1,h2⟩:=h x (by simp)
   simp only [List.map_cons,Zlp,Bool.and_eq_true] at hk ⊢
   refine ⟨h2 q hk.1,?_⟩
   rw [h1]
   exact Zdq id f l x.Peer (fun y hy=>h y (by simp [hy])) hk.2
theorem okD_map {d:DI} (h:okD d=true) {p:Int} (h0:0≤p) (h2:p≤2) (f:Side→Side) (hf:∀x∈d.SD,(f x).Peer=x.Peer∧∀q,Zkp d.ID q x=true→Zkp d.ID q (f x)=true):okD ⟨d.ID,p,d.SD.map f⟩=true:=by
 simp only [okD,Bool.and_eq_true,decide_eq_true_eq] at h ⊢
 exact ⟨h.1,h0,h2,by simpa using h.2.2.2.1,Zdq d.ID f d.SD (-1) hf h.2.2.2.2⟩
theorem sideD_of {id q:Int} {x y:Side} (hp:y.Peer=x.Peer) (he:y.Epoch=x.Epoch) (hs:y.State=x.State) (hd:(x.DY=true→x.Fork=true)→y.DY=true→y.Fork=true) (h:Zkp id q x=true):Zkp id q y=true:=by
 unfold Zkp at h ⊢
 rw [hp,he,hs]
 simp only [Bool.and_eq_true] at h ⊢
 refine ⟨h.1,h.2.1,h.2.2.1,h.2.2.2.1,h.2.2.2.2.1,h.2.2.2.2.2.1,?_⟩
 have h7:=h.2.2.2.2.2.2
 cases h6:y.DY with
 | false=>rfl
 | true=>
   have:x.DY=true→x.Fork=true:=fun e=>by
    rw [e] at h7
    cases hf:x.Fork with
    | true=>rfl
    | false=>rw [hf] at h7;simp at h7
   rw [hd this h6];rfl
theorem fireD_ok {d:DI} (h:okD d=true):okD (Zup d)=true:=by
 have hh:=h
 simp only [okD,Bool.and_eq_true,decide_eq_true_eq] at hh
 have hp:0≤(Zup d).PH∧(Zup d).PH≤2:=by
  rcases Zcq d with ⟨q,_⟩ | ⟨_,q⟩
  ·rw [q];exact ⟨hh.2.1,hh.2.2.1⟩
  ·rw [q];omega
 have:=okD_map h hp.1 hp.2 (Zxp d) fun x hx=>by
  obtain ⟨p1,p2,p3,_⟩:=Zzp d x
  refine ⟨p1,fun q=>sideD_of p1 p2 p3 fun hd=>?_⟩
  unfold Zxp
  split
  ·rename_i hc
   rw [Bool.and_eq_true,List.all_eq_true] at hc
   exact fun _=>hc.2 (Zrp d.PH x) (List.mem_map_of_mem hx)
  ·exact fire2_dirty _ _ hd
 rw [←Zyp] at this
 rw [show Zup d=⟨d.ID,(Zup d).PH,(Zup d).SD⟩ by rw [←fireD_id d]]
 exact this
theorem once_ok {d:DK} (h:okD d.DI=true):okD (Z8q d).DI=true:=by
 have h1:=fireD_ok (pre_ok h)
 have hh:=h1
 simp only [okD,Bool.and_eq_true,decide_eq_true_eq] at hh
 have:=okD_map h1 hh.2.1 hh.2.2.1 (fun x=>Z1q (Z0q d x) d.TH x) fun x _=>by
  obtain ⟨p1,p2,p3,p4,p5,_⟩:=Z3q (Z0q d x) d.TH x
  exact ⟨p1,fun q=>sideD_of p1 p2 p3 fun hd e=>by rw [p4];rw [p5] at e;exact hd e⟩
 rw [fireD_id] at this
 exact this
def Zeq:Nat→DK→List Mail→DK×List Mail
 | 0,d,out=>(d,out)
 | n+1,d,out=>if Z8q d=d then (d,out) else Zeq n (Z8q d) (out++Z9q d)
def Zfq (d:DK):DK×List Mail:=Zeq 300 d []
theorem Zgq (l m:List Int) (hl:l.length≤1000000):Zt8 l m=some (decide (l=m)):=by
 simp only [Zt8,Zmo]
 by_cases h:l.length=m.length
 ·simp only [h,decide_true,Bool.not_true,Zwn]
  rw [Zjo l m _ (fun x y=>decide (x=y)) h (by omega) (fun k x y hx hy=>by
   simp only [Zs8,Z1o hx,Zvn,Zzn hx,Zzn hy,OB,Z4o hx (show l.length≤4000000000000000000 by omega),Zxn]
   cases decide (x=y)<;>rfl) (by simp only [Zs8,Z2o,Zwn,Zr8,Option.map_some]),Zko l m h]
 ·simp [h,Zlo h]
theorem s_drOwn (i p t:Int) (S:List Side) (N:List Int) (hs:S.length≤1000000) (hn:N.length≤1000000):Zhe i p t S N=some (S,N):=by
 simp only [Zhe,Zop _ hs,Zbp _ hn,OB,Zge]
theorem s_drSame (a b:DK) (hs:a.DI.SD.length≤1000000) (hn:a.Need.length≤1000000):Z2e a b=some (decide (a=b)):=by
 obtain ⟨⟨i,p,s⟩,t,n⟩:=a
 obtain ⟨⟨i',p',s'⟩,t',n'⟩:=b
 simp only at hs hn
 simp only [Z2e,Zjb,Zib,Z1e,s_EqualSide s s' hs,Zgq n n' hn,OB,DK.mk.injEq,DI.mk.injEq]
 by_cases h1:i=i'<;>by_cases h2:p=p'<;>by_cases h3:s=s'<;>by_cases h4:t=t'<;>by_cases h5:n=n'<;>simp [h1,h2,h3,h4,h5]
theorem bits_le (l:List Side):bits l≤4*l.length:=by
 induction l with
 | nil=>simp [bits]
 | cons x l ih=>
   have:Zaq x≤4:=by unfold Zaq bn;split<;>split<;>split<;>split<;>omega
   unfold bits at ih ⊢
   simp only [List.map_cons,List.sum_cons,List.length_cons]
   omega
theorem mu_le {d:DK} (h:okD d.DI=true):mu d≤257:=by
 have h1:=Zpp h
 have h2:=bits_le d.DI.SD
 have:rank d.TH d.DI.PH≤5:=by unfold rank;(repeat' split)<;>omega
 unfold mu;omega
theorem Zhq {d:DI} (h:okD d=true):0≤d.PH∧d.PH≤2:=by
 simp only [okD,Bool.and_eq_true,decide_eq_true_eq] at h
 exact ⟨h.2.1,h.2.2.1⟩
theorem fire_loop (S0:List Side) (N:List Int) (hN:N.length≤1000000):∀(n:Nat) (d:DK) (out:List Mail),d.Need=N→okD d.DI=true→mu d≤n→out.length+bits d.DI.SD≤600000→
  loop (Zhk (S0,N)) (d.DI.ID,d.DI.PH,d.TH,d.DI.SD,out)=some ((Zeq (n+1) d out).1.DI.ID,(Zeq (n+1) d out).1.DI.PH,(Zeq (n+1) d out).1.TH,0,(Zeq (n+1) d out).1.DI.SD,N,(Zeq (n+1) d out).2):=fun n=>by
 have step:∀(d:DK) (out:List Mail),d.Need=N→okD d.DI=true→out.length+bits d.DI.SD≤600000→Zhk (S0,N) (d.DI.ID,d.DI.PH,d.TH,d.DI.SD,out)=if Z8q d=d then some (.inr (d.DI.ID,d.DI.PH,d.TH,0,d.DI.SD,N,out)) else some (.inl ((Z8q d).DI.ID,(Z8q d).DI.PH,(Z8q d).TH,(Z8q d).DI.SD,out++Z9q d)):=fun d out hd hk ho=>by
  have hl:=Zpp hk
  have hp:=Zhq hk
  have e:(⟨⟨d.DI.ID,d.DI.PH,d.DI.SD⟩,d.TH,N⟩:DK)=d:=by rw [←hd]
  dsimp only [Zhk]
  have h6:=s_once d hk (by rw [hd];exact hN) out (by omega)
  rw [hd] at h6
  rw [s_drOwn _ _ _ _ _ (by omega) hN,OB,h6,OB]
  dsimp only
  have e2:(⟨⟨(Z8q d).DI.ID,(Z8q d).DI.PH,(Z8q d).DI.SD⟩,(Z8q d).TH,N⟩:DK)=Z8q d:=by rw [←hd];rfl
  rw [e,e2,s_drSame d _ (by omega) (by rw [hd];exact hN),OB]
  dsimp only [Zgk,Zfk]
  by_cases hq:Z8q d=d
  ·rw [if_pos hq,DT hq.symm,Zvn]
   have hm:Z9q d=[]:=by
    rcases once_mu hp.1 hp.2 with h1 | h1
    ·exact h1.2
    ·rw [hq] at h1;omega
   rw [hm,List.append_nil,hq];rfl
  ·rw [if_neg hq,DN fun e=>hq e.symm,Zwn]
 induction n with
 | zero=>
   intro d out hd hk hm ho
   have hp:=Zhq hk
   have hq:Z8q d=d:=by
    rcases once_mu hp.1 hp.2 with h1 | h1
    ·exact h1.1
    ·omega
   rw [loop_eq,step d out hd hk ho,if_pos hq]
   unfold Zeq
   rw [if_pos hq]
 | succ n ih=>
   intro d out hd hk hm ho
   have hp:=Zhq hk
   rw [loop_eq,step d out hd hk ho]
   unfold Zeq
   by_cases hq:Z8q d=d
   ·rw [if_pos hq,if_pos hq]
   ·rw [if_neg hq,if_neg hq]
    have hb:=Zbq d
    refine ih (Z8q d) (out++Z9q d) hd (once_ok hk) ?_ (by rw [List.length_append];omega)
    rcases once_mu hp.1 hp.2 with h1 | h1
    ·exact absurd h1.1 hq
    ·omega
def okI:Option Int→List Int→Bool
 | _,[]=>true
 | p,x::r=>(match p with | none=>true | some q=>decide (q<x))&&okI (some x) r
def Ziq (d:DI) (p:Int):Bool:=d.SD.any fun x=>decide (x.Peer=p)
def okDr (d:DK):Bool:=okD d.DI&&(decide (0≤d.TH)&&(decide (d.TH≤2)&&(okI none d.Need&&(!(decide (d.TH=0)&&decide (0<d.Need.length))&&d.Need.all (Ziq d.DI)))))
theorem Zjq (l:List Int) (hl:l.length≤1000000):Z88 l=some (okI none l):=by
 unfold Z88
 refine Zbo l (Z78 l) (fun pre=>(pre.length:Int)) (fun pre post=>some (okI pre.getLast? post)) (fun pre x post h=>?_) ?_
 ·have hx:=Zdo h
  have hm:=Zeo h
  have j2:∀z,Z68 (pre.length:Int) z=if z then some (.inr false) else some (.inl ((pre.length+1:Nat):Int)):=fun z=>by
   cases z with
   | true=>rfl
   | false=>dsimp only [Z68];rw [Zwn,Z3o (by omega)];rfl
  dsimp only [Z78]
  rw [Z1o hx,Zvn]
  rcases List.eq_nil_or_concat pre with rfl | ⟨q,y,rfl⟩
  ·left
   rw [show decide ((0:Int)<(([]:List Int).length:Nat))=false from rfl,Zwn,j2]
   exact ⟨rfl,rfl⟩
  ·rw [List.concat_eq_append] at *
   have hy:l[q.length]?=some y:=by rw [h];simp
   rw [DT (show (0:Int)<((q++[y]).length:Nat) by rw [Zio];omega),Zvn]
   have e1:wr (((q++[y]).length:Nat)-1)=(q.length:Int):=by rw [Zio] at hm ⊢;rw [Zyn (by omega) (by omega)];omega
   rw [e1,Zzn hy,OB,Zzn hx,OB,j2]
   by_cases hc:x≤y
   ·right
    refine ⟨false,by rw [DT hc];rfl,?_⟩
    have:¬y<x:=by omega
    simp [okI,this]
   ·left
    have:y<x:=by omega
    refine ⟨by rw [DN hc,Zio (q++[y])];rfl,?_⟩
    simp [okI,this]
 ·dsimp only [Z78]
  rw [Z2o,Zwn];rfl
theorem Zkq (d:DK) (hn:d.Need.length≤1000000):Zwh d=some (if okDr d then 0 else 150):=by
 simp only [Zwh,s_dCheck,OB]
 unfold okDr
 cases hk:okD d.DI with
 | false=>rfl
 | true=>
   have hl:=Zpp hk
   rw [if_pos rfl,show decide ((0:Int)=0)=true from rfl,Bool.not_true,Zwn]
   by_cases h1:d.TH<0
   ·rw [DT h1,Zvn,DN (show ¬0≤d.TH by omega)];rfl
   ·rw [DN h1,Zwn,DT (show 0≤d.TH by omega)]
    by_cases h2:2<d.TH
    ·rw [DT h2,DN (show ¬d.TH≤2 by omega)];rfl
    ·rw [DN h2,DT (show d.TH≤2 by omega)]
     dsimp only [Zvh]
     rw [Zwn,Zjq _ hn,OB]
     cases hv:okI none d.Need with
     | false=>rfl
     | true=>
       rw [Bool.not_true,Zwn]
       have j3:∀z,Zuh d z=some (if (!z&&d.Need.all (Ziq d.DI))=true then 0 else 150):=fun z=>by
        cases z with
        | true=>rfl
        | false=>
          dsimp only [Zuh]
          rw [Zwn,Zto d.Need (fun z=>Zzd z d) (fun p=>!Ziq d.DI p) (by omega) (fun p _=>by
           simp only [Zzd]
           rw [Zro d.DI.SD (fun z=>Zp8 z p) (fun x=>decide (x.Peer=p)) (by omega) (fun x _=>rfl),OB]
           rfl),OB]
          have e1:d.Need.any (fun p=>!Ziq d.DI p)=!d.Need.all (Ziq d.DI):=Zvo _ _ _ fun _=>rfl
          rw [e1]
          cases d.Need.all (Ziq d.DI)<;>rfl
       rw [ln_eq]
       simp only [j3,Bool.true_and]
       have e3:decide ((0:Int)<(d.Need.length:Nat))=decide (0<d.Need.length):=by rw [decide_eq_decide];omega
       rw [e3]
       cases decide (d.TH=0)<;>rfl
theorem Zlq {d:DK} (h:okDr d=true):okD d.DI=true:=by unfold okDr at h;rw [Bool.and_eq_true] at h;exact h.1
theorem Zmq:∀(n:Nat) (d:DK) (out:List Mail),(Zeq n d out).1.Need=d.Need
 | 0,_,_=>rfl
 | n+1,d,out=>by
   unfold Zeq
   split
   ·rfl
   ·rw [Zmq n];rfl
theorem s_drFire (d:DK) (hk:okDr d=true) (hn:d.Need.length≤1000000):Zik d.DI.ID d.DI.PH d.TH d.DI.SD d.Need=some ((Zfq d).1.DI.ID,(Zfq d).1.DI.PH,(Zfq d).1.TH,0,(Zfq d).1.DI.SD,d.Need,(Zfq d).2):=by
 have h6:=Zlq hk
 have hl:=Zpp h6
 have hb:=bits_le d.DI.SD
 have hm:=mu_le h6
 dsimp only [Zik]
 rw [show (⟨⟨d.DI.ID,d.DI.PH,d.DI.SD⟩,d.TH,d.Need⟩:DK)=d from rfl,Zkq d hn,OB,if_pos hk,show decide ((0:Int)=0)=true from rfl,Bool.not_true,Zwn,s_drOwn _ _ _ _ _ (by omega) hn,OB,fire_loop _ d.Need hn 299 d [] rfl h6 (by omega) (by simp only [List.length_nil];omega)]
 rfl
theorem s_drClose (d:DK) (hk:okDr d=true) (hn:d.Need.length≤1000000):Z9j d.DI.ID d.DI.PH d.TH d.DI.SD d.Need=some (if d.TH=0 then (0,0,152,[]) else (d.DI.ID,d.DI.PH,0,d.DI.SD)):=by
 have hl:=Zpp (Zlq hk)
 dsimp only [Z9j]
 rw [show (⟨⟨d.DI.ID,d.DI.PH,d.DI.SD⟩,d.TH,d.Need⟩:DK)=d from rfl,Zkq d hn,OB,if_pos hk,show decide ((0:Int)=0)=true from rfl,Bool.not_true,Zwn]
 by_cases h1:d.TH=0
 ·rw [DT h1,Zvn,if_pos h1]
 ·rw [DN h1,Zwn,if_neg h1,s_drOwn _ _ _ _ _ (by omega) hn,OB]
def Znq (k:Int) (x:Side):Bool:=if k=1 then x.Fork else if k=2 then x.Token else if k=4 then x.Ask else x.BO
def layK (k:Int) (x:Side):Side:=if k=1 then {x with Fork:=true} else if k=2 then {x with Token:=true} else if k=4 then {x with Ask:=true} else {x with BO:=true}
theorem s_dGet (i p peer:Int) (m:Msg) (S:List Side) (hk:okD ⟨i,p,S⟩=true) {j:Nat} {x:Side} (hf:S.findIdx? (fun x=>decide (x.Peer=peer)&&decide (x.Epoch=m.Epoch))=some j) (hx:S[j]?=some x) (h0:m.Num=0) (hm:m.Kind=1∨m.Kind=2):
  Z8j i p peer m S=some (if Znq m.Kind x then (0,0,132,[]) else (i,p,0,S.set j (layK m.Kind x))):=by
 have hl:S.length<64:=Zpp hk
 dsimp only [Z8j]
 rw [s_dCheck,if_pos hk,OB,show decide ((0:Int)=0)=true from rfl,Bool.not_true,Zwn,Zno S (fun z=>Zj8 z peer m) (fun x=>decide (x.Peer=peer)&&decide (x.Epoch=m.Epoch)) (by omega) (fun x _=>by
  simp only [Zj8,Zi8]
  cases decide (x.Peer=peer)<;>rfl),OB,plc_neg,hf,Option.isNone_some,Zwn,Zop S (by omega),OB]
 dsimp only [plc]
 rw [Zzn hx,OB]
 dsimp only [Z7j,Z5j,Z6j]
 rw [DT h0,Int.toNat_natCast]
 rcases hm with hm | hm
 ·rw [hm,show decide ((1:Int)=1)=true from rfl,Zvn,Zvn]
  simp only [Znq,layK,if_true]
  cases x.Fork<;>rfl
 ·rw [hm,show decide ((2:Int)=1)=false from rfl,Zwn,Zwn,show decide ((2:Int)=2)=true from rfl,Zvn,Zvn]
  simp only [Znq,layK,if_true,show ¬(2:Int)=1 by omega,if_false]
  cases x.Token<;>rfl
theorem s_drGet (d:DK) (peer:Int) (m:Msg) (hk:okDr d=true) (hn:d.Need.length≤1000000) {j:Nat} {x:Side} (hf:d.DI.SD.findIdx? (fun x=>decide (x.Peer=peer)&&decide (x.Epoch=m.Epoch))=some j) (hx:d.DI.SD[j]?=some x) (h0:m.Num=0) (hm:1≤m.Kind∧m.Kind≤4):
  Zyj d.DI.ID d.DI.PH d.TH peer m d.DI.SD d.Need=some (if Znq m.Kind x then (0,0,0,132,[],[]) else (d.DI.ID,d.DI.PH,d.TH,0,d.DI.SD.set j (layK m.Kind x),d.Need)):=by
 have hl:=Zpp (Zlq hk)
 dsimp only [Zyj]
 rw [show (⟨⟨d.DI.ID,d.DI.PH,d.DI.SD⟩,d.TH,d.Need⟩:DK)=d from rfl,Zkq d hn,if_pos hk,OB,show decide ((0:Int)=0)=true from rfl,Bool.not_true,Zwn,s_drOwn _ _ _ _ _ (by omega) hn,OB]
 dsimp only
 rw [Zno d.DI.SD (fun z=>Z7a z peer m) (fun x=>decide (x.Peer=peer)&&decide (x.Epoch=m.Epoch)) (by omega) (fun x _=>by
     simp only [Z7a,Z6a]
     cases decide (x.Peer=peer)<;>rfl),OB,plc_neg,hf,Option.isNone_some,Zwn,DT h0,Bool.not_true,Zwn]
 have hd:=fun hm=>s_dGet d.DI.ID d.DI.PH peer m d.DI.SD (Zlq hk) hf hx h0 hm
 have j1:(m.Kind=1∨m.Kind=2)→Zxj d.DI.ID d.DI.PH d.TH peer m (d.DI.SD,d.Need) (plc (some j)) true=some (if Znq m.Kind x then (0,0,0,132,[],[]) else (d.DI.ID,d.DI.PH,d.TH,0,d.DI.SD.set j (layK m.Kind x),d.Need)):=fun hq=>by
  dsimp only [Zxj]
  rw [Zvn,hd hq,OB]
  cases Znq m.Kind x<;>rfl
 have j0:(m.Kind=3∨m.Kind=4)→Zxj d.DI.ID d.DI.PH d.TH peer m (d.DI.SD,d.Need) (plc (some j)) false=some (if Znq m.Kind x then (0,0,0,132,[],[]) else (d.DI.ID,d.DI.PH,d.TH,0,d.DI.SD.set j (layK m.Kind x),d.Need)):=fun hq=>by
  dsimp only [Zxj,plc]
  rw [Zwn,Zzn hx,OB,Int.toNat_natCast]
  rcases hq with hq | hq
  ·rw [hq,show decide ((3:Int)=4)=false from rfl,Zwn]
   simp only [Znq,layK,show ¬(3:Int)=1 by omega,show ¬(3:Int)=2 by omega,show ¬(3:Int)=4 by omega,if_false]
   cases x.BO<;>rfl
  ·rw [hq,show decide ((4:Int)=4)=true from rfl,Zvn]
   simp only [Znq,layK,show ¬(4:Int)=1 by omega,show ¬(4:Int)=2 by omega,if_false,if_true]
   cases x.Ask<;>rfl
 by_cases k3:m.Kind=3
 ·rw [DT k3,Bool.not_true,Zwn];exact j0 (.inl k3)
 ·rw [DN k3,Bool.not_false,Zvn]
  by_cases k4:m.Kind=4
  ·rw [DT k4,Bool.not_true];exact j0 (.inr k4)
  ·rw [DN k4,Bool.not_false];exact j1 (by omega)
structure FewN (n:Node):Prop where
 sides:n.DK.DI.SD.length≤100000
 need:n.DK.Need.length≤100000
 book:n.Book.Sess.length≤100000
 needs:∀s∈n.Book.Sess,s.Need.length≤100000
 known:n.KN.length≤100000
 told:n.Told.length≤100000
 asked:n.AK.length≤100000
theorem FewN.bk {n:Node} (h:FewN n):Z8p n.Book:=⟨by have:=h.book;omega,fun s hs=>by have:=h.needs s hs;omega⟩
def Zoq (n:Node) (q:Side→Bool):List Int:=(n.DK.DI.SD.filter q).map (·.Peer)
theorem s_peers (n:Node) (hn:FewN n) (p:Side→Option Bool) (q:Side→Bool) (hp:∀x∈n.DK.DI.SD,p x=some (q x)):Z09 n p=some (Zoq n q):=by
 have hl:=hn.sides
 unfold Z09
 refine Zco n.DK.DI.SD _ (fun pre=>((pre.length:Int),(pre.filter q).map (·.Peer))) _ (fun pre x post h=>?_) ?_
 ·have hx:=Zdo h
  have hm:=Zeo h
  have hf:=List.length_filter_le q pre
  dsimp only [Zz8]
  rw [Z1o hx,Zvn,Zzn hx,OB,hp x (Zfo h),OB]
  cases hq:q x with
  | true=>
    rw [Zvn,Z0o _ _ (by omega) (by simp;omega),OB]
    dsimp only [Zy8]
    rw [Z3o (by omega),Zio]
    simp [hq]
  | false=>
    rw [Zwn]
    dsimp only [Zy8]
    rw [Z3o (by omega),Zio]
    simp [hq]
 ·dsimp only [Zz8]
  rw [Z2o,Zwn];rfl
def Zpq (x:Side):Bool:=decide (x.State=0)
def Zqq (x:Side):Bool:=decide (x.State=1)
def Zrq (x:Side):Bool:=decide (x.State=3)
theorem s_Live (n:Node) (hn:FewN n):Zkb n=some (Zoq n Zpq):=by
 simp only [Zkb,s_peers n hn (fun z=>Z29 z) Zpq (fun _ _=>rfl),OB]
def Zsq (K:List KE) (p:Int):Int:=match K.find? (fun k=>decide (k.Peer=p)) with | some k=>k.Epoch | none=>0
theorem s_epoch (n:Node) (hn:FewN n) (p:Int):Zz9 n p=some (Zsq n.KN p):=by
 have hl:=hn.known
 unfold Zz9
 refine Zbo n.KN _ (fun pre=>(pre.length:Int)) (fun _ post=>some (Zsq post p)) (fun pre x post h=>?_) ?_
 ·have hx:=Zdo h
  have hm:=Zeo h
  dsimp only [Zy9]
  rw [Z1o hx,Zvn,Zzn hx,OB]
  by_cases hq:x.Peer=p
  ·right;exact ⟨x.Epoch,by rw [DT hq];rfl,by simp [Zsq,hq]⟩
  ·left;exact ⟨by rw [DN hq,Zwn,Z3o (by omega),Zio],by simp [Zsq,hq]⟩
 ·dsimp only [Zy9]
  rw [Z2o,Zwn];rfl
def mayB (n:Node) (k:KE):Bool:=
 !n.DK.DI.SD.any (fun x=>decide (x.Peer=k.Peer))&&(decide (0≤k.Peer)&&(decide (k.Peer<n.DK.DI.ID)&&(decide (Zsq n.KN k.Peer<k.Epoch)&&decide (k.Epoch≤65535))))
theorem s_may (n:Node) (hn:FewN n) (k:KE):Z1f n k=some (mayB n k):=by
 have hl:=hn.sides
 simp only [Z1f,Zro n.DK.DI.SD (fun z=>Z1a z k) (fun x=>decide (x.Peer=k.Peer)) (by omega) (fun _ _=>rfl),OB,s_epoch n hn,Z0f]
 unfold mayB
 cases n.DK.DI.SD.any (fun x=>decide (x.Peer=k.Peer))<;>cases decide (0≤k.Peer)<;>cases decide (k.Peer<n.DK.DI.ID)<;>cases decide (Zsq n.KN k.Peer<k.Epoch)<;>rfl
def Ztq (l:List KE):Bool:=decide (l.map (·.Peer)).Nodup
theorem Zuq (l:List KE) (hl:l.length≤1000000):Z5f l=some (Ztq l):=by
 unfold Z5f
 have key:=loop_ppI l (Z4f l) (fun pre=>(pre.length:Int)) (fun pre post=>some (Ztq (pre++post))) (fun pre=>(pre.map (·.Peer)).Nodup) (fun pre x post h hI=>?_) (fun hI=>?_) l [] rfl (by simp)
 ·exact key
 ·have hx:=Zdo h
  have hm:=Zeo h
  have h6:sub_ l 0 (pre.length:Int)=some pre:=by
   unfold sub_
   rw [if_pos ⟨by omega,by omega,by omega⟩,h];simp
  dsimp only [Z4f]
  rw [Z1o hx,Zvn,Zzn hx,OB,h6,OB,Zso pre (fun z=>Z2a z x) (fun y=>decide (y.Peer=x.Peer)) (by omega) (fun _ _=>rfl),OB]
  cases ha:pre.any (fun y=>decide (y.Peer=x.Peer)) with
  | true=>
    right
    refine ⟨false,rfl,?_⟩
    have:¬((pre++x::post).map (·.Peer)).Nodup:=by
     rw [List.any_eq_true] at ha
     obtain ⟨y,hy,hq⟩:=ha
     rw [List.map_append,List.map_cons,List.nodup_append]
     rintro ⟨_,_,h3⟩
     exact h3 y.Peer (List.mem_map.2 ⟨y,hy,rfl⟩) x.Peer (by simp) (by simpa using hq)
    unfold Ztq
    rw [DN this]
  | false=>
    left
    rw [List.any_eq_false] at ha
    refine ⟨by rw [Zwn,Z3o (by omega),Zio],?_,by simp [Ztq]⟩
    rw [List.map_append,List.nodup_append]
    refine ⟨hI,by simp,?_⟩
    intro a ha' b hb
    obtain ⟨y,hy,rfl⟩:=List.mem_map.1 ha'
    simp at hb;subst hb
    have:=ha y hy
    simpa using this
 ·dsimp only [Z4f]
  rw [Z2o,Zwn,List.append_nil]
  have:Ztq l=true:=by unfold Ztq;exact DT hI
  rw [this];rfl
def Zvq:Int→List KE→Bool
 | _,[]=>true
 | q,k::l=>(decide (q<k.Peer)&&(decide (k.Peer<64)&&(decide (1≤k.Epoch)&&decide (k.Epoch≤65535))))&&Zvq k.Peer l
def lastK (q:Int) (pre:List KE):Int:=match pre.getLast? with | some x=>x.Peer | none=>q
theorem Zwq (q:Int) (pre:List KE) (x:KE):lastK q (pre++[x])=x.Peer:=by simp [lastK]
theorem s_riseK (l:List KE) (hl:l.length≤1000000) (q:Int):∃z,Z3g l q=some (!Zvq q l,z):=by
 have s1:∀(k:KE) (q:Int),Zvc k q=some (!(decide (q<k.Peer)&&(decide (k.Peer<64)&&(decide (1≤k.Epoch)&&decide (k.Epoch≤65535))))):=fun k q=>by
  simp only [Zvc,Zuc]
  cases decide (q<k.Peer)<;>cases decide (k.Peer<64)<;>cases decide (1≤k.Epoch)<;>rfl
 have key:∀(post pre:List KE),l=pre++post→∃r z,loop (Zxe l) ((pre.length:Int),lastK q pre)=some (r,z)∧decide (0≤r)=!Zvq (lastK q pre) post:=by
  intro post
  induction post with
  | nil=>
    intro pre h
    have h:pre=l:=by simpa using h.symm
    subst h
    refine ⟨-1,lastK q pre,?_,rfl⟩
    rw [loop_eq]
    dsimp only [Zxe]
    rw [Z2o,Zwn];rfl
  | cons x post ih=>
    intro pre h
    have hx:=Zdo h
    have hm:=Zeo h
    rw [loop_eq]
    dsimp only [Zxe]
    rw [Z1o hx,Zvn,Zzn hx,OB,s1,OB]
    cases hk:(decide (lastK q pre<x.Peer)&&(decide (x.Peer<64)&&(decide (1≤x.Epoch)&&decide (x.Epoch≤65535)))) with
    | false=>exact ⟨pre.length,x.Peer,rfl,by simp only [Zvq,hk,Bool.false_and,Bool.not_false];exact DT (by omega)⟩
    | true=>
      obtain ⟨r,z,h1,h2⟩:=ih (pre++[x]) (by simpa using h)
      refine ⟨r,z,?_,?_⟩
      ·rw [Bool.not_true,Zwn,Z3o (by omega)]
       rw [Zio,Zwq] at h1
       exact h1
      ·rw [h2,Zwq]
       simp only [Zvq,hk,Bool.true_and]
 obtain ⟨r,z,h1,h2⟩:=key l [] rfl
 refine ⟨z,?_⟩
 have h1:loop (Zxe l) (0,q)=some (r,z):=h1
 simp only [Z3g,Zye,h1,OB,h2]
 rfl
def sideN (n:Node) (x:Side):Bool:=decide (x.Peer<64)&&(decide (1≤x.Epoch)&&(decide (Zsq n.KN x.Peer=x.Epoch)&&!((decide (x.State=1)||decide (x.State=3))&&decide (x.Peer<n.DK.DI.ID))))
theorem s_edges1 (n:Node) (hn:FewN n) (x:Side):Zzc x n=some (!sideN n x):=by
 simp only [Zzc,Zyc,Zxc,s_epoch n hn,OB]
 unfold sideN
 by_cases h1:x.Peer<64
 ·rw [DT h1,DN (show ¬64≤x.Peer by omega)]
  by_cases h2:1≤x.Epoch
  ·rw [DT h2,DN (show ¬x.Epoch<1 by omega)]
   cases decide (Zsq n.KN x.Peer=x.Epoch)<;>cases decide (x.State=1)<;>cases decide (x.State=3)<;>cases decide (x.Peer<n.DK.DI.ID)<;>rfl
  ·rw [DN h2,DT (show x.Epoch<1 by omega)]
   cases decide (x.State=1)<;>rfl
 ·rw [DN h1,DT (show 64≤x.Peer by omega)]
  cases decide (x.State=1)<;>rfl
def knownN (n:Node):Bool:=decide (n.DK.DI.ID<64)&&(Zvq (-1) n.KN&&(n.DK.DI.SD.all (sideN n)&&(okI none n.Told&&n.Told.all fun z=>decide (z∈Zoq n Zqq))))
def edgesN (n:Node):Bool:=n.AK.all (mayB n)&&(Ztq n.AK&&knownN n)
theorem Zxq (n:Node) (q:Side→Bool):(Zoq n q).length≤n.DK.DI.SD.length:=by
 unfold Zoq;rw [List.length_map];exact List.length_filter_le _ _
theorem s_edges (n:Node) (hn:FewN n):Zwj n=some (edgesN n):=by
 have h1:=hn.asked
 have h2:=hn.known
 have h3:=hn.sides
 have h4:=hn.told
 have h5:=Zxq n Zqq
 obtain ⟨z,hz⟩:=s_riseK n.KN (by omega) (-1)
 have hk:∃z,Zmj n (-1) (fun z=>Zzc z n)=some (knownN n,z):=by
  simp only [Zmj,Zlj,hz,OB,Zro n.DK.DI.SD (fun z=>Zzc z n) (fun x=>!sideN n x) (by omega) (fun x _=>s_edges1 n hn x),Zjq n.Told (by omega),s_peers n hn (fun z=>Zl9 z) Zqq (fun _ _=>rfl),s_Within n.Told (Zoq n Zqq) (by omega) (by omega)]
  unfold knownN
  have e1:n.DK.DI.SD.any (fun x=>!sideN n x)=!n.DK.DI.SD.all (sideN n):=Zvo _ _ _ fun _=>rfl
  rw [e1]
  cases decide (n.DK.DI.ID<64) with
  | false=>exact ⟨-1,rfl⟩
  | true=>cases Zvq (-1) n.KN with
    | false=>exact ⟨z,rfl⟩
    | true=>cases n.DK.DI.SD.all (sideN n) with
      | false=>exact ⟨z,rfl⟩
      | true=>cases okI none n.Told with
        | false=>exact ⟨z,rfl⟩
        | true=>exact ⟨z,rfl⟩
 obtain ⟨z',hk⟩:=hk
 have e2:n.AK.any (fun k=>!mayB n k)=!n.AK.all (mayB n):=Zvo _ _ _ fun _=>rfl
 simp only [Zwj,Zso n.AK (fun z=>Z5g z n) (fun k=>!mayB n k) (by omega) (fun k _=>by simp only [Z5g,s_may n hn,OB]),OB,e2,Zuq n.AK (by omega),Zvj,hk]
 unfold edgesN
 cases n.AK.all (mayB n)<;>cases Ztq n.AK<;>rfl
def sess0:Sess:=⟨0,[],0,0⟩
theorem s_first (n:Node):Z49 n=some (match n.Book.Sess with | []=>(sess0,false) | s::_=>(s,true)):=by
 simp only [Z49,ln_eq]
 cases h:n.Book.Sess with
 | nil=>rfl
 | cons s l=>
   rw [DN (by simp;omega),Zwn];rfl
def Zyq (n:Node):Bool:=match n.Book.Sess with | []=>false | s::_=>decide (s.State=1)
def headQ (n:Node):Bool:=match n.Book.Sess with | []=>false | s::_=>decide (s.Need=n.DK.Need)
def waitN (n:Node) (s:Sess):Bool:=!(decide (s.State=0)&&!s.Need.all fun z=>decide (z∈Zoq n Zpq))
def Zzq (n:Node):Bool:=
 (decide (n.DK.TH=2)==Zyq n)&&((decide (n.DK.TH=0)||headQ n)&&(!n.DK.Need.any (fun z=>decide (z∈Zoq n Zrq))&&n.Book.Sess.all (waitN n)))
theorem s_Both (a b:List Int) (ha:a.length≤1000000) (hb:b.length≤1000000):Zjh a b=some ((Zxo a).filter fun z=>decide (z∈b)):=by
 simp only [Zjh]
 rw [s_keep a (fun z=>Z7g z b) (fun z=>decide (z∈b)) ha (fun x _=>by simp only [Z7g,Z0p b x hb,OB]),OB]
theorem s_thirst (n:Node) (hn:FewN n):Zrj n=some (Zzq n):=by
 have h3:=hn.sides
 have h4:=hn.need
 have h5:=hn.book
 have h6:=Zxq n Zrq
 have h7:=Zxq n Zpq
 have hc:Zua n.Book.Sess (fun z=>Z3j z n)=some (n.Book.Sess.any fun s=>!waitN n s):=Zuo _ _ _ (by omega) fun s hs=>by
  have:=hn.needs s hs
  simp only [Z3j,Z2j,s_Live n hn,OB,s_Within s.Need (Zoq n Zpq) (by omega) (by omega)]
  unfold waitN
  cases decide (s.State=0)<;>cases (s.Need.all fun z=>decide (z∈Zoq n Zpq))<;>rfl
 have e1:(n.Book.Sess.any fun s=>!waitN n s)=!n.Book.Sess.all (waitN n):=Zvo _ _ _ fun _=>rfl
 have j2:∀z,Zpj n z=some (!z&&(!n.DK.Need.any (fun z=>decide (z∈Zoq n Zrq))&&n.Book.Sess.all (waitN n))):=fun z=>by
  cases z with
  | true=>rfl
  | false=>
    dsimp only [Zpj,Zoj]
    rw [Zwn,s_peers n hn (fun z=>Z4a z) Zrq (fun _ _=>rfl),OB,s_Both _ _ (by omega) (by omega),OB,hc,e1,ln_eq]
    have e2:decide (((((Zxo n.DK.Need).filter fun z=>decide (z∈Zoq n Zrq)).length:Nat):Int)=0)=!n.DK.Need.any (fun z=>decide (z∈Zoq n Zrq)):=by
     have hm:=(Z2p n.DK.Need).2
     cases ha:n.DK.Need.any (fun z=>decide (z∈Zoq n Zrq)) with
     | true=>
       rw [List.any_eq_true] at ha
       obtain ⟨x,hx,hq⟩:=ha
       refine DN fun e=>?_
       have:((Zxo n.DK.Need).filter fun z=>decide (z∈Zoq n Zrq))=[]:=List.length_eq_zero_iff.1 (by omega)
       have h8:x∈((Zxo n.DK.Need).filter fun z=>decide (z∈Zoq n Zrq)):=List.mem_filter.2 ⟨(hm x).2 hx,hq⟩
       rw [this] at h8;simp at h8
     | false=>
       rw [List.any_eq_false] at ha
       refine DT ?_
       have:((Zxo n.DK.Need).filter fun z=>decide (z∈Zoq n Zrq))=[]:=by
        rw [List.filter_eq_nil_iff]
        intro x hx
        exact ha x ((hm x).1 hx)
       rw [this];rfl
    rw [e2]
    cases n.DK.Need.any (fun z=>decide (z∈Zoq n Zrq)) with
    | true=>rfl
    | false=>
      rw [Bool.not_false,Zvn,OB]
      cases n.Book.Sess.all (waitN n)<;>rfl
 simp only [Zrj,s_first,OB,Zqj,j2]
 unfold Zzq Zyq headQ
 cases hb:n.Book.Sess with
 | nil=>
   simp only [Zwn,Bool.not_false,Bool.not_true]
   cases decide (n.DK.TH=2)<;>cases decide (n.DK.TH=0)<;>simp [ifb]
 | cons s l=>
   have hs:=hn.needs s (by rw [hb];simp)
   simp only [Zvn,Zgq s.Need n.DK.Need (by omega),OB,Bool.not_true,Zwn]
   cases decide (s.State=1)<;>cases decide (n.DK.TH=2)<;>cases decide (n.DK.TH=0)<;>cases decide (s.Need=n.DK.Need)<;>simp [ifb]
def okN (n:Node):Bool:=okDr n.DK&&(okBk n.Book&&(edgesN n&&Zzq n))
theorem Z0r (n:Node) (hn:FewN n):Zlk n=some (if okN n then 0 else 180):=by
 have h4:=hn.need
 simp only [Zlk,Zkk,Zkq n.DK (by omega),Zap n.Book hn.bk,s_edges n hn,s_thirst n hn,OB]
 unfold okN
 cases okDr n.DK with
 | false=>rfl
 | true=>cases okBk n.Book with
   | false=>rfl
   | true=>cases edgesN n with
     | false=>rfl
     | true=>cases Zzq n<;>rfl
def Z1r {α:Type} (l:List α) (key:α→Int) (p:Int):Nat:=(l.takeWhile fun x=>decide (key x<p)).length
theorem tw_len {α:Type} (q:α→Bool):∀(l:List α) (k:Nat),k≤l.length→(∀i x,l[i]?=some x→i<k→q x=true)→(∀x,l[k]?=some x→q x=false)→(l.takeWhile q).length=k
 | [],k,h,_,_=>by simp at h;simp [h]
 | x::l,0,_,_,h=>by simp [h x rfl]
 | x::l,k+1,hk,h1,h2=>by
   rw [List.takeWhile_cons,if_pos (h1 0 x rfl (by omega)),List.length_cons,tw_len q l k (by simpa using hk) (fun i y hy hi=>h1 (i+1) y (by simpa using hy) (by omega)) fun y hy=>h2 y (by simpa using hy)]
theorem bs_loop {α β:Type} (l:List α) (key:α→Int) (p:Int) (body:Int×Int→Option ((Int×Int) ⊕ β)) (fin:Nat→Option β) (hs:l.Pairwise fun x y=>key x<key y)
  (h1:∀(lo hi:Nat) x,lo<hi→hi≤l.length→l[(lo+hi) / 2]?=some x→body ((lo:Int),(hi:Int))=some (.inl (if key x<p then ((((lo+hi) / 2+1:Nat):Int),(hi:Int)) else ((lo:Int),(((lo+hi) / 2:Nat):Int)))))
  (h2:∀lo:Nat,lo≤l.length→body ((lo:Int),(lo:Int))=(fin lo).map .inr):
  ∀(n lo hi:Nat),hi-lo≤n→lo≤hi→hi≤l.length→(∀i x,l[i]?=some x→i<lo→key x<p)→(∀i x,l[i]?=some x→hi≤i→¬key x<p)→loop body ((lo:Int),(hi:Int))=fin (Z1r l key p):=by
 intro n
 have stop:∀lo,lo≤l.length→(∀i x,l[i]?=some x→i<lo→key x<p)→(∀i x,l[i]?=some x→lo≤i→¬key x<p)→loop body ((lo:Int),(lo:Int))=fin (Z1r l key p):=by
  intro lo hl a b
  have:Z1r l key p=lo:=tw_len _ l lo hl (fun i x hx hi=>DT (a i x hx hi)) fun x hx=>DN (b lo x hx (Nat.le_refl _))
  rw [loop_eq,h2 lo hl,this]
  cases fin lo<;>rfl
 have mono:∀ {i j:Nat} {x y:α},l[i]?=some x→l[j]?=some y→i<j→key x<key y:=by
  intro i j x y hx hy h8
  rw [List.pairwise_iff_getElem] at hs
  obtain ⟨a,rfl⟩:=List.getElem?_eq_some_iff.1 hx
  obtain ⟨b,rfl⟩:=List.getElem?_eq_some_iff.1 hy
  exact hs i j a b h8
 induction n with
 | zero=>
   intro lo hi hn h9 h6 a b
   have:lo=hi:=by omega
   subst this
   exact stop lo h6 a b
 | succ n ih=>
   intro lo hi hn h9 h6 a b
   by_cases he:lo=hi
   ·subst he;exact stop lo h6 a b
   ·have hm:(lo+hi) / 2<l.length:=by omega
    obtain ⟨x,hx⟩:∃x,l[(lo+hi) / 2]?=some x:=⟨_,List.getElem?_eq_getElem hm⟩
    rw [loop_eq,h1 lo hi x (by omega) h6 hx]
    by_cases hq:key x<p
    ·rw [if_pos hq]
     refine ih ((lo+hi) / 2+1) hi (by omega) (by omega) h6 (fun i y hy hi'=>?_) b
     by_cases e:i=(lo+hi) / 2
     ·subst e;rw [hx] at hy;simp at hy;subst hy;exact hq
     ·have:=mono hy hx (by omega);omega
    ·rw [if_neg hq]
     refine ih lo ((lo+hi) / 2) (by omega) (by omega) (by omega) a fun i y hy hi'=>?_
     by_cases e:i=(lo+hi) / 2
     ·subst e;rw [hx] at hy;simp at hy;subst hy;exact hq
     ·have:=mono hx hy (by omega);omega
theorem mid_wr {lo hi:Nat} (h:lo+hi≤4000000):wr (Int.fdiv (kw .u64 (wr ((lo:Int)+hi))) (2 ^ min (Int.toNat 1) (IntKind.bits .u64)))=(((lo+hi) / 2:Nat):Int):=by
 have e1:wr ((lo:Int)+hi)=((lo+hi:Nat):Int):=by rw [Zyn (by omega) (by omega)];omega
 have e2:kw .u64 ((lo+hi:Nat):Int)=((lo+hi:Nat):Int):=by
  show IntKind.u64.wrap _=_
  have e:IntKind.u64.wrap ((lo+hi:Nat):Int)=((lo+hi:Nat):Int) % 18446744073709551616:=by
   simp [IntKind.wrap,IntKind.bits,IntKind.signed]
  rw [e];omega
 have e3:(2:Int) ^ min (Int.toNat 1) (IntKind.bits .u64)=2:=by decide
 rw [e1,e2,e3]
 have e4:Int.fdiv ((lo+hi:Nat):Int) 2=(((lo+hi) / 2:Nat):Int):=by rw [Int.fdiv_eq_ediv_of_nonneg _ (by omega)];omega
 rw [e4,Zyn (by omega) (by omega)]
theorem s_BS_Known (l:List KE) (p:Int) (hl:l.length≤1000000) (hs:l.Pairwise fun x y=>x.Peer<y.Peer) (hr:∀x∈l, -100000≤x.Peer∧x.Peer≤100000) (hp: -100000≤p∧p≤100000):
  Zf9 l p (fun z=>Zh9 z.1 z.2)=some ((Z1r l (·.Peer) p:Int),match l[Z1r l (·.Peer) p]? with | some x=>decide (x.Peer=p) | none=>false):=by
 have cmp:∀x∈l,Zh9 x p=some (x.Peer-p):=fun x hx=>by
  have:=hr x hx
  simp only [Zh9]
  rw [Zyn (by omega) (by omega)]
 have fin:∀k:Nat,k≤l.length→Zd9 l p (fun z=>Zh9 z.1 z.2) (k:Int)=some ((k:Int),match l[k]? with | some x=>decide (x.Peer=p) | none=>false):=fun k hk=>by
  dsimp only [Zd9]
  cases hx:l[k]? with
  | none=>
    have:l.length≤k:=by simpa using hx
    have:k=l.length:=by omega
    subst this
    rw [Z2o,Zwn];rfl
  | some x=>
    rw [Z1o hx,Zvn,Zzn hx,OB,cmp x (List.mem_of_getElem? hx),OB]
    dsimp only [Zc9]
    rw [show decide (x.Peer-p=0)=decide (x.Peer=p) from decide_eq_decide.2 (by omega)]
 unfold Zf9
 rw [ln_eq]
 refine bs_loop l (·.Peer) p _ (fun k=>some ((k:Int),match l[k]? with | some x=>decide (x.Peer=p) | none=>false)) hs (fun lo hi x h1 h2 hx=>?_) (fun lo h6=>?_) l.length 0 l.length (by omega) (by omega) (by omega) (fun i x _ hi=>by omega) (fun i x hx hi=>by
  have:=(List.getElem?_eq_some_iff.1 hx).1;omega)
 ·dsimp only [Ze9]
  rw [DT (show (lo:Int)<hi by omega),Zvn,mid_wr (by omega),Zzn hx,OB,cmp x (List.mem_of_getElem? hx),OB]
  by_cases hq:x.Peer<p
  ·rw [if_pos hq,DT (show x.Peer-p<0 by omega),Zvn,Z3o (by omega)]
  ·rw [if_neg hq,DN (show ¬x.Peer-p<0 by omega),Zwn]
 ·dsimp only [Ze9]
  rw [DN (show ¬(lo:Int)<lo by omega),Zwn,fin lo h6]
theorem s_BS_Side (l:List Side) (p:Int) (hl:l.length≤1000000) (hs:l.Pairwise fun x y=>x.Peer<y.Peer) (hr:∀x∈l, -100000≤x.Peer∧x.Peer≤100000) (hp: -100000≤p∧p≤100000):
  Z89 l p (fun z=>Za9 z.1 z.2)=some ((Z1r l (·.Peer) p:Int),match l[Z1r l (·.Peer) p]? with | some x=>decide (x.Peer=p) | none=>false):=by
 have cmp:∀x∈l,Za9 x p=some (x.Peer-p):=fun x hx=>by
  have:=hr x hx
  simp only [Za9]
  rw [Zyn (by omega) (by omega)]
 have fin:∀k:Nat,k≤l.length→Z69 l p (fun z=>Za9 z.1 z.2) (k:Int)=some ((k:Int),match l[k]? with | some x=>decide (x.Peer=p) | none=>false):=fun k hk=>by
  dsimp only [Z69]
  cases hx:l[k]? with
  | none=>
    have:l.length≤k:=by simpa using hx
    have:k=l.length:=by omega
    subst this
    rw [Z2o,Zwn];rfl
  | some x=>
    rw [Z1o hx,Zvn,Zzn hx,OB,cmp x (List.mem_of_getElem? hx),OB]
    dsimp only [Z59]
    rw [show decide (x.Peer-p=0)=decide (x.Peer=p) from decide_eq_decide.2 (by omega)]
 unfold Z89
 rw [ln_eq]
 refine bs_loop l (·.Peer) p _ (fun k=>some ((k:Int),match l[k]? with | some x=>decide (x.Peer=p) | none=>false)) hs (fun lo hi x h1 h2 hx=>?_) (fun lo h6=>?_) l.length 0 l.length (by omega) (by omega) (by omega) (fun i x _ hi=>by omega) (fun i x hx hi=>by
  have:=(List.getElem?_eq_some_iff.1 hx).1;omega)
 ·dsimp only [Z79]
  rw [DT (show (lo:Int)<hi by omega),Zvn,mid_wr (by omega),Zzn hx,OB,cmp x (List.mem_of_getElem? hx),OB]
  by_cases hq:x.Peer<p
  ·rw [if_pos hq,DT (show x.Peer-p<0 by omega),Zvn,Z3o (by omega)]
  ·rw [if_neg hq,DN (show ¬x.Peer-p<0 by omega),Zwn]
 ·dsimp only [Z79]
  rw [DN (show ¬(lo:Int)<lo by omega),Zwn,fin lo h6]
def putS (S:List Side) (x:Side):List Side:=S.take (Z1r S (·.Peer) x.Peer)++x::S.drop (Z1r S (·.Peer) x.Peer)
def Z2r (K:List KE) (p e:Int):List KE:=
 match K[Z1r K (·.Peer) p]? with
 | some k=>if k.Peer=p then K.set (Z1r K (·.Peer) p) ⟨p,e⟩ else K.take (Z1r K (·.Peer) p)++⟨p,e⟩::K.drop (Z1r K (·.Peer) p)
 | none=>K++[⟨p,e⟩]
theorem Z3r {α:Type} (l:List α) (key:α→Int) (p:Int):Z1r l key p≤l.length:=by
 unfold Z1r;exact (List.takeWhile_sublist _).length_le
theorem ins_ok {α:Type} {b:Nat} (l:List α) (k:Nat) (v:α) (hb:b≤1000) (hk:k≤l.length) (hl:l.length≤1000000):insS_ b l (k:Int) [v]=some (l.take k++v::l.drop k):=by
 show ins_ b l (k:Int) v=_
 unfold ins_
 have h2:(l.length+1)*b≤1000001*1000:=Nat.mul_le_mul (by omega) hb
 rw [if_pos ⟨by omega,by omega,by omega,by omega⟩,Int.toNat_natCast]
theorem know_core (K:List KE) (p e:Int) (hl:K.length≤1000000) (hs:K.Pairwise fun x y=>x.Peer<y.Peer) (hr:∀x∈K, -100000≤x.Peer∧x.Peer≤100000) (hp: -100000≤p∧p≤100000):
  ((Zf9 K p (fun z=>Zh9 z.1 z.2)).bind fun x14=>
    ifb (!x14.2) ((Ztg K x14.1 [⟨p,0⟩]).bind fun x15=>(at_ x15 x14.1).bind fun x17=>some (x15.set (Int.toNat x14.1) ⟨x17.Peer,e⟩)) ((at_ K x14.1).bind fun x17=>some (K.set (Int.toNat x14.1) ⟨x17.Peer,e⟩)))=some (Z2r K p e):=by
 rw [s_BS_Known K p hl hs hr hp,OB]
 have hc:=Z3r K (·.Peer) p
 have h6:(K.take (Z1r K (·.Peer) p)).length=Z1r K (·.Peer) p:=by rw [List.length_take];omega
 have ins:∀y:KE,at_ (K.take (Z1r K (·.Peer) p)++y::K.drop (Z1r K (·.Peer) p)) (Z1r K (·.Peer) p:Int)=some y:=fun y=>by
  have:=Zgo (l:=K.take (Z1r K (·.Peer) p)++y::K.drop (Z1r K (·.Peer) p)) (a:=K.take (Z1r K (·.Peer) p)) (b:=K.drop (Z1r K (·.Peer) p)) (x:=y) rfl
  rwa [h6] at this
 have st:∀y z:KE,(K.take (Z1r K (·.Peer) p)++y::K.drop (Z1r K (·.Peer) p)).set (Z1r K (·.Peer) p) z=K.take (Z1r K (·.Peer) p)++z::K.drop (Z1r K (·.Peer) p):=fun y z=>by
  have:=Zho (K.take (Z1r K (·.Peer) p)) (K.drop (Z1r K (·.Peer) p)) y z
  rwa [h6,Int.toNat_natCast] at this
 have new:ifb (!false) ((Ztg K (Z1r K (·.Peer) p:Int) [⟨p,0⟩]).bind fun x15=>(at_ x15 (Z1r K (·.Peer) p:Int)).bind fun x17=>some (x15.set (Int.toNat (Z1r K (·.Peer) p:Int)) ⟨x17.Peer,e⟩)) ((at_ K (Z1r K (·.Peer) p:Int)).bind fun x17=>some (K.set (Int.toNat (Z1r K (·.Peer) p:Int)) ⟨x17.Peer,e⟩))=some (K.take (Z1r K (·.Peer) p)++⟨p,e⟩::K.drop (Z1r K (·.Peer) p)):=by
  unfold Ztg
  rw [Bool.not_false,Zvn,ins_ok K _ _ (by omega) hc hl,OB,ins,OB,Int.toNat_natCast,st]
 unfold Z2r
 dsimp only
 cases hx:K[Z1r K (·.Peer) p]? with
 | none=>
   rw [new]
   have h1:K.length≤Z1r K (·.Peer) p:=by simpa using hx
   have h2:Z1r K (·.Peer) p=K.length:=by omega
   rw [h2];simp
 | some k=>
   dsimp only
   by_cases hq:k.Peer=p
   ·rw [DT hq,if_pos hq,Bool.not_true,Zwn,Zzn hx,OB,Int.toNat_natCast,hq]
   ·rw [DN hq,if_neg hq];exact new
structure RowK (K:List KE):Prop where
 len:K.length≤1000
 up:K.Pairwise fun x y=>x.Peer<y.Peer
 rng:∀x∈K, -100000≤x.Peer∧x.Peer≤100000
structure RowS (S:List Side):Prop where
 len:S.length≤1000
 up:S.Pairwise fun x y=>x.Peer<y.Peer
 rng:∀x∈S, -100000≤x.Peer∧x.Peer≤100000
theorem putS_core (S:List Side) (x:Side) (h:RowS S) (hp: -100000≤x.Peer∧x.Peer≤100000):
  ∃z,Z89 S x.Peer (fun z=>Za9 z.1 z.2)=some ((Z1r S (·.Peer) x.Peer:Int),z)∧Zrg S (Z1r S (·.Peer) x.Peer:Int) [x]=some (putS S x):=by
 have hl:=h.len
 refine ⟨_,s_BS_Side S x.Peer (by omega) h.up h.rng hp,?_⟩
 unfold Zrg
 exact ins_ok S _ _ (by omega) (Z3r _ _ _) (by omega)
theorem s_put1 (x:Side) (b c d e f:Int) (S:List Side) (N:List Int) (B:List Sess) (K:List KE) (O:List Int) (A:List KE) (hS:RowS S) (hK:RowK K) (hp: -100000≤x.Peer∧x.Peer≤100000):
  Zni x b c d e f S N B K O A=some (putS S x,Z2r K x.Peer x.Epoch):=by
 obtain ⟨z,h1,h2⟩:=putS_core S x hS hp
 have h3:=know_core K x.Peer x.Epoch (by have:=hK.len;omega) hK.up hK.rng hp
 dsimp only [Zni]
 rw [h1,OB,h2,OB]
 dsimp only [Zzh,Zyh]
 rw [h3,OB]
theorem s_put4 (x:Side) (b c d e:Int) (B:List Sess) (O:List Int) (f:Int) (S:List Side) (N:List Int) (K A:List KE) (E:List Mail) (V:List Event) (hS:RowS S) (hK:RowK K) (hp: -100000≤x.Peer∧x.Peer≤100000):
  Z0j x b c d e B O f S N K A E V=some (putS S x,Z2r K x.Peer x.Epoch):=by
 obtain ⟨z,h1,h2⟩:=putS_core S x hS hp
 have h3:=know_core K x.Peer x.Epoch (by have:=hK.len;omega) hK.up hK.rng hp
 dsimp only [Z0j]
 rw [h1,OB,h2,OB]
 dsimp only [Z6i,Z5i]
 rw [h3,OB]
theorem cnt_take {α:Type} (l:List α) (key:α→Int) (p:Int):l.take (Z1r l key p)=l.takeWhile (fun x=>decide (key x<p))∧l.drop (Z1r l key p)=l.dropWhile fun x=>decide (key x<p):=by
 have h:=List.takeWhile_append_dropWhile (p:=fun x=>decide (key x<p)) (l:=l)
 have g:∀(a b:List α),a++b=l→l.take a.length=a∧l.drop a.length=b:=by
  rintro a b rfl;simp
 exact g _ _ h
theorem lt_take {α:Type} {l:List α} {key:α→Int} {p:Int} {x:α} (h:x∈l.take (Z1r l key p)):key x<p:=by
 rw [(cnt_take l key p).1] at h
 have:∀(l:List α),x∈l.takeWhile (fun x=>decide (key x<p))→key x<p:=by
  intro l
  induction l with
  | nil=>simp
  | cons y l ih=>
    rw [List.takeWhile_cons]
    split
    ·rename_i hy
     intro h
     rcases List.mem_cons.1 h with rfl | h
     ·simpa using hy
     ·exact ih h
    ·simp
 exact this l h
theorem ge_drop {α:Type} {key:α→Int} {p:Int}:∀ {l:List α} {x:α},l.Pairwise (fun x y=>key x<key y)→x∈l.drop (Z1r l key p)→p≤key x:=by
 intro l
 induction l with
 | nil=>simp
 | cons y l ih=>
   intro x hs h
   rw [(cnt_take _ key p).2,List.dropWhile_cons] at h
   rw [List.pairwise_cons] at hs
   split at h
   ·rw [←(cnt_take l key p).2] at h
    exact ih hs.2 h
   ·rename_i hy
    have hy:¬key y<p:=by simpa using hy
    rcases List.mem_cons.1 h with rfl | h
    ·omega
    ·have:=hs.1 x h;omega
theorem mem_td {α:Type} (l:List α) (k:Nat) (x:α):x∈l↔x∈l.take k∨x∈l.drop k:=by
 conv=>lhs;rw [←List.take_append_drop k l]
 exact List.mem_append
theorem ins_pw {α:Type} {l:List α} {key:α→Int} {p:Int} {x:α} (hs:l.Pairwise fun x y=>key x<key y) (hx:key x=p) (hn:∀y∈l,key y≠p):(l.take (Z1r l key p)++x::l.drop (Z1r l key p)).Pairwise fun x y=>key x<key y:=by
 rw [List.pairwise_append]
 refine ⟨hs.sublist (List.take_sublist _ _),?_,?_⟩
 ·rw [List.pairwise_cons]
  refine ⟨fun y hy=>?_,hs.sublist (List.drop_sublist _ _)⟩
  have h1:=ge_drop hs hy
  have h2:=hn y (List.mem_of_mem_drop hy)
  omega
 ·intro y hy z hz
  have h1:=lt_take hy
  rcases List.mem_cons.1 hz with rfl | hz
  ·omega
  ·have h2:=ge_drop hs hz;omega
theorem Z4r {S:List Side} {x y:Side}:y∈putS S x↔y=x∨y∈S:=by
 unfold putS
 rw [mem_td S (Z1r S (·.Peer) x.Peer) y,List.mem_append,List.mem_cons]
 constructor
 ·rintro (h | h | h)
  ·exact .inr (.inl h)
  ·exact .inl h
  ·exact .inr (.inr h)
 ·rintro (h | h | h)
  ·exact .inr (.inl h)
  ·exact .inl h
  ·exact .inr (.inr h)
theorem putS_len (S:List Side) (x:Side):(putS S x).length=S.length+1:=by
 have:=Z3r S (·.Peer) x.Peer
 unfold putS
 rw [List.length_append,List.length_cons,List.length_take,List.length_drop];omega
theorem RowS.put {S:List Side} {x:Side} (h:RowS S) (hl:S.length<1000) (hn:∀y∈S,y.Peer≠x.Peer) (hp: -100000≤x.Peer∧x.Peer≤100000):RowS (putS S x):=
 ⟨by rw [putS_len];omega,ins_pw h.up rfl hn,fun y hy=>by
   rcases Z4r.1 hy with rfl | hy
   ·exact hp
   ·exact h.rng y hy⟩
theorem Z5r {K:List KE} (h:K.Pairwise fun x y=>x.Peer<y.Peer) (p e:Int):
  (∃k,K[Z1r K (·.Peer) p]?=some k∧k.Peer=p∧Z2r K p e=K.set (Z1r K (·.Peer) p) ⟨p,e⟩)∨(∀k∈K,k.Peer≠p)∧Z2r K p e=K.take (Z1r K (·.Peer) p)++⟨p,e⟩::K.drop (Z1r K (·.Peer) p):=by
 have hc:=Z3r K (·.Peer) p
 unfold Z2r
 cases hx:K[Z1r K (·.Peer) p]? with
 | none=>
   right
   have h1:K.length≤Z1r K (·.Peer) p:=by simpa using hx
   have h2:Z1r K (·.Peer) p=K.length:=by omega
   refine ⟨fun k hk=>?_,by rw [h2];simp⟩
   have:k∈K.take (Z1r K (·.Peer) p):=by rw [h2,List.take_length];exact hk
   have:=lt_take this
   omega
 | some k=>
   dsimp only
   by_cases hq:k.Peer=p
   ·left;exact ⟨k,rfl,hq,by rw [if_pos hq]⟩
   ·right
    refine ⟨fun y hy=>?_,by rw [if_neg hq]⟩
    rcases (mem_td K (Z1r K (·.Peer) p) y).1 hy with hy | hy
    ·have:=lt_take hy;omega
    ·obtain ⟨h6,hk⟩:=List.getElem?_eq_some_iff.1 hx
     have hd:K.drop (Z1r K (·.Peer) p)=k::K.drop (Z1r K (·.Peer) p+1):=by rw [List.drop_eq_getElem_cons h6,hk]
     have h8:k∈K.drop (Z1r K (·.Peer) p):=by rw [hd];simp
     have h9:=ge_drop h h8
     have hs:(K.drop (Z1r K (·.Peer) p)).Pairwise fun x y=>x.Peer<y.Peer:=h.sublist (List.drop_sublist _ _)
     rw [hd] at hy hs
     rcases List.mem_cons.1 hy with rfl | hy
     ·exact hq
     ·have:=(List.pairwise_cons.1 hs).1 y hy;omega
theorem Z6r {K:List KE} (h:K.Pairwise fun x y=>x.Peer<y.Peer) {p e:Int} {k:KE}:k∈Z2r K p e→k=⟨p,e⟩∨k∈K∧k.Peer≠p:=by
 intro hk
 rcases Z5r h p e with ⟨q,h1,h2,h3⟩ | ⟨h1,h2⟩
 ·rw [h3] at hk
  rw [List.mem_iff_getElem?] at hk
  obtain ⟨i,hi⟩:=hk
  rw [List.getElem?_set] at hi
  split at hi
  ·split at hi
   ·simp at hi;exact .inl hi.symm
   ·simp at hi
  ·rename_i hne
   refine .inr ⟨List.mem_of_getElem? hi,fun e=>?_⟩
   have mono:=List.pairwise_iff_getElem.1 h
   obtain ⟨a,ha⟩:=List.getElem?_eq_some_iff.1 hi
   obtain ⟨b,hb⟩:=List.getElem?_eq_some_iff.1 h1
   rcases Nat.lt_or_gt_of_ne hne with hl | hl
   ·have:=mono _ _ b a hl;rw [ha,hb] at this;omega
   ·have:=mono _ _ a b hl;rw [ha,hb] at this;omega
 ·rw [h2] at hk
  rw [List.mem_append,List.mem_cons] at hk
  rcases hk with hk | hk | hk
  ·exact .inr ⟨List.mem_of_mem_take hk,h1 k (List.mem_of_mem_take hk)⟩
  ·exact .inl hk
  ·exact .inr ⟨List.mem_of_mem_drop hk,h1 k (List.mem_of_mem_drop hk)⟩
theorem knowK_mem {K:List KE} (h:K.Pairwise fun x y=>x.Peer<y.Peer) {p e:Int}:⟨p,e⟩∈Z2r K p e∧∀k∈K,k.Peer≠p→k∈Z2r K p e:=by
 rcases Z5r h p e with ⟨q,h1,h2,h3⟩ | ⟨h1,h2⟩
 ·rw [h3]
  obtain ⟨b,hb⟩:=List.getElem?_eq_some_iff.1 h1
  refine ⟨List.mem_iff_getElem?.2 ⟨_,by rw [List.getElem?_set_self b]⟩,fun k hk hne=>?_⟩
  obtain ⟨i,hi⟩:=List.mem_iff_getElem?.1 hk
  refine List.mem_iff_getElem?.2 ⟨i,?_⟩
  rw [List.getElem?_set,if_neg]
  ·exact hi
  ·rintro rfl
   rw [h1] at hi;simp at hi;subst hi;exact hne h2
 ·rw [h2]
  refine ⟨by simp,fun k hk _=>?_⟩
  rw [List.mem_append,List.mem_cons]
  rcases (mem_td K (Z1r K (·.Peer) p) k).1 hk with h | h
  ·exact .inl h
  ·exact .inr (.inr h)
theorem knowK_pw {K:List KE} (h:K.Pairwise fun x y=>x.Peer<y.Peer) (p e:Int):(Z2r K p e).Pairwise fun x y=>x.Peer<y.Peer:=by
 rcases Z5r h p e with ⟨q,h1,h2,h3⟩ | ⟨h1,h2⟩
 ·rw [h3]
  rw [List.pairwise_iff_getElem] at h ⊢
  intro i j hi hj h6
  obtain ⟨b,hb⟩:=List.getElem?_eq_some_iff.1 h1
  have get:∀(k:Nat) (hk:k<(K.set (Z1r K (·.Peer) p) ⟨p,e⟩).length),(K.set (Z1r K (·.Peer) p) ⟨p,e⟩)[k].Peer=(K[k]'(by simpa using hk)).Peer:=by
   intro k hk
   rw [List.getElem_set]
   split
   ·rename_i e;subst e;rw [hb];exact h2.symm
   ·rfl
  rw [get,get]
  exact h i j _ _ h6
 ·rw [h2];exact ins_pw h rfl h1
theorem knowK_len (K:List KE) (p e:Int):(Z2r K p e).length≤K.length+1:=by
 have hc:=Z3r K (·.Peer) p
 unfold Z2r
 split
 ·split
  ·simp
  ·rw [List.length_append,List.length_cons,List.length_take,List.length_drop];omega
 ·simp
theorem RowK.know {K:List KE} {p e:Int} (h:RowK K) (hl:K.length<1000) (hp: -100000≤p∧p≤100000):RowK (Z2r K p e):=
 ⟨by have:=knowK_len K p e;omega,knowK_pw h.up p e,fun k hk=>by
   rcases Z6r h.up hk with rfl | ⟨hk,_⟩
   ·exact hp
   ·exact h.rng k hk⟩
theorem Z7r {K:List KE} (h:K.Pairwise fun x y=>x.Peer<y.Peer) {k:KE} (hk:k∈K):Zsq K k.Peer=k.Epoch:=by
 unfold Zsq
 have:K.find? (fun q=>decide (q.Peer=k.Peer))=some k:=by
  induction K with
  | nil=>simp at hk
  | cons y K ih=>
    rw [List.pairwise_cons] at h
    rw [List.find?_cons]
    rcases List.mem_cons.1 hk with rfl | hk
    ·simp
    ·have:=h.1 k hk
     rw [DN (by omega)]
     exact ih h.2 hk
 rw [this]
theorem Z8r {K:List KE} {p:Int} (h:∀k∈K,k.Peer≠p):Zsq K p=0:=by
 unfold Zsq
 have:K.find? (fun q=>decide (q.Peer=p))=none:=by
  rw [List.find?_eq_none];intro k hk;simpa using h k hk
 rw [this]
theorem Z9r {K:List KE} (h:K.Pairwise fun x y=>x.Peer<y.Peer) (p e q:Int):Zsq (Z2r K p e) q=if q=p then e else Zsq K q:=by
 have hp:=knowK_pw h p e
 have hm:=knowK_mem h (p:=p) (e:=e)
 split
 ·rename_i hq;subst hq
  exact Z7r hp hm.1
 ·rename_i hq
  by_cases hx:∃k∈K,k.Peer=q
  ·obtain ⟨k,hk,rfl⟩:=hx
   rw [Z7r hp (hm.2 k hk hq),Z7r h hk]
  ·have hx:∀k∈K,k.Peer≠q:=fun k hk e=>hx ⟨k,hk,e⟩
   rw [Z8r hx,Z8r]
   intro k hk
   rcases Z6r h hk with rfl | ⟨hk,_⟩
   ·exact fun e=>hq e.symm
   ·exact hx k hk
def newS (k:KE):Side:=⟨k.Peer,k.Epoch,0,false,false,true,false,true⟩
theorem s_send3 (x:Side) (k a b c d:Int) (B:List Sess) (O:List Int) (f:Int) (S:List Side) (N:List Int) (K A:List KE) (E:List Mail) (V:List Event) (hE:E.length≤1000000):
  Zqc x k a b c d B O f S N K A E V=some (E++[⟨a,x.Peer,⟨k,x.Epoch,0⟩⟩]):=by
 simp only [Zqc]
 rw [Z0o _ _ (by omega) (by simp;omega),OB]
theorem s_edge3 (k p a b c d:Int) (B:List Sess) (O:List Int) (f:Int) (S:List Side) (N:List Int) (K A:List KE) (E:List Mail) (V:List Event) (hE:V.length≤1000000):
  Zsc k p a b c d B O f S N K A E V=some (V++[⟨k,a,0,p,[]⟩]):=by
 simp only [Zsc]
 rw [Z0o _ _ (by omega) (by simp;omega),OB]
theorem s_session4 (k i a b c d:Int) (B:List Sess) (O:List Int) (f:Int) (S:List Side) (N:List Int) (K A:List KE) (E:List Mail) (V:List Event) (hE:V.length≤1000000):
  Zoc k i a b c d B O f S N K A E V=some (V++[⟨k,a,i,0,[]⟩]):=by
 simp only [Zoc]
 rw [Z0o _ _ (by omega) (by simp;omega),OB]
def Zar (S:List Side) (A:List KE):List Side:=A.foldl (fun S k=>putS S (newS k)) S
def ansK (K:List KE) (A:List KE):List KE:=A.foldl (fun K k=>Z2r K k.Peer k.Epoch) K
def ansM (id:Int) (A:List KE):List Mail:=A.map fun k=>⟨id,k.Peer,⟨6,k.Epoch,0⟩⟩
def ansV (id:Int) (A:List KE):List Event:=A.map fun k=>⟨6,id,0,k.Peer,[]⟩
structure AskOK (S:List Side) (A:List KE):Prop where
 rng:∀k∈A, -100000≤k.Peer∧k.Peer≤100000
 new:∀k∈A,∀x∈S,x.Peer≠k.Peer
 dis:(A.map (·.Peer)).Nodup
theorem ansS_snoc (S:List Side) (A:List KE) (k:KE):Zar S (A++[k])=putS (Zar S A) (newS k):=by simp [Zar]
theorem ansK_snoc (K:List KE) (A:List KE) (k:KE):ansK K (A++[k])=Z2r (ansK K A) k.Peer k.Epoch:=by simp [ansK]
theorem ansS_mem {S:List Side}:∀ {A:List KE} {x:Side},x∈Zar S A↔x∈S∨∃k∈A,x=newS k:=by
 intro A
 have:∀(A:List KE) (S:List Side) (x:Side),x∈Zar S A↔x∈S∨∃k∈A,x=newS k:=by
  intro A
  induction A with
  | nil=>intro S x;simp [Zar]
  | cons k A ih=>
    intro S x
    show x∈Zar (putS S (newS k)) A↔_
    rw [ih,Z4r]
    constructor
    ·rintro ((h | h) | ⟨q,h1,h2⟩)
     ·exact .inr ⟨k,by simp,h⟩
     ·exact .inl h
     ·exact .inr ⟨q,by simp [h1],h2⟩
    ·rintro (h | ⟨q,h1,h2⟩)
     ·exact .inl (.inr h)
     ·rcases List.mem_cons.1 h1 with rfl | h1
      ·exact .inl (.inl h2)
      ·exact .inr ⟨q,h1,h2⟩
 exact fun {x}=>this A S x
theorem AskOK.mid {S:List Side} {A pre post:List KE} {k:KE} (h:AskOK S A) (e:A=pre++k::post):∀y∈Zar S pre,y.Peer≠k.Peer:=by
 intro y hy
 rcases ansS_mem.1 hy with hy | ⟨q,h1,rfl⟩
 ·exact h.new k (by rw [e];simp) y hy
 ·have hd:=h.dis
  rw [e,List.map_append,List.map_cons,List.nodup_append] at hd
  exact hd.2.2 q.Peer (List.mem_map.2 ⟨q,h1,rfl⟩) k.Peer (by simp)
theorem ans_rows {S:List Side} {K A:List KE} (hS:RowS S) (hK:RowK K) (hA:AskOK S A) (h8:S.length+A.length≤1000) (h9:K.length+A.length≤1000):∀(post pre:List KE),A=pre++post→RowS (Zar S pre)∧RowK (ansK K pre)∧(Zar S pre).length=S.length+pre.length∧(ansK K pre).length≤K.length+pre.length:=by
 intro post
 have:∀(n:Nat) (pre:List KE),pre.length=n→(∃post,A=pre++post)→RowS (Zar S pre)∧RowK (ansK K pre)∧(Zar S pre).length=S.length+pre.length∧(ansK K pre).length≤K.length+pre.length:=by
  intro n
  induction n with
  | zero=>
    intro pre h _
    have:pre=[]:=List.length_eq_zero_iff.1 h
    subst this
    exact ⟨hS,hK,rfl,Nat.le_refl _⟩
  | succ n ih=>
    intro pre h ⟨post,e⟩
    rcases List.eq_nil_or_concat pre with rfl | ⟨q,k,rfl⟩
    ·simp at h
    ·rw [List.concat_eq_append] at *
     have hq:q.length=n:=by rw [Zio] at h;omega
     obtain ⟨i1,i2,i3,i4⟩:=ih q hq ⟨k::post,by rw [e];simp⟩
     have hk:k∈A:=by rw [e];simp
     have h6:q.length+1≤A.length:=by rw [e,List.length_append,Zio];omega
     have hr:=hA.rng k hk
     rw [ansS_snoc,ansK_snoc,Zio]
     refine ⟨i1.put (by omega) (hA.mid (k:=k) (post:=post) (by rw [e];simp)) hr,i2.know (by omega) hr,by rw [putS_len];omega,?_⟩
     have:=knowK_len (ansK K q) k.Peer k.Epoch
     omega
 exact fun pre e=>this pre.length pre rfl ⟨post,e⟩
theorem s_answer (a b c d:Int) (B:List Sess) (O:List Int) (f:Int) (S:List Side) (N:List Int) (K A:List KE) (E:List Mail) (V:List Event) (hS:RowS S) (hK:RowK K) (hA:AskOK S A) (h6:S.length+A.length≤1000) (h8:K.length+A.length≤1000) (hE:E.length≤900000) (hV:V.length≤900000):
  Zjj a b c d B O f S N K A E V=some (Zar S A,ansK K A,E++ansM a A,V++ansV a A):=by
 unfold Zjj
 have e0:((0:Int),S,K,E,V)=((([]:List KE).length:Int),Zar S [],ansK K [],E++ansM a [],V++ansV a []):=by simp [Zar,ansK,ansM,ansV]
 rw [e0]
 refine Zco A _ (fun pre=>((pre.length:Int),Zar S pre,ansK K pre,E++ansM a pre,V++ansV a pre)) _ (fun pre k post h=>?_) ?_
 ·have hx:=Zdo h
  have hm:=Zeo h
  obtain ⟨r1,r2,r3,r4⟩:=ans_rows hS hK hA h6 h8 (k::post) pre h
  have hr:=hA.rng k (Zfo h)
  dsimp only [Zij]
  rw [Z1o hx,Zvn,Zzn hx,OB]
  have e1:(⟨k.Peer,k.Epoch,0,false,false,true,false,true⟩:Side)=newS k:=rfl
  rw [e1,s_put4 (newS k) a b c d B O f _ N _ A _ _ r1 r2 hr,OB,s_send3 _ _ _ _ _ _ _ _ _ _ _ _ _ _ _ (by rw [List.length_append,ansM,List.length_map];omega),OB,s_edge3 _ _ _ _ _ _ _ _ _ _ _ _ _ _ _ (by rw [List.length_append,ansV,List.length_map];omega),OB,Z3o (by omega),Zio,ansS_snoc,ansK_snoc]
  simp [ansM,ansV,newS]
 ·dsimp only [Zij]
  rw [Z2o,Zwn];rfl
def Zbr (T:List Int) (x:Side):Bool:=Zqq x&&!decide (x.Peer∈T)
def Zcr (id:Int):List Side→List Int→List Mail→List Int×List Mail
 | [],T,E=>(T,E)
 | x::l,T,E=>if Zbr T x then Zcr id l (Zxo (T++[x.Peer])) (E++[⟨id,x.Peer,⟨5,x.Epoch,0⟩⟩]) else Zcr id l T E
theorem s_tell (a b c d:Int) (B:List Sess) (O:List Int) (f:Int) (S:List Side) (N:List Int) (K A:List KE) (E:List Mail) (V:List Event) (hS:S.length≤1000) (hO:O.length≤1000) (hE:E.length≤900000):
  Zyi a b c d B O f S N K A E V=some (Zcr a S O E):=by
 unfold Zyi
 have key:∀(post pre:List Side) (T:List Int) (E:List Mail),S=pre++post→T.length≤1000+pre.length→E.length≤900000+pre.length→loop (Zxi a b c d B f S N K A V) ((pre.length:Int),T,E)=some (Zcr a post T E):=by
  intro post
  induction post with
  | nil=>
    intro pre T E h _ _
    have h:pre=S:=by simpa using h.symm
    subst h
    rw [loop_eq]
    dsimp only [Zxi]
    rw [Z2o,Zwn];rfl
  | cons x post ih=>
    intro pre T E h hT hE
    have hx:=Zdo h
    have hm:=Zeo h
    have h6:Zag T x.Peer=some (Zxo (T++[x.Peer])):=s_Add T x.Peer (by omega)
    have h8:(Zxo (T++[x.Peer])).length≤T.length+1:=by have:=Z4p (T++[x.Peer]);simpa using this
    have j3:∀(T:List Int) (E:List Mail),Zvi (pre.length:Int) (T,E)=some (.inl (((pre++[x]).length:Int),T,E)):=fun T E=>by
     dsimp only [Zvi]
     rw [Z3o (by omega),Zio]
    have j2:∀z,Zwi a b c d B f S N K A V (pre.length:Int) T E x z=if z then some (.inl (((pre++[x]).length:Int),Zxo (T++[x.Peer]),E++[⟨a,x.Peer,⟨5,x.Epoch,0⟩⟩])) else some (.inl (((pre++[x]).length:Int),T,E)):=fun z=>by
     cases z with
     | false=>dsimp only [Zwi];rw [Zwn,j3];rfl
     | true=>
       dsimp only [Zwi]
       rw [Zvn,s_send3 _ _ _ _ _ _ _ _ _ _ _ _ _ _ _ (by omega),OB,h6,OB,j3];rfl
    have step:Zxi a b c d B f S N K A V ((pre.length:Int),T,E)=if Zbr T x then some (.inl (((pre++[x]).length:Int),Zxo (T++[x.Peer]),E++[⟨a,x.Peer,⟨5,x.Epoch,0⟩⟩])) else some (.inl (((pre++[x]).length:Int),T,E)):=by
     dsimp only [Zxi]
     rw [Z1o hx,Zvn,Zzn hx,OB]
     simp only [Zl9,OB,Z0p T x.Peer (by omega),j2]
     unfold Zbr Zqq
     cases decide (x.State=1) with
     | false=>rfl
     | true=>cases decide (x.Peer∈T)<;>rfl
    rw [loop_eq,step]
    unfold Zcr
    cases hu:Zbr T x with
    | true=>
      rw [if_pos rfl,if_pos rfl]
      exact ih (pre++[x]) _ _ (by simpa using h) (by rw [Zio];omega) (by rw [Zio,Zio];omega)
    | false=>
      rw [if_neg (by simp),if_neg (by simp)]
      exact ih (pre++[x]) T E (by simpa using h) (by rw [Zio];omega) (by rw [Zio];omega)
 exact key S [] O E rfl (by simpa using hO) (by simpa using hE)
end
end NX
end Go.Proofs.YtdjkbodnjhgbcaaGreat
