/-
  The function narthex/narthexref12.Few: its code compiled, a model, and that the code answers as the model. Written by a program of ours (lb.py). No statement of the seat is proved here.
-/
import Derived.KernelRfl
import Derived.Test.YtacfbmldajmjiaaGreatU1
namespace Go.Proofs.YtacfbmldajmjiaaGreat
namespace NX
open Go
set_option maxRecDepth 100000
set_option maxHeartbeats 4000000
def Zi8:EC:=.seq (.seq (.reg [(Qa 4 (.mv (.t 3))),(Qa 5 (.fld 0 (.t 1))),(Qa 6 (.load (.t 5))),(Qa 7 (.len (.t 6))),(Qa 8 (.bin .lss (.t 4) (.t 7))),(Qa 9 (.mv (.t 8))),(Qg 10 9 true (.mv (.t 3))),(Qg 11 9 true (.bin .lss (.t 10) (.c (.iv 25)))),(Qa 12 (.pick (.t 9) (.t 11) (.c .ff)))]) (.ite (.t 12) (.skip) (.exit 0))) (.seq (.blk 1 (.seq (.reg [(Qa 15 (.fld 0 (.t 1))),(Qa 16 (.load (.t 15))),(Qa 17 (.mv (.t 3))),(Qa 18 (.idx 3 (.t 16) (.t 17))),(Qa 19 (.fld 2 (.t 18))),(Qa 20 (.load (.t 19))),(Qa 21 (.len (.t 20))),(Qa 22 (.bin .gtr (.t 21) (.c (.iv 24))))]) (.ite (.t 22) (.seq (.reg [(Qa 2 (.mv (.c .ff)))]) (.ret)) (.skip)))) (.reg [(Qa 13 (.mv (.t 3))),(Qa 14 (.bin .add (.t 13) (.c (.iv 1)))),(Qa 3 (.mv (.t 14)))]))
def e49:EC:=.seq (.reg [(Qa 1 (.box 48 2 (.t 0))),(Qa 2 (.mv (.c .ff)))]) (.seq (.seq (.reg [(Qa 3 (.mv (.c (.iv 0))))]) (.blk 0 (.loop Zi8))) (.seq (.reg [(Qa 23 (.fld 0 (.t 1))),(Qa 24 (.load (.t 23))),(Qa 25 (.len (.t 24))),(Qa 26 (.bin .leq (.t 25) (.c (.iv 24)))),(Qa 27 (.mv (.t 26))),(Qg 28 27 true (.fld 1 (.t 1))),(Qg 29 27 true (.load (.t 28))),(Qg 30 27 true (.len (.t 29))),(Qg 31 27 true (.bin .leq (.t 30) (.c (.iv 40)))),(Qa 32 (.pick (.t 27) (.t 31) (.c .ff))),(Qa 2 (.mv (.t 32)))]) (.ret)))
theorem ok49:FnOK Tryz.prog 49 Tryz.f49 e49 [.t 2] 1 32:=⟨by kernel_rfl,⟨_,rfl,by kernel_rfl⟩,by kernel_rfl,by kernel_rfl⟩
noncomputable def Zj8:Bool→Option Bool
| x11=>
 some x11
noncomputable def Zk8 (x1:Scene):Unit→Option Bool
| ()=>
 ifb (decide ((ln Diner.row x1.Diners)≤24)) (
 Zj8 (decide ((ln Mail.row x1.Mail)≤40))) (
 Zj8 false)
noncomputable def Zl8 (x1:Scene) (x5:Int):Bool→Option (Int ⊕ Bool)
| x6=>
 ifb x6 (
 (at_ x1.Diners x5).bind fun x7=>
 ifb (decide (24<(ln Side.row x7.Sides))) (
 Option.map Sum.inr (some false)) (
 some (.inl (wr (x5+1))))) (
 Option.map Sum.inr ((Zk8 x1) ()))
noncomputable def Zm8 (x1:Scene):Int→Option (Int ⊕ Bool)
| x5=>
 ifb (decide (x5<(ln Diner.row x1.Diners))) (
 (Zl8 x1 x5) (decide (x5<25))) (
 (Zl8 x1 x5) false)
noncomputable def Zn8 (x1:Scene):Option Bool:=
 loop (Zm8 x1) 0
theorem Zo8 (x1:Scene) (r:Bool) (h:Zn8 x1=some r):Zq2 Tryz.prog 49 [.agg (Scene.row x1)] (.bv r):=by
 refine Zu2 ok49 rfl rfl fun w0 H0=>?_
 rw [Zn8] at h
 refine Zl2 10 ?_;dsimp only [e49,Zi8,go_sem];refine ⟨by simp,?_⟩;refine Zi4 (fun (_:Unit)=>(⟨(.any :: .ptr 0 0::an 31 []),[some ⟨48,[.sl 3 (List.map Diner.row x1.Diners),.sl 5 (List.map Mail.row x1.Mail)]⟩],[]⟩:St)) (Zk8 x1) r ?_ fun J1=>?_
 ·rintro ⟨⟩ h;rw [Zk8] at h;(try dsimp only);refine Zl2 7 ?_;dsimp only [e49,Zi8,go_sem];refine ⟨by simp,?_⟩;refine Zi4 (fun (x11:Bool)=>(⟨(.any :: .any :: .bv x11::an 30 []),[],[]⟩:St)) Zj8 r ?_ fun J3=>?_
  ·intro x11 h;rw [Zj8] at h;(try dsimp only);exact Zt4 (res:=fun (r:Bool)=>.bv r) ok49 h
  ·refine Zs4 27 h rfl (fun _ h=>?_) fun _ h=>?_
   ·dsimp only [go_sem];refine Zl2 7 ?_;dsimp only [e49,Zi8,go_sem];refine ⟨by simp,?_⟩;exact Zv4 J3 (s:=decide ((ln Mail.row x1.Mail)≤40)) h
   ·dsimp only [go_sem];refine Zl2 7 ?_;dsimp only [e49,Zi8,go_sem];refine ⟨by simp,?_⟩;exact Zv4 J3 (s:=false) h
 ·refine Zl2 1 ?_;dsimp only [e49,Zi8,go_sem];refine ⟨by simp,?_⟩;refine Zj4 h (fun (x5:Int)=>(⟨(.any :: .ptr 0 0 :: .any :: .iv x5::an 29 []),[some ⟨48,[.sl 3 (List.map Diner.row x1.Diners),.sl 5 (List.map Mail.row x1.Mail)]⟩],[]⟩:St)) (by simp [go_sem]) (by intro x5;first | rfl | simp [go_sem]) ?_;rintro n1 x5 y1 h hin1 hout1;rw [Zm8] at h;(try dsimp only);refine Zl2 9 ?_;dsimp only [e49,Zi8,go_sem];refine ⟨by simp,?_⟩
  refine Zi4 (fun (x6:Bool)=>(⟨(.any :: .ptr 0 0 :: .any :: .iv x5::an 8 (.bv x6::an 20 [])),[some ⟨48,[.sl 3 (List.map Diner.row x1.Diners),.sl 5 (List.map Mail.row x1.Mail)]⟩],[]⟩:St)) (Zl8 x1 x5) y1 ?_ fun J2=>?_
  ·intro x6 h;rw [Zl8] at h;(try dsimp only);refine Zk4 h rfl (fun _ h=>?_) fun _ h=>?_
   ·refine Zl2 8 ?_;dsimp only [e49,Zi8,go_sem];refine ⟨by simp,?_⟩;obtain ⟨x7,ex7,h⟩:=Option.bind_eq_some_iff.1 h;refine Zn4 Diner.row ex7 trivial rfl rfl rfl ?_;refine Zl2 5 ?_;dsimp only [e49,Zi8,go_sem];refine ⟨by simp,?_⟩;refine Zk4 h rfl (fun _ h=>?_) fun _ h=>?_
    ·refine Zl2 4 ?_;dsimp only [e49,Zi8,go_sem];refine ⟨by simp,?_⟩;exact Zt4 (res:=fun (r:Bool)=>.bv r) ok49 (Zh4 h hout1)
    ·refine Zl2 7 ?_;dsimp only [e49,Zi8,go_sem];refine ⟨by simp,?_⟩;exact Zu4 h hin1
   ·refine Zl2 1 ?_;dsimp only [e49,Zi8,go_sem];refine ⟨by simp,?_⟩;exact Zv4 J1 (s:=()) (Zh4 h hout1)
  ·refine Zs4 9 h rfl (fun _ h=>?_) fun _ h=>?_
   ·dsimp only [go_sem];refine Zl2 4 ?_;dsimp only [e49,Zi8,go_sem];refine ⟨by simp,?_⟩;exact Zv4 J2 (s:=decide (x5<25)) h
   ·dsimp only [go_sem];refine Zl2 4 ?_;dsimp only [e49,Zi8,go_sem];refine ⟨by simp,?_⟩;exact Zv4 J2 (s:=false) h
set_option maxRecDepth 100000
set_option maxHeartbeats 4000000
def e41:EC:=.seq (.reg [(Qa 1 (.box 53 2 (.t 0))),(Qa 2 (.alloc 53 [.iv 0,.nl]))]) (.seq (.drw [(Qa 3 (.fld 0 (.t 1))),(Qa 4 (.load (.t 3))),(Qa 5 (.bsl 30 2 0 [.iv 0,.iv 0] [])),(Qa 6 (.fld 1 (.t 1))),(Qa 7 (.load (.t 6))),(Qa 8 (.app 30 2 16 (.t 5) (.t 7))),(Qa 9 (.build [.iv 0,.nl] [(0,1,(.t 4)),(1,1,(.t 8))])),(Qb (.store 2 (.t 2) (.t 9)))] [[],[0],[],[],[3],[2,4],[1,5],[6,5,0,1,2,3,4,5,6]] [[1],[0,6],[5],[4],[3,5],[2,4,6],[1,5,7],[6]]) (.ret))
theorem ok41:FnOK Tryz.prog 41 Tryz.f41 e41 [.c 2 (some 2)] 1 9:=⟨by kernel_rfl,⟨_,rfl,by kernel_rfl⟩,by kernel_rfl,by kernel_rfl⟩
noncomputable def Zp8 (x1:Graph):Option Graph:=
 (Zc4 16 (([]:List Edge)) x1.Edges).bind fun x2=>
 some (Graph.mk x1.N x2)
theorem Zq8 (x1:Graph) (r:Graph) (h:Zp8 x1=some r):Zq2 Tryz.prog 41 [.agg (Graph.row x1)] (.agg (Graph.row r)):=by
 refine Zu2 ok41 rfl rfl fun w0 H0=>?_
 rw [Zp8] at h
 refine Zl2 6 ?_;dsimp only [e41,go_sem];refine ⟨by simp,?_⟩;refine Zh3 (by kernel_rfl) fun all hall hs hnap haf=>?_;dsimp only [go_sem];refine Zf5 hall hs haf hnap 4 4 ?_;dsimp only [go_sem];refine ⟨by simp,?_⟩;refine Zu3 2 rfl ?_;refine Zz3 hall rfl trivial ?_;dsimp only [go_sem];refine Zu3 5 rfl ?_;obtain ⟨x2,ex2,h⟩:=Option.bind_eq_some_iff.1 h;refine Zr4 Edge.row ex2 hall rfl trivial rfl rfl rfl ?_;dsimp only [go_sem];refine Zf5 hall hs haf hnap 1 1 ?_;dsimp only [go_sem];refine ⟨by simp,?_⟩;refine Zu3 7 rfl ?_;refine Zz3 hall rfl trivial ?_
 dsimp only [go_sem];refine Zt3 rfl ?_ _;refine Z83 1 rfl ?_;dsimp only [go_sem];exact Zt4 (res:=fun (r:Graph)=>.agg (Graph.row r)) ok41 h
theorem loop_pp {α τ β:Type} (l:List α) (body:τ→Option (τ ⊕ β)) (st:List α→τ) (R:List α→List α→Option β)
  (hb:∀pre x post,l=pre++x::post→(body (st pre)=some (.inl (st (pre++[x])))∧R pre (x::post)=R (pre++[x]) post)∨∃r,body (st pre)=some (.inr r)∧R pre (x::post)=some r)
  (he:body (st l)=(R l []).map .inr):∀post pre,l=pre++post→loop body (st pre)=R pre post
 | [],pre,h=>by
   have:pre=l:=by simpa using h.symm
   subst this
   rw [Zg4,he]
   cases R pre []<;>rfl
 | x::post,pre,h=>by
   rw [Zg4]
   rcases hb pre x post h with ⟨h1,h2⟩ | ⟨r,h1,h2⟩
   ·rw [h1,h2]
    exact loop_pp l body st R hb he post (pre++[x]) (by simpa using h)
   ·rw [h1,h2]
theorem Zr8 {α τ β:Type} (l:List α) (body:τ→Option (τ ⊕ β)) (st:List α→τ) (R:List α→List α→Option β)
 (hb:∀pre x post,l=pre++x::post→(body (st pre)=some (.inl (st (pre++[x])))∧R pre (x::post)=R (pre++[x]) post)∨∃r,body (st pre)=some (.inr r)∧R pre (x::post)=some r)
 (he:body (st l)=(R l []).map .inr):loop body (st [])=R [] l:=loop_pp l body st R hb he l [] rfl
theorem loop_ppI {α τ β:Type} (l:List α) (body:τ→Option (τ ⊕ β)) (st:List α→τ) (R:List α→List α→Option β) (I:List α→Prop)
  (hb:∀pre x post,l=pre++x::post→I pre→(body (st pre)=some (.inl (st (pre++[x])))∧I (pre++[x])∧R pre (x::post)=R (pre++[x]) post)∨∃r,body (st pre)=some (.inr r)∧R pre (x::post)=some r)
  (he:I l→body (st l)=(R l []).map .inr):∀post pre,l=pre++post→I pre→loop body (st pre)=R pre post
 | [],pre,h,hI=>by
   have:pre=l:=by simpa using h.symm
   subst this
   rw [Zg4,he hI]
   cases R pre []<;>rfl
 | x::post,pre,h,hI=>by
   rw [Zg4]
   rcases hb pre x post h hI with ⟨h1,h3,h2⟩ | ⟨r,h1,h2⟩
   ·rw [h1,h2]
    exact loop_ppI l body st R I hb he post (pre++[x]) (by simpa using h) h3
   ·rw [h1,h2]
theorem Zs8 {α τ β:Type} (l:List α) (body:τ→Option (τ ⊕ β)) (st:List α→τ) (r:β)
  (hb:∀pre x post,l=pre++x::post→body (st pre)=some (.inl (st (pre++[x])))) (he:body (st l)=some (.inr r)):loop body (st [])=some r:=
 Zr8 l body st (fun _ _=>some r) (fun pre x post h=>.inl ⟨hb pre x post h,rfl⟩) he
theorem Zt8 {α:Type} {l pre post:List α} {x:α} (h:l=pre++x::post):l[pre.length]?=some x:=by subst h;simp
theorem Zu8 {α:Type} {l pre post:List α} {x:α} (h:l=pre++x::post):pre.length<l.length:=by subst h;simp
theorem Zv8 {α:Type} {l pre post:List α} {x:α} (h:l=pre++x::post):x∈l:=by subst h;simp
theorem Zw8 {α:Type} {l a b:List α} {x:α} (h:l=a++x::b):at_ l (a.length:Int)=some x:=Zg6 (Zt8 h)
theorem Zx8 {α:Type} (a b:List α) (x y:α):(a++x::b).set ((a.length:Int)).toNat y=a++y::b:=by simp
theorem Zy8 {α:Type} (pre:List α) (x:α):(pre++[x]).length=pre.length+1:=by simp
theorem Zz8 {τ β:Type} (n:Nat) (body:τ→Option (τ ⊕ β)) (st:Nat→τ) (r:β) (hb:∀k,k<n→body (st k)=some (.inl (st (k+1)))) (he:body (st n)=some (.inr r)):loop body (st 0)=some r:=by
 have key:∀m k,m+k=n→loop body (st k)=some r:=by
  intro m
  induction m with
  | zero=>intro k hk;have:k=n:=by omega
          subst this;rw [Zg4,he]
  | succ m ih=>intro k hk;rw [Zg4,hb k (by omega)];exact ih (k+1) (by omega)
 exact key n 0 rfl
theorem loop_natI {τ β:Type} (n:Nat) (body:τ→Option (τ ⊕ β)) (st:Nat→τ) (R:Nat→Option β) (hb:∀k,k<n→(body (st k)=some (.inl (st (k+1)))∧R k=R (k+1))∨∃r,body (st k)=some (.inr r)∧R k=some r) (he:body (st n)=(R n).map .inr):loop body (st 0)=R 0:=by
 have key:∀m k,m+k=n→loop body (st k)=R k:=by
  intro m
  induction m with
  | zero=>
    intro k hk
    have:k=n:=by omega
    subst this
    rw [Zg4,he]
    cases R k<;>rfl
  | succ m ih=>
    intro k hk
    rw [Zg4]
    rcases hb k (by omega) with ⟨h1,h2⟩ | ⟨r,h1,h2⟩
    ·rw [h1,h2];exact ih (k+1) (by omega)
    ·rw [h1,h2]
 exact key n 0 rfl
theorem Z09 {α:Type} (l m:List α) (body:Int→Option (Int ⊕ Bool)) (eqv:α→α→Bool) (hlm:l.length=m.length) (hl:l.length≤4000000000000000000)
  (hb:∀(k:Nat) x y,l[k]?=some x→m[k]?=some y→body k=some (if eqv x y then .inl ((k+1:Nat):Int) else .inr false)) (he:body l.length=some (.inr true)):loop body 0=some ((l.zip m).all fun p=>eqv p.1 p.2):=by
 rw [Zr6 (l.zip m) body (fun p=>!eqv p.1 p.2) false true (by simp;omega) (fun k x hx=>by
  obtain ⟨x1,x2⟩:=x
  rw [List.getElem?_zip_eq_some] at hx
  rw [hb k x1 x2 hx.1 hx.2]
  cases eqv x1 x2<;>rfl) (by rw [show (l.zip m).length=l.length by simp [hlm]];exact he)]
 have:∀(q:List (α×α)),(if q.any (fun p=>!eqv p.1 p.2) then some false else some true)=some (q.all fun p=>eqv p.1 p.2):=by
  intro q
  induction q with
  | nil=>rfl
  | cons p q ih=>
    rw [List.any_cons,List.all_cons]
    cases h:eqv p.1 p.2 with
    | true=>exact ih
    | false=>rfl
 have h2:=this (l.zip m)
 rw [←h2]
 cases (l.zip m).any (fun p=>!eqv p.1 p.2)<;>rfl
theorem Z19 {α:Type} [DecidableEq α]:∀(l m:List α),l.length=m.length→(l.zip m).all (fun p=>decide (p.1=p.2))=decide (l=m)
 | [],[],_=>rfl
 | [],_::_,h=>by simp at h
 | _::_,[],h=>by simp at h
 | x::l,y::m,h=>by
   have ih:=Z19 l m (by simpa using h)
   simp only [List.zip_cons_cons,List.all_cons,ih]
   by_cases h1:x=y<;>simp [h1]
theorem Z29 {α:Type} [DecidableEq α] {l m:List α} (h:l.length≠m.length):decide (l=m)=false:=decide_eq_false (by rintro rfl;exact h rfl)
theorem Side_eqB (x y:Side):(decide (x.Peer=y.Peer)&&(decide (x.Epoch=y.Epoch)&&(decide (x.State=y.State)&&((x.Fork==y.Fork)&&((x.Dirty==y.Dirty)&&((x.Token==y.Token)&&((x.Bottle==y.Bottle)&&((x.Ask==y.Ask)&&true))))))))=decide (x=y):=by
 rw [Bool.eq_iff_iff];cases x;cases y;simp [Side.mk.injEq]
theorem Mail_eqB (x y:Mail):(decide (x.From=y.From)&&(decide (x.To=y.To)&&(decide (x.Msg.Kind=y.Msg.Kind)&&(decide (x.Msg.Epoch=y.Msg.Epoch)&&(decide (x.Msg.Num=y.Msg.Num)&&true)))))=decide (x=y):=by
 rw [Bool.eq_iff_iff]
 obtain ⟨x1,x2,x3,x4,x5⟩:=x
 obtain ⟨y1,y2,y3,y4,y5⟩:=y
 simp [Mail.mk.injEq,Msg.mk.injEq]
theorem Edge_eqB (x y:Edge):(decide (x.A=y.A)&&(decide (x.B=y.B)&&true))=decide (x=y):=by
 rw [Bool.eq_iff_iff];cases x;cases y;simp [Edge.mk.injEq]
theorem Arc_eqB (x y:Arc):(decide (x.From=y.From)&&(decide (x.To=y.To)&&true))=decide (x=y):=by
 rw [Bool.eq_iff_iff];cases x;cases y;simp [Arc.mk.injEq]
theorem Z39 {α β:Type} (f:α→List AV) (g:β→List AV) (l:List α) (m:List β):decide (ln f l=ln g m)=decide (l.length=m.length):=by
 rw [Z25,Z25,decide_eq_decide];omega
theorem s_EqualSide (l m:List Side) (hl:l.length≤1000000):Z46 l m=some (decide (l=m)):=by
 simp only [Z46,Z39]
 by_cases h:l.length=m.length
 ·simp only [h,decide_true,Bool.not_true,Zd6]
  rw [Z09 l m _ (fun x y=>decide (x=y)) h (by omega) (fun k x y hx hy=>by
   simp only [Z36,Zi6 hx,Zc6,Zg6 hx,Zg6 hy,Option.bind_some,Side_eqB,Zl6 hx (show l.length≤4000000000000000000 by omega),Ze6]
   cases decide (x=y)<;>rfl) (by simp only [Z36,Zj6,Zd6,Z26,Option.map_some]),Z19 l m h]
 ·simp [h,Z29 h]
theorem Z49 (a b:Diner) (hl:a.Sides.length≤1000000):Za6 a b=some (decide (a=b)):=by
 obtain ⟨a1,a2,l⟩:=a
 obtain ⟨b1,b2,m⟩:=b
 dsimp only at hl
 simp only [Za6,Z96,Z39,Diner.mk.injEq]
 by_cases h1:a1=b1
 ·by_cases h2:a2=b2
  ·by_cases h:l.length=m.length
   ·simp only [h1,h2,h,decide_true,Bool.not_true,Zd6,true_and]
    rw [Z09 l m _ (fun x y=>decide (x=y)) h (by omega) (fun k x y hx hy=>by
     simp only [Z86,Zi6 hx,Zc6,Zg6 hx,Zg6 hy,Option.bind_some,Side_eqB,Zl6 hx (show l.length≤4000000000000000000 by omega),Ze6,Option.map_some]
     cases decide (x=y)<;>rfl) (by simp only [Z86,Zj6,Zd6,Z76,Option.map_some]),Z19 l m h]
   ·have:=Z29 h
    simp [h1,h2,h];rintro rfl;exact h rfl
  ·simp [h1,h2]
 ·simp [h1]
def fewD (l:List Diner):Prop:=l.length≤5000∧∀d∈l,d.Sides.length≤5000
theorem s_r12Same (l m:List Diner) (hl:fewD l):Z78 l m=some (decide (l=m)):=by
 simp only [Z78,Z39]
 by_cases h:l.length=m.length
 ·simp only [h,decide_true,Bool.not_true,Zd6]
  rw [Z09 l m _ (fun x y=>decide (x=y)) h (by have:=hl.1;omega) (fun k x y hx hy=>by
   simp only [Z68,Zi6 hx,Zc6,Zg6 hx,Zg6 hy,Option.bind_some,Z49 x y (by have:=hl.2 x (List.mem_iff_getElem?.2 ⟨k,hx⟩);omega),Zl6 hx (show l.length≤4000000000000000000 by have:=hl.1;omega),Ze6,Option.map_some]
   cases decide (x=y)<;>rfl) (by simp only [Z68,Zj6,Zd6,Z58,Option.map_some]),Z19 l m h]
 ·simp [h,Z29 h]
def side0:Side:=⟨0,0,0,false,false,false,false,false⟩
def Z59 (d:Diner) (p:Int):Option Side:=d.Sides.find? fun x=>decide (x.Peer=p)
def sideP (o:Option Side):Side×Bool:=match o with | some x=>(x,true) | none=>(side0,false)
theorem Z69 {α:Type} (q:α→Bool):∀l:List α,match l.findIdx? q with
  | some i=>∃x,l[i]?=some x∧l.find? q=some x
  | none=>l.find? q=none
 | []=>rfl
 | x::l=>by
   have ih:=Z69 q l
   rw [List.findIdx?_cons,List.find?_cons]
   cases h:q x with
   | true=>exact ⟨x,rfl,by simp⟩
   | false=>
     simp only [Bool.false_eq_true,if_false]
     cases hf:l.findIdx? q with
     | none=>rw [hf] at ih;simpa using ih
     | some i=>rw [hf] at ih;obtain ⟨y,h1,h2⟩:=ih;exact ⟨y,by simpa using h1,by simpa using h2⟩
theorem s_Side (d:Diner) (p:Int) (hl:d.Sides.length≤1000000):Zb8 d p=some (sideP (Z59 d p)):=by
 simp only [Zb8]
 rw [Zx7 d.Sides (fun z=>Z98 z p) (fun x=>decide (x.Peer=p)) (by omega) (fun x _=>rfl),Option.bind_some,plc_neg]
 have:=Z69 (fun x:Side=>decide (x.Peer=p)) d.Sides
 unfold Z59
 cases h:d.Sides.findIdx? (fun x=>decide (x.Peer=p)) with
 | none=>rw [h] at this;simp only at this;rw [this];rfl
 | some i=>
   rw [h] at this
   obtain ⟨x,h1,h2⟩:=this
   rw [h2]
   simp only [Option.isNone_some,Zd6,plc,Zg6 h1,Option.bind_some,sideP]
theorem s_r12Side (d:Diner) (p:Int) (hl:d.Sides.length≤1000000):Zg8 d p=some (sideP (Z59 d p)):=by
 unfold Zg8
 have:=loop_forL d.Sides (Zf8 d p) (fun k (_:Unit)=>k) (fun x _=>if decide (x.Peer=p) then some (.inr (x,true)) else some (.inl ())) (fun _=>some (side0,false)) (by omega) (fun k x s hx=>by
  simp only [Zf8,Zi6 hx,Zc6,Zg6 hx,Option.bind_some,Zl6 hx (show d.Sides.length≤4000000000000000000 by omega),Option.map_some]
  cases decide (x.Peer=p)<;>rfl) (fun _=>by simp only [Zf8,Zj6,Zd6,Ze8,Option.map_some];rfl) ()
 rw [this,forL_find (fun x=>if decide (x.Peer=p) then some (.inr (x,true)) else some (.inl ())) (fun x=>decide (x.Peer=p)) (fun x=>(x,true)) (some (side0,false)) d.Sides (fun x _=>rfl)]
 unfold Z59
 cases d.Sides.find? (fun x=>decide (x.Peer=p))<;>rfl
def fewB (s:Scene):Bool:=decide (s.Diners.length≤24)&&(decide (s.Mail.length≤40)&&s.Diners.all fun d=>decide (d.Sides.length≤24))
theorem s_Few (s:Scene):Zn8 s=some (fewB s):=by
 unfold Zn8
 by_cases h24:s.Diners.length≤24
 ·rw [Zr6 s.Diners (Zm8 s) (fun d=>!decide (d.Sides.length≤24)) false (decide (s.Mail.length≤40)) (by omega) (fun k x hx=>by
   have hk:=(List.getElem?_eq_some_iff.1 hx).1
   have h25:decide ((k:Int)<25)=true:=decide_eq_true (by omega)
   have e:decide (24<ln Side.row x.Sides)=!decide (x.Sides.length≤24):=by
    rw [Z25,←decide_not,decide_eq_decide];omega
   simp only [Zm8,Zi6 hx,Zc6,Zl8,h25,Zg6 hx,Option.bind_some,e,Zl6 hx (show s.Diners.length≤4000000000000000000 by omega),Option.map_some]
   cases decide (x.Sides.length≤24)<;>rfl) (by
   have e1:decide (ln Diner.row s.Diners≤24)=true:=by rw [Z25];exact decide_eq_true (by omega)
   have e2:decide (ln Mail.row s.Mail≤40)=decide (s.Mail.length≤40):=by rw [Z25,decide_eq_decide];omega
   simp only [Zm8,Zj6,Zd6,Zl8,Zk8,Zj8,e1,e2,Zc6,Option.map_some])]
  unfold fewB
  have:s.Diners.any (fun d=>!decide (d.Sides.length≤24))=!s.Diners.all (fun d=>decide (d.Sides.length≤24)):=Z38 _ _ _ fun _=>rfl
  rw [this]
  cases s.Diners.all (fun d=>decide (d.Sides.length≤24))<;>simp [h24]
 ·
  have hf:fewB s=false:=by simp [fewB,h24]
  rw [hf]
  have key:∀m k:Nat,m+k=25→loop (Zm8 s) (k:Int)=some false:=by
   intro m
   induction m with
   | zero=>
     intro k hk
     have:k=25:=by omega
     subst this
     rw [Zg4]
     have e1:decide (ln Diner.row s.Diners≤24)=false:=by rw [Z25];exact decide_eq_false (by omega)
     simp only [Zm8,Zl8,Zk8,Zj8,e1,Zd6,Option.map_some]
     cases decide (((25:Nat):Int)<ln Diner.row s.Diners)<;>rfl
   | succ m ih=>
     intro k hk
     have hx:s.Diners[k]?=some s.Diners[k]:=List.getElem?_eq_getElem (by omega)
     have h25:decide ((k:Int)<25)=true:=decide_eq_true (by omega)
     rw [Zg4]
     simp only [Zm8,Zi6 hx,Zc6,Zl8,h25,Zg6 hx,Option.bind_some,Zk6 (show k≤4000000000000000000 by omega),Option.map_some]
     cases decide (24<ln Side.row s.Diners[k].Sides) with
     | true=>rfl
     | false=>exact ih (k+1) (by omega)
  exact key 25 0 rfl
theorem fewB_iff {s:Scene} (h:fewB s=true):s.Diners.length≤24∧s.Mail.length≤40∧∀d∈s.Diners,d.Sides.length≤24:=by
 simp only [fewB,Bool.and_eq_true,decide_eq_true_eq,List.all_eq_true] at h
 exact h
theorem fewB_D {s:Scene} (h:fewB s=true):fewD s.Diners:=by
 obtain ⟨h1,_,h3⟩:=fewB_iff h
 exact ⟨by omega,fun d hd=>by have:=h3 d hd;omega⟩
theorem s_Own03 (g:Graph) (hl:g.Edges.length≤1000000):Zp8 g=some g:=by
 simp only [Zp8]
 rw [Zh6 _ _ (by omega) (by simp;omega)]
 rfl
set_option maxRecDepth 100000
set_option maxHeartbeats 4000000
def Z79:EC:=.seq (.reg [(Qa 34 (.bin .lss (.t 33) (.t 32)))]) (.seq (.ite (.t 34) (.skip) (.exit 2)) (.seq (.blk 3 (.seq (.reg [(Qa 35 (.mv (.t 33))),(Qa 36 (.idx 8 (.t 31) (.t 33))),(Qa 37 (.loadA 8 (.t 36))),(Qa 8 (.alloc 66 [.iv 0,.iv 0,.iv 0,.ff,.ff,.ff,.ff,.ff])),(Qa 7 (.mv (.t 35))),(Qb (.store 8 (.t 8) (.t 37)))]) (.seq (.seq (.drw [(Qa 38 (.fld 0 (.t 8))),(Qa 39 (.load (.t 38))),(Qa 40 (.bin .lss (.t 39) (.c (.iv 0)))),(Qa 41 (.mv (.t 40))),(Qg 42 41 false (.fld 0 (.t 8))),(Qg 43 41 false (.load (.t 42))),(Qg 44 41 false (.mv (.t 0))),(Qg 45 41 false (.len (.t 44))),(Qg 46 41 false (.bin .geq (.t 43) (.t 45))),(Qa 47 (.pick (.t 41) (.c .tt) (.t 46))),(Qa 48 (.mv (.t 47))),(Qg 49 48 false (.fld 0 (.t 8))),(Qg 50 48 false (.load (.t 49))),(Qg 51 48 false (.mv (.t 5))),(Qg 52 48 false (.bin .eql (.t 50) (.t 51))),(Qa 53 (.pick (.t 48) (.c .tt) (.t 52))),(Qa 54 (.mv (.t 53))),(Qg 55 54 false (.mv (.t 7))),(Qg 56 54 false (.bin .gtr (.t 55) (.c (.iv 0)))),(Qg 57 54 false (.mv (.t 56))),(Qg 58 57 true (.fld 2 (.t 6))),(Qg 59 57 true (.load (.t 58))),(Qg 60 57 true (.mv (.t 7))),(Qg 61 57 true (.bin .sub (.t 60) (.c (.iv 1)))),(Qg 62 57 true (.idx 8 (.t 59) (.t 61))),(Qg 63 57 true (.fld 0 (.t 62))),(Qg 64 57 true (.load (.t 63))),(Qg 65 57 true (.fld 0 (.t 8))),(Qg 66 57 true (.load (.t 65))),(Qg 67 57 true (.bin .geq (.t 64) (.t 66))),(Qg 68 54 false (.pick (.t 57) (.t 67) (.c .ff))),(Qa 69 (.pick (.t 54) (.c .tt) (.t 68)))] [[],[0],[1],[2],[3],[4,3],[3],[6,3],[5,7,3],[3,8],[9,3],[10],[11,10],[10],[12,13,10],[10,14],[15,10],[16],[17,16],[18,16,16],[19],[20,19],[19],[22,19],[21,23,19],[24,19],[25,19],[19],[27,19],[26,28,19],[19,29,16],[16,30]] [[1],[0,2],[1,3],[2,4,5,6,7,8,9],[3,5],[3,4,8],[3,7],[3,6,8],[3,5,7,9],[3,8,10],[9,11,12,13,14,15],[10,12],[10,11,14],[10,14],[10,12,13,15],[10,14,16],[15,17,18,19,30,31],[16,18],[16,17,19],[16,18,20,21,22,23,24,25,26,27,28,29,30],[19,21],[19,20,24],[19,23],[19,22,24],[19,21,23,25],[19,24,26],[19,25,29],[19,28],[19,27,29],[19,26,28,30],[16,19,29,31],[16,30]]) (.ite (.t 69) (.seq (.reg [(Qa 70 (.build [.iv 0,.nl] [])),(Qb (.store 2 (.t 2) (.t 70))),(Qa 3 (.mv (.c .ff)))]) (.ret)) (.skip))) (.seq (.seq (.reg [(Qa 72 (.mv (.t 0))),(Qa 73 (.fld 0 (.t 8))),(Qa 74 (.load (.t 73))),(Qa 75 (.idx 3 (.t 72) (.t 74))),(Qa 76 (.loadA 3 (.t 75))),(Qa 77 (.mv (.t 5))),(Qa 78 (.call 65 [(.t 76),(.t 77)])),(Qa 71 (.mv (.t 78))),(Qa 79 (.ext (.t 71) 0)),(Qa 80 (.ext (.t 71) 1)),(Qa 9 (.alloc 66 [.iv 0,.iv 0,.iv 0,.ff,.ff,.ff,.ff,.ff])),(Qb (.store 8 (.t 9) (.t 79))),(Qa 10 (.mv (.t 80)))]) (.seq (.reg [(Qa 81 (.mv (.t 10))),(Qa 82 (.not (.t 81)))]) (.ite (.t 82) (.seq (.reg [(Qa 83 (.build [.iv 0,.nl] [])),(Qb (.store 2 (.t 2) (.t 83))),(Qa 3 (.mv (.c .ff)))]) (.ret)) (.skip)))) (.seq (.reg [(Qa 84 (.mv (.t 5))),(Qa 85 (.fld 0 (.t 8))),(Qa 86 (.load (.t 85))),(Qa 87 (.bin .lss (.t 84) (.t 86)))]) (.ite (.t 87) (.reg [(Qa 88 (.fld 1 (.t 4))),(Qa 89 (.load (.t 88))),(Qa 90 (.mv (.t 5))),(Qa 91 (.fld 0 (.t 8))),(Qa 92 (.load (.t 91))),(Qa 93 (.build [.iv 0,.iv 0] [(0,1,(.t 90)),(1,1,(.t 92))])),(Qa 94 (.bsl 30 2 1 [.iv 0,.iv 0] [(0,(.t 93))])),(Qa 95 (.app 30 2 16 (.t 89) (.t 94))),(Qa 96 (.fld 1 (.t 4))),(Qb (.store 1 (.t 96) (.t 95)))]) (.skip))))))) (.reg [(Qa 97 (.bin .add (.t 33) (.c (.iv 1)))),(Qa 33 (.mv (.t 97)))])))
def Z89:EC:=.seq (.reg [(Qa 21 (.bin .lss (.t 20) (.t 19)))]) (.seq (.ite (.t 21) (.skip) (.exit 0)) (.seq (.blk 1 (.seq (.reg [(Qa 22 (.mv (.t 20))),(Qa 23 (.idx 3 (.t 18) (.t 20))),(Qa 24 (.loadA 3 (.t 23))),(Qa 6 (.alloc 61 [.iv 0,.iv 0,.nl])),(Qa 5 (.mv (.t 22))),(Qb (.store 3 (.t 6) (.t 24)))]) (.seq (.seq (.reg [(Qa 25 (.fld 0 (.t 6))),(Qa 26 (.load (.t 25))),(Qa 27 (.mv (.t 5))),(Qa 28 (.bin .neq (.t 26) (.t 27)))]) (.ite (.t 28) (.seq (.reg [(Qa 29 (.build [.iv 0,.nl] [])),(Qb (.store 2 (.t 2) (.t 29))),(Qa 3 (.mv (.c .ff)))]) (.ret)) (.skip))) (.seq (.reg [(Qa 30 (.fld 2 (.t 6))),(Qa 31 (.load (.t 30))),(Qa 32 (.len (.t 31))),(Qa 33 (.mv (.c (.iv 0))))]) (.blk 2 (.loop Z79)))))) (.reg [(Qa 98 (.bin .add (.t 20) (.c (.iv 1)))),(Qa 20 (.mv (.t 98)))])))
def Z99:EC:=.seq (.reg [(Qa 2 (.alloc 53 [.iv 0,.nl])),(Qa 3 (.mv (.c .ff)))]) (.seq (.seq (.reg [(Qa 11 (.mv (.t 0))),(Qa 12 (.len (.t 11))),(Qa 13 (.bin .gtr (.t 12) (.c (.iv 64))))]) (.ite (.t 13) (.seq (.reg [(Qa 14 (.build [.iv 0,.nl] [])),(Qb (.store 2 (.t 2) (.t 14))),(Qa 3 (.mv (.c .ff)))]) (.ret)) (.skip))) (.seq (.reg [(Qa 15 (.mv (.t 0))),(Qa 16 (.len (.t 15))),(Qa 17 (.build [.iv 0,.nl] [(0,1,(.t 16))])),(Qa 4 (.alloc 53 [.iv 0,.nl])),(Qb (.store 2 (.t 4) (.t 17)))]) (.seq (.seq (.reg [(Qa 18 (.mv (.t 0))),(Qa 19 (.len (.t 18))),(Qa 20 (.mv (.c (.iv 0))))]) (.blk 0 (.loop Z89))) (.seq (.seq (.reg [(Qa 99 (.loadA 2 (.t 4))),(Qa 100 (.call 144 [(.t 99)])),(Qa 101 (.bin .neq (.t 100) (.c (.iv 0))))]) (.ite (.t 101) (.seq (.reg [(Qa 102 (.build [.iv 0,.nl] [])),(Qb (.store 2 (.t 2) (.t 102))),(Qa 3 (.mv (.c .ff)))]) (.ret)) (.skip))) (.seq (.reg [(Qa 103 (.loadA 2 (.t 4))),(Qb (.store 2 (.t 2) (.t 103))),(Qa 3 (.mv (.c .tt)))]) (.ret))))))
theorem ok106:FnOK Tryz.prog 106 Tryz.f106 Z99 [.c 2 (some 2),.t 3] 1 103:=⟨by kernel_rfl,⟨_,rfl,by kernel_rfl⟩,by kernel_rfl,by kernel_rfl⟩
noncomputable def Za9 (x1:(List Diner)):(List Edge)→Option (Graph×Bool)
| x78=>
 (Zm7 ((Graph.mk (ln Diner.row x1) x78))).bind fun x79=>
 ifb (!decide (x79=0)) (
 some ((Graph.mk 0 (([]:(List Edge)))),false)) (
 some ((Graph.mk (ln Diner.row x1) x78),true))
noncomputable def Zb9 (x35:Int):(List Edge)→Option ((Int×(List Edge)) ⊕ (Graph×Bool))
| x69=>
 some (.inl (wr (x35+1),x69))
noncomputable def Zc9 (x47:Int):(List Edge)→Option ((Int×(List Edge)) ⊕ ((Int×(List Edge)) ⊕ (Graph×Bool)))
| x55=>
 some (.inl (wr (x47+1),x55))
noncomputable def Zd9 (x1:(List Diner)) (x35:Int) (x47:Int) (x48:(List Edge)) (x49:Side):Bool→Option ((Int×(List Edge)) ⊕ ((Int×(List Edge)) ⊕ (Graph×Bool)))
| x51=>
 ifb x51 (
 Option.map Sum.inr (Option.map Sum.inr (some ((Graph.mk 0 (([]:(List Edge)))),false)))) (
 (at_ x1 x49.Peer).bind fun x52=>
 (Zb8 x52 x35).bind fun x53=>
 ifb (!x53.2) (
 Option.map Sum.inr (Option.map Sum.inr (some ((Graph.mk 0 (([]:(List Edge)))),false)))) (
 ifb (decide (x35<x49.Peer)) (
 (Zc4 16 x48 ([(Edge.mk x35 x49.Peer)])).bind fun x54=>
 (Zc9 x47) x54) (
 (Zc9 x47) x48)))
noncomputable def Ze9 (x1:(List Diner)) (x35:Int) (x37:Diner):(Int×(List Edge))→Option ((Int×(List Edge)) ⊕ ((Int×(List Edge)) ⊕ (Graph×Bool)))
| (x47,x48)=>
 ifb (decide (x47<(ln Side.row x37.Sides))) (
 (at_ x37.Sides x47).bind fun x49=>
 ifb (decide (x49.Peer<0)) (
 (Zd9 x1 x35 x47 x48 x49) true) (
 ifb (decide ((ln Diner.row x1)≤x49.Peer)) (
 (Zd9 x1 x35 x47 x48 x49) true) (
 ifb (decide (x49.Peer=x35)) (
 (Zd9 x1 x35 x47 x48 x49) true) (
 ifb (decide (0<x47)) (
 (at_ x37.Sides (wr (x47-1))).bind fun x50=>
 (Zd9 x1 x35 x47 x48 x49) (decide (x49.Peer≤x50.Peer))) (
 (Zd9 x1 x35 x47 x48 x49) false))))) (
 Option.map Sum.inr ((Zb9 x35) x48))
noncomputable def Zf9 (x1:(List Diner)):(Int×(List Edge))→Option ((Int×(List Edge)) ⊕ (Graph×Bool))
| (x35,x36)=>
 ifb (decide (x35<(ln Diner.row x1))) (
 (at_ x1 x35).bind fun x37=>
 ifb (!decide (x37.ID=x35)) (
 Option.map Sum.inr (some ((Graph.mk 0 (([]:(List Edge)))),false))) (
 loop (Ze9 x1 x35 x37) (0,x36))) (
 Option.map Sum.inr ((Za9 x1) x36))
noncomputable def Zg9 (x1:(List Diner)):Option (Graph×Bool):=
 ifb (decide (64<(ln Diner.row x1))) (
 some ((Graph.mk 0 (([]:(List Edge)))),false)) (
 loop (Zf9 x1) (0,([]:List Edge)))
theorem k_place_Graph (x1:(List Diner)) (r:(Graph×Bool)) (h:Zg9 x1=some r):Zq2 Tryz.prog 106 [.sl 3 (List.map Diner.row x1)] (.tup [.agg (Graph.row r.1),.bv r.2]):=by
 refine Zu2 ok106 rfl rfl fun w0 H0=>?_
 rw [Zg9] at h
 refine Zl2 12 ?_;dsimp only [Z99,Z89,Z79,go_sem];refine ⟨by simp,?_⟩;refine Zk4 h rfl (fun _ h=>?_) fun _ h=>?_
 ·refine Zl2 6 ?_;dsimp only [Z99,Z89,Z79,go_sem];refine ⟨by simp,?_⟩;exact Zt4 (res:=fun (r:(Graph×Bool))=>.tup [.agg (Graph.row r.1),.bv r.2]) ok106 h
 ·refine Zl2 16 ?_;dsimp only [Z99,Z89,Z79,go_sem];refine ⟨by simp,?_⟩;refine Zi4 (fun (x78:(List Edge))=>(⟨(.any :: .any :: .ptr 0 0 :: .any :: .ptr 1 0::an 99 []),[some ⟨53,[.iv 0,.nl]⟩,some ⟨53,[.iv (ln Diner.row x1),.osl 0]⟩],[some ⟨30,2,List.map Edge.row x78⟩]⟩:St)) (Za9 x1) r ?_ fun J1=>?_
  ·intro x78 h;rw [Za9] at h;(try dsimp only);refine Zl2 4 ?_;dsimp only [Z99,Z89,Z79,go_sem];refine ⟨by simp,?_⟩;obtain ⟨x79,ex79,h⟩:=Option.bind_eq_some_iff.1 h;refine Zy4 trivial ((Zw4.refl _).slice 0 rfl) (Zn7 ((Graph.mk (ln Diner.row x1) x78)) _ ex79) (h:=?_);refine Zl2 2 ?_;dsimp only [Z99,Z89,Z79,go_sem];refine ⟨by simp,?_⟩;refine Zk4 h rfl (fun _ h=>?_) fun _ h=>?_
   ·refine Zl2 6 ?_;dsimp only [Z99,Z89,Z79,go_sem];refine ⟨by simp,?_⟩;exact Zt4 (res:=fun (r:(Graph×Bool))=>.tup [.agg (Graph.row r.1),.bv r.2]) ok106 h
   ·refine Zl2 7 ?_;dsimp only [Z99,Z89,Z79,go_sem];refine ⟨by simp,?_⟩;refine Z83 0 rfl ?_;dsimp only [go_sem];exact Zt4 (res:=fun (r:(Graph×Bool))=>.tup [.agg (Graph.row r.1),.bv r.2]) ok106 h
  ·refine Zl2 1 ?_;dsimp only [Z99,Z89,Z79,go_sem];refine ⟨by simp,?_⟩;refine Z64 1 1 30 2 rfl rfl rfl ?_;dsimp only [go_sem];refine Zj4 h (fun ((x35,x36):(Int×(List Edge)))=>(⟨(.sl 3 (List.map Diner.row x1) :: .any :: .ptr 0 0 :: .any :: .ptr 1 0::an 13 (.sl 3 (List.map Diner.row x1) :: .iv (ln Diner.row x1) :: .iv x35::an 83 [])),[some ⟨53,[.iv 0,.nl]⟩,some ⟨53,[.iv (ln Diner.row x1),.osl 0]⟩],[some ⟨30,2,List.map Edge.row x36⟩]⟩:St)) (by simp [go_sem]) (by rintro ⟨x35,x36⟩;first | rfl | simp [go_sem]) ?_;rintro n1 ⟨x35,x36⟩ y1 h hin1 hout1
   rw [Zf9] at h;(try dsimp only);refine Zl2 5 ?_;dsimp only [Z99,Z89,Z79,go_sem];refine ⟨by simp,?_⟩;refine Zk4 h rfl (fun _ h=>?_) fun _ h=>?_
   ·refine Zl2 6 ?_;dsimp only [Z99,Z89,Z79,go_sem];refine ⟨by simp,?_⟩;obtain ⟨x37,ex37,h⟩:=Option.bind_eq_some_iff.1 h;refine Zn4 Diner.row ex37 trivial rfl rfl rfl ?_;refine Zl2 13 ?_;dsimp only [Z99,Z89,Z79,go_sem];refine ⟨by simp,?_⟩;refine Zk4 h rfl (fun _ h=>?_) fun _ h=>?_
    ·refine Zl2 6 ?_;dsimp only [Z99,Z89,Z79,go_sem];refine ⟨by simp,?_⟩;exact Zt4 (res:=fun (r:(Graph×Bool))=>.tup [.agg (Graph.row r.1),.bv r.2]) ok106 (Zh4 h hout1)
    ·refine Zl2 8 ?_;dsimp only [Z99,Z89,Z79,go_sem];refine ⟨by simp,?_⟩;refine Zi4 (fun (x69:(List Edge))=>(⟨(.sl 3 (List.map Diner.row x1) :: .any :: .ptr 0 0 :: .any :: .ptr 1 0::an 13 (.sl 3 (List.map Diner.row x1) :: .iv (ln Diner.row x1) :: .iv x35::an 83 [])),[some ⟨53,[.iv 0,.nl]⟩,some ⟨53,[.iv (ln Diner.row x1),.osl 0]⟩],[some ⟨30,2,List.map Edge.row x69⟩]⟩:St)) (Zb9 x35) y1 ?_ fun J2=>?_
     ·intro x69 h;rw [Zb9] at h;(try dsimp only);refine Zl2 5 ?_;dsimp only [Z99,Z89,Z79,go_sem];refine ⟨by simp,?_⟩;exact Zu4 h hin1
     ·refine Zl2 1 ?_;dsimp only [Z99,Z89,Z79,go_sem];refine ⟨by simp,?_⟩
      refine Zj4 h (fun ((x47,x48):(Int×(List Edge)))=>(⟨(.sl 3 (List.map Diner.row x1) :: .any :: .ptr 0 0 :: .any :: .ptr 1 0 :: .iv x35 :: .ptr 2 0::an 11 (.sl 3 (List.map Diner.row x1) :: .iv (ln Diner.row x1) :: .iv x35::an 10 (.sl 8 (List.map Side.row x37.Sides) :: .iv (ln Side.row x37.Sides) :: .iv x47::an 70 []))),[some ⟨53,[.iv 0,.nl]⟩,some ⟨53,[.iv (ln Diner.row x1),.osl 0]⟩,some ⟨61,[.iv x37.ID,.iv x37.Phase,.sl 8 (List.map Side.row x37.Sides)]⟩],[some ⟨30,2,List.map Edge.row x48⟩]⟩:St)) (by simp [go_sem]) (by rintro ⟨x47,x48⟩;first | rfl | simp [go_sem]) ?_
      rintro n2 ⟨x47,x48⟩ y2 h hin2 hout2;rw [Ze9] at h;(try dsimp only);refine Zl2 5 ?_;dsimp only [Z99,Z89,Z79,go_sem];refine ⟨by simp,?_⟩;refine Zk4 h rfl (fun _ h=>?_) fun _ h=>?_
      ·refine Zl2 6 ?_;dsimp only [Z99,Z89,Z79,go_sem];refine ⟨by simp,?_⟩;obtain ⟨x49,ex49,h⟩:=Option.bind_eq_some_iff.1 h;refine Zn4 Side.row ex49 trivial rfl rfl rfl ?_;refine Zl2 7 ?_;dsimp only [Z99,Z89,Z79,go_sem];refine ⟨by simp,?_⟩
       refine Zi4 (fun (x51:Bool)=>(⟨(.sl 3 (List.map Diner.row x1) :: .any :: .ptr 0 0 :: .any :: .ptr 1 0 :: .iv x35 :: .ptr 2 0 :: .any :: .ptr 3 0::an 9 (.sl 3 (List.map Diner.row x1) :: .iv (ln Diner.row x1) :: .iv x35::an 10 (.sl 8 (List.map Side.row x37.Sides) :: .iv (ln Side.row x37.Sides) :: .iv x47::an 35 (.bv x51::an 34 [])))),[some ⟨53,[.iv 0,.nl]⟩,some ⟨53,[.iv (ln Diner.row x1),.osl 0]⟩,some ⟨61,[.iv x37.ID,.iv x37.Phase,.sl 8 (List.map Side.row x37.Sides)]⟩,some ⟨66,[.iv x49.Peer,.iv x49.Epoch,.iv x49.State,.bv x49.Fork,.bv x49.Dirty,.bv x49.Token,.bv x49.Bottle,.bv x49.Ask]⟩],[some ⟨30,2,List.map Edge.row x48⟩]⟩:St)) (Zd9 x1 x35 x47 x48 x49) y2 ?_ fun J3=>?_
       ·intro x51 h;rw [Zd9] at h;(try dsimp only);refine Zk4 h rfl (fun _ h=>?_) fun _ h=>?_
        ·refine Zl2 6 ?_;dsimp only [Z99,Z89,Z79,go_sem];refine ⟨by simp,?_⟩;exact Zt4 (res:=fun (r:(Graph×Bool))=>.tup [.agg (Graph.row r.1),.bv r.2]) ok106 (Zh4 (Zh4 h hout2) hout1)
        ·refine Zl2 7 ?_;dsimp only [Z99,Z89,Z79,go_sem];refine ⟨by simp,?_⟩;obtain ⟨x52,ex52,h⟩:=Option.bind_eq_some_iff.1 h;refine Zn4 Diner.row ex52 trivial rfl rfl rfl ?_;refine Zl2 2 ?_;dsimp only [Z99,Z89,Z79,go_sem];refine ⟨by simp,?_⟩;obtain ⟨x53,ex53,h⟩:=Option.bind_eq_some_iff.1 h;refine Zz2 trivial (Zc8 x52 x35 _ ex53) (h:=?_);refine Zl2 12 ?_;dsimp only [Z99,Z89,Z79,go_sem];refine ⟨by simp,?_⟩;refine Zk4 h rfl (fun _ h=>?_) fun _ h=>?_
         ·refine Zl2 6 ?_;dsimp only [Z99,Z89,Z79,go_sem];refine ⟨by simp,?_⟩;exact Zt4 (res:=fun (r:(Graph×Bool))=>.tup [.agg (Graph.row r.1),.bv r.2]) ok106 (Zh4 (Zh4 h hout2) hout1)
         ·refine Zl2 8 ?_;dsimp only [Z99,Z89,Z79,go_sem];refine ⟨by simp,?_⟩
          refine Zi4 (fun (x55:(List Edge))=>(⟨(.sl 3 (List.map Diner.row x1) :: .any :: .ptr 0 0 :: .any :: .ptr 1 0 :: .iv x35 :: .ptr 2 0::an 11 (.sl 3 (List.map Diner.row x1) :: .iv (ln Diner.row x1) :: .iv x35::an 10 (.sl 8 (List.map Side.row x37.Sides) :: .iv (ln Side.row x37.Sides) :: .iv x47::an 70 []))),[some ⟨53,[.iv 0,.nl]⟩,some ⟨53,[.iv (ln Diner.row x1),.osl 0]⟩,some ⟨61,[.iv x37.ID,.iv x37.Phase,.sl 8 (List.map Side.row x37.Sides)]⟩],[some ⟨30,2,List.map Edge.row x55⟩]⟩:St)) (Zc9 x47) y2 ?_ fun J4=>?_
          ·intro x55 h;rw [Zc9] at h;(try dsimp only);refine Zl2 5 ?_;dsimp only [Z99,Z89,Z79,go_sem];refine ⟨by simp,?_⟩;exact Zu4 h hin2
          ·refine Zk4 h rfl (fun _ h=>?_) fun _ h=>?_
           ·refine Zl2 8 ?_;dsimp only [Z99,Z89,Z79,go_sem];refine ⟨by simp,?_⟩;obtain ⟨x54,ex54,h⟩:=Option.bind_eq_some_iff.1 h;refine Zq4 Edge.row ex54 trivial rfl rfl rfl ?_;refine Zl2 3 ?_;dsimp only [Z99,Z89,Z79,go_sem];refine ⟨by simp,?_⟩;refine Z54 2 0 rfl rfl rfl ?_;dsimp only [go_sem];exact Zv4 J4 (s:=x54) h
           ·refine Zl2 1 ?_;dsimp only [Z99,Z89,Z79,go_sem];refine ⟨by simp,?_⟩;exact Zv4 J4 (s:=x48) h
       ·refine Zh3 (by kernel_rfl) fun all hall hs hnap haf=>?_;dsimp only [go_sem]
        refine Zg5 hall hs haf hnap 4 28 [true,true,true,true,false,false,false,false,false,false,false,false,false,false,false,false,false,false,false,false,false,false,false,false,false,false,false,false,false,false,false,false] (⟨(.sl 3 (List.map Diner.row x1) :: .any :: .ptr 0 0 :: .any :: .ptr 1 0 :: .iv x35 :: .ptr 2 0 :: .iv x47 :: .ptr 3 0::an 9 (.sl 3 (List.map Diner.row x1) :: .iv (ln Diner.row x1) :: .iv x35::an 10 (.sl 8 (List.map Side.row x37.Sides) :: .iv (ln Side.row x37.Sides) :: .iv x47 :: .bv (decide (x47<(ln Side.row x37.Sides))) :: .iv x47 :: .elt [.iv x49.Peer,.iv x49.Epoch,.iv x49.State,.bv x49.Fork,.bv x49.Dirty,.bv x49.Token,.bv x49.Bottle,.bv x49.Ask] 0 :: .agg [.iv x49.Peer,.iv x49.Epoch,.iv x49.State,.bv x49.Fork,.bv x49.Dirty,.bv x49.Token,.bv x49.Bottle,.bv x49.Ask] :: .ptr 3 0 :: .iv x49.Peer :: .bv (decide (x49.Peer<0)) :: .bv (decide (x49.Peer<0))::an 62 []))),[some ⟨53,[.iv 0,.nl]⟩,some ⟨53,[.iv (ln Diner.row x1),.osl 0]⟩,some ⟨61,[.iv x37.ID,.iv x37.Phase,.sl 8 (List.map Side.row x37.Sides)]⟩,some ⟨66,[.iv x49.Peer,.iv x49.Epoch,.iv x49.State,.bv x49.Fork,.bv x49.Dirty,.bv x49.Token,.bv x49.Bottle,.bv x49.Ask]⟩],[some ⟨30,2,List.map Edge.row x48⟩]⟩:St) (by kernel_rfl) ?_
        refine Z35 41 h rfl (fun _ h=>?_) fun _ h=>?_
        ·dsimp only [go_sem]
         refine Zg5 hall hs haf hnap 28 0 [true,true,true,true,true,true,true,true,true,true,true,true,true,true,true,true,true,true,true,true,true,true,true,true,true,true,true,true,true,true,true,true] (⟨(.sl 3 (List.map Diner.row x1) :: .any :: .ptr 0 0 :: .any :: .ptr 1 0 :: .iv x35 :: .ptr 2 0 :: .iv x47 :: .ptr 3 0::an 9 (.sl 3 (List.map Diner.row x1) :: .iv (ln Diner.row x1) :: .iv x35::an 10 (.sl 8 (List.map Side.row x37.Sides) :: .iv (ln Side.row x37.Sides) :: .iv x47 :: .bv (decide (x47<(ln Side.row x37.Sides))) :: .iv x47 :: .elt [.iv x49.Peer,.iv x49.Epoch,.iv x49.State,.bv x49.Fork,.bv x49.Dirty,.bv x49.Token,.bv x49.Bottle,.bv x49.Ask] 0 :: .agg [.iv x49.Peer,.iv x49.Epoch,.iv x49.State,.bv x49.Fork,.bv x49.Dirty,.bv x49.Token,.bv x49.Bottle,.bv x49.Ask] :: .ptr 3 0 :: .iv x49.Peer :: .bv (decide (x49.Peer<0)) :: .tt :: .un :: .un :: .un :: .un :: .un :: .tt :: .tt :: .un :: .un :: .un :: .un :: .tt :: .tt :: .un :: .un :: .un :: .un :: .un :: .un :: .un :: .un :: .un :: .un :: .un :: .un :: .un :: .un :: .tt::an 34 []))),[some ⟨53,[.iv 0,.nl]⟩,some ⟨53,[.iv (ln Diner.row x1),.osl 0]⟩,some ⟨61,[.iv x37.ID,.iv x37.Phase,.sl 8 (List.map Side.row x37.Sides)]⟩,some ⟨66,[.iv x49.Peer,.iv x49.Epoch,.iv x49.State,.bv x49.Fork,.bv x49.Dirty,.bv x49.Token,.bv x49.Bottle,.bv x49.Ask]⟩],[some ⟨30,2,List.map Edge.row x48⟩]⟩:St) (by kernel_rfl) ?_
         refine Zt3 rfl ?_ _;exact Zv4 J3 (s:=true) h
        ·dsimp only [go_sem]
         refine Zg5 hall hs haf hnap 7 21 [true,true,true,true,true,true,true,true,true,true,true,false,false,false,false,false,false,false,false,false,false,false,false,false,false,false,false,false,false,false,false,false] (⟨(.sl 3 (List.map Diner.row x1) :: .any :: .ptr 0 0 :: .any :: .ptr 1 0 :: .iv x35 :: .ptr 2 0 :: .iv x47 :: .ptr 3 0::an 9 (.sl 3 (List.map Diner.row x1) :: .iv (ln Diner.row x1) :: .iv x35::an 10 (.sl 8 (List.map Side.row x37.Sides) :: .iv (ln Side.row x37.Sides) :: .iv x47 :: .bv (decide (x47<(ln Side.row x37.Sides))) :: .iv x47 :: .elt [.iv x49.Peer,.iv x49.Epoch,.iv x49.State,.bv x49.Fork,.bv x49.Dirty,.bv x49.Token,.bv x49.Bottle,.bv x49.Ask] 0 :: .agg [.iv x49.Peer,.iv x49.Epoch,.iv x49.State,.bv x49.Fork,.bv x49.Dirty,.bv x49.Token,.bv x49.Bottle,.bv x49.Ask] :: .ptr 3 0 :: .iv x49.Peer :: .bv (decide (x49.Peer<0)) :: .ff :: .ptr 3 0 :: .iv x49.Peer :: .sl 3 (List.map Diner.row x1) :: .iv (ln Diner.row x1) :: .bv (decide ((ln Diner.row x1)≤x49.Peer)) :: .bv (decide ((ln Diner.row x1)≤x49.Peer)) :: .bv (decide ((ln Diner.row x1)≤x49.Peer))::an 55 []))),[some ⟨53,[.iv 0,.nl]⟩,some ⟨53,[.iv (ln Diner.row x1),.osl 0]⟩,some ⟨61,[.iv x37.ID,.iv x37.Phase,.sl 8 (List.map Side.row x37.Sides)]⟩,some ⟨66,[.iv x49.Peer,.iv x49.Epoch,.iv x49.State,.bv x49.Fork,.bv x49.Dirty,.bv x49.Token,.bv x49.Bottle,.bv x49.Ask]⟩],[some ⟨30,2,List.map Edge.row x48⟩]⟩:St) (by kernel_rfl) ?_
         refine Z35 48 h rfl (fun _ h=>?_) fun _ h=>?_
         ·dsimp only [go_sem]
          refine Zg5 hall hs haf hnap 21 0 [true,true,true,true,true,true,true,true,true,true,true,true,true,true,true,true,true,true,true,true,true,true,true,true,true,true,true,true,true,true,true,true] (⟨(.sl 3 (List.map Diner.row x1) :: .any :: .ptr 0 0 :: .any :: .ptr 1 0 :: .iv x35 :: .ptr 2 0 :: .iv x47 :: .ptr 3 0::an 9 (.sl 3 (List.map Diner.row x1) :: .iv (ln Diner.row x1) :: .iv x35::an 10 (.sl 8 (List.map Side.row x37.Sides) :: .iv (ln Side.row x37.Sides) :: .iv x47 :: .bv (decide (x47<(ln Side.row x37.Sides))) :: .iv x47 :: .elt [.iv x49.Peer,.iv x49.Epoch,.iv x49.State,.bv x49.Fork,.bv x49.Dirty,.bv x49.Token,.bv x49.Bottle,.bv x49.Ask] 0 :: .agg [.iv x49.Peer,.iv x49.Epoch,.iv x49.State,.bv x49.Fork,.bv x49.Dirty,.bv x49.Token,.bv x49.Bottle,.bv x49.Ask] :: .ptr 3 0 :: .iv x49.Peer :: .bv (decide (x49.Peer<0)) :: .ff :: .ptr 3 0 :: .iv x49.Peer :: .sl 3 (List.map Diner.row x1) :: .iv (ln Diner.row x1) :: .bv (decide ((ln Diner.row x1)≤x49.Peer)) :: .bv (decide ((ln Diner.row x1)≤x49.Peer)) :: .tt :: .un :: .un :: .un :: .un :: .tt :: .tt :: .un :: .un :: .un :: .un :: .un :: .un :: .un :: .un :: .un :: .un :: .un :: .un :: .un :: .un :: .tt::an 34 []))),[some ⟨53,[.iv 0,.nl]⟩,some ⟨53,[.iv (ln Diner.row x1),.osl 0]⟩,some ⟨61,[.iv x37.ID,.iv x37.Phase,.sl 8 (List.map Side.row x37.Sides)]⟩,some ⟨66,[.iv x49.Peer,.iv x49.Epoch,.iv x49.State,.bv x49.Fork,.bv x49.Dirty,.bv x49.Token,.bv x49.Bottle,.bv x49.Ask]⟩],[some ⟨30,2,List.map Edge.row x48⟩]⟩:St) (by kernel_rfl) ?_
          refine Zt3 rfl ?_ _;exact Zv4 J3 (s:=true) h
         ·dsimp only [go_sem]
          refine Zg5 hall hs haf hnap 6 15 [true,true,true,true,true,true,true,true,true,true,true,true,true,true,true,true,true,false,false,false,false,false,false,false,false,false,false,false,false,false,false,false] (⟨(.sl 3 (List.map Diner.row x1) :: .any :: .ptr 0 0 :: .any :: .ptr 1 0 :: .iv x35 :: .ptr 2 0 :: .iv x47 :: .ptr 3 0::an 9 (.sl 3 (List.map Diner.row x1) :: .iv (ln Diner.row x1) :: .iv x35::an 10 (.sl 8 (List.map Side.row x37.Sides) :: .iv (ln Side.row x37.Sides) :: .iv x47 :: .bv (decide (x47<(ln Side.row x37.Sides))) :: .iv x47 :: .elt [.iv x49.Peer,.iv x49.Epoch,.iv x49.State,.bv x49.Fork,.bv x49.Dirty,.bv x49.Token,.bv x49.Bottle,.bv x49.Ask] 0 :: .agg [.iv x49.Peer,.iv x49.Epoch,.iv x49.State,.bv x49.Fork,.bv x49.Dirty,.bv x49.Token,.bv x49.Bottle,.bv x49.Ask] :: .ptr 3 0 :: .iv x49.Peer :: .bv (decide (x49.Peer<0)) :: .ff :: .ptr 3 0 :: .iv x49.Peer :: .sl 3 (List.map Diner.row x1) :: .iv (ln Diner.row x1) :: .bv (decide ((ln Diner.row x1)≤x49.Peer)) :: .bv (decide ((ln Diner.row x1)≤x49.Peer)) :: .ff :: .ptr 3 0 :: .iv x49.Peer :: .iv x35 :: .bv (decide (x49.Peer=x35)) :: .bv (decide (x49.Peer=x35)) :: .bv (decide (x49.Peer=x35))::an 49 []))),[some ⟨53,[.iv 0,.nl]⟩,some ⟨53,[.iv (ln Diner.row x1),.osl 0]⟩,some ⟨61,[.iv x37.ID,.iv x37.Phase,.sl 8 (List.map Side.row x37.Sides)]⟩,some ⟨66,[.iv x49.Peer,.iv x49.Epoch,.iv x49.State,.bv x49.Fork,.bv x49.Dirty,.bv x49.Token,.bv x49.Bottle,.bv x49.Ask]⟩],[some ⟨30,2,List.map Edge.row x48⟩]⟩:St) (by kernel_rfl) ?_
          refine Z35 54 h rfl (fun _ h=>?_) fun _ h=>?_
          ·dsimp only [go_sem]
           refine Zg5 hall hs haf hnap 15 0 [true,true,true,true,true,true,true,true,true,true,true,true,true,true,true,true,true,true,true,true,true,true,true,true,true,true,true,true,true,true,true,true] (⟨(.sl 3 (List.map Diner.row x1) :: .any :: .ptr 0 0 :: .any :: .ptr 1 0 :: .iv x35 :: .ptr 2 0 :: .iv x47 :: .ptr 3 0::an 9 (.sl 3 (List.map Diner.row x1) :: .iv (ln Diner.row x1) :: .iv x35::an 10 (.sl 8 (List.map Side.row x37.Sides) :: .iv (ln Side.row x37.Sides) :: .iv x47 :: .bv (decide (x47<(ln Side.row x37.Sides))) :: .iv x47 :: .elt [.iv x49.Peer,.iv x49.Epoch,.iv x49.State,.bv x49.Fork,.bv x49.Dirty,.bv x49.Token,.bv x49.Bottle,.bv x49.Ask] 0 :: .agg [.iv x49.Peer,.iv x49.Epoch,.iv x49.State,.bv x49.Fork,.bv x49.Dirty,.bv x49.Token,.bv x49.Bottle,.bv x49.Ask] :: .ptr 3 0 :: .iv x49.Peer :: .bv (decide (x49.Peer<0)) :: .ff :: .ptr 3 0 :: .iv x49.Peer :: .sl 3 (List.map Diner.row x1) :: .iv (ln Diner.row x1) :: .bv (decide ((ln Diner.row x1)≤x49.Peer)) :: .bv (decide ((ln Diner.row x1)≤x49.Peer)) :: .ff :: .ptr 3 0 :: .iv x49.Peer :: .iv x35 :: .bv (decide (x49.Peer=x35)) :: .bv (decide (x49.Peer=x35)) :: .tt :: .un :: .un :: .un :: .un :: .un :: .un :: .un :: .un :: .un :: .un :: .un :: .un :: .un :: .un :: .tt::an 34 []))),[some ⟨53,[.iv 0,.nl]⟩,some ⟨53,[.iv (ln Diner.row x1),.osl 0]⟩,some ⟨61,[.iv x37.ID,.iv x37.Phase,.sl 8 (List.map Side.row x37.Sides)]⟩,some ⟨66,[.iv x49.Peer,.iv x49.Epoch,.iv x49.State,.bv x49.Fork,.bv x49.Dirty,.bv x49.Token,.bv x49.Bottle,.bv x49.Ask]⟩],[some ⟨30,2,List.map Edge.row x48⟩]⟩:St) (by kernel_rfl) ?_
           refine Zt3 rfl ?_ _;exact Zv4 J3 (s:=true) h
          ·dsimp only [go_sem]
           refine Zg5 hall hs haf hnap 3 12 [true,true,true,true,true,true,true,true,true,true,true,true,true,true,true,true,true,true,true,true,false,false,false,false,false,false,false,false,false,false,false,false] (⟨(.sl 3 (List.map Diner.row x1) :: .any :: .ptr 0 0 :: .any :: .ptr 1 0 :: .iv x35 :: .ptr 2 0 :: .iv x47 :: .ptr 3 0::an 9 (.sl 3 (List.map Diner.row x1) :: .iv (ln Diner.row x1) :: .iv x35::an 10 (.sl 8 (List.map Side.row x37.Sides) :: .iv (ln Side.row x37.Sides) :: .iv x47 :: .bv (decide (x47<(ln Side.row x37.Sides))) :: .iv x47 :: .elt [.iv x49.Peer,.iv x49.Epoch,.iv x49.State,.bv x49.Fork,.bv x49.Dirty,.bv x49.Token,.bv x49.Bottle,.bv x49.Ask] 0 :: .agg [.iv x49.Peer,.iv x49.Epoch,.iv x49.State,.bv x49.Fork,.bv x49.Dirty,.bv x49.Token,.bv x49.Bottle,.bv x49.Ask] :: .ptr 3 0 :: .iv x49.Peer :: .bv (decide (x49.Peer<0)) :: .ff :: .ptr 3 0 :: .iv x49.Peer :: .sl 3 (List.map Diner.row x1) :: .iv (ln Diner.row x1) :: .bv (decide ((ln Diner.row x1)≤x49.Peer)) :: .bv (decide ((ln Diner.row x1)≤x49.Peer)) :: .ff :: .ptr 3 0 :: .iv x49.Peer :: .iv x35 :: .bv (decide (x49.Peer=x35)) :: .bv (decide (x49.Peer=x35)) :: .ff :: .iv x47 :: .bv (decide (0<x47)) :: .bv (decide (0<x47))::an 46 []))),[some ⟨53,[.iv 0,.nl]⟩,some ⟨53,[.iv (ln Diner.row x1),.osl 0]⟩,some ⟨61,[.iv x37.ID,.iv x37.Phase,.sl 8 (List.map Side.row x37.Sides)]⟩,some ⟨66,[.iv x49.Peer,.iv x49.Epoch,.iv x49.State,.bv x49.Fork,.bv x49.Dirty,.bv x49.Token,.bv x49.Bottle,.bv x49.Ask]⟩],[some ⟨30,2,List.map Edge.row x48⟩]⟩:St) (by kernel_rfl) ?_
           refine Z35 57 h rfl (fun _ h=>?_) fun _ h=>?_
           ·dsimp only [go_sem]
            refine Zg5 hall hs haf hnap 6 6 [true,true,true,true,true,true,true,true,true,true,true,true,true,true,true,true,true,true,true,true,true,true,true,true,false,false,false,true,true,false,false,false] (⟨(.sl 3 (List.map Diner.row x1) :: .any :: .ptr 0 0 :: .any :: .ptr 1 0 :: .iv x35 :: .ptr 2 0 :: .iv x47 :: .ptr 3 0::an 9 (.sl 3 (List.map Diner.row x1) :: .iv (ln Diner.row x1) :: .iv x35::an 10 (.sl 8 (List.map Side.row x37.Sides) :: .iv (ln Side.row x37.Sides) :: .iv x47 :: .bv (decide (x47<(ln Side.row x37.Sides))) :: .iv x47 :: .elt [.iv x49.Peer,.iv x49.Epoch,.iv x49.State,.bv x49.Fork,.bv x49.Dirty,.bv x49.Token,.bv x49.Bottle,.bv x49.Ask] 0 :: .agg [.iv x49.Peer,.iv x49.Epoch,.iv x49.State,.bv x49.Fork,.bv x49.Dirty,.bv x49.Token,.bv x49.Bottle,.bv x49.Ask] :: .ptr 3 0 :: .iv x49.Peer :: .bv (decide (x49.Peer<0)) :: .ff :: .ptr 3 0 :: .iv x49.Peer :: .sl 3 (List.map Diner.row x1) :: .iv (ln Diner.row x1) :: .bv (decide ((ln Diner.row x1)≤x49.Peer)) :: .bv (decide ((ln Diner.row x1)≤x49.Peer)) :: .ff :: .ptr 3 0 :: .iv x49.Peer :: .iv x35 :: .bv (decide (x49.Peer=x35)) :: .bv (decide (x49.Peer=x35)) :: .ff :: .iv x47 :: .bv (decide (0<x47)) :: .tt :: .ptr 2 2 :: .sl 8 (List.map Side.row x37.Sides) :: .iv x47 :: .iv (wr (x47-1))::an 3 (.ptr 3 0 :: .iv x49.Peer::an 37 [])))),[some ⟨53,[.iv 0,.nl]⟩,some ⟨53,[.iv (ln Diner.row x1),.osl 0]⟩,some ⟨61,[.iv x37.ID,.iv x37.Phase,.sl 8 (List.map Side.row x37.Sides)]⟩,some ⟨66,[.iv x49.Peer,.iv x49.Epoch,.iv x49.State,.bv x49.Fork,.bv x49.Dirty,.bv x49.Token,.bv x49.Bottle,.bv x49.Ask]⟩],[some ⟨30,2,List.map Edge.row x48⟩]⟩:St) (by kernel_rfl) ?_
            obtain ⟨x50,ex50,h⟩:=Option.bind_eq_some_iff.1 h;refine Zo4 hall hs haf hnap 24 Side.row ex50 rfl rfl trivial rfl rfl rfl rfl ?_
            refine Zg5 hall hs haf hnap 5 0 [true,true,true,true,true,true,true,true,true,true,true,true,true,true,true,true,true,true,true,true,true,true,true,true,true,true,true,true,true,true,true,true] (⟨(.sl 3 (List.map Diner.row x1) :: .any :: .ptr 0 0 :: .any :: .ptr 1 0 :: .iv x35 :: .ptr 2 0 :: .iv x47 :: .ptr 3 0::an 9 (.sl 3 (List.map Diner.row x1) :: .iv (ln Diner.row x1) :: .iv x35::an 10 (.sl 8 (List.map Side.row x37.Sides) :: .iv (ln Side.row x37.Sides) :: .iv x47 :: .bv (decide (x47<(ln Side.row x37.Sides))) :: .iv x47 :: .elt [.iv x49.Peer,.iv x49.Epoch,.iv x49.State,.bv x49.Fork,.bv x49.Dirty,.bv x49.Token,.bv x49.Bottle,.bv x49.Ask] 0 :: .agg [.iv x49.Peer,.iv x49.Epoch,.iv x49.State,.bv x49.Fork,.bv x49.Dirty,.bv x49.Token,.bv x49.Bottle,.bv x49.Ask] :: .ptr 3 0 :: .iv x49.Peer :: .bv (decide (x49.Peer<0)) :: .ff :: .ptr 3 0 :: .iv x49.Peer :: .sl 3 (List.map Diner.row x1) :: .iv (ln Diner.row x1) :: .bv (decide ((ln Diner.row x1)≤x49.Peer)) :: .bv (decide ((ln Diner.row x1)≤x49.Peer)) :: .ff :: .ptr 3 0 :: .iv x49.Peer :: .iv x35 :: .bv (decide (x49.Peer=x35)) :: .bv (decide (x49.Peer=x35)) :: .ff :: .iv x47 :: .bv (decide (0<x47)) :: .tt :: .ptr 2 2 :: .sl 8 (List.map Side.row x37.Sides) :: .iv x47 :: .iv (wr (x47-1)) :: .elt [.iv x50.Peer,.iv x50.Epoch,.iv x50.State,.bv x50.Fork,.bv x50.Dirty,.bv x50.Token,.bv x50.Bottle,.bv x50.Ask] 0 :: .elt [.iv x50.Peer,.iv x50.Epoch,.iv x50.State,.bv x50.Fork,.bv x50.Dirty,.bv x50.Token,.bv x50.Bottle,.bv x50.Ask] 0 :: .iv x50.Peer :: .ptr 3 0 :: .iv x49.Peer :: .bv (decide (x49.Peer≤x50.Peer)) :: .bv (decide (x49.Peer≤x50.Peer)) :: .bv (decide (x49.Peer≤x50.Peer))::an 34 []))),[some ⟨53,[.iv 0,.nl]⟩,some ⟨53,[.iv (ln Diner.row x1),.osl 0]⟩,some ⟨61,[.iv x37.ID,.iv x37.Phase,.sl 8 (List.map Side.row x37.Sides)]⟩,some ⟨66,[.iv x49.Peer,.iv x49.Epoch,.iv x49.State,.bv x49.Fork,.bv x49.Dirty,.bv x49.Token,.bv x49.Bottle,.bv x49.Ask]⟩],[some ⟨30,2,List.map Edge.row x48⟩]⟩:St) (by kernel_rfl) ?_
            refine Zt3 rfl ?_ _;exact Zv4 J3 (s:=decide (x49.Peer≤x50.Peer)) h
           ·dsimp only [go_sem]
            refine Zg5 hall hs haf hnap 12 0 [true,true,true,true,true,true,true,true,true,true,true,true,true,true,true,true,true,true,true,true,true,true,true,true,true,true,true,true,true,true,true,true] (⟨(.sl 3 (List.map Diner.row x1) :: .any :: .ptr 0 0 :: .any :: .ptr 1 0 :: .iv x35 :: .ptr 2 0 :: .iv x47 :: .ptr 3 0::an 9 (.sl 3 (List.map Diner.row x1) :: .iv (ln Diner.row x1) :: .iv x35::an 10 (.sl 8 (List.map Side.row x37.Sides) :: .iv (ln Side.row x37.Sides) :: .iv x47 :: .bv (decide (x47<(ln Side.row x37.Sides))) :: .iv x47 :: .elt [.iv x49.Peer,.iv x49.Epoch,.iv x49.State,.bv x49.Fork,.bv x49.Dirty,.bv x49.Token,.bv x49.Bottle,.bv x49.Ask] 0 :: .agg [.iv x49.Peer,.iv x49.Epoch,.iv x49.State,.bv x49.Fork,.bv x49.Dirty,.bv x49.Token,.bv x49.Bottle,.bv x49.Ask] :: .ptr 3 0 :: .iv x49.Peer :: .bv (decide (x49.Peer<0)) :: .ff :: .ptr 3 0 :: .iv x49.Peer :: .sl 3 (List.map Diner.row x1) :: .iv (ln Diner.row x1) :: .bv (decide ((ln Diner.row x1)≤x49.Peer)) :: .bv (decide ((ln Diner.row x1)≤x49.Peer)) :: .ff :: .ptr 3 0 :: .iv x49.Peer :: .iv x35 :: .bv (decide (x49.Peer=x35)) :: .bv (decide (x49.Peer=x35)) :: .ff :: .iv x47 :: .bv (decide (0<x47)) :: .ff :: .un :: .un :: .un :: .un :: .un :: .un :: .un :: .un :: .un :: .un :: .ff :: .ff::an 34 []))),[some ⟨53,[.iv 0,.nl]⟩,some ⟨53,[.iv (ln Diner.row x1),.osl 0]⟩,some ⟨61,[.iv x37.ID,.iv x37.Phase,.sl 8 (List.map Side.row x37.Sides)]⟩,some ⟨66,[.iv x49.Peer,.iv x49.Epoch,.iv x49.State,.bv x49.Fork,.bv x49.Dirty,.bv x49.Token,.bv x49.Bottle,.bv x49.Ask]⟩],[some ⟨30,2,List.map Edge.row x48⟩]⟩:St) (by kernel_rfl) ?_
            refine Zt3 rfl ?_ _;exact Zv4 J3 (s:=false) h
      ·refine Zl2 1 ?_;dsimp only [Z99,Z89,Z79,go_sem];refine ⟨by simp,?_⟩;exact Zv4 J2 (s:=x48) (Zh4 h hout2)
   ·refine Zl2 1 ?_;dsimp only [Z99,Z89,Z79,go_sem];refine ⟨by simp,?_⟩;exact Zv4 J1 (s:=x36) (Zh4 h hout1)
def Zh9 (l:List Diner) (i:Nat) (x:Side):Bool:=
 decide (0≤x.Peer)&&(decide (x.Peer<l.length)&&(!decide (x.Peer=i)&&(match l[x.Peer.toNat]? with | some e=>(Z59 e i).isSome | none=>false)))
def lastP (pre:List Side):Option Int:=pre.getLast?.map (·.Peer)
def riseB (p:Option Int) (x:Side):Bool:=match p with | none=>true | some q=>decide (q<x.Peer)
def Zi9 (l:List Diner) (i:Nat):Option Int→List Side→Bool
 | _,[]=>true
 | p,x::r=>riseB p x&&(Zh9 l i x&&Zi9 l i (some x.Peer) r)
def Zj9 (i:Nat) (xs:List Side):List Edge:=(xs.filter fun x=>decide ((i:Int)<x.Peer)).map fun x=>⟨i,x.Peer⟩
def Zk9 (l:List Diner):Nat→List Diner→Bool
 | _,[]=>true
 | i,d::r=>decide (d.ID=i)&&(Zi9 l i none d.Sides&&Zk9 l (i+1) r)
def Zl9:Nat→List Diner→List Edge
 | _,[]=>[]
 | i,d::r=>Zj9 i d.Sides++Zl9 (i+1) r
def Zm9:Graph:=⟨0,[]⟩
def Zn9 (l:List Diner):Graph×Bool:=if Zk9 l 0 l&&okG ⟨l.length,Zl9 0 l⟩ then (⟨l.length,Zl9 0 l⟩,true) else (Zm9,false)
theorem Zo9 (pre:List Side) (x:Side):lastP (pre++[x])=some x.Peer:=by simp [lastP]
theorem edgesD_snoc (i:Nat) (pre:List Side) (x:Side):Zj9 i (pre++[x])=if decide ((i:Int)<x.Peer) then Zj9 i pre++[⟨i,x.Peer⟩] else Zj9 i pre:=by
 unfold Zj9
 by_cases h:(i:Int)<x.Peer<;>simp [h]
theorem Zp9 (i:Nat) (xs:List Side):(Zj9 i xs).length≤xs.length:=by simp [Zj9,List.length_filter_le]
theorem Zq9:∀(a b:List Diner) (i:Nat),Zl9 i (a++b)=Zl9 i a++Zl9 (i+a.length) b
 | [],b,i=>by simp [Zl9]
 | d::a,b,i=>by simp [Zl9,Zq9 a b (i+1),Nat.add_comm,Nat.add_left_comm]
theorem Zr9:∀(l:List Diner) (i:Nat),(∀d∈l,d.Sides.length≤5000)→(Zl9 i l).length≤l.length*5000
 | [],_,_=>by simp [Zl9]
 | d::l,i,h=>by
   have h1:=Zr9 l (i+1) fun e he=>h e (by simp [he])
   have h2:=h d (by simp)
   have h3:=Zp9 i d.Sides
   simp only [Zl9,List.length_append,List.length_cons]
   omega
theorem prev_step {γ:Type} {l pre post:List Side} {x:Side} (h:l=pre++x::post) (hl:l.length≤5000) (A:Bool→Option γ):
  ifb (decide (0<(pre.length:Int))) ((at_ l (wr ((pre.length:Int)-1))).bind fun y=>A (decide (x.Peer≤y.Peer))) (A false)=A (!riseB (lastP pre) x):=by
 rcases List.eq_nil_or_concat pre with rfl | ⟨q,y,rfl⟩
 ·simp [lastP,riseB]
 ·rw [List.concat_eq_append] at h ⊢
  have hy:l[q.length]?=some y:=by subst h;simp
  have hm:=Zu8 h
  have e:decide (0<(((q++[y]).length:Nat):Int))=true:=decide_eq_true (by simp only [Zy8];omega)
  rw [e,Zc6,Zy8,wr_pred (by simp at hm;omega),Zg6 hy,Option.bind_some,Zo9,riseB,←decide_not]
  congr 2
  simp
theorem inner_len {l:List Diner} {pre post:List Diner} {d:Diner} (hl:fewD l) (h:l=pre++d::post):(Zl9 0 pre).length≤25000000:=by
 have h1:=Zr9 pre 0 fun e he=>hl.2 e (by subst h;simp [he])
 have h2:=Zu8 h
 have:=hl.1
 omega
theorem s_Graph2 (l:List Diner) (hl:fewD l) (i:Nat) (d:Diner) (hd:d∈l) (hi:i≤5000) (E:List Edge) (hE:E.length≤25000000):
  loop (Ze9 l i d) (0,E)=some (if Zi9 l i none d.Sides then .inl (((i+1:Nat):Int),E++Zj9 i d.Sides) else .inr (Zm9,false)):=by
 have hdl:=hl.2 d hd
 have key:=(Zr8 d.Sides (Ze9 l i d) (fun pre=>((pre.length:Int),E++Zj9 i pre)) (fun pre post=>some (if Zi9 l i (lastP pre) post then .inl (((i+1:Nat):Int),E++Zj9 i (pre++post)) else .inr (Zm9,false))) ?_ ?_)
 ·rw [show Zj9 i []=[] from rfl,List.append_nil] at key;exact key
 ·intro pre x post h
  have hx:=Zt8 h
  have hm:=Zu8 h
  dsimp only [Ze9]
  rw [Zi6 hx,Zc6,Zg6 hx,Option.bind_some,prev_step h hdl (Zd9 l i pre.length (E++Zj9 i pre) x)]
  have bad:Zd9 l (i:Int) pre.length (E++Zj9 i pre) x true=some (.inr (.inr (Zm9,false))):=rfl
  by_cases h1:x.Peer<0
  ·right
   refine ⟨_,by rw [decide_eq_true h1,Zc6,bad],?_⟩
   have:Zh9 l i x=false:=by simp [Zh9];omega
   simp [Zi9,this]
  by_cases h2:(l.length:Int)≤x.Peer
  ·right
   refine ⟨_,by rw [decide_eq_false h1,Zd6,Z25,decide_eq_true h2,Zc6,bad],?_⟩
   have:Zh9 l i x=false:=by simp [Zh9];omega
   simp [Zi9,this]
  by_cases h3:x.Peer=i
  ·right
   refine ⟨_,by rw [decide_eq_false h1,Zd6,Z25,decide_eq_false h2,Zd6,decide_eq_true h3,Zc6,bad],?_⟩
   have:Zh9 l i x=false:=by simp [Zh9,h3]
   simp [Zi9,this]
  rw [decide_eq_false h1,Zd6,Z25,decide_eq_false h2,Zd6,decide_eq_false h3,Zd6]
  cases h4:riseB (lastP pre) x with
  | false=>
    right
    exact ⟨_,by rw [Bool.not_false,bad],by simp [Zi9,h4]⟩
  | true=>
    obtain ⟨e,he1,he2⟩:=at_lt (l:=l) (i:=x.Peer) (by omega) (by omega)
    have hes:=hl.2 e (List.mem_iff_getElem?.2 ⟨_,he2⟩)
    have hsb:Zh9 l i x=(Z59 e i).isSome:=by
     rw [Zh9,decide_eq_true (show 0≤x.Peer by omega),decide_eq_true (show x.Peer<l.length by omega),decide_eq_false h3,he2];simp
    rw [Bool.not_true]
    dsimp only [Zd9]
    rw [Zd6,he1,Option.bind_some,s_Side e i (by omega),Option.bind_some]
    cases ho:Z59 e i with
    | none=>
      right
      exact ⟨(.inr (Zm9,false)),rfl,by rw [ho] at hsb;simp [Zi9,hsb]⟩
    | some y=>
      left
      rw [ho] at hsb
      refine ⟨?_,by simp [Zi9,hsb,h4,Zo9]⟩
      simp only [sideP,Bool.not_true,Zd6,Zc9]
      rw [edgesD_snoc,Zy8,Zk6 (by omega)]
      have:=Zp9 i pre
      by_cases h5:(i:Int)<x.Peer
      ·rw [decide_eq_true h5,Zc6,Zh6 _ _ (by omega) (by simp;omega),Option.bind_some]
       simp
      ·rw [decide_eq_false h5,Zd6];simp
 ·dsimp only [Ze9]
  rw [Zj6,Zd6,Zb9,Zk6 (by omega)]
  simp [Zi9]
theorem s_Graph (l:List Diner) (hl:fewD l):Zg9 l=some (Zn9 l):=by
 unfold Zg9
 by_cases h64:64<l.length
 ·have:okG ⟨l.length,Zl9 0 l⟩=false:=by simp [okG];omega
  rw [Z25,decide_eq_true (by omega),Zc6]
  simp [Zn9,this,Zm9]
 rw [Z25,decide_eq_false (by omega),Zd6]
 refine (Zr8 l (Zf9 l) (fun pre=>((pre.length:Int),Zl9 0 pre)) (fun pre post=>some (if Zk9 l pre.length post&&okG ⟨l.length,Zl9 0 (pre++post)⟩ then (⟨l.length,Zl9 0 (pre++post)⟩,true) else (Zm9,false))) ?_ ?_).trans rfl
 ·intro pre d post h
  have hx:=Zt8 h
  have hm:=Zu8 h
  have hd:=Zv8 h
  dsimp only [Zf9]
  rw [Zi6 hx,Zc6,Zg6 hx,Option.bind_some,Ze6]
  by_cases h1:d.ID=pre.length
  ·rw [decide_eq_true h1,Zc6,s_Graph2 l hl pre.length d hd (by omega) _ (inner_len hl h)]
   cases h2:Zi9 l pre.length none d.Sides with
   | true=>left;exact ⟨by rw [if_pos rfl,Zy8,Zq9];simp [Zl9],by simp [Zk9,h1,h2]⟩
   | false=>right;exact ⟨_,rfl,by simp [Zk9,h2]⟩
  ·right
   exact ⟨_,by rw [decide_eq_false h1,Zd6];rfl,by simp [Zk9,h1,Zm9]⟩
 ·dsimp only [Zf9]
  rw [Zj6,Zd6,Za9,Z25,Z18,Option.bind_some]
  simp only [Zk9,List.append_nil,Bool.true_and]
  cases okG ⟨l.length,Zl9 0 l⟩<;>rfl
set_option maxRecDepth 100000
set_option maxHeartbeats 4000000
def e142:EC:=.seq (.reg [(Qa 3 (.box 66 8 (.t 0))),(Qa 4 (.mv (.c .ff)))]) (.seq (.reg [(Qa 6 (.fld 0 (.t 3))),(Qa 7 (.load (.t 6))),(Qa 8 (.load (.t 1))),(Qa 9 (.bin .gtr (.t 7) (.t 8))),(Qa 10 (.mv (.t 9))),(Qg 11 10 true (.fld 0 (.t 3))),(Qg 12 10 true (.load (.t 11))),(Qg 13 10 true (.fld 0 (.t 2))),(Qg 14 10 true (.load (.t 13))),(Qg 15 10 true (.bin .neq (.t 12) (.t 14))),(Qa 16 (.pick (.t 10) (.t 15) (.c .ff))),(Qa 5 (.mv (.t 16)))]) (.seq (.reg [(Qa 17 (.fld 0 (.t 3))),(Qa 18 (.load (.t 17))),(Qb (.store 1 (.t 1) (.t 18)))]) (.seq (.reg [(Qa 19 (.mv (.t 5))),(Qa 20 (.not (.t 19))),(Qa 21 (.mv (.t 20))),(Qg 22 21 false (.fld 1 (.t 3))),(Qg 23 21 false (.load (.t 22))),(Qg 24 21 false (.bin .lss (.t 23) (.c (.iv 0)))),(Qa 25 (.pick (.t 21) (.c .tt) (.t 24))),(Qa 26 (.mv (.t 25))),(Qg 27 26 false (.fld 1 (.t 3))),(Qg 28 26 false (.load (.t 27))),(Qg 29 26 false (.bin .gtr (.t 28) (.c (.iv 65535)))),(Qa 30 (.pick (.t 26) (.c .tt) (.t 29))),(Qa 31 (.mv (.t 30))),(Qg 32 31 false (.fld 2 (.t 3))),(Qg 33 31 false (.load (.t 32))),(Qg 34 31 false (.bin .lss (.t 33) (.c (.iv 0)))),(Qa 35 (.pick (.t 31) (.c .tt) (.t 34))),(Qa 36 (.mv (.t 35))),(Qg 37 36 false (.fld 2 (.t 3))),(Qg 38 36 false (.load (.t 37))),(Qg 39 36 false (.bin .gtr (.t 38) (.c (.iv 3)))),(Qa 40 (.pick (.t 36) (.c .tt) (.t 39))),(Qa 41 (.mv (.t 40))),(Qg 42 41 false (.fld 4 (.t 3))),(Qg 43 41 false (.load (.t 42))),(Qg 44 41 false (.mv (.t 43))),(Qg 45 44 true (.fld 3 (.t 3))),(Qg 46 44 true (.load (.t 45))),(Qg 47 44 true (.not (.t 46))),(Qg 48 41 false (.pick (.t 44) (.t 47) (.c .ff))),(Qa 49 (.pick (.t 41) (.c .tt) (.t 48))),(Qa 4 (.mv (.t 49)))]) (.ret))))
theorem ok142:FnOK Tryz.prog 142 Tryz.f142 e142 [.t 4] 3 47:=⟨by kernel_rfl,⟨_,rfl,by kernel_rfl⟩,by kernel_rfl,by kernel_rfl⟩
noncomputable def Zs9 (_x1:Side) (_x2:Int) (_x3:Diner):Option Bool:=
 none
theorem k_dine_Check_1 (x1:Side) (x2:Int) (x3:Diner) (r:Bool) (h:Zs9 x1 x2 x3=some r):Zq2 Tryz.prog 142 [.agg (Side.row x1),.elt (Z05 x2) 0,.elt (Diner.row x3) 0] (.bv r):=by
 simp [Zs9] at h
set_option maxRecDepth 100000
set_option maxHeartbeats 4000000
def e99:EC:=.seq (.reg [(Qa 4 (.mv (.c .ff)))]) (.seq (.reg [(Qa 5 (.mv (.t 0))),(Qa 6 (.mv (.t 1))),(Qa 7 (.call 116 [(.t 5),(.t 6)])),(Qa 8 (.bin .geq (.t 7) (.c (.iv 0)))),(Qa 4 (.mv (.t 8)))]) (.ret))
theorem ok99:FnOK Tryz.prog 99 Tryz.f99 e99 [.t 4] 2 7:=⟨by kernel_rfl,⟨_,rfl,by kernel_rfl⟩,by kernel_rfl,by kernel_rfl⟩
noncomputable def Zt9 (x1:(List Side)) (p1:(Side→Option Bool)):Option Bool:=
 (Z37 x1 p1).bind fun x2=>
 some (decide (0≤x2))
theorem Zu9 (x1:(List Side)) (g1:Nat) (caps1:List AV) (p1:(Side→Option Bool)) (hc1:CloOK Tryz.prog g1 caps1 (fun z=>[.agg (Side.row z)]) p1 (fun z=>.bv z)) (r:Bool) (h:Zt9 x1 p1=some r):Zq2 Tryz.prog 99 [.sl 8 (List.map Side.row x1),.clo g1 caps1] (.bv r):=by
 refine Zu2 ok99 rfl rfl fun w0 H0=>?_
 rw [Zt9] at h
 refine Zl2 8 ?_;dsimp only [e99,go_sem];refine ⟨by simp,?_⟩;obtain ⟨x2,ex2,h⟩:=Option.bind_eq_some_iff.1 h;refine Zz2 trivial (Z47 x1 _ _ p1 hc1 _ ex2) (hp:=(by first | rfl | simp [go_sem,hc1.pu])) (h:=?_);refine Zl2 3 ?_;dsimp only [e99,go_sem];refine ⟨by simp,?_⟩;exact Zt4 (res:=fun (r:Bool)=>.bv r) ok99 h
set_option maxRecDepth 100000
set_option maxHeartbeats 4000000
def e101:EC:=.seq (.reg [(Qa 1 (.box 61 3 (.t 0))),(Qa 2 (.mv (.c (.iv 0))))]) (.seq (.reg [(Qa 3 (.alloc 3 [.iv 0])),(Qb (.store 1 (.t 3) (.c (.iv (-1)))))]) (.seq (.reg [(Qa 5 (.mkf 142 [(.t 3),(.t 1)])),(Qa 4 (.mv (.t 5)))]) (.seq (.seq (.reg [(Qa 6 (.fld 0 (.t 1))),(Qa 7 (.load (.t 6))),(Qa 8 (.bin .lss (.t 7) (.c (.iv 0)))),(Qa 9 (.mv (.t 8))),(Qg 10 9 false (.fld 1 (.t 1))),(Qg 11 9 false (.load (.t 10))),(Qg 12 9 false (.bin .lss (.t 11) (.c (.iv 0)))),(Qa 13 (.pick (.t 9) (.c .tt) (.t 12))),(Qa 14 (.mv (.t 13))),(Qg 15 14 false (.fld 1 (.t 1))),(Qg 16 14 false (.load (.t 15))),(Qg 17 14 false (.bin .gtr (.t 16) (.c (.iv 2)))),(Qa 18 (.pick (.t 14) (.c .tt) (.t 17))),(Qa 19 (.mv (.t 18))),(Qg 20 19 false (.fld 2 (.t 1))),(Qg 21 19 false (.load (.t 20))),(Qg 22 19 false (.len (.t 21))),(Qg 23 19 false (.bin .geq (.t 22) (.c (.iv 64)))),(Qa 24 (.pick (.t 19) (.c .tt) (.t 23))),(Qa 25 (.mv (.t 24))),(Qg 26 25 false (.fld 2 (.t 1))),(Qg 27 25 false (.load (.t 26))),(Qg 28 25 false (.mv (.t 4))),(Qg 29 25 false (.call 99 [(.t 27),(.t 28)])),(Qa 30 (.pick (.t 25) (.c .tt) (.t 29)))]) (.ite (.t 30) (.seq (.reg [(Qa 2 (.mv (.c (.iv 130))))]) (.ret)) (.skip))) (.seq (.reg [(Qa 2 (.mv (.c (.iv 0))))]) (.ret)))))
theorem ok101:FnOK Tryz.prog 101 Tryz.f101 e101 [.t 2] 1 30:=⟨by kernel_rfl,⟨_,rfl,by kernel_rfl⟩,by kernel_rfl,by kernel_rfl⟩
noncomputable def Zv9:Bool→Option Bool
| x5=>
 some x5
noncomputable def Zw9 (x1:Side):Bool→Option Bool
| x4=>
 ifb (!x4) (
 Zv9 true) (
 ifb (decide (x1.Epoch<0)) (
 Zv9 true) (
 ifb (decide (65535<x1.Epoch)) (
 Zv9 true) (
 ifb (decide (x1.State<0)) (
 Zv9 true) (
 ifb (decide (3<x1.State)) (
 Zv9 true) (
 ifb x1.Dirty (
 Zv9 (!x1.Fork)) (
 Zv9 false))))))
noncomputable def Zx9 (x1:Side) (x2:Diner) (x3:Int):Option Bool:=
 ifb (decide (x3<x1.Peer)) (
 (Zw9 x1) (!decide (x1.Peer=x2.ID))) (
 (Zw9 x1) false)
theorem Zy9 (x1:Side) (x2:Diner) (x3:Int) (r:Bool) (h:Zx9 x1 x2 x3=some r):FunT Tryz.prog 142 [.agg [.iv x1.Peer,.iv x1.Epoch,.iv x1.State,.bv x1.Fork,.bv x1.Dirty,.bv x1.Token,.bv x1.Bottle,.bv x1.Ask],.ptr 1 0,.ptr 0 0] [some ⟨61,[.iv x2.ID,.iv x2.Phase,.sl 8 (List.map Side.row x2.Sides)]⟩,some ⟨3,[.iv x3]⟩] [] (.bv r) [some ⟨61,[.iv x2.ID,.iv x2.Phase,.sl 8 (List.map Side.row x2.Sides)]⟩,some ⟨3,[.iv x1.Peer]⟩] []:=by
 refine Zt5 ok142 rfl rfl rfl (by first | rfl | simp [go_sem]) fun w0 M0=>?_
 rw [Zx9] at h
 dsimp only [lun,List.cons_append,List.nil_append]
 refine Zl2 12 ?_;dsimp only [e142,go_sem];refine ⟨by simp,?_⟩;refine Zi4 (fun (x4:Bool)=>(⟨(.any :: .ptr 1 0 :: .any :: .ptr 2 0 :: .any :: .bv x4::an 44 []),[some ⟨61,[.iv x2.ID,.iv x2.Phase,.sl 8 (List.map Side.row x2.Sides)]⟩,some ⟨3,[.iv x3]⟩,some ⟨66,[.iv x1.Peer,.iv x1.Epoch,.iv x1.State,.bv x1.Fork,.bv x1.Dirty,.bv x1.Token,.bv x1.Bottle,.bv x1.Ask]⟩],[]⟩:St)) (Zw9 x1) r ?_ fun J1=>?_
 ·intro x4 h;rw [Zw9] at h;(try dsimp only);refine Zl2 11 ?_;dsimp only [e142,go_sem];refine ⟨by simp,?_⟩;refine Zi4 (fun (x5:Bool)=>(⟨(an 4 (.bv x5::an 45 [])),[some ⟨61,[.iv x2.ID,.iv x2.Phase,.sl 8 (List.map Side.row x2.Sides)]⟩,some ⟨3,[.iv x1.Peer]⟩],[]⟩:St)) Zv9 r ?_ fun J2=>?_
  ·intro x5 h;rw [Zv9] at h;(try dsimp only);obtain rfl:=Option.some.inj h;exact Zu5 ok142 rfl (by simp [go_sem])
  ·refine Zs4 21 h rfl (fun _ h=>?_) fun _ h=>?_
   ·dsimp only [go_sem];refine Zl2 30 ?_;dsimp only [e142,go_sem];refine ⟨by simp,?_⟩;exact Zv4 J2 (s:=true) h
   ·dsimp only [go_sem];refine Zl2 5 ?_;dsimp only [e142,go_sem];refine ⟨by simp,?_⟩;refine Zs4 26 h rfl (fun _ h=>?_) fun _ h=>?_
    ·dsimp only [go_sem];refine Zl2 25 ?_;dsimp only [e142,go_sem];refine ⟨by simp,?_⟩;exact Zv4 J2 (s:=true) h
    ·dsimp only [go_sem];refine Zl2 5 ?_;dsimp only [e142,go_sem];refine ⟨by simp,?_⟩;refine Zs4 31 h rfl (fun _ h=>?_) fun _ h=>?_
     ·dsimp only [go_sem];refine Zl2 20 ?_;dsimp only [e142,go_sem];refine ⟨by simp,?_⟩;exact Zv4 J2 (s:=true) h
     ·dsimp only [go_sem];refine Zl2 5 ?_;dsimp only [e142,go_sem];refine ⟨by simp,?_⟩;refine Zs4 36 h rfl (fun _ h=>?_) fun _ h=>?_
      ·dsimp only [go_sem];refine Zl2 15 ?_;dsimp only [e142,go_sem];refine ⟨by simp,?_⟩;exact Zv4 J2 (s:=true) h
      ·dsimp only [go_sem];refine Zl2 5 ?_;dsimp only [e142,go_sem];refine ⟨by simp,?_⟩;refine Zs4 41 h rfl (fun _ h=>?_) fun _ h=>?_
       ·dsimp only [go_sem];refine Zl2 10 ?_;dsimp only [e142,go_sem];refine ⟨by simp,?_⟩;exact Zv4 J2 (s:=true) h
       ·dsimp only [go_sem];refine Zl2 3 ?_;dsimp only [e142,go_sem];refine ⟨by simp,?_⟩;refine Zs4 44 h rfl (fun _ h=>?_) fun _ h=>?_
        ·dsimp only [go_sem];refine Zl2 7 ?_;dsimp only [e142,go_sem];refine ⟨by simp,?_⟩;exact Zv4 J2 (s:=!x1.Fork) h
        ·dsimp only [go_sem];refine Zl2 7 ?_;dsimp only [e142,go_sem];refine ⟨by simp,?_⟩;exact Zv4 J2 (s:=false) h
 ·refine Zs4 10 h rfl (fun _ h=>?_) fun _ h=>?_
  ·dsimp only [go_sem];refine Zl2 8 ?_;dsimp only [e142,go_sem];refine ⟨by simp,?_⟩;exact Zv4 J1 (s:=!decide (x1.Peer=x2.ID)) h
  ·dsimp only [go_sem];refine Zl2 8 ?_;dsimp only [e142,go_sem];refine ⟨by simp,?_⟩;exact Zv4 J1 (s:=false) h
noncomputable def Zz9:Int→Option (Int×Int)
| x19=>
 some ((-1),x19)
noncomputable def Z0a (x1:(List Side)) (x2:Diner):(Int×Int)→Option ((Int×Int) ⊕ (Int×Int))
| (x8,x9)=>
 ifb (decide (x8<(ln Side.row x1))) (
 (at_ x1 x8).bind fun x10=>
 (Zx9 x10 x2 x9).bind fun x11=>
 ifb x11 (
 Option.map Sum.inr (some (x8,x10.Peer))) (
 some (.inl (wr (x8+1),x10.Peer)))) (
 Option.map Sum.inr (Zz9 x9))
noncomputable def Z1a (x1:(List Side)) (x2:Diner) (x3:Int):Option (Int×Int):=
 loop (Z0a x1 x2) (0,x3)
theorem Z2a (x1:(List Side)) (x2:Diner) (x3:Int) (r:(Int×Int)) (h:Z1a x1 x2 x3=some r):FunT Tryz.prog 116 [.sl 8 (List.map Side.row x1),.clo 142 [.ptr 1 0,.ptr 0 0]] [some ⟨61,[.iv x2.ID,.iv x2.Phase,.sl 8 (List.map Side.row x2.Sides)]⟩,some ⟨3,[.iv x3]⟩] [] (.iv r.1) [some ⟨61,[.iv x2.ID,.iv x2.Phase,.sl 8 (List.map Side.row x2.Sides)]⟩,some ⟨3,[.iv r.2]⟩] []:=by
 refine Zt5 ok116 rfl rfl rfl (by first | rfl | simp [go_sem]) fun w0 M0=>?_
 rw [Z1a] at h
 dsimp only [lun,List.cons_append,List.nil_append]
 refine Zl2 11 ?_;dsimp only [Z07,Zz6,go_sem];refine ⟨by simp,?_⟩;refine Zi4 (fun (x19:Int)=>(⟨(an 19 []),[some ⟨61,[.iv x2.ID,.iv x2.Phase,.sl 8 (List.map Side.row x2.Sides)]⟩,some ⟨3,[.iv x19]⟩],[]⟩:St)) Zz9 r ?_ fun J1=>?_
 ·intro x19 h;rw [Zz9] at h;(try dsimp only);refine Zl2 4 ?_;dsimp only [Z07,Zz6,go_sem];refine ⟨by simp,?_⟩;obtain rfl:=Option.some.inj h;exact Zu5 ok116 rfl (by simp [go_sem])
 ·refine Zl2 1 ?_;dsimp only [Z07,Zz6,go_sem];refine ⟨by simp,?_⟩;refine Zj4 h (fun ((x8,x9):(Int×Int))=>(⟨(.sl 8 (List.map Side.row x1) :: .clo 142 [.ptr 1 0,.ptr 0 0]::an 5 (.iv (ln Side.row x1) :: .iv x8::an 10 [])),[some ⟨61,[.iv x2.ID,.iv x2.Phase,.sl 8 (List.map Side.row x2.Sides)]⟩,some ⟨3,[.iv x9]⟩],[]⟩:St)) (by simp [go_sem]) (by rintro ⟨x8,x9⟩;first | rfl | simp [go_sem]) ?_;rintro n1 ⟨x8,x9⟩ y1 h hin1 hout1;rw [Z0a] at h;(try dsimp only);refine Zl2 5 ?_;dsimp only [Z07,Zz6,go_sem]
  refine ⟨by simp,?_⟩;refine Zk4 h rfl (fun _ h=>?_) fun _ h=>?_
  ·refine Zl2 13 ?_;dsimp only [Z07,Zz6,go_sem];refine ⟨by simp,?_⟩;obtain ⟨x10,ex10,h⟩:=Option.bind_eq_some_iff.1 h;refine Zn4 Side.row ex10 trivial rfl rfl rfl ?_;refine Zl2 1 ?_;dsimp only [Z07,Zz6,go_sem];refine ⟨by simp,?_⟩;obtain ⟨x11,ex11,h⟩:=Option.bind_eq_some_iff.1 h;refine Zx5 [true,true] [] trivial rfl (Zy9 x10 x2 x9 _ ex11) (by kernel_rfl) (h:=?_);dsimp only [go_sem];refine Zl2 1 ?_;dsimp only [Z07,Zz6,go_sem];refine ⟨by simp,?_⟩;refine Zk4 h rfl (fun _ h=>?_) fun _ h=>?_
   ·refine Zl2 5 ?_;dsimp only [Z07,Zz6,go_sem];refine ⟨by simp,?_⟩;obtain rfl:=Option.some.inj (Zh4 h hout1);exact Zu5 ok116 rfl (by simp [go_sem])
   ·refine Zl2 6 ?_;dsimp only [Z07,Zz6,go_sem];refine ⟨by simp,?_⟩;exact Zu4 h hin1
  ·refine Zl2 1 ?_;dsimp only [Z07,Zz6,go_sem];refine ⟨by simp,?_⟩;exact Zv4 J1 (s:=x9) (Zh4 h hout1)
noncomputable def Z3a (x1:(List Side)) (x2:Diner) (x3:Int):Option (Bool×Int):=
 (Z1a x1 x2 x3).bind fun x4=>
 some (decide (0≤x4.1),x4.2)
theorem Z4a (x1:(List Side)) (x2:Diner) (x3:Int) (r:(Bool×Int)) (h:Z3a x1 x2 x3=some r):FunT Tryz.prog 99 [.sl 8 (List.map Side.row x1),.clo 142 [.ptr 1 0,.ptr 0 0]] [some ⟨61,[.iv x2.ID,.iv x2.Phase,.sl 8 (List.map Side.row x2.Sides)]⟩,some ⟨3,[.iv x3]⟩] [] (.bv r.1) [some ⟨61,[.iv x2.ID,.iv x2.Phase,.sl 8 (List.map Side.row x2.Sides)]⟩,some ⟨3,[.iv r.2]⟩] []:=by
 refine Zt5 ok99 rfl rfl rfl (by first | rfl | simp [go_sem]) fun w0 M0=>?_
 rw [Z3a] at h
 dsimp only [lun,List.cons_append,List.nil_append]
 refine Zl2 8 ?_;dsimp only [e99,go_sem];refine ⟨by simp,?_⟩;obtain ⟨x4,ex4,h⟩:=Option.bind_eq_some_iff.1 h;refine Zw5 [true,true] [] trivial (Z2a x1 x2 x3 _ ex4) (h:=?_);dsimp only [go_sem];refine Zl2 3 ?_;dsimp only [e99,go_sem];refine ⟨by simp,?_⟩;obtain rfl:=Option.some.inj h;exact Zu5 ok99 rfl (by simp [go_sem])
noncomputable def Z5a:Bool→Option Int
| x3=>
 ifb x3 (
 some 130) (
 some 0)
noncomputable def Z6a (x1:Diner):Option Int:=
 ifb (decide (x1.ID<0)) (
 Z5a true) (
 ifb (decide (x1.Phase<0)) (
 Z5a true) (
 ifb (decide (2<x1.Phase)) (
 Z5a true) (
 ifb (decide (64≤(ln Side.row x1.Sides))) (
 Z5a true) (
 (Z3a x1.Sides x1 ((-1))).bind fun x2=>
 Z5a x2.1))))
theorem Z7a (x1:Diner) (r:Int) (h:Z6a x1=some r):Zq2 Tryz.prog 101 [.agg (Diner.row x1)] (.iv r):=by
 refine Zu2 ok101 rfl rfl fun w0 H0=>?_
 rw [Z6a] at h
 refine Zl2 22 ?_;dsimp only [e101,go_sem];refine ⟨by simp,?_⟩;refine Zi4 (fun (x3:Bool)=>(⟨(an 30 [.bv x3]),[],[]⟩:St)) Z5a r ?_ fun J1=>?_
 ·intro x3 h;rw [Z5a] at h;(try dsimp only);refine Zk4 h rfl (fun _ h=>?_) fun _ h=>?_
  ·refine Zl2 4 ?_;dsimp only [e101,go_sem];refine ⟨by simp,?_⟩;exact Zt4 (res:=fun (r:Int)=>.iv r) ok101 h
  ·refine Zl2 5 ?_;dsimp only [e101,go_sem];refine ⟨by simp,?_⟩;exact Zt4 (res:=fun (r:Int)=>.iv r) ok101 h
 ·refine Zs4 9 h rfl (fun _ h=>?_) fun _ h=>?_
  ·dsimp only [go_sem];refine Zl2 22 ?_;dsimp only [e101,go_sem];refine ⟨by simp,?_⟩;exact Zv4 J1 (s:=true) h
  ·dsimp only [go_sem];refine Zl2 5 ?_;dsimp only [e101,go_sem];refine ⟨by simp,?_⟩;refine Zs4 14 h rfl (fun _ h=>?_) fun _ h=>?_
   ·dsimp only [go_sem];refine Zl2 17 ?_;dsimp only [e101,go_sem];refine ⟨by simp,?_⟩;exact Zv4 J1 (s:=true) h
   ·dsimp only [go_sem];refine Zl2 5 ?_;dsimp only [e101,go_sem];refine ⟨by simp,?_⟩;refine Zs4 19 h rfl (fun _ h=>?_) fun _ h=>?_
    ·dsimp only [go_sem];refine Zl2 12 ?_;dsimp only [e101,go_sem];refine ⟨by simp,?_⟩;exact Zv4 J1 (s:=true) h
    ·dsimp only [go_sem];refine Zl2 6 ?_;dsimp only [e101,go_sem];refine ⟨by simp,?_⟩;refine Zs4 25 h rfl (fun _ h=>?_) fun _ h=>?_
     ·dsimp only [go_sem];refine Zl2 6 ?_;dsimp only [e101,go_sem];refine ⟨by simp,?_⟩;exact Zv4 J1 (s:=true) h
     ·dsimp only [go_sem];refine Zl2 3 ?_;dsimp only [e101,go_sem];refine ⟨by simp,?_⟩;obtain ⟨x2,ex2,h⟩:=Option.bind_eq_some_iff.1 h;refine Zw5 [true,true] [] trivial (Z4a x1.Sides x1 ((-1)) _ ex2) (h:=?_);dsimp only [go_sem];refine Zl2 2 ?_;dsimp only [e101,go_sem];refine ⟨by simp,?_⟩;exact Zv4 J1 (s:=x2.1) h
set_option maxRecDepth 100000
set_option maxHeartbeats 4000000
def e158:EC:=.seq (.reg [(Qa 3 (.box 66 8 (.t 0))),(Qa 4 (.mv (.c .ff)))]) (.seq (.reg [(Qa 5 (.fld 0 (.t 3))),(Qa 6 (.load (.t 5))),(Qa 7 (.load (.t 1))),(Qa 8 (.bin .eql (.t 6) (.t 7))),(Qa 9 (.mv (.t 8))),(Qg 10 9 true (.fld 1 (.t 3))),(Qg 11 9 true (.load (.t 10))),(Qg 12 9 true (.fld 1 (.t 2))),(Qg 13 9 true (.load (.t 12))),(Qg 14 9 true (.bin .eql (.t 11) (.t 13))),(Qa 15 (.pick (.t 9) (.t 14) (.c .ff))),(Qa 4 (.mv (.t 15)))]) (.ret))
theorem ok158:FnOK Tryz.prog 158 Tryz.f158 e158 [.t 4] 3 13:=⟨by kernel_rfl,⟨_,rfl,by kernel_rfl⟩,by kernel_rfl,by kernel_rfl⟩
noncomputable def Z8a:Bool→Option Bool
| x4=>
 some x4
noncomputable def Z9a (x1:Side) (x2:Int) (x3:Msg):Option Bool:=
 ifb (decide (x1.Peer=x2)) (
 Z8a (decide (x1.Epoch=x3.Epoch))) (
 Z8a false)
theorem k_dine_Get_1 (x1:Side) (x2:Int) (x3:Msg) (r:Bool) (h:Z9a x1 x2 x3=some r):Zq2 Tryz.prog 158 [.agg (Side.row x1),.elt (Z05 x2) 0,.elt (Msg.row x3) 0] (.bv r):=by
 refine Zu2 ok158 rfl rfl fun w0 H0=>?_
 rw [Z9a] at h
 refine Zl2 12 ?_;dsimp only [e158,go_sem];refine ⟨by simp,?_⟩;refine Zi4 (fun (x4:Bool)=>(⟨(an 4 (.bv x4::an 11 [])),[],[]⟩:St)) Z8a r ?_ fun J1=>?_
 ·intro x4 h;rw [Z8a] at h;(try dsimp only);exact Zt4 (res:=fun (r:Bool)=>.bv r) ok158 h
 ·refine Zs4 9 h rfl (fun _ h=>?_) fun _ h=>?_
  ·dsimp only [go_sem];refine Zl2 8 ?_;dsimp only [e158,go_sem];refine ⟨by simp,?_⟩;exact Zv4 J1 (s:=decide (x1.Epoch=x3.Epoch)) h
  ·dsimp only [go_sem];refine Zl2 8 ?_;dsimp only [e158,go_sem];refine ⟨by simp,?_⟩;exact Zv4 J1 (s:=false) h
set_option maxRecDepth 100000
set_option maxHeartbeats 4000000
def e72:EC:=.seq (.reg [(Qa 2 (.mv (.c .nl)))]) (.seq (.seq (.reg [(Qa 3 (.mv (.t 0))),(Qa 4 (.isnil false (.t 3)))]) (.ite (.t 4) (.seq (.reg [(Qa 2 (.mv (.c .nl)))]) (.ret)) (.skip))) (.seq (.reg [(Qa 5 (.bsl 66 8 0 [.iv 0,.iv 0,.iv 0,.ff,.ff,.ff,.ff,.ff] [])),(Qa 6 (.mv (.t 0))),(Qa 7 (.app 66 8 32 (.t 5) (.t 6))),(Qa 2 (.mv (.t 7)))]) (.ret)))
theorem ok72:FnOK Tryz.prog 72 Tryz.f72 e72 [.t 2] 1 7:=⟨by kernel_rfl,⟨_,rfl,by kernel_rfl⟩,by kernel_rfl,by kernel_rfl⟩
noncomputable def Zaa (x1:(List Side)):Option (List Side):=Zc4 32 [] x1
theorem Zba (x1:(List Side)) (r:(List Side)) (h:Zaa x1=some r):FunO Tryz.prog 72 [.sl 8 (List.map Side.row x1)] 66 8 (List.map Side.row r):=by
 refine Z95 ok72 rfl fun w0 H0=>?_
 rw [Zaa] at h
 refine Zl2 100 ?_
 dsimp only [e72,go_sem]
 refine ⟨by simp,?_⟩
 refine V_isnil trivial rfl (fun hn=>?_) ?_
 ·refine Zl2 100 ?_
  dsimp only [go_sem]
  refine ⟨by simp,?_⟩
  refine V_own 2 66 8 rfl rfl ?_
  dsimp only [go_sem]
  have hn:x1=[]:=by simpa using hn
  subst hn
  exact Zh5 Side.row (e:=[]) ok72 (by simpa [Zc4] using h) rfl rfl
 ·refine Zl2 100 ?_
  dsimp only [go_sem]
  refine ⟨by simp,?_⟩
  refine Zq4 Side.row h trivial rfl rfl rfl ?_
  refine Zl2 100 ?_
  dsimp only [go_sem]
  refine ⟨by simp,?_⟩
  exact Zh5 Side.row ok72 (rfl:some r=some r) rfl rfl
theorem k_slices_Clone_Side (x1:(List Side)) (r:(List Side)) (h:Zaa x1=some r):Zq2 Tryz.prog 72 [.sl 8 (List.map Side.row x1)] (.sl 8 (List.map Side.row r)):=(Zba x1 r h).sealed
def Zca (_F:Nat) (x1:(List Side)):Option (List Side):=Zc4 32 [] x1
theorem le_slices_Clone_Side {F:Nat} {x1:(List Side)}:ole (Zca F x1) (Zaa x1):=ole_refl _
set_option maxRecDepth 100000
set_option maxHeartbeats 4000000
def Zda:EC:=.seq (.reg [(Qa 3 (.box 61 3 (.t 0))),(Qa 4 (.box 3 1 (.t 1))),(Qa 5 (.box 93 3 (.t 2))),(Qa 6 (.alloc 61 [.iv 0,.iv 0,.nl])),(Qa 7 (.mv (.c (.iv 0))))]) (.seq (.seq (.reg [(Qa 12 (.loadA 3 (.t 3))),(Qa 13 (.call 101 [(.t 12)])),(Qa 8 (.mv (.t 13)))]) (.seq (.reg [(Qa 14 (.mv (.t 8))),(Qa 15 (.bin .neq (.t 14) (.c (.iv 0))))]) (.ite (.t 15) (.seq (.reg [(Qa 16 (.build [.iv 0,.iv 0,.nl] [])),(Qa 17 (.mv (.t 8))),(Qb (.store 3 (.t 6) (.t 16))),(Qa 7 (.mv (.t 17)))]) (.ret)) (.skip)))) (.seq (.reg [(Qa 18 (.fld 2 (.t 3))),(Qa 19 (.load (.t 18))),(Qa 20 (.mkf 158 [(.t 4),(.t 5)])),(Qa 21 (.call 116 [(.t 19),(.t 20)])),(Qa 9 (.mv (.t 21)))]) (.seq (.seq (.reg [(Qa 22 (.mv (.t 9))),(Qa 23 (.bin .lss (.t 22) (.c (.iv 0))))]) (.ite (.t 23) (.seq (.reg [(Qa 24 (.build [.iv 0,.iv 0,.nl] [])),(Qb (.store 3 (.t 6) (.t 24))),(Qa 7 (.mv (.c (.iv 131))))]) (.ret)) (.skip))) (.seq (.reg [(Qa 25 (.fld 2 (.t 3))),(Qa 26 (.load (.t 25))),(Qa 27 (.call 72 [(.t 26)])),(Qa 28 (.fld 2 (.t 3))),(Qb (.store 1 (.t 28) (.t 27)))]) (.seq (.reg [(Qa 29 (.fld 2 (.t 3))),(Qa 30 (.load (.t 29))),(Qa 31 (.mv (.t 9))),(Qa 32 (.idx 8 (.t 30) (.t 31))),(Qa 10 (.mv (.t 32)))]) (.seq (.reg [(Qa 11 (.mv (.c .ff)))]) (.seq (.blk 0 (.seq (.reg [(Qa 35 (.fld 0 (.t 5))),(Qa 36 (.load (.t 35))),(Qa 37 (.bin .eql (.t 36) (.c (.iv 1)))),(Qa 38 (.mv (.t 37))),(Qg 39 38 true (.fld 2 (.t 5))),(Qg 40 38 true (.load (.t 39))),(Qg 41 38 true (.bin .eql (.t 40) (.c (.iv 0)))),(Qa 42 (.pick (.t 38) (.t 41) (.c .ff))),(Qa 34 (.mv (.t 42)))]) (.ite (.t 34) (.reg [(Qa 43 (.mv (.t 10))),(Qa 44 (.mv (.t 10))),(Qa 45 (.nilchk (.t 44))),(Qa 46 (.fld 3 (.t 45))),(Qa 47 (.load (.t 46))),(Qa 11 (.mv (.t 47))),(Qa 48 (.nilchk (.t 43))),(Qa 49 (.fld 3 (.t 48))),(Qb (.store 1 (.t 49) (.c .tt)))]) (.seq (.reg [(Qa 51 (.fld 0 (.t 5))),(Qa 52 (.load (.t 51))),(Qa 53 (.bin .eql (.t 52) (.c (.iv 2)))),(Qa 54 (.mv (.t 53))),(Qg 55 54 true (.fld 2 (.t 5))),(Qg 56 54 true (.load (.t 55))),(Qg 57 54 true (.bin .eql (.t 56) (.c (.iv 0)))),(Qa 58 (.pick (.t 54) (.t 57) (.c .ff))),(Qa 50 (.mv (.t 58)))]) (.ite (.t 50) (.reg [(Qa 59 (.mv (.t 10))),(Qa 60 (.mv (.t 10))),(Qa 61 (.nilchk (.t 60))),(Qa 62 (.fld 5 (.t 61))),(Qa 63 (.load (.t 62))),(Qa 11 (.mv (.t 63))),(Qa 64 (.nilchk (.t 59))),(Qa 65 (.fld 5 (.t 64))),(Qb (.store 1 (.t 65) (.c .tt)))]) (.seq (.reg [(Qa 33 (.build [.iv 0,.iv 0,.nl] [])),(Qb (.store 3 (.t 6) (.t 33))),(Qa 7 (.mv (.c (.iv 133))))]) (.ret))))))) (.seq (.seq (.reg [(Qa 66 (.mv (.t 11)))]) (.ite (.t 66) (.seq (.reg [(Qa 67 (.build [.iv 0,.iv 0,.nl] [])),(Qb (.store 3 (.t 6) (.t 67))),(Qa 7 (.mv (.c (.iv 132))))]) (.ret)) (.skip))) (.seq (.reg [(Qa 68 (.loadA 3 (.t 3))),(Qb (.store 3 (.t 6) (.t 68))),(Qa 7 (.mv (.c (.iv 0))))]) (.ret))))))))))
theorem ok138:FnOK Tryz.prog 138 Tryz.f138 Zda [.c 6 (some 3),.t 7] 3 66:=⟨by kernel_rfl,⟨_,rfl,by kernel_rfl⟩,by kernel_rfl,by kernel_rfl⟩
noncomputable def Zea (x1:Diner):(Bool×(List Side))→Option (Diner×Int)
| (x10,x11)=>
 ifb x10 (
 some ((Diner.mk 0 0 (([]:(List Side)))),132)) (
 some ((Diner.mk x1.ID x1.Phase x11),0))
noncomputable def Zfa (x1:Diner) (x5:Int) (x6:(List Side)) (x7:Side):Bool→Option (Diner×Int)
| x9=>
 ifb x9 (
 (Zea x1) (x7.Token,x6.set (x5).toNat ((Side.mk x7.Peer x7.Epoch x7.State x7.Fork x7.Dirty true x7.Bottle x7.Ask)))) (
 some ((Diner.mk 0 0 (([]:(List Side)))),133))
noncomputable def Zga (x1:Diner) (x3:Msg) (x5:Int) (x6:(List Side)) (x7:Side):Bool→Option (Diner×Int)
| x8=>
 ifb x8 (
 (Zea x1) (x7.Fork,x6.set (x5).toNat ((Side.mk x7.Peer x7.Epoch x7.State true x7.Dirty x7.Token x7.Bottle x7.Ask)))) (
 ifb (decide (x3.Kind=2)) (
 (Zfa x1 x5 x6 x7) (decide (x3.Num=0))) (
 (Zfa x1 x5 x6 x7) false))
noncomputable def Zha (x1:Diner) (x2:Int) (x3:Msg):Option (Diner×Int):=
 (Z6a x1).bind fun x4=>
 ifb (!decide (x4=0)) (
 some ((Diner.mk 0 0 (([]:(List Side)))),x4)) (
 (Z37 x1.Sides ((fun z=>Z9a z x2 x3))).bind fun x5=>
 ifb (decide (x5<0)) (
 some ((Diner.mk 0 0 (([]:(List Side)))),131)) (
 (Zaa x1.Sides).bind fun x6=>
 (at_ x6 x5).bind fun x7=>
 ifb (decide (x3.Kind=1)) (
 (Zga x1 x3 x5 x6 x7) (decide (x3.Num=0))) (
 (Zga x1 x3 x5 x6 x7) false)))
theorem k_dine_Get (x1:Diner) (x2:Int) (x3:Msg) (r:(Diner×Int)) (h:Zha x1 x2 x3=some r):Zq2 Tryz.prog 138 [.agg (Diner.row x1),.iv x2,.agg (Msg.row x3)] (.tup [.agg (Diner.row r.1),.iv r.2]):=by
 refine Zu2 ok138 rfl rfl fun w0 H0=>?_
 rw [Zha] at h
 refine Zl2 12 ?_;dsimp only [Zda,go_sem];refine ⟨by simp,?_⟩;obtain ⟨x4,ex4,h⟩:=Option.bind_eq_some_iff.1 h;refine Zz2 trivial (Z7a x1 _ ex4) (h:=?_);refine Zl2 7 ?_;dsimp only [Zda,go_sem];refine ⟨by simp,?_⟩;refine Zk4 h rfl (fun _ h=>?_) fun _ h=>?_
 ·refine Zl2 7 ?_;dsimp only [Zda,go_sem];refine ⟨by simp,?_⟩;exact Zt4 (res:=fun (r:(Diner×Int))=>.tup [.agg (Diner.row r.1),.iv r.2]) ok138 h
 ·refine Zl2 6 ?_;dsimp only [Zda,go_sem];refine ⟨by simp,?_⟩;obtain ⟨x5,ex5,h⟩:=Option.bind_eq_some_iff.1 h;refine Zy4 trivial (((Zw4.refl _).block 1 rfl rfl).block 2 rfl rfl) (Z47 x1.Sides _ _ ((fun z=>Z9a z x2 x3)) ⟨by kernel_rfl,rfl,fun z r hz=>k_dine_Get_1 z x2 x3 r hz⟩ _ ex5) (h:=?_);refine Zl2 8 ?_;dsimp only [Zda,go_sem];refine ⟨by simp,?_⟩;refine Zk4 h rfl (fun _ h=>?_) fun _ h=>?_
  ·refine Zl2 6 ?_;dsimp only [Zda,go_sem];refine ⟨by simp,?_⟩;exact Zt4 (res:=fun (r:(Diner×Int))=>.tup [.agg (Diner.row r.1),.iv r.2]) ok138 h
  ·refine Zl2 5 ?_;dsimp only [Zda,go_sem];refine ⟨by simp,?_⟩;obtain ⟨x6,ex6,h⟩:=Option.bind_eq_some_iff.1 h;refine Za5 trivial (Zba x1.Sides _ ex6) (h:=?_);refine Zl2 8 ?_;dsimp only [Zda,go_sem];refine ⟨by simp,?_⟩;obtain ⟨x7,ex7,h⟩:=Option.bind_eq_some_iff.1 h;refine Zi5 Side.row ex7 trivial rfl rfl rfl ?_;refine Zl2 14 ?_;dsimp only [Zda,go_sem];refine ⟨by simp,?_⟩
   refine Zi4 (fun (x8:Bool)=>(⟨(an 3 (.ptr 0 0 :: .any :: .ptr 2 0 :: .ptr 3 0::an 3 (.oel 0 ((x5).toNat*8) 0::an 23 (.bv x8::an 34 [])))),[some ⟨61,[.iv x1.ID,.iv x1.Phase,.osl 0]⟩,none,some ⟨93,[.iv x3.Kind,.iv x3.Epoch,.iv x3.Num]⟩,some ⟨61,[.iv 0,.iv 0,.nl]⟩],[some ⟨66,8,List.map Side.row x6⟩]⟩:St)) (Zga x1 x3 x5 x6 x7) r ?_ fun J1=>?_
   ·intro x8 h;rw [Zga] at h;(try dsimp only);refine Zi4 (fun ((x10,x11):(Bool×(List Side)))=>(⟨(an 3 (.ptr 0 0 :: .any :: .any :: .ptr 3 0::an 4 (.bv x10::an 57 []))),[some ⟨61,[.iv x1.ID,.iv x1.Phase,.osl 0]⟩,none,none,some ⟨61,[.iv 0,.iv 0,.nl]⟩],[some ⟨66,8,List.map Side.row x11⟩]⟩:St)) (Zea x1) r ?_ fun J2=>?_
    ·rintro ⟨x10,x11⟩ h;rw [Zea] at h;(try dsimp only);refine Zl2 6 ?_;dsimp only [Zda,go_sem];refine ⟨by simp,?_⟩;refine Zk4 h rfl (fun _ h=>?_) fun _ h=>?_
     ·refine Zl2 6 ?_;dsimp only [Zda,go_sem];refine ⟨by simp,?_⟩;exact Zt4 (res:=fun (r:(Diner×Int))=>.tup [.agg (Diner.row r.1),.iv r.2]) ok138 h
     ·refine Zl2 7 ?_;dsimp only [Zda,go_sem];refine ⟨by simp,?_⟩;refine Z83 0 rfl ?_;dsimp only [go_sem];exact Zt4 (res:=fun (r:(Diner×Int))=>.tup [.agg (Diner.row r.1),.iv r.2]) ok138 h
    ·refine Zk4 h rfl (fun _ h=>?_) fun _ h=>?_
     ·refine Zl2 5 ?_;dsimp only [Zda,go_sem];refine ⟨by simp,?_⟩;refine Zj5 Side.row ex7 trivial rfl rfl rfl ?_;refine Zl2 3 ?_;dsimp only [Zda,go_sem];refine ⟨by simp,?_⟩;refine Zo5 [.bv true] Side.row (y':=(Side.mk x7.Peer x7.Epoch x7.State true x7.Dirty x7.Token x7.Bottle x7.Ask)) ex7 trivial rfl rfl rfl (by first | exact Zb4 _ | simp [go_sem]) rfl rfl rfl rfl ?_;refine Zl2 1 ?_;dsimp only [Zda,go_sem];refine ⟨by simp,?_⟩
      exact Zv4 J2 (s:=(x7.Fork,x6.set (x5).toNat ((Side.mk x7.Peer x7.Epoch x7.State true x7.Dirty x7.Token x7.Bottle x7.Ask)))) h
     ·refine Zl2 6 ?_;dsimp only [Zda,go_sem];refine ⟨by simp,?_⟩;refine Zi4 (fun (x9:Bool)=>(⟨(an 3 (.ptr 0 0 :: .any :: .any :: .ptr 3 0::an 3 (.oel 0 ((x5).toNat*8) 0::an 39 (.bv x9::an 18 [])))),[some ⟨61,[.iv x1.ID,.iv x1.Phase,.osl 0]⟩,none,none,some ⟨61,[.iv 0,.iv 0,.nl]⟩],[some ⟨66,8,List.map Side.row x6⟩]⟩:St)) (Zfa x1 x5 x6 x7) r ?_ fun J3=>?_
      ·intro x9 h;rw [Zfa] at h;(try dsimp only);refine Zk4 h rfl (fun _ h=>?_) fun _ h=>?_
       ·refine Zl2 5 ?_;dsimp only [Zda,go_sem];refine ⟨by simp,?_⟩;refine Zj5 Side.row ex7 trivial rfl rfl rfl ?_;refine Zl2 3 ?_;dsimp only [Zda,go_sem];refine ⟨by simp,?_⟩;refine Zo5 [.bv true] Side.row (y':=(Side.mk x7.Peer x7.Epoch x7.State x7.Fork x7.Dirty true x7.Bottle x7.Ask)) ex7 trivial rfl rfl rfl (by first | exact Zb4 _ | simp [go_sem]) rfl rfl rfl rfl ?_;refine Zl2 1 ?_;dsimp only [Zda,go_sem];refine ⟨by simp,?_⟩
        exact Zv4 J2 (s:=(x7.Token,x6.set (x5).toNat ((Side.mk x7.Peer x7.Epoch x7.State x7.Fork x7.Dirty true x7.Bottle x7.Ask)))) h
       ·refine Zl2 6 ?_;dsimp only [Zda,go_sem];refine ⟨by simp,?_⟩;exact Zt4 (res:=fun (r:(Diner×Int))=>.tup [.agg (Diner.row r.1),.iv r.2]) ok138 h
      ·refine Zs4 54 h rfl (fun _ h=>?_) fun _ h=>?_
       ·dsimp only [go_sem];refine Zl2 6 ?_;dsimp only [Zda,go_sem];refine ⟨by simp,?_⟩;exact Zv4 J3 (s:=decide (x3.Num=0)) h
       ·dsimp only [go_sem];refine Zl2 6 ?_;dsimp only [Zda,go_sem];refine ⟨by simp,?_⟩;exact Zv4 J3 (s:=false) h
   ·refine Zs4 38 h rfl (fun _ h=>?_) fun _ h=>?_
    ·dsimp only [go_sem];refine Zl2 6 ?_;dsimp only [Zda,go_sem];refine ⟨by simp,?_⟩;exact Zv4 J1 (s:=decide (x3.Num=0)) h
    ·dsimp only [go_sem];refine Zl2 6 ?_;dsimp only [Zda,go_sem];refine ⟨by simp,?_⟩;exact Zv4 J1 (s:=false) h
def Zia (id q:Int) (x:Side):Bool:=decide (q<x.Peer)&&(!decide (x.Peer=id)&&(decide (0≤x.Epoch)&&(decide (x.Epoch≤65535)&&(decide (0≤x.State)&&(decide (x.State≤3)&&!(x.Dirty&&!x.Fork))))))
def Zja (id:Int):Int→List Side→Bool
 | _,[]=>true
 | q,x::r=>Zia id q x&&Zja id x.Peer r
def okD (d:Diner):Bool:=decide (0≤d.ID)&&(decide (0≤d.Phase)&&(decide (d.Phase≤2)&&(decide (d.Sides.length<64)&&Zja d.ID (-1) d.Sides)))
theorem s_odd (x:Side) (d:Diner) (q:Int):Zx9 x d q=some (!Zia d.ID q x):=by
 simp only [Zx9,Zw9,Zv9,Zia]
 by_cases h1:q<x.Peer
 ·by_cases h2:x.Peer=d.ID
  ·have h1':q<d.ID:=h2 ▸ h1
   simp [h2,h1']
  ·by_cases h3:x.Epoch<0
   ·have:¬0≤x.Epoch:=by omega
    simp [h1,h2,h3,this]
   ·have h3':0≤x.Epoch:=by omega
    by_cases h4:65535<x.Epoch
    ·have:¬x.Epoch≤65535:=by omega
     simp [h1,h2,h3,h4,this]
    ·have h4':x.Epoch≤65535:=by omega
     by_cases h5:x.State<0
     ·have:¬0≤x.State:=by omega
      simp [h1,h2,h3,h4,h5,this]
     ·have h5':0≤x.State:=by omega
      by_cases h6:3<x.State
      ·have:¬x.State≤3:=by omega
       simp [h1,h2,h3,h4,h5,h6,this]
      ·have h6':x.State≤3:=by omega
       simp only [h1,h2,h3,h4,h5,h6,h3',h4',h5',h6',decide_true,decide_false,Zc6,Zd6,Bool.not_true,Bool.not_false,Bool.true_and]
       cases x.Dirty<;>cases x.Fork<;>rfl
 ·simp [h1]
def Zka (id:Int):Nat→Int→List Side→Int×Int
 | _,q,[]=>(-1,q)
 | k,q,x::r=>if Zia id q x then Zka id (k+1) x.Peer r else (k,x.Peer)
theorem scanD_ok (id:Int):∀(l:List Side) (k:Nat) (q:Int),decide (0≤(Zka id k q l).1)=!Zja id q l
 | [],k,q=>by simp [Zka,Zja]
 | x::r,k,q=>by
   by_cases h:Zia id q x=true
   ·have e1:Zka id k q (x::r)=Zka id (k+1) x.Peer r:=by simp [Zka,h]
    rw [e1,scanD_ok id r (k+1) x.Peer]
    simp [Zja,h]
   ·have h':Zia id q x=false:=by simpa using h
    have e1:Zka id k q (x::r)=((k:Int),x.Peer):=by simp [Zka,h']
    rw [e1]
    simp [Zja,h']
def lastQ (q:Int) (pre:List Side):Int:=match pre.getLast? with | some x=>x.Peer | none=>q
theorem Zla (q:Int) (pre:List Side) (x:Side):lastQ q (pre++[x])=x.Peer:=by simp [lastQ]
theorem Zma (d:Diner):Z6a d=some (if okD d then 0 else 130):=by
 simp only [Z6a,Z5a,okD]
 by_cases h1:d.ID<0
 ·have:¬0≤d.ID:=by omega
  simp [h1,this]
 have h1':0≤d.ID:=by omega
 by_cases h2:d.Phase<0
 ·have:¬0≤d.Phase:=by omega
  simp [h1,h2,this]
 have h2':0≤d.Phase:=by omega
 by_cases h3:2<d.Phase
 ·have:¬d.Phase≤2:=by omega
  simp [h1,h2,h3,this]
 have h3':d.Phase≤2:=by omega
 by_cases h4:64≤d.Sides.length
 ·have h4':(64:Int)≤ln Side.row d.Sides:=by rw [Z25];omega
  have:¬d.Sides.length<64:=by omega
  simp [h1,h2,h3,h4',this]
 have h4':¬(64:Int)≤ln Side.row d.Sides:=by rw [Z25];omega
 have h4'':d.Sides.length<64:=by omega
 simp only [h1,h2,h3,h4',h1',h2',h3',h4'',decide_true,decide_false,Zd6,Bool.true_and]
 have key:Z1a d.Sides d (-1)=some (Zka d.ID 0 (-1) d.Sides):=by
  unfold Z1a
  refine Zr8 d.Sides _ (fun pre=>((pre.length:Int),lastQ (-1) pre)) (fun pre post=>some (Zka d.ID pre.length (lastQ (-1) pre) post)) (fun pre x post h=>?_) ?_
  ·have hx:=Zt8 h
   have hm:=Zu8 h
   dsimp only [Z0a]
   rw [Zi6 hx,Zc6,Zg6 hx,Option.bind_some,s_odd,Option.bind_some,Ze6]
   cases hs:Zia d.ID (lastQ (-1) pre) x with
   | true=>
     left
     exact ⟨by rw [Zc6,Zy8,Zla,Zk6 (by omega)],by simp [Zka,hs,Zla]⟩
   | false=>
     right
     exact ⟨_,rfl,by simp [Zka,hs]⟩
  ·dsimp only [Z0a]
   rw [Zj6,Zd6];rfl
 simp only [Z3a,key,Option.bind_some,scanD_ok]
 cases Zja d.ID (-1) d.Sides<;>rfl
theorem Zna (l:List Side) (hl:l.length≤1000000):Zaa l=some l:=by
 simp only [Zaa]
 rw [Zh6 _ _ (by omega) (by simp;omega)];rfl
theorem Zoa {d:Diner} (h:okD d=true):d.Sides.length<64:=by
 simp only [okD,Bool.and_eq_true,decide_eq_true_eq] at h;exact h.2.2.2.1
def Zpa:Diner:=⟨0,0,[]⟩
def turnD (d:Diner) (a b:Int):Diner×Int:=if okD d then (if d.Phase=a then (⟨d.ID,b,d.Sides⟩,0) else (Zpa,134)) else (Zpa,130)
def Zqa (ph:Int) (x:Side):Side:=if x.Fork&&(x.Dirty&&(x.Token&&!decide (ph=2))) then {x with Fork:=false,Dirty:=false} else x
def Zra (ph:Int) (x:Side):Side:=if decide (ph=1)&&((Zqa ph x).Token&&!(Zqa ph x).Fork) then {Zqa ph x with Token:=false} else Zqa ph x
def Zsa (id ph:Int) (x:Side):List Mail:=
 (if x.Fork&&(x.Dirty&&(x.Token&&!decide (ph=2))) then [⟨id,x.Peer,⟨1,x.Epoch,0⟩⟩] else []) ++
 (if decide (ph=1)&&((Zqa ph x).Token&&!(Zqa ph x).Fork) then [⟨id,x.Peer,⟨2,x.Epoch,0⟩⟩] else [])
def Zta (x:Side):Side:= {x with Dirty:=true}
def Zua (d:Diner):Diner:=if decide (d.Phase=1)&&(d.Sides.map (Zra d.Phase)).all (·.Fork) then ⟨d.ID,2,(d.Sides.map (Zra d.Phase)).map Zta⟩ else ⟨d.ID,d.Phase,d.Sides.map (Zra d.Phase)⟩
def Zva (d:Diner):List Mail:=d.Sides.flatMap (Zsa d.ID d.Phase)
theorem fireM_len (id ph:Int) (x:Side):(Zsa id ph x).length≤2:=by
 unfold Zsa
 rw [List.length_append]
 have h1:∀(c:Bool) (m:Mail),(if c then [m] else []).length≤1:=by intro c m;cases c<;>simp
 have:=h1 (x.Fork&&(x.Dirty&&(x.Token&&!decide (ph=2)))) ⟨id,x.Peer,⟨1,x.Epoch,0⟩⟩
 have:=h1 (decide (ph=1)&&((Zqa ph x).Token&&!(Zqa ph x).Fork)) ⟨id,x.Peer,⟨2,x.Epoch,0⟩⟩
 omega
theorem Zwa (l:List Side) (id ph:Int):(l.flatMap (Zsa id ph)).length≤2*l.length:=by
 induction l with
 | nil=>simp
 | cons x l ih=>have:=fireM_len id ph x;rw [List.flatMap_cons,List.length_append,List.length_cons];omega
def getD' (d:Diner) (peer:Int) (m:Msg):Diner×Int:=
 if okD d then match d.Sides.findIdx? (fun x=>decide (x.Peer=peer)&&decide (x.Epoch=m.Epoch)) with
  | none=>(Zpa,131)
  | some i=>match d.Sides[i]? with
    | none=>(Zpa,131)
    | some x=>
      if decide (m.Kind=1)&&decide (m.Num=0) then (if x.Fork then (Zpa,132) else (⟨d.ID,d.Phase,d.Sides.set i {x with Fork:=true}⟩,0))
      else if decide (m.Kind=2)&&decide (m.Num=0) then (if x.Token then (Zpa,132) else (⟨d.ID,d.Phase,d.Sides.set i {x with Token:=true}⟩,0))
      else (Zpa,133)
 else (Zpa,130)
theorem s_Get (d:Diner) (peer:Int) (m:Msg):Zha d peer m=some (getD' d peer m):=by
 simp only [Zha,Zma,Option.bind_some,getD']
 cases h:okD d with
 | false=>rfl
 | true=>
   have hl:=Zoa h
   simp only [if_true,decide_true,Bool.not_true,Zd6]
   rw [Zx7 d.Sides (fun z=>Z9a z peer m) (fun x=>decide (x.Peer=peer)&&decide (x.Epoch=m.Epoch)) (by omega) (fun x _=>by
    simp only [Z9a,Z8a]
    cases decide (x.Peer=peer)<;>rfl),Option.bind_some,plc_neg]
   have hfi:=Z69 (fun x:Side=>decide (x.Peer=peer)&&decide (x.Epoch=m.Epoch)) d.Sides
   cases hf:d.Sides.findIdx? (fun x=>decide (x.Peer=peer)&&decide (x.Epoch=m.Epoch)) with
   | none=>rfl
   | some i=>
     rw [hf] at hfi
     obtain ⟨x,hx,_⟩:=hfi
     simp only [Option.isNone_some,Zd6,Zna d.Sides (by omega),Option.bind_some,plc,Zg6 hx,hx,Int.toNat_natCast,Zga,Zea,Zfa]
     by_cases k1:m.Kind=1
     ·by_cases k2:m.Num=0
      ·cases x.Fork<;>simp [k1,k2,Zpa]
      ·have:¬(1:Int)=2:=by omega
       simp [k1,k2,Zpa]
     ·by_cases k3:m.Kind=2
      ·by_cases k2:m.Num=0
       ·cases x.Token<;>simp [k3,k2,Zpa]
       ·simp [k3,k2,Zpa]
      ·simp [k1,k3,Zpa]
set_option maxRecDepth 100000
set_option maxHeartbeats 4000000
def e100:EC:=.seq (.reg [(Qa 2 (.box 66 8 (.t 0))),(Qa 3 (.mv (.c .ff)))]) (.seq (.reg [(Qa 4 (.fld 0 (.t 2))),(Qa 5 (.load (.t 4))),(Qa 6 (.load (.t 1))),(Qa 7 (.bin .eql (.t 5) (.t 6))),(Qa 3 (.mv (.t 7)))]) (.ret))
theorem ok100:FnOK Tryz.prog 100 Tryz.f100 e100 [.t 3] 2 6:=⟨by kernel_rfl,⟨_,rfl,by kernel_rfl⟩,by kernel_rfl,by kernel_rfl⟩
noncomputable def Zxa (x1:Side) (x2:Int):Option Bool:=
 some (decide (x1.Peer=x2))
theorem Zya (x1:Side) (x2:Int) (r:Bool) (h:Zxa x1 x2=some r):Zq2 Tryz.prog 100 [.agg (Side.row x1),.elt (Z05 x2) 0] (.bv r):=by
 refine Zu2 ok100 rfl rfl fun w0 H0=>?_
 rw [Zxa] at h
 refine Zl2 13 ?_;dsimp only [e100,go_sem];refine ⟨by simp,?_⟩;exact Zt4 (res:=fun (r:Bool)=>.bv r) ok100 h
set_option maxRecDepth 100000
set_option maxHeartbeats 4000000
def e98:EC:=.seq (.reg [(Qa 2 (.box 3 1 (.t 0))),(Qa 3 (.mv (.c .ff)))]) (.seq (.reg [(Qa 4 (.fld 0 (.t 1))),(Qa 5 (.fld 2 (.t 4))),(Qa 6 (.load (.t 5))),(Qa 7 (.mkf 100 [(.t 2)])),(Qa 8 (.call 99 [(.t 6),(.t 7)])),(Qa 9 (.not (.t 8))),(Qa 3 (.mv (.t 9)))]) (.ret))
theorem ok98:FnOK Tryz.prog 98 Tryz.f98 e98 [.t 3] 2 8:=⟨by kernel_rfl,⟨_,rfl,by kernel_rfl⟩,by kernel_rfl,by kernel_rfl⟩
noncomputable def Zza (x1:Int) (x2:Drinker):Option Bool:=
 (Zt9 x2.Diner.Sides ((fun z=>Zxa z x1))).bind fun x3=>
 some (!x3)
theorem Z0b (x1:Int) (x2:Drinker) (r:Bool) (h:Zza x1 x2=some r):Zq2 Tryz.prog 98 [.iv x1,.elt (Drinker.row x2) 0] (.bv r):=by
 refine Zu2 ok98 rfl rfl fun w0 H0=>?_
 rw [Zza] at h
 refine Zl2 11 ?_;dsimp only [e98,go_sem];refine ⟨by simp,?_⟩;obtain ⟨x3,ex3,h⟩:=Option.bind_eq_some_iff.1 h;refine Zy4 trivial ((Zw4.refl _).block 0 rfl rfl) (Zu9 x2.Diner.Sides _ _ ((fun z=>Zxa z x1)) ⟨by kernel_rfl,rfl,fun z r hz=>Zya z x1 r hz⟩ _ ex3) (h:=?_);refine Zl2 3 ?_;dsimp only [e98,go_sem];refine ⟨by simp,?_⟩;exact Zt4 (res:=fun (r:Bool)=>.bv r) ok98 h
set_option maxRecDepth 100000
set_option maxHeartbeats 4000000
def Z1b:EC:=.seq (.reg [(Qa 7 (.bin .lss (.t 6) (.t 5)))]) (.seq (.ite (.t 7) (.skip) (.exit 0)) (.seq (.blk 1 (.seq (.reg [(Qa 8 (.mv (.t 6))),(Qa 3 (.mv (.t 8)))]) (.seq (.drw [(Qa 9 (.mv (.t 3))),(Qa 10 (.bin .gtr (.t 9) (.c (.iv 0)))),(Qa 11 (.mv (.t 10))),(Qg 12 11 true (.mv (.t 0))),(Qg 13 11 true (.mv (.t 3))),(Qg 14 11 true (.bin .sub (.t 13) (.c (.iv 1)))),(Qg 15 11 true (.idx 1 (.t 12) (.t 14))),(Qg 16 11 true (.load (.t 15))),(Qg 17 11 true (.mv (.t 0))),(Qg 18 11 true (.mv (.t 3))),(Qg 19 11 true (.idx 1 (.t 17) (.t 18))),(Qg 20 11 true (.load (.t 19))),(Qg 21 11 true (.bin .geq (.t 16) (.t 20))),(Qa 22 (.pick (.t 11) (.t 21) (.c .ff)))] [[],[0],[1],[2],[2],[4,2],[3,5,2],[6,2],[2],[2],[8,9,2],[10,2],[7,11,2],[2,12]] [[1],[0,2],[1,3,4,5,6,7,8,9,10,11,12,13],[2,6],[2,5],[2,4,6],[2,3,5,7],[2,6,12],[2,10],[2,10],[2,8,9,11],[2,10,12],[2,7,11,13],[2,12]]) (.ite (.t 22) (.seq (.reg [(Qa 2 (.mv (.c .ff)))]) (.ret)) (.skip))))) (.reg [(Qa 23 (.bin .add (.t 6) (.c (.iv 1)))),(Qa 6 (.mv (.t 23)))])))
def e102:EC:=.seq (.reg [(Qa 2 (.mv (.c .ff)))]) (.seq (.seq (.reg [(Qa 4 (.mv (.t 0))),(Qa 5 (.len (.t 4))),(Qa 6 (.mv (.c (.iv 0))))]) (.blk 0 (.loop Z1b))) (.seq (.reg [(Qa 2 (.mv (.c .tt)))]) (.ret)))
theorem ok102:FnOK Tryz.prog 102 Tryz.f102 e102 [.t 2] 1 23:=⟨by kernel_rfl,⟨_,rfl,by kernel_rfl⟩,by kernel_rfl,by kernel_rfl⟩
noncomputable def Z2b:Unit→Option Bool
| ()=>
 some true
noncomputable def Z3b (x6:Int):Bool→Option (Int ⊕ Bool)
| x9=>
 ifb x9 (
 Option.map Sum.inr (some false)) (
 some (.inl (wr (x6+1))))
noncomputable def Z4b (x1:(List Int)):Int→Option (Int ⊕ Bool)
| x6=>
 ifb (decide (x6<(ln Z05 x1))) (
 ifb (decide (0<x6)) (
 (at_ x1 (wr (x6-1))).bind fun x7=>
 (at_ x1 x6).bind fun x8=>
 (Z3b x6) (decide (x8≤x7))) (
 (Z3b x6) false)) (
 Option.map Sum.inr (Z2b ()))
noncomputable def Z5b (x1:(List Int)):Option Bool:=
 loop (Z4b x1) 0
theorem k_set_Valid (x1:(List Int)) (r:Bool) (h:Z5b x1=some r):Zq2 Tryz.prog 102 [.sl 1 (List.map Z05 x1)] (.bv r):=by
 refine Zu2 ok102 rfl rfl fun w0 H0=>?_
 rw [Z5b] at h
 refine Zl2 11 ?_;dsimp only [e102,Z1b,go_sem];refine ⟨by simp,?_⟩;refine Zi4 (fun (_:Unit)=>(⟨(an 24 []),[],[]⟩:St)) Z2b r ?_ fun J1=>?_
 ·rintro ⟨⟩ h;rw [Z2b] at h;(try dsimp only);refine Zl2 4 ?_;dsimp only [e102,Z1b,go_sem];refine ⟨by simp,?_⟩;exact Zt4 (res:=fun (r:Bool)=>.bv r) ok102 h
 ·refine Zl2 1 ?_;dsimp only [e102,Z1b,go_sem];refine ⟨by simp,?_⟩;refine Zj4 h (fun (x6:Int)=>(⟨(.sl 1 (List.map Z05 x1)::an 4 (.iv (ln Z05 x1) :: .iv x6::an 17 [])),[],[]⟩:St)) (by simp [go_sem]) (by intro x6;first | rfl | simp [go_sem]) ?_;rintro n1 x6 y1 h hin1 hout1;rw [Z4b] at h;(try dsimp only);refine Zl2 5 ?_;dsimp only [e102,Z1b,go_sem];refine ⟨by simp,?_⟩;refine Zk4 h rfl (fun _ h=>?_) fun _ h=>?_
  ·refine Zl2 9 ?_;dsimp only [e102,Z1b,go_sem];refine ⟨by simp,?_⟩;refine Zi4 (fun (x9:Bool)=>(⟨(.sl 1 (List.map Z05 x1)::an 4 (.iv (ln Z05 x1) :: .iv x6::an 15 [.bv x9,.any])),[],[]⟩:St)) (Z3b x6) y1 ?_ fun J2=>?_
   ·intro x9 h;rw [Z3b] at h;(try dsimp only);refine Zk4 h rfl (fun _ h=>?_) fun _ h=>?_
    ·refine Zl2 4 ?_;dsimp only [e102,Z1b,go_sem];refine ⟨by simp,?_⟩;exact Zt4 (res:=fun (r:Bool)=>.bv r) ok102 (Zh4 h hout1)
    ·refine Zl2 6 ?_;dsimp only [e102,Z1b,go_sem];refine ⟨by simp,?_⟩;exact Zu4 h hin1
   ·refine Zh3 (by kernel_rfl) fun all hall hs hnap haf=>?_;dsimp only [go_sem];refine Zf5 hall hs haf hnap 3 11 ?_;dsimp only [go_sem];refine ⟨by simp,?_⟩;refine Z35 11 h rfl (fun _ h=>?_) fun _ h=>?_
    ·dsimp only [go_sem];refine Zg5 hall hs haf hnap 5 6 [true,true,true,true,true,true,false,false,true,true,false,false,false,false] (⟨(.sl 1 (List.map Z05 x1) :: .any :: .any :: .iv x6 :: .any :: .iv (ln Z05 x1) :: .iv x6 :: .bv (decide (x6<(ln Z05 x1))) :: .iv x6 :: .iv x6 :: .bv (decide (0<x6)) :: .tt :: .sl 1 (List.map Z05 x1) :: .iv x6 :: .iv (wr (x6-1)) :: .any :: .any :: .sl 1 (List.map Z05 x1) :: .iv x6::an 5 []),[],[]⟩:St) (by kernel_rfl) ?_;obtain ⟨x7,ex7,h⟩:=Option.bind_eq_some_iff.1 h
     refine Zo4 hall hs haf hnap 6 Z05 ex7 rfl rfl trivial rfl rfl rfl rfl ?_;refine Zf5 hall hs haf hnap 1 4 ?_;dsimp only [go_sem];refine ⟨by simp,?_⟩;obtain ⟨x8,ex8,h⟩:=Option.bind_eq_some_iff.1 h;refine Zo4 hall hs haf hnap 10 Z05 ex8 rfl rfl trivial rfl rfl rfl rfl ?_;refine Zf5 hall hs haf hnap 3 0 ?_;dsimp only [go_sem];refine ⟨by simp,?_⟩;refine Zt3 rfl ?_ _;exact Zv4 J2 (s:=decide (x8≤x7)) h
    ·dsimp only [go_sem];refine Zg5 hall hs haf hnap 11 0 [true,true,true,true,true,true,true,true,true,true,true,true,true,true] (⟨[.sl 1 (List.map Z05 x1),.any,.any,.iv x6,.any,.iv (ln Z05 x1),.iv x6,.bv (decide (x6<(ln Z05 x1))),.iv x6,.iv x6,.bv (decide (0<x6)),.ff,.un,.un,.un,.un,.un,.un,.un,.un,.un,.un,.ff,.any],[],[]⟩:St) (by kernel_rfl) ?_;refine Zt3 rfl ?_ _;exact Zv4 J2 (s:=false) h
  ·refine Zl2 1 ?_;dsimp only [e102,Z1b,go_sem];refine ⟨by simp,?_⟩;exact Zv4 J1 (s:=()) (Zh4 h hout1)
set_option maxRecDepth 100000
set_option maxHeartbeats 4000000
def e58:EC:=.seq (.reg [(Qa 1 (.box 63 5 (.t 0))),(Qa 2 (.mv (.c (.iv 0))))]) (.seq (.reg [(Qa 4 (.mkf 98 [(.t 1)])),(Qa 3 (.mv (.t 4)))]) (.seq (.blk 0 (.seq (.seq (.reg [(Qa 6 (.fld 0 (.t 1))),(Qa 7 (.loadA 3 (.t 6))),(Qa 8 (.call 101 [(.t 7)])),(Qa 9 (.bin .neq (.t 8) (.c (.iv 0)))),(Qa 5 (.mv (.t 9)))]) (.ite (.t 5) (.skip) (.seq (.reg [(Qa 10 (.fld 3 (.t 1))),(Qa 11 (.load (.t 10))),(Qa 12 (.bin .lss (.t 11) (.c (.iv 0)))),(Qa 5 (.mv (.t 12)))]) (.ite (.t 5) (.skip) (.reg [(Qa 13 (.fld 3 (.t 1))),(Qa 14 (.load (.t 13))),(Qa 15 (.bin .gtr (.t 14) (.c (.iv 2)))),(Qa 5 (.mv (.t 15)))]))))) (.ite (.t 5) (.seq (.reg [(Qa 2 (.mv (.c (.iv 150))))]) (.ret)) (.seq (.seq (.reg [(Qa 17 (.fld 4 (.t 1))),(Qa 18 (.load (.t 17))),(Qa 19 (.call 102 [(.t 18)])),(Qa 20 (.not (.t 19))),(Qa 16 (.mv (.t 20)))]) (.ite (.t 16) (.skip) (.seq (.reg [(Qa 21 (.fld 3 (.t 1))),(Qa 22 (.load (.t 21))),(Qa 23 (.bin .eql (.t 22) (.c (.iv 0)))),(Qa 24 (.mv (.t 23))),(Qg 25 24 true (.fld 4 (.t 1))),(Qg 26 24 true (.load (.t 25))),(Qg 27 24 true (.len (.t 26))),(Qg 28 24 true (.bin .gtr (.t 27) (.c (.iv 0)))),(Qa 29 (.pick (.t 24) (.t 28) (.c .ff))),(Qa 16 (.mv (.t 29)))]) (.ite (.t 16) (.skip) (.reg [(Qa 30 (.fld 4 (.t 1))),(Qa 31 (.load (.t 30))),(Qa 32 (.mv (.t 3))),(Qa 33 (.call 103 [(.t 31),(.t 32)])),(Qa 16 (.mv (.t 33)))]))))) (.ite (.t 16) (.seq (.reg [(Qa 2 (.mv (.c (.iv 150))))]) (.ret)) (.skip)))))) (.seq (.reg [(Qa 2 (.mv (.c (.iv 0))))]) (.ret))))
theorem ok58:FnOK Tryz.prog 58 Tryz.f58 e58 [.t 2] 1 33:=⟨by kernel_rfl,⟨_,rfl,by kernel_rfl⟩,by kernel_rfl,by kernel_rfl⟩
noncomputable def Z6b:Bool→Option Int
| x7=>
 ifb x7 (
 some 150) (
 some 0)
noncomputable def Z7b (x1:Drinker):Bool→Option Int
| x5=>
 ifb x5 (
 Z6b x5) (
 (Zt7 x1.Need ((fun z=>Zza z x1))).bind fun x6=>
 Z6b x6)
noncomputable def Z8b (x1:Drinker):Bool→Option Int
| x3=>
 ifb x3 (
 some 150) (
 (Z5b x1.Need).bind fun x4=>
 ifb (!x4) (
 Z6b (!x4)) (
 ifb (decide (x1.Thirst=0)) (
 (Z7b x1) (decide (0<(ln Z05 x1.Need)))) (
 (Z7b x1) false)))
noncomputable def Z9b (x1:Drinker):Option Int:=
 (Z6a x1.Diner).bind fun x2=>
 ifb (!decide (x2=0)) (
 (Z8b x1) (!decide (x2=0))) (
 ifb (decide (x1.Thirst<0)) (
 (Z8b x1) (decide (x1.Thirst<0))) (
 (Z8b x1) (decide (2<x1.Thirst))))
theorem Zab (x1:Drinker) (r:Int) (h:Z9b x1=some r):Zq2 Tryz.prog 58 [.agg (Drinker.row x1)] (.iv r):=by
 refine Zu2 ok58 rfl rfl fun w0 H0=>?_
 rw [Z9b] at h
 refine Zl2 17 ?_;dsimp only [e58,go_sem];refine ⟨by simp,?_⟩;obtain ⟨x2,ex2,h⟩:=Option.bind_eq_some_iff.1 h;refine Zz2 trivial (Z7a x1.Diner _ ex2) (h:=?_);refine Zl2 3 ?_;dsimp only [e58,go_sem];refine ⟨by simp,?_⟩;refine Zi4 (fun (x3:Bool)=>(⟨(.any :: .ptr 0 0 :: .any :: .clo 98 [.ptr 0 0] :: .any :: .bv x3::an 28 []),[some ⟨63,[.iv x1.Diner.ID,.iv x1.Diner.Phase,.sl 8 (List.map Side.row x1.Diner.Sides),.iv x1.Thirst,.sl 1 (List.map Z05 x1.Need)]⟩],[]⟩:St)) (Z8b x1) r ?_ fun J1=>?_
 ·intro x3 h;rw [Z8b] at h;(try dsimp only);refine Zk4 h rfl (fun _ h=>?_) fun _ h=>?_
  ·refine Zl2 4 ?_;dsimp only [e58,go_sem];refine ⟨by simp,?_⟩;exact Zt4 (res:=fun (r:Int)=>.iv r) ok58 h
  ·refine Zl2 5 ?_;dsimp only [e58,go_sem];refine ⟨by simp,?_⟩;obtain ⟨x4,ex4,h⟩:=Option.bind_eq_some_iff.1 h;refine Zz2 trivial (k_set_Valid x1.Need _ ex4) (h:=?_);refine Zl2 3 ?_;dsimp only [e58,go_sem];refine ⟨by simp,?_⟩;refine Zi4 (fun (x7:Bool)=>(⟨(an 16 (.bv x7::an 17 [])),[],[]⟩:St)) Z6b r ?_ fun J2=>?_
   ·intro x7 h;rw [Z6b] at h;(try dsimp only);refine Zk4 h rfl (fun _ h=>?_) fun _ h=>?_
    ·refine Zl2 4 ?_;dsimp only [e58,go_sem];refine ⟨by simp,?_⟩;exact Zt4 (res:=fun (r:Int)=>.iv r) ok58 h
    ·refine Zl2 6 ?_;dsimp only [e58,go_sem];refine ⟨by simp,?_⟩;exact Zt4 (res:=fun (r:Int)=>.iv r) ok58 h
   ·refine Zk4 h rfl (fun _ h=>?_) fun _ h=>?_
    ·refine Zl2 1 ?_;dsimp only [e58,go_sem];refine ⟨by simp,?_⟩;exact Zv4 J2 (s:=!x4) h
    ·refine Zl2 6 ?_;dsimp only [e58,go_sem];refine ⟨by simp,?_⟩;refine Zi4 (fun (x5:Bool)=>(⟨(.any :: .ptr 0 0 :: .any :: .clo 98 [.ptr 0 0]::an 12 (.bv x5::an 17 [])),[some ⟨63,[.iv x1.Diner.ID,.iv x1.Diner.Phase,.sl 8 (List.map Side.row x1.Diner.Sides),.iv x1.Thirst,.sl 1 (List.map Z05 x1.Need)]⟩],[]⟩:St)) (Z7b x1) r ?_ fun J3=>?_
     ·intro x5 h;rw [Z7b] at h;(try dsimp only);refine Zk4 h rfl (fun _ h=>?_) fun _ h=>?_
      ·refine Zl2 1 ?_;dsimp only [e58,go_sem];refine ⟨by simp,?_⟩;exact Zv4 J2 (s:=x5) h
      ·refine Zl2 4 ?_;dsimp only [e58,go_sem];refine ⟨by simp,?_⟩;obtain ⟨x6,ex6,h⟩:=Option.bind_eq_some_iff.1 h;refine Zy4 trivial ((Zw4.refl _).block 0 rfl rfl) (Zu7 x1.Need _ _ ((fun z=>Zza z x1)) ⟨by kernel_rfl,rfl,fun z r hz=>Z0b z x1 r hz⟩ _ ex6) (h:=?_);refine Zl2 2 ?_;dsimp only [e58,go_sem];refine ⟨by simp,?_⟩;exact Zv4 J2 (s:=x6) h
     ·refine Zs4 24 h rfl (fun _ h=>?_) fun _ h=>?_
      ·dsimp only [go_sem];refine Zl2 7 ?_;dsimp only [e58,go_sem];refine ⟨by simp,?_⟩;exact Zv4 J3 (s:=decide (0<(ln Z05 x1.Need))) h
      ·dsimp only [go_sem];refine Zl2 7 ?_;dsimp only [e58,go_sem];refine ⟨by simp,?_⟩;exact Zv4 J3 (s:=false) h
 ·refine Zk4 h rfl (fun _ h=>?_) fun _ h=>?_
  ·refine Zl2 1 ?_;dsimp only [e58,go_sem];refine ⟨by simp,?_⟩;exact Zv4 J1 (s:=!decide (x2=0)) h
  ·refine Zl2 7 ?_;dsimp only [e58,go_sem];refine ⟨by simp,?_⟩;refine Zk4 h rfl (fun _ h=>?_) fun _ h=>?_
   ·refine Zl2 1 ?_;dsimp only [e58,go_sem];refine ⟨by simp,?_⟩;exact Zv4 J1 (s:=decide (x1.Thirst<0)) h
   ·refine Zl2 6 ?_;dsimp only [e58,go_sem];refine ⟨by simp,?_⟩;exact Zv4 J1 (s:=decide (2<x1.Thirst)) h
set_option maxRecDepth 100000
set_option maxHeartbeats 4000000
def e136:EC:=.seq (.reg [(Qa 2 (.mv (.c .nl)))]) (.seq (.seq (.reg [(Qa 3 (.mv (.t 0))),(Qa 4 (.isnil false (.t 3)))]) (.ite (.t 4) (.seq (.reg [(Qa 2 (.mv (.c .nl)))]) (.ret)) (.skip))) (.seq (.reg [(Qa 5 (.bsl 3 1 0 [.iv 0] [])),(Qa 6 (.mv (.t 0))),(Qa 7 (.app 3 1 8 (.t 5) (.t 6))),(Qa 2 (.mv (.t 7)))]) (.ret)))
theorem ok136:FnOK Tryz.prog 136 Tryz.f136 e136 [.t 2] 1 7:=⟨by kernel_rfl,⟨_,rfl,by kernel_rfl⟩,by kernel_rfl,by kernel_rfl⟩
noncomputable def Zbb (x1:(List Int)):Option (List Int):=Zc4 8 [] x1
theorem Zcb (x1:(List Int)) (r:(List Int)) (h:Zbb x1=some r):FunO Tryz.prog 136 [.sl 1 (List.map Z05 x1)] 3 1 (List.map Z05 r):=by
 refine Z95 ok136 rfl fun w0 H0=>?_
 rw [Zbb] at h
 refine Zl2 100 ?_
 dsimp only [e136,go_sem]
 refine ⟨by simp,?_⟩
 refine V_isnil trivial rfl (fun hn=>?_) ?_
 ·refine Zl2 100 ?_
  dsimp only [go_sem]
  refine ⟨by simp,?_⟩
  refine V_own 2 3 1 rfl rfl ?_
  dsimp only [go_sem]
  have hn:x1=[]:=by simpa using hn
  subst hn
  exact Zh5 Z05 (e:=[]) ok136 (by simpa [Zc4] using h) rfl rfl
 ·refine Zl2 100 ?_
  dsimp only [go_sem]
  refine ⟨by simp,?_⟩
  refine Zq4 Z05 h trivial rfl rfl rfl ?_
  refine Zl2 100 ?_
  dsimp only [go_sem]
  refine ⟨by simp,?_⟩
  exact Zh5 Z05 ok136 (rfl:some r=some r) rfl rfl
theorem k_slices_Clone_int (x1:(List Int)) (r:(List Int)) (h:Zbb x1=some r):Zq2 Tryz.prog 136 [.sl 1 (List.map Z05 x1)] (.sl 1 (List.map Z05 r)):=(Zcb x1 r h).sealed
def Zdb (_F:Nat) (x1:(List Int)):Option (List Int):=Zc4 8 [] x1
theorem le_slices_Clone_int {F:Nat} {x1:(List Int)}:ole (Zdb F x1) (Zbb x1):=ole_refl _
set_option maxRecDepth 100000
set_option maxHeartbeats 4000000
def e120:EC:=.seq (.reg [(Qa 1 (.box 63 5 (.t 0))),(Qa 2 (.alloc 63 [.iv 0,.iv 0,.nl,.iv 0,.nl]))]) (.seq (.drw [(Qa 3 (.fld 0 (.t 1))),(Qa 4 (.fld 2 (.t 3))),(Qa 5 (.load (.t 4))),(Qa 6 (.call 72 [(.t 5)])),(Qa 7 (.fld 4 (.t 1))),(Qa 8 (.load (.t 7))),(Qa 9 (.call 136 [(.t 8)])),(Qa 10 (.fld 0 (.t 1))),(Qa 11 (.fld 2 (.t 10))),(Qb (.store 1 (.t 11) (.t 6))),(Qa 12 (.fld 4 (.t 1))),(Qb (.store 1 (.t 12) (.t 9)))] [[],[0],[1],[2],[],[4],[5,3],[0,1,2,3,4,5],[7,0,1,2,3,4,5],[8,3,6,0,1,2,3,4,5],[0,1,2,3,4,5,6,7,8,9],[10,6,9,0,1,2,3,4,5,6,7,8,9]] [[1],[0,2],[1,3],[2,9],[5],[4,6],[5,11],[8],[7,9],[3,8],[11],[6,10]]) (.seq (.reg [(Qa 13 (.loadA 5 (.t 1))),(Qb (.store 5 (.t 2) (.t 13)))]) (.ret)))
theorem ok120:FnOK Tryz.prog 120 Tryz.f120 e120 [.c 2 (some 5)] 1 13:=⟨by kernel_rfl,⟨_,rfl,by kernel_rfl⟩,by kernel_rfl,by kernel_rfl⟩
noncomputable def Zeb (x1:Drinker):Option Drinker:=
 (Zaa x1.Diner.Sides).bind fun x2=>
 (Zbb x1.Need).bind fun x3=>
 some (Drinker.mk ((Diner.mk x1.Diner.ID x1.Diner.Phase x2)) x1.Thirst x3)
theorem Zfb (x1:Drinker) (r:Drinker) (h:Zeb x1=some r):Zq2 Tryz.prog 120 [.agg (Drinker.row x1)] (.agg (Drinker.row r)):=by
 refine Zu2 ok120 rfl rfl fun w0 H0=>?_
 rw [Zeb] at h
 refine Zl2 6 ?_;dsimp only [e120,go_sem];refine ⟨by simp,?_⟩;refine Zh3 (by kernel_rfl) fun all hall hs hnap haf=>?_;dsimp only [go_sem];refine Zf5 hall hs haf hnap 5 7 ?_;dsimp only [go_sem];refine ⟨by simp,?_⟩;refine Zu3 3 rfl ?_;obtain ⟨x2,ex2,h⟩:=Option.bind_eq_some_iff.1 h;refine Zb5 hall rfl trivial (Zba x1.Diner.Sides _ ex2) (h:=?_);dsimp only [go_sem];refine Zf5 hall hs haf hnap 2 4 ?_;dsimp only [go_sem];refine ⟨by simp,?_⟩;refine Zu3 6 rfl ?_;obtain ⟨x3,ex3,h⟩:=Option.bind_eq_some_iff.1 h
 refine Zb5 hall rfl trivial (Zcb x1.Need _ ex3) (h:=?_);dsimp only [go_sem];refine Zu3 9 rfl ?_;refine Zz3 hall rfl trivial ?_;dsimp only [go_sem];refine Zf5 hall hs haf hnap 1 1 ?_;dsimp only [go_sem];refine ⟨by simp,?_⟩;refine Zu3 11 rfl ?_;refine Zz3 hall rfl trivial ?_;dsimp only [go_sem];refine Zt3 rfl ?_ _;refine Zl2 5 ?_;dsimp only [e120,go_sem];refine ⟨by simp,?_⟩;refine Z83 0 rfl ?_;dsimp only [go_sem];refine Z83 1 rfl ?_;dsimp only [go_sem];exact Zt4 (res:=fun (r:Drinker)=>.agg (Drinker.row r)) ok120 h
set_option maxRecDepth 100000
set_option maxHeartbeats 4000000
def e176:EC:=.seq (.reg [(Qa 1 (.box 66 8 (.t 0))),(Qa 2 (.mv (.c .ff)))]) (.seq (.reg [(Qa 3 (.fld 2 (.t 1))),(Qa 4 (.load (.t 3))),(Qa 5 (.bin .eql (.t 4) (.c (.iv 1)))),(Qa 2 (.mv (.t 5)))]) (.ret))
theorem ok176:FnOK Tryz.prog 176 Tryz.f176 e176 [.t 2] 1 5:=⟨by kernel_rfl,⟨_,rfl,by kernel_rfl⟩,by kernel_rfl,by kernel_rfl⟩
noncomputable def Zgb (x1:Side):Option Bool:=
 some (decide (x1.State=1))
theorem Zhb (x1:Side) (r:Bool) (h:Zgb x1=some r):Zq2 Tryz.prog 176 [.agg (Side.row x1)] (.bv r):=by
 refine Zu2 ok176 rfl rfl fun w0 H0=>?_
 rw [Zgb] at h
 refine Zl2 12 ?_;dsimp only [e176,go_sem];refine ⟨by simp,?_⟩;exact Zt4 (res:=fun (r:Bool)=>.bv r) ok176 h
set_option maxRecDepth 100000
set_option maxHeartbeats 4000000
def e194:EC:=.drw [(Qa 5 (.load (.t 1))),(Qa 6 (.fld 0 (.t 2))),(Qa 7 (.load (.t 6))),(Qa 8 (.load (.t 3))),(Qa 9 (.nilchk (.t 8))),(Qa 10 (.fld 0 (.t 9))),(Qa 11 (.load (.t 10))),(Qa 12 (.mv (.t 0))),(Qa 13 (.load (.t 3))),(Qa 14 (.nilchk (.t 13))),(Qa 15 (.fld 1 (.t 14))),(Qa 16 (.load (.t 15))),(Qa 17 (.build [.iv 0,.iv 0,.iv 0] [(0,1,(.t 12)),(1,1,(.t 16))])),(Qa 18 (.build [.iv 0,.iv 0,.iv 0,.iv 0,.iv 0] [(0,1,(.t 7)),(1,1,(.t 11)),(2,3,(.t 17))])),(Qa 19 (.bsl 95 5 1 [.iv 0,.iv 0,.iv 0,.iv 0,.iv 0] [(0,(.t 18))])),(Qa 20 (.app 95 5 40 (.t 5) (.t 19))),(Qb (.store 1 (.t 1) (.t 20)))] [[],[],[1],[],[3],[4],[5],[],[],[8],[9],[10],[7,11],[2,6,12],[13],[0,14],[15,15,0,1,2,3,4,5,6,7,8,9,10,11,12,13,14,15]] [[15],[2],[1,13],[4],[3,5],[4,6],[5,13],[12],[9],[8,10],[9,11],[10,12],[7,11,13],[2,6,12,14],[13,15],[0,14,16],[15]]
theorem Zib:FnOK Tryz.prog 194 Tryz.f194 e194 [] 4 17:=⟨by kernel_rfl,⟨_,rfl,by kernel_rfl⟩,by kernel_rfl,by kernel_rfl⟩
set_option maxRecDepth 100000
set_option maxHeartbeats 4000000
def Zjb:EC:=.seq (.reg [(Qa 102 (.bin .lss (.t 101) (.t 100)))]) (.seq (.ite (.t 102) (.skip) (.exit 2)) (.seq (.blk 3 (.seq (.reg [(Qa 103 (.mv (.t 101))),(Qa 11 (.mv (.t 103)))]) (.reg [(Qa 104 (.fld 2 (.t 1))),(Qa 105 (.load (.t 104))),(Qa 106 (.mv (.t 11))),(Qa 107 (.idx 8 (.t 105) (.t 106))),(Qa 108 (.fld 4 (.t 107))),(Qb (.store 1 (.t 108) (.c .tt)))]))) (.reg [(Qa 109 (.bin .add (.t 101) (.c (.iv 1)))),(Qa 101 (.mv (.t 109)))])))
def Zkb:EC:=.seq (.reg [(Qa 26 (.bin .lss (.t 25) (.t 24)))]) (.seq (.ite (.t 26) (.skip) (.exit 0)) (.seq (.blk 1 (.seq (.reg [(Qa 27 (.mv (.t 25))),(Qa 8 (.mv (.t 27)))]) (.seq (.reg [(Qa 28 (.fld 2 (.t 1))),(Qa 29 (.load (.t 28))),(Qa 30 (.mv (.t 8))),(Qa 31 (.idx 8 (.t 29) (.t 30))),(Qa 9 (.alloc 189 [.nlp])),(Qb (.store 1 (.t 9) (.t 31)))]) (.seq (.reg [(Qa 32 (.mkf 194 [(.t 6),(.t 1),(.t 9)])),(Qa 10 (.mv (.t 32)))]) (.seq (.seq (.reg [(Qa 33 (.load (.t 9))),(Qa 34 (.nilchk (.t 33))),(Qa 35 (.fld 3 (.t 34))),(Qa 36 (.load (.t 35))),(Qa 37 (.mv (.t 36))),(Qg 38 37 true (.load (.t 9))),(Qg 39 37 true (.nilchk (.t 38))),(Qg 40 37 true (.fld 4 (.t 39))),(Qg 41 37 true (.load (.t 40))),(Qa 42 (.pick (.t 37) (.t 41) (.c .ff))),(Qa 43 (.mv (.t 42))),(Qg 44 43 true (.load (.t 9))),(Qg 45 43 true (.nilchk (.t 44))),(Qg 46 43 true (.fld 5 (.t 45))),(Qg 47 43 true (.load (.t 46))),(Qa 48 (.pick (.t 43) (.t 47) (.c .ff))),(Qa 49 (.mv (.t 48))),(Qg 50 49 true (.fld 1 (.t 1))),(Qg 51 49 true (.load (.t 50))),(Qg 52 49 true (.bin .neq (.t 51) (.c (.iv 2)))),(Qa 53 (.pick (.t 49) (.t 52) (.c .ff)))]) (.ite (.t 53) (.seq (.drw [(Qa 54 (.load (.t 9))),(Qa 55 (.load (.t 9))),(Qa 56 (.nilchk (.t 54))),(Qa 57 (.fld 3 (.t 56))),(Qb (.store 1 (.t 57) (.c .ff))),(Qa 58 (.nilchk (.t 55))),(Qa 59 (.fld 4 (.t 58))),(Qb (.store 1 (.t 59) (.c .ff)))] [[],[],[0,0],[2,0],[3,0],[1,0,1,2,3,4],[5,0,1,2,3,4],[6,4,0,1,2,3,4]] [[2],[5],[0,3],[2,4],[3],[1,6],[5,7],[6]]) (.reg [(Qa 60 (.mv (.t 10))),(Qa 61 (.callv (.t 60) [(.c (.iv 1))]))])) (.skip))) (.seq (.seq (.reg [(Qa 62 (.fld 1 (.t 1))),(Qa 63 (.load (.t 62))),(Qa 64 (.bin .eql (.t 63) (.c (.iv 1)))),(Qa 65 (.mv (.t 64))),(Qg 66 65 true (.load (.t 9))),(Qg 67 65 true (.nilchk (.t 66))),(Qg 68 65 true (.fld 5 (.t 67))),(Qg 69 65 true (.load (.t 68))),(Qa 70 (.pick (.t 65) (.t 69) (.c .ff))),(Qa 71 (.mv (.t 70))),(Qg 72 71 true (.load (.t 9))),(Qg 73 71 true (.nilchk (.t 72))),(Qg 74 71 true (.fld 3 (.t 73))),(Qg 75 71 true (.load (.t 74))),(Qg 76 71 true (.not (.t 75))),(Qa 77 (.pick (.t 71) (.t 76) (.c .ff)))]) (.ite (.t 77) (.seq (.reg [(Qa 78 (.load (.t 9))),(Qa 79 (.nilchk (.t 78))),(Qa 80 (.fld 5 (.t 79))),(Qb (.store 1 (.t 80) (.c .ff)))]) (.reg [(Qa 81 (.mv (.t 10))),(Qa 82 (.callv (.t 81) [(.c (.iv 2))]))])) (.skip))) (.reg [(Qa 83 (.mv (.t 7))),(Qa 84 (.mv (.t 83))),(Qg 85 84 true (.load (.t 9))),(Qg 86 84 true (.nilchk (.t 85))),(Qg 87 84 true (.fld 3 (.t 86))),(Qg 88 84 true (.load (.t 87))),(Qa 89 (.pick (.t 84) (.t 88) (.c .ff))),(Qa 7 (.mv (.t 89)))]))))))) (.reg [(Qa 90 (.bin .add (.t 25) (.c (.iv 1)))),(Qa 25 (.mv (.t 90)))])))
def Zlb:EC:=.seq (.reg [(Qa 1 (.box 61 3 (.t 0))),(Qa 2 (.alloc 61 [.iv 0,.iv 0,.nl])),(Qa 3 (.mv (.c .nl))),(Qa 4 (.mv (.c (.iv 0))))]) (.seq (.seq (.reg [(Qa 12 (.loadA 3 (.t 1))),(Qa 13 (.call 101 [(.t 12)])),(Qa 5 (.mv (.t 13)))]) (.seq (.reg [(Qa 14 (.mv (.t 5))),(Qa 15 (.bin .neq (.t 14) (.c (.iv 0))))]) (.ite (.t 15) (.seq (.reg [(Qa 16 (.build [.iv 0,.iv 0,.nl] [])),(Qa 17 (.mv (.t 5))),(Qb (.store 3 (.t 2) (.t 16))),(Qa 3 (.mv (.c .nl))),(Qa 4 (.mv (.t 17)))]) (.ret)) (.skip)))) (.seq (.reg [(Qa 18 (.fld 2 (.t 1))),(Qa 19 (.load (.t 18))),(Qa 20 (.call 72 [(.t 19)])),(Qa 21 (.fld 2 (.t 1))),(Qb (.store 1 (.t 21) (.t 20)))]) (.seq (.reg [(Qa 6 (.alloc 23 [.nl]))]) (.seq (.reg [(Qa 7 (.mv (.c .tt)))]) (.seq (.seq (.reg [(Qa 22 (.fld 2 (.t 1))),(Qa 23 (.load (.t 22))),(Qa 24 (.len (.t 23))),(Qa 25 (.mv (.c (.iv 0))))]) (.blk 0 (.loop Zkb))) (.seq (.seq (.reg [(Qa 91 (.fld 1 (.t 1))),(Qa 92 (.load (.t 91))),(Qa 93 (.bin .eql (.t 92) (.c (.iv 1)))),(Qa 94 (.mv (.t 93))),(Qg 95 94 true (.mv (.t 7))),(Qa 96 (.pick (.t 94) (.t 95) (.c .ff)))]) (.ite (.t 96) (.seq (.reg [(Qa 97 (.fld 1 (.t 1))),(Qb (.store 1 (.t 97) (.c (.iv 2))))]) (.seq (.reg [(Qa 98 (.fld 2 (.t 1))),(Qa 99 (.load (.t 98))),(Qa 100 (.len (.t 99))),(Qa 101 (.mv (.c (.iv 0))))]) (.blk 2 (.loop Zjb)))) (.skip))) (.seq (.drw [(Qa 110 (.loadA 3 (.t 1))),(Qa 111 (.load (.t 6))),(Qb (.store 3 (.t 2) (.t 110))),(Qa 3 (.mv (.t 111))),(Qa 4 (.mv (.c (.iv 0))))] [[],[],[0,0],[1,2,0,1,2],[3,0,1,2,3]] [[2],[3],[0],[1],[]]) (.ret))))))))
theorem ok177:FnOK Tryz.prog 177 Tryz.f177 Zlb [.c 2 (some 3),.t 3,.t 4] 1 111:=⟨by kernel_rfl,⟨_,rfl,by kernel_rfl⟩,by kernel_rfl,by kernel_rfl⟩
noncomputable def Zmb (_x1:Diner):Option (Diner×(List Mail)×Int):=
 none
theorem k_dine_Fire (x1:Diner) (r:(Diner×(List Mail)×Int)) (h:Zmb x1=some r):Zq2 Tryz.prog 177 [.agg (Diner.row x1)] (.tup [.agg (Diner.row r.1),.sl 5 (List.map Mail.row r.2.1),.iv r.2.2]):=by
 simp [Zmb] at h
set_option maxRecDepth 100000
set_option maxHeartbeats 4000000
def Znb:EC:=.seq (.reg [(Qa 9 (.bin .lss (.t 8) (.t 7)))]) (.seq (.ite (.t 9) (.skip) (.exit 0)) (.seq (.blk 1 (.seq (.reg [(Qa 10 (.mv (.t 8))),(Qa 5 (.mv (.t 10)))]) (.seq (.reg [(Qa 11 (.mv (.t 1))),(Qa 12 (.mv (.t 0))),(Qa 13 (.mv (.t 5))),(Qa 14 (.idx 1 (.t 12) (.t 13))),(Qa 15 (.load (.t 14))),(Qa 16 (.bin .eql (.t 11) (.t 15)))]) (.ite (.t 16) (.seq (.reg [(Qa 17 (.mv (.t 5))),(Qa 4 (.mv (.t 17)))]) (.ret)) (.skip))))) (.reg [(Qa 18 (.bin .add (.t 8) (.c (.iv 1)))),(Qa 8 (.mv (.t 18)))])))
def e165:EC:=.seq (.reg [(Qa 4 (.mv (.c (.iv 0))))]) (.seq (.seq (.reg [(Qa 6 (.mv (.t 0))),(Qa 7 (.len (.t 6))),(Qa 8 (.mv (.c (.iv 0))))]) (.blk 0 (.loop Znb))) (.seq (.reg [(Qa 4 (.mv (.c (.iv (-1)))))]) (.ret)))
theorem ok165:FnOK Tryz.prog 165 Tryz.f165 e165 [.t 4] 2 17:=⟨by kernel_rfl,⟨_,rfl,by kernel_rfl⟩,by kernel_rfl,by kernel_rfl⟩
noncomputable def Zob:Unit→Option Int
| ()=>
 some (-1)
noncomputable def Zpb (x1:(List Int)) (x2:Int):Int→Option (Int ⊕ Int)
| x5=>
 ifb (decide (x5<(ln Z05 x1))) (
 (at_ x1 x5).bind fun x6=>
 ifb (decide (x2=x6)) (
 Option.map Sum.inr (some x5)) (
 some (.inl (wr (x5+1))))) (
 Option.map Sum.inr (Zob ()))
noncomputable def Zqb (x1:(List Int)) (x2:Int):Option Int:=
 loop (Zpb x1 x2) 0
theorem Zrb (x1:(List Int)) (x2:Int) (r:Int) (h:Zqb x1 x2=some r):Zq2 Tryz.prog 165 [.sl 1 (List.map Z05 x1),.iv x2] (.iv r):=by
 refine Zu2 ok165 rfl rfl fun w0 H0=>?_
 rw [Zqb] at h
 refine Zl2 11 ?_;dsimp only [e165,Znb,go_sem];refine ⟨by simp,?_⟩;refine Zi4 (fun (_:Unit)=>(⟨(an 19 []),[],[]⟩:St)) Zob r ?_ fun J1=>?_
 ·rintro ⟨⟩ h;rw [Zob] at h;(try dsimp only);refine Zl2 4 ?_;dsimp only [e165,Znb,go_sem];refine ⟨by simp,?_⟩;exact Zt4 (res:=fun (r:Int)=>.iv r) ok165 h
 ·refine Zl2 1 ?_;dsimp only [e165,Znb,go_sem];refine ⟨by simp,?_⟩;refine Zj4 h (fun (x5:Int)=>(⟨(.sl 1 (List.map Z05 x1) :: .iv x2::an 5 (.iv (ln Z05 x1) :: .iv x5::an 10 [])),[],[]⟩:St)) (by simp [go_sem]) (by intro x5;first | rfl | simp [go_sem]) ?_;rintro n1 x5 y1 h hin1 hout1;rw [Zpb] at h;(try dsimp only);refine Zl2 5 ?_;dsimp only [e165,Znb,go_sem];refine ⟨by simp,?_⟩;refine Zk4 h rfl (fun _ h=>?_) fun _ h=>?_
  ·refine Zl2 13 ?_;dsimp only [e165,Znb,go_sem];refine ⟨by simp,?_⟩;obtain ⟨x6,ex6,h⟩:=Option.bind_eq_some_iff.1 h;refine Zn4 Z05 ex6 trivial rfl rfl rfl ?_;refine Zl2 3 ?_;dsimp only [e165,Znb,go_sem];refine ⟨by simp,?_⟩;refine Zk4 h rfl (fun _ h=>?_) fun _ h=>?_
   ·refine Zl2 5 ?_;dsimp only [e165,Znb,go_sem];refine ⟨by simp,?_⟩;exact Zt4 (res:=fun (r:Int)=>.iv r) ok165 (Zh4 h hout1)
   ·refine Zl2 6 ?_;dsimp only [e165,Znb,go_sem];refine ⟨by simp,?_⟩;exact Zu4 h hin1
  ·refine Zl2 1 ?_;dsimp only [e165,Znb,go_sem];refine ⟨by simp,?_⟩;exact Zv4 J1 (s:=()) (Zh4 h hout1)
set_option maxRecDepth 100000
set_option maxHeartbeats 4000000
def e149:EC:=.seq (.reg [(Qa 4 (.mv (.c .ff)))]) (.seq (.reg [(Qa 5 (.mv (.t 0))),(Qa 6 (.mv (.t 1))),(Qa 7 (.call 165 [(.t 5),(.t 6)])),(Qa 8 (.bin .geq (.t 7) (.c (.iv 0)))),(Qa 4 (.mv (.t 8)))]) (.ret))
theorem ok149:FnOK Tryz.prog 149 Tryz.f149 e149 [.t 4] 2 7:=⟨by kernel_rfl,⟨_,rfl,by kernel_rfl⟩,by kernel_rfl,by kernel_rfl⟩
noncomputable def Zsb (x1:(List Int)) (x2:Int):Option Bool:=
 (Zqb x1 x2).bind fun x3=>
 some (decide (0≤x3))
theorem Ztb (x1:(List Int)) (x2:Int) (r:Bool) (h:Zsb x1 x2=some r):Zq2 Tryz.prog 149 [.sl 1 (List.map Z05 x1),.iv x2] (.bv r):=by
 refine Zu2 ok149 rfl rfl fun w0 H0=>?_
 rw [Zsb] at h
 refine Zl2 8 ?_;dsimp only [e149,go_sem];refine ⟨by simp,?_⟩;obtain ⟨x3,ex3,h⟩:=Option.bind_eq_some_iff.1 h;refine Zz2 trivial (Zrb x1 x2 _ ex3) (h:=?_);refine Zl2 3 ?_;dsimp only [e149,go_sem];refine ⟨by simp,?_⟩;exact Zt4 (res:=fun (r:Bool)=>.bv r) ok149 h
set_option maxRecDepth 100000
set_option maxHeartbeats 4000000
def e195:EC:=.seq (.reg [(Qa 4 (.mv (.c .ff)))]) (.seq (.reg [(Qa 5 (.mv (.t 0))),(Qa 6 (.mv (.t 1))),(Qa 7 (.call 149 [(.t 5),(.t 6)])),(Qa 4 (.mv (.t 7)))]) (.ret))
theorem ok195:FnOK Tryz.prog 195 Tryz.f195 e195 [.t 4] 2 6:=⟨by kernel_rfl,⟨_,rfl,by kernel_rfl⟩,by kernel_rfl,by kernel_rfl⟩
noncomputable def Zub (x1:(List Int)) (x2:Int):Option Bool:=
 (Zsb x1 x2).bind fun x3=>
 some x3
theorem k_set_Has (x1:(List Int)) (x2:Int) (r:Bool) (h:Zub x1 x2=some r):Zq2 Tryz.prog 195 [.sl 1 (List.map Z05 x1),.iv x2] (.bv r):=by
 refine Zu2 ok195 rfl rfl fun w0 H0=>?_
 rw [Zub] at h
 refine Zl2 8 ?_;dsimp only [e195,go_sem];refine ⟨by simp,?_⟩;obtain ⟨x3,ex3,h⟩:=Option.bind_eq_some_iff.1 h;refine Zz2 trivial (Ztb x1 x2 _ ex3) (h:=?_);refine Zl2 2 ?_;dsimp only [e195,go_sem];refine ⟨by simp,?_⟩;exact Zt4 (res:=fun (r:Bool)=>.bv r) ok195 h
set_option maxRecDepth 100000
set_option maxHeartbeats 4000000
def e196:EC:=.seq (.reg [(Qa 4 (.box 66 8 (.t 1)))]) (.drw [(Qa 6 (.mv (.t 0))),(Qa 7 (.mv (.t 0))),(Qa 8 (.nilchk (.t 7))),(Qa 9 (.fld 5 (.t 8))),(Qa 10 (.load (.t 9))),(Qa 11 (.mv (.t 0))),(Qa 12 (.nilchk (.t 11))),(Qa 13 (.fld 0 (.t 12))),(Qa 14 (.fld 0 (.t 13))),(Qa 15 (.fld 0 (.t 14))),(Qa 16 (.load (.t 15))),(Qa 17 (.fld 0 (.t 4))),(Qa 18 (.load (.t 17))),(Qa 19 (.mv (.t 2))),(Qa 20 (.fld 1 (.t 4))),(Qa 21 (.load (.t 20))),(Qa 22 (.build [.iv 0,.iv 0,.iv 0] [(0,1,(.t 19)),(1,1,(.t 21))])),(Qa 23 (.build [.iv 0,.iv 0,.iv 0,.iv 0,.iv 0] [(0,1,(.t 16)),(1,1,(.t 18)),(2,3,(.t 22))])),(Qa 24 (.bsl 95 5 1 [.iv 0,.iv 0,.iv 0,.iv 0,.iv 0] [(0,(.t 23))])),(Qa 25 (.app 95 5 40 (.t 10) (.t 24))),(Qa 26 (.nilchk (.t 6))),(Qa 27 (.fld 5 (.t 26))),(Qb (.store 1 (.t 27) (.t 25)))] [[],[],[1],[2],[3],[],[5],[6],[7],[8],[9],[],[11],[],[],[14],[13,15],[10,12,16],[17],[4,18],[0,0,1,2,3,4,5,6,7,8,9,10,11,12,13,14,15,16,17,18,19],[20,0,1,2,3,4,5,6,7,8,9,10,11,12,13,14,15,16,17,18,19],[21,19,19,0,1,2,3,4,5,6,7,8,9,10,11,12,13,14,15,16,17,18,19]] [[20],[2],[1,3],[2,4],[3,19],[6],[5,7],[6,8],[7,9],[8,10],[9,17],[12],[11,17],[16],[15],[14,16],[13,15,17],[10,12,16,18],[17,19],[4,18,22],[0,21],[20,22],[19,21]])
theorem ok196:FnOK Tryz.prog 196 Tryz.f196 e196 [] 3 25:=⟨by kernel_rfl,⟨_,rfl,by kernel_rfl⟩,by kernel_rfl,by kernel_rfl⟩
set_option maxRecDepth 100000
set_option maxHeartbeats 4000000
def Zvb:EC:=.seq (.reg [(Qa 15 (.bin .lss (.t 14) (.t 13)))]) (.seq (.ite (.t 15) (.skip) (.exit 0)) (.seq (.blk 1 (.seq (.reg [(Qa 16 (.mv (.t 14))),(Qa 3 (.mv (.t 16)))]) (.seq (.reg [(Qa 17 (.mv (.t 0))),(Qa 18 (.nilchk (.t 17))),(Qa 19 (.fld 0 (.t 18))),(Qa 20 (.fld 0 (.t 19))),(Qa 21 (.fld 2 (.t 20))),(Qa 22 (.load (.t 21))),(Qa 23 (.mv (.t 3))),(Qa 24 (.idx 8 (.t 22) (.t 23))),(Qa 4 (.mv (.t 24)))]) (.seq (.drw [(Qa 25 (.mv (.t 0))),(Qa 26 (.nilchk (.t 25))),(Qa 27 (.fld 0 (.t 26))),(Qa 28 (.fld 4 (.t 27))),(Qa 29 (.load (.t 28))),(Qa 30 (.mv (.t 4))),(Qa 31 (.nilchk (.t 30))),(Qa 32 (.fld 0 (.t 31))),(Qa 33 (.load (.t 32))),(Qa 34 (.call 195 [(.t 29),(.t 33)])),(Qa 5 (.mv (.t 34)))] [[],[0],[1],[2],[3],[],[5],[6],[7],[4,8],[9,9,0,1,2,3,4,5,6,7,8,9]] [[1],[0,2],[1,3],[2,4],[3,9],[6],[5,7],[6,8],[7,9],[4,8,10],[9]]) (.seq (.reg [(Qa 35 (.mv (.t 5))),(Qa 36 (.mv (.t 35))),(Qg 37 36 true (.mv (.t 0))),(Qg 38 36 true (.nilchk (.t 37))),(Qg 39 36 true (.fld 0 (.t 38))),(Qg 40 36 true (.fld 3 (.t 39))),(Qg 41 36 true (.load (.t 40))),(Qg 42 36 true (.bin .eql (.t 41) (.c (.iv 2)))),(Qg 43 36 true (.mv (.t 42))),(Qg 44 43 false (.mv (.t 0))),(Qg 45 43 false (.nilchk (.t 44))),(Qg 46 43 false (.fld 0 (.t 45))),(Qg 47 43 false (.fld 3 (.t 46))),(Qg 48 43 false (.load (.t 47))),(Qg 49 43 false (.bin .eql (.t 48) (.c (.iv 1)))),(Qg 50 43 false (.mv (.t 49))),(Qg 51 50 true (.mv (.t 4))),(Qg 52 50 true (.nilchk (.t 51))),(Qg 53 50 true (.fld 3 (.t 52))),(Qg 54 50 true (.load (.t 53))),(Qg 55 43 false (.pick (.t 50) (.t 54) (.c .ff))),(Qg 56 36 true (.pick (.t 43) (.c .tt) (.t 55))),(Qa 57 (.pick (.t 36) (.t 56) (.c .ff))),(Qa 6 (.mv (.t 57)))]) (.seq (.seq (.reg [(Qa 58 (.mv (.t 4))),(Qa 59 (.nilchk (.t 58))),(Qa 60 (.fld 6 (.t 59))),(Qa 61 (.load (.t 60))),(Qa 62 (.mv (.t 61))),(Qg 63 62 true (.mv (.t 4))),(Qg 64 62 true (.nilchk (.t 63))),(Qg 65 62 true (.fld 7 (.t 64))),(Qg 66 62 true (.load (.t 65))),(Qa 67 (.pick (.t 62) (.t 66) (.c .ff))),(Qa 68 (.mv (.t 67))),(Qg 69 68 true (.mv (.t 6))),(Qg 70 68 true (.not (.t 69))),(Qa 71 (.pick (.t 68) (.t 70) (.c .ff)))]) (.ite (.t 71) (.seq (.reg [(Qa 72 (.mv (.t 4))),(Qa 73 (.nilchk (.t 72))),(Qa 74 (.fld 6 (.t 73))),(Qb (.store 1 (.t 74) (.c .ff)))]) (.reg [(Qa 75 (.mv (.t 0))),(Qa 76 (.mv (.t 4))),(Qa 77 (.nilchk (.t 76))),(Qa 78 (.loadA 8 (.t 77))),(Qa 79 (.call 196 [(.t 75),(.t 78),(.c (.iv 3))]))])) (.skip))) (.seq (.seq (.reg [(Qa 80 (.mv (.t 0))),(Qa 81 (.nilchk (.t 80))),(Qa 82 (.fld 0 (.t 81))),(Qa 83 (.fld 3 (.t 82))),(Qa 84 (.load (.t 83))),(Qa 85 (.bin .eql (.t 84) (.c (.iv 1)))),(Qa 86 (.mv (.t 85))),(Qg 87 86 true (.mv (.t 5))),(Qa 88 (.pick (.t 86) (.t 87) (.c .ff))),(Qa 89 (.mv (.t 88))),(Qg 90 89 true (.mv (.t 4))),(Qg 91 89 true (.nilchk (.t 90))),(Qg 92 89 true (.fld 7 (.t 91))),(Qg 93 89 true (.load (.t 92))),(Qa 94 (.pick (.t 89) (.t 93) (.c .ff))),(Qa 95 (.mv (.t 94))),(Qg 96 95 true (.mv (.t 4))),(Qg 97 95 true (.nilchk (.t 96))),(Qg 98 95 true (.fld 6 (.t 97))),(Qg 99 95 true (.load (.t 98))),(Qg 100 95 true (.not (.t 99))),(Qa 101 (.pick (.t 95) (.t 100) (.c .ff)))]) (.ite (.t 101) (.seq (.reg [(Qa 102 (.mv (.t 4))),(Qa 103 (.nilchk (.t 102))),(Qa 104 (.fld 7 (.t 103))),(Qb (.store 1 (.t 104) (.c .ff)))]) (.reg [(Qa 105 (.mv (.t 0))),(Qa 106 (.mv (.t 4))),(Qa 107 (.nilchk (.t 106))),(Qa 108 (.loadA 8 (.t 107))),(Qa 109 (.call 196 [(.t 105),(.t 108),(.c (.iv 4))]))])) (.skip))) (.reg [(Qa 110 (.mv (.t 2))),(Qa 111 (.mv (.t 110))),(Qg 112 111 true (.mv (.t 5))),(Qg 113 111 true (.not (.t 112))),(Qg 114 111 true (.mv (.t 113))),(Qg 115 114 false (.mv (.t 4))),(Qg 116 114 false (.nilchk (.t 115))),(Qg 117 114 false (.fld 6 (.t 116))),(Qg 118 114 false (.load (.t 117))),(Qg 119 111 true (.pick (.t 114) (.c .tt) (.t 118))),(Qa 120 (.pick (.t 111) (.t 119) (.c .ff))),(Qa 2 (.mv (.t 120)))])))))))) (.reg [(Qa 121 (.bin .add (.t 14) (.c (.iv 1)))),(Qa 14 (.mv (.t 121)))])))
def Zwb:EC:=.seq (.reg [(Qa 2 (.mv (.c .tt)))]) (.seq (.seq (.reg [(Qa 7 (.mv (.t 0))),(Qa 8 (.nilchk (.t 7))),(Qa 9 (.fld 0 (.t 8))),(Qa 10 (.fld 0 (.t 9))),(Qa 11 (.fld 2 (.t 10))),(Qa 12 (.load (.t 11))),(Qa 13 (.len (.t 12))),(Qa 14 (.mv (.c (.iv 0))))]) (.blk 0 (.loop Zvb))) (.seq (.reg [(Qa 122 (.mv (.t 0))),(Qa 123 (.nilchk (.t 122))),(Qa 124 (.fld 0 (.t 123))),(Qa 125 (.fld 3 (.t 124))),(Qa 126 (.load (.t 125))),(Qa 127 (.bin .eql (.t 126) (.c (.iv 1)))),(Qa 128 (.mv (.t 127))),(Qg 129 128 true (.mv (.t 2))),(Qa 130 (.pick (.t 128) (.t 129) (.c .ff)))]) (.ite (.t 130) (.reg [(Qa 131 (.mv (.t 0))),(Qa 132 (.nilchk (.t 131))),(Qa 133 (.fld 0 (.t 132))),(Qa 134 (.fld 3 (.t 133))),(Qb (.store 1 (.t 134) (.c (.iv 2))))]) (.skip))))
theorem ok178:FnOK Tryz.prog 178 Tryz.f178 Zwb [] 1 134:=⟨by kernel_rfl,⟨_,rfl,by kernel_rfl⟩,by kernel_rfl,by kernel_rfl⟩
set_option maxRecDepth 100000
set_option maxHeartbeats 4000000
def e157:EC:=.seq (.reg [(Qa 2 (.mv (.c (.clo 176 []))))]) (.seq (.blk 0 (.seq (.reg [(Qa 7 (.mv (.t 0))),(Qa 8 (.nilchk (.t 7))),(Qa 9 (.fld 0 (.t 8))),(Qa 10 (.fld 3 (.t 9))),(Qa 11 (.load (.t 10))),(Qa 12 (.bin .eql (.t 11) (.c (.iv 1)))),(Qa 13 (.mv (.t 12))),(Qg 14 13 true (.mv (.t 0))),(Qg 15 13 true (.nilchk (.t 14))),(Qg 16 13 true (.fld 0 (.t 15))),(Qg 17 13 true (.fld 0 (.t 16))),(Qg 18 13 true (.fld 1 (.t 17))),(Qg 19 13 true (.load (.t 18))),(Qg 20 13 true (.bin .eql (.t 19) (.c (.iv 0)))),(Qa 21 (.pick (.t 13) (.t 20) (.c .ff))),(Qa 6 (.mv (.t 21)))]) (.ite (.t 6) (.reg [(Qa 22 (.mv (.t 0))),(Qa 23 (.nilchk (.t 22))),(Qa 24 (.fld 0 (.t 23))),(Qa 25 (.fld 0 (.t 24))),(Qa 26 (.fld 1 (.t 25))),(Qb (.store 1 (.t 26) (.c (.iv 1))))]) (.seq (.reg [(Qa 28 (.mv (.t 0))),(Qa 29 (.nilchk (.t 28))),(Qa 30 (.fld 0 (.t 29))),(Qa 31 (.fld 0 (.t 30))),(Qa 32 (.fld 1 (.t 31))),(Qa 33 (.load (.t 32))),(Qa 34 (.bin .eql (.t 33) (.c (.iv 2)))),(Qa 35 (.mv (.t 34))),(Qg 36 35 true (.mv (.t 0))),(Qg 37 35 true (.nilchk (.t 36))),(Qg 38 35 true (.fld 0 (.t 37))),(Qg 39 35 true (.fld 3 (.t 38))),(Qg 40 35 true (.load (.t 39))),(Qg 41 35 true (.bin .neq (.t 40) (.c (.iv 1)))),(Qa 42 (.pick (.t 35) (.t 41) (.c .ff))),(Qa 43 (.mv (.t 42))),(Qg 44 43 true (.mv (.t 0))),(Qg 45 43 true (.nilchk (.t 44))),(Qg 46 43 true (.fld 0 (.t 45))),(Qg 47 43 true (.fld 0 (.t 46))),(Qg 48 43 true (.fld 2 (.t 47))),(Qg 49 43 true (.load (.t 48))),(Qg 50 43 true (.mv (.t 2))),(Qg 51 43 true (.call 99 [(.t 49),(.t 50)])),(Qg 52 43 true (.not (.t 51))),(Qa 53 (.pick (.t 43) (.t 52) (.c .ff))),(Qa 27 (.mv (.t 53)))]) (.ite (.t 27) (.reg [(Qa 54 (.mv (.t 0))),(Qa 55 (.nilchk (.t 54))),(Qa 56 (.fld 0 (.t 55))),(Qa 57 (.fld 0 (.t 56))),(Qa 58 (.fld 1 (.t 57))),(Qb (.store 1 (.t 58) (.c (.iv 0))))]) (.skip)))))) (.seq (.reg [(Qa 60 (.mv (.t 0))),(Qa 61 (.nilchk (.t 60))),(Qa 62 (.fld 0 (.t 61))),(Qa 63 (.fld 0 (.t 62))),(Qa 64 (.loadA 3 (.t 63))),(Qa 65 (.call 177 [(.t 64)])),(Qa 59 (.mv (.t 65))),(Qa 66 (.ext (.t 59) 0)),(Qa 67 (.ext (.t 59) 1)),(Qa 68 (.ext (.t 59) 2)),(Qa 3 (.alloc 61 [.iv 0,.iv 0,.nl])),(Qb (.store 3 (.t 3) (.t 66))),(Qa 4 (.mv (.t 67))),(Qa 5 (.mv (.t 68)))]) (.seq (.reg [(Qa 69 (.mv (.t 0))),(Qa 70 (.loadA 3 (.t 3))),(Qa 71 (.nilchk (.t 69))),(Qa 72 (.fld 0 (.t 71))),(Qa 73 (.fld 0 (.t 72))),(Qb (.store 3 (.t 73) (.t 70)))]) (.seq (.reg [(Qa 74 (.mv (.t 0))),(Qa 75 (.mv (.t 0))),(Qa 76 (.nilchk (.t 75))),(Qa 77 (.fld 5 (.t 76))),(Qa 78 (.load (.t 77))),(Qa 79 (.mv (.t 4))),(Qa 80 (.app 95 5 40 (.t 78) (.t 79))),(Qa 81 (.nilchk (.t 74))),(Qa 82 (.fld 5 (.t 81))),(Qb (.store 1 (.t 82) (.t 80)))]) (.reg [(Qa 83 (.mv (.t 0))),(Qa 84 (.call 178 [(.t 83)]))])))))
theorem ok157:FnOK Tryz.prog 157 Tryz.f157 e157 [] 1 84:=⟨by kernel_rfl,⟨_,rfl,by kernel_rfl⟩,by kernel_rfl,by kernel_rfl⟩
set_option maxRecDepth 100000
set_option maxHeartbeats 4000000
def e118:EC:=.seq (.reg [(Qa 2 (.box 61 3 (.t 0))),(Qa 3 (.box 61 3 (.t 1))),(Qa 4 (.mv (.c .ff)))]) (.seq (.reg [(Qa 5 (.fld 0 (.t 2))),(Qa 6 (.load (.t 5))),(Qa 7 (.fld 0 (.t 3))),(Qa 8 (.load (.t 7))),(Qa 9 (.bin .eql (.t 6) (.t 8))),(Qa 10 (.mv (.t 9))),(Qg 11 10 true (.fld 1 (.t 2))),(Qg 12 10 true (.load (.t 11))),(Qg 13 10 true (.fld 1 (.t 3))),(Qg 14 10 true (.load (.t 13))),(Qg 15 10 true (.bin .eql (.t 12) (.t 14))),(Qa 16 (.pick (.t 10) (.t 15) (.c .ff))),(Qa 17 (.mv (.t 16))),(Qg 18 17 true (.fld 2 (.t 2))),(Qg 19 17 true (.load (.t 18))),(Qg 20 17 true (.fld 2 (.t 3))),(Qg 21 17 true (.load (.t 20))),(Qg 22 17 true (.call 146 [(.t 19),(.t 21)])),(Qa 23 (.pick (.t 17) (.t 22) (.c .ff))),(Qa 4 (.mv (.t 23)))]) (.ret))
theorem ok118:FnOK Tryz.prog 118 Tryz.f118 e118 [.t 4] 2 22:=⟨by kernel_rfl,⟨_,rfl,by kernel_rfl⟩,by kernel_rfl,by kernel_rfl⟩
noncomputable def Zxb:Bool→Option Bool
| x4=>
 some x4
noncomputable def Zyb (x1:Diner) (x2:Diner):Option Bool:=
 ifb (decide (x1.ID=x2.ID)) (
 ifb (decide (x1.Phase=x2.Phase)) (
 (Z46 x1.Sides x2.Sides).bind fun x3=>
 Zxb x3) (
 Zxb false)) (
 Zxb false)
theorem k_dine_Same (x1:Diner) (x2:Diner) (r:Bool) (h:Zyb x1 x2=some r):Zq2 Tryz.prog 118 [.agg (Diner.row x1),.agg (Diner.row x2)] (.bv r):=by
 refine Zu2 ok118 rfl rfl fun w0 H0=>?_
 rw [Zyb] at h
 refine Zl2 14 ?_;dsimp only [e118,go_sem];refine ⟨by simp,?_⟩;refine Zi4 (fun (x4:Bool)=>(⟨(an 4 (.bv x4::an 19 [])),[],[]⟩:St)) Zxb r ?_ fun J1=>?_
 ·intro x4 h;rw [Zxb] at h;(try dsimp only);exact Zt4 (res:=fun (r:Bool)=>.bv r) ok118 h
 ·refine Zs4 10 h rfl (fun _ h=>?_) fun _ h=>?_
  ·dsimp only [go_sem];refine Zl2 7 ?_;dsimp only [e118,go_sem];refine ⟨by simp,?_⟩;refine Zs4 17 h rfl (fun _ h=>?_) fun _ h=>?_
   ·dsimp only [go_sem];refine Zl2 4 ?_;dsimp only [e118,go_sem];refine ⟨by simp,?_⟩;obtain ⟨x3,ex3,h⟩:=Option.bind_eq_some_iff.1 h;refine Zz2 trivial (Z56 x1.Sides x2.Sides _ ex3) (h:=?_);refine Zl2 3 ?_;dsimp only [e118,go_sem];refine ⟨by simp,?_⟩;exact Zv4 J1 (s:=x3) h
   ·dsimp only [go_sem];refine Zl2 8 ?_;dsimp only [e118,go_sem];refine ⟨by simp,?_⟩;exact Zv4 J1 (s:=false) h
  ·dsimp only [go_sem];refine Zl2 15 ?_;dsimp only [e118,go_sem];refine ⟨by simp,?_⟩;exact Zv4 J1 (s:=false) h
set_option maxRecDepth 100000
set_option maxHeartbeats 4000000
def Zzb:EC:=.seq (.reg [(Qa 14 (.bin .lss (.t 13) (.t 12)))]) (.seq (.ite (.t 14) (.skip) (.exit 0)) (.seq (.blk 1 (.seq (.reg [(Qa 15 (.mv (.t 13))),(Qa 5 (.mv (.t 15)))]) (.seq (.drw [(Qa 16 (.mv (.t 0))),(Qa 17 (.mv (.t 5))),(Qa 18 (.idx 1 (.t 16) (.t 17))),(Qa 19 (.load (.t 18))),(Qa 20 (.mv (.t 1))),(Qa 21 (.mv (.t 5))),(Qa 22 (.idx 1 (.t 20) (.t 21))),(Qa 23 (.load (.t 22))),(Qa 24 (.bin .neq (.t 19) (.t 23)))] [[],[],[0,1],[2],[],[],[4,5],[6],[3,7]] [[2],[2],[0,1,3],[2,8],[6],[6],[4,5,7],[6,8],[3,7]]) (.ite (.t 24) (.seq (.reg [(Qa 4 (.mv (.c .ff)))]) (.ret)) (.skip))))) (.reg [(Qa 25 (.bin .add (.t 13) (.c (.iv 1)))),(Qa 13 (.mv (.t 25)))])))
def e119:EC:=.seq (.reg [(Qa 4 (.mv (.c .ff)))]) (.seq (.seq (.reg [(Qa 6 (.mv (.t 0))),(Qa 7 (.len (.t 6))),(Qa 8 (.mv (.t 1))),(Qa 9 (.len (.t 8))),(Qa 10 (.bin .neq (.t 7) (.t 9)))]) (.ite (.t 10) (.seq (.reg [(Qa 4 (.mv (.c .ff)))]) (.ret)) (.skip))) (.seq (.seq (.reg [(Qa 11 (.mv (.t 0))),(Qa 12 (.len (.t 11))),(Qa 13 (.mv (.c (.iv 0))))]) (.blk 0 (.loop Zzb))) (.seq (.reg [(Qa 4 (.mv (.c .tt)))]) (.ret))))
theorem ok119:FnOK Tryz.prog 119 Tryz.f119 e119 [.t 4] 2 24:=⟨by kernel_rfl,⟨_,rfl,by kernel_rfl⟩,by kernel_rfl,by kernel_rfl⟩
noncomputable def Z0c:Unit→Option Bool
| ()=>
 some true
noncomputable def Z1c (x1:(List Int)) (x2:(List Int)):Int→Option (Int ⊕ Bool)
| x6=>
 ifb (decide (x6<(ln Z05 x1))) (
 (at_ x1 x6).bind fun x7=>
 (at_ x2 x6).bind fun x8=>
 ifb (!decide (x7=x8)) (
 Option.map Sum.inr (some false)) (
 some (.inl (wr (x6+1))))) (
 Option.map Sum.inr (Z0c ()))
noncomputable def Z2c (x1:(List Int)) (x2:(List Int)):Option Bool:=
 ifb (!decide ((ln Z05 x1)=(ln Z05 x2))) (
 some false) (
 loop (Z1c x1 x2) 0)
theorem Z3c (x1:(List Int)) (x2:(List Int)) (r:Bool) (h:Z2c x1 x2=some r):Zq2 Tryz.prog 119 [.sl 1 (List.map Z05 x1),.sl 1 (List.map Z05 x2)] (.bv r):=by
 refine Zu2 ok119 rfl rfl fun w0 H0=>?_
 rw [Z2c] at h
 refine Zl2 13 ?_;dsimp only [e119,Zzb,go_sem];refine ⟨by simp,?_⟩;refine Zk4 h rfl (fun _ h=>?_) fun _ h=>?_
 ·refine Zl2 4 ?_;dsimp only [e119,Zzb,go_sem];refine ⟨by simp,?_⟩;exact Zt4 (res:=fun (r:Bool)=>.bv r) ok119 h
 ·refine Zl2 8 ?_;dsimp only [e119,Zzb,go_sem];refine ⟨by simp,?_⟩;refine Zi4 (fun (_:Unit)=>(⟨(an 26 []),[],[]⟩:St)) Z0c r ?_ fun J1=>?_
  ·rintro ⟨⟩ h;rw [Z0c] at h;(try dsimp only);refine Zl2 4 ?_;dsimp only [e119,Zzb,go_sem];refine ⟨by simp,?_⟩;exact Zt4 (res:=fun (r:Bool)=>.bv r) ok119 h
  ·refine Zl2 1 ?_;dsimp only [e119,Zzb,go_sem];refine ⟨by simp,?_⟩;refine Zj4 h (fun (x6:Int)=>(⟨(.sl 1 (List.map Z05 x1) :: .sl 1 (List.map Z05 x2)::an 10 (.iv (ln Z05 x1) :: .iv x6::an 12 [])),[],[]⟩:St)) (by simp [go_sem]) (by intro x6;first | rfl | simp [go_sem]) ?_;rintro n1 x6 y1 h hin1 hout1;rw [Z1c] at h;(try dsimp only);refine Zl2 5 ?_;dsimp only [e119,Zzb,go_sem];refine ⟨by simp,?_⟩;refine Zk4 h rfl (fun _ h=>?_) fun _ h=>?_
   ·refine Zl2 9 ?_;dsimp only [e119,Zzb,go_sem];refine ⟨by simp,?_⟩;refine Zh3 (by kernel_rfl) fun all hall hs hnap haf=>?_;dsimp only [go_sem];refine Zf5 hall hs haf hnap 4 5 ?_;dsimp only [go_sem];refine ⟨by simp,?_⟩;obtain ⟨x7,ex7,h⟩:=Option.bind_eq_some_iff.1 h;refine Zo4 hall hs haf hnap 2 Z05 ex7 rfl rfl trivial rfl rfl rfl rfl ?_;refine Zf5 hall hs haf hnap 1 3 ?_;dsimp only [go_sem];refine ⟨by simp,?_⟩;obtain ⟨x8,ex8,h⟩:=Option.bind_eq_some_iff.1 h;refine Zo4 hall hs haf hnap 6 Z05 ex8 rfl rfl trivial rfl rfl rfl rfl ?_
    refine Zf5 hall hs haf hnap 2 0 ?_;dsimp only [go_sem];refine ⟨by simp,?_⟩;refine Zt3 rfl ?_ _;refine Zk4 h rfl (fun _ h=>?_) fun _ h=>?_
    ·refine Zl2 4 ?_;dsimp only [e119,Zzb,go_sem];refine ⟨by simp,?_⟩;exact Zt4 (res:=fun (r:Bool)=>.bv r) ok119 (Zh4 h hout1)
    ·refine Zl2 6 ?_;dsimp only [e119,Zzb,go_sem];refine ⟨by simp,?_⟩;exact Zu4 h hin1
   ·refine Zl2 1 ?_;dsimp only [e119,Zzb,go_sem];refine ⟨by simp,?_⟩;exact Zv4 J1 (s:=()) (Zh4 h hout1)
set_option maxRecDepth 100000
set_option maxHeartbeats 4000000
def e68:EC:=.seq (.reg [(Qa 2 (.box 63 5 (.t 0))),(Qa 3 (.box 63 5 (.t 1))),(Qa 4 (.mv (.c .ff)))]) (.seq (.reg [(Qa 5 (.fld 0 (.t 2))),(Qa 6 (.loadA 3 (.t 5))),(Qa 7 (.fld 0 (.t 3))),(Qa 8 (.loadA 3 (.t 7))),(Qa 9 (.call 118 [(.t 6),(.t 8)])),(Qa 10 (.mv (.t 9))),(Qg 11 10 true (.fld 3 (.t 2))),(Qg 12 10 true (.load (.t 11))),(Qg 13 10 true (.fld 3 (.t 3))),(Qg 14 10 true (.load (.t 13))),(Qg 15 10 true (.bin .eql (.t 12) (.t 14))),(Qa 16 (.pick (.t 10) (.t 15) (.c .ff))),(Qa 17 (.mv (.t 16))),(Qg 18 17 true (.fld 4 (.t 2))),(Qg 19 17 true (.load (.t 18))),(Qg 20 17 true (.fld 4 (.t 3))),(Qg 21 17 true (.load (.t 20))),(Qg 22 17 true (.call 119 [(.t 19),(.t 21)])),(Qa 23 (.pick (.t 17) (.t 22) (.c .ff))),(Qa 4 (.mv (.t 23)))]) (.ret))
theorem ok68:FnOK Tryz.prog 68 Tryz.f68 e68 [.t 4] 2 22:=⟨by kernel_rfl,⟨_,rfl,by kernel_rfl⟩,by kernel_rfl,by kernel_rfl⟩
noncomputable def Z4c:Bool→Option Bool
| x5=>
 some x5
noncomputable def Z5c (x1:Drinker) (x2:Drinker):Option Bool:=
 (Zyb x1.Diner x2.Diner).bind fun x3=>
 ifb x3 (
 ifb (decide (x1.Thirst=x2.Thirst)) (
 (Z2c x1.Need x2.Need).bind fun x4=>
 Z4c x4) (
 Z4c false)) (
 Z4c false)
theorem Z6c (x1:Drinker) (x2:Drinker) (r:Bool) (h:Z5c x1 x2=some r):Zq2 Tryz.prog 68 [.agg (Drinker.row x1),.agg (Drinker.row x2)] (.bv r):=by
 refine Zu2 ok68 rfl rfl fun w0 H0=>?_
 rw [Z5c] at h
 refine Zl2 12 ?_;dsimp only [e68,go_sem];refine ⟨by simp,?_⟩;obtain ⟨x3,ex3,h⟩:=Option.bind_eq_some_iff.1 h;refine Zz2 trivial (k_dine_Same x1.Diner x2.Diner _ ex3) (h:=?_);refine Zl2 1 ?_;dsimp only [e68,go_sem];refine ⟨by simp,?_⟩;refine Zi4 (fun (x5:Bool)=>(⟨(an 4 (.bv x5::an 19 [])),[],[]⟩:St)) Z4c r ?_ fun J1=>?_
 ·intro x5 h;rw [Z4c] at h;(try dsimp only);exact Zt4 (res:=fun (r:Bool)=>.bv r) ok68 h
 ·refine Zs4 10 h rfl (fun _ h=>?_) fun _ h=>?_
  ·dsimp only [go_sem];refine Zl2 7 ?_;dsimp only [e68,go_sem];refine ⟨by simp,?_⟩;refine Zs4 17 h rfl (fun _ h=>?_) fun _ h=>?_
   ·dsimp only [go_sem];refine Zl2 4 ?_;dsimp only [e68,go_sem];refine ⟨by simp,?_⟩;obtain ⟨x4,ex4,h⟩:=Option.bind_eq_some_iff.1 h;refine Zz2 trivial (Z3c x1.Need x2.Need _ ex4) (h:=?_);refine Zl2 3 ?_;dsimp only [e68,go_sem];refine ⟨by simp,?_⟩;exact Zv4 J1 (s:=x4) h
   ·dsimp only [go_sem];refine Zl2 8 ?_;dsimp only [e68,go_sem];refine ⟨by simp,?_⟩;exact Zv4 J1 (s:=false) h
  ·dsimp only [go_sem];refine Zl2 15 ?_;dsimp only [e68,go_sem];refine ⟨by simp,?_⟩;exact Zv4 J1 (s:=false) h
end NX
end Go.Proofs.YtacfbmldajmjiaaGreat
