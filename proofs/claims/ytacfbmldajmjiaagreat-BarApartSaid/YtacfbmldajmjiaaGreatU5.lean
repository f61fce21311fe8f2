/-
  The function narthex/bar.act: its code compiled, a model, and that the code answers as the model. Written by a program of ours (lb.py). No statement of the seat is proved here.
-/
import Derived.KernelRfl
import Derived.Test.YtacfbmldajmjiaaGreatU3
import Derived.Test.YtacfbmldajmjiaaGreatU4
import Derived.Test.YtacfbmldajmjiaaGreatU2
import Derived.Test.YtacfbmldajmjiaaGreatU1
namespace Go.Proofs.YtacfbmldajmjiaaGreat
namespace NX
open Go
set_option maxRecDepth 100000
set_option maxHeartbeats 4000000
def Z9l:EC:=.seq (.reg [(Qa 48 (.bin .lss (.t 47) (.t 46)))]) (.seq (.ite (.t 48) (.skip) (.exit 0)) (.seq (.blk 1 (.seq (.reg [(Qa 49 (.mv (.t 47))),(Qa 50 (.idx 5 (.t 45) (.t 47))),(Qa 51 (.loadA 5 (.t 50))),(Qa 13 (.alloc 63 [.iv 0,.iv 0,.nl,.iv 0,.nl])),(Qa 12 (.mv (.t 49))),(Qb (.store 5 (.t 13) (.t 51)))]) (.seq (.seq (.reg [(Qa 52 (.mv (.t 12))),(Qa 53 (.mv (.t 1))),(Qa 54 (.bin .eql (.t 52) (.t 53)))]) (.ite (.t 54) (.reg [(Qa 55 (.loadA 5 (.t 8))),(Qb (.store 5 (.t 13) (.t 55)))]) (.skip))) (.seq (.drw [(Qa 56 (.fld 0 (.t 13))),(Qa 57 (.fld 2 (.t 56))),(Qa 58 (.load (.t 57))),(Qa 59 (.call 72 [(.t 58)])),(Qa 60 (.fld 4 (.t 13))),(Qa 61 (.load (.t 60))),(Qa 62 (.call 136 [(.t 61)])),(Qa 63 (.fld 0 (.t 13))),(Qa 64 (.fld 2 (.t 63))),(Qb (.store 1 (.t 64) (.t 59))),(Qa 65 (.fld 4 (.t 13))),(Qb (.store 1 (.t 65) (.t 62)))] [[],[0],[1],[2],[],[4],[5,3],[0,1,2,3,4,5],[7,0,1,2,3,4,5],[8,3,6,0,1,2,3,4,5],[0,1,2,3,4,5,6,7,8,9],[10,6,9,0,1,2,3,4,5,6,7,8,9]] [[1],[0,2],[1,3],[2,9],[5],[4,6],[5,11],[8],[7,9],[3,8],[11],[6,10]]) (.reg [(Qa 66 (.fld 0 (.t 11))),(Qa 67 (.load (.t 66))),(Qa 68 (.loadA 5 (.t 13))),(Qa 69 (.bsl 63 5 1 [.iv 0,.iv 0,.nl,.iv 0,.nl] [(0,(.t 68))])),(Qa 70 (.app 63 5 72 (.t 67) (.t 69))),(Qa 71 (.fld 0 (.t 11))),(Qb (.store 1 (.t 71) (.t 70)))]))))) (.reg [(Qa 72 (.bin .add (.t 47) (.c (.iv 1)))),(Qa 47 (.mv (.t 72)))])))
def e89:EC:=.seq (.reg [(Qa 3 (.box 25 2 (.t 0))),(Qa 6 (.alloc 25 [.nl,.nl])),(Qa 7 (.mv (.c (.iv 0))))]) (.seq (.reg [(Qa 15 (.mv (.t 2))),(Qa 16 (.fld 0 (.t 3))),(Qa 17 (.load (.t 16))),(Qa 18 (.mv (.t 1))),(Qa 19 (.idx 5 (.t 17) (.t 18))),(Qa 20 (.loadA 5 (.t 19))),(Qa 21 (.callv (.t 15) [(.t 20)])),(Qa 14 (.mv (.t 21))),(Qa 22 (.ext (.t 14) 0)),(Qa 23 (.ext (.t 14) 1)),(Qa 8 (.alloc 63 [.iv 0,.iv 0,.nl,.iv 0,.nl])),(Qb (.store 5 (.t 8) (.t 22))),(Qa 9 (.mv (.t 23)))]) (.seq (.seq (.reg [(Qa 24 (.mv (.t 9))),(Qa 25 (.bin .neq (.t 24) (.c (.iv 0))))]) (.ite (.t 25) (.seq (.reg [(Qa 26 (.build [.nl,.nl] [])),(Qa 27 (.mv (.t 9))),(Qb (.store 2 (.t 6) (.t 26))),(Qa 7 (.mv (.t 27)))]) (.ret)) (.skip))) (.seq (.reg [(Qa 29 (.loadA 5 (.t 8))),(Qa 30 (.call 135 [(.t 29)])),(Qa 28 (.mv (.t 30))),(Qa 31 (.ext (.t 28) 0)),(Qa 32 (.ext (.t 28) 1)),(Qa 33 (.ext (.t 28) 2)),(Qb (.store 5 (.t 8) (.t 31))),(Qa 10 (.mv (.t 32))),(Qa 9 (.mv (.t 33)))]) (.seq (.seq (.reg [(Qa 34 (.mv (.t 9))),(Qa 35 (.bin .neq (.t 34) (.c (.iv 0))))]) (.ite (.t 35) (.seq (.reg [(Qa 36 (.build [.nl,.nl] [])),(Qa 37 (.mv (.t 9))),(Qb (.store 2 (.t 6) (.t 36))),(Qa 7 (.mv (.t 37)))]) (.ret)) (.skip))) (.seq (.reg [(Qa 38 (.fld 1 (.t 3))),(Qa 39 (.load (.t 38))),(Qa 40 (.mv (.t 10))),(Qa 41 (.bsl 23 1 2 [.nl] [(0,(.t 39)),(1,(.t 40))])),(Qa 42 (.call 88 [(.t 41)])),(Qa 43 (.build [.nl,.nl] [(1,1,(.t 42))])),(Qa 11 (.alloc 25 [.nl,.nl])),(Qb (.store 2 (.t 11) (.t 43)))]) (.seq (.seq (.reg [(Qa 44 (.fld 0 (.t 3))),(Qa 45 (.load (.t 44))),(Qa 46 (.len (.t 45))),(Qa 47 (.mv (.c (.iv 0))))]) (.blk 0 (.loop Z9l))) (.seq (.reg [(Qa 73 (.loadA 2 (.t 11))),(Qb (.store 2 (.t 6) (.t 73))),(Qa 7 (.mv (.c (.iv 0))))]) (.ret))))))))
theorem ok89:FnOK Tryz.prog 89 Tryz.f89 e89 [.c 6 (some 2),.t 7] 3 71:=⟨by kernel_rfl,⟨_,rfl,by kernel_rfl⟩,by kernel_rfl,by kernel_rfl⟩
noncomputable def Zal (x6:(List Mail)):(List Drinker)→Option (Bar×Int)
| x30=>
 some ((Bar.mk x30 x6),0)
noncomputable def Zbl (x14:Int) (x15:(List Drinker)):Drinker→Option ((Int×(List Drinker)) ⊕ (Bar×Int))
| x17=>
 (Zaa x17.Diner.Sides).bind fun x18=>
 (Zbb x17.Need).bind fun x19=>
 (Zc4 72 x15 ([(Drinker.mk ((Diner.mk x17.Diner.ID x17.Diner.Phase x18)) x17.Thirst x19)])).bind fun x20=>
 some (.inl (wr (x14+1),x20))
noncomputable def Zcl (x1:Bar) (x2:Int) (x5:(Drinker×(List Mail)×Int)) (x6:(List Mail)):(Int×(List Drinker))→Option ((Int×(List Drinker)) ⊕ (Bar×Int))
| (x14,x15)=>
 ifb (decide (x14<(ln Drinker.row x1.Drinkers))) (
 (at_ x1.Drinkers x14).bind fun x16=>
 ifb (decide (x14=x2)) (
 (Zbl x14 x15) x5.1) (
 (Zbl x14 x15) x16)) (
 Option.map Sum.inr ((Zal x6) x15))
noncomputable def Zdl (x1:Bar) (x2:Int) (p2:(Drinker→Option (Drinker×Int))):Option (Bar×Int):=
 (at_ x1.Drinkers x2).bind fun x3=>
 (p2 x3).bind fun x4=>
 ifb (!decide (x4.2=0)) (
 some ((Bar.mk (([]:(List Drinker))) (([]:(List Mail)))),x4.2)) (
 (Z6d x4.1).bind fun x5=>
 ifb (!decide (x5.2.2=0)) (
 some ((Bar.mk (([]:(List Drinker))) (([]:(List Mail)))),x5.2.2)) (
 (Zqi ([x1.Mail,x5.2.1])).bind fun x6=>
 loop (Zcl x1 x2 x5 x6) (0,([]:List Drinker))))
theorem k_bar_act (x1:Bar) (x2:Int) (g2:Nat) (caps2:List AV) (p2:(Drinker→Option (Drinker×Int))) (hc2:CloOK Tryz.prog g2 caps2 (fun z=>[.agg (Drinker.row z)]) p2 (fun z=>.tup [.agg (Drinker.row z.1),.iv z.2])) (r:(Bar×Int)) (h:Zdl x1 x2 p2=some r):Zq2 Tryz.prog 89 [.agg (Bar.row x1),.iv x2,.clo g2 caps2] (.tup [.agg (Bar.row r.1),.iv r.2]):=by
 refine Zu2 ok89 rfl rfl fun w0 H0=>?_
 rw [Zdl] at h
 refine Zl2 12 ?_;dsimp only [e89,Z9l,go_sem];refine ⟨by simp,?_⟩;obtain ⟨x3,ex3,h⟩:=Option.bind_eq_some_iff.1 h;refine Zn4 Drinker.row ex3 trivial rfl rfl rfl ?_;refine Zl2 1 ?_;dsimp only [e89,Z9l,go_sem];refine ⟨by simp,?_⟩;obtain ⟨x4,ex4,h⟩:=Option.bind_eq_some_iff.1 h;refine Zz4 trivial rfl hc2 (x:=x3) ex4 (by first | exact Zb4 _ | simp [go_sem]) (by first | rfl | simp [go_sem,hc2.pu]) ?_;refine Zl2 13 ?_;dsimp only [e89,Z9l,go_sem];refine ⟨by simp,?_⟩;refine Zk4 h rfl (fun _ h=>?_) fun _ h=>?_
 ·refine Zl2 7 ?_;dsimp only [e89,Z9l,go_sem];refine ⟨by simp,?_⟩;exact Zt4 (res:=fun (r:(Bar×Int))=>.tup [.agg (Bar.row r.1),.iv r.2]) ok89 h
 ·refine Zl2 4 ?_;dsimp only [e89,Z9l,go_sem];refine ⟨by simp,?_⟩;obtain ⟨x5,ex5,h⟩:=Option.bind_eq_some_iff.1 h;refine Zz2 trivial (k_drink_Fire x4.1 _ ex5) (hp:=(by first | rfl | simp [go_sem,hc2.pu])) (h:=?_);refine Zl2 14 ?_;dsimp only [e89,Z9l,go_sem];refine ⟨by simp,?_⟩;refine Zk4 h rfl (fun _ h=>?_) fun _ h=>?_
  ·refine Zl2 7 ?_;dsimp only [e89,Z9l,go_sem];refine ⟨by simp,?_⟩;exact Zt4 (res:=fun (r:(Bar×Int))=>.tup [.agg (Bar.row r.1),.iv r.2]) ok89 h
  ·refine Zl2 7 ?_;dsimp only [e89,Z9l,go_sem];refine ⟨by simp,?_⟩;refine Z83 0 rfl ?_;dsimp only [go_sem];obtain ⟨x6,ex6,h⟩:=Option.bind_eq_some_iff.1 h;refine Za5 trivial (Zri ([x1.Mail,x5.2.1]) _ ex6) (hp:=(by first | rfl | simp [go_sem,hc2.pu])) (h:=?_);refine Zl2 12 ?_;dsimp only [e89,Z9l,go_sem];refine ⟨by simp,?_⟩
   refine Zi4 (fun (x30:(List Drinker))=>(⟨(an 6 (.ptr 1 0::an 4 (.ptr 3 0::an 62 []))),[none,some ⟨25,[.nl,.nl]⟩,none,some ⟨25,[.osl 2,.osl 1]⟩],[none,some ⟨95,5,List.map Mail.row x6⟩,some ⟨63,5,List.map Drinker.row x30⟩]⟩:St)) (Zal x6) r ?_ fun J1=>?_
   ·intro x30 h;rw [Zal] at h;(try dsimp only);refine Zl2 6 ?_;dsimp only [e89,Z9l,go_sem];refine ⟨by simp,?_⟩;refine Z83 2 rfl ?_;dsimp only [go_sem];refine Z83 1 rfl ?_;dsimp only [go_sem];exact Zt4 (res:=fun (r:(Bar×Int))=>.tup [.agg (Bar.row r.1),.iv r.2]) ok89 h
   ·refine Zl2 1 ?_;dsimp only [e89,Z9l,go_sem];refine ⟨by simp,?_⟩;refine Z64 3 0 63 5 rfl rfl rfl ?_;dsimp only [go_sem]
    refine Zj4 h (fun ((x14,x15):(Int×(List Drinker)))=>(⟨(.any :: .iv x2::an 4 (.ptr 1 0 :: .any :: .ptr 2 0 :: .any :: .any :: .ptr 3 0::an 33 (.sl 5 (List.map Drinker.row x1.Drinkers) :: .iv (ln Drinker.row x1.Drinkers) :: .iv x14::an 26 []))),[none,some ⟨25,[.nl,.nl]⟩,some ⟨63,[.iv x5.1.Diner.ID,.iv x5.1.Diner.Phase,.sl 8 (List.map Side.row x5.1.Diner.Sides),.iv x5.1.Thirst,.sl 1 (List.map Z05 x5.1.Need)]⟩,some ⟨25,[.osl 2,.osl 1]⟩],[none,some ⟨95,5,List.map Mail.row x6⟩,some ⟨63,5,List.map Drinker.row x15⟩]⟩:St)) (by simp [go_sem]) (by rintro ⟨x14,x15⟩;first | rfl | simp [go_sem,Za4 _ hc2.pu]) ?_
    rintro n1 ⟨x14,x15⟩ y1 h hin1 hout1;rw [Zcl] at h;(try dsimp only);refine Zl2 5 ?_;dsimp only [e89,Z9l,go_sem];refine ⟨by simp,?_⟩;refine Zk4 h rfl (fun _ h=>?_) fun _ h=>?_
    ·refine Zl2 6 ?_;dsimp only [e89,Z9l,go_sem];refine ⟨by simp,?_⟩;obtain ⟨x16,ex16,h⟩:=Option.bind_eq_some_iff.1 h;refine Zn4 Drinker.row ex16 trivial rfl rfl rfl ?_;refine Zl2 12 ?_;dsimp only [e89,Z9l,go_sem];refine ⟨by simp,?_⟩
     refine Zi4 (fun (x17:Drinker)=>(⟨(.any :: .iv x2::an 4 (.ptr 1 0 :: .any :: .ptr 2 0 :: .any :: .any :: .ptr 3 0 :: .any :: .ptr 4 0::an 31 (.sl 5 (List.map Drinker.row x1.Drinkers) :: .iv (ln Drinker.row x1.Drinkers) :: .iv x14::an 26 []))),[none,some ⟨25,[.nl,.nl]⟩,some ⟨63,[.iv x5.1.Diner.ID,.iv x5.1.Diner.Phase,.sl 8 (List.map Side.row x5.1.Diner.Sides),.iv x5.1.Thirst,.sl 1 (List.map Z05 x5.1.Need)]⟩,some ⟨25,[.osl 2,.osl 1]⟩,some ⟨63,[.iv x17.Diner.ID,.iv x17.Diner.Phase,.sl 8 (List.map Side.row x17.Diner.Sides),.iv x17.Thirst,.sl 1 (List.map Z05 x17.Need)]⟩],[none,some ⟨95,5,List.map Mail.row x6⟩,some ⟨63,5,List.map Drinker.row x15⟩]⟩:St)) (Zbl x14 x15) y1 ?_ fun J2=>?_
     ·intro x17 h;rw [Zbl] at h;(try dsimp only);refine Zl2 1 ?_;dsimp only [e89,Z9l,go_sem];refine ⟨by simp,?_⟩;refine Zh3 (by kernel_rfl) fun all hall hs hnap haf=>?_;dsimp only [go_sem];refine Zf5 hall hs haf hnap 5 7 ?_;dsimp only [go_sem];refine ⟨by simp,?_⟩;refine Zu3 3 rfl ?_;obtain ⟨x18,ex18,h⟩:=Option.bind_eq_some_iff.1 h;refine Zb5 hall rfl trivial (Zba x17.Diner.Sides _ ex18) (hp:=(by first | rfl | simp [go_sem,hc2.pu])) (h:=?_);dsimp only [go_sem];refine Zf5 hall hs haf hnap 2 4 ?_;dsimp only [go_sem]
      refine ⟨by simp,?_⟩;refine Zu3 6 rfl ?_;obtain ⟨x19,ex19,h⟩:=Option.bind_eq_some_iff.1 h;refine Zb5 hall rfl trivial (Zcb x17.Need _ ex19) (hp:=(by first | rfl | simp [go_sem,hc2.pu])) (h:=?_);dsimp only [go_sem];refine Zu3 9 rfl ?_;refine Zz3 hall rfl trivial ?_;dsimp only [go_sem];refine Zf5 hall hs haf hnap 1 1 ?_;dsimp only [go_sem];refine ⟨by simp,?_⟩;refine Zu3 11 rfl ?_;refine Zz3 hall rfl trivial ?_;dsimp only [go_sem];refine Zt3 rfl ?_ _;refine Zl2 4 ?_;dsimp only [e89,Z9l,go_sem];refine ⟨by simp,?_⟩
      refine Z83 3 rfl ?_;dsimp only [go_sem];refine Z83 4 rfl ?_;dsimp only [go_sem];refine Zl2 1 ?_;dsimp only [e89,Z9l,go_sem];refine ⟨by simp,?_⟩;obtain ⟨x20,ex20,h⟩:=Option.bind_eq_some_iff.1 h;refine Zq4 Drinker.row ex20 trivial rfl rfl rfl ?_;refine Zl2 8 ?_;dsimp only [e89,Z9l,go_sem];refine ⟨by simp,?_⟩;refine Z54 6 2 rfl rfl rfl ?_;dsimp only [go_sem];exact Zu4 h hin1 (hok:=by first | rfl | simp [go_sem,Za4 _ hc2.pu])
     ·refine Zk4 h rfl (fun _ h=>?_) fun _ h=>?_
      ·refine Zl2 4 ?_;dsimp only [e89,Z9l,go_sem];refine ⟨by simp,?_⟩;exact Zv4 J2 (s:=x5.1) h (hok:=by first | rfl | simp [go_sem,Za4 _ hc2.pu])
      ·refine Zl2 1 ?_;dsimp only [e89,Z9l,go_sem];refine ⟨by simp,?_⟩;exact Zv4 J2 (s:=x16) h (hok:=by first | rfl | simp [go_sem,Za4 _ hc2.pu])
    ·refine Zl2 1 ?_;dsimp only [e89,Z9l,go_sem];refine ⟨by simp,?_⟩;exact Zv4 J1 (s:=x15) (Zh4 h hout1) (hok:=by first | rfl | simp [go_sem,Za4 _ hc2.pu])
set_option maxRecDepth 100000
set_option maxHeartbeats 4000000
def e74:EC:=.seq (.reg [(Qa 3 (.box 25 2 (.t 0))),(Qa 6 (.alloc 25 [.nl,.nl])),(Qa 7 (.mv (.c (.iv 0))))]) (.seq (.seq (.reg [(Qa 9 (.loadA 2 (.t 3))),(Qa 10 (.call 17 [(.t 9)])),(Qa 8 (.mv (.t 10)))]) (.seq (.reg [(Qa 11 (.mv (.t 8))),(Qa 12 (.bin .neq (.t 11) (.c (.iv 0))))]) (.ite (.t 12) (.seq (.reg [(Qa 13 (.build [.nl,.nl] [])),(Qa 14 (.mv (.t 8))),(Qb (.store 2 (.t 6) (.t 13))),(Qa 7 (.mv (.t 14)))]) (.ret)) (.skip)))) (.seq (.seq (.reg [(Qa 15 (.loadA 2 (.t 3))),(Qa 16 (.mv (.t 1))),(Qa 17 (.call 64 [(.t 15),(.t 16)])),(Qa 18 (.not (.t 17)))]) (.ite (.t 18) (.seq (.reg [(Qa 19 (.build [.nl,.nl] [])),(Qb (.store 2 (.t 6) (.t 19))),(Qa 7 (.mv (.c (.iv 161))))]) (.ret)) (.skip))) (.seq (.reg [(Qa 20 (.loadA 2 (.t 3))),(Qa 21 (.mv (.t 1))),(Qa 22 (.mv (.t 2))),(Qa 23 (.call 89 [(.t 20),(.t 21),(.t 22)])),(Qa 24 (.ext (.t 23) 0)),(Qa 25 (.ext (.t 23) 1)),(Qb (.store 2 (.t 6) (.t 24))),(Qa 7 (.mv (.t 25)))]) (.ret))))
theorem ok74:FnOK Tryz.prog 74 Tryz.f74 e74 [.c 6 (some 2),.t 7] 3 23:=⟨by kernel_rfl,⟨_,rfl,by kernel_rfl⟩,by kernel_rfl,by kernel_rfl⟩
noncomputable def Zel (x1:Bar) (x2:Int) (p2:(Drinker→Option (Drinker×Int))):Option (Bar×Int):=
 (Z4l x1).bind fun x3=>
 ifb (!decide (x3=0)) (
 some ((Bar.mk (([]:(List Drinker))) (([]:(List Mail)))),x3)) (
 (Z7l x1 x2).bind fun x4=>
 ifb (!x4) (
 some ((Bar.mk (([]:(List Drinker))) (([]:(List Mail)))),161)) (
 (Zdl x1 x2 p2).bind fun x5=>
 some (x5.1,x5.2)))
theorem Zfl (x1:Bar) (x2:Int) (g2:Nat) (caps2:List AV) (p2:(Drinker→Option (Drinker×Int))) (hc2:CloOK Tryz.prog g2 caps2 (fun z=>[.agg (Drinker.row z)]) p2 (fun z=>.tup [.agg (Drinker.row z.1),.iv z.2])) (r:(Bar×Int)) (h:Zel x1 x2 p2=some r):Zq2 Tryz.prog 74 [.agg (Bar.row x1),.iv x2,.clo g2 caps2] (.tup [.agg (Bar.row r.1),.iv r.2]):=by
 refine Zu2 ok74 rfl rfl fun w0 H0=>?_
 rw [Zel] at h
 refine Zl2 10 ?_;dsimp only [e74,go_sem];refine ⟨by simp,?_⟩;obtain ⟨x3,ex3,h⟩:=Option.bind_eq_some_iff.1 h;refine Zz2 trivial (Z5l x1 _ ex3) (hp:=(by first | rfl | simp [go_sem,hc2.pu])) (h:=?_);refine Zl2 7 ?_;dsimp only [e74,go_sem];refine ⟨by simp,?_⟩;refine Zk4 h rfl (fun _ h=>?_) fun _ h=>?_
 ·refine Zl2 7 ?_;dsimp only [e74,go_sem];refine ⟨by simp,?_⟩;exact Zt4 (res:=fun (r:(Bar×Int))=>.tup [.agg (Bar.row r.1),.iv r.2]) ok74 h
 ·refine Zl2 6 ?_;dsimp only [e74,go_sem];refine ⟨by simp,?_⟩;obtain ⟨x4,ex4,h⟩:=Option.bind_eq_some_iff.1 h;refine Zz2 trivial (Z8l x1 x2 _ ex4) (hp:=(by first | rfl | simp [go_sem,hc2.pu])) (h:=?_);refine Zl2 2 ?_;dsimp only [e74,go_sem];refine ⟨by simp,?_⟩;refine Zk4 h rfl (fun _ h=>?_) fun _ h=>?_
  ·refine Zl2 6 ?_;dsimp only [e74,go_sem];refine ⟨by simp,?_⟩;exact Zt4 (res:=fun (r:(Bar×Int))=>.tup [.agg (Bar.row r.1),.iv r.2]) ok74 h
  ·refine Zl2 6 ?_;dsimp only [e74,go_sem];refine ⟨by simp,?_⟩;obtain ⟨x5,ex5,h⟩:=Option.bind_eq_some_iff.1 h;refine Zz2 trivial (k_bar_act x1 x2 _ _ p2 hc2 _ ex5) (hp:=(by first | rfl | simp [go_sem,hc2.pu])) (h:=?_);refine Zl2 5 ?_;dsimp only [e74,go_sem];refine ⟨by simp,?_⟩;exact Zt4 (res:=fun (r:(Bar×Int))=>.tup [.agg (Bar.row r.1),.iv r.2]) ok74 h
set_option maxRecDepth 100000
set_option maxHeartbeats 4000000
def e38:EC:=.seq (.reg [(Qa 3 (.box 25 2 (.t 0))),(Qa 5 (.box 26 1 (.t 2))),(Qa 6 (.alloc 25 [.nl,.nl])),(Qa 7 (.mv (.c (.iv 0))))]) (.seq (.reg [(Qa 8 (.loadA 2 (.t 3))),(Qa 9 (.mv (.t 1))),(Qa 10 (.mkf 76 [(.t 5)])),(Qa 11 (.call 74 [(.t 8),(.t 9),(.t 10)])),(Qa 12 (.ext (.t 11) 0)),(Qa 13 (.ext (.t 11) 1)),(Qb (.store 2 (.t 6) (.t 12))),(Qa 7 (.mv (.t 13)))]) (.ret))
theorem ok38:FnOK Tryz.prog 38 Tryz.f38 e38 [.c 6 (some 2),.t 7] 3 11:=⟨by kernel_rfl,⟨_,rfl,by kernel_rfl⟩,by kernel_rfl,by kernel_rfl⟩
noncomputable def Zgl (x1:Bar) (x2:Int) (x3:(List Int)):Option (Bar×Int):=
 (Zel x1 x2 ((fun z=>Zmk z x3))).bind fun x4=>
 some (x4.1,x4.2)
theorem Zhl (x1:Bar) (x2:Int) (x3:(List Int)) (r:(Bar×Int)) (h:Zgl x1 x2 x3=some r):Zq2 Tryz.prog 38 [.agg (Bar.row x1),.iv x2,.sl 1 (List.map Z05 x3)] (.tup [.agg (Bar.row r.1),.iv r.2]):=by
 refine Zu2 ok38 rfl rfl fun w0 H0=>?_
 rw [Zgl] at h
 refine Zl2 12 ?_;dsimp only [e38,go_sem];refine ⟨by simp,?_⟩;refine V_sealB 1 rfl rfl ?_;dsimp only [go_sem];obtain ⟨x4,ex4,h⟩:=Option.bind_eq_some_iff.1 h;refine Zz2 trivial (Zfl x1 x2 _ _ ((fun z=>Zmk z x3)) ⟨by kernel_rfl,rfl,fun z r hz=>k_bar_Open_1 z x3 r hz⟩ _ ex4) (h:=?_);refine Zl2 5 ?_;dsimp only [e38,go_sem];refine ⟨by simp,?_⟩;exact Zt4 (res:=fun (r:(Bar×Int))=>.tup [.agg (Bar.row r.1),.iv r.2]) ok38 h
set_option maxRecDepth 100000
set_option maxHeartbeats 4000000
def e36:EC:=.seq (.reg [(Qa 2 (.box 25 2 (.t 0))),(Qa 4 (.alloc 25 [.nl,.nl])),(Qa 5 (.mv (.c (.iv 0))))]) (.seq (.reg [(Qa 6 (.loadA 2 (.t 2))),(Qa 7 (.mv (.t 1))),(Qa 8 (.call 74 [(.t 6),(.t 7),(.c (.clo 75 []))])),(Qa 9 (.ext (.t 8) 0)),(Qa 10 (.ext (.t 8) 1)),(Qb (.store 2 (.t 4) (.t 9))),(Qa 5 (.mv (.t 10)))]) (.ret))
theorem ok36:FnOK Tryz.prog 36 Tryz.f36 e36 [.c 4 (some 2),.t 5] 2 9:=⟨by kernel_rfl,⟨_,rfl,by kernel_rfl⟩,by kernel_rfl,by kernel_rfl⟩
noncomputable def Zil (x1:Bar) (x2:Int):Option (Bar×Int):=
 (Zel x1 x2 ((fun z=>Z9h z))).bind fun x3=>
 some (x3.1,x3.2)
theorem Zjl (x1:Bar) (x2:Int) (r:(Bar×Int)) (h:Zil x1 x2=some r):Zq2 Tryz.prog 36 [.agg (Bar.row x1),.iv x2] (.tup [.agg (Bar.row r.1),.iv r.2]):=by
 refine Zu2 ok36 rfl rfl fun w0 H0=>?_
 rw [Zil] at h
 refine Zl2 10 ?_;dsimp only [e36,go_sem];refine ⟨by simp,?_⟩;obtain ⟨x3,ex3,h⟩:=Option.bind_eq_some_iff.1 h;refine Zz2 trivial (Zfl x1 x2 _ _ ((fun z=>Z9h z)) ⟨by kernel_rfl,rfl,fun z r hz=>k_drink_Close z r hz⟩ _ ex3) (h:=?_);refine Zl2 5 ?_;dsimp only [e36,go_sem];refine ⟨by simp,?_⟩;exact Zt4 (res:=fun (r:(Bar×Int))=>.tup [.agg (Bar.row r.1),.iv r.2]) ok36 h
set_option maxRecDepth 100000
set_option maxHeartbeats 4000000
def e87:EC:=.seq (.reg [(Qa 3 (.box 95 5 (.t 0))),(Qa 4 (.mv (.c .ff)))]) (.seq (.reg [(Qa 5 (.fld 0 (.t 3))),(Qa 6 (.load (.t 5))),(Qa 7 (.load (.t 1))),(Qa 8 (.bin .eql (.t 6) (.t 7))),(Qa 9 (.mv (.t 8))),(Qg 10 9 true (.fld 1 (.t 3))),(Qg 11 9 true (.load (.t 10))),(Qg 12 9 true (.load (.t 2))),(Qg 13 9 true (.bin .eql (.t 11) (.t 12))),(Qa 14 (.pick (.t 9) (.t 13) (.c .ff))),(Qa 4 (.mv (.t 14)))]) (.ret))
theorem ok87:FnOK Tryz.prog 87 Tryz.f87 e87 [.t 4] 3 12:=⟨by kernel_rfl,⟨_,rfl,by kernel_rfl⟩,by kernel_rfl,by kernel_rfl⟩
noncomputable def Zkl:Bool→Option Bool
| x4=>
 some x4
noncomputable def Zll (x1:Mail) (x2:Int) (x3:Int):Option Bool:=
 ifb (decide (x1.From=x2)) (
 Zkl (decide (x1.To=x3))) (
 Zkl false)
theorem Zml (x1:Mail) (x2:Int) (x3:Int) (r:Bool) (h:Zll x1 x2 x3=some r):Zq2 Tryz.prog 87 [.agg (Mail.row x1),.elt (Z05 x2) 0,.elt (Z05 x3) 0] (.bv r):=by
 refine Zu2 ok87 rfl rfl fun w0 H0=>?_
 rw [Zll] at h
 refine Zl2 12 ?_;dsimp only [e87,go_sem];refine ⟨by simp,?_⟩;refine Zi4 (fun (x4:Bool)=>(⟨(an 4 (.bv x4::an 10 [])),[],[]⟩:St)) Zkl r ?_ fun J1=>?_
 ·intro x4 h;rw [Zkl] at h;(try dsimp only);exact Zt4 (res:=fun (r:Bool)=>.bv r) ok87 h
 ·refine Zs4 9 h rfl (fun _ h=>?_) fun _ h=>?_
  ·dsimp only [go_sem];refine Zl2 7 ?_;dsimp only [e87,go_sem];refine ⟨by simp,?_⟩;exact Zv4 J1 (s:=decide (x1.To=x3)) h
  ·dsimp only [go_sem];refine Zl2 7 ?_;dsimp only [e87,go_sem];refine ⟨by simp,?_⟩;exact Zv4 J1 (s:=false) h
set_option maxRecDepth 100000
set_option maxHeartbeats 4000000
def e90:EC:=.seq (.reg [(Qa 3 (.box 63 5 (.t 0))),(Qa 4 (.alloc 63 [.iv 0,.iv 0,.nl,.iv 0,.nl])),(Qa 5 (.mv (.c (.iv 0))))]) (.seq (.reg [(Qa 6 (.loadA 5 (.t 3))),(Qa 7 (.load (.t 1))),(Qa 8 (.loadA 3 (.t 2))),(Qa 9 (.call 91 [(.t 6),(.t 7),(.t 8)])),(Qa 10 (.ext (.t 9) 0)),(Qa 11 (.ext (.t 9) 1)),(Qb (.store 5 (.t 4) (.t 10))),(Qa 5 (.mv (.t 11)))]) (.ret))
theorem ok90:FnOK Tryz.prog 90 Tryz.f90 e90 [.c 4 (some 5),.t 5] 3 9:=⟨by kernel_rfl,⟨_,rfl,by kernel_rfl⟩,by kernel_rfl,by kernel_rfl⟩
noncomputable def Znl (x1:Drinker) (x2:Int) (x3:Msg):Option (Drinker×Int):=
 (Zfh x1 x2 x3).bind fun x4=>
 some (x4.1,x4.2)
theorem Zol (x1:Drinker) (x2:Int) (x3:Msg) (r:(Drinker×Int)) (h:Znl x1 x2 x3=some r):Zq2 Tryz.prog 90 [.agg (Drinker.row x1),.elt (Z05 x2) 0,.elt (Msg.row x3) 0] (.tup [.agg (Drinker.row r.1),.iv r.2]):=by
 refine Zu2 ok90 rfl rfl fun w0 H0=>?_
 rw [Znl] at h
 refine Zl2 11 ?_;dsimp only [e90,go_sem];refine ⟨by simp,?_⟩;obtain ⟨x4,ex4,h⟩:=Option.bind_eq_some_iff.1 h;refine Zz2 trivial (k_drink_Get x1 x2 x3 _ ex4) (h:=?_);refine Zl2 5 ?_;dsimp only [e90,go_sem];refine ⟨by simp,?_⟩;exact Zt4 (res:=fun (r:(Drinker×Int))=>.tup [.agg (Drinker.row r.1),.iv r.2]) ok90 h
set_option maxRecDepth 100000
set_option maxHeartbeats 4000000
def e48:EC:=.seq (.reg [(Qa 3 (.box 25 2 (.t 0))),(Qa 4 (.box 3 1 (.t 1))),(Qa 5 (.box 3 1 (.t 2))),(Qa 6 (.alloc 25 [.nl,.nl])),(Qa 7 (.mv (.c (.iv 0))))]) (.seq (.seq (.reg [(Qa 11 (.loadA 2 (.t 3))),(Qa 12 (.call 17 [(.t 11)])),(Qa 8 (.mv (.t 12)))]) (.seq (.reg [(Qa 13 (.mv (.t 8))),(Qa 14 (.bin .neq (.t 13) (.c (.iv 0))))]) (.ite (.t 14) (.seq (.reg [(Qa 15 (.build [.nl,.nl] [])),(Qa 16 (.mv (.t 8))),(Qb (.store 2 (.t 6) (.t 15))),(Qa 7 (.mv (.t 16)))]) (.ret)) (.skip)))) (.seq (.seq (.reg [(Qa 17 (.loadA 2 (.t 3))),(Qa 18 (.load (.t 4))),(Qa 19 (.call 64 [(.t 17),(.t 18)])),(Qa 20 (.not (.t 19))),(Qa 21 (.mv (.t 20))),(Qg 22 21 false (.loadA 2 (.t 3))),(Qg 23 21 false (.load (.t 5))),(Qg 24 21 false (.call 64 [(.t 22),(.t 23)])),(Qg 25 21 false (.not (.t 24))),(Qa 26 (.pick (.t 21) (.c .tt) (.t 25)))]) (.ite (.t 26) (.seq (.reg [(Qa 27 (.build [.nl,.nl] [])),(Qb (.store 2 (.t 6) (.t 27))),(Qa 7 (.mv (.c (.iv 161))))]) (.ret)) (.skip))) (.seq (.reg [(Qa 28 (.fld 1 (.t 3))),(Qa 29 (.load (.t 28))),(Qa 30 (.mkf 87 [(.t 4),(.t 5)])),(Qa 31 (.call 86 [(.t 29),(.t 30)])),(Qa 9 (.mv (.t 31)))]) (.seq (.seq (.reg [(Qa 32 (.mv (.t 9))),(Qa 33 (.bin .lss (.t 32) (.c (.iv 0))))]) (.ite (.t 33) (.seq (.reg [(Qa 34 (.build [.nl,.nl] [])),(Qb (.store 2 (.t 6) (.t 34))),(Qa 7 (.mv (.c (.iv 162))))]) (.ret)) (.skip))) (.seq (.reg [(Qa 35 (.fld 1 (.t 3))),(Qa 36 (.load (.t 35))),(Qa 37 (.mv (.t 9))),(Qa 38 (.idx 5 (.t 36) (.t 37))),(Qa 39 (.fld 2 (.t 38))),(Qa 40 (.loadA 3 (.t 39))),(Qa 10 (.alloc 93 [.iv 0,.iv 0,.iv 0])),(Qb (.store 3 (.t 10) (.t 40)))]) (.seq (.drw [(Qa 41 (.fld 1 (.t 3))),(Qa 42 (.load (.t 41))),(Qa 43 (.mv (.t 9))),(Qa 44 (.slice 5 (.t 42) none (some (.t 43)))),(Qa 45 (.fld 1 (.t 3))),(Qa 46 (.load (.t 45))),(Qa 47 (.mv (.t 9))),(Qa 48 (.bin .add (.t 47) (.c (.iv 1)))),(Qa 49 (.slice 5 (.t 46) (some (.t 48)) none)),(Qa 50 (.bsl 23 1 2 [.nl] [(0,(.t 44)),(1,(.t 49))])),(Qa 51 (.call 88 [(.t 50)])),(Qa 52 (.fld 1 (.t 3))),(Qb (.store 1 (.t 52) (.t 51)))] [[],[0],[],[1,2],[],[4],[],[6],[5,7],[3,8],[9],[0,1,2,3,4,5,6,7,8,9,10],[11,10,10,0,1,2,3,4,5,6,7,8,9,10]] [[1],[0,3],[3],[1,2,9],[5],[4,8],[7],[6,8],[5,7,9],[3,8,10],[9,12],[12],[10,11]]) (.seq (.reg [(Qa 53 (.loadA 2 (.t 3))),(Qa 54 (.load (.t 5))),(Qa 55 (.mkf 90 [(.t 4),(.t 10)])),(Qa 56 (.call 89 [(.t 53),(.t 54),(.t 55)])),(Qa 57 (.ext (.t 56) 0)),(Qa 58 (.ext (.t 56) 1)),(Qb (.store 2 (.t 6) (.t 57))),(Qa 7 (.mv (.t 58)))]) (.ret))))))))
theorem ok48:FnOK Tryz.prog 48 Tryz.f48 e48 [.c 6 (some 2),.t 7] 3 56:=⟨by kernel_rfl,⟨_,rfl,by kernel_rfl⟩,by kernel_rfl,by kernel_rfl⟩
noncomputable def Zpl (x1:Bar) (x2:Int) (x3:Int) (x9:Mail):(List Mail)→Option (Bar×Int)
| x13=>
 (Zdl ((Bar.mk x1.Drinkers x13)) x3 ((fun z=>Znl z x2 x9.Msg))).bind fun x14=>
 some (x14.1,x14.2)
noncomputable def Zql (x1:Bar) (x2:Int) (x3:Int):Bool→Option (Bar×Int)
| x7=>
 ifb x7 (
 some ((Bar.mk (([]:(List Drinker))) (([]:(List Mail)))),161)) (
 (Z8i x1.Mail ((fun z=>Zll z x2 x3))).bind fun x8=>
 ifb (decide (x8<0)) (
 some ((Bar.mk (([]:(List Drinker))) (([]:(List Mail)))),162)) (
 (at_ x1.Mail x8).bind fun x9=>
 (sub_ x1.Mail 0 x8).bind fun x10=>
 (sub_ x1.Mail (wr (x8+1)) (ln Mail.row x1.Mail)).bind fun x11=>
 (Zqi ([x10,x11])).bind fun x12=>
 (Zpl x1 x2 x3 x9) x12))
noncomputable def Zrl (x1:Bar) (x2:Int) (x3:Int):Option (Bar×Int):=
 (Z4l x1).bind fun x4=>
 ifb (!decide (x4=0)) (
 some ((Bar.mk (([]:(List Drinker))) (([]:(List Mail)))),x4)) (
 (Z7l x1 x2).bind fun x5=>
 ifb (!x5) (
 (Zql x1 x2 x3) true) (
 (Z7l x1 x3).bind fun x6=>
 (Zql x1 x2 x3) (!x6)))
theorem Zsl (x1:Bar) (x2:Int) (x3:Int) (r:(Bar×Int)) (h:Zrl x1 x2 x3=some r):Zq2 Tryz.prog 48 [.agg (Bar.row x1),.iv x2,.iv x3] (.tup [.agg (Bar.row r.1),.iv r.2]):=by
 refine Zu2 ok48 rfl rfl fun w0 H0=>?_
 rw [Zrl] at h
 refine Zl2 12 ?_;dsimp only [e48,go_sem];refine ⟨by simp,?_⟩;obtain ⟨x4,ex4,h⟩:=Option.bind_eq_some_iff.1 h;refine Zz2 trivial (Z5l x1 _ ex4) (h:=?_);refine Zl2 7 ?_;dsimp only [e48,go_sem];refine ⟨by simp,?_⟩;refine Zk4 h rfl (fun _ h=>?_) fun _ h=>?_
 ·refine Zl2 7 ?_;dsimp only [e48,go_sem];refine ⟨by simp,?_⟩;exact Zt4 (res:=fun (r:(Bar×Int))=>.tup [.agg (Bar.row r.1),.iv r.2]) ok48 h
 ·refine Zl2 6 ?_;dsimp only [e48,go_sem];refine ⟨by simp,?_⟩;obtain ⟨x5,ex5,h⟩:=Option.bind_eq_some_iff.1 h;refine Zz2 trivial (Z8l x1 x2 _ ex5) (h:=?_);refine Zl2 2 ?_;dsimp only [e48,go_sem];refine ⟨by simp,?_⟩;refine Zi4 (fun (x7:Bool)=>(⟨(an 3 (.ptr 0 0 :: .ptr 1 0 :: .ptr 2 0 :: .ptr 3 0::an 19 (.bv x7::an 32 []))),[some ⟨25,[.sl 5 (List.map Drinker.row x1.Drinkers),.sl 5 (List.map Mail.row x1.Mail)]⟩,some ⟨3,[.iv x2]⟩,some ⟨3,[.iv x3]⟩,some ⟨25,[.nl,.nl]⟩],[]⟩:St)) (Zql x1 x2 x3) r ?_ fun J1=>?_
  ·intro x7 h;rw [Zql] at h;(try dsimp only);refine Zk4 h rfl (fun _ h=>?_) fun _ h=>?_
   ·refine Zl2 6 ?_;dsimp only [e48,go_sem];refine ⟨by simp,?_⟩;exact Zt4 (res:=fun (r:(Bar×Int))=>.tup [.agg (Bar.row r.1),.iv r.2]) ok48 h
   ·refine Zl2 6 ?_;dsimp only [e48,go_sem];refine ⟨by simp,?_⟩;obtain ⟨x8,ex8,h⟩:=Option.bind_eq_some_iff.1 h;refine Zy4 trivial (((Zw4.refl _).block 1 rfl rfl).block 2 rfl rfl) (Z9i x1.Mail _ _ ((fun z=>Zll z x2 x3)) ⟨by kernel_rfl,rfl,fun z r hz=>Zml z x2 x3 r hz⟩ _ ex8) (h:=?_);refine Zl2 8 ?_;dsimp only [e48,go_sem];refine ⟨by simp,?_⟩;refine Zk4 h rfl (fun _ h=>?_) fun _ h=>?_
    ·refine Zl2 6 ?_;dsimp only [e48,go_sem];refine ⟨by simp,?_⟩;exact Zt4 (res:=fun (r:(Bar×Int))=>.tup [.agg (Bar.row r.1),.iv r.2]) ok48 h
    ·refine Zl2 6 ?_;dsimp only [e48,go_sem];refine ⟨by simp,?_⟩;obtain ⟨x9,ex9,h⟩:=Option.bind_eq_some_iff.1 h;refine Zn4 Mail.row ex9 trivial rfl rfl rfl ?_;refine Zl2 6 ?_;dsimp only [e48,go_sem];refine ⟨by simp,?_⟩
     refine Zi4 (fun (x13:(List Mail))=>(⟨(an 3 (.ptr 0 0 :: .ptr 1 0 :: .ptr 2 0 :: .ptr 3 0::an 3 (.ptr 4 0::an 48 []))),[some ⟨25,[.sl 5 (List.map Drinker.row x1.Drinkers),.osl 1]⟩,some ⟨3,[.iv x2]⟩,some ⟨3,[.iv x3]⟩,some ⟨25,[.nl,.nl]⟩,some ⟨93,[.iv x9.Msg.Kind,.iv x9.Msg.Epoch,.iv x9.Msg.Num]⟩],[none,some ⟨95,5,List.map Mail.row x13⟩]⟩:St)) (Zpl x1 x2 x3 x9) r ?_ fun J2=>?_
     ·intro x13 h;rw [Zpl] at h;(try dsimp only);refine Zl2 5 ?_;dsimp only [e48,go_sem];refine ⟨by simp,?_⟩;refine Z83 1 rfl ?_;dsimp only [go_sem];refine V_sealB 1 rfl rfl ?_;dsimp only [go_sem];refine V_sealB 4 rfl rfl ?_;dsimp only [go_sem];obtain ⟨x14,ex14,h⟩:=Option.bind_eq_some_iff.1 h;refine Zz2 trivial (k_bar_act ((Bar.mk x1.Drinkers x13)) x3 _ _ ((fun z=>Znl z x2 x9.Msg)) ⟨by kernel_rfl,rfl,fun z r hz=>Zol z x2 x9.Msg r hz⟩ _ ex14) (h:=?_);refine Zl2 5 ?_;dsimp only [e48,go_sem];refine ⟨by simp,?_⟩
      exact Zt4 (res:=fun (r:(Bar×Int))=>.tup [.agg (Bar.row r.1),.iv r.2]) ok48 h
     ·refine Zh3 (by kernel_rfl) fun all hall hs hnap haf=>?_;dsimp only [go_sem]
      refine Zg5 hall hs haf hnap 7 6 [true,true,true,false,true,true,true,true,false,false,false,false,false] (⟨(an 3 (.ptr 0 0 :: .ptr 1 0 :: .ptr 2 0 :: .ptr 3 0 :: .any :: .any :: .iv x8 :: .ptr 4 0::an 15 (.bv x7 :: .any :: .ptr 0 1 :: .sl 5 (List.map Mail.row x1.Mail) :: .clo 87 [.ptr 1 0,.ptr 2 0] :: .iv x8 :: .iv x8 :: .bv (decide (x8<0)) :: .any :: .ptr 0 1 :: .sl 5 (List.map Mail.row x1.Mail) :: .iv x8 :: .elt [.iv x9.From,.iv x9.To,.iv x9.Msg.Kind,.iv x9.Msg.Epoch,.iv x9.Msg.Num] 0 :: .elt [.iv x9.From,.iv x9.To,.iv x9.Msg.Kind,.iv x9.Msg.Epoch,.iv x9.Msg.Num] 2 :: .agg [.iv x9.Msg.Kind,.iv x9.Msg.Epoch,.iv x9.Msg.Num] :: .ptr 0 1 :: .sl 5 (List.map Mail.row x1.Mail) :: .iv x8 :: .any :: .ptr 0 1 :: .sl 5 (List.map Mail.row x1.Mail) :: .iv x8 :: .iv (wr (x8+1))::an 10 []))),[some ⟨25,[.sl 5 (List.map Drinker.row x1.Drinkers),.sl 5 (List.map Mail.row x1.Mail)]⟩,some ⟨3,[.iv x2]⟩,some ⟨3,[.iv x3]⟩,some ⟨25,[.nl,.nl]⟩,some ⟨93,[.iv x9.Msg.Kind,.iv x9.Msg.Epoch,.iv x9.Msg.Num]⟩],[]⟩:St) (by kernel_rfl) ?_
      obtain ⟨x10,ex10,h⟩:=Option.bind_eq_some_iff.1 h;refine G_sliceM hall hs haf hnap 3 Mail.row ex10 rfl rfl trivial rfl rfl rfl rfl rfl ?_;dsimp only [go_sem];obtain ⟨x11,ex11,h⟩:=Option.bind_eq_some_iff.1 h;refine G_sliceM hall hs haf hnap 8 Mail.row ex11 rfl rfl trivial rfl rfl rfl rfl rfl ?_;dsimp only [go_sem];refine Zu3 9 rfl ?_;refine GO_bslS hall rfl trivial rfl trivial ?_;dsimp only [go_sem];refine Zu3 10 rfl ?_;obtain ⟨x12,ex12,h⟩:=Option.bind_eq_some_iff.1 h;refine Zb5 hall rfl trivial (Zri ([x10,x11]) _ ex12) (h:=?_)
      dsimp only [go_sem];refine Zf5 hall hs haf hnap 1 1 ?_;dsimp only [go_sem];refine ⟨by simp,?_⟩;refine Zu3 12 rfl ?_;refine Zz3 hall rfl trivial ?_;dsimp only [go_sem];refine Zt3 rfl ?_ _;exact Zv4 J2 (s:=x12) h
  ·refine Zs4 21 h rfl (fun _ h=>?_) fun _ h=>?_
   ·dsimp only [go_sem];refine Zl2 6 ?_;dsimp only [e48,go_sem];refine ⟨by simp,?_⟩;exact Zv4 J1 (s:=true) h
   ·dsimp only [go_sem];refine Zl2 2 ?_;dsimp only [e48,go_sem];refine ⟨by simp,?_⟩;obtain ⟨x6,ex6,h⟩:=Option.bind_eq_some_iff.1 h;refine Zz2 trivial (Z8l x1 x3 _ ex6) (h:=?_);refine Zl2 3 ?_;dsimp only [e48,go_sem];refine ⟨by simp,?_⟩;exact Zv4 J1 (s:=!x6) h
set_option maxRecDepth 100000
set_option maxHeartbeats 4000000
def e13:EC:=.seq (.reg [(Qa 2 (.box 25 2 (.t 0))),(Qa 3 (.box 28 4 (.t 1))),(Qa 4 (.alloc 25 [.nl,.nl])),(Qa 5 (.mv (.c (.iv 0))))]) (.seq (.seq (.reg [(Qa 6 (.fld 0 (.t 3))),(Qa 7 (.load (.t 6)))]) (.blk 0 (.seq (.reg [(Qa 9 (.bin .eql (.t 7) (.c (.iv 0)))),(Qa 8 (.mv (.t 9)))]) (.ite (.t 8) (.seq (.drw [(Qa 10 (.loadA 2 (.t 2))),(Qa 11 (.fld 1 (.t 3))),(Qa 12 (.load (.t 11))),(Qa 13 (.bsl 3 1 0 [.iv 0] [])),(Qa 14 (.fld 3 (.t 3))),(Qa 15 (.load (.t 14))),(Qa 16 (.app 3 1 8 (.t 13) (.t 15))),(Qa 17 (.call 38 [(.t 10),(.t 12),(.t 16)])),(Qa 18 (.ext (.t 17) 0)),(Qa 19 (.ext (.t 17) 1)),(Qb (.store 2 (.t 4) (.t 18))),(Qa 5 (.mv (.t 19)))] [[],[],[1],[],[],[4],[3,5],[0,2,6,6],[7],[7],[8,7,0,1,2,3,4,5,6,7,8,9],[9,10,0,1,2,3,4,5,6,7,8,9,10]] [[7],[2],[1,7],[6],[5],[4,6],[3,5,7],[0,2,6,8,9],[7,10],[7,11],[8],[9]]) (.ret)) (.seq (.reg [(Qa 21 (.bin .eql (.t 7) (.c (.iv 1)))),(Qa 20 (.mv (.t 21)))]) (.ite (.t 20) (.seq (.reg [(Qa 22 (.loadA 2 (.t 2))),(Qa 23 (.fld 1 (.t 3))),(Qa 24 (.load (.t 23))),(Qa 25 (.call 36 [(.t 22),(.t 24)])),(Qa 26 (.ext (.t 25) 0)),(Qa 27 (.ext (.t 25) 1)),(Qb (.store 2 (.t 4) (.t 26))),(Qa 5 (.mv (.t 27)))]) (.ret)) (.skip))))))) (.seq (.reg [(Qa 28 (.loadA 2 (.t 2))),(Qa 29 (.fld 1 (.t 3))),(Qa 30 (.load (.t 29))),(Qa 31 (.fld 2 (.t 3))),(Qa 32 (.load (.t 31))),(Qa 33 (.call 48 [(.t 28),(.t 30),(.t 32)])),(Qa 34 (.ext (.t 33) 0)),(Qa 35 (.ext (.t 33) 1)),(Qb (.store 2 (.t 4) (.t 34))),(Qa 5 (.mv (.t 35)))]) (.ret)))
theorem ok13:FnOK Tryz.prog 13 Tryz.f13 e13 [.c 4 (some 2),.t 5] 2 34:=⟨by kernel_rfl,⟨_,rfl,by kernel_rfl⟩,by kernel_rfl,by kernel_rfl⟩
noncomputable def Ztl (x1:Bar) (x2:narthexlaw16_Act):Option (Bar×Int):=
 ifb (decide (x2.K=0)) (
 (Zc4 8 (([]:List Int)) x2.Need).bind fun x3=>
 (Zgl x1 x2.A x3).bind fun x4=>
 some (x4.1,x4.2)) (
 ifb (decide (x2.K=1)) (
 (Zil x1 x2.A).bind fun x5=>
 some (x5.1,x5.2)) (
 (Zrl x1 x2.A x2.B).bind fun x6=>
 some (x6.1,x6.2)))
theorem Zul (x1:Bar) (x2:narthexlaw16_Act) (r:(Bar×Int)) (h:Ztl x1 x2=some r):Zq2 Tryz.prog 13 [.agg (Bar.row x1),.agg (narthexlaw16_Act.row x2)] (.tup [.agg (Bar.row r.1),.iv r.2]):=by
 refine Zu2 ok13 rfl rfl fun w0 H0=>?_
 rw [Ztl] at h
 refine Zl2 19 ?_;dsimp only [e13,go_sem];refine ⟨by simp,?_⟩;refine Zk4 h rfl (fun _ h=>?_) fun _ h=>?_
 ·refine Zl2 1 ?_;dsimp only [e13,go_sem];refine ⟨by simp,?_⟩;refine Zh3 (by kernel_rfl) fun all hall hs hnap haf=>?_;dsimp only [go_sem];refine Zf5 hall hs haf hnap 5 7 ?_;dsimp only [go_sem];refine ⟨by simp,?_⟩;refine Zu3 3 rfl ?_;refine Zz3 hall rfl trivial ?_;dsimp only [go_sem];refine Zu3 6 rfl ?_;obtain ⟨x3,ex3,h⟩:=Option.bind_eq_some_iff.1 h;refine GO_appSM Z05 ex3 hall rfl trivial rfl rfl rfl ?_;dsimp only [go_sem];refine Zu3 7 rfl ?_;obtain ⟨x4,ex4,h⟩:=Option.bind_eq_some_iff.1 h
  refine Z04 hall rfl trivial (Zhl x1 x2.A x3 _ ex4) (h:=?_);dsimp only [go_sem];refine Zf5 hall hs haf hnap 2 2 ?_;dsimp only [go_sem];refine ⟨by simp,?_⟩;refine Zu3 10 rfl ?_;refine Zz3 hall rfl trivial ?_;dsimp only [go_sem];refine Zf5 hall hs haf hnap 1 0 ?_;dsimp only [go_sem];refine ⟨by simp,?_⟩;refine Zt3 rfl ?_ _;exact Zt4 (res:=fun (r:(Bar×Int))=>.tup [.agg (Bar.row r.1),.iv r.2]) ok13 h
 ·refine Zl2 5 ?_;dsimp only [e13,go_sem];refine ⟨by simp,?_⟩;refine Zk4 h rfl (fun _ h=>?_) fun _ h=>?_
  ·refine Zl2 5 ?_;dsimp only [e13,go_sem];refine ⟨by simp,?_⟩;obtain ⟨x5,ex5,h⟩:=Option.bind_eq_some_iff.1 h;refine Zz2 trivial (Zjl x1 x2.A _ ex5) (h:=?_);refine Zl2 5 ?_;dsimp only [e13,go_sem];refine ⟨by simp,?_⟩;exact Zt4 (res:=fun (r:(Bar×Int))=>.tup [.agg (Bar.row r.1),.iv r.2]) ok13 h
  ·refine Zl2 9 ?_;dsimp only [e13,go_sem];refine ⟨by simp,?_⟩;obtain ⟨x6,ex6,h⟩:=Option.bind_eq_some_iff.1 h;refine Zz2 trivial (Zsl x1 x2.A x2.B _ ex6) (h:=?_);refine Zl2 5 ?_;dsimp only [e13,go_sem];refine ⟨by simp,?_⟩;exact Zt4 (res:=fun (r:(Bar×Int))=>.tup [.agg (Bar.row r.1),.iv r.2]) ok13 h
set_option maxRecDepth 100000
set_option maxHeartbeats 4000000
def e92:EC:=.seq (.reg [(Qa 1 (.box 61 3 (.t 0))),(Qa 2 (.alloc 61 [.iv 0,.iv 0,.nl]))]) (.seq (.reg [(Qa 3 (.bsl 66 8 0 [.iv 0,.iv 0,.iv 0,.ff,.ff,.ff,.ff,.ff] [])),(Qa 4 (.fld 2 (.t 1))),(Qa 5 (.load (.t 4))),(Qa 6 (.app 66 8 32 (.t 3) (.t 5))),(Qa 7 (.fld 2 (.t 1))),(Qb (.store 1 (.t 7) (.t 6)))]) (.seq (.reg [(Qa 8 (.loadA 3 (.t 1))),(Qb (.store 3 (.t 2) (.t 8)))]) (.ret)))
theorem ok92:FnOK Tryz.prog 92 Tryz.f92 e92 [.c 2 (some 3)] 1 8:=⟨by kernel_rfl,⟨_,rfl,by kernel_rfl⟩,by kernel_rfl,by kernel_rfl⟩
noncomputable def Zvl (x1:Diner):Option Diner:=
 (Zc4 32 (([]:List Side)) x1.Sides).bind fun x2=>
 some (Diner.mk x1.ID x1.Phase x2)
theorem Zwl (x1:Diner) (r:Diner) (h:Zvl x1=some r):Zq2 Tryz.prog 92 [.agg (Diner.row x1)] (.agg (Diner.row r)):=by
 refine Zu2 ok92 rfl rfl fun w0 H0=>?_
 rw [Zvl] at h
 refine Zl2 10 ?_;dsimp only [e92,go_sem];refine ⟨by simp,?_⟩;obtain ⟨x2,ex2,h⟩:=Option.bind_eq_some_iff.1 h;refine Zq4 Side.row ex2 trivial rfl rfl rfl ?_;refine Zl2 8 ?_;dsimp only [e92,go_sem];refine ⟨by simp,?_⟩;refine Z83 1 rfl ?_;dsimp only [go_sem];exact Zt4 (res:=fun (r:Diner)=>.agg (Diner.row r)) ok92 h
set_option maxRecDepth 100000
set_option maxHeartbeats 4000000
def e50:EC:=.seq (.reg [(Qa 1 (.box 63 5 (.t 0))),(Qa 2 (.alloc 63 [.iv 0,.iv 0,.nl,.iv 0,.nl]))]) (.seq (.reg [(Qa 3 (.fld 0 (.t 1))),(Qa 4 (.loadA 3 (.t 3))),(Qa 5 (.call 92 [(.t 4)])),(Qa 6 (.fld 0 (.t 1))),(Qb (.store 3 (.t 6) (.t 5)))]) (.seq (.reg [(Qa 7 (.bsl 3 1 0 [.iv 0] [])),(Qa 8 (.fld 4 (.t 1))),(Qa 9 (.load (.t 8))),(Qa 10 (.app 3 1 8 (.t 7) (.t 9))),(Qa 11 (.fld 4 (.t 1))),(Qb (.store 1 (.t 11) (.t 10)))]) (.seq (.reg [(Qa 12 (.loadA 5 (.t 1))),(Qb (.store 5 (.t 2) (.t 12)))]) (.ret))))
theorem ok50:FnOK Tryz.prog 50 Tryz.f50 e50 [.c 2 (some 5)] 1 12:=⟨by kernel_rfl,⟨_,rfl,by kernel_rfl⟩,by kernel_rfl,by kernel_rfl⟩
noncomputable def Zxl (x1:Drinker):Option Drinker:=
 (Zvl x1.Diner).bind fun x2=>
 (Zc4 8 (([]:List Int)) x1.Need).bind fun x3=>
 some (Drinker.mk x2 x1.Thirst x3)
theorem Zyl (x1:Drinker) (r:Drinker) (h:Zxl x1=some r):Zq2 Tryz.prog 50 [.agg (Drinker.row x1)] (.agg (Drinker.row r)):=by
 refine Zu2 ok50 rfl rfl fun w0 H0=>?_
 rw [Zxl] at h
 refine Zl2 9 ?_;dsimp only [e50,go_sem];refine ⟨by simp,?_⟩;obtain ⟨x2,ex2,h⟩:=Option.bind_eq_some_iff.1 h;refine Zz2 trivial (Zwl x1.Diner _ ex2) (h:=?_);refine Zl2 8 ?_;dsimp only [e50,go_sem];refine ⟨by simp,?_⟩;obtain ⟨x3,ex3,h⟩:=Option.bind_eq_some_iff.1 h;refine Zq4 Z05 ex3 trivial rfl rfl rfl ?_;refine Zl2 8 ?_;dsimp only [e50,go_sem];refine ⟨by simp,?_⟩;refine Z83 1 rfl ?_;dsimp only [go_sem];exact Zt4 (res:=fun (r:Drinker)=>.agg (Drinker.row r)) ok50 h
set_option maxRecDepth 100000
set_option maxHeartbeats 4000000
def Zzl:EC:=.seq (.seq (.reg [(Qa 10 (.mv (.t 4))),(Qa 11 (.fld 0 (.t 1))),(Qa 12 (.load (.t 11))),(Qa 13 (.len (.t 12))),(Qa 14 (.bin .lss (.t 10) (.t 13)))]) (.ite (.t 14) (.skip) (.exit 0))) (.seq (.blk 1 (.drw [(Qa 17 (.fld 0 (.t 3))),(Qa 18 (.load (.t 17))),(Qa 19 (.fld 0 (.t 1))),(Qa 20 (.load (.t 19))),(Qa 21 (.mv (.t 4))),(Qa 22 (.idx 5 (.t 20) (.t 21))),(Qa 23 (.loadA 5 (.t 22))),(Qa 24 (.call 50 [(.t 23)])),(Qa 25 (.bsl 63 5 1 [.iv 0,.iv 0,.nl,.iv 0,.nl] [(0,(.t 24))])),(Qa 26 (.app 63 5 72 (.t 18) (.t 25))),(Qa 27 (.fld 0 (.t 3))),(Qb (.store 1 (.t 27) (.t 26)))] [[],[0],[],[2],[],[3,4],[5],[6],[7],[1,8,7],[0,1,2,3,4,5,6,7,8,9],[10,9,9,0,1,2,3,4,5,6,7,8,9]] [[1],[0,9],[3],[2,5],[5],[3,4,6],[5,7],[6,8],[7,9],[1,8,11],[11],[9,10]])) (.reg [(Qa 15 (.mv (.t 4))),(Qa 16 (.bin .add (.t 15) (.c (.iv 1)))),(Qa 4 (.mv (.t 16)))]))
def e14:EC:=.seq (.reg [(Qa 1 (.box 25 2 (.t 0))),(Qa 2 (.alloc 25 [.nl,.nl]))]) (.seq (.reg [(Qa 5 (.bsl 95 5 0 [.iv 0,.iv 0,.iv 0,.iv 0,.iv 0] [])),(Qa 6 (.fld 1 (.t 1))),(Qa 7 (.load (.t 6))),(Qa 8 (.app 95 5 40 (.t 5) (.t 7))),(Qa 9 (.build [.nl,.nl] [(1,1,(.t 8))])),(Qa 3 (.alloc 25 [.nl,.nl])),(Qb (.store 2 (.t 3) (.t 9)))]) (.seq (.seq (.reg [(Qa 4 (.mv (.c (.iv 0))))]) (.blk 0 (.loop Zzl))) (.seq (.reg [(Qa 28 (.loadA 2 (.t 3))),(Qb (.store 2 (.t 2) (.t 28)))]) (.ret))))
theorem ok14:FnOK Tryz.prog 14 Tryz.f14 e14 [.c 2 (some 2)] 1 28:=⟨by kernel_rfl,⟨_,rfl,by kernel_rfl⟩,by kernel_rfl,by kernel_rfl⟩
noncomputable def Z0m (x2:(List Mail)):(List Drinker)→Option Bar
| x28=>
 some (Bar.mk x28 x2)
noncomputable def Z1m (x1:Bar) (x2:(List Mail)):(Int×(List Drinker))→Option ((Int×(List Drinker)) ⊕ Bar)
| (x8,x9)=>
 ifb (decide (x8<(ln Drinker.row x1.Drinkers))) (
 (at_ x1.Drinkers x8).bind fun x10=>
 (Zxl x10).bind fun x11=>
 (Zc4 72 x9 ([x11])).bind fun x13=>
 some (.inl (wr (x8+1),x13))) (
 Option.map Sum.inr ((Z0m x2) x9))
noncomputable def Z2m (x1:Bar):Option Bar:=
 (Zc4 40 (([]:List Mail)) x1.Mail).bind fun x2=>
 loop (Z1m x1 x2) (0,([]:List Drinker))
theorem Z3m (x1:Bar) (r:Bar) (h:Z2m x1=some r):Zq2 Tryz.prog 14 [.agg (Bar.row x1)] (.agg (Bar.row r)):=by
 refine Zu2 ok14 rfl rfl fun w0 H0=>?_
 rw [Z2m] at h
 refine Zl2 10 ?_;dsimp only [e14,Zzl,go_sem];refine ⟨by simp,?_⟩;obtain ⟨x2,ex2,h⟩:=Option.bind_eq_some_iff.1 h;refine Zq4 Mail.row ex2 trivial rfl rfl rfl ?_;refine Zl2 9 ?_;dsimp only [e14,Zzl,go_sem];refine ⟨by simp,?_⟩;refine Zi4 (fun (x28:(List Drinker))=>(⟨(.any :: .any :: .ptr 1 0 :: .ptr 2 0::an 25 []),[none,some ⟨25,[.nl,.nl]⟩,some ⟨25,[.osl 2,.osl 1]⟩],[none,some ⟨95,5,List.map Mail.row x2⟩,some ⟨63,5,List.map Drinker.row x28⟩]⟩:St)) (Z0m x2) r ?_ fun J1=>?_
 ·intro x28 h;rw [Z0m] at h;(try dsimp only);refine Zl2 5 ?_;dsimp only [e14,Zzl,go_sem];refine ⟨by simp,?_⟩;refine Z83 2 rfl ?_;dsimp only [go_sem];refine Z83 1 rfl ?_;dsimp only [go_sem];exact Zt4 (res:=fun (r:Bar)=>.agg (Bar.row r)) ok14 h
 ·refine Zl2 1 ?_;dsimp only [e14,Zzl,go_sem];refine ⟨by simp,?_⟩;refine Z64 2 0 63 5 rfl rfl rfl ?_;dsimp only [go_sem];refine Zj4 h (fun ((x8,x9):(Int×(List Drinker)))=>(⟨(.any :: .ptr 0 0 :: .ptr 1 0 :: .ptr 2 0 :: .iv x8::an 24 []),[some ⟨25,[.sl 5 (List.map Drinker.row x1.Drinkers),.sl 5 (List.map Mail.row x1.Mail)]⟩,some ⟨25,[.nl,.nl]⟩,some ⟨25,[.osl 2,.osl 1]⟩],[none,some ⟨95,5,List.map Mail.row x2⟩,some ⟨63,5,List.map Drinker.row x9⟩]⟩:St)) (by simp [go_sem]) (by rintro ⟨x8,x9⟩;first | rfl | simp [go_sem]) ?_
  rintro n1 ⟨x8,x9⟩ y1 h hin1 hout1;rw [Z1m] at h;(try dsimp only);refine Zl2 9 ?_;dsimp only [e14,Zzl,go_sem];refine ⟨by simp,?_⟩;refine Zk4 h rfl (fun _ h=>?_) fun _ h=>?_
  ·refine Zl2 3 ?_;dsimp only [e14,Zzl,go_sem];refine ⟨by simp,?_⟩;refine Zh3 (by kernel_rfl) fun all hall hs hnap haf=>?_;dsimp only [go_sem];refine Zf5 hall hs haf hnap 4 8 ?_;dsimp only [go_sem];refine ⟨by simp,?_⟩;obtain ⟨x10,ex10,h⟩:=Option.bind_eq_some_iff.1 h;refine Zo4 hall hs haf hnap 5 Drinker.row ex10 rfl rfl trivial rfl rfl rfl rfl ?_;refine Zf5 hall hs haf hnap 1 6 ?_;dsimp only [go_sem];refine ⟨by simp,?_⟩;obtain ⟨x11,ex11,h⟩:=Option.bind_eq_some_iff.1 h;refine Zv3 1 7 rfl ?_ ?_
   ·refine Zz3 hall rfl trivial ?_;dsimp only [go_sem];refine Zu3 7 rfl ?_;refine Z04 hall rfl trivial (Zyl x10 _ ex11) (h:=?_);dsimp only [go_sem];refine Zu3 8 rfl ?_;refine Zz3 hall rfl trivial ?_;dsimp only [go_sem];refine Zu3 9 rfl ?_;obtain ⟨x13,ex13,h⟩:=Option.bind_eq_some_iff.1 h;refine Zr4 Drinker.row ex13 hall rfl trivial rfl rfl rfl ?_;dsimp only [go_sem];refine Zf5 hall hs haf hnap 1 1 ?_;dsimp only [go_sem];refine ⟨by simp,?_⟩;refine Zu3 11 rfl ?_;refine Zz3 hall rfl trivial ?_;dsimp only [go_sem]
    refine Zt3 rfl ?_ _;refine Zl2 6 ?_;dsimp only [e14,Zzl,go_sem];refine ⟨by simp,?_⟩;refine Z54 4 2 rfl rfl rfl ?_;dsimp only [go_sem];exact Zu4 h hin1
   ·refine Z04 hall rfl trivial (Zyl x10 _ ex11) (h:=?_);dsimp only [go_sem];refine Zv3 1 8 rfl ?_ ?_
    ·refine Zz3 hall rfl trivial ?_;dsimp only [go_sem];refine Zu3 8 rfl ?_;refine Zz3 hall rfl trivial ?_;dsimp only [go_sem];refine Zu3 9 rfl ?_;obtain ⟨x13,ex13,h⟩:=Option.bind_eq_some_iff.1 h;refine Zr4 Drinker.row ex13 hall rfl trivial rfl rfl rfl ?_;dsimp only [go_sem];refine Zf5 hall hs haf hnap 1 1 ?_;dsimp only [go_sem];refine ⟨by simp,?_⟩;refine Zu3 11 rfl ?_;refine Zz3 hall rfl trivial ?_;dsimp only [go_sem];refine Zt3 rfl ?_ _;refine Zl2 6 ?_;dsimp only [e14,Zzl,go_sem];refine ⟨by simp,?_⟩;refine Z54 4 2 rfl rfl rfl ?_
     dsimp only [go_sem];exact Zu4 h hin1
    ·refine Zz3 hall rfl trivial ?_;dsimp only [go_sem];refine Zu3 1 rfl ?_;refine Zz3 hall rfl trivial ?_;dsimp only [go_sem];refine Zu3 9 rfl ?_;obtain ⟨x13,ex13,h⟩:=Option.bind_eq_some_iff.1 h;refine Zr4 Drinker.row ex13 hall rfl trivial rfl rfl rfl ?_;dsimp only [go_sem];refine Zf5 hall hs haf hnap 1 1 ?_;dsimp only [go_sem];refine ⟨by simp,?_⟩;refine Zu3 11 rfl ?_;refine Zz3 hall rfl trivial ?_;dsimp only [go_sem];refine Zt3 rfl ?_ _;refine Zl2 6 ?_;dsimp only [e14,Zzl,go_sem];refine ⟨by simp,?_⟩;refine Z54 4 2 rfl rfl rfl ?_
     dsimp only [go_sem];exact Zu4 h hin1
  ·refine Zl2 1 ?_;dsimp only [e14,Zzl,go_sem];refine ⟨by simp,?_⟩;exact Zv4 J1 (s:=x9) (Zh4 h hout1)
set_option maxRecDepth 100000
set_option maxHeartbeats 4000000
def Z4m:EC:=.seq (.reg [(Qa 12 (.bin .lss (.t 11) (.t 10)))]) (.seq (.ite (.t 12) (.skip) (.exit 0)) (.seq (.blk 1 (.seq (.reg [(Qa 13 (.idx 5 (.t 9) (.t 11))),(Qa 14 (.loadA 5 (.t 13))),(Qa 7 (.alloc 63 [.iv 0,.iv 0,.nl,.iv 0,.nl])),(Qb (.store 5 (.t 7) (.t 14)))]) (.seq (.reg [(Qa 15 (.fld 3 (.t 7))),(Qa 16 (.load (.t 15))),(Qa 17 (.mv (.t 1))),(Qa 18 (.bin .eql (.t 16) (.t 17)))]) (.ite (.t 18) (.reg [(Qa 19 (.mv (.t 5))),(Qa 20 (.fld 0 (.t 7))),(Qa 21 (.fld 0 (.t 20))),(Qa 22 (.load (.t 21))),(Qa 23 (.bsl 3 1 1 [.iv 0] [(0,(.t 22))])),(Qa 24 (.app 3 1 8 (.t 19) (.t 23))),(Qa 5 (.mv (.t 24)))]) (.skip))))) (.reg [(Qa 25 (.bin .add (.t 11) (.c (.iv 1)))),(Qa 11 (.mv (.t 25)))])))
def e22:EC:=.seq (.reg [(Qa 2 (.box 25 2 (.t 0))),(Qa 4 (.mv (.c .nl)))]) (.seq (.reg [(Qa 5 (.mv (.c .nl)))]) (.seq (.seq (.reg [(Qa 8 (.fld 0 (.t 2))),(Qa 9 (.load (.t 8))),(Qa 10 (.len (.t 9))),(Qa 11 (.mv (.c (.iv 0))))]) (.blk 0 (.loop Z4m))) (.seq (.reg [(Qa 26 (.mv (.t 5))),(Qa 4 (.mv (.t 26)))]) (.ret))))
theorem ok22:FnOK Tryz.prog 22 Tryz.f22 e22 [.t 4] 2 25:=⟨by kernel_rfl,⟨_,rfl,by kernel_rfl⟩,by kernel_rfl,by kernel_rfl⟩
noncomputable def Z5m:(List Int)→Option (List Int)
| x20=>
 some x20
noncomputable def Z6m (x8:Int):(List Int)→Option ((Int×(List Int)) ⊕ (List Int))
| x12=>
 some (.inl (wr (x8+1),x12))
noncomputable def Z7m (x1:Bar) (x2:Int):(Int×(List Int))→Option ((Int×(List Int)) ⊕ (List Int))
| (x8,x9)=>
 ifb (decide (x8<(ln Drinker.row x1.Drinkers))) (
 (at_ x1.Drinkers x8).bind fun x10=>
 ifb (decide (x10.Thirst=x2)) (
 (Zc4 8 x9 ([x10.Diner.ID])).bind fun x11=>
 (Z6m x8) x11) (
 (Z6m x8) x9)) (
 Option.map Sum.inr (Z5m x9))
noncomputable def Z8m (x1:Bar) (x2:Int):Option (List Int):=
 loop (Z7m x1 x2) (0,([]:List Int))
theorem o_bar_Who (x1:Bar) (x2:Int) (r:(List Int)) (h:Z8m x1 x2=some r):FunO Tryz.prog 22 [.agg (Bar.row x1),.iv x2] 3 1 (List.map Z05 r):=by
 refine Z95 ok22 rfl fun w0 H0=>?_
 rw [Z8m] at h
 refine Zl2 17 ?_;dsimp only [e22,Z4m,go_sem];refine ⟨by simp,?_⟩;refine Zi4 (fun (x20:(List Int))=>(⟨(an 5 (.osl 0::an 21 [])),[],[some ⟨3,1,List.map Z05 x20⟩]⟩:St)) Z5m r ?_ fun J1=>?_
 ·intro x20 h;rw [Z5m] at h;(try dsimp only);refine Zl2 5 ?_;dsimp only [e22,Z4m,go_sem];refine ⟨by simp,?_⟩;exact Zh5 Z05 ok22 h rfl rfl
 ·refine Zl2 1 ?_;dsimp only [e22,Z4m,go_sem];refine ⟨by simp,?_⟩;refine V_own 5 3 1 rfl rfl ?_;dsimp only [go_sem];refine Zj4 h (fun ((x8,x9):(Int×(List Int)))=>(⟨(.any :: .iv x2::an 3 (.osl 0::an 3 (.sl 5 (List.map Drinker.row x1.Drinkers) :: .iv (ln Drinker.row x1.Drinkers) :: .iv x8::an 15 []))),[],[some ⟨3,1,List.map Z05 x9⟩]⟩:St)) (by simp [go_sem]) (by rintro ⟨x8,x9⟩;first | rfl | simp [go_sem]) ?_;rintro n1 ⟨x8,x9⟩ y1 h hin1 hout1;rw [Z7m] at h;(try dsimp only);refine Zl2 5 ?_;dsimp only [e22,Z4m,go_sem];refine ⟨by simp,?_⟩
  refine Zk4 h rfl (fun _ h=>?_) fun _ h=>?_
  ·refine Zl2 5 ?_;dsimp only [e22,Z4m,go_sem];refine ⟨by simp,?_⟩;obtain ⟨x10,ex10,h⟩:=Option.bind_eq_some_iff.1 h;refine Zn4 Drinker.row ex10 trivial rfl rfl rfl ?_;refine Zl2 11 ?_;dsimp only [e22,Z4m,go_sem];refine ⟨by simp,?_⟩;refine Zi4 (fun (x12:(List Int))=>(⟨(.any :: .iv x2::an 3 (.osl 0::an 3 (.sl 5 (List.map Drinker.row x1.Drinkers) :: .iv (ln Drinker.row x1.Drinkers) :: .iv x8::an 15 []))),[],[some ⟨3,1,List.map Z05 x12⟩]⟩:St)) (Z6m x8) y1 ?_ fun J2=>?_
   ·intro x12 h;rw [Z6m] at h;(try dsimp only);refine Zl2 5 ?_;dsimp only [e22,Z4m,go_sem];refine ⟨by simp,?_⟩;exact Zu4 h hin1
   ·refine Zk4 h rfl (fun _ h=>?_) fun _ h=>?_
    ·refine Zl2 6 ?_;dsimp only [e22,Z4m,go_sem];refine ⟨by simp,?_⟩;obtain ⟨x11,ex11,h⟩:=Option.bind_eq_some_iff.1 h;refine Zq4 Z05 ex11 trivial rfl rfl rfl ?_;refine Zl2 2 ?_;dsimp only [e22,Z4m,go_sem];refine ⟨by simp,?_⟩;refine Z54 2 0 rfl rfl rfl ?_;dsimp only [go_sem];exact Zv4 J2 (s:=x11) h
    ·refine Zl2 1 ?_;dsimp only [e22,Z4m,go_sem];refine ⟨by simp,?_⟩;exact Zv4 J2 (s:=x9) h
  ·refine Zl2 1 ?_;dsimp only [e22,Z4m,go_sem];refine ⟨by simp,?_⟩;exact Zv4 J1 (s:=x9) (Zh4 h hout1)
theorem Z9m (x1:Bar) (x2:Int) (r:(List Int)) (h:Z8m x1 x2=some r):Zq2 Tryz.prog 22 [.agg (Bar.row x1),.iv x2] (.sl 1 (List.map Z05 r)):=(o_bar_Who x1 x2 r h).sealed
set_option maxRecDepth 100000
set_option maxHeartbeats 4000000
def Zam:EC:=.seq (.reg [(Qa 103 (.bin .lss (.t 102) (.t 101)))]) (.seq (.ite (.t 103) (.skip) (.exit 2)) (.seq (.blk 3 (.seq (.reg [(Qa 104 (.idx 5 (.t 100) (.t 102))),(Qa 105 (.loadA 5 (.t 104))),(Qa 16 (.alloc 95 [.iv 0,.iv 0,.iv 0,.iv 0,.iv 0])),(Qb (.store 5 (.t 16) (.t 105)))]) (.seq (.reg [(Qa 106 (.fld 2 (.t 16))),(Qa 107 (.fld 0 (.t 106))),(Qa 108 (.load (.t 107))),(Qa 109 (.mv (.t 2))),(Qa 110 (.bin .eql (.t 108) (.t 109))),(Qa 111 (.mv (.t 110))),(Qg 112 111 true (.fld 2 (.t 16))),(Qg 113 111 true (.fld 1 (.t 112))),(Qg 114 111 true (.load (.t 113))),(Qg 115 111 true (.fld 1 (.t 7))),(Qg 116 111 true (.load (.t 115))),(Qg 117 111 true (.bin .eql (.t 114) (.t 116))),(Qa 118 (.pick (.t 111) (.t 117) (.c .ff))),(Qa 119 (.mv (.t 118))),(Qg 120 119 true (.fld 0 (.t 16))),(Qg 121 119 true (.load (.t 120))),(Qg 122 119 true (.fld 1 (.t 16))),(Qg 123 119 true (.load (.t 122))),(Qg 124 119 true (.mm false [(.t 121),(.t 123)])),(Qg 125 119 true (.fld 0 (.t 4))),(Qg 126 119 true (.load (.t 125))),(Qg 127 119 true (.fld 1 (.t 4))),(Qg 128 119 true (.load (.t 127))),(Qg 129 119 true (.mm false [(.t 126),(.t 128)])),(Qg 130 119 true (.bin .eql (.t 124) (.t 129))),(Qa 131 (.pick (.t 119) (.t 130) (.c .ff))),(Qa 132 (.mv (.t 131))),(Qg 133 132 true (.fld 0 (.t 16))),(Qg 134 132 true (.load (.t 133))),(Qg 135 132 true (.fld 1 (.t 16))),(Qg 136 132 true (.load (.t 135))),(Qg 137 132 true (.mm true [(.t 134),(.t 136)])),(Qg 138 132 true (.fld 0 (.t 4))),(Qg 139 132 true (.load (.t 138))),(Qg 140 132 true (.fld 1 (.t 4))),(Qg 141 132 true (.load (.t 140))),(Qg 142 132 true (.mm true [(.t 139),(.t 141)])),(Qg 143 132 true (.bin .eql (.t 137) (.t 142))),(Qa 144 (.pick (.t 132) (.t 143) (.c .ff)))]) (.ite (.t 144) (.reg [(Qa 145 (.mv (.t 12))),(Qa 146 (.bin .add (.t 145) (.c (.iv 1)))),(Qa 12 (.mv (.t 146)))]) (.skip))))) (.reg [(Qa 147 (.bin .add (.t 102) (.c (.iv 1)))),(Qa 102 (.mv (.t 147)))])))
def Zbm:EC:=.seq (.reg [(Qa 93 (.bin .lss (.t 92) (.c (.iv 2))))]) (.seq (.ite (.t 93) (.skip) (.exit 0)) (.seq (.blk 1 (.seq (.reg [(Qa 94 (.ai 2 (.t 91) (.t 92))),(Qa 14 (.mv (.t 94)))]) (.seq (.reg [(Qa 95 (.mv (.t 14)))]) (.ite (.t 95) (.reg [(Qa 96 (.mv (.t 12))),(Qa 97 (.bin .add (.t 96) (.c (.iv 1)))),(Qa 12 (.mv (.t 97)))]) (.skip))))) (.reg [(Qa 98 (.bin .add (.t 92) (.c (.iv 1)))),(Qa 92 (.mv (.t 98)))])))
def e19:EC:=.seq (.reg [(Qa 3 (.box 25 2 (.t 0))),(Qa 4 (.box 30 2 (.t 1))),(Qa 6 (.mv (.c (.iv 0))))]) (.seq (.seq (.reg [(Qa 17 (.mv (.t 2))),(Qa 18 (.bin .neq (.t 17) (.c (.iv 3)))),(Qa 19 (.mv (.t 18))),(Qg 20 19 true (.mv (.t 2))),(Qg 21 19 true (.bin .neq (.t 20) (.c (.iv 4)))),(Qa 22 (.pick (.t 19) (.t 21) (.c .ff)))]) (.ite (.t 22) (.seq (.drw [(Qa 23 (.loadA 2 (.t 3))),(Qa 24 (.call 26 [(.t 23)])),(Qa 25 (.loadA 2 (.t 4))),(Qa 26 (.mv (.t 2))),(Qa 27 (.call 63 [(.t 24),(.t 25),(.t 26)])),(Qa 6 (.mv (.t 27)))] [[],[0],[],[],[1,2,3,1],[4,4,0,1,2,3,4]] [[1],[0,4],[4],[4],[1,2,3,5],[4]]) (.ret)) (.skip))) (.seq (.seq (.reg [(Qa 28 (.loadA 2 (.t 3))),(Qa 29 (.fld 0 (.t 4))),(Qa 30 (.load (.t 29))),(Qa 31 (.call 64 [(.t 28),(.t 30)])),(Qa 32 (.not (.t 31))),(Qa 33 (.mv (.t 32))),(Qg 34 33 false (.loadA 2 (.t 3))),(Qg 35 33 false (.fld 1 (.t 4))),(Qg 36 33 false (.load (.t 35))),(Qg 37 33 false (.call 64 [(.t 34),(.t 36)])),(Qg 38 33 false (.not (.t 37))),(Qa 39 (.pick (.t 33) (.c .tt) (.t 38)))]) (.ite (.t 39) (.seq (.reg [(Qa 6 (.mv (.c (.iv 0))))]) (.ret)) (.skip))) (.seq (.drw [(Qa 41 (.fld 0 (.t 3))),(Qa 42 (.load (.t 41))),(Qa 43 (.fld 0 (.t 4))),(Qa 44 (.load (.t 43))),(Qa 45 (.idx 5 (.t 42) (.t 44))),(Qa 46 (.fld 0 (.t 45))),(Qa 47 (.loadA 3 (.t 46))),(Qa 48 (.fld 1 (.t 4))),(Qa 49 (.load (.t 48))),(Qa 50 (.call 65 [(.t 47),(.t 49)])),(Qa 40 (.mv (.t 50))),(Qa 51 (.ext (.t 40) 0)),(Qa 52 (.ext (.t 40) 1)),(Qa 7 (.alloc 66 [.iv 0,.iv 0,.iv 0,.ff,.ff,.ff,.ff,.ff])),(Qb (.store 8 (.t 7) (.t 51))),(Qa 8 (.mv (.t 52)))] [[],[0],[],[2],[1,3],[4],[5],[],[7],[6,8],[9],[10],[10],[],[13,11,9,0,1,2,3,4,5,6,7,8,9,10,11,13],[12,14,0,1,2,3,4,5,6,7,8,9,10,11,12,13,14]] [[1],[0,4],[3],[2,4],[1,3,5],[4,6],[5,9],[8],[7,9],[6,8,10],[9,11,12],[10,14],[10,15],[14],[11,13],[12]]) (.seq (.drw [(Qa 54 (.fld 0 (.t 3))),(Qa 55 (.load (.t 54))),(Qa 56 (.fld 1 (.t 4))),(Qa 57 (.load (.t 56))),(Qa 58 (.idx 5 (.t 55) (.t 57))),(Qa 59 (.fld 0 (.t 58))),(Qa 60 (.loadA 3 (.t 59))),(Qa 61 (.fld 0 (.t 4))),(Qa 62 (.load (.t 61))),(Qa 63 (.call 65 [(.t 60),(.t 62)])),(Qa 53 (.mv (.t 63))),(Qa 64 (.ext (.t 53) 0)),(Qa 65 (.ext (.t 53) 1)),(Qa 9 (.alloc 66 [.iv 0,.iv 0,.iv 0,.ff,.ff,.ff,.ff,.ff])),(Qb (.store 8 (.t 9) (.t 64))),(Qa 10 (.mv (.t 65)))] [[],[0],[],[2],[1,3],[4],[5],[],[7],[6,8],[9],[10],[10],[],[13,11,9,0,1,2,3,4,5,6,7,8,9,10,11,13],[12,14,0,1,2,3,4,5,6,7,8,9,10,11,12,13,14]] [[1],[0,4],[3],[2,4],[1,3,5],[4,6],[5,9],[8],[7,9],[6,8,10],[9,11,12],[10,14],[10,15],[14],[11,13],[12]]) (.seq (.seq (.reg [(Qa 66 (.mv (.t 8))),(Qa 67 (.not (.t 66))),(Qa 68 (.mv (.t 67))),(Qg 69 68 false (.mv (.t 10))),(Qg 70 68 false (.not (.t 69))),(Qa 71 (.pick (.t 68) (.c .tt) (.t 70))),(Qa 72 (.mv (.t 71))),(Qg 73 72 false (.fld 1 (.t 7))),(Qg 74 72 false (.load (.t 73))),(Qg 75 72 false (.fld 1 (.t 9))),(Qg 76 72 false (.load (.t 75))),(Qg 77 72 false (.bin .neq (.t 74) (.t 76))),(Qa 78 (.pick (.t 72) (.c .tt) (.t 77)))]) (.ite (.t 78) (.seq (.reg [(Qa 6 (.mv (.c (.iv 0))))]) (.ret)) (.skip))) (.seq (.reg [(Qa 79 (.fld 6 (.t 7))),(Qa 80 (.load (.t 79))),(Qa 81 (.fld 6 (.t 9))),(Qa 82 (.load (.t 81))),(Qa 83 (.build [.ff,.ff] [(0,1,(.t 80)),(1,1,(.t 82))])),(Qa 11 (.alloc 105 [.ff,.ff])),(Qb (.store 2 (.t 11) (.t 83)))]) (.seq (.seq (.reg [(Qa 84 (.mv (.t 2))),(Qa 85 (.bin .eql (.t 84) (.c (.iv 4))))]) (.ite (.t 85) (.reg [(Qa 86 (.fld 7 (.t 7))),(Qa 87 (.load (.t 86))),(Qa 88 (.fld 7 (.t 9))),(Qa 89 (.load (.t 88))),(Qa 90 (.build [.ff,.ff] [(0,1,(.t 87)),(1,1,(.t 89))])),(Qb (.store 2 (.t 11) (.t 90)))]) (.skip))) (.seq (.reg [(Qa 12 (.mv (.c (.iv 0))))]) (.seq (.seq (.reg [(Qa 91 (.loadA 2 (.t 11))),(Qa 92 (.mv (.c (.iv 0))))]) (.blk 0 (.loop Zbm))) (.seq (.seq (.reg [(Qa 99 (.fld 1 (.t 3))),(Qa 100 (.load (.t 99))),(Qa 101 (.len (.t 100))),(Qa 102 (.mv (.c (.iv 0))))]) (.blk 2 (.loop Zam))) (.seq (.reg [(Qa 148 (.mv (.t 12))),(Qa 6 (.mv (.t 148)))]) (.ret))))))))))))
theorem ok19:FnOK Tryz.prog 19 Tryz.f19 e19 [.t 6] 3 146:=⟨by kernel_rfl,⟨_,rfl,by kernel_rfl⟩,by kernel_rfl,by kernel_rfl⟩
noncomputable def Zcm:Int→Option Int
| x61=>
 some x61
noncomputable def Zdm (x48:Int):Int→Option ((Int×Int) ⊕ Int)
| x51=>
 some (.inl (x51,wr (x48+1)))
noncomputable def Zem (x47:Int) (x48:Int):Bool→Option ((Int×Int) ⊕ Int)
| x50=>
 ifb x50 (
 (Zdm x48) (wr (x47+1))) (
 (Zdm x48) x47)
noncomputable def Zfm (x1:Bar) (x2:Edge) (x3:Int) (x14:Side):(Int×Int)→Option ((Int×Int) ⊕ Int)
| (x47,x48)=>
 ifb (decide (x48<(ln Mail.row x1.Mail))) (
 (at_ x1.Mail x48).bind fun x49=>
 ifb (decide (x49.Msg.Kind=x3)) (
 ifb (decide (x49.Msg.Epoch=x14.Epoch)) (
 ifb (decide (((min x49.From x49.To))=((min x2.A x2.B)))) (
 (Zem x47 x48) (decide (((max x49.From x49.To))=((max x2.A x2.B))))) (
 (Zem x47 x48) false)) (
 (Zem x47 x48) false)) (
 (Zem x47 x48) false)) (
 Option.map Sum.inr (Zcm x47))
noncomputable def Zgm (x1:Bar) (x2:Edge) (x3:Int) (x14:Side):Int→Option Int
| x41=>
 loop (Zfm x1 x2 x3 x14) (x41,0)
noncomputable def Zhm (x28:Int):Int→Option ((Int×Int) ⊕ Int)
| x30=>
 some (.inl (x30,wr (x28+1)))
noncomputable def Zim (x1:Bar) (x2:Edge) (x3:Int) (x14:Side) (x21:Bool) (x22:Bool):(Int×Int)→Option ((Int×Int) ⊕ Int)
| (x27,x28)=>
 ifb (decide (x28<2)) (
 (at_ [x21,x22] x28).bind fun x29=>
 ifb x29 (
 (Zhm x28) (wr (x27+1))) (
 (Zhm x28) x27)) (
 Option.map Sum.inr ((Zgm x1 x2 x3 x14) x27))
noncomputable def Zjm (x1:Bar) (x2:Edge) (x3:Int) (x14:Side):(Bool×Bool)→Option Int
| (x21,x22)=>
 loop (Zim x1 x2 x3 x14 x21 x22) (0,0)
noncomputable def Zkm (x1:Bar) (x2:Edge) (x3:Int) (x14:Side) (x19:Side):Bool→Option Int
| x20=>
 ifb x20 (
 some 0) (
 ifb (decide (x3=4)) (
 (Zjm x1 x2 x3 x14) (x14.Ask,x19.Ask)) (
 (Zjm x1 x2 x3 x14) (x14.Bottle,x19.Bottle)))
noncomputable def Zlm (x1:Bar) (x2:Edge) (x3:Int) (x13:Bool) (x14:Side):(Bool×Side)→Option Int
| (x18,x19)=>
 ifb (!x13) (
 (Zkm x1 x2 x3 x14 x19) true) (
 ifb (!x18) (
 (Zkm x1 x2 x3 x14 x19) true) (
 (Zkm x1 x2 x3 x14 x19) (!decide (x14.Epoch=x19.Epoch))))
noncomputable def Zmm (x1:Bar) (x2:Edge) (x3:Int):(Bool×Side)→Option Int
| (x13,x14)=>
 (at_ x1.Drinkers x2.B).bind fun x15=>
 (Zb8 x15.Diner x2.A).bind fun x16=>
 (Zlm x1 x2 x3 x13 x14) (x16.2,x16.1)
noncomputable def Znm (x1:Bar) (x2:Edge) (x3:Int):Bool→Option Int
| x9=>
 ifb x9 (
 some 0) (
 (at_ x1.Drinkers x2.A).bind fun x10=>
 (Zb8 x10.Diner x2.B).bind fun x11=>
 (Zmm x1 x2 x3) (x11.2,x11.1))
noncomputable def Zom (x1:Bar) (x2:Edge) (x3:Int):Bool→Option Int
| x4=>
 ifb x4 (
 (Zuk x1).bind fun x5=>
 (Zdk x5 x2 x3).bind fun x6=>
 some x6) (
 (Z7l x1 x2.A).bind fun x7=>
 ifb (!x7) (
 (Znm x1 x2 x3) true) (
 (Z7l x1 x2.B).bind fun x8=>
 (Znm x1 x2 x3) (!x8)))
noncomputable def Zpm (x1:Bar) (x2:Edge) (x3:Int):Option Int:=
 ifb (!decide (x3=3)) (
 (Zom x1 x2 x3) (!decide (x3=4))) (
 (Zom x1 x2 x3) false)
theorem Zqm (x1:Bar) (x2:Edge) (x3:Int) (r:Int) (h:Zpm x1 x2 x3=some r):Zq2 Tryz.prog 19 [.agg (Bar.row x1),.agg (Edge.row x2),.iv x3] (.iv r):=by
 refine Zu2 ok19 rfl rfl fun w0 H0=>?_
 rw [Zpm] at h
 refine Zl2 12 ?_;dsimp only [e19,Zbm,Zam,go_sem];refine ⟨by simp,?_⟩;refine Zi4 (fun (x4:Bool)=>(⟨(.any :: .any :: .iv x3 :: .ptr 0 0 :: .ptr 1 0::an 17 (.bv x4::an 126 [])),[some ⟨25,[.sl 5 (List.map Drinker.row x1.Drinkers),.sl 5 (List.map Mail.row x1.Mail)]⟩,some ⟨30,[.iv x2.A,.iv x2.B]⟩],[]⟩:St)) (Zom x1 x2 x3) r ?_ fun J1=>?_
 ·intro x4 h;rw [Zom] at h;(try dsimp only);refine Zk4 h rfl (fun _ h=>?_) fun _ h=>?_
  ·refine Zl2 1 ?_;dsimp only [e19,Zbm,Zam,go_sem];refine ⟨by simp,?_⟩;refine Zh3 (by kernel_rfl) fun all hall hs hnap haf=>?_;dsimp only [go_sem];refine Zf5 hall hs haf hnap 3 3 ?_;dsimp only [go_sem];refine ⟨by simp,?_⟩;refine Zu3 1 rfl ?_;obtain ⟨x5,ex5,h⟩:=Option.bind_eq_some_iff.1 h;refine Z04 hall rfl trivial (Zvk x1 _ ex5) (h:=?_);dsimp only [go_sem];refine Zu3 4 rfl ?_;obtain ⟨x6,ex6,h⟩:=Option.bind_eq_some_iff.1 h;refine Z04 hall rfl trivial (k_table_Count x5 x2 x3 _ ex6) (h:=?_);dsimp only [go_sem]
   refine Zf5 hall hs haf hnap 1 0 ?_;dsimp only [go_sem];refine ⟨by simp,?_⟩;refine Zt3 rfl ?_ _;exact Zt4 (res:=fun (r:Int)=>.iv r) ok19 h
  ·refine Zl2 7 ?_;dsimp only [e19,Zbm,Zam,go_sem];refine ⟨by simp,?_⟩;obtain ⟨x7,ex7,h⟩:=Option.bind_eq_some_iff.1 h;refine Zz2 trivial (Z8l x1 x2.A _ ex7) (h:=?_);refine Zl2 2 ?_;dsimp only [e19,Zbm,Zam,go_sem];refine ⟨by simp,?_⟩;refine Zi4 (fun (x9:Bool)=>(⟨(.any :: .any :: .iv x3 :: .ptr 0 0 :: .ptr 1 0::an 34 (.bv x9::an 109 [])),[some ⟨25,[.sl 5 (List.map Drinker.row x1.Drinkers),.sl 5 (List.map Mail.row x1.Mail)]⟩,some ⟨30,[.iv x2.A,.iv x2.B]⟩],[]⟩:St)) (Znm x1 x2 x3) r ?_ fun J2=>?_
   ·intro x9 h;rw [Znm] at h;(try dsimp only);refine Zk4 h rfl (fun _ h=>?_) fun _ h=>?_
    ·refine Zl2 4 ?_;dsimp only [e19,Zbm,Zam,go_sem];refine ⟨by simp,?_⟩;exact Zt4 (res:=fun (r:Int)=>.iv r) ok19 h
    ·refine Zl2 2 ?_;dsimp only [e19,Zbm,Zam,go_sem];refine ⟨by simp,?_⟩;refine Zi4 (fun ((x13,x14):(Bool×Side))=>(⟨(.any :: .any :: .iv x3 :: .ptr 0 0 :: .ptr 1 0 :: .any :: .any :: .ptr 2 0 :: .bv x13::an 140 []),[some ⟨25,[.sl 5 (List.map Drinker.row x1.Drinkers),.sl 5 (List.map Mail.row x1.Mail)]⟩,some ⟨30,[.iv x2.A,.iv x2.B]⟩,some ⟨66,[.iv x14.Peer,.iv x14.Epoch,.iv x14.State,.bv x14.Fork,.bv x14.Dirty,.bv x14.Token,.bv x14.Bottle,.bv x14.Ask]⟩],[]⟩:St)) (Zmm x1 x2 x3) r ?_ fun J3=>?_
     ·rintro ⟨x13,x14⟩ h;rw [Zmm] at h;(try dsimp only);refine Zl2 1 ?_;dsimp only [e19,Zbm,Zam,go_sem];refine ⟨by simp,?_⟩
      refine Zi4 (fun ((x18,x19):(Bool×Side))=>(⟨(.any :: .any :: .iv x3 :: .ptr 0 0 :: .ptr 1 0 :: .any :: .any :: .ptr 2 0 :: .bv x13 :: .ptr 3 0 :: .bv x18::an 138 []),[some ⟨25,[.sl 5 (List.map Drinker.row x1.Drinkers),.sl 5 (List.map Mail.row x1.Mail)]⟩,some ⟨30,[.iv x2.A,.iv x2.B]⟩,some ⟨66,[.iv x14.Peer,.iv x14.Epoch,.iv x14.State,.bv x14.Fork,.bv x14.Dirty,.bv x14.Token,.bv x14.Bottle,.bv x14.Ask]⟩,some ⟨66,[.iv x19.Peer,.iv x19.Epoch,.iv x19.State,.bv x19.Fork,.bv x19.Dirty,.bv x19.Token,.bv x19.Bottle,.bv x19.Ask]⟩],[]⟩:St)) (Zlm x1 x2 x3 x13 x14) r ?_ fun J4=>?_
      ·rintro ⟨x18,x19⟩ h;rw [Zlm] at h;(try dsimp only);refine Zl2 6 ?_;dsimp only [e19,Zbm,Zam,go_sem];refine ⟨by simp,?_⟩
       refine Zi4 (fun (x20:Bool)=>(⟨(.any :: .any :: .iv x3 :: .ptr 0 0 :: .ptr 1 0 :: .any :: .any :: .ptr 2 0 :: .any :: .ptr 3 0::an 68 (.bv x20::an 70 [])),[some ⟨25,[.sl 5 (List.map Drinker.row x1.Drinkers),.sl 5 (List.map Mail.row x1.Mail)]⟩,some ⟨30,[.iv x2.A,.iv x2.B]⟩,some ⟨66,[.iv x14.Peer,.iv x14.Epoch,.iv x14.State,.bv x14.Fork,.bv x14.Dirty,.bv x14.Token,.bv x14.Bottle,.bv x14.Ask]⟩,some ⟨66,[.iv x19.Peer,.iv x19.Epoch,.iv x19.State,.bv x19.Fork,.bv x19.Dirty,.bv x19.Token,.bv x19.Bottle,.bv x19.Ask]⟩],[]⟩:St)) (Zkm x1 x2 x3 x14 x19) r ?_ fun J5=>?_
       ·intro x20 h;rw [Zkm] at h;(try dsimp only);refine Zk4 h rfl (fun _ h=>?_) fun _ h=>?_
        ·refine Zl2 4 ?_;dsimp only [e19,Zbm,Zam,go_sem];refine ⟨by simp,?_⟩;exact Zt4 (res:=fun (r:Int)=>.iv r) ok19 h
        ·refine Zl2 17 ?_;dsimp only [e19,Zbm,Zam,go_sem];refine ⟨by simp,?_⟩
         refine Zi4 (fun ((x21,x22):(Bool×Bool))=>(⟨(.any :: .any :: .iv x3 :: .ptr 0 0 :: .ptr 1 0 :: .any :: .any :: .ptr 2 0::an 3 (.ptr 4 0::an 137 [])),[some ⟨25,[.sl 5 (List.map Drinker.row x1.Drinkers),.sl 5 (List.map Mail.row x1.Mail)]⟩,some ⟨30,[.iv x2.A,.iv x2.B]⟩,some ⟨66,[.iv x14.Peer,.iv x14.Epoch,.iv x14.State,.bv x14.Fork,.bv x14.Dirty,.bv x14.Token,.bv x14.Bottle,.bv x14.Ask]⟩,none,some ⟨105,[.bv x21,.bv x22]⟩],[]⟩:St)) (Zjm x1 x2 x3 x14) r ?_ fun J6=>?_
         ·rintro ⟨x21,x22⟩ h;rw [Zjm] at h;(try dsimp only);refine Zl2 10 ?_;dsimp only [e19,Zbm,Zam,go_sem];refine ⟨by simp,?_⟩
          refine Zi4 (fun (x41:Int)=>(⟨(.any :: .any :: .iv x3 :: .ptr 0 0 :: .ptr 1 0 :: .any :: .any :: .ptr 2 0::an 4 (.iv x41::an 136 [])),[some ⟨25,[.sl 5 (List.map Drinker.row x1.Drinkers),.sl 5 (List.map Mail.row x1.Mail)]⟩,some ⟨30,[.iv x2.A,.iv x2.B]⟩,some ⟨66,[.iv x14.Peer,.iv x14.Epoch,.iv x14.State,.bv x14.Fork,.bv x14.Dirty,.bv x14.Token,.bv x14.Bottle,.bv x14.Ask]⟩],[]⟩:St)) (Zgm x1 x2 x3 x14) r ?_ fun J7=>?_
          ·intro x41 h;rw [Zgm] at h;(try dsimp only);refine Zl2 8 ?_;dsimp only [e19,Zbm,Zam,go_sem];refine ⟨by simp,?_⟩;refine Zi4 (fun (x61:Int)=>(⟨(an 12 (.iv x61::an 136 [])),[],[]⟩:St)) Zcm r ?_ fun J9=>?_
           ·intro x61 h;rw [Zcm] at h;(try dsimp only);refine Zl2 5 ?_;dsimp only [e19,Zbm,Zam,go_sem];refine ⟨by simp,?_⟩;exact Zt4 (res:=fun (r:Int)=>.iv r) ok19 h
           ·refine Zl2 1 ?_;dsimp only [e19,Zbm,Zam,go_sem];refine ⟨by simp,?_⟩;refine Zj4 h (fun ((x47,x48):(Int×Int))=>(⟨(.any :: .any :: .iv x3 :: .any :: .ptr 1 0 :: .any :: .any :: .ptr 2 0::an 4 (.iv x47::an 87 (.sl 5 (List.map Mail.row x1.Mail) :: .iv (ln Mail.row x1.Mail) :: .iv x48::an 46 []))),[none,some ⟨30,[.iv x2.A,.iv x2.B]⟩,some ⟨66,[.iv x14.Peer,.iv x14.Epoch,.iv x14.State,.bv x14.Fork,.bv x14.Dirty,.bv x14.Token,.bv x14.Bottle,.bv x14.Ask]⟩],[]⟩:St)) (by simp [go_sem]) (by rintro ⟨x47,x48⟩;first | rfl | simp [go_sem]) ?_
            rintro n1 ⟨x47,x48⟩ y1 h hin1 hout1;rw [Zfm] at h;(try dsimp only);refine Zl2 5 ?_;dsimp only [e19,Zbm,Zam,go_sem];refine ⟨by simp,?_⟩;refine Zk4 h rfl (fun _ h=>?_) fun _ h=>?_
            ·refine Zl2 5 ?_;dsimp only [e19,Zbm,Zam,go_sem];refine ⟨by simp,?_⟩;obtain ⟨x49,ex49,h⟩:=Option.bind_eq_some_iff.1 h;refine Zn4 Mail.row ex49 trivial rfl rfl rfl ?_;refine Zl2 12 ?_;dsimp only [e19,Zbm,Zam,go_sem];refine ⟨by simp,?_⟩
             refine Zi4 (fun (x50:Bool)=>(⟨(.any :: .any :: .iv x3 :: .any :: .ptr 1 0 :: .any :: .any :: .ptr 2 0::an 4 (.iv x47::an 87 (.sl 5 (List.map Mail.row x1.Mail) :: .iv (ln Mail.row x1.Mail) :: .iv x48::an 41 (.bv x50::an 4 [])))),[none,some ⟨30,[.iv x2.A,.iv x2.B]⟩,some ⟨66,[.iv x14.Peer,.iv x14.Epoch,.iv x14.State,.bv x14.Fork,.bv x14.Dirty,.bv x14.Token,.bv x14.Bottle,.bv x14.Ask]⟩],[]⟩:St)) (Zem x47 x48) y1 ?_ fun J10=>?_
             ·intro x50 h;rw [Zem] at h;(try dsimp only);refine Zi4 (fun (x51:Int)=>(⟨(.any :: .any :: .iv x3 :: .any :: .ptr 1 0 :: .any :: .any :: .ptr 2 0::an 4 (.iv x51::an 87 (.sl 5 (List.map Mail.row x1.Mail) :: .iv (ln Mail.row x1.Mail) :: .iv x48::an 46 []))),[none,some ⟨30,[.iv x2.A,.iv x2.B]⟩,some ⟨66,[.iv x14.Peer,.iv x14.Epoch,.iv x14.State,.bv x14.Fork,.bv x14.Dirty,.bv x14.Token,.bv x14.Bottle,.bv x14.Ask]⟩],[]⟩:St)) (Zdm x48) y1 ?_ fun J11=>?_
              ·intro x51 h;rw [Zdm] at h;(try dsimp only);refine Zl2 5 ?_;dsimp only [e19,Zbm,Zam,go_sem];refine ⟨by simp,?_⟩;exact Zu4 h hin1
              ·refine Zk4 h rfl (fun _ h=>?_) fun _ h=>?_
               ·refine Zl2 5 ?_;dsimp only [e19,Zbm,Zam,go_sem];refine ⟨by simp,?_⟩;exact Zv4 J11 (s:=wr (x47+1)) h
               ·refine Zl2 1 ?_;dsimp only [e19,Zbm,Zam,go_sem];refine ⟨by simp,?_⟩;exact Zv4 J11 (s:=x47) h
             ·refine Zs4 111 h rfl (fun _ h=>?_) fun _ h=>?_
              ·dsimp only [go_sem];refine Zl2 8 ?_;dsimp only [e19,Zbm,Zam,go_sem];refine ⟨by simp,?_⟩;refine Zs4 119 h rfl (fun _ h=>?_) fun _ h=>?_
               ·dsimp only [go_sem];refine Zl2 13 ?_;dsimp only [e19,Zbm,Zam,go_sem];refine ⟨by simp,?_⟩;refine Zs4 132 h rfl (fun _ h=>?_) fun _ h=>?_
                ·dsimp only [go_sem];refine Zl2 13 ?_;dsimp only [e19,Zbm,Zam,go_sem];refine ⟨by simp,?_⟩;exact Zv4 J10 (s:=decide (((max x49.From x49.To))=((max x2.A x2.B)))) h
                ·dsimp only [go_sem];refine Zl2 13 ?_;dsimp only [e19,Zbm,Zam,go_sem];refine ⟨by simp,?_⟩;exact Zv4 J10 (s:=false) h
               ·dsimp only [go_sem];refine Zl2 26 ?_;dsimp only [e19,Zbm,Zam,go_sem];refine ⟨by simp,?_⟩;exact Zv4 J10 (s:=false) h
              ·dsimp only [go_sem];refine Zl2 34 ?_;dsimp only [e19,Zbm,Zam,go_sem];refine ⟨by simp,?_⟩;exact Zv4 J10 (s:=false) h
            ·refine Zl2 1 ?_;dsimp only [e19,Zbm,Zam,go_sem];refine ⟨by simp,?_⟩;exact Zv4 J9 (s:=x47) (Zh4 h hout1)
          ·refine Zl2 1 ?_;dsimp only [e19,Zbm,Zam,go_sem];refine ⟨by simp,?_⟩
           refine Zj4 h (fun ((x27,x28):(Int×Int))=>(⟨(.any :: .any :: .iv x3 :: .ptr 0 0 :: .ptr 1 0 :: .any :: .any :: .ptr 2 0::an 4 (.iv x27::an 78 (.agg [.bv x21,.bv x22] :: .iv x28::an 56 []))),[some ⟨25,[.sl 5 (List.map Drinker.row x1.Drinkers),.sl 5 (List.map Mail.row x1.Mail)]⟩,some ⟨30,[.iv x2.A,.iv x2.B]⟩,some ⟨66,[.iv x14.Peer,.iv x14.Epoch,.iv x14.State,.bv x14.Fork,.bv x14.Dirty,.bv x14.Token,.bv x14.Bottle,.bv x14.Ask]⟩],[]⟩:St)) (by simp [go_sem]) (by rintro ⟨x27,x28⟩;first | rfl | simp [go_sem]) ?_
           rintro n1 ⟨x27,x28⟩ y1 h hin1 hout1;rw [Zim] at h;(try dsimp only);refine Zl2 5 ?_;dsimp only [e19,Zbm,Zam,go_sem];refine ⟨by simp,?_⟩;refine Zk4 h rfl (fun _ h=>?_) fun _ h=>?_
           ·refine Zl2 5 ?_;dsimp only [e19,Zbm,Zam,go_sem];refine ⟨by simp,?_⟩;obtain ⟨x29,ex29,h⟩:=Option.bind_eq_some_iff.1 h;refine V_aiM AV.bv ex29 trivial (by rfl) rfl rfl ?_;refine Zl2 6 ?_;dsimp only [e19,Zbm,Zam,go_sem];refine ⟨by simp,?_⟩
            refine Zi4 (fun (x30:Int)=>(⟨(.any :: .any :: .iv x3 :: .ptr 0 0 :: .ptr 1 0 :: .any :: .any :: .ptr 2 0::an 4 (.iv x30::an 78 (.agg [.bv x21,.bv x22] :: .iv x28::an 56 []))),[some ⟨25,[.sl 5 (List.map Drinker.row x1.Drinkers),.sl 5 (List.map Mail.row x1.Mail)]⟩,some ⟨30,[.iv x2.A,.iv x2.B]⟩,some ⟨66,[.iv x14.Peer,.iv x14.Epoch,.iv x14.State,.bv x14.Fork,.bv x14.Dirty,.bv x14.Token,.bv x14.Bottle,.bv x14.Ask]⟩],[]⟩:St)) (Zhm x28) y1 ?_ fun J8=>?_
            ·intro x30 h;rw [Zhm] at h;(try dsimp only);refine Zl2 5 ?_;dsimp only [e19,Zbm,Zam,go_sem];refine ⟨by simp,?_⟩;exact Zu4 h hin1
            ·refine Zk4 h rfl (fun _ h=>?_) fun _ h=>?_
             ·refine Zl2 5 ?_;dsimp only [e19,Zbm,Zam,go_sem];refine ⟨by simp,?_⟩;exact Zv4 J8 (s:=wr (x27+1)) h
             ·refine Zl2 1 ?_;dsimp only [e19,Zbm,Zam,go_sem];refine ⟨by simp,?_⟩;exact Zv4 J8 (s:=x27) h
           ·refine Zl2 1 ?_;dsimp only [e19,Zbm,Zam,go_sem];refine ⟨by simp,?_⟩;exact Zv4 J7 (s:=x27) (Zh4 h hout1)
         ·refine Zk4 h rfl (fun _ h=>?_) fun _ h=>?_
          ·refine Zl2 8 ?_;dsimp only [e19,Zbm,Zam,go_sem];refine ⟨by simp,?_⟩;exact Zv4 J6 (s:=(x14.Ask,x19.Ask)) h
          ·refine Zl2 1 ?_;dsimp only [e19,Zbm,Zam,go_sem];refine ⟨by simp,?_⟩;exact Zv4 J6 (s:=(x14.Bottle,x19.Bottle)) h
       ·refine Zs4 68 h rfl (fun _ h=>?_) fun _ h=>?_
        ·dsimp only [go_sem];refine Zl2 11 ?_;dsimp only [e19,Zbm,Zam,go_sem];refine ⟨by simp,?_⟩;exact Zv4 J5 (s:=true) h
        ·dsimp only [go_sem];refine Zl2 4 ?_;dsimp only [e19,Zbm,Zam,go_sem];refine ⟨by simp,?_⟩;refine Zs4 72 h rfl (fun _ h=>?_) fun _ h=>?_
         ·dsimp only [go_sem];refine Zl2 7 ?_;dsimp only [e19,Zbm,Zam,go_sem];refine ⟨by simp,?_⟩;exact Zv4 J5 (s:=true) h
         ·dsimp only [go_sem];refine Zl2 7 ?_;dsimp only [e19,Zbm,Zam,go_sem];refine ⟨by simp,?_⟩;exact Zv4 J5 (s:=!decide (x14.Epoch=x19.Epoch)) h
      ·refine Zh3 (by kernel_rfl) fun all hall hs hnap haf=>?_;dsimp only [go_sem]
       refine Zg5 hall hs haf hnap 6 10 [true,true,true,true,false,false,false,true,true,false,false,false,false,false,false,false] (⟨(.any :: .any :: .iv x3 :: .ptr 0 0 :: .ptr 1 0 :: .any :: .any :: .ptr 2 0 :: .bv x13::an 45 (.ptr 0 0 :: .sl 5 (List.map Drinker.row x1.Drinkers) :: .ptr 1 1 :: .iv x2.B::an 3 (.ptr 1 0 :: .iv x2.A::an 86 []))),[some ⟨25,[.sl 5 (List.map Drinker.row x1.Drinkers),.sl 5 (List.map Mail.row x1.Mail)]⟩,some ⟨30,[.iv x2.A,.iv x2.B]⟩,some ⟨66,[.iv x14.Peer,.iv x14.Epoch,.iv x14.State,.bv x14.Fork,.bv x14.Dirty,.bv x14.Token,.bv x14.Bottle,.bv x14.Ask]⟩],[]⟩:St) (by kernel_rfl) ?_
       obtain ⟨x15,ex15,h⟩:=Option.bind_eq_some_iff.1 h;refine Zo4 hall hs haf hnap 4 Drinker.row ex15 rfl rfl trivial rfl rfl rfl rfl ?_;refine Zf5 hall hs haf hnap 2 7 ?_;dsimp only [go_sem];refine ⟨by simp,?_⟩;obtain ⟨x16,ex16,h⟩:=Option.bind_eq_some_iff.1 h;refine Zv3 9 13 rfl ?_ ?_
       ·refine Z04 hall rfl trivial (Zc8 x15.Diner x2.A _ ex16) (h:=?_);dsimp only [go_sem];refine Zf5 hall hs haf hnap 3 3 ?_;dsimp only [go_sem];refine ⟨by simp,?_⟩;refine Zu3 13 rfl ?_;refine Zz3 hall rfl trivial ?_;dsimp only [go_sem];refine Zu3 14 rfl ?_;refine Zz3 hall rfl trivial ?_;dsimp only [go_sem];refine Zf5 hall hs haf hnap 1 0 ?_;dsimp only [go_sem];refine ⟨by simp,?_⟩;refine Zt3 rfl ?_ _;exact Zv4 J4 (s:=(x16.2,x16.1)) h
       ·refine Zz3 hall rfl trivial ?_;dsimp only [go_sem];refine Zu3 9 rfl ?_;refine Z04 hall rfl trivial (Zc8 x15.Diner x2.A _ ex16) (h:=?_);dsimp only [go_sem];refine Zf5 hall hs haf hnap 3 2 ?_;dsimp only [go_sem];refine ⟨by simp,?_⟩;refine Zu3 14 rfl ?_;refine Zz3 hall rfl trivial ?_;dsimp only [go_sem];refine Zf5 hall hs haf hnap 1 0 ?_;dsimp only [go_sem];refine ⟨by simp,?_⟩;refine Zt3 rfl ?_ _;exact Zv4 J4 (s:=(x16.2,x16.1)) h
     ·refine Zh3 (by kernel_rfl) fun all hall hs hnap haf=>?_;dsimp only [go_sem];refine Zg5 hall hs haf hnap 6 10 [true,true,true,true,false,false,false,true,true,false,false,false,false,false,false,false] (⟨(.any :: .any :: .iv x3 :: .ptr 0 0 :: .ptr 1 0::an 34 (.bv x9 :: .any :: .ptr 0 0 :: .sl 5 (List.map Drinker.row x1.Drinkers) :: .ptr 1 0 :: .iv x2.A::an 3 (.ptr 1 1 :: .iv x2.B::an 99 []))),[some ⟨25,[.sl 5 (List.map Drinker.row x1.Drinkers),.sl 5 (List.map Mail.row x1.Mail)]⟩,some ⟨30,[.iv x2.A,.iv x2.B]⟩],[]⟩:St) (by kernel_rfl) ?_
      obtain ⟨x10,ex10,h⟩:=Option.bind_eq_some_iff.1 h;refine Zo4 hall hs haf hnap 4 Drinker.row ex10 rfl rfl trivial rfl rfl rfl rfl ?_;refine Zf5 hall hs haf hnap 2 7 ?_;dsimp only [go_sem];refine ⟨by simp,?_⟩;obtain ⟨x11,ex11,h⟩:=Option.bind_eq_some_iff.1 h;refine Zv3 9 13 rfl ?_ ?_
      ·refine Z04 hall rfl trivial (Zc8 x10.Diner x2.B _ ex11) (h:=?_);dsimp only [go_sem];refine Zf5 hall hs haf hnap 3 3 ?_;dsimp only [go_sem];refine ⟨by simp,?_⟩;refine Zu3 13 rfl ?_;refine Zz3 hall rfl trivial ?_;dsimp only [go_sem];refine Zu3 14 rfl ?_;refine Zz3 hall rfl trivial ?_;dsimp only [go_sem];refine Zf5 hall hs haf hnap 1 0 ?_;dsimp only [go_sem];refine ⟨by simp,?_⟩;refine Zt3 rfl ?_ _;exact Zv4 J3 (s:=(x11.2,x11.1)) h
      ·refine Zz3 hall rfl trivial ?_;dsimp only [go_sem];refine Zu3 9 rfl ?_;refine Z04 hall rfl trivial (Zc8 x10.Diner x2.B _ ex11) (h:=?_);dsimp only [go_sem];refine Zf5 hall hs haf hnap 3 2 ?_;dsimp only [go_sem];refine ⟨by simp,?_⟩;refine Zu3 14 rfl ?_;refine Zz3 hall rfl trivial ?_;dsimp only [go_sem];refine Zf5 hall hs haf hnap 1 0 ?_;dsimp only [go_sem];refine ⟨by simp,?_⟩;refine Zt3 rfl ?_ _;exact Zv4 J3 (s:=(x11.2,x11.1)) h
   ·refine Zs4 33 h rfl (fun _ h=>?_) fun _ h=>?_
    ·dsimp only [go_sem];refine Zl2 7 ?_;dsimp only [e19,Zbm,Zam,go_sem];refine ⟨by simp,?_⟩;exact Zv4 J2 (s:=true) h
    ·dsimp only [go_sem];refine Zl2 3 ?_;dsimp only [e19,Zbm,Zam,go_sem];refine ⟨by simp,?_⟩;obtain ⟨x8,ex8,h⟩:=Option.bind_eq_some_iff.1 h;refine Zz2 trivial (Z8l x1 x2.B _ ex8) (h:=?_);refine Zl2 3 ?_;dsimp only [e19,Zbm,Zam,go_sem];refine ⟨by simp,?_⟩;exact Zv4 J2 (s:=!x8) h
 ·refine Zs4 19 h rfl (fun _ h=>?_) fun _ h=>?_
  ·dsimp only [go_sem];refine Zl2 4 ?_;dsimp only [e19,Zbm,Zam,go_sem];refine ⟨by simp,?_⟩;exact Zv4 J1 (s:=!decide (x3=4)) h
  ·dsimp only [go_sem];refine Zl2 4 ?_;dsimp only [e19,Zbm,Zam,go_sem];refine ⟨by simp,?_⟩;exact Zv4 J1 (s:=false) h
set_option maxRecDepth 100000
set_option maxHeartbeats 4000000
def Zrm:EC:=.seq (.reg [(Qa 22 (.bin .lss (.t 21) (.t 20)))]) (.seq (.ite (.t 22) (.skip) (.exit 0)) (.seq (.blk 1 (.seq (.reg [(Qa 23 (.idx 3 (.t 19) (.t 21))),(Qa 24 (.loadA 3 (.t 23))),(Qa 8 (.alloc 61 [.iv 0,.iv 0,.nl])),(Qb (.store 3 (.t 8) (.t 24)))]) (.reg [(Qa 25 (.fld 0 (.t 6))),(Qa 26 (.load (.t 25))),(Qa 27 (.loadA 3 (.t 8))),(Qa 28 (.build [.iv 0,.iv 0,.nl,.iv 0,.nl] [(0,3,(.t 27))])),(Qa 29 (.bsl 63 5 1 [.iv 0,.iv 0,.nl,.iv 0,.nl] [(0,(.t 28))])),(Qa 30 (.app 63 5 72 (.t 26) (.t 29))),(Qa 31 (.fld 0 (.t 6))),(Qb (.store 1 (.t 31) (.t 30)))]))) (.reg [(Qa 32 (.bin .add (.t 21) (.c (.iv 1)))),(Qa 21 (.mv (.t 32)))])))
def e40:EC:=.seq (.reg [(Qa 1 (.box 53 2 (.t 0))),(Qa 2 (.alloc 25 [.nl,.nl])),(Qa 3 (.mv (.c (.iv 0))))]) (.seq (.reg [(Qa 10 (.loadA 2 (.t 1))),(Qa 11 (.call 78 [(.t 10)])),(Qa 9 (.mv (.t 11))),(Qa 12 (.ext (.t 9) 0)),(Qa 13 (.ext (.t 9) 1)),(Qa 4 (.alloc 48 [.nl,.nl])),(Qb (.store 2 (.t 4) (.t 12))),(Qa 5 (.mv (.t 13)))]) (.seq (.seq (.reg [(Qa 14 (.mv (.t 5))),(Qa 15 (.bin .neq (.t 14) (.c (.iv 0))))]) (.ite (.t 15) (.seq (.reg [(Qa 16 (.build [.nl,.nl] [])),(Qa 17 (.mv (.t 5))),(Qb (.store 2 (.t 2) (.t 16))),(Qa 3 (.mv (.t 17)))]) (.ret)) (.skip))) (.seq (.reg [(Qa 6 (.alloc 25 [.nl,.nl]))]) (.seq (.seq (.reg [(Qa 18 (.fld 0 (.t 4))),(Qa 19 (.load (.t 18))),(Qa 20 (.len (.t 19))),(Qa 21 (.mv (.c (.iv 0))))]) (.blk 0 (.loop Zrm))) (.seq (.reg [(Qa 33 (.loadA 2 (.t 6))),(Qb (.store 2 (.t 2) (.t 33))),(Qa 3 (.mv (.c (.iv 0))))]) (.ret))))))
theorem ok40:FnOK Tryz.prog 40 Tryz.f40 e40 [.c 2 (some 2),.t 3] 1 33:=⟨by kernel_rfl,⟨_,rfl,by kernel_rfl⟩,by kernel_rfl,by kernel_rfl⟩
noncomputable def Zsm:(List Drinker)→Option (Bar×Int)
| x17=>
 some ((Bar.mk x17 (([]:(List Mail)))),0)
noncomputable def Ztm (x2:(Scene×Int)):(Int×(List Drinker))→Option ((Int×(List Drinker)) ⊕ (Bar×Int))
| (x7,x8)=>
 ifb (decide (x7<(ln Diner.row x2.1.Diners))) (
 (at_ x2.1.Diners x7).bind fun x9=>
 (Zc4 72 x8 ([(Drinker.mk x9 0 (([]:List Int)))])).bind fun x10=>
 some (.inl (wr (x7+1),x10))) (
 Option.map Sum.inr (Zsm x8))
noncomputable def Zum (x1:Graph):Option (Bar×Int):=
 (Zbj x1).bind fun x2=>
 ifb (!decide (x2.2=0)) (
 some ((Bar.mk (([]:(List Drinker))) (([]:(List Mail)))),x2.2)) (
 loop (Ztm x2) (0,([]:List Drinker)))
theorem k_bar_New (x1:Graph) (r:(Bar×Int)) (h:Zum x1=some r):Zq2 Tryz.prog 40 [.agg (Graph.row x1)] (.tup [.agg (Bar.row r.1),.iv r.2]):=by
 refine Zu2 ok40 rfl rfl fun w0 H0=>?_
 rw [Zum] at h
 refine Zl2 9 ?_;dsimp only [e40,Zrm,go_sem];refine ⟨by simp,?_⟩;obtain ⟨x2,ex2,h⟩:=Option.bind_eq_some_iff.1 h;refine Zz2 trivial (k_table_New x1 _ ex2) (h:=?_);refine Zl2 13 ?_;dsimp only [e40,Zrm,go_sem];refine ⟨by simp,?_⟩;refine Zk4 h rfl (fun _ h=>?_) fun _ h=>?_
 ·refine Zl2 7 ?_;dsimp only [e40,Zrm,go_sem];refine ⟨by simp,?_⟩;exact Zt4 (res:=fun (r:(Bar×Int))=>.tup [.agg (Bar.row r.1),.iv r.2]) ok40 h
 ·refine Zl2 13 ?_;dsimp only [e40,Zrm,go_sem];refine ⟨by simp,?_⟩;refine Zi4 (fun (x17:(List Drinker))=>(⟨(.any :: .any :: .ptr 1 0::an 3 (.ptr 3 0::an 27 [])),[none,some ⟨25,[.nl,.nl]⟩,none,some ⟨25,[.osl 0,.nl]⟩],[some ⟨63,5,List.map Drinker.row x17⟩]⟩:St)) Zsm r ?_ fun J1=>?_
  ·intro x17 h;rw [Zsm] at h;(try dsimp only);refine Zl2 6 ?_;dsimp only [e40,Zrm,go_sem];refine ⟨by simp,?_⟩;refine Z83 0 rfl ?_;dsimp only [go_sem];exact Zt4 (res:=fun (r:(Bar×Int))=>.tup [.agg (Bar.row r.1),.iv r.2]) ok40 h
  ·refine Zl2 1 ?_;dsimp only [e40,Zrm,go_sem];refine ⟨by simp,?_⟩;refine Z64 3 0 63 5 rfl rfl rfl ?_;dsimp only [go_sem];refine Zj4 h (fun ((x7,x8):(Int×(List Drinker)))=>(⟨(.any :: .any :: .ptr 1 0::an 3 (.ptr 3 0::an 12 (.sl 3 (List.map Diner.row x2.1.Diners) :: .iv (ln Diner.row x2.1.Diners) :: .iv x7::an 12 []))),[none,some ⟨25,[.nl,.nl]⟩,none,some ⟨25,[.osl 0,.nl]⟩],[some ⟨63,5,List.map Drinker.row x8⟩]⟩:St)) (by simp [go_sem]) (by rintro ⟨x7,x8⟩;first | rfl | simp [go_sem]) ?_;rintro n1 ⟨x7,x8⟩ y1 h hin1 hout1;rw [Ztm] at h
   (try dsimp only);refine Zl2 5 ?_;dsimp only [e40,Zrm,go_sem];refine ⟨by simp,?_⟩;refine Zk4 h rfl (fun _ h=>?_) fun _ h=>?_
   ·refine Zl2 5 ?_;dsimp only [e40,Zrm,go_sem];refine ⟨by simp,?_⟩;obtain ⟨x9,ex9,h⟩:=Option.bind_eq_some_iff.1 h;refine Zn4 Diner.row ex9 trivial rfl rfl rfl ?_;refine Zl2 9 ?_;dsimp only [e40,Zrm,go_sem];refine ⟨by simp,?_⟩;refine V_put1 28 (.agg [.iv x9.ID,.iv x9.Phase,.sl 8 (List.map Side.row x9.Sides),.iv 0,.sl 1 (List.map Z05 (([]:List Int)))]) (by simp [go_sem]) ?_;dsimp only [go_sem];refine Zl2 1 ?_;dsimp only [e40,Zrm,go_sem];refine ⟨by simp,?_⟩;obtain ⟨x10,ex10,h⟩:=Option.bind_eq_some_iff.1 h
    refine Zq4 Drinker.row ex10 trivial rfl rfl rfl ?_;refine Zl2 8 ?_;dsimp only [e40,Zrm,go_sem];refine ⟨by simp,?_⟩;refine Z54 2 0 rfl rfl rfl ?_;dsimp only [go_sem];exact Zu4 h hin1
   ·refine Zl2 1 ?_;dsimp only [e40,Zrm,go_sem];refine ⟨by simp,?_⟩;exact Zv4 J1 (s:=x8) (Zh4 h hout1)
set_option maxRecDepth 100000
set_option maxHeartbeats 4000000
def Zvm:EC:=.seq (.reg [(Qa 18 (.bin .lss (.t 17) (.t 16)))]) (.seq (.ite (.t 18) (.skip) (.exit 0)) (.seq (.blk 1 (.seq (.reg [(Qa 19 (.mv (.t 17))),(Qa 20 (.idx 5 (.t 15) (.t 17))),(Qa 21 (.loadA 5 (.t 20))),(Qa 8 (.alloc 63 [.iv 0,.iv 0,.nl,.iv 0,.nl])),(Qa 7 (.mv (.t 19))),(Qb (.store 5 (.t 8) (.t 21)))]) (.seq (.reg [(Qa 22 (.mv (.t 1))),(Qa 23 (.mv (.t 7))),(Qa 24 (.idx 5 (.t 22) (.t 23))),(Qa 25 (.loadA 5 (.t 24))),(Qa 9 (.alloc 63 [.iv 0,.iv 0,.nl,.iv 0,.nl])),(Qb (.store 5 (.t 9) (.t 25)))]) (.seq (.reg [(Qa 26 (.mv (.t 2))),(Qa 27 (.loadA 5 (.t 8))),(Qa 28 (.loadA 5 (.t 9))),(Qa 29 (.callv (.t 26) [(.t 27),(.t 28)])),(Qa 30 (.not (.t 29)))]) (.ite (.t 30) (.seq (.reg [(Qa 6 (.mv (.c .ff)))]) (.ret)) (.skip)))))) (.reg [(Qa 31 (.bin .add (.t 17) (.c (.iv 1)))),(Qa 17 (.mv (.t 31)))])))
def e67:EC:=.seq (.reg [(Qa 6 (.mv (.c .ff)))]) (.seq (.seq (.reg [(Qa 10 (.mv (.t 0))),(Qa 11 (.len (.t 10))),(Qa 12 (.mv (.t 1))),(Qa 13 (.len (.t 12))),(Qa 14 (.bin .neq (.t 11) (.t 13)))]) (.ite (.t 14) (.seq (.reg [(Qa 6 (.mv (.c .ff)))]) (.ret)) (.skip))) (.seq (.seq (.reg [(Qa 15 (.mv (.t 0))),(Qa 16 (.len (.t 15))),(Qa 17 (.mv (.c (.iv 0))))]) (.blk 0 (.loop Zvm))) (.seq (.reg [(Qa 6 (.mv (.c .tt)))]) (.ret))))
theorem ok67:FnOK Tryz.prog 67 Tryz.f67 e67 [.t 6] 3 29:=⟨by kernel_rfl,⟨_,rfl,by kernel_rfl⟩,by kernel_rfl,by kernel_rfl⟩
noncomputable def Zwm:Unit→Option Bool
| ()=>
 some true
noncomputable def Zxm (x1:(List Drinker)) (x2:(List Drinker)) (p2:((Drinker×Drinker)→Option Bool)):Int→Option (Int ⊕ Bool)
| x7=>
 ifb (decide (x7<(ln Drinker.row x1))) (
 (at_ x1 x7).bind fun x8=>
 (at_ x2 x7).bind fun x9=>
 (p2 (x8,x9)).bind fun x10=>
 ifb (!x10) (
 Option.map Sum.inr (some false)) (
 some (.inl (wr (x7+1))))) (
 Option.map Sum.inr (Zwm ()))
noncomputable def Zym (x1:(List Drinker)) (x2:(List Drinker)) (p2:((Drinker×Drinker)→Option Bool)):Option Bool:=
 ifb (!decide ((ln Drinker.row x1)=(ln Drinker.row x2))) (
 some false) (
 loop (Zxm x1 x2 p2) 0)
theorem Zzm (x1:(List Drinker)) (x2:(List Drinker)) (g2:Nat) (caps2:List AV) (p2:((Drinker×Drinker)→Option Bool)) (hc2:CloOK Tryz.prog g2 caps2 (fun z=>[.agg (Drinker.row z.1),.agg (Drinker.row z.2)]) p2 (fun z=>.bv z)) (r:Bool) (h:Zym x1 x2 p2=some r):Zq2 Tryz.prog 67 [.sl 5 (List.map Drinker.row x1),.sl 5 (List.map Drinker.row x2),.clo g2 caps2] (.bv r):=by
 refine Zu2 ok67 rfl rfl fun w0 H0=>?_
 rw [Zym] at h
 refine Zl2 13 ?_;dsimp only [e67,Zvm,go_sem];refine ⟨by simp,?_⟩;refine Zk4 h rfl (fun _ h=>?_) fun _ h=>?_
 ·refine Zl2 4 ?_;dsimp only [e67,Zvm,go_sem];refine ⟨by simp,?_⟩;exact Zt4 (res:=fun (r:Bool)=>.bv r) ok67 h
 ·refine Zl2 8 ?_;dsimp only [e67,Zvm,go_sem];refine ⟨by simp,?_⟩;refine Zi4 (fun (_:Unit)=>(⟨(an 32 []),[],[]⟩:St)) Zwm r ?_ fun J1=>?_
  ·rintro ⟨⟩ h;rw [Zwm] at h;(try dsimp only);refine Zl2 4 ?_;dsimp only [e67,Zvm,go_sem];refine ⟨by simp,?_⟩;exact Zt4 (res:=fun (r:Bool)=>.bv r) ok67 h
  ·refine Zl2 1 ?_;dsimp only [e67,Zvm,go_sem];refine ⟨by simp,?_⟩;refine Zj4 h (fun (x7:Int)=>(⟨(.any :: .sl 5 (List.map Drinker.row x2) :: .clo g2 caps2::an 12 (.sl 5 (List.map Drinker.row x1) :: .iv (ln Drinker.row x1) :: .iv x7::an 14 [])),[],[]⟩:St)) (by simp [go_sem]) (by intro x7;first | rfl | simp [go_sem,Za4 _ hc2.pu]) ?_;rintro n1 x7 y1 h hin1 hout1;rw [Zxm] at h;(try dsimp only);refine Zl2 5 ?_;dsimp only [e67,Zvm,go_sem];refine ⟨by simp,?_⟩;refine Zk4 h rfl (fun _ h=>?_) fun _ h=>?_
   ·refine Zl2 6 ?_;dsimp only [e67,Zvm,go_sem];refine ⟨by simp,?_⟩;obtain ⟨x8,ex8,h⟩:=Option.bind_eq_some_iff.1 h;refine Zn4 Drinker.row ex8 trivial rfl rfl rfl ?_;refine Zl2 9 ?_;dsimp only [e67,Zvm,go_sem];refine ⟨by simp,?_⟩;obtain ⟨x9,ex9,h⟩:=Option.bind_eq_some_iff.1 h;refine Zn4 Drinker.row ex9 trivial rfl rfl rfl ?_;refine Zl2 9 ?_;dsimp only [e67,Zvm,go_sem];refine ⟨by simp,?_⟩;obtain ⟨x10,ex10,h⟩:=Option.bind_eq_some_iff.1 h
    refine Zz4 trivial rfl hc2 (x:=(x8,x9)) ex10 (by first | exact Zb4 _ | simp [go_sem]) (by first | rfl | simp [go_sem,hc2.pu]) ?_;refine Zl2 2 ?_;dsimp only [e67,Zvm,go_sem];refine ⟨by simp,?_⟩;refine Zk4 h rfl (fun _ h=>?_) fun _ h=>?_
    ·refine Zl2 4 ?_;dsimp only [e67,Zvm,go_sem];refine ⟨by simp,?_⟩;exact Zt4 (res:=fun (r:Bool)=>.bv r) ok67 (Zh4 h hout1)
    ·refine Zl2 6 ?_;dsimp only [e67,Zvm,go_sem];refine ⟨by simp,?_⟩;exact Zu4 h hin1 (hok:=by first | rfl | simp [go_sem,Za4 _ hc2.pu])
   ·refine Zl2 1 ?_;dsimp only [e67,Zvm,go_sem];refine ⟨by simp,?_⟩;exact Zv4 J1 (s:=()) (Zh4 h hout1) (hok:=by first | rfl | simp [go_sem,Za4 _ hc2.pu])
set_option maxRecDepth 100000
set_option maxHeartbeats 4000000
def Z0n:EC:=.seq (.reg [(Qa 14 (.bin .lss (.t 13) (.t 12)))]) (.seq (.ite (.t 14) (.skip) (.exit 0)) (.seq (.blk 1 (.seq (.reg [(Qa 15 (.mv (.t 13))),(Qa 5 (.mv (.t 15)))]) (.seq (.drw [(Qa 16 (.mv (.t 0))),(Qa 17 (.mv (.t 5))),(Qa 18 (.idx 5 (.t 16) (.t 17))),(Qa 19 (.loadA 5 (.t 18))),(Qa 20 (.mv (.t 1))),(Qa 21 (.mv (.t 5))),(Qa 22 (.idx 5 (.t 20) (.t 21))),(Qa 23 (.loadA 5 (.t 22))),(Qa 24 (.eqs true [true,true,true,true,true] (.t 19) (.t 23)))] [[],[],[0,1],[2],[],[],[4,5],[6],[3,7]] [[2],[2],[0,1,3],[2,8],[6],[6],[4,5,7],[6,8],[3,7]]) (.ite (.t 24) (.seq (.reg [(Qa 4 (.mv (.c .ff)))]) (.ret)) (.skip))))) (.reg [(Qa 25 (.bin .add (.t 13) (.c (.iv 1)))),(Qa 13 (.mv (.t 25)))])))
def e69:EC:=.seq (.reg [(Qa 4 (.mv (.c .ff)))]) (.seq (.seq (.reg [(Qa 6 (.mv (.t 0))),(Qa 7 (.len (.t 6))),(Qa 8 (.mv (.t 1))),(Qa 9 (.len (.t 8))),(Qa 10 (.bin .neq (.t 7) (.t 9)))]) (.ite (.t 10) (.seq (.reg [(Qa 4 (.mv (.c .ff)))]) (.ret)) (.skip))) (.seq (.seq (.reg [(Qa 11 (.mv (.t 0))),(Qa 12 (.len (.t 11))),(Qa 13 (.mv (.c (.iv 0))))]) (.blk 0 (.loop Z0n))) (.seq (.reg [(Qa 4 (.mv (.c .tt)))]) (.ret))))
theorem ok69:FnOK Tryz.prog 69 Tryz.f69 e69 [.t 4] 2 24:=⟨by kernel_rfl,⟨_,rfl,by kernel_rfl⟩,by kernel_rfl,by kernel_rfl⟩
noncomputable def Z1n:Unit→Option Bool
| ()=>
 some true
noncomputable def Z2n (x1:(List Mail)) (x2:(List Mail)):Int→Option (Int ⊕ Bool)
| x6=>
 ifb (decide (x6<(ln Mail.row x1))) (
 (at_ x1 x6).bind fun x7=>
 (at_ x2 x6).bind fun x8=>
 ifb (!(decide (x7.From=x8.From)&&(decide (x7.To=x8.To)&&(decide (x7.Msg.Kind=x8.Msg.Kind)&&(decide (x7.Msg.Epoch=x8.Msg.Epoch)&&(decide (x7.Msg.Num=x8.Msg.Num)&&true)))))) (
 Option.map Sum.inr (some false)) (
 some (.inl (wr (x6+1))))) (
 Option.map Sum.inr (Z1n ()))
noncomputable def Z3n (x1:(List Mail)) (x2:(List Mail)):Option Bool:=
 ifb (!decide ((ln Mail.row x1)=(ln Mail.row x2))) (
 some false) (
 loop (Z2n x1 x2) 0)
theorem Z4n (x1:(List Mail)) (x2:(List Mail)) (r:Bool) (h:Z3n x1 x2=some r):Zq2 Tryz.prog 69 [.sl 5 (List.map Mail.row x1),.sl 5 (List.map Mail.row x2)] (.bv r):=by
 refine Zu2 ok69 rfl rfl fun w0 H0=>?_
 rw [Z3n] at h
 refine Zl2 13 ?_;dsimp only [e69,Z0n,go_sem];refine ⟨by simp,?_⟩;refine Zk4 h rfl (fun _ h=>?_) fun _ h=>?_
 ·refine Zl2 4 ?_;dsimp only [e69,Z0n,go_sem];refine ⟨by simp,?_⟩;exact Zt4 (res:=fun (r:Bool)=>.bv r) ok69 h
 ·refine Zl2 8 ?_;dsimp only [e69,Z0n,go_sem];refine ⟨by simp,?_⟩;refine Zi4 (fun (_:Unit)=>(⟨(an 26 []),[],[]⟩:St)) Z1n r ?_ fun J1=>?_
  ·rintro ⟨⟩ h;rw [Z1n] at h;(try dsimp only);refine Zl2 4 ?_;dsimp only [e69,Z0n,go_sem];refine ⟨by simp,?_⟩;exact Zt4 (res:=fun (r:Bool)=>.bv r) ok69 h
  ·refine Zl2 1 ?_;dsimp only [e69,Z0n,go_sem];refine ⟨by simp,?_⟩;refine Zj4 h (fun (x6:Int)=>(⟨(.sl 5 (List.map Mail.row x1) :: .sl 5 (List.map Mail.row x2)::an 10 (.iv (ln Mail.row x1) :: .iv x6::an 12 [])),[],[]⟩:St)) (by simp [go_sem]) (by intro x6;first | rfl | simp [go_sem]) ?_;rintro n1 x6 y1 h hin1 hout1;rw [Z2n] at h;(try dsimp only);refine Zl2 5 ?_;dsimp only [e69,Z0n,go_sem];refine ⟨by simp,?_⟩;refine Zk4 h rfl (fun _ h=>?_) fun _ h=>?_
   ·refine Zl2 9 ?_;dsimp only [e69,Z0n,go_sem];refine ⟨by simp,?_⟩;refine Zh3 (by kernel_rfl) fun all hall hs hnap haf=>?_;dsimp only [go_sem];refine Zf5 hall hs haf hnap 4 5 ?_;dsimp only [go_sem];refine ⟨by simp,?_⟩;obtain ⟨x7,ex7,h⟩:=Option.bind_eq_some_iff.1 h;refine Zo4 hall hs haf hnap 2 Mail.row ex7 rfl rfl trivial rfl rfl rfl rfl ?_;refine Zf5 hall hs haf hnap 1 3 ?_;dsimp only [go_sem];refine ⟨by simp,?_⟩;obtain ⟨x8,ex8,h⟩:=Option.bind_eq_some_iff.1 h;refine Zo4 hall hs haf hnap 6 Mail.row ex8 rfl rfl trivial rfl rfl rfl rfl ?_
    refine Zf5 hall hs haf hnap 2 0 ?_;dsimp only [go_sem];refine ⟨by simp,?_⟩;refine Zt3 rfl ?_ _;refine Zk4 h rfl (fun _ h=>?_) fun _ h=>?_
    ·refine Zl2 4 ?_;dsimp only [e69,Z0n,go_sem];refine ⟨by simp,?_⟩;exact Zt4 (res:=fun (r:Bool)=>.bv r) ok69 (Zh4 h hout1)
    ·refine Zl2 6 ?_;dsimp only [e69,Z0n,go_sem];refine ⟨by simp,?_⟩;exact Zu4 h hin1
   ·refine Zl2 1 ?_;dsimp only [e69,Z0n,go_sem];refine ⟨by simp,?_⟩;exact Zv4 J1 (s:=()) (Zh4 h hout1)
set_option maxRecDepth 100000
set_option maxHeartbeats 4000000
def e24:EC:=.seq (.reg [(Qa 2 (.box 25 2 (.t 0))),(Qa 3 (.box 25 2 (.t 1))),(Qa 4 (.mv (.c .ff)))]) (.seq (.reg [(Qa 5 (.fld 0 (.t 2))),(Qa 6 (.load (.t 5))),(Qa 7 (.fld 0 (.t 3))),(Qa 8 (.load (.t 7))),(Qa 9 (.call 67 [(.t 6),(.t 8),(.c (.clo 68 []))])),(Qa 10 (.mv (.t 9))),(Qg 11 10 true (.fld 1 (.t 2))),(Qg 12 10 true (.load (.t 11))),(Qg 13 10 true (.fld 1 (.t 3))),(Qg 14 10 true (.load (.t 13))),(Qg 15 10 true (.call 69 [(.t 12),(.t 14)])),(Qa 16 (.pick (.t 10) (.t 15) (.c .ff))),(Qa 4 (.mv (.t 16)))]) (.ret))
theorem ok24:FnOK Tryz.prog 24 Tryz.f24 e24 [.t 4] 2 15:=⟨by kernel_rfl,⟨_,rfl,by kernel_rfl⟩,by kernel_rfl,by kernel_rfl⟩
noncomputable def Z5n:Bool→Option Bool
| x5=>
 some x5
noncomputable def Z6n (x1:Bar) (x2:Bar):Option Bool:=
 (Zym x1.Drinkers x2.Drinkers ((fun z=>Z5c z.1 z.2))).bind fun x3=>
 ifb x3 (
 (Z3n x1.Mail x2.Mail).bind fun x4=>
 Z5n x4) (
 Z5n false)
theorem Z7n (x1:Bar) (x2:Bar) (r:Bool) (h:Z6n x1 x2=some r):Zq2 Tryz.prog 24 [.agg (Bar.row x1),.agg (Bar.row x2)] (.bv r):=by
 refine Zu2 ok24 rfl rfl fun w0 H0=>?_
 rw [Z6n] at h
 refine Zl2 12 ?_;dsimp only [e24,go_sem];refine ⟨by simp,?_⟩;obtain ⟨x3,ex3,h⟩:=Option.bind_eq_some_iff.1 h;refine Zz2 trivial (Zzm x1.Drinkers x2.Drinkers _ _ ((fun z=>Z5c z.1 z.2)) ⟨by kernel_rfl,rfl,fun z r hz=>Z6c z.1 z.2 r hz⟩ _ ex3) (h:=?_);refine Zl2 1 ?_;dsimp only [e24,go_sem];refine ⟨by simp,?_⟩;refine Zi4 (fun (x5:Bool)=>(⟨(an 4 (.bv x5::an 12 [])),[],[]⟩:St)) Z5n r ?_ fun J1=>?_
 ·intro x5 h;rw [Z5n] at h;(try dsimp only);exact Zt4 (res:=fun (r:Bool)=>.bv r) ok24 h
 ·refine Zs4 10 h rfl (fun _ h=>?_) fun _ h=>?_
  ·dsimp only [go_sem];refine Zl2 4 ?_;dsimp only [e24,go_sem];refine ⟨by simp,?_⟩;obtain ⟨x4,ex4,h⟩:=Option.bind_eq_some_iff.1 h;refine Zz2 trivial (Z4n x1.Mail x2.Mail _ ex4) (h:=?_);refine Zl2 3 ?_;dsimp only [e24,go_sem];refine ⟨by simp,?_⟩;exact Zv4 J1 (s:=x4) h
  ·dsimp only [go_sem];refine Zl2 8 ?_;dsimp only [e24,go_sem];refine ⟨by simp,?_⟩;exact Zv4 J1 (s:=false) h
theorem Z8n (l:List Drinker) (p:Drinker→Option Bool) (q:Drinker→Bool) (hl:l.length≤4000000000000000000) (hp:∀x∈l,p x=some (q x)):Zzk l p=some (plc (l.findIdx? q)):=by
 unfold Zzk
 refine Zp6 l _ q hl (fun k x hx=>?_) ?_
 ·simp only [Zyk,Zi6 hx,Zc6,Zg6 hx,Option.bind_some,hp x (List.mem_iff_getElem?.2 ⟨k,hx⟩),Zl6 hx hl]
  cases q x<;>rfl
 ·simp only [Zyk,Zj6,Zd6,Zxk,Option.map_some]
theorem Z9n (l:List Drinker) (p:Drinker→Option Bool) (q:Drinker→Bool) (hl:l.length≤4000000000000000000) (hp:∀x∈l,p x=some (q x)):Z1l l p=some (l.any q):=by
 unfold Z1l
 rw [Z8n l p q hl hp,Option.bind_some,Zn6,Zq6]
def fewL (l:List Drinker):Prop:=l.length≤5000∧∀d∈l,d.Diner.Sides.length≤5000∧d.Need.length≤5000
def scB (s:Bar):Scene:=⟨s.Drinkers.map (·.Diner),s.Mail⟩
def bar0:Bar:=⟨[],[]⟩
theorem fewL_D {s:Bar} (h:fewL s.Drinkers):fewD (scB s).Diners:=by
 refine ⟨by simpa [scB] using h.1,fun d hd=>?_⟩
 obtain ⟨e,he,rfl⟩:=List.mem_map.1 hd
 exact (h.2 e he).1
theorem s_CloneMail (l:List Mail) (hl:l.length≤1000000):Zok l=some l:=by
 simp only [Zok]
 rw [Zh6 _ _ (by omega) (by simp;omega)];rfl
theorem s_Scene (s:Bar) (hD:fewL s.Drinkers) (hM:s.Mail.length≤1000000):Zuk s=some (scB s):=by
 simp only [Zuk,s_CloneMail _ hM,Option.bind_some]
 refine Zs8 s.Drinkers (Ztk s s.Mail) (fun pre=>((pre.length:Int),pre.map (·.Diner))) _ (fun pre x post h=>?_) ?_
 ·have hx:=Zt8 h
  have hm:=Zu8 h
  have h1:=hD.1
  have h2:=(hD.2 x (Zv8 h)).1
  dsimp only [Ztk]
  rw [Zi6 hx,Zc6,Zg6 hx,Option.bind_some,Zna _ (by omega),Option.bind_some,Zh6 _ _ (by omega) (by simp;omega),Option.bind_some,Zk6 (by omega),Zy8]
  simp
 ·dsimp only [Ztk]
  rw [Zj6,Zd6];rfl
def Zan (s:Bar):Bool:=okS (scB s)&&s.Drinkers.all okDr
theorem Zbn (s:Bar) (hD:fewL s.Drinkers) (hM:s.Mail.length≤1000000):Z4l s=some (if Zan s then 0 else 160):=by
 simp only [Z4l,s_Scene s hD hM,Option.bind_some,s_tCheck (scB s) (fewL_D hD) hM]
 unfold Zan
 cases okS (scB s) with
 | false=>rfl
 | true=>
   rw [if_pos rfl,show decide ((0:Int)=0)=true from rfl,Bool.not_true,Zd6,Z9n s.Drinkers (fun z=>Znk z) (fun d=>!okDr d) (by have:=hD.1;omega) (fun d hd=>by
    simp only [Znk,Zlh d (by have:=(hD.2 d hd).2;omega),Option.bind_some]
    cases okDr d<;>rfl),Option.bind_some]
   have e1:s.Drinkers.any (fun d=>!okDr d)=!s.Drinkers.all okDr:=Z38 _ _ _ fun _=>rfl
   rw [e1]
   cases s.Drinkers.all okDr<;>rfl
def Zcn (s:Bar) (a:Int):Bool:=decide (0≤a)&&decide (a<s.Drinkers.length)
theorem Zdn (s:Bar) (a:Int):Z7l s a=some (Zcn s a):=by
 simp only [Z7l,Z6l,Zcn,Z25]
 cases decide (0≤a)<;>rfl
theorem Zen {s:Bar} {a:Int}:Zcn s a=true↔0≤a∧a<s.Drinkers.length:=by simp [Zcn]
theorem Zfn {s:Bar} {a:Int} (h:Zcn s a=true):∃d,at_ s.Drinkers a=some d∧s.Drinkers[a.toNat]?=some d:=by
 rw [Zen] at h
 exact at_lt h.1 h.2
theorem once_keep (d:Drinker):(Zwg d).Need=d.Need∧(Zwg d).Diner.ID=d.Diner.ID∧(Zwg d).Diner.Sides.map (·.Peer)=d.Diner.Sides.map (·.Peer):=by
 refine ⟨rfl,rfl,?_⟩
 show (Zug d).map (·.Peer)=_
 unfold Zug
 rw [Zhg,List.map_map,List.map_map]
 refine List.map_congr_left fun x _=>?_
 show (Zpg _ _ (Zgg (Ztg d) x)).Peer=x.Peer
 rw [(Zrg _ _ _).1,(Zjg (Ztg d) x).1]
theorem Zgn:∀(n:Nat) (d:Drinker) (out:List Mail),(fireN n d out).1.Need=d.Need∧(fireN n d out).1.Diner.ID=d.Diner.ID∧(fireN n d out).1.Diner.Sides.map (·.Peer)=d.Diner.Sides.map (·.Peer)∧(fireN n d out).2.length+bits (fireN n d out).1.Diner.Sides=out.length+bits d.Diner.Sides
 | 0,_,_=>⟨rfl,rfl,rfl,rfl⟩
 | n+1,d,out=>by
   unfold fireN
   split
   ·exact ⟨rfl,rfl,rfl,rfl⟩
   ·obtain ⟨h1,h2,h3,h4⟩:=Zgn n (Zwg d) (out++Zxg d)
    obtain ⟨k1,k2,k3⟩:=once_keep d
    have hb:=Z0h d
    exact ⟨h1.trans k1,h2.trans k2,h3.trans k3,by rw [h4,List.length_append];omega⟩
theorem fireDr_len (d:Drinker):(fireDr d).1.Diner.Sides.length=d.Diner.Sides.length∧(fireDr d).1.Need=d.Need:=by
 obtain ⟨h1,_,h3,_⟩:=Zgn 300 d []
 have:=congrArg List.length h3
 simp only [List.length_map] at this
 exact ⟨this,h1⟩
theorem Zhn {d:Drinker} (h:okDr d=true):(fireDr d).2.length≤252:=by
 have h1:=(Zgn 300 d []).2.2.2
 have h2:=bits_le d.Diner.Sides
 have h3:=Zoa (okDr_D h)
 unfold fireDr
 simp only [List.length_nil] at h1
 omega
def actBS (s:Bar) (a:Int) (d:Drinker):Bar:=⟨s.Drinkers.set a.toNat (fireDr d).1,s.Mail++(fireDr d).2⟩
def actBP (s:Bar) (a:Int) (r:Drinker×Int):Bar×Int:=if r.2=0 then (if okDr r.1 then (actBS s a r.1,0) else (bar0,150)) else (bar0,r.2)
theorem s_bAct (s:Bar) (a:Int) (p:Drinker→Option (Drinker×Int)) (q:Drinker→Drinker×Int) (d:Drinker) (hp:p d=some (q d)) (hq:(q d).1.Need.length≤5000) (hD:fewL s.Drinkers) (hM:s.Mail.length≤900000) (hd:at_ s.Drinkers a=some d) (ha:0≤a):
  Zdl s a p=some (actBP s a (q d)):=by
 simp only [Zdl,hd,Option.bind_some,hp,actBP]
 by_cases h0:(q d).2=0
 ·simp only [h0,decide_true,Bool.not_true,Zd6,s_drFire _ (show (q d).1.Need.length≤1000000 by omega),Option.bind_some,if_true]
  cases hk:okDr (q d).1 with
  | false=>rfl
  | true=>
    have hl:=Zoa (okDr_D hk)
    obtain ⟨f1,f2⟩:=fireDr_len (q d).1
    have hms:=Zhn hk
    have h5:=hD.1
    have hc:=s_Concat s.Mail (fireDr (q d).1).2 (by omega) (by omega)
    simp only [if_true,decide_true,Bool.not_true,Zd6,hc,Option.bind_some]
    have:=Zs8 s.Drinkers (Zcl s a ((fireDr (q d).1).1,(fireDr (q d).1).2,0) (s.Mail++(fireDr (q d).1).2)) (fun pre=>((pre.length:Int),(s.Drinkers.set a.toNat (fireDr (q d).1).1).take pre.length)) (actBS s a (q d).1,0) (fun pre x post h=>by
     have hx:=Zt8 h
     have hm:=Zu8 h
     have h2:=hD.2 x (Zv8 h)
     have snoc:(s.Drinkers.set a.toNat (fireDr (q d).1).1).take (pre.length+1)=(s.Drinkers.set a.toNat (fireDr (q d).1).1).take pre.length++[if (pre.length:Int)=a then (fireDr (q d).1).1 else x]:=by
      rw [List.take_add_one,List.getElem?_set]
      by_cases hq:(pre.length:Int)=a
      ·rw [if_pos (by omega),if_pos (by omega),if_pos hq];rfl
      ·rw [if_neg (by omega),hx,if_neg hq];rfl
     have lt:((s.Drinkers.set a.toNat (fireDr (q d).1).1).take pre.length).length≤5000:=by rw [List.length_take,List.length_set];omega
     have step:∀z:Drinker,z.Diner.Sides.length≤5000→z.Need.length≤5000→Zbl (pre.length:Int) ((s.Drinkers.set a.toNat (fireDr (q d).1).1).take pre.length) z=some (.inl (((pre.length+1:Nat):Int),(s.Drinkers.set a.toNat (fireDr (q d).1).1).take pre.length++[z])):=fun z h1 h2=>by
      dsimp only [Zbl]
      rw [Zna _ (by omega),Option.bind_some,Zhh _ (by omega),Option.bind_some,Zh6 _ _ (by omega) (by simp only [List.length_singleton];omega),Option.bind_some,Zk6 (by omega)]
     dsimp only [Zcl]
     rw [Zi6 hx,Zc6,Zg6 hx,Option.bind_some,Zy8,snoc]
     by_cases hq:(pre.length:Int)=a
     ·rw [decide_eq_true hq,Zc6,step _ (by omega) (by rw [f2];omega),if_pos hq]
     ·rw [decide_eq_false hq,Zd6,step _ h2.1 h2.2,if_neg hq]) (by
     dsimp only [Zcl]
     rw [Zj6,Zd6]
     dsimp only [Zal]
     rw [List.take_of_length_le (by simp)];rfl)
    exact this
 ·simp only [h0,decide_false,Bool.not_false,Zc6,if_false]
  rfl
def Zin (s:Bar) (a:Int) (q:Drinker→Drinker×Int):Bar×Int:=
 if Zan s then (if Zcn s a then (match at_ s.Drinkers a with | some d=>actBP s a (q d) | none=>(bar0,161)) else (bar0,161)) else (bar0,160)
theorem s_bTurn (s:Bar) (a:Int) (p:Drinker→Option (Drinker×Int)) (q:Drinker→Drinker×Int) (hp:∀d∈s.Drinkers,p d=some (q d)∧(q d).1.Need.length≤5000) (hD:fewL s.Drinkers) (hM:s.Mail.length≤900000):Zel s a p=some (Zin s a q):=by
 simp only [Zel,Zbn s hD (by omega),Option.bind_some]
 unfold Zin
 cases Zan s with
 | false=>rfl
 | true=>
   rw [if_pos rfl,show decide ((0:Int)=0)=true from rfl,Bool.not_true,Zd6,Zdn,Option.bind_some,if_pos rfl]
   cases h:Zcn s a with
   | false=>rfl
   | true=>
     obtain ⟨d,hd,hd'⟩:=Zfn h
     obtain ⟨p1,p2⟩:=hp d (List.mem_iff_getElem?.2 ⟨_,hd'⟩)
     rw [Bool.not_true,Zd6,if_pos rfl,s_bAct s a p q d p1 p2 hD hM hd (Zen.1 h).1,Option.bind_some,hd]
theorem compact_len (l:List Int):(setL l).length≤l.length:=by
 unfold setL
 have:=Lib.compact_length_le (l.mergeSort fun x y=>decide (x≤y))
 rw [List.length_mergeSort] at this
 exact this
theorem openDr_need {d:Drinker} {need:List Int} (hm:need.length≤5000):(Znh d need).1.Need.length≤5000:=by
 unfold Znh
 have:=compact_len need
 split
 ·split
  ·split
   ·simp [Zkh]
   ·show (setL need).length≤5000;omega
  ·simp [Zkh]
 ·simp [Zkh]
theorem closeDr_need (d:Drinker):(Zoh d).1.Need.length≤5000:=by
 unfold Zoh
 split
 ·split<;>simp [Zkh]
 ·simp [Zkh]
theorem Zjn {d:Drinker} {p:Int} {m:Msg} (hn:d.Need.length≤5000):(viaD d p m).1.Need.length≤5000:=by
 unfold viaD
 split
 ·exact hn
 ·simp [Zkh]
theorem getDr_need {d:Drinker} {p:Int} {m:Msg} (hn:d.Need.length≤5000):(Zph d p m).1.Need.length≤5000:=by
 unfold Zph
 split
 ·split
  ·exact Zjn hn
  ·split
   ·exact Zjn hn
   ·split
    ·split
     ·split
      ·simp [Zkh]
      ·exact hn
     ·split
      ·simp [Zkh]
      ·exact hn
    ·exact Zjn hn
 ·simp [Zkh]
theorem s_bOpen (s:Bar) (a:Int) (need:List Int) (hD:fewL s.Drinkers) (hM:s.Mail.length≤900000) (hn:need.length≤5000):Zgl s a need=some (Zin s a fun d=>Znh d need):=by
 simp only [Zgl]
 rw [s_bTurn s a _ (fun d=>Znh d need) (fun d hd=>⟨by simp only [Zmk,s_drOpen d need (show d.Need.length≤1000000 by have:=(hD.2 d hd).2;omega) (by omega),Option.bind_some],openDr_need hn⟩) hD hM,Option.bind_some]
theorem s_bClose (s:Bar) (a:Int) (hD:fewL s.Drinkers) (hM:s.Mail.length≤900000):Zil s a=some (Zin s a Zoh):=by
 simp only [Zil]
 rw [s_bTurn s a _ Zoh (fun d hd=>⟨s_drClose d (show d.Need.length≤1000000 by have:=(hD.2 d hd).2;omega),closeDr_need d⟩) hD hM,Option.bind_some]
def Zkn (s:Bar) (a b:Int):Option Nat:=s.Mail.findIdx? fun m=>decide (m.From=a)&&decide (m.To=b)
def Zln (s:Bar) (a b:Int):Bar×Int:=
 if Zan s then (if Zcn s a&&Zcn s b then (match Zkn s a b with
  | none=>(bar0,162)
  | some i=>match s.Mail[i]?,at_ s.Drinkers b with
    | some m,some d=>actBP ⟨s.Drinkers,s.Mail.take i++s.Mail.drop (i+1)⟩ b (Zph d a m.Msg)
    | _,_=>(bar0,161)) else (bar0,161)) else (bar0,160)
theorem Zmn (s:Bar) (a b:Int) (hD:fewL s.Drinkers) (hM:s.Mail.length≤900000):Zrl s a b=some (Zln s a b):=by
 simp only [Zrl,Zbn s hD (by omega),Option.bind_some]
 unfold Zln
 cases Zan s with
 | false=>rfl
 | true=>
   rw [if_pos rfl,show decide ((0:Int)=0)=true from rfl,Bool.not_true,Zd6,Zdn,Option.bind_some,if_pos rfl]
   cases h:Zcn s a with
   | false=>rfl
   | true=>
     rw [Bool.not_true,Zd6,Zdn,Option.bind_some]
     cases h':Zcn s b with
     | false=>rfl
     | true=>
       obtain ⟨d,hd,hd'⟩:=Zfn h'
       have hdn:=(hD.2 d (List.mem_iff_getElem?.2 ⟨_,hd'⟩)).2
       dsimp only [Zql]
       rw [Bool.not_true,Zd6,Bool.and_self,if_pos rfl,Zzi s.Mail (fun z=>Zll z a b) (fun m=>decide (m.From=a)&&decide (m.To=b)) (by omega) (fun m _=>by
        simp only [Zll,Zkl]
        cases decide (m.From=a)<;>rfl),Option.bind_some,plc_neg]
       have hfi:=Z69 (fun m:Mail=>decide (m.From=a)&&decide (m.To=b)) s.Mail
       unfold Zkn
       cases hf:s.Mail.findIdx? (fun m=>decide (m.From=a)&&decide (m.To=b)) with
       | none=>rfl
       | some i=>
         rw [hf] at hfi
         obtain ⟨m,hm,_⟩:=hfi
         have hlt:=(List.getElem?_eq_some_iff.1 hm).1
         have e1:sub_ s.Mail 0 (i:Int)=some (s.Mail.take i):=by
          unfold sub_
          rw [if_pos ⟨by omega,by omega,by omega⟩];simp
         have e2:sub_ s.Mail (wr ((i:Int)+1)) (ln Mail.row s.Mail)=some (s.Mail.drop (i+1)):=by
          rw [Zk6 (by omega),Z25]
          unfold sub_
          rw [if_pos ⟨by omega,by omega,by omega⟩];simp
         simp only [Option.isNone_some,Zd6,plc,Zg6 hm,Option.bind_some,e1,e2,hm,hd]
         rw [s_Concat _ _ (by simp;omega) (by simp;omega),Option.bind_some]
         dsimp only [Zpl]
         rw [s_bAct ⟨s.Drinkers,s.Mail.take i++s.Mail.drop (i+1)⟩ b _ (fun d=>Zph d a m.Msg) d (by simp only [Znl,s_drGet d a m.Msg (show d.Need.length≤1000000 by omega),Option.bind_some]) (getDr_need hdn) hD (by simp;omega) hd (Zen.1 h').1]
         rfl
def Znn (s:Bar) (k a b:Int) (need:List Int):Bar×Int:=if k=0 then Zin s a (fun d=>Znh d need) else if k=1 then Zin s a Zoh else Zln s a b
theorem s_act16 (s:Bar) (k a b:Int) (need:List Int) (hD:fewL s.Drinkers) (hM:s.Mail.length≤900000) (hn:need.length≤5000):Ztl s ⟨k,a,b,need⟩=some (Znn s k a b need):=by
 have e:Zc4 8 ([]:List Int) need=some need:=by rw [Zh6 _ _ (by omega) (by simp;omega)];rfl
 simp only [Ztl,Znn,e,Option.bind_some,s_bOpen s a need hD hM hn,s_bClose s a hD hM,Zmn s a b hD hM]
 by_cases h0:k=0
 ·simp [h0]
 ·by_cases h1:k=1
  ·simp [h1]
  ·simp [h0,h1]
theorem s_own13 (d:Diner) (h:d.Sides.length≤1000000):Zvl d=some d:=by
 simp only [Zvl]
 rw [Zh6 _ _ (by omega) (by simp;omega)];rfl
theorem s_own16 (s:Bar) (hD:fewL s.Drinkers) (hM:s.Mail.length≤900000):Z2m s=some s:=by
 simp only [Z2m]
 rw [Zh6 _ _ (by omega) (by simp;omega),Option.bind_some,List.nil_append]
 refine Zs8 s.Drinkers (Z1m s s.Mail) (fun pre=>((pre.length:Int),pre)) s (fun pre x post h=>?_) ?_
 ·have hx:=Zt8 h
  have hm:=Zu8 h
  have h1:=hD.1
  obtain ⟨h2,h3⟩:=hD.2 x (Zv8 h)
  have e:Zxl x=some x:=by
   simp only [Zxl,s_own13 _ (show x.Diner.Sides.length≤1000000 by omega),Option.bind_some]
   rw [Zh6 _ _ (by omega) (by simp;omega)];rfl
  dsimp only [Z1m]
  rw [Zi6 hx,Zc6,Zg6 hx,Option.bind_some,e,Option.bind_some,Zh6 _ _ (by omega) (by simp;omega),Option.bind_some,Zk6 (by omega),Zy8]
 ·dsimp only [Z1m]
  rw [Zj6,Zd6];rfl
def whoL (l:List Drinker) (t:Int):List Int:=(l.filter fun d=>decide (d.Thirst=t)).map (·.Diner.ID)
theorem whoL_len (l:List Drinker) (t:Int):(whoL l t).length≤l.length:=by
 unfold whoL;rw [List.length_map];exact List.length_filter_le _ _
theorem s_Who (s:Bar) (t:Int) (hD:fewL s.Drinkers):Z8m s t=some (whoL s.Drinkers t):=by
 unfold Z8m
 refine Zs8 s.Drinkers (Z7m s t) (fun pre=>((pre.length:Int),whoL pre t)) _ (fun pre d post h=>?_) ?_
 ·have hx:=Zt8 h
  have hm:=Zu8 h
  have:=hD.1
  have hl:=whoL_len pre t
  have e:whoL (pre++[d]) t=if d.Thirst=t then whoL pre t++[d.Diner.ID] else whoL pre t:=by
   unfold whoL
   by_cases hp:d.Thirst=t<;>simp [hp]
  dsimp only [Z7m]
  rw [Zi6 hx,Zc6,Zg6 hx,Option.bind_some,e,Zy8]
  by_cases hp:d.Thirst=t
  ·rw [decide_eq_true hp,Zc6,Zh6 _ _ (by omega) (by simp only [List.length_singleton];omega),Option.bind_some,if_pos hp]
   dsimp only [Z6m];rw [Zk6 (by omega)]
  ·rw [decide_eq_false hp,Zd6,if_neg hp]
   dsimp only [Z6m];rw [Zk6 (by omega)]
 ·dsimp only [Z7m]
  rw [Zj6,Zd6];rfl
def Zon (x:Side) (k:Int):Bool:=if k=4 then x.Ask else x.Bottle
def Zpn (s:Bar) (e:Edge) (k:Int):Nat:=
 if k=3∨k=4 then
  (if Zcn s e.A&&Zcn s e.B then
    match s.Drinkers[e.A.toNat]?,s.Drinkers[e.B.toNat]? with
    | some da,some db=>match Z59 da.Diner e.B,Z59 db.Diner e.A with
      | some x,some y=>if x.Epoch=y.Epoch then bn (Zon x k)+bn (Zon y k)+Zhk s.Mail e k x.Epoch else 0
      | _,_=>0
    | _,_=>0
  else 0)
 else countS (scB s) e k
theorem s_bCount (s:Bar) (e:Edge) (k:Int) (hD:fewL s.Drinkers) (hM:s.Mail.length≤900000):Zpm s e k=some (Zpn s e k:Int):=by
 have j1:(k=3∨k=4)→Zom s e k false=some (Zpn s e k:Int):=fun hk=>by
  unfold Zpn
  rw [if_pos hk]
  dsimp only [Zom]
  rw [Zd6,Zdn,Option.bind_some]
  cases ha:Zcn s e.A with
  | false=>rfl
  | true=>
    rw [Bool.not_true,Zd6,Zdn,Option.bind_some]
    cases hb:Zcn s e.B with
    | false=>rfl
    | true=>
      obtain ⟨da,a1,a2⟩:=Zfn ha
      obtain ⟨db,b1,b2⟩:=Zfn hb
      have la:=(hD.2 da (List.mem_iff_getElem?.2 ⟨_,a2⟩)).1
      have lb:=(hD.2 db (List.mem_iff_getElem?.2 ⟨_,b2⟩)).1
      dsimp only [Znm,Zmm]
      rw [Bool.not_true,Zd6,a1,Option.bind_some,s_Side da.Diner e.B (by omega),Option.bind_some,b1,Option.bind_some,s_Side db.Diner e.A (by omega),Option.bind_some,Bool.and_self,if_pos rfl,a2,b2]
      dsimp only
      cases hx:Z59 da.Diner e.B with
      | none=>rfl
      | some x=>
        cases hy:Z59 db.Diner e.A with
        | none=>rfl
        | some y=>
          show Zlm s e k true x (true,y)=some ((if x.Epoch=y.Epoch then bn (Zon x k)+bn (Zon y k)+Zhk s.Mail e k x.Epoch else 0:Nat):Int)
          dsimp only [Zlm]
          rw [Bool.not_true,Zd6,Zd6]
          by_cases he:x.Epoch=y.Epoch
          ·rw [decide_eq_true he,Bool.not_true,if_pos he]
           dsimp only [Zkm]
           rw [Zd6]
           have j7:∀n:Nat,n≤2→Zgm s e k x (n:Int)=some ((n+Zhk s.Mail e k x.Epoch:Nat):Int):=fun n hn=>by
            dsimp only [Zgm]
            refine Zs8 s.Mail (Zfm s e k x) (fun pre=>(((n+Zhk pre e k x.Epoch:Nat):Int),(pre.length:Int))) ((n+Zhk s.Mail e k x.Epoch:Nat):Int) (fun pre m post h=>?_) ?_
            ·have hx:=Zt8 h
             have hm:=Zu8 h
             have hc:=Zjk pre e k x.Epoch
             dsimp only [Zfm]
             rw [Zi6 hx,Zc6,Zg6 hx,Option.bind_some,Zik,Zy8]
             have step:∀z,Zem ((n+Zhk pre e k x.Epoch:Nat):Int) (pre.length:Int) z=some (.inl (((n+(Zhk pre e k x.Epoch+bn z):Nat):Int),((pre.length+1:Nat):Int))):=fun z=>by
              cases z with
              | true=>dsimp only [Zem,Zdm];rw [Zc6,Zk6 (by omega),Zk6 (by omega)];rfl
              | false=>dsimp only [Zem,Zdm];rw [Zd6,Zk6 (by omega)];rfl
             unfold mailB
             simp only [step]
             cases decide (m.Msg.Kind=k)<;>cases decide (m.Msg.Epoch=x.Epoch)<;>cases decide (min m.From m.To=min e.A e.B)<;>rfl
            ·dsimp only [Zfm]
             rw [Zj6,Zd6];rfl
           have j6:∀p q:Bool,Zjm s e k x (p,q)=some ((bn p+bn q+Zhk s.Mail e k x.Epoch:Nat):Int):=fun p q=>by
            have ef:(([p,q].countP id:Nat):Int)=((bn p+bn q:Nat):Int):=by cases p<;>cases q<;>rfl
            dsimp only [Zjm]
            have n2:bn p+bn q≤2:=by cases p<;>cases q<;>decide
            have hj:=j7 (bn p+bn q) n2
            have:=Zr8 [p,q] (Zim s e k x p q) (fun pre=>(((pre.countP id:Nat):Int),(pre.length:Int))) (fun _ _=>Zgm s e k x (([p,q].countP id:Nat):Int)) (fun pre z post h=>.inl ⟨by
             have hx:=Zt8 h
             have hm:=Zu8 h
             have h2:pre.length<2:=hm
             have hc:pre.countP id≤pre.length:=List.countP_le_length
             dsimp only [Zim]
             rw [decide_eq_true (by omega),Zc6,Zg6 hx,Option.bind_some,Zy8,List.countP_append,List.countP_cons,List.countP_nil]
             cases z with
             | true=>dsimp only [Zhm];rw [Zc6,Zk6 (by omega),Zk6 (by omega)];rfl
             | false=>dsimp only [Zhm];rw [Zd6,Zk6 (by omega)];rfl,rfl⟩) (by
             dsimp only [Zim]
             rw [show decide ((([p,q]:List Bool).length:Int)<2)=false from rfl,Zd6])
            rw [ef,hj] at this
            exact this
           unfold Zon
           by_cases k4:k=4
           ·rw [decide_eq_true k4,Zc6,j6,if_pos k4,if_pos k4]
           ·rw [decide_eq_false k4,Zd6,j6,if_neg k4,if_neg k4]
          ·rw [decide_eq_false he,Bool.not_false,if_neg he];rfl
 simp only [Zpm]
 by_cases k3:k=3
 ·rw [decide_eq_true k3,Bool.not_true,Zd6];exact j1 (.inl k3)
 ·rw [decide_eq_false k3,Bool.not_false,Zc6]
  by_cases k4:k=4
  ·rw [decide_eq_true k4,Bool.not_true];exact j1 (.inr k4)
  ·rw [decide_eq_false k4,Bool.not_false]
   dsimp only [Zom]
   rw [Zc6,s_Scene s hD (by omega),Option.bind_some,s_Count (scB s) e k (fewL_D hD) hM,Option.bind_some]
   unfold Zpn
   rw [if_neg (by omega)]
theorem s_EqualMail (l m:List Mail) (hl:l.length≤1000000):Z3n l m=some (decide (l=m)):=by
 simp only [Z3n,Z39]
 by_cases h:l.length=m.length
 ·simp only [h,decide_true,Bool.not_true,Zd6]
  rw [Z09 l m _ (fun x y=>decide (x=y)) h (by omega) (fun k x y hx hy=>by
   simp only [Z2n,Zi6 hx,Zc6,Zg6 hx,Zg6 hy,Option.bind_some,Mail_eqB,Zl6 hx (show l.length≤4000000000000000000 by omega),Ze6]
   cases decide (x=y)<;>rfl) (by simp only [Z2n,Zj6,Zd6,Z1n,Option.map_some]),Z19 l m h]
 ·simp [h,Z29 h]
theorem s_bSame (s t:Bar) (hD:fewL s.Drinkers) (hM:s.Mail.length≤900000):Z6n s t=some (decide (s=t)):=by
 obtain ⟨l,m⟩:=s
 obtain ⟨l',m'⟩:=t
 simp only at hD hM
 have h5:=hD.1
 have e1:Zym l l' (fun z=>Z5c z.1 z.2)=some (decide (l=l')):=by
  simp only [Zym,Z39]
  by_cases h:l.length=l'.length
  ·simp only [h,decide_true,Bool.not_true,Zd6]
   rw [Z09 l l' _ (fun x y=>decide (x=y)) h (by omega) (fun k x y hx hy=>by
    have hxm:=hD.2 x (List.mem_iff_getElem?.2 ⟨_,hx⟩)
    simp only [Zxm,Zi6 hx,Zc6,Zg6 hx,Zg6 hy,Option.bind_some,s_drSame x y (show x.Diner.Sides.length≤1000000 by omega) (show x.Need.length≤1000000 by omega),Zl6 hx (show l.length≤4000000000000000000 by omega),Ze6,Option.map_some]
    cases decide (x=y)<;>rfl) (by simp only [Zxm,Zj6,Zd6,Zwm,Option.map_some]),Z19 l l' h]
  ·simp [h,Z29 h]
 simp only [Z6n,Z5n,e1,s_EqualMail m m' (show m.length≤1000000 by omega),Option.bind_some,Bar.mk.injEq]
 by_cases h1:l=l'<;>by_cases h2:m=m'<;>simp [h1,h2]
def barT (g:Graph):Bar:=⟨(Zij g).Diners.map fun d=>⟨d,0,[]⟩,[]⟩
theorem s_bNew (g:Graph):Zum g=some (if okG g then (barT g,0) else (bar0,30)):=by
 simp only [Zum,s_New,Option.bind_some]
 cases hg:okG g with
 | false=>rfl
 | true=>
   have hl:(Zij g).Diners.length≤64:=by
    have:=Z4g hg (Zgj g)
    have:=(Z28 hg).2.1
    show (Z6f g (Zgj g)).length≤64
    omega
   rw [if_pos rfl,show decide ((0:Int)=0)=true from rfl,Bool.not_true,Zd6,if_pos rfl]
   refine Zs8 (Zij g).Diners (Ztm (Zij g,0)) (fun pre=>((pre.length:Int),pre.map fun d=>(⟨d,0,[]⟩:Drinker))) (barT g,0) (fun pre x post h=>?_) ?_
   ·have hx:=Zt8 h
    have hm:=Zu8 h
    dsimp only [Ztm]
    rw [Zi6 hx,Zc6,Zg6 hx,Option.bind_some,Zh6 _ _ (by omega) (by simp;omega),Option.bind_some,Zk6 (by omega),Zy8]
    simp
   ·dsimp only [Ztm]
    rw [Zj6,Zd6];rfl
set_option maxRecDepth 100000
set_option maxHeartbeats 4000000
def e11:EC:=.seq (.reg [(Qa 0 (.mv (.c .ff)))]) (.seq (.reg [(Qa 13 (.build [.iv 0,.iv 0] [(0,1,(.c (.iv 0))),(1,1,(.c (.iv 1)))])),(Qa 14 (.bsl 30 2 1 [.iv 0,.iv 0] [(0,(.t 13))])),(Qa 15 (.build [.iv 0,.nl] [(0,1,(.c (.iv 2))),(1,1,(.t 14))])),(Qa 16 (.call 40 [(.t 15)])),(Qa 12 (.mv (.t 16))),(Qa 17 (.ext (.t 12) 0)),(Qa 18 (.ext (.t 12) 1)),(Qa 1 (.alloc 25 [.nl,.nl])),(Qb (.store 2 (.t 1) (.t 17))),(Qa 2 (.mv (.t 18)))]) (.seq (.reg [(Qa 20 (.loadA 2 (.t 1))),(Qa 21 (.call 38 [(.t 20),(.c (.iv 0)),(.c .nl)])),(Qa 19 (.mv (.t 21))),(Qa 22 (.ext (.t 19) 0)),(Qa 23 (.ext (.t 19) 1)),(Qa 3 (.alloc 25 [.nl,.nl])),(Qb (.store 2 (.t 3) (.t 22))),(Qa 4 (.mv (.t 23)))]) (.seq (.reg [(Qa 25 (.loadA 2 (.t 3))),(Qa 26 (.call 38 [(.t 25),(.c (.iv 1)),(.c .nl)])),(Qa 24 (.mv (.t 26))),(Qa 27 (.ext (.t 24) 0)),(Qa 28 (.ext (.t 24) 1)),(Qb (.store 2 (.t 3) (.t 27))),(Qa 5 (.mv (.t 28)))]) (.seq (.seq (.reg [(Qa 29 (.mv (.t 2))),(Qa 30 (.bin .neq (.t 29) (.c (.iv 0)))),(Qa 31 (.mv (.t 30))),(Qg 32 31 false (.mv (.t 4))),(Qg 33 31 false (.bin .neq (.t 32) (.c (.iv 0)))),(Qa 34 (.pick (.t 31) (.c .tt) (.t 33))),(Qa 35 (.mv (.t 34))),(Qg 36 35 false (.mv (.t 5))),(Qg 37 35 false (.bin .neq (.t 36) (.c (.iv 0)))),(Qa 38 (.pick (.t 35) (.c .tt) (.t 37)))]) (.ite (.t 38) (.seq (.reg [(Qa 0 (.mv (.c .ff)))]) (.ret)) (.skip))) (.seq (.reg [(Qa 40 (.loadA 2 (.t 1))),(Qa 41 (.bsl 3 1 1 [.iv 0] [(0,(.c (.iv 1)))])),(Qa 42 (.call 38 [(.t 40),(.c (.iv 0)),(.t 41)])),(Qa 39 (.mv (.t 42))),(Qa 43 (.ext (.t 39) 0)),(Qa 44 (.ext (.t 39) 1)),(Qa 6 (.alloc 25 [.nl,.nl])),(Qb (.store 2 (.t 6) (.t 43))),(Qa 7 (.mv (.t 44)))]) (.seq (.reg [(Qa 46 (.loadA 2 (.t 3))),(Qa 47 (.call 36 [(.t 46),(.c (.iv 0))])),(Qa 45 (.mv (.t 47))),(Qa 48 (.ext (.t 45) 0)),(Qa 49 (.ext (.t 45) 1)),(Qa 8 (.alloc 25 [.nl,.nl])),(Qb (.store 2 (.t 8) (.t 48))),(Qa 9 (.mv (.t 49)))]) (.seq (.reg [(Qa 51 (.loadA 2 (.t 1))),(Qa 52 (.call 48 [(.t 51),(.c (.iv 0)),(.c (.iv 1))])),(Qa 50 (.mv (.t 52))),(Qa 53 (.ext (.t 50) 0)),(Qa 54 (.ext (.t 50) 1)),(Qa 10 (.alloc 25 [.nl,.nl])),(Qb (.store 2 (.t 10) (.t 53))),(Qa 11 (.mv (.t 54)))]) (.seq (.reg [(Qa 55 (.loadA 2 (.t 3))),(Qa 56 (.call 22 [(.t 55),(.c (.iv 2))])),(Qa 57 (.len (.t 56))),(Qa 58 (.bin .eql (.t 57) (.c (.iv 2)))),(Qa 59 (.mv (.t 58))),(Qg 60 59 true (.mv (.t 7))),(Qg 61 59 true (.bin .eql (.t 60) (.c (.iv 0)))),(Qa 62 (.pick (.t 59) (.t 61) (.c .ff))),(Qa 63 (.mv (.t 62))),(Qg 64 63 true (.loadA 2 (.t 6))),(Qg 65 63 true (.call 22 [(.t 64),(.c (.iv 0))])),(Qg 66 63 true (.len (.t 65))),(Qg 67 63 true (.bin .eql (.t 66) (.c (.iv 1)))),(Qa 68 (.pick (.t 63) (.t 67) (.c .ff))),(Qa 69 (.mv (.t 68))),(Qg 70 69 true (.mv (.t 9))),(Qg 71 69 true (.bin .eql (.t 70) (.c (.iv 0)))),(Qa 72 (.pick (.t 69) (.t 71) (.c .ff))),(Qa 73 (.mv (.t 72))),(Qg 74 73 true (.loadA 2 (.t 8))),(Qg 75 73 true (.call 22 [(.t 74),(.c (.iv 2))])),(Qg 76 73 true (.len (.t 75))),(Qg 77 73 true (.bin .eql (.t 76) (.c (.iv 1)))),(Qa 78 (.pick (.t 73) (.t 77) (.c .ff))),(Qa 79 (.mv (.t 78))),(Qg 80 79 true (.mv (.t 11))),(Qg 81 79 true (.bin .eql (.t 80) (.c (.iv 162)))),(Qa 82 (.pick (.t 79) (.t 81) (.c .ff))),(Qa 83 (.mv (.t 82))),(Qg 84 83 true (.loadA 2 (.t 1))),(Qg 85 83 true (.call 17 [(.t 84)])),(Qg 86 83 true (.bin .eql (.t 85) (.c (.iv 0)))),(Qa 87 (.pick (.t 83) (.t 86) (.c .ff))),(Qa 88 (.mv (.t 87))),(Qg 89 88 true (.loadA 2 (.t 1))),(Qg 90 88 true (.build [.iv 0,.iv 0] [(0,1,(.c (.iv 0))),(1,1,(.c (.iv 1)))])),(Qg 91 88 true (.call 19 [(.t 89),(.t 90),(.c (.iv 3))])),(Qg 92 88 true (.bin .eql (.t 91) (.c (.iv 1)))),(Qa 93 (.pick (.t 88) (.t 92) (.c .ff))),(Qa 94 (.mv (.t 93))),(Qg 95 94 true (.loadA 2 (.t 1))),(Qg 96 94 true (.loadA 2 (.t 1))),(Qg 97 94 true (.call 24 [(.t 95),(.t 96)])),(Qa 98 (.pick (.t 94) (.t 97) (.c .ff))),(Qa 99 (.mv (.t 98))),(Qg 100 99 true (.loadA 2 (.t 1))),(Qg 101 99 true (.loadA 2 (.t 3))),(Qg 102 99 true (.call 24 [(.t 100),(.t 101)])),(Qg 103 99 true (.not (.t 102))),(Qa 104 (.pick (.t 99) (.t 103) (.c .ff))),(Qa 105 (.mv (.t 104))),(Qg 106 105 true (.loadA 2 (.t 1))),(Qg 107 105 true (.call 26 [(.t 106)])),(Qg 108 105 true (.field 0 none (.t 107))),(Qg 109 105 true (.len (.t 108))),(Qg 110 105 true (.bin .eql (.t 109) (.c (.iv 2)))),(Qa 111 (.pick (.t 105) (.t 110) (.c .ff))),(Qa 0 (.mv (.t 111)))]) (.ret)))))))))
theorem ok11:FnOK Tryz.prog 11 Tryz.f11 e11 [.t 0] 0 112:=⟨by kernel_rfl,⟨_,rfl,by kernel_rfl⟩,by kernel_rfl,by kernel_rfl⟩
noncomputable def Zqn:Bool→Option Bool
| x16=>
 some x16
noncomputable def Zrn (x1:(Bar×Int)) (x3:(Bar×Int)):Bool→Option Bool
| x4=>
 ifb x4 (
 some false) (
 (Zgl x1.1 0 ([1])).bind fun x5=>
 (Zil x3.1 0).bind fun x6=>
 (Zrl x1.1 0 1).bind fun x7=>
 (Z8m x3.1 2).bind fun x8=>
 ifb (decide ((ln Z05 x8)=2)) (
 ifb (decide (x5.2=0)) (
 (Z8m x5.1 0).bind fun x9=>
 ifb (decide ((ln Z05 x9)=1)) (
 ifb (decide (x6.2=0)) (
 (Z8m x6.1 2).bind fun x10=>
 ifb (decide ((ln Z05 x10)=1)) (
 ifb (decide (x7.2=162)) (
 (Z4l x1.1).bind fun x11=>
 ifb (decide (x11=0)) (
 (Zpm x1.1 ((Edge.mk 0 1)) 3).bind fun x12=>
 ifb (decide (x12=1)) (
 (Z6n x1.1 x1.1).bind fun x13=>
 ifb x13 (
 (Z6n x1.1 x3.1).bind fun x14=>
 ifb (!x14) (
 (Zuk x1.1).bind fun x15=>
 Zqn (decide ((ln Diner.row x15.Diners)=2))) (
 Zqn false)) (
 Zqn false)) (
 Zqn false)) (
 Zqn false)) (
 Zqn false)) (
 Zqn false)) (
 Zqn false)) (
 Zqn false)) (
 Zqn false)) (
 Zqn false))
noncomputable def Zsn:Option Bool:=
 (Zum ((Graph.mk 2 ([(Edge.mk 0 1)])))).bind fun x1=>
 (Zgl x1.1 0 (([]:(List Int)))).bind fun x2=>
 (Zgl x2.1 1 (([]:(List Int)))).bind fun x3=>
 ifb (!decide (x1.2=0)) (
 (Zrn x1 x3) true) (
 ifb (!decide (x2.2=0)) (
 (Zrn x1 x3) true) (
 (Zrn x1 x3) (!decide (x3.2=0))))
theorem Ztn (r:Bool) (h:Zsn=some r):Zq2 Tryz.prog 11 [] (.bv r):=by
 refine Zu2 ok11 rfl rfl fun w0 H0=>?_
 rw [Zsn] at h
 refine Zl2 9 ?_;dsimp only [e11,go_sem];refine ⟨by simp,?_⟩;refine Z83 0 rfl ?_;dsimp only [go_sem];obtain ⟨x1,ex1,h⟩:=Option.bind_eq_some_iff.1 h;refine Zz2 trivial (k_bar_New ((Graph.mk 2 ([(Edge.mk 0 1)]))) _ ex1) (h:=?_);refine Zl2 10 ?_;dsimp only [e11,go_sem];refine ⟨by simp,?_⟩;obtain ⟨x2,ex2,h⟩:=Option.bind_eq_some_iff.1 h;refine Zz2 trivial (Zhl x1.1 0 (([]:(List Int))) _ ex2) (h:=?_);refine Zl2 10 ?_;dsimp only [e11,go_sem];refine ⟨by simp,?_⟩;obtain ⟨x3,ex3,h⟩:=Option.bind_eq_some_iff.1 h
 refine Zz2 trivial (Zhl x2.1 1 (([]:(List Int))) _ ex3) (h:=?_);refine Zl2 12 ?_;dsimp only [e11,go_sem];refine ⟨by simp,?_⟩;refine Zi4 (fun (x4:Bool)=>(⟨(.any :: .ptr 0 0 :: .any :: .ptr 1 0::an 34 (.bv x4::an 73 [])),[some ⟨25,[.sl 5 (List.map Drinker.row x1.1.Drinkers),.sl 5 (List.map Mail.row x1.1.Mail)]⟩,some ⟨25,[.sl 5 (List.map Drinker.row x3.1.Drinkers),.sl 5 (List.map Mail.row x3.1.Mail)]⟩],[]⟩:St)) (Zrn x1 x3) r ?_ fun J1=>?_
 ·intro x4 h;rw [Zrn] at h;(try dsimp only);refine Zk4 h rfl (fun _ h=>?_) fun _ h=>?_
  ·refine Zl2 4 ?_;dsimp only [e11,go_sem];refine ⟨by simp,?_⟩;exact Zt4 (res:=fun (r:Bool)=>.bv r) ok11 h
  ·refine Zl2 5 ?_;dsimp only [e11,go_sem];refine ⟨by simp,?_⟩;refine Z83 0 rfl ?_;dsimp only [go_sem];obtain ⟨x5,ex5,h⟩:=Option.bind_eq_some_iff.1 h;refine Zz2 trivial (Zhl x1.1 0 ([1]) _ ex5) (h:=?_);refine Zl2 10 ?_;dsimp only [e11,go_sem];refine ⟨by simp,?_⟩;obtain ⟨x6,ex6,h⟩:=Option.bind_eq_some_iff.1 h;refine Zz2 trivial (Zjl x3.1 0 _ ex6) (h:=?_);refine Zl2 10 ?_;dsimp only [e11,go_sem];refine ⟨by simp,?_⟩;obtain ⟨x7,ex7,h⟩:=Option.bind_eq_some_iff.1 h;refine Zz2 trivial (Zsl x1.1 0 1 _ ex7) (h:=?_)
   refine Zl2 10 ?_;dsimp only [e11,go_sem];refine ⟨by simp,?_⟩;obtain ⟨x8,ex8,h⟩:=Option.bind_eq_some_iff.1 h;refine Zz2 trivial (Z9m x3.1 2 _ ex8) (h:=?_);refine Zl2 3 ?_;dsimp only [e11,go_sem];refine ⟨by simp,?_⟩;refine Zi4 (fun (x16:Bool)=>(⟨(.bv x16::an 111 []),[],[]⟩:St)) Zqn r ?_ fun J2=>?_
   ·intro x16 h;rw [Zqn] at h;(try dsimp only);exact Zt4 (res:=fun (r:Bool)=>.bv r) ok11 h
   ·refine Zs4 59 h rfl (fun _ h=>?_) fun _ h=>?_
    ·dsimp only [go_sem];refine Zl2 4 ?_;dsimp only [e11,go_sem];refine ⟨by simp,?_⟩;refine Zs4 63 h rfl (fun _ h=>?_) fun _ h=>?_
     ·dsimp only [go_sem];refine Zl2 1 ?_;dsimp only [e11,go_sem];refine ⟨by simp,?_⟩;obtain ⟨x9,ex9,h⟩:=Option.bind_eq_some_iff.1 h;refine Zz2 trivial (Z9m x5.1 0 _ ex9) (h:=?_);refine Zl2 4 ?_;dsimp only [e11,go_sem];refine ⟨by simp,?_⟩;refine Zs4 69 h rfl (fun _ h=>?_) fun _ h=>?_
      ·dsimp only [go_sem];refine Zl2 4 ?_;dsimp only [e11,go_sem];refine ⟨by simp,?_⟩;refine Zs4 73 h rfl (fun _ h=>?_) fun _ h=>?_
       ·dsimp only [go_sem];refine Zl2 1 ?_;dsimp only [e11,go_sem];refine ⟨by simp,?_⟩;obtain ⟨x10,ex10,h⟩:=Option.bind_eq_some_iff.1 h;refine Zz2 trivial (Z9m x6.1 2 _ ex10) (h:=?_);refine Zl2 4 ?_;dsimp only [e11,go_sem];refine ⟨by simp,?_⟩;refine Zs4 79 h rfl (fun _ h=>?_) fun _ h=>?_
        ·dsimp only [go_sem];refine Zl2 4 ?_;dsimp only [e11,go_sem];refine ⟨by simp,?_⟩;refine Zs4 83 h rfl (fun _ h=>?_) fun _ h=>?_
         ·dsimp only [go_sem];refine Zl2 1 ?_;dsimp only [e11,go_sem];refine ⟨by simp,?_⟩;obtain ⟨x11,ex11,h⟩:=Option.bind_eq_some_iff.1 h;refine Zz2 trivial (Z5l x1.1 _ ex11) (h:=?_);refine Zl2 3 ?_;dsimp only [e11,go_sem];refine ⟨by simp,?_⟩;refine Zs4 88 h rfl (fun _ h=>?_) fun _ h=>?_
          ·dsimp only [go_sem];refine Zl2 2 ?_;dsimp only [e11,go_sem];refine ⟨by simp,?_⟩;obtain ⟨x12,ex12,h⟩:=Option.bind_eq_some_iff.1 h;refine Zz2 trivial (Zqm x1.1 ((Edge.mk 0 1)) 3 _ ex12) (h:=?_);refine Zl2 3 ?_;dsimp only [e11,go_sem];refine ⟨by simp,?_⟩;refine Zs4 94 h rfl (fun _ h=>?_) fun _ h=>?_
           ·dsimp only [go_sem];refine Zl2 2 ?_;dsimp only [e11,go_sem];refine ⟨by simp,?_⟩;obtain ⟨x13,ex13,h⟩:=Option.bind_eq_some_iff.1 h;refine Zz2 trivial (Z7n x1.1 x1.1 _ ex13) (h:=?_);refine Zl2 2 ?_;dsimp only [e11,go_sem];refine ⟨by simp,?_⟩;refine Zs4 99 h rfl (fun _ h=>?_) fun _ h=>?_
            ·dsimp only [go_sem];refine Zl2 2 ?_;dsimp only [e11,go_sem];refine ⟨by simp,?_⟩;obtain ⟨x14,ex14,h⟩:=Option.bind_eq_some_iff.1 h;refine Zz2 trivial (Z7n x1.1 x3.1 _ ex14) (h:=?_);refine Zl2 3 ?_;dsimp only [e11,go_sem];refine ⟨by simp,?_⟩;refine Zs4 105 h rfl (fun _ h=>?_) fun _ h=>?_
             ·dsimp only [go_sem];refine Zl2 1 ?_;dsimp only [e11,go_sem];refine ⟨by simp,?_⟩;obtain ⟨x15,ex15,h⟩:=Option.bind_eq_some_iff.1 h;refine Zz2 trivial (Zvk x1.1 _ ex15) (h:=?_);refine Zl2 6 ?_;dsimp only [e11,go_sem];refine ⟨by simp,?_⟩;exact Zv4 J2 (s:=decide ((ln Diner.row x15.Diners)=2)) h
             ·dsimp only [go_sem];refine Zl2 8 ?_;dsimp only [e11,go_sem];refine ⟨by simp,?_⟩;exact Zv4 J2 (s:=false) h
            ·dsimp only [go_sem];refine Zl2 14 ?_;dsimp only [e11,go_sem];refine ⟨by simp,?_⟩;exact Zv4 J2 (s:=false) h
           ·dsimp only [go_sem];refine Zl2 19 ?_;dsimp only [e11,go_sem];refine ⟨by simp,?_⟩;exact Zv4 J2 (s:=false) h
          ·dsimp only [go_sem];refine Zl2 25 ?_;dsimp only [e11,go_sem];refine ⟨by simp,?_⟩;exact Zv4 J2 (s:=false) h
         ·dsimp only [go_sem];refine Zl2 30 ?_;dsimp only [e11,go_sem];refine ⟨by simp,?_⟩;exact Zv4 J2 (s:=false) h
        ·dsimp only [go_sem];refine Zl2 34 ?_;dsimp only [e11,go_sem];refine ⟨by simp,?_⟩;exact Zv4 J2 (s:=false) h
       ·dsimp only [go_sem];refine Zl2 40 ?_;dsimp only [e11,go_sem];refine ⟨by simp,?_⟩;exact Zv4 J2 (s:=false) h
      ·dsimp only [go_sem];refine Zl2 44 ?_;dsimp only [e11,go_sem];refine ⟨by simp,?_⟩;exact Zv4 J2 (s:=false) h
     ·dsimp only [go_sem];refine Zl2 50 ?_;dsimp only [e11,go_sem];refine ⟨by simp,?_⟩;exact Zv4 J2 (s:=false) h
    ·dsimp only [go_sem];refine Zl2 54 ?_;dsimp only [e11,go_sem];refine ⟨by simp,?_⟩;exact Zv4 J2 (s:=false) h
 ·refine Zs4 31 h rfl (fun _ h=>?_) fun _ h=>?_
  ·dsimp only [go_sem];refine Zl2 8 ?_;dsimp only [e11,go_sem];refine ⟨by simp,?_⟩;exact Zv4 J1 (s:=true) h
  ·dsimp only [go_sem];refine Zl2 4 ?_;dsimp only [e11,go_sem];refine ⟨by simp,?_⟩;refine Zs4 35 h rfl (fun _ h=>?_) fun _ h=>?_
   ·dsimp only [go_sem];refine Zl2 4 ?_;dsimp only [e11,go_sem];refine ⟨by simp,?_⟩;exact Zv4 J1 (s:=true) h
   ·dsimp only [go_sem];refine Zl2 4 ?_;dsimp only [e11,go_sem];refine ⟨by simp,?_⟩;exact Zv4 J1 (s:=!decide (x3.2=0)) h
set_option maxRecDepth 100000
set_option maxHeartbeats 4000000
def Zun:EC:=.seq (.seq (.reg [(Qa 11 (.mv (.t 5))),(Qa 12 (.mv (.t 0))),(Qa 13 (.len (.t 12))),(Qa 14 (.bin .lss (.t 11) (.t 13)))]) (.ite (.t 14) (.skip) (.exit 0))) (.seq (.blk 1 (.seq (.drw [(Qa 17 (.mv (.t 0))),(Qa 18 (.mv (.t 5))),(Qa 19 (.idx 1 (.t 17) (.t 18))),(Qa 20 (.load (.t 19))),(Qa 21 (.mv (.t 1))),(Qa 22 (.mv (.t 5))),(Qa 23 (.idx 1 (.t 21) (.t 22))),(Qa 24 (.load (.t 23))),(Qa 25 (.bin .neq (.t 20) (.t 24)))] [[],[],[0,1],[2],[],[],[4,5],[6],[3,7]] [[2],[2],[0,1,3],[2,8],[6],[6],[4,5,7],[6,8],[3,7]]) (.ite (.t 25) (.seq (.reg [(Qa 4 (.mv (.c .ff)))]) (.ret)) (.skip)))) (.reg [(Qa 15 (.mv (.t 5))),(Qa 16 (.bin .add (.t 15) (.c (.iv 1)))),(Qa 5 (.mv (.t 16)))]))
def e21:EC:=.seq (.reg [(Qa 4 (.mv (.c .ff)))]) (.seq (.seq (.reg [(Qa 6 (.mv (.t 0))),(Qa 7 (.len (.t 6))),(Qa 8 (.mv (.t 1))),(Qa 9 (.len (.t 8))),(Qa 10 (.bin .neq (.t 7) (.t 9)))]) (.ite (.t 10) (.seq (.reg [(Qa 4 (.mv (.c .ff)))]) (.ret)) (.skip))) (.seq (.seq (.reg [(Qa 5 (.mv (.c (.iv 0))))]) (.blk 0 (.loop Zun))) (.seq (.reg [(Qa 4 (.mv (.c .tt)))]) (.ret))))
theorem ok21:FnOK Tryz.prog 21 Tryz.f21 e21 [.t 4] 2 24:=⟨by kernel_rfl,⟨_,rfl,by kernel_rfl⟩,by kernel_rfl,by kernel_rfl⟩
noncomputable def Zvn:Unit→Option Bool
| ()=>
 some true
noncomputable def Zwn (x1:(List Int)) (x2:(List Int)):Int→Option (Int ⊕ Bool)
| x6=>
 ifb (decide (x6<(ln Z05 x1))) (
 (at_ x1 x6).bind fun x7=>
 (at_ x2 x6).bind fun x8=>
 ifb (!decide (x7=x8)) (
 Option.map Sum.inr (some false)) (
 some (.inl (wr (x6+1))))) (
 Option.map Sum.inr (Zvn ()))
noncomputable def Zxn (x1:(List Int)) (x2:(List Int)):Option Bool:=
 ifb (!decide ((ln Z05 x1)=(ln Z05 x2))) (
 some false) (
 loop (Zwn x1 x2) 0)
theorem Zyn (x1:(List Int)) (x2:(List Int)) (r:Bool) (h:Zxn x1 x2=some r):Zq2 Tryz.prog 21 [.sl 1 (List.map Z05 x1),.sl 1 (List.map Z05 x2)] (.bv r):=by
 refine Zu2 ok21 rfl rfl fun w0 H0=>?_
 rw [Zxn] at h
 refine Zl2 13 ?_;dsimp only [e21,Zun,go_sem];refine ⟨by simp,?_⟩;refine Zk4 h rfl (fun _ h=>?_) fun _ h=>?_
 ·refine Zl2 4 ?_;dsimp only [e21,Zun,go_sem];refine ⟨by simp,?_⟩;exact Zt4 (res:=fun (r:Bool)=>.bv r) ok21 h
 ·refine Zl2 6 ?_;dsimp only [e21,Zun,go_sem];refine ⟨by simp,?_⟩;refine Zi4 (fun (_:Unit)=>(⟨(an 26 []),[],[]⟩:St)) Zvn r ?_ fun J1=>?_
  ·rintro ⟨⟩ h;rw [Zvn] at h;(try dsimp only);refine Zl2 4 ?_;dsimp only [e21,Zun,go_sem];refine ⟨by simp,?_⟩;exact Zt4 (res:=fun (r:Bool)=>.bv r) ok21 h
  ·refine Zl2 1 ?_;dsimp only [e21,Zun,go_sem];refine ⟨by simp,?_⟩;refine Zj4 h (fun (x6:Int)=>(⟨(.sl 1 (List.map Z05 x1) :: .sl 1 (List.map Z05 x2)::an 3 (.iv x6::an 20 [])),[],[]⟩:St)) (by simp [go_sem]) (by intro x6;first | rfl | simp [go_sem]) ?_;rintro n1 x6 y1 h hin1 hout1;rw [Zwn] at h;(try dsimp only);refine Zl2 8 ?_;dsimp only [e21,Zun,go_sem];refine ⟨by simp,?_⟩;refine Zk4 h rfl (fun _ h=>?_) fun _ h=>?_
   ·refine Zl2 4 ?_;dsimp only [e21,Zun,go_sem];refine ⟨by simp,?_⟩;refine Zh3 (by kernel_rfl) fun all hall hs hnap haf=>?_;dsimp only [go_sem];refine Zf5 hall hs haf hnap 4 5 ?_;dsimp only [go_sem];refine ⟨by simp,?_⟩;obtain ⟨x7,ex7,h⟩:=Option.bind_eq_some_iff.1 h;refine Zo4 hall hs haf hnap 2 Z05 ex7 rfl rfl trivial rfl rfl rfl rfl ?_;refine Zf5 hall hs haf hnap 1 3 ?_;dsimp only [go_sem];refine ⟨by simp,?_⟩;obtain ⟨x8,ex8,h⟩:=Option.bind_eq_some_iff.1 h;refine Zo4 hall hs haf hnap 6 Z05 ex8 rfl rfl trivial rfl rfl rfl rfl ?_
    refine Zf5 hall hs haf hnap 2 0 ?_;dsimp only [go_sem];refine ⟨by simp,?_⟩;refine Zt3 rfl ?_ _;refine Zk4 h rfl (fun _ h=>?_) fun _ h=>?_
    ·refine Zl2 4 ?_;dsimp only [e21,Zun,go_sem];refine ⟨by simp,?_⟩;exact Zt4 (res:=fun (r:Bool)=>.bv r) ok21 (Zh4 h hout1)
    ·refine Zl2 7 ?_;dsimp only [e21,Zun,go_sem];refine ⟨by simp,?_⟩;exact Zu4 h hin1
   ·refine Zl2 1 ?_;dsimp only [e21,Zun,go_sem];refine ⟨by simp,?_⟩;exact Zv4 J1 (s:=()) (Zh4 h hout1)
set_option maxRecDepth 100000
set_option maxHeartbeats 4000000
def e44:EC:=.seq (.reg [(Qa 2 (.box 63 5 (.t 0))),(Qa 3 (.box 63 5 (.t 1))),(Qa 4 (.mv (.c .ff)))]) (.seq (.reg [(Qa 5 (.fld 0 (.t 2))),(Qa 6 (.loadA 3 (.t 5))),(Qa 7 (.fld 0 (.t 3))),(Qa 8 (.loadA 3 (.t 7))),(Qa 9 (.call 81 [(.t 6),(.t 8)])),(Qa 10 (.mv (.t 9))),(Qg 11 10 true (.fld 3 (.t 2))),(Qg 12 10 true (.load (.t 11))),(Qg 13 10 true (.fld 3 (.t 3))),(Qg 14 10 true (.load (.t 13))),(Qg 15 10 true (.bin .eql (.t 12) (.t 14))),(Qa 16 (.pick (.t 10) (.t 15) (.c .ff))),(Qa 17 (.mv (.t 16))),(Qg 18 17 true (.fld 4 (.t 2))),(Qg 19 17 true (.load (.t 18))),(Qg 20 17 true (.fld 4 (.t 3))),(Qg 21 17 true (.load (.t 20))),(Qg 22 17 true (.call 21 [(.t 19),(.t 21)])),(Qa 23 (.pick (.t 17) (.t 22) (.c .ff))),(Qa 4 (.mv (.t 23)))]) (.ret))
theorem ok44:FnOK Tryz.prog 44 Tryz.f44 e44 [.t 4] 2 22:=⟨by kernel_rfl,⟨_,rfl,by kernel_rfl⟩,by kernel_rfl,by kernel_rfl⟩
noncomputable def Zzn:Bool→Option Bool
| x5=>
 some x5
noncomputable def Z0o (x1:Drinker) (x2:Drinker):Option Bool:=
 (Za6 x1.Diner x2.Diner).bind fun x3=>
 ifb x3 (
 ifb (decide (x1.Thirst=x2.Thirst)) (
 (Zxn x1.Need x2.Need).bind fun x4=>
 Zzn x4) (
 Zzn false)) (
 Zzn false)
theorem Z1o (x1:Drinker) (x2:Drinker) (r:Bool) (h:Z0o x1 x2=some r):Zq2 Tryz.prog 44 [.agg (Drinker.row x1),.agg (Drinker.row x2)] (.bv r):=by
 refine Zu2 ok44 rfl rfl fun w0 H0=>?_
 rw [Z0o] at h
 refine Zl2 12 ?_;dsimp only [e44,go_sem];refine ⟨by simp,?_⟩;obtain ⟨x3,ex3,h⟩:=Option.bind_eq_some_iff.1 h;refine Zz2 trivial (Zb6 x1.Diner x2.Diner _ ex3) (h:=?_);refine Zl2 1 ?_;dsimp only [e44,go_sem];refine ⟨by simp,?_⟩;refine Zi4 (fun (x5:Bool)=>(⟨(an 4 (.bv x5::an 19 [])),[],[]⟩:St)) Zzn r ?_ fun J1=>?_
 ·intro x5 h;rw [Zzn] at h;(try dsimp only);exact Zt4 (res:=fun (r:Bool)=>.bv r) ok44 h
 ·refine Zs4 10 h rfl (fun _ h=>?_) fun _ h=>?_
  ·dsimp only [go_sem];refine Zl2 7 ?_;dsimp only [e44,go_sem];refine ⟨by simp,?_⟩;refine Zs4 17 h rfl (fun _ h=>?_) fun _ h=>?_
   ·dsimp only [go_sem];refine Zl2 4 ?_;dsimp only [e44,go_sem];refine ⟨by simp,?_⟩;obtain ⟨x4,ex4,h⟩:=Option.bind_eq_some_iff.1 h;refine Zz2 trivial (Zyn x1.Need x2.Need _ ex4) (h:=?_);refine Zl2 3 ?_;dsimp only [e44,go_sem];refine ⟨by simp,?_⟩;exact Zv4 J1 (s:=x4) h
   ·dsimp only [go_sem];refine Zl2 8 ?_;dsimp only [e44,go_sem];refine ⟨by simp,?_⟩;exact Zv4 J1 (s:=false) h
  ·dsimp only [go_sem];refine Zl2 15 ?_;dsimp only [e44,go_sem];refine ⟨by simp,?_⟩;exact Zv4 J1 (s:=false) h
set_option maxRecDepth 100000
set_option maxHeartbeats 4000000
def Z2o:EC:=.seq (.seq (.reg [(Qa 13 (.mv (.t 5))),(Qa 14 (.fld 0 (.t 2))),(Qa 15 (.load (.t 14))),(Qa 16 (.len (.t 15))),(Qa 17 (.bin .lss (.t 13) (.t 16)))]) (.ite (.t 17) (.skip) (.exit 0))) (.seq (.blk 1 (.seq (.drw [(Qa 20 (.fld 0 (.t 2))),(Qa 21 (.load (.t 20))),(Qa 22 (.mv (.t 5))),(Qa 23 (.idx 5 (.t 21) (.t 22))),(Qa 24 (.loadA 5 (.t 23))),(Qa 25 (.fld 0 (.t 3))),(Qa 26 (.load (.t 25))),(Qa 27 (.mv (.t 5))),(Qa 28 (.idx 5 (.t 26) (.t 27))),(Qa 29 (.loadA 5 (.t 28))),(Qa 30 (.call 44 [(.t 24),(.t 29)])),(Qa 31 (.not (.t 30)))] [[],[0],[],[1,2],[3],[],[5],[],[6,7],[8],[4,9],[10]] [[1],[0,3],[3],[1,2,4],[3,10],[6],[5,8],[8],[6,7,9],[8,10],[4,9,11],[10]]) (.ite (.t 31) (.seq (.reg [(Qa 4 (.mv (.c .ff)))]) (.ret)) (.skip)))) (.reg [(Qa 18 (.mv (.t 5))),(Qa 19 (.bin .add (.t 18) (.c (.iv 1)))),(Qa 5 (.mv (.t 19)))]))
def e16:EC:=.seq (.reg [(Qa 2 (.box 25 2 (.t 0))),(Qa 3 (.box 25 2 (.t 1))),(Qa 4 (.mv (.c .ff)))]) (.seq (.seq (.reg [(Qa 6 (.fld 0 (.t 2))),(Qa 7 (.load (.t 6))),(Qa 8 (.len (.t 7))),(Qa 9 (.fld 0 (.t 3))),(Qa 10 (.load (.t 9))),(Qa 11 (.len (.t 10))),(Qa 12 (.bin .neq (.t 8) (.t 11)))]) (.ite (.t 12) (.seq (.reg [(Qa 4 (.mv (.c .ff)))]) (.ret)) (.skip))) (.seq (.seq (.reg [(Qa 5 (.mv (.c (.iv 0))))]) (.blk 0 (.loop Z2o))) (.seq (.reg [(Qa 32 (.fld 1 (.t 2))),(Qa 33 (.load (.t 32))),(Qa 34 (.fld 1 (.t 3))),(Qa 35 (.load (.t 34))),(Qa 36 (.call 56 [(.t 33),(.t 35)])),(Qa 4 (.mv (.t 36)))]) (.ret))))
theorem ok16:FnOK Tryz.prog 16 Tryz.f16 e16 [.t 4] 2 35:=⟨by kernel_rfl,⟨_,rfl,by kernel_rfl⟩,by kernel_rfl,by kernel_rfl⟩
noncomputable def Z3o (x1:Bar) (x2:Bar):Unit→Option Bool
| ()=>
 (Zvi x1.Mail x2.Mail).bind fun x15=>
 some x15
noncomputable def Z4o (x1:Bar) (x2:Bar):Int→Option (Int ⊕ Bool)
| x7=>
 ifb (decide (x7<(ln Drinker.row x1.Drinkers))) (
 (at_ x1.Drinkers x7).bind fun x8=>
 (at_ x2.Drinkers x7).bind fun x9=>
 (Z0o x8 x9).bind fun x10=>
 ifb (!x10) (
 Option.map Sum.inr (some false)) (
 some (.inl (wr (x7+1))))) (
 Option.map Sum.inr ((Z3o x1 x2) ()))
noncomputable def Z5o (x1:Bar) (x2:Bar):Option Bool:=
 ifb (!decide ((ln Drinker.row x1.Drinkers)=(ln Drinker.row x2.Drinkers))) (
 some false) (
 loop (Z4o x1 x2) 0)
theorem k_narthexref16_Same (x1:Bar) (x2:Bar) (r:Bool) (h:Z5o x1 x2=some r):Zq2 Tryz.prog 16 [.agg (Bar.row x1),.agg (Bar.row x2)] (.bv r):=by
 refine Zu2 ok16 rfl rfl fun w0 H0=>?_
 rw [Z5o] at h
 refine Zl2 17 ?_;dsimp only [e16,Z2o,go_sem];refine ⟨by simp,?_⟩;refine Zk4 h rfl (fun _ h=>?_) fun _ h=>?_
 ·refine Zl2 4 ?_;dsimp only [e16,Z2o,go_sem];refine ⟨by simp,?_⟩;exact Zt4 (res:=fun (r:Bool)=>.bv r) ok16 h
 ·refine Zl2 6 ?_;dsimp only [e16,Z2o,go_sem];refine ⟨by simp,?_⟩;refine Zi4 (fun (_:Unit)=>(⟨(.any :: .any :: .ptr 0 0 :: .ptr 1 0::an 33 []),[some ⟨25,[.sl 5 (List.map Drinker.row x1.Drinkers),.sl 5 (List.map Mail.row x1.Mail)]⟩,some ⟨25,[.sl 5 (List.map Drinker.row x2.Drinkers),.sl 5 (List.map Mail.row x2.Mail)]⟩],[]⟩:St)) (Z3o x1 x2) r ?_ fun J1=>?_
  ·rintro ⟨⟩ h;rw [Z3o] at h;(try dsimp only);refine Zl2 6 ?_;dsimp only [e16,Z2o,go_sem];refine ⟨by simp,?_⟩;obtain ⟨x15,ex15,h⟩:=Option.bind_eq_some_iff.1 h;refine Zz2 trivial (Zwi x1.Mail x2.Mail _ ex15) (h:=?_);refine Zl2 2 ?_;dsimp only [e16,Z2o,go_sem];refine ⟨by simp,?_⟩;exact Zt4 (res:=fun (r:Bool)=>.bv r) ok16 h
  ·refine Zl2 1 ?_;dsimp only [e16,Z2o,go_sem];refine ⟨by simp,?_⟩;refine Zj4 h (fun (x7:Int)=>(⟨(.any :: .any :: .ptr 0 0 :: .ptr 1 0 :: .any :: .iv x7::an 31 []),[some ⟨25,[.sl 5 (List.map Drinker.row x1.Drinkers),.sl 5 (List.map Mail.row x1.Mail)]⟩,some ⟨25,[.sl 5 (List.map Drinker.row x2.Drinkers),.sl 5 (List.map Mail.row x2.Mail)]⟩],[]⟩:St)) (by simp [go_sem]) (by intro x7;first | rfl | simp [go_sem]) ?_;rintro n1 x7 y1 h hin1 hout1;rw [Z4o] at h;(try dsimp only);refine Zl2 9 ?_;dsimp only [e16,Z2o,go_sem];refine ⟨by simp,?_⟩
   refine Zk4 h rfl (fun _ h=>?_) fun _ h=>?_
   ·refine Zl2 4 ?_;dsimp only [e16,Z2o,go_sem];refine ⟨by simp,?_⟩;refine Zh3 (by kernel_rfl) fun all hall hs hnap haf=>?_;dsimp only [go_sem]
    refine Zg5 hall hs haf hnap 6 6 [true,true,true,false,false,true,true,true,false,false,false,false] (⟨(.any :: .any :: .ptr 0 0 :: .ptr 1 0 :: .any :: .iv x7::an 7 (.iv x7 :: .ptr 0 0 :: .sl 5 (List.map Drinker.row x1.Drinkers) :: .iv (ln Drinker.row x1.Drinkers) :: .bv (decide (x7<(ln Drinker.row x1.Drinkers))) :: .any :: .any :: .ptr 0 0 :: .sl 5 (List.map Drinker.row x1.Drinkers) :: .iv x7 :: .any :: .any :: .ptr 1 0 :: .sl 5 (List.map Drinker.row x2.Drinkers) :: .iv x7::an 9 [])),[some ⟨25,[.sl 5 (List.map Drinker.row x1.Drinkers),.sl 5 (List.map Mail.row x1.Mail)]⟩,some ⟨25,[.sl 5 (List.map Drinker.row x2.Drinkers),.sl 5 (List.map Mail.row x2.Mail)]⟩],[]⟩:St) (by kernel_rfl) ?_
    obtain ⟨x8,ex8,h⟩:=Option.bind_eq_some_iff.1 h;refine Zo4 hall hs haf hnap 3 Drinker.row ex8 rfl rfl trivial rfl rfl rfl rfl ?_;refine Zf5 hall hs haf hnap 1 4 ?_;dsimp only [go_sem];refine ⟨by simp,?_⟩;obtain ⟨x9,ex9,h⟩:=Option.bind_eq_some_iff.1 h;refine Zo4 hall hs haf hnap 8 Drinker.row ex9 rfl rfl trivial rfl rfl rfl rfl ?_;refine Zf5 hall hs haf hnap 1 2 ?_;dsimp only [go_sem];refine ⟨by simp,?_⟩;refine Zu3 10 rfl ?_;obtain ⟨x10,ex10,h⟩:=Option.bind_eq_some_iff.1 h;refine Z04 hall rfl trivial (Z1o x8 x9 _ ex10) (h:=?_)
    dsimp only [go_sem];refine Zf5 hall hs haf hnap 1 0 ?_;dsimp only [go_sem];refine ⟨by simp,?_⟩;refine Zt3 rfl ?_ _;refine Zk4 h rfl (fun _ h=>?_) fun _ h=>?_
    ·refine Zl2 4 ?_;dsimp only [e16,Z2o,go_sem];refine ⟨by simp,?_⟩;exact Zt4 (res:=fun (r:Bool)=>.bv r) ok16 (Zh4 h hout1)
    ·refine Zl2 7 ?_;dsimp only [e16,Z2o,go_sem];refine ⟨by simp,?_⟩;exact Zu4 h hin1
   ·refine Zl2 1 ?_;dsimp only [e16,Z2o,go_sem];refine ⟨by simp,?_⟩;exact Zv4 J1 (s:=()) (Zh4 h hout1)
set_option maxRecDepth 100000
set_option maxHeartbeats 4000000
def Z6o:EC:=.seq (.seq (.reg [(Qa 8 (.mv (.t 4))),(Qa 9 (.fld 0 (.t 1))),(Qa 10 (.load (.t 9))),(Qa 11 (.len (.t 10))),(Qa 12 (.bin .lss (.t 8) (.t 11)))]) (.ite (.t 12) (.skip) (.exit 0))) (.seq (.blk 1 (.drw [(Qa 15 (.fld 0 (.t 3))),(Qa 16 (.load (.t 15))),(Qa 17 (.fld 0 (.t 1))),(Qa 18 (.load (.t 17))),(Qa 19 (.mv (.t 4))),(Qa 20 (.idx 5 (.t 18) (.t 19))),(Qa 21 (.fld 0 (.t 20))),(Qa 22 (.loadA 3 (.t 21))),(Qa 23 (.bsl 61 3 1 [.iv 0,.iv 0,.nl] [(0,(.t 22))])),(Qa 24 (.app 61 3 40 (.t 16) (.t 23))),(Qa 25 (.fld 0 (.t 3))),(Qb (.store 1 (.t 25) (.t 24)))] [[],[0],[],[2],[],[3,4],[5],[6],[7],[1,8],[0,1,2,3,4,5,6,7,8,9],[10,9,9,0,1,2,3,4,5,6,7,8,9]] [[1],[0,9],[3],[2,5],[5],[3,4,6],[5,7],[6,8],[7,9],[1,8,11],[11],[9,10]])) (.reg [(Qa 13 (.mv (.t 4))),(Qa 14 (.bin .add (.t 13) (.c (.iv 1)))),(Qa 4 (.mv (.t 14)))]))
def e27:EC:=.seq (.reg [(Qa 1 (.box 25 2 (.t 0))),(Qa 2 (.alloc 48 [.nl,.nl]))]) (.seq (.reg [(Qa 5 (.fld 1 (.t 1))),(Qa 6 (.load (.t 5))),(Qa 7 (.build [.nl,.nl] [(1,1,(.t 6))])),(Qa 3 (.alloc 48 [.nl,.nl])),(Qb (.store 2 (.t 3) (.t 7)))]) (.seq (.seq (.reg [(Qa 4 (.mv (.c (.iv 0))))]) (.blk 0 (.loop Z6o))) (.seq (.reg [(Qa 26 (.loadA 2 (.t 3))),(Qb (.store 2 (.t 2) (.t 26)))]) (.ret))))
theorem ok27:FnOK Tryz.prog 27 Tryz.f27 e27 [.c 2 (some 2)] 1 26:=⟨by kernel_rfl,⟨_,rfl,by kernel_rfl⟩,by kernel_rfl,by kernel_rfl⟩
noncomputable def Z7o (x1:Bar):(List Diner)→Option Scene
| x20=>
 some (Scene.mk x20 x1.Mail)
noncomputable def Z8o (x1:Bar):(Int×(List Diner))→Option ((Int×(List Diner)) ⊕ Scene)
| (x6,x7)=>
 ifb (decide (x6<(ln Drinker.row x1.Drinkers))) (
 (at_ x1.Drinkers x6).bind fun x8=>
 (Zc4 40 x7 ([x8.Diner])).bind fun x9=>
 some (.inl (wr (x6+1),x9))) (
 Option.map Sum.inr ((Z7o x1) x7))
noncomputable def Z9o (x1:Bar):Option Scene:=
 loop (Z8o x1) (0,([]:List Diner))
theorem Zao (x1:Bar) (r:Scene) (h:Z9o x1=some r):Zq2 Tryz.prog 27 [.agg (Bar.row x1)] (.agg (Scene.row r)):=by
 refine Zu2 ok27 rfl rfl fun w0 H0=>?_
 rw [Z9o] at h
 refine Zl2 18 ?_;dsimp only [e27,Z6o,go_sem];refine ⟨by simp,?_⟩;refine Zi4 (fun (x20:(List Diner))=>(⟨(.any :: .any :: .ptr 1 0 :: .ptr 2 0::an 23 []),[none,some ⟨48,[.nl,.nl]⟩,some ⟨48,[.osl 0,.sl 5 (List.map Mail.row x1.Mail)]⟩],[some ⟨61,3,List.map Diner.row x20⟩]⟩:St)) (Z7o x1) r ?_ fun J1=>?_
 ·intro x20 h;rw [Z7o] at h;(try dsimp only);refine Zl2 5 ?_;dsimp only [e27,Z6o,go_sem];refine ⟨by simp,?_⟩;refine Z83 0 rfl ?_;dsimp only [go_sem];exact Zt4 (res:=fun (r:Scene)=>.agg (Scene.row r)) ok27 h
 ·refine Zl2 1 ?_;dsimp only [e27,Z6o,go_sem];refine ⟨by simp,?_⟩;refine Z64 2 0 61 3 rfl rfl rfl ?_;dsimp only [go_sem];refine Zj4 h (fun ((x6,x7):(Int×(List Diner)))=>(⟨(.any :: .ptr 0 0 :: .ptr 1 0 :: .ptr 2 0 :: .iv x6::an 22 []),[some ⟨25,[.sl 5 (List.map Drinker.row x1.Drinkers),.sl 5 (List.map Mail.row x1.Mail)]⟩,some ⟨48,[.nl,.nl]⟩,some ⟨48,[.osl 0,.sl 5 (List.map Mail.row x1.Mail)]⟩],[some ⟨61,3,List.map Diner.row x7⟩]⟩:St)) (by simp [go_sem]) (by rintro ⟨x6,x7⟩;first | rfl | simp [go_sem]) ?_;rintro n1 ⟨x6,x7⟩ y1 h hin1 hout1
  rw [Z8o] at h;(try dsimp only);refine Zl2 9 ?_;dsimp only [e27,Z6o,go_sem];refine ⟨by simp,?_⟩;refine Zk4 h rfl (fun _ h=>?_) fun _ h=>?_
  ·refine Zl2 3 ?_;dsimp only [e27,Z6o,go_sem];refine ⟨by simp,?_⟩;refine Zh3 (by kernel_rfl) fun all hall hs hnap haf=>?_;dsimp only [go_sem];refine Zf5 hall hs haf hnap 4 8 ?_;dsimp only [go_sem];refine ⟨by simp,?_⟩;obtain ⟨x8,ex8,h⟩:=Option.bind_eq_some_iff.1 h;refine Zo4 hall hs haf hnap 5 Drinker.row ex8 rfl rfl trivial rfl rfl rfl rfl ?_;refine Zf5 hall hs haf hnap 2 5 ?_;dsimp only [go_sem];refine ⟨by simp,?_⟩;refine Zv3 1 8 rfl ?_ ?_
   ·refine Zz3 hall rfl trivial ?_;dsimp only [go_sem];refine Zu3 8 rfl ?_;refine Zz3 hall rfl trivial ?_;dsimp only [go_sem];refine Zu3 9 rfl ?_;obtain ⟨x9,ex9,h⟩:=Option.bind_eq_some_iff.1 h;refine Zr4 Diner.row ex9 hall rfl trivial rfl rfl rfl ?_;dsimp only [go_sem];refine Zf5 hall hs haf hnap 1 1 ?_;dsimp only [go_sem];refine ⟨by simp,?_⟩;refine Zu3 11 rfl ?_;refine Zz3 hall rfl trivial ?_;dsimp only [go_sem];refine Zt3 rfl ?_ _;refine Zl2 6 ?_;dsimp only [e27,Z6o,go_sem];refine ⟨by simp,?_⟩;refine Z54 2 0 rfl rfl rfl ?_
    dsimp only [go_sem];exact Zu4 h hin1
   ·refine Zz3 hall rfl trivial ?_;dsimp only [go_sem];refine Zu3 1 rfl ?_;refine Zz3 hall rfl trivial ?_;dsimp only [go_sem];refine Zu3 9 rfl ?_;obtain ⟨x9,ex9,h⟩:=Option.bind_eq_some_iff.1 h;refine Zr4 Diner.row ex9 hall rfl trivial rfl rfl rfl ?_;dsimp only [go_sem];refine Zf5 hall hs haf hnap 1 1 ?_;dsimp only [go_sem];refine ⟨by simp,?_⟩;refine Zu3 11 rfl ?_;refine Zz3 hall rfl trivial ?_;dsimp only [go_sem];refine Zt3 rfl ?_ _;refine Zl2 6 ?_;dsimp only [e27,Z6o,go_sem];refine ⟨by simp,?_⟩;refine Z54 2 0 rfl rfl rfl ?_
    dsimp only [go_sem];exact Zu4 h hin1
  ·refine Zl2 1 ?_;dsimp only [e27,Z6o,go_sem];refine ⟨by simp,?_⟩;exact Zv4 J1 (s:=x7) (Zh4 h hout1)
set_option maxRecDepth 100000
set_option maxHeartbeats 4000000
def Zbo:EC:=.seq (.seq (.reg [(Qa 4 (.mv (.t 3))),(Qa 5 (.fld 0 (.t 1))),(Qa 6 (.load (.t 5))),(Qa 7 (.len (.t 6))),(Qa 8 (.bin .lss (.t 4) (.t 7))),(Qa 9 (.mv (.t 8))),(Qg 10 9 true (.mv (.t 3))),(Qg 11 9 true (.bin .lss (.t 10) (.c (.iv 25)))),(Qa 12 (.pick (.t 9) (.t 11) (.c .ff)))]) (.ite (.t 12) (.skip) (.exit 0))) (.seq (.blk 1 (.seq (.reg [(Qa 15 (.fld 0 (.t 1))),(Qa 16 (.load (.t 15))),(Qa 17 (.mv (.t 3))),(Qa 18 (.idx 5 (.t 16) (.t 17))),(Qa 19 (.fld 4 (.t 18))),(Qa 20 (.load (.t 19))),(Qa 21 (.len (.t 20))),(Qa 22 (.bin .gtr (.t 21) (.c (.iv 24))))]) (.ite (.t 22) (.seq (.reg [(Qa 2 (.mv (.c .ff)))]) (.ret)) (.skip)))) (.reg [(Qa 13 (.mv (.t 3))),(Qa 14 (.bin .add (.t 13) (.c (.iv 1)))),(Qa 3 (.mv (.t 14)))]))
def e12:EC:=.seq (.reg [(Qa 1 (.box 25 2 (.t 0))),(Qa 2 (.mv (.c .ff)))]) (.seq (.seq (.reg [(Qa 3 (.mv (.c (.iv 0))))]) (.blk 0 (.loop Zbo))) (.seq (.reg [(Qa 23 (.fld 0 (.t 1))),(Qa 24 (.load (.t 23))),(Qa 25 (.len (.t 24))),(Qa 26 (.bin .leq (.t 25) (.c (.iv 24)))),(Qa 27 (.mv (.t 26))),(Qg 28 27 true (.loadA 2 (.t 1))),(Qg 29 27 true (.call 27 [(.t 28)])),(Qg 30 27 true (.call 49 [(.t 29)])),(Qa 31 (.pick (.t 27) (.t 30) (.c .ff))),(Qa 2 (.mv (.t 31)))]) (.ret)))
theorem ok12:FnOK Tryz.prog 12 Tryz.f12 e12 [.t 2] 1 31:=⟨by kernel_rfl,⟨_,rfl,by kernel_rfl⟩,by kernel_rfl,by kernel_rfl⟩
noncomputable def Zco:Bool→Option Bool
| x13=>
 some x13
noncomputable def Zdo (x1:Bar):Unit→Option Bool
| ()=>
 ifb (decide ((ln Drinker.row x1.Drinkers)≤24)) (
 (Z9o x1).bind fun x11=>
 (Zn8 x11).bind fun x12=>
 Zco x12) (
 Zco false)
noncomputable def Zeo (x1:Bar) (x5:Int):Bool→Option (Int ⊕ Bool)
| x6=>
 ifb x6 (
 (at_ x1.Drinkers x5).bind fun x7=>
 ifb (decide (24<(ln Z05 x7.Need))) (
 Option.map Sum.inr (some false)) (
 some (.inl (wr (x5+1))))) (
 Option.map Sum.inr ((Zdo x1) ()))
noncomputable def Zfo (x1:Bar):Int→Option (Int ⊕ Bool)
| x5=>
 ifb (decide (x5<(ln Drinker.row x1.Drinkers))) (
 (Zeo x1 x5) (decide (x5<25))) (
 (Zeo x1 x5) false)
noncomputable def Zgo (x1:Bar):Option Bool:=
 loop (Zfo x1) 0
theorem k_narthexref16_Few (x1:Bar) (r:Bool) (h:Zgo x1=some r):Zq2 Tryz.prog 12 [.agg (Bar.row x1)] (.bv r):=by
 refine Zu2 ok12 rfl rfl fun w0 H0=>?_
 rw [Zgo] at h
 refine Zl2 10 ?_;dsimp only [e12,Zbo,go_sem];refine ⟨by simp,?_⟩;refine Zi4 (fun (_:Unit)=>(⟨(.any :: .ptr 0 0::an 30 []),[some ⟨25,[.sl 5 (List.map Drinker.row x1.Drinkers),.sl 5 (List.map Mail.row x1.Mail)]⟩],[]⟩:St)) (Zdo x1) r ?_ fun J1=>?_
 ·rintro ⟨⟩ h;rw [Zdo] at h;(try dsimp only);refine Zl2 7 ?_;dsimp only [e12,Zbo,go_sem];refine ⟨by simp,?_⟩;refine Zi4 (fun (x13:Bool)=>(⟨(.any :: .any :: .bv x13::an 29 []),[],[]⟩:St)) Zco r ?_ fun J3=>?_
  ·intro x13 h;rw [Zco] at h;(try dsimp only);exact Zt4 (res:=fun (r:Bool)=>.bv r) ok12 h
  ·refine Zs4 27 h rfl (fun _ h=>?_) fun _ h=>?_
   ·dsimp only [go_sem];refine Zl2 1 ?_;dsimp only [e12,Zbo,go_sem];refine ⟨by simp,?_⟩;obtain ⟨x11,ex11,h⟩:=Option.bind_eq_some_iff.1 h;refine Zz2 trivial (Zao x1 _ ex11) (h:=?_);obtain ⟨x12,ex12,h⟩:=Option.bind_eq_some_iff.1 h;refine Zz2 trivial (Zo8 x11 _ ex12) (h:=?_);refine Zl2 3 ?_;dsimp only [e12,Zbo,go_sem];refine ⟨by simp,?_⟩;exact Zv4 J3 (s:=x12) h
   ·dsimp only [go_sem];refine Zl2 6 ?_;dsimp only [e12,Zbo,go_sem];refine ⟨by simp,?_⟩;exact Zv4 J3 (s:=false) h
 ·refine Zl2 1 ?_;dsimp only [e12,Zbo,go_sem];refine ⟨by simp,?_⟩;refine Zj4 h (fun (x5:Int)=>(⟨(.any :: .ptr 0 0 :: .any :: .iv x5::an 28 []),[some ⟨25,[.sl 5 (List.map Drinker.row x1.Drinkers),.sl 5 (List.map Mail.row x1.Mail)]⟩],[]⟩:St)) (by simp [go_sem]) (by intro x5;first | rfl | simp [go_sem]) ?_;rintro n1 x5 y1 h hin1 hout1;rw [Zfo] at h;(try dsimp only);refine Zl2 9 ?_;dsimp only [e12,Zbo,go_sem];refine ⟨by simp,?_⟩
  refine Zi4 (fun (x6:Bool)=>(⟨(.any :: .ptr 0 0 :: .any :: .iv x5::an 8 (.bv x6::an 19 [])),[some ⟨25,[.sl 5 (List.map Drinker.row x1.Drinkers),.sl 5 (List.map Mail.row x1.Mail)]⟩],[]⟩:St)) (Zeo x1 x5) y1 ?_ fun J2=>?_
  ·intro x6 h;rw [Zeo] at h;(try dsimp only);refine Zk4 h rfl (fun _ h=>?_) fun _ h=>?_
   ·refine Zl2 8 ?_;dsimp only [e12,Zbo,go_sem];refine ⟨by simp,?_⟩;obtain ⟨x7,ex7,h⟩:=Option.bind_eq_some_iff.1 h;refine Zn4 Drinker.row ex7 trivial rfl rfl rfl ?_;refine Zl2 5 ?_;dsimp only [e12,Zbo,go_sem];refine ⟨by simp,?_⟩;refine Zk4 h rfl (fun _ h=>?_) fun _ h=>?_
    ·refine Zl2 4 ?_;dsimp only [e12,Zbo,go_sem];refine ⟨by simp,?_⟩;exact Zt4 (res:=fun (r:Bool)=>.bv r) ok12 (Zh4 h hout1)
    ·refine Zl2 7 ?_;dsimp only [e12,Zbo,go_sem];refine ⟨by simp,?_⟩;exact Zu4 h hin1
   ·refine Zl2 1 ?_;dsimp only [e12,Zbo,go_sem];refine ⟨by simp,?_⟩;exact Zv4 J1 (s:=()) (Zh4 h hout1)
  ·refine Zs4 9 h rfl (fun _ h=>?_) fun _ h=>?_
   ·dsimp only [go_sem];refine Zl2 4 ?_;dsimp only [e12,Zbo,go_sem];refine ⟨by simp,?_⟩;exact Zv4 J2 (s:=decide (x5<25)) h
   ·dsimp only [go_sem];refine Zl2 4 ?_;dsimp only [e12,Zbo,go_sem];refine ⟨by simp,?_⟩;exact Zv4 J2 (s:=false) h
theorem s_r01SameB (l m:List Int) (hl:l.length≤1000000):Zxn l m=some (decide (l=m)):=by
 simp only [Zxn,Z39]
 by_cases h:l.length=m.length
 ·simp only [h,decide_true,Bool.not_true,Zd6]
  rw [Z09 l m _ (fun x y=>decide (x=y)) h (by omega) (fun k x y hx hy=>by
   simp only [Zwn,Zi6 hx,Zc6,Zg6 hx,Zg6 hy,Option.bind_some,Zl6 hx (show l.length≤4000000000000000000 by omega),Ze6,Option.map_some]
   cases decide (x=y)<;>rfl) (by simp only [Zwn,Zj6,Zd6,Zvn,Option.map_some]),Z19 l m h]
 ·simp [h,Z29 h]
theorem s_r15Same (a b:Drinker) (hs:a.Diner.Sides.length≤1000000) (hn:a.Need.length≤1000000):Z0o a b=some (decide (a=b)):=by
 obtain ⟨x,t,n⟩:=a
 obtain ⟨x',t',n'⟩:=b
 simp only at hs hn
 simp only [Z0o,Zzn,Z49 x x' hs,s_r01SameB n n' hn,Option.bind_some,Drinker.mk.injEq]
 by_cases h1:x=x'<;>by_cases h4:t=t'<;>by_cases h5:n=n'<;>simp [h1,h4,h5]
theorem s_r16Same (s t:Bar) (hD:fewL s.Drinkers) (hM:s.Mail.length≤900000):Z5o s t=some (decide (s=t)):=by
 have h5:=hD.1
 simp only [Z5o,Z39]
 have es:decide (s=t)=(decide (s.Drinkers=t.Drinkers)&&decide (s.Mail=t.Mail)):=by
  obtain ⟨l,m⟩:=s
  obtain ⟨l',m'⟩:=t
  rw [Bool.eq_iff_iff];simp
 by_cases h:s.Drinkers.length=t.Drinkers.length
 ·simp only [h,decide_true,Bool.not_true,Zd6]
  have h2:decide (s.Drinkers=t.Drinkers)=(s.Drinkers.zip t.Drinkers).all fun p=>decide (p.1=p.2):=(Z19 _ _ h).symm
  have:=Zr6 (s.Drinkers.zip t.Drinkers) (Z4o s t) (fun p=>!decide (p.1=p.2)) false (decide (s.Mail=t.Mail)) (by simp;omega) (fun k x hx=>by
   obtain ⟨x,y⟩:=x
   rw [List.getElem?_zip_eq_some] at hx
   obtain ⟨hx,hy⟩:=hx
   have hxm:=hD.2 x (List.mem_iff_getElem?.2 ⟨_,hx⟩)
   dsimp only at hx hy ⊢
   dsimp only [Z4o]
   rw [Zi6 hx,Zc6,Zg6 hx,Option.bind_some,Zg6 hy,Option.bind_some,s_r15Same x y (by omega) (by omega),Option.bind_some,Zl6 hx (by omega)]
   cases decide (x=y)<;>rfl) (by
   rw [show (s.Drinkers.zip t.Drinkers).length=s.Drinkers.length by simp [h]]
   dsimp only [Z4o]
   rw [Zj6,Zd6]
   dsimp only [Z3o]
   rw [Zaj s.Mail t.Mail (by omega),Option.bind_some];rfl)
  rw [this,es,h2]
  have e3:(s.Drinkers.zip t.Drinkers).any (fun p=>!decide (p.1=p.2))=!(s.Drinkers.zip t.Drinkers).all (fun p=>decide (p.1=p.2)):=Z38 _ _ _ fun _=>rfl
  rw [e3]
  cases (s.Drinkers.zip t.Drinkers).all (fun p=>decide (p.1=p.2))<;>rfl
 ·rw [es,Z29 h]
  simp [h]
def fewR (s:Bar):Bool:=decide (s.Drinkers.length≤24)&&(s.Drinkers.all (fun d=>decide (d.Need.length≤24))&&fewB (scB s))
theorem s_Few16 (s:Bar):Zgo s=some (fewR s):=by
 have j1:s.Drinkers.length≤24→Zdo s ()=some (fewB (scB s)):=fun h=>by
  have hsc:Z9o s=some (scB s):=by
   unfold Z9o
   refine Zs8 s.Drinkers (Z8o s) (fun pre=>((pre.length:Int),pre.map (·.Diner))) _ (fun pre x post h=>?_) ?_
   ·have hx:=Zt8 h
    have hm:=Zu8 h
    dsimp only [Z8o]
    rw [Zi6 hx,Zc6,Zg6 hx,Option.bind_some,Zh6 _ _ (by omega) (by simp;omega),Option.bind_some,Zk6 (by omega),Zy8]
    simp
   ·dsimp only [Z8o]
    rw [Zj6,Zd6];rfl
  dsimp only [Zdo]
  rw [Z25,decide_eq_true (by omega),Zc6,hsc,Option.bind_some,s_Few,Option.bind_some];rfl
 have body:∀(k:Nat) d,s.Drinkers[k]?=some d→k<25→Zfo s k=if d.Need.length≤24 then some (.inl ((k+1:Nat):Int)) else some (.inr false):=fun k d hd hk=>by
  dsimp only [Zfo]
  rw [Zi6 hd,Zc6,decide_eq_true (by omega)]
  dsimp only [Zeo]
  rw [Zc6,Zg6 hd,Option.bind_some,Z25,Zk6 (by omega)]
  by_cases h:d.Need.length≤24
  ·rw [decide_eq_false (by omega),if_pos h];rfl
  ·rw [decide_eq_true (by omega),if_neg h];rfl
 unfold fewR
 by_cases h:s.Drinkers.length≤24
 ·rw [decide_eq_true h,Bool.true_and]
  refine Zr8 s.Drinkers (Zfo s) (fun pre=>(pre.length:Int)) (fun _ post=>some (post.all (fun d=>decide (d.Need.length≤24))&&fewB (scB s))) (fun pre x post hp=>?_) ?_
  ·have hx:=Zt8 hp
   have hm:=Zu8 hp
   rw [body _ x hx (by omega),List.all_cons,Zy8]
   by_cases hn:x.Need.length≤24
   ·left;rw [if_pos hn,decide_eq_true hn];exact ⟨rfl,rfl⟩
   ·right;rw [if_neg hn,decide_eq_false hn];exact ⟨false,rfl,rfl⟩
  ·dsimp only [Zfo]
   rw [Zj6,Zd6]
   dsimp only [Zeo]
   rw [Zd6,j1 h];rfl
 ·rw [decide_eq_false h,Bool.false_and]
  refine loop_natI 25 (Zfo s) (fun k=>(k:Int)) (fun _=>some false) (fun k hk=>?_) ?_
  ·have hd:s.Drinkers[k]?=some s.Drinkers[k]:=List.getElem?_eq_getElem (by omega)
   rw [body k _ hd hk]
   by_cases hn:s.Drinkers[k].Need.length≤24
   ·left;rw [if_pos hn];exact ⟨rfl,rfl⟩
   ·right;rw [if_neg hn];exact ⟨false,rfl,rfl⟩
  ·dsimp only [Zfo]
   rw [show decide (((25:Nat):Int)<25)=false from rfl]
   have e:Zeo s ((25:Nat):Int) false=some (.inr false):=by
    dsimp only [Zeo,Zdo]
    rw [Zd6,Z25,decide_eq_false (by omega),Zd6];rfl
   rw [e]
   cases decide (((25:Nat):Int)<ln Drinker.row s.Drinkers)<;>rfl
theorem fewR_iff {s:Bar} (h:fewR s=true):s.Drinkers.length≤24∧s.Mail.length≤40∧∀d∈s.Drinkers,d.Diner.Sides.length≤24∧d.Need.length≤24:=by
 unfold fewR at h
 simp only [Bool.and_eq_true,decide_eq_true_eq,List.all_eq_true] at h
 obtain ⟨h1,h2,h3⟩:=h
 obtain ⟨_,k2,k3⟩:=fewB_iff h3
 exact ⟨h1,k2,fun d hd=>⟨k3 _ (List.mem_map_of_mem hd),h2 d hd⟩⟩
theorem Zho {s:Bar} (h:fewR s=true):fewL s.Drinkers:=by
 obtain ⟨h1,_,h3⟩:=fewR_iff h
 exact ⟨by omega,fun d hd=>by have:=h3 d hd;omega⟩
theorem setL_pw {l:List Int} (h:l.Pairwise (· < ·)):setL l=l:=by
 unfold setL
 rw [List.mergeSort_of_pairwise (h.imp fun hxy=>decide_eq_true (by omega)),Z0f h]
def Zio (d:Drinker) (need set:List Int):Drinker×Int:=if okDr d then (if d.Thirst=0 then (if need.any (Zmh d.Diner) then (Zkh,151) else (⟨d.Diner,1,set⟩,0)) else (Zkh,152)) else (Zkh,150)
theorem openDr_S {need:List Int} (h:need.Pairwise (· < ·)):(fun d=>Znh d need)=fun d=>Zio d need need:=by
 funext d
 unfold Znh Zio
 rw [setL_pw h]
def g16:Graph:=⟨2,[⟨0,1⟩]⟩
def v0:Bar:=barT g16
def v2:Bar×Int:=Zin v0 0 fun d=>Zio d [] []
def v3:Bar×Int:=Zin v2.1 1 fun d=>Zio d [] []
def v5:Bar×Int:=Zin v0 0 fun d=>Zio d [1] [1]
def v6:Bar×Int:=Zin v3.1 0 Zoh
def v7:Bar×Int:=Zln v0 0 1
theorem Zjo:Zsn=some true:=by
 have f0:fewR v0=true:=by kernel_rfl
 have f2:fewR v2.1=true:=by kernel_rfl
 have f3:fewR v3.1=true:=by kernel_rfl
 have f5:fewR v5.1=true:=by kernel_rfl
 have f6:fewR v6.1=true:=by kernel_rfl
 have m:∀ {s:Bar},fewR s=true→s.Mail.length≤900000:=fun h=>by have:=(fewR_iff h).2.1;omega
 have hN:Zum ⟨2,[⟨0,1⟩]⟩=some (v0,0):=by
  rw [s_bNew,show okG ⟨2,[⟨0,1⟩]⟩=true from by kernel_rfl];rfl
 simp only [Zsn,hN,Option.bind_some,decide_true,Bool.not_true,Zd6]
 rw [s_bOpen v0 0 [] (Zho f0) (m f0) (by simp),Option.bind_some,openDr_S (need:=[]) (by simp),show (Zin v0 0 fun d=>Zio d [] [])=v2 from rfl]
 rw [s_bOpen v2.1 1 [] (Zho f2) (m f2) (by simp),Option.bind_some,openDr_S (need:=[]) (by simp),show (Zin v2.1 1 fun d=>Zio d [] [])=v3 from rfl]
 rw [show decide (v2.2=0)=true from by kernel_rfl,Bool.not_true,Zd6,show decide (v3.2=0)=true from by kernel_rfl,Bool.not_true]
 dsimp only [Zrn]
 rw [Zd6,s_bOpen v0 0 [1] (Zho f0) (m f0) (by simp),Option.bind_some,openDr_S (need:=[1]) (by simp),show (Zin v0 0 fun d=>Zio d [1] [1])=v5 from rfl]
 rw [s_bClose v3.1 0 (Zho f3) (m f3),Option.bind_some,show Zin v3.1 0 Zoh=v6 from rfl,Zmn v0 0 1 (Zho f0) (m f0),Option.bind_some,show Zln v0 0 1=v7 from rfl]
 rw [s_Who v3.1 2 (Zho f3),Option.bind_some,show decide (ln Z05 (whoL v3.1.Drinkers 2)=2)=true from by rw [Z25];kernel_rfl,Zc6,show decide (v5.2=0)=true from by kernel_rfl,Zc6]
 rw [s_Who v5.1 0 (Zho f5),Option.bind_some,show decide (ln Z05 (whoL v5.1.Drinkers 0)=1)=true from by rw [Z25];kernel_rfl,Zc6,show decide (v6.2=0)=true from by kernel_rfl,Zc6]
 rw [s_Who v6.1 2 (Zho f6),Option.bind_some,show decide (ln Z05 (whoL v6.1.Drinkers 2)=1)=true from by rw [Z25];kernel_rfl,Zc6,show decide (v7.2=162)=true from by kernel_rfl,Zc6]
 rw [Zbn v0 (Zho f0) (by have:=m f0;omega),Option.bind_some,show Zan v0=true from by kernel_rfl,show decide ((if true=true then (0:Int) else 160)=0)=true from rfl,Zc6]
 rw [s_bCount v0 ⟨0,1⟩ 3 (Zho f0) (m f0),Option.bind_some,show decide ((Zpn v0 ⟨0,1⟩ 3:Int)=1)=true from by kernel_rfl,Zc6]
 rw [s_bSame v0 v0 (Zho f0) (m f0),Option.bind_some,decide_eq_true rfl,Zc6,s_bSame v0 v3.1 (Zho f0) (m f0),Option.bind_some,show decide (v0=v3.1)=false from by kernel_rfl,Bool.not_false,Zc6]
 rw [s_Scene v0 (Zho f0) (by have:=m f0;omega),Option.bind_some,Z25,show decide (((scB v0).Diners.length:Int)=2)=true from by kernel_rfl]
 rfl
def k12 (m:Mail):Bool:=decide (m.Msg.Kind≤2)
def Zko (s:Bar):Scene:=⟨s.Drinkers.map (·.Diner),s.Mail.filter k12⟩
def hasT (d:Diner) (k b:Int):Nat:=match Z59 d b with | some x=>bn (Zon x k) | none=>0
structure LocT (d:Drinker):Prop where
 lo:0≤d.Thirst
 hi:d.Thirst≤2
 need:d.Need.Pairwise (· < ·)
 sub:∀p∈d.Need,p∈d.Diner.Sides.map (·.Peer)
 tr:d.Thirst=0→d.Need=[]
 dr:d.Thirst=2→∀x∈d.Diner.Sides,x.Peer∈d.Need→x.Bottle=true
def mailR (g:Graph) (m:Mail):Prop:=(1≤m.Msg.Kind∧m.Msg.Kind≤4)∧m.Msg.Epoch=1∧m.Msg.Num=0∧m.To∈Zye g m.From
structure InvB (g:Graph) (s:Bar):Prop where
 tab:Inv g (Zko s)
 mail:∀m∈s.Mail,mailR g m
 th:∀d∈s.Drinkers,LocT d
 two:∀(a b:Nat) da db,s.Drinkers[a]?=some da→s.Drinkers[b]?=some db→(b:Int)∈Zye g a→∀k,(k=3∨k=4)→hasT da.Diner k b+hasT db.Diner k a+cnt s.Mail k a b+cnt s.Mail k b a=1
theorem Zlo {s:Bar} {a:Nat} {d:Drinker} (h:s.Drinkers[a]?=some d):(Zko s).Diners[a]?=some d.Diner:=by
 show (s.Drinkers.map (·.Diner))[a]?=_
 rw [List.getElem?_map,h];rfl
theorem InvB.upd {g:Graph} {s:Bar} (hg:okG g=true) (h:InvB g s) {a:Nat} {d d':Drinker} (hd:s.Drinkers[a]?=some d) {M:List Mail} (ht:Inv g ⟨(Zko s).Diners.set a d'.Diner,M.filter k12⟩) (hm:∀m∈M,mailR g m) (hl:LocT d')
  (ho:∀k p q:Int,(k=3∨k=4)→p≠a→q≠a→cnt M k p q=cnt s.Mail k p q) (hc:∀b∈Zye g a,∀k,(k=3∨k=4)→hasT d'.Diner k b+cnt M k a b+cnt M k b a=hasT d.Diner k b+cnt s.Mail k a b+cnt s.Mail k b a):InvB g ⟨s.Drinkers.set a d',M⟩:=by
 have hlt:=(List.getElem?_eq_some_iff.1 hd).1
 have get:∀(k:Nat) e,(s.Drinkers.set a d')[k]?=some e→(k=a∧e=d')∨(k≠a∧s.Drinkers[k]?=some e):=fun k e he=>by
  rw [List.getElem?_set] at he
  split at he
  ·rename_i hk
   simp at he
   exact .inl ⟨hk.symm,he.symm⟩
  ·rename_i hk
   exact .inr ⟨fun e=>hk e.symm,he⟩
 refine ⟨?_,hm,fun e he=>?_,fun x y dx dy hx hy hxy k hk=>?_⟩
 ·have e:Zko ⟨s.Drinkers.set a d',M⟩=⟨(Zko s).Diners.set a d'.Diner,M.filter k12⟩:=by
   unfold Zko
   simp only [List.map_set]
  rw [e];exact ht
 ·obtain ⟨k,hk⟩:=List.mem_iff_getElem?.1 he
  rcases get k e hk with ⟨_,rfl⟩ | ⟨_,he⟩
  ·exact hl
  ·exact h.th e (List.mem_iff_getElem?.2 ⟨_,he⟩)
 ·dsimp only at hx hy ⊢
  have hne:=(Z3f hg hxy).2.2.1
  have hyx:=Z6g hg hxy
  rcases get x dx hx with ⟨rfl,rfl⟩ | ⟨x1,hx'⟩<;>rcases get y dy hy with ⟨rfl,rfl⟩ | ⟨y1,hy'⟩
  ·exact absurd rfl hne
  ·have:=hc y hxy k hk
   have:=h.two x y d dy hd hy' hxy k hk
   omega
  ·have:=hc x hyx k hk
   have:=h.two x y dx d hx' hd hxy k hk
   omega
  ·rw [ho k x y hk (by omega) (by omega),ho k y x hk (by omega) (by omega)]
   exact h.two x y dx dy hx' hy' hxy k hk
theorem Zmo {id th:Int} {nd:Bool} {x:Side} {m:Mail} (h:m∈Zqg id nd th x):m.From=id∧m.To=x.Peer∧(m.Msg.Kind=3∨m.Msg.Kind=4)∧m.Msg.Epoch=x.Epoch∧m.Msg.Num=0:=by
 unfold Zqg at h
 rw [List.mem_append] at h
 rcases h with h | h
 ·split at h
  ·simp at h;subst h;exact ⟨rfl,rfl,.inl rfl,rfl,rfl⟩
  ·simp at h
 ·split at h
  ·simp at h;subst h;exact ⟨rfl,rfl,.inr rfl,rfl,rfl⟩
  ·simp at h
theorem bot_side (id th k:Int) (nd:Bool) (x:Side) (hk:k=3∨k=4) (he:x.Epoch=1):bn (Zon (Zpg nd th x) k)+(Zqg id nd th x).count ⟨id,x.Peer,⟨k,1,0⟩⟩=bn (Zon x k):=by
 obtain ⟨p,e,st,f,d,t,bo,ask⟩:=x
 dsimp only at he
 subst he
 unfold Zqg Zpg bot1 Zog Zon bn
 generalize h1:decide (th=1)=q1
 generalize h2:decide (th=2)=q2
 rcases hk with rfl | rfl<;>cases bo<;>cases ask<;>cases nd<;>cases q1<;>cases q2<;>cases f<;>simp
theorem Zno (id th k b:Int) (nd:Side→Bool):∀(l:List Side),l.Pairwise (fun x y=>x.Peer<y.Peer)→(l.flatMap fun x=>Zqg id (nd x) th x).count ⟨id,b,⟨k,1,0⟩⟩=match l.find? (fun x=>decide (x.Peer=b)) with | some x=>(Zqg id (nd x) th x).count ⟨id,x.Peer,⟨k,1,0⟩⟩ | none=>0
 | [],_=>rfl
 | x::l,h=>by
   rw [List.pairwise_cons] at h
   rw [List.flatMap_cons,List.count_append,Zno id th k b nd l h.2,List.find?_cons]
   by_cases hx:x.Peer=b
   ·have:l.find? (fun x=>decide (x.Peer=b))=none:=by
     rw [List.find?_eq_none]
     intro y hy
     have:=h.1 y hy
     simp;omega
    rw [this,decide_eq_true hx,←hx];simp
   ·rw [decide_eq_false hx,Zdg (fun hm=>hx (Zmo hm).2.1.symm)];simp
theorem Zoo (d:Diner) (x:Side) (k:Int):Zon (Zgg d x) k=Zon x k:=by
 have h2:(Zra d.Phase x).Bottle=x.Bottle∧(Zra d.Phase x).Ask=x.Ask:=by
  unfold Zra Zqa
  split<;>split<;>exact ⟨rfl,rfl⟩
 have h3:(Zgg d x).Bottle=x.Bottle∧(Zgg d x).Ask=x.Ask:=by
  unfold Zgg
  split
  ·exact h2
  ·exact h2
 unfold Zon
 rw [h3.1,h3.2]
theorem hasD_bot {d:Diner} {p:Int} {f:Side→Side} (hf:∀x,(f x).Peer=x.Peer∧(f x).Fork=x.Fork∧(f x).Token=x.Token) (k b:Int):hasD ⟨d.ID,p,d.Sides.map f⟩ k b=hasD d k b:=by
 unfold hasD
 rw [Zkg d f (fun x=>(hf x).1)]
 cases Z59 d b with
 | none=>rfl
 | some x=>
   simp only [Option.map_some]
   unfold has
   rw [(hf x).2.1,(hf x).2.2]
theorem Zpo {α:Type} {l:List α} {a:Nat} {x:α} (h:l[a]?=some x):l.set a x=l:=by
 refine List.ext_getElem? fun k=>?_
 rw [List.getElem?_set]
 split
 ·rename_i e;subst e
  have:=(List.getElem?_eq_some_iff.1 h).1
  rw [if_pos this,h]
 ·rfl
theorem Inv.map {g:Graph} {s:Scene} (hg:okG g=true) (h:Inv g s) {a:Nat} {d:Diner} (hd:s.Diners[a]?=some d) {f:Side→Side} (hf:∀x,(f x).Peer=x.Peer∧(f x).Epoch=x.Epoch∧(f x).State=x.State∧(f x).Fork=x.Fork∧(f x).Dirty=x.Dirty∧(f x).Token=x.Token):
  Inv g ⟨s.Diners.set a ⟨d.ID,d.Phase,d.Sides.map f⟩,s.Mail⟩:=by
 have hl:=h.loc d (List.mem_iff_getElem?.2 ⟨_,hd⟩)
 refine h.set (d':=⟨d.ID,d.Phase,d.Sides.map f⟩) hg hd rfl ?_ ⟨hl.lo,hl.hi,fun y hy=>?_,fun e y hy=>?_⟩ h.mail (fun _ _ _ _ _=>rfl) (fun b _ k _=>?_)
 ·rw [List.map_map]
  exact List.map_congr_left fun x _=>(hf x).1
 ·obtain ⟨x,hx,rfl⟩:=List.mem_map.1 hy
  obtain ⟨p1,p2,p3,p4,p5,p6⟩:=hf x
  rw [p2,p3,p4,p5]
  exact hl.side x hx
 ·obtain ⟨x,hx,rfl⟩:=List.mem_map.1 hy
  obtain ⟨p1,p2,p3,p4,p5,p6⟩:=hf x
  rw [p4,p5]
  exact hl.eat e x hx
 ·rw [hasD_bot fun x=>⟨(hf x).1,(hf x).2.2.2.1,(hf x).2.2.2.2.2⟩]
theorem phaseDr_or (d:Drinker):Zsg d=d.Diner.Phase∨Zsg d=0∨Zsg d=1:=by
 unfold Zsg
 split
 ·exact .inr (.inr rfl)
 ·split
  ·exact .inr (.inl rfl)
  ·exact .inl rfl
theorem onceM_k12 (d:Drinker) (M:List Mail):(M++Zxg d).filter k12=M.filter k12++Zva (Ztg d):=by
 unfold Zxg
 rw [List.filter_append,List.filter_append]
 have h1:(Zva (Ztg d)).filter k12=Zva (Ztg d):=by
  rw [List.filter_eq_self]
  intro m hm
  obtain ⟨x,_,hx⟩:=List.mem_flatMap.1 hm
  have:=(Zcg hx).2.2.1
  unfold k12
  exact decide_eq_true (by omega)
 have h2:((Zua (Ztg d)).Sides.flatMap fun x=>Zqg d.Diner.ID (Zng d x) d.Thirst x).filter k12=[]:=by
  rw [List.filter_eq_nil_iff]
  intro m hm
  obtain ⟨x,_,hx⟩:=List.mem_flatMap.1 hm
  have:=(Zmo hx).2.2.1
  unfold k12
  simp;omega
 rw [h1,h2,List.append_nil]
theorem InvB.once {g:Graph} {s:Bar} (hg:okG g=true) (h:InvB g s) {a:Nat} {d:Drinker} (hd:s.Drinkers[a]?=some d):InvB g ⟨s.Drinkers.set a (Zwg d),s.Mail++Zxg d⟩:=by
 have hdt:=Zlo hd
 obtain ⟨hid,hsh⟩:=h.tab.shp a _ hdt
 have hdm:d∈s.Drinkers:=List.mem_iff_getElem?.2 ⟨_,hd⟩
 have hT:=h.th d hdm
 have hloc:=h.tab.loc _ (List.mem_iff_getElem?.2 ⟨_,hdt⟩)
 have h1:Inv g ⟨(Zko s).Diners.set a (Ztg d),(Zko s).Mail⟩:=by
  rcases phaseDr_or d with e | e | e
  ·have:Ztg d=d.Diner:=by unfold Ztg;rw [e]
   rw [this,Zpo hdt];exact h.tab
  ·exact h.tab.phase hg hdt (p:=Zsg d) (by omega) (by omega)
  ·exact h.tab.phase hg hdt (p:=Zsg d) (by omega) (by omega)
 have hd1:((Zko s).Diners.set a (Ztg d))[a]?=some (Ztg d):=set_get hdt
 have hpw1:=h1.pw hg hd1
 have h2:=h1.fire hg hd1
 dsimp only at h2
 rw [List.set_set] at h2
 have hd2:((Zko s).Diners.set a (Zua (Ztg d)))[a]?=some (Zua (Ztg d)):=set_get hdt
 have hpw2:=h2.pw hg hd2
 have h3:=h2.map hg hd2 (f:=fun x=>Zpg (Zng d x) d.Thirst x) (fun x=>Zrg _ _ x)
 dsimp only at h3
 rw [List.set_set,Zig] at h3
 have hsm:∀m∈Zxg d,m.From=a∧m.To∈Zye g a∧(1≤m.Msg.Kind∧m.Msg.Kind≤4)∧m.Msg.Epoch=1∧m.Msg.Num=0:=fun m hm=>by
  unfold Zxg at hm
  rcases List.mem_append.1 hm with hm | hm
  ·obtain ⟨x,hx,hxm⟩:=List.mem_flatMap.1 hm
   obtain ⟨m1,m2,m3,m4,m5⟩:=Zcg hxm
   refine ⟨m1.trans hid,?_,by omega,by rw [m4];exact (hloc.side x hx).1,m5⟩
   rw [m2,←hsh]
   exact List.mem_map_of_mem hx
  ·obtain ⟨x,hx,hxm⟩:=List.mem_flatMap.1 hm
   obtain ⟨m1,m2,m3,m4,m5⟩:=Zmo hxm
   rw [Zhg] at hx
   obtain ⟨y,hy,rfl⟩:=List.mem_map.1 hx
   obtain ⟨p1,p2,_⟩:=Zjg (Ztg d) y
   refine ⟨m1.trans hid,?_,by omega,by rw [m4,p2];exact (hloc.side y hy).1,m5⟩
   rw [m2,p1,←hsh]
   exact List.mem_map_of_mem hy
 have other:∀(k p q:Int),p≠a→(Zxg d).count ⟨p,q,⟨k,1,0⟩⟩=0:=fun k p q hp=>Zdg fun hm=>hp (hsm _ hm).1
 refine h.upd (d':=Zwg d) hg hd ?_ (fun m hm=>?_) ?_ (fun k p q _ hp _=>?_) (fun b hb k hk=>?_)
 ·rw [onceM_k12]
  exact h3
 ·rcases List.mem_append.1 hm with hm | hm
  ·exact h.mail m hm
  ·obtain ⟨q1,q2,q3,q4,q5⟩:=hsm m hm
   exact ⟨q3,q4,q5,by rw [q1];exact q2⟩
 ·refine ⟨?_,?_,hT.need,?_,?_,?_⟩
  ·show 0≤Zvg d
   unfold Zvg;split
   ·omega
   ·exact hT.lo
  ·show Zvg d≤2
   unfold Zvg;split
   ·omega
   ·exact hT.hi
  ·intro p hp
   show p∈(Zwg d).Diner.Sides.map (·.Peer)
   rw [(once_keep d).2.2]
   exact hT.sub p hp
  ·intro e
   refine hT.tr ?_
   have e':Zvg d=0:=e
   unfold Zvg at e'
   split at e'
   ·omega
   ·exact e'
  ·intro e x hx hn
   have e':Zvg d=2:=e
   have hx':x∈Zug d:=hx
   unfold Zvg at e'
   split at e'
   ·rename_i hc
    rw [Bool.and_eq_true,List.all_eq_true] at hc
    have:=hc.2 x hx'
    unfold Zng at this
    rw [decide_eq_true (show x.Peer∈d.Need from hn)] at this
    simpa using this
   ·unfold Zug at hx'
    obtain ⟨y,hy,rfl⟩:=List.mem_map.1 hx'
    rw [Zhg] at hy
    obtain ⟨z,hz,rfl⟩:=List.mem_map.1 hy
    have p1:=(Zjg (Ztg d) z).1
    rw [(Zrg _ _ _).1,p1] at hn
    have hb:=hT.dr e' z hz hn
    have hl:=Zoo (Ztg d) z 3
    unfold Zon at hl
    simp at hl
    have hnd:Zng d (Zgg (Ztg d) z)=true:=by unfold Zng;rw [p1];exact decide_eq_true hn
    rw [hnd,e']
    unfold Zpg bot1 Zog
    simp [hl,hb]
 ·unfold cnt
  rw [List.count_append,other k p q hp];rfl
 ·have hne:=(Z3f hg hb).2.2.1
  unfold cnt
  rw [List.count_append,List.count_append,other k b a hne]
  have e:=Zno d.Diner.ID d.Thirst k b (Zng d) (Zua (Ztg d)).Sides hpw2
  have e0:(Zva (Ztg d)).count ⟨(a:Int),b,⟨k,1,0⟩⟩=0:=Zdg fun hm=>by
   obtain ⟨x,_,hx⟩:=List.mem_flatMap.1 hm
   have:=(Zcg hx).2.2.1
   dsimp only at this
   omega
  rw [hid] at e
  unfold Zxg
  rw [List.count_append,e0,hid,e]
  unfold hasT
  have es:Z59 (Zwg d).Diner b=(Z59 (Zua (Ztg d)) b).map fun x=>Zpg (Zng d x) d.Thirst x:=Zkg (Zua (Ztg d)) (fun x=>Zpg (Zng d x) d.Thirst x) (fun x=>(Zrg _ _ x).1) _ _ b
  rw [es,Zlg]
  have ef:(Zua (Ztg d)).Sides.find? (fun x=>decide (x.Peer=b))=(Z59 (Ztg d) b).map (Zgg (Ztg d)):=Zlg (Ztg d) b
  rw [ef]
  have ep:Z59 (Ztg d) b=Z59 d.Diner b:=rfl
  rw [ep]
  cases hf:Z59 d.Diner b with
  | none=>simp
  | some x=>
    have hx:=(Zmg hf).1
    obtain ⟨p1,p2,_⟩:=Zjg (Ztg d) x
    have hbs:=bot_side (a:Int) d.Thirst k (Zng d (Zgg (Ztg d) x)) (Zgg (Ztg d) x) hk (by rw [p2];exact (hloc.side x hx).1)
    rw [Zoo] at hbs
    simp only [Option.map_some]
    omega
theorem InvB.fireN {g:Graph} (hg:okG g=true) (L:List Drinker) (M:List Mail) {a:Nat} (ha:a<L.length):∀(n:Nat) (d:Drinker) (out:List Mail),InvB g ⟨L.set a d,M++out⟩→InvB g ⟨L.set a (NX.fireN n d out).1,M++(NX.fireN n d out).2⟩
 | 0,_,_,h=>h
 | n+1,d,out,h=>by
   unfold NX.fireN
   split
   ·exact h
   ·have hd:(L.set a d)[a]?=some d:=by rw [List.getElem?_set];simp [ha]
    have h1:=h.once hg hd
    dsimp only at h1
    rw [List.set_set,List.append_assoc] at h1
    exact InvB.fireN hg L M ha n _ _ h1
theorem InvB.fireDr {g:Graph} {s:Bar} (hg:okG g=true) (h:InvB g s) {a:Nat} {d:Drinker} (hd:s.Drinkers[a]?=some d):InvB g ⟨s.Drinkers.set a (NX.fireDr d).1,s.Mail++(NX.fireDr d).2⟩:=by
 refine InvB.fireN hg s.Drinkers s.Mail (List.getElem?_eq_some_iff.1 hd).1 300 d [] ?_
 rw [Zpo hd,List.append_nil];exact h
theorem Zqo {zs:List Int} (h:zs.Pairwise (· ≤ ·)):(Lib.compact zs).Pairwise (· < ·)∧∀x,x∈Lib.compact zs↔x∈zs:=by
 have get:∀j,j<zs.length→∃hj:j<zs.length,zs.toArray[j]! = zs[j]:=fun j hj=>⟨hj,by rw [getElem!_pos _ _ (by simpa using hj)];simp⟩
 have mono:∀i j,i≤j→j<zs.length→zs.toArray[i]!≤zs.toArray[j]!:=fun i j hij hj=>by
  obtain ⟨_,e1⟩:=get i (by omega)
  obtain ⟨_,e2⟩:=get j hj
  rw [e1,e2]
  by_cases e:i=j
  ·subst e;exact Int.le_refl _
  ·rw [List.pairwise_iff_getElem] at h
   exact h i j (by omega) hj (by omega)
 have key:∀m,m≤zs.length→(Lib.compactUpTo zs.toArray m).Pairwise (· < ·)∧(∀x,x∈Lib.compactUpTo zs.toArray m↔∃j,j<m∧x=zs.toArray[j]!):=by
  intro m
  induction m with
  | zero=>intro _;exact ⟨by simp [Lib.compactUpTo],fun x=>by simp [Lib.compactUpTo]⟩
  | succ m ih=>
    intro hm
    obtain ⟨h1,h2⟩:=ih (by omega)
    rw [Lib.compactUpTo_succ]
    cases hk:Lib.keeps zs.toArray m with
    | true=>
      rw [if_pos rfl]
      refine ⟨?_,fun x=>?_⟩
      ·rw [List.pairwise_append]
       refine ⟨h1,by simp,fun x hx y hy=>?_⟩
       rw [List.mem_singleton] at hy
       subst hy
       obtain ⟨j,hj,rfl⟩:=(h2 x).1 hx
       unfold Lib.keeps at hk
       simp only [decide_eq_true_eq] at hk
       have a1:=mono j (m-1) (by omega) (by omega)
       have a2:=mono (m-1) m (by omega) (by omega)
       rcases hk with e | e
       ·omega
       ·have:zs.toArray[m]!≠zs.toArray[m-1]!:=e
        omega
      ·rw [List.mem_append,h2]
       constructor
       ·rintro (⟨j,hj,e⟩ | e)
        ·exact ⟨j,by omega,e⟩
        ·simp at e;exact ⟨m,by omega,by simpa using e⟩
       ·rintro ⟨j,hj,e⟩
        by_cases hjm:j=m
        ·subst hjm;right;simp [e]
        ·exact .inl ⟨j,by omega,e⟩
    | false=>
      rw [if_neg (by simp),List.append_nil]
      refine ⟨h1,fun x=>?_⟩
      rw [h2]
      constructor
      ·rintro ⟨j,hj,e⟩;exact ⟨j,by omega,e⟩
      ·rintro ⟨j,hj,e⟩
       by_cases hjm:j=m
       ·subst hjm
        unfold Lib.keeps at hk
        simp only [decide_eq_false_iff_not,not_or,Classical.not_not] at hk
        exact ⟨j-1,by omega,by rw [e,hk.2]⟩
       ·exact ⟨j,by omega,e⟩
 obtain ⟨k1,k2⟩:=key zs.length (Nat.le_refl _)
 refine ⟨k1,fun x=>?_⟩
 have:=k2 x
 unfold Lib.compact
 rw [this]
 constructor
 ·rintro ⟨j,hj,e⟩
  obtain ⟨_,e1⟩:=get j hj
  rw [e,e1];exact List.getElem_mem hj
 ·intro hx
  obtain ⟨j,hj,e⟩:=List.mem_iff_getElem.1 hx
  obtain ⟨_,e1⟩:=get j hj
  exact ⟨j,hj,by rw [e1,e]⟩
theorem setL_spec (l:List Int):(setL l).Pairwise (· < ·)∧∀x,x∈setL l↔x∈l:=by
 have hs:(l.mergeSort fun x y=>decide (x≤y)).Pairwise (· ≤ ·):=by
  have:=List.pairwise_mergeSort (le:=fun x y:Int=>decide (x≤y)) (by intro a b c;simp;omega) (by intro a b;simp;omega) l
  exact this.imp fun h=>by simpa using h
 obtain ⟨h1,h2⟩:=Zqo hs
 refine ⟨h1,fun x=>?_⟩
 unfold setL
 rw [h2]
 exact (List.mergeSort_perm l _).mem_iff
theorem okI_of:∀(l:List Int) (p:Option Int),l.Pairwise (· < ·)→(∀q,p=some q→∀x∈l,q<x)→okI p l=true
 | [],_,_,_=>rfl
 | x::l,p,h,hp=>by
   rw [List.pairwise_cons] at h
   have ih:=okI_of l (some x) h.2 fun q hq y hy=>by simp at hq;subst hq;exact h.1 y hy
   unfold okI
   rw [ih,Bool.and_true]
   cases p with
   | none=>rfl
   | some q=>exact decide_eq_true (hp q rfl x (by simp))
theorem InvB.few {g:Graph} {s:Bar} (hg:okG g=true) (h:InvB g s):s.Drinkers.length≤64∧∀d∈s.Drinkers,d.Diner.Sides.length≤64∧d.Need.length≤64:=by
 have hl:=h.tab.len
 have h2:=(Z28 hg).2.1
 have e:(Zko s).Diners.length=s.Drinkers.length:=by simp [Zko]
 refine ⟨by omega,fun d hd=>?_⟩
 obtain ⟨k,hk⟩:=List.mem_iff_getElem?.1 hd
 obtain ⟨_,hsh⟩:=h.tab.shp k _ (Zlo hk)
 have hfew:=near_few hg (k:Int)
 have hT:=h.th d hd
 have hsl:d.Diner.Sides.length=(Zye g k).length:=by rw [←hsh];simp
 refine ⟨by omega,?_⟩
 have hb:∀p∈d.Need,0≤p∧p<g.N:=fun p hp=>by
  have:=hT.sub p hp
  rw [hsh] at this
  have:=Z3f hg this
  omega
 rcases pw_len d.Need 0 g.N hT.need hb with e | e
 ·rw [e];simp
 ·omega
theorem InvB.fewL {g:Graph} {s:Bar} (hg:okG g=true) (h:InvB g s):NX.fewL s.Drinkers:=by
 obtain ⟨h1,h2⟩:=h.few hg
 exact ⟨by omega,fun d hd=>by have:=h2 d hd;omega⟩
theorem InvB.okDr {g:Graph} {s:Bar} (hg:okG g=true) (hN:g.N≤60) (h:InvB g s) {d:Drinker} (hd:d∈s.Drinkers):NX.okDr d=true:=by
 obtain ⟨k,hk⟩:=List.mem_iff_getElem?.1 hd
 have hT:=h.th d hd
 have hD:=h.tab.okd hg hN (List.mem_iff_getElem?.2 ⟨_,Zlo hk⟩)
 unfold NX.okDr
 rw [hD,decide_eq_true hT.lo,decide_eq_true hT.hi,okI_of d.Need none hT.need (fun q hq=>by simp at hq),Bool.true_and,Bool.true_and,Bool.true_and,Bool.true_and,Bool.and_eq_true,List.all_eq_true]
 refine ⟨?_,fun p hp=>?_⟩
 ·by_cases h0:d.Thirst=0
  ·rw [hT.tr h0];simp
  ·rw [decide_eq_false h0];rfl
 ·unfold Zjh
  rw [List.any_eq_true]
  obtain ⟨x,hx,e⟩:=List.mem_map.1 (hT.sub p hp)
  exact ⟨x,hx,decide_eq_true e⟩
theorem InvB.ok {g:Graph} {s:Bar} (hg:okG g=true) (hN:g.N≤60) (h:InvB g s):Zan s=true:=by
 unfold Zan okS
 have e1:Zn9 (scB s).Diners=(g,true):=show Zn9 (Zko s).Diners=(g,true) from h.tab.graph hg
 have hl:((scB s).Diners.length:Int)=g.N:=show ((Zko s).Diners.length:Int)=g.N from h.tab.len
 rw [e1,Bool.true_and,Bool.and_eq_true,Bool.and_eq_true,List.all_eq_true,List.all_eq_true,List.all_eq_true]
 refine ⟨⟨fun d hd=>h.tab.okd hg hN hd,fun m hm=>?_⟩,fun d hd=>h.okDr hg hN hd⟩
 obtain ⟨n1,n2,n3,n4,n5⟩:=Z3f hg (h.mail m hm).2.2.2
 unfold Z4j
 rw [decide_eq_false (by omega),decide_eq_false (by omega),decide_eq_false (by omega)];rfl
theorem InvB.first {g:Graph} (hg:okG g=true):InvB g (barT g):=by
 have hr:=(Zhj hg).1
 have e0:Zko (barT g)=Zij g:=by
  unfold Zko barT
  rw [List.map_map]
  have:((fun d:Drinker=>d.Diner)∘fun d:Diner=>(⟨d,0,[]⟩:Drinker))=id:=rfl
  rw [this,List.map_id]
  rfl
 refine ⟨by rw [e0];exact Inv.first hg,by intro m hm;exact absurd hm (by simp [barT]),fun d hd=>?_,fun a b da db ha hb hab k hk=>?_⟩
 ·obtain ⟨e,he,rfl⟩:=List.mem_map.1 hd
  exact ⟨Int.le_refl _,by show (0:Int)≤2;omega,by simp,by simp,fun _=>rfl,fun e=>absurd e (by show ¬(0:Int)=2;omega)⟩
 ·have get:∀(k:Nat) d,(barT g).Drinkers[k]?=some d→d=⟨Z5f g (Zgj g) k,0,[]⟩:=fun k d hd=>by
   have h1:=Zlo hd
   rw [e0] at h1
   have hk:=(List.getElem?_eq_some_iff.1 h1).1
   have hl:=Z4g hg (Zgj g)
   have hk':k<(Z6f g (Zgj g)).length:=hk
   have e:=Z3g (g:=g) (c:=Zgj g) (a:=(k:Int)) (by omega) (by omega)
   rw [Int.toNat_natCast] at e
   have hd2:(Zij g).Diners[k]?=some (Z5f g (Zgj g) k):=e
   have h3:(barT g).Drinkers[k]?=((Zij g).Diners.map fun d=>(⟨d,0,[]⟩:Drinker))[k]?:=rfl
   rw [h3,List.getElem?_map,hd2] at hd
   simpa using hd.symm
  have:=get a da ha
  subst this
  have:=get b db hb
  subst this
  have hne:=Z9f hg hr hab
  have hba:=Z6g hg hab
  unfold hasT
  rw [Z5g,if_pos hab,Z5g,if_pos hba]
  have hlt:decide (cg (Zgj g) a<cg (Zgj g) b)=!decide (cg (Zgj g) b<cg (Zgj g) a):=by
   rw [←decide_not,decide_eq_decide];omega
  have e1:∀p q:Int,cnt (barT g).Mail k p q=0:=fun _ _=>rfl
  rw [e1,e1]
  simp only [Z4f,Zon,hlt,bn]
  by_cases hh:cg (Zgj g) b<cg (Zgj g) a<;>rcases hk with rfl | rfl<;>simp [hh]
set_option maxRecDepth 100000
set_option maxHeartbeats 4000000
def Zro:EC:=.seq (.seq (.reg [(Qa 28 (.mv (.t 10))),(Qa 29 (.mv (.t 1))),(Qa 30 (.len (.t 29))),(Qa 31 (.bin .lss (.t 28) (.t 30)))]) (.ite (.t 31) (.skip) (.exit 0))) (.seq (.blk 1 (.seq (.drw [(Qa 35 (.loadA 2 (.t 8))),(Qa 36 (.call 14 [(.t 35)])),(Qa 37 (.mv (.t 1))),(Qa 38 (.mv (.t 10))),(Qa 39 (.idx 4 (.t 37) (.t 38))),(Qa 40 (.loadA 4 (.t 39))),(Qa 41 (.call 13 [(.t 36),(.t 40)])),(Qa 34 (.mv (.t 41))),(Qa 42 (.ext (.t 34) 0)),(Qa 43 (.ext (.t 34) 1)),(Qa 11 (.alloc 25 [.nl,.nl])),(Qb (.store 2 (.t 11) (.t 42))),(Qa 12 (.mv (.t 43)))] [[],[0],[],[],[2,3],[4],[1,5,1],[6],[7],[7],[],[10,8,6,0,1,2,3,4,5,6,7,8,10],[9,11,0,1,2,3,4,5,6,7,8,9,10,11]] [[1],[0,6],[4],[4],[2,3,5],[4,6],[1,5,7],[6,8,9],[7,11],[7,12],[11],[8,10],[9]]) (.seq (.seq (.reg [(Qa 44 (.mv (.t 12))),(Qa 45 (.bin .neq (.t 44) (.c (.iv 0)))),(Qa 46 (.mv (.t 45))),(Qg 47 46 true (.mv (.t 12))),(Qg 48 46 true (.bin .neq (.t 47) (.c (.iv 152)))),(Qa 49 (.pick (.t 46) (.t 48) (.c .ff))),(Qa 50 (.mv (.t 49))),(Qg 51 50 true (.mv (.t 12))),(Qg 52 50 true (.bin .neq (.t 51) (.c (.iv 151)))),(Qa 53 (.pick (.t 50) (.t 52) (.c .ff))),(Qa 54 (.mv (.t 53))),(Qg 55 54 true (.mv (.t 12))),(Qg 56 54 true (.bin .neq (.t 55) (.c (.iv 162)))),(Qa 57 (.pick (.t 54) (.t 56) (.c .ff))),(Qa 58 (.mv (.t 57))),(Qg 59 58 true (.mv (.t 12))),(Qg 60 58 true (.bin .neq (.t 59) (.c (.iv 161)))),(Qa 61 (.pick (.t 58) (.t 60) (.c .ff)))]) (.ite (.t 61) (.seq (.reg [(Qa 62 (.loadA 2 (.t 8))),(Qb (.store 2 (.t 6) (.t 62))),(Qa 7 (.mv (.c .ff)))]) (.ret)) (.skip))) (.seq (.seq (.reg [(Qa 63 (.mv (.t 12))),(Qa 64 (.bin .eql (.t 63) (.c (.iv 0))))]) (.ite (.t 64) (.reg [(Qa 65 (.loadA 2 (.t 11))),(Qb (.store 2 (.t 8) (.t 65)))]) (.skip))) (.seq (.reg [(Qa 66 (.mv (.t 2))),(Qa 67 (.loadA 2 (.t 8))),(Qa 68 (.callv (.t 66) [(.t 67)])),(Qa 69 (.not (.t 68)))]) (.ite (.t 69) (.seq (.reg [(Qa 70 (.loadA 2 (.t 8))),(Qb (.store 2 (.t 6) (.t 70))),(Qa 7 (.mv (.c .ff)))]) (.ret)) (.skip))))))) (.reg [(Qa 32 (.mv (.t 10))),(Qa 33 (.bin .add (.t 32) (.c (.iv 1)))),(Qa 10 (.mv (.t 33)))]))
def e29:EC:=.seq (.reg [(Qa 3 (.box 53 2 (.t 0))),(Qa 6 (.alloc 25 [.nl,.nl])),(Qa 7 (.mv (.c .ff)))]) (.seq (.reg [(Qa 14 (.loadA 2 (.t 3))),(Qa 15 (.call 41 [(.t 14)])),(Qa 16 (.call 40 [(.t 15)])),(Qa 13 (.mv (.t 16))),(Qa 17 (.ext (.t 13) 0)),(Qa 18 (.ext (.t 13) 1)),(Qa 8 (.alloc 25 [.nl,.nl])),(Qb (.store 2 (.t 8) (.t 17))),(Qa 9 (.mv (.t 18)))]) (.seq (.seq (.reg [(Qa 19 (.mv (.t 9))),(Qa 20 (.bin .neq (.t 19) (.c (.iv 0)))),(Qa 21 (.mv (.t 20))),(Qg 22 21 false (.mv (.t 2))),(Qg 23 21 false (.loadA 2 (.t 8))),(Qg 24 21 false (.callv (.t 22) [(.t 23)])),(Qg 25 21 false (.not (.t 24))),(Qa 26 (.pick (.t 21) (.c .tt) (.t 25)))]) (.ite (.t 26) (.seq (.reg [(Qa 27 (.loadA 2 (.t 8))),(Qb (.store 2 (.t 6) (.t 27))),(Qa 7 (.mv (.c .ff)))]) (.ret)) (.skip))) (.seq (.seq (.reg [(Qa 10 (.mv (.c (.iv 0))))]) (.blk 0 (.loop Zro))) (.seq (.reg [(Qa 71 (.loadA 2 (.t 8))),(Qb (.store 2 (.t 6) (.t 71))),(Qa 7 (.mv (.c .tt)))]) (.ret)))))
theorem ok29:FnOK Tryz.prog 29 Tryz.f29 e29 [.c 6 (some 2),.t 7] 3 69:=⟨by kernel_rfl,⟨_,rfl,by kernel_rfl⟩,by kernel_rfl,by kernel_rfl⟩
noncomputable def Zso:Bar→Option (Bar×Bool)
| x36=>
 some (x36,true)
noncomputable def Zto (p2:(Bar→Option Bool)) (x19:Int):Bar→Option ((Int×Bar) ⊕ (Bar×Bool))
| x29=>
 (p2 x29).bind fun x30=>
 ifb (!x30) (
 Option.map Sum.inr (some (x29,false))) (
 some (.inl (wr (x19+1),x29)))
noncomputable def Zuo (p2:(Bar→Option Bool)) (x19:Int) (x20:Bar) (x26:Int) (x27:Bar):Bool→Option ((Int×Bar) ⊕ (Bar×Bool))
| x28=>
 ifb x28 (
 Option.map Sum.inr (some (x20,false))) (
 ifb (decide (x26=0)) (
 (Zto p2 x19) x27) (
 (Zto p2 x19) x20))
noncomputable def Zvo (p2:(Bar→Option Bool)) (x19:Int) (x20:Bar):(Int×Bar)→Option ((Int×Bar) ⊕ (Bar×Bool))
| (x26,x27)=>
 ifb (!decide (x26=0)) (
 ifb (!decide (x26=152)) (
 ifb (!decide (x26=151)) (
 ifb (!decide (x26=162)) (
 (Zuo p2 x19 x20 x26 x27) (!decide (x26=161))) (
 (Zuo p2 x19 x20 x26 x27) false)) (
 (Zuo p2 x19 x20 x26 x27) false)) (
 (Zuo p2 x19 x20 x26 x27) false)) (
 (Zuo p2 x19 x20 x26 x27) false)
noncomputable def Zwo (x2:(List narthexlaw16_Act)) (p2:(Bar→Option Bool)):(Int×Bar)→Option ((Int×Bar) ⊕ (Bar×Bool))
| (x19,x20)=>
 ifb (decide (x19<(ln narthexlaw16_Act.row x2))) (
 (at_ x2 x19).bind fun x21=>
 (Z2m x20).bind fun x22=>
 (Ztl x22 x21).bind fun x24=>
 (Zvo p2 x19 x20) (x24.2,x24.1)) (
 Option.map Sum.inr (Zso x20))
noncomputable def Zxo (x2:(List narthexlaw16_Act)) (p2:(Bar→Option Bool)) (x4:(Bar×Int)):Bool→Option (Bar×Bool)
| x6=>
 ifb x6 (
 some (x4.1,false)) (
 loop (Zwo x2 p2) (0,x4.1))
noncomputable def Zyo (x1:Graph) (x2:(List narthexlaw16_Act)) (p2:(Bar→Option Bool)):Option (Bar×Bool):=
 (Zp8 x1).bind fun x3=>
 (Zum x3).bind fun x4=>
 ifb (!decide (x4.2=0)) (
 (Zxo x2 p2 x4) true) (
 (p2 x4.1).bind fun x5=>
 (Zxo x2 p2 x4) (!x5))
theorem Zzo (x1:Graph) (x2:(List narthexlaw16_Act)) (g2:Nat) (caps2:List AV) (p2:(Bar→Option Bool)) (hc2:CloOK Tryz.prog g2 caps2 (fun z=>[.agg (Bar.row z)]) p2 (fun z=>.bv z)) (r:(Bar×Bool)) (h:Zyo x1 x2 p2=some r):Zq2 Tryz.prog 29 [.agg (Graph.row x1),.sl 4 (List.map narthexlaw16_Act.row x2),.clo g2 caps2] (.tup [.agg (Bar.row r.1),.bv r.2]):=by
 refine Zu2 ok29 rfl rfl fun w0 H0=>?_
 rw [Zyo] at h
 refine Zl2 9 ?_;dsimp only [e29,Zro,go_sem];refine ⟨by simp,?_⟩;obtain ⟨x3,ex3,h⟩:=Option.bind_eq_some_iff.1 h;refine Zz2 trivial (Zq8 x1 _ ex3) (hp:=(by first | rfl | simp [go_sem,hc2.pu])) (h:=?_);obtain ⟨x4,ex4,h⟩:=Option.bind_eq_some_iff.1 h;refine Zz2 trivial (k_bar_New x3 _ ex4) (hp:=(by first | rfl | simp [go_sem,hc2.pu])) (h:=?_);refine Zl2 13 ?_;dsimp only [e29,Zro,go_sem];refine ⟨by simp,?_⟩
 refine Zi4 (fun (x6:Bool)=>(⟨(.any :: .sl 4 (List.map narthexlaw16_Act.row x2) :: .clo g2 caps2::an 3 (.ptr 1 0 :: .any :: .ptr 2 0::an 17 (.bv x6::an 45 []))),[none,some ⟨25,[.nl,.nl]⟩,some ⟨25,[.sl 5 (List.map Drinker.row x4.1.Drinkers),.sl 5 (List.map Mail.row x4.1.Mail)]⟩],[]⟩:St)) (Zxo x2 p2 x4) r ?_ fun J1=>?_
 ·intro x6 h;rw [Zxo] at h;(try dsimp only);refine Zk4 h rfl (fun _ h=>?_) fun _ h=>?_
  ·refine Zl2 6 ?_;dsimp only [e29,Zro,go_sem];refine ⟨by simp,?_⟩;exact Zt4 (res:=fun (r:(Bar×Bool))=>.tup [.agg (Bar.row r.1),.bv r.2]) ok29 h
  ·refine Zl2 6 ?_;dsimp only [e29,Zro,go_sem];refine ⟨by simp,?_⟩;refine Zi4 (fun (x36:Bar)=>(⟨(an 6 (.ptr 1 0 :: .any :: .ptr 2 0::an 63 [])),[none,some ⟨25,[.nl,.nl]⟩,some ⟨25,[.sl 5 (List.map Drinker.row x36.Drinkers),.sl 5 (List.map Mail.row x36.Mail)]⟩],[]⟩:St)) Zso r ?_ fun J2=>?_
   ·intro x36 h;rw [Zso] at h;(try dsimp only);refine Zl2 6 ?_;dsimp only [e29,Zro,go_sem];refine ⟨by simp,?_⟩;exact Zt4 (res:=fun (r:(Bar×Bool))=>.tup [.agg (Bar.row r.1),.bv r.2]) ok29 h
   ·refine Zl2 1 ?_;dsimp only [e29,Zro,go_sem];refine ⟨by simp,?_⟩;refine Zj4 h (fun ((x19,x20):(Int×Bar))=>(⟨(.any :: .sl 4 (List.map narthexlaw16_Act.row x2) :: .clo g2 caps2::an 3 (.ptr 1 0 :: .any :: .ptr 2 0 :: .any :: .iv x19::an 61 [])),[none,some ⟨25,[.nl,.nl]⟩,some ⟨25,[.sl 5 (List.map Drinker.row x20.Drinkers),.sl 5 (List.map Mail.row x20.Mail)]⟩],[]⟩:St)) (by simp [go_sem]) (by rintro ⟨x19,x20⟩;first | rfl | simp [go_sem,Za4 _ hc2.pu]) ?_;rintro n1 ⟨x19,x20⟩ y1 h hin1 hout1;rw [Zwo] at h;(try dsimp only)
    refine Zl2 8 ?_;dsimp only [e29,Zro,go_sem];refine ⟨by simp,?_⟩;refine Zk4 h rfl (fun _ h=>?_) fun _ h=>?_
    ·refine Zl2 4 ?_;dsimp only [e29,Zro,go_sem];refine ⟨by simp,?_⟩;refine Zi4 (fun ((x26,x27):(Int×Bar))=>(⟨(.any :: .sl 4 (List.map narthexlaw16_Act.row x2) :: .clo g2 caps2::an 3 (.ptr 1 0 :: .any :: .ptr 2 0 :: .any :: .iv x19 :: .ptr 3 0 :: .iv x26::an 59 [])),[none,some ⟨25,[.nl,.nl]⟩,some ⟨25,[.sl 5 (List.map Drinker.row x20.Drinkers),.sl 5 (List.map Mail.row x20.Mail)]⟩,some ⟨25,[.sl 5 (List.map Drinker.row x27.Drinkers),.sl 5 (List.map Mail.row x27.Mail)]⟩],[]⟩:St)) (Zvo p2 x19 x20) y1 ?_ fun J3=>?_
     ·rintro ⟨x26,x27⟩ h;rw [Zvo] at h;(try dsimp only);refine Zl2 6 ?_;dsimp only [e29,Zro,go_sem];refine ⟨by simp,?_⟩
      refine Zi4 (fun (x28:Bool)=>(⟨(.any :: .sl 4 (List.map narthexlaw16_Act.row x2) :: .clo g2 caps2::an 3 (.ptr 1 0 :: .any :: .ptr 2 0 :: .any :: .iv x19 :: .ptr 3 0 :: .iv x26::an 48 (.bv x28::an 10 []))),[none,some ⟨25,[.nl,.nl]⟩,some ⟨25,[.sl 5 (List.map Drinker.row x20.Drinkers),.sl 5 (List.map Mail.row x20.Mail)]⟩,some ⟨25,[.sl 5 (List.map Drinker.row x27.Drinkers),.sl 5 (List.map Mail.row x27.Mail)]⟩],[]⟩:St)) (Zuo p2 x19 x20 x26 x27) y1 ?_ fun J4=>?_
      ·intro x28 h;rw [Zuo] at h;(try dsimp only);refine Zk4 h rfl (fun _ h=>?_) fun _ h=>?_
       ·refine Zl2 6 ?_;dsimp only [e29,Zro,go_sem];refine ⟨by simp,?_⟩;exact Zt4 (res:=fun (r:(Bar×Bool))=>.tup [.agg (Bar.row r.1),.bv r.2]) ok29 (Zh4 h hout1)
       ·refine Zl2 7 ?_;dsimp only [e29,Zro,go_sem];refine ⟨by simp,?_⟩;refine Zi4 (fun (x29:Bar)=>(⟨(.any :: .sl 4 (List.map narthexlaw16_Act.row x2) :: .clo g2 caps2::an 3 (.ptr 1 0 :: .any :: .ptr 2 0 :: .any :: .iv x19::an 61 [])),[none,some ⟨25,[.nl,.nl]⟩,some ⟨25,[.sl 5 (List.map Drinker.row x29.Drinkers),.sl 5 (List.map Mail.row x29.Mail)]⟩],[]⟩:St)) (Zto p2 x19) y1 ?_ fun J5=>?_
        ·intro x29 h;rw [Zto] at h;(try dsimp only);refine Zl2 4 ?_;dsimp only [e29,Zro,go_sem];refine ⟨by simp,?_⟩;obtain ⟨x30,ex30,h⟩:=Option.bind_eq_some_iff.1 h;refine Zz4 trivial rfl hc2 (x:=x29) ex30 (by first | exact Zb4 _ | simp [go_sem]) (by first | rfl | simp [go_sem,hc2.pu]) ?_;refine Zl2 2 ?_;dsimp only [e29,Zro,go_sem];refine ⟨by simp,?_⟩;refine Zk4 h rfl (fun _ h=>?_) fun _ h=>?_
         ·refine Zl2 6 ?_;dsimp only [e29,Zro,go_sem];refine ⟨by simp,?_⟩;exact Zt4 (res:=fun (r:(Bar×Bool))=>.tup [.agg (Bar.row r.1),.bv r.2]) ok29 (Zh4 h hout1)
         ·refine Zl2 7 ?_;dsimp only [e29,Zro,go_sem];refine ⟨by simp,?_⟩;exact Zu4 h hin1 (hok:=by first | rfl | simp [go_sem,Za4 _ hc2.pu])
        ·refine Zk4 h rfl (fun _ h=>?_) fun _ h=>?_
         ·refine Zl2 4 ?_;dsimp only [e29,Zro,go_sem];refine ⟨by simp,?_⟩;exact Zv4 J5 (s:=x27) h (hok:=by first | rfl | simp [go_sem,Za4 _ hc2.pu])
         ·refine Zl2 1 ?_;dsimp only [e29,Zro,go_sem];refine ⟨by simp,?_⟩;exact Zv4 J5 (s:=x20) h (hok:=by first | rfl | simp [go_sem,Za4 _ hc2.pu])
      ·refine Zs4 46 h rfl (fun _ h=>?_) fun _ h=>?_
       ·dsimp only [go_sem];refine Zl2 4 ?_;dsimp only [e29,Zro,go_sem];refine ⟨by simp,?_⟩;refine Zs4 50 h rfl (fun _ h=>?_) fun _ h=>?_
        ·dsimp only [go_sem];refine Zl2 4 ?_;dsimp only [e29,Zro,go_sem];refine ⟨by simp,?_⟩;refine Zs4 54 h rfl (fun _ h=>?_) fun _ h=>?_
         ·dsimp only [go_sem];refine Zl2 4 ?_;dsimp only [e29,Zro,go_sem];refine ⟨by simp,?_⟩;refine Zs4 58 h rfl (fun _ h=>?_) fun _ h=>?_
          ·dsimp only [go_sem];refine Zl2 4 ?_;dsimp only [e29,Zro,go_sem];refine ⟨by simp,?_⟩;exact Zv4 J4 (s:=!decide (x26=161)) h (hok:=by first | rfl | simp [go_sem,Za4 _ hc2.pu])
          ·dsimp only [go_sem];refine Zl2 4 ?_;dsimp only [e29,Zro,go_sem];refine ⟨by simp,?_⟩;exact Zv4 J4 (s:=false) h (hok:=by first | rfl | simp [go_sem,Za4 _ hc2.pu])
         ·dsimp only [go_sem];refine Zl2 8 ?_;dsimp only [e29,Zro,go_sem];refine ⟨by simp,?_⟩;exact Zv4 J4 (s:=false) h (hok:=by first | rfl | simp [go_sem,Za4 _ hc2.pu])
        ·dsimp only [go_sem];refine Zl2 12 ?_;dsimp only [e29,Zro,go_sem];refine ⟨by simp,?_⟩;exact Zv4 J4 (s:=false) h (hok:=by first | rfl | simp [go_sem,Za4 _ hc2.pu])
       ·dsimp only [go_sem];refine Zl2 16 ?_;dsimp only [e29,Zro,go_sem];refine ⟨by simp,?_⟩;exact Zv4 J4 (s:=false) h (hok:=by first | rfl | simp [go_sem,Za4 _ hc2.pu])
     ·refine Zh3 (by kernel_rfl) fun all hall hs hnap haf=>?_;dsimp only [go_sem];refine Zf5 hall hs haf hnap 3 10 ?_;dsimp only [go_sem];refine ⟨by simp,?_⟩;obtain ⟨x21,ex21,h⟩:=Option.bind_eq_some_iff.1 h;refine Zo4 hall hs haf hnap 4 narthexlaw16_Act.row ex21 rfl rfl trivial rfl rfl rfl rfl ?_;refine Zf5 hall hs haf hnap 1 8 ?_;dsimp only [go_sem];refine ⟨by simp,?_⟩;obtain ⟨x22,ex22,h⟩:=Option.bind_eq_some_iff.1 h;refine Zv3 1 10 rfl ?_ ?_
      ·refine Z04 hall rfl trivial (Z3m x20 _ ex22) (hp:=(by first | rfl | simp [go_sem,hc2.pu])) (h:=?_);dsimp only [go_sem];obtain ⟨x24,ex24,h⟩:=Option.bind_eq_some_iff.1 h;refine Zv3 6 10 rfl ?_ ?_
       ·refine Z04 hall rfl trivial (Zul x22 x21 _ ex24) (hp:=(by first | rfl | simp [go_sem,hc2.pu])) (h:=?_);dsimp only [go_sem];refine Zf5 hall hs haf hnap 3 3 ?_;dsimp only [go_sem];refine ⟨by simp,?_⟩;refine Zu3 10 rfl ?_;refine Zz3 hall rfl trivial ?_;dsimp only [go_sem];refine Zu3 11 rfl ?_;refine Zz3 hall rfl trivial ?_;dsimp only [go_sem];refine Zf5 hall hs haf hnap 1 0 ?_;dsimp only [go_sem];refine ⟨by simp,?_⟩;refine Zt3 rfl ?_ _;exact Zv4 J3 (s:=(x24.2,x24.1)) h (hok:=by first | rfl | simp [go_sem,Za4 _ hc2.pu])
       ·refine Zz3 hall rfl trivial ?_;dsimp only [go_sem];refine Zu3 6 rfl ?_;refine Z04 hall rfl trivial (Zul x22 x21 _ ex24) (hp:=(by first | rfl | simp [go_sem,hc2.pu])) (h:=?_);dsimp only [go_sem];refine Zf5 hall hs haf hnap 3 2 ?_;dsimp only [go_sem];refine ⟨by simp,?_⟩;refine Zu3 11 rfl ?_;refine Zz3 hall rfl trivial ?_;dsimp only [go_sem];refine Zf5 hall hs haf hnap 1 0 ?_;dsimp only [go_sem];refine ⟨by simp,?_⟩;refine Zt3 rfl ?_ _;exact Zv4 J3 (s:=(x24.2,x24.1)) h (hok:=by first | rfl | simp [go_sem,Za4 _ hc2.pu])
      ·refine Zz3 hall rfl trivial ?_;dsimp only [go_sem];refine Zu3 1 rfl ?_;refine Z04 hall rfl trivial (Z3m x20 _ ex22) (hp:=(by first | rfl | simp [go_sem,hc2.pu])) (h:=?_);dsimp only [go_sem];refine Zu3 6 rfl ?_;obtain ⟨x24,ex24,h⟩:=Option.bind_eq_some_iff.1 h;refine Z04 hall rfl trivial (Zul x22 x21 _ ex24) (hp:=(by first | rfl | simp [go_sem,hc2.pu])) (h:=?_);dsimp only [go_sem];refine Zf5 hall hs haf hnap 3 2 ?_;dsimp only [go_sem];refine ⟨by simp,?_⟩;refine Zu3 11 rfl ?_;refine Zz3 hall rfl trivial ?_
       dsimp only [go_sem];refine Zf5 hall hs haf hnap 1 0 ?_;dsimp only [go_sem];refine ⟨by simp,?_⟩;refine Zt3 rfl ?_ _;exact Zv4 J3 (s:=(x24.2,x24.1)) h (hok:=by first | rfl | simp [go_sem,Za4 _ hc2.pu])
    ·refine Zl2 1 ?_;dsimp only [e29,Zro,go_sem];refine ⟨by simp,?_⟩;exact Zv4 J2 (s:=x20) (Zh4 h hout1) (hok:=by first | rfl | simp [go_sem,Za4 _ hc2.pu])
 ·refine Zs4 21 h rfl (fun _ h=>?_) fun _ h=>?_
  ·dsimp only [go_sem];refine Zl2 6 ?_;dsimp only [e29,Zro,go_sem];refine ⟨by simp,?_⟩;exact Zv4 J1 (s:=true) h (hok:=by first | rfl | simp [go_sem,Za4 _ hc2.pu])
  ·dsimp only [go_sem];refine Zl2 2 ?_;dsimp only [e29,Zro,go_sem];refine ⟨by simp,?_⟩;obtain ⟨x5,ex5,h⟩:=Option.bind_eq_some_iff.1 h;refine Zz4 trivial rfl hc2 (x:=x4.1) ex5 (by first | exact Zb4 _ | simp [go_sem]) (by first | rfl | simp [go_sem,hc2.pu]) ?_;refine Zl2 3 ?_;dsimp only [e29,Zro,go_sem];refine ⟨by simp,?_⟩;exact Zv4 J1 (s:=!x5) h (hok:=by first | rfl | simp [go_sem,Za4 _ hc2.pu])
set_option maxRecDepth 100000
set_option maxHeartbeats 4000000
def Z0p:EC:=.seq (.seq (.reg [(Qa 6 (.mv (.t 5))),(Qa 7 (.mv (.t 1))),(Qa 8 (.len (.t 7))),(Qa 9 (.bin .lss (.t 6) (.t 8))),(Qa 10 (.mv (.t 9))),(Qg 11 10 true (.mv (.t 5))),(Qg 12 10 true (.bin .lss (.t 11) (.c (.iv 81)))),(Qa 13 (.pick (.t 10) (.t 12) (.c .ff)))]) (.ite (.t 13) (.skip) (.exit 0))) (.seq (.blk 1 (.seq (.reg [(Qa 16 (.mv (.t 1))),(Qa 17 (.mv (.t 5))),(Qa 18 (.idx 4 (.t 16) (.t 17))),(Qa 19 (.fld 3 (.t 18))),(Qa 20 (.load (.t 19))),(Qa 21 (.len (.t 20))),(Qa 22 (.bin .gtr (.t 21) (.c (.iv 20))))]) (.ite (.t 22) (.seq (.reg [(Qa 4 (.mv (.c .ff)))]) (.ret)) (.skip)))) (.reg [(Qa 14 (.mv (.t 5))),(Qa 15 (.bin .add (.t 14) (.c (.iv 1)))),(Qa 5 (.mv (.t 15)))]))
def e28:EC:=.seq (.reg [(Qa 2 (.box 53 2 (.t 0))),(Qa 4 (.mv (.c .ff)))]) (.seq (.seq (.reg [(Qa 5 (.mv (.c (.iv 0))))]) (.blk 0 (.loop Z0p))) (.seq (.reg [(Qa 23 (.loadA 2 (.t 2))),(Qa 24 (.call 73 [(.t 23)])),(Qa 25 (.mv (.t 24))),(Qg 26 25 true (.mv (.t 1))),(Qg 27 25 true (.len (.t 26))),(Qg 28 25 true (.bin .leq (.t 27) (.c (.iv 80)))),(Qa 29 (.pick (.t 25) (.t 28) (.c .ff))),(Qa 4 (.mv (.t 29)))]) (.ret)))
theorem ok28:FnOK Tryz.prog 28 Tryz.f28 e28 [.t 4] 2 28:=⟨by kernel_rfl,⟨_,rfl,by kernel_rfl⟩,by kernel_rfl,by kernel_rfl⟩
noncomputable def Z1p:Bool→Option Bool
| x14=>
 some x14
noncomputable def Z2p (x1:Graph) (x2:(List narthexlaw16_Act)):Unit→Option Bool
| ()=>
 (Zfk x1).bind fun x13=>
 ifb x13 (
 Z1p (decide ((ln narthexlaw16_Act.row x2)≤80))) (
 Z1p false)
noncomputable def Z3p (x1:Graph) (x2:(List narthexlaw16_Act)) (x6:Int):Bool→Option (Int ⊕ Bool)
| x7=>
 ifb x7 (
 (at_ x2 x6).bind fun x8=>
 ifb (decide (20<(ln Z05 x8.Need))) (
 Option.map Sum.inr (some false)) (
 some (.inl (wr (x6+1))))) (
 Option.map Sum.inr ((Z2p x1 x2) ()))
noncomputable def Z4p (x1:Graph) (x2:(List narthexlaw16_Act)):Int→Option (Int ⊕ Bool)
| x6=>
 ifb (decide (x6<(ln narthexlaw16_Act.row x2))) (
 (Z3p x1 x2 x6) (decide (x6<81))) (
 (Z3p x1 x2 x6) false)
noncomputable def Z5p (x1:Graph) (x2:(List narthexlaw16_Act)):Option Bool:=
 loop (Z4p x1 x2) 0
theorem Z6p (x1:Graph) (x2:(List narthexlaw16_Act)) (r:Bool) (h:Z5p x1 x2=some r):Zq2 Tryz.prog 28 [.agg (Graph.row x1),.sl 4 (List.map narthexlaw16_Act.row x2)] (.bv r):=by
 refine Zu2 ok28 rfl rfl fun w0 H0=>?_
 rw [Z5p] at h
 refine Zl2 10 ?_;dsimp only [e28,Z0p,go_sem];refine ⟨by simp,?_⟩;refine Zi4 (fun (_:Unit)=>(⟨(.any :: .sl 4 (List.map narthexlaw16_Act.row x2) :: .ptr 0 0::an 27 []),[some ⟨53,[.iv x1.N,.sl 2 (List.map Edge.row x1.Edges)]⟩],[]⟩:St)) (Z2p x1 x2) r ?_ fun J1=>?_
 ·rintro ⟨⟩ h;rw [Z2p] at h;(try dsimp only);refine Zl2 3 ?_;dsimp only [e28,Z0p,go_sem];refine ⟨by simp,?_⟩;obtain ⟨x13,ex13,h⟩:=Option.bind_eq_some_iff.1 h;refine Zz2 trivial (Zgk x1 _ ex13) (h:=?_);refine Zl2 1 ?_;dsimp only [e28,Z0p,go_sem];refine ⟨by simp,?_⟩;refine Zi4 (fun (x14:Bool)=>(⟨(an 4 (.bv x14::an 25 [])),[],[]⟩:St)) Z1p r ?_ fun J3=>?_
  ·intro x14 h;rw [Z1p] at h;(try dsimp only);exact Zt4 (res:=fun (r:Bool)=>.bv r) ok28 h
  ·refine Zs4 25 h rfl (fun _ h=>?_) fun _ h=>?_
   ·dsimp only [go_sem];refine Zl2 6 ?_;dsimp only [e28,Z0p,go_sem];refine ⟨by simp,?_⟩;exact Zv4 J3 (s:=decide ((ln narthexlaw16_Act.row x2)≤80)) h
   ·dsimp only [go_sem];refine Zl2 6 ?_;dsimp only [e28,Z0p,go_sem];refine ⟨by simp,?_⟩;exact Zv4 J3 (s:=false) h
 ·refine Zl2 1 ?_;dsimp only [e28,Z0p,go_sem];refine ⟨by simp,?_⟩;refine Zj4 h (fun (x6:Int)=>(⟨(.any :: .sl 4 (List.map narthexlaw16_Act.row x2) :: .ptr 0 0 :: .any :: .any :: .iv x6::an 24 []),[some ⟨53,[.iv x1.N,.sl 2 (List.map Edge.row x1.Edges)]⟩],[]⟩:St)) (by simp [go_sem]) (by intro x6;first | rfl | simp [go_sem]) ?_;rintro n1 x6 y1 h hin1 hout1;rw [Z4p] at h;(try dsimp only);refine Zl2 8 ?_;dsimp only [e28,Z0p,go_sem];refine ⟨by simp,?_⟩
  refine Zi4 (fun (x7:Bool)=>(⟨(.any :: .sl 4 (List.map narthexlaw16_Act.row x2) :: .ptr 0 0 :: .any :: .any :: .iv x6::an 7 (.bv x7::an 16 [])),[some ⟨53,[.iv x1.N,.sl 2 (List.map Edge.row x1.Edges)]⟩],[]⟩:St)) (Z3p x1 x2 x6) y1 ?_ fun J2=>?_
  ·intro x7 h;rw [Z3p] at h;(try dsimp only);refine Zk4 h rfl (fun _ h=>?_) fun _ h=>?_
   ·refine Zl2 7 ?_;dsimp only [e28,Z0p,go_sem];refine ⟨by simp,?_⟩;obtain ⟨x8,ex8,h⟩:=Option.bind_eq_some_iff.1 h;refine Zn4 narthexlaw16_Act.row ex8 trivial rfl rfl rfl ?_;refine Zl2 5 ?_;dsimp only [e28,Z0p,go_sem];refine ⟨by simp,?_⟩;refine Zk4 h rfl (fun _ h=>?_) fun _ h=>?_
    ·refine Zl2 4 ?_;dsimp only [e28,Z0p,go_sem];refine ⟨by simp,?_⟩;exact Zt4 (res:=fun (r:Bool)=>.bv r) ok28 (Zh4 h hout1)
    ·refine Zl2 7 ?_;dsimp only [e28,Z0p,go_sem];refine ⟨by simp,?_⟩;exact Zu4 h hin1
   ·refine Zl2 1 ?_;dsimp only [e28,Z0p,go_sem];refine ⟨by simp,?_⟩;exact Zv4 J1 (s:=()) (Zh4 h hout1)
  ·refine Zs4 10 h rfl (fun _ h=>?_) fun _ h=>?_
   ·dsimp only [go_sem];refine Zl2 4 ?_;dsimp only [e28,Z0p,go_sem];refine ⟨by simp,?_⟩;exact Zv4 J2 (s:=decide (x6<81)) h
   ·dsimp only [go_sem];refine Zl2 4 ?_;dsimp only [e28,Z0p,go_sem];refine ⟨by simp,?_⟩;exact Zv4 J2 (s:=false) h
end NX
end Go.Proofs.YtacfbmldajmjiaaGreat
