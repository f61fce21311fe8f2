/-
  The function narthex/narthexref16.Step: its code compiled, a model, and that the code answers as the model. Written by a program of ours (lb.py). No statement of the seat is proved here.
-/
import Derived.KernelRfl
import Derived.Test.YtacfbmldajmjiaaGreatV5
import Derived.Test.YtacfbmldajmjiaaGreatV1
import Derived.Test.YtacfbmldajmjiaaGreatV4
import Derived.Test.YtacfbmldajmjiaaGreatV3
namespace Go.Proofs.YtacfbmldajmjiaaGreat
namespace NX
open Go
set_option maxRecDepth 100000
set_option maxHeartbeats 4000000
@[go_sem] def e15_L1:EC:=.seq (.seq (.reg [(Qm 135 20),(Qf 136 0 5),(Ql 137 136),(Qa 138 (.len (.t 137))),(Qa 139 (.bin .lss (.t 135) (.t 138)))]) (.ite (.t 139) (.skip) (.exit 3))) (.seq (.blk 4 (.seq (.reg [(Qm 142 20),(Qm 143 13),(Qa 144 (.bin .eql (.t 142) (.t 143)))]) (.ite (.t 144) (.reg [(Qf 145 0 19),(Ql 146 145),(Qe 147 5 15),(Qa 148 (.bsl 63 5 1 [.iv 0,.iv 0,.nl,.iv 0,.nl] [(0,(.t 147))])),(Qa 149 (.app 63 5 72 (.t 146) (.t 148))),(Qf 150 0 19),(Qs 1 150 149)]) (.drw [(Qf 151 0 19),(Ql 152 151),(Qf 153 0 5),(Ql 154 153),(Qm 155 20),(Qk 156 5 154 155),(Qe 157 5 156),(Qa 158 (.bsl 63 5 1 [.iv 0,.iv 0,.nl,.iv 0,.nl] [(0,(.t 157))])),(Qa 159 (.app 63 5 72 (.t 152) (.t 158))),(Qf 160 0 19),(Qs 1 160 159)] [[],[0],[],[2],[],[3,4],[5],[6],[1,7],[0,1,2,3,4,5,6,7,8],[9,8,8,0,1,2,3,4,5,6,7,8]] [[1],[0,8],[3],[2,5],[5],[3,4,6],[5,7],[6,8],[1,7,10],[10],[8,9]])))) (.reg [(Qm 140 20),(Qv 141 140 1),(Qm 20 141)]))
@[go_sem] def e15_L0:EC:=.seq (.seq (.reg [(Qm 52 17),(Qm 53 14),(Qa 54 (.len (.t 53))),(Qa 55 (.bin .lss (.t 52) (.t 54))),(Qm 56 55),(Qg 57 56 true (.mv (.t 14))),(Qg 58 56 true (.mv (.t 17))),(Qg 59 56 true (.idx 5 (.t 57) (.t 58))),(Qh 60 56 true 0 59),(Qn 61 56 true 60),(Qg 62 56 true (.mv (.t 2))),(Qg 63 56 true (.bin .neq (.t 61) (.t 62))),(Qg 64 56 true (.mv (.t 63))),(Qg 65 64 false (.mv (.t 14))),(Qg 66 64 false (.mv (.t 17))),(Qg 67 64 false (.idx 5 (.t 65) (.t 66))),(Qh 68 64 false 1 67),(Qn 69 64 false 68),(Qg 70 64 false (.mv (.t 3))),(Qg 71 64 false (.bin .neq (.t 69) (.t 70))),(Qg 72 56 true (.pick (.t 64) (.c .tt) (.t 71))),(Qp 73 56 72)]) (.ite (.t 73) (.skip) (.exit 1))) (.blk 2 (.reg [(Qm 74 17),(Qv 75 74 1),(Qm 17 75)]))
@[go_sem] def e15:EC:=.seq (.reg [(Qx 5 25 2 0),(Qa 10 (.alloc 25 [.nl,.nl])),(Qi 11 0)]) (.seq (.reg [(Qa 21 (.build [.nl,.nl] [])),(Qa 12 (.alloc 25 [.nl,.nl])),(Qs 2 12 21)]) (.seq (.seq (.reg [(Qe 22 2 5),(Qa 23 (.call 18 [(.t 22)])),(Qa 24 (.not (.t 23)))]) (.ite (.t 24) (.seq (.reg [(Qe 25 2 12),(Qs 2 10 25),(Qi 11 160)]) (.ret)) (.skip))) (.seq (.seq (.reg [(Qe 26 2 5),(Qm 27 2),(Qa 28 (.call 51 [(.t 26),(.t 27)])),(Qa 29 (.not (.t 28))),(Qm 30 29),(Qg 31 30 false (.mv (.t 1))),(Qg 32 30 false (.bin .eql (.t 31) (.c (.iv 2)))),(Qg 33 30 false (.mv (.t 32))),(Qg 34 33 true (.loadA 2 (.t 5))),(Qg 35 33 true (.mv (.t 3))),(Qg 36 33 true (.call 51 [(.t 34),(.t 35)])),(Qg 37 33 true (.not (.t 36))),(Qg 38 30 false (.pick (.t 33) (.t 37) (.c .ff))),(Qq 39 30 38)]) (.ite (.t 39) (.seq (.reg [(Qe 40 2 12),(Qs 2 10 40),(Qi 11 161)]) (.ret)) (.skip))) (.seq (.reg [(Qm 41 2),(Qa 42 (.bsl 95 5 0 [.iv 0,.iv 0,.iv 0,.iv 0,.iv 0] [])),(Qf 43 1 5),(Ql 44 43),(Qa 45 (.app 95 5 40 (.t 42) (.t 44))),(Qm 13 41),(Qm 14 45)]) (.seq (.reg [(Qf 46 0 5),(Ql 47 46),(Qm 48 2),(Qk 49 5 47 48),(Qe 50 5 49),(Qa 15 (.alloc 63 [.iv 0,.iv 0,.nl,.iv 0,.nl])),(Qs 5 15 50),(Qi 16 0)]) (.seq (.seq (.reg [(Qm 51 1)]) (.blk 0 (.seq (.reg [(Qa 108 (.bin .eql (.t 51) (.c (.iv 0)))),(Qm 107 108)]) (.ite (.t 107) (.reg [(Qe 110 5 15),(Qm 111 4),(Qa 112 (.call 52 [(.t 110),(.t 111)])),(Qm 109 112),(Qa 113 (.ext (.t 109) 0)),(Qa 114 (.ext (.t 109) 1)),(Qs 5 15 113),(Qm 16 114)]) (.seq (.reg [(Qa 116 (.bin .eql (.t 51) (.c (.iv 1)))),(Qm 115 116)]) (.ite (.t 115) (.reg [(Qe 118 5 15),(Qa 119 (.call 53 [(.t 118)])),(Qm 117 119),(Qa 120 (.ext (.t 117) 0)),(Qa 121 (.ext (.t 117) 1)),(Qs 5 15 120),(Qm 16 121)]) (.seq (.reg [(Qi 17 0)]) (.seq (.blk 1 (.loop e15_L0)) (.seq (.seq (.reg [(Qm 76 17),(Qm 77 14),(Qa 78 (.len (.t 77))),(Qa 79 (.bin .eql (.t 76) (.t 78)))]) (.ite (.t 79) (.seq (.reg [(Qe 80 2 12),(Qs 2 10 80),(Qi 11 162)]) (.ret)) (.skip))) (.seq (.reg [(Qm 81 3),(Qm 13 81)]) (.seq (.drw [(Qf 83 0 5),(Ql 84 83),(Qm 85 3),(Qk 86 5 84 85),(Qe 87 5 86),(Qm 88 2),(Qm 89 14),(Qm 90 17),(Qk 91 5 89 90),(Qf 92 2 91),(Qe 93 3 92),(Qa 94 (.call 54 [(.t 87),(.t 88),(.t 93)])),(Qm 82 94),(Qa 95 (.ext (.t 82) 0)),(Qa 96 (.ext (.t 82) 1)),(Qs 5 15 95),(Qm 16 96)] [[],[0],[],[1,2],[3],[],[],[],[6,7],[8],[9],[4,5,10],[11],[12],[12],[13,11,0,1,2,3,4,5,6,7,8,9,10,11,12,13],[14,15,0,1,2,3,4,5,6,7,8,9,10,11,12,13,14,15]] [[1],[0,3],[3],[1,2,4],[3,11],[11],[8],[8],[6,7,9],[8,10],[9,11],[4,5,10,12],[11,13,14],[12,15],[12,16],[13],[14]]) (.drw [(Qa 97 (.bsl 95 5 0 [.iv 0,.iv 0,.iv 0,.iv 0,.iv 0] [])),(Qm 98 14),(Qm 99 17),(Qa 100 (.slice 5 (.t 98) none (some (.t 99)))),(Qa 101 (.app 95 5 40 (.t 97) (.t 100))),(Qm 102 14),(Qm 103 17),(Qv 104 103 1),(Qa 105 (.slice 5 (.t 102) (some (.t 104)) none)),(Qa 106 (.app 95 5 40 (.t 101) (.t 105))),(Qm 14 106)] [[],[],[],[1,2],[0,3],[],[],[6],[5,7],[4,8,4],[9,9,0,1,2,3,4,5,6,7,8,9]] [[4],[3,10],[3],[1,2,4],[0,3,9],[8,10],[7],[6,8],[5,7,9],[4,8,10],[1,5,9]])))))))))))) (.seq (.seq (.reg [(Qm 122 16),(Qa 123 (.bin .neq (.t 122) (.c (.iv 0))))]) (.ite (.t 123) (.seq (.reg [(Qe 124 2 12),(Qm 125 16),(Qs 2 10 124),(Qm 11 125)]) (.ret)) (.skip))) (.seq (.reg [(Qe 127 5 15),(Qa 128 (.call 55 [(.t 127)])),(Qm 126 128),(Qa 129 (.ext (.t 126) 0)),(Qa 130 (.ext (.t 126) 1)),(Qs 5 15 129),(Qm 18 130)]) (.seq (.reg [(Qm 131 14),(Qm 132 18),(Qa 133 (.app 95 5 40 (.t 131) (.t 132))),(Qa 134 (.build [.nl,.nl] [(1,1,(.t 133))])),(Qa 19 (.alloc 25 [.nl,.nl])),(Qs 2 19 134)]) (.seq (.seq (.reg [(Qi 20 0)]) (.blk 3 (.loop e15_L1))) (.seq (.reg [(Qe 161 2 19),(Qs 2 10 161),(Qi 11 0)]) (.ret))))))))))))
theorem ok15:FnOK Tryz.prog 15 Tryz.f15 e15 [.c 10 (some 2),.t 11] 5 157:=⟨by kernel_rfl,⟨_,rfl,by kernel_rfl⟩,by kernel_rfl,by kernel_rfl⟩
noncomputable def Zvp (x40:(List Mail)):(List Drinker)→Option (Bar×Int)
| x61=>
 some ((Bar.mk x61 x40),0)
noncomputable def Zwp (x47:Int):(List Drinker)→Option ((Int×(List Drinker)) ⊕ (Bar×Int))
| x52=>
 some (.inl (wr (x47+1),x52))
noncomputable def Zxp (x1:Bar) (x35:Int) (x39:(Drinker×(List Mail))) (x40:(List Mail)):(Int×(List Drinker))→Option ((Int×(List Drinker)) ⊕ (Bar×Int))
| (x47,x48)=>
 ifb (decide (x47<(ln Drinker.row x1.Drinkers))) (
 ifb (decide (x47=x35)) (
 (Z84 72 x48 ([x39.1])).bind fun x49=>
 (Zwp x47) x49) (
 (at_ x1.Drinkers x47).bind fun x50=>
 (Z84 72 x48 ([x50])).bind fun x51=>
 (Zwp x47) x51)) (
 Option.map Sum.inr ((Zvp x40) x48))
noncomputable def Zyp (x1:Bar):(Int×Int×Drinker×(List Mail))→Option (Bar×Int)
| (x35,x36,x37,x38)=>
 ifb (!decide (x36=0)) (
 some ((Bar.mk (([]:(List Drinker))) (([]:(List Mail)))),x36)) (
 (Zkp x37).bind fun x39=>
 (Z84 40 x38 x39.2).bind fun x40=>
 loop (Zxp x1 x35 x39 x40) (0,([]:List Drinker)))
noncomputable def Zzp (x1:Bar) (x3:Int) (x4:Int) (x10:(List Mail)):Int→Option (Bar×Int)
| x27=>
 ifb (decide (x27=(ln Mail.row x10))) (
 some ((Bar.mk (([]:(List Drinker))) (([]:(List Mail)))),162)) (
 (at_ x1.Drinkers x4).bind fun x28=>
 (at_ x10 x27).bind fun x29=>
 (Zmo x28 x3 x29.Msg).bind fun x30=>
 (Z94 x10 0 x27).bind fun x31=>
 (Z94 x10 (wr (x27+1)) (ln Mail.row x10)).bind fun x32=>
 (Z84 40 (([]:List Mail)) x31).bind fun x33=>
 (Z84 40 x33 x32).bind fun x34=>
 (Zyp x1) (x4,x30.2,x30.1,x34))
noncomputable def Z0q (x1:Bar) (x3:Int) (x4:Int) (x10:(List Mail)) (x17:Int):Bool→Option (Int ⊕ (Bar×Int))
| x19=>
 ifb x19 (
 some (.inl (wr (x17+1)))) (
 Option.map Sum.inr ((Zzp x1 x3 x4 x10) x17))
noncomputable def Z1q (x1:Bar) (x3:Int) (x4:Int) (x10:(List Mail)):Int→Option (Int ⊕ (Bar×Int))
| x17=>
 ifb (decide (x17<(ln Mail.row x10))) (
 (at_ x10 x17).bind fun x18=>
 ifb (!decide (x18.From=x3)) (
 (Z0q x1 x3 x4 x10 x17) true) (
 (Z0q x1 x3 x4 x10 x17) (!decide (x18.To=x4)))) (
 (Z0q x1 x3 x4 x10 x17) false)
noncomputable def Z2q (x1:Bar) (x2:Int) (x3:Int) (x4:Int) (x5:(List Int)):Bool→Option (Bar×Int)
| x9=>
 ifb x9 (
 some ((Bar.mk (([]:(List Drinker))) (([]:(List Mail)))),161)) (
 (Z84 40 (([]:List Mail)) x1.Mail).bind fun x10=>
 (at_ x1.Drinkers x3).bind fun x11=>
 ifb (decide (x2=0)) (
 (Zfo x11 x5).bind fun x12=>
 (Zyp x1) (x3,x12.2,x12.1,x10)) (
 ifb (decide (x2=1)) (
 (Zho x11).bind fun x13=>
 (Zyp x1) (x3,x13.2,x13.1,x10)) (
 loop (Z1q x1 x3 x4 x10) 0)))
noncomputable def Z3q (x1:Bar) (x2:Int) (x3:Int) (x4:Int) (x5:(List Int)):Option (Bar×Int):=
 (Zqp x1).bind fun x6=>
 ifb (!x6) (
 some ((Bar.mk (([]:(List Drinker))) (([]:(List Mail)))),160)) (
 (Ztp x1 x3).bind fun x7=>
 ifb (!x7) (
 (Z2q x1 x2 x3 x4 x5) true) (
 ifb (decide (x2=2)) (
 (Ztp x1 x4).bind fun x8=>
 (Z2q x1 x2 x3 x4 x5) (!x8)) (
 (Z2q x1 x2 x3 x4 x5) false)))
theorem Z4q (x1:Bar) (x2:Int) (x3:Int) (x4:Int) (x5:(List Int)) (r:(Bar×Int)) (h:Z3q x1 x2 x3 x4 x5=some r):Zp2 Tryz.prog 15 [.agg (Bar.row x1),.iv x2,.iv x3,.iv x4,.sl 1 (List.map Zu4 x5)] (.tup [.agg (Bar.row r.1),.iv r.2]):=by
 refine Zt2 ok15 rfl rfl fun w0 H0=>?_
 rw [Z3q] at h
 refine Zk2 16 ?_;dsimp only [go_sem];refine An ?_;obtain ⟨x6,ex6,h⟩:=Bs h;refine Zy2 trivial (Zrp x1 _ ex6) (h:=?_);refine Zk2 2 ?_;dsimp only [go_sem];refine An ?_;refine Zg4 h rfl (fun _ h=>?_) fun _ h=>?_
 ·refine Zk2 6 ?_;dsimp only [go_sem];refine An ?_;exact Zo4 (res:=fun (r:(Bar×Int))=>.tup [.agg (Bar.row r.1),.iv r.2]) ok15 h
 ·refine Zk2 6 ?_;dsimp only [go_sem];refine An ?_;obtain ⟨x7,ex7,h⟩:=Bs h;refine Zy2 trivial (Zup x1 x3 _ ex7) (h:=?_);refine Zk2 2 ?_;dsimp only [go_sem];refine An ?_;refine Ze4 (fun (x9:Bool)=>(⟨(.any :: .iv x2 :: .iv x3 :: .iv x4 :: .sl 1 (List.map Zu4 x5) :: .ptr 0 0::an 4 (.ptr 1 0 :: .any :: .ptr 2 0::an 26 (.bv x9::an 122 []))),[some ⟨25,[.sl 5 (List.map Drinker.row x1.Drinkers),.sl 5 (List.map Mail.row x1.Mail)]⟩,some ⟨25,[.nl,.nl]⟩,some ⟨25,[.nl,.nl]⟩],[]⟩:St)) (Z2q x1 x2 x3 x4 x5) r ?_ fun J1=>?_
  ·intro x9 h;rw [Z2q] at h;(try dsimp only);refine Zg4 h rfl (fun _ h=>?_) fun _ h=>?_
   ·refine Zk2 6 ?_;dsimp only [go_sem];refine An ?_;exact Zo4 (res:=fun (r:(Bar×Int))=>.tup [.agg (Bar.row r.1),.iv r.2]) ok15 h
   ·refine Zk2 7 ?_;dsimp only [go_sem];refine An ?_;obtain ⟨x10,ex10,h⟩:=Bs h;refine Zl4 Mail.row ex10 trivial rfl rfl rfl ?_;refine Zk2 8 ?_;dsimp only [go_sem];refine An ?_;obtain ⟨x11,ex11,h⟩:=Bs h;refine Zj4 Drinker.row ex11 trivial rfl rfl rfl ?_;refine Zk2 16 ?_;dsimp only [go_sem];refine An ?_
    refine Ze4 (fun ((x35,x36,x37,x38):(Int×Int×Drinker×(List Mail)))=>(⟨(an 5 (.ptr 0 0::an 4 (.ptr 1 0 :: .any :: .ptr 2 0 :: .iv x35 :: .osl 1 :: .ptr 3 0 :: .iv x36::an 145 []))),[some ⟨25,[.sl 5 (List.map Drinker.row x1.Drinkers),.sl 5 (List.map Mail.row x1.Mail)]⟩,some ⟨25,[.nl,.nl]⟩,some ⟨25,[.nl,.nl]⟩,some ⟨63,[.iv x37.Diner.ID,.iv x37.Diner.Phase,.sl 8 (List.map Side.row x37.Diner.Sides),.iv x37.Thirst,.sl 1 (List.map Zu4 x37.Need)]⟩],[none,some ⟨95,5,List.map Mail.row x38⟩]⟩:St)) (Zyp x1) r ?_ fun J2=>?_
    ·rintro ⟨x35,x36,x37,x38⟩ h;rw [Zyp] at h;(try dsimp only);refine Zk2 7 ?_;dsimp only [go_sem];refine An ?_;refine Zg4 h rfl (fun _ h=>?_) fun _ h=>?_
     ·refine Zk2 7 ?_;dsimp only [go_sem];refine An ?_;exact Zo4 (res:=fun (r:(Bar×Int))=>.tup [.agg (Bar.row r.1),.iv r.2]) ok15 h
     ·refine Zk2 4 ?_;dsimp only [go_sem];refine An ?_;obtain ⟨x39,ex39,h⟩:=Bs h;refine Zy2 trivial (Zlp x37 _ ex39) (h:=?_);refine Zk2 10 ?_;dsimp only [go_sem];refine An ?_;obtain ⟨x40,ex40,h⟩:=Bs h;refine Zl4 Mail.row ex40 trivial rfl rfl rfl ?_;refine Zk2 9 ?_;dsimp only [go_sem];refine An ?_
      refine Ze4 (fun (x61:(List Drinker))=>(⟨(an 10 (.ptr 1 0::an 8 (.ptr 4 0::an 142 []))),[none,some ⟨25,[.nl,.nl]⟩,none,none,some ⟨25,[.osl 3,.osl 2]⟩],[none,none,some ⟨95,5,List.map Mail.row x40⟩,some ⟨63,5,List.map Drinker.row x61⟩]⟩:St)) (Zvp x40) r ?_ fun J5=>?_
      ·intro x61 h;rw [Zvp] at h;(try dsimp only);refine Zk2 6 ?_;dsimp only [go_sem];refine An ?_;refine Z73 3 rfl ?_;dsimp only [go_sem];refine Z73 2 rfl ?_;dsimp only [go_sem];exact Zo4 (res:=fun (r:(Bar×Int))=>.tup [.agg (Bar.row r.1),.iv r.2]) ok15 h
      ·refine Zk2 1 ?_;dsimp only [go_sem];refine An ?_;refine Z24 4 0 63 5 rfl rfl rfl ?_;dsimp only [go_sem]
       refine Zf4 h (fun ((x47,x48):(Int×(List Drinker)))=>(⟨(an 5 (.ptr 0 0::an 4 (.ptr 1 0 :: .any :: .any :: .iv x35 :: .any :: .ptr 3 0::an 3 (.ptr 4 0 :: .iv x47::an 141 [])))),[some ⟨25,[.sl 5 (List.map Drinker.row x1.Drinkers),.sl 5 (List.map Mail.row x1.Mail)]⟩,some ⟨25,[.nl,.nl]⟩,none,some ⟨63,[.iv x39.1.Diner.ID,.iv x39.1.Diner.Phase,.sl 8 (List.map Side.row x39.1.Diner.Sides),.iv x39.1.Thirst,.sl 1 (List.map Zu4 x39.1.Need)]⟩,some ⟨25,[.osl 3,.osl 2]⟩],[none,none,some ⟨95,5,List.map Mail.row x40⟩,some ⟨63,5,List.map Drinker.row x48⟩]⟩:St)) (by simp [go_sem]) (by rintro ⟨x47,x48⟩;first | rfl | simp [go_sem]) ?_
       rintro n1 ⟨x47,x48⟩ y1 h hin1 hout1;rw [Zxp] at h;(try dsimp only);refine Zk2 9 ?_;dsimp only [go_sem];refine An ?_;refine Zg4 h rfl (fun _ h=>?_) fun _ h=>?_
       ·refine Zk2 9 ?_;dsimp only [go_sem];refine An ?_
        refine Ze4 (fun (x52:(List Drinker))=>(⟨(an 5 (.ptr 0 0::an 4 (.ptr 1 0 :: .any :: .any :: .iv x35 :: .any :: .ptr 3 0::an 3 (.ptr 4 0 :: .iv x47::an 141 [])))),[some ⟨25,[.sl 5 (List.map Drinker.row x1.Drinkers),.sl 5 (List.map Mail.row x1.Mail)]⟩,some ⟨25,[.nl,.nl]⟩,none,some ⟨63,[.iv x39.1.Diner.ID,.iv x39.1.Diner.Phase,.sl 8 (List.map Side.row x39.1.Diner.Sides),.iv x39.1.Thirst,.sl 1 (List.map Zu4 x39.1.Need)]⟩,some ⟨25,[.osl 5,.osl 2]⟩],[none,none,some ⟨95,5,List.map Mail.row x40⟩,none,none,some ⟨63,5,List.map Drinker.row x52⟩]⟩:St)) (Zwp x47) y1 ?_ fun J6=>?_
        ·intro x52 h;rw [Zwp] at h;(try dsimp only);refine Zk2 6 ?_;dsimp only [go_sem];refine An ?_;refine Z14 5 3 rfl rfl rfl ?_;dsimp only [go_sem];exact Zp4 h hin1
        ·refine Zg4 h rfl (fun _ h=>?_) fun _ h=>?_
         ·refine Zk2 5 ?_;dsimp only [go_sem];refine An ?_;obtain ⟨x49,ex49,h⟩:=Bs h;refine Zl4 Drinker.row ex49 trivial rfl rfl rfl ?_;refine Zk2 3 ?_;dsimp only [go_sem];refine An ?_;exact Zq4 J6 (s:=x49) h
         ·refine Zf3 (by kernel_rfl) fun all hall hs hnap haf=>?_;dsimp only [go_sem];refine Z55 hall hs haf hnap 4 7 ?_;dsimp only [go_sem];refine An ?_;obtain ⟨x50,ex50,h⟩:=Bs h;refine Zk4 hall hs haf hnap 5 Drinker.row ex50 rfl rfl trivial rfl rfl rfl rfl ?_;refine Z55 hall hs haf hnap 1 5 ?_;dsimp only [go_sem];refine An ?_;refine Zr3 1 7 rfl ?_ ?_
          ·refine Zv3 hall rfl trivial ?_;dsimp only [go_sem];refine Zq3 7 rfl ?_;refine Zv3 hall rfl trivial ?_;dsimp only [go_sem];refine Zq3 8 rfl ?_;obtain ⟨x51,ex51,h⟩:=Bs h;refine Zm4 Drinker.row ex51 hall rfl trivial rfl rfl rfl ?_;dsimp only [go_sem];refine Z55 hall hs haf hnap 1 1 ?_;dsimp only [go_sem];refine An ?_;refine Zq3 10 rfl ?_;refine Zv3 hall rfl trivial ?_;dsimp only [go_sem];refine Zp3 rfl ?_ _;exact Zq4 J6 (s:=x51) h
          ·refine Zv3 hall rfl trivial ?_;dsimp only [go_sem];refine Zq3 1 rfl ?_;refine Zv3 hall rfl trivial ?_;dsimp only [go_sem];refine Zq3 8 rfl ?_;obtain ⟨x51,ex51,h⟩:=Bs h;refine Zm4 Drinker.row ex51 hall rfl trivial rfl rfl rfl ?_;dsimp only [go_sem];refine Z55 hall hs haf hnap 1 1 ?_;dsimp only [go_sem];refine An ?_;refine Zq3 10 rfl ?_;refine Zv3 hall rfl trivial ?_;dsimp only [go_sem];refine Zp3 rfl ?_ _;exact Zq4 J6 (s:=x51) h
       ·refine Zk2 1 ?_;dsimp only [go_sem];refine An ?_;exact Zq4 J5 (s:=x48) (Zd4 h hout1)
    ·refine Zg4 h rfl (fun _ h=>?_) fun _ h=>?_
     ·refine Zk2 3 ?_;dsimp only [go_sem];refine An ?_;obtain ⟨x12,ex12,h⟩:=Bs h;refine Zy2 trivial (Zgo x11 x5 _ ex12) (h:=?_);refine Zk2 6 ?_;dsimp only [go_sem];refine An ?_;exact Zq4 J2 (s:=(x3,x12.2,x12.1,x10)) h
     ·refine Zk2 5 ?_;dsimp only [go_sem];refine An ?_;refine Zg4 h rfl (fun _ h=>?_) fun _ h=>?_
      ·refine Zk2 2 ?_;dsimp only [go_sem];refine An ?_;obtain ⟨x13,ex13,h⟩:=Bs h;refine Zy2 trivial (Zio x11 _ ex13) (h:=?_);refine Zk2 6 ?_;dsimp only [go_sem];refine An ?_;exact Zq4 J2 (s:=(x3,x13.2,x13.1,x10)) h
      ·refine Zk2 5 ?_;dsimp only [go_sem];refine An ?_
       refine Ze4 (fun (x27:Int)=>(⟨(.any :: .any :: .iv x3 :: .iv x4 :: .any :: .ptr 0 0::an 4 (.ptr 1 0 :: .any :: .ptr 2 0 :: .any :: .osl 1 :: .ptr 3 0 :: .any :: .iv x27::an 144 [])),[some ⟨25,[.sl 5 (List.map Drinker.row x1.Drinkers),.sl 5 (List.map Mail.row x1.Mail)]⟩,some ⟨25,[.nl,.nl]⟩,some ⟨25,[.nl,.nl]⟩,some ⟨63,[.iv x11.Diner.ID,.iv x11.Diner.Phase,.sl 8 (List.map Side.row x11.Diner.Sides),.iv x11.Thirst,.sl 1 (List.map Zu4 x11.Need)]⟩],[none,some ⟨95,5,List.map Mail.row x10⟩]⟩:St)) (Zzp x1 x3 x4 x10) r ?_ fun J3=>?_
       ·intro x27 h;rw [Zzp] at h;(try dsimp only);refine Zk2 8 ?_;dsimp only [go_sem];refine An ?_;refine Zg4 h rfl (fun _ h=>?_) fun _ h=>?_
        ·refine Zk2 6 ?_;dsimp only [go_sem];refine An ?_;exact Zo4 (res:=fun (r:(Bar×Int))=>.tup [.agg (Bar.row r.1),.iv r.2]) ok15 h
        ·refine Zk2 7 ?_;dsimp only [go_sem];refine An ?_;refine Zf3 (by kernel_rfl) fun all hall hs hnap haf=>?_;dsimp only [go_sem];refine Z65 hall hs haf hnap 6 11 [3,2,3,9] [(83,[.ptr 0 0,.sl 5 (List.map Drinker.row x1.Drinkers),.iv x4]),(2,[.iv x3,.osl 1,.iv x27])] (by kernel_rfl) ?_;dsimp only [go_sem];obtain ⟨x28,ex28,h⟩:=Bs h;refine Zk4 hall hs haf hnap 3 Drinker.row ex28 rfl rfl trivial rfl rfl rfl rfl ?_;refine Z55 hall hs haf hnap 1 9 ?_;dsimp only [go_sem];refine An ?_;obtain ⟨x29,ex29,h⟩:=Bs h;refine Zq3 8 rfl ?_
         refine GO_idxOM hall Mail.row ex29 rfl trivial rfl rfl rfl ?_;dsimp only [go_sem];refine Z55 hall hs haf hnap 1 7 ?_;dsimp only [go_sem];refine An ?_;refine Zq3 10 rfl ?_;refine GO_loadAO hall Mail.row ex29 rfl trivial rfl rfl rfl ?_;dsimp only [go_sem];refine Zq3 11 rfl ?_;obtain ⟨x30,ex30,h⟩:=Bs h;refine Zw3 hall rfl trivial (Zno x28 x3 x29.Msg _ ex30) (h:=?_);dsimp only [go_sem];refine Z55 hall hs haf hnap 3 2 ?_;dsimp only [go_sem];refine An ?_;refine Zq3 15 rfl ?_;refine Zv3 hall rfl trivial ?_;dsimp only [go_sem]
         refine Z55 hall hs haf hnap 1 0 ?_;dsimp only [go_sem];refine An ?_;refine Zp3 rfl ?_ _;refine Z73 1 rfl ?_;dsimp only [go_sem];refine Zf3 (by kernel_rfl) fun all hall hs hnap haf=>?_;dsimp only [go_sem];refine Z55 hall hs haf hnap 5 6 ?_;dsimp only [go_sem];refine An ?_;obtain ⟨x31,ex31,h⟩:=Bs h;refine Z15 hall hs haf hnap 3 Mail.row ex31 rfl rfl trivial rfl rfl rfl rfl rfl ?_;dsimp only [go_sem];obtain ⟨x32,ex32,h⟩:=Bs h;refine Z15 hall hs haf hnap 8 Mail.row ex32 rfl rfl trivial rfl rfl rfl rfl rfl ?_;dsimp only [go_sem]
         refine Zq3 0 rfl ?_;refine Zv3 hall rfl trivial ?_;dsimp only [go_sem];refine Zq3 4 rfl ?_;obtain ⟨x33,ex33,h⟩:=Bs h;refine Zm4 Mail.row ex33 hall rfl trivial rfl rfl rfl ?_;dsimp only [go_sem];refine Zq3 9 rfl ?_;obtain ⟨x34,ex34,h⟩:=Bs h;refine Zm4 Mail.row ex34 hall rfl trivial rfl rfl rfl ?_;dsimp only [go_sem];refine Z55 hall hs haf hnap 1 0 ?_;dsimp only [go_sem];refine An ?_;refine Zp3 rfl ?_ _;refine Z14 4 1 rfl rfl rfl ?_;dsimp only [go_sem];exact Zq4 J2 (s:=(x4,x30.2,x30.1,x34)) h
       ·refine Zk2 1 ?_;dsimp only [go_sem];refine An ?_
        refine Zf4 h (fun (x17:Int)=>(⟨(.any :: .any :: .iv x3 :: .iv x4 :: .any :: .ptr 0 0::an 4 (.ptr 1 0 :: .any :: .ptr 2 0 :: .any :: .osl 1 :: .ptr 3 0 :: .any :: .iv x17::an 144 [])),[some ⟨25,[.sl 5 (List.map Drinker.row x1.Drinkers),.sl 5 (List.map Mail.row x1.Mail)]⟩,some ⟨25,[.nl,.nl]⟩,some ⟨25,[.nl,.nl]⟩,some ⟨63,[.iv x11.Diner.ID,.iv x11.Diner.Phase,.sl 8 (List.map Side.row x11.Diner.Sides),.iv x11.Thirst,.sl 1 (List.map Zu4 x11.Need)]⟩],[none,some ⟨95,5,List.map Mail.row x10⟩]⟩:St)) (by simp [go_sem]) (by intro x17;first | rfl | simp [go_sem]) ?_
        rintro n1 x17 y1 h hin1 hout1;rw [Z1q] at h;(try dsimp only);refine Zk2 8 ?_;dsimp only [go_sem];refine An ?_
        refine Ze4 (fun (x19:Bool)=>(⟨(.any :: .any :: .iv x3 :: .iv x4 :: .any :: .ptr 0 0::an 4 (.ptr 1 0 :: .any :: .ptr 2 0 :: .any :: .osl 1 :: .ptr 3 0 :: .any :: .iv x17::an 55 (.bv x19::an 88 []))),[some ⟨25,[.sl 5 (List.map Drinker.row x1.Drinkers),.sl 5 (List.map Mail.row x1.Mail)]⟩,some ⟨25,[.nl,.nl]⟩,some ⟨25,[.nl,.nl]⟩,some ⟨63,[.iv x11.Diner.ID,.iv x11.Diner.Phase,.sl 8 (List.map Side.row x11.Diner.Sides),.iv x11.Thirst,.sl 1 (List.map Zu4 x11.Need)]⟩],[none,some ⟨95,5,List.map Mail.row x10⟩]⟩:St)) (Z0q x1 x3 x4 x10 x17) y1 ?_ fun J4=>?_
        ·intro x19 h;rw [Z0q] at h;(try dsimp only);refine Zg4 h rfl (fun _ h=>?_) fun _ h=>?_
         ·refine Zk2 8 ?_;dsimp only [go_sem];refine An ?_;exact Zp4 h hin1
         ·refine Zk2 1 ?_;dsimp only [go_sem];refine An ?_;exact Zq4 J3 (s:=x17) (Zd4 h hout1)
        ·refine Zn4 56 h rfl (fun _ h=>?_) fun _ h=>?_
         ·dsimp only [go_sem];refine Zk2 2 ?_;dsimp only [go_sem];refine An ?_;obtain ⟨x18,ex18,h⟩:=Bs h;refine Z85 Mail.row ex18 trivial rfl rfl rfl ?_;refine Zk2 1 ?_;dsimp only [go_sem];refine An ?_;refine Z95 Mail.row ex18 trivial rfl rfl rfl ?_;refine Zk2 3 ?_;dsimp only [go_sem];refine An ?_;refine Zn4 64 h rfl (fun _ h=>?_) fun _ h=>?_
          ·dsimp only [go_sem];refine Zk2 10 ?_;dsimp only [go_sem];refine An ?_;exact Zq4 J4 (s:=true) h
          ·dsimp only [go_sem];refine Zk2 2 ?_;dsimp only [go_sem];refine An ?_;refine Z85 Mail.row ex18 trivial rfl rfl rfl ?_;refine Zk2 1 ?_;dsimp only [go_sem];refine An ?_;refine Z95 Mail.row ex18 trivial rfl rfl rfl ?_;refine Zk2 5 ?_;dsimp only [go_sem];refine An ?_;exact Zq4 J4 (s:=!decide (x18.To=x4)) h
         ·dsimp only [go_sem];refine Zk2 18 ?_;dsimp only [go_sem];refine An ?_;exact Zq4 J4 (s:=false) h
  ·refine Zn4 30 h rfl (fun _ h=>?_) fun _ h=>?_
   ·dsimp only [go_sem];refine Zk2 10 ?_;dsimp only [go_sem];refine An ?_;exact Zq4 J1 (s:=true) h
   ·dsimp only [go_sem];refine Zk2 3 ?_;dsimp only [go_sem];refine An ?_;refine Zn4 33 h rfl (fun _ h=>?_) fun _ h=>?_
    ·dsimp only [go_sem];refine Zk2 2 ?_;dsimp only [go_sem];refine An ?_;obtain ⟨x8,ex8,h⟩:=Bs h;refine Zy2 trivial (Zup x1 x4 _ ex8) (h:=?_);refine Zk2 4 ?_;dsimp only [go_sem];refine An ?_;exact Zq4 J1 (s:=!x8) h
    ·dsimp only [go_sem];refine Zk2 7 ?_;dsimp only [go_sem];refine An ?_;exact Zq4 J1 (s:=false) h
set_option maxRecDepth 100000
set_option maxHeartbeats 4000000
@[go_sem] def e66:EC:=.seq (.reg [(Qx 2 66 8 0),(Qi 4 0)]) (.seq (.seq (.reg [(Qm 5 1),(Qa 6 (.bin .eql (.t 5) (.c (.iv 1)))),(Qm 7 6),(Qh 8 7 true 3 2),(Qn 9 7 true 8),(Qp 10 7 9),(Qm 11 10),(Qg 12 11 false (.mv (.t 1))),(Qg 13 11 false (.bin .eql (.t 12) (.c (.iv 2)))),(Qg 14 11 false (.mv (.t 13))),(Qh 15 14 true 5 2),(Qn 16 14 true 15),(Qg 17 11 false (.pick (.t 14) (.t 16) (.c .ff))),(Qq 18 11 17),(Qm 19 18),(Qg 20 19 false (.mv (.t 1))),(Qg 21 19 false (.bin .eql (.t 20) (.c (.iv 3)))),(Qg 22 19 false (.mv (.t 21))),(Qh 23 22 true 6 2),(Qn 24 22 true 23),(Qg 25 19 false (.pick (.t 22) (.t 24) (.c .ff))),(Qq 26 19 25),(Qm 27 26),(Qg 28 27 false (.mv (.t 1))),(Qg 29 27 false (.bin .eql (.t 28) (.c (.iv 4)))),(Qg 30 27 false (.mv (.t 29))),(Qh 31 30 true 7 2),(Qn 32 30 true 31),(Qg 33 27 false (.pick (.t 30) (.t 32) (.c .ff))),(Qq 34 27 33)]) (.ite (.t 34) (.seq (.reg [(Qi 4 1)]) (.ret)) (.skip))) (.seq (.reg [(Qi 4 0)]) (.ret)))
theorem ok66:FnOK Tryz.prog 66 Tryz.f66 e66 [.t 4] 2 33:=⟨by kernel_rfl,⟨_,rfl,by kernel_rfl⟩,by kernel_rfl,by kernel_rfl⟩
noncomputable def Z5q:Bool→Option Int
| x3=>
 ifb x3 (
 some 1) (
 some 0)
noncomputable def Z6q (x1:Side) (x2:Int):Option Int:=
 ifb (decide (x2=1)) (
 ifb x1.Fork (
 Z5q true) (
 ifb (decide (x2=2)) (
 ifb x1.Token (
 Z5q true) (
 ifb (decide (x2=3)) (
 ifb x1.Bottle (
 Z5q true) (
 ifb (decide (x2=4)) (
 Z5q x1.Ask) (
 Z5q false))) (
 ifb (decide (x2=4)) (
 Z5q x1.Ask) (
 Z5q false)))) (
 ifb (decide (x2=3)) (
 ifb x1.Bottle (
 Z5q true) (
 ifb (decide (x2=4)) (
 Z5q x1.Ask) (
 Z5q false))) (
 ifb (decide (x2=4)) (
 Z5q x1.Ask) (
 Z5q false))))) (
 ifb (decide (x2=2)) (
 ifb x1.Token (
 Z5q true) (
 ifb (decide (x2=3)) (
 ifb x1.Bottle (
 Z5q true) (
 ifb (decide (x2=4)) (
 Z5q x1.Ask) (
 Z5q false))) (
 ifb (decide (x2=4)) (
 Z5q x1.Ask) (
 Z5q false)))) (
 ifb (decide (x2=3)) (
 ifb x1.Bottle (
 Z5q true) (
 ifb (decide (x2=4)) (
 Z5q x1.Ask) (
 Z5q false))) (
 ifb (decide (x2=4)) (
 Z5q x1.Ask) (
 Z5q false))))
theorem Z7q (x1:Side) (x2:Int) (r:Int) (h:Z6q x1 x2=some r):Zp2 Tryz.prog 66 [.agg (Side.row x1),.iv x2] (.iv r):=by
 refine Zt2 ok66 rfl rfl fun w0 H0=>?_
 rw [Z6q] at h
 refine Zk2 11 ?_;dsimp only [go_sem];refine An ?_;refine Ze4 (fun (x3:Bool)=>(⟨(an 34 [.bv x3]),[],[]⟩:St)) Z5q r ?_ fun J1=>?_
 ·intro x3 h;rw [Z5q] at h;(try dsimp only);refine Zg4 h rfl (fun _ h=>?_) fun _ h=>?_
  ·refine Zk2 4 ?_;dsimp only [go_sem];refine An ?_;exact Zo4 (res:=fun (r:Int)=>.iv r) ok66 h
  ·refine Zk2 5 ?_;dsimp only [go_sem];refine An ?_;exact Zo4 (res:=fun (r:Int)=>.iv r) ok66 h
 ·refine Zn4 7 h rfl (fun _ h=>?_) fun _ h=>?_
  ·dsimp only [go_sem];refine Zk2 4 ?_;dsimp only [go_sem];refine An ?_;refine Zn4 11 h rfl (fun _ h=>?_) fun _ h=>?_
   ·dsimp only [go_sem];refine Zk2 24 ?_;dsimp only [go_sem];refine An ?_;exact Zq4 J1 (s:=true) h
   ·dsimp only [go_sem];refine Zk2 3 ?_;dsimp only [go_sem];refine An ?_;refine Zn4 14 h rfl (fun _ h=>?_) fun _ h=>?_
    ·dsimp only [go_sem];refine Zk2 5 ?_;dsimp only [go_sem];refine An ?_;refine Zn4 19 h rfl (fun _ h=>?_) fun _ h=>?_
     ·dsimp only [go_sem];refine Zk2 16 ?_;dsimp only [go_sem];refine An ?_;exact Zq4 J1 (s:=true) h
     ·dsimp only [go_sem];refine Zk2 3 ?_;dsimp only [go_sem];refine An ?_;refine Zn4 22 h rfl (fun _ h=>?_) fun _ h=>?_
      ·dsimp only [go_sem];refine Zk2 5 ?_;dsimp only [go_sem];refine An ?_;refine Zn4 27 h rfl (fun _ h=>?_) fun _ h=>?_
       ·dsimp only [go_sem];refine Zk2 8 ?_;dsimp only [go_sem];refine An ?_;exact Zq4 J1 (s:=true) h
       ·dsimp only [go_sem];refine Zk2 3 ?_;dsimp only [go_sem];refine An ?_;refine Zn4 30 h rfl (fun _ h=>?_) fun _ h=>?_
        ·dsimp only [go_sem];refine Zk2 5 ?_;dsimp only [go_sem];refine An ?_;exact Zq4 J1 (s:=x1.Ask) h
        ·dsimp only [go_sem];refine Zk2 5 ?_;dsimp only [go_sem];refine An ?_;exact Zq4 J1 (s:=false) h
      ·dsimp only [go_sem];refine Zk2 8 ?_;dsimp only [go_sem];refine An ?_;refine Zn4 30 h rfl (fun _ h=>?_) fun _ h=>?_
       ·dsimp only [go_sem];refine Zk2 5 ?_;dsimp only [go_sem];refine An ?_;exact Zq4 J1 (s:=x1.Ask) h
       ·dsimp only [go_sem];refine Zk2 5 ?_;dsimp only [go_sem];refine An ?_;exact Zq4 J1 (s:=false) h
    ·dsimp only [go_sem];refine Zk2 8 ?_;dsimp only [go_sem];refine An ?_;refine Zn4 22 h rfl (fun _ h=>?_) fun _ h=>?_
     ·dsimp only [go_sem];refine Zk2 5 ?_;dsimp only [go_sem];refine An ?_;refine Zn4 27 h rfl (fun _ h=>?_) fun _ h=>?_
      ·dsimp only [go_sem];refine Zk2 8 ?_;dsimp only [go_sem];refine An ?_;exact Zq4 J1 (s:=true) h
      ·dsimp only [go_sem];refine Zk2 3 ?_;dsimp only [go_sem];refine An ?_;refine Zn4 30 h rfl (fun _ h=>?_) fun _ h=>?_
       ·dsimp only [go_sem];refine Zk2 5 ?_;dsimp only [go_sem];refine An ?_;exact Zq4 J1 (s:=x1.Ask) h
       ·dsimp only [go_sem];refine Zk2 5 ?_;dsimp only [go_sem];refine An ?_;exact Zq4 J1 (s:=false) h
     ·dsimp only [go_sem];refine Zk2 8 ?_;dsimp only [go_sem];refine An ?_;refine Zn4 30 h rfl (fun _ h=>?_) fun _ h=>?_
      ·dsimp only [go_sem];refine Zk2 5 ?_;dsimp only [go_sem];refine An ?_;exact Zq4 J1 (s:=x1.Ask) h
      ·dsimp only [go_sem];refine Zk2 5 ?_;dsimp only [go_sem];refine An ?_;exact Zq4 J1 (s:=false) h
  ·dsimp only [go_sem];refine Zk2 7 ?_;dsimp only [go_sem];refine An ?_;refine Zn4 14 h rfl (fun _ h=>?_) fun _ h=>?_
   ·dsimp only [go_sem];refine Zk2 5 ?_;dsimp only [go_sem];refine An ?_;refine Zn4 19 h rfl (fun _ h=>?_) fun _ h=>?_
    ·dsimp only [go_sem];refine Zk2 16 ?_;dsimp only [go_sem];refine An ?_;exact Zq4 J1 (s:=true) h
    ·dsimp only [go_sem];refine Zk2 3 ?_;dsimp only [go_sem];refine An ?_;refine Zn4 22 h rfl (fun _ h=>?_) fun _ h=>?_
     ·dsimp only [go_sem];refine Zk2 5 ?_;dsimp only [go_sem];refine An ?_;refine Zn4 27 h rfl (fun _ h=>?_) fun _ h=>?_
      ·dsimp only [go_sem];refine Zk2 8 ?_;dsimp only [go_sem];refine An ?_;exact Zq4 J1 (s:=true) h
      ·dsimp only [go_sem];refine Zk2 3 ?_;dsimp only [go_sem];refine An ?_;refine Zn4 30 h rfl (fun _ h=>?_) fun _ h=>?_
       ·dsimp only [go_sem];refine Zk2 5 ?_;dsimp only [go_sem];refine An ?_;exact Zq4 J1 (s:=x1.Ask) h
       ·dsimp only [go_sem];refine Zk2 5 ?_;dsimp only [go_sem];refine An ?_;exact Zq4 J1 (s:=false) h
     ·dsimp only [go_sem];refine Zk2 8 ?_;dsimp only [go_sem];refine An ?_;refine Zn4 30 h rfl (fun _ h=>?_) fun _ h=>?_
      ·dsimp only [go_sem];refine Zk2 5 ?_;dsimp only [go_sem];refine An ?_;exact Zq4 J1 (s:=x1.Ask) h
      ·dsimp only [go_sem];refine Zk2 5 ?_;dsimp only [go_sem];refine An ?_;exact Zq4 J1 (s:=false) h
   ·dsimp only [go_sem];refine Zk2 8 ?_;dsimp only [go_sem];refine An ?_;refine Zn4 22 h rfl (fun _ h=>?_) fun _ h=>?_
    ·dsimp only [go_sem];refine Zk2 5 ?_;dsimp only [go_sem];refine An ?_;refine Zn4 27 h rfl (fun _ h=>?_) fun _ h=>?_
     ·dsimp only [go_sem];refine Zk2 8 ?_;dsimp only [go_sem];refine An ?_;exact Zq4 J1 (s:=true) h
     ·dsimp only [go_sem];refine Zk2 3 ?_;dsimp only [go_sem];refine An ?_;refine Zn4 30 h rfl (fun _ h=>?_) fun _ h=>?_
      ·dsimp only [go_sem];refine Zk2 5 ?_;dsimp only [go_sem];refine An ?_;exact Zq4 J1 (s:=x1.Ask) h
      ·dsimp only [go_sem];refine Zk2 5 ?_;dsimp only [go_sem];refine An ?_;exact Zq4 J1 (s:=false) h
    ·dsimp only [go_sem];refine Zk2 8 ?_;dsimp only [go_sem];refine An ?_;refine Zn4 30 h rfl (fun _ h=>?_) fun _ h=>?_
     ·dsimp only [go_sem];refine Zk2 5 ?_;dsimp only [go_sem];refine An ?_;exact Zq4 J1 (s:=x1.Ask) h
     ·dsimp only [go_sem];refine Zk2 5 ?_;dsimp only [go_sem];refine An ?_;exact Zq4 J1 (s:=false) h
set_option maxRecDepth 100000
set_option maxHeartbeats 4000000
@[go_sem] def e20_L0:EC:=.seq (.seq (.reg [(Qm 81 12),(Qf 82 1 3),(Ql 83 82),(Qa 84 (.len (.t 83))),(Qa 85 (.bin .lss (.t 81) (.t 84)))]) (.ite (.t 85) (.skip) (.exit 0))) (.seq (.blk 1 (.seq (.reg [(Qf 88 1 3),(Ql 89 88),(Qm 90 12),(Qk 91 5 89 90),(Qe 92 5 91),(Qa 13 (.alloc 95 [.iv 0,.iv 0,.iv 0,.iv 0,.iv 0])),(Qs 5 13 92)]) (.seq (.reg [(Qf 93 0 13),(Ql 94 93),(Qf 95 0 4),(Ql 96 95),(Qa 97 (.bin .eql (.t 94) (.t 96))),(Qm 98 97),(Qh 99 98 true 1 13),(Qn 100 98 true 99),(Qh 101 98 true 1 4),(Qn 102 98 true 101),(Qg 103 98 true (.bin .eql (.t 100) (.t 102))),(Qp 104 98 103),(Qm 105 104),(Qh 106 105 false 0 13),(Qn 107 105 false 106),(Qh 108 105 false 1 4),(Qn 109 105 false 108),(Qg 110 105 false (.bin .eql (.t 107) (.t 109))),(Qg 111 105 false (.mv (.t 110))),(Qh 112 111 true 1 13),(Qn 113 111 true 112),(Qh 114 111 true 0 4),(Qn 115 111 true 114),(Qg 116 111 true (.bin .eql (.t 113) (.t 115))),(Qg 117 105 false (.pick (.t 111) (.t 116) (.c .ff))),(Qq 118 105 117),(Qm 14 118)]) (.seq (.reg [(Qm 119 14),(Qm 120 119),(Qh 121 120 true 2 13),(Qh 122 120 true 0 121),(Qn 123 120 true 122),(Qg 124 120 true (.mv (.t 2))),(Qg 125 120 true (.bin .eql (.t 123) (.t 124))),(Qp 126 120 125),(Qm 127 126),(Qh 128 127 true 2 13),(Qh 129 127 true 1 128),(Qn 130 127 true 129),(Qh 131 127 true 1 7),(Qn 132 127 true 131),(Qg 133 127 true (.bin .eql (.t 130) (.t 132))),(Qp 134 127 133)]) (.ite (.t 134) (.reg [(Qm 135 11),(Qv 136 135 1),(Qm 11 136)]) (.skip)))))) (.reg [(Qm 86 12),(Qv 87 86 1),(Qm 12 87)]))
@[go_sem] def e20:EC:=.seq (.reg [(Qx 3 25 2 0),(Qx 4 30 2 1),(Qi 6 0)]) (.seq (.seq (.reg [(Qe 15 2 3),(Qf 16 0 4),(Ql 17 16),(Qa 18 (.call 51 [(.t 15),(.t 17)])),(Qa 19 (.not (.t 18))),(Qm 20 19),(Qg 21 20 false (.loadA 2 (.t 3))),(Qh 22 20 false 1 4),(Qn 23 20 false 22),(Qg 24 20 false (.call 51 [(.t 21),(.t 23)])),(Qg 25 20 false (.not (.t 24))),(Qq 26 20 25),(Qm 27 26),(Qg 28 27 false (.mv (.t 2))),(Qg 29 27 false (.bin .lss (.t 28) (.c (.iv 1)))),(Qq 30 27 29),(Qm 31 30),(Qg 32 31 false (.mv (.t 2))),(Qg 33 31 false (.bin .gtr (.t 32) (.c (.iv 4)))),(Qq 34 31 33)]) (.ite (.t 34) (.seq (.reg [(Qi 6 0)]) (.ret)) (.skip))) (.seq (.drw [(Qf 36 0 3),(Ql 37 36),(Qf 38 0 4),(Ql 39 38),(Qk 40 5 37 39),(Qf 41 0 40),(Qe 42 3 41),(Qf 43 1 4),(Ql 44 43),(Qa 45 (.call 32 [(.t 42),(.t 44)])),(Qm 35 45),(Qa 46 (.ext (.t 35) 0)),(Qa 47 (.ext (.t 35) 1)),(Qa 7 (.alloc 66 [.iv 0,.iv 0,.iv 0,.ff,.ff,.ff,.ff,.ff])),(Qs 8 7 46),(Qm 8 47)] [[],[0],[],[2],[1,3],[4],[5],[],[7],[6,8],[9],[10],[10],[],[13,11,9,0,1,2,3,4,5,6,7,8,9,10,11,13],[12,14,0,1,2,3,4,5,6,7,8,9,10,11,12,13,14]] [[1],[0,4],[3],[2,4],[1,3,5],[4,6],[5,9],[8],[7,9],[6,8,10],[9,11,12],[10,14],[10,15],[14],[11,13],[12]]) (.seq (.drw [(Qf 49 0 3),(Ql 50 49),(Qf 51 1 4),(Ql 52 51),(Qk 53 5 50 52),(Qf 54 0 53),(Qe 55 3 54),(Qf 56 0 4),(Ql 57 56),(Qa 58 (.call 32 [(.t 55),(.t 57)])),(Qm 48 58),(Qa 59 (.ext (.t 48) 0)),(Qa 60 (.ext (.t 48) 1)),(Qa 9 (.alloc 66 [.iv 0,.iv 0,.iv 0,.ff,.ff,.ff,.ff,.ff])),(Qs 8 9 59),(Qm 10 60)] [[],[0],[],[2],[1,3],[4],[5],[],[7],[6,8],[9],[10],[10],[],[13,11,9,0,1,2,3,4,5,6,7,8,9,10,11,13],[12,14,0,1,2,3,4,5,6,7,8,9,10,11,12,13,14]] [[1],[0,4],[3],[2,4],[1,3,5],[4,6],[5,9],[8],[7,9],[6,8,10],[9,11,12],[10,14],[10,15],[14],[11,13],[12]]) (.seq (.seq (.reg [(Qm 61 8),(Qa 62 (.not (.t 61))),(Qm 63 62),(Qg 64 63 false (.mv (.t 10))),(Qg 65 63 false (.not (.t 64))),(Qq 66 63 65),(Qm 67 66),(Qh 68 67 false 1 7),(Qn 69 67 false 68),(Qh 70 67 false 1 9),(Qn 71 67 false 70),(Qg 72 67 false (.bin .neq (.t 69) (.t 71))),(Qq 73 67 72)]) (.ite (.t 73) (.seq (.reg [(Qi 6 0)]) (.ret)) (.skip))) (.seq (.drw [(Qe 74 8 7),(Qm 75 2),(Qa 76 (.call 66 [(.t 74),(.t 75)])),(Qe 77 8 9),(Qm 78 2),(Qa 79 (.call 66 [(.t 77),(.t 78)])),(Qa 80 (.bin .add (.t 76) (.t 79))),(Qm 11 80)] [[],[],[0,1],[],[],[3,4,2],[2,5],[6,5,0,1,2,3,4,5,6]] [[2],[2],[0,1,6],[5],[5],[3,4,6],[2,5,7],[6]]) (.seq (.seq (.reg [(Qi 12 0)]) (.blk 0 (.loop e20_L0))) (.seq (.reg [(Qm 137 11),(Qm 6 137)]) (.ret))))))))
theorem ok20:FnOK Tryz.prog 20 Tryz.f20 e20 [.t 6] 3 135:=⟨by kernel_rfl,⟨_,rfl,by kernel_rfl⟩,by kernel_rfl,by kernel_rfl⟩
noncomputable def Z8q:Int→Option Int
| x40=>
 some x40
noncomputable def Z9q (x27:Int):Int→Option ((Int×Int) ⊕ Int)
| x31=>
 some (.inl (x31,wr (x27+1)))
noncomputable def Zaq (x26:Int) (x27:Int):Bool→Option ((Int×Int) ⊕ Int)
| x30=>
 ifb x30 (
 (Z9q x27) (wr (x26+1))) (
 (Z9q x27) x26)
noncomputable def Zbq (x3:Int) (x11:Side) (x26:Int) (x27:Int) (x28:Mail):Bool→Option ((Int×Int) ⊕ Int)
| x29=>
 ifb x29 (
 ifb (decide (x28.Msg.Kind=x3)) (
 (Zaq x26 x27) (decide (x28.Msg.Epoch=x11.Epoch))) (
 (Zaq x26 x27) false)) (
 (Zaq x26 x27) false)
noncomputable def Zcq (x1:Bar) (x2:Edge) (x3:Int) (x11:Side):(Int×Int)→Option ((Int×Int) ⊕ Int)
| (x26,x27)=>
 ifb (decide (x27<(ln Mail.row x1.Mail))) (
 (at_ x1.Mail x27).bind fun x28=>
 ifb (decide (x28.From=x2.A)) (
 ifb (decide (x28.To=x2.B)) (
 (Zbq x3 x11 x26 x27 x28) true) (
 ifb (decide (x28.From=x2.B)) (
 (Zbq x3 x11 x26 x27 x28) (decide (x28.To=x2.A))) (
 (Zbq x3 x11 x26 x27 x28) false))) (
 ifb (decide (x28.From=x2.B)) (
 (Zbq x3 x11 x26 x27 x28) (decide (x28.To=x2.A))) (
 (Zbq x3 x11 x26 x27 x28) false))) (
 Option.map Sum.inr (Z8q x26))
noncomputable def Zdq (x1:Bar) (x2:Edge) (x3:Int) (x11:Side) (x16:Side):Bool→Option Int
| x17=>
 ifb x17 (
 some 0) (
 (Z6q x11 x3).bind fun x18=>
 (Z6q x16 x3).bind fun x19=>
 loop (Zcq x1 x2 x3 x11) (wr (x18+x19),0))
noncomputable def Zeq (x1:Bar) (x2:Edge) (x3:Int) (x10:Bool) (x11:Side):(Bool×Side)→Option Int
| (x15,x16)=>
 ifb (!x10) (
 (Zdq x1 x2 x3 x11 x16) true) (
 ifb (!x15) (
 (Zdq x1 x2 x3 x11 x16) true) (
 (Zdq x1 x2 x3 x11 x16) (!decide (x11.Epoch=x16.Epoch))))
noncomputable def Zfq (x1:Bar) (x2:Edge) (x3:Int):(Bool×Side)→Option Int
| (x10,x11)=>
 (at_ x1.Drinkers x2.B).bind fun x12=>
 (Zx7 x12.Diner x2.A).bind fun x13=>
 (Zeq x1 x2 x3 x10 x11) (x13.2,x13.1)
noncomputable def Zgq (x1:Bar) (x2:Edge) (x3:Int):Bool→Option Int
| x6=>
 ifb x6 (
 some 0) (
 (at_ x1.Drinkers x2.A).bind fun x7=>
 (Zx7 x7.Diner x2.B).bind fun x8=>
 (Zfq x1 x2 x3) (x8.2,x8.1))
noncomputable def Zhq (x1:Bar) (x2:Edge) (x3:Int):Option Int:=
 (Ztp x1 x2.A).bind fun x4=>
 ifb (!x4) (
 (Zgq x1 x2 x3) true) (
 (Ztp x1 x2.B).bind fun x5=>
 ifb (!x5) (
 (Zgq x1 x2 x3) true) (
 ifb (decide (x3<1)) (
 (Zgq x1 x2 x3) true) (
 (Zgq x1 x2 x3) (decide (4<x3)))))
theorem Ziq (x1:Bar) (x2:Edge) (x3:Int) (r:Int) (h:Zhq x1 x2 x3=some r):Zp2 Tryz.prog 20 [.agg (Bar.row x1),.agg (Edge.row x2),.iv x3] (.iv r):=by
 refine Zt2 ok20 rfl rfl fun w0 H0=>?_
 rw [Zhq] at h
 refine Zk2 12 ?_;dsimp only [go_sem];refine An ?_;obtain ⟨x4,ex4,h⟩:=Bs h;refine Zy2 trivial (Zup x1 x2.A _ ex4) (h:=?_);refine Zk2 2 ?_;dsimp only [go_sem];refine An ?_;refine Ze4 (fun (x6:Bool)=>(⟨(.any :: .any :: .iv x3 :: .ptr 0 0 :: .ptr 1 0::an 29 (.bv x6::an 103 [])),[some ⟨25,[.sl 5 (List.map Drinker.row x1.Drinkers),.sl 5 (List.map Mail.row x1.Mail)]⟩,some ⟨30,[.iv x2.A,.iv x2.B]⟩],[]⟩:St)) (Zgq x1 x2 x3) r ?_ fun J1=>?_
 ·intro x6 h;rw [Zgq] at h;(try dsimp only);refine Zg4 h rfl (fun _ h=>?_) fun _ h=>?_
  ·refine Zk2 4 ?_;dsimp only [go_sem];refine An ?_;exact Zo4 (res:=fun (r:Int)=>.iv r) ok20 h
  ·refine Zk2 2 ?_;dsimp only [go_sem];refine An ?_;refine Ze4 (fun ((x10,x11):(Bool×Side))=>(⟨(.any :: .any :: .iv x3 :: .ptr 0 0 :: .ptr 1 0 :: .any :: .any :: .ptr 2 0 :: .bv x10::an 129 []),[some ⟨25,[.sl 5 (List.map Drinker.row x1.Drinkers),.sl 5 (List.map Mail.row x1.Mail)]⟩,some ⟨30,[.iv x2.A,.iv x2.B]⟩,some ⟨66,[.iv x11.Peer,.iv x11.Epoch,.iv x11.State,.bv x11.Fork,.bv x11.Dirty,.bv x11.Token,.bv x11.Bottle,.bv x11.Ask]⟩],[]⟩:St)) (Zfq x1 x2 x3) r ?_ fun J2=>?_
   ·rintro ⟨x10,x11⟩ h;rw [Zfq] at h;(try dsimp only);refine Zk2 1 ?_;dsimp only [go_sem];refine An ?_
    refine Ze4 (fun ((x15,x16):(Bool×Side))=>(⟨(.any :: .any :: .iv x3 :: .ptr 0 0 :: .ptr 1 0 :: .any :: .any :: .ptr 2 0 :: .bv x10 :: .ptr 3 0 :: .bv x15::an 127 []),[some ⟨25,[.sl 5 (List.map Drinker.row x1.Drinkers),.sl 5 (List.map Mail.row x1.Mail)]⟩,some ⟨30,[.iv x2.A,.iv x2.B]⟩,some ⟨66,[.iv x11.Peer,.iv x11.Epoch,.iv x11.State,.bv x11.Fork,.bv x11.Dirty,.bv x11.Token,.bv x11.Bottle,.bv x11.Ask]⟩,some ⟨66,[.iv x16.Peer,.iv x16.Epoch,.iv x16.State,.bv x16.Fork,.bv x16.Dirty,.bv x16.Token,.bv x16.Bottle,.bv x16.Ask]⟩],[]⟩:St)) (Zeq x1 x2 x3 x10 x11) r ?_ fun J3=>?_
    ·rintro ⟨x15,x16⟩ h;rw [Zeq] at h;(try dsimp only);refine Zk2 6 ?_;dsimp only [go_sem];refine An ?_
     refine Ze4 (fun (x17:Bool)=>(⟨(.any :: .any :: .iv x3 :: .ptr 0 0 :: .ptr 1 0 :: .any :: .any :: .ptr 2 0 :: .any :: .ptr 3 0::an 63 (.bv x17::an 64 [])),[some ⟨25,[.sl 5 (List.map Drinker.row x1.Drinkers),.sl 5 (List.map Mail.row x1.Mail)]⟩,some ⟨30,[.iv x2.A,.iv x2.B]⟩,some ⟨66,[.iv x11.Peer,.iv x11.Epoch,.iv x11.State,.bv x11.Fork,.bv x11.Dirty,.bv x11.Token,.bv x11.Bottle,.bv x11.Ask]⟩,some ⟨66,[.iv x16.Peer,.iv x16.Epoch,.iv x16.State,.bv x16.Fork,.bv x16.Dirty,.bv x16.Token,.bv x16.Bottle,.bv x16.Ask]⟩],[]⟩:St)) (Zdq x1 x2 x3 x11 x16) r ?_ fun J4=>?_
     ·intro x17 h;rw [Zdq] at h;(try dsimp only);refine Zg4 h rfl (fun _ h=>?_) fun _ h=>?_
      ·refine Zk2 4 ?_;dsimp only [go_sem];refine An ?_;exact Zo4 (res:=fun (r:Int)=>.iv r) ok20 h
      ·refine Zk2 2 ?_;dsimp only [go_sem];refine An ?_;refine Zf3 (by kernel_rfl) fun all hall hs hnap haf=>?_;dsimp only [go_sem];refine Z55 hall hs haf hnap 4 4 ?_;dsimp only [go_sem];refine An ?_;refine Zq3 2 rfl ?_;obtain ⟨x18,ex18,h⟩:=Bs h;refine Zw3 hall rfl trivial (Z7q x11 x3 _ ex18) (h:=?_);dsimp only [go_sem];refine Zq3 5 rfl ?_;obtain ⟨x19,ex19,h⟩:=Bs h;refine Zw3 hall rfl trivial (Z7q x16 x3 _ ex19) (h:=?_);dsimp only [go_sem];refine Z55 hall hs haf hnap 2 0 ?_;dsimp only [go_sem];refine An ?_
       refine Zp3 rfl ?_ _;refine Zk2 5 ?_;dsimp only [go_sem];refine An ?_;refine Ze4 (fun (x40:Int)=>(⟨(an 11 (.iv x40::an 126 [])),[],[]⟩:St)) Z8q r ?_ fun J5=>?_
       ·intro x40 h;rw [Z8q] at h;(try dsimp only);refine Zk2 5 ?_;dsimp only [go_sem];refine An ?_;exact Zo4 (res:=fun (r:Int)=>.iv r) ok20 h
       ·refine Zk2 1 ?_;dsimp only [go_sem];refine An ?_;refine Zf4 h (fun ((x26,x27):(Int×Int))=>(⟨(.any :: .any :: .iv x3 :: .ptr 0 0 :: .ptr 1 0 :: .any :: .any :: .ptr 2 0::an 3 (.iv x26 :: .iv x27::an 125 [])),[some ⟨25,[.sl 5 (List.map Drinker.row x1.Drinkers),.sl 5 (List.map Mail.row x1.Mail)]⟩,some ⟨30,[.iv x2.A,.iv x2.B]⟩,some ⟨66,[.iv x11.Peer,.iv x11.Epoch,.iv x11.State,.bv x11.Fork,.bv x11.Dirty,.bv x11.Token,.bv x11.Bottle,.bv x11.Ask]⟩],[]⟩:St)) (by simp [go_sem]) (by rintro ⟨x26,x27⟩;first | rfl | simp [go_sem]) ?_
        rintro n1 ⟨x26,x27⟩ y1 h hin1 hout1;rw [Zcq] at h;(try dsimp only);refine Zk2 9 ?_;dsimp only [go_sem];refine An ?_;refine Zg4 h rfl (fun _ h=>?_) fun _ h=>?_
        ·refine Zk2 8 ?_;dsimp only [go_sem];refine An ?_;obtain ⟨x28,ex28,h⟩:=Bs h;refine Zj4 Mail.row ex28 trivial rfl rfl rfl ?_;refine Zk2 12 ?_;dsimp only [go_sem];refine An ?_
         refine Ze4 (fun (x29:Bool)=>(⟨(.any :: .any :: .iv x3 :: .ptr 0 0 :: .ptr 1 0 :: .any :: .any :: .ptr 2 0::an 3 (.iv x26 :: .iv x27 :: .ptr 3 0 :: .bv x29::an 123 [])),[some ⟨25,[.sl 5 (List.map Drinker.row x1.Drinkers),.sl 5 (List.map Mail.row x1.Mail)]⟩,some ⟨30,[.iv x2.A,.iv x2.B]⟩,some ⟨66,[.iv x11.Peer,.iv x11.Epoch,.iv x11.State,.bv x11.Fork,.bv x11.Dirty,.bv x11.Token,.bv x11.Bottle,.bv x11.Ask]⟩,some ⟨95,[.iv x28.From,.iv x28.To,.iv x28.Msg.Kind,.iv x28.Msg.Epoch,.iv x28.Msg.Num]⟩],[]⟩:St)) (Zbq x3 x11 x26 x27 x28) y1 ?_ fun J6=>?_
         ·intro x29 h;rw [Zbq] at h;(try dsimp only);refine Zk2 4 ?_;dsimp only [go_sem];refine An ?_
          refine Ze4 (fun (x30:Bool)=>(⟨(.any :: .any :: .iv x3 :: .ptr 0 0 :: .ptr 1 0 :: .any :: .any :: .ptr 2 0::an 3 (.iv x26 :: .iv x27::an 121 (.bv x30::an 3 []))),[some ⟨25,[.sl 5 (List.map Drinker.row x1.Drinkers),.sl 5 (List.map Mail.row x1.Mail)]⟩,some ⟨30,[.iv x2.A,.iv x2.B]⟩,some ⟨66,[.iv x11.Peer,.iv x11.Epoch,.iv x11.State,.bv x11.Fork,.bv x11.Dirty,.bv x11.Token,.bv x11.Bottle,.bv x11.Ask]⟩],[]⟩:St)) (Zaq x26 x27) y1 ?_ fun J7=>?_
          ·intro x30 h;rw [Zaq] at h;(try dsimp only);refine Ze4 (fun (x31:Int)=>(⟨(.any :: .any :: .iv x3 :: .ptr 0 0 :: .ptr 1 0 :: .any :: .any :: .ptr 2 0::an 3 (.iv x31 :: .iv x27::an 125 [])),[some ⟨25,[.sl 5 (List.map Drinker.row x1.Drinkers),.sl 5 (List.map Mail.row x1.Mail)]⟩,some ⟨30,[.iv x2.A,.iv x2.B]⟩,some ⟨66,[.iv x11.Peer,.iv x11.Epoch,.iv x11.State,.bv x11.Fork,.bv x11.Dirty,.bv x11.Token,.bv x11.Bottle,.bv x11.Ask]⟩],[]⟩:St)) (Z9q x27) y1 ?_ fun J8=>?_
           ·intro x31 h;rw [Z9q] at h;(try dsimp only);refine Zk2 6 ?_;dsimp only [go_sem];refine An ?_;exact Zp4 h hin1
           ·refine Zg4 h rfl (fun _ h=>?_) fun _ h=>?_
            ·refine Zk2 5 ?_;dsimp only [go_sem];refine An ?_;exact Zq4 J8 (s:=wr (x26+1)) h
            ·refine Zk2 1 ?_;dsimp only [go_sem];refine An ?_;exact Zq4 J8 (s:=x26) h
          ·refine Zn4 120 h rfl (fun _ h=>?_) fun _ h=>?_
           ·dsimp only [go_sem];refine Zk2 7 ?_;dsimp only [go_sem];refine An ?_;refine Zn4 127 h rfl (fun _ h=>?_) fun _ h=>?_
            ·dsimp only [go_sem];refine Zk2 8 ?_;dsimp only [go_sem];refine An ?_;exact Zq4 J7 (s:=decide (x28.Msg.Epoch=x11.Epoch)) h
            ·dsimp only [go_sem];refine Zk2 8 ?_;dsimp only [go_sem];refine An ?_;exact Zq4 J7 (s:=false) h
           ·dsimp only [go_sem];refine Zk2 15 ?_;dsimp only [go_sem];refine An ?_;exact Zq4 J7 (s:=false) h
         ·refine Zn4 98 h rfl (fun _ h=>?_) fun _ h=>?_
          ·dsimp only [go_sem];refine Zk2 7 ?_;dsimp only [go_sem];refine An ?_;refine Zn4 105 h rfl (fun _ h=>?_) fun _ h=>?_
           ·dsimp only [go_sem];refine Zk2 15 ?_;dsimp only [go_sem];refine An ?_;exact Zq4 J6 (s:=true) h
           ·dsimp only [go_sem];refine Zk2 6 ?_;dsimp only [go_sem];refine An ?_;refine Zn4 111 h rfl (fun _ h=>?_) fun _ h=>?_
            ·dsimp only [go_sem];refine Zk2 9 ?_;dsimp only [go_sem];refine An ?_;exact Zq4 J6 (s:=decide (x28.To=x2.A)) h
            ·dsimp only [go_sem];refine Zk2 9 ?_;dsimp only [go_sem];refine An ?_;exact Zq4 J6 (s:=false) h
          ·dsimp only [go_sem];refine Zk2 13 ?_;dsimp only [go_sem];refine An ?_;refine Zn4 111 h rfl (fun _ h=>?_) fun _ h=>?_
           ·dsimp only [go_sem];refine Zk2 9 ?_;dsimp only [go_sem];refine An ?_;exact Zq4 J6 (s:=decide (x28.To=x2.A)) h
           ·dsimp only [go_sem];refine Zk2 9 ?_;dsimp only [go_sem];refine An ?_;exact Zq4 J6 (s:=false) h
        ·refine Zk2 1 ?_;dsimp only [go_sem];refine An ?_;exact Zq4 J5 (s:=x26) (Zd4 h hout1)
     ·refine Zn4 63 h rfl (fun _ h=>?_) fun _ h=>?_
      ·dsimp only [go_sem];refine Zk2 11 ?_;dsimp only [go_sem];refine An ?_;exact Zq4 J4 (s:=true) h
      ·dsimp only [go_sem];refine Zk2 4 ?_;dsimp only [go_sem];refine An ?_;refine Zn4 67 h rfl (fun _ h=>?_) fun _ h=>?_
       ·dsimp only [go_sem];refine Zk2 7 ?_;dsimp only [go_sem];refine An ?_;exact Zq4 J4 (s:=true) h
       ·dsimp only [go_sem];refine Zk2 7 ?_;dsimp only [go_sem];refine An ?_;exact Zq4 J4 (s:=!decide (x11.Epoch=x16.Epoch)) h
    ·refine Zf3 (by kernel_rfl) fun all hall hs hnap haf=>?_;dsimp only [go_sem];refine Z65 hall hs haf hnap 6 10 [4,3,2,7] [(49,[.ptr 0 0,.sl 5 (List.map Drinker.row x1.Drinkers),.ptr 1 1,.iv x2.B]),(3,[.ptr 1 0,.iv x2.A])] (by kernel_rfl) ?_;dsimp only [go_sem];obtain ⟨x12,ex12,h⟩:=Bs h;refine Zk4 hall hs haf hnap 4 Drinker.row ex12 rfl rfl trivial rfl rfl rfl rfl ?_;refine Z55 hall hs haf hnap 2 7 ?_;dsimp only [go_sem];refine An ?_;obtain ⟨x13,ex13,h⟩:=Bs h;refine Zr3 9 13 rfl ?_ ?_
     ·refine Zw3 hall rfl trivial (Zy7 x12.Diner x2.A _ ex13) (h:=?_);dsimp only [go_sem];refine Z55 hall hs haf hnap 3 3 ?_;dsimp only [go_sem];refine An ?_;refine Zq3 13 rfl ?_;refine Zv3 hall rfl trivial ?_;dsimp only [go_sem];refine Zq3 14 rfl ?_;refine Zv3 hall rfl trivial ?_;dsimp only [go_sem];refine Z55 hall hs haf hnap 1 0 ?_;dsimp only [go_sem];refine An ?_;refine Zp3 rfl ?_ _;exact Zq4 J3 (s:=(x13.2,x13.1)) h
     ·refine Zv3 hall rfl trivial ?_;dsimp only [go_sem];refine Zq3 9 rfl ?_;refine Zw3 hall rfl trivial (Zy7 x12.Diner x2.A _ ex13) (h:=?_);dsimp only [go_sem];refine Z55 hall hs haf hnap 3 2 ?_;dsimp only [go_sem];refine An ?_;refine Zq3 14 rfl ?_;refine Zv3 hall rfl trivial ?_;dsimp only [go_sem];refine Z55 hall hs haf hnap 1 0 ?_;dsimp only [go_sem];refine An ?_;refine Zp3 rfl ?_ _;exact Zq4 J3 (s:=(x13.2,x13.1)) h
   ·refine Zf3 (by kernel_rfl) fun all hall hs hnap haf=>?_;dsimp only [go_sem];refine Z65 hall hs haf hnap 6 10 [4,3,2,7] [(36,[.ptr 0 0,.sl 5 (List.map Drinker.row x1.Drinkers),.ptr 1 0,.iv x2.A]),(3,[.ptr 1 1,.iv x2.B])] (by kernel_rfl) ?_;dsimp only [go_sem];obtain ⟨x7,ex7,h⟩:=Bs h;refine Zk4 hall hs haf hnap 4 Drinker.row ex7 rfl rfl trivial rfl rfl rfl rfl ?_;refine Z55 hall hs haf hnap 2 7 ?_;dsimp only [go_sem];refine An ?_;obtain ⟨x8,ex8,h⟩:=Bs h;refine Zr3 9 13 rfl ?_ ?_
    ·refine Zw3 hall rfl trivial (Zy7 x7.Diner x2.B _ ex8) (h:=?_);dsimp only [go_sem];refine Z55 hall hs haf hnap 3 3 ?_;dsimp only [go_sem];refine An ?_;refine Zq3 13 rfl ?_;refine Zv3 hall rfl trivial ?_;dsimp only [go_sem];refine Zq3 14 rfl ?_;refine Zv3 hall rfl trivial ?_;dsimp only [go_sem];refine Z55 hall hs haf hnap 1 0 ?_;dsimp only [go_sem];refine An ?_;refine Zp3 rfl ?_ _;exact Zq4 J2 (s:=(x8.2,x8.1)) h
    ·refine Zv3 hall rfl trivial ?_;dsimp only [go_sem];refine Zq3 9 rfl ?_;refine Zw3 hall rfl trivial (Zy7 x7.Diner x2.B _ ex8) (h:=?_);dsimp only [go_sem];refine Z55 hall hs haf hnap 3 2 ?_;dsimp only [go_sem];refine An ?_;refine Zq3 14 rfl ?_;refine Zv3 hall rfl trivial ?_;dsimp only [go_sem];refine Z55 hall hs haf hnap 1 0 ?_;dsimp only [go_sem];refine An ?_;refine Zp3 rfl ?_ _;exact Zq4 J2 (s:=(x8.2,x8.1)) h
 ·refine Zn4 20 h rfl (fun _ h=>?_) fun _ h=>?_
  ·dsimp only [go_sem];refine Zk2 15 ?_;dsimp only [go_sem];refine An ?_;exact Zq4 J1 (s:=true) h
  ·dsimp only [go_sem];refine Zk2 3 ?_;dsimp only [go_sem];refine An ?_;obtain ⟨x5,ex5,h⟩:=Bs h;refine Zy2 trivial (Zup x1 x2.B _ ex5) (h:=?_);refine Zk2 3 ?_;dsimp only [go_sem];refine An ?_;refine Zn4 27 h rfl (fun _ h=>?_) fun _ h=>?_
   ·dsimp only [go_sem];refine Zk2 8 ?_;dsimp only [go_sem];refine An ?_;exact Zq4 J1 (s:=true) h
   ·dsimp only [go_sem];refine Zk2 4 ?_;dsimp only [go_sem];refine An ?_;refine Zn4 31 h rfl (fun _ h=>?_) fun _ h=>?_
    ·dsimp only [go_sem];refine Zk2 4 ?_;dsimp only [go_sem];refine An ?_;exact Zq4 J1 (s:=true) h
    ·dsimp only [go_sem];refine Zk2 4 ?_;dsimp only [go_sem];refine An ?_;exact Zq4 J1 (s:=decide (4<x3)) h
set_option maxRecDepth 100000
set_option maxHeartbeats 4000000
@[go_sem] def e23_L0:EC:=.seq (.seq (.reg [(Qm 8 6),(Qf 9 0 2),(Ql 10 9),(Qa 11 (.len (.t 10))),(Qa 12 (.bin .lss (.t 8) (.t 11)))]) (.ite (.t 12) (.skip) (.exit 0))) (.seq (.blk 1 (.seq (.reg [(Qf 15 0 2),(Ql 16 15),(Qm 17 6),(Qk 18 5 16 17),(Qf 19 3 18),(Ql 20 19),(Qm 21 1),(Qa 22 (.bin .eql (.t 20) (.t 21)))]) (.ite (.t 22) (.reg [(Qm 23 5),(Qf 24 0 2),(Ql 25 24),(Qm 26 6),(Qk 27 5 25 26),(Qf 28 0 27),(Qf 29 0 28),(Ql 30 29),(Qa 31 (.bsl 3 1 1 [.iv 0] [(0,(.t 30))])),(Qa 32 (.app 3 1 8 (.t 23) (.t 31))),(Qm 5 32)]) (.skip)))) (.reg [(Qm 13 6),(Qv 14 13 1),(Qm 6 14)]))
@[go_sem] def e23:EC:=.seq (.reg [(Qx 2 25 2 0),(Qa 4 (.mv (.c .nl)))]) (.seq (.reg [(Qa 7 (.bsl 3 1 0 [.iv 0] [])),(Qm 5 7)]) (.seq (.seq (.reg [(Qi 6 0)]) (.blk 0 (.loop e23_L0))) (.seq (.reg [(Qm 33 5),(Qm 4 33)]) (.ret))))
theorem ok23:FnOK Tryz.prog 23 Tryz.f23 e23 [.t 4] 2 32:=⟨by kernel_rfl,⟨_,rfl,by kernel_rfl⟩,by kernel_rfl,by kernel_rfl⟩
noncomputable def Zjq:(List Int)→Option (List Int)
| x21=>
 some x21
noncomputable def Zkq (x9:Int):(List Int)→Option ((Int×(List Int)) ⊕ (List Int))
| x14=>
 some (.inl (wr (x9+1),x14))
noncomputable def Zlq (x1:Bar) (x2:Int):(Int×(List Int))→Option ((Int×(List Int)) ⊕ (List Int))
| (x9,x10)=>
 ifb (decide (x9<(ln Drinker.row x1.Drinkers))) (
 (at_ x1.Drinkers x9).bind fun x11=>
 ifb (decide (x11.Thirst=x2)) (
 (at_ x1.Drinkers x9).bind fun x12=>
 (Z84 8 x10 ([x12.Diner.ID])).bind fun x13=>
 (Zkq x9) x13) (
 (Zkq x9) x10)) (
 Option.map Sum.inr (Zjq x10))
noncomputable def Zmq (x1:Bar) (x2:Int):Option (List Int):=
 loop (Zlq x1 x2) (0,([]:List Int))
theorem Znq (x1:Bar) (x2:Int) (r:(List Int)) (h:Zmq x1 x2=some r):FunO Tryz.prog 23 [.agg (Bar.row x1),.iv x2] 3 1 (List.map Zu4 r):=by
 refine Z25 ok23 rfl fun w0 H0=>?_
 rw [Zmq] at h
 refine Zk2 15 ?_;dsimp only [go_sem];refine An ?_;refine Ze4 (fun (x21:(List Int))=>(⟨(an 5 (.osl 0::an 28 [])),[],[some ⟨3,1,List.map Zu4 x21⟩]⟩:St)) Zjq r ?_ fun J1=>?_
 ·intro x21 h;rw [Zjq] at h;(try dsimp only);refine Zk2 5 ?_;dsimp only [go_sem];refine An ?_;exact Z75 Zu4 ok23 h rfl rfl
 ·refine Zk2 1 ?_;dsimp only [go_sem];refine An ?_;refine Zf4 h (fun ((x9,x10):(Int×(List Int)))=>(⟨(.any :: .iv x2 :: .ptr 0 0 :: .any :: .any :: .osl 0 :: .iv x9::an 27 []),[some ⟨25,[.sl 5 (List.map Drinker.row x1.Drinkers),.sl 5 (List.map Mail.row x1.Mail)]⟩],[some ⟨3,1,List.map Zu4 x10⟩]⟩:St)) (by simp [go_sem]) (by rintro ⟨x9,x10⟩;first | rfl | simp [go_sem]) ?_;rintro n1 ⟨x9,x10⟩ y1 h hin1 hout1;rw [Zlq] at h;(try dsimp only);refine Zk2 9 ?_;dsimp only [go_sem];refine An ?_;refine Zg4 h rfl (fun _ h=>?_) fun _ h=>?_
  ·refine Zk2 8 ?_;dsimp only [go_sem];refine An ?_;obtain ⟨x11,ex11,h⟩:=Bs h;refine Zj4 Drinker.row ex11 trivial rfl rfl rfl ?_;refine Zk2 5 ?_;dsimp only [go_sem];refine An ?_;refine Ze4 (fun (x14:(List Int))=>(⟨(.any :: .iv x2 :: .ptr 0 0 :: .any :: .any :: .osl 0 :: .iv x9::an 27 []),[some ⟨25,[.sl 5 (List.map Drinker.row x1.Drinkers),.sl 5 (List.map Mail.row x1.Mail)]⟩],[some ⟨3,1,List.map Zu4 x14⟩]⟩:St)) (Zkq x9) y1 ?_ fun J2=>?_
   ·intro x14 h;rw [Zkq] at h;(try dsimp only);refine Zk2 6 ?_;dsimp only [go_sem];refine An ?_;exact Zp4 h hin1
   ·refine Zg4 h rfl (fun _ h=>?_) fun _ h=>?_
    ·refine Zk2 5 ?_;dsimp only [go_sem];refine An ?_;obtain ⟨x12,ex12,h⟩:=Bs h;refine Zj4 Drinker.row ex12 trivial rfl rfl rfl ?_;refine Zk2 4 ?_;dsimp only [go_sem];refine An ?_;obtain ⟨x13,ex13,h⟩:=Bs h;refine Zl4 Zu4 ex13 trivial rfl rfl rfl ?_;refine Zk2 2 ?_;dsimp only [go_sem];refine An ?_;refine Z14 2 0 rfl rfl rfl ?_;dsimp only [go_sem];exact Zq4 J2 (s:=x13) h
    ·refine Zk2 1 ?_;dsimp only [go_sem];refine An ?_;exact Zq4 J2 (s:=x10) h
  ·refine Zk2 1 ?_;dsimp only [go_sem];refine An ?_;exact Zq4 J1 (s:=x10) (Zd4 h hout1)
theorem Zoq (x1:Bar) (x2:Int) (r:(List Int)) (h:Zmq x1 x2=some r):Zp2 Tryz.prog 23 [.agg (Bar.row x1),.iv x2] (.sl 1 (List.map Zu4 r)):=(Znq x1 x2 r h).sealed
set_option maxRecDepth 100000
set_option maxHeartbeats 4000000
@[go_sem] def e3:EC:=.seq (.reg [(Qx 5 25 2 0),(Qx 6 28 4 1),(Qx 7 30 2 2),(Qa 10 (.mv (.c .ff)))]) (.seq (.seq (.reg [(Qa 15 (.call 11 [])),(Qa 16 (.not (.t 15))),(Qm 17 16),(Qg 18 17 false (.loadA 2 (.t 5))),(Qg 19 17 false (.call 12 [(.t 18)])),(Qg 20 17 false (.not (.t 19))),(Qq 21 17 20),(Qm 22 21),(Qh 23 22 false 3 6),(Qn 24 22 false 23),(Qg 25 22 false (.len (.t 24))),(Qg 26 22 false (.bin .gtr (.t 25) (.c (.iv 24)))),(Qq 27 22 26)]) (.ite (.t 27) (.seq (.reg [(Qa 28 (.call 11 [])),(Qm 10 28)]) (.ret)) (.skip))) (.seq (.reg [(Qf 29 0 6),(Ql 30 29),(Qa 31 (.mm true [(.t 30),(.c (.iv 0))])),(Qa 32 (.mm false [(.t 31),(.c (.iv 2))])),(Qf 33 0 6),(Qs 1 33 32)]) (.seq (.drw [(Qe 35 2 5),(Qa 36 (.call 14 [(.t 35)])),(Qe 37 4 6),(Qa 38 (.call 13 [(.t 36),(.t 37)])),(Qm 34 38),(Qa 39 (.ext (.t 34) 0)),(Qa 40 (.ext (.t 34) 1)),(Qa 11 (.alloc 25 [.nl,.nl])),(Qs 2 11 39),(Qm 12 40)] [[],[0],[],[1,2,1],[3],[4],[4],[],[7,5,3,0,1,2,3,4,5,7],[6,8,0,1,2,3,4,5,6,7,8]] [[1],[0,3],[3],[1,2,4],[3,5,6],[4,8],[4,9],[8],[5,7],[6]]) (.seq (.reg [(Qe 42 2 5),(Qf 43 0 6),(Ql 44 43),(Qf 45 1 6),(Ql 46 45),(Qf 47 2 6),(Ql 48 47),(Qf 49 3 6),(Ql 50 49),(Qa 51 (.call 15 [(.t 42),(.t 44),(.t 46),(.t 48),(.t 50)])),(Qm 41 51),(Qa 52 (.ext (.t 41) 0)),(Qa 53 (.ext (.t 41) 1)),(Qa 13 (.alloc 25 [.nl,.nl])),(Qs 2 13 52),(Qm 14 53)]) (.seq (.drw [(Qe 54 2 11),(Qe 55 2 13),(Qa 56 (.call 16 [(.t 54),(.t 55)])),(Qm 57 56),(Qg 58 57 true (.mv (.t 12))),(Qg 59 57 true (.mv (.t 14))),(Qg 60 57 true (.bin .eql (.t 58) (.t 59))),(Qp 61 57 60),(Qm 62 61),(Qg 63 62 true (.loadA 2 (.t 5))),(Qg 64 62 true (.call 14 [(.t 63)])),(Qg 65 62 true (.call 17 [(.t 64)])),(Qg 66 62 true (.bin .eql (.t 65) (.c (.iv 0)))),(Qg 67 62 true (.loadA 2 (.t 5))),(Qg 68 62 true (.call 18 [(.t 67)])),(Qg 69 62 true (.bq false (.t 66) (.t 68))),(Qp 70 62 69),(Qm 71 70),(Qg 72 71 true (.loadA 2 (.t 5))),(Qg 73 71 true (.call 14 [(.t 72)])),(Qg 74 71 true (.loadA 2 (.t 7))),(Qg 75 71 true (.mv (.t 3))),(Qg 76 71 true (.call 19 [(.t 73),(.t 74),(.t 75)])),(Qg 77 71 true (.loadA 2 (.t 5))),(Qg 78 71 true (.loadA 2 (.t 7))),(Qg 79 71 true (.mv (.t 3))),(Qg 80 71 true (.call 20 [(.t 77),(.t 78),(.t 79)])),(Qg 81 71 true (.bin .eql (.t 76) (.t 80))),(Qp 82 71 81),(Qm 83 82),(Qg 84 83 true (.loadA 2 (.t 5))),(Qg 85 83 true (.call 14 [(.t 84)])),(Qg 86 83 true (.mv (.t 4))),(Qg 87 83 true (.call 22 [(.t 85),(.t 86)])),(Qg 88 83 true (.loadA 2 (.t 5))),(Qg 89 83 true (.mv (.t 4))),(Qg 90 83 true (.call 23 [(.t 88),(.t 89)])),(Qg 91 83 true (.call 21 [(.t 87),(.t 90)])),(Qp 92 83 91),(Qm 93 92),(Qg 94 93 true (.loadA 2 (.t 5))),(Qg 95 93 true (.call 14 [(.t 94)])),(Qg 96 93 true (.loadA 2 (.t 11))),(Qg 97 93 true (.call 14 [(.t 96)])),(Qg 98 93 true (.call 24 [(.t 95),(.t 97)])),(Qg 99 93 true (.loadA 2 (.t 5))),(Qg 100 93 true (.loadA 2 (.t 11))),(Qg 101 93 true (.call 16 [(.t 99),(.t 100)])),(Qg 102 93 true (.bq false (.t 98) (.t 101))),(Qp 103 93 102),(Qm 104 103),(Qg 105 104 true (.loadA 2 (.t 5))),(Qg 106 104 true (.call 14 [(.t 105)])),(Qg 107 104 true (.call 26 [(.t 106)])),(Qg 108 104 true (.loadA 2 (.t 5))),(Qg 109 104 true (.call 27 [(.t 108)])),(Qg 110 104 true (.call 25 [(.t 107),(.t 109)])),(Qp 111 104 110),(Qm 10 111)] [[],[],[0,1],[2,2],[3],[3],[4,5,3],[3,6],[7,3],[8],[9,8,8],[10,10,8],[11,8],[8],[13,11,8],[12,14,8],[8,15],[16,14],[17],[18,17,17],[17],[17],[19,20,21,19,17],[17],[17],[17],[23,24,25,22,17],[22,26,17],[17,27],[28,26],[29],[30,29,29],[29],[31,32,31,29],[29],[29],[34,35,33,29],[33,36,36,29],[29,37],[38,37],[39],[40,39,39],[39],[42,41,39],[41,43,43,39],[39],[39],[45,46,44,39],[44,47,39],[39,48],[49,47],[50],[51,50,50],[52,52,50],[50],[54,53,50],[53,55,55,50],[50,56],[57,56,0,1,2,3,4,5,6,7,8,9,10,11,12,13,14,15,16,17,18,19,20,21,22,23,24,25,26,27,28,29,30,31,32,33,34,35,36,37,38,39,40,41,42,43,44,45,46,47,48,49,50,51,52,53,54,55,56,57]] [[2],[2],[0,1,3],[2,4,5,6,7],[3,6],[3,6],[3,4,5,7],[3,6,8],[7,9,10,11,12,13,14,15,16],[8,10],[8,9,11],[8,10,12],[8,11,15],[8,14],[8,13,15],[8,12,14,16],[8,15,17],[16,18,19,20,21,22,23,24,25,26,27,28],[17,19],[17,18,22],[17,22],[17,22],[17,19,20,21,27],[17,26],[17,26],[17,26],[17,23,24,25,27],[17,22,26,28],[17,27,29],[28,30,31,32,33,34,35,36,37,38],[29,31],[29,30,33],[29,33],[29,31,32,37],[29,36],[29,36],[29,34,35,37],[29,33,36,38],[29,37,39],[38,40,41,42,43,44,45,46,47,48,49],[39,41],[39,40,44],[39,43],[39,42,44],[39,41,43,48],[39,47],[39,47],[39,45,46,48],[39,44,47,49],[39,48,50],[49,51,52,53,54,55,56,57],[50,52],[50,51,53],[50,52,56],[50,55],[50,54,56],[50,53,55,57],[50,56,58],[57]]) (.ret))))))
theorem ok3:FnOK Tryz.prog 3 Tryz.f3 e3 [.t 10] 5 107:=⟨by kernel_rfl,⟨_,rfl,by kernel_rfl⟩,by kernel_rfl,by kernel_rfl⟩
noncomputable def Zpq:Bool→Option Bool
| x36=>
 some x36
noncomputable def Zqq (x1:Bar) (x2:narthexlaw16_Act) (x3:Edge) (x4:Int) (x5:Int):(Int×Bar)→Option Bool
| (x14,x15)=>
 (Z3q x1 ((min ((max x2.K 0)) 2)) x2.A x2.B x2.Need).bind fun x16=>
 (Zil x15 x16.1).bind fun x17=>
 ifb x17 (
 ifb (decide (x14=x16.2)) (
 (Zij x1).bind fun x18=>
 (Zmi x18).bind fun x19=>
 (Zqp x1).bind fun x20=>
 ifb ((decide (x19=0))==x20) (
 (Zij x1).bind fun x21=>
 (Z2k x21 x3 x4).bind fun x22=>
 (Zhq x1 x3 x4).bind fun x23=>
 ifb (decide (x22=x23)) (
 (Zij x1).bind fun x24=>
 (Znj x24 x5).bind fun x25=>
 (Zmq x1 x5).bind fun x26=>
 (Zbl x25 x26).bind fun x27=>
 ifb x27 (
 (Zij x1).bind fun x28=>
 (Zij x15).bind fun x29=>
 (Zgk x28 x29).bind fun x30=>
 (Zil x1 x15).bind fun x31=>
 ifb (x30==x31) (
 (Zij x1).bind fun x32=>
 (Zdi x32).bind fun x33=>
 (Zml x1).bind fun x34=>
 (Zzg x33 x34).bind fun x35=>
 Zpq x35) (
 Zpq false)) (
 Zpq false)) (
 Zpq false)) (
 Zpq false)) (
 Zpq false)) (
 Zpq false)
noncomputable def Zrq (x1:Bar) (x2:narthexlaw16_Act) (x3:Edge) (x4:Int) (x5:Int):Bool→Option Bool
| x8=>
 ifb x8 (
 (Z7l).bind fun x9=>
 some x9) (
 (Zij x1).bind fun x10=>
 (Zaj x10 ((narthexlaw16_Act.mk ((min ((max x2.K 0)) 2)) x2.A x2.B x2.Need))).bind fun x12=>
 (Zqq x1 x2 x3 x4 x5) (x12.2,x12.1))
noncomputable def Zsq (x1:Bar) (x2:narthexlaw16_Act) (x3:Edge) (x4:Int) (x5:Int):Option Bool:=
 (Z7l).bind fun x6=>
 ifb (!x6) (
 (Zrq x1 x2 x3 x4 x5) true) (
 (Zsl x1).bind fun x7=>
 ifb (!x7) (
 (Zrq x1 x2 x3 x4 x5) true) (
 (Zrq x1 x2 x3 x4 x5) (decide (24<(ln Zu4 x2.Need)))))
theorem k_narthexlaw16_BarSteps (x1:Bar) (x2:narthexlaw16_Act) (x3:Edge) (x4:Int) (x5:Int) (r:Bool) (h:Zsq x1 x2 x3 x4 x5=some r):Zp2 Tryz.prog 3 [.agg (Bar.row x1),.agg (narthexlaw16_Act.row x2),.agg (Edge.row x3),.iv x4,.iv x5] (.bv r):=by
 refine Zt2 ok3 rfl rfl fun w0 H0=>?_
 rw [Zsq] at h
 refine Zk2 10 ?_;dsimp only [go_sem];refine An ?_;obtain ⟨x6,ex6,h⟩:=Bs h;refine Zy2 trivial (Z8l _ ex6) (h:=?_);refine Zk2 2 ?_;dsimp only [go_sem];refine An ?_;refine Ze4 (fun (x8:Bool)=>(⟨(an 3 (.iv x4 :: .iv x5 :: .ptr 0 0 :: .ptr 1 0 :: .ptr 2 0::an 19 (.bv x8::an 84 []))),[some ⟨25,[.sl 5 (List.map Drinker.row x1.Drinkers),.sl 5 (List.map Mail.row x1.Mail)]⟩,some ⟨28,[.iv x2.K,.iv x2.A,.iv x2.B,.sl 1 (List.map Zu4 x2.Need)]⟩,some ⟨30,[.iv x3.A,.iv x3.B]⟩],[]⟩:St)) (Zrq x1 x2 x3 x4 x5) r ?_ fun J1=>?_
 ·intro x8 h;rw [Zrq] at h;(try dsimp only);refine Zg4 h rfl (fun _ h=>?_) fun _ h=>?_
  ·refine Zk2 2 ?_;dsimp only [go_sem];refine An ?_;obtain ⟨x9,ex9,h⟩:=Bs h;refine Zy2 trivial (Z8l _ ex9) (h:=?_);refine Zk2 2 ?_;dsimp only [go_sem];refine An ?_;exact Zo4 (res:=fun (r:Bool)=>.bv r) ok3 h
  ·refine Zk2 11 ?_;dsimp only [go_sem];refine An ?_;refine Ze4 (fun ((x14,x15):(Int×Bar))=>(⟨(an 3 (.iv x4 :: .iv x5 :: .ptr 0 0 :: .ptr 1 0 :: .ptr 2 0::an 3 (.ptr 3 0 :: .iv x14::an 99 []))),[some ⟨25,[.sl 5 (List.map Drinker.row x1.Drinkers),.sl 5 (List.map Mail.row x1.Mail)]⟩,some ⟨28,[.iv ((min ((max x2.K 0)) 2)),.iv x2.A,.iv x2.B,.sl 1 (List.map Zu4 x2.Need)]⟩,some ⟨30,[.iv x3.A,.iv x3.B]⟩,some ⟨25,[.sl 5 (List.map Drinker.row x15.Drinkers),.sl 5 (List.map Mail.row x15.Mail)]⟩],[]⟩:St)) (Zqq x1 x2 x3 x4 x5) r ?_ fun J2=>?_
   ·rintro ⟨x14,x15⟩ h;rw [Zqq] at h;(try dsimp only);refine Zk2 11 ?_;dsimp only [go_sem];refine An ?_;obtain ⟨x16,ex16,h⟩:=Bs h;refine Zy2 trivial (Z4q x1 ((min ((max x2.K 0)) 2)) x2.A x2.B x2.Need _ ex16) (h:=?_);refine Zk2 8 ?_;dsimp only [go_sem];refine An ?_;refine Ze4 (fun (x36:Bool)=>(⟨(an 10 (.bv x36::an 101 [])),[],[]⟩:St)) Zpq r ?_ fun J3=>?_
    ·intro x36 h;rw [Zpq] at h;(try dsimp only);exact Zo4 (res:=fun (r:Bool)=>.bv r) ok3 h
    ·refine Zf3 (by kernel_rfl) fun all hall hs hnap haf=>?_;dsimp only [go_sem];refine Z65 hall hs haf hnap 2 57 [2,57] [(54,[.agg [.sl 5 (List.map Drinker.row x15.Drinkers),.sl 5 (List.map Mail.row x15.Mail)],.agg [.sl 5 (List.map Drinker.row x16.1.Drinkers),.sl 5 (List.map Mail.row x16.1.Mail)]])] (by kernel_rfl) ?_;dsimp only [go_sem];refine Zq3 2 rfl ?_;obtain ⟨x17,ex17,h⟩:=Bs h;refine Zw3 hall rfl trivial (Zjl x15 x16.1 _ ex17) (h:=?_);dsimp only [go_sem];refine Z55 hall hs haf hnap 1 55 ?_;dsimp only [go_sem];refine An ?_
     refine Zx4 57 h rfl (fun _ h=>?_) fun _ h=>?_
     ·dsimp only [go_sem];refine Z65 hall hs haf hnap 5 50 [9,50] [(58,[.iv x14,.iv x16.2,.bv (decide (x14=x16.2)),.bv (decide (x14=x16.2)),.bv (decide (x14=x16.2))])] (by kernel_rfl) ?_;dsimp only [go_sem];refine Zx4 62 h rfl (fun _ h=>?_) fun _ h=>?_
      ·dsimp only [go_sem];refine Z65 hall hs haf hnap 2 48 [10,3,1,45] [(63,[.agg [.sl 5 (List.map Drinker.row x1.Drinkers),.sl 5 (List.map Mail.row x1.Mail)]]),(3,[.agg [.sl 5 (List.map Drinker.row x1.Drinkers),.sl 5 (List.map Mail.row x1.Mail)]])] (by kernel_rfl) ?_;dsimp only [go_sem];refine Zq3 10 rfl ?_;obtain ⟨x18,ex18,h⟩:=Bs h;refine Zw3 hall rfl trivial (Zjj x1 _ ex18) (h:=?_);dsimp only [go_sem];refine Zq3 11 rfl ?_;obtain ⟨x19,ex19,h⟩:=Bs h;refine Zw3 hall rfl trivial (Zni x18 _ ex19) (h:=?_);dsimp only [go_sem]
       refine Z55 hall hs haf hnap 1 45 ?_;dsimp only [go_sem];refine An ?_;refine Zq3 14 rfl ?_;obtain ⟨x20,ex20,h⟩:=Bs h;refine Zw3 hall rfl trivial (Zrp x1 _ ex20) (h:=?_);dsimp only [go_sem];refine Z65 hall hs haf hnap 3 41 [18,41] [(69,[.bv ((decide (x19=0))==x20),.bv ((decide (x19=0))==x20),.bv ((decide (x19=0))==x20)])] (by kernel_rfl) ?_;dsimp only [go_sem];refine Zx4 71 h rfl (fun _ h=>?_) fun _ h=>?_
       ·dsimp only [go_sem];refine Z65 hall hs haf hnap 6 35 [19,1,2,1,3,33] [(72,[.agg [.sl 5 (List.map Drinker.row x1.Drinkers),.sl 5 (List.map Mail.row x1.Mail)]]),(1,[.agg [.iv x3.A,.iv x3.B],.iv x4]),(1,[.agg [.sl 5 (List.map Drinker.row x1.Drinkers),.sl 5 (List.map Mail.row x1.Mail)],.agg [.iv x3.A,.iv x3.B],.iv x4])] (by kernel_rfl) ?_;dsimp only [go_sem];refine Zq3 19 rfl ?_;obtain ⟨x21,ex21,h⟩:=Bs h;refine Zw3 hall rfl trivial (Zjj x1 _ ex21) (h:=?_);dsimp only [go_sem];refine Zq3 22 rfl ?_;obtain ⟨x22,ex22,h⟩:=Bs h
        refine Zw3 hall rfl trivial (Z3k x21 x3 x4 _ ex22) (h:=?_);dsimp only [go_sem];refine Zq3 26 rfl ?_;obtain ⟨x23,ex23,h⟩:=Bs h;refine Zw3 hall rfl trivial (Ziq x1 x3 x4 _ ex23) (h:=?_);dsimp only [go_sem];refine Z65 hall hs haf hnap 3 29 [30,29] [(81,[.bv (decide (x22=x23)),.bv (decide (x22=x23)),.bv (decide (x22=x23))])] (by kernel_rfl) ?_;dsimp only [go_sem];refine Zx4 83 h rfl (fun _ h=>?_) fun _ h=>?_
        ·dsimp only [go_sem];refine Z65 hall hs haf hnap 4 25 [31,1,1,1,2,23] [(84,[.agg [.sl 5 (List.map Drinker.row x1.Drinkers),.sl 5 (List.map Mail.row x1.Mail)]]),(1,[.iv x5]),(1,[.agg [.sl 5 (List.map Drinker.row x1.Drinkers),.sl 5 (List.map Mail.row x1.Mail)],.iv x5])] (by kernel_rfl) ?_;dsimp only [go_sem];refine Zq3 31 rfl ?_;obtain ⟨x24,ex24,h⟩:=Bs h;refine Zw3 hall rfl trivial (Zjj x1 _ ex24) (h:=?_);dsimp only [go_sem];refine Zq3 33 rfl ?_;obtain ⟨x25,ex25,h⟩:=Bs h
         refine Zw3 hall rfl trivial (Zoj x24 x5 _ ex25) (h:=?_);dsimp only [go_sem];refine Zq3 36 rfl ?_;obtain ⟨x26,ex26,h⟩:=Bs h;refine Zw3 hall rfl trivial (Zoq x1 x5 _ ex26) (h:=?_);dsimp only [go_sem];refine Zq3 37 rfl ?_;obtain ⟨x27,ex27,h⟩:=Bs h;refine Zw3 hall rfl trivial (Zcl x25 x26 _ ex27) (h:=?_);dsimp only [go_sem];refine Z65 hall hs haf hnap 2 19 [40,19] [(92,[.bv x27,.bv x27])] (by kernel_rfl) ?_;dsimp only [go_sem];refine Zx4 93 h rfl (fun _ h=>?_) fun _ h=>?_
         ·dsimp only [go_sem];refine Z65 hall hs haf hnap 4 15 [41,1,1,2,2,12] [(94,[.agg [.sl 5 (List.map Drinker.row x1.Drinkers),.sl 5 (List.map Mail.row x1.Mail)]]),(1,[.agg [.sl 5 (List.map Drinker.row x15.Drinkers),.sl 5 (List.map Mail.row x15.Mail)]]),(2,[.agg [.sl 5 (List.map Drinker.row x1.Drinkers),.sl 5 (List.map Mail.row x1.Mail)],.agg [.sl 5 (List.map Drinker.row x15.Drinkers),.sl 5 (List.map Mail.row x15.Mail)]])] (by kernel_rfl) ?_;dsimp only [go_sem];refine Zq3 41 rfl ?_;obtain ⟨x28,ex28,h⟩:=Bs h
          refine Zw3 hall rfl trivial (Zjj x1 _ ex28) (h:=?_);dsimp only [go_sem];refine Zq3 43 rfl ?_;obtain ⟨x29,ex29,h⟩:=Bs h;refine Zw3 hall rfl trivial (Zjj x15 _ ex29) (h:=?_);dsimp only [go_sem];refine Zq3 44 rfl ?_;obtain ⟨x30,ex30,h⟩:=Bs h;refine Zw3 hall rfl trivial (Zhk x28 x29 _ ex30) (h:=?_);dsimp only [go_sem];refine Zq3 47 rfl ?_;obtain ⟨x31,ex31,h⟩:=Bs h;refine Zw3 hall rfl trivial (Zjl x1 x15 _ ex31) (h:=?_);dsimp only [go_sem]
          refine Z65 hall hs haf hnap 3 8 [51,8] [(102,[.bv (x30==x31),.bv (x30==x31),.bv (x30==x31)])] (by kernel_rfl) ?_;dsimp only [go_sem];refine Zx4 104 h rfl (fun _ h=>?_) fun _ h=>?_
          ·dsimp only [go_sem];refine Z65 hall hs haf hnap 2 6 [52,2,1,4] [(105,[.agg [.sl 5 (List.map Drinker.row x1.Drinkers),.sl 5 (List.map Mail.row x1.Mail)]]),(2,[.agg [.sl 5 (List.map Drinker.row x1.Drinkers),.sl 5 (List.map Mail.row x1.Mail)]])] (by kernel_rfl) ?_;dsimp only [go_sem];refine Zq3 52 rfl ?_;obtain ⟨x32,ex32,h⟩:=Bs h;refine Zw3 hall rfl trivial (Zjj x1 _ ex32) (h:=?_);dsimp only [go_sem];refine Zq3 53 rfl ?_;obtain ⟨x33,ex33,h⟩:=Bs h;refine Zw3 hall rfl trivial (Zei x32 _ ex33) (h:=?_)
           dsimp only [go_sem];refine Zq3 55 rfl ?_;obtain ⟨x34,ex34,h⟩:=Bs h;refine Zw3 hall rfl trivial (Znl x1 _ ex34) (h:=?_);dsimp only [go_sem];refine Zq3 56 rfl ?_;obtain ⟨x35,ex35,h⟩:=Bs h;refine Zw3 hall rfl trivial (Z0h x33 x34 _ ex35) (h:=?_);dsimp only [go_sem];refine Z65 hall hs haf hnap 2 0 [59] [(10,[.bv x35]),(100,[.bv x35])] (by kernel_rfl) ?_;dsimp only [go_sem];refine Zp3 rfl ?_ _;exact Zq4 J3 (s:=x35) h
          ·dsimp only [go_sem];refine Z65 hall hs haf hnap 8 0 [59] [(10,[.ff]),(94,[.un,.un,.un,.un,.un,.un,.ff])] (by kernel_rfl) ?_;dsimp only [go_sem];refine Zp3 rfl ?_ _;exact Zq4 J3 (s:=false) h
         ·dsimp only [go_sem];refine Z65 hall hs haf hnap 19 0 [59] [(10,[.ff]),(83,[.un,.un,.un,.un,.un,.un,.un,.un,.un,.ff,.ff,.un,.un,.un,.un,.un,.un,.ff])] (by kernel_rfl) ?_;dsimp only [go_sem];refine Zp3 rfl ?_ _;exact Zq4 J3 (s:=false) h
        ·dsimp only [go_sem];refine Z65 hall hs haf hnap 29 0 [59] [(10,[.ff]),(73,[.un,.un,.un,.un,.un,.un,.un,.un,.ff,.ff,.un,.un,.un,.un,.un,.un,.un,.un,.un,.ff,.ff,.un,.un,.un,.un,.un,.un,.ff])] (by kernel_rfl) ?_;dsimp only [go_sem];refine Zp3 rfl ?_ _;exact Zq4 J3 (s:=false) h
       ·dsimp only [go_sem];refine Z65 hall hs haf hnap 41 0 [59] [(10,[.ff]),(61,[.un,.un,.un,.un,.un,.un,.un,.un,.un,.un,.ff,.ff,.un,.un,.un,.un,.un,.un,.un,.un,.ff,.ff,.un,.un,.un,.un,.un,.un,.un,.un,.un,.ff,.ff,.un,.un,.un,.un,.un,.un,.ff])] (by kernel_rfl) ?_;dsimp only [go_sem];refine Zp3 rfl ?_ _;exact Zq4 J3 (s:=false) h
      ·dsimp only [go_sem];refine Z65 hall hs haf hnap 50 0 [59] [(10,[.ff]),(52,[.un,.un,.un,.un,.un,.un,.un,.ff,.ff,.un,.un,.un,.un,.un,.un,.un,.un,.un,.un,.ff,.ff,.un,.un,.un,.un,.un,.un,.un,.un,.ff,.ff,.un,.un,.un,.un,.un,.un,.un,.un,.un,.ff,.ff,.un,.un,.un,.un,.un,.un,.ff])] (by kernel_rfl) ?_;dsimp only [go_sem];refine Zp3 rfl ?_ _;exact Zq4 J3 (s:=false) h
     ·dsimp only [go_sem];refine Z65 hall hs haf hnap 55 0 [59] [(10,[.ff]),(47,[.un,.un,.un,.ff,.ff,.un,.un,.un,.un,.un,.un,.un,.ff,.ff,.un,.un,.un,.un,.un,.un,.un,.un,.un,.un,.ff,.ff,.un,.un,.un,.un,.un,.un,.un,.un,.ff,.ff,.un,.un,.un,.un,.un,.un,.un,.un,.un,.ff,.ff,.un,.un,.un,.un,.un,.un,.ff])] (by kernel_rfl) ?_;dsimp only [go_sem];refine Zp3 rfl ?_ _;exact Zq4 J3 (s:=false) h
   ·refine Zf3 (by kernel_rfl) fun all hall hs hnap haf=>?_;dsimp only [go_sem];refine Z55 hall hs haf hnap 2 8 ?_;dsimp only [go_sem];refine An ?_;obtain ⟨x10,ex10,h⟩:=Bs h;refine Zr3 1 7 rfl ?_ ?_
    ·refine Zw3 hall rfl trivial (Zjj x1 _ ex10) (h:=?_);dsimp only [go_sem];obtain ⟨x12,ex12,h⟩:=Bs h;refine Zr3 3 7 rfl ?_ ?_
     ·refine Zw3 hall rfl trivial (Zbj x10 ((narthexlaw16_Act.mk ((min ((max x2.K 0)) 2)) x2.A x2.B x2.Need)) _ ex12) (h:=?_);dsimp only [go_sem];refine Z55 hall hs haf hnap 3 3 ?_;dsimp only [go_sem];refine An ?_;refine Zq3 7 rfl ?_;refine Zv3 hall rfl trivial ?_;dsimp only [go_sem];refine Zq3 8 rfl ?_;refine Zv3 hall rfl trivial ?_;dsimp only [go_sem];refine Z55 hall hs haf hnap 1 0 ?_;dsimp only [go_sem];refine An ?_;refine Zp3 rfl ?_ _;exact Zq4 J2 (s:=(x12.2,x12.1)) h
     ·refine Zv3 hall rfl trivial ?_;dsimp only [go_sem];refine Zq3 3 rfl ?_;refine Zw3 hall rfl trivial (Zbj x10 ((narthexlaw16_Act.mk ((min ((max x2.K 0)) 2)) x2.A x2.B x2.Need)) _ ex12) (h:=?_);dsimp only [go_sem];refine Z55 hall hs haf hnap 3 2 ?_;dsimp only [go_sem];refine An ?_;refine Zq3 8 rfl ?_;refine Zv3 hall rfl trivial ?_;dsimp only [go_sem];refine Z55 hall hs haf hnap 1 0 ?_;dsimp only [go_sem];refine An ?_;refine Zp3 rfl ?_ _;exact Zq4 J2 (s:=(x12.2,x12.1)) h
    ·refine Zv3 hall rfl trivial ?_;dsimp only [go_sem];refine Zq3 1 rfl ?_;refine Zw3 hall rfl trivial (Zjj x1 _ ex10) (h:=?_);dsimp only [go_sem];refine Zq3 3 rfl ?_;obtain ⟨x12,ex12,h⟩:=Bs h;refine Zw3 hall rfl trivial (Zbj x10 ((narthexlaw16_Act.mk ((min ((max x2.K 0)) 2)) x2.A x2.B x2.Need)) _ ex12) (h:=?_);dsimp only [go_sem];refine Z55 hall hs haf hnap 3 2 ?_;dsimp only [go_sem];refine An ?_;refine Zq3 8 rfl ?_;refine Zv3 hall rfl trivial ?_;dsimp only [go_sem];refine Z55 hall hs haf hnap 1 0 ?_
     dsimp only [go_sem];refine An ?_;refine Zp3 rfl ?_ _;exact Zq4 J2 (s:=(x12.2,x12.1)) h
 ·refine Zn4 17 h rfl (fun _ h=>?_) fun _ h=>?_
  ·dsimp only [go_sem];refine Zk2 11 ?_;dsimp only [go_sem];refine An ?_;exact Zq4 J1 (s:=true) h
  ·dsimp only [go_sem];refine Zk2 1 ?_;dsimp only [go_sem];refine An ?_;obtain ⟨x7,ex7,h⟩:=Bs h;refine Zy2 trivial (Ztl x1 _ ex7) (h:=?_);refine Zk2 3 ?_;dsimp only [go_sem];refine An ?_;refine Zn4 22 h rfl (fun _ h=>?_) fun _ h=>?_
   ·dsimp only [go_sem];refine Zk2 6 ?_;dsimp only [go_sem];refine An ?_;exact Zq4 J1 (s:=true) h
   ·dsimp only [go_sem];refine Zk2 6 ?_;dsimp only [go_sem];refine An ?_;exact Zq4 J1 (s:=decide (24<(ln Zu4 x2.Need))) h
theorem Ztq (s:Bar) (hD:fewL s.Drinkers):Zml s=some (scB s):=by
 have h5:=hD.1
 unfold Zml
 refine Z68 s.Drinkers (Zll s) (fun pre=>((pre.length:Int),pre.map (·.Diner))) _ (fun pre x post h=>?_) ?_
 ·have hx:=Z78 h
  have hm:=Z88 h
  dsimp only [Zll]
  rw [Z66 hx,Z06,Z46 hx,Option.bind_some,Z56 _ _ (by omega) (by simp;omega),Option.bind_some,Z86 (by omega),Zc8]
  simp
 ·dsimp only [Zll]
  rw [Z76,Z16];rfl
theorem Zuq (s:Bar) (hD:fewL s.Drinkers) (hM:s.Mail.length≤900000):Zqp s=some (Zlk s):=by
 have h5:=hD.1
 have e:Zlk s=(s.Drinkers.all okDr&&okS (scB s)):=by unfold Zlk;rw [Bool.and_comm]
 rw [e]
 unfold Zqp
 refine Z58 s.Drinkers (Zpp s) (fun pre=>(pre.length:Int)) (fun _ post=>some (post.all okDr&&okS (scB s))) (fun pre x post h=>?_) ?_
 ·have hx:=Z78 h
  have hm:=Z88 h
  dsimp only [Zpp]
  rw [Z66 hx,Z06,Z46 hx,Option.bind_some,Zqo x (by have:=(hD.2 x (Z98 h)).2;omega),Option.bind_some,List.all_cons]
  cases okDr x with
  | true=>left;rw [Bool.not_true,Z16,Z86 (by omega),Zc8];exact ⟨rfl,rfl⟩
  | false=>right;exact ⟨false,rfl,rfl⟩
 ·dsimp only [Zpp,Zop]
  rw [Z76,Z16,Ztq s hD,Option.bind_some,s_r14Check (scB s) (fewL_D hD) hM];rfl
theorem s_node16 (s:Bar) (a:Int):Ztp s a=some (Znk s a):=by
 simp only [Ztp,Zsp,Znk,Zw4]
 cases decide (0≤a)<;>rfl
theorem s_Step16 (s:Bar) (hD:fewL s.Drinkers) (w:Int) (r:Drinker×Int) (hw:0≤w) (hr:r.2=0→okDr r.1=true) (hn:r.1.Need.length≤5000) (M:List Mail) (hM:M.length≤20000):
  Zyp s (w,r.2,r.1,M)=some (Zvk ⟨s.Drinkers,M⟩ w r):=by
 have h5:=hD.1
 dsimp only [Zyp]
 unfold Zvk
 by_cases h0:r.2=0
 ·have hk:=hr h0
  have hms:=Zuk hk
  rw [decide_eq_true h0,Bool.not_true,Z16,s_r15Fire hk (by omega),Option.bind_some,Z56 _ _ (by omega) (by omega),Option.bind_some,if_pos h0,if_pos hk]
  have:=Z68 s.Drinkers (Zxp s w (fireDr r.1) (M++(fireDr r.1).2)) (fun pre=>((pre.length:Int),(s.Drinkers.set w.toNat (fireDr r.1).1).take pre.length)) (actBS ⟨s.Drinkers,M⟩ w r.1,0) (fun pre x post h=>by
   have hx:=Z78 h
   have hm:=Z88 h
   have snoc:(s.Drinkers.set w.toNat (fireDr r.1).1).take (pre.length+1)=(s.Drinkers.set w.toNat (fireDr r.1).1).take pre.length++[if (pre.length:Int)=w then (fireDr r.1).1 else x]:=by
    rw [List.take_add_one,List.getElem?_set]
    by_cases hq:(pre.length:Int)=w
    ·rw [if_pos (by omega),if_pos (by omega),if_pos hq];rfl
    ·rw [if_neg (by omega),hx,if_neg hq];rfl
   have lt:((s.Drinkers.set w.toNat (fireDr r.1).1).take pre.length).length≤5000:=by rw [List.length_take,List.length_set];omega
   have j6:∀z,Zwp (pre.length:Int) z=some (.inl (((pre.length+1:Nat):Int),z)):=fun z=>by
    dsimp only [Zwp];rw [Z86 (by omega)]
   dsimp only [Zxp]
   rw [Z66 hx,Z06,Zc8,snoc]
   by_cases hq:(pre.length:Int)=w
   ·rw [decide_eq_true hq,Z06,Z56 _ _ (by omega) (by simp only [List.length_singleton];omega),Option.bind_some,j6,if_pos hq]
   ·rw [decide_eq_false hq,Z16,Z46 hx,Option.bind_some,Z56 _ _ (by omega) (by simp only [List.length_singleton];omega),Option.bind_some,j6,if_neg hq]) (by
   dsimp only [Zxp]
   rw [Z76,Z16]
   dsimp only [Zvp]
   rw [List.take_of_length_le (by simp)];rfl)
  exact this
 ·rw [decide_eq_false h0,Bool.not_false,Z06,if_neg h0];rfl
theorem s_r16Step (s:Bar) (k a b:Int) (need:List Int) (hk:k=0∨k=1∨k=2) (hD:fewL s.Drinkers) (hM:s.Mail.length≤20000) (hn:need.length≤5000):Z3q s k a b need=some (Z3l s k a b need):=by
 simp only [Z3q,Zuq s hD (by omega),Option.bind_some]
 cases hok:Zlk s with
 | false=>
   rw [Bool.not_false,Z06]
   unfold Z3l Zwk Z1l
   rw [hok]
   rcases hk with rfl | rfl | rfl<;>rfl
 | true=>
   have hall:∀d∈s.Drinkers,okDr d=true:=by
    have:=hok
    unfold Zlk at this
    rw [Bool.and_eq_true,List.all_eq_true] at this
    exact this.2
   rw [Bool.not_true,Z16,s_node16,Option.bind_some]
   have none161:Z2q s k a b need true=some (Zkk,161):=rfl
   cases hta:Znk s a with
   | false=>
     rw [Bool.not_false,Z06,none161]
     unfold Z3l Zwk Z1l
     rw [hok,hta]
     rcases hk with rfl | rfl | rfl<;>rfl
   | true=>
     rw [Bool.not_true,Z16]
     obtain ⟨d,hd,hd'⟩:=Zqk hta
     have hdm:=List.mem_iff_getElem?.2 ⟨_,hd'⟩
     have hdn:=(hD.2 d hdm).2
     have hcp:Z84 40 ([]:List Mail) s.Mail=some s.Mail:=by rw [Z56 _ _ (by omega) (by simp only [List.length_nil];omega)];rfl
     by_cases hk2:k=2
     ·subst hk2
      rw [show decide ((2:Int)=2)=true from rfl,Z06,s_node16,Option.bind_some]
      have eA:Z3l s 2 a b need=Z1l s a b:=rfl
      rw [eA]
      cases htb:Znk s b with
      | false=>
        rw [Bool.not_false,none161]
        unfold Z1l
        rw [hok,hta,htb];rfl
      | true=>
        obtain ⟨e,he,he'⟩:=Zqk htb
        have hem:=List.mem_iff_getElem?.2 ⟨_,he'⟩
        have hen:=(hD.2 e hem).2
        dsimp only [Z2q]
        rw [Bool.not_true,Z16,hcp,Option.bind_some,hd,Option.bind_some,show decide ((2:Int)=0)=false from rfl,Z16,show decide ((2:Int)=1)=false from rfl,Z16]
        have j4:∀(i:Nat) z,i≤s.Mail.length→Z0q s a b s.Mail (i:Int) z=if z then some (.inl ((i+1:Nat):Int)) else (Zzp s a b s.Mail (i:Int)).map .inr:=fun i z hi=>by
         cases z with
         | true=>dsimp only [Z0q];rw [Z06,Z86 (by omega)];rfl
         | false=>rfl
        have j3:∀(i:Nat) m,s.Mail[i]?=some m→Zzp s a b s.Mail (i:Int)=some (Zvk ⟨s.Drinkers,s.Mail.take i++s.Mail.drop (i+1)⟩ b (Zwf e a m.Msg)):=fun i m hm=>by
         have hlt:=(List.getElem?_eq_some_iff.1 hm).1
         have e1:Z94 s.Mail 0 (i:Int)=some (s.Mail.take i):=by
          unfold Z94
          rw [if_pos ⟨by omega,by omega,by omega⟩];simp
         have e2:Z94 s.Mail (wr ((i:Int)+1)) (ln Mail.row s.Mail)=some (s.Mail.drop (i+1)):=by
          rw [Z86 (by omega),Zw4]
          unfold Z94
          rw [if_pos ⟨by omega,by omega,by omega⟩];simp
         dsimp only [Zzp]
         rw [Zw4,decide_eq_false (by omega),Z16,he,Option.bind_some,Z46 hm,Option.bind_some,s_r15Get e a m.Msg (by omega),Option.bind_some,←Zw4,e1,Option.bind_some,e2,Option.bind_some,Z56 _ _ (by omega) (by simp;omega),Option.bind_some,Z56 _ _ (by omega) (by simp;omega),Option.bind_some,List.nil_append]
         exact s_Step16 s hD b _ (Zpk.1 htb).1 (fun h0=>getDr_ok (hall e hem) h0) (Z0l hen) _ (by simp;omega)
        have:=Znn s.Mail (Z1q s a b s.Mail) (fun m=>decide (m.From=a)&&decide (m.To=b)) (fun i m=>some (Zvk ⟨s.Drinkers,s.Mail.take i++s.Mail.drop (i+1)⟩ b (Zwf e a m.Msg))) (some (Zkk,162)) (by omega) (fun i m hm=>by
         have hlt:=(List.getElem?_eq_some_iff.1 hm).1
         dsimp only [Z1q]
         rw [Z66 hm,Z06,Z46 hm,Option.bind_some]
         by_cases q1:m.From=a
         ·rw [decide_eq_true q1,Bool.not_true,Z16,Bool.true_and]
          by_cases q2:m.To=b
          ·rw [decide_eq_true q2,Bool.not_true,j4 i _ (by omega),if_neg (by simp),j3 i m hm,if_pos rfl]
          ·rw [decide_eq_false q2,Bool.not_false,j4 i _ (by omega),if_pos rfl,if_neg (by simp)]
         ·rw [decide_eq_false q1,Bool.not_false,Z06,j4 i _ (by omega),if_pos rfl,Bool.false_and,if_neg (by simp)]) (fun _ _ _ _=>rfl) (by
         dsimp only [Z1q]
         rw [Z76,Z16,j4 _ _ (Nat.le_refl _),if_neg (by simp)]
         dsimp only [Zzp]
         rw [Zw4,decide_eq_true rfl,Z06];rfl)
        rw [this]
        unfold Z1l
        rw [hok,if_pos rfl,hta,htb,Bool.and_self,if_pos rfl]
        unfold delivJ
        have hfi:=Zj8 (fun m:Mail=>decide (m.From=a)&&decide (m.To=b)) s.Mail
        cases hf:s.Mail.findIdx? (fun m=>decide (m.From=a)&&decide (m.To=b)) with
        | none=>rfl
        | some i=>
          rw [hf] at hfi
          obtain ⟨m,hm,_⟩:=hfi
          dsimp only
          rw [hm,he]
     ·rw [decide_eq_false hk2,Z16]
      dsimp only [Z2q]
      rw [Z16,hcp,Option.bind_some,hd,Option.bind_some]
      have h0a:=(Zpk.1 hta).1
      rcases hk with rfl | rfl | rfl
      ·rw [show decide ((0:Int)=0)=true from rfl,Z06,s_r15Open d need (by omega) hn,Option.bind_some,s_Step16 s hD a (Ztf d need) h0a (fun h0=>openDr_ok (hall d hdm) h0) (Zxk hn) _ hM]
       unfold Z3l Zwk
       rw [if_pos rfl,hok,if_pos rfl,hta,if_pos rfl,hd]
      ·rw [show decide ((1:Int)=0)=false from rfl,Z16,show decide ((1:Int)=1)=true from rfl,Z06,s_r15Close d (by omega),Option.bind_some,s_Step16 s hD a (Zuf d) h0a (fun h0=>closeDr_ok (hall d hdm) h0) (Zyk d) _ hM]
       unfold Z3l Zwk
       rw [if_neg (by omega),if_pos rfl,hok,if_pos rfl,hta,if_pos rfl,hd]
      ·exact absurd rfl hk2
def hasX (x:Side) (k:Int):Bool:=if k=1 then x.Fork else if k=2 then x.Token else if k=3 then x.Bottle else x.Ask
theorem s_has16 (x:Side) (k:Int) (h1:1≤k) (h4:k≤4):Z6q x k=some ((bn (hasX x k):Nat):Int):=by
 have:k=1∨k=2∨k=3∨k=4:=by omega
 unfold Z6q hasX Z5q
 rcases this with rfl | rfl | rfl | rfl
 ·cases x.Fork<;>rfl
 ·cases x.Token<;>rfl
 ·cases x.Bottle<;>rfl
 ·cases x.Ask<;>rfl
theorem mailB_iffJ (e:Edge) (k ep:Int) (m:Mail):mailB e k ep m=(((decide (m.From=e.A)&&decide (m.To=e.B))||(decide (m.From=e.B)&&decide (m.To=e.A)))&&(decide (m.Msg.Kind=k)&&decide (m.Msg.Epoch=ep))):=by
 rw [Bool.eq_iff_iff]
 unfold mailB
 simp only [Bool.and_eq_true,Bool.or_eq_true,decide_eq_true_eq]
 omega
theorem s_r16Count (s:Bar) (e:Edge) (k:Int) (hD:fewL s.Drinkers) (hM:s.Mail.length≤900000):Zhq s e k=some (Z4l s e k:Int):=by
 have zero:Zgq s e k true=some 0:=rfl
 have thB:∀a,Z6h (scB s) a=Znk s a:=fun a=>by unfold Z6h Znk scB;simp
 have getB:∀i:Nat,(scB s).Diners[i]?=(s.Drinkers[i]?).map (·.Diner):=fun i=>by unfold scB;simp
 simp only [Zhq,s_node16,Option.bind_some]
 unfold Z4l countS
 rw [thB,thB]
 cases ha:Znk s e.A with
 | false=>split<;>rfl
 | true=>
   cases hb:Znk s e.B with
   | false=>split<;>rfl
   | true=>
     obtain ⟨da,a1,a2⟩:=Zqk ha
     obtain ⟨db,b1,b2⟩:=Zqk hb
     have la:=(hD.2 da (List.mem_iff_getElem?.2 ⟨_,a2⟩)).1
     have lb:=(hD.2 db (List.mem_iff_getElem?.2 ⟨_,b2⟩)).1
     simp only [Bool.not_true,Z16,getB,a2,b2,Bool.and_self,if_true,Option.map_some]
     have core:1≤k→k≤4→Zgq s e k false=some ((match Zi8 da.Diner e.B,Zi8 db.Diner e.A with
      | some x,some y=>if x.Epoch=y.Epoch then bn (hasX x k)+bn (hasX y k)+Z4i s.Mail e k x.Epoch else 0
      | _,_=>0:Nat):Int):=fun h1 h4=>by
      dsimp only [Zgq,Zfq]
      rw [Z16,a1,Option.bind_some,Zk8 da.Diner e.B (by omega),Option.bind_some,b1,Option.bind_some,Zk8 db.Diner e.A (by omega),Option.bind_some]
      cases hx:Zi8 da.Diner e.B with
      | none=>rfl
      | some x=>
        cases hy:Zi8 db.Diner e.A with
        | none=>rfl
        | some y=>
          dsimp only [sideP,Zeq]
          rw [Bool.not_true,Z16,Z16]
          by_cases he:x.Epoch=y.Epoch
          ·rw [decide_eq_true he,Bool.not_true,if_pos he]
           dsimp only [Zdq]
           have n2:bn (hasX x k)+bn (hasX y k)≤2:=by cases hasX x k<;>cases hasX y k<;>decide
           rw [Z16,s_has16 x k h1 h4,Option.bind_some,s_has16 y k h1 h4,Option.bind_some,show (((bn (hasX x k):Nat):Int)+((bn (hasX y k):Nat):Int))=((bn (hasX x k)+bn (hasX y k):Nat):Int) by omega,Z36 (by omega) (by omega)]
           generalize bn (hasX x k)+bn (hasX y k)=n at n2
           refine Z68 s.Mail (Zcq s e k x) (fun pre=>(((n+Z4i pre e k x.Epoch:Nat):Int),(pre.length:Int))) ((n+Z4i s.Mail e k x.Epoch:Nat):Int) (fun pre m post h=>?_) ?_
           ·have hx:=Z78 h
            have hm:=Z88 h
            have hc:=Z6i pre e k x.Epoch
            dsimp only [Zcq]
            rw [Z66 hx,Z06,Z46 hx,Option.bind_some,Z5i,Zc8,mailB_iffJ]
            have step:∀z,Zaq ((n+Z4i pre e k x.Epoch:Nat):Int) (pre.length:Int) z=some (.inl (((n+(Z4i pre e k x.Epoch+bn z):Nat):Int),((pre.length+1:Nat):Int))):=fun z=>by
             cases z with
             | true=>dsimp only [Zaq,Z9q];rw [Z06,Z86 (by omega),Z86 (by omega)];rfl
             | false=>dsimp only [Zaq,Z9q];rw [Z16,Z86 (by omega)];rfl
            have j6:∀z,Zbq k x ((n+Z4i pre e k x.Epoch:Nat):Int) (pre.length:Int) m z=some (.inl (((n+(Z4i pre e k x.Epoch+bn (z&&(decide (m.Msg.Kind=k)&&decide (m.Msg.Epoch=x.Epoch)))):Nat):Int),((pre.length+1:Nat):Int))):=fun z=>by
             dsimp only [Zbq]
             cases z with
             | false=>rw [Z16,step,Bool.false_and]
             | true=>
               rw [Z06,Bool.true_and]
               cases decide (m.Msg.Kind=k) with
               | false=>rw [Z16,step,Bool.false_and]
               | true=>rw [Z06,step,Bool.true_and]
            simp only [j6]
            cases decide (m.From=e.A)<;>cases decide (m.To=e.B)<;>cases decide (m.From=e.B)<;>rfl
           ·dsimp only [Zcq]
            rw [Z76,Z16];rfl
          ·rw [decide_eq_false he,Bool.not_false,if_neg he];rfl
     by_cases h1:k<1
     ·rw [decide_eq_true h1,Z06,zero,if_neg (by omega)]
      cases Zi8 da.Diner e.B with
      | none=>rfl
      | some x=>
        cases Zi8 db.Diner e.A with
        | none=>rfl
        | some y=>
          dsimp only
          rw [decide_eq_false (show ¬k=1 by omega),decide_eq_false (show ¬k=2 by omega)];simp
     ·rw [decide_eq_false h1,Z16]
      by_cases h4:4<k
      ·rw [decide_eq_true h4,zero,if_neg (by omega)]
       cases Zi8 da.Diner e.B with
       | none=>rfl
       | some x=>
         cases Zi8 db.Diner e.A with
         | none=>rfl
         | some y=>
           dsimp only
           rw [decide_eq_false (show ¬k=1 by omega),decide_eq_false (show ¬k=2 by omega)];simp
      ·rw [decide_eq_false h4,core (by omega) (by omega)]
       have hk:k=1∨k=2∨k=3∨k=4:=by omega
       cases Zi8 da.Diner e.B with
       | none=>by_cases q:k=3∨k=4<;>simp [q]
       | some x=>
         cases Zi8 db.Diner e.A with
         | none=>by_cases q:k=3∨k=4<;>simp [q]
         | some y=>
           dsimp only
           rcases hk with rfl | rfl | rfl | rfl
           ·rw [if_neg (show ¬((1:Int)=3∨(1:Int)=4) by omega)];by_cases he:x.Epoch=y.Epoch<;>simp [he,hasX,has,scB]
           ·rw [if_neg (show ¬((2:Int)=3∨(2:Int)=4) by omega)];by_cases he:x.Epoch=y.Epoch<;>simp [he,hasX,has,scB]
           ·rw [if_pos (show ((3:Int)=3∨(3:Int)=4) by omega)];simp [hasX,lies]
           ·rw [if_pos (show ((4:Int)=3∨(4:Int)=4) by omega)];simp [hasX,lies]
theorem s_r16Who (s:Bar) (t:Int) (hD:fewL s.Drinkers):Zmq s t=some (whoL s.Drinkers t):=by
 unfold Zmq
 refine Z68 s.Drinkers (Zlq s t) (fun pre=>((pre.length:Int),whoL pre t)) _ (fun pre d post h=>?_) ?_
 ·have hx:=Z78 h
  have hm:=Z88 h
  have:=hD.1
  have hl:=whoL_len pre t
  have e:whoL (pre++[d]) t=if d.Thirst=t then whoL pre t++[d.Diner.ID] else whoL pre t:=by
   unfold whoL
   by_cases hp:d.Thirst=t<;>simp [hp]
  dsimp only [Zlq]
  rw [Z66 hx,Z06,Z46 hx,Option.bind_some,e,Zc8]
  by_cases hp:d.Thirst=t
  ·rw [decide_eq_true hp,Z06,Option.bind_some,Z56 _ _ (by omega) (by simp only [List.length_singleton];omega),Option.bind_some,if_pos hp]
   dsimp only [Zkq];rw [Z86 (by omega)]
  ·rw [decide_eq_false hp,Z16,if_neg hp]
   dsimp only [Zkq];rw [Z86 (by omega)]
 ·dsimp only [Zlq]
  rw [Z76,Z16];rfl
theorem Zvq:fewL Zkk.Drinkers:=⟨by simp [Zkk],by simp [Zkk]⟩
theorem actBP_few {s:Bar} (hD:fewL s.Drinkers) (a:Int) {r:Drinker×Int} (hn:r.1.Need.length≤5000):fewL (Zvk s a r).1.Drinkers:=by
 unfold Zvk
 split
 ·split
  ·rename_i h
   refine ⟨by simpa [actBS] using hD.1,fun d hd=>?_⟩
   rcases List.mem_or_eq_of_mem_set hd with hd | rfl
   ·exact hD.2 d hd
   ·obtain ⟨f1,f2⟩:=Ztk r.1
    have:=Z0a (Zvf h)
    rw [f1,f2];omega
  ·exact Zvq
 ·exact Zvq
theorem actR_few {s:Bar} (hD:fewL s.Drinkers) (k a b:Int) {need:List Int} (hn:need.length≤5000):fewL (Z3l s k a b need).1.Drinkers:=by
 have turn:∀q:Drinker→Drinker×Int,(∀d∈s.Drinkers,(q d).1.Need.length≤5000)→fewL (Zwk s a q).1.Drinkers:=fun q hq=>by
  unfold Zwk
  split
  ·split
   ·rename_i ht
    obtain ⟨d,hd,hd'⟩:=Zqk ht
    rw [hd]
    exact actBP_few hD _ (hq d (List.mem_iff_getElem?.2 ⟨_,hd'⟩))
   ·exact Zvq
  ·exact Zvq
 unfold Z3l
 split
 ·exact turn _ fun d _=>Zxk hn
 ·split
  ·exact turn _ fun d _=>Zyk d
  ·unfold Z1l
   split
   ·split
    ·rename_i ht
     rw [Bool.and_eq_true] at ht
     obtain ⟨d,hd,hd'⟩:=Zqk ht.2
     split
     ·exact Zvq
     ·rw [hd]
      split
      ·rename_i e
       have ed:d=_:=Option.some.inj e
       subst ed
       refine actBP_few (s:=⟨s.Drinkers,_⟩) ?_ _ (Z0l ?_)
       ·exact hD
       ·exact (hD.2 _ (List.mem_iff_getElem?.2 ⟨_,hd'⟩)).2
      ·exact Zvq
    ·exact Zvq
   ·exact Zvq
theorem p_narthexlaw16_BarSteps (s:Bar) (c:narthexlaw16_Act) (e:Edge) (kd t:Int):Zsq s c e kd t=some true:=by
 obtain ⟨k0,a,b,need⟩:=c
 have yes:Zrq s ⟨k0,a,b,need⟩ e kd t true=some true:=by
  simp only [Zrq,Z06,s_awake16,Option.bind_some]
 simp only [Zsq,s_awake16,Option.bind_some,Bool.not_true,Z16,s_Few16,Zw4]
 cases hf:fewR s with
 | false=>exact yes
 | true=>
   rw [Bool.not_true,Z16]
   by_cases hn:(24:Int)<need.length
   ·rw [decide_eq_true hn];exact yes
   ·rw [decide_eq_false hn]
    have hD:=Zvl hf
    obtain ⟨f1,f2,f3⟩:=fewR_iff hf
    simp only [Zrq,Z16,s_own16 s hD (by omega),s_act16 s _ a b need hD (by omega) (by omega),Option.bind_some]
    generalize hk:min (max k0 0) 2=k
    have hk3:k=0∨k=1∨k=2:=by omega
    have hX:=actR_few hD k a b (need:=need) (by omega)
    have hXM:(Z3l s k a b need).1.Mail.length≤900000:=by
     by_cases h0:(Z3l s k a b need).2=0
     ·have:=actR_mail h0;omega
     ·rcases actR_others (s:=s) (a:=a) (b:=b) need hk3 with q | q
      ·exact absurd q.1 h0
      ·rw [q.2];simp [Zkk]
    simp only [Zqq,hk,s_r16Step s k a b need hk3 hD (by omega) (by omega),Option.bind_some,s_r16Same _ _ hX hXM,decide_true,Z06,s_own16 s hD (by omega),s_own16 _ hX hXM,Zmk s hD (by omega),Zuq s hD (by omega),s_bCount s e kd hD (by omega),s_r16Count s e kd hD (by omega),
     s_Who s t hD,s_r16Who s t hD,Zul _ _ (show (whoL s.Drinkers t).length≤1000000 by have:=whoL_len s.Drinkers t;omega),s_bSame s _ hD (by omega),s_r16Same s _ hD (by omega),s_Scene s hD (by omega),Ztq s hD,s_Same14 (scB s) (scB s) (fewL_D hD) (show s.Mail.length≤900000 by omega),Zpq]
    cases Zlk s<;>simp
end NX
end Go.Proofs.YtacfbmldajmjiaaGreat
