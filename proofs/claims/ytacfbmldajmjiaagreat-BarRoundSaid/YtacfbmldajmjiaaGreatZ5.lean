/-
  The function narthex/narthexlaw13.Own: its code compiled, a model, and that the code answers as the model. Written by a program of ours (lb.py). No statement of the seat is proved here.
-/
import Derived.KernelRfl
import Derived.Test.YtacfbmldajmjiaaGreatZ1
import Derived.Test.YtacfbmldajmjiaaGreatZ4
import Derived.Test.YtacfbmldajmjiaaGreatZ3
import Derived.Test.YtacfbmldajmjiaaGreatZ2
namespace Go.Proofs.YtacfbmldajmjiaaGreat
namespace NX
open Go
set_option maxRecDepth 100000
set_option maxHeartbeats 4000000
@[go_sem] def e92:EC:=.seq (.reg [(Qx 1 61 3 0),(Qa 2 (.alloc 61 [.iv 0,.iv 0,.nl]))]) (.seq (.reg [(Qa 3 (.bsl 66 8 0 [.iv 0,.iv 0,.iv 0,.ff,.ff,.ff,.ff,.ff] [])),(Qf 4 2 1),(Ql 5 4),(Qa 6 (.app 66 8 32 (.t 3) (.t 5))),(Qf 7 2 1),(Qs 1 7 6)]) (.seq (.reg [(Qe 8 3 1),(Qs 3 2 8)]) (.ret)))
theorem ok92:FnOK Tryz.prog 92 Tryz.f92 e92 [.c 2 (some 3)] 1 8:=⟨by kernel_rfl,⟨_,rfl,by kernel_rfl⟩,by kernel_rfl,by kernel_rfl⟩
noncomputable def Z4l (x1:Diner):Option Diner:=
 (Ze4 32 (([]:List Side)) x1.Sides).bind fun x2=>
 some (Diner.mk x1.ID x1.Phase x2)
theorem Z5l (x1:Diner) (r:Diner) (h:Z4l x1=some r):Zu2 Tryz.prog 92 [.agg (Diner.row x1)] (.agg (Diner.row r)):=by
 refine Zy2 ok92 rfl rfl fun w0 H0=>?_
 rw [Z4l] at h
 refine Zo2 10 ?_;dsimp only [go_sem];refine An ?_;obtain ⟨x2,ex2,h⟩:=Bs h;refine Zs4 Side.row ex2 trivial rfl rfl rfl ?_;refine Zo2 8 ?_;dsimp only [go_sem];refine An ?_;refine Zc3 1 rfl ?_;dsimp only [go_sem];exact Zv4 (res:=fun (r:Diner)=>.agg (Diner.row r)) ok92 h
set_option maxRecDepth 100000
set_option maxHeartbeats 4000000
@[go_sem] def e50:EC:=.seq (.reg [(Qx 1 63 5 0),(Qa 2 (.alloc 63 [.iv 0,.iv 0,.nl,.iv 0,.nl]))]) (.seq (.reg [(Qf 3 0 1),(Qe 4 3 3),(Qa 5 (.call 92 [(.t 4)])),(Qf 6 0 1),(Qs 3 6 5)]) (.seq (.reg [(Qa 7 (.bsl 3 1 0 [.iv 0] [])),(Qf 8 4 1),(Ql 9 8),(Qa 10 (.app 3 1 8 (.t 7) (.t 9))),(Qf 11 4 1),(Qs 1 11 10)]) (.seq (.reg [(Qe 12 5 1),(Qs 5 2 12)]) (.ret))))
theorem ok50:FnOK Tryz.prog 50 Tryz.f50 e50 [.c 2 (some 5)] 1 12:=⟨by kernel_rfl,⟨_,rfl,by kernel_rfl⟩,by kernel_rfl,by kernel_rfl⟩
noncomputable def Z6l (x1:Drinker):Option Drinker:=
 (Z4l x1.Diner).bind fun x2=>
 (Ze4 8 (([]:List Int)) x1.Need).bind fun x3=>
 some (Drinker.mk x2 x1.Thirst x3)
theorem Z7l (x1:Drinker) (r:Drinker) (h:Z6l x1=some r):Zu2 Tryz.prog 50 [.agg (Drinker.row x1)] (.agg (Drinker.row r)):=by
 refine Zy2 ok50 rfl rfl fun w0 H0=>?_
 rw [Z6l] at h
 refine Zo2 9 ?_;dsimp only [go_sem];refine An ?_;obtain ⟨x2,ex2,h⟩:=Bs h;refine Z33 trivial (Z5l x1.Diner _ ex2) (h:=?_);refine Zo2 8 ?_;dsimp only [go_sem];refine An ?_;obtain ⟨x3,ex3,h⟩:=Bs h;refine Zs4 Z15 ex3 trivial rfl rfl rfl ?_;refine Zo2 8 ?_;dsimp only [go_sem];refine An ?_;refine Zc3 1 rfl ?_;dsimp only [go_sem];exact Zv4 (res:=fun (r:Drinker)=>.agg (Drinker.row r)) ok50 h
set_option maxRecDepth 100000
set_option maxHeartbeats 4000000
@[go_sem] def e14_L0:EC:=.seq (.seq (.reg [(Qm 10 4),(Qf 11 0 1),(Ql 12 11),(Qa 13 (.len (.t 12))),(Qa 14 (.bin .lss (.t 10) (.t 13)))]) (.ite (.t 14) (.skip) (.exit 0))) (.seq (.blk 1 (.drw [(Qf 17 0 3),(Ql 18 17),(Qf 19 0 1),(Ql 20 19),(Qm 21 4),(Qk 22 5 20 21),(Qe 23 5 22),(Qa 24 (.call 50 [(.t 23)])),(Qa 25 (.bsl 63 5 1 [.iv 0,.iv 0,.nl,.iv 0,.nl] [(0,(.t 24))])),(Qa 26 (.app 63 5 72 (.t 18) (.t 25))),(Qf 27 0 3),(Qs 1 27 26)] [[],[0],[],[2],[],[3,4],[5],[6],[7],[1,8,7],[0,1,2,3,4,5,6,7,8,9],[10,9,9,0,1,2,3,4,5,6,7,8,9]] [[1],[0,9],[3],[2,5],[5],[3,4,6],[5,7],[6,8],[7,9],[1,8,11],[11],[9,10]])) (.reg [(Qm 15 4),(Qv 16 15 1),(Qm 4 16)]))
@[go_sem] def e14:EC:=.seq (.reg [(Qx 1 25 2 0),(Qa 2 (.alloc 25 [.nl,.nl]))]) (.seq (.reg [(Qa 5 (.bsl 95 5 0 [.iv 0,.iv 0,.iv 0,.iv 0,.iv 0] [])),(Qf 6 1 1),(Ql 7 6),(Qa 8 (.app 95 5 40 (.t 5) (.t 7))),(Qa 9 (.build [.nl,.nl] [(1,1,(.t 8))])),(Qa 3 (.alloc 25 [.nl,.nl])),(Qs 2 3 9)]) (.seq (.seq (.reg [(Qi 4 0)]) (.blk 0 (.loop e14_L0))) (.seq (.reg [(Qe 28 2 3),(Qs 2 2 28)]) (.ret))))
theorem ok14:FnOK Tryz.prog 14 Tryz.f14 e14 [.c 2 (some 2)] 1 28:=⟨by kernel_rfl,⟨_,rfl,by kernel_rfl⟩,by kernel_rfl,by kernel_rfl⟩
noncomputable def Z8l (x2:(List Mail)):(List Drinker)→Option Bar
| x28=>
 some (Bar.mk x28 x2)
noncomputable def Z9l (x1:Bar) (x2:(List Mail)):(Int×(List Drinker))→Option ((Int×(List Drinker)) ⊕ Bar)
| (x8,x9)=>
 ifb (decide (x8<(ln Drinker.row x1.Drinkers))) (
 (at_ x1.Drinkers x8).bind fun x10=>
 (Z6l x10).bind fun x11=>
 (Ze4 72 x9 ([x11])).bind fun x13=>
 some (.inl (wr (x8+1),x13))) (
 Option.map Sum.inr ((Z8l x2) x9))
noncomputable def Zal (x1:Bar):Option Bar:=
 (Ze4 40 (([]:List Mail)) x1.Mail).bind fun x2=>
 loop (Z9l x1 x2) (0,([]:List Drinker))
theorem Zbl (x1:Bar) (r:Bar) (h:Zal x1=some r):Zu2 Tryz.prog 14 [.agg (Bar.row x1)] (.agg (Bar.row r)):=by
 refine Zy2 ok14 rfl rfl fun w0 H0=>?_
 rw [Zal] at h
 refine Zo2 10 ?_;dsimp only [go_sem];refine An ?_;obtain ⟨x2,ex2,h⟩:=Bs h;refine Zs4 Mail.row ex2 trivial rfl rfl rfl ?_;refine Zo2 9 ?_;dsimp only [go_sem];refine An ?_;refine Zl4 (fun (x28:(List Drinker))=>(⟨(.any :: .any :: .ptr 1 0 :: .ptr 2 0::an 25 []),[none,some ⟨25,[.nl,.nl]⟩,some ⟨25,[.osl 2,.osl 1]⟩],[none,some ⟨95,5,List.map Mail.row x2⟩,some ⟨63,5,List.map Drinker.row x28⟩]⟩:St)) (Z8l x2) r ?_ fun J1=>?_
 ·intro x28 h;rw [Z8l] at h;(try dsimp only);refine Zo2 5 ?_;dsimp only [go_sem];refine An ?_;refine Zc3 2 rfl ?_;dsimp only [go_sem];refine Zc3 1 rfl ?_;dsimp only [go_sem];exact Zv4 (res:=fun (r:Bar)=>.agg (Bar.row r)) ok14 h
 ·refine Zo2 1 ?_;dsimp only [go_sem];refine An ?_;refine Z84 2 0 63 5 rfl rfl rfl ?_;dsimp only [go_sem];refine Zm4 h (fun ((x8,x9):(Int×(List Drinker)))=>(⟨(.any :: .ptr 0 0 :: .ptr 1 0 :: .ptr 2 0 :: .iv x8::an 24 []),[some ⟨25,[.sl 5 (List.map Drinker.row x1.Drinkers),.sl 5 (List.map Mail.row x1.Mail)]⟩,some ⟨25,[.nl,.nl]⟩,some ⟨25,[.osl 2,.osl 1]⟩],[none,some ⟨95,5,List.map Mail.row x2⟩,some ⟨63,5,List.map Drinker.row x9⟩]⟩:St)) (by simp [go_sem]) (by rintro ⟨x8,x9⟩;first | rfl | simp [go_sem]) ?_;rintro n1 ⟨x8,x9⟩ y1 h hin1 hout1
  rw [Z9l] at h;(try dsimp only);refine Zo2 9 ?_;dsimp only [go_sem];refine An ?_;refine Zn4 h rfl (fun _ h=>?_) fun _ h=>?_
  ·refine Zo2 3 ?_;dsimp only [go_sem];refine An ?_;refine Zk3 (by kernel_rfl) fun all hall hs hnap haf=>?_;dsimp only [go_sem];refine Zc5 hall hs haf hnap 4 8 ?_;dsimp only [go_sem];refine An ?_;obtain ⟨x10,ex10,h⟩:=Bs h;refine Zr4 hall hs haf hnap 5 Drinker.row ex10 rfl rfl trivial rfl rfl rfl rfl ?_;refine Zc5 hall hs haf hnap 1 6 ?_;dsimp only [go_sem];refine An ?_;obtain ⟨x11,ex11,h⟩:=Bs h;refine Zw3 1 7 rfl ?_ ?_
   ·refine Z04 hall rfl trivial ?_;dsimp only [go_sem];refine Zv3 7 rfl ?_;refine Z14 hall rfl trivial (Z7l x10 _ ex11) (h:=?_);dsimp only [go_sem];refine Zv3 8 rfl ?_;refine Z04 hall rfl trivial ?_;dsimp only [go_sem];refine Zv3 9 rfl ?_;obtain ⟨x13,ex13,h⟩:=Bs h;refine Zt4 Drinker.row ex13 hall rfl trivial rfl rfl rfl ?_;dsimp only [go_sem];refine Zc5 hall hs haf hnap 1 1 ?_;dsimp only [go_sem];refine An ?_;refine Zv3 11 rfl ?_;refine Z04 hall rfl trivial ?_;dsimp only [go_sem];refine Zu3 rfl ?_ _;refine Zo2 6 ?_
    dsimp only [go_sem];refine An ?_;refine Z64 4 2 rfl rfl rfl ?_;dsimp only [go_sem];exact Zw4 h hin1
   ·refine Z14 hall rfl trivial (Z7l x10 _ ex11) (h:=?_);dsimp only [go_sem];refine Zw3 1 8 rfl ?_ ?_
    ·refine Z04 hall rfl trivial ?_;dsimp only [go_sem];refine Zv3 8 rfl ?_;refine Z04 hall rfl trivial ?_;dsimp only [go_sem];refine Zv3 9 rfl ?_;obtain ⟨x13,ex13,h⟩:=Bs h;refine Zt4 Drinker.row ex13 hall rfl trivial rfl rfl rfl ?_;dsimp only [go_sem];refine Zc5 hall hs haf hnap 1 1 ?_;dsimp only [go_sem];refine An ?_;refine Zv3 11 rfl ?_;refine Z04 hall rfl trivial ?_;dsimp only [go_sem];refine Zu3 rfl ?_ _;refine Zo2 6 ?_;dsimp only [go_sem];refine An ?_;refine Z64 4 2 rfl rfl rfl ?_;dsimp only [go_sem];exact Zw4 h hin1
    ·refine Z04 hall rfl trivial ?_;dsimp only [go_sem];refine Zv3 1 rfl ?_;refine Z04 hall rfl trivial ?_;dsimp only [go_sem];refine Zv3 9 rfl ?_;obtain ⟨x13,ex13,h⟩:=Bs h;refine Zt4 Drinker.row ex13 hall rfl trivial rfl rfl rfl ?_;dsimp only [go_sem];refine Zc5 hall hs haf hnap 1 1 ?_;dsimp only [go_sem];refine An ?_;refine Zv3 11 rfl ?_;refine Z04 hall rfl trivial ?_;dsimp only [go_sem];refine Zu3 rfl ?_ _;refine Zo2 6 ?_;dsimp only [go_sem];refine An ?_;refine Z64 4 2 rfl rfl rfl ?_;dsimp only [go_sem];exact Zw4 h hin1
  ·refine Zo2 1 ?_;dsimp only [go_sem];refine An ?_;exact Zx4 J1 (s:=x9) (Zk4 h hout1)
set_option maxRecDepth 100000
set_option maxHeartbeats 4000000
@[go_sem] def e22_L0:EC:=.seq (.reg [(Qa 12 (.bin .lss (.t 11) (.t 10)))]) (.seq (.ite (.t 12) (.skip) (.exit 0)) (.seq (.blk 1 (.seq (.reg [(Qk 13 5 9 11),(Qe 14 5 13),(Qa 7 (.alloc 63 [.iv 0,.iv 0,.nl,.iv 0,.nl])),(Qs 5 7 14)]) (.seq (.reg [(Qf 15 3 7),(Ql 16 15),(Qm 17 1),(Qa 18 (.bin .eql (.t 16) (.t 17)))]) (.ite (.t 18) (.reg [(Qm 19 5),(Qf 20 0 7),(Qf 21 0 20),(Ql 22 21),(Qa 23 (.bsl 3 1 1 [.iv 0] [(0,(.t 22))])),(Qa 24 (.app 3 1 8 (.t 19) (.t 23))),(Qm 5 24)]) (.skip))))) (.reg [(Qv 25 11 1),(Qm 11 25)])))
@[go_sem] def e22:EC:=.seq (.reg [(Qx 2 25 2 0),(Qa 4 (.mv (.c .nl)))]) (.seq (.reg [(Qa 5 (.mv (.c .nl)))]) (.seq (.seq (.reg [(Qf 8 0 2),(Ql 9 8),(Qa 10 (.len (.t 9))),(Qi 11 0)]) (.blk 0 (.loop e22_L0))) (.seq (.reg [(Qm 26 5),(Qm 4 26)]) (.ret))))
theorem ok22:FnOK Tryz.prog 22 Tryz.f22 e22 [.t 4] 2 25:=⟨by kernel_rfl,⟨_,rfl,by kernel_rfl⟩,by kernel_rfl,by kernel_rfl⟩
noncomputable def Zcl:(List Int)→Option (List Int)
| x20=>
 some x20
noncomputable def Zdl (x8:Int):(List Int)→Option ((Int×(List Int)) ⊕ (List Int))
| x12=>
 some (.inl (wr (x8+1),x12))
noncomputable def Zel (x1:Bar) (x2:Int):(Int×(List Int))→Option ((Int×(List Int)) ⊕ (List Int))
| (x8,x9)=>
 ifb (decide (x8<(ln Drinker.row x1.Drinkers))) (
 (at_ x1.Drinkers x8).bind fun x10=>
 ifb (decide (x10.Thirst=x2)) (
 (Ze4 8 x9 ([x10.Diner.ID])).bind fun x11=>
 (Zdl x8) x11) (
 (Zdl x8) x9)) (
 Option.map Sum.inr (Zcl x9))
noncomputable def Zfl (x1:Bar) (x2:Int):Option (List Int):=
 loop (Zel x1 x2) (0,([]:List Int))
theorem o_bar_Who (x1:Bar) (x2:Int) (r:(List Int)) (h:Zfl x1 x2=some r):FunO Tryz.prog 22 [.agg (Bar.row x1),.iv x2] 3 1 (List.map Z15 r):=by
 refine Z95 ok22 rfl fun w0 H0=>?_
 rw [Zfl] at h
 refine Zo2 17 ?_;dsimp only [go_sem];refine An ?_;refine Zl4 (fun (x20:(List Int))=>(⟨(an 5 (.osl 0::an 21 [])),[],[some ⟨3,1,List.map Z15 x20⟩]⟩:St)) Zcl r ?_ fun J1=>?_
 ·intro x20 h;rw [Zcl] at h;(try dsimp only);refine Zo2 5 ?_;dsimp only [go_sem];refine An ?_;exact Ze5 Z15 ok22 h rfl rfl
 ·refine Zo2 1 ?_;dsimp only [go_sem];refine An ?_;refine Z74 5 3 1 rfl rfl ?_;dsimp only [go_sem];refine Zm4 h (fun ((x8,x9):(Int×(List Int)))=>(⟨(.any :: .iv x2::an 3 (.osl 0::an 3 (.sl 5 (List.map Drinker.row x1.Drinkers) :: .iv (ln Drinker.row x1.Drinkers) :: .iv x8::an 15 []))),[],[some ⟨3,1,List.map Z15 x9⟩]⟩:St)) (by simp [go_sem]) (by rintro ⟨x8,x9⟩;first | rfl | simp [go_sem]) ?_;rintro n1 ⟨x8,x9⟩ y1 h hin1 hout1;rw [Zel] at h;(try dsimp only);refine Zo2 5 ?_;dsimp only [go_sem];refine An ?_
  refine Zn4 h rfl (fun _ h=>?_) fun _ h=>?_
  ·refine Zo2 5 ?_;dsimp only [go_sem];refine An ?_;obtain ⟨x10,ex10,h⟩:=Bs h;refine Zq4 Drinker.row ex10 trivial rfl rfl rfl ?_;refine Zo2 11 ?_;dsimp only [go_sem];refine An ?_;refine Zl4 (fun (x12:(List Int))=>(⟨(.any :: .iv x2::an 3 (.osl 0::an 3 (.sl 5 (List.map Drinker.row x1.Drinkers) :: .iv (ln Drinker.row x1.Drinkers) :: .iv x8::an 15 []))),[],[some ⟨3,1,List.map Z15 x12⟩]⟩:St)) (Zdl x8) y1 ?_ fun J2=>?_
   ·intro x12 h;rw [Zdl] at h;(try dsimp only);refine Zo2 5 ?_;dsimp only [go_sem];refine An ?_;exact Zw4 h hin1
   ·refine Zn4 h rfl (fun _ h=>?_) fun _ h=>?_
    ·refine Zo2 6 ?_;dsimp only [go_sem];refine An ?_;obtain ⟨x11,ex11,h⟩:=Bs h;refine Zs4 Z15 ex11 trivial rfl rfl rfl ?_;refine Zo2 2 ?_;dsimp only [go_sem];refine An ?_;refine Z64 2 0 rfl rfl rfl ?_;dsimp only [go_sem];exact Zx4 J2 (s:=x11) h
    ·refine Zo2 1 ?_;dsimp only [go_sem];refine An ?_;exact Zx4 J2 (s:=x9) h
  ·refine Zo2 1 ?_;dsimp only [go_sem];refine An ?_;exact Zx4 J1 (s:=x9) (Zk4 h hout1)
theorem Zgl (x1:Bar) (x2:Int) (r:(List Int)) (h:Zfl x1 x2=some r):Zu2 Tryz.prog 22 [.agg (Bar.row x1),.iv x2] (.sl 1 (List.map Z15 r)):=(o_bar_Who x1 x2 r h).sealed
set_option maxRecDepth 100000
set_option maxHeartbeats 4000000
@[go_sem] def e19_L1:EC:=.seq (.reg [(Qa 103 (.bin .lss (.t 102) (.t 101)))]) (.seq (.ite (.t 103) (.skip) (.exit 2)) (.seq (.blk 3 (.seq (.reg [(Qk 104 5 100 102),(Qe 105 5 104),(Qa 16 (.alloc 95 [.iv 0,.iv 0,.iv 0,.iv 0,.iv 0])),(Qs 5 16 105)]) (.seq (.reg [(Qf 106 2 16),(Qf 107 0 106),(Ql 108 107),(Qm 109 2),(Qa 110 (.bin .eql (.t 108) (.t 109))),(Qm 111 110),(Qh 112 111 true 2 16),(Qh 113 111 true 1 112),(Qn 114 111 true 113),(Qh 115 111 true 1 7),(Qn 116 111 true 115),(Qg 117 111 true (.bin .eql (.t 114) (.t 116))),(Qp 118 111 117),(Qm 119 118),(Qh 120 119 true 0 16),(Qn 121 119 true 120),(Qh 122 119 true 1 16),(Qn 123 119 true 122),(Qg 124 119 true (.mm false [(.t 121),(.t 123)])),(Qh 125 119 true 0 4),(Qn 126 119 true 125),(Qh 127 119 true 1 4),(Qn 128 119 true 127),(Qg 129 119 true (.mm false [(.t 126),(.t 128)])),(Qg 130 119 true (.bin .eql (.t 124) (.t 129))),(Qp 131 119 130),(Qm 132 131),(Qh 133 132 true 0 16),(Qn 134 132 true 133),(Qh 135 132 true 1 16),(Qn 136 132 true 135),(Qg 137 132 true (.mm true [(.t 134),(.t 136)])),(Qh 138 132 true 0 4),(Qn 139 132 true 138),(Qh 140 132 true 1 4),(Qn 141 132 true 140),(Qg 142 132 true (.mm true [(.t 139),(.t 141)])),(Qg 143 132 true (.bin .eql (.t 137) (.t 142))),(Qp 144 132 143)]) (.ite (.t 144) (.reg [(Qm 145 12),(Qv 146 145 1),(Qm 12 146)]) (.skip))))) (.reg [(Qv 147 102 1),(Qm 102 147)])))
@[go_sem] def e19_L0:EC:=.seq (.reg [(Qa 93 (.bin .lss (.t 92) (.c (.iv 2))))]) (.seq (.ite (.t 93) (.skip) (.exit 0)) (.seq (.blk 1 (.seq (.reg [(Qa 94 (.ai 2 (.t 91) (.t 92))),(Qm 14 94)]) (.seq (.reg [(Qm 95 14)]) (.ite (.t 95) (.reg [(Qm 96 12),(Qv 97 96 1),(Qm 12 97)]) (.skip))))) (.reg [(Qv 98 92 1),(Qm 92 98)])))
@[go_sem] def e19:EC:=.seq (.reg [(Qx 3 25 2 0),(Qx 4 30 2 1),(Qi 6 0)]) (.seq (.seq (.reg [(Qm 17 2),(Qa 18 (.bin .neq (.t 17) (.c (.iv 3)))),(Qm 19 18),(Qg 20 19 true (.mv (.t 2))),(Qg 21 19 true (.bin .neq (.t 20) (.c (.iv 4)))),(Qp 22 19 21)]) (.ite (.t 22) (.seq (.drw [(Qe 23 2 3),(Qa 24 (.call 26 [(.t 23)])),(Qe 25 2 4),(Qm 26 2),(Qa 27 (.call 63 [(.t 24),(.t 25),(.t 26)])),(Qm 6 27)] [[],[0],[],[],[1,2,3,1],[4,4,0,1,2,3,4]] [[1],[0,4],[4],[4],[1,2,3,5],[4]]) (.ret)) (.skip))) (.seq (.seq (.reg [(Qe 28 2 3),(Qf 29 0 4),(Ql 30 29),(Qa 31 (.call 64 [(.t 28),(.t 30)])),(Qa 32 (.not (.t 31))),(Qm 33 32),(Qg 34 33 false (.loadA 2 (.t 3))),(Qh 35 33 false 1 4),(Qn 36 33 false 35),(Qg 37 33 false (.call 64 [(.t 34),(.t 36)])),(Qg 38 33 false (.not (.t 37))),(Qq 39 33 38)]) (.ite (.t 39) (.seq (.reg [(Qi 6 0)]) (.ret)) (.skip))) (.seq (.drw [(Qf 41 0 3),(Ql 42 41),(Qf 43 0 4),(Ql 44 43),(Qk 45 5 42 44),(Qf 46 0 45),(Qe 47 3 46),(Qf 48 1 4),(Ql 49 48),(Qa 50 (.call 65 [(.t 47),(.t 49)])),(Qm 40 50),(Qa 51 (.ext (.t 40) 0)),(Qa 52 (.ext (.t 40) 1)),(Qa 7 (.alloc 66 [.iv 0,.iv 0,.iv 0,.ff,.ff,.ff,.ff,.ff])),(Qs 8 7 51),(Qm 8 52)] [[],[0],[],[2],[1,3],[4],[5],[],[7],[6,8],[9],[10],[10],[],[13,11,9,0,1,2,3,4,5,6,7,8,9,10,11,13],[12,14,0,1,2,3,4,5,6,7,8,9,10,11,12,13,14]] [[1],[0,4],[3],[2,4],[1,3,5],[4,6],[5,9],[8],[7,9],[6,8,10],[9,11,12],[10,14],[10,15],[14],[11,13],[12]]) (.seq (.drw [(Qf 54 0 3),(Ql 55 54),(Qf 56 1 4),(Ql 57 56),(Qk 58 5 55 57),(Qf 59 0 58),(Qe 60 3 59),(Qf 61 0 4),(Ql 62 61),(Qa 63 (.call 65 [(.t 60),(.t 62)])),(Qm 53 63),(Qa 64 (.ext (.t 53) 0)),(Qa 65 (.ext (.t 53) 1)),(Qa 9 (.alloc 66 [.iv 0,.iv 0,.iv 0,.ff,.ff,.ff,.ff,.ff])),(Qs 8 9 64),(Qm 10 65)] [[],[0],[],[2],[1,3],[4],[5],[],[7],[6,8],[9],[10],[10],[],[13,11,9,0,1,2,3,4,5,6,7,8,9,10,11,13],[12,14,0,1,2,3,4,5,6,7,8,9,10,11,12,13,14]] [[1],[0,4],[3],[2,4],[1,3,5],[4,6],[5,9],[8],[7,9],[6,8,10],[9,11,12],[10,14],[10,15],[14],[11,13],[12]]) (.seq (.seq (.reg [(Qm 66 8),(Qa 67 (.not (.t 66))),(Qm 68 67),(Qg 69 68 false (.mv (.t 10))),(Qg 70 68 false (.not (.t 69))),(Qq 71 68 70),(Qm 72 71),(Qh 73 72 false 1 7),(Qn 74 72 false 73),(Qh 75 72 false 1 9),(Qn 76 72 false 75),(Qg 77 72 false (.bin .neq (.t 74) (.t 76))),(Qq 78 72 77)]) (.ite (.t 78) (.seq (.reg [(Qi 6 0)]) (.ret)) (.skip))) (.seq (.reg [(Qf 79 6 7),(Ql 80 79),(Qf 81 6 9),(Ql 82 81),(Qa 83 (.build [.ff,.ff] [(0,1,(.t 80)),(1,1,(.t 82))])),(Qa 11 (.alloc 105 [.ff,.ff])),(Qs 2 11 83)]) (.seq (.seq (.reg [(Qm 84 2),(Qa 85 (.bin .eql (.t 84) (.c (.iv 4))))]) (.ite (.t 85) (.reg [(Qf 86 7 7),(Ql 87 86),(Qf 88 7 9),(Ql 89 88),(Qa 90 (.build [.ff,.ff] [(0,1,(.t 87)),(1,1,(.t 89))])),(Qs 2 11 90)]) (.skip))) (.seq (.reg [(Qi 12 0)]) (.seq (.seq (.reg [(Qe 91 2 11),(Qi 92 0)]) (.blk 0 (.loop e19_L0))) (.seq (.seq (.reg [(Qf 99 1 3),(Ql 100 99),(Qa 101 (.len (.t 100))),(Qi 102 0)]) (.blk 2 (.loop e19_L1))) (.seq (.reg [(Qm 148 12),(Qm 6 148)]) (.ret))))))))))))
theorem ok19:FnOK Tryz.prog 19 Tryz.f19 e19 [.t 6] 3 146:=⟨by kernel_rfl,⟨_,rfl,by kernel_rfl⟩,by kernel_rfl,by kernel_rfl⟩
noncomputable def Zhl:Int→Option Int
| x61=>
 some x61
noncomputable def Zil (x48:Int):Int→Option ((Int×Int) ⊕ Int)
| x51=>
 some (.inl (x51,wr (x48+1)))
noncomputable def Zjl (x47:Int) (x48:Int):Bool→Option ((Int×Int) ⊕ Int)
| x50=>
 ifb x50 (
 (Zil x48) (wr (x47+1))) (
 (Zil x48) x47)
noncomputable def Zkl (x1:Bar) (x2:Edge) (x3:Int) (x14:Side):(Int×Int)→Option ((Int×Int) ⊕ Int)
| (x47,x48)=>
 ifb (decide (x48<(ln Mail.row x1.Mail))) (
 (at_ x1.Mail x48).bind fun x49=>
 ifb (decide (x49.Msg.Kind=x3)) (
 ifb (decide (x49.Msg.Epoch=x14.Epoch)) (
 ifb (decide (((min x49.From x49.To))=((min x2.A x2.B)))) (
 (Zjl x47 x48) (decide (((max x49.From x49.To))=((max x2.A x2.B))))) (
 (Zjl x47 x48) false)) (
 (Zjl x47 x48) false)) (
 (Zjl x47 x48) false)) (
 Option.map Sum.inr (Zhl x47))
noncomputable def Zll (x1:Bar) (x2:Edge) (x3:Int) (x14:Side):Int→Option Int
| x41=>
 loop (Zkl x1 x2 x3 x14) (x41,0)
noncomputable def Zml (x28:Int):Int→Option ((Int×Int) ⊕ Int)
| x30=>
 some (.inl (x30,wr (x28+1)))
noncomputable def Znl (x1:Bar) (x2:Edge) (x3:Int) (x14:Side) (x21:Bool) (x22:Bool):(Int×Int)→Option ((Int×Int) ⊕ Int)
| (x27,x28)=>
 ifb (decide (x28<2)) (
 (at_ [x21,x22] x28).bind fun x29=>
 ifb x29 (
 (Zml x28) (wr (x27+1))) (
 (Zml x28) x27)) (
 Option.map Sum.inr ((Zll x1 x2 x3 x14) x27))
noncomputable def Zol (x1:Bar) (x2:Edge) (x3:Int) (x14:Side):(Bool×Bool)→Option Int
| (x21,x22)=>
 loop (Znl x1 x2 x3 x14 x21 x22) (0,0)
noncomputable def Zpl (x1:Bar) (x2:Edge) (x3:Int) (x14:Side) (x19:Side):Bool→Option Int
| x20=>
 ifb x20 (
 some 0) (
 ifb (decide (x3=4)) (
 (Zol x1 x2 x3 x14) (x14.Ask,x19.Ask)) (
 (Zol x1 x2 x3 x14) (x14.Bottle,x19.Bottle)))
noncomputable def Zql (x1:Bar) (x2:Edge) (x3:Int) (x13:Bool) (x14:Side):(Bool×Side)→Option Int
| (x18,x19)=>
 ifb (!x13) (
 (Zpl x1 x2 x3 x14 x19) true) (
 ifb (!x18) (
 (Zpl x1 x2 x3 x14 x19) true) (
 (Zpl x1 x2 x3 x14 x19) (!decide (x14.Epoch=x19.Epoch))))
noncomputable def Zrl (x1:Bar) (x2:Edge) (x3:Int):(Bool×Side)→Option Int
| (x13,x14)=>
 (at_ x1.Drinkers x2.B).bind fun x15=>
 (Zp7 x15.Diner x2.A).bind fun x16=>
 (Zql x1 x2 x3 x13 x14) (x16.2,x16.1)
noncomputable def Zsl (x1:Bar) (x2:Edge) (x3:Int):Bool→Option Int
| x9=>
 ifb x9 (
 some 0) (
 (at_ x1.Drinkers x2.A).bind fun x10=>
 (Zp7 x10.Diner x2.B).bind fun x11=>
 (Zrl x1 x2 x3) (x11.2,x11.1))
noncomputable def Ztl (x1:Bar) (x2:Edge) (x3:Int):Bool→Option Int
| x4=>
 ifb x4 (
 (Z5k x1).bind fun x5=>
 (Zpe x5 x2 x3).bind fun x6=>
 some x6) (
 (Zhk x1 x2.A).bind fun x7=>
 ifb (!x7) (
 (Zsl x1 x2 x3) true) (
 (Zhk x1 x2.B).bind fun x8=>
 (Zsl x1 x2 x3) (!x8)))
noncomputable def Zul (x1:Bar) (x2:Edge) (x3:Int):Option Int:=
 ifb (!decide (x3=3)) (
 (Ztl x1 x2 x3) (!decide (x3=4))) (
 (Ztl x1 x2 x3) false)
theorem k_bar_Count (x1:Bar) (x2:Edge) (x3:Int) (r:Int) (h:Zul x1 x2 x3=some r):Zu2 Tryz.prog 19 [.agg (Bar.row x1),.agg (Edge.row x2),.iv x3] (.iv r):=by
 refine Zy2 ok19 rfl rfl fun w0 H0=>?_
 rw [Zul] at h
 refine Zo2 12 ?_;dsimp only [go_sem];refine An ?_;refine Zl4 (fun (x4:Bool)=>(⟨(.any :: .any :: .iv x3 :: .ptr 0 0 :: .ptr 1 0::an 17 (.bv x4::an 126 [])),[some ⟨25,[.sl 5 (List.map Drinker.row x1.Drinkers),.sl 5 (List.map Mail.row x1.Mail)]⟩,some ⟨30,[.iv x2.A,.iv x2.B]⟩],[]⟩:St)) (Ztl x1 x2 x3) r ?_ fun J1=>?_
 ·intro x4 h;rw [Ztl] at h;(try dsimp only);refine Zn4 h rfl (fun _ h=>?_) fun _ h=>?_
  ·refine Zo2 1 ?_;dsimp only [go_sem];refine An ?_;refine Zk3 (by kernel_rfl) fun all hall hs hnap haf=>?_;dsimp only [go_sem];refine Zc5 hall hs haf hnap 3 3 ?_;dsimp only [go_sem];refine An ?_;refine Zv3 1 rfl ?_;obtain ⟨x5,ex5,h⟩:=Bs h;refine Z14 hall rfl trivial (Z6k x1 _ ex5) (h:=?_);dsimp only [go_sem];refine Zv3 4 rfl ?_;obtain ⟨x6,ex6,h⟩:=Bs h;refine Z14 hall rfl trivial (k_table_Count x5 x2 x3 _ ex6) (h:=?_);dsimp only [go_sem];refine Zc5 hall hs haf hnap 1 0 ?_;dsimp only [go_sem];refine An ?_;refine Zu3 rfl ?_ _
   exact Zv4 (res:=fun (r:Int)=>.iv r) ok19 h
  ·refine Zo2 7 ?_;dsimp only [go_sem];refine An ?_;obtain ⟨x7,ex7,h⟩:=Bs h;refine Z33 trivial (Zik x1 x2.A _ ex7) (h:=?_);refine Zo2 2 ?_;dsimp only [go_sem];refine An ?_;refine Zl4 (fun (x9:Bool)=>(⟨(.any :: .any :: .iv x3 :: .ptr 0 0 :: .ptr 1 0::an 34 (.bv x9::an 109 [])),[some ⟨25,[.sl 5 (List.map Drinker.row x1.Drinkers),.sl 5 (List.map Mail.row x1.Mail)]⟩,some ⟨30,[.iv x2.A,.iv x2.B]⟩],[]⟩:St)) (Zsl x1 x2 x3) r ?_ fun J2=>?_
   ·intro x9 h;rw [Zsl] at h;(try dsimp only);refine Zn4 h rfl (fun _ h=>?_) fun _ h=>?_
    ·refine Zo2 4 ?_;dsimp only [go_sem];refine An ?_;exact Zv4 (res:=fun (r:Int)=>.iv r) ok19 h
    ·refine Zo2 2 ?_;dsimp only [go_sem];refine An ?_;refine Zl4 (fun ((x13,x14):(Bool×Side))=>(⟨(.any :: .any :: .iv x3 :: .ptr 0 0 :: .ptr 1 0 :: .any :: .any :: .ptr 2 0 :: .bv x13::an 140 []),[some ⟨25,[.sl 5 (List.map Drinker.row x1.Drinkers),.sl 5 (List.map Mail.row x1.Mail)]⟩,some ⟨30,[.iv x2.A,.iv x2.B]⟩,some ⟨66,[.iv x14.Peer,.iv x14.Epoch,.iv x14.State,.bv x14.Fork,.bv x14.Dirty,.bv x14.Token,.bv x14.Bottle,.bv x14.Ask]⟩],[]⟩:St)) (Zrl x1 x2 x3) r ?_ fun J3=>?_
     ·rintro ⟨x13,x14⟩ h;rw [Zrl] at h;(try dsimp only);refine Zo2 1 ?_;dsimp only [go_sem];refine An ?_
      refine Zl4 (fun ((x18,x19):(Bool×Side))=>(⟨(.any :: .any :: .iv x3 :: .ptr 0 0 :: .ptr 1 0 :: .any :: .any :: .ptr 2 0 :: .bv x13 :: .ptr 3 0 :: .bv x18::an 138 []),[some ⟨25,[.sl 5 (List.map Drinker.row x1.Drinkers),.sl 5 (List.map Mail.row x1.Mail)]⟩,some ⟨30,[.iv x2.A,.iv x2.B]⟩,some ⟨66,[.iv x14.Peer,.iv x14.Epoch,.iv x14.State,.bv x14.Fork,.bv x14.Dirty,.bv x14.Token,.bv x14.Bottle,.bv x14.Ask]⟩,some ⟨66,[.iv x19.Peer,.iv x19.Epoch,.iv x19.State,.bv x19.Fork,.bv x19.Dirty,.bv x19.Token,.bv x19.Bottle,.bv x19.Ask]⟩],[]⟩:St)) (Zql x1 x2 x3 x13 x14) r ?_ fun J4=>?_
      ·rintro ⟨x18,x19⟩ h;rw [Zql] at h;(try dsimp only);refine Zo2 6 ?_;dsimp only [go_sem];refine An ?_
       refine Zl4 (fun (x20:Bool)=>(⟨(.any :: .any :: .iv x3 :: .ptr 0 0 :: .ptr 1 0 :: .any :: .any :: .ptr 2 0 :: .any :: .ptr 3 0::an 68 (.bv x20::an 70 [])),[some ⟨25,[.sl 5 (List.map Drinker.row x1.Drinkers),.sl 5 (List.map Mail.row x1.Mail)]⟩,some ⟨30,[.iv x2.A,.iv x2.B]⟩,some ⟨66,[.iv x14.Peer,.iv x14.Epoch,.iv x14.State,.bv x14.Fork,.bv x14.Dirty,.bv x14.Token,.bv x14.Bottle,.bv x14.Ask]⟩,some ⟨66,[.iv x19.Peer,.iv x19.Epoch,.iv x19.State,.bv x19.Fork,.bv x19.Dirty,.bv x19.Token,.bv x19.Bottle,.bv x19.Ask]⟩],[]⟩:St)) (Zpl x1 x2 x3 x14 x19) r ?_ fun J5=>?_
       ·intro x20 h;rw [Zpl] at h;(try dsimp only);refine Zn4 h rfl (fun _ h=>?_) fun _ h=>?_
        ·refine Zo2 4 ?_;dsimp only [go_sem];refine An ?_;exact Zv4 (res:=fun (r:Int)=>.iv r) ok19 h
        ·refine Zo2 17 ?_;dsimp only [go_sem];refine An ?_;refine Zl4 (fun ((x21,x22):(Bool×Bool))=>(⟨(.any :: .any :: .iv x3 :: .ptr 0 0 :: .ptr 1 0 :: .any :: .any :: .ptr 2 0::an 3 (.ptr 4 0::an 137 [])),[some ⟨25,[.sl 5 (List.map Drinker.row x1.Drinkers),.sl 5 (List.map Mail.row x1.Mail)]⟩,some ⟨30,[.iv x2.A,.iv x2.B]⟩,some ⟨66,[.iv x14.Peer,.iv x14.Epoch,.iv x14.State,.bv x14.Fork,.bv x14.Dirty,.bv x14.Token,.bv x14.Bottle,.bv x14.Ask]⟩,none,some ⟨105,[.bv x21,.bv x22]⟩],[]⟩:St)) (Zol x1 x2 x3 x14) r ?_ fun J6=>?_
         ·rintro ⟨x21,x22⟩ h;rw [Zol] at h;(try dsimp only);refine Zo2 10 ?_;dsimp only [go_sem];refine An ?_;refine Zl4 (fun (x41:Int)=>(⟨(.any :: .any :: .iv x3 :: .ptr 0 0 :: .ptr 1 0 :: .any :: .any :: .ptr 2 0::an 4 (.iv x41::an 136 [])),[some ⟨25,[.sl 5 (List.map Drinker.row x1.Drinkers),.sl 5 (List.map Mail.row x1.Mail)]⟩,some ⟨30,[.iv x2.A,.iv x2.B]⟩,some ⟨66,[.iv x14.Peer,.iv x14.Epoch,.iv x14.State,.bv x14.Fork,.bv x14.Dirty,.bv x14.Token,.bv x14.Bottle,.bv x14.Ask]⟩],[]⟩:St)) (Zll x1 x2 x3 x14) r ?_ fun J7=>?_
          ·intro x41 h;rw [Zll] at h;(try dsimp only);refine Zo2 8 ?_;dsimp only [go_sem];refine An ?_;refine Zl4 (fun (x61:Int)=>(⟨(an 12 (.iv x61::an 136 [])),[],[]⟩:St)) Zhl r ?_ fun J9=>?_
           ·intro x61 h;rw [Zhl] at h;(try dsimp only);refine Zo2 5 ?_;dsimp only [go_sem];refine An ?_;exact Zv4 (res:=fun (r:Int)=>.iv r) ok19 h
           ·refine Zo2 1 ?_;dsimp only [go_sem];refine An ?_;refine Zm4 h (fun ((x47,x48):(Int×Int))=>(⟨(.any :: .any :: .iv x3 :: .any :: .ptr 1 0 :: .any :: .any :: .ptr 2 0::an 4 (.iv x47::an 87 (.sl 5 (List.map Mail.row x1.Mail) :: .iv (ln Mail.row x1.Mail) :: .iv x48::an 46 []))),[none,some ⟨30,[.iv x2.A,.iv x2.B]⟩,some ⟨66,[.iv x14.Peer,.iv x14.Epoch,.iv x14.State,.bv x14.Fork,.bv x14.Dirty,.bv x14.Token,.bv x14.Bottle,.bv x14.Ask]⟩],[]⟩:St)) (by simp [go_sem]) (by rintro ⟨x47,x48⟩;first | rfl | simp [go_sem]) ?_
            rintro n1 ⟨x47,x48⟩ y1 h hin1 hout1;rw [Zkl] at h;(try dsimp only);refine Zo2 5 ?_;dsimp only [go_sem];refine An ?_;refine Zn4 h rfl (fun _ h=>?_) fun _ h=>?_
            ·refine Zo2 5 ?_;dsimp only [go_sem];refine An ?_;obtain ⟨x49,ex49,h⟩:=Bs h;refine Zq4 Mail.row ex49 trivial rfl rfl rfl ?_;refine Zo2 12 ?_;dsimp only [go_sem];refine An ?_
             refine Zl4 (fun (x50:Bool)=>(⟨(.any :: .any :: .iv x3 :: .any :: .ptr 1 0 :: .any :: .any :: .ptr 2 0::an 4 (.iv x47::an 87 (.sl 5 (List.map Mail.row x1.Mail) :: .iv (ln Mail.row x1.Mail) :: .iv x48::an 41 (.bv x50::an 4 [])))),[none,some ⟨30,[.iv x2.A,.iv x2.B]⟩,some ⟨66,[.iv x14.Peer,.iv x14.Epoch,.iv x14.State,.bv x14.Fork,.bv x14.Dirty,.bv x14.Token,.bv x14.Bottle,.bv x14.Ask]⟩],[]⟩:St)) (Zjl x47 x48) y1 ?_ fun J10=>?_
             ·intro x50 h;rw [Zjl] at h;(try dsimp only);refine Zl4 (fun (x51:Int)=>(⟨(.any :: .any :: .iv x3 :: .any :: .ptr 1 0 :: .any :: .any :: .ptr 2 0::an 4 (.iv x51::an 87 (.sl 5 (List.map Mail.row x1.Mail) :: .iv (ln Mail.row x1.Mail) :: .iv x48::an 46 []))),[none,some ⟨30,[.iv x2.A,.iv x2.B]⟩,some ⟨66,[.iv x14.Peer,.iv x14.Epoch,.iv x14.State,.bv x14.Fork,.bv x14.Dirty,.bv x14.Token,.bv x14.Bottle,.bv x14.Ask]⟩],[]⟩:St)) (Zil x48) y1 ?_ fun J11=>?_
              ·intro x51 h;rw [Zil] at h;(try dsimp only);refine Zo2 5 ?_;dsimp only [go_sem];refine An ?_;exact Zw4 h hin1
              ·refine Zn4 h rfl (fun _ h=>?_) fun _ h=>?_
               ·refine Zo2 5 ?_;dsimp only [go_sem];refine An ?_;exact Zx4 J11 (s:=wr (x47+1)) h
               ·refine Zo2 1 ?_;dsimp only [go_sem];refine An ?_;exact Zx4 J11 (s:=x47) h
             ·refine Zu4 111 h rfl (fun _ h=>?_) fun _ h=>?_
              ·dsimp only [go_sem];refine Zo2 8 ?_;dsimp only [go_sem];refine An ?_;refine Zu4 119 h rfl (fun _ h=>?_) fun _ h=>?_
               ·dsimp only [go_sem];refine Zo2 13 ?_;dsimp only [go_sem];refine An ?_;refine Zu4 132 h rfl (fun _ h=>?_) fun _ h=>?_
                ·dsimp only [go_sem];refine Zo2 13 ?_;dsimp only [go_sem];refine An ?_;exact Zx4 J10 (s:=decide (((max x49.From x49.To))=((max x2.A x2.B)))) h
                ·dsimp only [go_sem];refine Zo2 13 ?_;dsimp only [go_sem];refine An ?_;exact Zx4 J10 (s:=false) h
               ·dsimp only [go_sem];refine Zo2 26 ?_;dsimp only [go_sem];refine An ?_;exact Zx4 J10 (s:=false) h
              ·dsimp only [go_sem];refine Zo2 34 ?_;dsimp only [go_sem];refine An ?_;exact Zx4 J10 (s:=false) h
            ·refine Zo2 1 ?_;dsimp only [go_sem];refine An ?_;exact Zx4 J9 (s:=x47) (Zk4 h hout1)
          ·refine Zo2 1 ?_;dsimp only [go_sem];refine An ?_
           refine Zm4 h (fun ((x27,x28):(Int×Int))=>(⟨(.any :: .any :: .iv x3 :: .ptr 0 0 :: .ptr 1 0 :: .any :: .any :: .ptr 2 0::an 4 (.iv x27::an 78 (.agg [.bv x21,.bv x22] :: .iv x28::an 56 []))),[some ⟨25,[.sl 5 (List.map Drinker.row x1.Drinkers),.sl 5 (List.map Mail.row x1.Mail)]⟩,some ⟨30,[.iv x2.A,.iv x2.B]⟩,some ⟨66,[.iv x14.Peer,.iv x14.Epoch,.iv x14.State,.bv x14.Fork,.bv x14.Dirty,.bv x14.Token,.bv x14.Bottle,.bv x14.Ask]⟩],[]⟩:St)) (by simp [go_sem]) (by rintro ⟨x27,x28⟩;first | rfl | simp [go_sem]) ?_
           rintro n1 ⟨x27,x28⟩ y1 h hin1 hout1;rw [Znl] at h;(try dsimp only);refine Zo2 5 ?_;dsimp only [go_sem];refine An ?_;refine Zn4 h rfl (fun _ h=>?_) fun _ h=>?_
           ·refine Zo2 5 ?_;dsimp only [go_sem];refine An ?_;obtain ⟨x29,ex29,h⟩:=Bs h;refine V_aiM AV.bv ex29 trivial (by rfl) rfl rfl ?_;refine Zo2 6 ?_;dsimp only [go_sem];refine An ?_
            refine Zl4 (fun (x30:Int)=>(⟨(.any :: .any :: .iv x3 :: .ptr 0 0 :: .ptr 1 0 :: .any :: .any :: .ptr 2 0::an 4 (.iv x30::an 78 (.agg [.bv x21,.bv x22] :: .iv x28::an 56 []))),[some ⟨25,[.sl 5 (List.map Drinker.row x1.Drinkers),.sl 5 (List.map Mail.row x1.Mail)]⟩,some ⟨30,[.iv x2.A,.iv x2.B]⟩,some ⟨66,[.iv x14.Peer,.iv x14.Epoch,.iv x14.State,.bv x14.Fork,.bv x14.Dirty,.bv x14.Token,.bv x14.Bottle,.bv x14.Ask]⟩],[]⟩:St)) (Zml x28) y1 ?_ fun J8=>?_
            ·intro x30 h;rw [Zml] at h;(try dsimp only);refine Zo2 5 ?_;dsimp only [go_sem];refine An ?_;exact Zw4 h hin1
            ·refine Zn4 h rfl (fun _ h=>?_) fun _ h=>?_
             ·refine Zo2 5 ?_;dsimp only [go_sem];refine An ?_;exact Zx4 J8 (s:=wr (x27+1)) h
             ·refine Zo2 1 ?_;dsimp only [go_sem];refine An ?_;exact Zx4 J8 (s:=x27) h
           ·refine Zo2 1 ?_;dsimp only [go_sem];refine An ?_;exact Zx4 J7 (s:=x27) (Zk4 h hout1)
         ·refine Zn4 h rfl (fun _ h=>?_) fun _ h=>?_
          ·refine Zo2 8 ?_;dsimp only [go_sem];refine An ?_;exact Zx4 J6 (s:=(x14.Ask,x19.Ask)) h
          ·refine Zo2 1 ?_;dsimp only [go_sem];refine An ?_;exact Zx4 J6 (s:=(x14.Bottle,x19.Bottle)) h
       ·refine Zu4 68 h rfl (fun _ h=>?_) fun _ h=>?_
        ·dsimp only [go_sem];refine Zo2 11 ?_;dsimp only [go_sem];refine An ?_;exact Zx4 J5 (s:=true) h
        ·dsimp only [go_sem];refine Zo2 4 ?_;dsimp only [go_sem];refine An ?_;refine Zu4 72 h rfl (fun _ h=>?_) fun _ h=>?_
         ·dsimp only [go_sem];refine Zo2 7 ?_;dsimp only [go_sem];refine An ?_;exact Zx4 J5 (s:=true) h
         ·dsimp only [go_sem];refine Zo2 7 ?_;dsimp only [go_sem];refine An ?_;exact Zx4 J5 (s:=!decide (x14.Epoch=x19.Epoch)) h
      ·refine Zk3 (by kernel_rfl) fun all hall hs hnap haf=>?_;dsimp only [go_sem];refine Zd5 hall hs haf hnap 6 10 [4,3,2,7] [(54,[.ptr 0 0,.sl 5 (List.map Drinker.row x1.Drinkers),.ptr 1 1,.iv x2.B]),(3,[.ptr 1 0,.iv x2.A])] (by kernel_rfl) ?_;dsimp only [go_sem];obtain ⟨x15,ex15,h⟩:=Bs h;refine Zr4 hall hs haf hnap 4 Drinker.row ex15 rfl rfl trivial rfl rfl rfl rfl ?_;refine Zc5 hall hs haf hnap 2 7 ?_;dsimp only [go_sem];refine An ?_;obtain ⟨x16,ex16,h⟩:=Bs h;refine Zw3 9 13 rfl ?_ ?_
       ·refine Z14 hall rfl trivial (Zq7 x15.Diner x2.A _ ex16) (h:=?_);dsimp only [go_sem];refine Zc5 hall hs haf hnap 3 3 ?_;dsimp only [go_sem];refine An ?_;refine Zv3 13 rfl ?_;refine Z04 hall rfl trivial ?_;dsimp only [go_sem];refine Zv3 14 rfl ?_;refine Z04 hall rfl trivial ?_;dsimp only [go_sem];refine Zc5 hall hs haf hnap 1 0 ?_;dsimp only [go_sem];refine An ?_;refine Zu3 rfl ?_ _;exact Zx4 J4 (s:=(x16.2,x16.1)) h
       ·refine Z04 hall rfl trivial ?_;dsimp only [go_sem];refine Zv3 9 rfl ?_;refine Z14 hall rfl trivial (Zq7 x15.Diner x2.A _ ex16) (h:=?_);dsimp only [go_sem];refine Zc5 hall hs haf hnap 3 2 ?_;dsimp only [go_sem];refine An ?_;refine Zv3 14 rfl ?_;refine Z04 hall rfl trivial ?_;dsimp only [go_sem];refine Zc5 hall hs haf hnap 1 0 ?_;dsimp only [go_sem];refine An ?_;refine Zu3 rfl ?_ _;exact Zx4 J4 (s:=(x16.2,x16.1)) h
     ·refine Zk3 (by kernel_rfl) fun all hall hs hnap haf=>?_;dsimp only [go_sem];refine Zd5 hall hs haf hnap 6 10 [4,3,2,7] [(41,[.ptr 0 0,.sl 5 (List.map Drinker.row x1.Drinkers),.ptr 1 0,.iv x2.A]),(3,[.ptr 1 1,.iv x2.B])] (by kernel_rfl) ?_;dsimp only [go_sem];obtain ⟨x10,ex10,h⟩:=Bs h;refine Zr4 hall hs haf hnap 4 Drinker.row ex10 rfl rfl trivial rfl rfl rfl rfl ?_;refine Zc5 hall hs haf hnap 2 7 ?_;dsimp only [go_sem];refine An ?_;obtain ⟨x11,ex11,h⟩:=Bs h;refine Zw3 9 13 rfl ?_ ?_
      ·refine Z14 hall rfl trivial (Zq7 x10.Diner x2.B _ ex11) (h:=?_);dsimp only [go_sem];refine Zc5 hall hs haf hnap 3 3 ?_;dsimp only [go_sem];refine An ?_;refine Zv3 13 rfl ?_;refine Z04 hall rfl trivial ?_;dsimp only [go_sem];refine Zv3 14 rfl ?_;refine Z04 hall rfl trivial ?_;dsimp only [go_sem];refine Zc5 hall hs haf hnap 1 0 ?_;dsimp only [go_sem];refine An ?_;refine Zu3 rfl ?_ _;exact Zx4 J3 (s:=(x11.2,x11.1)) h
      ·refine Z04 hall rfl trivial ?_;dsimp only [go_sem];refine Zv3 9 rfl ?_;refine Z14 hall rfl trivial (Zq7 x10.Diner x2.B _ ex11) (h:=?_);dsimp only [go_sem];refine Zc5 hall hs haf hnap 3 2 ?_;dsimp only [go_sem];refine An ?_;refine Zv3 14 rfl ?_;refine Z04 hall rfl trivial ?_;dsimp only [go_sem];refine Zc5 hall hs haf hnap 1 0 ?_;dsimp only [go_sem];refine An ?_;refine Zu3 rfl ?_ _;exact Zx4 J3 (s:=(x11.2,x11.1)) h
   ·refine Zu4 33 h rfl (fun _ h=>?_) fun _ h=>?_
    ·dsimp only [go_sem];refine Zo2 7 ?_;dsimp only [go_sem];refine An ?_;exact Zx4 J2 (s:=true) h
    ·dsimp only [go_sem];refine Zo2 3 ?_;dsimp only [go_sem];refine An ?_;obtain ⟨x8,ex8,h⟩:=Bs h;refine Z33 trivial (Zik x1 x2.B _ ex8) (h:=?_);refine Zo2 3 ?_;dsimp only [go_sem];refine An ?_;exact Zx4 J2 (s:=!x8) h
 ·refine Zu4 19 h rfl (fun _ h=>?_) fun _ h=>?_
  ·dsimp only [go_sem];refine Zo2 4 ?_;dsimp only [go_sem];refine An ?_;exact Zx4 J1 (s:=!decide (x3=4)) h
  ·dsimp only [go_sem];refine Zo2 4 ?_;dsimp only [go_sem];refine An ?_;exact Zx4 J1 (s:=false) h
set_option maxRecDepth 100000
set_option maxHeartbeats 4000000
@[go_sem] def e40_L0:EC:=.seq (.reg [(Qa 22 (.bin .lss (.t 21) (.t 20)))]) (.seq (.ite (.t 22) (.skip) (.exit 0)) (.seq (.blk 1 (.seq (.reg [(Qk 23 3 19 21),(Qe 24 3 23),(Qa 8 (.alloc 61 [.iv 0,.iv 0,.nl])),(Qs 3 8 24)]) (.reg [(Qf 25 0 6),(Ql 26 25),(Qe 27 3 8),(Qa 28 (.build [.iv 0,.iv 0,.nl,.iv 0,.nl] [(0,3,(.t 27))])),(Qa 29 (.bsl 63 5 1 [.iv 0,.iv 0,.nl,.iv 0,.nl] [(0,(.t 28))])),(Qa 30 (.app 63 5 72 (.t 26) (.t 29))),(Qf 31 0 6),(Qs 1 31 30)]))) (.reg [(Qv 32 21 1),(Qm 21 32)])))
@[go_sem] def e40:EC:=.seq (.reg [(Qx 1 53 2 0),(Qa 2 (.alloc 25 [.nl,.nl])),(Qi 3 0)]) (.seq (.reg [(Qe 10 2 1),(Qa 11 (.call 78 [(.t 10)])),(Qm 9 11),(Qa 12 (.ext (.t 9) 0)),(Qa 13 (.ext (.t 9) 1)),(Qa 4 (.alloc 48 [.nl,.nl])),(Qs 2 4 12),(Qm 5 13)]) (.seq (.seq (.reg [(Qm 14 5),(Qa 15 (.bin .neq (.t 14) (.c (.iv 0))))]) (.ite (.t 15) (.seq (.reg [(Qa 16 (.build [.nl,.nl] [])),(Qm 17 5),(Qs 2 2 16),(Qm 3 17)]) (.ret)) (.skip))) (.seq (.reg [(Qa 6 (.alloc 25 [.nl,.nl]))]) (.seq (.seq (.reg [(Qf 18 0 4),(Ql 19 18),(Qa 20 (.len (.t 19))),(Qi 21 0)]) (.blk 0 (.loop e40_L0))) (.seq (.reg [(Qe 33 2 6),(Qs 2 2 33),(Qi 3 0)]) (.ret))))))
theorem ok40:FnOK Tryz.prog 40 Tryz.f40 e40 [.c 2 (some 2),.t 3] 1 33:=⟨by kernel_rfl,⟨_,rfl,by kernel_rfl⟩,by kernel_rfl,by kernel_rfl⟩
noncomputable def Zvl:(List Drinker)→Option (Bar×Int)
| x17=>
 some ((Bar.mk x17 (([]:(List Mail)))),0)
noncomputable def Zwl (x2:(Scene×Int)):(Int×(List Drinker))→Option ((Int×(List Drinker)) ⊕ (Bar×Int))
| (x7,x8)=>
 ifb (decide (x7<(ln Diner.row x2.1.Diners))) (
 (at_ x2.1.Diners x7).bind fun x9=>
 (Ze4 72 x8 ([(Drinker.mk x9 0 (([]:List Int)))])).bind fun x10=>
 some (.inl (wr (x7+1),x10))) (
 Option.map Sum.inr (Zvl x8))
noncomputable def Zxl (x1:Graph):Option (Bar×Int):=
 (Zod x1).bind fun x2=>
 ifb (!decide (x2.2=0)) (
 some ((Bar.mk (([]:(List Drinker))) (([]:(List Mail)))),x2.2)) (
 loop (Zwl x2) (0,([]:List Drinker)))
theorem k_bar_New (x1:Graph) (r:(Bar×Int)) (h:Zxl x1=some r):Zu2 Tryz.prog 40 [.agg (Graph.row x1)] (.tup [.agg (Bar.row r.1),.iv r.2]):=by
 refine Zy2 ok40 rfl rfl fun w0 H0=>?_
 rw [Zxl] at h
 refine Zo2 9 ?_;dsimp only [go_sem];refine An ?_;obtain ⟨x2,ex2,h⟩:=Bs h;refine Z33 trivial (k_table_New x1 _ ex2) (h:=?_);refine Zo2 13 ?_;dsimp only [go_sem];refine An ?_;refine Zn4 h rfl (fun _ h=>?_) fun _ h=>?_
 ·refine Zo2 7 ?_;dsimp only [go_sem];refine An ?_;exact Zv4 (res:=fun (r:(Bar×Int))=>.tup [.agg (Bar.row r.1),.iv r.2]) ok40 h
 ·refine Zo2 13 ?_;dsimp only [go_sem];refine An ?_;refine Zl4 (fun (x17:(List Drinker))=>(⟨(.any :: .any :: .ptr 1 0::an 3 (.ptr 3 0::an 27 [])),[none,some ⟨25,[.nl,.nl]⟩,none,some ⟨25,[.osl 0,.nl]⟩],[some ⟨63,5,List.map Drinker.row x17⟩]⟩:St)) Zvl r ?_ fun J1=>?_
  ·intro x17 h;rw [Zvl] at h;(try dsimp only);refine Zo2 6 ?_;dsimp only [go_sem];refine An ?_;refine Zc3 0 rfl ?_;dsimp only [go_sem];exact Zv4 (res:=fun (r:(Bar×Int))=>.tup [.agg (Bar.row r.1),.iv r.2]) ok40 h
  ·refine Zo2 1 ?_;dsimp only [go_sem];refine An ?_;refine Z84 3 0 63 5 rfl rfl rfl ?_;dsimp only [go_sem];refine Zm4 h (fun ((x7,x8):(Int×(List Drinker)))=>(⟨(.any :: .any :: .ptr 1 0::an 3 (.ptr 3 0::an 12 (.sl 3 (List.map Diner.row x2.1.Diners) :: .iv (ln Diner.row x2.1.Diners) :: .iv x7::an 12 []))),[none,some ⟨25,[.nl,.nl]⟩,none,some ⟨25,[.osl 0,.nl]⟩],[some ⟨63,5,List.map Drinker.row x8⟩]⟩:St)) (by simp [go_sem]) (by rintro ⟨x7,x8⟩;first | rfl | simp [go_sem]) ?_;rintro n1 ⟨x7,x8⟩ y1 h hin1 hout1;rw [Zwl] at h;(try dsimp only)
   refine Zo2 5 ?_;dsimp only [go_sem];refine An ?_;refine Zn4 h rfl (fun _ h=>?_) fun _ h=>?_
   ·refine Zo2 5 ?_;dsimp only [go_sem];refine An ?_;obtain ⟨x9,ex9,h⟩:=Bs h;refine Zq4 Diner.row ex9 trivial rfl rfl rfl ?_;refine Zo2 9 ?_;dsimp only [go_sem];refine An ?_;refine V_put1 28 (.agg [.iv x9.ID,.iv x9.Phase,.sl 8 (List.map Side.row x9.Sides),.iv 0,.sl 1 (List.map Z15 (([]:List Int)))]) (by simp [go_sem]) ?_;dsimp only [go_sem];refine Zo2 1 ?_;dsimp only [go_sem];refine An ?_;obtain ⟨x10,ex10,h⟩:=Bs h;refine Zs4 Drinker.row ex10 trivial rfl rfl rfl ?_;refine Zo2 8 ?_;dsimp only [go_sem];refine An ?_;refine Z64 2 0 rfl rfl rfl ?_
    dsimp only [go_sem];exact Zw4 h hin1
   ·refine Zo2 1 ?_;dsimp only [go_sem];refine An ?_;exact Zx4 J1 (s:=x8) (Zk4 h hout1)
set_option maxRecDepth 100000
set_option maxHeartbeats 4000000
@[go_sem] def e67_L0:EC:=.seq (.reg [(Qa 18 (.bin .lss (.t 17) (.t 16)))]) (.seq (.ite (.t 18) (.skip) (.exit 0)) (.seq (.blk 1 (.seq (.reg [(Qm 19 17),(Qk 20 5 15 17),(Qe 21 5 20),(Qa 8 (.alloc 63 [.iv 0,.iv 0,.nl,.iv 0,.nl])),(Qm 7 19),(Qs 5 8 21)]) (.seq (.reg [(Qm 22 1),(Qm 23 7),(Qk 24 5 22 23),(Qe 25 5 24),(Qa 9 (.alloc 63 [.iv 0,.iv 0,.nl,.iv 0,.nl])),(Qs 5 9 25)]) (.seq (.reg [(Qm 26 2),(Qe 27 5 8),(Qe 28 5 9),(Qa 29 (.callv (.t 26) [(.t 27),(.t 28)])),(Qa 30 (.not (.t 29)))]) (.ite (.t 30) (.seq (.reg [(Qa 6 (.mv (.c .ff)))]) (.ret)) (.skip)))))) (.reg [(Qv 31 17 1),(Qm 17 31)])))
@[go_sem] def e67:EC:=.seq (.reg [(Qa 6 (.mv (.c .ff)))]) (.seq (.seq (.reg [(Qm 10 0),(Qa 11 (.len (.t 10))),(Qm 12 1),(Qa 13 (.len (.t 12))),(Qa 14 (.bin .neq (.t 11) (.t 13)))]) (.ite (.t 14) (.seq (.reg [(Qa 6 (.mv (.c .ff)))]) (.ret)) (.skip))) (.seq (.seq (.reg [(Qm 15 0),(Qa 16 (.len (.t 15))),(Qi 17 0)]) (.blk 0 (.loop e67_L0))) (.seq (.reg [(Qa 6 (.mv (.c .tt)))]) (.ret))))
theorem ok67:FnOK Tryz.prog 67 Tryz.f67 e67 [.t 6] 3 29:=⟨by kernel_rfl,⟨_,rfl,by kernel_rfl⟩,by kernel_rfl,by kernel_rfl⟩
noncomputable def Zyl:Unit→Option Bool
| ()=>
 some true
noncomputable def Zzl (x1:(List Drinker)) (x2:(List Drinker)) (p2:((Drinker×Drinker)→Option Bool)):Int→Option (Int ⊕ Bool)
| x7=>
 ifb (decide (x7<(ln Drinker.row x1))) (
 (at_ x1 x7).bind fun x8=>
 (at_ x2 x7).bind fun x9=>
 (p2 (x8,x9)).bind fun x10=>
 ifb (!x10) (
 Option.map Sum.inr (some false)) (
 some (.inl (wr (x7+1))))) (
 Option.map Sum.inr (Zyl ()))
noncomputable def Z0m (x1:(List Drinker)) (x2:(List Drinker)) (p2:((Drinker×Drinker)→Option Bool)):Option Bool:=
 ifb (!decide ((ln Drinker.row x1)=(ln Drinker.row x2))) (
 some false) (
 loop (Zzl x1 x2 p2) 0)
theorem Z1m (x1:(List Drinker)) (x2:(List Drinker)) (g2:Nat) (caps2:List AV) (p2:((Drinker×Drinker)→Option Bool)) (hc2:CloOK Tryz.prog g2 caps2 (fun z=>[.agg (Drinker.row z.1),.agg (Drinker.row z.2)]) p2 (fun z=>.bv z)) (r:Bool) (h:Z0m x1 x2 p2=some r):Zu2 Tryz.prog 67 [.sl 5 (List.map Drinker.row x1),.sl 5 (List.map Drinker.row x2),.clo g2 caps2] (.bv r):=by
 refine Zy2 ok67 rfl rfl fun w0 H0=>?_
 rw [Z0m] at h
 refine Zo2 13 ?_;dsimp only [go_sem];refine An ?_;refine Zn4 h rfl (fun _ h=>?_) fun _ h=>?_
 ·refine Zo2 4 ?_;dsimp only [go_sem];refine An ?_;exact Zv4 (res:=fun (r:Bool)=>.bv r) ok67 h
 ·refine Zo2 8 ?_;dsimp only [go_sem];refine An ?_;refine Zl4 (fun (_:Unit)=>(⟨(an 32 []),[],[]⟩:St)) Zyl r ?_ fun J1=>?_
  ·rintro ⟨⟩ h;rw [Zyl] at h;(try dsimp only);refine Zo2 4 ?_;dsimp only [go_sem];refine An ?_;exact Zv4 (res:=fun (r:Bool)=>.bv r) ok67 h
  ·refine Zo2 1 ?_;dsimp only [go_sem];refine An ?_;refine Zm4 h (fun (x7:Int)=>(⟨(.any :: .sl 5 (List.map Drinker.row x2) :: .clo g2 caps2::an 12 (.sl 5 (List.map Drinker.row x1) :: .iv (ln Drinker.row x1) :: .iv x7::an 14 [])),[],[]⟩:St)) (by simp [go_sem]) (by intro x7;first | rfl | simp [go_sem,Zc4 _ hc2.pu]) ?_;rintro n1 x7 y1 h hin1 hout1;rw [Zzl] at h;(try dsimp only);refine Zo2 5 ?_;dsimp only [go_sem];refine An ?_;refine Zn4 h rfl (fun _ h=>?_) fun _ h=>?_
   ·refine Zo2 6 ?_;dsimp only [go_sem];refine An ?_;obtain ⟨x8,ex8,h⟩:=Bs h;refine Zq4 Drinker.row ex8 trivial rfl rfl rfl ?_;refine Zo2 9 ?_;dsimp only [go_sem];refine An ?_;obtain ⟨x9,ex9,h⟩:=Bs h;refine Zq4 Drinker.row ex9 trivial rfl rfl rfl ?_;refine Zo2 9 ?_;dsimp only [go_sem];refine An ?_;obtain ⟨x10,ex10,h⟩:=Bs h;refine Z05 trivial rfl hc2 (x:=(x8,x9)) ex10 (by first | exact Zd4 _ | simp [go_sem]) (by first | rfl | simp [go_sem,hc2.pu]) ?_;refine Zo2 2 ?_;dsimp only [go_sem];refine An ?_
    refine Zn4 h rfl (fun _ h=>?_) fun _ h=>?_
    ·refine Zo2 4 ?_;dsimp only [go_sem];refine An ?_;exact Zv4 (res:=fun (r:Bool)=>.bv r) ok67 (Zk4 h hout1)
    ·refine Zo2 6 ?_;dsimp only [go_sem];refine An ?_;exact Zw4 h hin1 (hok:=by first | rfl | simp [go_sem,Zc4 _ hc2.pu])
   ·refine Zo2 1 ?_;dsimp only [go_sem];refine An ?_;exact Zx4 J1 (s:=()) (Zk4 h hout1) (hok:=by first | rfl | simp [go_sem,Zc4 _ hc2.pu])
set_option maxRecDepth 100000
set_option maxHeartbeats 4000000
@[go_sem] def e69_L0:EC:=.seq (.reg [(Qa 14 (.bin .lss (.t 13) (.t 12)))]) (.seq (.ite (.t 14) (.skip) (.exit 0)) (.seq (.blk 1 (.seq (.reg [(Qm 15 13),(Qm 5 15)]) (.seq (.drw [(Qm 16 0),(Qm 17 5),(Qk 18 5 16 17),(Qe 19 5 18),(Qm 20 1),(Qm 21 5),(Qk 22 5 20 21),(Qe 23 5 22),(Qa 24 (.eqs true [true,true,true,true,true] (.t 19) (.t 23)))] [[],[],[0,1],[2],[],[],[4,5],[6],[3,7]] [[2],[2],[0,1,3],[2,8],[6],[6],[4,5,7],[6,8],[3,7]]) (.ite (.t 24) (.seq (.reg [(Qa 4 (.mv (.c .ff)))]) (.ret)) (.skip))))) (.reg [(Qv 25 13 1),(Qm 13 25)])))
@[go_sem] def e69:EC:=.seq (.reg [(Qa 4 (.mv (.c .ff)))]) (.seq (.seq (.reg [(Qm 6 0),(Qa 7 (.len (.t 6))),(Qm 8 1),(Qa 9 (.len (.t 8))),(Qa 10 (.bin .neq (.t 7) (.t 9)))]) (.ite (.t 10) (.seq (.reg [(Qa 4 (.mv (.c .ff)))]) (.ret)) (.skip))) (.seq (.seq (.reg [(Qm 11 0),(Qa 12 (.len (.t 11))),(Qi 13 0)]) (.blk 0 (.loop e69_L0))) (.seq (.reg [(Qa 4 (.mv (.c .tt)))]) (.ret))))
theorem ok69:FnOK Tryz.prog 69 Tryz.f69 e69 [.t 4] 2 24:=⟨by kernel_rfl,⟨_,rfl,by kernel_rfl⟩,by kernel_rfl,by kernel_rfl⟩
noncomputable def Z2m:Unit→Option Bool
| ()=>
 some true
noncomputable def Z3m (x1:(List Mail)) (x2:(List Mail)):Int→Option (Int ⊕ Bool)
| x6=>
 ifb (decide (x6<(ln Mail.row x1))) (
 (at_ x1 x6).bind fun x7=>
 (at_ x2 x6).bind fun x8=>
 ifb (!(decide (x7.From=x8.From)&&(decide (x7.To=x8.To)&&(decide (x7.Msg.Kind=x8.Msg.Kind)&&(decide (x7.Msg.Epoch=x8.Msg.Epoch)&&(decide (x7.Msg.Num=x8.Msg.Num)&&true)))))) (
 Option.map Sum.inr (some false)) (
 some (.inl (wr (x6+1))))) (
 Option.map Sum.inr (Z2m ()))
noncomputable def Z4m (x1:(List Mail)) (x2:(List Mail)):Option Bool:=
 ifb (!decide ((ln Mail.row x1)=(ln Mail.row x2))) (
 some false) (
 loop (Z3m x1 x2) 0)
theorem Z5m (x1:(List Mail)) (x2:(List Mail)) (r:Bool) (h:Z4m x1 x2=some r):Zu2 Tryz.prog 69 [.sl 5 (List.map Mail.row x1),.sl 5 (List.map Mail.row x2)] (.bv r):=by
 refine Zy2 ok69 rfl rfl fun w0 H0=>?_
 rw [Z4m] at h
 refine Zo2 13 ?_;dsimp only [go_sem];refine An ?_;refine Zn4 h rfl (fun _ h=>?_) fun _ h=>?_
 ·refine Zo2 4 ?_;dsimp only [go_sem];refine An ?_;exact Zv4 (res:=fun (r:Bool)=>.bv r) ok69 h
 ·refine Zo2 8 ?_;dsimp only [go_sem];refine An ?_;refine Zl4 (fun (_:Unit)=>(⟨(an 26 []),[],[]⟩:St)) Z2m r ?_ fun J1=>?_
  ·rintro ⟨⟩ h;rw [Z2m] at h;(try dsimp only);refine Zo2 4 ?_;dsimp only [go_sem];refine An ?_;exact Zv4 (res:=fun (r:Bool)=>.bv r) ok69 h
  ·refine Zo2 1 ?_;dsimp only [go_sem];refine An ?_;refine Zm4 h (fun (x6:Int)=>(⟨(.sl 5 (List.map Mail.row x1) :: .sl 5 (List.map Mail.row x2)::an 10 (.iv (ln Mail.row x1) :: .iv x6::an 12 [])),[],[]⟩:St)) (by simp [go_sem]) (by intro x6;first | rfl | simp [go_sem]) ?_;rintro n1 x6 y1 h hin1 hout1;rw [Z3m] at h;(try dsimp only);refine Zo2 5 ?_;dsimp only [go_sem];refine An ?_;refine Zn4 h rfl (fun _ h=>?_) fun _ h=>?_
   ·refine Zo2 9 ?_;dsimp only [go_sem];refine An ?_;refine Zk3 (by kernel_rfl) fun all hall hs hnap haf=>?_;dsimp only [go_sem];refine Zc5 hall hs haf hnap 4 5 ?_;dsimp only [go_sem];refine An ?_;obtain ⟨x7,ex7,h⟩:=Bs h;refine Zr4 hall hs haf hnap 2 Mail.row ex7 rfl rfl trivial rfl rfl rfl rfl ?_;refine Zc5 hall hs haf hnap 1 3 ?_;dsimp only [go_sem];refine An ?_;obtain ⟨x8,ex8,h⟩:=Bs h;refine Zr4 hall hs haf hnap 6 Mail.row ex8 rfl rfl trivial rfl rfl rfl rfl ?_;refine Zc5 hall hs haf hnap 2 0 ?_;dsimp only [go_sem];refine An ?_
    refine Zu3 rfl ?_ _;refine Zn4 h rfl (fun _ h=>?_) fun _ h=>?_
    ·refine Zo2 4 ?_;dsimp only [go_sem];refine An ?_;exact Zv4 (res:=fun (r:Bool)=>.bv r) ok69 (Zk4 h hout1)
    ·refine Zo2 6 ?_;dsimp only [go_sem];refine An ?_;exact Zw4 h hin1
   ·refine Zo2 1 ?_;dsimp only [go_sem];refine An ?_;exact Zx4 J1 (s:=()) (Zk4 h hout1)
set_option maxRecDepth 100000
set_option maxHeartbeats 4000000
@[go_sem] def e24:EC:=.seq (.reg [(Qx 2 25 2 0),(Qx 3 25 2 1),(Qa 4 (.mv (.c .ff)))]) (.seq (.reg [(Qf 5 0 2),(Ql 6 5),(Qf 7 0 3),(Ql 8 7),(Qa 9 (.call 67 [(.t 6),(.t 8),(.c (.clo 68 []))])),(Qm 10 9),(Qh 11 10 true 1 2),(Qn 12 10 true 11),(Qh 13 10 true 1 3),(Qn 14 10 true 13),(Qg 15 10 true (.call 69 [(.t 12),(.t 14)])),(Qp 16 10 15),(Qm 4 16)]) (.ret))
theorem ok24:FnOK Tryz.prog 24 Tryz.f24 e24 [.t 4] 2 15:=⟨by kernel_rfl,⟨_,rfl,by kernel_rfl⟩,by kernel_rfl,by kernel_rfl⟩
noncomputable def Z6m:Bool→Option Bool
| x5=>
 some x5
noncomputable def Z7m (x1:Bar) (x2:Bar):Option Bool:=
 (Z0m x1.Drinkers x2.Drinkers ((fun z=>Zrh z.1 z.2))).bind fun x3=>
 ifb x3 (
 (Z4m x1.Mail x2.Mail).bind fun x4=>
 Z6m x4) (
 Z6m false)
theorem Z8m (x1:Bar) (x2:Bar) (r:Bool) (h:Z7m x1 x2=some r):Zu2 Tryz.prog 24 [.agg (Bar.row x1),.agg (Bar.row x2)] (.bv r):=by
 refine Zy2 ok24 rfl rfl fun w0 H0=>?_
 rw [Z7m] at h
 refine Zo2 12 ?_;dsimp only [go_sem];refine An ?_;obtain ⟨x3,ex3,h⟩:=Bs h;refine Z33 trivial (Z1m x1.Drinkers x2.Drinkers _ _ ((fun z=>Zrh z.1 z.2)) ⟨by kernel_rfl,rfl,fun z r hz=>Zsh z.1 z.2 r hz⟩ _ ex3) (h:=?_);refine Zo2 1 ?_;dsimp only [go_sem];refine An ?_;refine Zl4 (fun (x5:Bool)=>(⟨(an 4 (.bv x5::an 12 [])),[],[]⟩:St)) Z6m r ?_ fun J1=>?_
 ·intro x5 h;rw [Z6m] at h;(try dsimp only);exact Zv4 (res:=fun (r:Bool)=>.bv r) ok24 h
 ·refine Zu4 10 h rfl (fun _ h=>?_) fun _ h=>?_
  ·dsimp only [go_sem];refine Zo2 4 ?_;dsimp only [go_sem];refine An ?_;obtain ⟨x4,ex4,h⟩:=Bs h;refine Z33 trivial (Z5m x1.Mail x2.Mail _ ex4) (h:=?_);refine Zo2 3 ?_;dsimp only [go_sem];refine An ?_;exact Zx4 J1 (s:=x4) h
  ·dsimp only [go_sem];refine Zo2 8 ?_;dsimp only [go_sem];refine An ?_;exact Zx4 J1 (s:=false) h
theorem Z9m (l:List Drinker) (p:Drinker→Option Bool) (q:Drinker→Bool) (hl:l.length≤4000000000000000000) (hp:∀x∈l,p x=some (q x)):Z9k l p=some (plc (l.findIdx? q)):=by
 unfold Z9k
 refine Zf6 l _ q hl (fun k x hx=>?_) ?_
 ·simp only [Z8k,Z86 hx,Z26,Z66 hx,Option.bind_some,hp x (List.mem_iff_getElem?.2 ⟨k,hx⟩),Zb6 hx hl]
  cases q x<;>rfl
 ·simp only [Z8k,Z96,Z36,Z7k,Option.map_some]
theorem Zam (l:List Drinker) (p:Drinker→Option Bool) (q:Drinker→Bool) (hl:l.length≤4000000000000000000) (hp:∀x∈l,p x=some (q x)):Zbk l p=some (l.any q):=by
 unfold Zbk
 rw [Z9m l p q hl hp,Option.bind_some,Zd6,Zg6]
def fewL (l:List Drinker):Prop:=l.length≤5000∧∀d∈l,d.Diner.Sides.length≤5000∧d.Need.length≤5000
def scB (s:Bar):Scene:=⟨s.Drinkers.map (·.Diner),s.Mail⟩
def bar0:Bar:=⟨[],[]⟩
theorem fewL_D {s:Bar} (h:fewL s.Drinkers):fewD (scB s).Diners:=by
 refine ⟨by simpa [scB] using h.1,fun d hd=>?_⟩
 obtain ⟨e,he,rfl⟩:=List.mem_map.1 hd
 exact (h.2 e he).1
theorem s_CloneMail (l:List Mail) (hl:l.length≤1000000):Z1k l=some l:=by
 simp only [Z1k]
 rw [Z76 _ _ (by omega) (by simp;omega)];rfl
theorem s_Scene (s:Bar) (hD:fewL s.Drinkers) (hM:s.Mail.length≤1000000):Z5k s=some (scB s):=by
 simp only [Z5k,s_CloneMail _ hM,Option.bind_some]
 refine Zu7 s.Drinkers (Z4k s s.Mail) (fun pre=>((pre.length:Int),pre.map (·.Diner))) _ (fun pre x post h=>?_) ?_
 ·have hx:=Zv7 h
  have hm:=Zw7 h
  have h1:=hD.1
  have h2:=(hD.2 x (Zx7 h)).1
  dsimp only [Z4k]
  rw [Z86 hx,Z26,Z66 hx,Option.bind_some,Zxa _ (by omega),Option.bind_some,Z76 _ _ (by omega) (by simp;omega),Option.bind_some,Za6 (by omega),Z08]
  simp
 ·dsimp only [Z4k]
  rw [Z96,Z36];rfl
def Zbm (s:Bar):Bool:=okS (scB s)&&s.Drinkers.all okDr
theorem s_bCheck (s:Bar) (hD:fewL s.Drinkers) (hM:s.Mail.length≤1000000):Zek s=some (if Zbm s then 0 else 160):=by
 simp only [Zek,s_Scene s hD hM,Option.bind_some,s_tCheck (scB s) (fewL_D hD) hM]
 unfold Zbm
 cases okS (scB s) with
 | false=>rfl
 | true=>
   rw [if_pos rfl,show decide ((0:Int)=0)=true from rfl,Bool.not_true,Z36,Zam s.Drinkers (fun z=>Z0k z) (fun d=>!okDr d) (by have:=hD.1;omega) (fun d hd=>by
    simp only [Z0k,Ztj d (by have:=(hD.2 d hd).2;omega),Option.bind_some]
    cases okDr d<;>rfl),Option.bind_some]
   have e1:s.Drinkers.any (fun d=>!okDr d)=!s.Drinkers.all okDr:=Zm7 _ _ _ fun _=>rfl
   rw [e1]
   cases s.Drinkers.all okDr<;>rfl
def Zcm (s:Bar) (a:Int):Bool:=decide (0≤a)&&decide (a<s.Drinkers.length)
theorem Zdm (s:Bar) (a:Int):Zhk s a=some (Zcm s a):=by
 simp only [Zhk,Zgk,Zcm,Z45]
 cases decide (0≤a)<;>rfl
theorem Zem {s:Bar} {a:Int}:Zcm s a=true↔0≤a∧a<s.Drinkers.length:=by simp [Zcm]
theorem Zfm {s:Bar} {a:Int} (h:Zcm s a=true):∃d,at_ s.Drinkers a=some d∧s.Drinkers[a.toNat]?=some d:=by
 rw [Zem] at h
 exact at_lt h.1 h.2
theorem once_keep (d:Drinker):(Z2j d).Need=d.Need∧(Z2j d).Diner.ID=d.Diner.ID∧(Z2j d).Diner.Sides.map (·.Peer)=d.Diner.Sides.map (·.Peer):=by
 refine ⟨rfl,rfl,?_⟩
 show (Z0j d).map (·.Peer)=_
 unfold Z0j
 rw [Zhb,List.map_map,List.map_map]
 refine List.map_congr_left fun x _=>?_
 show (Zvi _ _ (Zgb (Zzi d) x)).Peer=x.Peer
 rw [(Zxi _ _ _).1,(Zjb (Zzi d) x).1]
theorem Zgm:∀(n:Nat) (d:Drinker) (out:List Mail),(fireN n d out).1.Need=d.Need∧(fireN n d out).1.Diner.ID=d.Diner.ID∧(fireN n d out).1.Diner.Sides.map (·.Peer)=d.Diner.Sides.map (·.Peer)∧(fireN n d out).2.length+bits (fireN n d out).1.Diner.Sides=out.length+bits d.Diner.Sides
 | 0,_,_=>⟨rfl,rfl,rfl,rfl⟩
 | n+1,d,out=>by
   unfold fireN
   split
   ·exact ⟨rfl,rfl,rfl,rfl⟩
   ·obtain ⟨h1,h2,h3,h4⟩:=Zgm n (Z2j d) (out++Z3j d)
    obtain ⟨k1,k2,k3⟩:=once_keep d
    have hb:=Z6j d
    exact ⟨h1.trans k1,h2.trans k2,h3.trans k3,by rw [h4,List.length_append];omega⟩
theorem Zhm (d:Drinker):(fireDr d).1.Diner.Sides.length=d.Diner.Sides.length∧(fireDr d).1.Need=d.Need:=by
 obtain ⟨h1,_,h3,_⟩:=Zgm 300 d []
 have:=congrArg List.length h3
 simp only [List.length_map] at this
 exact ⟨this,h1⟩
theorem Zim {d:Drinker} (h:okDr d=true):(fireDr d).2.length≤252:=by
 have h1:=(Zgm 300 d []).2.2.2
 have h2:=bits_le d.Diner.Sides
 have h3:=Zya (Zxj h)
 unfold fireDr
 simp only [List.length_nil] at h1
 omega
def Zjm (s:Bar) (a:Int) (d:Drinker):Bar:=⟨s.Drinkers.set a.toNat (fireDr d).1,s.Mail++(fireDr d).2⟩
def actBP (s:Bar) (a:Int) (r:Drinker×Int):Bar×Int:=if r.2=0 then (if okDr r.1 then (Zjm s a r.1,0) else (bar0,150)) else (bar0,r.2)
theorem s_bAct (s:Bar) (a:Int) (p:Drinker→Option (Drinker×Int)) (q:Drinker→Drinker×Int) (d:Drinker) (hp:p d=some (q d)) (hq:(q d).1.Need.length≤5000) (hD:fewL s.Drinkers) (hM:s.Mail.length≤900000) (hd:at_ s.Drinkers a=some d) (ha:0≤a):
  Zmk s a p=some (actBP s a (q d)):=by
 simp only [Zmk,hd,Option.bind_some,hp,actBP]
 by_cases h0:(q d).2=0
 ·simp only [h0,decide_true,Bool.not_true,Z36,s_drFire _ (show (q d).1.Need.length≤1000000 by omega),Option.bind_some,if_true]
  cases hk:okDr (q d).1 with
  | false=>rfl
  | true=>
    have hl:=Zya (Zxj hk)
    obtain ⟨f1,f2⟩:=Zhm (q d).1
    have hms:=Zim hk
    have h5:=hD.1
    have hc:=s_Concat s.Mail (fireDr (q d).1).2 (by omega) (by omega)
    simp only [if_true,decide_true,Bool.not_true,Z36,hc,Option.bind_some]
    have:=Zu7 s.Drinkers (Zlk s a ((fireDr (q d).1).1,(fireDr (q d).1).2,0) (s.Mail++(fireDr (q d).1).2)) (fun pre=>((pre.length:Int),(s.Drinkers.set a.toNat (fireDr (q d).1).1).take pre.length)) (Zjm s a (q d).1,0) (fun pre x post h=>by
     have hx:=Zv7 h
     have hm:=Zw7 h
     have h2:=hD.2 x (Zx7 h)
     have snoc:(s.Drinkers.set a.toNat (fireDr (q d).1).1).take (pre.length+1)=(s.Drinkers.set a.toNat (fireDr (q d).1).1).take pre.length++[if (pre.length:Int)=a then (fireDr (q d).1).1 else x]:=by
      rw [List.take_add_one,List.getElem?_set]
      by_cases hq:(pre.length:Int)=a
      ·rw [if_pos (by omega),if_pos (by omega),if_pos hq];rfl
      ·rw [if_neg (by omega),hx,if_neg hq];rfl
     have lt:((s.Drinkers.set a.toNat (fireDr (q d).1).1).take pre.length).length≤5000:=by rw [List.length_take,List.length_set];omega
     have step:∀z:Drinker,z.Diner.Sides.length≤5000→z.Need.length≤5000→Zkk (pre.length:Int) ((s.Drinkers.set a.toNat (fireDr (q d).1).1).take pre.length) z=some (.inl (((pre.length+1:Nat):Int),(s.Drinkers.set a.toNat (fireDr (q d).1).1).take pre.length++[z])):=fun z h1 h2=>by
      dsimp only [Zkk]
      rw [Zxa _ (by omega),Option.bind_some,Zpj _ (by omega),Option.bind_some,Z76 _ _ (by omega) (by simp only [List.length_singleton];omega),Option.bind_some,Za6 (by omega)]
     dsimp only [Zlk]
     rw [Z86 hx,Z26,Z66 hx,Option.bind_some,Z08,snoc]
     by_cases hq:(pre.length:Int)=a
     ·rw [decide_eq_true hq,Z26,step _ (by omega) (by rw [f2];omega),if_pos hq]
     ·rw [decide_eq_false hq,Z36,step _ h2.1 h2.2,if_neg hq]) (by
     dsimp only [Zlk]
     rw [Z96,Z36]
     dsimp only [Zjk]
     rw [List.take_of_length_le (by simp)];rfl)
    exact this
 ·simp only [h0,decide_false,Bool.not_false,Z26,if_false]
  rfl
def Zkm (s:Bar) (a:Int) (q:Drinker→Drinker×Int):Bar×Int:=
 if Zbm s then (if Zcm s a then (match at_ s.Drinkers a with | some d=>actBP s a (q d) | none=>(bar0,161)) else (bar0,161)) else (bar0,160)
theorem s_bTurn (s:Bar) (a:Int) (p:Drinker→Option (Drinker×Int)) (q:Drinker→Drinker×Int) (hp:∀d∈s.Drinkers,p d=some (q d)∧(q d).1.Need.length≤5000) (hD:fewL s.Drinkers) (hM:s.Mail.length≤900000):Znk s a p=some (Zkm s a q):=by
 simp only [Znk,s_bCheck s hD (by omega),Option.bind_some]
 unfold Zkm
 cases Zbm s with
 | false=>rfl
 | true=>
   rw [if_pos rfl,show decide ((0:Int)=0)=true from rfl,Bool.not_true,Z36,Zdm,Option.bind_some,if_pos rfl]
   cases h:Zcm s a with
   | false=>rfl
   | true=>
     obtain ⟨d,hd,hd'⟩:=Zfm h
     obtain ⟨p1,p2⟩:=hp d (List.mem_iff_getElem?.2 ⟨_,hd'⟩)
     rw [Bool.not_true,Z36,if_pos rfl,s_bAct s a p q d p1 p2 hD hM hd (Zem.1 h).1,Option.bind_some,hd]
theorem compact_len (l:List Int):(setL l).length≤l.length:=by
 unfold setL
 have:=Lib.compact_length_le (l.mergeSort fun x y=>decide (x≤y))
 rw [List.length_mergeSort] at this
 exact this
theorem openDr_need {d:Drinker} {need:List Int} (hm:need.length≤5000):(Zvj d need).1.Need.length≤5000:=by
 unfold Zvj
 have:=compact_len need
 split
 ·split
  ·split
   ·simp [Zsj]
   ·show (setL need).length≤5000;omega
  ·simp [Zsj]
 ·simp [Zsj]
theorem closeDr_need (d:Drinker):(Zwj d).1.Need.length≤5000:=by
 unfold Zwj
 split
 ·split<;>simp [Zsj]
 ·simp [Zsj]
theorem Zlm {d:Drinker} {p:Int} {m:Msg} (hn:d.Need.length≤5000):(viaD d p m).1.Need.length≤5000:=by
 unfold viaD
 split
 ·exact hn
 ·simp [Zsj]
theorem getDr_need {d:Drinker} {p:Int} {m:Msg} (hn:d.Need.length≤5000):(Zyj d p m).1.Need.length≤5000:=by
 unfold Zyj
 split
 ·split
  ·exact Zlm hn
  ·split
   ·exact Zlm hn
   ·split
    ·split
     ·split
      ·simp [Zsj]
      ·exact hn
     ·split
      ·simp [Zsj]
      ·exact hn
    ·exact Zlm hn
 ·simp [Zsj]
theorem s_bOpen (s:Bar) (a:Int) (need:List Int) (hD:fewL s.Drinkers) (hM:s.Mail.length≤900000) (hn:need.length≤5000):Zpk s a need=some (Zkm s a fun d=>Zvj d need):=by
 simp only [Zpk]
 rw [s_bTurn s a _ (fun d=>Zvj d need) (fun d hd=>⟨by simp only [Zzj,s_drOpen d need (show d.Need.length≤1000000 by have:=(hD.2 d hd).2;omega) (by omega),Option.bind_some],openDr_need hn⟩) hD hM,Option.bind_some]
theorem s_bClose (s:Bar) (a:Int) (hD:fewL s.Drinkers) (hM:s.Mail.length≤900000):Zrk s a=some (Zkm s a Zwj):=by
 simp only [Zrk]
 rw [s_bTurn s a _ Zwj (fun d hd=>⟨s_drClose d (show d.Need.length≤1000000 by have:=(hD.2 d hd).2;omega),closeDr_need d⟩) hD hM,Option.bind_some]
def Zmm (s:Bar) (a b:Int):Option Nat:=s.Mail.findIdx? fun m=>decide (m.From=a)&&decide (m.To=b)
def Znm (s:Bar) (a b:Int):Bar×Int:=
 if Zbm s then (if Zcm s a&&Zcm s b then (match Zmm s a b with
  | none=>(bar0,162)
  | some i=>match s.Mail[i]?,at_ s.Drinkers b with
    | some m,some d=>actBP ⟨s.Drinkers,s.Mail.take i++s.Mail.drop (i+1)⟩ b (Zyj d a m.Msg)
    | _,_=>(bar0,161)) else (bar0,161)) else (bar0,160)
theorem Zom (s:Bar) (a b:Int) (hD:fewL s.Drinkers) (hM:s.Mail.length≤900000):Z0l s a b=some (Znm s a b):=by
 simp only [Z0l,s_bCheck s hD (by omega),Option.bind_some]
 unfold Znm
 cases Zbm s with
 | false=>rfl
 | true=>
   rw [if_pos rfl,show decide ((0:Int)=0)=true from rfl,Bool.not_true,Z36,Zdm,Option.bind_some,if_pos rfl]
   cases h:Zcm s a with
   | false=>rfl
   | true=>
     rw [Bool.not_true,Z36,Zdm,Option.bind_some]
     cases h':Zcm s b with
     | false=>rfl
     | true=>
       obtain ⟨d,hd,hd'⟩:=Zfm h'
       have hdn:=(hD.2 d (List.mem_iff_getElem?.2 ⟨_,hd'⟩)).2
       dsimp only [Zzk]
       rw [Bool.not_true,Z36,Bool.and_self,if_pos rfl,Zkc s.Mail (fun z=>Zuk z a b) (fun m=>decide (m.From=a)&&decide (m.To=b)) (by omega) (fun m _=>by
        simp only [Zuk,Ztk]
        cases decide (m.From=a)<;>rfl),Option.bind_some,plc_neg]
       have hfi:=Z48 (fun m:Mail=>decide (m.From=a)&&decide (m.To=b)) s.Mail
       unfold Zmm
       cases hf:s.Mail.findIdx? (fun m=>decide (m.From=a)&&decide (m.To=b)) with
       | none=>rfl
       | some i=>
         rw [hf] at hfi
         obtain ⟨m,hm,_⟩:=hfi
         have hlt:=(List.getElem?_eq_some_iff.1 hm).1
         have e1:Zf4 s.Mail 0 (i:Int)=some (s.Mail.take i):=by
          unfold Zf4
          rw [if_pos ⟨by omega,by omega,by omega⟩];simp
         have e2:Zf4 s.Mail (wr ((i:Int)+1)) (ln Mail.row s.Mail)=some (s.Mail.drop (i+1)):=by
          rw [Za6 (by omega),Z45]
          unfold Zf4
          rw [if_pos ⟨by omega,by omega,by omega⟩];simp
         simp only [Option.isNone_some,Z36,plc,Z66 hm,Option.bind_some,e1,e2,hm,hd]
         rw [s_Concat _ _ (by simp;omega) (by simp;omega),Option.bind_some]
         dsimp only [Zyk]
         rw [s_bAct ⟨s.Drinkers,s.Mail.take i++s.Mail.drop (i+1)⟩ b _ (fun d=>Zyj d a m.Msg) d (by simp only [Zwk,s_drGet d a m.Msg (show d.Need.length≤1000000 by omega),Option.bind_some]) (getDr_need hdn) hD (by simp;omega) hd (Zem.1 h').1]
         rfl
def actR (s:Bar) (k a b:Int) (need:List Int):Bar×Int:=if k=0 then Zkm s a (fun d=>Zvj d need) else if k=1 then Zkm s a Zwj else Znm s a b
theorem s_act16 (s:Bar) (k a b:Int) (need:List Int) (hD:fewL s.Drinkers) (hM:s.Mail.length≤900000) (hn:need.length≤5000):Z2l s ⟨k,a,b,need⟩=some (actR s k a b need):=by
 have e:Ze4 8 ([]:List Int) need=some need:=by rw [Z76 _ _ (by omega) (by simp;omega)];rfl
 simp only [Z2l,actR,e,Option.bind_some,s_bOpen s a need hD hM hn,s_bClose s a hD hM,Zom s a b hD hM]
 by_cases h0:k=0
 ·simp [h0]
 ·by_cases h1:k=1
  ·simp [h1]
  ·simp [h0,h1]
theorem s_own13 (d:Diner) (h:d.Sides.length≤1000000):Z4l d=some d:=by
 simp only [Z4l]
 rw [Z76 _ _ (by omega) (by simp;omega)];rfl
theorem s_own16 (s:Bar) (hD:fewL s.Drinkers) (hM:s.Mail.length≤900000):Zal s=some s:=by
 simp only [Zal]
 rw [Z76 _ _ (by omega) (by simp;omega),Option.bind_some,List.nil_append]
 refine Zu7 s.Drinkers (Z9l s s.Mail) (fun pre=>((pre.length:Int),pre)) s (fun pre x post h=>?_) ?_
 ·have hx:=Zv7 h
  have hm:=Zw7 h
  have h1:=hD.1
  obtain ⟨h2,h3⟩:=hD.2 x (Zx7 h)
  have e:Z6l x=some x:=by
   simp only [Z6l,s_own13 _ (show x.Diner.Sides.length≤1000000 by omega),Option.bind_some]
   rw [Z76 _ _ (by omega) (by simp;omega)];rfl
  dsimp only [Z9l]
  rw [Z86 hx,Z26,Z66 hx,Option.bind_some,e,Option.bind_some,Z76 _ _ (by omega) (by simp;omega),Option.bind_some,Za6 (by omega),Z08]
 ·dsimp only [Z9l]
  rw [Z96,Z36];rfl
def whoL (l:List Drinker) (t:Int):List Int:=(l.filter fun d=>decide (d.Thirst=t)).map (·.Diner.ID)
theorem whoL_len (l:List Drinker) (t:Int):(whoL l t).length≤l.length:=by
 unfold whoL;rw [List.length_map];exact List.length_filter_le _ _
theorem s_Who (s:Bar) (t:Int) (hD:fewL s.Drinkers):Zfl s t=some (whoL s.Drinkers t):=by
 unfold Zfl
 refine Zu7 s.Drinkers (Zel s t) (fun pre=>((pre.length:Int),whoL pre t)) _ (fun pre d post h=>?_) ?_
 ·have hx:=Zv7 h
  have hm:=Zw7 h
  have:=hD.1
  have hl:=whoL_len pre t
  have e:whoL (pre++[d]) t=if d.Thirst=t then whoL pre t++[d.Diner.ID] else whoL pre t:=by
   unfold whoL
   by_cases hp:d.Thirst=t<;>simp [hp]
  dsimp only [Zel]
  rw [Z86 hx,Z26,Z66 hx,Option.bind_some,e,Z08]
  by_cases hp:d.Thirst=t
  ·rw [decide_eq_true hp,Z26,Z76 _ _ (by omega) (by simp only [List.length_singleton];omega),Option.bind_some,if_pos hp]
   dsimp only [Zdl];rw [Za6 (by omega)]
  ·rw [decide_eq_false hp,Z36,if_neg hp]
   dsimp only [Zdl];rw [Za6 (by omega)]
 ·dsimp only [Zel]
  rw [Z96,Z36];rfl
def Zpm (x:Side) (k:Int):Bool:=if k=4 then x.Ask else x.Bottle
def Zqm (s:Bar) (e:Edge) (k:Int):Nat:=
 if k=3∨k=4 then
  (if Zcm s e.A&&Zcm s e.B then
    match s.Drinkers[e.A.toNat]?,s.Drinkers[e.B.toNat]? with
    | some da,some db=>match Z38 da.Diner e.B,Z38 db.Diner e.A with
      | some x,some y=>if x.Epoch=y.Epoch then bn (Zpm x k)+bn (Zpm y k)+Zte s.Mail e k x.Epoch else 0
      | _,_=>0
    | _,_=>0
  else 0)
 else countS (scB s) e k
theorem s_bCount (s:Bar) (e:Edge) (k:Int) (hD:fewL s.Drinkers) (hM:s.Mail.length≤900000):Zul s e k=some (Zqm s e k:Int):=by
 have j1:(k=3∨k=4)→Ztl s e k false=some (Zqm s e k:Int):=fun hk=>by
  unfold Zqm
  rw [if_pos hk]
  dsimp only [Ztl]
  rw [Z36,Zdm,Option.bind_some]
  cases ha:Zcm s e.A with
  | false=>rfl
  | true=>
    rw [Bool.not_true,Z36,Zdm,Option.bind_some]
    cases hb:Zcm s e.B with
    | false=>rfl
    | true=>
      obtain ⟨da,a1,a2⟩:=Zfm ha
      obtain ⟨db,b1,b2⟩:=Zfm hb
      have la:=(hD.2 da (List.mem_iff_getElem?.2 ⟨_,a2⟩)).1
      have lb:=(hD.2 db (List.mem_iff_getElem?.2 ⟨_,b2⟩)).1
      dsimp only [Zsl,Zrl]
      rw [Bool.not_true,Z36,a1,Option.bind_some,Z58 da.Diner e.B (by omega),Option.bind_some,b1,Option.bind_some,Z58 db.Diner e.A (by omega),Option.bind_some,Bool.and_self,if_pos rfl,a2,b2]
      dsimp only
      cases hx:Z38 da.Diner e.B with
      | none=>rfl
      | some x=>
        cases hy:Z38 db.Diner e.A with
        | none=>rfl
        | some y=>
          show Zql s e k true x (true,y)=some ((if x.Epoch=y.Epoch then bn (Zpm x k)+bn (Zpm y k)+Zte s.Mail e k x.Epoch else 0:Nat):Int)
          dsimp only [Zql]
          rw [Bool.not_true,Z36,Z36]
          by_cases he:x.Epoch=y.Epoch
          ·rw [decide_eq_true he,Bool.not_true,if_pos he]
           dsimp only [Zpl]
           rw [Z36]
           have j7:∀n:Nat,n≤2→Zll s e k x (n:Int)=some ((n+Zte s.Mail e k x.Epoch:Nat):Int):=fun n hn=>by
            dsimp only [Zll]
            refine Zu7 s.Mail (Zkl s e k x) (fun pre=>(((n+Zte pre e k x.Epoch:Nat):Int),(pre.length:Int))) ((n+Zte s.Mail e k x.Epoch:Nat):Int) (fun pre m post h=>?_) ?_
            ·have hx:=Zv7 h
             have hm:=Zw7 h
             have hc:=Zve pre e k x.Epoch
             dsimp only [Zkl]
             rw [Z86 hx,Z26,Z66 hx,Option.bind_some,Zue,Z08]
             have step:∀z,Zjl ((n+Zte pre e k x.Epoch:Nat):Int) (pre.length:Int) z=some (.inl (((n+(Zte pre e k x.Epoch+bn z):Nat):Int),((pre.length+1:Nat):Int))):=fun z=>by
              cases z with
              | true=>dsimp only [Zjl,Zil];rw [Z26,Za6 (by omega),Za6 (by omega)];rfl
              | false=>dsimp only [Zjl,Zil];rw [Z36,Za6 (by omega)];rfl
             unfold mailB
             simp only [step]
             cases decide (m.Msg.Kind=k)<;>cases decide (m.Msg.Epoch=x.Epoch)<;>cases decide (min m.From m.To=min e.A e.B)<;>rfl
            ·dsimp only [Zkl]
             rw [Z96,Z36];rfl
           have j6:∀p q:Bool,Zol s e k x (p,q)=some ((bn p+bn q+Zte s.Mail e k x.Epoch:Nat):Int):=fun p q=>by
            have ef:(([p,q].countP id:Nat):Int)=((bn p+bn q:Nat):Int):=by cases p<;>cases q<;>rfl
            dsimp only [Zol]
            have n2:bn p+bn q≤2:=by cases p<;>cases q<;>decide
            have hj:=j7 (bn p+bn q) n2
            have:=Zt7 [p,q] (Znl s e k x p q) (fun pre=>(((pre.countP id:Nat):Int),(pre.length:Int))) (fun _ _=>Zll s e k x (([p,q].countP id:Nat):Int)) (fun pre z post h=>.inl ⟨by
             have hx:=Zv7 h
             have hm:=Zw7 h
             have h2:pre.length<2:=hm
             have hc:pre.countP id≤pre.length:=List.countP_le_length
             dsimp only [Znl]
             rw [decide_eq_true (by omega),Z26,Z66 hx,Option.bind_some,Z08,List.countP_append,List.countP_cons,List.countP_nil]
             cases z with
             | true=>dsimp only [Zml];rw [Z26,Za6 (by omega),Za6 (by omega)];rfl
             | false=>dsimp only [Zml];rw [Z36,Za6 (by omega)];rfl,rfl⟩) (by
             dsimp only [Znl]
             rw [show decide ((([p,q]:List Bool).length:Int)<2)=false from rfl,Z36])
            rw [ef,hj] at this
            exact this
           unfold Zpm
           by_cases k4:k=4
           ·rw [decide_eq_true k4,Z26,j6,if_pos k4,if_pos k4]
           ·rw [decide_eq_false k4,Z36,j6,if_neg k4,if_neg k4]
          ·rw [decide_eq_false he,Bool.not_false,if_neg he];rfl
 simp only [Zul]
 by_cases k3:k=3
 ·rw [decide_eq_true k3,Bool.not_true,Z36];exact j1 (.inl k3)
 ·rw [decide_eq_false k3,Bool.not_false,Z26]
  by_cases k4:k=4
  ·rw [decide_eq_true k4,Bool.not_true];exact j1 (.inr k4)
  ·rw [decide_eq_false k4,Bool.not_false]
   dsimp only [Ztl]
   rw [Z26,s_Scene s hD (by omega),Option.bind_some,s_Count (scB s) e k (fewL_D hD) hM,Option.bind_some]
   unfold Zqm
   rw [if_neg (by omega)]
theorem s_EqualMail (l m:List Mail) (hl:l.length≤1000000):Z4m l m=some (decide (l=m)):=by
 simp only [Z4m,ln_dec]
 by_cases h:l.length=m.length
 ·simp only [h,decide_true,Bool.not_true,Z36]
  rw [Z18 l m _ (fun x y=>decide (x=y)) h (by omega) (fun k x y hx hy=>by
   simp only [Z3m,Z86 hx,Z26,Z66 hx,Z66 hy,Option.bind_some,Mail_eqB,Zb6 hx (show l.length≤4000000000000000000 by omega),Z46]
   cases decide (x=y)<;>rfl) (by simp only [Z3m,Z96,Z36,Z2m,Option.map_some]),Z28 l m h]
 ·simp [h,len_ne h]
theorem s_bSame (s t:Bar) (hD:fewL s.Drinkers) (hM:s.Mail.length≤900000):Z7m s t=some (decide (s=t)):=by
 obtain ⟨l,m⟩:=s
 obtain ⟨l',m'⟩:=t
 simp only at hD hM
 have h5:=hD.1
 have e1:Z0m l l' (fun z=>Zrh z.1 z.2)=some (decide (l=l')):=by
  simp only [Z0m,ln_dec]
  by_cases h:l.length=l'.length
  ·simp only [h,decide_true,Bool.not_true,Z36]
   rw [Z18 l l' _ (fun x y=>decide (x=y)) h (by omega) (fun k x y hx hy=>by
    have hxm:=hD.2 x (List.mem_iff_getElem?.2 ⟨_,hx⟩)
    simp only [Zzl,Z86 hx,Z26,Z66 hx,Z66 hy,Option.bind_some,s_drSame x y (show x.Diner.Sides.length≤1000000 by omega) (show x.Need.length≤1000000 by omega),Zb6 hx (show l.length≤4000000000000000000 by omega),Z46,Option.map_some]
    cases decide (x=y)<;>rfl) (by simp only [Zzl,Z96,Z36,Zyl,Option.map_some]),Z28 l l' h]
  ·simp [h,len_ne h]
 simp only [Z7m,Z6m,e1,s_EqualMail m m' (show m.length≤1000000 by omega),Option.bind_some,Bar.mk.injEq]
 by_cases h1:l=l'<;>by_cases h2:m=m'<;>simp [h1,h2]
def barT (g:Graph):Bar:=⟨(Zvd g).Diners.map fun d=>⟨d,0,[]⟩,[]⟩
theorem s_bNew (g:Graph):Zxl g=some (if okG g then (barT g,0) else (bar0,30)):=by
 simp only [Zxl,s_New,Option.bind_some]
 cases hg:okG g with
 | false=>rfl
 | true=>
   have hl:(Zvd g).Diners.length≤64:=by
    have:=Z2a hg (Ztd g)
    have:=(Zl7 hg).2.1
    show (Zy9 g (Ztd g)).length≤64
    omega
   rw [if_pos rfl,show decide ((0:Int)=0)=true from rfl,Bool.not_true,Z36,if_pos rfl]
   refine Zu7 (Zvd g).Diners (Zwl (Zvd g,0)) (fun pre=>((pre.length:Int),pre.map fun d=>(⟨d,0,[]⟩:Drinker))) (barT g,0) (fun pre x post h=>?_) ?_
   ·have hx:=Zv7 h
    have hm:=Zw7 h
    dsimp only [Zwl]
    rw [Z86 hx,Z26,Z66 hx,Option.bind_some,Z76 _ _ (by omega) (by simp;omega),Option.bind_some,Za6 (by omega),Z08]
    simp
   ·dsimp only [Zwl]
    rw [Z96,Z36];rfl
set_option maxRecDepth 100000
set_option maxHeartbeats 4000000
@[go_sem] def e11:EC:=.seq (.reg [(Qa 0 (.mv (.c .ff)))]) (.seq (.reg [(Qa 13 (.build [.iv 0,.iv 0] [(0,1,(.c (.iv 0))),(1,1,(.c (.iv 1)))])),(Qa 14 (.bsl 30 2 1 [.iv 0,.iv 0] [(0,(.t 13))])),(Qa 15 (.build [.iv 0,.nl] [(0,1,(.c (.iv 2))),(1,1,(.t 14))])),(Qa 16 (.call 40 [(.t 15)])),(Qm 12 16),(Qa 17 (.ext (.t 12) 0)),(Qa 18 (.ext (.t 12) 1)),(Qa 1 (.alloc 25 [.nl,.nl])),(Qs 2 1 17),(Qm 2 18)]) (.seq (.reg [(Qe 20 2 1),(Qa 21 (.call 38 [(.t 20),(.c (.iv 0)),(.c .nl)])),(Qm 19 21),(Qa 22 (.ext (.t 19) 0)),(Qa 23 (.ext (.t 19) 1)),(Qa 3 (.alloc 25 [.nl,.nl])),(Qs 2 3 22),(Qm 4 23)]) (.seq (.reg [(Qe 25 2 3),(Qa 26 (.call 38 [(.t 25),(.c (.iv 1)),(.c .nl)])),(Qm 24 26),(Qa 27 (.ext (.t 24) 0)),(Qa 28 (.ext (.t 24) 1)),(Qs 2 3 27),(Qm 5 28)]) (.seq (.seq (.reg [(Qm 29 2),(Qa 30 (.bin .neq (.t 29) (.c (.iv 0)))),(Qm 31 30),(Qg 32 31 false (.mv (.t 4))),(Qg 33 31 false (.bin .neq (.t 32) (.c (.iv 0)))),(Qq 34 31 33),(Qm 35 34),(Qg 36 35 false (.mv (.t 5))),(Qg 37 35 false (.bin .neq (.t 36) (.c (.iv 0)))),(Qq 38 35 37)]) (.ite (.t 38) (.seq (.reg [(Qa 0 (.mv (.c .ff)))]) (.ret)) (.skip))) (.seq (.reg [(Qe 40 2 1),(Qa 41 (.bsl 3 1 1 [.iv 0] [(0,(.c (.iv 1)))])),(Qa 42 (.call 38 [(.t 40),(.c (.iv 0)),(.t 41)])),(Qm 39 42),(Qa 43 (.ext (.t 39) 0)),(Qa 44 (.ext (.t 39) 1)),(Qa 6 (.alloc 25 [.nl,.nl])),(Qs 2 6 43),(Qm 7 44)]) (.seq (.reg [(Qe 46 2 3),(Qa 47 (.call 36 [(.t 46),(.c (.iv 0))])),(Qm 45 47),(Qa 48 (.ext (.t 45) 0)),(Qa 49 (.ext (.t 45) 1)),(Qa 8 (.alloc 25 [.nl,.nl])),(Qs 2 8 48),(Qm 9 49)]) (.seq (.reg [(Qe 51 2 1),(Qa 52 (.call 48 [(.t 51),(.c (.iv 0)),(.c (.iv 1))])),(Qm 50 52),(Qa 53 (.ext (.t 50) 0)),(Qa 54 (.ext (.t 50) 1)),(Qa 10 (.alloc 25 [.nl,.nl])),(Qs 2 10 53),(Qm 11 54)]) (.seq (.reg [(Qe 55 2 3),(Qa 56 (.call 22 [(.t 55),(.c (.iv 2))])),(Qa 57 (.len (.t 56))),(Qa 58 (.bin .eql (.t 57) (.c (.iv 2)))),(Qm 59 58),(Qg 60 59 true (.mv (.t 7))),(Qg 61 59 true (.bin .eql (.t 60) (.c (.iv 0)))),(Qp 62 59 61),(Qm 63 62),(Qg 64 63 true (.loadA 2 (.t 6))),(Qg 65 63 true (.call 22 [(.t 64),(.c (.iv 0))])),(Qg 66 63 true (.len (.t 65))),(Qg 67 63 true (.bin .eql (.t 66) (.c (.iv 1)))),(Qp 68 63 67),(Qm 69 68),(Qg 70 69 true (.mv (.t 9))),(Qg 71 69 true (.bin .eql (.t 70) (.c (.iv 0)))),(Qp 72 69 71),(Qm 73 72),(Qg 74 73 true (.loadA 2 (.t 8))),(Qg 75 73 true (.call 22 [(.t 74),(.c (.iv 2))])),(Qg 76 73 true (.len (.t 75))),(Qg 77 73 true (.bin .eql (.t 76) (.c (.iv 1)))),(Qp 78 73 77),(Qm 79 78),(Qg 80 79 true (.mv (.t 11))),(Qg 81 79 true (.bin .eql (.t 80) (.c (.iv 162)))),(Qp 82 79 81),(Qm 83 82),(Qg 84 83 true (.loadA 2 (.t 1))),(Qg 85 83 true (.call 17 [(.t 84)])),(Qg 86 83 true (.bin .eql (.t 85) (.c (.iv 0)))),(Qp 87 83 86),(Qm 88 87),(Qg 89 88 true (.loadA 2 (.t 1))),(Qg 90 88 true (.build [.iv 0,.iv 0] [(0,1,(.c (.iv 0))),(1,1,(.c (.iv 1)))])),(Qg 91 88 true (.call 19 [(.t 89),(.t 90),(.c (.iv 3))])),(Qg 92 88 true (.bin .eql (.t 91) (.c (.iv 1)))),(Qp 93 88 92),(Qm 94 93),(Qg 95 94 true (.loadA 2 (.t 1))),(Qg 96 94 true (.loadA 2 (.t 1))),(Qg 97 94 true (.call 24 [(.t 95),(.t 96)])),(Qp 98 94 97),(Qm 99 98),(Qg 100 99 true (.loadA 2 (.t 1))),(Qg 101 99 true (.loadA 2 (.t 3))),(Qg 102 99 true (.call 24 [(.t 100),(.t 101)])),(Qg 103 99 true (.not (.t 102))),(Qp 104 99 103),(Qm 105 104),(Qg 106 105 true (.loadA 2 (.t 1))),(Qg 107 105 true (.call 26 [(.t 106)])),(Qg 108 105 true (.field 0 none (.t 107))),(Qg 109 105 true (.len (.t 108))),(Qg 110 105 true (.bin .eql (.t 109) (.c (.iv 2)))),(Qp 111 105 110),(Qm 0 111)]) (.ret)))))))))
theorem ok11:FnOK Tryz.prog 11 Tryz.f11 e11 [.t 0] 0 112:=⟨by kernel_rfl,⟨_,rfl,by kernel_rfl⟩,by kernel_rfl,by kernel_rfl⟩
noncomputable def Zrm:Bool→Option Bool
| x16=>
 some x16
noncomputable def Zsm (x1:(Bar×Int)) (x3:(Bar×Int)):Bool→Option Bool
| x4=>
 ifb x4 (
 some false) (
 (Zpk x1.1 0 ([1])).bind fun x5=>
 (Zrk x3.1 0).bind fun x6=>
 (Z0l x1.1 0 1).bind fun x7=>
 (Zfl x3.1 2).bind fun x8=>
 ifb (decide ((ln Z15 x8)=2)) (
 ifb (decide (x5.2=0)) (
 (Zfl x5.1 0).bind fun x9=>
 ifb (decide ((ln Z15 x9)=1)) (
 ifb (decide (x6.2=0)) (
 (Zfl x6.1 2).bind fun x10=>
 ifb (decide ((ln Z15 x10)=1)) (
 ifb (decide (x7.2=162)) (
 (Zek x1.1).bind fun x11=>
 ifb (decide (x11=0)) (
 (Zul x1.1 ((Edge.mk 0 1)) 3).bind fun x12=>
 ifb (decide (x12=1)) (
 (Z7m x1.1 x1.1).bind fun x13=>
 ifb x13 (
 (Z7m x1.1 x3.1).bind fun x14=>
 ifb (!x14) (
 (Z5k x1.1).bind fun x15=>
 Zrm (decide ((ln Diner.row x15.Diners)=2))) (
 Zrm false)) (
 Zrm false)) (
 Zrm false)) (
 Zrm false)) (
 Zrm false)) (
 Zrm false)) (
 Zrm false)) (
 Zrm false)) (
 Zrm false)) (
 Zrm false))
noncomputable def Ztm:Option Bool:=
 (Zxl ((Graph.mk 2 ([(Edge.mk 0 1)])))).bind fun x1=>
 (Zpk x1.1 0 (([]:(List Int)))).bind fun x2=>
 (Zpk x2.1 1 (([]:(List Int)))).bind fun x3=>
 ifb (!decide (x1.2=0)) (
 (Zsm x1 x3) true) (
 ifb (!decide (x2.2=0)) (
 (Zsm x1 x3) true) (
 (Zsm x1 x3) (!decide (x3.2=0))))
theorem Zum (r:Bool) (h:Ztm=some r):Zu2 Tryz.prog 11 [] (.bv r):=by
 refine Zy2 ok11 rfl rfl fun w0 H0=>?_
 rw [Ztm] at h
 refine Zo2 9 ?_;dsimp only [go_sem];refine An ?_;refine Zc3 0 rfl ?_;dsimp only [go_sem];obtain ⟨x1,ex1,h⟩:=Bs h;refine Z33 trivial (k_bar_New ((Graph.mk 2 ([(Edge.mk 0 1)]))) _ ex1) (h:=?_);refine Zo2 10 ?_;dsimp only [go_sem];refine An ?_;obtain ⟨x2,ex2,h⟩:=Bs h;refine Z33 trivial (Zqk x1.1 0 (([]:(List Int))) _ ex2) (h:=?_);refine Zo2 10 ?_;dsimp only [go_sem];refine An ?_;obtain ⟨x3,ex3,h⟩:=Bs h;refine Z33 trivial (Zqk x2.1 1 (([]:(List Int))) _ ex3) (h:=?_);refine Zo2 12 ?_;dsimp only [go_sem];refine An ?_
 refine Zl4 (fun (x4:Bool)=>(⟨(.any :: .ptr 0 0 :: .any :: .ptr 1 0::an 34 (.bv x4::an 73 [])),[some ⟨25,[.sl 5 (List.map Drinker.row x1.1.Drinkers),.sl 5 (List.map Mail.row x1.1.Mail)]⟩,some ⟨25,[.sl 5 (List.map Drinker.row x3.1.Drinkers),.sl 5 (List.map Mail.row x3.1.Mail)]⟩],[]⟩:St)) (Zsm x1 x3) r ?_ fun J1=>?_
 ·intro x4 h;rw [Zsm] at h;(try dsimp only);refine Zn4 h rfl (fun _ h=>?_) fun _ h=>?_
  ·refine Zo2 4 ?_;dsimp only [go_sem];refine An ?_;exact Zv4 (res:=fun (r:Bool)=>.bv r) ok11 h
  ·refine Zo2 5 ?_;dsimp only [go_sem];refine An ?_;refine Zc3 0 rfl ?_;dsimp only [go_sem];obtain ⟨x5,ex5,h⟩:=Bs h;refine Z33 trivial (Zqk x1.1 0 ([1]) _ ex5) (h:=?_);refine Zo2 10 ?_;dsimp only [go_sem];refine An ?_;obtain ⟨x6,ex6,h⟩:=Bs h;refine Z33 trivial (Zsk x3.1 0 _ ex6) (h:=?_);refine Zo2 10 ?_;dsimp only [go_sem];refine An ?_;obtain ⟨x7,ex7,h⟩:=Bs h;refine Z33 trivial (Z1l x1.1 0 1 _ ex7) (h:=?_);refine Zo2 10 ?_;dsimp only [go_sem];refine An ?_;obtain ⟨x8,ex8,h⟩:=Bs h
   refine Z33 trivial (Zgl x3.1 2 _ ex8) (h:=?_);refine Zo2 3 ?_;dsimp only [go_sem];refine An ?_;refine Zl4 (fun (x16:Bool)=>(⟨(.bv x16::an 111 []),[],[]⟩:St)) Zrm r ?_ fun J2=>?_
   ·intro x16 h;rw [Zrm] at h;(try dsimp only);exact Zv4 (res:=fun (r:Bool)=>.bv r) ok11 h
   ·refine Zu4 59 h rfl (fun _ h=>?_) fun _ h=>?_
    ·dsimp only [go_sem];refine Zo2 4 ?_;dsimp only [go_sem];refine An ?_;refine Zu4 63 h rfl (fun _ h=>?_) fun _ h=>?_
     ·dsimp only [go_sem];refine Zo2 1 ?_;dsimp only [go_sem];refine An ?_;obtain ⟨x9,ex9,h⟩:=Bs h;refine Z33 trivial (Zgl x5.1 0 _ ex9) (h:=?_);refine Zo2 4 ?_;dsimp only [go_sem];refine An ?_;refine Zu4 69 h rfl (fun _ h=>?_) fun _ h=>?_
      ·dsimp only [go_sem];refine Zo2 4 ?_;dsimp only [go_sem];refine An ?_;refine Zu4 73 h rfl (fun _ h=>?_) fun _ h=>?_
       ·dsimp only [go_sem];refine Zo2 1 ?_;dsimp only [go_sem];refine An ?_;obtain ⟨x10,ex10,h⟩:=Bs h;refine Z33 trivial (Zgl x6.1 2 _ ex10) (h:=?_);refine Zo2 4 ?_;dsimp only [go_sem];refine An ?_;refine Zu4 79 h rfl (fun _ h=>?_) fun _ h=>?_
        ·dsimp only [go_sem];refine Zo2 4 ?_;dsimp only [go_sem];refine An ?_;refine Zu4 83 h rfl (fun _ h=>?_) fun _ h=>?_
         ·dsimp only [go_sem];refine Zo2 1 ?_;dsimp only [go_sem];refine An ?_;obtain ⟨x11,ex11,h⟩:=Bs h;refine Z33 trivial (Zfk x1.1 _ ex11) (h:=?_);refine Zo2 3 ?_;dsimp only [go_sem];refine An ?_;refine Zu4 88 h rfl (fun _ h=>?_) fun _ h=>?_
          ·dsimp only [go_sem];refine Zo2 2 ?_;dsimp only [go_sem];refine An ?_;obtain ⟨x12,ex12,h⟩:=Bs h;refine Z33 trivial (k_bar_Count x1.1 ((Edge.mk 0 1)) 3 _ ex12) (h:=?_);refine Zo2 3 ?_;dsimp only [go_sem];refine An ?_;refine Zu4 94 h rfl (fun _ h=>?_) fun _ h=>?_
           ·dsimp only [go_sem];refine Zo2 2 ?_;dsimp only [go_sem];refine An ?_;obtain ⟨x13,ex13,h⟩:=Bs h;refine Z33 trivial (Z8m x1.1 x1.1 _ ex13) (h:=?_);refine Zo2 2 ?_;dsimp only [go_sem];refine An ?_;refine Zu4 99 h rfl (fun _ h=>?_) fun _ h=>?_
            ·dsimp only [go_sem];refine Zo2 2 ?_;dsimp only [go_sem];refine An ?_;obtain ⟨x14,ex14,h⟩:=Bs h;refine Z33 trivial (Z8m x1.1 x3.1 _ ex14) (h:=?_);refine Zo2 3 ?_;dsimp only [go_sem];refine An ?_;refine Zu4 105 h rfl (fun _ h=>?_) fun _ h=>?_
             ·dsimp only [go_sem];refine Zo2 1 ?_;dsimp only [go_sem];refine An ?_;obtain ⟨x15,ex15,h⟩:=Bs h;refine Z33 trivial (Z6k x1.1 _ ex15) (h:=?_);refine Zo2 6 ?_;dsimp only [go_sem];refine An ?_;exact Zx4 J2 (s:=decide ((ln Diner.row x15.Diners)=2)) h
             ·dsimp only [go_sem];refine Zo2 8 ?_;dsimp only [go_sem];refine An ?_;exact Zx4 J2 (s:=false) h
            ·dsimp only [go_sem];refine Zo2 14 ?_;dsimp only [go_sem];refine An ?_;exact Zx4 J2 (s:=false) h
           ·dsimp only [go_sem];refine Zo2 19 ?_;dsimp only [go_sem];refine An ?_;exact Zx4 J2 (s:=false) h
          ·dsimp only [go_sem];refine Zo2 25 ?_;dsimp only [go_sem];refine An ?_;exact Zx4 J2 (s:=false) h
         ·dsimp only [go_sem];refine Zo2 30 ?_;dsimp only [go_sem];refine An ?_;exact Zx4 J2 (s:=false) h
        ·dsimp only [go_sem];refine Zo2 34 ?_;dsimp only [go_sem];refine An ?_;exact Zx4 J2 (s:=false) h
       ·dsimp only [go_sem];refine Zo2 40 ?_;dsimp only [go_sem];refine An ?_;exact Zx4 J2 (s:=false) h
      ·dsimp only [go_sem];refine Zo2 44 ?_;dsimp only [go_sem];refine An ?_;exact Zx4 J2 (s:=false) h
     ·dsimp only [go_sem];refine Zo2 50 ?_;dsimp only [go_sem];refine An ?_;exact Zx4 J2 (s:=false) h
    ·dsimp only [go_sem];refine Zo2 54 ?_;dsimp only [go_sem];refine An ?_;exact Zx4 J2 (s:=false) h
 ·refine Zu4 31 h rfl (fun _ h=>?_) fun _ h=>?_
  ·dsimp only [go_sem];refine Zo2 8 ?_;dsimp only [go_sem];refine An ?_;exact Zx4 J1 (s:=true) h
  ·dsimp only [go_sem];refine Zo2 4 ?_;dsimp only [go_sem];refine An ?_;refine Zu4 35 h rfl (fun _ h=>?_) fun _ h=>?_
   ·dsimp only [go_sem];refine Zo2 4 ?_;dsimp only [go_sem];refine An ?_;exact Zx4 J1 (s:=true) h
   ·dsimp only [go_sem];refine Zo2 4 ?_;dsimp only [go_sem];refine An ?_;exact Zx4 J1 (s:=!decide (x3.2=0)) h
set_option maxRecDepth 100000
set_option maxHeartbeats 4000000
set_option maxRecDepth 100000
set_option maxHeartbeats 4000000
set_option maxRecDepth 100000
set_option maxHeartbeats 4000000
set_option maxRecDepth 100000
set_option maxHeartbeats 4000000
set_option maxRecDepth 100000
set_option maxHeartbeats 4000000
def fewR (s:Bar):Bool:=decide (s.Drinkers.length≤24)&&(s.Drinkers.all (fun d=>decide (d.Need.length≤24))&&fewB (scB s))
theorem fewR_iff {s:Bar} (h:fewR s=true):s.Drinkers.length≤24∧s.Mail.length≤40∧∀d∈s.Drinkers,d.Diner.Sides.length≤24∧d.Need.length≤24:=by
 unfold fewR at h
 simp only [Bool.and_eq_true,decide_eq_true_eq,List.all_eq_true] at h
 obtain ⟨h1,h2,h3⟩:=h
 obtain ⟨_,k2,k3⟩:=fewB_iff h3
 exact ⟨h1,k2,fun d hd=>⟨k3 _ (List.mem_map_of_mem hd),h2 d hd⟩⟩
theorem Zvm {s:Bar} (h:fewR s=true):fewL s.Drinkers:=by
 obtain ⟨h1,_,h3⟩:=fewR_iff h
 exact ⟨by omega,fun d hd=>by have:=h3 d hd;omega⟩
theorem setL_pw {l:List Int} (h:l.Pairwise (· < ·)):setL l=l:=by
 unfold setL
 rw [List.mergeSort_of_pairwise (h.imp fun hxy=>decide_eq_true (by omega)),Zs9 h]
def Zwm (d:Drinker) (need set:List Int):Drinker×Int:=if okDr d then (if d.Thirst=0 then (if need.any (Zuj d.Diner) then (Zsj,151) else (⟨d.Diner,1,set⟩,0)) else (Zsj,152)) else (Zsj,150)
theorem openDr_S {need:List Int} (h:need.Pairwise (· < ·)):(fun d=>Zvj d need)=fun d=>Zwm d need need:=by
 funext d
 unfold Zvj Zwm
 rw [setL_pw h]
def g16:Graph:=⟨2,[⟨0,1⟩]⟩
def v0:Bar:=barT g16
def v2:Bar×Int:=Zkm v0 0 fun d=>Zwm d [] []
def v3:Bar×Int:=Zkm v2.1 1 fun d=>Zwm d [] []
def v5:Bar×Int:=Zkm v0 0 fun d=>Zwm d [1] [1]
def v6:Bar×Int:=Zkm v3.1 0 Zwj
def v7:Bar×Int:=Znm v0 0 1
theorem s_awake16:Ztm=some true:=by
 have f0:fewR v0=true:=by kernel_rfl
 have f2:fewR v2.1=true:=by kernel_rfl
 have f3:fewR v3.1=true:=by kernel_rfl
 have f5:fewR v5.1=true:=by kernel_rfl
 have f6:fewR v6.1=true:=by kernel_rfl
 have m:∀ {s:Bar},fewR s=true→s.Mail.length≤900000:=fun h=>by have:=(fewR_iff h).2.1;omega
 have hN:Zxl ⟨2,[⟨0,1⟩]⟩=some (v0,0):=by
  rw [s_bNew,show okG ⟨2,[⟨0,1⟩]⟩=true from by kernel_rfl];rfl
 simp only [Ztm,hN,Option.bind_some,decide_true,Bool.not_true,Z36]
 rw [s_bOpen v0 0 [] (Zvm f0) (m f0) (by simp),Option.bind_some,openDr_S (need:=[]) (by simp),show (Zkm v0 0 fun d=>Zwm d [] [])=v2 from rfl]
 rw [s_bOpen v2.1 1 [] (Zvm f2) (m f2) (by simp),Option.bind_some,openDr_S (need:=[]) (by simp),show (Zkm v2.1 1 fun d=>Zwm d [] [])=v3 from rfl]
 rw [show decide (v2.2=0)=true from by kernel_rfl,Bool.not_true,Z36,show decide (v3.2=0)=true from by kernel_rfl,Bool.not_true]
 dsimp only [Zsm]
 rw [Z36,s_bOpen v0 0 [1] (Zvm f0) (m f0) (by simp),Option.bind_some,openDr_S (need:=[1]) (by simp),show (Zkm v0 0 fun d=>Zwm d [1] [1])=v5 from rfl]
 rw [s_bClose v3.1 0 (Zvm f3) (m f3),Option.bind_some,show Zkm v3.1 0 Zwj=v6 from rfl,Zom v0 0 1 (Zvm f0) (m f0),Option.bind_some,show Znm v0 0 1=v7 from rfl]
 rw [s_Who v3.1 2 (Zvm f3),Option.bind_some,show decide (ln Z15 (whoL v3.1.Drinkers 2)=2)=true from by rw [Z45];kernel_rfl,Z26,show decide (v5.2=0)=true from by kernel_rfl,Z26]
 rw [s_Who v5.1 0 (Zvm f5),Option.bind_some,show decide (ln Z15 (whoL v5.1.Drinkers 0)=1)=true from by rw [Z45];kernel_rfl,Z26,show decide (v6.2=0)=true from by kernel_rfl,Z26]
 rw [s_Who v6.1 2 (Zvm f6),Option.bind_some,show decide (ln Z15 (whoL v6.1.Drinkers 2)=1)=true from by rw [Z45];kernel_rfl,Z26,show decide (v7.2=162)=true from by kernel_rfl,Z26]
 rw [s_bCheck v0 (Zvm f0) (by have:=m f0;omega),Option.bind_some,show Zbm v0=true from by kernel_rfl,show decide ((if true=true then (0:Int) else 160)=0)=true from rfl,Z26]
 rw [s_bCount v0 ⟨0,1⟩ 3 (Zvm f0) (m f0),Option.bind_some,show decide ((Zqm v0 ⟨0,1⟩ 3:Int)=1)=true from by kernel_rfl,Z26]
 rw [s_bSame v0 v0 (Zvm f0) (m f0),Option.bind_some,decide_eq_true rfl,Z26,s_bSame v0 v3.1 (Zvm f0) (m f0),Option.bind_some,show decide (v0=v3.1)=false from by kernel_rfl,Bool.not_false,Z26]
 rw [s_Scene v0 (Zvm f0) (by have:=m f0;omega),Option.bind_some,Z45,show decide (((scB v0).Diners.length:Int)=2)=true from by kernel_rfl]
 rfl
def k12 (m:Mail):Bool:=decide (m.Msg.Kind≤2)
def Zxm (s:Bar):Scene:=⟨s.Drinkers.map (·.Diner),s.Mail.filter k12⟩
def hasT (d:Diner) (k b:Int):Nat:=match Z38 d b with | some x=>bn (Zpm x k) | none=>0
structure LocT (d:Drinker):Prop where
 lo:0≤d.Thirst
 hi:d.Thirst≤2
 need:d.Need.Pairwise (· < ·)
 sub:∀p∈d.Need,p∈d.Diner.Sides.map (·.Peer)
 tr:d.Thirst=0→d.Need=[]
 dr:d.Thirst=2→∀x∈d.Diner.Sides,x.Peer∈d.Need→x.Bottle=true
def mailR (g:Graph) (m:Mail):Prop:=(1≤m.Msg.Kind∧m.Msg.Kind≤4)∧m.Msg.Epoch=1∧m.Msg.Num=0∧m.To∈Zq9 g m.From
structure InvB (g:Graph) (s:Bar):Prop where
 tab:Inv g (Zxm s)
 mail:∀m∈s.Mail,mailR g m
 th:∀d∈s.Drinkers,LocT d
 two:∀(a b:Nat) da db,s.Drinkers[a]?=some da→s.Drinkers[b]?=some db→(b:Int)∈Zq9 g a→∀k,(k=3∨k=4)→hasT da.Diner k b+hasT db.Diner k a+cnt s.Mail k a b+cnt s.Mail k b a=1
theorem Zym {s:Bar} {a:Nat} {d:Drinker} (h:s.Drinkers[a]?=some d):(Zxm s).Diners[a]?=some d.Diner:=by
 show (s.Drinkers.map (·.Diner))[a]?=_
 rw [List.getElem?_map,h];rfl
theorem InvB.upd {g:Graph} {s:Bar} (hg:okG g=true) (h:InvB g s) {a:Nat} {d d':Drinker} (hd:s.Drinkers[a]?=some d) {M:List Mail} (ht:Inv g ⟨(Zxm s).Diners.set a d'.Diner,M.filter k12⟩) (hm:∀m∈M,mailR g m) (hl:LocT d')
  (ho:∀k p q:Int,(k=3∨k=4)→p≠a→q≠a→cnt M k p q=cnt s.Mail k p q) (hc:∀b∈Zq9 g a,∀k,(k=3∨k=4)→hasT d'.Diner k b+cnt M k a b+cnt M k b a=hasT d.Diner k b+cnt s.Mail k a b+cnt s.Mail k b a):InvB g ⟨s.Drinkers.set a d',M⟩:=by
 have hlt:=(List.getElem?_eq_some_iff.1 hd).1
 have get:∀(k:Nat) e,(s.Drinkers.set a d')[k]?=some e→(k=a∧e=d')∨(k≠a∧s.Drinkers[k]?=some e):=fun k e he=>by
  rw [List.getElem?_set] at he
  split at he
  ·rename_i hk
   simp at he
   exact .inl ⟨hk.symm,he.symm⟩
  ·rename_i hk
   exact .inr ⟨fun e=>hk e.symm,he⟩
 refine ⟨?_,hm,fun e he=>?_,fun x y dx dy hx hy hxy k hk=>?_⟩
 ·have e:Zxm ⟨s.Drinkers.set a d',M⟩=⟨(Zxm s).Diners.set a d'.Diner,M.filter k12⟩:=by
   unfold Zxm
   simp only [List.map_set]
  rw [e];exact ht
 ·obtain ⟨k,hk⟩:=List.mem_iff_getElem?.1 he
  rcases get k e hk with ⟨_,rfl⟩ | ⟨_,he⟩
  ·exact hl
  ·exact h.th e (List.mem_iff_getElem?.2 ⟨_,he⟩)
 ·dsimp only at hx hy ⊢
  have hne:=(Zv9 hg hxy).2.2.1
  have hyx:=Z4a hg hxy
  rcases get x dx hx with ⟨rfl,rfl⟩ | ⟨x1,hx'⟩<;>rcases get y dy hy with ⟨rfl,rfl⟩ | ⟨y1,hy'⟩
  ·exact absurd rfl hne
  ·have:=hc y hxy k hk
   have:=h.two x y d dy hd hy' hxy k hk
   omega
  ·have:=hc x hyx k hk
   have:=h.two x y dx d hx' hd hxy k hk
   omega
  ·rw [ho k x y hk (by omega) (by omega),ho k y x hk (by omega) (by omega)]
   exact h.two x y dx dy hx' hy' hxy k hk
theorem Zzm {id th:Int} {nd:Bool} {x:Side} {m:Mail} (h:m∈Zwi id nd th x):m.From=id∧m.To=x.Peer∧(m.Msg.Kind=3∨m.Msg.Kind=4)∧m.Msg.Epoch=x.Epoch∧m.Msg.Num=0:=by
 unfold Zwi at h
 rw [List.mem_append] at h
 rcases h with h | h
 ·split at h
  ·simp at h;subst h;exact ⟨rfl,rfl,.inl rfl,rfl,rfl⟩
  ·simp at h
 ·split at h
  ·simp at h;subst h;exact ⟨rfl,rfl,.inr rfl,rfl,rfl⟩
  ·simp at h
theorem bot_side (id th k:Int) (nd:Bool) (x:Side) (hk:k=3∨k=4) (he:x.Epoch=1):bn (Zpm (Zvi nd th x) k)+(Zwi id nd th x).count ⟨id,x.Peer,⟨k,1,0⟩⟩=bn (Zpm x k):=by
 obtain ⟨p,e,st,f,d,t,bo,ask⟩:=x
 dsimp only at he
 subst he
 unfold Zwi Zvi Zui Zti Zpm bn
 generalize h1:decide (th=1)=q1
 generalize h2:decide (th=2)=q2
 rcases hk with rfl | rfl<;>cases bo<;>cases ask<;>cases nd<;>cases q1<;>cases q2<;>cases f<;>simp
theorem Z0n (id th k b:Int) (nd:Side→Bool):∀(l:List Side),l.Pairwise (fun x y=>x.Peer<y.Peer)→(l.flatMap fun x=>Zwi id (nd x) th x).count ⟨id,b,⟨k,1,0⟩⟩=match l.find? (fun x=>decide (x.Peer=b)) with | some x=>(Zwi id (nd x) th x).count ⟨id,x.Peer,⟨k,1,0⟩⟩ | none=>0
 | [],_=>rfl
 | x::l,h=>by
   rw [List.pairwise_cons] at h
   rw [List.flatMap_cons,List.count_append,Z0n id th k b nd l h.2,List.find?_cons]
   by_cases hx:x.Peer=b
   ·have:l.find? (fun x=>decide (x.Peer=b))=none:=by
     rw [List.find?_eq_none]
     intro y hy
     have:=h.1 y hy
     simp;omega
    rw [this,decide_eq_true hx,←hx];simp
   ·rw [decide_eq_false hx,Zdb (fun hm=>hx (Zzm hm).2.1.symm)];simp
theorem Z1n (d:Diner) (x:Side) (k:Int):Zpm (Zgb d x) k=Zpm x k:=by
 have h2:(Z1b d.Phase x).Bottle=x.Bottle∧(Z1b d.Phase x).Ask=x.Ask:=by
  unfold Z1b Z0b
  split<;>split<;>exact ⟨rfl,rfl⟩
 have h3:(Zgb d x).Bottle=x.Bottle∧(Zgb d x).Ask=x.Ask:=by
  unfold Zgb
  split
  ·exact h2
  ·exact h2
 unfold Zpm
 rw [h3.1,h3.2]
theorem hasD_bot {d:Diner} {p:Int} {f:Side→Side} (hf:∀x,(f x).Peer=x.Peer∧(f x).Fork=x.Fork∧(f x).Token=x.Token) (k b:Int):hasD ⟨d.ID,p,d.Sides.map f⟩ k b=hasD d k b:=by
 unfold hasD
 rw [Zkb d f (fun x=>(hf x).1)]
 cases Z38 d b with
 | none=>rfl
 | some x=>
   simp only [Option.map_some]
   unfold has
   rw [(hf x).2.1,(hf x).2.2]
theorem Z2n {α:Type} {l:List α} {a:Nat} {x:α} (h:l[a]?=some x):l.set a x=l:=by
 refine List.ext_getElem? fun k=>?_
 rw [List.getElem?_set]
 split
 ·rename_i e;subst e
  have:=(List.getElem?_eq_some_iff.1 h).1
  rw [if_pos this,h]
 ·rfl
theorem Inv.map {g:Graph} {s:Scene} (hg:okG g=true) (h:Inv g s) {a:Nat} {d:Diner} (hd:s.Diners[a]?=some d) {f:Side→Side} (hf:∀x,(f x).Peer=x.Peer∧(f x).Epoch=x.Epoch∧(f x).State=x.State∧(f x).Fork=x.Fork∧(f x).Dirty=x.Dirty∧(f x).Token=x.Token):
  Inv g ⟨s.Diners.set a ⟨d.ID,d.Phase,d.Sides.map f⟩,s.Mail⟩:=by
 have hl:=h.loc d (List.mem_iff_getElem?.2 ⟨_,hd⟩)
 refine h.set (d':=⟨d.ID,d.Phase,d.Sides.map f⟩) hg hd rfl ?_ ⟨hl.lo,hl.hi,fun y hy=>?_,fun e y hy=>?_⟩ h.mail (fun _ _ _ _ _=>rfl) (fun b _ k _=>?_)
 ·rw [List.map_map]
  exact List.map_congr_left fun x _=>(hf x).1
 ·obtain ⟨x,hx,rfl⟩:=List.mem_map.1 hy
  obtain ⟨p1,p2,p3,p4,p5,p6⟩:=hf x
  rw [p2,p3,p4,p5]
  exact hl.side x hx
 ·obtain ⟨x,hx,rfl⟩:=List.mem_map.1 hy
  obtain ⟨p1,p2,p3,p4,p5,p6⟩:=hf x
  rw [p4,p5]
  exact hl.eat e x hx
 ·rw [hasD_bot fun x=>⟨(hf x).1,(hf x).2.2.2.1,(hf x).2.2.2.2.2⟩]
theorem phaseDr_or (d:Drinker):Zyi d=d.Diner.Phase∨Zyi d=0∨Zyi d=1:=by
 unfold Zyi
 split
 ·exact .inr (.inr rfl)
 ·split
  ·exact .inr (.inl rfl)
  ·exact .inl rfl
theorem onceM_k12 (d:Drinker) (M:List Mail):(M++Z3j d).filter k12=M.filter k12++Z5b (Zzi d):=by
 unfold Z3j
 rw [List.filter_append,List.filter_append]
 have h1:(Z5b (Zzi d)).filter k12=Z5b (Zzi d):=by
  rw [List.filter_eq_self]
  intro m hm
  obtain ⟨x,_,hx⟩:=List.mem_flatMap.1 hm
  have:=(Zcb hx).2.2.1
  unfold k12
  exact decide_eq_true (by omega)
 have h2:((Z4b (Zzi d)).Sides.flatMap fun x=>Zwi d.Diner.ID (Zsi d x) d.Thirst x).filter k12=[]:=by
  rw [List.filter_eq_nil_iff]
  intro m hm
  obtain ⟨x,_,hx⟩:=List.mem_flatMap.1 hm
  have:=(Zzm hx).2.2.1
  unfold k12
  simp;omega
 rw [h1,h2,List.append_nil]
theorem InvB.once {g:Graph} {s:Bar} (hg:okG g=true) (h:InvB g s) {a:Nat} {d:Drinker} (hd:s.Drinkers[a]?=some d):InvB g ⟨s.Drinkers.set a (Z2j d),s.Mail++Z3j d⟩:=by
 have hdt:=Zym hd
 obtain ⟨hid,hsh⟩:=h.tab.shp a _ hdt
 have hdm:d∈s.Drinkers:=List.mem_iff_getElem?.2 ⟨_,hd⟩
 have hT:=h.th d hdm
 have hloc:=h.tab.loc _ (List.mem_iff_getElem?.2 ⟨_,hdt⟩)
 have h1:Inv g ⟨(Zxm s).Diners.set a (Zzi d),(Zxm s).Mail⟩:=by
  rcases phaseDr_or d with e | e | e
  ·have:Zzi d=d.Diner:=by unfold Zzi;rw [e]
   rw [this,Z2n hdt];exact h.tab
  ·exact h.tab.phase hg hdt (p:=Zyi d) (by omega) (by omega)
  ·exact h.tab.phase hg hdt (p:=Zyi d) (by omega) (by omega)
 have hd1:((Zxm s).Diners.set a (Zzi d))[a]?=some (Zzi d):=Zyd hdt
 have hpw1:=h1.pw hg hd1
 have h2:=h1.fire hg hd1
 dsimp only at h2
 rw [List.set_set] at h2
 have hd2:((Zxm s).Diners.set a (Z4b (Zzi d)))[a]?=some (Z4b (Zzi d)):=Zyd hdt
 have hpw2:=h2.pw hg hd2
 have h3:=h2.map hg hd2 (f:=fun x=>Zvi (Zsi d x) d.Thirst x) (fun x=>Zxi _ _ x)
 dsimp only at h3
 rw [List.set_set,Zib] at h3
 have hsm:∀m∈Z3j d,m.From=a∧m.To∈Zq9 g a∧(1≤m.Msg.Kind∧m.Msg.Kind≤4)∧m.Msg.Epoch=1∧m.Msg.Num=0:=fun m hm=>by
  unfold Z3j at hm
  rcases List.mem_append.1 hm with hm | hm
  ·obtain ⟨x,hx,hxm⟩:=List.mem_flatMap.1 hm
   obtain ⟨m1,m2,m3,m4,m5⟩:=Zcb hxm
   refine ⟨m1.trans hid,?_,by omega,by rw [m4];exact (hloc.side x hx).1,m5⟩
   rw [m2,←hsh]
   exact List.mem_map_of_mem hx
  ·obtain ⟨x,hx,hxm⟩:=List.mem_flatMap.1 hm
   obtain ⟨m1,m2,m3,m4,m5⟩:=Zzm hxm
   rw [Zhb] at hx
   obtain ⟨y,hy,rfl⟩:=List.mem_map.1 hx
   obtain ⟨p1,p2,_⟩:=Zjb (Zzi d) y
   refine ⟨m1.trans hid,?_,by omega,by rw [m4,p2];exact (hloc.side y hy).1,m5⟩
   rw [m2,p1,←hsh]
   exact List.mem_map_of_mem hy
 have other:∀(k p q:Int),p≠a→(Z3j d).count ⟨p,q,⟨k,1,0⟩⟩=0:=fun k p q hp=>Zdb fun hm=>hp (hsm _ hm).1
 refine h.upd (d':=Z2j d) hg hd ?_ (fun m hm=>?_) ?_ (fun k p q _ hp _=>?_) (fun b hb k hk=>?_)
 ·rw [onceM_k12]
  exact h3
 ·rcases List.mem_append.1 hm with hm | hm
  ·exact h.mail m hm
  ·obtain ⟨q1,q2,q3,q4,q5⟩:=hsm m hm
   exact ⟨q3,q4,q5,by rw [q1];exact q2⟩
 ·refine ⟨?_,?_,hT.need,?_,?_,?_⟩
  ·show 0≤Z1j d
   unfold Z1j;split
   ·omega
   ·exact hT.lo
  ·show Z1j d≤2
   unfold Z1j;split
   ·omega
   ·exact hT.hi
  ·intro p hp
   show p∈(Z2j d).Diner.Sides.map (·.Peer)
   rw [(once_keep d).2.2]
   exact hT.sub p hp
  ·intro e
   refine hT.tr ?_
   have e':Z1j d=0:=e
   unfold Z1j at e'
   split at e'
   ·omega
   ·exact e'
  ·intro e x hx hn
   have e':Z1j d=2:=e
   have hx':x∈Z0j d:=hx
   unfold Z1j at e'
   split at e'
   ·rename_i hc
    rw [Bool.and_eq_true,List.all_eq_true] at hc
    have:=hc.2 x hx'
    unfold Zsi at this
    rw [decide_eq_true (show x.Peer∈d.Need from hn)] at this
    simpa using this
   ·unfold Z0j at hx'
    obtain ⟨y,hy,rfl⟩:=List.mem_map.1 hx'
    rw [Zhb] at hy
    obtain ⟨z,hz,rfl⟩:=List.mem_map.1 hy
    have p1:=(Zjb (Zzi d) z).1
    rw [(Zxi _ _ _).1,p1] at hn
    have hb:=hT.dr e' z hz hn
    have hl:=Z1n (Zzi d) z 3
    unfold Zpm at hl
    simp at hl
    have hnd:Zsi d (Zgb (Zzi d) z)=true:=by unfold Zsi;rw [p1];exact decide_eq_true hn
    rw [hnd,e']
    unfold Zvi Zui Zti
    simp [hl,hb]
 ·unfold cnt
  rw [List.count_append,other k p q hp];rfl
 ·have hne:=(Zv9 hg hb).2.2.1
  unfold cnt
  rw [List.count_append,List.count_append,other k b a hne]
  have e:=Z0n d.Diner.ID d.Thirst k b (Zsi d) (Z4b (Zzi d)).Sides hpw2
  have e0:(Z5b (Zzi d)).count ⟨(a:Int),b,⟨k,1,0⟩⟩=0:=Zdb fun hm=>by
   obtain ⟨x,_,hx⟩:=List.mem_flatMap.1 hm
   have:=(Zcb hx).2.2.1
   dsimp only at this
   omega
  rw [hid] at e
  unfold Z3j
  rw [List.count_append,e0,hid,e]
  unfold hasT
  have es:Z38 (Z2j d).Diner b=(Z38 (Z4b (Zzi d)) b).map fun x=>Zvi (Zsi d x) d.Thirst x:=Zkb (Z4b (Zzi d)) (fun x=>Zvi (Zsi d x) d.Thirst x) (fun x=>(Zxi _ _ x).1) _ _ b
  rw [es,Zlb]
  have ef:(Z4b (Zzi d)).Sides.find? (fun x=>decide (x.Peer=b))=(Z38 (Zzi d) b).map (Zgb (Zzi d)):=Zlb (Zzi d) b
  rw [ef]
  have ep:Z38 (Zzi d) b=Z38 d.Diner b:=rfl
  rw [ep]
  cases hf:Z38 d.Diner b with
  | none=>simp
  | some x=>
    have hx:=(Zmb hf).1
    obtain ⟨p1,p2,_⟩:=Zjb (Zzi d) x
    have hbs:=bot_side (a:Int) d.Thirst k (Zsi d (Zgb (Zzi d) x)) (Zgb (Zzi d) x) hk (by rw [p2];exact (hloc.side x hx).1)
    rw [Z1n] at hbs
    simp only [Option.map_some]
    omega
theorem InvB.fireN {g:Graph} (hg:okG g=true) (L:List Drinker) (M:List Mail) {a:Nat} (ha:a<L.length):∀(n:Nat) (d:Drinker) (out:List Mail),InvB g ⟨L.set a d,M++out⟩→InvB g ⟨L.set a (NX.fireN n d out).1,M++(NX.fireN n d out).2⟩
 | 0,_,_,h=>h
 | n+1,d,out,h=>by
   unfold NX.fireN
   split
   ·exact h
   ·have hd:(L.set a d)[a]?=some d:=by rw [List.getElem?_set];simp [ha]
    have h1:=h.once hg hd
    dsimp only at h1
    rw [List.set_set,List.append_assoc] at h1
    exact InvB.fireN hg L M ha n _ _ h1
theorem InvB.fireDr {g:Graph} {s:Bar} (hg:okG g=true) (h:InvB g s) {a:Nat} {d:Drinker} (hd:s.Drinkers[a]?=some d):InvB g ⟨s.Drinkers.set a (NX.fireDr d).1,s.Mail++(NX.fireDr d).2⟩:=by
 refine InvB.fireN hg s.Drinkers s.Mail (List.getElem?_eq_some_iff.1 hd).1 300 d [] ?_
 rw [Z2n hd,List.append_nil];exact h
theorem Z3n {zs:List Int} (h:zs.Pairwise (· ≤ ·)):(Lib.compact zs).Pairwise (· < ·)∧∀x,x∈Lib.compact zs↔x∈zs:=by
 have get:∀j,j<zs.length→∃hj:j<zs.length,zs.toArray[j]! = zs[j]:=fun j hj=>⟨hj,by rw [getElem!_pos _ _ (by simpa using hj)];simp⟩
 have mono:∀i j,i≤j→j<zs.length→zs.toArray[i]!≤zs.toArray[j]!:=fun i j hij hj=>by
  obtain ⟨_,e1⟩:=get i (by omega)
  obtain ⟨_,e2⟩:=get j hj
  rw [e1,e2]
  by_cases e:i=j
  ·subst e;exact Int.le_refl _
  ·rw [List.pairwise_iff_getElem] at h
   exact h i j (by omega) hj (by omega)
 have key:∀m,m≤zs.length→(Lib.compactUpTo zs.toArray m).Pairwise (· < ·)∧(∀x,x∈Lib.compactUpTo zs.toArray m↔∃j,j<m∧x=zs.toArray[j]!):=by
  intro m
  induction m with
  | zero=>intro _;exact ⟨by simp [Lib.compactUpTo],fun x=>by simp [Lib.compactUpTo]⟩
  | succ m ih=>
    intro hm
    obtain ⟨h1,h2⟩:=ih (by omega)
    rw [Lib.compactUpTo_succ]
    cases hk:Lib.keeps zs.toArray m with
    | true=>
      rw [if_pos rfl]
      refine ⟨?_,fun x=>?_⟩
      ·rw [List.pairwise_append]
       refine ⟨h1,by simp,fun x hx y hy=>?_⟩
       rw [List.mem_singleton] at hy
       subst hy
       obtain ⟨j,hj,rfl⟩:=(h2 x).1 hx
       unfold Lib.keeps at hk
       simp only [decide_eq_true_eq] at hk
       have a1:=mono j (m-1) (by omega) (by omega)
       have a2:=mono (m-1) m (by omega) (by omega)
       rcases hk with e | e
       ·omega
       ·have:zs.toArray[m]!≠zs.toArray[m-1]!:=e
        omega
      ·rw [List.mem_append,h2]
       constructor
       ·rintro (⟨j,hj,e⟩ | e)
        ·exact ⟨j,by omega,e⟩
        ·simp at e;exact ⟨m,by omega,by simpa using e⟩
       ·rintro ⟨j,hj,e⟩
        by_cases hjm:j=m
        ·subst hjm;right;simp [e]
        ·exact .inl ⟨j,by omega,e⟩
    | false=>
      rw [if_neg (by simp),List.append_nil]
      refine ⟨h1,fun x=>?_⟩
      rw [h2]
      constructor
      ·rintro ⟨j,hj,e⟩;exact ⟨j,by omega,e⟩
      ·rintro ⟨j,hj,e⟩
       by_cases hjm:j=m
       ·subst hjm
        unfold Lib.keeps at hk
        simp only [decide_eq_false_iff_not,not_or,Classical.not_not] at hk
        exact ⟨j-1,by omega,by rw [e,hk.2]⟩
       ·exact ⟨j,by omega,e⟩
 obtain ⟨k1,k2⟩:=key zs.length (Nat.le_refl _)
 refine ⟨k1,fun x=>?_⟩
 have:=k2 x
 unfold Lib.compact
 rw [this]
 constructor
 ·rintro ⟨j,hj,e⟩
  obtain ⟨_,e1⟩:=get j hj
  rw [e,e1];exact List.getElem_mem hj
 ·intro hx
  obtain ⟨j,hj,e⟩:=List.mem_iff_getElem.1 hx
  obtain ⟨_,e1⟩:=get j hj
  exact ⟨j,hj,by rw [e1,e]⟩
theorem setL_spec (l:List Int):(setL l).Pairwise (· < ·)∧∀x,x∈setL l↔x∈l:=by
 have hs:(l.mergeSort fun x y=>decide (x≤y)).Pairwise (· ≤ ·):=by
  have:=List.pairwise_mergeSort (le:=fun x y:Int=>decide (x≤y)) (by intro a b c;simp;omega) (by intro a b;simp;omega) l
  exact this.imp fun h=>by simpa using h
 obtain ⟨h1,h2⟩:=Z3n hs
 refine ⟨h1,fun x=>?_⟩
 unfold setL
 rw [h2]
 exact (List.mergeSort_perm l _).mem_iff
theorem okI_of:∀(l:List Int) (p:Option Int),l.Pairwise (· < ·)→(∀q,p=some q→∀x∈l,q<x)→okI p l=true
 | [],_,_,_=>rfl
 | x::l,p,h,hp=>by
   rw [List.pairwise_cons] at h
   have ih:=okI_of l (some x) h.2 fun q hq y hy=>by simp at hq;subst hq;exact h.1 y hy
   unfold okI
   rw [ih,Bool.and_true]
   cases p with
   | none=>rfl
   | some q=>exact decide_eq_true (hp q rfl x (by simp))
theorem InvB.few {g:Graph} {s:Bar} (hg:okG g=true) (h:InvB g s):s.Drinkers.length≤64∧∀d∈s.Drinkers,d.Diner.Sides.length≤64∧d.Need.length≤64:=by
 have hl:=h.tab.len
 have h2:=(Zl7 hg).2.1
 have e:(Zxm s).Diners.length=s.Drinkers.length:=by simp [Zxm]
 refine ⟨by omega,fun d hd=>?_⟩
 obtain ⟨k,hk⟩:=List.mem_iff_getElem?.1 hd
 obtain ⟨_,hsh⟩:=h.tab.shp k _ (Zym hk)
 have hfew:=near_few hg (k:Int)
 have hT:=h.th d hd
 have hsl:d.Diner.Sides.length=(Zq9 g k).length:=by rw [←hsh];simp
 refine ⟨by omega,?_⟩
 have hb:∀p∈d.Need,0≤p∧p<g.N:=fun p hp=>by
  have:=hT.sub p hp
  rw [hsh] at this
  have:=Zv9 hg this
  omega
 rcases pw_len d.Need 0 g.N hT.need hb with e | e
 ·rw [e];simp
 ·omega
theorem InvB.fewL {g:Graph} {s:Bar} (hg:okG g=true) (h:InvB g s):NX.fewL s.Drinkers:=by
 obtain ⟨h1,h2⟩:=h.few hg
 exact ⟨by omega,fun d hd=>by have:=h2 d hd;omega⟩
theorem InvB.okDr {g:Graph} {s:Bar} (hg:okG g=true) (hN:g.N≤60) (h:InvB g s) {d:Drinker} (hd:d∈s.Drinkers):NX.okDr d=true:=by
 obtain ⟨k,hk⟩:=List.mem_iff_getElem?.1 hd
 have hT:=h.th d hd
 have hD:=h.tab.okd hg hN (List.mem_iff_getElem?.2 ⟨_,Zym hk⟩)
 unfold NX.okDr
 rw [hD,decide_eq_true hT.lo,decide_eq_true hT.hi,okI_of d.Need none hT.need (fun q hq=>by simp at hq),Bool.true_and,Bool.true_and,Bool.true_and,Bool.true_and,Bool.and_eq_true,List.all_eq_true]
 refine ⟨?_,fun p hp=>?_⟩
 ·by_cases h0:d.Thirst=0
  ·rw [hT.tr h0];simp
  ·rw [decide_eq_false h0];rfl
 ·unfold Zrj
  rw [List.any_eq_true]
  obtain ⟨x,hx,e⟩:=List.mem_map.1 (hT.sub p hp)
  exact ⟨x,hx,decide_eq_true e⟩
theorem InvB.ok {g:Graph} {s:Bar} (hg:okG g=true) (hN:g.N≤60) (h:InvB g s):Zbm s=true:=by
 unfold Zbm okS
 have e1:Zj8 (scB s).Diners=(g,true):=show Zj8 (Zxm s).Diners=(g,true) from h.tab.graph hg
 have hl:((scB s).Diners.length:Int)=g.N:=show ((Zxm s).Diners.length:Int)=g.N from h.tab.len
 rw [e1,Bool.true_and,Bool.and_eq_true,Bool.and_eq_true,List.all_eq_true,List.all_eq_true,List.all_eq_true]
 refine ⟨⟨fun d hd=>h.tab.okd hg hN hd,fun m hm=>?_⟩,fun d hd=>h.okDr hg hN hd⟩
 obtain ⟨n1,n2,n3,n4,n5⟩:=Zv9 hg (h.mail m hm).2.2.2
 unfold Zpc
 rw [decide_eq_false (by omega),decide_eq_false (by omega),decide_eq_false (by omega)];rfl
theorem InvB.first {g:Graph} (hg:okG g=true):InvB g (barT g):=by
 have hr:=(Zud hg).1
 have e0:Zxm (barT g)=Zvd g:=by
  unfold Zxm barT
  rw [List.map_map]
  have:((fun d:Drinker=>d.Diner)∘fun d:Diner=>(⟨d,0,[]⟩:Drinker))=id:=rfl
  rw [this,List.map_id]
  rfl
 refine ⟨by rw [e0];exact Inv.first hg,by intro m hm;exact absurd hm (by simp [barT]),fun d hd=>?_,fun a b da db ha hb hab k hk=>?_⟩
 ·obtain ⟨e,he,rfl⟩:=List.mem_map.1 hd
  exact ⟨Int.le_refl _,by show (0:Int)≤2;omega,by simp,by simp,fun _=>rfl,fun e=>absurd e (by show ¬(0:Int)=2;omega)⟩
 ·have get:∀(k:Nat) d,(barT g).Drinkers[k]?=some d→d=⟨Zx9 g (Ztd g) k,0,[]⟩:=fun k d hd=>by
   have h1:=Zym hd
   rw [e0] at h1
   have hk:=(List.getElem?_eq_some_iff.1 h1).1
   have hl:=Z2a hg (Ztd g)
   have hk':k<(Zy9 g (Ztd g)).length:=hk
   have e:=Z1a (g:=g) (c:=Ztd g) (a:=(k:Int)) (by omega) (by omega)
   rw [Int.toNat_natCast] at e
   have hd2:(Zvd g).Diners[k]?=some (Zx9 g (Ztd g) k):=e
   have h3:(barT g).Drinkers[k]?=((Zvd g).Diners.map fun d=>(⟨d,0,[]⟩:Drinker))[k]?:=rfl
   rw [h3,List.getElem?_map,hd2] at hd
   simpa using hd.symm
  have:=get a da ha
  subst this
  have:=get b db hb
  subst this
  have hne:=Z0a hg hr hab
  have hba:=Z4a hg hab
  unfold hasT
  rw [Z3a,if_pos hab,Z3a,if_pos hba]
  have hlt:decide (cg (Ztd g) a<cg (Ztd g) b)=!decide (cg (Ztd g) b<cg (Ztd g) a):=by
   rw [←decide_not,decide_eq_decide];omega
  have e1:∀p q:Int,cnt (barT g).Mail k p q=0:=fun _ _=>rfl
  rw [e1,e1]
  simp only [Zw9,Zpm,hlt,bn]
  by_cases hh:cg (Ztd g) b<cg (Ztd g) a<;>rcases hk with rfl | rfl<;>simp [hh]
set_option maxRecDepth 100000
set_option maxHeartbeats 4000000
@[go_sem] def e29_L0:EC:=.seq (.seq (.reg [(Qm 28 10),(Qm 29 1),(Qa 30 (.len (.t 29))),(Qa 31 (.bin .lss (.t 28) (.t 30)))]) (.ite (.t 31) (.skip) (.exit 0))) (.seq (.blk 1 (.seq (.drw [(Qe 35 2 8),(Qa 36 (.call 14 [(.t 35)])),(Qm 37 1),(Qm 38 10),(Qk 39 4 37 38),(Qe 40 4 39),(Qa 41 (.call 13 [(.t 36),(.t 40)])),(Qm 34 41),(Qa 42 (.ext (.t 34) 0)),(Qa 43 (.ext (.t 34) 1)),(Qa 11 (.alloc 25 [.nl,.nl])),(Qs 2 11 42),(Qm 12 43)] [[],[0],[],[],[2,3],[4],[1,5,1],[6],[7],[7],[],[10,8,6,0,1,2,3,4,5,6,7,8,10],[9,11,0,1,2,3,4,5,6,7,8,9,10,11]] [[1],[0,6],[4],[4],[2,3,5],[4,6],[1,5,7],[6,8,9],[7,11],[7,12],[11],[8,10],[9]]) (.seq (.seq (.reg [(Qm 44 12),(Qa 45 (.bin .neq (.t 44) (.c (.iv 0)))),(Qm 46 45),(Qg 47 46 true (.mv (.t 12))),(Qg 48 46 true (.bin .neq (.t 47) (.c (.iv 152)))),(Qp 49 46 48),(Qm 50 49),(Qg 51 50 true (.mv (.t 12))),(Qg 52 50 true (.bin .neq (.t 51) (.c (.iv 151)))),(Qp 53 50 52),(Qm 54 53),(Qg 55 54 true (.mv (.t 12))),(Qg 56 54 true (.bin .neq (.t 55) (.c (.iv 162)))),(Qp 57 54 56),(Qm 58 57),(Qg 59 58 true (.mv (.t 12))),(Qg 60 58 true (.bin .neq (.t 59) (.c (.iv 161)))),(Qp 61 58 60)]) (.ite (.t 61) (.seq (.reg [(Qe 62 2 8),(Qs 2 6 62),(Qa 7 (.mv (.c .ff)))]) (.ret)) (.skip))) (.seq (.seq (.reg [(Qm 63 12),(Qa 64 (.bin .eql (.t 63) (.c (.iv 0))))]) (.ite (.t 64) (.reg [(Qe 65 2 11),(Qs 2 8 65)]) (.skip))) (.seq (.reg [(Qm 66 2),(Qe 67 2 8),(Qa 68 (.callv (.t 66) [(.t 67)])),(Qa 69 (.not (.t 68)))]) (.ite (.t 69) (.seq (.reg [(Qe 70 2 8),(Qs 2 6 70),(Qa 7 (.mv (.c .ff)))]) (.ret)) (.skip))))))) (.reg [(Qm 32 10),(Qv 33 32 1),(Qm 10 33)]))
@[go_sem] def e29:EC:=.seq (.reg [(Qx 3 53 2 0),(Qa 6 (.alloc 25 [.nl,.nl])),(Qa 7 (.mv (.c .ff)))]) (.seq (.reg [(Qe 14 2 3),(Qa 15 (.call 41 [(.t 14)])),(Qa 16 (.call 40 [(.t 15)])),(Qm 13 16),(Qa 17 (.ext (.t 13) 0)),(Qa 18 (.ext (.t 13) 1)),(Qa 8 (.alloc 25 [.nl,.nl])),(Qs 2 8 17),(Qm 9 18)]) (.seq (.seq (.reg [(Qm 19 9),(Qa 20 (.bin .neq (.t 19) (.c (.iv 0)))),(Qm 21 20),(Qg 22 21 false (.mv (.t 2))),(Qg 23 21 false (.loadA 2 (.t 8))),(Qg 24 21 false (.callv (.t 22) [(.t 23)])),(Qg 25 21 false (.not (.t 24))),(Qq 26 21 25)]) (.ite (.t 26) (.seq (.reg [(Qe 27 2 8),(Qs 2 6 27),(Qa 7 (.mv (.c .ff)))]) (.ret)) (.skip))) (.seq (.seq (.reg [(Qi 10 0)]) (.blk 0 (.loop e29_L0))) (.seq (.reg [(Qe 71 2 8),(Qs 2 6 71),(Qa 7 (.mv (.c .tt)))]) (.ret)))))
theorem ok29:FnOK Tryz.prog 29 Tryz.f29 e29 [.c 6 (some 2),.t 7] 3 69:=⟨by kernel_rfl,⟨_,rfl,by kernel_rfl⟩,by kernel_rfl,by kernel_rfl⟩
noncomputable def Z4n:Bar→Option (Bar×Bool)
| x36=>
 some (x36,true)
noncomputable def Z5n (p2:(Bar→Option Bool)) (x19:Int):Bar→Option ((Int×Bar) ⊕ (Bar×Bool))
| x29=>
 (p2 x29).bind fun x30=>
 ifb (!x30) (
 Option.map Sum.inr (some (x29,false))) (
 some (.inl (wr (x19+1),x29)))
noncomputable def Z6n (p2:(Bar→Option Bool)) (x19:Int) (x20:Bar) (x26:Int) (x27:Bar):Bool→Option ((Int×Bar) ⊕ (Bar×Bool))
| x28=>
 ifb x28 (
 Option.map Sum.inr (some (x20,false))) (
 ifb (decide (x26=0)) (
 (Z5n p2 x19) x27) (
 (Z5n p2 x19) x20))
noncomputable def Z7n (p2:(Bar→Option Bool)) (x19:Int) (x20:Bar):(Int×Bar)→Option ((Int×Bar) ⊕ (Bar×Bool))
| (x26,x27)=>
 ifb (!decide (x26=0)) (
 ifb (!decide (x26=152)) (
 ifb (!decide (x26=151)) (
 ifb (!decide (x26=162)) (
 (Z6n p2 x19 x20 x26 x27) (!decide (x26=161))) (
 (Z6n p2 x19 x20 x26 x27) false)) (
 (Z6n p2 x19 x20 x26 x27) false)) (
 (Z6n p2 x19 x20 x26 x27) false)) (
 (Z6n p2 x19 x20 x26 x27) false)
noncomputable def Z8n (x2:(List narthexlaw16_Act)) (p2:(Bar→Option Bool)):(Int×Bar)→Option ((Int×Bar) ⊕ (Bar×Bool))
| (x19,x20)=>
 ifb (decide (x19<(ln narthexlaw16_Act.row x2))) (
 (at_ x2 x19).bind fun x21=>
 (Zal x20).bind fun x22=>
 (Z2l x22 x21).bind fun x24=>
 (Z7n p2 x19 x20) (x24.2,x24.1)) (
 Option.map Sum.inr (Z4n x20))
noncomputable def Z9n (x2:(List narthexlaw16_Act)) (p2:(Bar→Option Bool)) (x4:(Bar×Int)):Bool→Option (Bar×Bool)
| x6=>
 ifb x6 (
 some (x4.1,false)) (
 loop (Z8n x2 p2) (0,x4.1))
noncomputable def Zan (x1:Graph) (x2:(List narthexlaw16_Act)) (p2:(Bar→Option Bool)):Option (Bar×Bool):=
 (Zr7 x1).bind fun x3=>
 (Zxl x3).bind fun x4=>
 ifb (!decide (x4.2=0)) (
 (Z9n x2 p2 x4) true) (
 (p2 x4.1).bind fun x5=>
 (Z9n x2 p2 x4) (!x5))
theorem Zbn (x1:Graph) (x2:(List narthexlaw16_Act)) (g2:Nat) (caps2:List AV) (p2:(Bar→Option Bool)) (hc2:CloOK Tryz.prog g2 caps2 (fun z=>[.agg (Bar.row z)]) p2 (fun z=>.bv z)) (r:(Bar×Bool)) (h:Zan x1 x2 p2=some r):Zu2 Tryz.prog 29 [.agg (Graph.row x1),.sl 4 (List.map narthexlaw16_Act.row x2),.clo g2 caps2] (.tup [.agg (Bar.row r.1),.bv r.2]):=by
 refine Zy2 ok29 rfl rfl fun w0 H0=>?_
 rw [Zan] at h
 refine Zo2 9 ?_;dsimp only [go_sem];refine An ?_;obtain ⟨x3,ex3,h⟩:=Bs h;refine Z33 trivial (Zs7 x1 _ ex3) (hp:=(by first | rfl | simp [go_sem,hc2.pu])) (h:=?_);obtain ⟨x4,ex4,h⟩:=Bs h;refine Z33 trivial (k_bar_New x3 _ ex4) (hp:=(by first | rfl | simp [go_sem,hc2.pu])) (h:=?_);refine Zo2 13 ?_;dsimp only [go_sem];refine An ?_
 refine Zl4 (fun (x6:Bool)=>(⟨(.any :: .sl 4 (List.map narthexlaw16_Act.row x2) :: .clo g2 caps2::an 3 (.ptr 1 0 :: .any :: .ptr 2 0::an 17 (.bv x6::an 45 []))),[none,some ⟨25,[.nl,.nl]⟩,some ⟨25,[.sl 5 (List.map Drinker.row x4.1.Drinkers),.sl 5 (List.map Mail.row x4.1.Mail)]⟩],[]⟩:St)) (Z9n x2 p2 x4) r ?_ fun J1=>?_
 ·intro x6 h;rw [Z9n] at h;(try dsimp only);refine Zn4 h rfl (fun _ h=>?_) fun _ h=>?_
  ·refine Zo2 6 ?_;dsimp only [go_sem];refine An ?_;exact Zv4 (res:=fun (r:(Bar×Bool))=>.tup [.agg (Bar.row r.1),.bv r.2]) ok29 h
  ·refine Zo2 6 ?_;dsimp only [go_sem];refine An ?_;refine Zl4 (fun (x36:Bar)=>(⟨(an 6 (.ptr 1 0 :: .any :: .ptr 2 0::an 63 [])),[none,some ⟨25,[.nl,.nl]⟩,some ⟨25,[.sl 5 (List.map Drinker.row x36.Drinkers),.sl 5 (List.map Mail.row x36.Mail)]⟩],[]⟩:St)) Z4n r ?_ fun J2=>?_
   ·intro x36 h;rw [Z4n] at h;(try dsimp only);refine Zo2 6 ?_;dsimp only [go_sem];refine An ?_;exact Zv4 (res:=fun (r:(Bar×Bool))=>.tup [.agg (Bar.row r.1),.bv r.2]) ok29 h
   ·refine Zo2 1 ?_;dsimp only [go_sem];refine An ?_;refine Zm4 h (fun ((x19,x20):(Int×Bar))=>(⟨(.any :: .sl 4 (List.map narthexlaw16_Act.row x2) :: .clo g2 caps2::an 3 (.ptr 1 0 :: .any :: .ptr 2 0 :: .any :: .iv x19::an 61 [])),[none,some ⟨25,[.nl,.nl]⟩,some ⟨25,[.sl 5 (List.map Drinker.row x20.Drinkers),.sl 5 (List.map Mail.row x20.Mail)]⟩],[]⟩:St)) (by simp [go_sem]) (by rintro ⟨x19,x20⟩;first | rfl | simp [go_sem,Zc4 _ hc2.pu]) ?_;rintro n1 ⟨x19,x20⟩ y1 h hin1 hout1;rw [Z8n] at h;(try dsimp only);refine Zo2 8 ?_
    dsimp only [go_sem];refine An ?_;refine Zn4 h rfl (fun _ h=>?_) fun _ h=>?_
    ·refine Zo2 4 ?_;dsimp only [go_sem];refine An ?_;refine Zl4 (fun ((x26,x27):(Int×Bar))=>(⟨(.any :: .sl 4 (List.map narthexlaw16_Act.row x2) :: .clo g2 caps2::an 3 (.ptr 1 0 :: .any :: .ptr 2 0 :: .any :: .iv x19 :: .ptr 3 0 :: .iv x26::an 59 [])),[none,some ⟨25,[.nl,.nl]⟩,some ⟨25,[.sl 5 (List.map Drinker.row x20.Drinkers),.sl 5 (List.map Mail.row x20.Mail)]⟩,some ⟨25,[.sl 5 (List.map Drinker.row x27.Drinkers),.sl 5 (List.map Mail.row x27.Mail)]⟩],[]⟩:St)) (Z7n p2 x19 x20) y1 ?_ fun J3=>?_
     ·rintro ⟨x26,x27⟩ h;rw [Z7n] at h;(try dsimp only);refine Zo2 6 ?_;dsimp only [go_sem];refine An ?_
      refine Zl4 (fun (x28:Bool)=>(⟨(.any :: .sl 4 (List.map narthexlaw16_Act.row x2) :: .clo g2 caps2::an 3 (.ptr 1 0 :: .any :: .ptr 2 0 :: .any :: .iv x19 :: .ptr 3 0 :: .iv x26::an 48 (.bv x28::an 10 []))),[none,some ⟨25,[.nl,.nl]⟩,some ⟨25,[.sl 5 (List.map Drinker.row x20.Drinkers),.sl 5 (List.map Mail.row x20.Mail)]⟩,some ⟨25,[.sl 5 (List.map Drinker.row x27.Drinkers),.sl 5 (List.map Mail.row x27.Mail)]⟩],[]⟩:St)) (Z6n p2 x19 x20 x26 x27) y1 ?_ fun J4=>?_
      ·intro x28 h;rw [Z6n] at h;(try dsimp only);refine Zn4 h rfl (fun _ h=>?_) fun _ h=>?_
       ·refine Zo2 6 ?_;dsimp only [go_sem];refine An ?_;exact Zv4 (res:=fun (r:(Bar×Bool))=>.tup [.agg (Bar.row r.1),.bv r.2]) ok29 (Zk4 h hout1)
       ·refine Zo2 7 ?_;dsimp only [go_sem];refine An ?_;refine Zl4 (fun (x29:Bar)=>(⟨(.any :: .sl 4 (List.map narthexlaw16_Act.row x2) :: .clo g2 caps2::an 3 (.ptr 1 0 :: .any :: .ptr 2 0 :: .any :: .iv x19::an 61 [])),[none,some ⟨25,[.nl,.nl]⟩,some ⟨25,[.sl 5 (List.map Drinker.row x29.Drinkers),.sl 5 (List.map Mail.row x29.Mail)]⟩],[]⟩:St)) (Z5n p2 x19) y1 ?_ fun J5=>?_
        ·intro x29 h;rw [Z5n] at h;(try dsimp only);refine Zo2 4 ?_;dsimp only [go_sem];refine An ?_;obtain ⟨x30,ex30,h⟩:=Bs h;refine Z05 trivial rfl hc2 (x:=x29) ex30 (by first | exact Zd4 _ | simp [go_sem]) (by first | rfl | simp [go_sem,hc2.pu]) ?_;refine Zo2 2 ?_;dsimp only [go_sem];refine An ?_;refine Zn4 h rfl (fun _ h=>?_) fun _ h=>?_
         ·refine Zo2 6 ?_;dsimp only [go_sem];refine An ?_;exact Zv4 (res:=fun (r:(Bar×Bool))=>.tup [.agg (Bar.row r.1),.bv r.2]) ok29 (Zk4 h hout1)
         ·refine Zo2 7 ?_;dsimp only [go_sem];refine An ?_;exact Zw4 h hin1 (hok:=by first | rfl | simp [go_sem,Zc4 _ hc2.pu])
        ·refine Zn4 h rfl (fun _ h=>?_) fun _ h=>?_
         ·refine Zo2 4 ?_;dsimp only [go_sem];refine An ?_;exact Zx4 J5 (s:=x27) h (hok:=by first | rfl | simp [go_sem,Zc4 _ hc2.pu])
         ·refine Zo2 1 ?_;dsimp only [go_sem];refine An ?_;exact Zx4 J5 (s:=x20) h (hok:=by first | rfl | simp [go_sem,Zc4 _ hc2.pu])
      ·refine Zu4 46 h rfl (fun _ h=>?_) fun _ h=>?_
       ·dsimp only [go_sem];refine Zo2 4 ?_;dsimp only [go_sem];refine An ?_;refine Zu4 50 h rfl (fun _ h=>?_) fun _ h=>?_
        ·dsimp only [go_sem];refine Zo2 4 ?_;dsimp only [go_sem];refine An ?_;refine Zu4 54 h rfl (fun _ h=>?_) fun _ h=>?_
         ·dsimp only [go_sem];refine Zo2 4 ?_;dsimp only [go_sem];refine An ?_;refine Zu4 58 h rfl (fun _ h=>?_) fun _ h=>?_
          ·dsimp only [go_sem];refine Zo2 4 ?_;dsimp only [go_sem];refine An ?_;exact Zx4 J4 (s:=!decide (x26=161)) h (hok:=by first | rfl | simp [go_sem,Zc4 _ hc2.pu])
          ·dsimp only [go_sem];refine Zo2 4 ?_;dsimp only [go_sem];refine An ?_;exact Zx4 J4 (s:=false) h (hok:=by first | rfl | simp [go_sem,Zc4 _ hc2.pu])
         ·dsimp only [go_sem];refine Zo2 8 ?_;dsimp only [go_sem];refine An ?_;exact Zx4 J4 (s:=false) h (hok:=by first | rfl | simp [go_sem,Zc4 _ hc2.pu])
        ·dsimp only [go_sem];refine Zo2 12 ?_;dsimp only [go_sem];refine An ?_;exact Zx4 J4 (s:=false) h (hok:=by first | rfl | simp [go_sem,Zc4 _ hc2.pu])
       ·dsimp only [go_sem];refine Zo2 16 ?_;dsimp only [go_sem];refine An ?_;exact Zx4 J4 (s:=false) h (hok:=by first | rfl | simp [go_sem,Zc4 _ hc2.pu])
     ·refine Zk3 (by kernel_rfl) fun all hall hs hnap haf=>?_;dsimp only [go_sem];refine Zc5 hall hs haf hnap 3 10 ?_;dsimp only [go_sem];refine An ?_;obtain ⟨x21,ex21,h⟩:=Bs h;refine Zr4 hall hs haf hnap 4 narthexlaw16_Act.row ex21 rfl rfl trivial rfl rfl rfl rfl ?_;refine Zc5 hall hs haf hnap 1 8 ?_;dsimp only [go_sem];refine An ?_;obtain ⟨x22,ex22,h⟩:=Bs h;refine Zw3 1 10 rfl ?_ ?_
      ·refine Z14 hall rfl trivial (Zbl x20 _ ex22) (hp:=(by first | rfl | simp [go_sem,hc2.pu])) (h:=?_);dsimp only [go_sem];obtain ⟨x24,ex24,h⟩:=Bs h;refine Zw3 6 10 rfl ?_ ?_
       ·refine Z14 hall rfl trivial (Z3l x22 x21 _ ex24) (hp:=(by first | rfl | simp [go_sem,hc2.pu])) (h:=?_);dsimp only [go_sem];refine Zc5 hall hs haf hnap 3 3 ?_;dsimp only [go_sem];refine An ?_;refine Zv3 10 rfl ?_;refine Z04 hall rfl trivial ?_;dsimp only [go_sem];refine Zv3 11 rfl ?_;refine Z04 hall rfl trivial ?_;dsimp only [go_sem];refine Zc5 hall hs haf hnap 1 0 ?_;dsimp only [go_sem];refine An ?_;refine Zu3 rfl ?_ _;exact Zx4 J3 (s:=(x24.2,x24.1)) h (hok:=by first | rfl | simp [go_sem,Zc4 _ hc2.pu])
       ·refine Z04 hall rfl trivial ?_;dsimp only [go_sem];refine Zv3 6 rfl ?_;refine Z14 hall rfl trivial (Z3l x22 x21 _ ex24) (hp:=(by first | rfl | simp [go_sem,hc2.pu])) (h:=?_);dsimp only [go_sem];refine Zc5 hall hs haf hnap 3 2 ?_;dsimp only [go_sem];refine An ?_;refine Zv3 11 rfl ?_;refine Z04 hall rfl trivial ?_;dsimp only [go_sem];refine Zc5 hall hs haf hnap 1 0 ?_;dsimp only [go_sem];refine An ?_;refine Zu3 rfl ?_ _;exact Zx4 J3 (s:=(x24.2,x24.1)) h (hok:=by first | rfl | simp [go_sem,Zc4 _ hc2.pu])
      ·refine Z04 hall rfl trivial ?_;dsimp only [go_sem];refine Zv3 1 rfl ?_;refine Z14 hall rfl trivial (Zbl x20 _ ex22) (hp:=(by first | rfl | simp [go_sem,hc2.pu])) (h:=?_);dsimp only [go_sem];refine Zv3 6 rfl ?_;obtain ⟨x24,ex24,h⟩:=Bs h;refine Z14 hall rfl trivial (Z3l x22 x21 _ ex24) (hp:=(by first | rfl | simp [go_sem,hc2.pu])) (h:=?_);dsimp only [go_sem];refine Zc5 hall hs haf hnap 3 2 ?_;dsimp only [go_sem];refine An ?_;refine Zv3 11 rfl ?_;refine Z04 hall rfl trivial ?_;dsimp only [go_sem]
       refine Zc5 hall hs haf hnap 1 0 ?_;dsimp only [go_sem];refine An ?_;refine Zu3 rfl ?_ _;exact Zx4 J3 (s:=(x24.2,x24.1)) h (hok:=by first | rfl | simp [go_sem,Zc4 _ hc2.pu])
    ·refine Zo2 1 ?_;dsimp only [go_sem];refine An ?_;exact Zx4 J2 (s:=x20) (Zk4 h hout1) (hok:=by first | rfl | simp [go_sem,Zc4 _ hc2.pu])
 ·refine Zu4 21 h rfl (fun _ h=>?_) fun _ h=>?_
  ·dsimp only [go_sem];refine Zo2 6 ?_;dsimp only [go_sem];refine An ?_;exact Zx4 J1 (s:=true) h (hok:=by first | rfl | simp [go_sem,Zc4 _ hc2.pu])
  ·dsimp only [go_sem];refine Zo2 2 ?_;dsimp only [go_sem];refine An ?_;obtain ⟨x5,ex5,h⟩:=Bs h;refine Z05 trivial rfl hc2 (x:=x4.1) ex5 (by first | exact Zd4 _ | simp [go_sem]) (by first | rfl | simp [go_sem,hc2.pu]) ?_;refine Zo2 3 ?_;dsimp only [go_sem];refine An ?_;exact Zx4 J1 (s:=!x5) h (hok:=by first | rfl | simp [go_sem,Zc4 _ hc2.pu])
set_option maxRecDepth 100000
set_option maxHeartbeats 4000000
@[go_sem] def e28_L0:EC:=.seq (.seq (.reg [(Qm 6 5),(Qm 7 1),(Qa 8 (.len (.t 7))),(Qa 9 (.bin .lss (.t 6) (.t 8))),(Qm 10 9),(Qg 11 10 true (.mv (.t 5))),(Qg 12 10 true (.bin .lss (.t 11) (.c (.iv 81)))),(Qp 13 10 12)]) (.ite (.t 13) (.skip) (.exit 0))) (.seq (.blk 1 (.seq (.reg [(Qm 16 1),(Qm 17 5),(Qk 18 4 16 17),(Qf 19 3 18),(Ql 20 19),(Qa 21 (.len (.t 20))),(Qa 22 (.bin .gtr (.t 21) (.c (.iv 20))))]) (.ite (.t 22) (.seq (.reg [(Qa 4 (.mv (.c .ff)))]) (.ret)) (.skip)))) (.reg [(Qm 14 5),(Qv 15 14 1),(Qm 5 15)]))
@[go_sem] def e28:EC:=.seq (.reg [(Qx 2 53 2 0),(Qa 4 (.mv (.c .ff)))]) (.seq (.seq (.reg [(Qi 5 0)]) (.blk 0 (.loop e28_L0))) (.seq (.reg [(Qe 23 2 2),(Qa 24 (.call 73 [(.t 23)])),(Qm 25 24),(Qg 26 25 true (.mv (.t 1))),(Qg 27 25 true (.len (.t 26))),(Qg 28 25 true (.bin .leq (.t 27) (.c (.iv 80)))),(Qp 29 25 28),(Qm 4 29)]) (.ret)))
theorem ok28:FnOK Tryz.prog 28 Tryz.f28 e28 [.t 4] 2 28:=⟨by kernel_rfl,⟨_,rfl,by kernel_rfl⟩,by kernel_rfl,by kernel_rfl⟩
noncomputable def Zcn:Bool→Option Bool
| x14=>
 some x14
noncomputable def Zdn (x1:Graph) (x2:(List narthexlaw16_Act)):Unit→Option Bool
| ()=>
 (Zre x1).bind fun x13=>
 ifb x13 (
 Zcn (decide ((ln narthexlaw16_Act.row x2)≤80))) (
 Zcn false)
noncomputable def Zen (x1:Graph) (x2:(List narthexlaw16_Act)) (x6:Int):Bool→Option (Int ⊕ Bool)
| x7=>
 ifb x7 (
 (at_ x2 x6).bind fun x8=>
 ifb (decide (20<(ln Z15 x8.Need))) (
 Option.map Sum.inr (some false)) (
 some (.inl (wr (x6+1))))) (
 Option.map Sum.inr ((Zdn x1 x2) ()))
noncomputable def Zfn (x1:Graph) (x2:(List narthexlaw16_Act)):Int→Option (Int ⊕ Bool)
| x6=>
 ifb (decide (x6<(ln narthexlaw16_Act.row x2))) (
 (Zen x1 x2 x6) (decide (x6<81))) (
 (Zen x1 x2 x6) false)
noncomputable def Zgn (x1:Graph) (x2:(List narthexlaw16_Act)):Option Bool:=
 loop (Zfn x1 x2) 0
theorem Zhn (x1:Graph) (x2:(List narthexlaw16_Act)) (r:Bool) (h:Zgn x1 x2=some r):Zu2 Tryz.prog 28 [.agg (Graph.row x1),.sl 4 (List.map narthexlaw16_Act.row x2)] (.bv r):=by
 refine Zy2 ok28 rfl rfl fun w0 H0=>?_
 rw [Zgn] at h
 refine Zo2 10 ?_;dsimp only [go_sem];refine An ?_;refine Zl4 (fun (_:Unit)=>(⟨(.any :: .sl 4 (List.map narthexlaw16_Act.row x2) :: .ptr 0 0::an 27 []),[some ⟨53,[.iv x1.N,.sl 2 (List.map Edge.row x1.Edges)]⟩],[]⟩:St)) (Zdn x1 x2) r ?_ fun J1=>?_
 ·rintro ⟨⟩ h;rw [Zdn] at h;(try dsimp only);refine Zo2 3 ?_;dsimp only [go_sem];refine An ?_;obtain ⟨x13,ex13,h⟩:=Bs h;refine Z33 trivial (Zse x1 _ ex13) (h:=?_);refine Zo2 1 ?_;dsimp only [go_sem];refine An ?_;refine Zl4 (fun (x14:Bool)=>(⟨(an 4 (.bv x14::an 25 [])),[],[]⟩:St)) Zcn r ?_ fun J3=>?_
  ·intro x14 h;rw [Zcn] at h;(try dsimp only);exact Zv4 (res:=fun (r:Bool)=>.bv r) ok28 h
  ·refine Zu4 25 h rfl (fun _ h=>?_) fun _ h=>?_
   ·dsimp only [go_sem];refine Zo2 6 ?_;dsimp only [go_sem];refine An ?_;exact Zx4 J3 (s:=decide ((ln narthexlaw16_Act.row x2)≤80)) h
   ·dsimp only [go_sem];refine Zo2 6 ?_;dsimp only [go_sem];refine An ?_;exact Zx4 J3 (s:=false) h
 ·refine Zo2 1 ?_;dsimp only [go_sem];refine An ?_;refine Zm4 h (fun (x6:Int)=>(⟨(.any :: .sl 4 (List.map narthexlaw16_Act.row x2) :: .ptr 0 0 :: .any :: .any :: .iv x6::an 24 []),[some ⟨53,[.iv x1.N,.sl 2 (List.map Edge.row x1.Edges)]⟩],[]⟩:St)) (by simp [go_sem]) (by intro x6;first | rfl | simp [go_sem]) ?_;rintro n1 x6 y1 h hin1 hout1;rw [Zfn] at h;(try dsimp only);refine Zo2 8 ?_;dsimp only [go_sem];refine An ?_
  refine Zl4 (fun (x7:Bool)=>(⟨(.any :: .sl 4 (List.map narthexlaw16_Act.row x2) :: .ptr 0 0 :: .any :: .any :: .iv x6::an 7 (.bv x7::an 16 [])),[some ⟨53,[.iv x1.N,.sl 2 (List.map Edge.row x1.Edges)]⟩],[]⟩:St)) (Zen x1 x2 x6) y1 ?_ fun J2=>?_
  ·intro x7 h;rw [Zen] at h;(try dsimp only);refine Zn4 h rfl (fun _ h=>?_) fun _ h=>?_
   ·refine Zo2 7 ?_;dsimp only [go_sem];refine An ?_;obtain ⟨x8,ex8,h⟩:=Bs h;refine Zq4 narthexlaw16_Act.row ex8 trivial rfl rfl rfl ?_;refine Zo2 5 ?_;dsimp only [go_sem];refine An ?_;refine Zn4 h rfl (fun _ h=>?_) fun _ h=>?_
    ·refine Zo2 4 ?_;dsimp only [go_sem];refine An ?_;exact Zv4 (res:=fun (r:Bool)=>.bv r) ok28 (Zk4 h hout1)
    ·refine Zo2 7 ?_;dsimp only [go_sem];refine An ?_;exact Zw4 h hin1
   ·refine Zo2 1 ?_;dsimp only [go_sem];refine An ?_;exact Zx4 J1 (s:=()) (Zk4 h hout1)
  ·refine Zu4 10 h rfl (fun _ h=>?_) fun _ h=>?_
   ·dsimp only [go_sem];refine Zo2 4 ?_;dsimp only [go_sem];refine An ?_;exact Zx4 J2 (s:=decide (x6<81)) h
   ·dsimp only [go_sem];refine Zo2 4 ?_;dsimp only [go_sem];refine An ?_;exact Zx4 J2 (s:=false) h
theorem Zin {l:List Drinker} {a:Nat} {d d':Drinker} (hd:l[a]?=some d):(l.set a d')[a]?=some d':=by
 have hlt:=(List.getElem?_eq_some_iff.1 hd).1
 rw [List.getElem?_set];simp [hlt]
theorem Zjn {g:Graph} {s:Bar} (hg:okG g=true) (hN:g.N≤60) {a:Int} {d d':Drinker} (hd:s.Drinkers[a.toNat]?=some d) (h:InvB g ⟨s.Drinkers.set a.toNat d',s.Mail⟩):actBP s a (d',0)=(Zjm s a d',0)∧InvB g (Zjm s a d'):=by
 have h1:=Zin (d':=d') hd
 have hk:=h.okDr hg hN (List.mem_iff_getElem?.2 ⟨_,h1⟩)
 have h2:=h.fireDr hg h1
 dsimp only at h2
 rw [List.set_set] at h2
 refine ⟨?_,h2⟩
 unfold actBP
 dsimp only
 rw [if_pos rfl,if_pos hk]
theorem InvB.drk {g:Graph} {s:Bar} (hg:okG g=true) (h:InvB g s) {a:Nat} {d:Drinker} (hd:s.Drinkers[a]?=some d) {t:Int} {n:List Int} (hl:LocT ⟨d.Diner,t,n⟩):InvB g ⟨s.Drinkers.set a ⟨d.Diner,t,n⟩,s.Mail⟩:=by
 refine h.upd (d':=⟨d.Diner,t,n⟩) hg hd ?_ h.mail hl (fun _ _ _ _ _ _=>rfl) (fun _ _ _ _=>rfl)
 rw [Z2n (Zym hd)]
 exact h.tab
def fineR (e:Int):Bool:=decide (e=0)||(decide (e=152)||(decide (e=151)||(decide (e=162)||decide (e=161))))
theorem open_inv {g:Graph} {s:Bar} (hg:okG g=true) (hN:g.N≤60) (h:InvB g s) (a:Int) (need:List Int):fineR (Zkm s a fun d=>Zvj d need).2=true∧((Zkm s a fun d=>Zvj d need).2=0→InvB g (Zkm s a fun d=>Zvj d need).1):=by
 unfold Zkm
 rw [h.ok hg hN,if_pos rfl]
 cases ht:Zcm s a with
 | false=>exact ⟨rfl,fun e=>absurd e (by show ¬(161:Int)=0;omega)⟩
 | true=>
   obtain ⟨d,hd1,hd⟩:=Zfm ht
   have hdm:d∈s.Drinkers:=List.mem_iff_getElem?.2 ⟨_,hd⟩
   rw [if_pos rfl,hd1]
   dsimp only
   unfold Zvj
   rw [h.okDr hg hN hdm,if_pos rfl]
   by_cases h0:d.Thirst=0
   ·rw [if_pos h0]
    cases ho:need.any (Zuj d.Diner) with
    | true=>exact ⟨rfl,fun e=>absurd e (by show ¬(151:Int)=0;omega)⟩
    | false=>
      rw [if_neg (by simp)]
      rw [List.any_eq_false] at ho
      obtain ⟨s1,s2⟩:=setL_spec need
      have hl:LocT ⟨d.Diner,1,setL need⟩:=by
       refine ⟨by show (0:Int)≤1;omega,by show (1:Int)≤2;omega,s1,fun p hp=>?_,fun e=>absurd e (by show ¬(1:Int)=0;omega),fun e=>absurd e (by show ¬(1:Int)=2;omega)⟩
       have:=ho p ((s2 p).1 hp)
       unfold Zuj at this
       simp only [Bool.not_eq_true',Bool.not_eq_false,List.any_eq_true,Bool.and_eq_true,decide_eq_true_eq] at this
       obtain ⟨x,hx,e,_⟩:=this
       exact List.mem_map.2 ⟨x,hx,e⟩
      obtain ⟨k1,k2⟩:=Zjn hg hN hd (h.drk hg hd hl)
      rw [k1]
      exact ⟨rfl,fun _=>k2⟩
   ·rw [if_neg h0]
    exact ⟨rfl,fun e=>absurd e (by show ¬(152:Int)=0;omega)⟩
theorem close_inv {g:Graph} {s:Bar} (hg:okG g=true) (hN:g.N≤60) (h:InvB g s) (a:Int):fineR (Zkm s a Zwj).2=true∧((Zkm s a Zwj).2=0→InvB g (Zkm s a Zwj).1):=by
 unfold Zkm
 rw [h.ok hg hN,if_pos rfl]
 cases ht:Zcm s a with
 | false=>exact ⟨rfl,fun e=>absurd e (by show ¬(161:Int)=0;omega)⟩
 | true=>
   obtain ⟨d,hd1,hd⟩:=Zfm ht
   have hdm:d∈s.Drinkers:=List.mem_iff_getElem?.2 ⟨_,hd⟩
   rw [if_pos rfl,hd1]
   dsimp only
   unfold Zwj
   rw [h.okDr hg hN hdm,if_pos rfl]
   by_cases h0:d.Thirst=0
   ·rw [if_pos h0]
    exact ⟨rfl,fun e=>absurd e (by show ¬(152:Int)=0;omega)⟩
   ·rw [if_neg h0]
    have hl:LocT ⟨d.Diner,0,[]⟩:=⟨Int.le_refl _,by show (0:Int)≤2;omega,by simp,by simp,fun _=>rfl,fun e=>absurd e (by show ¬(0:Int)=2;omega)⟩
    obtain ⟨k1,k2⟩:=Zjn hg hN hd (h.drk hg hd hl)
    rw [k1]
    exact ⟨rfl,fun _=>k2⟩
theorem Zkn {d:Diner} (hpw:d.Sides.Pairwise fun x y=>x.Peer<y.Peer) {j:Nat} {x y:Side} (hx:d.Sides[j]?=some x) (hp:y.Peer=x.Peer) (i p z:Int):Z38 ⟨i,p,d.Sides.set j y⟩ z=if z=x.Peer then some y else Z38 d z:=by
 have hjlt:=(List.getElem?_eq_some_iff.1 hx).1
 have hsplit:d.Sides=d.Sides.take j++x::d.Sides.drop (j+1):=by
  have h1:=List.take_append_drop j d.Sides
  rw [List.drop_eq_getElem_cons hjlt] at h1
  have h2:d.Sides[j]=x:=by rw [List.getElem?_eq_getElem hjlt] at hx;simpa using hx
  rw [h2] at h1;exact h1.symm
 have hjl:(d.Sides.take j).length=j:=by simp;omega
 have hset2:d.Sides.set j y=d.Sides.take j++y::d.Sides.drop (j+1):=by
  have:=Zz7 (d.Sides.take j) (d.Sides.drop (j+1)) x y
  rw [←hsplit,hjl,Int.toNat_natCast] at this
  exact this
 unfold Z38
 dsimp only
 rw [hset2]
 have hpw2:=hpw
 rw [hsplit,List.pairwise_append,List.pairwise_cons] at hpw2
 have before:∀u∈d.Sides.take j,u.Peer≠x.Peer:=fun u hu=>by
  have:=hpw2.2.2 u hu x (by simp);omega
 rw [List.find?_append,List.find?_cons,hp]
 by_cases hz:z=x.Peer
 ·subst hz
  rw [decide_eq_true rfl,if_pos rfl]
  have:(d.Sides.take j).find? (fun u=>decide (u.Peer=x.Peer))=none:=by
   rw [List.find?_eq_none];intro u hu;simpa using before u hu
  rw [this];rfl
 ·rw [if_neg hz]
  have e3:d.Sides.find? (fun u=>decide (u.Peer=z))=(d.Sides.take j++x::d.Sides.drop (j+1)).find? (fun u=>decide (u.Peer=z)):=by rw [←hsplit]
  rw [e3,List.find?_append,List.find?_cons,decide_eq_false (show ¬x.Peer=z by omega)]
theorem Zln {d:Diner} (hpw:d.Sides.Pairwise fun x y=>x.Peer<y.Peer) {x:Side} (hx:x∈d.Sides):Z38 d x.Peer=some x:=by
 obtain ⟨i,hi⟩:=List.mem_iff_getElem?.1 hx
 have:=Zkn hpw hi rfl d.ID d.Phase x.Peer
 rw [if_pos rfl,Z2n hi] at this
 exact this
theorem Zmn {l:List Side} {j:Nat} {x y:Side} (hx:l[j]?=some x) (hp:y.Peer=x.Peer):(l.set j y).map (·.Peer)=l.map (·.Peer):=by
 refine List.ext_getElem? fun n=>?_
 rw [List.getElem?_map,List.getElem?_map,List.getElem?_set]
 split
 ·rename_i hn;subst hn
  have:=(List.getElem?_eq_some_iff.1 hx).1
  rw [hx,if_pos this];simp [hp]
 ·rfl
theorem Inv.side1 {g:Graph} {s:Scene} (hg:okG g=true) (h:Inv g s) {a:Nat} {d:Diner} (hd:s.Diners[a]?=some d) {j:Nat} {x y:Side} (hx:d.Sides[j]?=some x) (hy:y.Peer=x.Peer∧y.Epoch=x.Epoch∧y.State=x.State∧y.Fork=x.Fork∧y.Dirty=x.Dirty∧y.Token=x.Token):
  Inv g ⟨s.Diners.set a ⟨d.ID,d.Phase,d.Sides.set j y⟩,s.Mail⟩:=by
 have hl:=h.loc d (List.mem_iff_getElem?.2 ⟨_,hd⟩)
 have hpw:=h.pw hg hd
 obtain ⟨p1,p2,p3,p4,p5,p6⟩:=hy
 have hxm:x∈d.Sides:=List.mem_iff_getElem?.2 ⟨_,hx⟩
 refine h.set (d':=⟨d.ID,d.Phase,d.Sides.set j y⟩) hg hd rfl (Zmn hx p1) ⟨hl.lo,hl.hi,fun z hz=>?_,fun e z hz=>?_⟩ h.mail (fun _ _ _ _ _=>rfl) (fun b _ k _=>?_)
 ·rcases List.mem_or_eq_of_mem_set hz with hz | rfl
  ·exact hl.side z hz
  ·rw [p2,p3,p4,p5];exact hl.side x hxm
 ·rcases List.mem_or_eq_of_mem_set hz with hz | rfl
  ·exact hl.eat e z hz
  ·rw [p4,p5];exact hl.eat e x hxm
 ·unfold hasD
  rw [Zkn hpw hx p1]
  by_cases hb:b=x.Peer
  ·subst hb
   rw [if_pos rfl,Zln hpw hxm]
   dsimp only
   unfold has
   rw [p4,p6]
  ·rw [if_neg hb]
def getT (x:Side) (k:Int):Side:=if k=4 then {x with Ask:=true} else {x with Bottle:=true}
theorem filter_skip {M:List Mail} {i:Nat} {m:Mail} (hm:M[i]?=some m) (hk:k12 m=false):(M.take i++M.drop (i+1)).filter k12=M.filter k12:=by
 have hlt:=(List.getElem?_eq_some_iff.1 hm).1
 have e:M=M.take i++m::M.drop (i+1):=by
  have h1:=List.take_append_drop i M
  rw [List.drop_eq_getElem_cons hlt] at h1
  have h2:M[i]=m:=by rw [List.getElem?_eq_getElem hlt] at hm;simpa using hm
  rw [h2] at h1
  exact h1.symm
 have e2:M.filter k12=(M.take i++m::M.drop (i+1)).filter k12:=by rw [←e]
 rw [e2,List.filter_append,List.filter_append,List.filter_cons,hk,if_neg (by simp)]
theorem filter_cnt {M:List Mail} {i:Nat} {m:Mail} (hm:M[i]?=some m) (hk:k12 m=true) (x:Mail):((M.take i++M.drop (i+1)).filter k12).count x+(if m=x then 1 else 0)=(M.filter k12).count x:=by
 have h:=Z1e hm x
 by_cases hx:k12 x=true
 ·rw [List.count_filter hx,List.count_filter hx];exact h
 ·have hx':k12 x=false:=by simpa using hx
  have z:∀L:List Mail,(L.filter k12).count x=0:=fun L=>Zdb fun hm=>by
   rw [List.mem_filter] at hm
   exact hx hm.2
  rw [z,z,if_neg (fun e:m=x=>hx (e ▸ hk))]
theorem Znn {g:Graph} {s:Bar} (hg:okG g=true) (hN:g.N≤60) (h:InvB g s) {a b:Int} (ht:Zcm s a=true) (ht':Zcm s b=true) {i:Nat} (hf:Zmm s a b=some i):
  ∃m db x j d1,s.Mail[i]?=some m∧m.From=a∧m.To=b∧s.Drinkers[b.toNat]?=some db∧db.Diner.Sides[j]?=some x∧x.Peer=a∧d1=(⟨⟨db.Diner.ID,db.Diner.Phase,db.Diner.Sides.set j (if m.Msg.Kind≤2 then Z2e x m.Msg.Kind else getT x m.Msg.Kind)⟩,db.Thirst,db.Need⟩:Drinker)∧
   InvB g ⟨s.Drinkers.set b.toNat d1,s.Mail.take i++s.Mail.drop (i+1)⟩∧Znm s a b=(Zjm ⟨s.Drinkers,s.Mail.take i++s.Mail.drop (i+1)⟩ b d1,0)∧InvB g (Zjm ⟨s.Drinkers,s.Mail.take i++s.Mail.drop (i+1)⟩ b d1):=by
 obtain ⟨a0,a1⟩:=Zem.1 ht
 obtain ⟨b0,b1⟩:=Zem.1 ht'
 obtain ⟨db,hdb1,hdb⟩:=Zfm ht'
 obtain ⟨da,_,hda⟩:=Zfm ht
 have hf0:=hf
 unfold Zmm at hf
 have hfi:=Z48 (fun m:Mail=>decide (m.From=a)&&decide (m.To=b)) s.Mail
 rw [hf] at hfi
 obtain ⟨m,hm,hq⟩:=hfi
 have hq':=List.find?_some hq
 simp only [Bool.and_eq_true,decide_eq_true_eq] at hq'
 obtain ⟨q1,q2⟩:=hq'
 have hmm:m∈s.Mail:=List.mem_iff_getElem?.2 ⟨_,hm⟩
 obtain ⟨m1,m2,m3,m4⟩:=h.mail m hmm
 rw [q1,q2] at m4
 have nab:=Z4a hg m4
 have hnab:a≠b:=fun e=>(Zv9 hg m4).2.2.1 e.symm
 have hdbm:db∈s.Drinkers:=List.mem_iff_getElem?.2 ⟨_,hdb⟩
 have hT:=h.th db hdbm
 have hdbt:=Zym hdb
 have hok:=h.okDr hg hN hdbm
 have hsub:∀y∈s.Mail.take i++s.Mail.drop (i+1),y∈s.Mail:=fun y hy=>by
  rcases List.mem_append.1 hy with hy | hy
  ·exact List.mem_of_mem_take hy
  ·exact List.mem_of_mem_drop hy
 have hpw:=h.tab.pw hg hdbt
 have hloc:=h.tab.loc _ (List.mem_iff_getElem?.2 ⟨_,hdbt⟩)
 obtain ⟨hid,hsh⟩:=h.tab.shp _ _ hdbt
 have eb:((b.toNat:Nat):Int)=b:=Int.toNat_of_nonneg b0
 have ea:((a.toNat:Nat):Int)=a:=Int.toNat_of_nonneg a0
 have fin:∀d1:Drinker,InvB g ⟨s.Drinkers.set b.toNat d1,s.Mail.take i++s.Mail.drop (i+1)⟩→Zyj db a m.Msg=(d1,0)→
   Znm s a b=(Zjm ⟨s.Drinkers,s.Mail.take i++s.Mail.drop (i+1)⟩ b d1,0)∧InvB g (Zjm ⟨s.Drinkers,s.Mail.take i++s.Mail.drop (i+1)⟩ b d1):=fun d1 h1 h2=>by
  obtain ⟨k1,k2⟩:=Zjn (s:=⟨s.Drinkers,s.Mail.take i++s.Mail.drop (i+1)⟩) hg hN (a:=b) hdb h1
  refine ⟨?_,k2⟩
  unfold Znm
  rw [h.ok hg hN,if_pos rfl,ht,ht',Bool.and_self,if_pos rfl,hf0]
  dsimp only
  rw [hm,hdb1]
  dsimp only
  rw [h2,k1]
 have locT:∀(j:Nat) (x y:Side),db.Diner.Sides[j]?=some x→y.Peer=x.Peer→(x.Bottle=true→y.Bottle=true)→LocT ⟨⟨db.Diner.ID,db.Diner.Phase,db.Diner.Sides.set j y⟩,db.Thirst,db.Need⟩:=fun j x y hx hp hb=>by
  refine ⟨hT.lo,hT.hi,hT.need,fun p hp'=>?_,hT.tr,fun e z hz hn=>?_⟩
  ·rw [Zmn hx hp];exact hT.sub p hp'
  ·rcases List.mem_or_eq_of_mem_set hz with hz | rfl
   ·exact hT.dr e z hz hn
   ·rw [hp] at hn
    exact hb (hT.dr e x (List.mem_iff_getElem?.2 ⟨_,hx⟩) hn)
 by_cases hk2:m.Msg.Kind≤2
 ·
  have hk12:k12 m=true:=decide_eq_true hk2
  have hmf:m∈(Zxm s).Mail:=List.mem_filter.2 ⟨hmm,hk12⟩
  obtain ⟨x,j,hidx,hxj,hx,hk,es,hset,hgd⟩:=h.tab.recv hg hN hmf q1 q2 (M':=(s.Mail.take i++s.Mail.drop (i+1)).filter k12) (fun y hy=>by
   rw [List.mem_filter] at hy
   exact List.mem_filter.2 ⟨hsub y hy.1,hy.2⟩) (filter_cnt hm hk12) hdbt
  have hxp:x.Peer=a:=(Zmb hx).2
  have hgs:(Z2e x m.Msg.Kind).Peer=x.Peer∧(Z2e x m.Msg.Kind).Bottle=x.Bottle∧(Z2e x m.Msg.Kind).Ask=x.Ask:=by unfold Z2e;split<;>exact ⟨rfl,rfl,rfl⟩
  have hI:InvB g ⟨s.Drinkers.set b.toNat ⟨⟨db.Diner.ID,db.Diner.Phase,db.Diner.Sides.set j (Z2e x m.Msg.Kind)⟩,db.Thirst,db.Need⟩,s.Mail.take i++s.Mail.drop (i+1)⟩:=by
   have hcne:∀k p q:Int,(k=3∨k=4)→cnt (s.Mail.take i++s.Mail.drop (i+1)) k p q=cnt s.Mail k p q:=fun k p q hk'=>by
    have:=Z1e hm ⟨p,q,⟨k,1,0⟩⟩
    rw [if_neg (by intro e;rw [e] at hk2;dsimp only at hk2;omega)] at this
    exact this
   refine h.upd (d':=⟨⟨db.Diner.ID,db.Diner.Phase,db.Diner.Sides.set j (Z2e x m.Msg.Kind)⟩,db.Thirst,db.Need⟩) hg hdb hset (fun y hy=>h.mail y (hsub y hy)) (locT j x _ hxj hgs.1 fun e=>by rw [hgs.2.1];exact e) (fun k p q hk' _ _=>hcne k p q hk') (fun c _ k hk'=>?_)
   rw [hcne k _ _ hk',hcne k _ _ hk']
   have:hasT (⟨db.Diner.ID,db.Diner.Phase,db.Diner.Sides.set j (Z2e x m.Msg.Kind)⟩:Diner) k c=hasT db.Diner k c:=by
    unfold hasT
    rw [es]
    by_cases hc:c=a
    ·subst hc
     rw [if_pos rfl,hx]
     dsimp only
     unfold Zpm
     rw [hgs.2.1,hgs.2.2]
    ·rw [if_neg hc]
   dsimp only
   rw [this]
  have hgr:Zyj db a m.Msg=(⟨⟨db.Diner.ID,db.Diner.Phase,db.Diner.Sides.set j (Z2e x m.Msg.Kind)⟩,db.Thirst,db.Need⟩,0):=by
   unfold Zyj
   rw [hok,if_pos rfl,hidx]
   dsimp only
   rw [hxj]
   dsimp only
   rw [decide_eq_false (show ¬m.Msg.Kind=3 by omega),decide_eq_false (show ¬m.Msg.Kind=4 by omega),if_neg (by simp)]
   unfold viaD
   rw [hgd,if_pos rfl]
  obtain ⟨f1,f2⟩:=fin _ hI hgr
  refine ⟨m,db,x,j,_,hm,q1,q2,hdb,hxj,hxp,rfl,?_⟩
  rw [if_pos hk2]
  exact ⟨hI,f1,f2⟩
 ·
  have hk:m.Msg.Kind=3∨m.Msg.Kind=4:=by omega
  have hk12:k12 m=false:=decide_eq_false hk2
  have hsome:(Z38 db.Diner a).isSome=true:=by
   rw [Z7b,hsh,eb];exact decide_eq_true nab
  obtain ⟨x,hx⟩:=Option.isSome_iff_exists.1 hsome
  obtain ⟨xm,xp⟩:=Zmb hx
  have hidx:=Z48 (fun y:Side=>decide (y.Peer=a)&&decide (y.Epoch=m.Msg.Epoch)) db.Diner.Sides
  have efind:db.Diner.Sides.find? (fun y=>decide (y.Peer=a)&&decide (y.Epoch=m.Msg.Epoch))=some x:=by
   rw [←hx];unfold Z38
   exact Z0e fun y hy=>by rw [m2,(hloc.side y hy).1];simp
  cases hj:db.Diner.Sides.findIdx? (fun y=>decide (y.Peer=a)&&decide (y.Epoch=m.Msg.Epoch)) with
  | none=>rw [hj] at hidx;rw [efind] at hidx;exact absurd hidx (by simp)
  | some j=>
    rw [hj] at hidx
    obtain ⟨x',hxj,hx2⟩:=hidx
    rw [efind] at hx2
    have:x'=x:=by simpa using hx2.symm
    subst this
    have hme:m=⟨a,b,⟨m.Msg.Kind,1,0⟩⟩:=by
     obtain ⟨f,t,⟨k,e,n⟩⟩:=m
     dsimp only at q1 q2 m2 m3 ⊢
     rw [q1,q2,m2,m3]
    have hcnt:1≤cnt s.Mail m.Msg.Kind a b:=by
     unfold cnt
     have:=List.count_pos_iff.2 hmm
     rw [←hme];omega
    have hone:=h.two b.toNat a.toNat db da hdb hda (by rw [eb,ea];exact nab) m.Msg.Kind hk
    rw [eb,ea] at hone
    have hno:Zpm x' m.Msg.Kind=false:=by
     cases hh:Zpm x' m.Msg.Kind with
     | false=>rfl
     | true=>
       have:hasT db.Diner m.Msg.Kind a=1:=by unfold hasT;rw [hx];simp only [hh,bn];rfl
       omega
    have hgt:(getT x' m.Msg.Kind).Peer=x'.Peer∧(getT x' m.Msg.Kind).Epoch=x'.Epoch∧(getT x' m.Msg.Kind).State=x'.State∧(getT x' m.Msg.Kind).Fork=x'.Fork∧(getT x' m.Msg.Kind).Dirty=x'.Dirty∧(getT x' m.Msg.Kind).Token=x'.Token:=by
     unfold getT;split<;>exact ⟨rfl,rfl,rfl,rfl,rfl,rfl⟩
    have hI:InvB g ⟨s.Drinkers.set b.toNat ⟨⟨db.Diner.ID,db.Diner.Phase,db.Diner.Sides.set j (getT x' m.Msg.Kind)⟩,db.Thirst,db.Need⟩,s.Mail.take i++s.Mail.drop (i+1)⟩:=by
     refine h.upd (d':=⟨⟨db.Diner.ID,db.Diner.Phase,db.Diner.Sides.set j (getT x' m.Msg.Kind)⟩,db.Thirst,db.Need⟩) hg hdb ?_ (fun y hy=>h.mail y (hsub y hy)) (locT j x' _ hxj hgt.1 fun e=>by unfold getT;split;exact e;rfl) (fun k p q hk' hp hq=>?_) (fun c hc k hk'=>?_)
     ·rw [filter_skip hm hk12]
      exact h.tab.side1 hg hdbt hxj hgt
     ·have:=Z1e hm ⟨p,q,⟨k,1,0⟩⟩
      rw [if_neg (by rw [hme];simp only [Mail.mk.injEq];omega)] at this
      exact this
     ·rw [eb] at hc ⊢
      have e1:=Z1e hm ⟨b,c,⟨k,1,0⟩⟩
      have e2:=Z1e hm ⟨c,b,⟨k,1,0⟩⟩
      rw [if_neg (by rw [hme];simp only [Mail.mk.injEq];omega)] at e1
      unfold hasT
      dsimp only
      rw [Zkn hpw hxj hgt.1,xp]
      by_cases hca:c=a
      ·subst hca
       rw [if_pos rfl,hx]
       dsimp only
       by_cases hkk:k=m.Msg.Kind
       ·subst hkk
        have h1:Zpm (getT x' m.Msg.Kind) m.Msg.Kind=true:=by
         unfold Zpm getT
         rcases hk with h1 | h1<;>rw [h1]<;>rfl
        rw [if_pos hme] at e2
        rw [h1,hno]
        unfold cnt
        simp only [bn,if_true,Bool.false_eq_true,if_false]
        omega
       ·have h1:Zpm (getT x' m.Msg.Kind) k=Zpm x' k:=by
         unfold Zpm getT
         rcases hk with h2 | h2<;>rcases hk' with h3 | h3<;>rw [h2,h3]
         ·exact absurd (h3.trans h2.symm) hkk
         ·rfl
         ·rfl
         ·exact absurd (h3.trans h2.symm) hkk
        rw [if_neg (by rw [hme];simp only [Mail.mk.injEq,Msg.mk.injEq];omega)] at e2
        rw [h1]
        unfold cnt
        omega
      ·rw [if_neg hca]
       rw [if_neg (by rw [hme];simp only [Mail.mk.injEq];omega)] at e2
       unfold cnt
       omega
    have hgr:Zyj db a m.Msg=(⟨⟨db.Diner.ID,db.Diner.Phase,db.Diner.Sides.set j (getT x' m.Msg.Kind)⟩,db.Thirst,db.Need⟩,0):=by
     unfold Zyj
     rw [hok,if_pos rfl,hj]
     dsimp only
     rw [hxj]
     dsimp only
     unfold Zpm at hno
     unfold getT
     rcases hk with h1 | h1
     ·rw [h1] at hno ⊢
      rw [m3]
      simp at hno
      simp [hno]
     ·rw [h1] at hno ⊢
      rw [m3]
      simp at hno
      simp [hno]
    obtain ⟨f1,f2⟩:=fin _ hI hgr
    refine ⟨m,db,x',j,_,hm,q1,q2,hdb,hxj,xp,rfl,?_⟩
    rw [if_neg hk2]
    exact ⟨hI,f1,f2⟩
theorem delivR_inv {g:Graph} {s:Bar} (hg:okG g=true) (hN:g.N≤60) (h:InvB g s) (a b:Int):fineR (Znm s a b).2=true∧((Znm s a b).2=0→InvB g (Znm s a b).1):=by
 have none161:fineR 161=true∧((161:Int)=0→InvB g bar0):=⟨rfl,fun e=>absurd e (by omega)⟩
 cases ht:Zcm s a with
 | false=>
   unfold Znm
   rw [h.ok hg hN,if_pos rfl,ht]
   exact none161
 | true=>
   cases ht':Zcm s b with
   | false=>
     unfold Znm
     rw [h.ok hg hN,if_pos rfl,ht,ht']
     exact none161
   | true=>
     cases hf:Zmm s a b with
     | none=>
       unfold Znm
       rw [h.ok hg hN,if_pos rfl,ht,ht',Bool.and_self,if_pos rfl,hf]
       exact ⟨rfl,fun e=>absurd e (by show ¬(162:Int)=0;omega)⟩
     | some i=>
       obtain ⟨m,db,x,j,d1,_,_,_,_,_,_,_,_,e,k⟩:=Znn hg hN h ht ht' hf
       rw [e]
       exact ⟨rfl,fun _=>k⟩
theorem actR_inv {g:Graph} {s:Bar} (hg:okG g=true) (hN:g.N≤60) (h:InvB g s) (k a b:Int) (need:List Int):fineR (actR s k a b need).2=true∧((actR s k a b need).2=0→InvB g (actR s k a b need).1):=by
 unfold actR
 split
 ·exact open_inv hg hN h a need
 ·split
  ·exact close_inv hg hN h a
  ·exact delivR_inv hg hN h a b
theorem Zon {s:Bar} {a:Int} {r:Drinker×Int} (h:(actBP s a r).2=0):(actBP s a r).1.Mail.length≤s.Mail.length+252:=by
 unfold actBP at h ⊢
 split at h
 ·rename_i h1
  rw [if_pos h1]
  split at h
  ·rename_i h2
   rw [if_pos h2]
   have:=Zim h2
   simp only [Zjm,List.length_append];omega
  ·simp at h
 ·exact absurd h (by assumption)
theorem Zpn {s:Bar} {a:Int} {q:Drinker→Drinker×Int} (h:(Zkm s a q).2=0):(Zkm s a q).1.Mail.length≤s.Mail.length+252:=by
 unfold Zkm at h ⊢
 cases hk:Zbm s with
 | false=>rw [hk] at h;simp at h
 | true=>
   rw [hk] at h
   simp only [if_true] at h ⊢
   cases ht:Zcm s a with
   | false=>rw [ht] at h;simp at h
   | true=>
     rw [ht] at h
     simp only [if_true] at h ⊢
     obtain ⟨d,hd,_⟩:=Zfm ht
     rw [hd] at h ⊢
     exact Zon h
theorem delivR_mail {s:Bar} {a b:Int} (h:(Znm s a b).2=0):(Znm s a b).1.Mail.length≤s.Mail.length+252:=by
 unfold Znm at h ⊢
 cases hk:Zbm s with
 | false=>rw [hk] at h;simp at h
 | true=>
   rw [hk] at h
   simp only [if_true] at h ⊢
   cases ht:(Zcm s a&&Zcm s b) with
   | false=>rw [ht] at h;simp at h
   | true=>
     rw [ht] at h
     simp only [if_true] at h ⊢
     cases hi:Zmm s a b with
     | none=>rw [hi] at h;simp at h
     | some i=>
       rw [hi] at h
       simp only at h ⊢
       rw [Bool.and_eq_true] at ht
       obtain ⟨d,hd,_⟩:=Zfm ht.2
       rw [hd] at h ⊢
       cases hm:s.Mail[i]? with
       | none=>rw [hm] at h;simp at h
       | some m=>
         rw [hm] at h
         have:=Zon (s:=⟨s.Drinkers,s.Mail.take i++s.Mail.drop (i+1)⟩) h
         simp only [List.length_append,List.length_take,List.length_drop] at this
         refine Nat.le_trans this ?_
         omega
theorem actR_mail {s:Bar} {k a b:Int} {need:List Int} (h:(actR s k a b need).2=0):(actR s k a b need).1.Mail.length≤s.Mail.length+252:=by
 unfold actR at h ⊢
 split at h
 ·rename_i h1;rw [if_pos h1];exact Zpn h
 ·rename_i h1
  rw [if_neg h1]
  split at h
  ·rename_i h2;rw [if_pos h2];exact Zpn h
  ·rename_i h2;rw [if_neg h2];exact delivR_mail h
def actU (s:Bar) (a:narthexlaw16_Act):Bar:=if (actR s a.K a.A a.B a.Need).2=0 then (actR s a.K a.A a.B a.Need).1 else s
def Zqn (g:Graph) (l:List narthexlaw16_Act):Bar:=l.foldl actU (barT g)
theorem s_run16 {g:Graph} (hg:okG g=true) (hN:g.N≤60) {J:Bar→Prop} (hJ:∀s,J s→InvB g s) (h0:J (barT g)) (hs:∀s k a b n,J s→(actR s k a b n).2=0→J (actR s k a b n).1)
  (l:List narthexlaw16_Act) (hl:l.length≤80) (hn:∀a∈l,a.Need.length≤5000) (p:Bar→Option Bool) (hp:∀s,J s→s.Mail.length≤30000→p s=some true):
  Zan g l p=some (Zqn g l,true)∧J (Zqn g l)∧(Zqn g l).Mail.length≤252*l.length:=by
 have inv:∀(l:List narthexlaw16_Act) s,J s→J (l.foldl actU s)∧(l.foldl actU s).Mail.length≤s.Mail.length+252*l.length:=fun l=>by
  induction l with
  | nil=>exact fun s h=>⟨h,by simp⟩
  | cons a l ih=>
    intro s h
    have h1:J (actU s a)∧(actU s a).Mail.length≤s.Mail.length+252:=by
     unfold actU
     split
     ·rename_i h2;exact ⟨hs _ _ _ _ _ h h2,actR_mail h2⟩
     ·exact ⟨h,by omega⟩
    have h3:=ih _ h1.1
    rw [List.foldl_cons,List.length_cons]
    exact ⟨h3.1,by omega⟩
 have e0:(barT g).Mail.length=0:=rfl
 have hrun:=inv l (barT g) h0
 refine ⟨?_,hrun.1,by have:=hrun.2;rw [e0] at this;unfold Zqn;omega⟩
 obtain ⟨g1,g2,g3,_,_⟩:=Zl7 hg
 simp only [Zan,s_Own03 g (by omega),Option.bind_some,s_bNew,hg,if_true,decide_true,Bool.not_true,Z36,hp _ h0 (by rw [e0];omega),Z9n]
 refine Zt7 l (Z8n l p) (fun pre=>((pre.length:Int),Zqn g pre)) (fun _ _=>some (Zqn g l,true)) (fun pre a post h=>.inl ⟨?_,rfl⟩) ?_
 ·have hx:=Zv7 h
  have hm:=Zw7 h
  have ham:=Zx7 h
  obtain ⟨k1,k2⟩:=inv pre (barT g) h0
  rw [e0] at k2
  have k1':J (Zqn g pre):=k1
  have k2':(Zqn g pre).Mail.length≤252*pre.length:=by unfold Zqn;omega
  have hI:=hJ _ k1'
  have er:Zqn g (pre++[a])=actU (Zqn g pre) a:=by unfold Zqn;rw [List.foldl_append];rfl
  obtain ⟨ak,aa,ab,an⟩:=a
  obtain ⟨f1,f2⟩:=actR_inv hg hN hI ak aa ab an
  have hT:=inv [⟨ak,aa,ab,an⟩] (Zqn g pre) k1'
  simp only [List.foldl_cons,List.foldl_nil,List.length_singleton] at hT
  have pT:p (actU (Zqn g pre) ⟨ak,aa,ab,an⟩)=some true:=hp _ hT.1 (by omega)
  dsimp only [Z8n]
  rw [Z86 hx,Z26,Z66 hx,Option.bind_some,s_own16 _ (hI.fewL hg) (by omega),Option.bind_some,s_act16 _ ak aa ab an (hI.fewL hg) (by omega) (hn _ ham),Option.bind_some,er,Z08]
  have ej:∀z:Bar,p z=some true→Z5n p (pre.length:Int) z=some (.inl (((pre.length+1:Nat):Int),z)):=fun z hz=>by
   dsimp only [Z5n]
   rw [hz,Option.bind_some,Za6 (by omega)];rfl
  have e3:Z7n p (pre.length:Int) (Zqn g pre) ((actR (Zqn g pre) ak aa ab an).2,(actR (Zqn g pre) ak aa ab an).1)=Z6n p (pre.length:Int) (Zqn g pre) (actR (Zqn g pre) ak aa ab an).2 (actR (Zqn g pre) ak aa ab an).1 false:=by
   unfold fineR at f1
   dsimp only [Z7n]
   cases c1:decide ((actR (Zqn g pre) ak aa ab an).2=0) with
   | true=>rfl
   | false=>
     cases c2:decide ((actR (Zqn g pre) ak aa ab an).2=152) with
     | true=>rfl
     | false=>
       cases c3:decide ((actR (Zqn g pre) ak aa ab an).2=151) with
       | true=>rfl
       | false=>
         cases c4:decide ((actR (Zqn g pre) ak aa ab an).2=162) with
         | true=>rfl
         | false=>
           rw [c1,c2,c3,c4,Bool.false_or,Bool.false_or,Bool.false_or,Bool.false_or] at f1
           rw [f1];rfl
  rw [e3]
  dsimp only [Z6n]
  rw [Z36]
  unfold actU at pT ⊢
  dsimp only at pT ⊢
  by_cases hz:(actR (Zqn g pre) ak aa ab an).2=0
  ·rw [if_pos hz] at pT ⊢
   rw [decide_eq_true hz,Z26,ej _ pT]
  ·rw [if_neg hz] at pT ⊢
   rw [decide_eq_false hz,Z36,ej _ pT]
 ·dsimp only [Z8n]
  rw [Z96,Z36];rfl
def fewA (g:Graph) (l:List narthexlaw16_Act):Bool:=(l.take 81).all (fun a=>decide (a.Need.length≤20))&&((decide (g.N≤10)&&okG g)&&decide (l.length≤80))
theorem s_few16 (g:Graph) (l:List narthexlaw16_Act):Zgn g l=some (fewA g l):=by
 have j1:Zdn g l ()=some ((decide (g.N≤10)&&okG g)&&decide (l.length≤80)):=by
  dsimp only [Zdn]
  rw [s_Small,Option.bind_some,Z45]
  have:decide ((l.length:Int)≤80)=decide (l.length≤80):=by rw [decide_eq_decide];omega
  rw [this]
  cases (decide (g.N≤10)&&okG g)<;>rfl
 have hlen:(l.take 81).length≤81:=by rw [List.length_take];omega
 have:=Zt7 (l.take 81) (Zfn g l) (fun pre=>(pre.length:Int)) (fun _ post=>some (post.all (fun a=>decide (a.Need.length≤20))&&((decide (g.N≤10)&&okG g)&&decide (l.length≤80)))) (fun pre x post h=>by
  have hx:=Zv7 h
  have hm:=Zw7 h
  have hx':l[pre.length]?=some x:=by rw [List.getElem?_take_of_lt (by omega)] at hx;exact hx
  dsimp only [Zfn]
  rw [Z86 hx',Z26,decide_eq_true (by omega)]
  dsimp only [Zen]
  rw [Z26,Z66 hx',Option.bind_some,Z45,Za6 (by omega),List.all_cons,Z08]
  by_cases hn:x.Need.length≤20
  ·left;rw [decide_eq_false (by omega),decide_eq_true hn];exact ⟨rfl,rfl⟩
  ·right;rw [decide_eq_true (by omega),decide_eq_false hn];exact ⟨false,rfl,rfl⟩) (by
  have e:Zen g l ((l.take 81).length:Int) false=some (.inr ((decide (g.N≤10)&&okG g)&&decide (l.length≤80))):=by
   dsimp only [Zen]
   rw [Z36,j1];rfl
  dsimp only [Zfn]
  rw [Z45]
  by_cases h1:(((l.take 81).length:Nat):Int)<l.length
  ·rw [decide_eq_true h1,Z26,decide_eq_false (by rw [List.length_take] at h1 ⊢;omega),e];rfl
  ·rw [decide_eq_false h1,Z36,e];rfl)
 exact this
theorem fewA_iff {g:Graph} {l:List narthexlaw16_Act} (h:fewA g l=true):g.N≤10∧okG g=true∧l.length≤80∧∀a∈l,a.Need.length≤20:=by
 unfold fewA at h
 simp only [Bool.and_eq_true,decide_eq_true_eq,List.all_eq_true] at h
 obtain ⟨h1,⟨h2,h3⟩,h4⟩:=h
 rw [List.take_of_length_le (by omega)] at h1
 exact ⟨h2,h3,h4,h1⟩
def f12 (c:List Int):List Int:=c.filter fun k=>decide (k≤2)
def f34 (c:List Int):List Int:=c.filter fun k=>!decide (k≤2)
theorem Zrn (c e:List Int):f12 (c++e)=f12 c++f12 e:=List.filter_append ..
theorem Zsn (c e:List Int):f34 (c++e)=f34 c++f34 e:=List.filter_append ..
def Ztn (l:List Mail):List Int:=l.map (·.Msg.Kind)
theorem f12_kinds {l:List Mail} (h:∀m∈l,m.Msg.Kind≤2):f12 (Ztn l)=Ztn l∧f34 (Ztn l)=[]:=by
 unfold f12 f34 Ztn
 rw [List.filter_eq_self,List.filter_eq_nil_iff]
 constructor
 ·intro k hk
  obtain ⟨m,hm,rfl⟩:=List.mem_map.1 hk
  exact decide_eq_true (h m hm)
 ·intro k hk
  obtain ⟨m,hm,rfl⟩:=List.mem_map.1 hk
  rw [decide_eq_true (h m hm)];simp
theorem f34_kinds {l:List Mail} (h:∀m∈l,3≤m.Msg.Kind):f34 (Ztn l)=Ztn l∧f12 (Ztn l)=[]:=by
 unfold f12 f34 Ztn
 rw [List.filter_eq_self,List.filter_eq_nil_iff]
 constructor
 ·intro k hk
  obtain ⟨m,hm,rfl⟩:=List.mem_map.1 hk
  have:=h m hm
  rw [decide_eq_false (by omega)];rfl
 ·intro k hk
  obtain ⟨m,hm,rfl⟩:=List.mem_map.1 hk
  have:=h m hm
  rw [decide_eq_false (by omega)];simp
theorem ch_k12 (M:List Mail) (p q:Int):ch (M.filter k12) p q=f12 (ch M p q):=by
 unfold ch f12
 rw [List.filter_map,List.filter_filter,List.filter_filter]
 congr 1
 refine List.filter_congr fun m _=>?_
 simp only [Function.comp,k12]
 cases decide (m.Msg.Kind≤2)<;>simp
theorem Zun (id ph:Int) (x:Side):f12 (Ztn (Z2b id ph x))=Ztn (Z2b id ph x)∧f34 (Ztn (Z2b id ph x))=[]:=f12_kinds fun m hm=>by have:=(Zcb hm).2.2.1;omega
theorem Zvn (id th:Int) (nd:Bool) (x:Side):f34 (Ztn (Zwi id nd th x))=Ztn (Zwi id nd th x)∧f12 (Ztn (Zwi id nd th x))=[]:=f34_kinds fun m hm=>by have:=(Zzm hm).2.2.1;omega
def OwnB (x y:Side) (cab cba:List Int):Prop:=
 cab=[]∧y.Bottle=false∧
 ((x.Bottle=true∧((x.Ask=true∧y.Ask=false∧cba=[])∨(x.Ask=false∧y.Ask=true∧cba=[])∨(x.Ask=false∧y.Ask=false∧cba=[4])))∨
  (x.Bottle=false∧x.Ask=false∧((y.Ask=true∧cba=[3])∨(y.Ask=false∧cba=[3,4]))))
def Zwn (x y:Side) (cab cba:List Int):Prop:=OwnB x y cab cba∨OwnB y x cba cab
theorem Zwn.symm {x y:Side} {cab cba:List Int} (h:Zwn x y cab cba):Zwn y x cba cab:=Or.symm h
theorem Zwn.bot {x y:Side} {cab cba:List Int} (id th:Int) (nd:Bool) (h:Zwn x y cab cba):Zwn (Zvi nd th x) y (cab++Ztn (Zwi id nd th x)) cba:=by
 obtain ⟨p,e,st,f,d,t,bo,ak⟩:=x
 obtain ⟨p',e',st',f',d',t',bo',ak'⟩:=y
 unfold Zwn OwnB at h ⊢
 unfold Zvi Zwi Zui Ztn
 cases hk:Zti nd th ⟨p,e,st,f,d,t,bo,ak⟩ with
 | true=>cases hc:(decide (th=1)&&nd)<;>cases bo<;>cases ak<;>cases nd<;>simp_all<;>(rcases h.2 with h | h<;>simp_all)
 | false=>cases hc:(decide (th=1)&&nd)<;>cases bo<;>cases ak<;>cases nd<;>simp_all<;>(rcases h.2 with h | h<;>simp_all)
theorem Zwn.same {x x' y:Side} {cab cba:List Int} (h1:x'.Bottle=x.Bottle) (h2:x'.Ask=x.Ask) (h:Zwn x y cab cba):Zwn x' y cab cba:=by
 unfold Zwn OwnB at h ⊢
 rw [h1,h2];exact h
theorem Zwe.same {x x' y:Side} {pa pb:Int} {cab cba:List Int} {ra rb:Int} (h1:x'.Fork=x.Fork) (h2:x'.Dirty=x.Dirty) (h3:x'.Token=x.Token) (h:Zwe x y pa pb cab cba ra rb):Zwe x' y pa pb cab cba ra rb:=by
 unfold Zwe NX.Own at h ⊢
 rw [h1,h2,h3];exact h
theorem Zwn.getB {x y:Side} {cab cba:List Int} (h:Zwn x y cab (3::cba)):Zwn {x with Bottle:=true} y cab cba∧x.Bottle=false:=by
 unfold Zwn OwnB at h ⊢
 rcases h with ⟨h1,h2,⟨h3,h4 | h4 | h4⟩ | ⟨h3,h4,h5 | h5⟩⟩ | ⟨h1,h2,_⟩
 ·exact absurd h4.2.2 (by simp)
 ·exact absurd h4.2.2 (by simp)
 ·exact absurd h4.2.2 (by simp)
 ·have:=h5.2;simp at this;subst this
  exact ⟨.inl ⟨h1,h2,.inl ⟨rfl,.inr (.inl ⟨h4,h5.1,rfl⟩)⟩⟩,h3⟩
 ·have:=h5.2;simp at this;subst this
  exact ⟨.inl ⟨h1,h2,.inl ⟨rfl,.inr (.inr ⟨h4,h5.1,rfl⟩)⟩⟩,h3⟩
 ·exact absurd h1 (by simp)
theorem Zwn.getA {x y:Side} {cab cba:List Int} (h:Zwn x y cab (4::cba)):Zwn {x with Ask:=true} y cab cba∧x.Bottle=true∧x.Ask=false:=by
 unfold Zwn OwnB at h ⊢
 rcases h with ⟨h1,h2,⟨h3,h4 | h4 | h4⟩ | ⟨h3,h4,h5 | h5⟩⟩ | ⟨h1,h2,_⟩
 ·exact absurd h4.2.2 (by simp)
 ·exact absurd h4.2.2 (by simp)
 ·have:=h4.2.2;simp at this;subst this
  exact ⟨.inl ⟨h1,h2,.inl ⟨h3,.inl ⟨rfl,h4.2.1,rfl⟩⟩⟩,h3,h4.1⟩
 ·exact absurd h5.2 (by simp)
 ·exact absurd h5.2 (by simp)
 ·exact absurd h1 (by simp)
theorem edge_once1 {x y:Side} {pa pb:Int} {cab cba:List Int} {ra rb:Int} {q:Int} (hq:q=pa∨pa≠1) (he:Zwe x y pa pb (f12 cab) (f12 cba) ra rb) (hb:Zwn x y (f34 cab) (f34 cba)) (id th:Int) (nd:Bool)
  {x2:Side} {p2 r2:Int} (h2:x2=Z1b q x∧p2=q∧r2=ra∨x2=Z3b (Z1b q x)∧p2=2∧q=1∧(Z1b q x).Fork=true∧r2<rb):
  Zwe (Zvi nd th x2) y p2 pb (f12 (cab++(Ztn (Z2b id q x)++Ztn (Zwi id nd th x2)))) (f12 cba) r2 rb∧Zwn (Zvi nd th x2) y (f34 (cab++(Ztn (Z2b id q x)++Ztn (Zwi id nd th x2)))) (f34 cba):=by
 obtain ⟨_,_,_,b4,b5,b6⟩:=Zxi nd th x2
 have e0:Zwe x y q pb (f12 cab) (f12 cba) ra rb:=by
  rcases hq with rfl | hq
  ·exact he
  ·exact he.phase hq q
 have e1:=e0.fire id
 have g1:(x2).Bottle=x.Bottle∧x2.Ask=x.Ask:=by
  have:(Z1b q x).Bottle=x.Bottle∧(Z1b q x).Ask=x.Ask:=by
   unfold Z1b Z0b
   split<;>split<;>exact ⟨rfl,rfl⟩
  rcases h2 with ⟨rfl,_⟩ | ⟨rfl,_⟩
  ·exact this
  ·exact this
 obtain ⟨k1,k2⟩:=Zun id q x
 obtain ⟨k3,k4⟩:=Zvn id th nd x2
 rw [Zrn,Zrn,Zsn,Zsn,k1,k2,k3,k4,List.append_nil,List.nil_append]
 refine ⟨Zwe.same b4 b5 b6 ?_,(hb.same g1.1 g1.2).bot id th nd⟩
 rcases h2 with ⟨rfl,rfl,rfl⟩ | ⟨rfl,rfl,q1,q2,q3⟩
 ·exact e1
 ·rw [q1] at e1 q2 ⊢
  exact e1.eat q2 q3
def Zxn (r:Nat→Int) (s:Bar):Prop:=∀(a b:Nat) da db x y,s.Drinkers[a]?=some da→s.Drinkers[b]?=some db→Z38 da.Diner b=some x→Z38 db.Diner a=some y→
 Zwe x y da.Diner.Phase db.Diner.Phase (f12 (ch s.Mail a b)) (f12 (ch s.Mail b a)) (r a) (r b)∧Zwn x y (f34 (ch s.Mail a b)) (f34 (ch s.Mail b a))
theorem Zxn.tab {r:Nat→Int} {s:Bar} (h:Zxn r s):Zze r (Zxm s):=by
 intro a b da db x y ha hb hx hy
 have get:∀(k:Nat) d,(Zxm s).Diners[k]?=some d→∃e,s.Drinkers[k]?=some e∧e.Diner=d:=fun k d hd=>by
  have h1:(s.Drinkers.map (·.Diner))[k]?=some d:=hd
  rw [List.getElem?_map,Option.map_eq_some_iff] at h1
  exact h1
 obtain ⟨ea,ha',rfl⟩:=get a da ha
 obtain ⟨eb,hb',rfl⟩:=get b db hb
 have:=(h a b ea eb x y ha' hb' hx hy).1
 show Zwe x y ea.Diner.Phase eb.Diner.Phase (ch (s.Mail.filter k12) a b) (ch (s.Mail.filter k12) b a) (r a) (r b)
 rw [ch_k12,ch_k12]
 exact this
theorem Zxn.set {r r':Nat→Int} {s:Bar} (h:Zxn r s) {a:Nat} {d:Drinker} (hs:Z38 d.Diner a=none) {M:List Mail} (hr:∀k,k≠a→r' k=r k) (hc:∀p q:Nat,p≠a→q≠a→ch M p q=ch s.Mail p q)
  (hn:∀(b:Nat) db x y,b≠a→s.Drinkers[b]?=some db→Z38 d.Diner b=some x→Z38 db.Diner a=some y→Zwe x y d.Diner.Phase db.Diner.Phase (f12 (ch M a b)) (f12 (ch M b a)) (r' a) (r b)∧Zwn x y (f34 (ch M a b)) (f34 (ch M b a))):Zxn r' ⟨s.Drinkers.set a d,M⟩:=by
 have get:∀(k:Nat) e,(s.Drinkers.set a d)[k]?=some e→(k=a∧e=d)∨(k≠a∧s.Drinkers[k]?=some e):=fun k e he=>by
  rw [List.getElem?_set] at he
  split at he
  ·rename_i hk
   simp at he
   exact .inl ⟨hk.symm,he.2.symm⟩
  ·rename_i hk
   exact .inr ⟨fun e=>hk e.symm,he⟩
 intro p q dp dq x y hp hq hx hy
 dsimp only at hp hq ⊢
 rcases get p dp hp with ⟨rfl,rfl⟩ | ⟨p1,hp'⟩<;>rcases get q dq hq with ⟨rfl,rfl⟩ | ⟨q1,hq'⟩
 ·rw [hs] at hx;simp at hx
 ·rw [hr q q1];exact hn q dq x y q1 hq' hx hy
 ·rw [hr p p1]
  have:=hn p dp y x p1 hp' hy hx
  exact ⟨this.1.symm,this.2.symm⟩
 ·rw [hr p p1,hr q q1,hc p q p1 q1,hc q p q1 p1];exact h p q dp dq x y hp' hq' hx hy
theorem InvB.self {g:Graph} {s:Bar} (hg:okG g=true) (h:InvB g s) {a:Nat} {d:Drinker} (hd:s.Drinkers[a]?=some d):Z38 d.Diner a=none:=h.tab.self hg (Zym hd)
theorem Zyn (d:Drinker) (b:Int):Z38 (Z2j d).Diner b=(Z38 d.Diner b).map fun x=>Zvi (Zsi d x) d.Thirst (Zgb (Zzi d) x):=by
 have es:Z38 (Z2j d).Diner b=(Z38 (Z4b (Zzi d)) b).map fun x=>Zvi (Zsi d x) d.Thirst x:=Zkb (Z4b (Zzi d)) (fun x=>Zvi (Zsi d x) d.Thirst x) (fun x=>(Zxi _ _ x).1) _ _ b
 rw [es,Zlb,Option.map_map]
 have ep:Z38 (Zzi d) b=Z38 d.Diner b:=rfl
 rw [ep]
 congr 1
 funext x
 simp only [Function.comp,Zsi,(Zjb (Zzi d) x).1]
theorem ch_bots (id th b:Int) (nd:Side→Bool):∀(l:List Side),l.Pairwise (fun x y=>x.Peer<y.Peer)→ch (l.flatMap fun x=>Zwi id (nd x) th x) id b=match l.find? (fun x=>decide (x.Peer=b)) with | some x=>Ztn (Zwi id (nd x) th x) | none=>[]
 | [],_=>rfl
 | x::l,h=>by
   rw [List.pairwise_cons] at h
   rw [List.flatMap_cons,Zxe,ch_bots id th b nd l h.2,List.find?_cons]
   by_cases hx:x.Peer=b
   ·have:l.find? (fun x=>decide (x.Peer=b))=none:=by
     rw [List.find?_eq_none]
     intro y hy
     have:=h.1 y hy
     simp;omega
    rw [this,decide_eq_true hx]
    have:(Zwi id (nd x) th x).filter (fun m=>decide (m.From=id)&&decide (m.To=b))=Zwi id (nd x) th x:=by
     rw [List.filter_eq_self]
     intro m hm
     have:=Zzm hm
     simp [this.1,this.2.1,hx]
    simp [ch,this,Ztn]
   ·rw [decide_eq_false hx,ch_nil (M:=Zwi id (nd x) th x) (fun m hm e=>hx ((Zzm hm).2.1.symm.trans e.2))];rfl
theorem once_ch {d:Drinker} {b:Int} {x:Side} (hp:d.Diner.Sides.Pairwise fun x y=>x.Peer<y.Peer) (hx:Z38 d.Diner b=some x):
  ch (Z3j d) d.Diner.ID b=Ztn (Z2b d.Diner.ID (Zyi d) x)++Ztn (Zwi d.Diner.ID (Zsi d x) d.Thirst (Zgb (Zzi d) x)):=by
 unfold Z3j
 have hp2:(Z4b (Zzi d)).Sides.Pairwise fun x y=>x.Peer<y.Peer:=by
  rw [Zhb,List.pairwise_map]
  refine (show (Zzi d).Sides.Pairwise _ from hp).imp fun {u v} h=>?_
  rw [(Zjb _ u).1,(Zjb _ v).1];exact h
 rw [Zxe,ch_bots _ _ _ (Zsi d) _ hp2]
 have ef:(Z4b (Zzi d)).Sides.find? (fun x=>decide (x.Peer=b))=some (Zgb (Zzi d) x):=by
  have:=Zlb (Zzi d) b
  rw [show Z38 (Zzi d) b=Z38 d.Diner b from rfl,hx] at this
  exact this
 rw [ef]
 have e1:=ch_fire (d:=Zzi d) (b:=b) (x:=x) hp hx
 rw [show (Zzi d).ID=d.Diner.ID from rfl] at e1
 rw [e1]
 have:Zsi d (Zgb (Zzi d) x)=Zsi d x:=by unfold Zsi;rw [(Zjb (Zzi d) x).1]
 dsimp only
 rw [this]
 rfl
theorem Zzn {d:Drinker} {p q:Int} (hp:p≠d.Diner.ID):ch (Z3j d) p q=[]:=by
 refine ch_nil fun m hm e=>?_
 unfold Z3j at hm
 rcases List.mem_append.1 hm with hm | hm
 ·obtain ⟨x,_,hx⟩:=List.mem_flatMap.1 hm
  exact hp (e.1.symm.trans (Zcb hx).1)
 ·obtain ⟨x,_,hx⟩:=List.mem_flatMap.1 hm
  exact hp (e.1.symm.trans (Zzm hx).1)
theorem Z0o (d:Diner):((Z4b d).Phase=d.Phase∧∀x,Zgb d x=Z1b d.Phase x)∨(d.Phase=1∧(Z4b d).Phase=2∧(∀x,Zgb d x=Z3b (Z1b d.Phase x))∧∀x∈d.Sides,(Z1b d.Phase x).Fork=true):=by
 unfold Z4b Zgb
 cases hq:decide (d.Phase=1)&&(d.Sides.map (Z1b d.Phase)).all (·.Fork) with
 | false=>exact .inl ⟨rfl,fun _=>rfl⟩
 | true=>
   rw [Bool.and_eq_true,decide_eq_true_eq,List.all_eq_true] at hq
   exact .inr ⟨hq.1,rfl,fun _=>rfl,fun x hx=>hq.2 _ (List.mem_map_of_mem hx)⟩
theorem phaseDr_ne (d:Drinker):Zyi d=d.Diner.Phase∨d.Diner.Phase≠1:=by
 unfold Zyi
 split
 ·rename_i h
  rw [Bool.and_eq_true,decide_eq_true_eq,decide_eq_true_eq] at h
  right;omega
 ·split
  ·rename_i h
   rw [Bool.and_eq_true,decide_eq_true_eq] at h
   right;omega
  ·exact .inl rfl
theorem Zxn.once {g:Graph} {s:Bar} (hg:okG g=true) (h:InvB g s) {a:Nat} {d:Drinker} (hd:s.Drinkers[a]?=some d) {r:Nat→Int} (he:Zxn r s):∃r',Zxn r' ⟨s.Drinkers.set a (Z2j d),s.Mail++Z3j d⟩:=by
 have hdt:=Zym hd
 obtain ⟨hid,_⟩:=h.tab.shp a _ hdt
 have hpw:=h.tab.pw hg hdt
 have hself:Z38 (Z2j d).Diner a=none:=by rw [Zyn,h.self hg hd];rfl
 have hc:∀p q:Nat,p≠a→q≠a→ch (s.Mail++Z3j d) p q=ch s.Mail p q:=fun p q hp _=>by
  rw [Zxe,Zzn (by rw [hid];omega),List.append_nil]
 obtain ⟨m,hm⟩:=low r s.Drinkers.length
 have hin:∀(r2:Int) (p2:Int),(∀x,Z38 d.Diner x.Peer=some x→Zgb (Zzi d) x=Z1b (Zyi d) x∧p2=Zyi d∧r2=r a∨Zgb (Zzi d) x=Z3b (Z1b (Zyi d) x)∧p2=2∧Zyi d=1∧(Z1b (Zyi d) x).Fork=true∧r2=m)→
   p2=(Z2j d).Diner.Phase→∀(b:Nat) db x y,b≠a→s.Drinkers[b]?=some db→Z38 (Z2j d).Diner b=some x→Z38 db.Diner a=some y→Zwe x y (Z2j d).Diner.Phase db.Diner.Phase (f12 (ch (s.Mail++Z3j d) a b)) (f12 (ch (s.Mail++Z3j d) b a)) r2 (r b)∧Zwn x y (f34 (ch (s.Mail++Z3j d) a b)) (f34 (ch (s.Mail++Z3j d) b a)):=fun r2 p2 hx2 hp2 b db x y hb hdb hx hy=>by
  rw [Zyn,Option.map_eq_some_iff] at hx
  obtain ⟨x0,hx0,rfl⟩:=hx
  have e1:=he a b d db x0 y hd hdb hx0 hy
  have e2:=once_ch hpw hx0
  rw [hid] at e2
  have e3:ch (Z3j d) b a=[]:=Zzn (by rw [hid];omega)
  rw [Zxe,Zxe,e2,e3,List.append_nil,←hp2]
  refine edge_once1 (q:=Zyi d) (phaseDr_ne d) e1.1 e1.2 a d.Thirst (Zsi d x0) ?_
  have hx0':Z38 d.Diner x0.Peer=some x0:=by rw [(Zmb hx0).2];exact hx0
  rcases hx2 x0 hx0' with q | ⟨q1,q2,q3,q4,q5⟩
  ·exact .inl q
  ·exact .inr ⟨q1,q2,q3,q4,by rw [q5];exact hm b (List.getElem?_eq_some_iff.1 hdb).1⟩
 rcases Z0o (Zzi d) with ⟨f1,f2⟩ | ⟨f1,f2,f3,f4⟩
 ·exact ⟨r,he.set hself (fun _ _=>rfl) hc (hin (r a) (Zyi d) (fun x _=>.inl ⟨f2 x,rfl,rfl⟩) f1.symm)⟩
 ·refine ⟨fun k=>if k=a then m else r k,he.set hself (fun k hk=>by rw [if_neg hk]) hc ?_⟩
  rw [if_pos rfl]
  exact hin m 2 (fun x hx=>.inr ⟨f3 x,rfl,f1,f4 x (Zmb hx).1,rfl⟩) f2.symm
structure Fork (g:Graph) (s:Bar):Prop where
 inv:InvB g s
 edge:∃r:Nat→Int,Zxn r s
theorem Fork.once {g:Graph} {s:Bar} (hg:okG g=true) (h:Fork g s) {a:Nat} {d:Drinker} (hd:s.Drinkers[a]?=some d):Fork g ⟨s.Drinkers.set a (Z2j d),s.Mail++Z3j d⟩:=by
 obtain ⟨r,he⟩:=h.edge
 exact ⟨h.inv.once hg hd,he.once hg h.inv hd⟩
theorem Fork.fireN {g:Graph} (hg:okG g=true) (L:List Drinker) (M:List Mail) {a:Nat} (ha:a<L.length):∀(n:Nat) (d:Drinker) (out:List Mail),Fork g ⟨L.set a d,M++out⟩→Fork g ⟨L.set a (NX.fireN n d out).1,M++(NX.fireN n d out).2⟩
 | 0,_,_,h=>h
 | n+1,d,out,h=>by
   unfold NX.fireN
   split
   ·exact h
   ·have hd:(L.set a d)[a]?=some d:=by rw [List.getElem?_set];simp [ha]
    have h1:=h.once hg hd
    dsimp only at h1
    rw [List.set_set,List.append_assoc] at h1
    exact Fork.fireN hg L M ha n _ _ h1
theorem Fork.fireDr {g:Graph} {s:Bar} (hg:okG g=true) (h:Fork g s) {a:Nat} {d:Drinker} (hd:s.Drinkers[a]?=some d):Fork g ⟨s.Drinkers.set a (NX.fireDr d).1,s.Mail++(NX.fireDr d).2⟩:=by
 refine Fork.fireN hg s.Drinkers s.Mail (List.getElem?_eq_some_iff.1 hd).1 300 d [] ?_
 rw [Z2n hd,List.append_nil];exact h
theorem Fork.act {g:Graph} {s:Bar} (hg:okG g=true) {a:Nat} (ha:a<s.Drinkers.length) {d':Drinker} {M:List Mail} (hI:InvB g ⟨s.Drinkers.set a d',M⟩) (hE:∃r,Zxn r ⟨s.Drinkers.set a d',M⟩):Fork g ⟨s.Drinkers.set a (NX.fireDr d').1,M++(NX.fireDr d').2⟩:=by
 have hd:(s.Drinkers.set a d')[a]?=some d':=by rw [List.getElem?_set];simp [ha]
 have h1:=Fork.fireDr hg ⟨hI,hE⟩ hd
 dsimp only at h1
 rw [List.set_set] at h1
 exact h1
theorem Zxn.drk {g:Graph} {s:Bar} (hg:okG g=true) (h:InvB g s) {r:Nat→Int} (he:Zxn r s) {a:Nat} {d:Drinker} (hd:s.Drinkers[a]?=some d) (t:Int) (n:List Int):Zxn r ⟨s.Drinkers.set a ⟨d.Diner,t,n⟩,s.Mail⟩:=
 he.set (d:=⟨d.Diner,t,n⟩) (show Z38 d.Diner a=none from h.self hg hd) (fun _ _=>rfl) (fun _ _ _ _=>rfl) fun b db x y _ hdb hx hy=>he a b d db x y hd hdb hx hy
theorem open_eq {g:Graph} {s:Bar} (hg:okG g=true) (hN:g.N≤60) (h:InvB g s) {a:Int} {need:List Int} (he:(Zkm s a fun d=>Zvj d need).2=0):
  ∃d,0≤a∧s.Drinkers[a.toNat]?=some d∧d.Thirst=0∧(∀p∈need,p∈Zq9 g a)∧InvB g ⟨s.Drinkers.set a.toNat ⟨d.Diner,1,setL need⟩,s.Mail⟩∧(Zkm s a fun d=>Zvj d need).1=Zjm s a ⟨d.Diner,1,setL need⟩:=by
 unfold Zkm at he ⊢
 rw [h.ok hg hN,if_pos rfl] at he ⊢
 cases ht:Zcm s a with
 | false=>rw [ht] at he;exact absurd he (by show ¬(161:Int)=0;omega)
 | true=>
   obtain ⟨d,hd1,hd⟩:=Zfm ht
   obtain ⟨a0,_⟩:=Zem.1 ht
   have hdm:d∈s.Drinkers:=List.mem_iff_getElem?.2 ⟨_,hd⟩
   rw [ht,if_pos rfl,hd1] at he
   rw [if_pos rfl,hd1]
   dsimp only at he ⊢
   unfold Zvj at he ⊢
   rw [h.okDr hg hN hdm,if_pos rfl] at he ⊢
   by_cases h0:d.Thirst=0
   ·rw [if_pos h0] at he ⊢
    cases ho:need.any (Zuj d.Diner) with
    | true=>rw [ho] at he;exact absurd he (by show ¬(151:Int)=0;omega)
    | false=>
      rw [if_neg (by simp)]
      rw [List.any_eq_false] at ho
      obtain ⟨s1,s2⟩:=setL_spec need
      have hp:∀p∈need,p∈d.Diner.Sides.map (·.Peer):=fun p hp=>by
       have:=ho p hp
       unfold Zuj at this
       simp only [Bool.not_eq_true',Bool.not_eq_false,List.any_eq_true,Bool.and_eq_true,decide_eq_true_eq] at this
       obtain ⟨x,hx,e,_⟩:=this
       exact List.mem_map.2 ⟨x,hx,e⟩
      have hl:LocT ⟨d.Diner,1,setL need⟩:=
       ⟨by show (0:Int)≤1;omega,by show (1:Int)≤2;omega,s1,fun p hp'=>hp p ((s2 p).1 hp'),fun e=>absurd e (by show ¬(1:Int)=0;omega),fun e=>absurd e (by show ¬(1:Int)=2;omega)⟩
      have hI:=h.drk hg hd hl
      obtain ⟨k1,k2⟩:=Zjn hg hN hd hI
      refine ⟨d,a0,hd,h0,fun p hp'=>?_,hI,by rw [k1]⟩
      have:=(h.tab.shp _ _ (Zym hd)).2
      rw [Int.toNat_of_nonneg a0] at this
      rw [←this];exact hp p hp'
   ·rw [if_neg h0] at he
    exact absurd he (by show ¬(152:Int)=0;omega)
theorem close_ok {g:Graph} {s:Bar} (hg:okG g=true) (hN:g.N≤60) (h:InvB g s) {a:Int} (a0:0≤a) {d:Drinker} (hd:s.Drinkers[a.toNat]?=some d) (h0:d.Thirst≠0):
  InvB g ⟨s.Drinkers.set a.toNat ⟨d.Diner,0,[]⟩,s.Mail⟩∧Zkm s a Zwj=(Zjm s a ⟨d.Diner,0,[]⟩,0):=by
 have hlt:=(List.getElem?_eq_some_iff.1 hd).1
 have ht:Zcm s a=true:=Zem.2 ⟨a0,by omega⟩
 obtain ⟨d',hd1,hd'⟩:=Zfm ht
 have e:d'=d:=by rw [hd] at hd';simpa using hd'.symm
 subst e
 have hdm:d'∈s.Drinkers:=List.mem_iff_getElem?.2 ⟨_,hd⟩
 have hl:LocT ⟨d'.Diner,0,[]⟩:=⟨Int.le_refl _,by show (0:Int)≤2;omega,by simp,by simp,fun _=>rfl,fun e=>absurd e (by show ¬(0:Int)=2;omega)⟩
 have hI:=h.drk hg hd hl
 obtain ⟨k1,k2⟩:=Zjn hg hN hd hI
 refine ⟨hI,?_⟩
 unfold Zkm Zwj
 rw [h.ok hg hN,if_pos rfl,ht,if_pos rfl,hd1]
 dsimp only
 rw [h.okDr hg hN hdm,if_pos rfl,if_neg h0,k1]
theorem close_eq {g:Graph} {s:Bar} (hg:okG g=true) (hN:g.N≤60) (h:InvB g s) {a:Int} (he:(Zkm s a Zwj).2=0):∃d,0≤a∧s.Drinkers[a.toNat]?=some d∧d.Thirst≠0:=by
 unfold Zkm at he
 rw [h.ok hg hN,if_pos rfl] at he
 cases ht:Zcm s a with
 | false=>rw [ht] at he;exact absurd he (by show ¬(161:Int)=0;omega)
 | true=>
   obtain ⟨d,hd1,hd⟩:=Zfm ht
   obtain ⟨a0,_⟩:=Zem.1 ht
   have hdm:d∈s.Drinkers:=List.mem_iff_getElem?.2 ⟨_,hd⟩
   rw [ht,if_pos rfl,hd1] at he
   dsimp only at he
   unfold Zwj at he
   rw [h.okDr hg hN hdm,if_pos rfl] at he
   by_cases h0:d.Thirst=0
   ·rw [if_pos h0] at he
    exact absurd he (by show ¬(152:Int)=0;omega)
   ·exact ⟨d,a0,hd,h0⟩
theorem edge_get {x y:Side} {pa pb:Int} {cab cba:List Int} {ra rb k:Int} (hd:x.Dirty=true→x.Fork=true) (h1:1≤k) (h4:k≤4) (he:Zwe x y pa pb (f12 cab) (f12 (k::cba)) ra rb) (hb:Zwn x y (f34 cab) (f34 (k::cba))):
  Zwe (if k≤2 then Z2e x k else NX.getT x k) y pa pb (f12 cab) (f12 cba) ra rb∧Zwn (if k≤2 then Z2e x k else NX.getT x k) y (f34 cab) (f34 cba)∧(k=2→x.Fork=true):=by
 have hk:k=1∨k=2∨k=3∨k=4:=by omega
 rcases hk with rfl | rfl | rfl | rfl
 ·have h:=Zwe.getF (cba:=f12 cba) he hd
  exact ⟨h.1,hb,fun e=>absurd e (by omega)⟩
 ·have h:=Zwe.getT (cba:=f12 cba) he
  exact ⟨h.1,hb,fun _=>h.2⟩
 ·have h:=Zwn.getB (cba:=f34 cba) hb
  exact ⟨he,h.1,fun e=>absurd e (by omega)⟩
 ·have h:=Zwn.getA (cba:=f34 cba) hb
  exact ⟨he,h.1,fun e=>absurd e (by omega)⟩
theorem Zxn.get {g:Graph} {s:Bar} (hg:okG g=true) (h:InvB g s) {r:Nat→Int} (he:Zxn r s) {a b:Int} (a0:0≤a) (b0:0≤b) {da db:Drinker} (hda:s.Drinkers[a.toNat]?=some da) (hdb:s.Drinkers[b.toNat]?=some db) {i:Nat} {m:Mail} (hf:Zmm s a b=some i) (hm:s.Mail[i]?=some m) (m1:m.From=a) (m2:m.To=b)
  {x:Side} {j:Nat} (hx:db.Diner.Sides[j]?=some x) (hp:x.Peer=a) {d1:Drinker} (hd1:d1=⟨⟨db.Diner.ID,db.Diner.Phase,db.Diner.Sides.set j (if m.Msg.Kind≤2 then Z2e x m.Msg.Kind else NX.getT x m.Msg.Kind)⟩,db.Thirst,db.Need⟩):
  Zxn r ⟨s.Drinkers.set b.toNat d1,s.Mail.take i++s.Mail.drop (i+1)⟩∧(m.Msg.Kind=2→x.Fork=true):=by
 unfold Zmm at hf
 obtain ⟨c1,c2⟩:=ch_take hf hm
 have hmm:m∈s.Mail:=List.mem_iff_getElem?.2 ⟨_,hm⟩
 obtain ⟨k1,_,_,hnear⟩:=h.mail m hmm
 rw [m1,m2] at hnear
 have hne:a≠b:=fun e=>(Zv9 hg hnear).2.2.1 e.symm
 have ea:((a.toNat:Nat):Int)=a:=Int.toNat_of_nonneg a0
 have eb:((b.toNat:Nat):Int)=b:=Int.toNat_of_nonneg b0
 have hdbt:=Zym hdb
 have hpw:=h.tab.pw hg hdbt
 have hloc:=h.tab.loc _ (List.mem_iff_getElem?.2 ⟨_,hdbt⟩)
 have hxm:x∈db.Diner.Sides:=List.mem_iff_getElem?.2 ⟨_,hx⟩
 have hxo:Z38 db.Diner a=some x:=by rw [←hp];exact Zln hpw hxm
 obtain ⟨y,hy,_⟩:=h.tab.sided a0 (Zym hda) hnear
 have hE:=he b.toNat a.toNat db da x y hdb hda (by rw [ea];exact hxo) (by rw [eb];exact hy)
 rw [ea,eb,c1] at hE
 have hget:=edge_get (hloc.side x hxm).2.2 k1.1 k1.2 hE.1 hE.2
 refine ⟨?_,hget.2.2⟩
 have hgp:(if m.Msg.Kind≤2 then Z2e x m.Msg.Kind else NX.getT x m.Msg.Kind).Peer=x.Peer:=by
  split
  ·unfold Z2e;split<;>rfl
  ·unfold NX.getT;split<;>rfl
 have i3:∀z:Int,Z38 d1.Diner z=if z=a then some (if m.Msg.Kind≤2 then Z2e x m.Msg.Kind else NX.getT x m.Msg.Kind) else Z38 db.Diner z:=fun z=>by
  rw [hd1]
  dsimp only
  rw [Zkn hpw hx hgp,hp]
 have i2:d1.Diner.Phase=db.Diner.Phase:=by rw [hd1]
 have hcm:∀p q:Int,¬(p=a∧q=b)→ch (s.Mail.take i++s.Mail.drop (i+1)) p q=ch s.Mail p q:=c2
 have hself:Z38 d1.Diner b.toNat=none:=by
  rw [i3,if_neg (by rw [eb];exact fun e=>hne e.symm)];exact h.self hg hdb
 refine he.set hself (fun _ _=>rfl) (fun p q hp hq=>hcm p q (by omega)) fun c dc x' y' hc hdc hx' hy'=>?_
 rw [i3] at hx'
 rw [eb,hcm b c (by omega)]
 by_cases hca:(c:Int)=a
 ·rw [if_pos hca] at hx'
  have hca':c=a.toNat:=by omega
  subst hca'
  have e1:dc=da:=by rw [hda] at hdc;simpa using hdc.symm
  subst e1
  rw [eb,hy] at hy'
  simp only [Option.some.injEq] at hx' hy'
  subst hx';subst hy'
  rw [ea,i2]
  exact ⟨hget.1,hget.2.1⟩
 ·rw [if_neg hca] at hx'
  rw [hcm c b (by omega),i2]
  have:=he b.toNat c db dc x' y' hdb hdc hx' hy'
  rwa [eb] at this
theorem Fork.first {g:Graph} (hg:okG g=true):Fork g (barT g):=by
 refine ⟨InvB.first hg,?_⟩
 obtain ⟨r,hr⟩:=(Fair.first hg).edge
 have hc:=(Zud hg).1
 refine ⟨r,fun a b da db x y ha hb hx hy=>?_⟩
 have e0:∀p q:Int,ch (barT g).Mail p q=[]:=fun _ _=>rfl
 have get:∀(k:Nat) d,(barT g).Drinkers[k]?=some d→(Zvd g).Diners[k]?=some d.Diner∧d.Diner=Zx9 g (Ztd g) k:=fun k d hd=>by
  have h1:((Zvd g).Diners.map fun d=>(⟨d,0,[]⟩:Drinker))[k]?=some d:=hd
  rw [List.getElem?_map,Option.map_eq_some_iff] at h1
  obtain ⟨d0,h2,rfl⟩:=h1
  refine ⟨h2,?_⟩
  have hk:=(List.getElem?_eq_some_iff.1 h2).1
  have hl:=Z2a hg (Ztd g)
  have hk':k<(Zy9 g (Ztd g)).length:=hk
  have e:=Z1a (g:=g) (c:=Ztd g) (a:=(k:Int)) (by omega) (by omega)
  have h2':(Zy9 g (Ztd g))[k]?=some d0:=h2
  rw [Int.toNat_natCast,h2'] at e
  simpa using e
 obtain ⟨a1,a2⟩:=get a da ha
 obtain ⟨b1,b2⟩:=get b db hb
 refine ⟨hr a b da.Diner db.Diner x y a1 b1 hx hy,?_⟩
 rw [a2,Z3a] at hx
 rw [b2,Z3a] at hy
 split at hx
 ·rename_i hab
  rw [if_pos (Z4a hg hab)] at hy
  have hne:=Z0a hg hc hab
  simp only [Option.some.injEq] at hx hy
  subst hx;subst hy
  rw [e0,e0]
  have hlt:decide (cg (Ztd g) a<cg (Ztd g) b)=!decide (cg (Ztd g) b<cg (Ztd g) a):=by
   rw [←decide_not,decide_eq_decide];omega
  unfold Zwn OwnB
  by_cases hh:cg (Ztd g) b<cg (Ztd g) a
  ·simp [Zw9,hlt,hh,f34]
  ·simp [Zw9,hlt,hh,f34]
 ·simp at hx
theorem Fork.actR {g:Graph} {s:Bar} (hg:okG g=true) (hN:g.N≤60) (h:Fork g s) (k a b:Int) (need:List Int) (he:(NX.actR s k a b need).2=0):Fork g (NX.actR s k a b need).1:=by
 obtain ⟨r,hr⟩:=h.edge
 unfold NX.actR at he ⊢
 split at he
 ·rename_i h1
  rw [if_pos h1]
  obtain ⟨d,a0,hd,_,_,hI,e⟩:=open_eq hg hN h.inv he
  rw [e]
  exact Fork.act hg (List.getElem?_eq_some_iff.1 hd).1 hI ⟨r,hr.drk hg h.inv hd _ _⟩
 ·rename_i h1
  rw [if_neg h1]
  split at he
  ·rename_i h2
   rw [if_pos h2]
   obtain ⟨d,a0,hd,h0⟩:=close_eq hg hN h.inv he
   obtain ⟨hI,e⟩:=close_ok hg hN h.inv a0 hd h0
   rw [e]
   exact Fork.act hg (List.getElem?_eq_some_iff.1 hd).1 hI ⟨r,hr.drk hg h.inv hd _ _⟩
  ·rename_i h2
   rw [if_neg h2]
   cases ht:Zcm s a with
   | false=>
     unfold Znm at he
     rw [h.inv.ok hg hN,if_pos rfl,ht] at he
     exact absurd he (by show ¬(161:Int)=0;omega)
   | true=>
     cases ht':Zcm s b with
     | false=>
       unfold Znm at he
       rw [h.inv.ok hg hN,if_pos rfl,ht,ht'] at he
       exact absurd he (by show ¬(161:Int)=0;omega)
     | true=>
       cases hf:Zmm s a b with
       | none=>
         unfold Znm at he
         rw [h.inv.ok hg hN,if_pos rfl,ht,ht',Bool.and_self,if_pos rfl,hf] at he
         exact absurd he (by show ¬(162:Int)=0;omega)
       | some i=>
         obtain ⟨m,db,x,j,d1,hm,m1,m2,hdb,hxj,hp,hd1,hI,e,_⟩:=Znn hg hN h.inv ht ht' hf
         obtain ⟨da,_,hda⟩:=Zfm ht
         rw [e]
         exact Fork.act hg (List.getElem?_eq_some_iff.1 hdb).1 hI ⟨r,(hr.get hg h.inv (Zem.1 ht).1 (Zem.1 ht').1 hda hdb hf hm m1 m2 hxj hp hd1).1⟩
def Z1o:List Int→Bool
 | []=>false
 | k::l=>if k=4 then decide ((1:Int)∈l) else Z1o l
theorem late_cons (k:Int) (l:List Int):Z1o (k::l)=if k=4 then decide ((1:Int)∈l) else Z1o l:=rfl
theorem late_no1:∀ {c:List Int},(1:Int)∉c→Z1o c=false
 | [],_=>rfl
 | k::l,h=>by
   unfold Z1o
   split
   ·exact decide_eq_false fun hm=>h (by simp [hm])
   ·exact late_no1 fun hm=>h (by simp [hm])
theorem Z2o (e:List Int):∀c:List Int,Z1o (c++e)=if (4:Int)∈c then (Z1o c||decide ((1:Int)∈e)) else Z1o e
 | []=>by simp
 | k::l=>by
   rw [List.cons_append,late_cons,late_cons]
   by_cases hk:k=4
   ·subst hk
    simp
   ·rw [if_neg hk,if_neg hk,Z2o e l]
    have:((4:Int)∈k::l)↔(4:Int)∈l:=by simp;omega
    simp only [this]
theorem mem_f12 {c:List Int} {k:Int} (hk:k≤2):k∈f12 c↔k∈c:=by unfold f12;simp [hk]
theorem Z3o {c:List Int} {k:Int} (hk:¬k≤2):k∈f34 c↔k∈c:=by unfold f34;simp;omega
def Z4o (t:Int) (n:Bool):Bool:=decide (t=1)&&n
def kept (t:Int) (n:Bool):Bool:=decide (t=2)&&n
def Z5o (Aa Ab Ka Kb Fa lt:Bool) (s:Nat):Nat:=
 if Aa&&Ab then (if Fa then (if s=2 then (if lt then 4 else 0) else if s=1 then (if lt then 5 else 1) else 1) else if s=2 then 2 else 3)
 else if s=2 then (if Ka then 0 else if Aa then (if Kb then 2 else 3) else 1) else if s=1 then 1+(if Ka then 0 else if Aa then (if Kb then 2 else 3) else 1) else if Ab then 1+(if Ka then 0 else if Aa then (if Kb then 2 else 3) else 1) else 0
def stA (x:Side) (c:List Int):Nat:=if x.Ask then 2 else if (4:Int)∈c then 1 else 0
def Z6o (x:Side) (c:List Int) (ta tb:Int) (na nb:Bool):Nat:=
 Z5o (Z4o ta na) (Z4o tb nb) (kept ta na) (kept tb nb) (x.Fork||decide ((1:Int)∈c)) (if x.Ask then decide ((1:Int)∈c) else Z1o c) (stA x c)
def owns (x:Side) (c:List Int):Bool:=x.Bottle||decide ((3:Int)∈c)
def Z7o (x y:Side) (ta tb:Int) (na nb:Bool) (cab cba:List Int):Nat:=
 (if decide ((3:Int)∈cab)||decide ((3:Int)∈cba) then 1 else 0)+(if owns x cba then Z6o x cba ta tb na nb else Z6o y cab tb ta nb na)
def pdx (x:Side) (p:Int):Nat:=if x.Fork&&(x.Dirty&&!decide (p=2)) then 3 else 0
def ph3 (p:Int):Nat:=if p=0 then 0 else 3
def Z8o (x y:Side) (pa pb:Int) (cab cba:List Int):Nat:=(f12 cab).length+(f12 cba).length+pdx x pa+pdx y pb+ph3 pa+ph3 pb
def pot (x y:Side) (pa pb ta tb:Int) (na nb:Bool) (cab cba:List Int):Nat:=2*Z8o x y pa pb cab cba+Z7o x y ta tb na nb cab cba
theorem owns_symm {x y:Side} {cab cba:List Int} (h:Zwn x y (f34 cab) (f34 cba)):owns y cab=!owns x cba:=by
 unfold owns
 have e1:decide ((3:Int)∈cab)=decide ((3:Int)∈f34 cab):=by rw [decide_eq_decide];exact (Z3o (by omega)).symm
 have e2:decide ((3:Int)∈cba)=decide ((3:Int)∈f34 cba):=by rw [decide_eq_decide];exact (Z3o (by omega)).symm
 rw [e1,e2]
 rcases h with ⟨h1,h2,⟨h3,h4⟩ | ⟨h3,h4,h5 | h5⟩⟩ | ⟨h1,h2,⟨h3,h4⟩ | ⟨h3,h4,h5 | h5⟩⟩
 ·rw [h1,h2,h3];simp
 ·rw [h1,h2,h3,h5.2];simp
 ·rw [h1,h2,h3,h5.2];simp
 ·rw [h1,h2,h3];simp
 ·rw [h1,h2,h3,h5.2];simp
 ·rw [h1,h2,h3,h5.2];simp
theorem pot_symm {x y:Side} {cab cba:List Int} (h:Zwn x y (f34 cab) (f34 cba)) (pa pb ta tb:Int) (na nb:Bool):pot y x pb pa tb ta nb na cba cab=pot x y pa pb ta tb na nb cab cba:=by
 unfold pot Z8o Z7o
 rw [owns_symm h]
 have e:(decide ((3:Int)∈cba)||decide ((3:Int)∈cab))=(decide ((3:Int)∈cab)||decide ((3:Int)∈cba)):=Bool.or_comm _ _
 rw [e]
 cases owns x cba<;>simp<;>omega
theorem Z9o {x y:Side} {pa pb:Int} {cab cba:List Int} {ra rb:Int} (h:Zwe x y pa pb (f12 cab) (f12 cba) ra rb):
  (y.Fork=false∧(1:Int)∉cab∧(x.Fork=true∧(1:Int)∉cba∨x.Fork=false∧(1:Int)∈cba))∨(x.Fork=false∧(1:Int)∉cba∧(y.Fork=true∧(1:Int)∉cab∨y.Fork=false∧(1:Int)∈cab)):=by
 rw [←mem_f12 (k:=1) (c:=cab) (by omega),←mem_f12 (k:=1) (c:=cba) (by omega)]
 rcases h with ⟨h1,h2,h3,h4,h5,h6⟩ | ⟨h1,h2,h3,h4,h5,h6⟩
 ·left
  rw [h1]
  refine ⟨h2,by simp,?_⟩
  rcases h6 with ⟨k1,_,k3 | k3 | k3⟩ | ⟨k1,_,_,k4 | k4⟩
  ·left;rw [k3.2.2];simp [k1]
  ·left;rw [k3.2.2];simp [k1]
  ·left;rw [k3.2.2];simp [k1]
  ·right;rw [k4.2];simp [k1]
  ·right;rw [k4.2];simp [k1]
 ·right
  rw [h1]
  refine ⟨h2,by simp,?_⟩
  rcases h6 with ⟨k1,_,k3 | k3 | k3⟩ | ⟨k1,_,_,k4 | k4⟩
  ·left;rw [k3.2.2];simp [k1]
  ·left;rw [k3.2.2];simp [k1]
  ·left;rw [k3.2.2];simp [k1]
  ·right;rw [k4.2];simp [k1]
  ·right;rw [k4.2];simp [k1]
theorem rest_out (Aa Ab Ka Kb lt:Bool) (s:Nat):Z5o Aa Ab Ka Kb false lt s≤Z5o Aa Ab Ka Kb true false s+2:=by
 unfold Z5o
 cases Aa<;>cases Ab<;>by_cases h2:s=2<;>by_cases h1:s=1<;>simp [h1,h2]
theorem rest_in (Aa Ab Ka Kb lt lt':Bool) (s:Nat):Z5o Aa Ab Ka Kb true lt' s≤Z5o Aa Ab Ka Kb false lt s+2:=by
 unfold Z5o
 cases Aa<;>cases Ab<;>cases lt'<;>by_cases h2:s=2<;>by_cases h1:s=1<;>simp [h1,h2]
theorem potB_fork {x y x':Side} {ta tb:Int} {na nb:Bool} {cab cba N:List Int} (hx:x.Fork=true) (hx':x'.Fork=false) (hb:x'.Bottle=x.Bottle) (ha:x'.Ask=x.Ask) (hy:y.Fork=false) (h1:(1:Int)∉cab) (h2:(1:Int)∉cba) (n1:(1:Int)∈N) (n3:(3:Int)∉N) (n4:(4:Int)∉N):
  Z7o x' y ta tb na nb (cab++N) cba≤Z7o x y ta tb na nb cab cba+2:=by
 unfold Z7o owns Z6o
 have e3:decide ((3:Int)∈cab++N)=decide ((3:Int)∈cab):=by rw [decide_eq_decide,List.mem_append];exact ⟨fun h=>h.resolve_right n3,.inl⟩
 have e1:decide ((1:Int)∈cab++N)=true:=decide_eq_true (List.mem_append.2 (.inr n1))
 have e2:decide ((1:Int)∈cba)=false:=decide_eq_false h2
 have e4:stA y (cab++N)=stA y cab:=by
  unfold stA
  have:((4:Int)∈cab++N)↔(4:Int)∈cab:=by rw [List.mem_append];exact ⟨fun h=>h.resolve_right n4,.inl⟩
  simp only [this]
 have e5:stA x' cba=stA x cba:=by unfold stA;rw [ha]
 have e6:decide ((1:Int)∈cab)=false:=decide_eq_false h1
 rw [e3,e1,e2,e4,e5,e6,hb,ha,hx,hx',hy,late_no1 h2]
 simp only [Bool.or_false,Bool.or_true,ite_self]
 have k1:=rest_out (Z4o ta na) (Z4o tb nb) (kept ta na) (kept tb nb) false (stA x cba)
 cases (x.Bottle||decide ((3:Int)∈cba)) with
 | true=>
   simp only [if_true]
   omega
 | false=>
   simp only [Bool.false_eq_true,if_false]
   have k2:=rest_in (Z4o tb nb) (Z4o ta na) (kept tb nb) (kept ta na) (if y.Ask=true then false else Z1o cab) (if y.Ask=true then true else Z1o (cab++N)) (stA y cab)
   omega
theorem pot_fire {x y:Side} {pa pb ta tb:Int} {na nb:Bool} {cab cba:List Int} {ra rb:Int} (id:Int) (h:Zwe x y pa pb (f12 cab) (f12 cba) ra rb) (hs:pa=1→x.Token=true→x.Fork=true):
  pot (Z1b pa x) y pa pb ta tb na nb (cab++Ztn (Z2b id pa x)) cba≤pot x y pa pb ta tb na nb cab cba:=by
 by_cases hm:(x.Fork&&(x.Dirty&&(x.Token&&!decide (pa=2))))=true
 ·have hm':=hm
  simp only [Bool.and_eq_true,Bool.not_eq_true',decide_eq_false_iff_not] at hm'
  obtain ⟨m1,m2,m3,m4⟩:=hm'
  have hpos:=Z9o h
  rw [m1] at hpos
  rcases hpos with ⟨y1,y2,y3 | y3⟩ | ⟨y1,_⟩
  ·have e:Z0b pa x={x with Fork:=false,Dirty:=false}:=by unfold Z0b;rw [if_pos hm]
   have hk:(Ztn (Z2b id pa x)=[1,2]∨Ztn (Z2b id pa x)=[1])∧(Z1b pa x).Fork=false∧(Z1b pa x).Bottle=x.Bottle∧(Z1b pa x).Ask=x.Ask∧(Z1b pa x).Dirty=false:=by
    unfold Ztn Z2b Z1b
    rw [if_pos hm,e]
    dsimp only
    rw [m3]
    by_cases q:pa=1
    ·simp [q]
    ·simp [q]
   obtain ⟨k1,k2,k3,k4,k5⟩:=hk
   have hB:=potB_fork (ta:=ta) (tb:=tb) (na:=na) (nb:=nb) (N:=Ztn (Z2b id pa x)) m1 k2 k3 k4 y1 y2 y3.2 (by rcases k1 with k | k<;>rw [k]<;>simp) (by rcases k1 with k | k<;>rw [k]<;>simp) (by rcases k1 with k | k<;>rw [k]<;>simp)
   have hF:Z8o (Z1b pa x) y pa pb (cab++Ztn (Z2b id pa x)) cba+1≤Z8o x y pa pb cab cba:=by
    unfold Z8o
    rw [Zrn,(Zun id pa x).1,List.length_append]
    have p1:pdx x pa=3:=by unfold pdx;simp [m1,m2,m4]
    have p2:pdx (Z1b pa x) pa=0:=by unfold pdx;simp [k2]
    have p3:(Ztn (Z2b id pa x)).length≤2:=by rcases k1 with k | k<;>rw [k]<;>simp
    rw [p1,p2]
    omega
   unfold pot
   omega
  ·exact absurd y3.1 (by simp)
  ·exact absurd y1 (by simp)
 ·have e:Z0b pa x=x:=by unfold Z0b;rw [if_neg hm]
  have hn:¬(decide (pa=1)&&((Z0b pa x).Token&&!(Z0b pa x).Fork))=true:=by
   rw [e]
   simp only [Bool.and_eq_true,decide_eq_true_eq,Bool.not_eq_true',not_and,Bool.not_eq_false]
   exact hs
  have e2:Z1b pa x=x:=by unfold Z1b;rw [if_neg hn,e]
  have e3:Z2b id pa x=[]:=by unfold Z2b;rw [if_neg hm,if_neg hn];rfl
  rw [e2,e3]
  simp [Ztn]
theorem pot_phase {x y:Side} {pa pb ta tb:Int} {na nb:Bool} {cab cba:List Int} (hp:pa=2):pot x y 0 pb ta tb na nb cab cba≤pot x y pa pb ta tb na nb cab cba:=by
 unfold pot Z8o pdx ph3
 subst hp
 simp only [decide_true,Bool.not_true,Bool.and_false,Bool.false_eq_true,if_false,if_true]
 have:(if (x.Fork&&(x.Dirty&&!decide ((0:Int)=2)))=true then 3 else 0)≤3:=by split<;>omega
 rw [if_neg (show ¬(2:Int)=0 by omega)]
 omega
theorem pot_eat {x y:Side} {pb ta tb:Int} {na nb:Bool} {cab cba:List Int}:pot (Z3b x) y 2 pb ta tb na nb cab cba≤pot x y 1 pb ta tb na nb cab cba:=by
 have e1:Z7o (Z3b x) y ta tb na nb cab cba=Z7o x y ta tb na nb cab cba:=rfl
 unfold pot
 rw [e1]
 unfold Z8o
 have p2:pdx (Z3b x) 2=0:=by unfold pdx;simp
 have p3:ph3 2=ph3 1:=rfl
 rw [p2,p3]
 omega
theorem pot_bot {x y:Side} {pa pb ta tb:Int} {na nb:Bool} {cab cba:List Int} (id:Int) (h:Zwn x y (f34 cab) (f34 cba))
  (hf:(y.Fork=false∧(1:Int)∉cab∧(x.Fork=true∧(1:Int)∉cba∨x.Fork=false∧(1:Int)∈cba))∨(x.Fork=false∧(1:Int)∉cba∧(y.Fork=true∧(1:Int)∉cab∨y.Fork=false∧(1:Int)∈cab))):
  pot (Zvi na ta x) y pa pb ta tb na nb (cab++Ztn (Zwi id na ta x)) cba≤pot x y pa pb ta tb na nb cab cba:=by
 have hF:Z8o (Zvi na ta x) y pa pb (cab++Ztn (Zwi id na ta x)) cba=Z8o x y pa pb cab cba:=by
  obtain ⟨_,_,_,b4,b5,_⟩:=Zxi na ta x
  unfold Z8o pdx
  rw [Zrn,(Zvn id ta na x).2,List.append_nil,b4,b5]
 unfold pot
 rw [hF]
 suffices hB:Z7o (Zvi na ta x) y ta tb na nb (cab++Ztn (Zwi id na ta x)) cba≤Z7o x y ta tb na nb cab cba by omega
 have m34:∀(k:Int) (c:List Int),¬k≤2→(k∈c↔k∈f34 c):=fun k c hk=>(Z3o hk).symm
 by_cases hg:(x.Bottle&&(x.Ask&&!Zti na ta x))=true
 ·have hg':=hg
  simp only [Bool.and_eq_true,Bool.not_eq_true'] at hg'
  obtain ⟨g1,g2,g3⟩:=hg'
  have hsh:f34 cab=[]∧y.Bottle=false∧y.Ask=false∧f34 cba=[]:=by
   rcases h with ⟨h1,h2,⟨h3,h4 | h4 | h4⟩ | ⟨h3,h4,h5⟩⟩ | ⟨h1,h2,_⟩
   ·exact ⟨h1,h2,h4.2.1,h4.2.2⟩
   ·rw [g2] at h4;exact absurd h4.1 (by simp)
   ·rw [g2] at h4;exact absurd h4.1 (by simp)
   ·rw [g1] at h3;exact absurd h3 (by simp)
   ·rw [g1] at h2;exact absurd h2 (by simp)
  obtain ⟨c1,c2,c3,c4⟩:=hsh
  have a3:(3:Int)∉cab:=by rw [m34 3 cab (by omega),c1];simp
  have a4:(4:Int)∉cab:=by rw [m34 4 cab (by omega),c1];simp
  have b3:(3:Int)∉cba:=by rw [m34 3 cba (by omega),c4];simp
  have e1:Zui na ta x={x with Bottle:=false}:=by unfold Zui;rw [if_pos hg]
  unfold Zti at g3
  by_cases hA:Z4o ta na=true
  ·have hA':=hA
   unfold Z4o at hA'
   rw [Bool.and_eq_true,decide_eq_true_eq] at hA'
   obtain ⟨t1,n1⟩:=hA'
   have hfx:x.Fork=false:=by
    rw [t1,n1] at g3;simpa using g3
   have e2:Zvi na ta x={x with Bottle:=false,Ask:=false}:=by
    unfold Zvi
    rw [e1,t1,n1]
    simp [g2]
   have e3:Ztn (Zwi id na ta x)=[3,4]:=by
    unfold Ztn Zwi
    rw [if_pos hg,e1,t1,n1]
    simp [g2]
   have hK:kept ta na=false:=by unfold kept;rw [t1];rfl
   rw [e2,e3]
   unfold Z7o owns Z6o stA
   simp only [g1,g2,c3,hA,hK,Z2o,List.mem_append,a3,b3,a4,hfx]
   simp only [Z1o,decide_false,Bool.or_false,Bool.false_or,List.mem_cons,List.not_mem_nil,Bool.false_eq_true,if_true,if_false,or_false,false_or]
   simp only [show ((3:Int)=4)=False from by simp,show ((4:Int)=3)=False from by simp,show ((1:Int)=3)=False from by simp,show ((1:Int)=4)=False from by simp,or_true,or_false,decide_true,decide_false,if_true,if_false]
   rcases hf with ⟨q1,q2,⟨q3,_⟩ | ⟨_,q4⟩⟩ | ⟨_,q2,⟨q3,q4⟩ | ⟨q3,q4⟩⟩
   ·rw [hfx] at q3;exact absurd q3 (by simp)
   ·unfold Z5o
    rw [q1]
    simp only [decide_eq_true q4,decide_eq_false q2]
    cases Z4o tb nb<;>cases kept tb nb<;>simp
   ·unfold Z5o
    rw [q3]
    simp only [decide_eq_false q4,decide_eq_false q2]
    cases Z4o tb nb<;>cases kept tb nb<;>simp
   ·unfold Z5o
    rw [q3]
    simp only [decide_eq_true q4,decide_eq_false q2]
    cases Z4o tb nb<;>cases kept tb nb<;>simp
  ·have hA0:Z4o ta na=false:=by simpa using hA
   have hc:(decide (ta=1)&&(na&&((Zui na ta x).Ask&&!(Zui na ta x).Bottle)))=false:=by
    rw [←Bool.and_assoc]
    unfold Z4o at hA0
    rw [hA0];rfl
   have e2:Zvi na ta x={x with Bottle:=false}:=by
    unfold Zvi
    rw [hc,e1];rfl
   have e3:Ztn (Zwi id na ta x)=[3]:=by
    unfold Ztn Zwi
    rw [if_pos hg,hc]
    rfl
   have hK:kept ta na=false:=by
    unfold kept
    rw [Bool.and_comm]
    cases na with
    | false=>rfl
    | true=>simp only [Bool.true_and,Bool.or_eq_false_iff] at g3;rw [g3.1];rfl
   rw [e2,e3]
   unfold Z7o owns Z6o stA
   simp only [g1,g2,c3,hA0,hK,Z2o,List.mem_append,a3,b3,a4]
   simp only [Z1o,decide_false,Bool.or_false,List.mem_cons,List.not_mem_nil,Bool.false_eq_true,if_true,if_false,or_false,false_or]
   simp only [show ((3:Int)=4)=False from by simp,show ((4:Int)=3)=False from by simp,decide_true,if_true,if_false]
   unfold Z5o
   cases Z4o tb nb<;>cases kept tb nb<;>simp
 ·have e1:Zui na ta x=x:=by unfold Zui;rw [if_neg hg]
  by_cases hc:(decide (ta=1)&&(na&&(x.Ask&&!x.Bottle)))=true
  ·have hc':=hc
   simp only [Bool.and_eq_true,decide_eq_true_eq,Bool.not_eq_true'] at hc'
   obtain ⟨t1,n1,k1,k2⟩:=hc'
   have e2:Zvi na ta x={x with Ask:=false}:=by
    unfold Zvi
    rw [e1,if_pos hc]
   have e3:Ztn (Zwi id na ta x)=[4]:=by
    unfold Ztn Zwi
    rw [if_neg hg,e1,if_pos hc]
    rfl
   have hA:Z4o ta na=true:=by unfold Z4o;rw [t1,n1];rfl
   have hK:kept ta na=false:=by unfold kept;rw [t1];rfl
   have hsh:y.Ask=false∧f34 cba=[]∧(4:Int)∉f34 cab:=by
    rcases h with ⟨h1,h2,⟨h3,h4⟩ | ⟨h3,h4,h5⟩⟩ | ⟨h1,h2,⟨h3,h4 | h4 | h4⟩ | ⟨h3,h4,h5 | h5⟩⟩
    ·rw [k2] at h3;exact absurd h3 (by simp)
    ·rw [k1] at h4;exact absurd h4 (by simp)
    ·rw [k1] at h4;exact absurd h4.2.1 (by simp)
    ·exact ⟨h4.1,h1,by rw [h4.2.2];simp⟩
    ·rw [k1] at h4;exact absurd h4.2.1 (by simp)
    ·exact ⟨h4,h1,by rw [h5.2];simp⟩
    ·rw [k1] at h5;exact absurd h5.1 (by simp)
   obtain ⟨c1,c2,c3⟩:=hsh
   have a4:(4:Int)∉cab:=by rw [m34 4 cab (by omega)];exact c3
   have b3:(3:Int)∉cba:=by rw [m34 3 cba (by omega),c2];simp
   rw [e2,e3]
   unfold Z7o owns Z6o stA
   simp only [k2,c1,hA,hK,Z2o,List.mem_append,b3,a4]
   simp only [Z1o,decide_false,Bool.or_false,List.mem_cons,List.not_mem_nil,Bool.false_eq_true,if_true,if_false,or_false,false_or]
   simp only [show ((3:Int)=4)=False from by simp,show ((1:Int)=4)=False from by simp,or_false]
   unfold Z5o
   cases Z4o tb nb<;>cases kept tb nb<;>cases (y.Fork||decide ((1:Int)∈cab))<;>simp
  ·have e2:Zvi na ta x=x:=by
    unfold Zvi
    rw [e1,if_neg hc]
   have e3:Ztn (Zwi id na ta x)=[]:=by
    unfold Ztn Zwi
    rw [if_neg hg,e1,if_neg hc]
    rfl
   rw [e2,e3,List.append_nil]
   exact Nat.le_refl _
theorem pot_drink {x y:Side} {pa pb ta tb:Int} {na nb:Bool} {cab cba:List Int} (ht:ta=1) (hn:na=true→x.Bottle=true):pot x y pa pb 2 tb na nb cab cba≤pot x y pa pb ta tb na nb cab cba:=by
 subst ht
 unfold pot
 suffices hB:Z7o x y 2 tb na nb cab cba≤Z7o x y 1 tb na nb cab cba by omega
 unfold Z7o Z6o
 cases hna:na with
 | false=>
   have e1:Z4o 2 false=Z4o 1 false:=rfl
   have e2:kept 2 false=kept 1 false:=rfl
   rw [e1,e2]
   exact Nat.le_refl _
 | true=>
   have ho:owns x cba=true:=by unfold owns;rw [hn hna];rfl
   rw [ho]
   simp only [if_true]
   have e1:Z4o 2 true=false:=rfl
   have e2:kept 2 true=true:=rfl
   have e3:Z4o 1 true=true:=rfl
   have e4:kept 1 true=false:=rfl
   rw [e1,e2,e3,e4]
   have key:∀s:Nat,Z5o false (Z4o tb nb) true (kept tb nb) (x.Fork||decide ((1:Int)∈cba)) (if x.Ask=true then decide ((1:Int)∈cba) else Z1o cba) s≤Z5o true (Z4o tb nb) false (kept tb nb) (x.Fork||decide ((1:Int)∈cba)) (if x.Ask=true then decide ((1:Int)∈cba) else Z1o cba) s:=fun s=>by
    unfold Z5o
    cases Z4o tb nb<;>cases kept tb nb<;>cases (x.Fork||decide ((1:Int)∈cba))<;>cases (if x.Ask=true then decide ((1:Int)∈cba) else Z1o cba)<;>by_cases h2:s=2<;>by_cases h1:s=1<;>simp [h1,h2]
   have:=key (stA x cba)
   omega
theorem pot_get {x y:Side} {pa pb ta tb:Int} {na nb:Bool} {cab cba:List Int} {ra rb k:Int} (hd:x.Dirty=true→x.Fork=true) (h1:1≤k) (h4:k≤4) (he:Zwe x y pa pb (f12 cab) (f12 (k::cba)) ra rb) (hb:Zwn x y (f34 cab) (f34 (k::cba))):
  pot (if k≤2 then Z2e x k else NX.getT x k) y pa pb ta tb na nb cab cba+1≤pot x y pa pb ta tb na nb cab (k::cba):=by
 have hk:k=1∨k=2∨k=3∨k=4:=by omega
 have hpos:=Z9o he
 rcases hk with rfl | rfl | rfl | rfl
 ·
  have hg:=Zwe.getF (cba:=f12 cba) he hd
  have n1:(1:Int)∉cba:=by
   have h6:=Z9o (cba:=cba) hg.1
   rcases h6 with ⟨_,_,⟨_,h⟩ | ⟨h,_⟩⟩ | ⟨h,_⟩
   ·exact h
   ·exact absurd h (by simp)
   ·exact absurd h (by simp)
  have hF:Z8o {x with Fork:=true} y pa pb cab cba+1≤Z8o x y pa pb cab (1::cba):=by
   unfold Z8o
   have p1:pdx {x with Fork:=true} pa=0:=by unfold pdx;simp [hg.2.2]
   have p2:(f12 (1::cba)).length=(f12 cba).length+1:=rfl
   rw [p1,p2]
   omega
  have hB:Z7o {x with Fork:=true} y ta tb na nb cab cba≤Z7o x y ta tb na nb cab (1::cba):=by
   unfold Z7o owns Z6o stA
   have e3:((3:Int)∈(1:Int)::cba)↔(3:Int)∈cba:=by simp
   have e4:((4:Int)∈(1:Int)::cba)↔(4:Int)∈cba:=by simp
   have e5:Z1o (1::cba)=Z1o cba:=rfl
   have e1:((1:Int)∈(1:Int)::cba)↔True:=by simp
   simp only [e3,e4,e5,e1,decide_true,decide_eq_false n1,late_no1 n1,Bool.or_true,Bool.true_or,ite_self]
   cases (x.Bottle||decide ((3:Int)∈cba)) with
   | false=>exact Nat.le_refl _
   | true=>
     simp only [if_true]
     have key:∀(lt:Bool) (s:Nat),Z5o (Z4o ta na) (Z4o tb nb) (kept ta na) (kept tb nb) true false s≤Z5o (Z4o ta na) (Z4o tb nb) (kept ta na) (kept tb nb) true lt s:=fun lt s=>by
      unfold Z5o
      cases Z4o ta na<;>cases Z4o tb nb<;>cases lt<;>by_cases h2:s=2<;>by_cases h1:s=1<;>simp [h1,h2]
     have:=key (if x.Ask=true then true else false) (if x.Ask=true then 2 else if (4:Int)∈cba then 1 else 0)
     omega
  have eg:(if (1:Int)≤2 then Z2e x 1 else NX.getT x 1)={x with Fork:=true}:=rfl
  rw [eg]
  unfold pot
  omega
 ·
  have hF:Z8o {x with Token:=true} y pa pb cab cba+1≤Z8o x y pa pb cab (2::cba):=by
   unfold Z8o
   have p1:pdx {x with Token:=true} pa=pdx x pa:=rfl
   have p2:(f12 (2::cba)).length=(f12 cba).length+1:=rfl
   rw [p1,p2]
   omega
  have hB:Z7o {x with Token:=true} y ta tb na nb cab cba=Z7o x y ta tb na nb cab (2::cba):=by
   unfold Z7o owns Z6o stA
   have e3:((3:Int)∈(2:Int)::cba)↔(3:Int)∈cba:=by simp
   have e4:((4:Int)∈(2:Int)::cba)↔(4:Int)∈cba:=by simp
   have e5:Z1o (2::cba)=Z1o cba:=rfl
   have e1:((1:Int)∈(2:Int)::cba)↔(1:Int)∈cba:=by simp
   simp only [e3,e4,e5,e1]
  have eg:(if (2:Int)≤2 then Z2e x 2 else NX.getT x 2)={x with Token:=true}:=rfl
  rw [eg]
  unfold pot
  omega
 ·
  have hg:=Zwn.getB (cba:=f34 cba) hb
  have hsh:(3:Int)∉cba∧(3:Int)∉cab:=by
   rw [←Z3o (k:=3) (c:=cba) (by omega),←Z3o (k:=3) (c:=cab) (by omega)]
   rcases hg.1 with ⟨h1,h2,⟨_,h4 | h4 | h4⟩ | ⟨h3,_⟩⟩ | ⟨h1,h2,_⟩
   ·rw [h1,h4.2.2];simp
   ·rw [h1,h4.2.2];simp
   ·rw [h1,h4.2.2];simp
   ·exact absurd h3 (by simp)
   ·exact absurd h2 (by simp)
  have hF:Z8o {x with Bottle:=true} y pa pb cab cba=Z8o x y pa pb cab (3::cba):=rfl
  have hB:Z7o {x with Bottle:=true} y ta tb na nb cab cba+1=Z7o x y ta tb na nb cab (3::cba):=by
   unfold Z7o owns Z6o stA
   have e3:((3:Int)∈(3:Int)::cba)↔True:=by simp
   have e4:((4:Int)∈(3:Int)::cba)↔(4:Int)∈cba:=by simp
   have e5:Z1o (3::cba)=Z1o cba:=rfl
   have e1:((1:Int)∈(3:Int)::cba)↔(1:Int)∈cba:=by simp
   simp only [e3,e4,e5,e1,decide_true,decide_eq_false hsh.1,decide_eq_false hsh.2,Bool.or_true,Bool.or_false,if_true,Bool.false_eq_true,if_false]
   omega
  have eg:(if (3:Int)≤2 then Z2e x 3 else NX.getT x 3)={x with Bottle:=true}:=rfl
  rw [eg]
  unfold pot
  omega
 ·
  obtain ⟨g1,g2,g3⟩:=Zwn.getA (cba:=f34 cba) hb
  have hF:Z8o {x with Ask:=true} y pa pb cab cba=Z8o x y pa pb cab (4::cba):=rfl
  have hB:Z7o {x with Ask:=true} y ta tb na nb cab cba+1=Z7o x y ta tb na nb cab (4::cba):=by
   unfold Z7o owns Z6o stA
   have e3:((3:Int)∈(4:Int)::cba)↔(3:Int)∈cba:=by simp
   have e4:((4:Int)∈(4:Int)::cba)↔True:=by simp
   have e5:Z1o (4::cba)=decide ((1:Int)∈cba):=rfl
   have e1:((1:Int)∈(4:Int)::cba)↔(1:Int)∈cba:=by simp
   simp only [e3,e4,e5,e1,g2,g3,Bool.true_or,if_true,Bool.false_eq_true,if_false]
   have key:∀(F lt:Bool),Z5o (Z4o ta na) (Z4o tb nb) (kept ta na) (kept tb nb) F lt 2+1=Z5o (Z4o ta na) (Z4o tb nb) (kept ta na) (kept tb nb) F lt 1:=fun F lt=>by
    unfold Z5o
    cases Z4o ta na<;>cases Z4o tb nb<;>cases lt<;>cases F<;>simp<;>omega
   have:=key (x.Fork||decide ((1:Int)∈cba)) (decide ((1:Int)∈cba))
   omega
  have eg:(if (4:Int)≤2 then Z2e x 4 else NX.getT x 4)={x with Ask:=true}:=rfl
  rw [eg]
  unfold pot
  omega
set_option maxRecDepth 100000
set_option maxHeartbeats 4000000
set_option maxRecDepth 100000
set_option maxHeartbeats 4000000
@[go_sem] def e4:EC:=.seq (.reg [(Qx 2 53 2 0),(Qa 4 (.mv (.c .ff)))]) (.seq (.seq (.reg [(Qa 7 (.call 11 [])),(Qa 8 (.not (.t 7))),(Qm 9 8),(Qg 10 9 false (.loadA 2 (.t 2))),(Qg 11 9 false (.mv (.t 1))),(Qg 12 9 false (.call 28 [(.t 10),(.t 11)])),(Qg 13 9 false (.not (.t 12))),(Qq 14 9 13)]) (.ite (.t 14) (.seq (.reg [(Qa 15 (.call 11 [])),(Qm 4 15)]) (.ret)) (.skip))) (.seq (.reg [(Qe 17 2 2),(Qm 18 1),(Qa 19 (.mkf 30 [(.t 2)])),(Qa 20 (.call 29 [(.t 17),(.t 18),(.t 19)])),(Qm 16 20),(Qa 21 (.ext (.t 16) 0)),(Qa 22 (.ext (.t 16) 1)),(Qa 5 (.alloc 25 [.nl,.nl])),(Qs 2 5 21),(Qm 6 22)]) (.seq (.reg [(Qm 23 6),(Qm 4 23)]) (.ret))))
set_option maxRecDepth 100000
set_option maxHeartbeats 4000000
set_option maxRecDepth 100000
set_option maxHeartbeats 4000000
@[go_sem] def e5:EC:=.seq (.reg [(Qx 2 53 2 0),(Qa 4 (.mv (.c .ff)))]) (.seq (.seq (.reg [(Qa 7 (.call 11 [])),(Qa 8 (.not (.t 7))),(Qm 9 8),(Qg 10 9 false (.loadA 2 (.t 2))),(Qg 11 9 false (.mv (.t 1))),(Qg 12 9 false (.call 28 [(.t 10),(.t 11)])),(Qg 13 9 false (.not (.t 12))),(Qq 14 9 13)]) (.ite (.t 14) (.seq (.reg [(Qa 15 (.call 11 [])),(Qm 4 15)]) (.ret)) (.skip))) (.seq (.reg [(Qe 17 2 2),(Qm 18 1),(Qa 19 (.call 29 [(.t 17),(.t 18),(.c (.clo 31 []))])),(Qm 16 19),(Qa 20 (.ext (.t 16) 0)),(Qa 21 (.ext (.t 16) 1)),(Qa 5 (.alloc 25 [.nl,.nl])),(Qs 2 5 20),(Qm 6 21)]) (.seq (.reg [(Qm 22 6),(Qm 4 22)]) (.ret))))
theorem Zao {g:Graph} {e:Edge} (hlt:e.A<e.B) (k:Int):∀M:List Mail,(∀m∈M,mailR g m)→Zte M e k 1=cnt M k e.A e.B+cnt M k e.B e.A
 | [],_=>rfl
 | m::M,h=>by
   have ih:=Zao hlt k M fun x hx=>h x (by simp [hx])
   obtain ⟨h1,h2,h3,h4⟩:=h m (by simp)
   have hm:bn (mailB e k 1 m)=bn (decide (m=⟨e.A,e.B,⟨k,1,0⟩⟩))+bn (decide (m=⟨e.B,e.A,⟨k,1,0⟩⟩)):=by
    obtain ⟨f,t,⟨kk,ep,n⟩⟩:=m
    dsimp only at h2 h3
    subst h2;subst h3
    unfold mailB
    dsimp only
    simp only [Mail.mk.injEq,Msg.mk.injEq]
    by_cases hk:kk=k
    ·by_cases c1:f=e.A∧t=e.B
     ·have:¬(f=e.B∧t=e.A):=by omega
      have m1:min f t=min e.A e.B:=by omega
      have m2:max f t=max e.A e.B:=by omega
      obtain ⟨c1,c2⟩:=c1
      have d2:¬e.A=e.B:=by omega
      rw [m1,m2,hk]
      simp [c1,c2,bn,d2]
     ·by_cases c2:f=e.B∧t=e.A
      ·have m1:min f t=min e.A e.B:=by omega
       have m2:max f t=max e.A e.B:=by omega
       obtain ⟨c3,c4⟩:=c2
       have d2:¬e.B=e.A:=by omega
       rw [m1,m2,hk]
       simp [c3,c4,bn,d2]
      ·have:¬(min f t=min e.A e.B∧max f t=max e.A e.B):=by omega
       have e1:(decide (min f t=min e.A e.B)&&decide (max f t=max e.A e.B))=false:=by
        rw [←Bool.decide_and,decide_eq_false_iff_not];exact this
       rw [e1]
       simp [bn]
       rw [if_neg (by omega),if_neg (by omega)]
    ·simp [hk,bn]
   unfold Zte cnt at ih ⊢
   rw [List.countP_cons,List.count_cons,List.count_cons,ih]
   unfold bn at hm
   simp only [decide_eq_true_eq,beq_iff_eq] at hm ⊢
   omega
theorem InvB.get {g:Graph} {s:Bar} (h:InvB g s) {a:Int} (h0:0≤a) (h1:a<g.N):∃d,s.Drinkers[a.toNat]?=some d:=by
 have hl:=h.tab.len
 have e:(Zxm s).Diners.length=s.Drinkers.length:=by simp [Zxm]
 exact ⟨_,List.getElem?_eq_getElem (by omega)⟩
theorem cnt_k12 (M:List Mail) {k:Int} (hk:k≤2) (p q:Int):cnt (M.filter k12) k p q=cnt M k p q:=by
 unfold cnt
 exact List.count_filter (decide_eq_true hk)
theorem InvB.count {g:Graph} {s:Bar} (hg:okG g=true) (h:InvB g s) {e:Edge} (he:e∈g.Edges) {k:Int} (h1:1≤k) (h4:k≤4):Zqm s e k=1:=by
 obtain ⟨g1,g2,g3,g4,g5⟩:=Zl7 hg
 obtain ⟨e1,e2,e3⟩:=g4 e he
 have nB:e.B∈Zq9 g e.A:=(Zu9 hg).2 (.inl he)
 have nA:=Z4a hg nB
 obtain ⟨da,ha⟩:=h.get e1 (by omega)
 obtain ⟨db,hb⟩:=h.get (a:=e.B) (by omega) (by omega)
 have hat:=Zym ha
 have hbt:=Zym hb
 obtain ⟨x,hx,xm⟩:=h.tab.sided e1 hat nB
 obtain ⟨y,hy,ym⟩:=h.tab.sided (by omega) hbt nA
 have hxe:=((h.tab.loc _ (List.mem_iff_getElem?.2 ⟨_,hat⟩)).side x xm).1
 have hye:=((h.tab.loc _ (List.mem_iff_getElem?.2 ⟨_,hbt⟩)).side y ym).1
 have eA:=Int.toNat_of_nonneg e1
 have eB:=Int.toNat_of_nonneg (show 0≤e.B by omega)
 have la:=(List.getElem?_eq_some_iff.1 ha).1
 have lb:=(List.getElem?_eq_some_iff.1 hb).1
 have hcm:=Zao e2 k s.Mail h.mail
 unfold Zqm
 by_cases hk:k=3∨k=4
 ·have hone:=h.two e.A.toNat e.B.toNat da db ha hb (by rw [eA,eB];exact nB) k hk
  rw [eA,eB] at hone
  unfold hasT at hone
  rw [hx,hy] at hone
  dsimp only at hone
  rw [if_pos hk,show Zcm s e.A=true from Zem.2 ⟨e1,by omega⟩,show Zcm s e.B=true from Zem.2 ⟨by omega,by omega⟩,Bool.and_self,if_pos rfl,ha,hb]
  dsimp only
  rw [hx,hy]
  dsimp only
  rw [if_pos (hxe.trans hye.symm),hxe]
  omega
 ·have hk2:k=1∨k=2:=by omega
  rw [if_neg hk]
  have hone:=h.tab.one e.A.toNat e.B.toNat da.Diner db.Diner hat hbt (by rw [eA,eB];exact nB) k hk2
  rw [eA,eB] at hone
  unfold hasD at hone
  rw [hx,hy] at hone
  dsimp only at hone
  have c1:cnt (Zxm s).Mail k e.A e.B=cnt s.Mail k e.A e.B:=cnt_k12 s.Mail (by omega) _ _
  have c2:cnt (Zxm s).Mail k e.B e.A=cnt s.Mail k e.B e.A:=cnt_k12 s.Mail (by omega) _ _
  rw [c1,c2] at hone
  have hsl:(scB s).Diners.length=s.Drinkers.length:=by simp [scB]
  unfold countS
  rw [show Zqc (scB s) e.A=true from Zzd.2 ⟨e1,by omega⟩,show Zqc (scB s) e.B=true from Zzd.2 ⟨by omega,by omega⟩]
  have ga:(scB s).Diners[e.A.toNat]?=some da.Diner:=hat
  have gb:(scB s).Diners[e.B.toNat]?=some db.Diner:=hbt
  rw [ga,gb]
  dsimp only
  rw [hx,hy]
  dsimp only
  have hcond:(decide (x.Epoch=y.Epoch)&&(decide (k=1)||decide (k=2)))=true:=by
   rw [hxe,hye]
   rcases hk2 with rfl | rfl<;>rfl
  rw [hcond,if_pos rfl,if_pos (show (true&&true)=true from rfl),hxe]
  have hm:(scB s).Mail=s.Mail:=rfl
  rw [hm]
  omega
theorem actS_set {s:Scene} (hs:∀(k:Nat) x,s.Diners[k]?=some x→x.ID=k) {a:Int} (h0:0≤a) (d:Diner):actS s a d=⟨s.Diners.set a.toNat (Z4b d),s.Mail++Z5b d⟩:=by
 have:=Zxd hs a.toNat (Z4b d)
 rw [Int.toNat_of_nonneg h0] at this
 unfold actS
 rw [this]
theorem turnS_ok {g:Graph} {s:Scene} (hg:okG g=true) (hN:g.N≤60) (h:Inv g s) {a p:Int} (q:Int) (h0:0≤a) {d:Diner} (hd:s.Diners[a.toNat]?=some d) (hp:d.Phase=p) (h1:0≤q) (h2:q<2):
  (turnS s a fun d=>turnD d p q)=(⟨s.Diners.set a.toNat (Z4b ⟨d.ID,q,d.Sides⟩),s.Mail++Z5b ⟨d.ID,q,d.Sides⟩⟩,0):=by
 have ht:Zqc s a=true:=Zzd.2 ⟨h0,by have:=(List.getElem?_eq_some_iff.1 hd).1;omega⟩
 obtain ⟨d',hd1,hd'⟩:=Zrc ht
 have e:d'=d:=by rw [hd] at hd';simpa using hd'.symm
 subst e
 have hok:=h.okd hg hN (List.mem_iff_getElem?.2 ⟨_,hd⟩)
 have h3:=h.phase hg hd (p:=q) h1 h2
 obtain ⟨k1,_⟩:=Inv.act (s:=s) hg hN h3 (Zyd hd) rfl rfl h.ids
 unfold turnS
 rw [h.ok hg hN,if_pos rfl,ht,if_pos rfl,hd1]
 dsimp only
 unfold turnD actP
 rw [hok,if_pos rfl,if_pos hp,if_pos rfl,if_pos k1,actS_set h.ids h0]
theorem turnS_eq {g:Graph} {s:Scene} (hg:okG g=true) (hN:g.N≤60) (h:Inv g s) {a p q:Int} (h1:0≤q) (h2:q<2) (he:(turnS s a fun d=>turnD d p q).2=0):
  ∃d,0≤a∧s.Diners[a.toNat]?=some d∧d.Phase=p∧(turnS s a fun d=>turnD d p q).1=⟨s.Diners.set a.toNat (Z4b ⟨d.ID,q,d.Sides⟩),s.Mail++Z5b ⟨d.ID,q,d.Sides⟩⟩:=by
 cases ht:Zqc s a with
 | false=>
   unfold turnS at he
   rw [h.ok hg hN,if_pos rfl,ht] at he
   exact absurd he (by show ¬(140:Int)=0;omega)
 | true=>
   obtain ⟨h0,_⟩:=Zzd.1 ht
   obtain ⟨d,hd1,hd⟩:=Zrc ht
   have hok:=h.okd hg hN (List.mem_iff_getElem?.2 ⟨_,hd⟩)
   by_cases hp:d.Phase=p
   ·exact ⟨d,h0,hd,hp,by rw [turnS_ok hg hN h q h0 hd hp h1 h2]⟩
   ·unfold turnS at he
    rw [h.ok hg hN,if_pos rfl,ht,if_pos rfl,hd1] at he
    dsimp only at he
    unfold turnD at he
    rw [hok,if_pos rfl,if_neg hp] at he
    exact absurd he (by show ¬(134:Int)=0;omega)
theorem sideO_none {d:Diner} {a:Int} (h:Z38 d a=none) (p:Int):Z38 ⟨d.ID,p,d.Sides⟩ a=none:=h
theorem Fair.turn {g:Graph} {s:Scene} (hg:okG g=true) (h:Fair g s) {a:Nat} {d:Diner} (hd:s.Diners[a]?=some d) (hp:d.Phase≠1) {q:Int} (h1:0≤q) (h2:q<2):Fair g ⟨s.Diners.set a (Z4b ⟨d.ID,q,d.Sides⟩),s.Mail++Z5b ⟨d.ID,q,d.Sides⟩⟩:=by
 obtain ⟨r,he⟩:=h.edge
 refine Fair.fire hg h.set (List.getElem?_eq_some_iff.1 hd).1 (h.inv.phase hg hd h1 h2) (r:=r) (he.set (sideO_none (h.inv.self hg hd) q) (fun _ _=>rfl) (fun _ _ _ _=>rfl) fun b db x y hb hdb hx hy=>?_)
 exact (he a b d db x y hd hdb hx hy).phase hp q
def pdD (d:Diner) (q:Int):Nat:=match Z38 d q with | some x=>if x.Fork&&(x.Dirty&&!decide (d.Phase=2)) then 2 else 0 | none=>0
def pd (s:Scene) (p:Nat) (q:Int):Nat:=match s.Diners[p]? with | some d=>pdD d q | none=>0
def psi (s:Scene) (p q:Nat):Nat:=(ch s.Mail p q).length+(ch s.Mail q p).length+pd s p q+pd s q p
theorem Zbo (s:Scene) (p q:Nat):psi s p q=psi s q p:=by unfold psi;omega
theorem Zco (d:Diner):(Z4b d).Phase=d.Phase∧(∀y,Zgb d y=Z1b d.Phase y)∨d.Phase=1∧(Z4b d).Phase=2:=by
 unfold Z4b Zgb
 cases hq:decide (d.Phase=1)&&(d.Sides.map (Z1b d.Phase)).all (·.Fork) with
 | false=>exact .inl ⟨rfl,fun _=>rfl⟩
 | true=>
   rw [Bool.and_eq_true,decide_eq_true_eq] at hq
   exact .inr ⟨hq.1,rfl⟩
theorem deliv_pd {d d1:Diner} {a:Int} {x:Side} {k:Int} (hs:SetD d) (hpw:d1.Sides.Pairwise fun x y=>x.Peer<y.Peer) (hx:Z38 d a=some x) (hd:x.Dirty=true→x.Fork=true) (hk:k=1∧x.Fork=false∨k=2∧x.Fork=true)
  (hph:d1.Phase=d.Phase) (h1:∀z:Int,Z38 d1 z=if z=a then some (Z2e x k) else Z38 d z):∀z:Int,pdD (Z4b d1) z+(ch (Z5b d1) d1.ID z).length≤pdD d z:=fun z=>by
 have hc:(ch (Z5b d1) d1.ID z).length=match Z38 d1 z with | some y=>(Z2b d1.ID d1.Phase y).length | none=>0:=by
  unfold Z5b
  rw [ch_fires d1.ID d1.Phase z d1.Sides hpw]
  unfold Z38
  cases d1.Sides.find? (fun x=>decide (x.Peer=z))<;>simp
 have hp:pdD (Z4b d1) z=match Z38 d1 z with | some y=>if (Zgb d1 y).Fork&&((Zgb d1 y).Dirty&&!decide ((Z4b d1).Phase=2)) then 2 else 0 | none=>0:=by
  unfold pdD
  rw [Zlb]
  cases Z38 d1 z<;>rfl
 rw [hc,hp,h1]
 by_cases hz:z=a
 ·subst hz
  rw [if_pos rfl]
  dsimp only
  unfold pdD
  rw [hx]
  dsimp only
  obtain ⟨p,e,st,f,dd,t,bo,ak⟩:=x
  dsimp only at hd hk ⊢
  rcases Zco d1 with ⟨q1,q2⟩ | ⟨q1,q2⟩
  ·rw [q1,q2,hph]
   unfold Z2e Z2b Z1b Z0b
   rcases hk with ⟨rfl,hf⟩ | ⟨rfl,hf⟩
   ·subst hf
    cases dd<;>simp_all
   ·subst hf
    by_cases c2:d.Phase=2
    ·rw [c2];cases dd<;>cases t<;>simp
    ·by_cases c1:d.Phase=1
     ·rw [c1];cases dd<;>cases t<;>simp
     ·cases dd<;>cases t<;>simp [c1,c2]
  ·rw [q2,←hph,q1,show decide ((2:Int)=2)=true from rfl,Bool.not_true,Bool.and_false,Bool.and_false,if_neg (by simp),Nat.zero_add]
   unfold Z2e Z2b Z0b
   rcases hk with ⟨rfl,hf⟩ | ⟨rfl,hf⟩
   ·subst hf
    cases dd<;>simp_all
   ·subst hf
    cases dd<;>cases t<;>simp
 ·rw [if_neg hz]
  cases hy:Z38 d z with
  | none=>simp
  | some y=>
    dsimp only
    have hset:=(hs.side y (Zmb hy).1).fire d1.ID
    rw [←hph] at hset
    rw [hset.2]
    rcases Zco d1 with ⟨q1,q2⟩ | ⟨q1,q2⟩
    ·unfold pdD
     rw [q1,q2,hset.1,hy,hph]
     simp
    ·rw [q2]
     simp
def tz (d:Diner):Bool:=decide (d.Phase=0)
theorem map_set_same {α β:Type} {f:α→β} {l:List α} {k:Nat} {x y:α} (hx:l[k]?=some x) (h:f y=f x):(l.set k y).map f=l.map f:=by
 refine List.ext_getElem? fun n=>?_
 rw [List.getElem?_map,List.getElem?_map,List.getElem?_set]
 split
 ·rename_i e
  subst e
  have:=(List.getElem?_eq_some_iff.1 hx).1
  rw [hx,if_pos this];simp [h]
 ·rfl
theorem fireD_tz (d:Diner):tz (Z4b d)=tz d:=by
 unfold tz
 rcases Zco d with ⟨h,_⟩ | ⟨h1,h2⟩
 ·rw [h]
 ·rw [h1,h2];rfl
theorem Fair.deliv {g:Graph} {s:Scene} (hg:okG g=true) (hN:g.N≤60) (h:Fair g s) {a b:Int} (ht:Zqc s a=true) (ht':Zqc s b=true) {i:Nat} (hf:Zsc s a b=some i):
  ∃t,Ztc s a b=(t,0)∧Fair g t∧(∀p q:Nat,p≠q→psi t p q≤psi s p q)∧psi t a.toNat b.toNat+1≤psi s a.toNat b.toNat∧t.Diners.map tz=s.Diners.map tz:=by
 obtain ⟨a0,a1⟩:=Zzd.1 ht
 obtain ⟨b0,b1⟩:=Zzd.1 ht'
 obtain ⟨da,_,hda⟩:=Zrc ht
 obtain ⟨m,db,x,d1,hm,m1,m2,hdb,hx,hk,i1,i2,i3,hI,heq,_⟩:=delivS_eq hg hN h.inv ht ht' hf
 have hids:∀(k:Nat) x,s.Diners[k]?=some x→x.ID=k:=h.inv.ids
 rw [actS_set (s:=⟨s.Diners,s.Mail.take i++s.Mail.drop (i+1)⟩) hids b0] at heq
 dsimp only at heq
 obtain ⟨r,he⟩:=h.edge
 unfold Zsc at hf
 obtain ⟨c1,c2⟩:=ch_take hf hm
 have hmm:m∈s.Mail:=List.mem_iff_getElem?.2 ⟨_,hm⟩
 have hnear:=(h.inv.mail m hmm).2.2.2
 rw [m1,m2] at hnear
 have nab:=Z4a hg hnear
 have hne:a≠b:=fun e=>(Zv9 hg hnear).2.2.1 e.symm
 obtain ⟨y,hy,_⟩:=h.inv.sided a0 hda hnear
 have ea:((a.toNat:Nat):Int)=a:=Int.toNat_of_nonneg a0
 have eb:((b.toNat:Nat):Int)=b:=Int.toNat_of_nonneg b0
 have hE:=he b.toNat a.toNat db da x y hdb hda (by rw [ea];exact hx) (by rw [eb];exact hy)
 rw [ea,eb,c1] at hE
 have hxd:=((h.inv.loc db (List.mem_iff_getElem?.2 ⟨_,hdb⟩)).side x (Zmb hx).1).2.2
 have hget:Zwe (Z2e x m.Msg.Kind) y db.Phase da.Phase (ch s.Mail b a) (ch (s.Mail.take i++s.Mail.drop (i+1)) a b) (r b.toNat) (r a.toNat)∧(m.Msg.Kind=1∧x.Fork=false∨m.Msg.Kind=2∧x.Fork=true):=by
  rcases hk with h1 | h1
  ·rw [h1] at hE ⊢
   obtain ⟨k1,k2,k3⟩:=hE.getF hxd
   exact ⟨k1,.inl ⟨rfl,k2⟩⟩
  ·rw [h1] at hE ⊢
   obtain ⟨k1,k2⟩:=hE.getT
   exact ⟨k1,.inr ⟨rfl,k2⟩⟩
 have hself:Z38 d1 b.toNat=none:=by
  rw [i3,if_neg (by rw [eb];exact fun e=>hne e.symm)];exact h.inv.self hg hdb
 have hcm:∀p q:Int,¬(p=a∧q=b)→ch (s.Mail.take i++s.Mail.drop (i+1)) p q=ch s.Mail p q:=c2
 have he1:Zze r ⟨s.Diners.set b.toNat d1,s.Mail.take i++s.Mail.drop (i+1)⟩:=by
  refine he.set hself (fun _ _=>rfl) (fun p q hp hq=>hcm p q (by omega)) fun c dc x' y' hc hdc hx' hy'=>?_
  rw [i3] at hx'
  rw [eb,hcm b c (by omega)]
  by_cases hca:(c:Int)=a
  ·rw [if_pos hca] at hx'
   have hca':c=a.toNat:=by omega
   subst hca'
   have e1:dc=da:=by rw [hda] at hdc;simpa using hdc.symm
   subst e1
   rw [eb,hy] at hy'
   simp only [Option.some.injEq] at hx' hy'
   subst hx';subst hy'
   rw [ea,i2]
   exact hget.1
  ·rw [if_neg hca] at hx'
   rw [hcm c b (by omega),i2]
   have:=he b.toNat c db dc x' y' hdb hdc hx' hy'
   rwa [eb] at this
 have hlt:b.toNat<s.Diners.length:=by omega
 have hF:=Fair.fire hg h.set hlt hI he1
 have hd1:(s.Diners.set b.toNat d1)[b.toNat]?=some d1:=Zyd hdb
 have hpw:=hI.pw hg hd1
 have hid1:d1.ID=b:=by rw [i1,hids _ _ hdb,eb]
 have hpd:=deliv_pd (h.set db (List.mem_iff_getElem?.2 ⟨_,hdb⟩)) hpw hx hxd hget.2 i2 i3
 rw [hid1] at hpd
 refine ⟨_,heq,hF,?_,?_,?_⟩
 ·have hB:∀q:Nat,q≠b.toNat→psi ⟨s.Diners.set b.toNat (Z4b d1),s.Mail.take i++s.Mail.drop (i+1)++Z5b d1⟩ b.toNat q≤psi s b.toNat q:=fun q hq=>by
   have p1:=hpd q
   unfold psi pd
   dsimp only
   rw [Zyd hdb,List.getElem?_set,if_neg (fun e=>hq e.symm),hdb]
   dsimp only
   rw [eb,Zxe _ (Z5b d1),Zxe _ (Z5b d1),hcm b q (by omega),Zye (p:=q) (by rw [hid1];omega),List.append_nil,List.length_append]
   by_cases hqa:(q:Int)=a
   ·rw [hqa] at p1 ⊢
    rw [c1,List.length_cons]
    omega
   ·rw [hcm q b (by omega)]
    omega
  intro p q hpq
  by_cases hp:p=b.toNat
  ·subst hp
   exact hB q fun e=>hpq e.symm
  ·by_cases hq:q=b.toNat
   ·subst hq
    rw [Zbo _ p,Zbo s p]
    exact hB p hp
   ·unfold psi pd
    dsimp only
    rw [List.getElem?_set,List.getElem?_set,if_neg (fun e=>hp e.symm),if_neg (fun e=>hq e.symm),Zxe _ (Z5b d1),Zxe _ (Z5b d1),hcm p q (by omega),hcm q p (by omega),Zye (p:=p) (by rw [hid1];omega),Zye (p:=q) (by rw [hid1];omega),List.append_nil,List.append_nil]
    exact Nat.le_refl _
 ·have p1:=hpd a
  rw [Zbo _ a.toNat,Zbo s a.toNat]
  unfold psi pd
  dsimp only
  rw [Zyd hdb,List.getElem?_set,if_neg (by omega),hdb]
  dsimp only
  rw [ea,eb,Zxe _ (Z5b d1),Zxe _ (Z5b d1),hcm b a (by omega),Zye (p:=a) (by rw [hid1];exact hne),List.append_nil,List.length_append,c1,List.length_cons]
  omega
 ·dsimp only
  exact map_set_same hdb (by rw [fireD_tz];unfold tz;rw [i2])
theorem Fair.act {g:Graph} {s:Scene} (hg:okG g=true) (hN:g.N≤60) (h:Fair g s) (k a b:Int) (he:(actA s k a b).2=0):Fair g (actA s k a b).1:=by
 unfold actA at he ⊢
 split at he
 ·rename_i h1
  rw [if_pos h1]
  obtain ⟨d,d0,d1,d2,d3⟩:=turnS_eq hg hN h.inv (by omega) (by omega) he
  rw [d3]
  exact h.turn hg d1 (by omega) (by omega) (by omega)
 ·rename_i h1
  rw [if_neg h1]
  split at he
  ·rename_i h2
   rw [if_pos h2]
   obtain ⟨d,d0,d1,d2,d3⟩:=turnS_eq hg hN h.inv (by omega) (by omega) he
   rw [d3]
   exact h.turn hg d1 (by omega) (by omega) (by omega)
  ·rename_i h2
   rw [if_neg h2]
   cases ht:Zqc s a with
   | false=>
     unfold Ztc at he
     rw [h.inv.ok hg hN,if_pos rfl,ht] at he
     exact absurd he (by show ¬(140:Int)=0;omega)
   | true=>
     cases ht':Zqc s b with
     | false=>
       unfold Ztc at he
       rw [h.inv.ok hg hN,if_pos rfl,ht,ht'] at he
       exact absurd he (by show ¬(140:Int)=0;omega)
     | true=>
       cases hf:Zsc s a b with
       | none=>
         unfold Ztc at he
         rw [h.inv.ok hg hN,if_pos rfl,ht,ht',Bool.true_and,if_pos rfl,hf] at he
         exact absurd he (by show ¬(141:Int)=0;omega)
       | some i=>
         obtain ⟨t,e,k,_⟩:=h.deliv hg hN ht ht' hf
         rw [e]
         exact k
theorem sum_le {α:Type} {f g:α→Nat}:∀ {l:List α},(∀x∈l,f x≤g x)→(l.map f).sum≤(l.map g).sum
 | [],_=>Nat.le_refl _
 | x::l,h=>by
   have h1:=h x (by simp)
   have h2:=sum_le (l:=l) fun y hy=>h y (by simp [hy])
   simp only [List.map_cons,List.sum_cons];omega
theorem sum_lt {α:Type} {f g:α→Nat}:∀ {l:List α},(∀x∈l,f x≤g x)→(∃x∈l,f x+1≤g x)→(l.map f).sum+1≤(l.map g).sum
 | [],_,h=>by obtain ⟨x,hx,_⟩:=h;simp at hx
 | x::l,h,h'=>by
   have h1:=h x (by simp)
   have h3:∀y∈l,f y≤g y:=fun y hy=>h y (by simp [hy])
   simp only [List.map_cons,List.sum_cons]
   obtain ⟨y,hy,hlt⟩:=h'
   rcases List.mem_cons.1 hy with rfl | hy
   ·have:=sum_le h3;omega
   ·have:=sum_lt h3 ⟨y,hy,hlt⟩;omega
theorem sum_const {α:Type} {f:α→Nat} {c:Nat}:∀ {l:List α},(∀x∈l,f x≤c)→(l.map f).sum≤c*l.length
 | [],_=>Nat.zero_le _
 | x::l,h=>by
   have h1:=h x (by simp)
   have h2:=sum_const (l:=l) fun y hy=>h y (by simp [hy])
   simp only [List.map_cons,List.sum_cons,List.length_cons,Nat.mul_add];omega
def phi (g:Graph) (s:Scene):Nat:=(g.Edges.map fun e=>psi s e.A.toNat e.B.toNat).sum
theorem Zdo {g:Graph} (hg:okG g=true) {e:Edge} (he:e∈g.Edges):0≤e.A∧e.A<e.B∧e.B<g.N∧e.B∈Zq9 g e.A:=by
 obtain ⟨g1,g2,g3,g4,g5⟩:=Zl7 hg
 obtain ⟨e1,e2,e3⟩:=g4 e he
 exact ⟨e1,e2,e3,(Zu9 hg).2 (.inl he)⟩
theorem mail_phi {g:Graph} (hg:okG g=true):∀M:List Mail,(∀m∈M,mailG g m)→M.length≤(g.Edges.map fun e=>(ch M e.A e.B).length+(ch M e.B e.A).length).sum
 | [],_=>by simp
 | m::M,h=>by
   have ih:=mail_phi hg M fun x hx=>h x (by simp [hx])
   have hm:=(h m (by simp)).2.2.2
   have cons:∀p q:Int,(ch (m::M) p q).length=(if m.From=p∧m.To=q then 1 else 0)+(ch M p q).length:=fun p q=>by
    unfold ch
    rw [List.filter_cons]
    by_cases hh:m.From=p∧m.To=q
    ·simp [hh.1,hh.2];omega
    ·rw [if_neg hh,if_neg (by simpa using hh)];omega
   rw [List.length_cons]
   refine Nat.le_trans (Nat.succ_le_succ ih) (sum_lt (fun e _=>by rw [cons,cons];omega) ?_)
   rcases (Zu9 hg).1 hm with h1 | h1
   ·exact ⟨_,h1,by rw [cons,cons,if_pos ⟨rfl,rfl⟩];dsimp only;omega⟩
   ·exact ⟨_,h1,by rw [cons m.To m.From,cons m.From m.To,if_pos (⟨rfl,rfl⟩:m.From=m.From∧m.To=m.To)];dsimp only;omega⟩
theorem Fair.mails {g:Graph} {s:Scene} (hg:okG g=true) (h:Fair g s):s.Mail.length≤phi g s:=by
 refine Nat.le_trans (mail_phi hg s.Mail h.inv.mail) (sum_le fun e he=>?_)
 obtain ⟨e1,e2,e3,_⟩:=Zdo hg he
 unfold psi
 rw [Int.toNat_of_nonneg e1,Int.toNat_of_nonneg (show 0≤e.B by omega)]
 omega
theorem Fair.step {g:Graph} {s:Scene} (hg:okG g=true) (hN:g.N≤60) (h:Fair g s) {m:Mail} (hm:s.Mail[0]?=some m):
  ∃t,Ztc s m.From m.To=(t,0)∧Fair g t∧phi g t+1≤phi g s∧t.Diners.map tz=s.Diners.map tz:=by
 have hmm:m∈s.Mail:=List.mem_iff_getElem?.2 ⟨_,hm⟩
 have hnear:=(h.inv.mail m hmm).2.2.2
 obtain ⟨n1,n2,n3,n4,n5⟩:=Zv9 hg hnear
 have hl:=h.inv.len
 have ht:Zqc s m.From=true:=Zzd.2 ⟨n4,by omega⟩
 have ht':Zqc s m.To=true:=Zzd.2 ⟨n1,by omega⟩
 have hi:Zsc s m.From m.To=some 0:=by
  unfold Zsc
  obtain ⟨M,hM⟩:∃M,s.Mail=m::M:=by
   cases hs:s.Mail with
   | nil=>rw [hs] at hm;simp at hm
   | cons y M=>rw [hs] at hm;simp at hm;exact ⟨M,by rw [hm]⟩
  rw [hM,List.findIdx?_cons]
  simp
 obtain ⟨t,e1,e2,e3,e4,e5⟩:=h.deliv hg hN ht ht' hi
 refine ⟨t,e1,e2,sum_lt (fun e he=>?_) ?_,e5⟩
 ·obtain ⟨k1,k2,k3,_⟩:=Zdo hg he
  exact e3 _ _ (by omega)
 ·rcases (Zu9 hg).1 hnear with h1 | h1
  ·exact ⟨_,h1,e4⟩
  ·exact ⟨_,h1,by rw [Zbo t,Zbo s];exact e4⟩
end NX
end Go.Proofs.YtacfbmldajmjiaaGreat
