/-
  The function narthex/set.Valid: its code compiled, a model, and that the code answers as the model. Written by a program of ours (lb.py). No statement of the seat is proved here.
-/
import Derived.KernelRfl
import Derived.Test.YtacfbmldajmjiaaGreatZ1
import Derived.Test.YtacfbmldajmjiaaGreatZ3
import Derived.Test.YtacfbmldajmjiaaGreatZ2
namespace Go.Proofs.YtacfbmldajmjiaaGreat
namespace NX
open Go
set_option maxRecDepth 100000
set_option maxHeartbeats 4000000
@[go_sem] def e102_L0:EC:=.seq (.reg [(Qa 7 (.bin .lss (.t 6) (.t 5)))]) (.seq (.ite (.t 7) (.skip) (.exit 0)) (.seq (.blk 1 (.seq (.reg [(Qm 8 6),(Qm 3 8)]) (.seq (.drw [(Qm 9 3),(Qa 10 (.bin .gtr (.t 9) (.c (.iv 0)))),(Qm 11 10),(Qg 12 11 true (.mv (.t 0))),(Qg 13 11 true (.mv (.t 3))),(Qg 14 11 true (.bin .sub (.t 13) (.c (.iv 1)))),(Qg 15 11 true (.idx 1 (.t 12) (.t 14))),(Qn 16 11 true 15),(Qg 17 11 true (.mv (.t 0))),(Qg 18 11 true (.mv (.t 3))),(Qg 19 11 true (.idx 1 (.t 17) (.t 18))),(Qn 20 11 true 19),(Qg 21 11 true (.bin .geq (.t 16) (.t 20))),(Qp 22 11 21)] [[],[0],[1],[2],[2],[4,2],[3,5,2],[6,2],[2],[2],[8,9,2],[10,2],[7,11,2],[2,12]] [[1],[0,2],[1,3,4,5,6,7,8,9,10,11,12,13],[2,6],[2,5],[2,4,6],[2,3,5,7],[2,6,12],[2,10],[2,10],[2,8,9,11],[2,10,12],[2,7,11,13],[2,12]]) (.ite (.t 22) (.seq (.reg [(Qa 2 (.mv (.c .ff)))]) (.ret)) (.skip))))) (.reg [(Qv 23 6 1),(Qm 6 23)])))
@[go_sem] def e102:EC:=.seq (.reg [(Qa 2 (.mv (.c .ff)))]) (.seq (.seq (.reg [(Qm 4 0),(Qa 5 (.len (.t 4))),(Qi 6 0)]) (.blk 0 (.loop e102_L0))) (.seq (.reg [(Qa 2 (.mv (.c .tt)))]) (.ret)))
theorem ok102:FnOK Tryz.prog 102 Tryz.f102 e102 [.t 2] 1 23:=⟨by kernel_rfl,⟨_,rfl,by kernel_rfl⟩,by kernel_rfl,by kernel_rfl⟩
noncomputable def Z5h:Unit→Option Bool
| ()=>
 some true
noncomputable def Z6h (x6:Int):Bool→Option (Int ⊕ Bool)
| x9=>
 ifb x9 (
 Option.map Sum.inr (some false)) (
 some (.inl (wr (x6+1))))
noncomputable def Z7h (x1:(List Int)):Int→Option (Int ⊕ Bool)
| x6=>
 ifb (decide (x6<(ln Z15 x1))) (
 ifb (decide (0<x6)) (
 (at_ x1 (wr (x6-1))).bind fun x7=>
 (at_ x1 x6).bind fun x8=>
 (Z6h x6) (decide (x8≤x7))) (
 (Z6h x6) false)) (
 Option.map Sum.inr (Z5h ()))
noncomputable def Z8h (x1:(List Int)):Option Bool:=
 loop (Z7h x1) 0
theorem k_set_Valid (x1:(List Int)) (r:Bool) (h:Z8h x1=some r):Zu2 Tryz.prog 102 [.sl 1 (List.map Z15 x1)] (.bv r):=by
 refine Zy2 ok102 rfl rfl fun w0 H0=>?_
 rw [Z8h] at h
 refine Zo2 11 ?_;dsimp only [go_sem];refine An ?_;refine Zl4 (fun (_:Unit)=>(⟨(an 24 []),[],[]⟩:St)) Z5h r ?_ fun J1=>?_
 ·rintro ⟨⟩ h;rw [Z5h] at h;(try dsimp only);refine Zo2 4 ?_;dsimp only [go_sem];refine An ?_;exact Zv4 (res:=fun (r:Bool)=>.bv r) ok102 h
 ·refine Zo2 1 ?_;dsimp only [go_sem];refine An ?_;refine Zm4 h (fun (x6:Int)=>(⟨(.sl 1 (List.map Z15 x1)::an 4 (.iv (ln Z15 x1) :: .iv x6::an 17 [])),[],[]⟩:St)) (by simp [go_sem]) (by intro x6;first | rfl | simp [go_sem]) ?_;rintro n1 x6 y1 h hin1 hout1;rw [Z7h] at h;(try dsimp only);refine Zo2 5 ?_;dsimp only [go_sem];refine An ?_;refine Zn4 h rfl (fun _ h=>?_) fun _ h=>?_
  ·refine Zo2 9 ?_;dsimp only [go_sem];refine An ?_;refine Zl4 (fun (x9:Bool)=>(⟨(.sl 1 (List.map Z15 x1)::an 4 (.iv (ln Z15 x1) :: .iv x6::an 15 [.bv x9,.any])),[],[]⟩:St)) (Z6h x6) y1 ?_ fun J2=>?_
   ·intro x9 h;rw [Z6h] at h;(try dsimp only);refine Zn4 h rfl (fun _ h=>?_) fun _ h=>?_
    ·refine Zo2 4 ?_;dsimp only [go_sem];refine An ?_;exact Zv4 (res:=fun (r:Bool)=>.bv r) ok102 (Zk4 h hout1)
    ·refine Zo2 6 ?_;dsimp only [go_sem];refine An ?_;exact Zw4 h hin1
   ·refine Zk3 (by kernel_rfl) fun all hall hs hnap haf=>?_;dsimp only [go_sem];refine Zc5 hall hs haf hnap 3 11 ?_;dsimp only [go_sem];refine An ?_;refine Z55 11 h rfl (fun _ h=>?_) fun _ h=>?_
    ·dsimp only [go_sem];refine Zd5 hall hs haf hnap 5 6 [6,2,2,4] [(12,[.sl 1 (List.map Z15 x1),.iv x6,.iv (wr (x6-1))]),(2,[.sl 1 (List.map Z15 x1),.iv x6])] (by kernel_rfl) ?_;dsimp only [go_sem];obtain ⟨x7,ex7,h⟩:=Bs h;refine Zr4 hall hs haf hnap 6 Z15 ex7 rfl rfl trivial rfl rfl rfl rfl ?_;refine Zc5 hall hs haf hnap 1 4 ?_;dsimp only [go_sem];refine An ?_;obtain ⟨x8,ex8,h⟩:=Bs h;refine Zr4 hall hs haf hnap 10 Z15 ex8 rfl rfl trivial rfl rfl rfl rfl ?_;refine Zc5 hall hs haf hnap 3 0 ?_;dsimp only [go_sem];refine An ?_
     refine Zu3 rfl ?_ _;exact Zx4 J2 (s:=decide (x8≤x7)) h
    ·dsimp only [go_sem];refine Zd5 hall hs haf hnap 11 0 [14] [(12,[.un,.un,.un,.un,.un,.un,.un,.un,.un,.un,.ff])] (by kernel_rfl) ?_;dsimp only [go_sem];refine Zu3 rfl ?_ _;exact Zx4 J2 (s:=false) h
  ·refine Zo2 1 ?_;dsimp only [go_sem];refine An ?_;exact Zx4 J1 (s:=()) (Zk4 h hout1)
set_option maxRecDepth 100000
set_option maxHeartbeats 4000000
@[go_sem] def e58:EC:=.seq (.reg [(Qx 1 63 5 0),(Qi 2 0)]) (.seq (.reg [(Qa 4 (.mkf 98 [(.t 1)])),(Qm 3 4)]) (.seq (.blk 0 (.seq (.seq (.reg [(Qf 6 0 1),(Qe 7 3 6),(Qa 8 (.call 101 [(.t 7)])),(Qa 9 (.bin .neq (.t 8) (.c (.iv 0)))),(Qm 5 9)]) (.ite (.t 5) (.skip) (.seq (.reg [(Qf 10 3 1),(Ql 11 10),(Qa 12 (.bin .lss (.t 11) (.c (.iv 0)))),(Qm 5 12)]) (.ite (.t 5) (.skip) (.reg [(Qf 13 3 1),(Ql 14 13),(Qa 15 (.bin .gtr (.t 14) (.c (.iv 2)))),(Qm 5 15)]))))) (.ite (.t 5) (.seq (.reg [(Qi 2 150)]) (.ret)) (.seq (.seq (.reg [(Qf 17 4 1),(Ql 18 17),(Qa 19 (.call 102 [(.t 18)])),(Qa 20 (.not (.t 19))),(Qm 16 20)]) (.ite (.t 16) (.skip) (.seq (.reg [(Qf 21 3 1),(Ql 22 21),(Qa 23 (.bin .eql (.t 22) (.c (.iv 0)))),(Qm 24 23),(Qh 25 24 true 4 1),(Qn 26 24 true 25),(Qg 27 24 true (.len (.t 26))),(Qg 28 24 true (.bin .gtr (.t 27) (.c (.iv 0)))),(Qp 29 24 28),(Qm 16 29)]) (.ite (.t 16) (.skip) (.reg [(Qf 30 4 1),(Ql 31 30),(Qm 32 3),(Qa 33 (.call 103 [(.t 31),(.t 32)])),(Qm 16 33)]))))) (.ite (.t 16) (.seq (.reg [(Qi 2 150)]) (.ret)) (.skip)))))) (.seq (.reg [(Qi 2 0)]) (.ret))))
theorem ok58:FnOK Tryz.prog 58 Tryz.f58 e58 [.t 2] 1 33:=⟨by kernel_rfl,⟨_,rfl,by kernel_rfl⟩,by kernel_rfl,by kernel_rfl⟩
noncomputable def Z9h:Bool→Option Int
| x7=>
 ifb x7 (
 some 150) (
 some 0)
noncomputable def Zah (x1:Drinker):Bool→Option Int
| x5=>
 ifb x5 (
 Z9h x5) (
 (Zc7 x1.Need ((fun z=>Z3h z x1))).bind fun x6=>
 Z9h x6)
noncomputable def Zbh (x1:Drinker):Bool→Option Int
| x3=>
 ifb x3 (
 some 150) (
 (Z8h x1.Need).bind fun x4=>
 ifb (!x4) (
 Z9h (!x4)) (
 ifb (decide (x1.Thirst=0)) (
 (Zah x1) (decide (0<(ln Z15 x1.Need)))) (
 (Zah x1) false)))
noncomputable def Zch (x1:Drinker):Option Int:=
 (Zia x1.Diner).bind fun x2=>
 ifb (!decide (x2=0)) (
 (Zbh x1) (!decide (x2=0))) (
 ifb (decide (x1.Thirst<0)) (
 (Zbh x1) (decide (x1.Thirst<0))) (
 (Zbh x1) (decide (2<x1.Thirst))))
theorem Zdh (x1:Drinker) (r:Int) (h:Zch x1=some r):Zu2 Tryz.prog 58 [.agg (Drinker.row x1)] (.iv r):=by
 refine Zy2 ok58 rfl rfl fun w0 H0=>?_
 rw [Zch] at h
 refine Zo2 17 ?_;dsimp only [go_sem];refine An ?_;obtain ⟨x2,ex2,h⟩:=Bs h;refine Z33 trivial (Zja x1.Diner _ ex2) (h:=?_);refine Zo2 3 ?_;dsimp only [go_sem];refine An ?_;refine Zl4 (fun (x3:Bool)=>(⟨(.any :: .ptr 0 0 :: .any :: .clo 98 [.ptr 0 0] :: .any :: .bv x3::an 28 []),[some ⟨63,[.iv x1.Diner.ID,.iv x1.Diner.Phase,.sl 8 (List.map Side.row x1.Diner.Sides),.iv x1.Thirst,.sl 1 (List.map Z15 x1.Need)]⟩],[]⟩:St)) (Zbh x1) r ?_ fun J1=>?_
 ·intro x3 h;rw [Zbh] at h;(try dsimp only);refine Zn4 h rfl (fun _ h=>?_) fun _ h=>?_
  ·refine Zo2 4 ?_;dsimp only [go_sem];refine An ?_;exact Zv4 (res:=fun (r:Int)=>.iv r) ok58 h
  ·refine Zo2 5 ?_;dsimp only [go_sem];refine An ?_;obtain ⟨x4,ex4,h⟩:=Bs h;refine Z33 trivial (k_set_Valid x1.Need _ ex4) (h:=?_);refine Zo2 3 ?_;dsimp only [go_sem];refine An ?_;refine Zl4 (fun (x7:Bool)=>(⟨(an 16 (.bv x7::an 17 [])),[],[]⟩:St)) Z9h r ?_ fun J2=>?_
   ·intro x7 h;rw [Z9h] at h;(try dsimp only);refine Zn4 h rfl (fun _ h=>?_) fun _ h=>?_
    ·refine Zo2 4 ?_;dsimp only [go_sem];refine An ?_;exact Zv4 (res:=fun (r:Int)=>.iv r) ok58 h
    ·refine Zo2 6 ?_;dsimp only [go_sem];refine An ?_;exact Zv4 (res:=fun (r:Int)=>.iv r) ok58 h
   ·refine Zn4 h rfl (fun _ h=>?_) fun _ h=>?_
    ·refine Zo2 1 ?_;dsimp only [go_sem];refine An ?_;exact Zx4 J2 (s:=!x4) h
    ·refine Zo2 6 ?_;dsimp only [go_sem];refine An ?_;refine Zl4 (fun (x5:Bool)=>(⟨(.any :: .ptr 0 0 :: .any :: .clo 98 [.ptr 0 0]::an 12 (.bv x5::an 17 [])),[some ⟨63,[.iv x1.Diner.ID,.iv x1.Diner.Phase,.sl 8 (List.map Side.row x1.Diner.Sides),.iv x1.Thirst,.sl 1 (List.map Z15 x1.Need)]⟩],[]⟩:St)) (Zah x1) r ?_ fun J3=>?_
     ·intro x5 h;rw [Zah] at h;(try dsimp only);refine Zn4 h rfl (fun _ h=>?_) fun _ h=>?_
      ·refine Zo2 1 ?_;dsimp only [go_sem];refine An ?_;exact Zx4 J2 (s:=x5) h
      ·refine Zo2 4 ?_;dsimp only [go_sem];refine An ?_;obtain ⟨x6,ex6,h⟩:=Bs h;refine Zz4 trivial ((Zy4.refl _).block 0 rfl rfl) (Zd7 x1.Need _ _ ((fun z=>Z3h z x1)) ⟨by kernel_rfl,rfl,fun z r hz=>Z4h z x1 r hz⟩ _ ex6) (h:=?_);refine Zo2 2 ?_;dsimp only [go_sem];refine An ?_;exact Zx4 J2 (s:=x6) h
     ·refine Zu4 24 h rfl (fun _ h=>?_) fun _ h=>?_
      ·dsimp only [go_sem];refine Zo2 7 ?_;dsimp only [go_sem];refine An ?_;exact Zx4 J3 (s:=decide (0<(ln Z15 x1.Need))) h
      ·dsimp only [go_sem];refine Zo2 7 ?_;dsimp only [go_sem];refine An ?_;exact Zx4 J3 (s:=false) h
 ·refine Zn4 h rfl (fun _ h=>?_) fun _ h=>?_
  ·refine Zo2 1 ?_;dsimp only [go_sem];refine An ?_;exact Zx4 J1 (s:=!decide (x2=0)) h
  ·refine Zo2 7 ?_;dsimp only [go_sem];refine An ?_;refine Zn4 h rfl (fun _ h=>?_) fun _ h=>?_
   ·refine Zo2 1 ?_;dsimp only [go_sem];refine An ?_;exact Zx4 J1 (s:=decide (x1.Thirst<0)) h
   ·refine Zo2 6 ?_;dsimp only [go_sem];refine An ?_;exact Zx4 J1 (s:=decide (2<x1.Thirst)) h
set_option maxRecDepth 100000
set_option maxHeartbeats 4000000
@[go_sem] def e120:EC:=.seq (.reg [(Qx 1 63 5 0),(Qa 2 (.alloc 63 [.iv 0,.iv 0,.nl,.iv 0,.nl]))]) (.seq (.drw [(Qf 3 0 1),(Qf 4 2 3),(Ql 5 4),(Qa 6 (.call 72 [(.t 5)])),(Qf 7 4 1),(Ql 8 7),(Qa 9 (.call 136 [(.t 8)])),(Qf 10 0 1),(Qf 11 2 10),(Qs 1 11 6),(Qf 12 4 1),(Qs 1 12 9)] [[],[0],[1],[2],[],[4],[5,3],[0,1,2,3,4,5],[7,0,1,2,3,4,5],[8,3,6,0,1,2,3,4,5],[0,1,2,3,4,5,6,7,8,9],[10,6,9,0,1,2,3,4,5,6,7,8,9]] [[1],[0,2],[1,3],[2,9],[5],[4,6],[5,11],[8],[7,9],[3,8],[11],[6,10]]) (.seq (.reg [(Qe 13 5 1),(Qs 5 2 13)]) (.ret)))
theorem ok120:FnOK Tryz.prog 120 Tryz.f120 e120 [.c 2 (some 5)] 1 13:=⟨by kernel_rfl,⟨_,rfl,by kernel_rfl⟩,by kernel_rfl,by kernel_rfl⟩
noncomputable def Zeh (x1:Drinker):Option Drinker:=
 (Zma x1.Diner.Sides).bind fun x2=>
 (Za9 x1.Need).bind fun x3=>
 some (Drinker.mk ((Diner.mk x1.Diner.ID x1.Diner.Phase x2)) x1.Thirst x3)
theorem Zfh (x1:Drinker) (r:Drinker) (h:Zeh x1=some r):Zu2 Tryz.prog 120 [.agg (Drinker.row x1)] (.agg (Drinker.row r)):=by
 refine Zy2 ok120 rfl rfl fun w0 H0=>?_
 rw [Zeh] at h
 refine Zo2 6 ?_;dsimp only [go_sem];refine An ?_;refine Zk3 (by kernel_rfl) fun all hall hs hnap haf=>?_;dsimp only [go_sem];refine Zc5 hall hs haf hnap 5 7 ?_;dsimp only [go_sem];refine An ?_;refine Zv3 3 rfl ?_;obtain ⟨x2,ex2,h⟩:=Bs h;refine Zb5 hall rfl trivial (Zna x1.Diner.Sides _ ex2) (h:=?_);dsimp only [go_sem];refine Zc5 hall hs haf hnap 2 4 ?_;dsimp only [go_sem];refine An ?_;refine Zv3 6 rfl ?_;obtain ⟨x3,ex3,h⟩:=Bs h;refine Zb5 hall rfl trivial (Zb9 x1.Need _ ex3) (h:=?_);dsimp only [go_sem]
 refine Zv3 9 rfl ?_;refine Z04 hall rfl trivial ?_;dsimp only [go_sem];refine Zc5 hall hs haf hnap 1 1 ?_;dsimp only [go_sem];refine An ?_;refine Zv3 11 rfl ?_;refine Z04 hall rfl trivial ?_;dsimp only [go_sem];refine Zu3 rfl ?_ _;refine Zo2 5 ?_;dsimp only [go_sem];refine An ?_;refine Zc3 0 rfl ?_;dsimp only [go_sem];refine Zc3 1 rfl ?_;dsimp only [go_sem];exact Zv4 (res:=fun (r:Drinker)=>.agg (Drinker.row r)) ok120 h
set_option maxRecDepth 100000
set_option maxHeartbeats 4000000
@[go_sem] def e176:EC:=.seq (.reg [(Qx 1 66 8 0),(Qa 2 (.mv (.c .ff)))]) (.seq (.reg [(Qf 3 2 1),(Ql 4 3),(Qa 5 (.bin .eql (.t 4) (.c (.iv 1)))),(Qm 2 5)]) (.ret))
theorem ok176:FnOK Tryz.prog 176 Tryz.f176 e176 [.t 2] 1 5:=⟨by kernel_rfl,⟨_,rfl,by kernel_rfl⟩,by kernel_rfl,by kernel_rfl⟩
noncomputable def Zgh (x1:Side):Option Bool:=
 some (decide (x1.State=1))
theorem Zhh (x1:Side) (r:Bool) (h:Zgh x1=some r):Zu2 Tryz.prog 176 [.agg (Side.row x1)] (.bv r):=by
 refine Zy2 ok176 rfl rfl fun w0 H0=>?_
 rw [Zgh] at h
 refine Zo2 12 ?_;dsimp only [go_sem];refine An ?_;exact Zv4 (res:=fun (r:Bool)=>.bv r) ok176 h
set_option maxRecDepth 100000
set_option maxHeartbeats 4000000
@[go_sem] def e194:EC:=.drw [(Ql 5 1),(Qf 6 0 2),(Ql 7 6),(Ql 8 3),(Qa 9 (.nilchk (.t 8))),(Qf 10 0 9),(Ql 11 10),(Qm 12 0),(Ql 13 3),(Qa 14 (.nilchk (.t 13))),(Qf 15 1 14),(Ql 16 15),(Qa 17 (.build [.iv 0,.iv 0,.iv 0] [(0,1,(.t 12)),(1,1,(.t 16))])),(Qa 18 (.build [.iv 0,.iv 0,.iv 0,.iv 0,.iv 0] [(0,1,(.t 7)),(1,1,(.t 11)),(2,3,(.t 17))])),(Qa 19 (.bsl 95 5 1 [.iv 0,.iv 0,.iv 0,.iv 0,.iv 0] [(0,(.t 18))])),(Qa 20 (.app 95 5 40 (.t 5) (.t 19))),(Qs 1 1 20)] [[],[],[1],[],[3],[4],[5],[],[],[8],[9],[10],[7,11],[2,6,12],[13],[0,14],[15,15,0,1,2,3,4,5,6,7,8,9,10,11,12,13,14,15]] [[15],[2],[1,13],[4],[3,5],[4,6],[5,13],[12],[9],[8,10],[9,11],[10,12],[7,11,13],[2,6,12,14],[13,15],[0,14,16],[15]]
theorem Zih:FnOK Tryz.prog 194 Tryz.f194 e194 [] 4 17:=⟨by kernel_rfl,⟨_,rfl,by kernel_rfl⟩,by kernel_rfl,by kernel_rfl⟩
set_option maxRecDepth 100000
set_option maxHeartbeats 4000000
@[go_sem] def e177_L1:EC:=.seq (.reg [(Qa 102 (.bin .lss (.t 101) (.t 100)))]) (.seq (.ite (.t 102) (.skip) (.exit 2)) (.seq (.blk 3 (.seq (.reg [(Qm 103 101),(Qm 11 103)]) (.reg [(Qf 104 2 1),(Ql 105 104),(Qm 106 11),(Qk 107 8 105 106),(Qf 108 4 107),(Qb (.store 1 (.t 108) (.c .tt)))]))) (.reg [(Qv 109 101 1),(Qm 101 109)])))
@[go_sem] def e177_L0:EC:=.seq (.reg [(Qa 26 (.bin .lss (.t 25) (.t 24)))]) (.seq (.ite (.t 26) (.skip) (.exit 0)) (.seq (.blk 1 (.seq (.reg [(Qm 27 25),(Qm 8 27)]) (.seq (.reg [(Qf 28 2 1),(Ql 29 28),(Qm 30 8),(Qk 31 8 29 30),(Qa 9 (.alloc 189 [.nlp])),(Qs 1 9 31)]) (.seq (.reg [(Qa 32 (.mkf 194 [(.t 6),(.t 1),(.t 9)])),(Qm 10 32)]) (.seq (.seq (.reg [(Ql 33 9),(Qa 34 (.nilchk (.t 33))),(Qf 35 3 34),(Ql 36 35),(Qm 37 36),(Qn 38 37 true 9),(Qg 39 37 true (.nilchk (.t 38))),(Qh 40 37 true 4 39),(Qn 41 37 true 40),(Qp 42 37 41),(Qm 43 42),(Qn 44 43 true 9),(Qg 45 43 true (.nilchk (.t 44))),(Qh 46 43 true 5 45),(Qn 47 43 true 46),(Qp 48 43 47),(Qm 49 48),(Qh 50 49 true 1 1),(Qn 51 49 true 50),(Qg 52 49 true (.bin .neq (.t 51) (.c (.iv 2)))),(Qp 53 49 52)]) (.ite (.t 53) (.seq (.drw [(Ql 54 9),(Ql 55 9),(Qa 56 (.nilchk (.t 54))),(Qf 57 3 56),(Qb (.store 1 (.t 57) (.c .ff))),(Qa 58 (.nilchk (.t 55))),(Qf 59 4 58),(Qb (.store 1 (.t 59) (.c .ff)))] [[],[],[0,0],[2,0],[3,0],[1,0,1,2,3,4],[5,0,1,2,3,4],[6,4,0,1,2,3,4]] [[2],[5],[0,3],[2,4],[3],[1,6],[5,7],[6]]) (.reg [(Qm 60 10),(Qa 61 (.callv (.t 60) [(.c (.iv 1))]))])) (.skip))) (.seq (.seq (.reg [(Qf 62 1 1),(Ql 63 62),(Qa 64 (.bin .eql (.t 63) (.c (.iv 1)))),(Qm 65 64),(Qn 66 65 true 9),(Qg 67 65 true (.nilchk (.t 66))),(Qh 68 65 true 5 67),(Qn 69 65 true 68),(Qp 70 65 69),(Qm 71 70),(Qn 72 71 true 9),(Qg 73 71 true (.nilchk (.t 72))),(Qh 74 71 true 3 73),(Qn 75 71 true 74),(Qg 76 71 true (.not (.t 75))),(Qp 77 71 76)]) (.ite (.t 77) (.seq (.reg [(Ql 78 9),(Qa 79 (.nilchk (.t 78))),(Qf 80 5 79),(Qb (.store 1 (.t 80) (.c .ff)))]) (.reg [(Qm 81 10),(Qa 82 (.callv (.t 81) [(.c (.iv 2))]))])) (.skip))) (.reg [(Qm 83 7),(Qm 84 83),(Qn 85 84 true 9),(Qg 86 84 true (.nilchk (.t 85))),(Qh 87 84 true 3 86),(Qn 88 84 true 87),(Qp 89 84 88),(Qm 7 89)]))))))) (.reg [(Qv 90 25 1),(Qm 25 90)])))
@[go_sem] def e177:EC:=.seq (.reg [(Qx 1 61 3 0),(Qa 2 (.alloc 61 [.iv 0,.iv 0,.nl])),(Qa 3 (.mv (.c .nl))),(Qi 4 0)]) (.seq (.seq (.reg [(Qe 12 3 1),(Qa 13 (.call 101 [(.t 12)])),(Qm 5 13)]) (.seq (.reg [(Qm 14 5),(Qa 15 (.bin .neq (.t 14) (.c (.iv 0))))]) (.ite (.t 15) (.seq (.reg [(Qa 16 (.build [.iv 0,.iv 0,.nl] [])),(Qm 17 5),(Qs 3 2 16),(Qa 3 (.mv (.c .nl))),(Qm 4 17)]) (.ret)) (.skip)))) (.seq (.reg [(Qf 18 2 1),(Ql 19 18),(Qa 20 (.call 72 [(.t 19)])),(Qf 21 2 1),(Qs 1 21 20)]) (.seq (.reg [(Qa 6 (.alloc 23 [.nl]))]) (.seq (.reg [(Qa 7 (.mv (.c .tt)))]) (.seq (.seq (.reg [(Qf 22 2 1),(Ql 23 22),(Qa 24 (.len (.t 23))),(Qi 25 0)]) (.blk 0 (.loop e177_L0))) (.seq (.seq (.reg [(Qf 91 1 1),(Ql 92 91),(Qa 93 (.bin .eql (.t 92) (.c (.iv 1)))),(Qm 94 93),(Qg 95 94 true (.mv (.t 7))),(Qp 96 94 95)]) (.ite (.t 96) (.seq (.reg [(Qf 97 1 1),(Qb (.store 1 (.t 97) (.c (.iv 2))))]) (.seq (.reg [(Qf 98 2 1),(Ql 99 98),(Qa 100 (.len (.t 99))),(Qi 101 0)]) (.blk 2 (.loop e177_L1)))) (.skip))) (.seq (.drw [(Qe 110 3 1),(Ql 111 6),(Qs 3 2 110),(Qm 3 111),(Qi 4 0)] [[],[],[0,0],[1,2,0,1,2],[3,0,1,2,3]] [[2],[3],[0],[1],[]]) (.ret))))))))
theorem ok177:FnOK Tryz.prog 177 Tryz.f177 e177 [.c 2 (some 3),.t 3,.t 4] 1 111:=⟨by kernel_rfl,⟨_,rfl,by kernel_rfl⟩,by kernel_rfl,by kernel_rfl⟩
set_option maxRecDepth 100000
set_option maxHeartbeats 4000000
@[go_sem] def e195:EC:=.seq (.reg [(Qa 4 (.mv (.c .ff)))]) (.seq (.reg [(Qm 5 0),(Qm 6 1),(Qa 7 (.call 149 [(.t 5),(.t 6)])),(Qm 4 7)]) (.ret))
theorem ok195:FnOK Tryz.prog 195 Tryz.f195 e195 [.t 4] 2 6:=⟨by kernel_rfl,⟨_,rfl,by kernel_rfl⟩,by kernel_rfl,by kernel_rfl⟩
noncomputable def Zjh (x1:(List Int)) (x2:Int):Option Bool:=
 (Zyc x1 x2).bind fun x3=>
 some x3
theorem k_set_Has (x1:(List Int)) (x2:Int) (r:Bool) (h:Zjh x1 x2=some r):Zu2 Tryz.prog 195 [.sl 1 (List.map Z15 x1),.iv x2] (.bv r):=by
 refine Zy2 ok195 rfl rfl fun w0 H0=>?_
 rw [Zjh] at h
 refine Zo2 8 ?_;dsimp only [go_sem];refine An ?_;obtain ⟨x3,ex3,h⟩:=Bs h;refine Z33 trivial (Zzc x1 x2 _ ex3) (h:=?_);refine Zo2 2 ?_;dsimp only [go_sem];refine An ?_;exact Zv4 (res:=fun (r:Bool)=>.bv r) ok195 h
set_option maxRecDepth 100000
set_option maxHeartbeats 4000000
@[go_sem] def e196:EC:=.seq (.reg [(Qx 4 66 8 1)]) (.drw [(Qm 6 0),(Qm 7 0),(Qa 8 (.nilchk (.t 7))),(Qf 9 5 8),(Ql 10 9),(Qm 11 0),(Qa 12 (.nilchk (.t 11))),(Qf 13 0 12),(Qf 14 0 13),(Qf 15 0 14),(Ql 16 15),(Qf 17 0 4),(Ql 18 17),(Qm 19 2),(Qf 20 1 4),(Ql 21 20),(Qa 22 (.build [.iv 0,.iv 0,.iv 0] [(0,1,(.t 19)),(1,1,(.t 21))])),(Qa 23 (.build [.iv 0,.iv 0,.iv 0,.iv 0,.iv 0] [(0,1,(.t 16)),(1,1,(.t 18)),(2,3,(.t 22))])),(Qa 24 (.bsl 95 5 1 [.iv 0,.iv 0,.iv 0,.iv 0,.iv 0] [(0,(.t 23))])),(Qa 25 (.app 95 5 40 (.t 10) (.t 24))),(Qa 26 (.nilchk (.t 6))),(Qf 27 5 26),(Qs 1 27 25)] [[],[],[1],[2],[3],[],[5],[6],[7],[8],[9],[],[11],[],[],[14],[13,15],[10,12,16],[17],[4,18],[0,0,1,2,3,4,5,6,7,8,9,10,11,12,13,14,15,16,17,18,19],[20,0,1,2,3,4,5,6,7,8,9,10,11,12,13,14,15,16,17,18,19],[21,19,19,0,1,2,3,4,5,6,7,8,9,10,11,12,13,14,15,16,17,18,19]] [[20],[2],[1,3],[2,4],[3,19],[6],[5,7],[6,8],[7,9],[8,10],[9,17],[12],[11,17],[16],[15],[14,16],[13,15,17],[10,12,16,18],[17,19],[4,18,22],[0,21],[20,22],[19,21]])
theorem ok196:FnOK Tryz.prog 196 Tryz.f196 e196 [] 3 25:=⟨by kernel_rfl,⟨_,rfl,by kernel_rfl⟩,by kernel_rfl,by kernel_rfl⟩
set_option maxRecDepth 100000
set_option maxHeartbeats 4000000
@[go_sem] def e178_L0:EC:=.seq (.reg [(Qa 15 (.bin .lss (.t 14) (.t 13)))]) (.seq (.ite (.t 15) (.skip) (.exit 0)) (.seq (.blk 1 (.seq (.reg [(Qm 16 14),(Qm 3 16)]) (.seq (.reg [(Qm 17 0),(Qa 18 (.nilchk (.t 17))),(Qf 19 0 18),(Qf 20 0 19),(Qf 21 2 20),(Ql 22 21),(Qm 23 3),(Qk 24 8 22 23),(Qm 4 24)]) (.seq (.drw [(Qm 25 0),(Qa 26 (.nilchk (.t 25))),(Qf 27 0 26),(Qf 28 4 27),(Ql 29 28),(Qm 30 4),(Qa 31 (.nilchk (.t 30))),(Qf 32 0 31),(Ql 33 32),(Qa 34 (.call 195 [(.t 29),(.t 33)])),(Qm 5 34)] [[],[0],[1],[2],[3],[],[5],[6],[7],[4,8],[9,9,0,1,2,3,4,5,6,7,8,9]] [[1],[0,2],[1,3],[2,4],[3,9],[6],[5,7],[6,8],[7,9],[4,8,10],[9]]) (.seq (.reg [(Qm 35 5),(Qm 36 35),(Qg 37 36 true (.mv (.t 0))),(Qg 38 36 true (.nilchk (.t 37))),(Qh 39 36 true 0 38),(Qh 40 36 true 3 39),(Qn 41 36 true 40),(Qg 42 36 true (.bin .eql (.t 41) (.c (.iv 2)))),(Qg 43 36 true (.mv (.t 42))),(Qg 44 43 false (.mv (.t 0))),(Qg 45 43 false (.nilchk (.t 44))),(Qh 46 43 false 0 45),(Qh 47 43 false 3 46),(Qn 48 43 false 47),(Qg 49 43 false (.bin .eql (.t 48) (.c (.iv 1)))),(Qg 50 43 false (.mv (.t 49))),(Qg 51 50 true (.mv (.t 4))),(Qg 52 50 true (.nilchk (.t 51))),(Qh 53 50 true 3 52),(Qn 54 50 true 53),(Qg 55 43 false (.pick (.t 50) (.t 54) (.c .ff))),(Qg 56 36 true (.pick (.t 43) (.c .tt) (.t 55))),(Qp 57 36 56),(Qm 6 57)]) (.seq (.seq (.reg [(Qm 58 4),(Qa 59 (.nilchk (.t 58))),(Qf 60 6 59),(Ql 61 60),(Qm 62 61),(Qg 63 62 true (.mv (.t 4))),(Qg 64 62 true (.nilchk (.t 63))),(Qh 65 62 true 7 64),(Qn 66 62 true 65),(Qp 67 62 66),(Qm 68 67),(Qg 69 68 true (.mv (.t 6))),(Qg 70 68 true (.not (.t 69))),(Qp 71 68 70)]) (.ite (.t 71) (.seq (.reg [(Qm 72 4),(Qa 73 (.nilchk (.t 72))),(Qf 74 6 73),(Qb (.store 1 (.t 74) (.c .ff)))]) (.reg [(Qm 75 0),(Qm 76 4),(Qa 77 (.nilchk (.t 76))),(Qe 78 8 77),(Qa 79 (.call 196 [(.t 75),(.t 78),(.c (.iv 3))]))])) (.skip))) (.seq (.seq (.reg [(Qm 80 0),(Qa 81 (.nilchk (.t 80))),(Qf 82 0 81),(Qf 83 3 82),(Ql 84 83),(Qa 85 (.bin .eql (.t 84) (.c (.iv 1)))),(Qm 86 85),(Qg 87 86 true (.mv (.t 5))),(Qp 88 86 87),(Qm 89 88),(Qg 90 89 true (.mv (.t 4))),(Qg 91 89 true (.nilchk (.t 90))),(Qh 92 89 true 7 91),(Qn 93 89 true 92),(Qp 94 89 93),(Qm 95 94),(Qg 96 95 true (.mv (.t 4))),(Qg 97 95 true (.nilchk (.t 96))),(Qh 98 95 true 6 97),(Qn 99 95 true 98),(Qg 100 95 true (.not (.t 99))),(Qp 101 95 100)]) (.ite (.t 101) (.seq (.reg [(Qm 102 4),(Qa 103 (.nilchk (.t 102))),(Qf 104 7 103),(Qb (.store 1 (.t 104) (.c .ff)))]) (.reg [(Qm 105 0),(Qm 106 4),(Qa 107 (.nilchk (.t 106))),(Qe 108 8 107),(Qa 109 (.call 196 [(.t 105),(.t 108),(.c (.iv 4))]))])) (.skip))) (.reg [(Qm 110 2),(Qm 111 110),(Qg 112 111 true (.mv (.t 5))),(Qg 113 111 true (.not (.t 112))),(Qg 114 111 true (.mv (.t 113))),(Qg 115 114 false (.mv (.t 4))),(Qg 116 114 false (.nilchk (.t 115))),(Qh 117 114 false 6 116),(Qn 118 114 false 117),(Qg 119 111 true (.pick (.t 114) (.c .tt) (.t 118))),(Qp 120 111 119),(Qm 2 120)])))))))) (.reg [(Qv 121 14 1),(Qm 14 121)])))
@[go_sem] def e178:EC:=.seq (.reg [(Qa 2 (.mv (.c .tt)))]) (.seq (.seq (.reg [(Qm 7 0),(Qa 8 (.nilchk (.t 7))),(Qf 9 0 8),(Qf 10 0 9),(Qf 11 2 10),(Ql 12 11),(Qa 13 (.len (.t 12))),(Qi 14 0)]) (.blk 0 (.loop e178_L0))) (.seq (.reg [(Qm 122 0),(Qa 123 (.nilchk (.t 122))),(Qf 124 0 123),(Qf 125 3 124),(Ql 126 125),(Qa 127 (.bin .eql (.t 126) (.c (.iv 1)))),(Qm 128 127),(Qg 129 128 true (.mv (.t 2))),(Qp 130 128 129)]) (.ite (.t 130) (.reg [(Qm 131 0),(Qa 132 (.nilchk (.t 131))),(Qf 133 0 132),(Qf 134 3 133),(Qb (.store 1 (.t 134) (.c (.iv 2))))]) (.skip))))
theorem ok178:FnOK Tryz.prog 178 Tryz.f178 e178 [] 1 134:=⟨by kernel_rfl,⟨_,rfl,by kernel_rfl⟩,by kernel_rfl,by kernel_rfl⟩
set_option maxRecDepth 100000
set_option maxHeartbeats 4000000
@[go_sem] def e157:EC:=.seq (.reg [(Qa 2 (.mv (.c (.clo 176 []))))]) (.seq (.blk 0 (.seq (.reg [(Qm 7 0),(Qa 8 (.nilchk (.t 7))),(Qf 9 0 8),(Qf 10 3 9),(Ql 11 10),(Qa 12 (.bin .eql (.t 11) (.c (.iv 1)))),(Qm 13 12),(Qg 14 13 true (.mv (.t 0))),(Qg 15 13 true (.nilchk (.t 14))),(Qh 16 13 true 0 15),(Qh 17 13 true 0 16),(Qh 18 13 true 1 17),(Qn 19 13 true 18),(Qg 20 13 true (.bin .eql (.t 19) (.c (.iv 0)))),(Qp 21 13 20),(Qm 6 21)]) (.ite (.t 6) (.reg [(Qm 22 0),(Qa 23 (.nilchk (.t 22))),(Qf 24 0 23),(Qf 25 0 24),(Qf 26 1 25),(Qb (.store 1 (.t 26) (.c (.iv 1))))]) (.seq (.reg [(Qm 28 0),(Qa 29 (.nilchk (.t 28))),(Qf 30 0 29),(Qf 31 0 30),(Qf 32 1 31),(Ql 33 32),(Qa 34 (.bin .eql (.t 33) (.c (.iv 2)))),(Qm 35 34),(Qg 36 35 true (.mv (.t 0))),(Qg 37 35 true (.nilchk (.t 36))),(Qh 38 35 true 0 37),(Qh 39 35 true 3 38),(Qn 40 35 true 39),(Qg 41 35 true (.bin .neq (.t 40) (.c (.iv 1)))),(Qp 42 35 41),(Qm 43 42),(Qg 44 43 true (.mv (.t 0))),(Qg 45 43 true (.nilchk (.t 44))),(Qh 46 43 true 0 45),(Qh 47 43 true 0 46),(Qh 48 43 true 2 47),(Qn 49 43 true 48),(Qg 50 43 true (.mv (.t 2))),(Qg 51 43 true (.call 99 [(.t 49),(.t 50)])),(Qg 52 43 true (.not (.t 51))),(Qp 53 43 52),(Qm 27 53)]) (.ite (.t 27) (.reg [(Qm 54 0),(Qa 55 (.nilchk (.t 54))),(Qf 56 0 55),(Qf 57 0 56),(Qf 58 1 57),(Qb (.store 1 (.t 58) (.c (.iv 0))))]) (.skip)))))) (.seq (.reg [(Qm 60 0),(Qa 61 (.nilchk (.t 60))),(Qf 62 0 61),(Qf 63 0 62),(Qe 64 3 63),(Qa 65 (.call 177 [(.t 64)])),(Qm 59 65),(Qa 66 (.ext (.t 59) 0)),(Qa 67 (.ext (.t 59) 1)),(Qa 68 (.ext (.t 59) 2)),(Qa 3 (.alloc 61 [.iv 0,.iv 0,.nl])),(Qs 3 3 66),(Qm 4 67),(Qm 5 68)]) (.seq (.reg [(Qm 69 0),(Qe 70 3 3),(Qa 71 (.nilchk (.t 69))),(Qf 72 0 71),(Qf 73 0 72),(Qs 3 73 70)]) (.seq (.reg [(Qm 74 0),(Qm 75 0),(Qa 76 (.nilchk (.t 75))),(Qf 77 5 76),(Ql 78 77),(Qm 79 4),(Qa 80 (.app 95 5 40 (.t 78) (.t 79))),(Qa 81 (.nilchk (.t 74))),(Qf 82 5 81),(Qs 1 82 80)]) (.reg [(Qm 83 0),(Qa 84 (.call 178 [(.t 83)]))])))))
theorem ok157:FnOK Tryz.prog 157 Tryz.f157 e157 [] 1 84:=⟨by kernel_rfl,⟨_,rfl,by kernel_rfl⟩,by kernel_rfl,by kernel_rfl⟩
set_option maxRecDepth 100000
set_option maxHeartbeats 4000000
@[go_sem] def e118:EC:=.seq (.reg [(Qx 2 61 3 0),(Qx 3 61 3 1),(Qa 4 (.mv (.c .ff)))]) (.seq (.reg [(Qf 5 0 2),(Ql 6 5),(Qf 7 0 3),(Ql 8 7),(Qa 9 (.bin .eql (.t 6) (.t 8))),(Qm 10 9),(Qh 11 10 true 1 2),(Qn 12 10 true 11),(Qh 13 10 true 1 3),(Qn 14 10 true 13),(Qg 15 10 true (.bin .eql (.t 12) (.t 14))),(Qp 16 10 15),(Qm 17 16),(Qh 18 17 true 2 2),(Qn 19 17 true 18),(Qh 20 17 true 2 3),(Qn 21 17 true 20),(Qg 22 17 true (.call 146 [(.t 19),(.t 21)])),(Qp 23 17 22),(Qm 4 23)]) (.ret))
theorem ok118:FnOK Tryz.prog 118 Tryz.f118 e118 [.t 4] 2 22:=⟨by kernel_rfl,⟨_,rfl,by kernel_rfl⟩,by kernel_rfl,by kernel_rfl⟩
noncomputable def Zkh:Bool→Option Bool
| x4=>
 some x4
noncomputable def Zlh (x1:Diner) (x2:Diner):Option Bool:=
 ifb (decide (x1.ID=x2.ID)) (
 ifb (decide (x1.Phase=x2.Phase)) (
 (Z06 x1.Sides x2.Sides).bind fun x3=>
 Zkh x3) (
 Zkh false)) (
 Zkh false)
theorem k_dine_Same (x1:Diner) (x2:Diner) (r:Bool) (h:Zlh x1 x2=some r):Zu2 Tryz.prog 118 [.agg (Diner.row x1),.agg (Diner.row x2)] (.bv r):=by
 refine Zy2 ok118 rfl rfl fun w0 H0=>?_
 rw [Zlh] at h
 refine Zo2 14 ?_;dsimp only [go_sem];refine An ?_;refine Zl4 (fun (x4:Bool)=>(⟨(an 4 (.bv x4::an 19 [])),[],[]⟩:St)) Zkh r ?_ fun J1=>?_
 ·intro x4 h;rw [Zkh] at h;(try dsimp only);exact Zv4 (res:=fun (r:Bool)=>.bv r) ok118 h
 ·refine Zu4 10 h rfl (fun _ h=>?_) fun _ h=>?_
  ·dsimp only [go_sem];refine Zo2 7 ?_;dsimp only [go_sem];refine An ?_;refine Zu4 17 h rfl (fun _ h=>?_) fun _ h=>?_
   ·dsimp only [go_sem];refine Zo2 4 ?_;dsimp only [go_sem];refine An ?_;obtain ⟨x3,ex3,h⟩:=Bs h;refine Z33 trivial (Z16 x1.Sides x2.Sides _ ex3) (h:=?_);refine Zo2 3 ?_;dsimp only [go_sem];refine An ?_;exact Zx4 J1 (s:=x3) h
   ·dsimp only [go_sem];refine Zo2 8 ?_;dsimp only [go_sem];refine An ?_;exact Zx4 J1 (s:=false) h
  ·dsimp only [go_sem];refine Zo2 15 ?_;dsimp only [go_sem];refine An ?_;exact Zx4 J1 (s:=false) h
set_option maxRecDepth 100000
set_option maxHeartbeats 4000000
@[go_sem] def e119_L0:EC:=.seq (.reg [(Qa 14 (.bin .lss (.t 13) (.t 12)))]) (.seq (.ite (.t 14) (.skip) (.exit 0)) (.seq (.blk 1 (.seq (.reg [(Qm 15 13),(Qm 5 15)]) (.seq (.drw [(Qm 16 0),(Qm 17 5),(Qk 18 1 16 17),(Ql 19 18),(Qm 20 1),(Qm 21 5),(Qk 22 1 20 21),(Ql 23 22),(Qa 24 (.bin .neq (.t 19) (.t 23)))] [[],[],[0,1],[2],[],[],[4,5],[6],[3,7]] [[2],[2],[0,1,3],[2,8],[6],[6],[4,5,7],[6,8],[3,7]]) (.ite (.t 24) (.seq (.reg [(Qa 4 (.mv (.c .ff)))]) (.ret)) (.skip))))) (.reg [(Qv 25 13 1),(Qm 13 25)])))
@[go_sem] def e119:EC:=.seq (.reg [(Qa 4 (.mv (.c .ff)))]) (.seq (.seq (.reg [(Qm 6 0),(Qa 7 (.len (.t 6))),(Qm 8 1),(Qa 9 (.len (.t 8))),(Qa 10 (.bin .neq (.t 7) (.t 9)))]) (.ite (.t 10) (.seq (.reg [(Qa 4 (.mv (.c .ff)))]) (.ret)) (.skip))) (.seq (.seq (.reg [(Qm 11 0),(Qa 12 (.len (.t 11))),(Qi 13 0)]) (.blk 0 (.loop e119_L0))) (.seq (.reg [(Qa 4 (.mv (.c .tt)))]) (.ret))))
theorem ok119:FnOK Tryz.prog 119 Tryz.f119 e119 [.t 4] 2 24:=⟨by kernel_rfl,⟨_,rfl,by kernel_rfl⟩,by kernel_rfl,by kernel_rfl⟩
noncomputable def Zmh:Unit→Option Bool
| ()=>
 some true
noncomputable def Znh (x1:(List Int)) (x2:(List Int)):Int→Option (Int ⊕ Bool)
| x6=>
 ifb (decide (x6<(ln Z15 x1))) (
 (at_ x1 x6).bind fun x7=>
 (at_ x2 x6).bind fun x8=>
 ifb (!decide (x7=x8)) (
 Option.map Sum.inr (some false)) (
 some (.inl (wr (x6+1))))) (
 Option.map Sum.inr (Zmh ()))
noncomputable def Zoh (x1:(List Int)) (x2:(List Int)):Option Bool:=
 ifb (!decide ((ln Z15 x1)=(ln Z15 x2))) (
 some false) (
 loop (Znh x1 x2) 0)
theorem Zph (x1:(List Int)) (x2:(List Int)) (r:Bool) (h:Zoh x1 x2=some r):Zu2 Tryz.prog 119 [.sl 1 (List.map Z15 x1),.sl 1 (List.map Z15 x2)] (.bv r):=by
 refine Zy2 ok119 rfl rfl fun w0 H0=>?_
 rw [Zoh] at h
 refine Zo2 13 ?_;dsimp only [go_sem];refine An ?_;refine Zn4 h rfl (fun _ h=>?_) fun _ h=>?_
 ·refine Zo2 4 ?_;dsimp only [go_sem];refine An ?_;exact Zv4 (res:=fun (r:Bool)=>.bv r) ok119 h
 ·refine Zo2 8 ?_;dsimp only [go_sem];refine An ?_;refine Zl4 (fun (_:Unit)=>(⟨(an 26 []),[],[]⟩:St)) Zmh r ?_ fun J1=>?_
  ·rintro ⟨⟩ h;rw [Zmh] at h;(try dsimp only);refine Zo2 4 ?_;dsimp only [go_sem];refine An ?_;exact Zv4 (res:=fun (r:Bool)=>.bv r) ok119 h
  ·refine Zo2 1 ?_;dsimp only [go_sem];refine An ?_;refine Zm4 h (fun (x6:Int)=>(⟨(.sl 1 (List.map Z15 x1) :: .sl 1 (List.map Z15 x2)::an 10 (.iv (ln Z15 x1) :: .iv x6::an 12 [])),[],[]⟩:St)) (by simp [go_sem]) (by intro x6;first | rfl | simp [go_sem]) ?_;rintro n1 x6 y1 h hin1 hout1;rw [Znh] at h;(try dsimp only);refine Zo2 5 ?_;dsimp only [go_sem];refine An ?_;refine Zn4 h rfl (fun _ h=>?_) fun _ h=>?_
   ·refine Zo2 9 ?_;dsimp only [go_sem];refine An ?_;refine Zk3 (by kernel_rfl) fun all hall hs hnap haf=>?_;dsimp only [go_sem];refine Zc5 hall hs haf hnap 4 5 ?_;dsimp only [go_sem];refine An ?_;obtain ⟨x7,ex7,h⟩:=Bs h;refine Zr4 hall hs haf hnap 2 Z15 ex7 rfl rfl trivial rfl rfl rfl rfl ?_;refine Zc5 hall hs haf hnap 1 3 ?_;dsimp only [go_sem];refine An ?_;obtain ⟨x8,ex8,h⟩:=Bs h;refine Zr4 hall hs haf hnap 6 Z15 ex8 rfl rfl trivial rfl rfl rfl rfl ?_;refine Zc5 hall hs haf hnap 2 0 ?_;dsimp only [go_sem];refine An ?_;refine Zu3 rfl ?_ _
    refine Zn4 h rfl (fun _ h=>?_) fun _ h=>?_
    ·refine Zo2 4 ?_;dsimp only [go_sem];refine An ?_;exact Zv4 (res:=fun (r:Bool)=>.bv r) ok119 (Zk4 h hout1)
    ·refine Zo2 6 ?_;dsimp only [go_sem];refine An ?_;exact Zw4 h hin1
   ·refine Zo2 1 ?_;dsimp only [go_sem];refine An ?_;exact Zx4 J1 (s:=()) (Zk4 h hout1)
set_option maxRecDepth 100000
set_option maxHeartbeats 4000000
@[go_sem] def e68:EC:=.seq (.reg [(Qx 2 63 5 0),(Qx 3 63 5 1),(Qa 4 (.mv (.c .ff)))]) (.seq (.reg [(Qf 5 0 2),(Qe 6 3 5),(Qf 7 0 3),(Qe 8 3 7),(Qa 9 (.call 118 [(.t 6),(.t 8)])),(Qm 10 9),(Qh 11 10 true 3 2),(Qn 12 10 true 11),(Qh 13 10 true 3 3),(Qn 14 10 true 13),(Qg 15 10 true (.bin .eql (.t 12) (.t 14))),(Qp 16 10 15),(Qm 17 16),(Qh 18 17 true 4 2),(Qn 19 17 true 18),(Qh 20 17 true 4 3),(Qn 21 17 true 20),(Qg 22 17 true (.call 119 [(.t 19),(.t 21)])),(Qp 23 17 22),(Qm 4 23)]) (.ret))
theorem ok68:FnOK Tryz.prog 68 Tryz.f68 e68 [.t 4] 2 22:=⟨by kernel_rfl,⟨_,rfl,by kernel_rfl⟩,by kernel_rfl,by kernel_rfl⟩
noncomputable def Zqh:Bool→Option Bool
| x5=>
 some x5
noncomputable def Zrh (x1:Drinker) (x2:Drinker):Option Bool:=
 (Zlh x1.Diner x2.Diner).bind fun x3=>
 ifb x3 (
 ifb (decide (x1.Thirst=x2.Thirst)) (
 (Zoh x1.Need x2.Need).bind fun x4=>
 Zqh x4) (
 Zqh false)) (
 Zqh false)
theorem Zsh (x1:Drinker) (x2:Drinker) (r:Bool) (h:Zrh x1 x2=some r):Zu2 Tryz.prog 68 [.agg (Drinker.row x1),.agg (Drinker.row x2)] (.bv r):=by
 refine Zy2 ok68 rfl rfl fun w0 H0=>?_
 rw [Zrh] at h
 refine Zo2 12 ?_;dsimp only [go_sem];refine An ?_;obtain ⟨x3,ex3,h⟩:=Bs h;refine Z33 trivial (k_dine_Same x1.Diner x2.Diner _ ex3) (h:=?_);refine Zo2 1 ?_;dsimp only [go_sem];refine An ?_;refine Zl4 (fun (x5:Bool)=>(⟨(an 4 (.bv x5::an 19 [])),[],[]⟩:St)) Zqh r ?_ fun J1=>?_
 ·intro x5 h;rw [Zqh] at h;(try dsimp only);exact Zv4 (res:=fun (r:Bool)=>.bv r) ok68 h
 ·refine Zu4 10 h rfl (fun _ h=>?_) fun _ h=>?_
  ·dsimp only [go_sem];refine Zo2 7 ?_;dsimp only [go_sem];refine An ?_;refine Zu4 17 h rfl (fun _ h=>?_) fun _ h=>?_
   ·dsimp only [go_sem];refine Zo2 4 ?_;dsimp only [go_sem];refine An ?_;obtain ⟨x4,ex4,h⟩:=Bs h;refine Z33 trivial (Zph x1.Need x2.Need _ ex4) (h:=?_);refine Zo2 3 ?_;dsimp only [go_sem];refine An ?_;exact Zx4 J1 (s:=x4) h
   ·dsimp only [go_sem];refine Zo2 8 ?_;dsimp only [go_sem];refine An ?_;exact Zx4 J1 (s:=false) h
  ·dsimp only [go_sem];refine Zo2 15 ?_;dsimp only [go_sem];refine An ?_;exact Zx4 J1 (s:=false) h
set_option maxRecDepth 100000
set_option maxHeartbeats 4000000
@[go_sem] def e135_L0:EC:=.blk 1 (.seq (.reg [(Qm 18 6),(Qa 19 (.nilchk (.t 18))),(Qf 20 0 19),(Qe 21 5 20),(Qa 22 (.call 120 [(.t 21)])),(Qa 7 (.alloc 63 [.iv 0,.iv 0,.nl,.iv 0,.nl])),(Qs 5 7 22)]) (.seq (.reg [(Qm 23 6),(Qa 24 (.call 157 [(.t 23)]))]) (.seq (.drw [(Qe 25 5 7),(Qm 26 6),(Qa 27 (.nilchk (.t 26))),(Qf 28 0 27),(Qe 29 5 28),(Qa 30 (.call 68 [(.t 25),(.t 29)]))] [[],[],[1],[2],[3],[0,4]] [[5],[2],[1,3],[2,4],[3,5],[0,4]]) (.ite (.t 30) (.seq (.drw [(Qm 31 6),(Qa 32 (.nilchk (.t 31))),(Qf 33 0 32),(Qe 34 5 33),(Qm 35 6),(Qa 36 (.nilchk (.t 35))),(Qf 37 5 36),(Ql 38 37),(Qs 5 2 34),(Qm 3 38),(Qi 4 0)] [[],[0],[1],[2],[],[4],[5],[6],[3,0,1,2,3],[7,8,0,1,2,3,4,5,6,7,8],[9,0,1,2,3,4,5,6,7,8,9]] [[1],[0,2],[1,3],[2,8],[5],[4,6],[5,7],[6,9],[3],[7],[]]) (.ret)) (.skip)))))
@[go_sem] def e135:EC:=.seq (.reg [(Qx 1 63 5 0),(Qa 2 (.alloc 63 [.iv 0,.iv 0,.nl,.iv 0,.nl])),(Qa 3 (.mv (.c .nl))),(Qi 4 0)]) (.seq (.seq (.reg [(Qe 8 5 1),(Qa 9 (.call 58 [(.t 8)])),(Qm 5 9)]) (.seq (.reg [(Qm 10 5),(Qa 11 (.bin .neq (.t 10) (.c (.iv 0))))]) (.ite (.t 11) (.seq (.reg [(Qa 12 (.build [.iv 0,.iv 0,.nl,.iv 0,.nl] [])),(Qm 13 5),(Qs 5 2 12),(Qa 3 (.mv (.c .nl))),(Qm 4 13)]) (.ret)) (.skip)))) (.seq (.reg [(Qe 14 5 1),(Qa 15 (.call 120 [(.t 14)])),(Qa 16 (.build [.iv 0,.iv 0,.nl,.iv 0,.nl,.nl] [(0,5,(.t 15))])),(Qx 17 188 6 16),(Qm 6 17)]) (.blk 0 (.loop e135_L0))))
theorem ok135:FnOK Tryz.prog 135 Tryz.f135 e135 [.c 2 (some 5),.t 3,.t 4] 1 38:=⟨by kernel_rfl,⟨_,rfl,by kernel_rfl⟩,by kernel_rfl,by kernel_rfl⟩
noncomputable def Zth (x1:Int) (x2:Int) (_x3:Int) (x4:Int) (x5:(List Side)) (x6:(List Mail)):Option (List Mail):=
 (at_ x5 x4).bind fun x7=>
 (Ze4 40 x6 ([(Mail.mk x2 x7.Peer ((Msg.mk x1 x7.Epoch 0)))])).bind fun x8=>
 some x8
theorem Zuh (x1:Int) (x2:Int) (x3:Int) (x4:Int) (x5:(List Side)) (x6:(List Mail)) (r:(List Mail)) (h:Zth x1 x2 x3 x4 x5 x6=some r):FunT Tryz.prog 194 [.iv x1,.ptr 6 0,.ptr 4 0,.ptr 7 0] [none,none,none,none,some ⟨61,[.iv x2,.iv x3,.osl 1]⟩,none,some ⟨23,[.osl 2]⟩,some ⟨189,[.oel 1 ((x4).toNat*8) 0]⟩] [none,some ⟨66,8,List.map Side.row x5⟩,some ⟨95,5,List.map Mail.row x6⟩] (.tup []) [none,none,none,none,some ⟨61,[.iv x2,.iv x3,.osl 1]⟩,none,some ⟨23,[.osl 4]⟩,some ⟨189,[.oel 1 ((x4).toNat*8) 0]⟩] [none,some ⟨66,8,List.map Side.row x5⟩,none,none,some ⟨95,5,List.map Mail.row r⟩]:=by
 refine Zq5 Zih rfl rfl rfl (by first | rfl | simp [go_sem]) fun w0 M0=>?_
 rw [Zth] at h
 dsimp only [lun,List.cons_append,List.nil_append]
 refine Zk3 (by kernel_rfl) fun all hall hs hnap haf=>?_;dsimp only [go_sem];refine Zc5 hall hs haf hnap 3 14 ?_;dsimp only [go_sem];refine An ?_;refine Zx3 0 3 8 rfl ?_ ?_ ?_
 ·refine Z04 hall rfl trivial ?_;dsimp only [go_sem];refine Zw3 3 8 rfl ?_ ?_
  ·refine Z04 hall rfl trivial ?_;dsimp only [go_sem];refine Zc5 hall hs haf hnap 2 10 ?_;dsimp only [go_sem];refine An ?_;obtain ⟨x7,ex7,h⟩:=Bs h;refine Zw3 6 8 rfl ?_ ?_
   ·refine Zv5 hall Side.row ex7 rfl trivial rfl rfl rfl ?_;dsimp only [go_sem];refine Zv3 8 rfl ?_;refine Z04 hall rfl trivial ?_;dsimp only [go_sem];refine Zc5 hall hs haf hnap 2 6 ?_;dsimp only [go_sem];refine An ?_;refine Zv3 11 rfl ?_;refine Zv5 hall Side.row ex7 rfl trivial rfl rfl rfl ?_;dsimp only [go_sem];refine Zc5 hall hs haf hnap 2 3 ?_;dsimp only [go_sem];refine An ?_;refine Zv3 14 rfl ?_;refine Z04 hall rfl trivial ?_;dsimp only [go_sem];refine Zv3 15 rfl ?_;obtain ⟨x8,ex8,h⟩:=Bs h
    refine Zt4 Mail.row ex8 hall rfl trivial rfl rfl rfl ?_;dsimp only [go_sem];refine Zv3 16 rfl ?_;refine Z04 hall rfl trivial ?_;dsimp only [go_sem];refine Zu3 rfl ?_ _;obtain rfl:=Option.some.inj h;exact Zs5 Zih rfl (by simp [go_sem])
   ·refine Z04 hall rfl trivial ?_;dsimp only [go_sem];refine Zc5 hall hs haf hnap 2 7 ?_;dsimp only [go_sem];refine An ?_;refine Zw3 6 11 rfl ?_ ?_
    ·refine Zv5 hall Side.row ex7 rfl trivial rfl rfl rfl ?_;dsimp only [go_sem];refine Zv3 11 rfl ?_;refine Zv5 hall Side.row ex7 rfl trivial rfl rfl rfl ?_;dsimp only [go_sem];refine Zc5 hall hs haf hnap 2 3 ?_;dsimp only [go_sem];refine An ?_;refine Zv3 14 rfl ?_;refine Z04 hall rfl trivial ?_;dsimp only [go_sem];refine Zv3 15 rfl ?_;obtain ⟨x8,ex8,h⟩:=Bs h;refine Zt4 Mail.row ex8 hall rfl trivial rfl rfl rfl ?_;dsimp only [go_sem];refine Zv3 16 rfl ?_;refine Z04 hall rfl trivial ?_;dsimp only [go_sem];refine Zu3 rfl ?_ _
     obtain rfl:=Option.some.inj h;exact Zs5 Zih rfl (by simp [go_sem])
    ·refine Zv5 hall Side.row ex7 rfl trivial rfl rfl rfl ?_;dsimp only [go_sem];refine Zc5 hall hs haf hnap 1 5 ?_;dsimp only [go_sem];refine An ?_;refine Zv3 6 rfl ?_;refine Zv5 hall Side.row ex7 rfl trivial rfl rfl rfl ?_;dsimp only [go_sem];refine Zc5 hall hs haf hnap 1 3 ?_;dsimp only [go_sem];refine An ?_;refine Zv3 14 rfl ?_;refine Z04 hall rfl trivial ?_;dsimp only [go_sem];refine Zv3 15 rfl ?_;obtain ⟨x8,ex8,h⟩:=Bs h;refine Zt4 Mail.row ex8 hall rfl trivial rfl rfl rfl ?_;dsimp only [go_sem];refine Zv3 16 rfl ?_
     refine Z04 hall rfl trivial ?_;dsimp only [go_sem];refine Zu3 rfl ?_ _;obtain rfl:=Option.some.inj h;exact Zs5 Zih rfl (by simp [go_sem])
  ·refine Z04 hall rfl trivial ?_;dsimp only [go_sem];refine Zc5 hall hs haf hnap 2 10 ?_;dsimp only [go_sem];refine An ?_;obtain ⟨x7,ex7,h⟩:=Bs h;refine Zw3 3 11 rfl ?_ ?_
   ·refine Z04 hall rfl trivial ?_;dsimp only [go_sem];refine Zc5 hall hs haf hnap 2 7 ?_;dsimp only [go_sem];refine An ?_;refine Zw3 6 11 rfl ?_ ?_
    ·refine Zv5 hall Side.row ex7 rfl trivial rfl rfl rfl ?_;dsimp only [go_sem];refine Zv3 11 rfl ?_;refine Zv5 hall Side.row ex7 rfl trivial rfl rfl rfl ?_;dsimp only [go_sem];refine Zc5 hall hs haf hnap 2 3 ?_;dsimp only [go_sem];refine An ?_;refine Zv3 14 rfl ?_;refine Z04 hall rfl trivial ?_;dsimp only [go_sem];refine Zv3 15 rfl ?_;obtain ⟨x8,ex8,h⟩:=Bs h;refine Zt4 Mail.row ex8 hall rfl trivial rfl rfl rfl ?_;dsimp only [go_sem];refine Zv3 16 rfl ?_;refine Z04 hall rfl trivial ?_;dsimp only [go_sem];refine Zu3 rfl ?_ _
     obtain rfl:=Option.some.inj h;exact Zs5 Zih rfl (by simp [go_sem])
    ·refine Zv5 hall Side.row ex7 rfl trivial rfl rfl rfl ?_;dsimp only [go_sem];refine Zc5 hall hs haf hnap 1 5 ?_;dsimp only [go_sem];refine An ?_;refine Zv3 6 rfl ?_;refine Zv5 hall Side.row ex7 rfl trivial rfl rfl rfl ?_;dsimp only [go_sem];refine Zc5 hall hs haf hnap 1 3 ?_;dsimp only [go_sem];refine An ?_;refine Zv3 14 rfl ?_;refine Z04 hall rfl trivial ?_;dsimp only [go_sem];refine Zv3 15 rfl ?_;obtain ⟨x8,ex8,h⟩:=Bs h;refine Zt4 Mail.row ex8 hall rfl trivial rfl rfl rfl ?_;dsimp only [go_sem];refine Zv3 16 rfl ?_
     refine Z04 hall rfl trivial ?_;dsimp only [go_sem];refine Zu3 rfl ?_ _;obtain rfl:=Option.some.inj h;exact Zs5 Zih rfl (by simp [go_sem])
   ·refine Zv5 hall Side.row ex7 rfl trivial rfl rfl rfl ?_;dsimp only [go_sem];refine Zc5 hall hs haf hnap 1 8 ?_;dsimp only [go_sem];refine An ?_;refine Zv3 3 rfl ?_;refine Z04 hall rfl trivial ?_;dsimp only [go_sem];refine Zc5 hall hs haf hnap 2 5 ?_;dsimp only [go_sem];refine An ?_;refine Zv3 6 rfl ?_;refine Zv5 hall Side.row ex7 rfl trivial rfl rfl rfl ?_;dsimp only [go_sem];refine Zc5 hall hs haf hnap 1 3 ?_;dsimp only [go_sem];refine An ?_;refine Zv3 14 rfl ?_;refine Z04 hall rfl trivial ?_;dsimp only [go_sem];refine Zv3 15 rfl ?_
    obtain ⟨x8,ex8,h⟩:=Bs h;refine Zt4 Mail.row ex8 hall rfl trivial rfl rfl rfl ?_;dsimp only [go_sem];refine Zv3 16 rfl ?_;refine Z04 hall rfl trivial ?_;dsimp only [go_sem];refine Zu3 rfl ?_ _;obtain rfl:=Option.some.inj h;exact Zs5 Zih rfl (by simp [go_sem])
 ·refine Z04 hall rfl trivial ?_;dsimp only [go_sem];refine Zc5 hall hs haf hnap 2 11 ?_;dsimp only [go_sem];refine An ?_;obtain ⟨x7,ex7,h⟩:=Bs h;refine Zx3 0 6 8 rfl ?_ ?_ ?_
  ·refine Z04 hall rfl trivial ?_;dsimp only [go_sem];refine Zw3 6 8 rfl ?_ ?_
   ·refine Zv5 hall Side.row ex7 rfl trivial rfl rfl rfl ?_;dsimp only [go_sem];refine Zv3 8 rfl ?_;refine Z04 hall rfl trivial ?_;dsimp only [go_sem];refine Zc5 hall hs haf hnap 2 6 ?_;dsimp only [go_sem];refine An ?_;refine Zv3 11 rfl ?_;refine Zv5 hall Side.row ex7 rfl trivial rfl rfl rfl ?_;dsimp only [go_sem];refine Zc5 hall hs haf hnap 2 3 ?_;dsimp only [go_sem];refine An ?_;refine Zv3 14 rfl ?_;refine Z04 hall rfl trivial ?_;dsimp only [go_sem];refine Zv3 15 rfl ?_;obtain ⟨x8,ex8,h⟩:=Bs h
    refine Zt4 Mail.row ex8 hall rfl trivial rfl rfl rfl ?_;dsimp only [go_sem];refine Zv3 16 rfl ?_;refine Z04 hall rfl trivial ?_;dsimp only [go_sem];refine Zu3 rfl ?_ _;obtain rfl:=Option.some.inj h;exact Zs5 Zih rfl (by simp [go_sem])
   ·refine Z04 hall rfl trivial ?_;dsimp only [go_sem];refine Zc5 hall hs haf hnap 2 7 ?_;dsimp only [go_sem];refine An ?_;refine Zw3 6 11 rfl ?_ ?_
    ·refine Zv5 hall Side.row ex7 rfl trivial rfl rfl rfl ?_;dsimp only [go_sem];refine Zv3 11 rfl ?_;refine Zv5 hall Side.row ex7 rfl trivial rfl rfl rfl ?_;dsimp only [go_sem];refine Zc5 hall hs haf hnap 2 3 ?_;dsimp only [go_sem];refine An ?_;refine Zv3 14 rfl ?_;refine Z04 hall rfl trivial ?_;dsimp only [go_sem];refine Zv3 15 rfl ?_;obtain ⟨x8,ex8,h⟩:=Bs h;refine Zt4 Mail.row ex8 hall rfl trivial rfl rfl rfl ?_;dsimp only [go_sem];refine Zv3 16 rfl ?_;refine Z04 hall rfl trivial ?_;dsimp only [go_sem];refine Zu3 rfl ?_ _
     obtain rfl:=Option.some.inj h;exact Zs5 Zih rfl (by simp [go_sem])
    ·refine Zv5 hall Side.row ex7 rfl trivial rfl rfl rfl ?_;dsimp only [go_sem];refine Zc5 hall hs haf hnap 1 5 ?_;dsimp only [go_sem];refine An ?_;refine Zv3 6 rfl ?_;refine Zv5 hall Side.row ex7 rfl trivial rfl rfl rfl ?_;dsimp only [go_sem];refine Zc5 hall hs haf hnap 1 3 ?_;dsimp only [go_sem];refine An ?_;refine Zv3 14 rfl ?_;refine Z04 hall rfl trivial ?_;dsimp only [go_sem];refine Zv3 15 rfl ?_;obtain ⟨x8,ex8,h⟩:=Bs h;refine Zt4 Mail.row ex8 hall rfl trivial rfl rfl rfl ?_;dsimp only [go_sem];refine Zv3 16 rfl ?_
     refine Z04 hall rfl trivial ?_;dsimp only [go_sem];refine Zu3 rfl ?_ _;obtain rfl:=Option.some.inj h;exact Zs5 Zih rfl (by simp [go_sem])
  ·refine Zv5 hall Side.row ex7 rfl trivial rfl rfl rfl ?_;dsimp only [go_sem];refine Zw3 0 8 rfl ?_ ?_
   ·refine Z04 hall rfl trivial ?_;dsimp only [go_sem];refine Zv3 8 rfl ?_;refine Z04 hall rfl trivial ?_;dsimp only [go_sem];refine Zc5 hall hs haf hnap 2 6 ?_;dsimp only [go_sem];refine An ?_;refine Zv3 11 rfl ?_;refine Zv5 hall Side.row ex7 rfl trivial rfl rfl rfl ?_;dsimp only [go_sem];refine Zc5 hall hs haf hnap 2 3 ?_;dsimp only [go_sem];refine An ?_;refine Zv3 14 rfl ?_;refine Z04 hall rfl trivial ?_;dsimp only [go_sem];refine Zv3 15 rfl ?_;obtain ⟨x8,ex8,h⟩:=Bs h;refine Zt4 Mail.row ex8 hall rfl trivial rfl rfl rfl ?_
    dsimp only [go_sem];refine Zv3 16 rfl ?_;refine Z04 hall rfl trivial ?_;dsimp only [go_sem];refine Zu3 rfl ?_ _;obtain rfl:=Option.some.inj h;exact Zs5 Zih rfl (by simp [go_sem])
   ·refine Z04 hall rfl trivial ?_;dsimp only [go_sem];refine Zc5 hall hs haf hnap 2 7 ?_;dsimp only [go_sem];refine An ?_;refine Zw3 0 11 rfl ?_ ?_
    ·refine Z04 hall rfl trivial ?_;dsimp only [go_sem];refine Zv3 11 rfl ?_;refine Zv5 hall Side.row ex7 rfl trivial rfl rfl rfl ?_;dsimp only [go_sem];refine Zc5 hall hs haf hnap 2 3 ?_;dsimp only [go_sem];refine An ?_;refine Zv3 14 rfl ?_;refine Z04 hall rfl trivial ?_;dsimp only [go_sem];refine Zv3 15 rfl ?_;obtain ⟨x8,ex8,h⟩:=Bs h;refine Zt4 Mail.row ex8 hall rfl trivial rfl rfl rfl ?_;dsimp only [go_sem];refine Zv3 16 rfl ?_;refine Z04 hall rfl trivial ?_;dsimp only [go_sem];refine Zu3 rfl ?_ _;obtain rfl:=Option.some.inj h
     exact Zs5 Zih rfl (by simp [go_sem])
    ·refine Zv5 hall Side.row ex7 rfl trivial rfl rfl rfl ?_;dsimp only [go_sem];refine Zc5 hall hs haf hnap 2 4 ?_;dsimp only [go_sem];refine An ?_;refine Zw3 0 14 rfl ?_ ?_
     ·refine Z04 hall rfl trivial ?_;dsimp only [go_sem];refine Zv3 14 rfl ?_;refine Z04 hall rfl trivial ?_;dsimp only [go_sem];refine Zv3 15 rfl ?_;obtain ⟨x8,ex8,h⟩:=Bs h;refine Zt4 Mail.row ex8 hall rfl trivial rfl rfl rfl ?_;dsimp only [go_sem];refine Zv3 16 rfl ?_;refine Z04 hall rfl trivial ?_;dsimp only [go_sem];refine Zu3 rfl ?_ _;obtain rfl:=Option.some.inj h;exact Zs5 Zih rfl (by simp [go_sem])
     ·refine Z04 hall rfl trivial ?_;dsimp only [go_sem];refine Zv3 0 rfl ?_;refine Z04 hall rfl trivial ?_;dsimp only [go_sem];refine Zv3 15 rfl ?_;obtain ⟨x8,ex8,h⟩:=Bs h;refine Zt4 Mail.row ex8 hall rfl trivial rfl rfl rfl ?_;dsimp only [go_sem];refine Zv3 16 rfl ?_;refine Z04 hall rfl trivial ?_;dsimp only [go_sem];refine Zu3 rfl ?_ _;obtain rfl:=Option.some.inj h;exact Zs5 Zih rfl (by simp [go_sem])
  ·refine Z04 hall rfl trivial ?_;dsimp only [go_sem];refine Zc5 hall hs haf hnap 2 8 ?_;dsimp only [go_sem];refine An ?_;refine Zx3 0 6 11 rfl ?_ ?_ ?_
   ·refine Z04 hall rfl trivial ?_;dsimp only [go_sem];refine Zw3 6 11 rfl ?_ ?_
    ·refine Zv5 hall Side.row ex7 rfl trivial rfl rfl rfl ?_;dsimp only [go_sem];refine Zv3 11 rfl ?_;refine Zv5 hall Side.row ex7 rfl trivial rfl rfl rfl ?_;dsimp only [go_sem];refine Zc5 hall hs haf hnap 2 3 ?_;dsimp only [go_sem];refine An ?_;refine Zv3 14 rfl ?_;refine Z04 hall rfl trivial ?_;dsimp only [go_sem];refine Zv3 15 rfl ?_;obtain ⟨x8,ex8,h⟩:=Bs h;refine Zt4 Mail.row ex8 hall rfl trivial rfl rfl rfl ?_;dsimp only [go_sem];refine Zv3 16 rfl ?_;refine Z04 hall rfl trivial ?_;dsimp only [go_sem];refine Zu3 rfl ?_ _
     obtain rfl:=Option.some.inj h;exact Zs5 Zih rfl (by simp [go_sem])
    ·refine Zv5 hall Side.row ex7 rfl trivial rfl rfl rfl ?_;dsimp only [go_sem];refine Zc5 hall hs haf hnap 1 5 ?_;dsimp only [go_sem];refine An ?_;refine Zv3 6 rfl ?_;refine Zv5 hall Side.row ex7 rfl trivial rfl rfl rfl ?_;dsimp only [go_sem];refine Zc5 hall hs haf hnap 1 3 ?_;dsimp only [go_sem];refine An ?_;refine Zv3 14 rfl ?_;refine Z04 hall rfl trivial ?_;dsimp only [go_sem];refine Zv3 15 rfl ?_;obtain ⟨x8,ex8,h⟩:=Bs h;refine Zt4 Mail.row ex8 hall rfl trivial rfl rfl rfl ?_;dsimp only [go_sem];refine Zv3 16 rfl ?_
     refine Z04 hall rfl trivial ?_;dsimp only [go_sem];refine Zu3 rfl ?_ _;obtain rfl:=Option.some.inj h;exact Zs5 Zih rfl (by simp [go_sem])
   ·refine Zv5 hall Side.row ex7 rfl trivial rfl rfl rfl ?_;dsimp only [go_sem];refine Zw3 0 11 rfl ?_ ?_
    ·refine Z04 hall rfl trivial ?_;dsimp only [go_sem];refine Zv3 11 rfl ?_;refine Zv5 hall Side.row ex7 rfl trivial rfl rfl rfl ?_;dsimp only [go_sem];refine Zc5 hall hs haf hnap 2 3 ?_;dsimp only [go_sem];refine An ?_;refine Zv3 14 rfl ?_;refine Z04 hall rfl trivial ?_;dsimp only [go_sem];refine Zv3 15 rfl ?_;obtain ⟨x8,ex8,h⟩:=Bs h;refine Zt4 Mail.row ex8 hall rfl trivial rfl rfl rfl ?_;dsimp only [go_sem];refine Zv3 16 rfl ?_;refine Z04 hall rfl trivial ?_;dsimp only [go_sem];refine Zu3 rfl ?_ _;obtain rfl:=Option.some.inj h
     exact Zs5 Zih rfl (by simp [go_sem])
    ·refine Zv5 hall Side.row ex7 rfl trivial rfl rfl rfl ?_;dsimp only [go_sem];refine Zc5 hall hs haf hnap 2 4 ?_;dsimp only [go_sem];refine An ?_;refine Zw3 0 14 rfl ?_ ?_
     ·refine Z04 hall rfl trivial ?_;dsimp only [go_sem];refine Zv3 14 rfl ?_;refine Z04 hall rfl trivial ?_;dsimp only [go_sem];refine Zv3 15 rfl ?_;obtain ⟨x8,ex8,h⟩:=Bs h;refine Zt4 Mail.row ex8 hall rfl trivial rfl rfl rfl ?_;dsimp only [go_sem];refine Zv3 16 rfl ?_;refine Z04 hall rfl trivial ?_;dsimp only [go_sem];refine Zu3 rfl ?_ _;obtain rfl:=Option.some.inj h;exact Zs5 Zih rfl (by simp [go_sem])
     ·refine Z04 hall rfl trivial ?_;dsimp only [go_sem];refine Zv3 0 rfl ?_;refine Z04 hall rfl trivial ?_;dsimp only [go_sem];refine Zv3 15 rfl ?_;obtain ⟨x8,ex8,h⟩:=Bs h;refine Zt4 Mail.row ex8 hall rfl trivial rfl rfl rfl ?_;dsimp only [go_sem];refine Zv3 16 rfl ?_;refine Z04 hall rfl trivial ?_;dsimp only [go_sem];refine Zu3 rfl ?_ _;obtain rfl:=Option.some.inj h;exact Zs5 Zih rfl (by simp [go_sem])
   ·refine Zv5 hall Side.row ex7 rfl trivial rfl rfl rfl ?_;dsimp only [go_sem];refine Zc5 hall hs haf hnap 1 6 ?_;dsimp only [go_sem];refine An ?_;refine Zw3 0 6 rfl ?_ ?_
    ·refine Z04 hall rfl trivial ?_;dsimp only [go_sem];refine Zv3 6 rfl ?_;refine Zv5 hall Side.row ex7 rfl trivial rfl rfl rfl ?_;dsimp only [go_sem];refine Zc5 hall hs haf hnap 1 3 ?_;dsimp only [go_sem];refine An ?_;refine Zv3 14 rfl ?_;refine Z04 hall rfl trivial ?_;dsimp only [go_sem];refine Zv3 15 rfl ?_;obtain ⟨x8,ex8,h⟩:=Bs h;refine Zt4 Mail.row ex8 hall rfl trivial rfl rfl rfl ?_;dsimp only [go_sem];refine Zv3 16 rfl ?_;refine Z04 hall rfl trivial ?_;dsimp only [go_sem];refine Zu3 rfl ?_ _;obtain rfl:=Option.some.inj h
     exact Zs5 Zih rfl (by simp [go_sem])
    ·refine Zv5 hall Side.row ex7 rfl trivial rfl rfl rfl ?_;dsimp only [go_sem];refine Zc5 hall hs haf hnap 1 4 ?_;dsimp only [go_sem];refine An ?_;refine Zw3 0 14 rfl ?_ ?_
     ·refine Z04 hall rfl trivial ?_;dsimp only [go_sem];refine Zv3 14 rfl ?_;refine Z04 hall rfl trivial ?_;dsimp only [go_sem];refine Zv3 15 rfl ?_;obtain ⟨x8,ex8,h⟩:=Bs h;refine Zt4 Mail.row ex8 hall rfl trivial rfl rfl rfl ?_;dsimp only [go_sem];refine Zv3 16 rfl ?_;refine Z04 hall rfl trivial ?_;dsimp only [go_sem];refine Zu3 rfl ?_ _;obtain rfl:=Option.some.inj h;exact Zs5 Zih rfl (by simp [go_sem])
     ·refine Z04 hall rfl trivial ?_;dsimp only [go_sem];refine Zv3 0 rfl ?_;refine Z04 hall rfl trivial ?_;dsimp only [go_sem];refine Zv3 15 rfl ?_;obtain ⟨x8,ex8,h⟩:=Bs h;refine Zt4 Mail.row ex8 hall rfl trivial rfl rfl rfl ?_;dsimp only [go_sem];refine Zv3 16 rfl ?_;refine Z04 hall rfl trivial ?_;dsimp only [go_sem];refine Zu3 rfl ?_ _;obtain rfl:=Option.some.inj h;exact Zs5 Zih rfl (by simp [go_sem])
 ·refine Z04 hall rfl trivial ?_;dsimp only [go_sem];refine Zc5 hall hs haf hnap 2 11 ?_;dsimp only [go_sem];refine An ?_;obtain ⟨x7,ex7,h⟩:=Bs h;refine Zx3 0 3 11 rfl ?_ ?_ ?_
  ·refine Z04 hall rfl trivial ?_;dsimp only [go_sem];refine Zw3 3 11 rfl ?_ ?_
   ·refine Z04 hall rfl trivial ?_;dsimp only [go_sem];refine Zc5 hall hs haf hnap 2 7 ?_;dsimp only [go_sem];refine An ?_;refine Zw3 6 11 rfl ?_ ?_
    ·refine Zv5 hall Side.row ex7 rfl trivial rfl rfl rfl ?_;dsimp only [go_sem];refine Zv3 11 rfl ?_;refine Zv5 hall Side.row ex7 rfl trivial rfl rfl rfl ?_;dsimp only [go_sem];refine Zc5 hall hs haf hnap 2 3 ?_;dsimp only [go_sem];refine An ?_;refine Zv3 14 rfl ?_;refine Z04 hall rfl trivial ?_;dsimp only [go_sem];refine Zv3 15 rfl ?_;obtain ⟨x8,ex8,h⟩:=Bs h;refine Zt4 Mail.row ex8 hall rfl trivial rfl rfl rfl ?_;dsimp only [go_sem];refine Zv3 16 rfl ?_;refine Z04 hall rfl trivial ?_;dsimp only [go_sem];refine Zu3 rfl ?_ _
     obtain rfl:=Option.some.inj h;exact Zs5 Zih rfl (by simp [go_sem])
    ·refine Zv5 hall Side.row ex7 rfl trivial rfl rfl rfl ?_;dsimp only [go_sem];refine Zc5 hall hs haf hnap 1 5 ?_;dsimp only [go_sem];refine An ?_;refine Zv3 6 rfl ?_;refine Zv5 hall Side.row ex7 rfl trivial rfl rfl rfl ?_;dsimp only [go_sem];refine Zc5 hall hs haf hnap 1 3 ?_;dsimp only [go_sem];refine An ?_;refine Zv3 14 rfl ?_;refine Z04 hall rfl trivial ?_;dsimp only [go_sem];refine Zv3 15 rfl ?_;obtain ⟨x8,ex8,h⟩:=Bs h;refine Zt4 Mail.row ex8 hall rfl trivial rfl rfl rfl ?_;dsimp only [go_sem];refine Zv3 16 rfl ?_
     refine Z04 hall rfl trivial ?_;dsimp only [go_sem];refine Zu3 rfl ?_ _;obtain rfl:=Option.some.inj h;exact Zs5 Zih rfl (by simp [go_sem])
   ·refine Zv5 hall Side.row ex7 rfl trivial rfl rfl rfl ?_;dsimp only [go_sem];refine Zc5 hall hs haf hnap 1 8 ?_;dsimp only [go_sem];refine An ?_;refine Zv3 3 rfl ?_;refine Z04 hall rfl trivial ?_;dsimp only [go_sem];refine Zc5 hall hs haf hnap 2 5 ?_;dsimp only [go_sem];refine An ?_;refine Zv3 6 rfl ?_;refine Zv5 hall Side.row ex7 rfl trivial rfl rfl rfl ?_;dsimp only [go_sem];refine Zc5 hall hs haf hnap 1 3 ?_;dsimp only [go_sem];refine An ?_;refine Zv3 14 rfl ?_;refine Z04 hall rfl trivial ?_;dsimp only [go_sem];refine Zv3 15 rfl ?_
    obtain ⟨x8,ex8,h⟩:=Bs h;refine Zt4 Mail.row ex8 hall rfl trivial rfl rfl rfl ?_;dsimp only [go_sem];refine Zv3 16 rfl ?_;refine Z04 hall rfl trivial ?_;dsimp only [go_sem];refine Zu3 rfl ?_ _;obtain rfl:=Option.some.inj h;exact Zs5 Zih rfl (by simp [go_sem])
  ·refine Z04 hall rfl trivial ?_;dsimp only [go_sem];refine Zc5 hall hs haf hnap 2 8 ?_;dsimp only [go_sem];refine An ?_;refine Zx3 0 6 11 rfl ?_ ?_ ?_
   ·refine Z04 hall rfl trivial ?_;dsimp only [go_sem];refine Zw3 6 11 rfl ?_ ?_
    ·refine Zv5 hall Side.row ex7 rfl trivial rfl rfl rfl ?_;dsimp only [go_sem];refine Zv3 11 rfl ?_;refine Zv5 hall Side.row ex7 rfl trivial rfl rfl rfl ?_;dsimp only [go_sem];refine Zc5 hall hs haf hnap 2 3 ?_;dsimp only [go_sem];refine An ?_;refine Zv3 14 rfl ?_;refine Z04 hall rfl trivial ?_;dsimp only [go_sem];refine Zv3 15 rfl ?_;obtain ⟨x8,ex8,h⟩:=Bs h;refine Zt4 Mail.row ex8 hall rfl trivial rfl rfl rfl ?_;dsimp only [go_sem];refine Zv3 16 rfl ?_;refine Z04 hall rfl trivial ?_;dsimp only [go_sem];refine Zu3 rfl ?_ _
     obtain rfl:=Option.some.inj h;exact Zs5 Zih rfl (by simp [go_sem])
    ·refine Zv5 hall Side.row ex7 rfl trivial rfl rfl rfl ?_;dsimp only [go_sem];refine Zc5 hall hs haf hnap 1 5 ?_;dsimp only [go_sem];refine An ?_;refine Zv3 6 rfl ?_;refine Zv5 hall Side.row ex7 rfl trivial rfl rfl rfl ?_;dsimp only [go_sem];refine Zc5 hall hs haf hnap 1 3 ?_;dsimp only [go_sem];refine An ?_;refine Zv3 14 rfl ?_;refine Z04 hall rfl trivial ?_;dsimp only [go_sem];refine Zv3 15 rfl ?_;obtain ⟨x8,ex8,h⟩:=Bs h;refine Zt4 Mail.row ex8 hall rfl trivial rfl rfl rfl ?_;dsimp only [go_sem];refine Zv3 16 rfl ?_
     refine Z04 hall rfl trivial ?_;dsimp only [go_sem];refine Zu3 rfl ?_ _;obtain rfl:=Option.some.inj h;exact Zs5 Zih rfl (by simp [go_sem])
   ·refine Zv5 hall Side.row ex7 rfl trivial rfl rfl rfl ?_;dsimp only [go_sem];refine Zw3 0 11 rfl ?_ ?_
    ·refine Z04 hall rfl trivial ?_;dsimp only [go_sem];refine Zv3 11 rfl ?_;refine Zv5 hall Side.row ex7 rfl trivial rfl rfl rfl ?_;dsimp only [go_sem];refine Zc5 hall hs haf hnap 2 3 ?_;dsimp only [go_sem];refine An ?_;refine Zv3 14 rfl ?_;refine Z04 hall rfl trivial ?_;dsimp only [go_sem];refine Zv3 15 rfl ?_;obtain ⟨x8,ex8,h⟩:=Bs h;refine Zt4 Mail.row ex8 hall rfl trivial rfl rfl rfl ?_;dsimp only [go_sem];refine Zv3 16 rfl ?_;refine Z04 hall rfl trivial ?_;dsimp only [go_sem];refine Zu3 rfl ?_ _;obtain rfl:=Option.some.inj h
     exact Zs5 Zih rfl (by simp [go_sem])
    ·refine Zv5 hall Side.row ex7 rfl trivial rfl rfl rfl ?_;dsimp only [go_sem];refine Zc5 hall hs haf hnap 2 4 ?_;dsimp only [go_sem];refine An ?_;refine Zw3 0 14 rfl ?_ ?_
     ·refine Z04 hall rfl trivial ?_;dsimp only [go_sem];refine Zv3 14 rfl ?_;refine Z04 hall rfl trivial ?_;dsimp only [go_sem];refine Zv3 15 rfl ?_;obtain ⟨x8,ex8,h⟩:=Bs h;refine Zt4 Mail.row ex8 hall rfl trivial rfl rfl rfl ?_;dsimp only [go_sem];refine Zv3 16 rfl ?_;refine Z04 hall rfl trivial ?_;dsimp only [go_sem];refine Zu3 rfl ?_ _;obtain rfl:=Option.some.inj h;exact Zs5 Zih rfl (by simp [go_sem])
     ·refine Z04 hall rfl trivial ?_;dsimp only [go_sem];refine Zv3 0 rfl ?_;refine Z04 hall rfl trivial ?_;dsimp only [go_sem];refine Zv3 15 rfl ?_;obtain ⟨x8,ex8,h⟩:=Bs h;refine Zt4 Mail.row ex8 hall rfl trivial rfl rfl rfl ?_;dsimp only [go_sem];refine Zv3 16 rfl ?_;refine Z04 hall rfl trivial ?_;dsimp only [go_sem];refine Zu3 rfl ?_ _;obtain rfl:=Option.some.inj h;exact Zs5 Zih rfl (by simp [go_sem])
   ·refine Zv5 hall Side.row ex7 rfl trivial rfl rfl rfl ?_;dsimp only [go_sem];refine Zc5 hall hs haf hnap 1 6 ?_;dsimp only [go_sem];refine An ?_;refine Zw3 0 6 rfl ?_ ?_
    ·refine Z04 hall rfl trivial ?_;dsimp only [go_sem];refine Zv3 6 rfl ?_;refine Zv5 hall Side.row ex7 rfl trivial rfl rfl rfl ?_;dsimp only [go_sem];refine Zc5 hall hs haf hnap 1 3 ?_;dsimp only [go_sem];refine An ?_;refine Zv3 14 rfl ?_;refine Z04 hall rfl trivial ?_;dsimp only [go_sem];refine Zv3 15 rfl ?_;obtain ⟨x8,ex8,h⟩:=Bs h;refine Zt4 Mail.row ex8 hall rfl trivial rfl rfl rfl ?_;dsimp only [go_sem];refine Zv3 16 rfl ?_;refine Z04 hall rfl trivial ?_;dsimp only [go_sem];refine Zu3 rfl ?_ _;obtain rfl:=Option.some.inj h
     exact Zs5 Zih rfl (by simp [go_sem])
    ·refine Zv5 hall Side.row ex7 rfl trivial rfl rfl rfl ?_;dsimp only [go_sem];refine Zc5 hall hs haf hnap 1 4 ?_;dsimp only [go_sem];refine An ?_;refine Zw3 0 14 rfl ?_ ?_
     ·refine Z04 hall rfl trivial ?_;dsimp only [go_sem];refine Zv3 14 rfl ?_;refine Z04 hall rfl trivial ?_;dsimp only [go_sem];refine Zv3 15 rfl ?_;obtain ⟨x8,ex8,h⟩:=Bs h;refine Zt4 Mail.row ex8 hall rfl trivial rfl rfl rfl ?_;dsimp only [go_sem];refine Zv3 16 rfl ?_;refine Z04 hall rfl trivial ?_;dsimp only [go_sem];refine Zu3 rfl ?_ _;obtain rfl:=Option.some.inj h;exact Zs5 Zih rfl (by simp [go_sem])
     ·refine Z04 hall rfl trivial ?_;dsimp only [go_sem];refine Zv3 0 rfl ?_;refine Z04 hall rfl trivial ?_;dsimp only [go_sem];refine Zv3 15 rfl ?_;obtain ⟨x8,ex8,h⟩:=Bs h;refine Zt4 Mail.row ex8 hall rfl trivial rfl rfl rfl ?_;dsimp only [go_sem];refine Zv3 16 rfl ?_;refine Z04 hall rfl trivial ?_;dsimp only [go_sem];refine Zu3 rfl ?_ _;obtain rfl:=Option.some.inj h;exact Zs5 Zih rfl (by simp [go_sem])
  ·refine Zv5 hall Side.row ex7 rfl trivial rfl rfl rfl ?_;dsimp only [go_sem];refine Zc5 hall hs haf hnap 1 9 ?_;dsimp only [go_sem];refine An ?_;refine Zw3 0 3 rfl ?_ ?_
   ·refine Z04 hall rfl trivial ?_;dsimp only [go_sem];refine Zv3 3 rfl ?_;refine Z04 hall rfl trivial ?_;dsimp only [go_sem];refine Zc5 hall hs haf hnap 2 5 ?_;dsimp only [go_sem];refine An ?_;refine Zv3 6 rfl ?_;refine Zv5 hall Side.row ex7 rfl trivial rfl rfl rfl ?_;dsimp only [go_sem];refine Zc5 hall hs haf hnap 1 3 ?_;dsimp only [go_sem];refine An ?_;refine Zv3 14 rfl ?_;refine Z04 hall rfl trivial ?_;dsimp only [go_sem];refine Zv3 15 rfl ?_;obtain ⟨x8,ex8,h⟩:=Bs h;refine Zt4 Mail.row ex8 hall rfl trivial rfl rfl rfl ?_
    dsimp only [go_sem];refine Zv3 16 rfl ?_;refine Z04 hall rfl trivial ?_;dsimp only [go_sem];refine Zu3 rfl ?_ _;obtain rfl:=Option.some.inj h;exact Zs5 Zih rfl (by simp [go_sem])
   ·refine Z04 hall rfl trivial ?_;dsimp only [go_sem];refine Zc5 hall hs haf hnap 2 6 ?_;dsimp only [go_sem];refine An ?_;refine Zw3 0 6 rfl ?_ ?_
    ·refine Z04 hall rfl trivial ?_;dsimp only [go_sem];refine Zv3 6 rfl ?_;refine Zv5 hall Side.row ex7 rfl trivial rfl rfl rfl ?_;dsimp only [go_sem];refine Zc5 hall hs haf hnap 1 3 ?_;dsimp only [go_sem];refine An ?_;refine Zv3 14 rfl ?_;refine Z04 hall rfl trivial ?_;dsimp only [go_sem];refine Zv3 15 rfl ?_;obtain ⟨x8,ex8,h⟩:=Bs h;refine Zt4 Mail.row ex8 hall rfl trivial rfl rfl rfl ?_;dsimp only [go_sem];refine Zv3 16 rfl ?_;refine Z04 hall rfl trivial ?_;dsimp only [go_sem];refine Zu3 rfl ?_ _;obtain rfl:=Option.some.inj h
     exact Zs5 Zih rfl (by simp [go_sem])
    ·refine Zv5 hall Side.row ex7 rfl trivial rfl rfl rfl ?_;dsimp only [go_sem];refine Zc5 hall hs haf hnap 1 4 ?_;dsimp only [go_sem];refine An ?_;refine Zw3 0 14 rfl ?_ ?_
     ·refine Z04 hall rfl trivial ?_;dsimp only [go_sem];refine Zv3 14 rfl ?_;refine Z04 hall rfl trivial ?_;dsimp only [go_sem];refine Zv3 15 rfl ?_;obtain ⟨x8,ex8,h⟩:=Bs h;refine Zt4 Mail.row ex8 hall rfl trivial rfl rfl rfl ?_;dsimp only [go_sem];refine Zv3 16 rfl ?_;refine Z04 hall rfl trivial ?_;dsimp only [go_sem];refine Zu3 rfl ?_ _;obtain rfl:=Option.some.inj h;exact Zs5 Zih rfl (by simp [go_sem])
     ·refine Z04 hall rfl trivial ?_;dsimp only [go_sem];refine Zv3 0 rfl ?_;refine Z04 hall rfl trivial ?_;dsimp only [go_sem];refine Zv3 15 rfl ?_;obtain ⟨x8,ex8,h⟩:=Bs h;refine Zt4 Mail.row ex8 hall rfl trivial rfl rfl rfl ?_;dsimp only [go_sem];refine Zv3 16 rfl ?_;refine Z04 hall rfl trivial ?_;dsimp only [go_sem];refine Zu3 rfl ?_ _;obtain rfl:=Option.some.inj h;exact Zs5 Zih rfl (by simp [go_sem])
noncomputable def Zvh (x1:Diner) (x50:(List Mail)):(Int×(List Side))→Option (Int×Int×Int×(List Side)×(List Mail))
| (x65,x66)=>
 some (x1.ID,x65,0,x66,x50)
noncomputable def Zwh (x1:Diner) (x49:(List Side)) (x50:(List Mail)):(Int×(List Side))→Option ((Int×(List Side)) ⊕ (Int×Int×Int×(List Side)×(List Mail)))
| (x55,x56)=>
 ifb (decide (x55<(ln Side.row x49))) (
 (at_ x56 x55).bind fun x57=>
 some (.inl (wr (x55+1),x56.set (x55).toNat ((Side.mk x57.Peer x57.Epoch x57.State x57.Fork true x57.Token x57.Bottle x57.Ask))))) (
 Option.map Sum.inr ((Zvh x1 x50) (2,x56)))
noncomputable def Zxh (x1:Diner) (x49:(List Side)) (x50:(List Mail)):Bool→Option (Int×Int×Int×(List Side)×(List Mail))
| x51=>
 ifb x51 (
 loop (Zwh x1 x49 x50) (0,x49)) (
 (Zvh x1 x50) (x1.Phase,x49))
noncomputable def Zyh (x1:Diner):(Bool×(List Side)×(List Mail))→Option (Int×Int×Int×(List Side)×(List Mail))
| (x48,x49,x50)=>
 ifb (decide (x1.Phase=1)) (
 (Zxh x1 x49 x50) x48) (
 (Zxh x1 x49 x50) false)
noncomputable def Zzh (x21:Int) (x33:(List Side)) (x34:(List Mail)):Bool→Option ((Bool×Int×(List Side)×(List Mail)) ⊕ (Int×Int×Int×(List Side)×(List Mail)))
| x36=>
 some (.inl (x36,wr (x21+1),x33,x34))
noncomputable def Z0i (x20:Bool) (x21:Int):((List Side)×(List Mail))→Option ((Bool×Int×(List Side)×(List Mail)) ⊕ (Int×Int×Int×(List Side)×(List Mail)))
| (x33,x34)=>
 ifb x20 (
 (at_ x33 x21).bind fun x35=>
 (Zzh x21 x33 x34) x35.Fork) (
 (Zzh x21 x33 x34) false)
noncomputable def Z1i (x1:Diner) (x20:Bool) (x21:Int) (x27:(List Side)) (x28:(List Mail)):Bool→Option ((Bool×Int×(List Side)×(List Mail)) ⊕ (Int×Int×Int×(List Side)×(List Mail)))
| x30=>
 ifb x30 (
 (at_ x27 x21).bind fun x31=>
 (Zth 2 x1.ID x1.Phase x21 (x27.set (x21).toNat ((Side.mk x31.Peer x31.Epoch x31.State x31.Fork x31.Dirty false x31.Bottle x31.Ask))) x28).bind fun x32=>
 (Z0i x20 x21) ((x27.set (x21).toNat ((Side.mk x31.Peer x31.Epoch x31.State x31.Fork x31.Dirty false x31.Bottle x31.Ask))),x32)) (
 (Z0i x20 x21) (x27,x28))
noncomputable def Z2i (x1:Diner) (x20:Bool) (x21:Int):((List Side)×(List Mail))→Option ((Bool×Int×(List Side)×(List Mail)) ⊕ (Int×Int×Int×(List Side)×(List Mail)))
| (x27,x28)=>
 ifb (decide (x1.Phase=1)) (
 (at_ x27 x21).bind fun x29=>
 ifb x29.Token (
 (Z1i x1 x20 x21 x27 x28) (!x29.Fork)) (
 (Z1i x1 x20 x21 x27 x28) false)) (
 (Z1i x1 x20 x21 x27 x28) false)
noncomputable def Z3i (x1:Diner) (x20:Bool) (x21:Int) (x22:(List Side)) (x23:(List Mail)) (x24:Side):Bool→Option ((Bool×Int×(List Side)×(List Mail)) ⊕ (Int×Int×Int×(List Side)×(List Mail)))
| x25=>
 ifb x25 (
 (Zth 1 x1.ID x1.Phase x21 (x22.set (x21).toNat ((Side.mk x24.Peer x24.Epoch x24.State false false x24.Token x24.Bottle x24.Ask))) x23).bind fun x26=>
 (Z2i x1 x20 x21) ((x22.set (x21).toNat ((Side.mk x24.Peer x24.Epoch x24.State false false x24.Token x24.Bottle x24.Ask))),x26)) (
 (Z2i x1 x20 x21) (x22,x23))
noncomputable def Z4i (x1:Diner) (x3:(List Side)):(Bool×Int×(List Side)×(List Mail))→Option ((Bool×Int×(List Side)×(List Mail)) ⊕ (Int×Int×Int×(List Side)×(List Mail)))
| (x20,x21,x22,x23)=>
 ifb (decide (x21<(ln Side.row x3))) (
 (at_ x22 x21).bind fun x24=>
 ifb x24.Fork (
 ifb x24.Dirty (
 ifb x24.Token (
 (Z3i x1 x20 x21 x22 x23 x24) (!decide (x1.Phase=2))) (
 (Z3i x1 x20 x21 x22 x23 x24) false)) (
 (Z3i x1 x20 x21 x22 x23 x24) false)) (
 (Z3i x1 x20 x21 x22 x23 x24) false)) (
 Option.map Sum.inr ((Zyh x1) (x20,x22,x23)))
noncomputable def Z5i (x1:Diner):Option (Int×Int×Int×(List Side)×(List Mail)):=
 (Zia x1).bind fun x2=>
 ifb (!decide (x2=0)) (
 some (0,0,x2,([]:List Side),([]:List Mail))) (
 (Zma x1.Sides).bind fun x3=>
 loop (Z4i x1 x3) (true,0,x3,([]:List Mail)))
theorem Z6i (x1:Diner) (r:(Int×Int×Int×(List Side)×(List Mail))) (h:Z5i x1=some r):FunT Tryz.prog 177 [.agg [.iv x1.ID,.iv x1.Phase,.sl 8 (List.map Side.row x1.Sides)]] [none,none,none,none] [none] (.tup [.agg [.iv r.1,.iv r.2.1,.osl 1],.osl 2,.iv r.2.2.1]) [none,none,none,none] [none,some ⟨66,8,List.map Side.row r.2.2.2.1⟩,some ⟨95,5,List.map Mail.row r.2.2.2.2⟩]:=by
 refine Zq5 ok177 rfl rfl rfl (by first | rfl | simp [go_sem]) fun w0 M0=>?_
 rw [Z5i] at h
 dsimp only [lun,List.cons_append,List.nil_append]
 refine Zo2 11 ?_;dsimp only [go_sem];refine An ?_;obtain ⟨x2,ex2,h⟩:=Bs h;refine Z33 trivial (Zja x1 _ ex2) (h:=?_);refine Zo2 7 ?_;dsimp only [go_sem];refine An ?_;refine Zn4 h rfl (fun _ h=>?_) fun _ h=>?_
 ·refine Zo2 8 ?_;dsimp only [go_sem];refine An ?_;refine Z84 5 2 66 8 rfl rfl rfl ?_;dsimp only [go_sem];refine Z74 3 95 5 rfl rfl ?_;dsimp only [go_sem];obtain rfl:=Option.some.inj h;exact Zr5 ok177 rfl (by simp [go_sem])
 ·refine Zo2 5 ?_;dsimp only [go_sem];refine An ?_;obtain ⟨x3,ex3,h⟩:=Bs h;refine Za5 trivial (Zna x1.Sides _ ex3) (h:=?_);refine Zo2 19 ?_;dsimp only [go_sem];refine An ?_
  refine Zl4 (fun ((x48,x49,x50):(Bool×(List Side)×(List Mail)))=>(⟨(.any :: .ptr 4 0 :: .ptr 5 0::an 3 (.ptr 6 0 :: .bv x48::an 104 [])),[none,none,none,none,some ⟨61,[.iv x1.ID,.iv x1.Phase,.osl 1]⟩,some ⟨61,[.iv 0,.iv 0,.nl]⟩,some ⟨23,[.osl 2]⟩],[none,some ⟨66,8,List.map Side.row x49⟩,some ⟨95,5,List.map Mail.row x50⟩]⟩:St)) (Zyh x1) r ?_ fun J1=>?_
  ·rintro ⟨x48,x49,x50⟩ h;rw [Zyh] at h;(try dsimp only);refine Zo2 7 ?_;dsimp only [go_sem];refine An ?_;refine Zl4 (fun (x51:Bool)=>(⟨(.any :: .ptr 4 0 :: .ptr 5 0::an 3 (.ptr 6 0::an 89 (.bv x51::an 15 []))),[none,none,none,none,some ⟨61,[.iv x1.ID,.iv x1.Phase,.osl 1]⟩,some ⟨61,[.iv 0,.iv 0,.nl]⟩,some ⟨23,[.osl 2]⟩],[none,some ⟨66,8,List.map Side.row x49⟩,some ⟨95,5,List.map Mail.row x50⟩]⟩:St)) (Zxh x1 x49 x50) r ?_ fun J7=>?_
   ·intro x51 h;rw [Zxh] at h;(try dsimp only);refine Zl4 (fun ((x65,x66):(Int×(List Side)))=>(⟨(.any :: .ptr 4 0 :: .ptr 5 0::an 3 (.ptr 6 0::an 105 [])),[none,none,none,none,some ⟨61,[.iv x1.ID,.iv x65,.osl 1]⟩,some ⟨61,[.iv 0,.iv 0,.nl]⟩,some ⟨23,[.osl 2]⟩],[none,some ⟨66,8,List.map Side.row x66⟩,some ⟨95,5,List.map Mail.row x50⟩]⟩:St)) (Zvh x1 x50) r ?_ fun J8=>?_
    ·rintro ⟨x65,x66⟩ h;rw [Zvh] at h;(try dsimp only);refine Zo2 1 ?_;dsimp only [go_sem];refine An ?_;refine Zk3 (by kernel_rfl) fun all hall hs hnap haf=>?_;dsimp only [go_sem];refine Zw3 0 1 rfl ?_ ?_
     ·refine Z04 hall rfl trivial ?_;dsimp only [go_sem];refine Zw3 1 2 rfl ?_ ?_
      ·refine Z04 hall rfl trivial ?_;dsimp only [go_sem];refine Zv3 2 rfl ?_;refine Z04 hall rfl trivial ?_;dsimp only [go_sem];refine Zc5 hall hs haf hnap 2 0 ?_;dsimp only [go_sem];refine An ?_;refine Zu3 rfl ?_ _;obtain rfl:=Option.some.inj h;exact Zr5 ok177 rfl (by simp [go_sem])
      ·refine Z04 hall rfl trivial ?_;dsimp only [go_sem];refine Zv3 1 rfl ?_;refine Z04 hall rfl trivial ?_;dsimp only [go_sem];refine Zc5 hall hs haf hnap 2 0 ?_;dsimp only [go_sem];refine An ?_;refine Zu3 rfl ?_ _;obtain rfl:=Option.some.inj h;exact Zr5 ok177 rfl (by simp [go_sem])
     ·refine Z04 hall rfl trivial ?_;dsimp only [go_sem];refine Zv3 0 rfl ?_;refine Z04 hall rfl trivial ?_;dsimp only [go_sem];refine Zv3 2 rfl ?_;refine Z04 hall rfl trivial ?_;dsimp only [go_sem];refine Zc5 hall hs haf hnap 2 0 ?_;dsimp only [go_sem];refine An ?_;refine Zu3 rfl ?_ _;obtain rfl:=Option.some.inj h;exact Zr5 ok177 rfl (by simp [go_sem])
    ·refine Zn4 h rfl (fun _ h=>?_) fun _ h=>?_
     ·refine Zo2 13 ?_;dsimp only [go_sem];refine An ?_;refine Zm4 h (fun ((x55,x56):(Int×(List Side)))=>(⟨(.any :: .ptr 4 0 :: .ptr 5 0::an 3 (.ptr 6 0::an 93 (.iv (ln Side.row x49) :: .iv x55::an 10 []))),[none,none,none,none,some ⟨61,[.iv x1.ID,.iv 2,.osl 1]⟩,some ⟨61,[.iv 0,.iv 0,.nl]⟩,some ⟨23,[.osl 2]⟩],[none,some ⟨66,8,List.map Side.row x56⟩,some ⟨95,5,List.map Mail.row x50⟩]⟩:St)) (by simp [go_sem]) (by rintro ⟨x55,x56⟩;first | rfl | simp [go_sem]) ?_;rintro n1 ⟨x55,x56⟩ y1 h hin1 hout1;rw [Zwh] at h
      (try dsimp only);refine Zo2 5 ?_;dsimp only [go_sem];refine An ?_;refine Zn4 h rfl (fun _ h=>?_) fun _ h=>?_
      ·refine Zo2 12 ?_;dsimp only [go_sem];refine An ?_;obtain ⟨x57,ex57,h⟩:=Bs h;refine Zf5 Side.row ex57 trivial rfl rfl rfl ?_;refine Zo2 1 ?_;dsimp only [go_sem];refine An ?_;refine Zl5 [.bv true] Side.row (y':=(Side.mk x57.Peer x57.Epoch x57.State x57.Fork true x57.Token x57.Bottle x57.Ask)) ex57 trivial rfl rfl rfl (by first | exact Zd4 _ | simp [go_sem]) rfl rfl rfl rfl ?_;refine Zo2 6 ?_;dsimp only [go_sem];refine An ?_;exact Zw4 h hin1
      ·refine Zo2 1 ?_;dsimp only [go_sem];refine An ?_;exact Zx4 J8 (s:=(2,x56)) (Zk4 h hout1)
     ·refine Zo2 1 ?_;dsimp only [go_sem];refine An ?_;exact Zx4 J8 (s:=(x1.Phase,x49)) h
   ·refine Zu4 94 h rfl (fun _ h=>?_) fun _ h=>?_
    ·dsimp only [go_sem];refine Zo2 3 ?_;dsimp only [go_sem];refine An ?_;exact Zx4 J7 (s:=x48) h
    ·dsimp only [go_sem];refine Zo2 3 ?_;dsimp only [go_sem];refine An ?_;exact Zx4 J7 (s:=false) h
  ·refine Zo2 1 ?_;dsimp only [go_sem];refine An ?_;refine Z84 6 0 95 5 rfl rfl rfl ?_;dsimp only [go_sem]
   refine Zm4 h (fun ((x20,x21,x22,x23):(Bool×Int×(List Side)×(List Mail)))=>(⟨(.any :: .ptr 4 0 :: .ptr 5 0::an 3 (.ptr 6 0 :: .bv x20::an 16 (.iv (ln Side.row x3) :: .iv x21::an 86 []))),[none,none,none,none,some ⟨61,[.iv x1.ID,.iv x1.Phase,.osl 1]⟩,some ⟨61,[.iv 0,.iv 0,.nl]⟩,some ⟨23,[.osl 2]⟩],[none,some ⟨66,8,List.map Side.row x22⟩,some ⟨95,5,List.map Mail.row x23⟩]⟩:St)) (by simp [go_sem]) (by rintro ⟨x20,x21,x22,x23⟩;first | rfl | simp [go_sem]) ?_;rintro n1 ⟨x20,x21,x22,x23⟩ y1 h hin1 hout1;rw [Z4i] at h
   (try dsimp only);refine Zo2 5 ?_;dsimp only [go_sem];refine An ?_;refine Zn4 h rfl (fun _ h=>?_) fun _ h=>?_
   ·refine Zo2 13 ?_;dsimp only [go_sem];refine An ?_;obtain ⟨x24,ex24,h⟩:=Bs h;refine Zf5 Side.row ex24 trivial rfl rfl rfl ?_;refine Zo2 14 ?_;dsimp only [go_sem];refine An ?_;refine Zg5 Side.row ex24 trivial rfl rfl rfl ?_;refine Zo2 1 ?_;dsimp only [go_sem];refine An ?_
    refine Zl4 (fun (x25:Bool)=>(⟨(.any :: .ptr 4 0 :: .ptr 5 0::an 3 (.ptr 6 0 :: .bv x20 :: .any :: .ptr 7 0 :: .clo 194 [.ptr 6 0,.ptr 4 0,.ptr 7 0]::an 13 (.iv (ln Side.row x3) :: .iv x21::an 27 (.bv x25::an 58 [])))),[none,none,none,none,some ⟨61,[.iv x1.ID,.iv x1.Phase,.osl 1]⟩,some ⟨61,[.iv 0,.iv 0,.nl]⟩,some ⟨23,[.osl 2]⟩,some ⟨189,[.oel 1 ((x21).toNat*8) 0]⟩],[none,some ⟨66,8,List.map Side.row x22⟩,some ⟨95,5,List.map Mail.row x23⟩]⟩:St)) (Z3i x1 x20 x21 x22 x23 x24) y1 ?_ fun J2=>?_
    ·intro x25 h;rw [Z3i] at h;(try dsimp only)
     refine Zl4 (fun ((x27,x28):((List Side)×(List Mail)))=>(⟨(.any :: .ptr 4 0 :: .ptr 5 0::an 3 (.ptr 6 0 :: .bv x20 :: .any :: .ptr 7 0 :: .clo 194 [.ptr 6 0,.ptr 4 0,.ptr 7 0]::an 13 (.iv (ln Side.row x3) :: .iv x21::an 86 []))),[none,none,none,none,some ⟨61,[.iv x1.ID,.iv x1.Phase,.osl 1]⟩,some ⟨61,[.iv 0,.iv 0,.nl]⟩,some ⟨23,[.osl 2]⟩,some ⟨189,[.oel 1 ((x21).toNat*8) 0]⟩],[none,some ⟨66,8,List.map Side.row x27⟩,some ⟨95,5,List.map Mail.row x28⟩]⟩:St)) (Z2i x1 x20 x21) y1 ?_ fun J3=>?_
     ·rintro ⟨x27,x28⟩ h;rw [Z2i] at h;(try dsimp only);refine Zo2 7 ?_;dsimp only [go_sem];refine An ?_
      refine Zl4 (fun (x30:Bool)=>(⟨(.any :: .ptr 4 0 :: .ptr 5 0::an 3 (.ptr 6 0 :: .bv x20 :: .any :: .ptr 7 0 :: .clo 194 [.ptr 6 0,.ptr 4 0,.ptr 7 0]::an 13 (.iv (ln Side.row x3) :: .iv x21::an 51 (.bv x30::an 34 [])))),[none,none,none,none,some ⟨61,[.iv x1.ID,.iv x1.Phase,.osl 1]⟩,some ⟨61,[.iv 0,.iv 0,.nl]⟩,some ⟨23,[.osl 2]⟩,some ⟨189,[.oel 1 ((x21).toNat*8) 0]⟩],[none,some ⟨66,8,List.map Side.row x27⟩,some ⟨95,5,List.map Mail.row x28⟩]⟩:St)) (Z1i x1 x20 x21 x27 x28) y1 ?_ fun J4=>?_
      ·intro x30 h;rw [Z1i] at h;(try dsimp only)
       refine Zl4 (fun ((x33,x34):((List Side)×(List Mail)))=>(⟨(.any :: .ptr 4 0 :: .ptr 5 0::an 3 (.ptr 6 0 :: .bv x20 :: .any :: .ptr 7 0::an 14 (.iv (ln Side.row x3) :: .iv x21::an 86 []))),[none,none,none,none,some ⟨61,[.iv x1.ID,.iv x1.Phase,.osl 1]⟩,some ⟨61,[.iv 0,.iv 0,.nl]⟩,some ⟨23,[.osl 2]⟩,some ⟨189,[.oel 1 ((x21).toNat*8) 0]⟩],[none,some ⟨66,8,List.map Side.row x33⟩,some ⟨95,5,List.map Mail.row x34⟩]⟩:St)) (Z0i x20 x21) y1 ?_ fun J5=>?_
       ·rintro ⟨x33,x34⟩ h;rw [Z0i] at h;(try dsimp only);refine Zo2 3 ?_;dsimp only [go_sem];refine An ?_;refine Zl4 (fun (x36:Bool)=>(⟨(.any :: .ptr 4 0 :: .ptr 5 0::an 3 (.ptr 6 0 :: .bv x36::an 16 (.iv (ln Side.row x3) :: .iv x21::an 86 []))),[none,none,none,none,some ⟨61,[.iv x1.ID,.iv x1.Phase,.osl 1]⟩,some ⟨61,[.iv 0,.iv 0,.nl]⟩,some ⟨23,[.osl 2]⟩],[none,some ⟨66,8,List.map Side.row x33⟩,some ⟨95,5,List.map Mail.row x34⟩]⟩:St)) (Zzh x21 x33 x34) y1 ?_ fun J6=>?_
        ·intro x36 h;rw [Zzh] at h;(try dsimp only);refine Zo2 5 ?_;dsimp only [go_sem];refine An ?_;exact Zw4 h hin1
        ·refine Zu4 84 h rfl (fun _ h=>?_) fun _ h=>?_
         ·dsimp only [go_sem];refine Zo2 3 ?_;dsimp only [go_sem];refine An ?_;obtain ⟨x35,ex35,h⟩:=Bs h;refine Zg5 Side.row ex35 trivial rfl rfl rfl ?_;refine Zo2 3 ?_;dsimp only [go_sem];refine An ?_;exact Zx4 J6 (s:=x35.Fork) h
         ·dsimp only [go_sem];refine Zo2 7 ?_;dsimp only [go_sem];refine An ?_;exact Zx4 J6 (s:=false) h
       ·refine Zn4 h rfl (fun _ h=>?_) fun _ h=>?_
        ·refine Zo2 5 ?_;dsimp only [go_sem];refine An ?_;obtain ⟨x31,ex31,h⟩:=Bs h;refine Zl5 [.bv false] Side.row (y':=(Side.mk x31.Peer x31.Epoch x31.State x31.Fork x31.Dirty false x31.Bottle x31.Ask)) ex31 trivial rfl rfl rfl (by first | exact Zd4 _ | simp [go_sem]) rfl rfl rfl rfl ?_;refine Zo2 3 ?_;dsimp only [go_sem];refine An ?_;obtain ⟨x32,ex32,h⟩:=Bs h
         refine Zu5 [false,false,false,false,true,false,true,true] [false,true,true] trivial rfl (Zuh 2 x1.ID x1.Phase x21 (x27.set (x21).toNat ((Side.mk x31.Peer x31.Epoch x31.State x31.Fork x31.Dirty false x31.Bottle x31.Ask))) x28 _ ex32) (by kernel_rfl) (h:=?_);dsimp only [go_sem];refine Zo2 1 ?_;dsimp only [go_sem];refine An ?_;refine Z64 4 2 rfl rfl rfl ?_;dsimp only [go_sem];exact Zx4 J5 (s:=((x27.set (x21).toNat ((Side.mk x31.Peer x31.Epoch x31.State x31.Fork x31.Dirty false x31.Bottle x31.Ask))),x32)) h
        ·refine Zo2 1 ?_;dsimp only [go_sem];refine An ?_;exact Zx4 J5 (s:=(x27,x28)) h
      ·refine Zu4 65 h rfl (fun _ h=>?_) fun _ h=>?_
       ·dsimp only [go_sem];refine Zo2 3 ?_;dsimp only [go_sem];refine An ?_;obtain ⟨x29,ex29,h⟩:=Bs h;refine Zg5 Side.row ex29 trivial rfl rfl rfl ?_;refine Zo2 2 ?_;dsimp only [go_sem];refine An ?_;refine Zu4 71 h rfl (fun _ h=>?_) fun _ h=>?_
        ·dsimp only [go_sem];refine Zo2 3 ?_;dsimp only [go_sem];refine An ?_;refine Zg5 Side.row ex29 trivial rfl rfl rfl ?_;refine Zo2 3 ?_;dsimp only [go_sem];refine An ?_;exact Zx4 J4 (s:=!x29.Fork) h
        ·dsimp only [go_sem];refine Zo2 7 ?_;dsimp only [go_sem];refine An ?_;exact Zx4 J4 (s:=false) h
       ·dsimp only [go_sem];refine Zo2 13 ?_;dsimp only [go_sem];refine An ?_;exact Zx4 J4 (s:=false) h
     ·refine Zn4 h rfl (fun _ h=>?_) fun _ h=>?_
      ·refine Zo2 1 ?_;dsimp only [go_sem];refine An ?_;refine Zk3 (by kernel_rfl) fun all hall hs hnap haf=>?_;dsimp only [go_sem];refine Zw3 0 1 rfl ?_ ?_
       ·refine Z04 hall rfl trivial ?_;dsimp only [go_sem];refine Zc5 hall hs haf hnap 2 5 ?_;dsimp only [go_sem];refine An ?_;refine Zw3 1 4 rfl ?_ ?_
        ·refine Z04 hall rfl trivial ?_;dsimp only [go_sem];refine Zv3 4 rfl ?_;refine Zw5 hall [.bv false] Side.row (y':=(Side.mk x24.Peer x24.Epoch x24.State false x24.Dirty x24.Token x24.Bottle x24.Ask)) ex24 rfl trivial rfl rfl rfl (by first | exact Zd4 _ | simp [go_sem]) rfl rfl rfl rfl ?_;dsimp only [go_sem];refine Zc5 hall hs haf hnap 2 1 ?_;dsimp only [go_sem];refine An ?_;refine Zv3 7 rfl ?_
         refine Zx5 hall [.bv false] Side.row (y':=(Side.mk x24.Peer x24.Epoch x24.State false false x24.Token x24.Bottle x24.Ask)) (at_set ex24) rfl trivial rfl rfl rfl (by first | exact Zd4 _ | simp [go_sem]) rfl rfl rfl rfl ?_;dsimp only [go_sem];refine Zu3 rfl ?_ _;refine Zo2 2 ?_;dsimp only [go_sem];refine An ?_;obtain ⟨x26,ex26,h⟩:=Bs h
         refine Zu5 [false,false,false,false,true,false,true,true] [false,true,true] trivial rfl (Zuh 1 x1.ID x1.Phase x21 (x22.set (x21).toNat ((Side.mk x24.Peer x24.Epoch x24.State false false x24.Token x24.Bottle x24.Ask))) x23 _ ex26) (by kernel_rfl) (h:=?_);dsimp only [go_sem];refine Zo2 1 ?_;dsimp only [go_sem];refine An ?_;refine Z64 4 2 rfl rfl rfl ?_;dsimp only [go_sem];exact Zx4 J3 (s:=((x22.set (x21).toNat ((Side.mk x24.Peer x24.Epoch x24.State false false x24.Token x24.Bottle x24.Ask))),x26)) h
        ·refine Zw5 hall [.bv false] Side.row (y':=(Side.mk x24.Peer x24.Epoch x24.State false x24.Dirty x24.Token x24.Bottle x24.Ask)) ex24 rfl trivial rfl rfl rfl (by first | exact Zd4 _ | simp [go_sem]) rfl rfl rfl rfl ?_;dsimp only [go_sem];refine Zv3 1 rfl ?_;refine Z04 hall rfl trivial ?_;dsimp only [go_sem];refine Zc5 hall hs haf hnap 2 1 ?_;dsimp only [go_sem];refine An ?_;refine Zv3 7 rfl ?_
         refine Zx5 hall [.bv false] Side.row (y':=(Side.mk x24.Peer x24.Epoch x24.State false false x24.Token x24.Bottle x24.Ask)) (at_set ex24) rfl trivial rfl rfl rfl (by first | exact Zd4 _ | simp [go_sem]) rfl rfl rfl rfl ?_;dsimp only [go_sem];refine Zu3 rfl ?_ _;refine Zo2 2 ?_;dsimp only [go_sem];refine An ?_;obtain ⟨x26,ex26,h⟩:=Bs h
         refine Zu5 [false,false,false,false,true,false,true,true] [false,true,true] trivial rfl (Zuh 1 x1.ID x1.Phase x21 (x22.set (x21).toNat ((Side.mk x24.Peer x24.Epoch x24.State false false x24.Token x24.Bottle x24.Ask))) x23 _ ex26) (by kernel_rfl) (h:=?_);dsimp only [go_sem];refine Zo2 1 ?_;dsimp only [go_sem];refine An ?_;refine Z64 4 2 rfl rfl rfl ?_;dsimp only [go_sem];exact Zx4 J3 (s:=((x22.set (x21).toNat ((Side.mk x24.Peer x24.Epoch x24.State false false x24.Token x24.Bottle x24.Ask))),x26)) h
       ·refine Z04 hall rfl trivial ?_;dsimp only [go_sem];refine Zv3 0 rfl ?_;refine Z04 hall rfl trivial ?_;dsimp only [go_sem];refine Zc5 hall hs haf hnap 2 4 ?_;dsimp only [go_sem];refine An ?_;refine Zv3 4 rfl ?_;refine Zw5 hall [.bv false] Side.row (y':=(Side.mk x24.Peer x24.Epoch x24.State false x24.Dirty x24.Token x24.Bottle x24.Ask)) ex24 rfl trivial rfl rfl rfl (by first | exact Zd4 _ | simp [go_sem]) rfl rfl rfl rfl ?_;dsimp only [go_sem];refine Zc5 hall hs haf hnap 2 1 ?_;dsimp only [go_sem];refine An ?_;refine Zv3 7 rfl ?_
        refine Zx5 hall [.bv false] Side.row (y':=(Side.mk x24.Peer x24.Epoch x24.State false false x24.Token x24.Bottle x24.Ask)) (at_set ex24) rfl trivial rfl rfl rfl (by first | exact Zd4 _ | simp [go_sem]) rfl rfl rfl rfl ?_;dsimp only [go_sem];refine Zu3 rfl ?_ _;refine Zo2 2 ?_;dsimp only [go_sem];refine An ?_;obtain ⟨x26,ex26,h⟩:=Bs h
        refine Zu5 [false,false,false,false,true,false,true,true] [false,true,true] trivial rfl (Zuh 1 x1.ID x1.Phase x21 (x22.set (x21).toNat ((Side.mk x24.Peer x24.Epoch x24.State false false x24.Token x24.Bottle x24.Ask))) x23 _ ex26) (by kernel_rfl) (h:=?_);dsimp only [go_sem];refine Zo2 1 ?_;dsimp only [go_sem];refine An ?_;refine Z64 4 2 rfl rfl rfl ?_;dsimp only [go_sem];exact Zx4 J3 (s:=((x22.set (x21).toNat ((Side.mk x24.Peer x24.Epoch x24.State false false x24.Token x24.Bottle x24.Ask))),x26)) h
      ·refine Zo2 1 ?_;dsimp only [go_sem];refine An ?_;exact Zx4 J3 (s:=(x22,x23)) h
    ·refine Zu4 37 h rfl (fun _ h=>?_) fun _ h=>?_
     ·dsimp only [go_sem];refine Zo2 3 ?_;dsimp only [go_sem];refine An ?_;refine Zg5 Side.row ex24 trivial rfl rfl rfl ?_;refine Zo2 2 ?_;dsimp only [go_sem];refine An ?_;refine Zu4 43 h rfl (fun _ h=>?_) fun _ h=>?_
      ·dsimp only [go_sem];refine Zo2 3 ?_;dsimp only [go_sem];refine An ?_;refine Zg5 Side.row ex24 trivial rfl rfl rfl ?_;refine Zo2 2 ?_;dsimp only [go_sem];refine An ?_;refine Zu4 49 h rfl (fun _ h=>?_) fun _ h=>?_
       ·dsimp only [go_sem];refine Zo2 5 ?_;dsimp only [go_sem];refine An ?_;exact Zx4 J2 (s:=!decide (x1.Phase=2)) h
       ·dsimp only [go_sem];refine Zo2 5 ?_;dsimp only [go_sem];refine An ?_;exact Zx4 J2 (s:=false) h
      ·dsimp only [go_sem];refine Zo2 11 ?_;dsimp only [go_sem];refine An ?_;exact Zx4 J2 (s:=false) h
     ·dsimp only [go_sem];refine Zo2 17 ?_;dsimp only [go_sem];refine An ?_;exact Zx4 J2 (s:=false) h
   ·refine Zo2 1 ?_;dsimp only [go_sem];refine An ?_;exact Zx4 J1 (s:=(x20,x22,x23)) (Zk4 h hout1)
noncomputable def Z7i (x1:Side) (x2:Int) (x3:Int) (_x4:Int) (_x5:Int) (_x6:(List Int)) (_x7:(List Side)) (x8:(List Mail)):Option (List Mail):=
 (Ze4 40 x8 ([(Mail.mk x3 x1.Peer ((Msg.mk x2 x1.Epoch 0)))])).bind fun x9=>
 some x9
theorem Z8i (x1:Side) (x2:Int) (x3:Int) (x4:Int) (x5:Int) (x6:(List Int)) (x7:(List Side)) (x8:(List Mail)) (r:(List Mail)) (h:Z7i x1 x2 x3 x4 x5 x6 x7 x8=some r):FunT Tryz.prog 196 [.ptr 2 0,.agg [.iv x1.Peer,.iv x1.Epoch,.iv x1.State,.bv x1.Fork,.bv x1.Dirty,.bv x1.Token,.bv x1.Bottle,.bv x1.Ask],.iv x2] [none,none,some ⟨188,[.iv x3,.iv x4,.osl 1,.iv x5,.sl 1 (List.map Z15 x6),.osl 5]⟩,none,none] [none,some ⟨66,8,List.map Side.row x7⟩,none,none,none,some ⟨95,5,List.map Mail.row x8⟩] (.tup []) [none,none,some ⟨188,[.iv x3,.iv x4,.osl 1,.iv x5,.sl 1 (List.map Z15 x6),.osl 7]⟩,none,none] [none,some ⟨66,8,List.map Side.row x7⟩,none,none,none,none,none,some ⟨95,5,List.map Mail.row r⟩]:=by
 refine Zq5 ok196 rfl rfl rfl (by first | rfl | simp [go_sem]) fun w0 M0=>?_
 rw [Z7i] at h
 dsimp only [lun,List.cons_append,List.nil_append]
 refine Zo2 4 ?_;dsimp only [go_sem];refine An ?_;refine Zk3 (by kernel_rfl) fun all hall hs hnap haf=>?_;dsimp only [go_sem];refine Zd5 hall hs haf hnap 17 6 [4,1,13,5] [(6,[.ptr 2 0,.ptr 2 0,.ptr 2 0,.ptr 2 5]),(1,[.ptr 2 0,.ptr 2 0,.ptr 2 0,.ptr 2 0,.ptr 2 0,.iv x3,.ptr 5 0,.iv x1.Peer,.iv x2,.ptr 5 1,.iv x1.Epoch,.agg [.iv x2,.iv x1.Epoch,.iv 0],.agg [.iv x3,.iv x1.Peer,.iv x2,.iv x1.Epoch,.iv 0]])] (by kernel_rfl) ?_;dsimp only [go_sem];refine Zw3 4 18 rfl ?_ ?_
 ·refine Z04 hall rfl trivial ?_;dsimp only [go_sem];refine Zv3 18 rfl ?_;refine Z04 hall rfl trivial ?_;dsimp only [go_sem];refine Zv3 19 rfl ?_;obtain ⟨x9,ex9,h⟩:=Bs h;refine Zt4 Mail.row ex9 hall rfl trivial rfl rfl rfl ?_;dsimp only [go_sem];refine Zc5 hall hs haf hnap 2 1 ?_;dsimp only [go_sem];refine An ?_;refine Zv3 22 rfl ?_;refine Z04 hall rfl trivial ?_;dsimp only [go_sem];refine Zu3 rfl ?_ _;obtain rfl:=Option.some.inj h;exact Zs5 ok196 rfl (by simp [go_sem])
 ·refine Z04 hall rfl trivial ?_;dsimp only [go_sem];refine Zv3 4 rfl ?_;refine Z04 hall rfl trivial ?_;dsimp only [go_sem];refine Zv3 19 rfl ?_;obtain ⟨x9,ex9,h⟩:=Bs h;refine Zt4 Mail.row ex9 hall rfl trivial rfl rfl rfl ?_;dsimp only [go_sem];refine Zc5 hall hs haf hnap 2 1 ?_;dsimp only [go_sem];refine An ?_;refine Zv3 22 rfl ?_;refine Z04 hall rfl trivial ?_;dsimp only [go_sem];refine Zu3 rfl ?_ _;obtain rfl:=Option.some.inj h;exact Zs5 ok196 rfl (by simp [go_sem])
noncomputable def Z9i (x59:(List Side)) (x60:(List Mail)):Int→Option (Int×(List Side)×(List Mail))
| x62=>
 some (x62,x59,x60)
noncomputable def Zai (x3:Int) (x59:(List Side)) (x60:(List Mail)):Bool→Option (Int×(List Side)×(List Mail))
| x61=>
 ifb x61 (
 (Z9i x59 x60) 2) (
 (Z9i x59 x60) x3)
noncomputable def Zbi (x3:Int):(Bool×(List Side)×(List Mail))→Option (Int×(List Side)×(List Mail))
| (x58,x59,x60)=>
 ifb (decide (x3=1)) (
 (Zai x3 x59 x60) x58) (
 (Zai x3 x59 x60) false)
noncomputable def Zci (x27:Int) (x41:(List Side)) (x42:(List Mail)):Bool→Option ((Bool×Int×(List Side)×(List Mail)) ⊕ (Int×(List Side)×(List Mail)))
| x44=>
 some (.inl (x44,wr (x27+1),x41,x42))
noncomputable def Zdi (x26:Bool) (x27:Int) (x31:Bool):((List Side)×(List Mail))→Option ((Bool×Int×(List Side)×(List Mail)) ⊕ (Int×(List Side)×(List Mail)))
| (x41,x42)=>
 ifb x26 (
 ifb (!x31) (
 (Zci x27 x41 x42) true) (
 (at_ x41 x27).bind fun x43=>
 (Zci x27 x41 x42) x43.Bottle)) (
 (Zci x27 x41 x42) false)
noncomputable def Zei (x1:Int) (x2:Int) (x3:Int) (x4:(List Int)) (x26:Bool) (x27:Int) (x31:Bool) (x35:(List Side)) (x36:(List Mail)):Bool→Option ((Bool×Int×(List Side)×(List Mail)) ⊕ (Int×(List Side)×(List Mail)))
| x38=>
 ifb x38 (
 (at_ x35 x27).bind fun x39=>
 (Z7i ((Side.mk x39.Peer x39.Epoch x39.State x39.Fork x39.Dirty x39.Token x39.Bottle false)) 4 x1 x2 x3 x4 (x35.set (x27).toNat ((Side.mk x39.Peer x39.Epoch x39.State x39.Fork x39.Dirty x39.Token x39.Bottle false))) x36).bind fun x40=>
 (Zdi x26 x27 x31) ((x35.set (x27).toNat ((Side.mk x39.Peer x39.Epoch x39.State x39.Fork x39.Dirty x39.Token x39.Bottle false))),x40)) (
 (Zdi x26 x27 x31) (x35,x36))
noncomputable def Zfi (x1:Int) (x2:Int) (x3:Int) (x4:(List Int)) (x26:Bool) (x27:Int) (x31:Bool):((List Side)×(List Mail))→Option ((Bool×Int×(List Side)×(List Mail)) ⊕ (Int×(List Side)×(List Mail)))
| (x35,x36)=>
 ifb (decide (x3=1)) (
 ifb x31 (
 (at_ x35 x27).bind fun x37=>
 ifb x37.Ask (
 (Zei x1 x2 x3 x4 x26 x27 x31 x35 x36) (!x37.Bottle)) (
 (Zei x1 x2 x3 x4 x26 x27 x31 x35 x36) false)) (
 (Zei x1 x2 x3 x4 x26 x27 x31 x35 x36) false)) (
 (Zei x1 x2 x3 x4 x26 x27 x31 x35 x36) false)
noncomputable def Zgi (x1:Int) (x2:Int) (x3:Int) (x4:(List Int)) (x26:Bool) (x27:Int) (x28:(List Side)) (x29:(List Mail)) (x30:Side) (x31:Bool):Bool→Option ((Bool×Int×(List Side)×(List Mail)) ⊕ (Int×(List Side)×(List Mail)))
| x33=>
 ifb x33 (
 (Z7i ((Side.mk x30.Peer x30.Epoch x30.State x30.Fork x30.Dirty x30.Token false x30.Ask)) 3 x1 x2 x3 x4 (x28.set (x27).toNat ((Side.mk x30.Peer x30.Epoch x30.State x30.Fork x30.Dirty x30.Token false x30.Ask))) x29).bind fun x34=>
 (Zfi x1 x2 x3 x4 x26 x27 x31) ((x28.set (x27).toNat ((Side.mk x30.Peer x30.Epoch x30.State x30.Fork x30.Dirty x30.Token false x30.Ask))),x34)) (
 (Zfi x1 x2 x3 x4 x26 x27 x31) (x28,x29))
noncomputable def Zhi (x1:Int) (x2:Int) (x3:Int) (x4:(List Int)) (x26:Bool) (x27:Int) (x28:(List Side)) (x29:(List Mail)) (x30:Side) (x31:Bool):Bool→Option ((Bool×Int×(List Side)×(List Mail)) ⊕ (Int×(List Side)×(List Mail)))
| x32=>
 ifb x30.Bottle (
 ifb x30.Ask (
 (Zgi x1 x2 x3 x4 x26 x27 x28 x29 x30 x31) (!x32)) (
 (Zgi x1 x2 x3 x4 x26 x27 x28 x29 x30 x31) false)) (
 (Zgi x1 x2 x3 x4 x26 x27 x28 x29 x30 x31) false)
noncomputable def Zii (x1:Int) (x2:Int) (x3:Int) (x4:(List Int)) (x5:(List Side)):(Bool×Int×(List Side)×(List Mail))→Option ((Bool×Int×(List Side)×(List Mail)) ⊕ (Int×(List Side)×(List Mail)))
| (x26,x27,x28,x29)=>
 ifb (decide (x27<(ln Side.row x5))) (
 (at_ x28 x27).bind fun x30=>
 (Zjh x4 x30.Peer).bind fun x31=>
 ifb x31 (
 ifb (decide (x3=2)) (
 (Zhi x1 x2 x3 x4 x26 x27 x28 x29 x30 x31) true) (
 ifb (decide (x3=1)) (
 (Zhi x1 x2 x3 x4 x26 x27 x28 x29 x30 x31) x30.Fork) (
 (Zhi x1 x2 x3 x4 x26 x27 x28 x29 x30 x31) false))) (
 (Zhi x1 x2 x3 x4 x26 x27 x28 x29 x30 x31) false)) (
 Option.map Sum.inr ((Zbi x3) (x26,x28,x29)))
noncomputable def Zji (x1:Int) (x2:Int) (x3:Int) (x4:(List Int)) (x5:(List Side)) (x6:(List Mail)):Option (Int×(List Side)×(List Mail)):=
 loop (Zii x1 x2 x3 x4 x5) (true,0,x5,x6)
theorem Zki (x1:Int) (x2:Int) (x3:Int) (x4:(List Int)) (x5:(List Side)) (x6:(List Mail)) (r:(Int×(List Side)×(List Mail))) (h:Zji x1 x2 x3 x4 x5 x6=some r):FunT Tryz.prog 178 [.ptr 2 0] [none,none,some ⟨188,[.iv x1,.iv x2,.osl 1,.iv x3,.sl 1 (List.map Z15 x4),.osl 3]⟩,none,none] [none,some ⟨66,8,List.map Side.row x5⟩,none,some ⟨95,5,List.map Mail.row x6⟩] (.tup []) [none,none,some ⟨188,[.iv x1,.iv x2,.osl 1,.iv r.1,.sl 1 (List.map Z15 x4),.osl 5]⟩,none,none] [none,some ⟨66,8,List.map Side.row r.2.1⟩,none,none,none,some ⟨95,5,List.map Mail.row r.2.2⟩]:=by
 refine Zq5 ok178 rfl rfl rfl (by first | rfl | simp [go_sem]) fun w0 M0=>?_
 rw [Zji] at h
 dsimp only [lun,List.cons_append,List.nil_append]
 refine Zo2 16 ?_;dsimp only [go_sem];refine An ?_;refine Zl4 (fun ((x58,x59,x60):(Bool×(List Side)×(List Mail)))=>(⟨(.ptr 2 0 :: .any :: .bv x58::an 132 []),[none,none,some ⟨188,[.iv x1,.iv x2,.osl 1,.iv x3,.sl 1 (List.map Z15 x4),.osl 5]⟩,none,none],[none,some ⟨66,8,List.map Side.row x59⟩,none,none,none,some ⟨95,5,List.map Mail.row x60⟩]⟩:St)) (Zbi x3) r ?_ fun J1=>?_
 ·rintro ⟨x58,x59,x60⟩ h;rw [Zbi] at h;(try dsimp only);refine Zo2 9 ?_;dsimp only [go_sem];refine An ?_;refine Zl4 (fun (x61:Bool)=>(⟨(.ptr 2 0::an 129 (.bv x61::an 4 [])),[none,none,some ⟨188,[.iv x1,.iv x2,.osl 1,.iv x3,.sl 1 (List.map Z15 x4),.osl 5]⟩,none,none],[none,some ⟨66,8,List.map Side.row x59⟩,none,none,none,some ⟨95,5,List.map Mail.row x60⟩]⟩:St)) (Zai x3 x59 x60) r ?_ fun J8=>?_
  ·intro x61 h;rw [Zai] at h;(try dsimp only);refine Zl4 (fun (x62:Int)=>(⟨(an 135 []),[none,none,some ⟨188,[.iv x1,.iv x2,.osl 1,.iv x62,.sl 1 (List.map Z15 x4),.osl 5]⟩,none,none],[none,some ⟨66,8,List.map Side.row x59⟩,none,none,none,some ⟨95,5,List.map Mail.row x60⟩]⟩:St)) (Z9i x59 x60) r ?_ fun J9=>?_
   ·intro x62 h;rw [Z9i] at h;(try dsimp only);obtain rfl:=Option.some.inj h;exact Zs5 ok178 rfl (by simp [go_sem])
   ·refine Zn4 h rfl (fun _ h=>?_) fun _ h=>?_
    ·refine Zo2 7 ?_;dsimp only [go_sem];refine An ?_;exact Zx4 J9 (s:=2) h
    ·refine Zo2 1 ?_;dsimp only [go_sem];refine An ?_;exact Zx4 J9 (s:=x3) h
  ·refine Zu4 128 h rfl (fun _ h=>?_) fun _ h=>?_
   ·dsimp only [go_sem];refine Zo2 3 ?_;dsimp only [go_sem];refine An ?_;exact Zx4 J8 (s:=x58) h
   ·dsimp only [go_sem];refine Zo2 3 ?_;dsimp only [go_sem];refine An ?_;exact Zx4 J8 (s:=false) h
 ·refine Zo2 1 ?_;dsimp only [go_sem];refine An ?_;refine V_new 95 5 rfl ?_;dsimp only [go_sem];refine V_new 95 5 rfl ?_;dsimp only [go_sem];refine Z64 3 5 rfl rfl rfl ?_;dsimp only [go_sem]
  refine Zm4 h (fun ((x26,x27,x28,x29):(Bool×Int×(List Side)×(List Mail)))=>(⟨(.ptr 2 0 :: .any :: .bv x26::an 10 (.iv (ln Side.row x5) :: .iv x27::an 120 [])),[none,none,some ⟨188,[.iv x1,.iv x2,.osl 1,.iv x3,.sl 1 (List.map Z15 x4),.osl 5]⟩,none,none],[none,some ⟨66,8,List.map Side.row x28⟩,none,none,none,some ⟨95,5,List.map Mail.row x29⟩]⟩:St)) (by simp [go_sem]) (by rintro ⟨x26,x27,x28,x29⟩;first | rfl | simp [go_sem]) ?_;rintro n1 ⟨x26,x27,x28,x29⟩ y1 h hin1 hout1;rw [Zii] at h;(try dsimp only)
  refine Zo2 5 ?_;dsimp only [go_sem];refine An ?_;refine Zn4 h rfl (fun _ h=>?_) fun _ h=>?_
  ·refine Zo2 17 ?_;dsimp only [go_sem];refine An ?_;obtain ⟨x30,ex30,h⟩:=Bs h;refine Zf5 Side.row ex30 trivial rfl rfl rfl ?_;refine Zo2 3 ?_;dsimp only [go_sem];refine An ?_;refine Zk3 (by kernel_rfl) fun all hall hs hnap haf=>?_;dsimp only [go_sem];refine Zd5 hall hs haf hnap 8 3 [8,3] [(25,[.ptr 2 0,.ptr 2 0,.ptr 2 0,.ptr 2 4,.sl 1 (List.map Z15 x4),.oel 1 ((x27).toNat*8) 0,.oel 1 ((x27).toNat*8) 0,.oel 1 ((x27).toNat*8) 0])] (by kernel_rfl) ?_;dsimp only [go_sem];refine Zv3 8 rfl ?_
   refine Zv5 hall Side.row ex30 rfl trivial rfl rfl rfl ?_;dsimp only [go_sem];refine Zv3 9 rfl ?_;obtain ⟨x31,ex31,h⟩:=Bs h;refine Z14 hall rfl trivial (k_set_Has x4 x30.Peer _ ex31) (h:=?_);dsimp only [go_sem];refine Zc5 hall hs haf hnap 1 0 ?_;dsimp only [go_sem];refine An ?_;refine Zu3 rfl ?_ _;refine Zo2 4 ?_;dsimp only [go_sem];refine An ?_
   refine Zl4 (fun (x32:Bool)=>(⟨(.ptr 2 0 :: .any :: .bv x26 :: .any :: .oel 1 ((x27).toNat*8) 0 :: .bv x31 :: .bv x32::an 6 (.iv (ln Side.row x5) :: .iv x27::an 120 [])),[none,none,some ⟨188,[.iv x1,.iv x2,.osl 1,.iv x3,.sl 1 (List.map Z15 x4),.osl 5]⟩,none,none],[none,some ⟨66,8,List.map Side.row x28⟩,none,none,none,some ⟨95,5,List.map Mail.row x29⟩]⟩:St)) (Zhi x1 x2 x3 x4 x26 x27 x28 x29 x30 x31) y1 ?_ fun J2=>?_
   ·intro x32 h;rw [Zhi] at h;(try dsimp only);refine Zo2 6 ?_;dsimp only [go_sem];refine An ?_;refine Zg5 Side.row ex30 trivial rfl rfl rfl ?_;refine Zo2 1 ?_;dsimp only [go_sem];refine An ?_
    refine Zl4 (fun (x33:Bool)=>(⟨(.ptr 2 0 :: .any :: .bv x26 :: .any :: .oel 1 ((x27).toNat*8) 0 :: .bv x31::an 7 (.iv (ln Side.row x5) :: .iv x27::an 56 (.bv x33::an 63 []))),[none,none,some ⟨188,[.iv x1,.iv x2,.osl 1,.iv x3,.sl 1 (List.map Z15 x4),.osl 5]⟩,none,none],[none,some ⟨66,8,List.map Side.row x28⟩,none,none,none,some ⟨95,5,List.map Mail.row x29⟩]⟩:St)) (Zgi x1 x2 x3 x4 x26 x27 x28 x29 x30 x31) y1 ?_ fun J3=>?_
    ·intro x33 h;rw [Zgi] at h;(try dsimp only);refine Zl4 (fun ((x35,x36):((List Side)×(List Mail)))=>(⟨(.ptr 2 0 :: .any :: .bv x26 :: .any :: .oel 1 ((x27).toNat*8) 0 :: .bv x31::an 7 (.iv (ln Side.row x5) :: .iv x27::an 120 [])),[none,none,some ⟨188,[.iv x1,.iv x2,.osl 1,.iv x3,.sl 1 (List.map Z15 x4),.osl 5]⟩,none,none],[none,some ⟨66,8,List.map Side.row x35⟩,none,none,none,some ⟨95,5,List.map Mail.row x36⟩]⟩:St)) (Zfi x1 x2 x3 x4 x26 x27 x31) y1 ?_ fun J4=>?_
     ·rintro ⟨x35,x36⟩ h;rw [Zfi] at h;(try dsimp only);refine Zo2 10 ?_;dsimp only [go_sem];refine An ?_
      refine Zl4 (fun (x38:Bool)=>(⟨(.ptr 2 0 :: .any :: .bv x26 :: .any :: .oel 1 ((x27).toNat*8) 0 :: .bv x31::an 7 (.iv (ln Side.row x5) :: .iv x27::an 86 (.bv x38::an 33 []))),[none,none,some ⟨188,[.iv x1,.iv x2,.osl 1,.iv x3,.sl 1 (List.map Z15 x4),.osl 5]⟩,none,none],[none,some ⟨66,8,List.map Side.row x35⟩,none,none,none,some ⟨95,5,List.map Mail.row x36⟩]⟩:St)) (Zei x1 x2 x3 x4 x26 x27 x31 x35 x36) y1 ?_ fun J5=>?_
      ·intro x38 h;rw [Zei] at h;(try dsimp only);refine Zl4 (fun ((x41,x42):((List Side)×(List Mail)))=>(⟨(.ptr 2 0 :: .any :: .bv x26 :: .any :: .oel 1 ((x27).toNat*8) 0 :: .bv x31::an 7 (.iv (ln Side.row x5) :: .iv x27::an 120 [])),[none,none,some ⟨188,[.iv x1,.iv x2,.osl 1,.iv x3,.sl 1 (List.map Z15 x4),.osl 5]⟩,none,none],[none,some ⟨66,8,List.map Side.row x41⟩,none,none,none,some ⟨95,5,List.map Mail.row x42⟩]⟩:St)) (Zdi x26 x27 x31) y1 ?_ fun J6=>?_
       ·rintro ⟨x41,x42⟩ h;rw [Zdi] at h;(try dsimp only);refine Zo2 3 ?_;dsimp only [go_sem];refine An ?_;refine Zl4 (fun (x44:Bool)=>(⟨(.ptr 2 0 :: .any :: .bv x44::an 10 (.iv (ln Side.row x5) :: .iv x27::an 120 [])),[none,none,some ⟨188,[.iv x1,.iv x2,.osl 1,.iv x3,.sl 1 (List.map Z15 x4),.osl 5]⟩,none,none],[none,some ⟨66,8,List.map Side.row x41⟩,none,none,none,some ⟨95,5,List.map Mail.row x42⟩]⟩:St)) (Zci x27 x41 x42) y1 ?_ fun J7=>?_
        ·intro x44 h;rw [Zci] at h;(try dsimp only);refine Zo2 5 ?_;dsimp only [go_sem];refine An ?_;exact Zw4 h hin1
        ·refine Zu4 111 h rfl (fun _ h=>?_) fun _ h=>?_
         ·dsimp only [go_sem];refine Zo2 3 ?_;dsimp only [go_sem];refine An ?_;refine Zu4 114 h rfl (fun _ h=>?_) fun _ h=>?_
          ·dsimp only [go_sem];refine Zo2 8 ?_;dsimp only [go_sem];refine An ?_;exact Zx4 J7 (s:=true) h
          ·dsimp only [go_sem];refine Zo2 3 ?_;dsimp only [go_sem];refine An ?_;obtain ⟨x43,ex43,h⟩:=Bs h;refine Zg5 Side.row ex43 trivial rfl rfl rfl ?_;refine Zo2 4 ?_;dsimp only [go_sem];refine An ?_;exact Zx4 J7 (s:=x43.Bottle) h
         ·dsimp only [go_sem];refine Zo2 11 ?_;dsimp only [go_sem];refine An ?_;exact Zx4 J7 (s:=false) h
       ·refine Zn4 h rfl (fun _ h=>?_) fun _ h=>?_
        ·refine Zo2 5 ?_;dsimp only [go_sem];refine An ?_;obtain ⟨x39,ex39,h⟩:=Bs h;refine Zl5 [.bv false] Side.row (y':=(Side.mk x39.Peer x39.Epoch x39.State x39.Fork x39.Dirty x39.Token x39.Bottle false)) ex39 trivial rfl rfl rfl (by first | exact Zd4 _ | simp [go_sem]) rfl rfl rfl rfl ?_;refine Zo2 5 ?_;dsimp only [go_sem];refine An ?_;refine Zh5 Side.row (at_set ex39) trivial rfl rfl rfl ?_;obtain ⟨x40,ex40,h⟩:=Bs h
         refine Zt5 [false,false,true,false,false] [false,true,false,false,false,true] trivial (Z8i ((Side.mk x39.Peer x39.Epoch x39.State x39.Fork x39.Dirty x39.Token x39.Bottle false)) 4 x1 x2 x3 x4 (x35.set (x27).toNat ((Side.mk x39.Peer x39.Epoch x39.State x39.Fork x39.Dirty x39.Token x39.Bottle false))) x36 _ ex40) (h:=?_);dsimp only [go_sem];refine Zo2 1 ?_;dsimp only [go_sem];refine An ?_;refine Z64 7 5 rfl rfl rfl ?_;dsimp only [go_sem]
         exact Zx4 J6 (s:=((x35.set (x27).toNat ((Side.mk x39.Peer x39.Epoch x39.State x39.Fork x39.Dirty x39.Token x39.Bottle false))),x40)) h
        ·refine Zo2 1 ?_;dsimp only [go_sem];refine An ?_;exact Zx4 J6 (s:=(x35,x36)) h
      ·refine Zu4 86 h rfl (fun _ h=>?_) fun _ h=>?_
       ·dsimp only [go_sem];refine Zo2 3 ?_;dsimp only [go_sem];refine An ?_;refine Zu4 89 h rfl (fun _ h=>?_) fun _ h=>?_
        ·dsimp only [go_sem];refine Zo2 3 ?_;dsimp only [go_sem];refine An ?_;obtain ⟨x37,ex37,h⟩:=Bs h;refine Zg5 Side.row ex37 trivial rfl rfl rfl ?_;refine Zo2 2 ?_;dsimp only [go_sem];refine An ?_;refine Zu4 95 h rfl (fun _ h=>?_) fun _ h=>?_
         ·dsimp only [go_sem];refine Zo2 3 ?_;dsimp only [go_sem];refine An ?_;refine Zg5 Side.row ex37 trivial rfl rfl rfl ?_;refine Zo2 3 ?_;dsimp only [go_sem];refine An ?_;exact Zx4 J5 (s:=!x37.Bottle) h
         ·dsimp only [go_sem];refine Zo2 7 ?_;dsimp only [go_sem];refine An ?_;exact Zx4 J5 (s:=false) h
        ·dsimp only [go_sem];refine Zo2 13 ?_;dsimp only [go_sem];refine An ?_;exact Zx4 J5 (s:=false) h
       ·dsimp only [go_sem];refine Zo2 16 ?_;dsimp only [go_sem];refine An ?_;exact Zx4 J5 (s:=false) h
     ·refine Zn4 h rfl (fun _ h=>?_) fun _ h=>?_
      ·refine Zo2 5 ?_;dsimp only [go_sem];refine An ?_;refine Zl5 [.bv false] Side.row (y':=(Side.mk x30.Peer x30.Epoch x30.State x30.Fork x30.Dirty x30.Token false x30.Ask)) ex30 trivial rfl rfl rfl (by first | exact Zd4 _ | simp [go_sem]) rfl rfl rfl rfl ?_;refine Zo2 5 ?_;dsimp only [go_sem];refine An ?_;refine Zh5 Side.row (at_set ex30) trivial rfl rfl rfl ?_;obtain ⟨x34,ex34,h⟩:=Bs h
       refine Zt5 [false,false,true,false,false] [false,true,false,false,false,true] trivial (Z8i ((Side.mk x30.Peer x30.Epoch x30.State x30.Fork x30.Dirty x30.Token false x30.Ask)) 3 x1 x2 x3 x4 (x28.set (x27).toNat ((Side.mk x30.Peer x30.Epoch x30.State x30.Fork x30.Dirty x30.Token false x30.Ask))) x29 _ ex34) (h:=?_);dsimp only [go_sem];refine Zo2 1 ?_;dsimp only [go_sem];refine An ?_;refine Z64 7 5 rfl rfl rfl ?_;dsimp only [go_sem]
       exact Zx4 J4 (s:=((x28.set (x27).toNat ((Side.mk x30.Peer x30.Epoch x30.State x30.Fork x30.Dirty x30.Token false x30.Ask))),x34)) h
      ·refine Zo2 1 ?_;dsimp only [go_sem];refine An ?_;exact Zx4 J4 (s:=(x28,x29)) h
    ·refine Zu4 62 h rfl (fun _ h=>?_) fun _ h=>?_
     ·dsimp only [go_sem];refine Zo2 3 ?_;dsimp only [go_sem];refine An ?_;refine Zg5 Side.row ex30 trivial rfl rfl rfl ?_;refine Zo2 2 ?_;dsimp only [go_sem];refine An ?_;refine Zu4 68 h rfl (fun _ h=>?_) fun _ h=>?_
      ·dsimp only [go_sem];refine Zo2 4 ?_;dsimp only [go_sem];refine An ?_;exact Zx4 J3 (s:=!x32) h
      ·dsimp only [go_sem];refine Zo2 4 ?_;dsimp only [go_sem];refine An ?_;exact Zx4 J3 (s:=false) h
     ·dsimp only [go_sem];refine Zo2 10 ?_;dsimp only [go_sem];refine An ?_;exact Zx4 J3 (s:=false) h
   ·refine Zu4 36 h rfl (fun _ h=>?_) fun _ h=>?_
    ·dsimp only [go_sem];refine Zo2 7 ?_;dsimp only [go_sem];refine An ?_;refine Zu4 43 h rfl (fun _ h=>?_) fun _ h=>?_
     ·dsimp only [go_sem];refine Zo2 16 ?_;dsimp only [go_sem];refine An ?_;exact Zx4 J2 (s:=true) h
     ·dsimp only [go_sem];refine Zo2 7 ?_;dsimp only [go_sem];refine An ?_;refine Zu4 50 h rfl (fun _ h=>?_) fun _ h=>?_
      ·dsimp only [go_sem];refine Zo2 3 ?_;dsimp only [go_sem];refine An ?_;refine Zg5 Side.row ex30 trivial rfl rfl rfl ?_;refine Zo2 5 ?_;dsimp only [go_sem];refine An ?_;exact Zx4 J2 (s:=x30.Fork) h
      ·dsimp only [go_sem];refine Zo2 9 ?_;dsimp only [go_sem];refine An ?_;exact Zx4 J2 (s:=false) h
    ·dsimp only [go_sem];refine Zo2 23 ?_;dsimp only [go_sem];refine An ?_;exact Zx4 J2 (s:=false) h
  ·refine Zo2 1 ?_;dsimp only [go_sem];refine An ?_;exact Zx4 J1 (s:=(x26,x28,x29)) (Zk4 h hout1)
noncomputable def Zli (x1:Int) (x3:(List Side)) (x4:Int) (x5:(List Int)) (x6:(List Mail)):Int→Option (Int×Int×Int×(List Side)×(List Mail))
| x10=>
 (Z5i ((Diner.mk x1 x10 x3))).bind fun x11=>
 (Ze4 40 x6 x11.2.2.2.2).bind fun x12=>
 (Zji x11.1 x11.2.1 x4 x5 x11.2.2.2.1 x12).bind fun x13=>
 some (x11.1,x11.2.1,x13.1,x13.2.1,x13.2.2)
noncomputable def Zmi (x1:Int) (x2:Int) (x3:(List Side)) (x4:Int) (x5:(List Int)) (x6:(List Mail)):Bool→Option (Int×Int×Int×(List Side)×(List Mail))
| x9=>
 ifb x9 (
 (Zli x1 x3 x4 x5 x6) 0) (
 (Zli x1 x3 x4 x5 x6) x2)
noncomputable def Zni (x1:Int) (x2:Int) (x3:(List Side)) (x4:Int) (x5:(List Int)) (x6:(List Mail)):Bool→Option (Int×Int×Int×(List Side)×(List Mail))
| x7=>
 ifb x7 (
 (Zli x1 x3 x4 x5 x6) 1) (
 ifb (decide (x2=2)) (
 ifb (!decide (x4=1)) (
 (Z5a x3 ((fun z=>Zgh z))).bind fun x8=>
 (Zmi x1 x2 x3 x4 x5 x6) (!x8)) (
 (Zmi x1 x2 x3 x4 x5 x6) false)) (
 (Zmi x1 x2 x3 x4 x5 x6) false))
noncomputable def Zoi (x1:Int) (x2:Int) (x3:(List Side)) (x4:Int) (x5:(List Int)) (x6:(List Mail)):Option (Int×Int×Int×(List Side)×(List Mail)):=
 ifb (decide (x4=1)) (
 (Zni x1 x2 x3 x4 x5 x6) (decide (x2=0))) (
 (Zni x1 x2 x3 x4 x5 x6) false)
theorem Zpi (x1:Int) (x2:Int) (x3:(List Side)) (x4:Int) (x5:(List Int)) (x6:(List Mail)) (r:(Int×Int×Int×(List Side)×(List Mail))) (h:Zoi x1 x2 x3 x4 x5 x6=some r):FunT Tryz.prog 157 [.ptr 2 0] [none,none,some ⟨188,[.iv x1,.iv x2,.sl 8 (List.map Side.row x3),.iv x4,.sl 1 (List.map Z15 x5),.osl 0]⟩,none] [some ⟨95,5,List.map Mail.row x6⟩] (.tup []) [none,none,some ⟨188,[.iv r.1,.iv r.2.1,.osl 1,.iv r.2.2.1,.sl 1 (List.map Z15 x5),.osl 5]⟩,none] [none,some ⟨66,8,List.map Side.row r.2.2.2.1⟩,none,none,none,some ⟨95,5,List.map Mail.row r.2.2.2.2⟩]:=by
 refine Zq5 ok157 rfl rfl rfl (by first | rfl | simp [go_sem]) fun w0 M0=>?_
 rw [Zoi] at h
 dsimp only [lun,List.cons_append,List.nil_append]
 refine Zo2 15 ?_;dsimp only [go_sem];refine An ?_;refine Zl4 (fun (x7:Bool)=>(⟨(.ptr 2 0 :: .any :: .clo 176 []::an 3 (.bv x7::an 78 [])),[none,none,some ⟨188,[.iv x1,.iv x2,.sl 8 (List.map Side.row x3),.iv x4,.sl 1 (List.map Z15 x5),.osl 0]⟩,none],[some ⟨95,5,List.map Mail.row x6⟩]⟩:St)) (Zni x1 x2 x3 x4 x5 x6) r ?_ fun J1=>?_
 ·intro x7 h;rw [Zni] at h;(try dsimp only);refine Zl4 (fun (x10:Int)=>(⟨(.ptr 2 0::an 84 []),[none,none,some ⟨188,[.iv x1,.iv x10,.sl 8 (List.map Side.row x3),.iv x4,.sl 1 (List.map Z15 x5),.osl 0]⟩,none],[some ⟨95,5,List.map Mail.row x6⟩]⟩:St)) (Zli x1 x3 x4 x5 x6) r ?_ fun J2=>?_
  ·intro x10 h;rw [Zli] at h;(try dsimp only);refine Zo2 8 ?_;dsimp only [go_sem];refine An ?_;obtain ⟨x11,ex11,h⟩:=Bs h;refine Zt5 [false,false,false,false] [false] trivial (Z6i ((Diner.mk x1 x10 x3)) _ ex11) (h:=?_);dsimp only [go_sem];refine Zo2 26 ?_;dsimp only [go_sem];refine An ?_;obtain ⟨x12,ex12,h⟩:=Bs h;refine Zs4 Mail.row ex12 trivial rfl rfl rfl ?_;refine Zo2 6 ?_;dsimp only [go_sem];refine An ?_;obtain ⟨x13,ex13,h⟩:=Bs h
   refine Zt5 [false,false,true,false,false] [false,true,false,true] trivial (Zki x11.1 x11.2.1 x4 x5 x11.2.2.2.1 x12 _ ex13) (h:=?_);dsimp only [go_sem];refine Zo2 1 ?_;dsimp only [go_sem];refine An ?_;obtain rfl:=Option.some.inj h;exact Zs5 ok157 rfl (by simp [go_sem])
  ·refine Zn4 h rfl (fun _ h=>?_) fun _ h=>?_
   ·refine Zo2 8 ?_;dsimp only [go_sem];refine An ?_;exact Zx4 J2 (s:=1) h
   ·refine Zo2 10 ?_;dsimp only [go_sem];refine An ?_;refine Zl4 (fun (x9:Bool)=>(⟨(.ptr 2 0::an 26 (.bv x9::an 57 [])),[none,none,some ⟨188,[.iv x1,.iv x2,.sl 8 (List.map Side.row x3),.iv x4,.sl 1 (List.map Z15 x5),.osl 0]⟩,none],[some ⟨95,5,List.map Mail.row x6⟩]⟩:St)) (Zmi x1 x2 x3 x4 x5 x6) r ?_ fun J3=>?_
    ·intro x9 h;rw [Zmi] at h;(try dsimp only);refine Zn4 h rfl (fun _ h=>?_) fun _ h=>?_
     ·refine Zo2 8 ?_;dsimp only [go_sem];refine An ?_;exact Zx4 J2 (s:=0) h
     ·refine Zo2 1 ?_;dsimp only [go_sem];refine An ?_;exact Zx4 J2 (s:=x2) h
    ·refine Zu4 35 h rfl (fun _ h=>?_) fun _ h=>?_
     ·dsimp only [go_sem];refine Zo2 8 ?_;dsimp only [go_sem];refine An ?_;refine Zu4 43 h rfl (fun _ h=>?_) fun _ h=>?_
      ·dsimp only [go_sem];refine Zo2 7 ?_;dsimp only [go_sem];refine An ?_;obtain ⟨x8,ex8,h⟩:=Bs h;refine Z33 trivial (Z6a x3 _ _ ((fun z=>Zgh z)) ⟨by kernel_rfl,rfl,fun z r hz=>Zhh z r hz⟩ _ ex8) (h:=?_);refine Zo2 4 ?_;dsimp only [go_sem];refine An ?_;exact Zx4 J3 (s:=!x8) h
      ·dsimp only [go_sem];refine Zo2 12 ?_;dsimp only [go_sem];refine An ?_;exact Zx4 J3 (s:=false) h
     ·dsimp only [go_sem];refine Zo2 20 ?_;dsimp only [go_sem];refine An ?_;exact Zx4 J3 (s:=false) h
 ·refine Zu4 13 h rfl (fun _ h=>?_) fun _ h=>?_
  ·dsimp only [go_sem];refine Zo2 10 ?_;dsimp only [go_sem];refine An ?_;exact Zx4 J1 (s:=decide (x2=0)) h
  ·dsimp only [go_sem];refine Zo2 10 ?_;dsimp only [go_sem];refine An ?_;exact Zx4 J1 (s:=false) h
noncomputable def Zqi (x3:Drinker):(Int×Int×(List Side)×Int×(List Mail))→Option ((Int×Int×(List Side)×Int×(List Mail)) ⊕ (Drinker×(List Mail)×Int))
| (x12,x13,x14,x15,x16)=>
 (Zeh ((Drinker.mk ((Diner.mk x12 x13 x14)) x15 x3.Need))).bind fun x17=>
 (Zoi x12 x13 x14 x15 x3.Need x16).bind fun x18=>
 (Zrh x17 ((Drinker.mk ((Diner.mk x18.1 x18.2.1 x18.2.2.2.1)) x18.2.2.1 x3.Need))).bind fun x19=>
 ifb x19 (
 Option.map Sum.inr (some ((Drinker.mk ((Diner.mk x18.1 x18.2.1 x18.2.2.2.1)) x18.2.2.1 x3.Need),x18.2.2.2.2,0))) (
 some (.inl (x18.1,x18.2.1,x18.2.2.2.1,x18.2.2.1,x18.2.2.2.2)))
noncomputable def Zri (x1:Drinker):Option (Drinker×(List Mail)×Int):=
 (Zch x1).bind fun x2=>
 ifb (!decide (x2=0)) (
 some ((Drinker.mk ((Diner.mk 0 0 (([]:(List Side))))) 0 (([]:(List Int)))),([]:(List Mail)),x2)) (
 (Zeh x1).bind fun x3=>
 loop (Zqi x3) (x3.Diner.ID,x3.Diner.Phase,x3.Diner.Sides,x3.Thirst,([]:List Mail)))
theorem k_drink_Fire (x1:Drinker) (r:(Drinker×(List Mail)×Int)) (h:Zri x1=some r):Zu2 Tryz.prog 135 [.agg (Drinker.row x1)] (.tup [.agg (Drinker.row r.1),.sl 5 (List.map Mail.row r.2.1),.iv r.2.2]):=by
 refine Zy2 ok135 rfl rfl fun w0 H0=>?_
 rw [Zri] at h
 refine Zo2 11 ?_;dsimp only [go_sem];refine An ?_;obtain ⟨x2,ex2,h⟩:=Bs h;refine Z33 trivial (Zdh x1 _ ex2) (h:=?_);refine Zo2 7 ?_;dsimp only [go_sem];refine An ?_;refine Zn4 h rfl (fun _ h=>?_) fun _ h=>?_
 ·refine Zo2 8 ?_;dsimp only [go_sem];refine An ?_;exact Zv4 (res:=fun (r:(Drinker×(List Mail)×Int))=>.tup [.agg (Drinker.row r.1),.sl 5 (List.map Mail.row r.2.1),.iv r.2.2]) ok135 h
 ·refine Zo2 4 ?_;dsimp only [go_sem];refine An ?_;obtain ⟨x3,ex3,h⟩:=Bs h;refine Z33 trivial (Zfh x1 _ ex3) (h:=?_);refine Zo2 5 ?_;dsimp only [go_sem];refine An ?_;refine Z84 2 5 95 5 rfl rfl rfl ?_;dsimp only [go_sem]
  refine Zm4 h (fun ((x12,x13,x14,x15,x16):(Int×Int×(List Side)×Int×(List Mail)))=>(⟨(.any :: .any :: .ptr 1 0::an 3 (.ptr 2 0::an 32 [])),[none,some ⟨63,[.iv 0,.iv 0,.nl,.iv 0,.nl]⟩,some ⟨188,[.iv x12,.iv x13,.sl 8 (List.map Side.row x14),.iv x15,.sl 1 (List.map Z15 x3.Need),.osl 0]⟩],[some ⟨95,5,List.map Mail.row x16⟩]⟩:St)) (by simp [go_sem]) (by rintro ⟨x12,x13,x14,x15,x16⟩;first | rfl | simp [go_sem]) ?_;rintro n1 ⟨x12,x13,x14,x15,x16⟩ y1 h hin1 hout1;rw [Zqi] at h;(try dsimp only);refine Zo2 7 ?_;dsimp only [go_sem]
  refine An ?_;obtain ⟨x17,ex17,h⟩:=Bs h;refine Z33 trivial (Zfh ((Drinker.mk ((Diner.mk x12 x13 x14)) x15 x3.Need)) _ ex17) (h:=?_);refine Zo2 6 ?_;dsimp only [go_sem];refine An ?_;obtain ⟨x18,ex18,h⟩:=Bs h;refine Zt5 [false,false,true,false] [true] trivial (Zpi x12 x13 x14 x15 x3.Need x16 _ ex18) (h:=?_);dsimp only [go_sem];refine Zo2 2 ?_;dsimp only [go_sem];refine An ?_;refine Zk3 (by kernel_rfl) fun all hall hs hnap haf=>?_;dsimp only [go_sem];refine Zc5 hall hs haf hnap 4 2 ?_;dsimp only [go_sem]
  refine An ?_;refine Zv3 4 rfl ?_;refine Z04 hall rfl trivial ?_;dsimp only [go_sem];refine Zv3 5 rfl ?_;obtain ⟨x19,ex19,h⟩:=Bs h;refine GO_callL hall rfl trivial ((Zy4.refl _).slice 1 rfl) (Zsh x17 ((Drinker.mk ((Diner.mk x18.1 x18.2.1 x18.2.2.2.1)) x18.2.2.1 x3.Need)) _ ex19) (h:=?_);dsimp only [go_sem];refine Zu3 rfl ?_ _;refine Zn4 h rfl (fun _ h=>?_) fun _ h=>?_
  ·refine Zo2 1 ?_;dsimp only [go_sem];refine An ?_;refine Zk3 (by kernel_rfl) fun all hall hs hnap haf=>?_;dsimp only [go_sem];refine Zd5 hall hs haf hnap 6 5 [3,1,3,4] [(31,[.ptr 2 0,.ptr 2 0,.ptr 2 0]),(1,[.ptr 2 0,.ptr 2 0,.ptr 2 5])] (by kernel_rfl) ?_;dsimp only [go_sem];refine Zw3 3 7 rfl ?_ ?_
   ·refine Z04 hall rfl trivial ?_;dsimp only [go_sem];refine Zw3 7 8 rfl ?_ ?_
    ·refine Z04 hall rfl trivial ?_;dsimp only [go_sem];refine Zv3 8 rfl ?_;refine Z04 hall rfl trivial ?_;dsimp only [go_sem];refine Zc5 hall hs haf hnap 2 0 ?_;dsimp only [go_sem];refine An ?_;refine Zu3 rfl ?_ _;refine Zc3 1 rfl ?_;dsimp only [go_sem];refine Zc3 5 rfl ?_;dsimp only [go_sem];exact Zv4 (res:=fun (r:(Drinker×(List Mail)×Int))=>.tup [.agg (Drinker.row r.1),.sl 5 (List.map Mail.row r.2.1),.iv r.2.2]) ok135 (Zk4 h hout1)
    ·refine Z04 hall rfl trivial ?_;dsimp only [go_sem];refine Zv3 7 rfl ?_;refine Z04 hall rfl trivial ?_;dsimp only [go_sem];refine Zc5 hall hs haf hnap 2 0 ?_;dsimp only [go_sem];refine An ?_;refine Zu3 rfl ?_ _;refine Zc3 1 rfl ?_;dsimp only [go_sem];refine Zc3 5 rfl ?_;dsimp only [go_sem];exact Zv4 (res:=fun (r:(Drinker×(List Mail)×Int))=>.tup [.agg (Drinker.row r.1),.sl 5 (List.map Mail.row r.2.1),.iv r.2.2]) ok135 (Zk4 h hout1)
   ·refine Z04 hall rfl trivial ?_;dsimp only [go_sem];refine Zv3 3 rfl ?_;refine Z04 hall rfl trivial ?_;dsimp only [go_sem];refine Zv3 8 rfl ?_;refine Z04 hall rfl trivial ?_;dsimp only [go_sem];refine Zc5 hall hs haf hnap 2 0 ?_;dsimp only [go_sem];refine An ?_;refine Zu3 rfl ?_ _;refine Zc3 1 rfl ?_;dsimp only [go_sem];refine Zc3 5 rfl ?_;dsimp only [go_sem];exact Zv4 (res:=fun (r:(Drinker×(List Mail)×Int))=>.tup [.agg (Drinker.row r.1),.sl 5 (List.map Mail.row r.2.1),.iv r.2.2]) ok135 (Zk4 h hout1)
  ·refine Zo2 2 ?_;dsimp only [go_sem];refine An ?_;refine Zc3 1 rfl ?_;dsimp only [go_sem];refine Z64 5 0 rfl rfl rfl ?_;dsimp only [go_sem];exact Zw4 h hin1
theorem s_send (k id ph:Int) (a b:List Side) (x:Side) (E:List Mail) (hE:E.length≤1000000):Zth k id ph (a.length:Int) (a++x::b) E=some (E++[⟨id,x.Peer,⟨k,x.Epoch,0⟩⟩]):=by
 simp only [Zth]
 rw [Zy7 rfl,Option.bind_some,Z76 _ _ (by omega) (by simp;omega),Option.bind_some]
theorem fire_step (d:Diner) (l:List Side) (hl:l.length<64) (pre post:List Side) (x:Side) (h:l=pre++x::post) (all:Bool) (A:List Side) (hA:A.length=pre.length) (E:List Mail) (hE:E.length≤1000):
  Z4i d l (all,(pre.length:Int),A++x::post,E)=some (.inl (all&&(Z1b d.Phase x).Fork,((pre.length+1:Nat):Int),A++Z1b d.Phase x::post,E++Z2b d.ID d.Phase x)):=by
 have hx:=Zv7 h
 have hm:=Zw7 h
 have at1:∀y:Side,at_ (A++y::post) (pre.length:Int)=some y:=fun y=>by rw [←hA];exact Zy7 rfl
 have st1:∀y z:Side,(A++y::post).set ((pre.length:Int)).toNat z=A++z::post:=fun y z=>by rw [←hA];exact Zz7 _ _ _ _
 have sd:∀(k:Int) (y:Side) (E:List Mail),E.length≤1000000→Zth k d.ID d.Phase (pre.length:Int) (A++y::post) E=some (E++[⟨d.ID,y.Peer,⟨k,y.Epoch,0⟩⟩]):=fun k y E hE=>by rw [←hA];exact s_send k d.ID d.Phase A post y E hE
 have fin:∀(y:Side) (E':List Mail),Z0i all (pre.length:Int) (A++y::post,E')=some (.inl (all&&y.Fork,((pre.length+1:Nat):Int),A++y::post,E')):=fun y E'=>by
  dsimp only [Z0i,Zzh]
  rw [at1,Za6 (by omega)]
  cases all<;>rfl
 have j3:∀(y:Side) (E':List Mail),E'.length≤100000→Z2i d all (pre.length:Int) (A++y::post,E') =
   if decide (d.Phase=1)&&(y.Token&&!y.Fork) then some (.inl (all&&y.Fork,((pre.length+1:Nat):Int),A++{y with Token:=false}::post,E'++[⟨d.ID,y.Peer,⟨2,y.Epoch,0⟩⟩])) else some (.inl (all&&y.Fork,((pre.length+1:Nat):Int),A++y::post,E')):=fun y E' hE'=>by
  dsimp only [Z2i]
  by_cases h1:d.Phase=1
  ·rw [decide_eq_true h1,Z26,at1,Option.bind_some]
   cases ht:y.Token with
   | false=>dsimp only [Z1i];rw [Z36,Z36,fin];simp
   | true=>
     cases hf:y.Fork with
     | true=>dsimp only [Z1i];rw [Z26,Bool.not_true,Z36,fin];simp [hf]
     | false=>
       dsimp only [Z1i]
       rw [Z26,Bool.not_false,Z26,at1,Option.bind_some,st1,sd _ _ _ (by omega),Option.bind_some,fin]
       simp [hf]
  ·rw [decide_eq_false h1,Z36];dsimp only [Z1i];rw [Z36,fin];simp
 dsimp only [Z4i]
 rw [Z86 hx,Z26,at1,Option.bind_some]
 have j2:∀z:Bool,Z3i d all (pre.length:Int) (A++x::post) E x z=if z then Z2i d all (pre.length:Int) (A++{x with Fork:=false,Dirty:=false}::post,E++[⟨d.ID,x.Peer,⟨1,x.Epoch,0⟩⟩]) else Z2i d all (pre.length:Int) (A++x::post,E):=fun z=>by
  cases z with
  | false=>dsimp only [Z3i];rw [Z36];rfl
  | true=>
    dsimp only [Z3i]
    rw [Z26,st1,sd _ _ _ (by omega),Option.bind_some];rfl
 have e:ifb x.Fork (ifb x.Dirty (ifb x.Token (Z3i d all (pre.length:Int) (A++x::post) E x (!decide (d.Phase=2))) (Z3i d all (pre.length:Int) (A++x::post) E x false)) (Z3i d all (pre.length:Int) (A++x::post) E x false)) (Z3i d all (pre.length:Int) (A++x::post) E x false)
   =Z3i d all (pre.length:Int) (A++x::post) E x (x.Fork&&(x.Dirty&&(x.Token&&!decide (d.Phase=2)))):=by
  cases x.Fork<;>cases x.Dirty<;>cases x.Token<;>rfl
 rw [e,j2]
 cases hz:(x.Fork&&(x.Dirty&&(x.Token&&!decide (d.Phase=2)))) with
 | false=>
   rw [if_neg (by simp),j3 _ _ (by omega)]
   have f1:Z0b d.Phase x=x:=by simp only [Z0b,hz];rfl
   unfold Z1b Z2b
   rw [f1,hz]
   cases hq:(decide (d.Phase=1)&&(x.Token&&!x.Fork))<;>simp
 | true=>
   rw [if_pos rfl,j3 _ _ (by simp;omega)]
   have f1:Z0b d.Phase x={x with Fork:=false,Dirty:=false}:=by simp only [Z0b,hz];rfl
   unfold Z1b Z2b
   rw [f1,hz]
   cases hq:(decide (d.Phase=1)&&(x.Token&&!false))<;>simp_all
theorem s_Fire (d:Diner):Z5i d=some (if okD d then ((Z4b d).ID,(Z4b d).Phase,0,(Z4b d).Sides,Z5b d) else (0,0,130,[],[])):=by
 simp only [Z5i,Zwa,Option.bind_some]
 cases h:okD d with
 | false=>rfl
 | true=>
   have hl:=Zya h
   simp only [if_true,decide_true,Bool.not_true,Z36,Zxa d.Sides (by omega),Option.bind_some]
   have key:=Zt7 d.Sides (Z4i d d.Sides) (fun pre=>((pre.map (Z1b d.Phase)).all (·.Fork),(pre.length:Int),pre.map (Z1b d.Phase)++d.Sides.drop pre.length,pre.flatMap (Z2b d.ID d.Phase))) (fun _ _=>some ((Z4b d).ID,(Z4b d).Phase,0,(Z4b d).Sides,Z5b d)) (fun pre x post hp=>?_) ?_
   ·simpa using key
   ·left
    have hd:d.Sides.drop pre.length=x::post:=by rw [hp];simp
    have hd':d.Sides.drop (pre++[x]).length=post:=by rw [hp];simp
    have hm:=Zw7 hp
    have hE:=Z6b pre d.ID d.Phase
    refine ⟨?_,rfl⟩
    rw [hd,hd',fire_step d d.Sides hl pre post x hp _ _ (by simp) _ (by omega),Z08]
    simp
   ·have hE:=Z6b d.Sides d.ID d.Phase
    dsimp only [Z4i]
    rw [Z96,Z36]
    simp only [List.drop_length,List.append_nil]
    dsimp only [Zyh]
    by_cases h1:d.Phase=1
    ·rw [decide_eq_true h1,Z26]
     dsimp only [Zxh]
     cases hall:(d.Sides.map (Z1b d.Phase)).all (·.Fork) with
     | false=>
       rw [Z36]
       unfold Z4b
       rw [hall,Bool.and_false]
       rfl
     | true=>
       rw [Z26]
       generalize hS:d.Sides.map (Z1b d.Phase)=S at hall
       have hSl:S.length<64:=by rw [←hS];simpa using hl
       have k2:=Zu7 S (Zwh d S (d.Sides.flatMap (Z2b d.ID d.Phase))) (fun pre=>((pre.length:Int),pre.map Z3b++S.drop pre.length)) (d.ID,2,0,S.map Z3b,d.Sides.flatMap (Z2b d.ID d.Phase)) (fun pre x post hp=>?_) ?_
       ·have k3:loop (Zwh d S (d.Sides.flatMap (Z2b d.ID d.Phase))) (0,S)=some (d.ID,2,0,S.map Z3b,d.Sides.flatMap (Z2b d.ID d.Phase)):=by simpa using k2
        rw [k3]
        unfold Z4b
        rw [hS,hall,decide_eq_true h1]
        rfl
       ·have hx:=Zv7 hp
        have hm:=Zw7 hp
        have hd:S.drop pre.length=x::post:=by rw [hp];simp
        have hd':S.drop (pre++[x]).length=post:=by rw [hp];simp
        dsimp only [Zwh]
        have e1:((pre.length:Nat):Int)=(((pre.map Z3b).length:Nat):Int):=by simp
        rw [Z86 hx,Z26,hd,hd',e1,Zy7 rfl,Option.bind_some,Zz7,←e1,Z08,Za6 (by omega)]
        simp [Z3b]
       ·dsimp only [Zwh]
        rw [Z96,Z36]
        simp [Zvh]
    ·rw [decide_eq_false h1,Z36]
     dsimp only [Zxh]
     rw [Z36]
     unfold Z4b
     rw [decide_eq_false h1,Bool.false_and]
     rfl
def Zsi (d:Drinker) (x:Side):Bool:=decide (x.Peer∈d.Need)
def Zti (nd:Bool) (th:Int) (x:Side):Bool:=nd&&(decide (th=2)||(decide (th=1)&&x.Fork))
def Zui (nd:Bool) (th:Int) (x:Side):Side:=if x.Bottle&&(x.Ask&&!Zti nd th x) then {x with Bottle:=false} else x
def Zvi (nd:Bool) (th:Int) (x:Side):Side:=if decide (th=1)&&(nd&&((Zui nd th x).Ask&&!(Zui nd th x).Bottle)) then {Zui nd th x with Ask:=false} else Zui nd th x
def Zwi (id:Int) (nd:Bool) (th:Int) (x:Side):List Mail:=
 (if x.Bottle&&(x.Ask&&!Zti nd th x) then [⟨id,x.Peer,⟨3,x.Epoch,0⟩⟩] else []) ++
 (if decide (th=1)&&(nd&&((Zui nd th x).Ask&&!(Zui nd th x).Bottle)) then [⟨id,x.Peer,⟨4,x.Epoch,0⟩⟩] else [])
theorem Zxi (nd:Bool) (th:Int) (x:Side):(Zvi nd th x).Peer=x.Peer∧(Zvi nd th x).Epoch=x.Epoch∧(Zvi nd th x).State=x.State∧(Zvi nd th x).Fork=x.Fork∧(Zvi nd th x).Dirty=x.Dirty∧(Zvi nd th x).Token=x.Token:=by
 unfold Zvi Zui
 split<;>split<;>exact ⟨rfl,rfl,rfl,rfl,rfl,rfl⟩
theorem botM_len (id:Int) (nd:Bool) (th:Int) (x:Side):(Zwi id nd th x).length≤2:=by
 unfold Zwi
 rw [List.length_append]
 have h1:∀(c:Bool) (m:Mail),(if c then [m] else []).length≤1:=by intro c m;cases c<;>simp
 have:=h1 (x.Bottle&&(x.Ask&&!Zti nd th x)) ⟨id,x.Peer,⟨3,x.Epoch,0⟩⟩
 have:=h1 (decide (th=1)&&(nd&&((Zui nd th x).Ask&&!(Zui nd th x).Bottle))) ⟨id,x.Peer,⟨4,x.Epoch,0⟩⟩
 omega
theorem botMs_len (N:List Int) (id th:Int) (l:List Side):(l.flatMap fun x=>Zwi id (decide (x.Peer∈N)) th x).length≤2*l.length:=by
 induction l with
 | nil=>simp
 | cons x l ih=>have:=botM_len id (decide (x.Peer∈N)) th x;rw [List.flatMap_cons,List.length_append,List.length_cons];omega
theorem s_setHas (l:List Int) (x:Int) (hl:l.length≤1000000):Zjh l x=some (decide (x∈l)):=by
 simp only [Zjh,Znd l x hl,Option.bind_some]
theorem s_send2 (y:Side) (k id ph th:Int) (N:List Int) (l:List Side) (E:List Mail) (hE:E.length≤1000000):Z7i y k id ph th N l E=some (E++[⟨id,y.Peer,⟨k,y.Epoch,0⟩⟩]):=by
 simp only [Z7i]
 rw [Z76 _ _ (by omega) (by simp;omega),Option.bind_some]
theorem bot_step (id ph th:Int) (N:List Int) (hN:N.length≤1000000) (l:List Side) (hl:l.length≤5000) (pre post:List Side) (x:Side) (h:l=pre++x::post) (all:Bool) (A:List Side) (hA:A.length=pre.length) (E:List Mail) (hE:E.length≤900000):
  Zii id ph th N l (all,(pre.length:Int),A++x::post,E)=some (.inl (all&&(!decide (x.Peer∈N)||(Zvi (decide (x.Peer∈N)) th x).Bottle),((pre.length+1:Nat):Int),A++Zvi (decide (x.Peer∈N)) th x::post,E++Zwi id (decide (x.Peer∈N)) th x)):=by
 have hx:=Zv7 h
 have hm:=Zw7 h
 have at1:∀y:Side,at_ (A++y::post) (pre.length:Int)=some y:=fun y=>by rw [←hA];exact Zy7 rfl
 have st1:∀y z:Side,(A++y::post).set ((pre.length:Int)).toNat z=A++z::post:=fun y z=>by rw [←hA];exact Zz7 _ _ _ _
 generalize hnd:decide (x.Peer∈N)=nd
 have j7:∀(S:List Side) (E':List Mail) z,Zci (pre.length:Int) S E' z=some (.inl (z,((pre.length+1:Nat):Int),S,E')):=fun S E' z=>by
  dsimp only [Zci]
  rw [Za6 (by omega)]
 have j6:∀(y:Side) (E':List Mail),Zdi all (pre.length:Int) nd (A++y::post,E')=some (.inl (all&&(!nd||y.Bottle),((pre.length+1:Nat):Int),A++y::post,E')):=fun y E'=>by
  dsimp only [Zdi]
  rw [at1,Option.bind_some]
  simp only [j7]
  cases all<;>cases nd<;>rfl
 have j4:∀(y:Side) (E':List Mail),E'.length≤950000→Zfi id ph th N all (pre.length:Int) nd (A++y::post,E') =
   if decide (th=1)&&(nd&&(y.Ask&&!y.Bottle)) then some (.inl (all&&(!nd||y.Bottle),((pre.length+1:Nat):Int),A++{y with Ask:=false}::post,E'++[⟨id,y.Peer,⟨4,y.Epoch,0⟩⟩])) else some (.inl (all&&(!nd||y.Bottle),((pre.length+1:Nat):Int),A++y::post,E')):=fun y E' hE'=>by
  have j5:∀z,Zei id ph th N all (pre.length:Int) nd (A++y::post) E' z=if z then some (.inl (all&&(!nd||y.Bottle),((pre.length+1:Nat):Int),A++{y with Ask:=false}::post,E'++[⟨id,y.Peer,⟨4,y.Epoch,0⟩⟩])) else some (.inl (all&&(!nd||y.Bottle),((pre.length+1:Nat):Int),A++y::post,E')):=fun z=>by
   cases z with
   | false=>dsimp only [Zei];rw [Z36,j6];rfl
   | true=>
     dsimp only [Zei]
     rw [Z26,at1,Option.bind_some,st1,s_send2 _ _ _ _ _ _ _ _ (by omega),Option.bind_some,j6]
     rfl
  dsimp only [Zfi]
  rw [at1,Option.bind_some]
  simp only [j5]
  cases decide (th=1)<;>cases nd<;>cases y.Ask<;>rfl
 have j3:∀z,Zgi id ph th N all (pre.length:Int) (A++x::post) E x nd z=if z then Zfi id ph th N all (pre.length:Int) nd (A++{x with Bottle:=false}::post,E++[⟨id,x.Peer,⟨3,x.Epoch,0⟩⟩]) else Zfi id ph th N all (pre.length:Int) nd (A++x::post,E):=fun z=>by
  cases z with
  | false=>dsimp only [Zgi];rw [Z36];rfl
  | true=>
    dsimp only [Zgi]
    rw [Z26,st1,s_send2 _ _ _ _ _ _ _ _ (by omega),Option.bind_some]
    rfl
 have j2:∀z,Zhi id ph th N all (pre.length:Int) (A++x::post) E x nd z=Zgi id ph th N all (pre.length:Int) (A++x::post) E x nd (x.Bottle&&(x.Ask&&!z)):=fun z=>by
  dsimp only [Zhi]
  cases x.Bottle<;>cases x.Ask<;>rfl
 have e:Zii id ph th N l (all,(pre.length:Int),A++x::post,E)=Zgi id ph th N all (pre.length:Int) (A++x::post) E x nd (x.Bottle&&(x.Ask&&!Zti nd th x)):=by
  dsimp only [Zii]
  rw [Z86 hx,Z26,at1,Option.bind_some,s_setHas N _ hN,Option.bind_some,hnd]
  simp only [j2]
  unfold Zti
  cases nd<;>cases decide (th=2)<;>cases decide (th=1)<;>rfl
 rw [e,j3]
 cases hz:(x.Bottle&&(x.Ask&&!Zti nd th x)) with
 | false=>
   have b1:Zui nd th x=x:=by unfold Zui;rw [hz];rfl
   rw [if_neg (by simp),j4 _ _ (by omega)]
   unfold Zvi Zwi
   rw [b1,hz]
   cases (decide (th=1)&&(nd&&(x.Ask&&!x.Bottle)))<;>simp
 | true=>
   have b1:Zui nd th x={x with Bottle:=false}:=by unfold Zui;rw [hz];rfl
   rw [if_pos rfl,j4 _ _ (by simp;omega)]
   unfold Zvi Zwi
   rw [b1,hz]
   cases (decide (th=1)&&(nd&&(x.Ask&&!false)))<;>simp
theorem s_bottles (id ph th:Int) (N:List Int) (hN:N.length≤1000000) (l:List Side) (hl:l.length≤5000) (E:List Mail) (hE:E.length≤800000):
  Zji id ph th N l E=some (if decide (th=1)&&(l.map fun x=>Zvi (decide (x.Peer∈N)) th x).all (fun x=>!decide (x.Peer∈N)||x.Bottle) then 2 else th,l.map fun x=>Zvi (decide (x.Peer∈N)) th x,E++l.flatMap fun x=>Zwi id (decide (x.Peer∈N)) th x):=by
 have:=Zt7 l (Zii id ph th N l) (fun pre=>((pre.map fun x=>Zvi (decide (x.Peer∈N)) th x).all (fun x=>!decide (x.Peer∈N)||x.Bottle),(pre.length:Int),(pre.map fun x=>Zvi (decide (x.Peer∈N)) th x)++l.drop pre.length,E++pre.flatMap fun x=>Zwi id (decide (x.Peer∈N)) th x))
  (fun _ _=>some (if decide (th=1)&&(l.map fun x=>Zvi (decide (x.Peer∈N)) th x).all (fun x=>!decide (x.Peer∈N)||x.Bottle) then 2 else th,l.map fun x=>Zvi (decide (x.Peer∈N)) th x,E++l.flatMap fun x=>Zwi id (decide (x.Peer∈N)) th x)) (fun pre x post h=>.inl ⟨by
    have hd:l.drop pre.length=x::post:=by rw [h];simp
    have hd':l.drop (pre++[x]).length=post:=by rw [h];simp
    have hm:=Zw7 h
    have hE':=botMs_len N id th pre
    rw [hd,hd',bot_step id ph th N hN l hl pre post x h _ _ (by simp) _ (by rw [List.length_append];omega),Z08]
    have hp:=(Zxi (decide (x.Peer∈N)) th x).1
    simp [hp],rfl⟩) (by
  dsimp only [Zii]
  rw [Z96,Z36]
  dsimp only [Zbi]
  rw [List.drop_length,List.append_nil]
  cases decide (th=1) with
  | false=>rfl
  | true=>cases (l.map fun x=>Zvi (decide (x.Peer∈N)) th x).all (fun x=>!decide (x.Peer∈N)||x.Bottle)<;>rfl)
 unfold Zji
 simpa using this
def Zyi (d:Drinker):Int:=if decide (d.Thirst=1)&&decide (d.Diner.Phase=0) then 1 else if decide (d.Diner.Phase=2)&&(!decide (d.Thirst=1)&&!d.Diner.Sides.any (fun x=>decide (x.State=1))) then 0 else d.Diner.Phase
def Zzi (d:Drinker):Diner:=⟨d.Diner.ID,Zyi d,d.Diner.Sides⟩
def Z0j (d:Drinker):List Side:=(Z4b (Zzi d)).Sides.map fun x=>Zvi (Zsi d x) d.Thirst x
def Z1j (d:Drinker):Int:=if decide (d.Thirst=1)&&(Z0j d).all (fun x=>!Zsi d x||x.Bottle) then 2 else d.Thirst
def Z2j (d:Drinker):Drinker:=⟨⟨d.Diner.ID,(Z4b (Zzi d)).Phase,Z0j d⟩,Z1j d,d.Need⟩
def Z3j (d:Drinker):List Mail:=Z5b (Zzi d)++(Z4b (Zzi d)).Sides.flatMap fun x=>Zwi d.Diner.ID (Zsi d x) d.Thirst x
theorem Z4j (l:List Side) (p:Side→Option Bool) (q:Side→Bool) (hl:l.length≤4000000000000000000) (hp:∀x∈l,p x=some (q x)):Z5a l p=some (l.any q):=by
 unfold Z5a
 rw [Zg7 l p q hl hp,Option.bind_some,Zd6,Zg6]
theorem pre_ok {d:Drinker} (h:okD d.Diner=true):okD (Zzi d)=true:=by
 simp only [okD,Bool.and_eq_true,decide_eq_true_eq] at h ⊢
 refine ⟨h.1,?_,?_,h.2.2.2⟩
 ·show 0≤Zyi d
  unfold Zyi;split
  ·omega
  ·split<;>omega
 ·show Zyi d≤2
  unfold Zyi;split
  ·omega
  ·split<;>omega
theorem fireD_len (d:Diner):(Z4b d).Sides.length=d.Sides.length:=by rw [Zhb];simp
theorem s_once (d:Drinker) (h:okD d.Diner=true) (hN:d.Need.length≤1000000) (out:List Mail) (ho:out.length≤700000):
  Zoi d.Diner.ID d.Diner.Phase d.Diner.Sides d.Thirst d.Need out=some ((Z2j d).Diner.ID,(Z2j d).Diner.Phase,(Z2j d).Thirst,(Z2j d).Diner.Sides,out++Z3j d):=by
 have hl:=Zya h
 have hp:=pre_ok h
 have hms:=Z6b d.Diner.Sides d.Diner.ID (Zyi d)
 have e0:(Zzi d).Sides=d.Diner.Sides:=rfl
 have hfl:=fireD_len (Zzi d)
 rw [e0] at hfl
 have j2:Zli d.Diner.ID d.Diner.Sides d.Thirst d.Need out (Zyi d)=some ((Z2j d).Diner.ID,(Z2j d).Diner.Phase,(Z2j d).Thirst,(Z2j d).Diner.Sides,out++Z3j d):=by
  dsimp only [Zli]
  have e1:(⟨d.Diner.ID,Zyi d,d.Diner.Sides⟩:Diner)=Zzi d:=rfl
  have hml:(Z5b (Zzi d)).length≤130:=by unfold Z5b;rw [e0];show (d.Diner.Sides.flatMap (Z2b d.Diner.ID (Zyi d))).length≤130;omega
  rw [e1,s_Fire,hp,if_pos rfl,Option.bind_some]
  dsimp only
  rw [Z76 _ _ (by omega) (by omega),Option.bind_some,s_bottles _ _ _ _ hN _ (by omega) _ (by rw [List.length_append];omega),Option.bind_some]
  rw [Zib,List.append_assoc]
  rfl
 have hph:∀z:Int,z=Zyi d→Zli d.Diner.ID d.Diner.Sides d.Thirst d.Need out z=some ((Z2j d).Diner.ID,(Z2j d).Diner.Phase,(Z2j d).Thirst,(Z2j d).Diner.Sides,out++Z3j d):=fun z e=>by rw [e];exact j2
 have hcf:=Z4j d.Diner.Sides (fun z=>Zgh z) (fun x=>decide (x.State=1)) (by omega) (fun x _=>rfl)
 dsimp only [Zoi,Zni,Zmi]
 rw [hcf,Option.bind_some]
 unfold Zyi at hph
 by_cases h1:d.Thirst=1
 ·rw [decide_eq_true h1] at hph ⊢
  by_cases h2:d.Diner.Phase=0
  ·rw [decide_eq_true h2] at hph ⊢
   exact hph 1 rfl
  ·rw [decide_eq_false h2] at hph ⊢
   have:=hph d.Diner.Phase (by simp)
   rw [Z26,Z36,this]
   cases decide (d.Diner.Phase=2)<;>rfl
 ·rw [decide_eq_false h1] at hph ⊢
  rw [Z36,Z36]
  by_cases h2:d.Diner.Phase=2
  ·rw [decide_eq_true h2] at hph ⊢
   cases hop:d.Diner.Sides.any (fun x=>decide (x.State=1)) with
   | true=>
     rw [hop] at hph
     exact hph d.Diner.Phase (by simp)
   | false=>
     rw [hop] at hph
     exact hph 0 (by simp)
  ·rw [decide_eq_false h2] at hph ⊢
   exact hph d.Diner.Phase (by simp)
def Z5j (x:Side):Nat:=bn x.Fork+bn x.Token+bn x.Bottle+bn x.Ask
def bits (l:List Side):Nat:=(l.map Z5j).sum
def rank (th ph:Int):Nat:=if th=1 then (if ph=0 then 5 else if ph=1 then 4 else 3) else (if ph=1 then 2 else if ph=2 then 1 else 0)
def mu (d:Drinker):Nat:=bits d.Diner.Sides+rank d.Thirst d.Diner.Phase
theorem fire2_bits (id ph:Int) (x:Side):Z5j (Z1b ph x)+(Z2b id ph x).length=Z5j x:=by
 obtain ⟨p,e,st,f,d,t,bo,ask⟩:=x
 unfold Z2b Z1b Z0b Z5j bn
 generalize h1:decide (ph=1)=q1
 generalize h2:decide (ph=2)=q2
 cases f<;>cases d<;>cases t<;>cases q1<;>cases q2<;>simp<;>omega
theorem bot2_bits (id:Int) (nd:Bool) (th:Int) (x:Side):Z5j (Zvi nd th x)+(Zwi id nd th x).length=Z5j x:=by
 obtain ⟨p,e,st,f,d,t,bo,ask⟩:=x
 unfold Zwi Zvi Zui Zti Z5j bn
 generalize h1:decide (th=1)=q1
 generalize h2:decide (th=2)=q2
 cases bo<;>cases ask<;>cases nd<;>cases q1<;>cases q2<;>cases f<;>simp<;>omega
theorem fire3_bits (d:Diner) (x:Side):Z5j (Zgb d x)=Z5j (Z1b d.Phase x):=by unfold Zgb;split<;>rfl
theorem Z6j (d:Drinker):bits (Z2j d).Diner.Sides+(Z3j d).length=bits d.Diner.Sides:=by
 have key:∀l:List Side,((l.map fun x=>Zvi (Zsi d (Zgb (Zzi d) x)) d.Thirst (Zgb (Zzi d) x)).map Z5j).sum+((l.flatMap (Z2b d.Diner.ID (Zyi d))).length+((l.map (Zgb (Zzi d))).flatMap fun x=>Zwi d.Diner.ID (Zsi d x) d.Thirst x).length)=(l.map Z5j).sum:=by
  intro l
  induction l with
  | nil=>rfl
  | cons x l ih=>
    have h1:=fire2_bits d.Diner.ID (Zyi d) x
    have h2:=bot2_bits d.Diner.ID (Zsi d (Zgb (Zzi d) x)) d.Thirst (Zgb (Zzi d) x)
    have h3:=fire3_bits (Zzi d) x
    have e:(Zzi d).Phase=Zyi d:=rfl
    rw [e] at h3
    simp only [List.map_cons,List.sum_cons,List.flatMap_cons,List.length_append]
    omega
 have:=key d.Diner.Sides
 unfold bits Z3j
 rw [List.length_append,Zhb]
 show (((Z0j d).map Z5j).sum+_=_)
 unfold Z0j
 rw [Zhb]
 simp only [List.map_map] at this ⊢
 exact this
theorem Z7j (d:Diner):(Z4b d).Phase=d.Phase∧(decide (d.Phase=1)&&(d.Sides.map (Z1b d.Phase)).all (·.Fork))=false∨d.Phase=1∧(Z4b d).Phase=2:=by
 unfold Z4b
 cases hq:decide (d.Phase=1)&&(d.Sides.map (Z1b d.Phase)).all (·.Fork) with
 | false=>exact .inl ⟨rfl,rfl⟩
 | true=>
   rw [Bool.and_eq_true,decide_eq_true_eq] at hq
   exact .inr ⟨hq.1,rfl⟩
theorem fireM_nil {id ph:Int} {x:Side} (h:Z2b id ph x=[]):Z1b ph x=x:=by
 obtain ⟨p,e,st,f,d,t,bo,ask⟩:=x
 unfold Z2b at h
 unfold Z1b
 rw [List.append_eq_nil_iff] at h
 obtain ⟨h1,h2⟩:=h
 split at h1
 ·simp at h1
 ·rename_i q1
  split at h2
  ·simp at h2
  ·rename_i q2
   rw [if_neg q2]
   unfold Z0b
   rw [if_neg q1]
theorem botM_nil {id:Int} {nd:Bool} {th:Int} {x:Side} (h:Zwi id nd th x=[]):Zvi nd th x=x:=by
 unfold Zwi at h
 unfold Zvi
 rw [List.append_eq_nil_iff] at h
 obtain ⟨h1,h2⟩:=h
 split at h1
 ·simp at h1
 ·rename_i q1
  split at h2
  ·simp at h2
  ·rename_i q2
   rw [if_neg q2]
   unfold Zui
   rw [if_neg q1]
theorem Z8j {α:Type} {f:α→α}:∀ {l:List α},(∀x∈l,f x=x)→l.map f=l
 | [],_=>rfl
 | x::l,h=>by rw [List.map_cons,h x (by simp),Z8j fun y hy=>h y (by simp [hy])]
theorem rank_le {th ph ph' th':Int} (h0:0≤ph) (h2:ph≤2) (d:Drinker) (hd:d.Thirst=th∧d.Diner.Phase=ph) (h1:ph'=Zyi d∨Zyi d=1∧ph'=2) (ht:th'=th∨th=1∧th'=2):rank th' ph'<rank th ph∨th'=th∧ph'=ph∧Zyi d=ph:=by
 obtain ⟨d1,d2⟩:=hd
 unfold Zyi at h1 ⊢
 rw [d1,d2] at h1 ⊢
 unfold rank
 have hp:ph=0∨ph=1∨ph=2:=by omega
 by_cases ht1:th=1
 ·subst ht1
  rcases hp with rfl | rfl | rfl<;>rcases ht with rfl | ⟨_,rfl⟩<;>simp at h1 ⊢ <;>rcases h1 with rfl | h1<;>simp_all
 ·have:th'=th:=by rcases ht with h | h;exact h;exact absurd h.1 ht1
  subst this
  rcases hp with rfl | rfl | rfl
  ·simp [ht1] at h1 ⊢;rcases h1 with rfl | h1<;>simp_all
  ·simp [ht1] at h1 ⊢;rcases h1 with rfl | h1<;>simp_all
  ·cases hop:d.Diner.Sides.any (fun x=>decide (x.State=1))<;>simp [ht1,hop] at h1 ⊢ <;>simp_all
theorem Z9j {d:Drinker} (h0:0≤d.Diner.Phase) (h2:d.Diner.Phase≤2):Z2j d=d∧Z3j d=[]∨mu (Z2j d)<mu d:=by
 have hb:=Z6j d
 have hf:=Z7j (Zzi d)
 have ht:Z1j d=d.Thirst∨d.Thirst=1∧Z1j d=2:=by
  unfold Z1j
  cases hh:decide (d.Thirst=1)&&(Z0j d).all (fun x=>!Zsi d x||x.Bottle) with
  | false=>left;rfl
  | true=>right;rw [Bool.and_eq_true,decide_eq_true_eq] at hh;exact ⟨hh.1,rfl⟩
 have e1:(Z2j d).Diner.Phase=(Z4b (Zzi d)).Phase:=rfl
 have e2:(Z2j d).Thirst=Z1j d:=rfl
 have hr:=rank_le (th':=Z1j d) (ph':=(Z4b (Zzi d)).Phase) h0 h2 d ⟨rfl,rfl⟩ (by
  rcases hf with ⟨q,_⟩ | ⟨q1,q2⟩
  ·exact .inl q
  ·exact .inr ⟨q1,q2⟩) ht
 unfold mu
 rw [e1,e2]
 rcases hr with hr | ⟨r1,r2,r3⟩
 ·right;omega
 ·by_cases hm:(Z3j d).length=0
  ·left
   have hm':Z3j d=[]:=List.eq_nil_of_length_eq_zero hm
   refine ⟨?_,hm'⟩
   unfold Z3j at hm'
   rw [List.append_eq_nil_iff] at hm'
   obtain ⟨m1,m2⟩:=hm'
   have hsame:∀x∈d.Diner.Sides,Zgb (Zzi d) x=x:=fun x hx=>by
    have hnil:Z2b d.Diner.ID (Zyi d) x=[]:=by
     have:∀y∈Z2b d.Diner.ID (Zyi d) x,y∈Z5b (Zzi d):=fun y hy=>List.mem_flatMap.2 ⟨x,hx,hy⟩
     rw [m1] at this
     cases hc:Z2b d.Diner.ID (Zyi d) x with
     | nil=>rfl
     | cons y l=>exact absurd (this y (by rw [hc];simp)) (by simp)
    have h2x:Z1b (Zyi d) x=x:=fireM_nil hnil
    unfold Zgb
    rw [show (Zzi d).Phase=Zyi d from rfl]
    split
    ·rename_i hc
     exfalso
     rcases hf with ⟨q,q'⟩ | ⟨q1,q2⟩
     ·have:=q';rw [show (Zzi d).Phase=Zyi d from rfl] at this;rw [this] at hc;simp at hc
     ·rw [show (Zzi d).Phase=Zyi d from rfl] at q1
      rw [q1] at r3
      rw [q2] at r2
      omega
    ·exact h2x
   have hS:(Z4b (Zzi d)).Sides=d.Diner.Sides:=by
    rw [Zhb];exact Z8j hsame
   have hB:Z0j d=d.Diner.Sides:=by
    unfold Z0j
    rw [hS]
    refine Z8j fun x hx=>?_
    have hnil:Zwi d.Diner.ID (Zsi d x) d.Thirst x=[]:=by
     rw [hS] at m2
     have:∀y∈Zwi d.Diner.ID (Zsi d x) d.Thirst x,y∈d.Diner.Sides.flatMap fun x=>Zwi d.Diner.ID (Zsi d x) d.Thirst x:=fun y hy=>List.mem_flatMap.2 ⟨x,hx,hy⟩
     rw [m2] at this
     cases hc:Zwi d.Diner.ID (Zsi d x) d.Thirst x with
     | nil=>rfl
     | cons y l=>exact absurd (this y (by rw [hc];simp)) (by simp)
    exact botM_nil hnil
   unfold Z2j
   rw [hB,r1,r2]
  ·right
   rw [r1,r2]
   omega
set_option maxRecDepth 100000
set_option maxHeartbeats 4000000
@[go_sem] def e122:EC:=.seq (.reg [(Qx 2 66 8 0),(Qa 3 (.mv (.c .ff)))]) (.seq (.reg [(Qf 4 0 2),(Ql 5 4),(Ql 6 1),(Qa 7 (.bin .eql (.t 5) (.t 6))),(Qm 8 7),(Qh 9 8 true 2 2),(Qn 10 8 true 9),(Qg 11 8 true (.bin .eql (.t 10) (.c (.iv 0)))),(Qp 12 8 11),(Qm 3 12)]) (.ret))
theorem ok122:FnOK Tryz.prog 122 Tryz.f122 e122 [.t 3] 2 11:=⟨by kernel_rfl,⟨_,rfl,by kernel_rfl⟩,by kernel_rfl,by kernel_rfl⟩
noncomputable def Zaj:Bool→Option Bool
| x3=>
 some x3
noncomputable def Zbj (x1:Side) (x2:Int):Option Bool:=
 ifb (decide (x1.Peer=x2)) (
 Zaj (decide (x1.State=0))) (
 Zaj false)
theorem Zcj (x1:Side) (x2:Int) (r:Bool) (h:Zbj x1 x2=some r):Zu2 Tryz.prog 122 [.agg (Side.row x1),.elt (Z15 x2) 0] (.bv r):=by
 refine Zy2 ok122 rfl rfl fun w0 H0=>?_
 rw [Zbj] at h
 refine Zo2 12 ?_;dsimp only [go_sem];refine An ?_;refine Zl4 (fun (x3:Bool)=>(⟨(an 3 (.bv x3::an 9 [])),[],[]⟩:St)) Zaj r ?_ fun J1=>?_
 ·intro x3 h;rw [Zaj] at h;(try dsimp only);exact Zv4 (res:=fun (r:Bool)=>.bv r) ok122 h
 ·refine Zu4 8 h rfl (fun _ h=>?_) fun _ h=>?_
  ·dsimp only [go_sem];refine Zo2 6 ?_;dsimp only [go_sem];refine An ?_;exact Zx4 J1 (s:=decide (x1.State=0)) h
  ·dsimp only [go_sem];refine Zo2 6 ?_;dsimp only [go_sem];refine An ?_;exact Zx4 J1 (s:=false) h
set_option maxRecDepth 100000
set_option maxHeartbeats 4000000
@[go_sem] def e121:EC:=.seq (.reg [(Qx 2 3 1 0),(Qa 3 (.mv (.c .ff)))]) (.seq (.reg [(Qf 4 0 1),(Qf 5 2 4),(Ql 6 5),(Qa 7 (.mkf 122 [(.t 2)])),(Qa 8 (.call 99 [(.t 6),(.t 7)])),(Qa 9 (.not (.t 8))),(Qm 3 9)]) (.ret))
theorem ok121:FnOK Tryz.prog 121 Tryz.f121 e121 [.t 3] 2 8:=⟨by kernel_rfl,⟨_,rfl,by kernel_rfl⟩,by kernel_rfl,by kernel_rfl⟩
noncomputable def Zdj (x1:Int) (x2:Drinker):Option Bool:=
 (Z5a x2.Diner.Sides ((fun z=>Zbj z x1))).bind fun x3=>
 some (!x3)
theorem Zej (x1:Int) (x2:Drinker) (r:Bool) (h:Zdj x1 x2=some r):Zu2 Tryz.prog 121 [.iv x1,.elt (Drinker.row x2) 0] (.bv r):=by
 refine Zy2 ok121 rfl rfl fun w0 H0=>?_
 rw [Zdj] at h
 refine Zo2 11 ?_;dsimp only [go_sem];refine An ?_;obtain ⟨x3,ex3,h⟩:=Bs h;refine Zz4 trivial ((Zy4.refl _).block 0 rfl rfl) (Z6a x2.Diner.Sides _ _ ((fun z=>Zbj z x1)) ⟨by kernel_rfl,rfl,fun z r hz=>Zcj z x1 r hz⟩ _ ex3) (h:=?_);refine Zo2 3 ?_;dsimp only [go_sem];refine An ?_;exact Zv4 (res:=fun (r:Bool)=>.bv r) ok121 h
set_option maxRecDepth 100000
set_option maxHeartbeats 4000000
@[go_sem] def e77:EC:=.seq (.reg [(Qx 2 63 5 0),(Qa 4 (.alloc 63 [.iv 0,.iv 0,.nl,.iv 0,.nl])),(Qi 5 0)]) (.seq (.reg [(Qa 8 (.mkf 121 [(.t 2)])),(Qm 6 8)]) (.seq (.reg [(Qe 9 5 2),(Qa 10 (.call 58 [(.t 9)])),(Qm 7 10)]) (.seq (.blk 0 (.seq (.reg [(Qm 12 7),(Qa 13 (.bin .neq (.t 12) (.c (.iv 0)))),(Qm 11 13)]) (.ite (.t 11) (.skip) (.seq (.reg [(Qf 15 3 2),(Ql 16 15),(Qa 17 (.bin .neq (.t 16) (.c (.iv 0)))),(Qm 14 17)]) (.ite (.t 14) (.reg [(Qi 7 152)]) (.seq (.reg [(Qm 19 1),(Qm 20 6),(Qa 21 (.call 103 [(.t 19),(.t 20)])),(Qm 18 21)]) (.ite (.t 18) (.reg [(Qi 7 151)]) (.skip)))))))) (.seq (.seq (.reg [(Qm 22 7),(Qa 23 (.bin .neq (.t 22) (.c (.iv 0))))]) (.ite (.t 23) (.seq (.reg [(Qa 24 (.build [.iv 0,.iv 0,.nl,.iv 0,.nl] [])),(Qm 25 7),(Qs 5 4 24),(Qm 5 25)]) (.ret)) (.skip))) (.seq (.reg [(Qe 26 5 2),(Qa 27 (.call 120 [(.t 26)])),(Qs 5 2 27)]) (.seq (.reg [(Qm 28 1),(Qa 29 (.call 123 [(.t 28)])),(Qf 30 3 2),(Qb (.store 1 (.t 30) (.c (.iv 1)))),(Qf 31 4 2),(Qs 1 31 29)]) (.seq (.reg [(Qe 32 5 2),(Qs 5 4 32),(Qi 5 0)]) (.ret))))))))
theorem ok77:FnOK Tryz.prog 77 Tryz.f77 e77 [.c 4 (some 5),.t 5] 2 31:=⟨by kernel_rfl,⟨_,rfl,by kernel_rfl⟩,by kernel_rfl,by kernel_rfl⟩
noncomputable def Zfj (x1:Drinker) (x2:(List Int)):Int→Option (Drinker×Int)
| x5=>
 ifb (!decide (x5=0)) (
 some ((Drinker.mk ((Diner.mk 0 0 (([]:(List Side))))) 0 (([]:(List Int)))),x5)) (
 (Zeh x1).bind fun x6=>
 (Zd9 x2).bind fun x7=>
 some ((Drinker.mk x6.Diner 1 x7),0))
noncomputable def Zgj (x1:Drinker) (x2:(List Int)):Option (Drinker×Int):=
 (Zch x1).bind fun x3=>
 ifb (!decide (x3=0)) (
 (Zfj x1 x2) x3) (
 ifb (!decide (x1.Thirst=0)) (
 (Zfj x1 x2) 152) (
 (Zc7 x2 ((fun z=>Zdj z x1))).bind fun x4=>
 ifb x4 (
 (Zfj x1 x2) 151) (
 (Zfj x1 x2) x3)))
theorem k_drink_Open (x1:Drinker) (x2:(List Int)) (r:(Drinker×Int)) (h:Zgj x1 x2=some r):Zu2 Tryz.prog 77 [.agg (Drinker.row x1),.sl 1 (List.map Z15 x2)] (.tup [.agg (Drinker.row r.1),.iv r.2]):=by
 refine Zy2 ok77 rfl rfl fun w0 H0=>?_
 rw [Zgj] at h
 refine Zo2 14 ?_;dsimp only [go_sem];refine An ?_;obtain ⟨x3,ex3,h⟩:=Bs h;refine Z33 trivial (Zdh x1 _ ex3) (h:=?_);refine Zo2 10 ?_;dsimp only [go_sem];refine An ?_;refine Zl4 (fun (x5:Int)=>(⟨(.any :: .sl 1 (List.map Z15 x2) :: .ptr 0 0 :: .any :: .ptr 1 0 :: .any :: .any :: .iv x5::an 25 []),[some ⟨63,[.iv x1.Diner.ID,.iv x1.Diner.Phase,.sl 8 (List.map Side.row x1.Diner.Sides),.iv x1.Thirst,.sl 1 (List.map Z15 x1.Need)]⟩,some ⟨63,[.iv 0,.iv 0,.nl,.iv 0,.nl]⟩],[]⟩:St)) (Zfj x1 x2) r ?_ fun J1=>?_
 ·intro x5 h;rw [Zfj] at h;(try dsimp only);refine Zo2 7 ?_;dsimp only [go_sem];refine An ?_;refine Zn4 h rfl (fun _ h=>?_) fun _ h=>?_
  ·refine Zo2 7 ?_;dsimp only [go_sem];refine An ?_;exact Zv4 (res:=fun (r:(Drinker×Int))=>.tup [.agg (Drinker.row r.1),.iv r.2]) ok77 h
  ·refine Zo2 4 ?_;dsimp only [go_sem];refine An ?_;obtain ⟨x6,ex6,h⟩:=Bs h;refine Z33 trivial (Zfh x1 _ ex6) (h:=?_);refine Zo2 5 ?_;dsimp only [go_sem];refine An ?_;obtain ⟨x7,ex7,h⟩:=Bs h;refine Z33 trivial (k_set_Of x2 _ ex7) (h:=?_);refine Zo2 11 ?_;dsimp only [go_sem];refine An ?_;exact Zv4 (res:=fun (r:(Drinker×Int))=>.tup [.agg (Drinker.row r.1),.iv r.2]) ok77 h
 ·refine Zn4 h rfl (fun _ h=>?_) fun _ h=>?_
  ·refine Zo2 1 ?_;dsimp only [go_sem];refine An ?_;exact Zx4 J1 (s:=x3) h
  ·refine Zo2 7 ?_;dsimp only [go_sem];refine An ?_;refine Zn4 h rfl (fun _ h=>?_) fun _ h=>?_
   ·refine Zo2 3 ?_;dsimp only [go_sem];refine An ?_;exact Zx4 J1 (s:=152) h
   ·refine Zo2 4 ?_;dsimp only [go_sem];refine An ?_;obtain ⟨x4,ex4,h⟩:=Bs h;refine Zz4 trivial ((Zy4.refl _).block 0 rfl rfl) (Zd7 x2 _ _ ((fun z=>Zdj z x1)) ⟨by kernel_rfl,rfl,fun z r hz=>Zej z x1 r hz⟩ _ ex4) (h:=?_);refine Zo2 2 ?_;dsimp only [go_sem];refine An ?_;refine Zn4 h rfl (fun _ h=>?_) fun _ h=>?_
    ·refine Zo2 3 ?_;dsimp only [go_sem];refine An ?_;exact Zx4 J1 (s:=151) h
    ·refine Zo2 1 ?_;dsimp only [go_sem];refine An ?_;exact Zx4 J1 (s:=x3) h
set_option maxRecDepth 100000
set_option maxHeartbeats 4000000
@[go_sem] def e75:EC:=.seq (.reg [(Qx 1 63 5 0),(Qa 2 (.alloc 63 [.iv 0,.iv 0,.nl,.iv 0,.nl])),(Qi 3 0)]) (.seq (.seq (.reg [(Qe 5 5 1),(Qa 6 (.call 58 [(.t 5)])),(Qm 4 6)]) (.seq (.reg [(Qm 7 4),(Qa 8 (.bin .neq (.t 7) (.c (.iv 0))))]) (.ite (.t 8) (.seq (.reg [(Qa 9 (.build [.iv 0,.iv 0,.nl,.iv 0,.nl] [])),(Qm 10 4),(Qs 5 2 9),(Qm 3 10)]) (.ret)) (.skip)))) (.seq (.seq (.reg [(Qf 11 3 1),(Ql 12 11),(Qa 13 (.bin .eql (.t 12) (.c (.iv 0))))]) (.ite (.t 13) (.seq (.reg [(Qa 14 (.build [.iv 0,.iv 0,.nl,.iv 0,.nl] [])),(Qs 5 2 14),(Qi 3 152)]) (.ret)) (.skip))) (.seq (.reg [(Qe 15 5 1),(Qa 16 (.call 120 [(.t 15)])),(Qs 5 1 16)]) (.seq (.reg [(Qf 17 3 1),(Qb (.store 1 (.t 17) (.c (.iv 0)))),(Qf 18 4 1),(Qb (.store 1 (.t 18) (.c .nl)))]) (.seq (.reg [(Qe 19 5 1),(Qs 5 2 19),(Qi 3 0)]) (.ret))))))
theorem ok75:FnOK Tryz.prog 75 Tryz.f75 e75 [.c 2 (some 5),.t 3] 1 19:=⟨by kernel_rfl,⟨_,rfl,by kernel_rfl⟩,by kernel_rfl,by kernel_rfl⟩
noncomputable def Zhj (x1:Drinker):Option (Drinker×Int):=
 (Zch x1).bind fun x2=>
 ifb (!decide (x2=0)) (
 some ((Drinker.mk ((Diner.mk 0 0 (([]:(List Side))))) 0 (([]:(List Int)))),x2)) (
 ifb (decide (x1.Thirst=0)) (
 some ((Drinker.mk ((Diner.mk 0 0 (([]:(List Side))))) 0 (([]:(List Int)))),152)) (
 (Zeh x1).bind fun x3=>
 some ((Drinker.mk x3.Diner 0 (([]:(List Int)))),0)))
theorem k_drink_Close (x1:Drinker) (r:(Drinker×Int)) (h:Zhj x1=some r):Zu2 Tryz.prog 75 [.agg (Drinker.row x1)] (.tup [.agg (Drinker.row r.1),.iv r.2]):=by
 refine Zy2 ok75 rfl rfl fun w0 H0=>?_
 rw [Zhj] at h
 refine Zo2 10 ?_;dsimp only [go_sem];refine An ?_;obtain ⟨x2,ex2,h⟩:=Bs h;refine Z33 trivial (Zdh x1 _ ex2) (h:=?_);refine Zo2 7 ?_;dsimp only [go_sem];refine An ?_;refine Zn4 h rfl (fun _ h=>?_) fun _ h=>?_
 ·refine Zo2 7 ?_;dsimp only [go_sem];refine An ?_;exact Zv4 (res:=fun (r:(Drinker×Int))=>.tup [.agg (Drinker.row r.1),.iv r.2]) ok75 h
 ·refine Zo2 8 ?_;dsimp only [go_sem];refine An ?_;refine Zn4 h rfl (fun _ h=>?_) fun _ h=>?_
  ·refine Zo2 6 ?_;dsimp only [go_sem];refine An ?_;exact Zv4 (res:=fun (r:(Drinker×Int))=>.tup [.agg (Drinker.row r.1),.iv r.2]) ok75 h
  ·refine Zo2 4 ?_;dsimp only [go_sem];refine An ?_;obtain ⟨x3,ex3,h⟩:=Bs h;refine Z33 trivial (Zfh x1 _ ex3) (h:=?_);refine Zo2 15 ?_;dsimp only [go_sem];refine An ?_;exact Zv4 (res:=fun (r:(Drinker×Int))=>.tup [.agg (Drinker.row r.1),.iv r.2]) ok75 h
set_option maxRecDepth 100000
set_option maxHeartbeats 4000000
@[go_sem] def e137:EC:=.seq (.reg [(Qx 3 66 8 0),(Qa 4 (.mv (.c .ff)))]) (.seq (.reg [(Qf 5 0 3),(Ql 6 5),(Ql 7 1),(Qa 8 (.bin .eql (.t 6) (.t 7))),(Qm 9 8),(Qh 10 9 true 1 3),(Qn 11 9 true 10),(Qh 12 9 true 1 2),(Qn 13 9 true 12),(Qg 14 9 true (.bin .eql (.t 11) (.t 13))),(Qp 15 9 14),(Qm 4 15)]) (.ret))
theorem ok137:FnOK Tryz.prog 137 Tryz.f137 e137 [.t 4] 3 13:=⟨by kernel_rfl,⟨_,rfl,by kernel_rfl⟩,by kernel_rfl,by kernel_rfl⟩
noncomputable def Zij:Bool→Option Bool
| x4=>
 some x4
noncomputable def Zjj (x1:Side) (x2:Int) (x3:Msg):Option Bool:=
 ifb (decide (x1.Peer=x2)) (
 Zij (decide (x1.Epoch=x3.Epoch))) (
 Zij false)
theorem k_drink_Get_1 (x1:Side) (x2:Int) (x3:Msg) (r:Bool) (h:Zjj x1 x2 x3=some r):Zu2 Tryz.prog 137 [.agg (Side.row x1),.elt (Z15 x2) 0,.elt (Msg.row x3) 0] (.bv r):=by
 refine Zy2 ok137 rfl rfl fun w0 H0=>?_
 rw [Zjj] at h
 refine Zo2 12 ?_;dsimp only [go_sem];refine An ?_;refine Zl4 (fun (x4:Bool)=>(⟨(an 4 (.bv x4::an 11 [])),[],[]⟩:St)) Zij r ?_ fun J1=>?_
 ·intro x4 h;rw [Zij] at h;(try dsimp only);exact Zv4 (res:=fun (r:Bool)=>.bv r) ok137 h
 ·refine Zu4 9 h rfl (fun _ h=>?_) fun _ h=>?_
  ·dsimp only [go_sem];refine Zo2 8 ?_;dsimp only [go_sem];refine An ?_;exact Zx4 J1 (s:=decide (x1.Epoch=x3.Epoch)) h
  ·dsimp only [go_sem];refine Zo2 8 ?_;dsimp only [go_sem];refine An ?_;exact Zx4 J1 (s:=false) h
set_option maxRecDepth 100000
set_option maxHeartbeats 4000000
@[go_sem] def e91:EC:=.seq (.reg [(Qx 3 63 5 0),(Qx 4 3 1 1),(Qx 5 93 3 2),(Qa 6 (.alloc 63 [.iv 0,.iv 0,.nl,.iv 0,.nl])),(Qi 7 0)]) (.seq (.seq (.reg [(Qe 13 5 3),(Qa 14 (.call 58 [(.t 13)])),(Qm 8 14)]) (.seq (.reg [(Qm 15 8),(Qa 16 (.bin .neq (.t 15) (.c (.iv 0))))]) (.ite (.t 16) (.seq (.reg [(Qa 17 (.build [.iv 0,.iv 0,.nl,.iv 0,.nl] [])),(Qm 18 8),(Qs 5 6 17),(Qm 7 18)]) (.ret)) (.skip)))) (.seq (.reg [(Qe 19 5 3),(Qa 20 (.call 120 [(.t 19)])),(Qs 5 3 20)]) (.seq (.reg [(Qf 21 0 3),(Qf 22 2 21),(Ql 23 22),(Qa 24 (.mkf 137 [(.t 4),(.t 5)])),(Qa 25 (.call 116 [(.t 23),(.t 24)])),(Qm 9 25)]) (.seq (.seq (.reg [(Qm 26 9),(Qa 27 (.bin .lss (.t 26) (.c (.iv 0)))),(Qm 28 27),(Qh 29 28 false 2 5),(Qn 30 28 false 29),(Qg 31 28 false (.bin .neq (.t 30) (.c (.iv 0)))),(Qq 32 28 31),(Qm 33 32),(Qh 34 33 false 0 5),(Qn 35 33 false 34),(Qg 36 33 false (.bin .neq (.t 35) (.c (.iv 3)))),(Qg 37 33 false (.mv (.t 36))),(Qh 38 37 true 0 5),(Qn 39 37 true 38),(Qg 40 37 true (.bin .neq (.t 39) (.c (.iv 4)))),(Qg 41 33 false (.pick (.t 37) (.t 40) (.c .ff))),(Qq 42 33 41)]) (.ite (.t 42) (.seq (.reg [(Qf 44 0 3),(Qe 45 3 44),(Ql 46 4),(Qe 47 3 5),(Qa 48 (.call 138 [(.t 45),(.t 46),(.t 47)])),(Qm 43 48),(Qa 49 (.ext (.t 43) 0)),(Qa 50 (.ext (.t 43) 1)),(Qa 10 (.alloc 61 [.iv 0,.iv 0,.nl])),(Qs 3 10 49),(Qm 11 50)]) (.seq (.seq (.reg [(Qm 51 11),(Qa 52 (.bin .neq (.t 51) (.c (.iv 0))))]) (.ite (.t 52) (.seq (.reg [(Qa 53 (.build [.iv 0,.iv 0,.nl,.iv 0,.nl] [])),(Qm 54 11),(Qs 5 6 53),(Qm 7 54)]) (.ret)) (.skip))) (.seq (.reg [(Qe 55 3 10),(Qf 56 0 3),(Qs 3 56 55)]) (.seq (.reg [(Qe 57 5 3),(Qs 5 6 57),(Qi 7 0)]) (.ret))))) (.skip))) (.seq (.reg [(Qf 58 0 3),(Qf 59 2 58),(Ql 60 59),(Qm 61 9),(Qk 62 8 60 61),(Qf 63 6 62),(Qm 12 63)]) (.seq (.seq (.reg [(Qf 64 0 5),(Ql 65 64),(Qa 66 (.bin .eql (.t 65) (.c (.iv 4))))]) (.ite (.t 66) (.reg [(Qf 67 0 3),(Qf 68 2 67),(Ql 69 68),(Qm 70 9),(Qk 71 8 69 70),(Qf 72 7 71),(Qm 12 72)]) (.skip))) (.seq (.seq (.reg [(Qm 73 12),(Qa 74 (.nilchk (.t 73))),(Ql 75 74)]) (.ite (.t 75) (.seq (.reg [(Qa 76 (.build [.iv 0,.iv 0,.nl,.iv 0,.nl] [])),(Qs 5 6 76),(Qi 7 132)]) (.ret)) (.skip))) (.seq (.reg [(Qm 77 12),(Qa 78 (.nilchk (.t 77))),(Qb (.store 1 (.t 78) (.c .tt)))]) (.seq (.reg [(Qe 79 5 3),(Qs 5 6 79),(Qi 7 0)]) (.ret))))))))))
theorem ok91:FnOK Tryz.prog 91 Tryz.f91 e91 [.c 6 (some 5),.t 7] 3 77:=⟨by kernel_rfl,⟨_,rfl,by kernel_rfl⟩,by kernel_rfl,by kernel_rfl⟩
noncomputable def Zkj (x1:Drinker):Option ((List Side)×(List Int)):=
 (Zma x1.Diner.Sides).bind fun x2=>
 (Za9 x1.Need).bind fun x3=>
 some (x2,x3)
theorem Zlj (x1:Drinker) (r:((List Side)×(List Int))) (h:Zkj x1=some r):FunT Tryz.prog 120 [.agg [.iv x1.Diner.ID,.iv x1.Diner.Phase,.sl 8 (List.map Side.row x1.Diner.Sides),.iv x1.Thirst,.sl 1 (List.map Z15 x1.Need)]] [none,none,none,none] [] (.agg [.iv x1.Diner.ID,.iv x1.Diner.Phase,.osl 0,.iv x1.Thirst,.osl 1]) [none,none,none,none] [some ⟨66,8,List.map Side.row r.1⟩,some ⟨3,1,List.map Z15 r.2⟩]:=by
 refine Zq5 ok120 rfl rfl rfl (by first | rfl | simp [go_sem]) fun w0 M0=>?_
 rw [Zkj] at h
 dsimp only [lun,List.cons_append,List.nil_append]
 refine Zo2 6 ?_;dsimp only [go_sem];refine An ?_;refine Zk3 (by kernel_rfl) fun all hall hs hnap haf=>?_;dsimp only [go_sem];refine Zc5 hall hs haf hnap 5 7 ?_;dsimp only [go_sem];refine An ?_;refine Zv3 3 rfl ?_;obtain ⟨x2,ex2,h⟩:=Bs h;refine Zb5 hall rfl trivial (Zna x1.Diner.Sides _ ex2) (h:=?_);dsimp only [go_sem];refine Zc5 hall hs haf hnap 2 4 ?_;dsimp only [go_sem];refine An ?_;refine Zv3 6 rfl ?_;obtain ⟨x3,ex3,h⟩:=Bs h;refine Zb5 hall rfl trivial (Zb9 x1.Need _ ex3) (h:=?_);dsimp only [go_sem]
 refine Zv3 9 rfl ?_;refine Z04 hall rfl trivial ?_;dsimp only [go_sem];refine Zc5 hall hs haf hnap 1 1 ?_;dsimp only [go_sem];refine An ?_;refine Zv3 11 rfl ?_;refine Z04 hall rfl trivial ?_;dsimp only [go_sem];refine Zu3 rfl ?_ _;refine Zo2 5 ?_;dsimp only [go_sem];refine An ?_;obtain rfl:=Option.some.inj h;exact Zr5 ok120 rfl (by simp [go_sem])
noncomputable def Zmj (x1:Drinker) (x2:Int) (x3:Msg) (x5:((List Side)×(List Int))) (x6:Int):Bool→Option (Drinker×Int)
| x7=>
 ifb x7 (
 (Zra ((Diner.mk x1.Diner.ID x1.Diner.Phase x5.1)) x2 x3).bind fun x8=>
 ifb (!decide (x8.2=0)) (
 some ((Drinker.mk ((Diner.mk 0 0 (([]:(List Side))))) 0 (([]:(List Int)))),x8.2)) (
 some ((Drinker.mk x8.1 x1.Thirst x5.2),0))) (
 (at_ x5.1 x6).bind fun x9=>
 ifb (decide (x3.Kind=4)) (
 ifb x9.Ask (
 some ((Drinker.mk ((Diner.mk 0 0 (([]:(List Side))))) 0 (([]:(List Int)))),132)) (
 some ((Drinker.mk ((Diner.mk x1.Diner.ID x1.Diner.Phase (x5.1.set (x6).toNat ((Side.mk x9.Peer x9.Epoch x9.State x9.Fork x9.Dirty x9.Token x9.Bottle true))))) x1.Thirst x5.2),0))) (
 ifb x9.Bottle (
 some ((Drinker.mk ((Diner.mk 0 0 (([]:(List Side))))) 0 (([]:(List Int)))),132)) (
 some ((Drinker.mk ((Diner.mk x1.Diner.ID x1.Diner.Phase (x5.1.set (x6).toNat ((Side.mk x9.Peer x9.Epoch x9.State x9.Fork x9.Dirty x9.Token true x9.Ask))))) x1.Thirst x5.2),0))))
noncomputable def Znj (x1:Drinker) (x2:Int) (x3:Msg):Option (Drinker×Int):=
 (Zch x1).bind fun x4=>
 ifb (!decide (x4=0)) (
 some ((Drinker.mk ((Diner.mk 0 0 (([]:(List Side))))) 0 (([]:(List Int)))),x4)) (
 (Zkj x1).bind fun x5=>
 (Zp6 x5.1 ((fun z=>Zjj z x2 x3))).bind fun x6=>
 ifb (decide (x6<0)) (
 (Zmj x1 x2 x3 x5 x6) true) (
 ifb (!decide (x3.Num=0)) (
 (Zmj x1 x2 x3 x5 x6) true) (
 ifb (!decide (x3.Kind=3)) (
 (Zmj x1 x2 x3 x5 x6) (!decide (x3.Kind=4))) (
 (Zmj x1 x2 x3 x5 x6) false))))
theorem k_drink_Get (x1:Drinker) (x2:Int) (x3:Msg) (r:(Drinker×Int)) (h:Znj x1 x2 x3=some r):Zu2 Tryz.prog 91 [.agg (Drinker.row x1),.iv x2,.agg (Msg.row x3)] (.tup [.agg (Drinker.row r.1),.iv r.2]):=by
 refine Zy2 ok91 rfl rfl fun w0 H0=>?_
 rw [Znj] at h
 refine Zo2 12 ?_;dsimp only [go_sem];refine An ?_;obtain ⟨x4,ex4,h⟩:=Bs h;refine Z33 trivial (Zdh x1 _ ex4) (h:=?_);refine Zo2 7 ?_;dsimp only [go_sem];refine An ?_;refine Zn4 h rfl (fun _ h=>?_) fun _ h=>?_
 ·refine Zo2 7 ?_;dsimp only [go_sem];refine An ?_;exact Zv4 (res:=fun (r:(Drinker×Int))=>.tup [.agg (Drinker.row r.1),.iv r.2]) ok91 h
 ·refine Zo2 4 ?_;dsimp only [go_sem];refine An ?_;obtain ⟨x5,ex5,h⟩:=Bs h;refine Zt5 [false,false,false,false] [] trivial (Zlj x1 _ ex5) (h:=?_);dsimp only [go_sem];refine Zo2 8 ?_;dsimp only [go_sem];refine An ?_;obtain ⟨x6,ex6,h⟩:=Bs h;refine Zz4 trivial ((((Zy4.refl _).slice 0 rfl).block 1 rfl rfl).block 2 rfl rfl) (Zq6 x5.1 _ _ ((fun z=>Zjj z x2 x3)) ⟨by kernel_rfl,rfl,fun z r hz=>k_drink_Get_1 z x2 x3 r hz⟩ _ ex6) (h:=?_);refine Zo2 8 ?_;dsimp only [go_sem];refine An ?_
  refine Zl4 (fun (x7:Bool)=>(⟨(an 3 (.ptr 0 0 :: .ptr 1 0 :: .ptr 2 0 :: .ptr 3 0 :: .any :: .any :: .iv x6::an 32 (.bv x7::an 37 []))),[some ⟨63,[.iv x1.Diner.ID,.iv x1.Diner.Phase,.osl 0,.iv x1.Thirst,.osl 1]⟩,some ⟨3,[.iv x2]⟩,some ⟨93,[.iv x3.Kind,.iv x3.Epoch,.iv x3.Num]⟩,some ⟨63,[.iv 0,.iv 0,.nl,.iv 0,.nl]⟩],[some ⟨66,8,List.map Side.row x5.1⟩,some ⟨3,1,List.map Z15 x5.2⟩]⟩:St)) (Zmj x1 x2 x3 x5 x6) r ?_ fun J1=>?_
  ·intro x7 h;rw [Zmj] at h;(try dsimp only);refine Zn4 h rfl (fun _ h=>?_) fun _ h=>?_
   ·refine Zo2 6 ?_;dsimp only [go_sem];refine An ?_;refine Zc3 0 rfl ?_;dsimp only [go_sem];obtain ⟨x8,ex8,h⟩:=Bs h;refine Z33 trivial (k_dine_Get ((Diner.mk x1.Diner.ID x1.Diner.Phase x5.1)) x2 x3 _ ex8) (h:=?_);refine Zo2 13 ?_;dsimp only [go_sem];refine An ?_;refine Zn4 h rfl (fun _ h=>?_) fun _ h=>?_
    ·refine Zo2 7 ?_;dsimp only [go_sem];refine An ?_;exact Zv4 (res:=fun (r:(Drinker×Int))=>.tup [.agg (Drinker.row r.1),.iv r.2]) ok91 h
    ·refine Zo2 13 ?_;dsimp only [go_sem];refine An ?_;refine Zc3 1 rfl ?_;dsimp only [go_sem];exact Zv4 (res:=fun (r:(Drinker×Int))=>.tup [.agg (Drinker.row r.1),.iv r.2]) ok91 h
   ·refine Zo2 7 ?_;dsimp only [go_sem];refine An ?_;obtain ⟨x9,ex9,h⟩:=Bs h;refine Zf5 Side.row ex9 trivial rfl rfl rfl ?_;refine Zo2 10 ?_;dsimp only [go_sem];refine An ?_;refine Zn4 h rfl (fun _ h=>?_) fun _ h=>?_
    ·refine Zo2 5 ?_;dsimp only [go_sem];refine An ?_;refine Zf5 Side.row ex9 trivial rfl rfl rfl ?_;refine Zo2 8 ?_;dsimp only [go_sem];refine An ?_;refine Zg5 Side.row ex9 trivial rfl rfl rfl ?_;refine Zo2 1 ?_;dsimp only [go_sem];refine An ?_;refine Zn4 h rfl (fun _ h=>?_) fun _ h=>?_
     ·refine Zo2 6 ?_;dsimp only [go_sem];refine An ?_;exact Zv4 (res:=fun (r:(Drinker×Int))=>.tup [.agg (Drinker.row r.1),.iv r.2]) ok91 h
     ·refine Zo2 5 ?_;dsimp only [go_sem];refine An ?_;refine Zl5 [.bv true] Side.row (y':=(Side.mk x9.Peer x9.Epoch x9.State x9.Fork x9.Dirty x9.Token x9.Bottle true)) ex9 trivial rfl rfl rfl (by first | exact Zd4 _ | simp [go_sem]) rfl rfl rfl rfl ?_;refine Zo2 7 ?_;dsimp only [go_sem];refine An ?_;refine Zc3 0 rfl ?_;dsimp only [go_sem];refine Zc3 1 rfl ?_;dsimp only [go_sem];exact Zv4 (res:=fun (r:(Drinker×Int))=>.tup [.agg (Drinker.row r.1),.iv r.2]) ok91 h
    ·refine Zo2 6 ?_;dsimp only [go_sem];refine An ?_;refine Zg5 Side.row ex9 trivial rfl rfl rfl ?_;refine Zo2 1 ?_;dsimp only [go_sem];refine An ?_;refine Zn4 h rfl (fun _ h=>?_) fun _ h=>?_
     ·refine Zo2 6 ?_;dsimp only [go_sem];refine An ?_;exact Zv4 (res:=fun (r:(Drinker×Int))=>.tup [.agg (Drinker.row r.1),.iv r.2]) ok91 h
     ·refine Zo2 5 ?_;dsimp only [go_sem];refine An ?_;refine Zl5 [.bv true] Side.row (y':=(Side.mk x9.Peer x9.Epoch x9.State x9.Fork x9.Dirty x9.Token true x9.Ask)) ex9 trivial rfl rfl rfl (by first | exact Zd4 _ | simp [go_sem]) rfl rfl rfl rfl ?_;refine Zo2 7 ?_;dsimp only [go_sem];refine An ?_;refine Zc3 0 rfl ?_;dsimp only [go_sem];refine Zc3 1 rfl ?_;dsimp only [go_sem];exact Zv4 (res:=fun (r:(Drinker×Int))=>.tup [.agg (Drinker.row r.1),.iv r.2]) ok91 h
  ·refine Zu4 28 h rfl (fun _ h=>?_) fun _ h=>?_
   ·dsimp only [go_sem];refine Zo2 15 ?_;dsimp only [go_sem];refine An ?_;exact Zx4 J1 (s:=true) h
   ·dsimp only [go_sem];refine Zo2 5 ?_;dsimp only [go_sem];refine An ?_;refine Zu4 33 h rfl (fun _ h=>?_) fun _ h=>?_
    ·dsimp only [go_sem];refine Zo2 10 ?_;dsimp only [go_sem];refine An ?_;exact Zx4 J1 (s:=true) h
    ·dsimp only [go_sem];refine Zo2 4 ?_;dsimp only [go_sem];refine An ?_;refine Zu4 37 h rfl (fun _ h=>?_) fun _ h=>?_
     ·dsimp only [go_sem];refine Zo2 6 ?_;dsimp only [go_sem];refine An ?_;exact Zx4 J1 (s:=!decide (x3.Kind=4)) h
     ·dsimp only [go_sem];refine Zo2 6 ?_;dsimp only [go_sem];refine An ?_;exact Zx4 J1 (s:=false) h
theorem Zoj (id:Int) (f:Side→Side):∀(l:List Side) (q:Int),(∀x∈l,(f x).Peer=x.Peer∧∀q,Zsa id q x=true→Zsa id q (f x)=true)→Zta id q l=true→Zta id q (l.map f)=true
 | [],_,_,_=>rfl
 | x::l,q,h,hk=>by
   obtain ⟨h1,h2⟩:=h x (by simp)
   simp only [List.map_cons,Zta,Bool.and_eq_true] at hk ⊢
   refine ⟨h2 q hk.1,?_⟩
   rw [h1]
   exact Zoj id f l x.Peer (fun y hy=>h y (by simp [hy])) hk.2
theorem okD_map {d:Diner} (h:okD d=true) {p:Int} (h0:0≤p) (h2:p≤2) (f:Side→Side) (hf:∀x∈d.Sides,(f x).Peer=x.Peer∧∀q,Zsa d.ID q x=true→Zsa d.ID q (f x)=true):okD ⟨d.ID,p,d.Sides.map f⟩=true:=by
 simp only [okD,Bool.and_eq_true,decide_eq_true_eq] at h ⊢
 exact ⟨h.1,h0,h2,by simpa using h.2.2.2.1,Zoj d.ID f d.Sides (-1) hf h.2.2.2.2⟩
theorem sideD_of {id q:Int} {x y:Side} (hp:y.Peer=x.Peer) (he:y.Epoch=x.Epoch) (hs:y.State=x.State) (hd:(x.Dirty=true→x.Fork=true)→y.Dirty=true→y.Fork=true) (h:Zsa id q x=true):Zsa id q y=true:=by
 unfold Zsa at h ⊢
 rw [hp,he,hs]
 simp only [Bool.and_eq_true] at h ⊢
 refine ⟨h.1,h.2.1,h.2.2.1,h.2.2.2.1,h.2.2.2.2.1,h.2.2.2.2.2.1,?_⟩
 have h7:=h.2.2.2.2.2.2
 cases hyd:y.Dirty with
 | false=>rfl
 | true=>
   have:x.Dirty=true→x.Fork=true:=fun e=>by
    rw [e] at h7
    cases hf:x.Fork with
    | true=>rfl
    | false=>rw [hf] at h7;simp at h7
   rw [hd this hyd];rfl
theorem fireD_ok {d:Diner} (h:okD d=true):okD (Z4b d)=true:=by
 have hh:=h
 simp only [okD,Bool.and_eq_true,decide_eq_true_eq] at hh
 have hp:0≤(Z4b d).Phase∧(Z4b d).Phase≤2:=by
  rcases Z7j d with ⟨q,_⟩ | ⟨_,q⟩
  ·rw [q];exact ⟨hh.2.1,hh.2.2.1⟩
  ·rw [q];omega
 have:=okD_map h hp.1 hp.2 (Zgb d) fun x hx=>by
  obtain ⟨p1,p2,p3,_⟩:=Zjb d x
  refine ⟨p1,fun q=>sideD_of p1 p2 p3 fun hd=>?_⟩
  unfold Zgb
  split
  ·rename_i hc
   rw [Bool.and_eq_true,List.all_eq_true] at hc
   exact fun _=>hc.2 (Z1b d.Phase x) (List.mem_map_of_mem hx)
  ·exact Zbb _ _ hd
 rw [←Zhb] at this
 rw [show Z4b d=⟨d.ID,(Z4b d).Phase,(Z4b d).Sides⟩ by rw [←Zib d]]
 exact this
theorem once_ok {d:Drinker} (h:okD d.Diner=true):okD (Z2j d).Diner=true:=by
 have h1:=fireD_ok (pre_ok h)
 have hh:=h1
 simp only [okD,Bool.and_eq_true,decide_eq_true_eq] at hh
 have:=okD_map h1 hh.2.1 hh.2.2.1 (fun x=>Zvi (Zsi d x) d.Thirst x) fun x _=>by
  obtain ⟨p1,p2,p3,p4,p5,_⟩:=Zxi (Zsi d x) d.Thirst x
  exact ⟨p1,fun q=>sideD_of p1 p2 p3 fun hd e=>by rw [p4];rw [p5] at e;exact hd e⟩
 rw [Zib] at this
 exact this
def fireN:Nat→Drinker→List Mail→Drinker×List Mail
 | 0,d,out=>(d,out)
 | n+1,d,out=>if Z2j d=d then (d,out) else fireN n (Z2j d) (out++Z3j d)
def fireDr (d:Drinker):Drinker×List Mail:=fireN 300 d []
theorem Zpj (l:List Int) (hl:l.length≤1000000):Za9 l=some l:=by
 simp only [Za9]
 rw [Z76 _ _ (by omega) (by simp;omega)];rfl
theorem s_EqualInt (l m:List Int) (hl:l.length≤1000000):Zoh l m=some (decide (l=m)):=by
 simp only [Zoh,ln_dec]
 by_cases h:l.length=m.length
 ·simp only [h,decide_true,Bool.not_true,Z36]
  rw [Z18 l m _ (fun x y=>decide (x=y)) h (by omega) (fun k x y hx hy=>by
   simp only [Znh,Z86 hx,Z26,Z66 hx,Z66 hy,Option.bind_some,Zb6 hx (show l.length≤4000000000000000000 by omega),Z46]
   cases decide (x=y)<;>rfl) (by simp only [Znh,Z96,Z36,Zmh,Option.map_some]),Z28 l m h]
 ·simp [h,len_ne h]
theorem s_drOwn (d:Drinker) (hs:d.Diner.Sides.length≤1000000) (hn:d.Need.length≤1000000):Zeh d=some d:=by
 simp only [Zeh,Zxa _ hs,Zpj _ hn,Option.bind_some]
theorem s_drSame (a b:Drinker) (hs:a.Diner.Sides.length≤1000000) (hn:a.Need.length≤1000000):Zrh a b=some (decide (a=b)):=by
 obtain ⟨⟨i,p,s⟩,t,n⟩:=a
 obtain ⟨⟨i',p',s'⟩,t',n'⟩:=b
 simp only at hs hn
 simp only [Zrh,Zlh,Zkh,Zqh,s_EqualSide s s' hs,s_EqualInt n n' hn,Option.bind_some,Drinker.mk.injEq,Diner.mk.injEq]
 by_cases h1:i=i'<;>by_cases h2:p=p'<;>by_cases h3:s=s'<;>by_cases h4:t=t'<;>by_cases h5:n=n'<;>simp [h1,h2,h3,h4,h5]
theorem bits_le (l:List Side):bits l≤4*l.length:=by
 induction l with
 | nil=>simp [bits]
 | cons x l ih=>
   have:Z5j x≤4:=by unfold Z5j bn;split<;>split<;>split<;>split<;>omega
   unfold bits at ih ⊢
   simp only [List.map_cons,List.sum_cons,List.length_cons]
   omega
theorem mu_le {d:Drinker} (h:okD d.Diner=true):mu d≤257:=by
 have h1:=Zya h
 have h2:=bits_le d.Diner.Sides
 have:rank d.Thirst d.Diner.Phase≤5:=by unfold rank;(repeat' split)<;>omega
 unfold mu;omega
theorem Zqj {d:Diner} (h:okD d=true):0≤d.Phase∧d.Phase≤2:=by
 simp only [okD,Bool.and_eq_true,decide_eq_true_eq] at h
 exact ⟨h.2.1,h.2.2.1⟩
theorem fire_loop (x3:Drinker) (hN:x3.Need.length≤1000000):∀(n:Nat) (d:Drinker) (out:List Mail),d.Need=x3.Need→okD d.Diner=true→mu d≤n→out.length+bits d.Diner.Sides≤600000→
  loop (Zqi x3) (d.Diner.ID,d.Diner.Phase,d.Diner.Sides,d.Thirst,out)=some ((fireN (n+1) d out).1,(fireN (n+1) d out).2,0):=fun n=>by
 have step:∀(d:Drinker) (out:List Mail),d.Need=x3.Need→okD d.Diner=true→out.length+bits d.Diner.Sides≤600000→Zqi x3 (d.Diner.ID,d.Diner.Phase,d.Diner.Sides,d.Thirst,out)=if Z2j d=d then some (.inr (d,out,0)) else some (.inl ((Z2j d).Diner.ID,(Z2j d).Diner.Phase,(Z2j d).Diner.Sides,(Z2j d).Thirst,out++Z3j d)):=fun d out hd hk ho=>by
  have hl:=Zya hk
  have hp:=Zqj hk
  have e:(⟨⟨d.Diner.ID,d.Diner.Phase,d.Diner.Sides⟩,d.Thirst,x3.Need⟩:Drinker)=d:=by rw [←hd]
  dsimp only [Zqi]
  have ho2:=s_once d hk (by rw [hd];exact hN) out (by omega)
  rw [hd] at ho2
  rw [e,s_drOwn d (by omega) (by rw [hd];exact hN),Option.bind_some,ho2,Option.bind_some]
  dsimp only
  have e2:(⟨⟨(Z2j d).Diner.ID,(Z2j d).Diner.Phase,(Z2j d).Diner.Sides⟩,(Z2j d).Thirst,x3.Need⟩:Drinker)=Z2j d:=by rw [←hd];rfl
  rw [e2,s_drSame d _ (by omega) (by rw [hd];exact hN),Option.bind_some]
  by_cases hq:Z2j d=d
  ·rw [if_pos hq,decide_eq_true hq.symm,Z26]
   have hm:Z3j d=[]:=by
    rcases Z9j hp.1 hp.2 with h1 | h1
    ·exact h1.2
    ·rw [hq] at h1;omega
   rw [hm,List.append_nil,hq];rfl
  ·rw [if_neg hq,decide_eq_false fun e=>hq e.symm,Z36]
 induction n with
 | zero=>
   intro d out hd hk hm ho
   have hp:=Zqj hk
   have hq:Z2j d=d:=by
    rcases Z9j hp.1 hp.2 with h1 | h1
    ·exact h1.1
    ·omega
   rw [Zj4,step d out hd hk ho,if_pos hq]
   unfold fireN
   rw [if_pos hq]
 | succ n ih=>
   intro d out hd hk hm ho
   have hp:=Zqj hk
   rw [Zj4,step d out hd hk ho]
   unfold fireN
   by_cases hq:Z2j d=d
   ·rw [if_pos hq,if_pos hq]
   ·rw [if_neg hq,if_neg hq]
    have hb:=Z6j d
    refine ih (Z2j d) (out++Z3j d) hd (once_ok hk) ?_ (by rw [List.length_append];omega)
    rcases Z9j hp.1 hp.2 with h1 | h1
    ·exact absurd h1.1 hq
    ·omega
def okI:Option Int→List Int→Bool
 | _,[]=>true
 | p,x::r=>(match p with | none=>true | some q=>decide (q<x))&&okI (some x) r
def Zrj (d:Diner) (p:Int):Bool:=d.Sides.any fun x=>decide (x.Peer=p)
def okDr (d:Drinker):Bool:=okD d.Diner&&(decide (0≤d.Thirst)&&(decide (d.Thirst≤2)&&(okI none d.Need&&(!(decide (d.Thirst=0)&&decide (0<d.Need.length))&&d.Need.all (Zrj d.Diner)))))
def Zsj:Drinker:=⟨Zza,0,[]⟩
theorem s_setValid (l:List Int) (hl:l.length≤1000000):Z8h l=some (okI none l):=by
 unfold Z8h
 refine Zt7 l (Z7h l) (fun pre=>(pre.length:Int)) (fun pre post=>some (okI pre.getLast? post)) (fun pre x post h=>?_) ?_
 ·have hx:=Zv7 h
  have hm:=Zw7 h
  have j2:∀z,Z6h (pre.length:Int) z=if z then some (.inr false) else some (.inl ((pre.length+1:Nat):Int)):=fun z=>by
   cases z with
   | true=>rfl
   | false=>dsimp only [Z6h];rw [Z36,Za6 (by omega)];rfl
  dsimp only [Z7h]
  rw [Z86 hx,Z26]
  rcases List.eq_nil_or_concat pre with rfl | ⟨q,y,rfl⟩
  ·left
   rw [show decide ((0:Int)<(([]:List Int).length:Nat))=false from rfl,Z36,j2]
   exact ⟨rfl,rfl⟩
  ·rw [List.concat_eq_append] at *
   have hy:l[q.length]?=some y:=by rw [h];simp
   rw [decide_eq_true (show (0:Int)<((q++[y]).length:Nat) by rw [Z08];omega),Z26]
   have e1:wr (((q++[y]).length:Nat)-1)=(q.length:Int):=by rw [Z08] at hm ⊢;rw [Z56 (by omega) (by omega)];omega
   rw [e1,Z66 hy,Option.bind_some,Z66 hx,Option.bind_some,j2]
   by_cases hc:x≤y
   ·right
    refine ⟨false,by rw [decide_eq_true hc];rfl,?_⟩
    have:¬y<x:=by omega
    simp [okI,this]
   ·left
    have:y<x:=by omega
    refine ⟨by rw [decide_eq_false hc,Z08 (q++[y])];rfl,?_⟩
    simp [okI,this]
 ·dsimp only [Z7h]
  rw [Z96,Z36];rfl
theorem Ztj (d:Drinker) (hn:d.Need.length≤1000000):Zch d=some (if okDr d then 0 else 150):=by
 simp only [Zch,Zwa,Option.bind_some]
 unfold okDr
 cases hk:okD d.Diner with
 | false=>rfl
 | true=>
   have hl:=Zya hk
   rw [if_pos rfl,show decide ((0:Int)=0)=true from rfl,Bool.not_true,Z36]
   by_cases h1:d.Thirst<0
   ·rw [decide_eq_true h1,Z26,decide_eq_false (show ¬0≤d.Thirst by omega)];rfl
   ·rw [decide_eq_false h1,Z36,decide_eq_true (show 0≤d.Thirst by omega)]
    by_cases h2:2<d.Thirst
    ·rw [decide_eq_true h2,decide_eq_false (show ¬d.Thirst≤2 by omega)];rfl
    ·rw [decide_eq_false h2,decide_eq_true (show d.Thirst≤2 by omega)]
     dsimp only [Zbh]
     rw [Z36,s_setValid _ hn,Option.bind_some]
     cases hv:okI none d.Need with
     | false=>rfl
     | true=>
       rw [Bool.not_true,Z36]
       have j3:∀z,Zah d z=some (if (!z&&d.Need.all (Zrj d.Diner))=true then 0 else 150):=fun z=>by
        cases z with
        | true=>rfl
        | false=>
          dsimp only [Zah]
          rw [Z36,Zi7 d.Need (fun z=>Z3h z d) (fun p=>!Zrj d.Diner p) (by omega) (fun p _=>by
           simp only [Z3h]
           rw [Z4j d.Diner.Sides (fun z=>Z1h z p) (fun x=>decide (x.Peer=p)) (by omega) (fun x _=>rfl),Option.bind_some]
           rfl),Option.bind_some]
          have e1:d.Need.any (fun p=>!Zrj d.Diner p)=!d.Need.all (Zrj d.Diner):=Zm7 _ _ _ fun _=>rfl
          rw [e1]
          cases d.Need.all (Zrj d.Diner)<;>rfl
       rw [Z45]
       simp only [j3,Bool.true_and]
       have e3:decide ((0:Int)<(d.Need.length:Nat))=decide (0<d.Need.length):=by rw [decide_eq_decide];omega
       rw [e3]
       cases decide (d.Thirst=0)<;>rfl
theorem s_drFire (d:Drinker) (hn:d.Need.length≤1000000):Zri d=some (if okDr d then ((fireDr d).1,(fireDr d).2,0) else (Zsj,[],150)):=by
 simp only [Zri,Ztj d hn,Option.bind_some]
 cases hk:okDr d with
 | false=>rfl
 | true=>
   have hk2:okD d.Diner=true:=by unfold okDr at hk;rw [Bool.and_eq_true] at hk;exact hk.1
   have hl:=Zya hk2
   have hb:=bits_le d.Diner.Sides
   have hm:=mu_le hk2
   rw [if_pos rfl,show decide ((0:Int)=0)=true from rfl,Bool.not_true,Z36,s_drOwn d (by omega) hn,Option.bind_some,fire_loop d hn 299 d [] rfl hk2 (by omega) (by simp only [List.length_nil];omega),if_pos rfl]
   rfl
def Zuj (d:Diner) (p:Int):Bool:=!d.Sides.any fun x=>decide (x.Peer=p)&&decide (x.State=0)
def Zvj (d:Drinker) (need:List Int):Drinker×Int:=if okDr d then (if d.Thirst=0 then (if need.any (Zuj d.Diner) then (Zsj,151) else (⟨d.Diner,1,setL need⟩,0)) else (Zsj,152)) else (Zsj,150)
def Zwj (d:Drinker):Drinker×Int:=if okDr d then (if d.Thirst=0 then (Zsj,152) else (⟨d.Diner,0,[]⟩,0)) else (Zsj,150)
theorem Zxj {d:Drinker} (h:okDr d=true):okD d.Diner=true:=by unfold okDr at h;rw [Bool.and_eq_true] at h;exact h.1
theorem s_drOpen (d:Drinker) (need:List Int) (hn:d.Need.length≤1000000) (hm:need.length≤1000000):Zgj d need=some (Zvj d need):=by
 simp only [Zgj,Ztj d hn,Option.bind_some]
 unfold Zvj
 cases hk:okDr d with
 | false=>rfl
 | true=>
   have hl:=Zya (Zxj hk)
   rw [if_pos rfl,show decide ((0:Int)=0)=true from rfl,Bool.not_true,Z36,if_pos rfl]
   by_cases h1:d.Thirst=0
   ·rw [decide_eq_true h1,Bool.not_true,Z36,if_pos h1,Zi7 need (fun z=>Zdj z d) (Zuj d.Diner) (by omega) (fun p _=>by
     simp only [Zdj]
     rw [Z4j d.Diner.Sides (fun z=>Zbj z p) (fun x=>decide (x.Peer=p)&&decide (x.State=0)) (by omega) (fun x _=>by
      simp only [Zbj,Zaj]
      cases decide (x.Peer=p)<;>rfl),Option.bind_some]
     rfl),Option.bind_some]
    cases need.any (Zuj d.Diner) with
    | true=>rfl
    | false=>
      rw [Z36,if_neg (by simp)]
      dsimp only [Zfj]
      rw [show decide ((0:Int)=0)=true from rfl,Bool.not_true,Z36,s_drOwn d (by omega) hn,Option.bind_some,s_setL need hm,Option.bind_some]
   ·rw [decide_eq_false h1,Bool.not_false,Z26,if_neg h1];rfl
theorem s_drClose (d:Drinker) (hn:d.Need.length≤1000000):Zhj d=some (Zwj d):=by
 simp only [Zhj,Ztj d hn,Option.bind_some]
 unfold Zwj
 cases hk:okDr d with
 | false=>rfl
 | true=>
   have hl:=Zya (Zxj hk)
   rw [if_pos rfl,show decide ((0:Int)=0)=true from rfl,Bool.not_true,Z36,if_pos rfl]
   by_cases h1:d.Thirst=0
   ·rw [decide_eq_true h1,Z26,if_pos h1];rfl
   ·rw [decide_eq_false h1,Z36,if_neg h1,s_drOwn d (by omega) hn,Option.bind_some]
def viaD (d:Drinker) (peer:Int) (m:Msg):Drinker×Int:=if (getD' d.Diner peer m).2=0 then (⟨(getD' d.Diner peer m).1,d.Thirst,d.Need⟩,0) else (Zsj,(getD' d.Diner peer m).2)
def Zyj (d:Drinker) (peer:Int) (m:Msg):Drinker×Int:=
 if okDr d then match d.Diner.Sides.findIdx? (fun x=>decide (x.Peer=peer)&&decide (x.Epoch=m.Epoch)) with
  | none=>viaD d peer m
  | some i=>match d.Diner.Sides[i]? with
    | none=>viaD d peer m
    | some x=>if decide (m.Num=0)&&(decide (m.Kind=3)||decide (m.Kind=4)) then
       (if m.Kind=4 then (if x.Ask then (Zsj,132) else (⟨⟨d.Diner.ID,d.Diner.Phase,d.Diner.Sides.set i {x with Ask:=true}⟩,d.Thirst,d.Need⟩,0))
       else (if x.Bottle then (Zsj,132) else (⟨⟨d.Diner.ID,d.Diner.Phase,d.Diner.Sides.set i {x with Bottle:=true}⟩,d.Thirst,d.Need⟩,0)))
      else viaD d peer m
 else (Zsj,150)
theorem s_drGet (d:Drinker) (peer:Int) (m:Msg) (hn:d.Need.length≤1000000):Znj d peer m=some (Zyj d peer m):=by
 simp only [Znj,Ztj d hn,Option.bind_some]
 unfold Zyj
 cases hk:okDr d with
 | false=>rfl
 | true=>
   have hl:=Zya (Zxj hk)
   have hown:Zkj d=some (d.Diner.Sides,d.Need):=by
    simp only [Zkj,Zxa _ (show d.Diner.Sides.length≤1000000 by omega),Zpj _ hn,Option.bind_some]
   have hvia:Zmj d peer m (d.Diner.Sides,d.Need) (plc (d.Diner.Sides.findIdx? (fun x=>decide (x.Peer=peer)&&decide (x.Epoch=m.Epoch)))) true=some (viaD d peer m):=by
    dsimp only [Zmj]
    rw [Z26,s_Get,Option.bind_some]
    unfold viaD
    by_cases h0:(getD' d.Diner peer m).2=0
    ·rw [show (⟨d.Diner.ID,d.Diner.Phase,d.Diner.Sides⟩:Diner)=d.Diner from rfl,decide_eq_true h0,if_pos h0];rfl
    ·rw [show (⟨d.Diner.ID,d.Diner.Phase,d.Diner.Sides⟩:Diner)=d.Diner from rfl,decide_eq_false h0,if_neg h0];rfl
   rw [if_pos rfl,show decide ((0:Int)=0)=true from rfl,Bool.not_true,Z36,if_pos rfl,hown,Option.bind_some]
   dsimp only
   rw [Zg7 d.Diner.Sides (fun z=>Zjj z peer m) (fun x=>decide (x.Peer=peer)&&decide (x.Epoch=m.Epoch)) (by omega) (fun x _=>by
    simp only [Zjj,Zij]
    cases decide (x.Peer=peer)<;>rfl),Option.bind_some,plc_neg]
   have hfi:=Z48 (fun x:Side=>decide (x.Peer=peer)&&decide (x.Epoch=m.Epoch)) d.Diner.Sides
   cases hf:d.Diner.Sides.findIdx? (fun x=>decide (x.Peer=peer)&&decide (x.Epoch=m.Epoch)) with
   | none=>rw [hf] at hvia;exact hvia
   | some i=>
     rw [hf] at hfi hvia
     obtain ⟨x,hx,_⟩:=hfi
     dsimp only
     rw [hx]
     dsimp only
     rw [Option.isNone_some,Z36]
     by_cases n0:m.Num=0
     ·rw [decide_eq_true n0,Bool.not_true,Z36,Bool.true_and]
      have main:(m.Kind=3∨m.Kind=4)→Zmj d peer m (d.Diner.Sides,d.Need) (plc (some i)) false=some (if m.Kind=4 then (if x.Ask then (Zsj,132) else (⟨⟨d.Diner.ID,d.Diner.Phase,d.Diner.Sides.set i {x with Ask:=true}⟩,d.Thirst,d.Need⟩,0))
       else (if x.Bottle then (Zsj,132) else (⟨⟨d.Diner.ID,d.Diner.Phase,d.Diner.Sides.set i {x with Bottle:=true}⟩,d.Thirst,d.Need⟩,0))):=fun _=>by
       dsimp only [Zmj,plc]
       rw [Z36,Z66 hx,Option.bind_some,Int.toNat_natCast]
       by_cases k4:m.Kind=4
       ·rw [decide_eq_true k4,Z26,if_pos k4]
        cases x.Ask<;>rfl
       ·rw [decide_eq_false k4,Z36,if_neg k4]
        cases x.Bottle<;>rfl
      by_cases k3:m.Kind=3
      ·rw [decide_eq_true k3,Bool.not_true,Z36,Bool.true_or,if_pos rfl]
       exact main (.inl k3)
      ·rw [decide_eq_false k3,Bool.not_false,Z26,Bool.false_or]
       by_cases k4:m.Kind=4
       ·rw [decide_eq_true k4,if_pos rfl]
        exact main (.inr k4)
       ·rw [decide_eq_false k4,if_neg (by simp)]
        exact hvia
     ·rw [decide_eq_false n0,Bool.not_false,Z26,Bool.false_and,if_neg (by simp)]
      exact hvia
set_option maxRecDepth 100000
set_option maxHeartbeats 4000000
@[go_sem] def e76:EC:=.seq (.reg [(Qx 2 63 5 0),(Qa 3 (.alloc 63 [.iv 0,.iv 0,.nl,.iv 0,.nl])),(Qi 4 0)]) (.seq (.reg [(Qe 5 5 2),(Ql 6 1),(Qa 7 (.call 77 [(.t 5),(.t 6)])),(Qa 8 (.ext (.t 7) 0)),(Qa 9 (.ext (.t 7) 1)),(Qs 5 3 8),(Qm 4 9)]) (.ret))
theorem ok76:FnOK Tryz.prog 76 Tryz.f76 e76 [.c 3 (some 5),.t 4] 2 8:=⟨by kernel_rfl,⟨_,rfl,by kernel_rfl⟩,by kernel_rfl,by kernel_rfl⟩
noncomputable def Zzj (x1:Drinker) (x2:(List Int)):Option (Drinker×Int):=
 (Zgj x1 x2).bind fun x3=>
 some (x3.1,x3.2)
theorem k_bar_Open_1 (x1:Drinker) (x2:(List Int)) (r:(Drinker×Int)) (h:Zzj x1 x2=some r):Zu2 Tryz.prog 76 [.agg (Drinker.row x1),.elt ((Z35 1 Z15) x2) 0] (.tup [.agg (Drinker.row r.1),.iv r.2]):=by
 refine Zy2 ok76 rfl rfl fun w0 H0=>?_
 rw [Zzj] at h
 refine Zo2 10 ?_;dsimp only [go_sem];refine An ?_;obtain ⟨x3,ex3,h⟩:=Bs h;refine Z33 trivial (k_drink_Open x1 x2 _ ex3) (h:=?_);refine Zo2 5 ?_;dsimp only [go_sem];refine An ?_;exact Zv4 (res:=fun (r:(Drinker×Int))=>.tup [.agg (Drinker.row r.1),.iv r.2]) ok76 h
set_option maxRecDepth 100000
set_option maxHeartbeats 4000000
@[go_sem] def e57:EC:=.seq (.reg [(Qx 1 63 5 0),(Qa 2 (.mv (.c .ff)))]) (.seq (.reg [(Qe 3 5 1),(Qa 4 (.call 58 [(.t 3)])),(Qa 5 (.bin .neq (.t 4) (.c (.iv 0)))),(Qm 2 5)]) (.ret))
theorem ok57:FnOK Tryz.prog 57 Tryz.f57 e57 [.t 2] 1 5:=⟨by kernel_rfl,⟨_,rfl,by kernel_rfl⟩,by kernel_rfl,by kernel_rfl⟩
noncomputable def Z0k (x1:Drinker):Option Bool:=
 (Zch x1).bind fun x2=>
 some (!decide (x2=0))
theorem k_bar_Check_1 (x1:Drinker) (r:Bool) (h:Z0k x1=some r):Zu2 Tryz.prog 57 [.agg (Drinker.row x1)] (.bv r):=by
 refine Zy2 ok57 rfl rfl fun w0 H0=>?_
 rw [Z0k] at h
 refine Zo2 8 ?_;dsimp only [go_sem];refine An ?_;obtain ⟨x2,ex2,h⟩:=Bs h;refine Z33 trivial (Zdh x1 _ ex2) (h:=?_);refine Zo2 3 ?_;dsimp only [go_sem];refine An ?_;exact Zv4 (res:=fun (r:Bool)=>.bv r) ok57 h
set_option maxRecDepth 100000
set_option maxHeartbeats 4000000
@[go_sem] def e71:EC:=.seq (.reg [(Qa 2 (.mv (.c .nl)))]) (.seq (.seq (.reg [(Qm 3 0),(Qa 4 (.isnil false (.t 3)))]) (.ite (.t 4) (.seq (.reg [(Qa 2 (.mv (.c .nl)))]) (.ret)) (.skip))) (.seq (.reg [(Qa 5 (.bsl 95 5 0 [.iv 0,.iv 0,.iv 0,.iv 0,.iv 0] [])),(Qm 6 0),(Qa 7 (.app 95 5 40 (.t 5) (.t 6))),(Qm 2 7)]) (.ret)))
theorem ok71:FnOK Tryz.prog 71 Tryz.f71 e71 [.t 2] 1 7:=⟨by kernel_rfl,⟨_,rfl,by kernel_rfl⟩,by kernel_rfl,by kernel_rfl⟩
noncomputable def Z1k (x1:(List Mail)):Option (List Mail):=Ze4 40 [] x1
theorem Z2k (x1:(List Mail)) (r:(List Mail)) (h:Z1k x1=some r):FunO Tryz.prog 71 [.sl 5 (List.map Mail.row x1)] 95 5 (List.map Mail.row r):=by
 refine Z95 ok71 rfl fun w0 H0=>?_
 rw [Z1k] at h
 refine Zo2 100 ?_
 dsimp only [e71,go_sem]
 refine ⟨by simp,?_⟩
 refine V_isnil trivial rfl (fun hn=>?_) ?_
 ·refine Zo2 100 ?_
  dsimp only [go_sem]
  refine ⟨by simp,?_⟩
  refine Z74 2 95 5 rfl rfl ?_
  dsimp only [go_sem]
  have hn:x1=[]:=by simpa using hn
  subst hn
  exact Ze5 Mail.row (e:=[]) ok71 (by simpa [Ze4] using h) rfl rfl
 ·refine Zo2 100 ?_
  dsimp only [go_sem]
  refine ⟨by simp,?_⟩
  refine Zs4 Mail.row h trivial rfl rfl rfl ?_
  refine Zo2 100 ?_
  dsimp only [go_sem]
  refine ⟨by simp,?_⟩
  exact Ze5 Mail.row ok71 (rfl:some r=some r) rfl rfl
set_option maxRecDepth 100000
set_option maxHeartbeats 4000000
@[go_sem] def e26_L0:EC:=.seq (.reg [(Qa 15 (.bin .lss (.t 14) (.t 13)))]) (.seq (.ite (.t 15) (.skip) (.exit 0)) (.seq (.blk 1 (.seq (.reg [(Qk 16 5 12 14),(Qe 17 5 16),(Qa 5 (.alloc 63 [.iv 0,.iv 0,.nl,.iv 0,.nl])),(Qs 5 5 17)]) (.seq (.reg [(Qf 18 0 5),(Qe 19 3 18),(Qa 6 (.alloc 61 [.iv 0,.iv 0,.nl])),(Qs 3 6 19)]) (.seq (.reg [(Qf 20 2 6),(Ql 21 20),(Qa 22 (.call 72 [(.t 21)])),(Qf 23 2 6),(Qs 1 23 22)]) (.reg [(Qf 24 0 3),(Ql 25 24),(Qe 26 3 6),(Qa 27 (.bsl 61 3 1 [.iv 0,.iv 0,.nl] [(0,(.t 26))])),(Qa 28 (.app 61 3 40 (.t 25) (.t 27))),(Qf 29 0 3),(Qs 1 29 28)]))))) (.reg [(Qv 30 14 1),(Qm 14 30)])))
@[go_sem] def e26:EC:=.seq (.reg [(Qx 1 25 2 0),(Qa 2 (.alloc 48 [.nl,.nl]))]) (.seq (.reg [(Qf 7 1 1),(Ql 8 7),(Qa 9 (.call 71 [(.t 8)])),(Qa 10 (.build [.nl,.nl] [(1,1,(.t 9))])),(Qa 3 (.alloc 48 [.nl,.nl])),(Qs 2 3 10)]) (.seq (.seq (.reg [(Qf 11 0 1),(Ql 12 11),(Qa 13 (.len (.t 12))),(Qi 14 0)]) (.blk 0 (.loop e26_L0))) (.seq (.reg [(Qe 31 2 3),(Qs 2 2 31)]) (.ret))))
theorem ok26:FnOK Tryz.prog 26 Tryz.f26 e26 [.c 2 (some 2)] 1 31:=⟨by kernel_rfl,⟨_,rfl,by kernel_rfl⟩,by kernel_rfl,by kernel_rfl⟩
noncomputable def Z3k (x2:(List Mail)):(List Diner)→Option Scene
| x20=>
 some (Scene.mk x20 x2)
noncomputable def Z4k (x1:Bar) (x2:(List Mail)):(Int×(List Diner))→Option ((Int×(List Diner)) ⊕ Scene)
| (x8,x9)=>
 ifb (decide (x8<(ln Drinker.row x1.Drinkers))) (
 (at_ x1.Drinkers x8).bind fun x10=>
 (Zma x10.Diner.Sides).bind fun x11=>
 (Ze4 40 x9 ([(Diner.mk x10.Diner.ID x10.Diner.Phase x11)])).bind fun x12=>
 some (.inl (wr (x8+1),x12))) (
 Option.map Sum.inr ((Z3k x2) x9))
noncomputable def Z5k (x1:Bar):Option Scene:=
 (Z1k x1.Mail).bind fun x2=>
 loop (Z4k x1 x2) (0,([]:List Diner))
theorem Z6k (x1:Bar) (r:Scene) (h:Z5k x1=some r):Zu2 Tryz.prog 26 [.agg (Bar.row x1)] (.agg (Scene.row r)):=by
 refine Zy2 ok26 rfl rfl fun w0 H0=>?_
 rw [Z5k] at h
 refine Zo2 9 ?_;dsimp only [go_sem];refine An ?_;obtain ⟨x2,ex2,h⟩:=Bs h;refine Za5 trivial (Z2k x1.Mail _ ex2) (h:=?_);refine Zo2 12 ?_;dsimp only [go_sem];refine An ?_;refine Zl4 (fun (x20:(List Diner))=>(⟨(.any :: .any :: .ptr 1 0 :: .ptr 2 0::an 28 []),[none,some ⟨48,[.nl,.nl]⟩,some ⟨48,[.osl 1,.osl 0]⟩],[some ⟨95,5,List.map Mail.row x2⟩,some ⟨61,3,List.map Diner.row x20⟩]⟩:St)) (Z3k x2) r ?_ fun J1=>?_
 ·intro x20 h;rw [Z3k] at h;(try dsimp only);refine Zo2 5 ?_;dsimp only [go_sem];refine An ?_;refine Zc3 1 rfl ?_;dsimp only [go_sem];refine Zc3 0 rfl ?_;dsimp only [go_sem];exact Zv4 (res:=fun (r:Scene)=>.agg (Scene.row r)) ok26 h
 ·refine Zo2 1 ?_;dsimp only [go_sem];refine An ?_;refine Z84 2 0 61 3 rfl rfl rfl ?_;dsimp only [go_sem];refine Zm4 h (fun ((x8,x9):(Int×(List Diner)))=>(⟨(.any :: .any :: .ptr 1 0 :: .ptr 2 0::an 8 (.sl 5 (List.map Drinker.row x1.Drinkers) :: .iv (ln Drinker.row x1.Drinkers) :: .iv x8::an 17 [])),[none,some ⟨48,[.nl,.nl]⟩,some ⟨48,[.osl 1,.osl 0]⟩],[some ⟨95,5,List.map Mail.row x2⟩,some ⟨61,3,List.map Diner.row x9⟩]⟩:St)) (by simp [go_sem]) (by rintro ⟨x8,x9⟩;first | rfl | simp [go_sem]) ?_;rintro n1 ⟨x8,x9⟩ y1 h hin1 hout1;rw [Z4k] at h
  (try dsimp only);refine Zo2 5 ?_;dsimp only [go_sem];refine An ?_;refine Zn4 h rfl (fun _ h=>?_) fun _ h=>?_
  ·refine Zo2 5 ?_;dsimp only [go_sem];refine An ?_;obtain ⟨x10,ex10,h⟩:=Bs h;refine Zq4 Drinker.row ex10 trivial rfl rfl rfl ?_;refine Zo2 15 ?_;dsimp only [go_sem];refine An ?_;obtain ⟨x11,ex11,h⟩:=Bs h;refine Za5 trivial (Zna x10.Diner.Sides _ ex11) (h:=?_);refine Zo2 7 ?_;dsimp only [go_sem];refine An ?_;refine Zc3 2 rfl ?_;dsimp only [go_sem];refine Zo2 1 ?_;dsimp only [go_sem];refine An ?_;obtain ⟨x12,ex12,h⟩:=Bs h;refine Zs4 Diner.row ex12 trivial rfl rfl rfl ?_;refine Zo2 8 ?_;dsimp only [go_sem];refine An ?_
   refine Z64 4 1 rfl rfl rfl ?_;dsimp only [go_sem];exact Zw4 h hin1
  ·refine Zo2 1 ?_;dsimp only [go_sem];refine An ?_;exact Zx4 J1 (s:=x9) (Zk4 h hout1)
set_option maxRecDepth 100000
set_option maxHeartbeats 4000000
@[go_sem] def e109_L0:EC:=.seq (.reg [(Qa 9 (.bin .lss (.t 8) (.t 7)))]) (.seq (.ite (.t 9) (.skip) (.exit 0)) (.seq (.blk 1 (.seq (.reg [(Qm 10 8),(Qm 5 10)]) (.seq (.reg [(Qm 11 1),(Qm 12 0),(Qm 13 5),(Qk 14 5 12 13),(Qe 15 5 14),(Qa 16 (.callv (.t 11) [(.t 15)]))]) (.ite (.t 16) (.seq (.reg [(Qm 17 5),(Qm 4 17)]) (.ret)) (.skip))))) (.reg [(Qv 18 8 1),(Qm 8 18)])))
@[go_sem] def e109:EC:=.seq (.reg [(Qi 4 0)]) (.seq (.seq (.reg [(Qm 6 0),(Qa 7 (.len (.t 6))),(Qi 8 0)]) (.blk 0 (.loop e109_L0))) (.seq (.reg [(Qa 4 (.mv (.c (.iv (-1)))))]) (.ret)))
theorem ok109:FnOK Tryz.prog 109 Tryz.f109 e109 [.t 4] 2 17:=⟨by kernel_rfl,⟨_,rfl,by kernel_rfl⟩,by kernel_rfl,by kernel_rfl⟩
noncomputable def Z7k:Unit→Option Int
| ()=>
 some (-1)
noncomputable def Z8k (x1:(List Drinker)) (p1:(Drinker→Option Bool)):Int→Option (Int ⊕ Int)
| x5=>
 ifb (decide (x5<(ln Drinker.row x1))) (
 (at_ x1 x5).bind fun x6=>
 (p1 x6).bind fun x7=>
 ifb x7 (
 Option.map Sum.inr (some x5)) (
 some (.inl (wr (x5+1))))) (
 Option.map Sum.inr (Z7k ()))
noncomputable def Z9k (x1:(List Drinker)) (p1:(Drinker→Option Bool)):Option Int:=
 loop (Z8k x1 p1) 0
theorem Zak (x1:(List Drinker)) (g1:Nat) (caps1:List AV) (p1:(Drinker→Option Bool)) (hc1:CloOK Tryz.prog g1 caps1 (fun z=>[.agg (Drinker.row z)]) p1 (fun z=>.bv z)) (r:Int) (h:Z9k x1 p1=some r):Zu2 Tryz.prog 109 [.sl 5 (List.map Drinker.row x1),.clo g1 caps1] (.iv r):=by
 refine Zy2 ok109 rfl rfl fun w0 H0=>?_
 rw [Z9k] at h
 refine Zo2 11 ?_;dsimp only [go_sem];refine An ?_;refine Zl4 (fun (_:Unit)=>(⟨(an 19 []),[],[]⟩:St)) Z7k r ?_ fun J1=>?_
 ·rintro ⟨⟩ h;rw [Z7k] at h;(try dsimp only);refine Zo2 4 ?_;dsimp only [go_sem];refine An ?_;exact Zv4 (res:=fun (r:Int)=>.iv r) ok109 h
 ·refine Zo2 1 ?_;dsimp only [go_sem];refine An ?_;refine Zm4 h (fun (x5:Int)=>(⟨(.sl 5 (List.map Drinker.row x1) :: .clo g1 caps1::an 5 (.iv (ln Drinker.row x1) :: .iv x5::an 10 [])),[],[]⟩:St)) (by simp [go_sem]) (by intro x5;first | rfl | simp [go_sem,Zc4 _ hc1.pu]) ?_;rintro n1 x5 y1 h hin1 hout1;rw [Z8k] at h;(try dsimp only);refine Zo2 5 ?_;dsimp only [go_sem];refine An ?_;refine Zn4 h rfl (fun _ h=>?_) fun _ h=>?_
  ·refine Zo2 13 ?_;dsimp only [go_sem];refine An ?_;obtain ⟨x6,ex6,h⟩:=Bs h;refine Zq4 Drinker.row ex6 trivial rfl rfl rfl ?_;refine Zo2 1 ?_;dsimp only [go_sem];refine An ?_;obtain ⟨x7,ex7,h⟩:=Bs h;refine Z05 trivial rfl hc1 (x:=x6) ex7 (by first | exact Zd4 _ | simp [go_sem]) (by first | rfl | simp [go_sem,hc1.pu]) ?_;refine Zo2 1 ?_;dsimp only [go_sem];refine An ?_;refine Zn4 h rfl (fun _ h=>?_) fun _ h=>?_
   ·refine Zo2 5 ?_;dsimp only [go_sem];refine An ?_;exact Zv4 (res:=fun (r:Int)=>.iv r) ok109 (Zk4 h hout1)
   ·refine Zo2 6 ?_;dsimp only [go_sem];refine An ?_;exact Zw4 h hin1 (hok:=by first | rfl | simp [go_sem,Zc4 _ hc1.pu])
  ·refine Zo2 1 ?_;dsimp only [go_sem];refine An ?_;exact Zx4 J1 (s:=()) (Zk4 h hout1) (hok:=by first | rfl | simp [go_sem,Zc4 _ hc1.pu])
set_option maxRecDepth 100000
set_option maxHeartbeats 4000000
@[go_sem] def e60:EC:=.seq (.reg [(Qa 4 (.mv (.c .ff)))]) (.seq (.reg [(Qm 5 0),(Qm 6 1),(Qa 7 (.call 109 [(.t 5),(.t 6)])),(Qa 8 (.bin .geq (.t 7) (.c (.iv 0)))),(Qm 4 8)]) (.ret))
theorem ok60:FnOK Tryz.prog 60 Tryz.f60 e60 [.t 4] 2 7:=⟨by kernel_rfl,⟨_,rfl,by kernel_rfl⟩,by kernel_rfl,by kernel_rfl⟩
noncomputable def Zbk (x1:(List Drinker)) (p1:(Drinker→Option Bool)):Option Bool:=
 (Z9k x1 p1).bind fun x2=>
 some (decide (0≤x2))
theorem Zck (x1:(List Drinker)) (g1:Nat) (caps1:List AV) (p1:(Drinker→Option Bool)) (hc1:CloOK Tryz.prog g1 caps1 (fun z=>[.agg (Drinker.row z)]) p1 (fun z=>.bv z)) (r:Bool) (h:Zbk x1 p1=some r):Zu2 Tryz.prog 60 [.sl 5 (List.map Drinker.row x1),.clo g1 caps1] (.bv r):=by
 refine Zy2 ok60 rfl rfl fun w0 H0=>?_
 rw [Zbk] at h
 refine Zo2 8 ?_;dsimp only [go_sem];refine An ?_;obtain ⟨x2,ex2,h⟩:=Bs h;refine Z33 trivial (Zak x1 _ _ p1 hc1 _ ex2) (hp:=(by first | rfl | simp [go_sem,hc1.pu])) (h:=?_);refine Zo2 3 ?_;dsimp only [go_sem];refine An ?_;exact Zv4 (res:=fun (r:Bool)=>.bv r) ok60 h
set_option maxRecDepth 100000
set_option maxHeartbeats 4000000
@[go_sem] def e17:EC:=.seq (.reg [(Qx 1 25 2 0),(Qi 2 0)]) (.seq (.reg [(Qa 3 (.mv (.c (.clo 57 []))))]) (.seq (.seq (.reg [(Qe 4 2 1),(Qa 5 (.call 26 [(.t 4)])),(Qa 6 (.call 59 [(.t 5)])),(Qa 7 (.bin .neq (.t 6) (.c (.iv 0)))),(Qm 8 7),(Qh 9 8 false 0 1),(Qn 10 8 false 9),(Qg 11 8 false (.mv (.t 3))),(Qg 12 8 false (.call 60 [(.t 10),(.t 11)])),(Qq 13 8 12)]) (.ite (.t 13) (.seq (.reg [(Qi 2 160)]) (.ret)) (.skip))) (.seq (.reg [(Qi 2 0)]) (.ret))))
theorem ok17:FnOK Tryz.prog 17 Tryz.f17 e17 [.t 2] 1 13:=⟨by kernel_rfl,⟨_,rfl,by kernel_rfl⟩,by kernel_rfl,by kernel_rfl⟩
noncomputable def Zdk:Bool→Option Int
| x5=>
 ifb x5 (
 some 160) (
 some 0)
noncomputable def Zek (x1:Bar):Option Int:=
 (Z5k x1).bind fun x2=>
 (Z8c x2).bind fun x3=>
 ifb (!decide (x3=0)) (
 Zdk true) (
 (Zbk x1.Drinkers ((fun z=>Z0k z))).bind fun x4=>
 Zdk x4)
theorem Zfk (x1:Bar) (r:Int) (h:Zek x1=some r):Zu2 Tryz.prog 17 [.agg (Bar.row x1)] (.iv r):=by
 refine Zy2 ok17 rfl rfl fun w0 H0=>?_
 rw [Zek] at h
 refine Zo2 13 ?_;dsimp only [go_sem];refine An ?_;obtain ⟨x2,ex2,h⟩:=Bs h;refine Z33 trivial (Z6k x1 _ ex2) (h:=?_);obtain ⟨x3,ex3,h⟩:=Bs h;refine Z33 trivial (k_table_Check x2 _ ex3) (h:=?_);refine Zo2 2 ?_;dsimp only [go_sem];refine An ?_;refine Zl4 (fun (x5:Bool)=>(⟨(an 13 [.bv x5]),[],[]⟩:St)) Zdk r ?_ fun J1=>?_
 ·intro x5 h;rw [Zdk] at h;(try dsimp only);refine Zn4 h rfl (fun _ h=>?_) fun _ h=>?_
  ·refine Zo2 4 ?_;dsimp only [go_sem];refine An ?_;exact Zv4 (res:=fun (r:Int)=>.iv r) ok17 h
  ·refine Zo2 5 ?_;dsimp only [go_sem];refine An ?_;exact Zv4 (res:=fun (r:Int)=>.iv r) ok17 h
 ·refine Zu4 8 h rfl (fun _ h=>?_) fun _ h=>?_
  ·dsimp only [go_sem];refine Zo2 6 ?_;dsimp only [go_sem];refine An ?_;exact Zx4 J1 (s:=true) h
  ·dsimp only [go_sem];refine Zo2 3 ?_;dsimp only [go_sem];refine An ?_;obtain ⟨x4,ex4,h⟩:=Bs h;refine Z33 trivial (Zck x1.Drinkers _ _ ((fun z=>Z0k z)) ⟨by kernel_rfl,rfl,fun z r hz=>k_bar_Check_1 z r hz⟩ _ ex4) (h:=?_);refine Zo2 2 ?_;dsimp only [go_sem];refine An ?_;exact Zx4 J1 (s:=x4) h
set_option maxRecDepth 100000
set_option maxHeartbeats 4000000
@[go_sem] def e64:EC:=.seq (.reg [(Qx 2 25 2 0),(Qa 4 (.mv (.c .ff)))]) (.seq (.reg [(Qm 5 1),(Qa 6 (.bin .geq (.t 5) (.c (.iv 0)))),(Qm 7 6),(Qg 8 7 true (.mv (.t 1))),(Qh 9 7 true 0 2),(Qn 10 7 true 9),(Qg 11 7 true (.len (.t 10))),(Qg 12 7 true (.bin .lss (.t 8) (.t 11))),(Qp 13 7 12),(Qm 4 13)]) (.ret))
theorem ok64:FnOK Tryz.prog 64 Tryz.f64 e64 [.t 4] 2 12:=⟨by kernel_rfl,⟨_,rfl,by kernel_rfl⟩,by kernel_rfl,by kernel_rfl⟩
noncomputable def Zgk:Bool→Option Bool
| x3=>
 some x3
noncomputable def Zhk (x1:Bar) (x2:Int):Option Bool:=
 ifb (decide (0≤x2)) (
 Zgk (decide (x2<(ln Drinker.row x1.Drinkers)))) (
 Zgk false)
theorem Zik (x1:Bar) (x2:Int) (r:Bool) (h:Zhk x1 x2=some r):Zu2 Tryz.prog 64 [.agg (Bar.row x1),.iv x2] (.bv r):=by
 refine Zy2 ok64 rfl rfl fun w0 H0=>?_
 rw [Zhk] at h
 refine Zo2 10 ?_;dsimp only [go_sem];refine An ?_;refine Zl4 (fun (x3:Bool)=>(⟨(an 4 (.bv x3::an 9 [])),[],[]⟩:St)) Zgk r ?_ fun J1=>?_
 ·intro x3 h;rw [Zgk] at h;(try dsimp only);exact Zv4 (res:=fun (r:Bool)=>.bv r) ok64 h
 ·refine Zu4 7 h rfl (fun _ h=>?_) fun _ h=>?_
  ·dsimp only [go_sem];refine Zo2 8 ?_;dsimp only [go_sem];refine An ?_;exact Zx4 J1 (s:=decide (x2<(ln Drinker.row x1.Drinkers))) h
  ·dsimp only [go_sem];refine Zo2 8 ?_;dsimp only [go_sem];refine An ?_;exact Zx4 J1 (s:=false) h
set_option maxRecDepth 100000
set_option maxHeartbeats 4000000
@[go_sem] def e89_L0:EC:=.seq (.reg [(Qa 48 (.bin .lss (.t 47) (.t 46)))]) (.seq (.ite (.t 48) (.skip) (.exit 0)) (.seq (.blk 1 (.seq (.reg [(Qm 49 47),(Qk 50 5 45 47),(Qe 51 5 50),(Qa 13 (.alloc 63 [.iv 0,.iv 0,.nl,.iv 0,.nl])),(Qm 12 49),(Qs 5 13 51)]) (.seq (.seq (.reg [(Qm 52 12),(Qm 53 1),(Qa 54 (.bin .eql (.t 52) (.t 53)))]) (.ite (.t 54) (.reg [(Qe 55 5 8),(Qs 5 13 55)]) (.skip))) (.seq (.drw [(Qf 56 0 13),(Qf 57 2 56),(Ql 58 57),(Qa 59 (.call 72 [(.t 58)])),(Qf 60 4 13),(Ql 61 60),(Qa 62 (.call 136 [(.t 61)])),(Qf 63 0 13),(Qf 64 2 63),(Qs 1 64 59),(Qf 65 4 13),(Qs 1 65 62)] [[],[0],[1],[2],[],[4],[5,3],[0,1,2,3,4,5],[7,0,1,2,3,4,5],[8,3,6,0,1,2,3,4,5],[0,1,2,3,4,5,6,7,8,9],[10,6,9,0,1,2,3,4,5,6,7,8,9]] [[1],[0,2],[1,3],[2,9],[5],[4,6],[5,11],[8],[7,9],[3,8],[11],[6,10]]) (.reg [(Qf 66 0 11),(Ql 67 66),(Qe 68 5 13),(Qa 69 (.bsl 63 5 1 [.iv 0,.iv 0,.nl,.iv 0,.nl] [(0,(.t 68))])),(Qa 70 (.app 63 5 72 (.t 67) (.t 69))),(Qf 71 0 11),(Qs 1 71 70)]))))) (.reg [(Qv 72 47 1),(Qm 47 72)])))
@[go_sem] def e89:EC:=.seq (.reg [(Qx 3 25 2 0),(Qa 6 (.alloc 25 [.nl,.nl])),(Qi 7 0)]) (.seq (.reg [(Qm 15 2),(Qf 16 0 3),(Ql 17 16),(Qm 18 1),(Qk 19 5 17 18),(Qe 20 5 19),(Qa 21 (.callv (.t 15) [(.t 20)])),(Qm 14 21),(Qa 22 (.ext (.t 14) 0)),(Qa 23 (.ext (.t 14) 1)),(Qa 8 (.alloc 63 [.iv 0,.iv 0,.nl,.iv 0,.nl])),(Qs 5 8 22),(Qm 9 23)]) (.seq (.seq (.reg [(Qm 24 9),(Qa 25 (.bin .neq (.t 24) (.c (.iv 0))))]) (.ite (.t 25) (.seq (.reg [(Qa 26 (.build [.nl,.nl] [])),(Qm 27 9),(Qs 2 6 26),(Qm 7 27)]) (.ret)) (.skip))) (.seq (.reg [(Qe 29 5 8),(Qa 30 (.call 135 [(.t 29)])),(Qm 28 30),(Qa 31 (.ext (.t 28) 0)),(Qa 32 (.ext (.t 28) 1)),(Qa 33 (.ext (.t 28) 2)),(Qs 5 8 31),(Qm 10 32),(Qm 9 33)]) (.seq (.seq (.reg [(Qm 34 9),(Qa 35 (.bin .neq (.t 34) (.c (.iv 0))))]) (.ite (.t 35) (.seq (.reg [(Qa 36 (.build [.nl,.nl] [])),(Qm 37 9),(Qs 2 6 36),(Qm 7 37)]) (.ret)) (.skip))) (.seq (.reg [(Qf 38 1 3),(Ql 39 38),(Qm 40 10),(Qa 41 (.bsl 23 1 2 [.nl] [(0,(.t 39)),(1,(.t 40))])),(Qa 42 (.call 88 [(.t 41)])),(Qa 43 (.build [.nl,.nl] [(1,1,(.t 42))])),(Qa 11 (.alloc 25 [.nl,.nl])),(Qs 2 11 43)]) (.seq (.seq (.reg [(Qf 44 0 3),(Ql 45 44),(Qa 46 (.len (.t 45))),(Qi 47 0)]) (.blk 0 (.loop e89_L0))) (.seq (.reg [(Qe 73 2 11),(Qs 2 6 73),(Qi 7 0)]) (.ret))))))))
theorem ok89:FnOK Tryz.prog 89 Tryz.f89 e89 [.c 6 (some 2),.t 7] 3 71:=⟨by kernel_rfl,⟨_,rfl,by kernel_rfl⟩,by kernel_rfl,by kernel_rfl⟩
noncomputable def Zjk (x6:(List Mail)):(List Drinker)→Option (Bar×Int)
| x30=>
 some ((Bar.mk x30 x6),0)
noncomputable def Zkk (x14:Int) (x15:(List Drinker)):Drinker→Option ((Int×(List Drinker)) ⊕ (Bar×Int))
| x17=>
 (Zma x17.Diner.Sides).bind fun x18=>
 (Za9 x17.Need).bind fun x19=>
 (Ze4 72 x15 ([(Drinker.mk ((Diner.mk x17.Diner.ID x17.Diner.Phase x18)) x17.Thirst x19)])).bind fun x20=>
 some (.inl (wr (x14+1),x20))
noncomputable def Zlk (x1:Bar) (x2:Int) (x5:(Drinker×(List Mail)×Int)) (x6:(List Mail)):(Int×(List Drinker))→Option ((Int×(List Drinker)) ⊕ (Bar×Int))
| (x14,x15)=>
 ifb (decide (x14<(ln Drinker.row x1.Drinkers))) (
 (at_ x1.Drinkers x14).bind fun x16=>
 ifb (decide (x14=x2)) (
 (Zkk x14 x15) x5.1) (
 (Zkk x14 x15) x16)) (
 Option.map Sum.inr ((Zjk x6) x15))
noncomputable def Zmk (x1:Bar) (x2:Int) (p2:(Drinker→Option (Drinker×Int))):Option (Bar×Int):=
 (at_ x1.Drinkers x2).bind fun x3=>
 (p2 x3).bind fun x4=>
 ifb (!decide (x4.2=0)) (
 some ((Bar.mk (([]:(List Drinker))) (([]:(List Mail)))),x4.2)) (
 (Zri x4.1).bind fun x5=>
 ifb (!decide (x5.2.2=0)) (
 some ((Bar.mk (([]:(List Drinker))) (([]:(List Mail)))),x5.2.2)) (
 (Zic ([x1.Mail,x5.2.1])).bind fun x6=>
 loop (Zlk x1 x2 x5 x6) (0,([]:List Drinker))))
theorem k_bar_act (x1:Bar) (x2:Int) (g2:Nat) (caps2:List AV) (p2:(Drinker→Option (Drinker×Int))) (hc2:CloOK Tryz.prog g2 caps2 (fun z=>[.agg (Drinker.row z)]) p2 (fun z=>.tup [.agg (Drinker.row z.1),.iv z.2])) (r:(Bar×Int)) (h:Zmk x1 x2 p2=some r):Zu2 Tryz.prog 89 [.agg (Bar.row x1),.iv x2,.clo g2 caps2] (.tup [.agg (Bar.row r.1),.iv r.2]):=by
 refine Zy2 ok89 rfl rfl fun w0 H0=>?_
 rw [Zmk] at h
 refine Zo2 12 ?_;dsimp only [go_sem];refine An ?_;obtain ⟨x3,ex3,h⟩:=Bs h;refine Zq4 Drinker.row ex3 trivial rfl rfl rfl ?_;refine Zo2 1 ?_;dsimp only [go_sem];refine An ?_;obtain ⟨x4,ex4,h⟩:=Bs h;refine Z05 trivial rfl hc2 (x:=x3) ex4 (by first | exact Zd4 _ | simp [go_sem]) (by first | rfl | simp [go_sem,hc2.pu]) ?_;refine Zo2 13 ?_;dsimp only [go_sem];refine An ?_;refine Zn4 h rfl (fun _ h=>?_) fun _ h=>?_
 ·refine Zo2 7 ?_;dsimp only [go_sem];refine An ?_;exact Zv4 (res:=fun (r:(Bar×Int))=>.tup [.agg (Bar.row r.1),.iv r.2]) ok89 h
 ·refine Zo2 4 ?_;dsimp only [go_sem];refine An ?_;obtain ⟨x5,ex5,h⟩:=Bs h;refine Z33 trivial (k_drink_Fire x4.1 _ ex5) (hp:=(by first | rfl | simp [go_sem,hc2.pu])) (h:=?_);refine Zo2 14 ?_;dsimp only [go_sem];refine An ?_;refine Zn4 h rfl (fun _ h=>?_) fun _ h=>?_
  ·refine Zo2 7 ?_;dsimp only [go_sem];refine An ?_;exact Zv4 (res:=fun (r:(Bar×Int))=>.tup [.agg (Bar.row r.1),.iv r.2]) ok89 h
  ·refine Zo2 7 ?_;dsimp only [go_sem];refine An ?_;refine Zc3 0 rfl ?_;dsimp only [go_sem];obtain ⟨x6,ex6,h⟩:=Bs h;refine Za5 trivial (Zjc ([x1.Mail,x5.2.1]) _ ex6) (hp:=(by first | rfl | simp [go_sem,hc2.pu])) (h:=?_);refine Zo2 12 ?_;dsimp only [go_sem];refine An ?_
   refine Zl4 (fun (x30:(List Drinker))=>(⟨(an 6 (.ptr 1 0::an 4 (.ptr 3 0::an 62 []))),[none,some ⟨25,[.nl,.nl]⟩,none,some ⟨25,[.osl 2,.osl 1]⟩],[none,some ⟨95,5,List.map Mail.row x6⟩,some ⟨63,5,List.map Drinker.row x30⟩]⟩:St)) (Zjk x6) r ?_ fun J1=>?_
   ·intro x30 h;rw [Zjk] at h;(try dsimp only);refine Zo2 6 ?_;dsimp only [go_sem];refine An ?_;refine Zc3 2 rfl ?_;dsimp only [go_sem];refine Zc3 1 rfl ?_;dsimp only [go_sem];exact Zv4 (res:=fun (r:(Bar×Int))=>.tup [.agg (Bar.row r.1),.iv r.2]) ok89 h
   ·refine Zo2 1 ?_;dsimp only [go_sem];refine An ?_;refine Z84 3 0 63 5 rfl rfl rfl ?_;dsimp only [go_sem]
    refine Zm4 h (fun ((x14,x15):(Int×(List Drinker)))=>(⟨(.any :: .iv x2::an 4 (.ptr 1 0 :: .any :: .ptr 2 0 :: .any :: .any :: .ptr 3 0::an 33 (.sl 5 (List.map Drinker.row x1.Drinkers) :: .iv (ln Drinker.row x1.Drinkers) :: .iv x14::an 26 []))),[none,some ⟨25,[.nl,.nl]⟩,some ⟨63,[.iv x5.1.Diner.ID,.iv x5.1.Diner.Phase,.sl 8 (List.map Side.row x5.1.Diner.Sides),.iv x5.1.Thirst,.sl 1 (List.map Z15 x5.1.Need)]⟩,some ⟨25,[.osl 2,.osl 1]⟩],[none,some ⟨95,5,List.map Mail.row x6⟩,some ⟨63,5,List.map Drinker.row x15⟩]⟩:St)) (by simp [go_sem]) (by rintro ⟨x14,x15⟩;first | rfl | simp [go_sem,Zc4 _ hc2.pu]) ?_
    rintro n1 ⟨x14,x15⟩ y1 h hin1 hout1;rw [Zlk] at h;(try dsimp only);refine Zo2 5 ?_;dsimp only [go_sem];refine An ?_;refine Zn4 h rfl (fun _ h=>?_) fun _ h=>?_
    ·refine Zo2 6 ?_;dsimp only [go_sem];refine An ?_;obtain ⟨x16,ex16,h⟩:=Bs h;refine Zq4 Drinker.row ex16 trivial rfl rfl rfl ?_;refine Zo2 12 ?_;dsimp only [go_sem];refine An ?_
     refine Zl4 (fun (x17:Drinker)=>(⟨(.any :: .iv x2::an 4 (.ptr 1 0 :: .any :: .ptr 2 0 :: .any :: .any :: .ptr 3 0 :: .any :: .ptr 4 0::an 31 (.sl 5 (List.map Drinker.row x1.Drinkers) :: .iv (ln Drinker.row x1.Drinkers) :: .iv x14::an 26 []))),[none,some ⟨25,[.nl,.nl]⟩,some ⟨63,[.iv x5.1.Diner.ID,.iv x5.1.Diner.Phase,.sl 8 (List.map Side.row x5.1.Diner.Sides),.iv x5.1.Thirst,.sl 1 (List.map Z15 x5.1.Need)]⟩,some ⟨25,[.osl 2,.osl 1]⟩,some ⟨63,[.iv x17.Diner.ID,.iv x17.Diner.Phase,.sl 8 (List.map Side.row x17.Diner.Sides),.iv x17.Thirst,.sl 1 (List.map Z15 x17.Need)]⟩],[none,some ⟨95,5,List.map Mail.row x6⟩,some ⟨63,5,List.map Drinker.row x15⟩]⟩:St)) (Zkk x14 x15) y1 ?_ fun J2=>?_
     ·intro x17 h;rw [Zkk] at h;(try dsimp only);refine Zo2 1 ?_;dsimp only [go_sem];refine An ?_;refine Zk3 (by kernel_rfl) fun all hall hs hnap haf=>?_;dsimp only [go_sem];refine Zc5 hall hs haf hnap 5 7 ?_;dsimp only [go_sem];refine An ?_;refine Zv3 3 rfl ?_;obtain ⟨x18,ex18,h⟩:=Bs h;refine Zb5 hall rfl trivial (Zna x17.Diner.Sides _ ex18) (hp:=(by first | rfl | simp [go_sem,hc2.pu])) (h:=?_);dsimp only [go_sem];refine Zc5 hall hs haf hnap 2 4 ?_;dsimp only [go_sem];refine An ?_;refine Zv3 6 rfl ?_
      obtain ⟨x19,ex19,h⟩:=Bs h;refine Zb5 hall rfl trivial (Zb9 x17.Need _ ex19) (hp:=(by first | rfl | simp [go_sem,hc2.pu])) (h:=?_);dsimp only [go_sem];refine Zv3 9 rfl ?_;refine Z04 hall rfl trivial ?_;dsimp only [go_sem];refine Zc5 hall hs haf hnap 1 1 ?_;dsimp only [go_sem];refine An ?_;refine Zv3 11 rfl ?_;refine Z04 hall rfl trivial ?_;dsimp only [go_sem];refine Zu3 rfl ?_ _;refine Zo2 4 ?_;dsimp only [go_sem];refine An ?_;refine Zc3 3 rfl ?_;dsimp only [go_sem];refine Zc3 4 rfl ?_;dsimp only [go_sem]
      refine Zo2 1 ?_;dsimp only [go_sem];refine An ?_;obtain ⟨x20,ex20,h⟩:=Bs h;refine Zs4 Drinker.row ex20 trivial rfl rfl rfl ?_;refine Zo2 8 ?_;dsimp only [go_sem];refine An ?_;refine Z64 6 2 rfl rfl rfl ?_;dsimp only [go_sem];exact Zw4 h hin1 (hok:=by first | rfl | simp [go_sem,Zc4 _ hc2.pu])
     ·refine Zn4 h rfl (fun _ h=>?_) fun _ h=>?_
      ·refine Zo2 4 ?_;dsimp only [go_sem];refine An ?_;exact Zx4 J2 (s:=x5.1) h (hok:=by first | rfl | simp [go_sem,Zc4 _ hc2.pu])
      ·refine Zo2 1 ?_;dsimp only [go_sem];refine An ?_;exact Zx4 J2 (s:=x16) h (hok:=by first | rfl | simp [go_sem,Zc4 _ hc2.pu])
    ·refine Zo2 1 ?_;dsimp only [go_sem];refine An ?_;exact Zx4 J1 (s:=x15) (Zk4 h hout1) (hok:=by first | rfl | simp [go_sem,Zc4 _ hc2.pu])
set_option maxRecDepth 100000
set_option maxHeartbeats 4000000
@[go_sem] def e74:EC:=.seq (.reg [(Qx 3 25 2 0),(Qa 6 (.alloc 25 [.nl,.nl])),(Qi 7 0)]) (.seq (.seq (.reg [(Qe 9 2 3),(Qa 10 (.call 17 [(.t 9)])),(Qm 8 10)]) (.seq (.reg [(Qm 11 8),(Qa 12 (.bin .neq (.t 11) (.c (.iv 0))))]) (.ite (.t 12) (.seq (.reg [(Qa 13 (.build [.nl,.nl] [])),(Qm 14 8),(Qs 2 6 13),(Qm 7 14)]) (.ret)) (.skip)))) (.seq (.seq (.reg [(Qe 15 2 3),(Qm 16 1),(Qa 17 (.call 64 [(.t 15),(.t 16)])),(Qa 18 (.not (.t 17)))]) (.ite (.t 18) (.seq (.reg [(Qa 19 (.build [.nl,.nl] [])),(Qs 2 6 19),(Qi 7 161)]) (.ret)) (.skip))) (.seq (.reg [(Qe 20 2 3),(Qm 21 1),(Qm 22 2),(Qa 23 (.call 89 [(.t 20),(.t 21),(.t 22)])),(Qa 24 (.ext (.t 23) 0)),(Qa 25 (.ext (.t 23) 1)),(Qs 2 6 24),(Qm 7 25)]) (.ret))))
theorem ok74:FnOK Tryz.prog 74 Tryz.f74 e74 [.c 6 (some 2),.t 7] 3 23:=⟨by kernel_rfl,⟨_,rfl,by kernel_rfl⟩,by kernel_rfl,by kernel_rfl⟩
noncomputable def Znk (x1:Bar) (x2:Int) (p2:(Drinker→Option (Drinker×Int))):Option (Bar×Int):=
 (Zek x1).bind fun x3=>
 ifb (!decide (x3=0)) (
 some ((Bar.mk (([]:(List Drinker))) (([]:(List Mail)))),x3)) (
 (Zhk x1 x2).bind fun x4=>
 ifb (!x4) (
 some ((Bar.mk (([]:(List Drinker))) (([]:(List Mail)))),161)) (
 (Zmk x1 x2 p2).bind fun x5=>
 some (x5.1,x5.2)))
theorem Zok (x1:Bar) (x2:Int) (g2:Nat) (caps2:List AV) (p2:(Drinker→Option (Drinker×Int))) (hc2:CloOK Tryz.prog g2 caps2 (fun z=>[.agg (Drinker.row z)]) p2 (fun z=>.tup [.agg (Drinker.row z.1),.iv z.2])) (r:(Bar×Int)) (h:Znk x1 x2 p2=some r):Zu2 Tryz.prog 74 [.agg (Bar.row x1),.iv x2,.clo g2 caps2] (.tup [.agg (Bar.row r.1),.iv r.2]):=by
 refine Zy2 ok74 rfl rfl fun w0 H0=>?_
 rw [Znk] at h
 refine Zo2 10 ?_;dsimp only [go_sem];refine An ?_;obtain ⟨x3,ex3,h⟩:=Bs h;refine Z33 trivial (Zfk x1 _ ex3) (hp:=(by first | rfl | simp [go_sem,hc2.pu])) (h:=?_);refine Zo2 7 ?_;dsimp only [go_sem];refine An ?_;refine Zn4 h rfl (fun _ h=>?_) fun _ h=>?_
 ·refine Zo2 7 ?_;dsimp only [go_sem];refine An ?_;exact Zv4 (res:=fun (r:(Bar×Int))=>.tup [.agg (Bar.row r.1),.iv r.2]) ok74 h
 ·refine Zo2 6 ?_;dsimp only [go_sem];refine An ?_;obtain ⟨x4,ex4,h⟩:=Bs h;refine Z33 trivial (Zik x1 x2 _ ex4) (hp:=(by first | rfl | simp [go_sem,hc2.pu])) (h:=?_);refine Zo2 2 ?_;dsimp only [go_sem];refine An ?_;refine Zn4 h rfl (fun _ h=>?_) fun _ h=>?_
  ·refine Zo2 6 ?_;dsimp only [go_sem];refine An ?_;exact Zv4 (res:=fun (r:(Bar×Int))=>.tup [.agg (Bar.row r.1),.iv r.2]) ok74 h
  ·refine Zo2 6 ?_;dsimp only [go_sem];refine An ?_;obtain ⟨x5,ex5,h⟩:=Bs h;refine Z33 trivial (k_bar_act x1 x2 _ _ p2 hc2 _ ex5) (hp:=(by first | rfl | simp [go_sem,hc2.pu])) (h:=?_);refine Zo2 5 ?_;dsimp only [go_sem];refine An ?_;exact Zv4 (res:=fun (r:(Bar×Int))=>.tup [.agg (Bar.row r.1),.iv r.2]) ok74 h
set_option maxRecDepth 100000
set_option maxHeartbeats 4000000
@[go_sem] def e38:EC:=.seq (.reg [(Qx 3 25 2 0),(Qx 5 26 1 2),(Qa 6 (.alloc 25 [.nl,.nl])),(Qi 7 0)]) (.seq (.reg [(Qe 8 2 3),(Qm 9 1),(Qa 10 (.mkf 76 [(.t 5)])),(Qa 11 (.call 74 [(.t 8),(.t 9),(.t 10)])),(Qa 12 (.ext (.t 11) 0)),(Qa 13 (.ext (.t 11) 1)),(Qs 2 6 12),(Qm 7 13)]) (.ret))
theorem ok38:FnOK Tryz.prog 38 Tryz.f38 e38 [.c 6 (some 2),.t 7] 3 11:=⟨by kernel_rfl,⟨_,rfl,by kernel_rfl⟩,by kernel_rfl,by kernel_rfl⟩
noncomputable def Zpk (x1:Bar) (x2:Int) (x3:(List Int)):Option (Bar×Int):=
 (Znk x1 x2 ((fun z=>Zzj z x3))).bind fun x4=>
 some (x4.1,x4.2)
theorem Zqk (x1:Bar) (x2:Int) (x3:(List Int)) (r:(Bar×Int)) (h:Zpk x1 x2 x3=some r):Zu2 Tryz.prog 38 [.agg (Bar.row x1),.iv x2,.sl 1 (List.map Z15 x3)] (.tup [.agg (Bar.row r.1),.iv r.2]):=by
 refine Zy2 ok38 rfl rfl fun w0 H0=>?_
 rw [Zpk] at h
 refine Zo2 12 ?_;dsimp only [go_sem];refine An ?_;refine V_sealB 1 rfl rfl ?_;dsimp only [go_sem];obtain ⟨x4,ex4,h⟩:=Bs h;refine Z33 trivial (Zok x1 x2 _ _ ((fun z=>Zzj z x3)) ⟨by kernel_rfl,rfl,fun z r hz=>k_bar_Open_1 z x3 r hz⟩ _ ex4) (h:=?_);refine Zo2 5 ?_;dsimp only [go_sem];refine An ?_;exact Zv4 (res:=fun (r:(Bar×Int))=>.tup [.agg (Bar.row r.1),.iv r.2]) ok38 h
set_option maxRecDepth 100000
set_option maxHeartbeats 4000000
@[go_sem] def e36:EC:=.seq (.reg [(Qx 2 25 2 0),(Qa 4 (.alloc 25 [.nl,.nl])),(Qi 5 0)]) (.seq (.reg [(Qe 6 2 2),(Qm 7 1),(Qa 8 (.call 74 [(.t 6),(.t 7),(.c (.clo 75 []))])),(Qa 9 (.ext (.t 8) 0)),(Qa 10 (.ext (.t 8) 1)),(Qs 2 4 9),(Qm 5 10)]) (.ret))
theorem ok36:FnOK Tryz.prog 36 Tryz.f36 e36 [.c 4 (some 2),.t 5] 2 9:=⟨by kernel_rfl,⟨_,rfl,by kernel_rfl⟩,by kernel_rfl,by kernel_rfl⟩
noncomputable def Zrk (x1:Bar) (x2:Int):Option (Bar×Int):=
 (Znk x1 x2 ((fun z=>Zhj z))).bind fun x3=>
 some (x3.1,x3.2)
theorem Zsk (x1:Bar) (x2:Int) (r:(Bar×Int)) (h:Zrk x1 x2=some r):Zu2 Tryz.prog 36 [.agg (Bar.row x1),.iv x2] (.tup [.agg (Bar.row r.1),.iv r.2]):=by
 refine Zy2 ok36 rfl rfl fun w0 H0=>?_
 rw [Zrk] at h
 refine Zo2 10 ?_;dsimp only [go_sem];refine An ?_;obtain ⟨x3,ex3,h⟩:=Bs h;refine Z33 trivial (Zok x1 x2 _ _ ((fun z=>Zhj z)) ⟨by kernel_rfl,rfl,fun z r hz=>k_drink_Close z r hz⟩ _ ex3) (h:=?_);refine Zo2 5 ?_;dsimp only [go_sem];refine An ?_;exact Zv4 (res:=fun (r:(Bar×Int))=>.tup [.agg (Bar.row r.1),.iv r.2]) ok36 h
set_option maxRecDepth 100000
set_option maxHeartbeats 4000000
@[go_sem] def e87:EC:=.seq (.reg [(Qx 3 95 5 0),(Qa 4 (.mv (.c .ff)))]) (.seq (.reg [(Qf 5 0 3),(Ql 6 5),(Ql 7 1),(Qa 8 (.bin .eql (.t 6) (.t 7))),(Qm 9 8),(Qh 10 9 true 1 3),(Qn 11 9 true 10),(Qn 12 9 true 2),(Qg 13 9 true (.bin .eql (.t 11) (.t 12))),(Qp 14 9 13),(Qm 4 14)]) (.ret))
theorem ok87:FnOK Tryz.prog 87 Tryz.f87 e87 [.t 4] 3 12:=⟨by kernel_rfl,⟨_,rfl,by kernel_rfl⟩,by kernel_rfl,by kernel_rfl⟩
noncomputable def Ztk:Bool→Option Bool
| x4=>
 some x4
noncomputable def Zuk (x1:Mail) (x2:Int) (x3:Int):Option Bool:=
 ifb (decide (x1.From=x2)) (
 Ztk (decide (x1.To=x3))) (
 Ztk false)
theorem Zvk (x1:Mail) (x2:Int) (x3:Int) (r:Bool) (h:Zuk x1 x2 x3=some r):Zu2 Tryz.prog 87 [.agg (Mail.row x1),.elt (Z15 x2) 0,.elt (Z15 x3) 0] (.bv r):=by
 refine Zy2 ok87 rfl rfl fun w0 H0=>?_
 rw [Zuk] at h
 refine Zo2 12 ?_;dsimp only [go_sem];refine An ?_;refine Zl4 (fun (x4:Bool)=>(⟨(an 4 (.bv x4::an 10 [])),[],[]⟩:St)) Ztk r ?_ fun J1=>?_
 ·intro x4 h;rw [Ztk] at h;(try dsimp only);exact Zv4 (res:=fun (r:Bool)=>.bv r) ok87 h
 ·refine Zu4 9 h rfl (fun _ h=>?_) fun _ h=>?_
  ·dsimp only [go_sem];refine Zo2 7 ?_;dsimp only [go_sem];refine An ?_;exact Zx4 J1 (s:=decide (x1.To=x3)) h
  ·dsimp only [go_sem];refine Zo2 7 ?_;dsimp only [go_sem];refine An ?_;exact Zx4 J1 (s:=false) h
set_option maxRecDepth 100000
set_option maxHeartbeats 4000000
@[go_sem] def e90:EC:=.seq (.reg [(Qx 3 63 5 0),(Qa 4 (.alloc 63 [.iv 0,.iv 0,.nl,.iv 0,.nl])),(Qi 5 0)]) (.seq (.reg [(Qe 6 5 3),(Ql 7 1),(Qe 8 3 2),(Qa 9 (.call 91 [(.t 6),(.t 7),(.t 8)])),(Qa 10 (.ext (.t 9) 0)),(Qa 11 (.ext (.t 9) 1)),(Qs 5 4 10),(Qm 5 11)]) (.ret))
theorem ok90:FnOK Tryz.prog 90 Tryz.f90 e90 [.c 4 (some 5),.t 5] 3 9:=⟨by kernel_rfl,⟨_,rfl,by kernel_rfl⟩,by kernel_rfl,by kernel_rfl⟩
noncomputable def Zwk (x1:Drinker) (x2:Int) (x3:Msg):Option (Drinker×Int):=
 (Znj x1 x2 x3).bind fun x4=>
 some (x4.1,x4.2)
theorem Zxk (x1:Drinker) (x2:Int) (x3:Msg) (r:(Drinker×Int)) (h:Zwk x1 x2 x3=some r):Zu2 Tryz.prog 90 [.agg (Drinker.row x1),.elt (Z15 x2) 0,.elt (Msg.row x3) 0] (.tup [.agg (Drinker.row r.1),.iv r.2]):=by
 refine Zy2 ok90 rfl rfl fun w0 H0=>?_
 rw [Zwk] at h
 refine Zo2 11 ?_;dsimp only [go_sem];refine An ?_;obtain ⟨x4,ex4,h⟩:=Bs h;refine Z33 trivial (k_drink_Get x1 x2 x3 _ ex4) (h:=?_);refine Zo2 5 ?_;dsimp only [go_sem];refine An ?_;exact Zv4 (res:=fun (r:(Drinker×Int))=>.tup [.agg (Drinker.row r.1),.iv r.2]) ok90 h
set_option maxRecDepth 100000
set_option maxHeartbeats 4000000
@[go_sem] def e48:EC:=.seq (.reg [(Qx 3 25 2 0),(Qx 4 3 1 1),(Qx 5 3 1 2),(Qa 6 (.alloc 25 [.nl,.nl])),(Qi 7 0)]) (.seq (.seq (.reg [(Qe 11 2 3),(Qa 12 (.call 17 [(.t 11)])),(Qm 8 12)]) (.seq (.reg [(Qm 13 8),(Qa 14 (.bin .neq (.t 13) (.c (.iv 0))))]) (.ite (.t 14) (.seq (.reg [(Qa 15 (.build [.nl,.nl] [])),(Qm 16 8),(Qs 2 6 15),(Qm 7 16)]) (.ret)) (.skip)))) (.seq (.seq (.reg [(Qe 17 2 3),(Ql 18 4),(Qa 19 (.call 64 [(.t 17),(.t 18)])),(Qa 20 (.not (.t 19))),(Qm 21 20),(Qg 22 21 false (.loadA 2 (.t 3))),(Qn 23 21 false 5),(Qg 24 21 false (.call 64 [(.t 22),(.t 23)])),(Qg 25 21 false (.not (.t 24))),(Qq 26 21 25)]) (.ite (.t 26) (.seq (.reg [(Qa 27 (.build [.nl,.nl] [])),(Qs 2 6 27),(Qi 7 161)]) (.ret)) (.skip))) (.seq (.reg [(Qf 28 1 3),(Ql 29 28),(Qa 30 (.mkf 87 [(.t 4),(.t 5)])),(Qa 31 (.call 86 [(.t 29),(.t 30)])),(Qm 9 31)]) (.seq (.seq (.reg [(Qm 32 9),(Qa 33 (.bin .lss (.t 32) (.c (.iv 0))))]) (.ite (.t 33) (.seq (.reg [(Qa 34 (.build [.nl,.nl] [])),(Qs 2 6 34),(Qi 7 162)]) (.ret)) (.skip))) (.seq (.reg [(Qf 35 1 3),(Ql 36 35),(Qm 37 9),(Qk 38 5 36 37),(Qf 39 2 38),(Qe 40 3 39),(Qa 10 (.alloc 93 [.iv 0,.iv 0,.iv 0])),(Qs 3 10 40)]) (.seq (.drw [(Qf 41 1 3),(Ql 42 41),(Qm 43 9),(Qa 44 (.slice 5 (.t 42) none (some (.t 43)))),(Qf 45 1 3),(Ql 46 45),(Qm 47 9),(Qv 48 47 1),(Qa 49 (.slice 5 (.t 46) (some (.t 48)) none)),(Qa 50 (.bsl 23 1 2 [.nl] [(0,(.t 44)),(1,(.t 49))])),(Qa 51 (.call 88 [(.t 50)])),(Qf 52 1 3),(Qs 1 52 51)] [[],[0],[],[1,2],[],[4],[],[6],[5,7],[3,8],[9],[0,1,2,3,4,5,6,7,8,9,10],[11,10,10,0,1,2,3,4,5,6,7,8,9,10]] [[1],[0,3],[3],[1,2,9],[5],[4,8],[7],[6,8],[5,7,9],[3,8,10],[9,12],[12],[10,11]]) (.seq (.reg [(Qe 53 2 3),(Ql 54 5),(Qa 55 (.mkf 90 [(.t 4),(.t 10)])),(Qa 56 (.call 89 [(.t 53),(.t 54),(.t 55)])),(Qa 57 (.ext (.t 56) 0)),(Qa 58 (.ext (.t 56) 1)),(Qs 2 6 57),(Qm 7 58)]) (.ret))))))))
theorem ok48:FnOK Tryz.prog 48 Tryz.f48 e48 [.c 6 (some 2),.t 7] 3 56:=⟨by kernel_rfl,⟨_,rfl,by kernel_rfl⟩,by kernel_rfl,by kernel_rfl⟩
noncomputable def Zyk (x1:Bar) (x2:Int) (x3:Int) (x9:Mail):(List Mail)→Option (Bar×Int)
| x13=>
 (Zmk ((Bar.mk x1.Drinkers x13)) x3 ((fun z=>Zwk z x2 x9.Msg))).bind fun x14=>
 some (x14.1,x14.2)
noncomputable def Zzk (x1:Bar) (x2:Int) (x3:Int):Bool→Option (Bar×Int)
| x7=>
 ifb x7 (
 some ((Bar.mk (([]:(List Drinker))) (([]:(List Mail)))),161)) (
 (Z3c x1.Mail ((fun z=>Zuk z x2 x3))).bind fun x8=>
 ifb (decide (x8<0)) (
 some ((Bar.mk (([]:(List Drinker))) (([]:(List Mail)))),162)) (
 (at_ x1.Mail x8).bind fun x9=>
 (Zf4 x1.Mail 0 x8).bind fun x10=>
 (Zf4 x1.Mail (wr (x8+1)) (ln Mail.row x1.Mail)).bind fun x11=>
 (Zic ([x10,x11])).bind fun x12=>
 (Zyk x1 x2 x3 x9) x12))
noncomputable def Z0l (x1:Bar) (x2:Int) (x3:Int):Option (Bar×Int):=
 (Zek x1).bind fun x4=>
 ifb (!decide (x4=0)) (
 some ((Bar.mk (([]:(List Drinker))) (([]:(List Mail)))),x4)) (
 (Zhk x1 x2).bind fun x5=>
 ifb (!x5) (
 (Zzk x1 x2 x3) true) (
 (Zhk x1 x3).bind fun x6=>
 (Zzk x1 x2 x3) (!x6)))
theorem Z1l (x1:Bar) (x2:Int) (x3:Int) (r:(Bar×Int)) (h:Z0l x1 x2 x3=some r):Zu2 Tryz.prog 48 [.agg (Bar.row x1),.iv x2,.iv x3] (.tup [.agg (Bar.row r.1),.iv r.2]):=by
 refine Zy2 ok48 rfl rfl fun w0 H0=>?_
 rw [Z0l] at h
 refine Zo2 12 ?_;dsimp only [go_sem];refine An ?_;obtain ⟨x4,ex4,h⟩:=Bs h;refine Z33 trivial (Zfk x1 _ ex4) (h:=?_);refine Zo2 7 ?_;dsimp only [go_sem];refine An ?_;refine Zn4 h rfl (fun _ h=>?_) fun _ h=>?_
 ·refine Zo2 7 ?_;dsimp only [go_sem];refine An ?_;exact Zv4 (res:=fun (r:(Bar×Int))=>.tup [.agg (Bar.row r.1),.iv r.2]) ok48 h
 ·refine Zo2 6 ?_;dsimp only [go_sem];refine An ?_;obtain ⟨x5,ex5,h⟩:=Bs h;refine Z33 trivial (Zik x1 x2 _ ex5) (h:=?_);refine Zo2 2 ?_;dsimp only [go_sem];refine An ?_;refine Zl4 (fun (x7:Bool)=>(⟨(an 3 (.ptr 0 0 :: .ptr 1 0 :: .ptr 2 0 :: .ptr 3 0::an 19 (.bv x7::an 32 []))),[some ⟨25,[.sl 5 (List.map Drinker.row x1.Drinkers),.sl 5 (List.map Mail.row x1.Mail)]⟩,some ⟨3,[.iv x2]⟩,some ⟨3,[.iv x3]⟩,some ⟨25,[.nl,.nl]⟩],[]⟩:St)) (Zzk x1 x2 x3) r ?_ fun J1=>?_
  ·intro x7 h;rw [Zzk] at h;(try dsimp only);refine Zn4 h rfl (fun _ h=>?_) fun _ h=>?_
   ·refine Zo2 6 ?_;dsimp only [go_sem];refine An ?_;exact Zv4 (res:=fun (r:(Bar×Int))=>.tup [.agg (Bar.row r.1),.iv r.2]) ok48 h
   ·refine Zo2 6 ?_;dsimp only [go_sem];refine An ?_;obtain ⟨x8,ex8,h⟩:=Bs h;refine Zz4 trivial (((Zy4.refl _).block 1 rfl rfl).block 2 rfl rfl) (Z4c x1.Mail _ _ ((fun z=>Zuk z x2 x3)) ⟨by kernel_rfl,rfl,fun z r hz=>Zvk z x2 x3 r hz⟩ _ ex8) (h:=?_);refine Zo2 8 ?_;dsimp only [go_sem];refine An ?_;refine Zn4 h rfl (fun _ h=>?_) fun _ h=>?_
    ·refine Zo2 6 ?_;dsimp only [go_sem];refine An ?_;exact Zv4 (res:=fun (r:(Bar×Int))=>.tup [.agg (Bar.row r.1),.iv r.2]) ok48 h
    ·refine Zo2 6 ?_;dsimp only [go_sem];refine An ?_;obtain ⟨x9,ex9,h⟩:=Bs h;refine Zq4 Mail.row ex9 trivial rfl rfl rfl ?_;refine Zo2 6 ?_;dsimp only [go_sem];refine An ?_
     refine Zl4 (fun (x13:(List Mail))=>(⟨(an 3 (.ptr 0 0 :: .ptr 1 0 :: .ptr 2 0 :: .ptr 3 0::an 3 (.ptr 4 0::an 48 []))),[some ⟨25,[.sl 5 (List.map Drinker.row x1.Drinkers),.osl 1]⟩,some ⟨3,[.iv x2]⟩,some ⟨3,[.iv x3]⟩,some ⟨25,[.nl,.nl]⟩,some ⟨93,[.iv x9.Msg.Kind,.iv x9.Msg.Epoch,.iv x9.Msg.Num]⟩],[none,some ⟨95,5,List.map Mail.row x13⟩]⟩:St)) (Zyk x1 x2 x3 x9) r ?_ fun J2=>?_
     ·intro x13 h;rw [Zyk] at h;(try dsimp only);refine Zo2 5 ?_;dsimp only [go_sem];refine An ?_;refine Zc3 1 rfl ?_;dsimp only [go_sem];refine V_sealB 1 rfl rfl ?_;dsimp only [go_sem];refine V_sealB 4 rfl rfl ?_;dsimp only [go_sem];obtain ⟨x14,ex14,h⟩:=Bs h;refine Z33 trivial (k_bar_act ((Bar.mk x1.Drinkers x13)) x3 _ _ ((fun z=>Zwk z x2 x9.Msg)) ⟨by kernel_rfl,rfl,fun z r hz=>Zxk z x2 x9.Msg r hz⟩ _ ex14) (h:=?_);refine Zo2 5 ?_;dsimp only [go_sem];refine An ?_
      exact Zv4 (res:=fun (r:(Bar×Int))=>.tup [.agg (Bar.row r.1),.iv r.2]) ok48 h
     ·refine Zk3 (by kernel_rfl) fun all hall hs hnap haf=>?_;dsimp only [go_sem];refine Zd5 hall hs haf hnap 7 6 [3,1,4,5] [(41,[.ptr 0 1,.sl 5 (List.map Mail.row x1.Mail),.iv x8]),(1,[.ptr 0 1,.sl 5 (List.map Mail.row x1.Mail),.iv x8,.iv (wr (x8+1))])] (by kernel_rfl) ?_;dsimp only [go_sem];obtain ⟨x10,ex10,h⟩:=Bs h;refine G_sliceM hall hs haf hnap 3 Mail.row ex10 rfl rfl trivial rfl rfl rfl rfl rfl ?_;dsimp only [go_sem];obtain ⟨x11,ex11,h⟩:=Bs h;refine G_sliceM hall hs haf hnap 8 Mail.row ex11 rfl rfl trivial rfl rfl rfl rfl rfl ?_;dsimp only [go_sem]
      refine Zv3 9 rfl ?_;refine GO_bslS hall rfl trivial rfl trivial ?_;dsimp only [go_sem];refine Zv3 10 rfl ?_;obtain ⟨x12,ex12,h⟩:=Bs h;refine Zb5 hall rfl trivial (Zjc ([x10,x11]) _ ex12) (h:=?_);dsimp only [go_sem];refine Zc5 hall hs haf hnap 1 1 ?_;dsimp only [go_sem];refine An ?_;refine Zv3 12 rfl ?_;refine Z04 hall rfl trivial ?_;dsimp only [go_sem];refine Zu3 rfl ?_ _;exact Zx4 J2 (s:=x12) h
  ·refine Zu4 21 h rfl (fun _ h=>?_) fun _ h=>?_
   ·dsimp only [go_sem];refine Zo2 6 ?_;dsimp only [go_sem];refine An ?_;exact Zx4 J1 (s:=true) h
   ·dsimp only [go_sem];refine Zo2 2 ?_;dsimp only [go_sem];refine An ?_;obtain ⟨x6,ex6,h⟩:=Bs h;refine Z33 trivial (Zik x1 x3 _ ex6) (h:=?_);refine Zo2 3 ?_;dsimp only [go_sem];refine An ?_;exact Zx4 J1 (s:=!x6) h
set_option maxRecDepth 100000
set_option maxHeartbeats 4000000
@[go_sem] def e13:EC:=.seq (.reg [(Qx 2 25 2 0),(Qx 3 28 4 1),(Qa 4 (.alloc 25 [.nl,.nl])),(Qi 5 0)]) (.seq (.seq (.reg [(Qf 6 0 3),(Ql 7 6)]) (.blk 0 (.seq (.reg [(Qa 9 (.bin .eql (.t 7) (.c (.iv 0)))),(Qm 8 9)]) (.ite (.t 8) (.seq (.drw [(Qe 10 2 2),(Qf 11 1 3),(Ql 12 11),(Qa 13 (.bsl 3 1 0 [.iv 0] [])),(Qf 14 3 3),(Ql 15 14),(Qa 16 (.app 3 1 8 (.t 13) (.t 15))),(Qa 17 (.call 38 [(.t 10),(.t 12),(.t 16)])),(Qa 18 (.ext (.t 17) 0)),(Qa 19 (.ext (.t 17) 1)),(Qs 2 4 18),(Qm 5 19)] [[],[],[1],[],[],[4],[3,5],[0,2,6,6],[7],[7],[8,7,0,1,2,3,4,5,6,7,8,9],[9,10,0,1,2,3,4,5,6,7,8,9,10]] [[7],[2],[1,7],[6],[5],[4,6],[3,5,7],[0,2,6,8,9],[7,10],[7,11],[8],[9]]) (.ret)) (.seq (.reg [(Qa 21 (.bin .eql (.t 7) (.c (.iv 1)))),(Qm 20 21)]) (.ite (.t 20) (.seq (.reg [(Qe 22 2 2),(Qf 23 1 3),(Ql 24 23),(Qa 25 (.call 36 [(.t 22),(.t 24)])),(Qa 26 (.ext (.t 25) 0)),(Qa 27 (.ext (.t 25) 1)),(Qs 2 4 26),(Qm 5 27)]) (.ret)) (.skip))))))) (.seq (.reg [(Qe 28 2 2),(Qf 29 1 3),(Ql 30 29),(Qf 31 2 3),(Ql 32 31),(Qa 33 (.call 48 [(.t 28),(.t 30),(.t 32)])),(Qa 34 (.ext (.t 33) 0)),(Qa 35 (.ext (.t 33) 1)),(Qs 2 4 34),(Qm 5 35)]) (.ret)))
theorem ok13:FnOK Tryz.prog 13 Tryz.f13 e13 [.c 4 (some 2),.t 5] 2 34:=⟨by kernel_rfl,⟨_,rfl,by kernel_rfl⟩,by kernel_rfl,by kernel_rfl⟩
noncomputable def Z2l (x1:Bar) (x2:narthexlaw16_Act):Option (Bar×Int):=
 ifb (decide (x2.K=0)) (
 (Ze4 8 (([]:List Int)) x2.Need).bind fun x3=>
 (Zpk x1 x2.A x3).bind fun x4=>
 some (x4.1,x4.2)) (
 ifb (decide (x2.K=1)) (
 (Zrk x1 x2.A).bind fun x5=>
 some (x5.1,x5.2)) (
 (Z0l x1 x2.A x2.B).bind fun x6=>
 some (x6.1,x6.2)))
theorem Z3l (x1:Bar) (x2:narthexlaw16_Act) (r:(Bar×Int)) (h:Z2l x1 x2=some r):Zu2 Tryz.prog 13 [.agg (Bar.row x1),.agg (narthexlaw16_Act.row x2)] (.tup [.agg (Bar.row r.1),.iv r.2]):=by
 refine Zy2 ok13 rfl rfl fun w0 H0=>?_
 rw [Z2l] at h
 refine Zo2 19 ?_;dsimp only [go_sem];refine An ?_;refine Zn4 h rfl (fun _ h=>?_) fun _ h=>?_
 ·refine Zo2 1 ?_;dsimp only [go_sem];refine An ?_;refine Zk3 (by kernel_rfl) fun all hall hs hnap haf=>?_;dsimp only [go_sem];refine Zc5 hall hs haf hnap 5 7 ?_;dsimp only [go_sem];refine An ?_;refine Zv3 3 rfl ?_;refine Z04 hall rfl trivial ?_;dsimp only [go_sem];refine Zv3 6 rfl ?_;obtain ⟨x3,ex3,h⟩:=Bs h;refine GO_appSM Z15 ex3 hall rfl trivial rfl rfl rfl ?_;dsimp only [go_sem];refine Zv3 7 rfl ?_;obtain ⟨x4,ex4,h⟩:=Bs h;refine Z14 hall rfl trivial (Zqk x1 x2.A x3 _ ex4) (h:=?_);dsimp only [go_sem]
  refine Zc5 hall hs haf hnap 2 2 ?_;dsimp only [go_sem];refine An ?_;refine Zv3 10 rfl ?_;refine Z04 hall rfl trivial ?_;dsimp only [go_sem];refine Zc5 hall hs haf hnap 1 0 ?_;dsimp only [go_sem];refine An ?_;refine Zu3 rfl ?_ _;exact Zv4 (res:=fun (r:(Bar×Int))=>.tup [.agg (Bar.row r.1),.iv r.2]) ok13 h
 ·refine Zo2 5 ?_;dsimp only [go_sem];refine An ?_;refine Zn4 h rfl (fun _ h=>?_) fun _ h=>?_
  ·refine Zo2 5 ?_;dsimp only [go_sem];refine An ?_;obtain ⟨x5,ex5,h⟩:=Bs h;refine Z33 trivial (Zsk x1 x2.A _ ex5) (h:=?_);refine Zo2 5 ?_;dsimp only [go_sem];refine An ?_;exact Zv4 (res:=fun (r:(Bar×Int))=>.tup [.agg (Bar.row r.1),.iv r.2]) ok13 h
  ·refine Zo2 9 ?_;dsimp only [go_sem];refine An ?_;obtain ⟨x6,ex6,h⟩:=Bs h;refine Z33 trivial (Z1l x1 x2.A x2.B _ ex6) (h:=?_);refine Zo2 5 ?_;dsimp only [go_sem];refine An ?_;exact Zv4 (res:=fun (r:(Bar×Int))=>.tup [.agg (Bar.row r.1),.iv r.2]) ok13 h
end NX
end Go.Proofs.YtacfbmldajmjiaaGreat
