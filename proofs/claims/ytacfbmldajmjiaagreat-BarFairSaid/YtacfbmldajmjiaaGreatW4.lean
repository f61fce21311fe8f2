/-
  The function narthex/table.Count: its code compiled, a model, and that the code answers as the model. Written by a program of ours (lb.py). No statement of the seat is proved here.
-/
import Derived.KernelRfl
import Derived.Test.YtacfbmldajmjiaaGreatW3
import Derived.Test.YtacfbmldajmjiaaGreatW2
import Derived.Test.YtacfbmldajmjiaaGreatW1
namespace Go.Proofs.YtacfbmldajmjiaaGreat
namespace NX
open Go
set_option maxRecDepth 100000
set_option maxHeartbeats 4000000
@[go_sem] def e63_L1:EC:=.seq (.reg [(Qa 89 (.bin .lss (.t 88) (.t 87)))]) (.seq (.ite (.t 89) (.skip) (.exit 3)) (.seq (.blk 4 (.seq (.reg [(Qk 90 5 86 88),(Qe 91 5 90),(Qa 16 (.alloc 95 [.iv 0,.iv 0,.iv 0,.iv 0,.iv 0])),(Qs 5 16 91)]) (.seq (.reg [(Qf 92 2 16),(Qf 93 0 92),(Ql 94 93),(Qm 95 2),(Qa 96 (.bin .eql (.t 94) (.t 95))),(Qm 97 96),(Qh 98 97 true 2 16),(Qh 99 97 true 1 98),(Qn 100 97 true 99),(Qh 101 97 true 1 7),(Qn 102 97 true 101),(Qg 103 97 true (.bin .eql (.t 100) (.t 102))),(Qp 104 97 103),(Qm 105 104),(Qh 106 105 true 0 16),(Qn 107 105 true 106),(Qh 108 105 true 1 16),(Qn 109 105 true 108),(Qg 110 105 true (.mm false [(.t 107),(.t 109)])),(Qh 111 105 true 0 4),(Qn 112 105 true 111),(Qh 113 105 true 1 4),(Qn 114 105 true 113),(Qg 115 105 true (.mm false [(.t 112),(.t 114)])),(Qg 116 105 true (.bin .eql (.t 110) (.t 115))),(Qp 117 105 116),(Qm 118 117),(Qh 119 118 true 0 16),(Qn 120 118 true 119),(Qh 121 118 true 1 16),(Qn 122 118 true 121),(Qg 123 118 true (.mm true [(.t 120),(.t 122)])),(Qh 124 118 true 0 4),(Qn 125 118 true 124),(Qh 126 118 true 1 4),(Qn 127 118 true 126),(Qg 128 118 true (.mm true [(.t 125),(.t 127)])),(Qg 129 118 true (.bin .eql (.t 123) (.t 128))),(Qp 130 118 129)]) (.ite (.t 130) (.reg [(Qm 131 12),(Qv 132 131 1),(Qm 12 132)]) (.skip))))) (.reg [(Qv 133 88 1),(Qm 88 133)])))
@[go_sem] def e63_L0:EC:=.seq (.reg [(Qa 76 (.bin .lss (.t 75) (.t 74)))]) (.seq (.ite (.t 76) (.skip) (.exit 1)) (.seq (.blk 2 (.seq (.reg [(Qk 77 8 73 75),(Qe 78 8 77),(Qa 14 (.alloc 66 [.iv 0,.iv 0,.iv 0,.ff,.ff,.ff,.ff,.ff])),(Qs 8 14 78)]) (.seq (.reg [(Qm 79 11),(Qe 80 8 14),(Qa 81 (.callv (.t 79) [(.t 80)]))]) (.ite (.t 81) (.reg [(Qm 82 12),(Qv 83 82 1),(Qm 12 83)]) (.skip))))) (.reg [(Qv 84 75 1),(Qm 75 84)])))
@[go_sem] def e63:EC:=.seq (.reg [(Qx 3 48 2 0),(Qx 4 30 2 1),(Qi 6 0)]) (.seq (.seq (.reg [(Qe 17 2 3),(Qf 18 0 4),(Ql 19 18),(Qa 20 (.call 113 [(.t 17),(.t 19)])),(Qa 21 (.not (.t 20))),(Qm 22 21),(Qg 23 22 false (.loadA 2 (.t 3))),(Qh 24 22 false 1 4),(Qn 25 22 false 24),(Qg 26 22 false (.call 113 [(.t 23),(.t 25)])),(Qg 27 22 false (.not (.t 26))),(Qq 28 22 27)]) (.ite (.t 28) (.seq (.reg [(Qi 6 0)]) (.ret)) (.skip))) (.seq (.drw [(Qf 30 0 3),(Ql 31 30),(Qf 32 0 4),(Ql 33 32),(Qk 34 3 31 33),(Qe 35 3 34),(Qf 36 1 4),(Ql 37 36),(Qa 38 (.call 65 [(.t 35),(.t 37)])),(Qm 29 38),(Qa 39 (.ext (.t 29) 0)),(Qa 40 (.ext (.t 29) 1)),(Qa 7 (.alloc 66 [.iv 0,.iv 0,.iv 0,.ff,.ff,.ff,.ff,.ff])),(Qs 8 7 39),(Qm 8 40)] [[],[0],[],[2],[1,3],[4],[],[6],[5,7],[8],[9],[9],[],[12,10,8,0,1,2,3,4,5,6,7,8,9,10,12],[11,13,0,1,2,3,4,5,6,7,8,9,10,11,12,13]] [[1],[0,4],[3],[2,4],[1,3,5],[4,8],[7],[6,8],[5,7,9],[8,10,11],[9,13],[9,14],[13],[10,12],[11]]) (.seq (.drw [(Qf 42 0 3),(Ql 43 42),(Qf 44 1 4),(Ql 45 44),(Qk 46 3 43 45),(Qe 47 3 46),(Qf 48 0 4),(Ql 49 48),(Qa 50 (.call 65 [(.t 47),(.t 49)])),(Qm 41 50),(Qa 51 (.ext (.t 41) 0)),(Qa 52 (.ext (.t 41) 1)),(Qa 9 (.alloc 66 [.iv 0,.iv 0,.iv 0,.ff,.ff,.ff,.ff,.ff])),(Qs 8 9 51),(Qm 10 52)] [[],[0],[],[2],[1,3],[4],[],[6],[5,7],[8],[9],[9],[],[12,10,8,0,1,2,3,4,5,6,7,8,9,10,12],[11,13,0,1,2,3,4,5,6,7,8,9,10,11,12,13]] [[1],[0,4],[3],[2,4],[1,3,5],[4,8],[7],[6,8],[5,7,9],[8,10,11],[9,13],[9,14],[13],[10,12],[11]]) (.seq (.seq (.reg [(Qm 53 8),(Qa 54 (.not (.t 53))),(Qm 55 54),(Qg 56 55 false (.mv (.t 10))),(Qg 57 55 false (.not (.t 56))),(Qq 58 55 57),(Qm 59 58),(Qh 60 59 false 1 7),(Qn 61 59 false 60),(Qh 62 59 false 1 9),(Qn 63 59 false 62),(Qg 64 59 false (.bin .neq (.t 61) (.t 63))),(Qq 65 59 64)]) (.ite (.t 65) (.seq (.reg [(Qi 6 0)]) (.ret)) (.skip))) (.seq (.reg [(Qa 11 (.mv (.c .any)))]) (.seq (.seq (.reg [(Qm 66 2)]) (.blk 0 (.seq (.reg [(Qa 68 (.bin .eql (.t 66) (.c (.iv 1)))),(Qm 67 68)]) (.ite (.t 67) (.reg [(Qa 11 (.mv (.c (.clo 114 []))))]) (.seq (.reg [(Qa 70 (.bin .eql (.t 66) (.c (.iv 2)))),(Qm 69 70)]) (.ite (.t 69) (.reg [(Qa 11 (.mv (.c (.clo 115 []))))]) (.seq (.reg [(Qi 6 0)]) (.ret)))))))) (.seq (.reg [(Qi 12 0)]) (.seq (.seq (.reg [(Qe 71 8 7),(Qe 72 8 9),(Qa 73 (.bsl 66 8 2 [.iv 0,.iv 0,.iv 0,.ff,.ff,.ff,.ff,.ff] [(0,(.t 71)),(1,(.t 72))])),(Qa 74 (.len (.t 73))),(Qi 75 0)]) (.blk 1 (.loop e63_L0))) (.seq (.seq (.reg [(Qf 85 1 3),(Ql 86 85),(Qa 87 (.len (.t 86))),(Qi 88 0)]) (.blk 3 (.loop e63_L1))) (.seq (.reg [(Qm 134 12),(Qm 6 134)]) (.ret)))))))))))
theorem ok63:FnOK Tryz.prog 63 Tryz.f63 e63 [.t 6] 3 132:=⟨by kernel_rfl,⟨_,rfl,by kernel_rfl⟩,by kernel_rfl,by kernel_rfl⟩
noncomputable def Zxg:Int→Option Int
| x58=>
 some x58
noncomputable def Zyg (x45:Int):Int→Option ((Int×Int) ⊕ Int)
| x48=>
 some (.inl (x48,wr (x45+1)))
noncomputable def Zzg (x44:Int) (x45:Int):Bool→Option ((Int×Int) ⊕ Int)
| x47=>
 ifb x47 (
 (Zyg x45) (wr (x44+1))) (
 (Zyg x45) x44)
noncomputable def Z0h (x1:Scene) (x2:Edge) (x3:Int) (x11:Side):(Int×Int)→Option ((Int×Int) ⊕ Int)
| (x44,x45)=>
 ifb (decide (x45<(ln Mail.row x1.Mail))) (
 (at_ x1.Mail x45).bind fun x46=>
 ifb (decide (x46.Msg.Kind=x3)) (
 ifb (decide (x46.Msg.Epoch=x11.Epoch)) (
 ifb (decide (((min x46.From x46.To))=((min x2.A x2.B)))) (
 (Zzg x44 x45) (decide (((max x46.From x46.To))=((max x2.A x2.B))))) (
 (Zzg x44 x45) false)) (
 (Zzg x44 x45) false)) (
 (Zzg x44 x45) false)) (
 Option.map Sum.inr (Zxg x44))
noncomputable def Z1h (x1:Scene) (x2:Edge) (x3:Int) (x11:Side):Int→Option Int
| x38=>
 loop (Z0h x1 x2 x3 x11) (x38,0)
noncomputable def Z2h (x24:Int):Int→Option ((Int×Int) ⊕ Int)
| x27=>
 some (.inl (x27,wr (x24+1)))
noncomputable def Z3h (x1:Scene) (x2:Edge) (x3:Int) (x11:Side) (x16:Side):(Int×Int)→Option ((Int×Int) ⊕ Int)
| (x23,x24)=>
 ifb (decide (x24<(ln Side.row ([x11,x16])))) (
 (at_ ([x11,x16]) x24).bind fun x25=>
 (Ztg x25).bind fun x26=>
 ifb x26 (
 (Z2h x24) (wr (x23+1))) (
 (Z2h x24) x23)) (
 Option.map Sum.inr ((Z1h x1 x2 x3 x11) x23))
noncomputable def Z4h:Int→Option Int
| x99=>
 some x99
noncomputable def Z5h (x86:Int):Int→Option ((Int×Int) ⊕ Int)
| x89=>
 some (.inl (x89,wr (x86+1)))
noncomputable def Z6h (x85:Int) (x86:Int):Bool→Option ((Int×Int) ⊕ Int)
| x88=>
 ifb x88 (
 (Z5h x86) (wr (x85+1))) (
 (Z5h x86) x85)
noncomputable def Z7h (x1:Scene) (x2:Edge) (x3:Int) (x11:Side):(Int×Int)→Option ((Int×Int) ⊕ Int)
| (x85,x86)=>
 ifb (decide (x86<(ln Mail.row x1.Mail))) (
 (at_ x1.Mail x86).bind fun x87=>
 ifb (decide (x87.Msg.Kind=x3)) (
 ifb (decide (x87.Msg.Epoch=x11.Epoch)) (
 ifb (decide (((min x87.From x87.To))=((min x2.A x2.B)))) (
 (Z6h x85 x86) (decide (((max x87.From x87.To))=((max x2.A x2.B))))) (
 (Z6h x85 x86) false)) (
 (Z6h x85 x86) false)) (
 (Z6h x85 x86) false)) (
 Option.map Sum.inr (Z4h x85))
noncomputable def Z8h (x1:Scene) (x2:Edge) (x3:Int) (x11:Side):Int→Option Int
| x79=>
 loop (Z7h x1 x2 x3 x11) (x79,0)
noncomputable def Z9h (x65:Int):Int→Option ((Int×Int) ⊕ Int)
| x68=>
 some (.inl (x68,wr (x65+1)))
noncomputable def Zah (x1:Scene) (x2:Edge) (x3:Int) (x11:Side) (x16:Side):(Int×Int)→Option ((Int×Int) ⊕ Int)
| (x64,x65)=>
 ifb (decide (x65<(ln Side.row ([x11,x16])))) (
 (at_ ([x11,x16]) x65).bind fun x66=>
 (Zvg x66).bind fun x67=>
 ifb x67 (
 (Z9h x65) (wr (x64+1))) (
 (Z9h x65) x64)) (
 Option.map Sum.inr ((Z8h x1 x2 x3 x11) x64))
noncomputable def Zbh (x1:Scene) (x2:Edge) (x3:Int) (x11:Side) (x16:Side):Bool→Option Int
| x17=>
 ifb x17 (
 some 0) (
 ifb (decide (x3=1)) (
 loop (Z3h x1 x2 x3 x11 x16) (0,0)) (
 ifb (decide (x3=2)) (
 loop (Zah x1 x2 x3 x11 x16) (0,0)) (
 some 0)))
noncomputable def Zch (x1:Scene) (x2:Edge) (x3:Int) (x10:Bool) (x11:Side):(Bool×Side)→Option Int
| (x15,x16)=>
 ifb (!x10) (
 (Zbh x1 x2 x3 x11 x16) true) (
 ifb (!x15) (
 (Zbh x1 x2 x3 x11 x16) true) (
 (Zbh x1 x2 x3 x11 x16) (!decide (x11.Epoch=x16.Epoch))))
noncomputable def Zdh (x1:Scene) (x2:Edge) (x3:Int):(Bool×Side)→Option Int
| (x10,x11)=>
 (at_ x1.Diners x2.B).bind fun x12=>
 (Zi7 x12 x2.A).bind fun x13=>
 (Zch x1 x2 x3 x10 x11) (x13.2,x13.1)
noncomputable def Zeh (x1:Scene) (x2:Edge) (x3:Int):Bool→Option Int
| x6=>
 ifb x6 (
 some 0) (
 (at_ x1.Diners x2.A).bind fun x7=>
 (Zi7 x7 x2.B).bind fun x8=>
 (Zdh x1 x2 x3) (x8.2,x8.1))
noncomputable def Zfh (x1:Scene) (x2:Edge) (x3:Int):Option Int:=
 (Z8f x1 x2.A).bind fun x4=>
 ifb (!x4) (
 (Zeh x1 x2 x3) true) (
 (Z8f x1 x2.B).bind fun x5=>
 (Zeh x1 x2 x3) (!x5))
theorem k_table_Count (x1:Scene) (x2:Edge) (x3:Int) (r:Int) (h:Zfh x1 x2 x3=some r):Zs2 Tryz.prog 63 [.agg (Scene.row x1),.agg (Edge.row x2),.iv x3] (.iv r):=by
 refine Zw2 ok63 rfl rfl fun w0 H0=>?_
 rw [Zfh] at h
 refine Zn2 12 ?_;dsimp only [go_sem];refine An ?_;obtain ⟨x4,ex4,h⟩:=Bs h;refine Z13 trivial (Z9f x1 x2.A _ ex4) (h:=?_);refine Zn2 2 ?_;dsimp only [go_sem];refine An ?_;refine Zg4 (fun (x6:Bool)=>(⟨(.any :: .any :: .iv x3 :: .ptr 0 0 :: .ptr 1 0::an 23 (.bv x6::an 106 [])),[some ⟨48,[.sl 3 (List.map Diner.row x1.Diners),.sl 5 (List.map Mail.row x1.Mail)]⟩,some ⟨30,[.iv x2.A,.iv x2.B]⟩],[]⟩:St)) (Zeh x1 x2 x3) r ?_ fun J1=>?_
 ·intro x6 h;rw [Zeh] at h;(try dsimp only);refine Zi4 h rfl (fun _ h=>?_) fun _ h=>?_
  ·refine Zn2 4 ?_;dsimp only [go_sem];refine An ?_;exact Zq4 (res:=fun (r:Int)=>.iv r) ok63 h
  ·refine Zn2 2 ?_;dsimp only [go_sem];refine An ?_;refine Zg4 (fun ((x10,x11):(Bool×Side))=>(⟨(.any :: .any :: .iv x3 :: .ptr 0 0 :: .ptr 1 0 :: .any :: .any :: .ptr 2 0 :: .bv x10::an 126 []),[some ⟨48,[.sl 3 (List.map Diner.row x1.Diners),.sl 5 (List.map Mail.row x1.Mail)]⟩,some ⟨30,[.iv x2.A,.iv x2.B]⟩,some ⟨66,[.iv x11.Peer,.iv x11.Epoch,.iv x11.State,.bv x11.Fork,.bv x11.Dirty,.bv x11.Token,.bv x11.Bottle,.bv x11.Ask]⟩],[]⟩:St)) (Zdh x1 x2 x3) r ?_ fun J2=>?_
   ·rintro ⟨x10,x11⟩ h;rw [Zdh] at h;(try dsimp only);refine Zn2 1 ?_;dsimp only [go_sem];refine An ?_
    refine Zg4 (fun ((x15,x16):(Bool×Side))=>(⟨(.any :: .any :: .iv x3 :: .ptr 0 0 :: .ptr 1 0 :: .any :: .any :: .ptr 2 0 :: .bv x10 :: .ptr 3 0 :: .bv x15::an 124 []),[some ⟨48,[.sl 3 (List.map Diner.row x1.Diners),.sl 5 (List.map Mail.row x1.Mail)]⟩,some ⟨30,[.iv x2.A,.iv x2.B]⟩,some ⟨66,[.iv x11.Peer,.iv x11.Epoch,.iv x11.State,.bv x11.Fork,.bv x11.Dirty,.bv x11.Token,.bv x11.Bottle,.bv x11.Ask]⟩,some ⟨66,[.iv x16.Peer,.iv x16.Epoch,.iv x16.State,.bv x16.Fork,.bv x16.Dirty,.bv x16.Token,.bv x16.Bottle,.bv x16.Ask]⟩],[]⟩:St)) (Zch x1 x2 x3 x10 x11) r ?_ fun J3=>?_
    ·rintro ⟨x15,x16⟩ h;rw [Zch] at h;(try dsimp only);refine Zn2 6 ?_;dsimp only [go_sem];refine An ?_
     refine Zg4 (fun (x17:Bool)=>(⟨(.any :: .any :: .iv x3 :: .ptr 0 0 :: .ptr 1 0 :: .any :: .any :: .ptr 2 0 :: .any :: .ptr 3 0::an 55 (.bv x17::an 69 [])),[some ⟨48,[.sl 3 (List.map Diner.row x1.Diners),.sl 5 (List.map Mail.row x1.Mail)]⟩,some ⟨30,[.iv x2.A,.iv x2.B]⟩,some ⟨66,[.iv x11.Peer,.iv x11.Epoch,.iv x11.State,.bv x11.Fork,.bv x11.Dirty,.bv x11.Token,.bv x11.Bottle,.bv x11.Ask]⟩,some ⟨66,[.iv x16.Peer,.iv x16.Epoch,.iv x16.State,.bv x16.Fork,.bv x16.Dirty,.bv x16.Token,.bv x16.Bottle,.bv x16.Ask]⟩],[]⟩:St)) (Zbh x1 x2 x3 x11 x16) r ?_ fun J4=>?_
     ·intro x17 h;rw [Zbh] at h;(try dsimp only);refine Zi4 h rfl (fun _ h=>?_) fun _ h=>?_
      ·refine Zn2 4 ?_;dsimp only [go_sem];refine An ?_;exact Zq4 (res:=fun (r:Int)=>.iv r) ok63 h
      ·refine Zn2 16 ?_;dsimp only [go_sem];refine An ?_;refine Zi4 h rfl (fun _ h=>?_) fun _ h=>?_
       ·refine Zn2 17 ?_;dsimp only [go_sem];refine An ?_;refine Zg4 (fun (x38:Int)=>(⟨(.any :: .any :: .iv x3 :: .ptr 0 0 :: .ptr 1 0 :: .any :: .any :: .ptr 2 0::an 4 (.iv x38::an 122 [])),[some ⟨48,[.sl 3 (List.map Diner.row x1.Diners),.sl 5 (List.map Mail.row x1.Mail)]⟩,some ⟨30,[.iv x2.A,.iv x2.B]⟩,some ⟨66,[.iv x11.Peer,.iv x11.Epoch,.iv x11.State,.bv x11.Fork,.bv x11.Dirty,.bv x11.Token,.bv x11.Bottle,.bv x11.Ask]⟩],[]⟩:St)) (Z1h x1 x2 x3 x11) r ?_ fun J5=>?_
        ·intro x38 h;rw [Z1h] at h;(try dsimp only);refine Zn2 8 ?_;dsimp only [go_sem];refine An ?_;refine Zg4 (fun (x58:Int)=>(⟨(an 12 (.iv x58::an 122 [])),[],[]⟩:St)) Zxg r ?_ fun J7=>?_
         ·intro x58 h;rw [Zxg] at h;(try dsimp only);refine Zn2 5 ?_;dsimp only [go_sem];refine An ?_;exact Zq4 (res:=fun (r:Int)=>.iv r) ok63 h
         ·refine Zn2 1 ?_;dsimp only [go_sem];refine An ?_;refine Zh4 h (fun ((x44,x45):(Int×Int))=>(⟨(.any :: .any :: .iv x3 :: .any :: .ptr 1 0 :: .any :: .any :: .ptr 2 0::an 4 (.iv x44::an 73 (.sl 5 (List.map Mail.row x1.Mail) :: .iv (ln Mail.row x1.Mail) :: .iv x45::an 46 []))),[none,some ⟨30,[.iv x2.A,.iv x2.B]⟩,some ⟨66,[.iv x11.Peer,.iv x11.Epoch,.iv x11.State,.bv x11.Fork,.bv x11.Dirty,.bv x11.Token,.bv x11.Bottle,.bv x11.Ask]⟩],[]⟩:St)) (by simp [go_sem]) (by rintro ⟨x44,x45⟩;first | rfl | simp [go_sem]) ?_
          rintro n1 ⟨x44,x45⟩ y1 h hin1 hout1;rw [Z0h] at h;(try dsimp only);refine Zn2 5 ?_;dsimp only [go_sem];refine An ?_;refine Zi4 h rfl (fun _ h=>?_) fun _ h=>?_
          ·refine Zn2 5 ?_;dsimp only [go_sem];refine An ?_;obtain ⟨x46,ex46,h⟩:=Bs h;refine Zl4 Mail.row ex46 trivial rfl rfl rfl ?_;refine Zn2 12 ?_;dsimp only [go_sem];refine An ?_
           refine Zg4 (fun (x47:Bool)=>(⟨(.any :: .any :: .iv x3 :: .any :: .ptr 1 0 :: .any :: .any :: .ptr 2 0::an 4 (.iv x44::an 73 (.sl 5 (List.map Mail.row x1.Mail) :: .iv (ln Mail.row x1.Mail) :: .iv x45::an 41 (.bv x47::an 4 [])))),[none,some ⟨30,[.iv x2.A,.iv x2.B]⟩,some ⟨66,[.iv x11.Peer,.iv x11.Epoch,.iv x11.State,.bv x11.Fork,.bv x11.Dirty,.bv x11.Token,.bv x11.Bottle,.bv x11.Ask]⟩],[]⟩:St)) (Zzg x44 x45) y1 ?_ fun J8=>?_
           ·intro x47 h;rw [Zzg] at h;(try dsimp only);refine Zg4 (fun (x48:Int)=>(⟨(.any :: .any :: .iv x3 :: .any :: .ptr 1 0 :: .any :: .any :: .ptr 2 0::an 4 (.iv x48::an 73 (.sl 5 (List.map Mail.row x1.Mail) :: .iv (ln Mail.row x1.Mail) :: .iv x45::an 46 []))),[none,some ⟨30,[.iv x2.A,.iv x2.B]⟩,some ⟨66,[.iv x11.Peer,.iv x11.Epoch,.iv x11.State,.bv x11.Fork,.bv x11.Dirty,.bv x11.Token,.bv x11.Bottle,.bv x11.Ask]⟩],[]⟩:St)) (Zyg x45) y1 ?_ fun J9=>?_
            ·intro x48 h;rw [Zyg] at h;(try dsimp only);refine Zn2 5 ?_;dsimp only [go_sem];refine An ?_;exact Zr4 h hin1
            ·refine Zi4 h rfl (fun _ h=>?_) fun _ h=>?_
             ·refine Zn2 5 ?_;dsimp only [go_sem];refine An ?_;exact Zs4 J9 (s:=wr (x44+1)) h
             ·refine Zn2 1 ?_;dsimp only [go_sem];refine An ?_;exact Zs4 J9 (s:=x44) h
           ·refine Zp4 97 h rfl (fun _ h=>?_) fun _ h=>?_
            ·dsimp only [go_sem];refine Zn2 8 ?_;dsimp only [go_sem];refine An ?_;refine Zp4 105 h rfl (fun _ h=>?_) fun _ h=>?_
             ·dsimp only [go_sem];refine Zn2 13 ?_;dsimp only [go_sem];refine An ?_;refine Zp4 118 h rfl (fun _ h=>?_) fun _ h=>?_
              ·dsimp only [go_sem];refine Zn2 13 ?_;dsimp only [go_sem];refine An ?_;exact Zs4 J8 (s:=decide (((max x46.From x46.To))=((max x2.A x2.B)))) h
              ·dsimp only [go_sem];refine Zn2 13 ?_;dsimp only [go_sem];refine An ?_;exact Zs4 J8 (s:=false) h
             ·dsimp only [go_sem];refine Zn2 26 ?_;dsimp only [go_sem];refine An ?_;exact Zs4 J8 (s:=false) h
            ·dsimp only [go_sem];refine Zn2 34 ?_;dsimp only [go_sem];refine An ?_;exact Zs4 J8 (s:=false) h
          ·refine Zn2 1 ?_;dsimp only [go_sem];refine An ?_;exact Zs4 J7 (s:=x44) (Zf4 h hout1)
        ·refine Zn2 1 ?_;dsimp only [go_sem];refine An ?_
         refine Zh4 h (fun ((x23,x24):(Int×Int))=>(⟨(.any :: .any :: .iv x3 :: .ptr 0 0 :: .ptr 1 0 :: .any :: .any :: .ptr 2 0::an 3 (.clo 114 [] :: .iv x23::an 60 (.osl 0 :: .iv (ln Side.row ([x11,x16])) :: .iv x24::an 59 []))),[some ⟨48,[.sl 3 (List.map Diner.row x1.Diners),.sl 5 (List.map Mail.row x1.Mail)]⟩,some ⟨30,[.iv x2.A,.iv x2.B]⟩,some ⟨66,[.iv x11.Peer,.iv x11.Epoch,.iv x11.State,.bv x11.Fork,.bv x11.Dirty,.bv x11.Token,.bv x11.Bottle,.bv x11.Ask]⟩],[some ⟨66,8,List.map Side.row ([x11,x16])⟩]⟩:St)) (by simp [go_sem]) (by rintro ⟨x23,x24⟩;first | rfl | simp [go_sem]) ?_
         rintro n1 ⟨x23,x24⟩ y1 h hin1 hout1;rw [Z3h] at h;(try dsimp only);refine Zn2 5 ?_;dsimp only [go_sem];refine An ?_;refine Zi4 h rfl (fun _ h=>?_) fun _ h=>?_
         ·refine Zn2 5 ?_;dsimp only [go_sem];refine An ?_;obtain ⟨x25,ex25,h⟩:=Bs h;refine Z95 Side.row ex25 trivial rfl rfl rfl ?_;refine Zb5 Side.row ex25 trivial rfl rfl rfl ?_;refine Zn2 7 ?_;dsimp only [go_sem];refine An ?_;obtain ⟨x26,ex26,h⟩:=Bs h;refine V_callv trivial rfl (Zug x25 _ ex26) (by kernel_rfl) (h:=?_);refine Zn2 1 ?_;dsimp only [go_sem];refine An ?_
          refine Zg4 (fun (x27:Int)=>(⟨(.any :: .any :: .iv x3 :: .ptr 0 0 :: .ptr 1 0 :: .any :: .any :: .ptr 2 0::an 3 (.clo 114 [] :: .iv x27::an 60 (.osl 0 :: .iv (ln Side.row ([x11,x16])) :: .iv x24::an 59 []))),[some ⟨48,[.sl 3 (List.map Diner.row x1.Diners),.sl 5 (List.map Mail.row x1.Mail)]⟩,some ⟨30,[.iv x2.A,.iv x2.B]⟩,some ⟨66,[.iv x11.Peer,.iv x11.Epoch,.iv x11.State,.bv x11.Fork,.bv x11.Dirty,.bv x11.Token,.bv x11.Bottle,.bv x11.Ask]⟩],[some ⟨66,8,List.map Side.row ([x11,x16])⟩]⟩:St)) (Z2h x24) y1 ?_ fun J6=>?_
          ·intro x27 h;rw [Z2h] at h;(try dsimp only);refine Zn2 5 ?_;dsimp only [go_sem];refine An ?_;exact Zr4 h hin1
          ·refine Zi4 h rfl (fun _ h=>?_) fun _ h=>?_
           ·refine Zn2 5 ?_;dsimp only [go_sem];refine An ?_;exact Zs4 J6 (s:=wr (x23+1)) h
           ·refine Zn2 1 ?_;dsimp only [go_sem];refine An ?_;exact Zs4 J6 (s:=x23) h
         ·refine Zn2 1 ?_;dsimp only [go_sem];refine An ?_;exact Zs4 J5 (s:=x23) (Zf4 h hout1)
       ·refine Zn2 5 ?_;dsimp only [go_sem];refine An ?_;refine Zi4 h rfl (fun _ h=>?_) fun _ h=>?_
        ·refine Zn2 17 ?_;dsimp only [go_sem];refine An ?_;refine Zg4 (fun (x79:Int)=>(⟨(.any :: .any :: .iv x3 :: .ptr 0 0 :: .ptr 1 0 :: .any :: .any :: .ptr 2 0::an 4 (.iv x79::an 122 [])),[some ⟨48,[.sl 3 (List.map Diner.row x1.Diners),.sl 5 (List.map Mail.row x1.Mail)]⟩,some ⟨30,[.iv x2.A,.iv x2.B]⟩,some ⟨66,[.iv x11.Peer,.iv x11.Epoch,.iv x11.State,.bv x11.Fork,.bv x11.Dirty,.bv x11.Token,.bv x11.Bottle,.bv x11.Ask]⟩],[]⟩:St)) (Z8h x1 x2 x3 x11) r ?_ fun J10=>?_
         ·intro x79 h;rw [Z8h] at h;(try dsimp only);refine Zn2 8 ?_;dsimp only [go_sem];refine An ?_;refine Zg4 (fun (x99:Int)=>(⟨(an 12 (.iv x99::an 122 [])),[],[]⟩:St)) Z4h r ?_ fun J12=>?_
          ·intro x99 h;rw [Z4h] at h;(try dsimp only);refine Zn2 5 ?_;dsimp only [go_sem];refine An ?_;exact Zq4 (res:=fun (r:Int)=>.iv r) ok63 h
          ·refine Zn2 1 ?_;dsimp only [go_sem];refine An ?_;refine Zh4 h (fun ((x85,x86):(Int×Int))=>(⟨(.any :: .any :: .iv x3 :: .any :: .ptr 1 0 :: .any :: .any :: .ptr 2 0::an 4 (.iv x85::an 73 (.sl 5 (List.map Mail.row x1.Mail) :: .iv (ln Mail.row x1.Mail) :: .iv x86::an 46 []))),[none,some ⟨30,[.iv x2.A,.iv x2.B]⟩,some ⟨66,[.iv x11.Peer,.iv x11.Epoch,.iv x11.State,.bv x11.Fork,.bv x11.Dirty,.bv x11.Token,.bv x11.Bottle,.bv x11.Ask]⟩],[]⟩:St)) (by simp [go_sem]) (by rintro ⟨x85,x86⟩;first | rfl | simp [go_sem]) ?_
           rintro n1 ⟨x85,x86⟩ y1 h hin1 hout1;rw [Z7h] at h;(try dsimp only);refine Zn2 5 ?_;dsimp only [go_sem];refine An ?_;refine Zi4 h rfl (fun _ h=>?_) fun _ h=>?_
           ·refine Zn2 5 ?_;dsimp only [go_sem];refine An ?_;obtain ⟨x87,ex87,h⟩:=Bs h;refine Zl4 Mail.row ex87 trivial rfl rfl rfl ?_;refine Zn2 12 ?_;dsimp only [go_sem];refine An ?_
            refine Zg4 (fun (x88:Bool)=>(⟨(.any :: .any :: .iv x3 :: .any :: .ptr 1 0 :: .any :: .any :: .ptr 2 0::an 4 (.iv x85::an 73 (.sl 5 (List.map Mail.row x1.Mail) :: .iv (ln Mail.row x1.Mail) :: .iv x86::an 41 (.bv x88::an 4 [])))),[none,some ⟨30,[.iv x2.A,.iv x2.B]⟩,some ⟨66,[.iv x11.Peer,.iv x11.Epoch,.iv x11.State,.bv x11.Fork,.bv x11.Dirty,.bv x11.Token,.bv x11.Bottle,.bv x11.Ask]⟩],[]⟩:St)) (Z6h x85 x86) y1 ?_ fun J13=>?_
            ·intro x88 h;rw [Z6h] at h;(try dsimp only);refine Zg4 (fun (x89:Int)=>(⟨(.any :: .any :: .iv x3 :: .any :: .ptr 1 0 :: .any :: .any :: .ptr 2 0::an 4 (.iv x89::an 73 (.sl 5 (List.map Mail.row x1.Mail) :: .iv (ln Mail.row x1.Mail) :: .iv x86::an 46 []))),[none,some ⟨30,[.iv x2.A,.iv x2.B]⟩,some ⟨66,[.iv x11.Peer,.iv x11.Epoch,.iv x11.State,.bv x11.Fork,.bv x11.Dirty,.bv x11.Token,.bv x11.Bottle,.bv x11.Ask]⟩],[]⟩:St)) (Z5h x86) y1 ?_ fun J14=>?_
             ·intro x89 h;rw [Z5h] at h;(try dsimp only);refine Zn2 5 ?_;dsimp only [go_sem];refine An ?_;exact Zr4 h hin1
             ·refine Zi4 h rfl (fun _ h=>?_) fun _ h=>?_
              ·refine Zn2 5 ?_;dsimp only [go_sem];refine An ?_;exact Zs4 J14 (s:=wr (x85+1)) h
              ·refine Zn2 1 ?_;dsimp only [go_sem];refine An ?_;exact Zs4 J14 (s:=x85) h
            ·refine Zp4 97 h rfl (fun _ h=>?_) fun _ h=>?_
             ·dsimp only [go_sem];refine Zn2 8 ?_;dsimp only [go_sem];refine An ?_;refine Zp4 105 h rfl (fun _ h=>?_) fun _ h=>?_
              ·dsimp only [go_sem];refine Zn2 13 ?_;dsimp only [go_sem];refine An ?_;refine Zp4 118 h rfl (fun _ h=>?_) fun _ h=>?_
               ·dsimp only [go_sem];refine Zn2 13 ?_;dsimp only [go_sem];refine An ?_;exact Zs4 J13 (s:=decide (((max x87.From x87.To))=((max x2.A x2.B)))) h
               ·dsimp only [go_sem];refine Zn2 13 ?_;dsimp only [go_sem];refine An ?_;exact Zs4 J13 (s:=false) h
              ·dsimp only [go_sem];refine Zn2 26 ?_;dsimp only [go_sem];refine An ?_;exact Zs4 J13 (s:=false) h
             ·dsimp only [go_sem];refine Zn2 34 ?_;dsimp only [go_sem];refine An ?_;exact Zs4 J13 (s:=false) h
           ·refine Zn2 1 ?_;dsimp only [go_sem];refine An ?_;exact Zs4 J12 (s:=x85) (Zf4 h hout1)
         ·refine Zn2 1 ?_;dsimp only [go_sem];refine An ?_
          refine Zh4 h (fun ((x64,x65):(Int×Int))=>(⟨(.any :: .any :: .iv x3 :: .ptr 0 0 :: .ptr 1 0 :: .any :: .any :: .ptr 2 0::an 3 (.clo 115 [] :: .iv x64::an 60 (.osl 0 :: .iv (ln Side.row ([x11,x16])) :: .iv x65::an 59 []))),[some ⟨48,[.sl 3 (List.map Diner.row x1.Diners),.sl 5 (List.map Mail.row x1.Mail)]⟩,some ⟨30,[.iv x2.A,.iv x2.B]⟩,some ⟨66,[.iv x11.Peer,.iv x11.Epoch,.iv x11.State,.bv x11.Fork,.bv x11.Dirty,.bv x11.Token,.bv x11.Bottle,.bv x11.Ask]⟩],[some ⟨66,8,List.map Side.row ([x11,x16])⟩]⟩:St)) (by simp [go_sem]) (by rintro ⟨x64,x65⟩;first | rfl | simp [go_sem]) ?_
          rintro n1 ⟨x64,x65⟩ y1 h hin1 hout1;rw [Zah] at h;(try dsimp only);refine Zn2 5 ?_;dsimp only [go_sem];refine An ?_;refine Zi4 h rfl (fun _ h=>?_) fun _ h=>?_
          ·refine Zn2 5 ?_;dsimp only [go_sem];refine An ?_;obtain ⟨x66,ex66,h⟩:=Bs h;refine Z95 Side.row ex66 trivial rfl rfl rfl ?_;refine Zb5 Side.row ex66 trivial rfl rfl rfl ?_;refine Zn2 7 ?_;dsimp only [go_sem];refine An ?_;obtain ⟨x67,ex67,h⟩:=Bs h;refine V_callv trivial rfl (Zwg x66 _ ex67) (by kernel_rfl) (h:=?_);refine Zn2 1 ?_;dsimp only [go_sem];refine An ?_
           refine Zg4 (fun (x68:Int)=>(⟨(.any :: .any :: .iv x3 :: .ptr 0 0 :: .ptr 1 0 :: .any :: .any :: .ptr 2 0::an 3 (.clo 115 [] :: .iv x68::an 60 (.osl 0 :: .iv (ln Side.row ([x11,x16])) :: .iv x65::an 59 []))),[some ⟨48,[.sl 3 (List.map Diner.row x1.Diners),.sl 5 (List.map Mail.row x1.Mail)]⟩,some ⟨30,[.iv x2.A,.iv x2.B]⟩,some ⟨66,[.iv x11.Peer,.iv x11.Epoch,.iv x11.State,.bv x11.Fork,.bv x11.Dirty,.bv x11.Token,.bv x11.Bottle,.bv x11.Ask]⟩],[some ⟨66,8,List.map Side.row ([x11,x16])⟩]⟩:St)) (Z9h x65) y1 ?_ fun J11=>?_
           ·intro x68 h;rw [Z9h] at h;(try dsimp only);refine Zn2 5 ?_;dsimp only [go_sem];refine An ?_;exact Zr4 h hin1
           ·refine Zi4 h rfl (fun _ h=>?_) fun _ h=>?_
            ·refine Zn2 5 ?_;dsimp only [go_sem];refine An ?_;exact Zs4 J11 (s:=wr (x64+1)) h
            ·refine Zn2 1 ?_;dsimp only [go_sem];refine An ?_;exact Zs4 J11 (s:=x64) h
          ·refine Zn2 1 ?_;dsimp only [go_sem];refine An ?_;exact Zs4 J10 (s:=x64) (Zf4 h hout1)
        ·refine Zn2 4 ?_;dsimp only [go_sem];refine An ?_;exact Zq4 (res:=fun (r:Int)=>.iv r) ok63 h
     ·refine Zp4 55 h rfl (fun _ h=>?_) fun _ h=>?_
      ·dsimp only [go_sem];refine Zn2 11 ?_;dsimp only [go_sem];refine An ?_;exact Zs4 J4 (s:=true) h
      ·dsimp only [go_sem];refine Zn2 4 ?_;dsimp only [go_sem];refine An ?_;refine Zp4 59 h rfl (fun _ h=>?_) fun _ h=>?_
       ·dsimp only [go_sem];refine Zn2 7 ?_;dsimp only [go_sem];refine An ?_;exact Zs4 J4 (s:=true) h
       ·dsimp only [go_sem];refine Zn2 7 ?_;dsimp only [go_sem];refine An ?_;exact Zs4 J4 (s:=!decide (x11.Epoch=x16.Epoch)) h
    ·refine Zi3 (by kernel_rfl) fun all hall hs hnap haf=>?_;dsimp only [go_sem];refine Z75 hall hs haf hnap 6 9 [4,2,2,7] [(42,[.ptr 0 0,.sl 3 (List.map Diner.row x1.Diners),.ptr 1 1,.iv x2.B]),(2,[.ptr 1 0,.iv x2.A])] (by kernel_rfl) ?_;dsimp only [go_sem];obtain ⟨x12,ex12,h⟩:=Bs h;refine Zm4 hall hs haf hnap 4 Diner.row ex12 rfl rfl trivial rfl rfl rfl rfl ?_;refine Z65 hall hs haf hnap 1 7 ?_;dsimp only [go_sem];refine An ?_;obtain ⟨x13,ex13,h⟩:=Bs h;refine Zu3 8 12 rfl ?_ ?_
     ·refine Zz3 hall rfl trivial (Zj7 x12 x2.A _ ex13) (h:=?_);dsimp only [go_sem];refine Z65 hall hs haf hnap 3 3 ?_;dsimp only [go_sem];refine An ?_;refine Zt3 12 rfl ?_;refine Zy3 hall rfl trivial ?_;dsimp only [go_sem];refine Zt3 13 rfl ?_;refine Zy3 hall rfl trivial ?_;dsimp only [go_sem];refine Z65 hall hs haf hnap 1 0 ?_;dsimp only [go_sem];refine An ?_;refine Zs3 rfl ?_ _;exact Zs4 J3 (s:=(x13.2,x13.1)) h
     ·refine Zy3 hall rfl trivial ?_;dsimp only [go_sem];refine Zt3 8 rfl ?_;refine Zz3 hall rfl trivial (Zj7 x12 x2.A _ ex13) (h:=?_);dsimp only [go_sem];refine Z65 hall hs haf hnap 3 2 ?_;dsimp only [go_sem];refine An ?_;refine Zt3 13 rfl ?_;refine Zy3 hall rfl trivial ?_;dsimp only [go_sem];refine Z65 hall hs haf hnap 1 0 ?_;dsimp only [go_sem];refine An ?_;refine Zs3 rfl ?_ _;exact Zs4 J3 (s:=(x13.2,x13.1)) h
   ·refine Zi3 (by kernel_rfl) fun all hall hs hnap haf=>?_;dsimp only [go_sem];refine Z75 hall hs haf hnap 6 9 [4,2,2,7] [(30,[.ptr 0 0,.sl 3 (List.map Diner.row x1.Diners),.ptr 1 0,.iv x2.A]),(2,[.ptr 1 1,.iv x2.B])] (by kernel_rfl) ?_;dsimp only [go_sem];obtain ⟨x7,ex7,h⟩:=Bs h;refine Zm4 hall hs haf hnap 4 Diner.row ex7 rfl rfl trivial rfl rfl rfl rfl ?_;refine Z65 hall hs haf hnap 1 7 ?_;dsimp only [go_sem];refine An ?_;obtain ⟨x8,ex8,h⟩:=Bs h;refine Zu3 8 12 rfl ?_ ?_
    ·refine Zz3 hall rfl trivial (Zj7 x7 x2.B _ ex8) (h:=?_);dsimp only [go_sem];refine Z65 hall hs haf hnap 3 3 ?_;dsimp only [go_sem];refine An ?_;refine Zt3 12 rfl ?_;refine Zy3 hall rfl trivial ?_;dsimp only [go_sem];refine Zt3 13 rfl ?_;refine Zy3 hall rfl trivial ?_;dsimp only [go_sem];refine Z65 hall hs haf hnap 1 0 ?_;dsimp only [go_sem];refine An ?_;refine Zs3 rfl ?_ _;exact Zs4 J2 (s:=(x8.2,x8.1)) h
    ·refine Zy3 hall rfl trivial ?_;dsimp only [go_sem];refine Zt3 8 rfl ?_;refine Zz3 hall rfl trivial (Zj7 x7 x2.B _ ex8) (h:=?_);dsimp only [go_sem];refine Z65 hall hs haf hnap 3 2 ?_;dsimp only [go_sem];refine An ?_;refine Zt3 13 rfl ?_;refine Zy3 hall rfl trivial ?_;dsimp only [go_sem];refine Z65 hall hs haf hnap 1 0 ?_;dsimp only [go_sem];refine An ?_;refine Zs3 rfl ?_ _;exact Zs4 J2 (s:=(x8.2,x8.1)) h
 ·refine Zp4 22 h rfl (fun _ h=>?_) fun _ h=>?_
  ·dsimp only [go_sem];refine Zn2 7 ?_;dsimp only [go_sem];refine An ?_;exact Zs4 J1 (s:=true) h
  ·dsimp only [go_sem];refine Zn2 3 ?_;dsimp only [go_sem];refine An ?_;obtain ⟨x5,ex5,h⟩:=Bs h;refine Z13 trivial (Z9f x1 x2.B _ ex5) (h:=?_);refine Zn2 3 ?_;dsimp only [go_sem];refine An ?_;exact Zs4 J1 (s:=!x5) h
set_option maxRecDepth 100000
set_option maxHeartbeats 4000000
@[go_sem] def e73:EC:=.seq (.reg [(Qx 1 53 2 0),(Qa 2 (.mv (.c .ff)))]) (.seq (.reg [(Qf 3 0 1),(Ql 4 3),(Qa 5 (.bin .leq (.t 4) (.c (.iv 10)))),(Qm 6 5),(Qg 7 6 true (.loadA 2 (.t 1))),(Qg 8 6 true (.call 42 [(.t 7)])),(Qp 9 6 8),(Qm 2 9)]) (.ret))
theorem ok73:FnOK Tryz.prog 73 Tryz.f73 e73 [.t 2] 1 9:=⟨by kernel_rfl,⟨_,rfl,by kernel_rfl⟩,by kernel_rfl,by kernel_rfl⟩
noncomputable def Zgh:Bool→Option Bool
| x3=>
 some x3
noncomputable def Zhh (x1:Graph):Option Bool:=
 ifb (decide (x1.N≤10)) (
 (Zzb x1).bind fun x2=>
 Zgh x2) (
 Zgh false)
theorem Zih (x1:Graph) (r:Bool) (h:Zhh x1=some r):Zs2 Tryz.prog 73 [.agg (Graph.row x1)] (.bv r):=by
 refine Zw2 ok73 rfl rfl fun w0 H0=>?_
 rw [Zhh] at h
 refine Zn2 11 ?_;dsimp only [go_sem];refine An ?_;refine Zg4 (fun (x3:Bool)=>(⟨(.any :: .any :: .bv x3::an 7 []),[],[]⟩:St)) Zgh r ?_ fun J1=>?_
 ·intro x3 h;rw [Zgh] at h;(try dsimp only);exact Zq4 (res:=fun (r:Bool)=>.bv r) ok73 h
 ·refine Zp4 6 h rfl (fun _ h=>?_) fun _ h=>?_
  ·dsimp only [go_sem];refine Zn2 1 ?_;dsimp only [go_sem];refine An ?_;obtain ⟨x2,ex2,h⟩:=Bs h;refine Z13 trivial (Z0c x1 _ ex2) (h:=?_);refine Zn2 3 ?_;dsimp only [go_sem];refine An ?_;exact Zs4 J1 (s:=x2) h
  ·dsimp only [go_sem];refine Zn2 5 ?_;dsimp only [go_sem];refine An ?_;exact Zs4 J1 (s:=false) h
def mailB (e:Edge) (k ep:Int) (m:Mail):Bool:=decide (m.Msg.Kind=k)&&(decide (m.Msg.Epoch=ep)&&(decide (min m.From m.To=min e.A e.B)&&decide (max m.From m.To=max e.A e.B)))
def Zjh (M:List Mail) (e:Edge) (k ep:Int):Nat:=M.countP (mailB e k ep)
theorem Zkh (M:List Mail) (m:Mail) (e:Edge) (k ep:Int):Zjh (M++[m]) e k ep=Zjh M e k ep+bn (mailB e k ep m):=by
 unfold Zjh
 rw [List.countP_append,List.countP_cons]
 cases mailB e k ep m<;>simp [bn]
theorem Zlh (M:List Mail) (e:Edge) (k ep:Int):Zjh M e k ep≤M.length:=List.countP_le_length
theorem s_countL2 (s:Scene) (e:Edge) (k:Int) (x:Side) (n:Nat) (hn:n≤2) (hM:s.Mail.length≤900000):loop (Z0h s e k x) ((n:Int),0)=some ((n+Zjh s.Mail e k x.Epoch:Nat):Int):=by
 have key:=Zn7 s.Mail (Z0h s e k x) (fun pre=>(((n+Zjh pre e k x.Epoch:Nat):Int),(pre.length:Int))) ((n+Zjh s.Mail e k x.Epoch:Nat):Int) (fun pre m post h=>?_) ?_
 ·exact key
 ·have hx:=Zo7 h
  have hm:=Zp7 h
  have hc:=Zlh pre e k x.Epoch
  dsimp only [Z0h]
  rw [Z16 hx,Zv5,Zz5 hx,Option.bind_some,Zkh,Zt7]
  have step:∀z,Zzg ((n+Zjh pre e k x.Epoch:Nat):Int) (pre.length:Int) z=some (.inl (((n+(Zjh pre e k x.Epoch+bn z):Nat):Int),((pre.length+1:Nat):Int))):=fun z=>by
   cases z with
   | true=>dsimp only [Zzg,Zyg];rw [Zv5,Z36 (by omega),Z36 (by omega)];rfl
   | false=>dsimp only [Zzg,Zyg];rw [Zw5,Z36 (by omega)];rfl
  unfold mailB
  cases h1:decide (m.Msg.Kind=k) with
  | false=>rw [Zw5,step,Bool.false_and]
  | true=>
    cases h2:decide (m.Msg.Epoch=x.Epoch) with
    | false=>rw [Zv5,Zw5,step,Bool.true_and,Bool.false_and]
    | true=>
      cases h3:decide (min m.From m.To=min e.A e.B) with
      | false=>rw [Zv5,Zv5,Zw5,step,Bool.true_and,Bool.true_and,Bool.false_and]
      | true=>rw [Zv5,Zv5,Zv5,step,Bool.true_and,Bool.true_and,Bool.true_and]
 ·dsimp only [Z0h]
  rw [Z26,Zw5];rfl
theorem s_countL4 (s:Scene) (e:Edge) (k:Int) (x:Side) (n:Nat) (hn:n≤2) (hM:s.Mail.length≤900000):loop (Z7h s e k x) ((n:Int),0)=some ((n+Zjh s.Mail e k x.Epoch:Nat):Int):=by
 have key:=Zn7 s.Mail (Z7h s e k x) (fun pre=>(((n+Zjh pre e k x.Epoch:Nat):Int),(pre.length:Int))) ((n+Zjh s.Mail e k x.Epoch:Nat):Int) (fun pre m post h=>?_) ?_
 ·exact key
 ·have hx:=Zo7 h
  have hm:=Zp7 h
  have hc:=Zlh pre e k x.Epoch
  dsimp only [Z7h]
  rw [Z16 hx,Zv5,Zz5 hx,Option.bind_some,Zkh,Zt7]
  have step:∀z,Z6h ((n+Zjh pre e k x.Epoch:Nat):Int) (pre.length:Int) z=some (.inl (((n+(Zjh pre e k x.Epoch+bn z):Nat):Int),((pre.length+1:Nat):Int))):=fun z=>by
   cases z with
   | true=>dsimp only [Z6h,Z5h];rw [Zv5,Z36 (by omega),Z36 (by omega)];rfl
   | false=>dsimp only [Z6h,Z5h];rw [Zw5,Z36 (by omega)];rfl
  unfold mailB
  cases h1:decide (m.Msg.Kind=k) with
  | false=>rw [Zw5,step,Bool.false_and]
  | true=>
    cases h2:decide (m.Msg.Epoch=x.Epoch) with
    | false=>rw [Zv5,Zw5,step,Bool.true_and,Bool.false_and]
    | true=>
      cases h3:decide (min m.From m.To=min e.A e.B) with
      | false=>rw [Zv5,Zv5,Zw5,step,Bool.true_and,Bool.true_and,Bool.false_and]
      | true=>rw [Zv5,Zv5,Zv5,step,Bool.true_and,Bool.true_and,Bool.true_and]
 ·dsimp only [Z7h]
  rw [Z26,Zw5];rfl
theorem s_countS1 (s:Scene) (e:Edge) (k:Int) (x y:Side):loop (Z3h s e k x y) (0,0)=Z1h s e k x ((bn x.Fork+bn y.Fork:Nat):Int):=by
 have ef:(([x,y].countP (·.Fork):Nat):Int)=((bn x.Fork+bn y.Fork:Nat):Int):=by
  rw [List.countP_cons,List.countP_cons,List.countP_nil]
  cases x.Fork<;>cases y.Fork<;>rfl
 rw [←ef]
 refine Zm7 [x,y] (Z3h s e k x y) (fun pre=>(((pre.countP (·.Fork):Nat):Int),(pre.length:Int))) (fun _ _=>Z1h s e k x (([x,y].countP (·.Fork):Nat):Int)) (fun pre z post h=>.inl ⟨?_,rfl⟩) ?_
 ·have hx:=Zo7 h
  have hm:=Zp7 h
  have h2:pre.length<2:=hm
  have hc:pre.countP (·.Fork)≤pre.length:=List.countP_le_length
  dsimp only [Z3h,Ztg,Z2h]
  rw [Z16 hx,Zv5,Zz5 hx,Option.bind_some,Option.bind_some,Zt7,List.countP_append,List.countP_cons,List.countP_nil,Z36 (by omega),Z36 (by omega)]
  cases z.Fork<;>rfl
 ·dsimp only [Z3h]
  rw [Z26,Zw5]
theorem s_countS3 (s:Scene) (e:Edge) (k:Int) (x y:Side):loop (Zah s e k x y) (0,0)=Z8h s e k x ((bn x.Token+bn y.Token:Nat):Int):=by
 have ef:(([x,y].countP (·.Token):Nat):Int)=((bn x.Token+bn y.Token:Nat):Int):=by
  rw [List.countP_cons,List.countP_cons,List.countP_nil]
  cases x.Token<;>cases y.Token<;>rfl
 rw [←ef]
 refine Zm7 [x,y] (Zah s e k x y) (fun pre=>(((pre.countP (·.Token):Nat):Int),(pre.length:Int))) (fun _ _=>Z8h s e k x (([x,y].countP (·.Token):Nat):Int)) (fun pre z post h=>.inl ⟨?_,rfl⟩) ?_
 ·have hx:=Zo7 h
  have hm:=Zp7 h
  have h2:pre.length<2:=hm
  have hc:pre.countP (·.Token)≤pre.length:=List.countP_le_length
  dsimp only [Zah,Zvg,Z9h]
  rw [Z16 hx,Zv5,Zz5 hx,Option.bind_some,Option.bind_some,Zt7,List.countP_append,List.countP_cons,List.countP_nil,Z36 (by omega),Z36 (by omega)]
  cases z.Token<;>rfl
 ·dsimp only [Zah]
  rw [Z26,Zw5]
def countS (s:Scene) (e:Edge) (k:Int):Nat:=
 if Zag s e.A&&Zag s e.B then
  match s.Diners[e.A.toNat]?,s.Diners[e.B.toNat]? with
  | some da,some db=>match Zw7 da e.B,Zw7 db e.A with
    | some x,some y=>if decide (x.Epoch=y.Epoch)&&(decide (k=1)||decide (k=2)) then bn (has x k)+bn (has y k)+Zjh s.Mail e k x.Epoch else 0
    | _,_=>0
  | _,_=>0
 else 0
theorem s_Count (s:Scene) (e:Edge) (k:Int) (hD:fewD s.Diners) (hM:s.Mail.length≤900000):Zfh s e k=some (countS s e k:Int):=by
 simp only [Zfh,s_there,Option.bind_some]
 unfold countS
 cases ha:Zag s e.A with
 | false=>rfl
 | true=>
   cases hb:Zag s e.B with
   | false=>rfl
   | true=>
     obtain ⟨da,a1,a2⟩:=Zbg ha
     obtain ⟨db,b1,b2⟩:=Zbg hb
     have la:=hD.2 da (List.mem_iff_getElem?.2 ⟨_,a2⟩)
     have lb:=hD.2 db (List.mem_iff_getElem?.2 ⟨_,b2⟩)
     simp only [Bool.not_true,Zw5,Zeh,a1,a2,b1,b2,Option.bind_some,Zdh,s_Side da e.B (by omega),s_Side db e.A (by omega),Bool.and_self,if_true,Zch]
     cases hx:Zw7 da e.B with
     | none=>rfl
     | some x=>
       cases hy:Zw7 db e.A with
       | none=>rfl
       | some y=>
         simp only [sideP,Bool.not_true,Zw5,Zbh]
         by_cases he:x.Epoch=y.Epoch
         ·by_cases h1:k=1
          ·subst h1
           have n2:bn x.Fork+bn y.Fork≤2:=by cases x.Fork<;>cases y.Fork<;>decide
           simp only [decide_true,Zv5,s_countS1,Z1h,s_countL2 s e 1 x _ n2 hM]
           simp [he,has]
          ·by_cases h2:k=2
           ·subst h2
            have n2:bn x.Token+bn y.Token≤2:=by cases x.Token<;>cases y.Token<;>decide
            simp only [Zw5,show decide ((2:Int)=1)=false from rfl,decide_true,Zv5,s_countS3,Z8h,s_countL4 s e 2 x _ n2 hM]
            simp [he,has]
           ·simp [he,h1,h2]
         ·simp [he]
theorem Inv.first {g:Graph} (hg:okG g=true):Inv g (Zlg g):=Inv.init hg (Zkg hg).1
theorem s_Small (g:Graph):Zhh g=some (decide (g.N≤10)&&okG g):=by
 simp only [Zhh,s_r03Check,Option.bind_some,Zgh]
 cases decide (g.N≤10)<;>rfl
theorem Inv.get {g:Graph} {s:Scene} (h:Inv g s) {a:Int} (h0:0≤a) (h1:a<g.N):∃d,s.Diners[a.toNat]?=some d:=by
 have:=h.len
 exact ⟨_,List.getElem?_eq_getElem (by omega)⟩
theorem Inv.sided {g:Graph} {s:Scene} (h:Inv g s) {a:Int} (h0:0≤a) {d:Diner} (hd:s.Diners[a.toNat]?=some d) {b:Int} (hb:b∈Zhc g a):∃x,Zw7 d b=some x∧x∈d.Sides:=by
 have h1:=(h.shp _ _ hd).2
 rw [Int.toNat_of_nonneg h0] at h1
 have:(Zw7 d b).isSome=true:=by rw [Zkd,h1];exact decide_eq_true hb
 obtain ⟨x,hx⟩:=Option.isSome_iff_exists.1 this
 exact ⟨x,hx,(Zzd hx).1⟩
set_option maxRecDepth 100000
set_option maxHeartbeats 4000000
@[go_sem] def e76:EC:=.seq (.reg [(Qx 2 63 5 0),(Qa 3 (.alloc 63 [.iv 0,.iv 0,.nl,.iv 0,.nl])),(Qi 4 0)]) (.seq (.reg [(Qe 5 5 2),(Ql 6 1),(Qa 7 (.call 77 [(.t 5),(.t 6)])),(Qa 8 (.ext (.t 7) 0)),(Qa 9 (.ext (.t 7) 1)),(Qs 5 3 8),(Qm 4 9)]) (.ret))
theorem ok76:FnOK Tryz.prog 76 Tryz.f76 e76 [.c 3 (some 5),.t 4] 2 8:=⟨by kernel_rfl,⟨_,rfl,by kernel_rfl⟩,by kernel_rfl,by kernel_rfl⟩
noncomputable def Zmh (x1:Drinker) (x2:(List Int)):Option (Drinker×Int):=
 (Zoe x1 x2).bind fun x3=>
 some (x3.1,x3.2)
theorem k_bar_Open_1 (x1:Drinker) (x2:(List Int)) (r:(Drinker×Int)) (h:Zmh x1 x2=some r):Zs2 Tryz.prog 76 [.agg (Drinker.row x1),.elt ((Zx4 1 Zw4) x2) 0] (.tup [.agg (Drinker.row r.1),.iv r.2]):=by
 refine Zw2 ok76 rfl rfl fun w0 H0=>?_
 rw [Zmh] at h
 refine Zn2 10 ?_;dsimp only [go_sem];refine An ?_;obtain ⟨x3,ex3,h⟩:=Bs h;refine Z13 trivial (k_drink_Open x1 x2 _ ex3) (h:=?_);refine Zn2 5 ?_;dsimp only [go_sem];refine An ?_;exact Zq4 (res:=fun (r:(Drinker×Int))=>.tup [.agg (Drinker.row r.1),.iv r.2]) ok76 h
set_option maxRecDepth 100000
set_option maxHeartbeats 4000000
@[go_sem] def e57:EC:=.seq (.reg [(Qx 1 63 5 0),(Qa 2 (.mv (.c .ff)))]) (.seq (.reg [(Qe 3 5 1),(Qa 4 (.call 58 [(.t 3)])),(Qa 5 (.bin .neq (.t 4) (.c (.iv 0)))),(Qm 2 5)]) (.ret))
theorem ok57:FnOK Tryz.prog 57 Tryz.f57 e57 [.t 2] 1 5:=⟨by kernel_rfl,⟨_,rfl,by kernel_rfl⟩,by kernel_rfl,by kernel_rfl⟩
noncomputable def Znh (x1:Drinker):Option Bool:=
 (Zt9 x1).bind fun x2=>
 some (!decide (x2=0))
theorem k_bar_Check_1 (x1:Drinker) (r:Bool) (h:Znh x1=some r):Zs2 Tryz.prog 57 [.agg (Drinker.row x1)] (.bv r):=by
 refine Zw2 ok57 rfl rfl fun w0 H0=>?_
 rw [Znh] at h
 refine Zn2 8 ?_;dsimp only [go_sem];refine An ?_;obtain ⟨x2,ex2,h⟩:=Bs h;refine Z13 trivial (Zu9 x1 _ ex2) (h:=?_);refine Zn2 3 ?_;dsimp only [go_sem];refine An ?_;exact Zq4 (res:=fun (r:Bool)=>.bv r) ok57 h
set_option maxRecDepth 100000
set_option maxHeartbeats 4000000
@[go_sem] def e71:EC:=.seq (.reg [(Qa 2 (.mv (.c .nl)))]) (.seq (.seq (.reg [(Qm 3 0),(Qa 4 (.isnil false (.t 3)))]) (.ite (.t 4) (.seq (.reg [(Qa 2 (.mv (.c .nl)))]) (.ret)) (.skip))) (.seq (.reg [(Qa 5 (.bsl 95 5 0 [.iv 0,.iv 0,.iv 0,.iv 0,.iv 0] [])),(Qm 6 0),(Qa 7 (.app 95 5 40 (.t 5) (.t 6))),(Qm 2 7)]) (.ret)))
theorem ok71:FnOK Tryz.prog 71 Tryz.f71 e71 [.t 2] 1 7:=⟨by kernel_rfl,⟨_,rfl,by kernel_rfl⟩,by kernel_rfl,by kernel_rfl⟩
noncomputable def Zoh (x1:(List Mail)):Option (List Mail):=Zb4 40 [] x1
theorem Zph (x1:(List Mail)) (r:(List Mail)) (h:Zoh x1=some r):FunO Tryz.prog 71 [.sl 5 (List.map Mail.row x1)] 95 5 (List.map Mail.row r):=by
 refine Z35 ok71 rfl fun w0 H0=>?_
 rw [Zoh] at h
 refine Zn2 100 ?_
 dsimp only [e71,go_sem]
 refine ⟨by simp,?_⟩
 refine V_isnil trivial rfl (fun hn=>?_) ?_
 ·refine Zn2 100 ?_
  dsimp only [go_sem]
  refine ⟨by simp,?_⟩
  refine V_own 2 95 5 rfl rfl ?_
  dsimp only [go_sem]
  have hn:x1=[]:=by simpa using hn
  subst hn
  exact Z85 Mail.row (e:=[]) ok71 (by simpa [Zb4] using h) rfl rfl
 ·refine Zn2 100 ?_
  dsimp only [go_sem]
  refine ⟨by simp,?_⟩
  refine Zn4 Mail.row h trivial rfl rfl rfl ?_
  refine Zn2 100 ?_
  dsimp only [go_sem]
  refine ⟨by simp,?_⟩
  exact Z85 Mail.row ok71 (rfl:some r=some r) rfl rfl
set_option maxRecDepth 100000
set_option maxHeartbeats 4000000
@[go_sem] def e26_L0:EC:=.seq (.reg [(Qa 15 (.bin .lss (.t 14) (.t 13)))]) (.seq (.ite (.t 15) (.skip) (.exit 0)) (.seq (.blk 1 (.seq (.reg [(Qk 16 5 12 14),(Qe 17 5 16),(Qa 5 (.alloc 63 [.iv 0,.iv 0,.nl,.iv 0,.nl])),(Qs 5 5 17)]) (.seq (.reg [(Qf 18 0 5),(Qe 19 3 18),(Qa 6 (.alloc 61 [.iv 0,.iv 0,.nl])),(Qs 3 6 19)]) (.seq (.reg [(Qf 20 2 6),(Ql 21 20),(Qa 22 (.call 72 [(.t 21)])),(Qf 23 2 6),(Qs 1 23 22)]) (.reg [(Qf 24 0 3),(Ql 25 24),(Qe 26 3 6),(Qa 27 (.bsl 61 3 1 [.iv 0,.iv 0,.nl] [(0,(.t 26))])),(Qa 28 (.app 61 3 40 (.t 25) (.t 27))),(Qf 29 0 3),(Qs 1 29 28)]))))) (.reg [(Qv 30 14 1),(Qm 14 30)])))
@[go_sem] def e26:EC:=.seq (.reg [(Qx 1 25 2 0),(Qa 2 (.alloc 48 [.nl,.nl]))]) (.seq (.reg [(Qf 7 1 1),(Ql 8 7),(Qa 9 (.call 71 [(.t 8)])),(Qa 10 (.build [.nl,.nl] [(1,1,(.t 9))])),(Qa 3 (.alloc 48 [.nl,.nl])),(Qs 2 3 10)]) (.seq (.seq (.reg [(Qf 11 0 1),(Ql 12 11),(Qa 13 (.len (.t 12))),(Qi 14 0)]) (.blk 0 (.loop e26_L0))) (.seq (.reg [(Qe 31 2 3),(Qs 2 2 31)]) (.ret))))
theorem ok26:FnOK Tryz.prog 26 Tryz.f26 e26 [.c 2 (some 2)] 1 31:=⟨by kernel_rfl,⟨_,rfl,by kernel_rfl⟩,by kernel_rfl,by kernel_rfl⟩
noncomputable def Zqh (x2:(List Mail)):(List Diner)→Option Scene
| x20=>
 some (Scene.mk x20 x2)
noncomputable def Zrh (x1:Bar) (x2:(List Mail)):(Int×(List Diner))→Option ((Int×(List Diner)) ⊕ Scene)
| (x8,x9)=>
 ifb (decide (x8<(ln Drinker.row x1.Drinkers))) (
 (at_ x1.Drinkers x8).bind fun x10=>
 (Zx8 x10.Diner.Sides).bind fun x11=>
 (Zb4 40 x9 ([(Diner.mk x10.Diner.ID x10.Diner.Phase x11)])).bind fun x12=>
 some (.inl (wr (x8+1),x12))) (
 Option.map Sum.inr ((Zqh x2) x9))
noncomputable def Zsh (x1:Bar):Option Scene:=
 (Zoh x1.Mail).bind fun x2=>
 loop (Zrh x1 x2) (0,([]:List Diner))
theorem Zth (x1:Bar) (r:Scene) (h:Zsh x1=some r):Zs2 Tryz.prog 26 [.agg (Bar.row x1)] (.agg (Scene.row r)):=by
 refine Zw2 ok26 rfl rfl fun w0 H0=>?_
 rw [Zsh] at h
 refine Zn2 9 ?_;dsimp only [go_sem];refine An ?_;obtain ⟨x2,ex2,h⟩:=Bs h;refine Z45 trivial (Zph x1.Mail _ ex2) (h:=?_);refine Zn2 12 ?_;dsimp only [go_sem];refine An ?_;refine Zg4 (fun (x20:(List Diner))=>(⟨(.any :: .any :: .ptr 1 0 :: .ptr 2 0::an 28 []),[none,some ⟨48,[.nl,.nl]⟩,some ⟨48,[.osl 1,.osl 0]⟩],[some ⟨95,5,List.map Mail.row x2⟩,some ⟨61,3,List.map Diner.row x20⟩]⟩:St)) (Zqh x2) r ?_ fun J1=>?_
 ·intro x20 h;rw [Zqh] at h;(try dsimp only);refine Zn2 5 ?_;dsimp only [go_sem];refine An ?_;refine Za3 1 rfl ?_;dsimp only [go_sem];refine Za3 0 rfl ?_;dsimp only [go_sem];exact Zq4 (res:=fun (r:Scene)=>.agg (Scene.row r)) ok26 h
 ·refine Zn2 1 ?_;dsimp only [go_sem];refine An ?_;refine Z54 2 0 61 3 rfl rfl rfl ?_;dsimp only [go_sem];refine Zh4 h (fun ((x8,x9):(Int×(List Diner)))=>(⟨(.any :: .any :: .ptr 1 0 :: .ptr 2 0::an 8 (.sl 5 (List.map Drinker.row x1.Drinkers) :: .iv (ln Drinker.row x1.Drinkers) :: .iv x8::an 17 [])),[none,some ⟨48,[.nl,.nl]⟩,some ⟨48,[.osl 1,.osl 0]⟩],[some ⟨95,5,List.map Mail.row x2⟩,some ⟨61,3,List.map Diner.row x9⟩]⟩:St)) (by simp [go_sem]) (by rintro ⟨x8,x9⟩;first | rfl | simp [go_sem]) ?_;rintro n1 ⟨x8,x9⟩ y1 h hin1 hout1;rw [Zrh] at h
  (try dsimp only);refine Zn2 5 ?_;dsimp only [go_sem];refine An ?_;refine Zi4 h rfl (fun _ h=>?_) fun _ h=>?_
  ·refine Zn2 5 ?_;dsimp only [go_sem];refine An ?_;obtain ⟨x10,ex10,h⟩:=Bs h;refine Zl4 Drinker.row ex10 trivial rfl rfl rfl ?_;refine Zn2 15 ?_;dsimp only [go_sem];refine An ?_;obtain ⟨x11,ex11,h⟩:=Bs h;refine Z45 trivial (Zy8 x10.Diner.Sides _ ex11) (h:=?_);refine Zn2 7 ?_;dsimp only [go_sem];refine An ?_;refine Za3 2 rfl ?_;dsimp only [go_sem];refine Zn2 1 ?_;dsimp only [go_sem];refine An ?_;obtain ⟨x12,ex12,h⟩:=Bs h;refine Zn4 Diner.row ex12 trivial rfl rfl rfl ?_;refine Zn2 8 ?_;dsimp only [go_sem];refine An ?_
   refine Z44 4 1 rfl rfl rfl ?_;dsimp only [go_sem];exact Zr4 h hin1
  ·refine Zn2 1 ?_;dsimp only [go_sem];refine An ?_;exact Zs4 J1 (s:=x9) (Zf4 h hout1)
set_option maxRecDepth 100000
set_option maxHeartbeats 4000000
@[go_sem] def e109_L0:EC:=.seq (.reg [(Qa 9 (.bin .lss (.t 8) (.t 7)))]) (.seq (.ite (.t 9) (.skip) (.exit 0)) (.seq (.blk 1 (.seq (.reg [(Qm 10 8),(Qm 5 10)]) (.seq (.reg [(Qm 11 1),(Qm 12 0),(Qm 13 5),(Qk 14 5 12 13),(Qe 15 5 14),(Qa 16 (.callv (.t 11) [(.t 15)]))]) (.ite (.t 16) (.seq (.reg [(Qm 17 5),(Qm 4 17)]) (.ret)) (.skip))))) (.reg [(Qv 18 8 1),(Qm 8 18)])))
@[go_sem] def e109:EC:=.seq (.reg [(Qi 4 0)]) (.seq (.seq (.reg [(Qm 6 0),(Qa 7 (.len (.t 6))),(Qi 8 0)]) (.blk 0 (.loop e109_L0))) (.seq (.reg [(Qa 4 (.mv (.c (.iv (-1)))))]) (.ret)))
theorem ok109:FnOK Tryz.prog 109 Tryz.f109 e109 [.t 4] 2 17:=⟨by kernel_rfl,⟨_,rfl,by kernel_rfl⟩,by kernel_rfl,by kernel_rfl⟩
noncomputable def Zuh:Unit→Option Int
| ()=>
 some (-1)
noncomputable def Zvh (x1:(List Drinker)) (p1:(Drinker→Option Bool)):Int→Option (Int ⊕ Int)
| x5=>
 ifb (decide (x5<(ln Drinker.row x1))) (
 (at_ x1 x5).bind fun x6=>
 (p1 x6).bind fun x7=>
 ifb x7 (
 Option.map Sum.inr (some x5)) (
 some (.inl (wr (x5+1))))) (
 Option.map Sum.inr (Zuh ()))
noncomputable def Zwh (x1:(List Drinker)) (p1:(Drinker→Option Bool)):Option Int:=
 loop (Zvh x1 p1) 0
theorem Zxh (x1:(List Drinker)) (g1:Nat) (caps1:List AV) (p1:(Drinker→Option Bool)) (hc1:CloOK Tryz.prog g1 caps1 (fun z=>[.agg (Drinker.row z)]) p1 (fun z=>.bv z)) (r:Int) (h:Zwh x1 p1=some r):Zs2 Tryz.prog 109 [.sl 5 (List.map Drinker.row x1),.clo g1 caps1] (.iv r):=by
 refine Zw2 ok109 rfl rfl fun w0 H0=>?_
 rw [Zwh] at h
 refine Zn2 11 ?_;dsimp only [go_sem];refine An ?_;refine Zg4 (fun (_:Unit)=>(⟨(an 19 []),[],[]⟩:St)) Zuh r ?_ fun J1=>?_
 ·rintro ⟨⟩ h;rw [Zuh] at h;(try dsimp only);refine Zn2 4 ?_;dsimp only [go_sem];refine An ?_;exact Zq4 (res:=fun (r:Int)=>.iv r) ok109 h
 ·refine Zn2 1 ?_;dsimp only [go_sem];refine An ?_;refine Zh4 h (fun (x5:Int)=>(⟨(.sl 5 (List.map Drinker.row x1) :: .clo g1 caps1::an 5 (.iv (ln Drinker.row x1) :: .iv x5::an 10 [])),[],[]⟩:St)) (by simp [go_sem]) (by intro x5;first | rfl | simp [go_sem,Z94 _ hc1.pu]) ?_;rintro n1 x5 y1 h hin1 hout1;rw [Zvh] at h;(try dsimp only);refine Zn2 5 ?_;dsimp only [go_sem];refine An ?_;refine Zi4 h rfl (fun _ h=>?_) fun _ h=>?_
  ·refine Zn2 13 ?_;dsimp only [go_sem];refine An ?_;obtain ⟨x6,ex6,h⟩:=Bs h;refine Zl4 Drinker.row ex6 trivial rfl rfl rfl ?_;refine Zn2 1 ?_;dsimp only [go_sem];refine An ?_;obtain ⟨x7,ex7,h⟩:=Bs h;refine Zv4 trivial rfl hc1 (x:=x6) ex7 (by first | exact Za4 _ | simp [go_sem]) (by first | rfl | simp [go_sem,hc1.pu]) ?_;refine Zn2 1 ?_;dsimp only [go_sem];refine An ?_;refine Zi4 h rfl (fun _ h=>?_) fun _ h=>?_
   ·refine Zn2 5 ?_;dsimp only [go_sem];refine An ?_;exact Zq4 (res:=fun (r:Int)=>.iv r) ok109 (Zf4 h hout1)
   ·refine Zn2 6 ?_;dsimp only [go_sem];refine An ?_;exact Zr4 h hin1 (hok:=by first | rfl | simp [go_sem,Z94 _ hc1.pu])
  ·refine Zn2 1 ?_;dsimp only [go_sem];refine An ?_;exact Zs4 J1 (s:=()) (Zf4 h hout1) (hok:=by first | rfl | simp [go_sem,Z94 _ hc1.pu])
set_option maxRecDepth 100000
set_option maxHeartbeats 4000000
@[go_sem] def e60:EC:=.seq (.reg [(Qa 4 (.mv (.c .ff)))]) (.seq (.reg [(Qm 5 0),(Qm 6 1),(Qa 7 (.call 109 [(.t 5),(.t 6)])),(Qa 8 (.bin .geq (.t 7) (.c (.iv 0)))),(Qm 4 8)]) (.ret))
theorem ok60:FnOK Tryz.prog 60 Tryz.f60 e60 [.t 4] 2 7:=⟨by kernel_rfl,⟨_,rfl,by kernel_rfl⟩,by kernel_rfl,by kernel_rfl⟩
noncomputable def Zyh (x1:(List Drinker)) (p1:(Drinker→Option Bool)):Option Bool:=
 (Zwh x1 p1).bind fun x2=>
 some (decide (0≤x2))
theorem Zzh (x1:(List Drinker)) (g1:Nat) (caps1:List AV) (p1:(Drinker→Option Bool)) (hc1:CloOK Tryz.prog g1 caps1 (fun z=>[.agg (Drinker.row z)]) p1 (fun z=>.bv z)) (r:Bool) (h:Zyh x1 p1=some r):Zs2 Tryz.prog 60 [.sl 5 (List.map Drinker.row x1),.clo g1 caps1] (.bv r):=by
 refine Zw2 ok60 rfl rfl fun w0 H0=>?_
 rw [Zyh] at h
 refine Zn2 8 ?_;dsimp only [go_sem];refine An ?_;obtain ⟨x2,ex2,h⟩:=Bs h;refine Z13 trivial (Zxh x1 _ _ p1 hc1 _ ex2) (hp:=(by first | rfl | simp [go_sem,hc1.pu])) (h:=?_);refine Zn2 3 ?_;dsimp only [go_sem];refine An ?_;exact Zq4 (res:=fun (r:Bool)=>.bv r) ok60 h
set_option maxRecDepth 100000
set_option maxHeartbeats 4000000
@[go_sem] def e17:EC:=.seq (.reg [(Qx 1 25 2 0),(Qi 2 0)]) (.seq (.reg [(Qa 3 (.mv (.c (.clo 57 []))))]) (.seq (.seq (.reg [(Qe 4 2 1),(Qa 5 (.call 26 [(.t 4)])),(Qa 6 (.call 59 [(.t 5)])),(Qa 7 (.bin .neq (.t 6) (.c (.iv 0)))),(Qm 8 7),(Qh 9 8 false 0 1),(Qn 10 8 false 9),(Qg 11 8 false (.mv (.t 3))),(Qg 12 8 false (.call 60 [(.t 10),(.t 11)])),(Qq 13 8 12)]) (.ite (.t 13) (.seq (.reg [(Qi 2 160)]) (.ret)) (.skip))) (.seq (.reg [(Qi 2 0)]) (.ret))))
theorem ok17:FnOK Tryz.prog 17 Tryz.f17 e17 [.t 2] 1 13:=⟨by kernel_rfl,⟨_,rfl,by kernel_rfl⟩,by kernel_rfl,by kernel_rfl⟩
noncomputable def Z0i:Bool→Option Int
| x5=>
 ifb x5 (
 some 160) (
 some 0)
noncomputable def Z1i (x1:Bar):Option Int:=
 (Zsh x1).bind fun x2=>
 (Zsf x2).bind fun x3=>
 ifb (!decide (x3=0)) (
 Z0i true) (
 (Zyh x1.Drinkers ((fun z=>Znh z))).bind fun x4=>
 Z0i x4)
theorem Z2i (x1:Bar) (r:Int) (h:Z1i x1=some r):Zs2 Tryz.prog 17 [.agg (Bar.row x1)] (.iv r):=by
 refine Zw2 ok17 rfl rfl fun w0 H0=>?_
 rw [Z1i] at h
 refine Zn2 13 ?_;dsimp only [go_sem];refine An ?_;obtain ⟨x2,ex2,h⟩:=Bs h;refine Z13 trivial (Zth x1 _ ex2) (h:=?_);obtain ⟨x3,ex3,h⟩:=Bs h;refine Z13 trivial (k_table_Check x2 _ ex3) (h:=?_);refine Zn2 2 ?_;dsimp only [go_sem];refine An ?_;refine Zg4 (fun (x5:Bool)=>(⟨(an 13 [.bv x5]),[],[]⟩:St)) Z0i r ?_ fun J1=>?_
 ·intro x5 h;rw [Z0i] at h;(try dsimp only);refine Zi4 h rfl (fun _ h=>?_) fun _ h=>?_
  ·refine Zn2 4 ?_;dsimp only [go_sem];refine An ?_;exact Zq4 (res:=fun (r:Int)=>.iv r) ok17 h
  ·refine Zn2 5 ?_;dsimp only [go_sem];refine An ?_;exact Zq4 (res:=fun (r:Int)=>.iv r) ok17 h
 ·refine Zp4 8 h rfl (fun _ h=>?_) fun _ h=>?_
  ·dsimp only [go_sem];refine Zn2 6 ?_;dsimp only [go_sem];refine An ?_;exact Zs4 J1 (s:=true) h
  ·dsimp only [go_sem];refine Zn2 3 ?_;dsimp only [go_sem];refine An ?_;obtain ⟨x4,ex4,h⟩:=Bs h;refine Z13 trivial (Zzh x1.Drinkers _ _ ((fun z=>Znh z)) ⟨by kernel_rfl,rfl,fun z r hz=>k_bar_Check_1 z r hz⟩ _ ex4) (h:=?_);refine Zn2 2 ?_;dsimp only [go_sem];refine An ?_;exact Zs4 J1 (s:=x4) h
set_option maxRecDepth 100000
set_option maxHeartbeats 4000000
@[go_sem] def e64:EC:=.seq (.reg [(Qx 2 25 2 0),(Qa 4 (.mv (.c .ff)))]) (.seq (.reg [(Qm 5 1),(Qa 6 (.bin .geq (.t 5) (.c (.iv 0)))),(Qm 7 6),(Qg 8 7 true (.mv (.t 1))),(Qh 9 7 true 0 2),(Qn 10 7 true 9),(Qg 11 7 true (.len (.t 10))),(Qg 12 7 true (.bin .lss (.t 8) (.t 11))),(Qp 13 7 12),(Qm 4 13)]) (.ret))
theorem ok64:FnOK Tryz.prog 64 Tryz.f64 e64 [.t 4] 2 12:=⟨by kernel_rfl,⟨_,rfl,by kernel_rfl⟩,by kernel_rfl,by kernel_rfl⟩
noncomputable def Z3i:Bool→Option Bool
| x3=>
 some x3
noncomputable def Z4i (x1:Bar) (x2:Int):Option Bool:=
 ifb (decide (0≤x2)) (
 Z3i (decide (x2<(ln Drinker.row x1.Drinkers)))) (
 Z3i false)
theorem Z5i (x1:Bar) (x2:Int) (r:Bool) (h:Z4i x1 x2=some r):Zs2 Tryz.prog 64 [.agg (Bar.row x1),.iv x2] (.bv r):=by
 refine Zw2 ok64 rfl rfl fun w0 H0=>?_
 rw [Z4i] at h
 refine Zn2 10 ?_;dsimp only [go_sem];refine An ?_;refine Zg4 (fun (x3:Bool)=>(⟨(an 4 (.bv x3::an 9 [])),[],[]⟩:St)) Z3i r ?_ fun J1=>?_
 ·intro x3 h;rw [Z3i] at h;(try dsimp only);exact Zq4 (res:=fun (r:Bool)=>.bv r) ok64 h
 ·refine Zp4 7 h rfl (fun _ h=>?_) fun _ h=>?_
  ·dsimp only [go_sem];refine Zn2 8 ?_;dsimp only [go_sem];refine An ?_;exact Zs4 J1 (s:=decide (x2<(ln Drinker.row x1.Drinkers))) h
  ·dsimp only [go_sem];refine Zn2 8 ?_;dsimp only [go_sem];refine An ?_;exact Zs4 J1 (s:=false) h
set_option maxRecDepth 100000
set_option maxHeartbeats 4000000
@[go_sem] def e89_L0:EC:=.seq (.reg [(Qa 48 (.bin .lss (.t 47) (.t 46)))]) (.seq (.ite (.t 48) (.skip) (.exit 0)) (.seq (.blk 1 (.seq (.reg [(Qm 49 47),(Qk 50 5 45 47),(Qe 51 5 50),(Qa 13 (.alloc 63 [.iv 0,.iv 0,.nl,.iv 0,.nl])),(Qm 12 49),(Qs 5 13 51)]) (.seq (.seq (.reg [(Qm 52 12),(Qm 53 1),(Qa 54 (.bin .eql (.t 52) (.t 53)))]) (.ite (.t 54) (.reg [(Qe 55 5 8),(Qs 5 13 55)]) (.skip))) (.seq (.drw [(Qf 56 0 13),(Qf 57 2 56),(Ql 58 57),(Qa 59 (.call 72 [(.t 58)])),(Qf 60 4 13),(Ql 61 60),(Qa 62 (.call 136 [(.t 61)])),(Qf 63 0 13),(Qf 64 2 63),(Qs 1 64 59),(Qf 65 4 13),(Qs 1 65 62)] [[],[0],[1],[2],[],[4],[5,3],[0,1,2,3,4,5],[7,0,1,2,3,4,5],[8,3,6,0,1,2,3,4,5],[0,1,2,3,4,5,6,7,8,9],[10,6,9,0,1,2,3,4,5,6,7,8,9]] [[1],[0,2],[1,3],[2,9],[5],[4,6],[5,11],[8],[7,9],[3,8],[11],[6,10]]) (.reg [(Qf 66 0 11),(Ql 67 66),(Qe 68 5 13),(Qa 69 (.bsl 63 5 1 [.iv 0,.iv 0,.nl,.iv 0,.nl] [(0,(.t 68))])),(Qa 70 (.app 63 5 72 (.t 67) (.t 69))),(Qf 71 0 11),(Qs 1 71 70)]))))) (.reg [(Qv 72 47 1),(Qm 47 72)])))
@[go_sem] def e89:EC:=.seq (.reg [(Qx 3 25 2 0),(Qa 6 (.alloc 25 [.nl,.nl])),(Qi 7 0)]) (.seq (.reg [(Qm 15 2),(Qf 16 0 3),(Ql 17 16),(Qm 18 1),(Qk 19 5 17 18),(Qe 20 5 19),(Qa 21 (.callv (.t 15) [(.t 20)])),(Qm 14 21),(Qa 22 (.ext (.t 14) 0)),(Qa 23 (.ext (.t 14) 1)),(Qa 8 (.alloc 63 [.iv 0,.iv 0,.nl,.iv 0,.nl])),(Qs 5 8 22),(Qm 9 23)]) (.seq (.seq (.reg [(Qm 24 9),(Qa 25 (.bin .neq (.t 24) (.c (.iv 0))))]) (.ite (.t 25) (.seq (.reg [(Qa 26 (.build [.nl,.nl] [])),(Qm 27 9),(Qs 2 6 26),(Qm 7 27)]) (.ret)) (.skip))) (.seq (.reg [(Qe 29 5 8),(Qa 30 (.call 135 [(.t 29)])),(Qm 28 30),(Qa 31 (.ext (.t 28) 0)),(Qa 32 (.ext (.t 28) 1)),(Qa 33 (.ext (.t 28) 2)),(Qs 5 8 31),(Qm 10 32),(Qm 9 33)]) (.seq (.seq (.reg [(Qm 34 9),(Qa 35 (.bin .neq (.t 34) (.c (.iv 0))))]) (.ite (.t 35) (.seq (.reg [(Qa 36 (.build [.nl,.nl] [])),(Qm 37 9),(Qs 2 6 36),(Qm 7 37)]) (.ret)) (.skip))) (.seq (.reg [(Qf 38 1 3),(Ql 39 38),(Qm 40 10),(Qa 41 (.bsl 23 1 2 [.nl] [(0,(.t 39)),(1,(.t 40))])),(Qa 42 (.call 88 [(.t 41)])),(Qa 43 (.build [.nl,.nl] [(1,1,(.t 42))])),(Qa 11 (.alloc 25 [.nl,.nl])),(Qs 2 11 43)]) (.seq (.seq (.reg [(Qf 44 0 3),(Ql 45 44),(Qa 46 (.len (.t 45))),(Qi 47 0)]) (.blk 0 (.loop e89_L0))) (.seq (.reg [(Qe 73 2 11),(Qs 2 6 73),(Qi 7 0)]) (.ret))))))))
theorem ok89:FnOK Tryz.prog 89 Tryz.f89 e89 [.c 6 (some 2),.t 7] 3 71:=⟨by kernel_rfl,⟨_,rfl,by kernel_rfl⟩,by kernel_rfl,by kernel_rfl⟩
noncomputable def Z6i (x6:(List Mail)):(List Drinker)→Option (Bar×Int)
| x30=>
 some ((Bar.mk x30 x6),0)
noncomputable def Z7i (x14:Int) (x15:(List Drinker)):Drinker→Option ((Int×(List Drinker)) ⊕ (Bar×Int))
| x17=>
 (Zx8 x17.Diner.Sides).bind fun x18=>
 (Zv9 x17.Need).bind fun x19=>
 (Zb4 72 x15 ([(Drinker.mk ((Diner.mk x17.Diner.ID x17.Diner.Phase x18)) x17.Thirst x19)])).bind fun x20=>
 some (.inl (wr (x14+1),x20))
noncomputable def Z8i (x1:Bar) (x2:Int) (x5:(Drinker×(List Mail)×Int)) (x6:(List Mail)):(Int×(List Drinker))→Option ((Int×(List Drinker)) ⊕ (Bar×Int))
| (x14,x15)=>
 ifb (decide (x14<(ln Drinker.row x1.Drinkers))) (
 (at_ x1.Drinkers x14).bind fun x16=>
 ifb (decide (x14=x2)) (
 (Z7i x14 x15) x5.1) (
 (Z7i x14 x15) x16)) (
 Option.map Sum.inr ((Z6i x6) x15))
noncomputable def Z9i (x1:Bar) (x2:Int) (p2:(Drinker→Option (Drinker×Int))):Option (Bar×Int):=
 (at_ x1.Drinkers x2).bind fun x3=>
 (p2 x3).bind fun x4=>
 ifb (!decide (x4.2=0)) (
 some ((Bar.mk (([]:(List Drinker))) (([]:(List Mail)))),x4.2)) (
 (Zgb x4.1).bind fun x5=>
 ifb (!decide (x5.2.2=0)) (
 some ((Bar.mk (([]:(List Drinker))) (([]:(List Mail)))),x5.2.2)) (
 (Z2g ([x1.Mail,x5.2.1])).bind fun x6=>
 loop (Z8i x1 x2 x5 x6) (0,([]:List Drinker))))
theorem k_bar_act (x1:Bar) (x2:Int) (g2:Nat) (caps2:List AV) (p2:(Drinker→Option (Drinker×Int))) (hc2:CloOK Tryz.prog g2 caps2 (fun z=>[.agg (Drinker.row z)]) p2 (fun z=>.tup [.agg (Drinker.row z.1),.iv z.2])) (r:(Bar×Int)) (h:Z9i x1 x2 p2=some r):Zs2 Tryz.prog 89 [.agg (Bar.row x1),.iv x2,.clo g2 caps2] (.tup [.agg (Bar.row r.1),.iv r.2]):=by
 refine Zw2 ok89 rfl rfl fun w0 H0=>?_
 rw [Z9i] at h
 refine Zn2 12 ?_;dsimp only [go_sem];refine An ?_;obtain ⟨x3,ex3,h⟩:=Bs h;refine Zl4 Drinker.row ex3 trivial rfl rfl rfl ?_;refine Zn2 1 ?_;dsimp only [go_sem];refine An ?_;obtain ⟨x4,ex4,h⟩:=Bs h;refine Zv4 trivial rfl hc2 (x:=x3) ex4 (by first | exact Za4 _ | simp [go_sem]) (by first | rfl | simp [go_sem,hc2.pu]) ?_;refine Zn2 13 ?_;dsimp only [go_sem];refine An ?_;refine Zi4 h rfl (fun _ h=>?_) fun _ h=>?_
 ·refine Zn2 7 ?_;dsimp only [go_sem];refine An ?_;exact Zq4 (res:=fun (r:(Bar×Int))=>.tup [.agg (Bar.row r.1),.iv r.2]) ok89 h
 ·refine Zn2 4 ?_;dsimp only [go_sem];refine An ?_;obtain ⟨x5,ex5,h⟩:=Bs h;refine Z13 trivial (k_drink_Fire x4.1 _ ex5) (hp:=(by first | rfl | simp [go_sem,hc2.pu])) (h:=?_);refine Zn2 14 ?_;dsimp only [go_sem];refine An ?_;refine Zi4 h rfl (fun _ h=>?_) fun _ h=>?_
  ·refine Zn2 7 ?_;dsimp only [go_sem];refine An ?_;exact Zq4 (res:=fun (r:(Bar×Int))=>.tup [.agg (Bar.row r.1),.iv r.2]) ok89 h
  ·refine Zn2 7 ?_;dsimp only [go_sem];refine An ?_;refine Za3 0 rfl ?_;dsimp only [go_sem];obtain ⟨x6,ex6,h⟩:=Bs h;refine Z45 trivial (Z3g ([x1.Mail,x5.2.1]) _ ex6) (hp:=(by first | rfl | simp [go_sem,hc2.pu])) (h:=?_);refine Zn2 12 ?_;dsimp only [go_sem];refine An ?_
   refine Zg4 (fun (x30:(List Drinker))=>(⟨(an 6 (.ptr 1 0::an 4 (.ptr 3 0::an 62 []))),[none,some ⟨25,[.nl,.nl]⟩,none,some ⟨25,[.osl 2,.osl 1]⟩],[none,some ⟨95,5,List.map Mail.row x6⟩,some ⟨63,5,List.map Drinker.row x30⟩]⟩:St)) (Z6i x6) r ?_ fun J1=>?_
   ·intro x30 h;rw [Z6i] at h;(try dsimp only);refine Zn2 6 ?_;dsimp only [go_sem];refine An ?_;refine Za3 2 rfl ?_;dsimp only [go_sem];refine Za3 1 rfl ?_;dsimp only [go_sem];exact Zq4 (res:=fun (r:(Bar×Int))=>.tup [.agg (Bar.row r.1),.iv r.2]) ok89 h
   ·refine Zn2 1 ?_;dsimp only [go_sem];refine An ?_;refine Z54 3 0 63 5 rfl rfl rfl ?_;dsimp only [go_sem]
    refine Zh4 h (fun ((x14,x15):(Int×(List Drinker)))=>(⟨(.any :: .iv x2::an 4 (.ptr 1 0 :: .any :: .ptr 2 0 :: .any :: .any :: .ptr 3 0::an 33 (.sl 5 (List.map Drinker.row x1.Drinkers) :: .iv (ln Drinker.row x1.Drinkers) :: .iv x14::an 26 []))),[none,some ⟨25,[.nl,.nl]⟩,some ⟨63,[.iv x5.1.Diner.ID,.iv x5.1.Diner.Phase,.sl 8 (List.map Side.row x5.1.Diner.Sides),.iv x5.1.Thirst,.sl 1 (List.map Zw4 x5.1.Need)]⟩,some ⟨25,[.osl 2,.osl 1]⟩],[none,some ⟨95,5,List.map Mail.row x6⟩,some ⟨63,5,List.map Drinker.row x15⟩]⟩:St)) (by simp [go_sem]) (by rintro ⟨x14,x15⟩;first | rfl | simp [go_sem,Z94 _ hc2.pu]) ?_
    rintro n1 ⟨x14,x15⟩ y1 h hin1 hout1;rw [Z8i] at h;(try dsimp only);refine Zn2 5 ?_;dsimp only [go_sem];refine An ?_;refine Zi4 h rfl (fun _ h=>?_) fun _ h=>?_
    ·refine Zn2 6 ?_;dsimp only [go_sem];refine An ?_;obtain ⟨x16,ex16,h⟩:=Bs h;refine Zl4 Drinker.row ex16 trivial rfl rfl rfl ?_;refine Zn2 12 ?_;dsimp only [go_sem];refine An ?_
     refine Zg4 (fun (x17:Drinker)=>(⟨(.any :: .iv x2::an 4 (.ptr 1 0 :: .any :: .ptr 2 0 :: .any :: .any :: .ptr 3 0 :: .any :: .ptr 4 0::an 31 (.sl 5 (List.map Drinker.row x1.Drinkers) :: .iv (ln Drinker.row x1.Drinkers) :: .iv x14::an 26 []))),[none,some ⟨25,[.nl,.nl]⟩,some ⟨63,[.iv x5.1.Diner.ID,.iv x5.1.Diner.Phase,.sl 8 (List.map Side.row x5.1.Diner.Sides),.iv x5.1.Thirst,.sl 1 (List.map Zw4 x5.1.Need)]⟩,some ⟨25,[.osl 2,.osl 1]⟩,some ⟨63,[.iv x17.Diner.ID,.iv x17.Diner.Phase,.sl 8 (List.map Side.row x17.Diner.Sides),.iv x17.Thirst,.sl 1 (List.map Zw4 x17.Need)]⟩],[none,some ⟨95,5,List.map Mail.row x6⟩,some ⟨63,5,List.map Drinker.row x15⟩]⟩:St)) (Z7i x14 x15) y1 ?_ fun J2=>?_
     ·intro x17 h;rw [Z7i] at h;(try dsimp only);refine Zn2 1 ?_;dsimp only [go_sem];refine An ?_;refine Zi3 (by kernel_rfl) fun all hall hs hnap haf=>?_;dsimp only [go_sem];refine Z65 hall hs haf hnap 5 7 ?_;dsimp only [go_sem];refine An ?_;refine Zt3 3 rfl ?_;obtain ⟨x18,ex18,h⟩:=Bs h;refine Z55 hall rfl trivial (Zy8 x17.Diner.Sides _ ex18) (hp:=(by first | rfl | simp [go_sem,hc2.pu])) (h:=?_);dsimp only [go_sem];refine Z65 hall hs haf hnap 2 4 ?_;dsimp only [go_sem];refine An ?_;refine Zt3 6 rfl ?_
      obtain ⟨x19,ex19,h⟩:=Bs h;refine Z55 hall rfl trivial (Zw9 x17.Need _ ex19) (hp:=(by first | rfl | simp [go_sem,hc2.pu])) (h:=?_);dsimp only [go_sem];refine Zt3 9 rfl ?_;refine Zy3 hall rfl trivial ?_;dsimp only [go_sem];refine Z65 hall hs haf hnap 1 1 ?_;dsimp only [go_sem];refine An ?_;refine Zt3 11 rfl ?_;refine Zy3 hall rfl trivial ?_;dsimp only [go_sem];refine Zs3 rfl ?_ _;refine Zn2 4 ?_;dsimp only [go_sem];refine An ?_;refine Za3 3 rfl ?_;dsimp only [go_sem];refine Za3 4 rfl ?_;dsimp only [go_sem]
      refine Zn2 1 ?_;dsimp only [go_sem];refine An ?_;obtain ⟨x20,ex20,h⟩:=Bs h;refine Zn4 Drinker.row ex20 trivial rfl rfl rfl ?_;refine Zn2 8 ?_;dsimp only [go_sem];refine An ?_;refine Z44 6 2 rfl rfl rfl ?_;dsimp only [go_sem];exact Zr4 h hin1 (hok:=by first | rfl | simp [go_sem,Z94 _ hc2.pu])
     ·refine Zi4 h rfl (fun _ h=>?_) fun _ h=>?_
      ·refine Zn2 4 ?_;dsimp only [go_sem];refine An ?_;exact Zs4 J2 (s:=x5.1) h (hok:=by first | rfl | simp [go_sem,Z94 _ hc2.pu])
      ·refine Zn2 1 ?_;dsimp only [go_sem];refine An ?_;exact Zs4 J2 (s:=x16) h (hok:=by first | rfl | simp [go_sem,Z94 _ hc2.pu])
    ·refine Zn2 1 ?_;dsimp only [go_sem];refine An ?_;exact Zs4 J1 (s:=x15) (Zf4 h hout1) (hok:=by first | rfl | simp [go_sem,Z94 _ hc2.pu])
set_option maxRecDepth 100000
set_option maxHeartbeats 4000000
@[go_sem] def e74:EC:=.seq (.reg [(Qx 3 25 2 0),(Qa 6 (.alloc 25 [.nl,.nl])),(Qi 7 0)]) (.seq (.seq (.reg [(Qe 9 2 3),(Qa 10 (.call 17 [(.t 9)])),(Qm 8 10)]) (.seq (.reg [(Qm 11 8),(Qa 12 (.bin .neq (.t 11) (.c (.iv 0))))]) (.ite (.t 12) (.seq (.reg [(Qa 13 (.build [.nl,.nl] [])),(Qm 14 8),(Qs 2 6 13),(Qm 7 14)]) (.ret)) (.skip)))) (.seq (.seq (.reg [(Qe 15 2 3),(Qm 16 1),(Qa 17 (.call 64 [(.t 15),(.t 16)])),(Qa 18 (.not (.t 17)))]) (.ite (.t 18) (.seq (.reg [(Qa 19 (.build [.nl,.nl] [])),(Qs 2 6 19),(Qi 7 161)]) (.ret)) (.skip))) (.seq (.reg [(Qe 20 2 3),(Qm 21 1),(Qm 22 2),(Qa 23 (.call 89 [(.t 20),(.t 21),(.t 22)])),(Qa 24 (.ext (.t 23) 0)),(Qa 25 (.ext (.t 23) 1)),(Qs 2 6 24),(Qm 7 25)]) (.ret))))
theorem ok74:FnOK Tryz.prog 74 Tryz.f74 e74 [.c 6 (some 2),.t 7] 3 23:=⟨by kernel_rfl,⟨_,rfl,by kernel_rfl⟩,by kernel_rfl,by kernel_rfl⟩
noncomputable def Zai (x1:Bar) (x2:Int) (p2:(Drinker→Option (Drinker×Int))):Option (Bar×Int):=
 (Z1i x1).bind fun x3=>
 ifb (!decide (x3=0)) (
 some ((Bar.mk (([]:(List Drinker))) (([]:(List Mail)))),x3)) (
 (Z4i x1 x2).bind fun x4=>
 ifb (!x4) (
 some ((Bar.mk (([]:(List Drinker))) (([]:(List Mail)))),161)) (
 (Z9i x1 x2 p2).bind fun x5=>
 some (x5.1,x5.2)))
theorem Zbi (x1:Bar) (x2:Int) (g2:Nat) (caps2:List AV) (p2:(Drinker→Option (Drinker×Int))) (hc2:CloOK Tryz.prog g2 caps2 (fun z=>[.agg (Drinker.row z)]) p2 (fun z=>.tup [.agg (Drinker.row z.1),.iv z.2])) (r:(Bar×Int)) (h:Zai x1 x2 p2=some r):Zs2 Tryz.prog 74 [.agg (Bar.row x1),.iv x2,.clo g2 caps2] (.tup [.agg (Bar.row r.1),.iv r.2]):=by
 refine Zw2 ok74 rfl rfl fun w0 H0=>?_
 rw [Zai] at h
 refine Zn2 10 ?_;dsimp only [go_sem];refine An ?_;obtain ⟨x3,ex3,h⟩:=Bs h;refine Z13 trivial (Z2i x1 _ ex3) (hp:=(by first | rfl | simp [go_sem,hc2.pu])) (h:=?_);refine Zn2 7 ?_;dsimp only [go_sem];refine An ?_;refine Zi4 h rfl (fun _ h=>?_) fun _ h=>?_
 ·refine Zn2 7 ?_;dsimp only [go_sem];refine An ?_;exact Zq4 (res:=fun (r:(Bar×Int))=>.tup [.agg (Bar.row r.1),.iv r.2]) ok74 h
 ·refine Zn2 6 ?_;dsimp only [go_sem];refine An ?_;obtain ⟨x4,ex4,h⟩:=Bs h;refine Z13 trivial (Z5i x1 x2 _ ex4) (hp:=(by first | rfl | simp [go_sem,hc2.pu])) (h:=?_);refine Zn2 2 ?_;dsimp only [go_sem];refine An ?_;refine Zi4 h rfl (fun _ h=>?_) fun _ h=>?_
  ·refine Zn2 6 ?_;dsimp only [go_sem];refine An ?_;exact Zq4 (res:=fun (r:(Bar×Int))=>.tup [.agg (Bar.row r.1),.iv r.2]) ok74 h
  ·refine Zn2 6 ?_;dsimp only [go_sem];refine An ?_;obtain ⟨x5,ex5,h⟩:=Bs h;refine Z13 trivial (k_bar_act x1 x2 _ _ p2 hc2 _ ex5) (hp:=(by first | rfl | simp [go_sem,hc2.pu])) (h:=?_);refine Zn2 5 ?_;dsimp only [go_sem];refine An ?_;exact Zq4 (res:=fun (r:(Bar×Int))=>.tup [.agg (Bar.row r.1),.iv r.2]) ok74 h
set_option maxRecDepth 100000
set_option maxHeartbeats 4000000
@[go_sem] def e38:EC:=.seq (.reg [(Qx 3 25 2 0),(Qx 5 26 1 2),(Qa 6 (.alloc 25 [.nl,.nl])),(Qi 7 0)]) (.seq (.reg [(Qe 8 2 3),(Qm 9 1),(Qa 10 (.mkf 76 [(.t 5)])),(Qa 11 (.call 74 [(.t 8),(.t 9),(.t 10)])),(Qa 12 (.ext (.t 11) 0)),(Qa 13 (.ext (.t 11) 1)),(Qs 2 6 12),(Qm 7 13)]) (.ret))
theorem ok38:FnOK Tryz.prog 38 Tryz.f38 e38 [.c 6 (some 2),.t 7] 3 11:=⟨by kernel_rfl,⟨_,rfl,by kernel_rfl⟩,by kernel_rfl,by kernel_rfl⟩
noncomputable def Zci (x1:Bar) (x2:Int) (x3:(List Int)):Option (Bar×Int):=
 (Zai x1 x2 ((fun z=>Zmh z x3))).bind fun x4=>
 some (x4.1,x4.2)
theorem Zdi (x1:Bar) (x2:Int) (x3:(List Int)) (r:(Bar×Int)) (h:Zci x1 x2 x3=some r):Zs2 Tryz.prog 38 [.agg (Bar.row x1),.iv x2,.sl 1 (List.map Zw4 x3)] (.tup [.agg (Bar.row r.1),.iv r.2]):=by
 refine Zw2 ok38 rfl rfl fun w0 H0=>?_
 rw [Zci] at h
 refine Zn2 12 ?_;dsimp only [go_sem];refine An ?_;refine V_sealB 1 rfl rfl ?_;dsimp only [go_sem];obtain ⟨x4,ex4,h⟩:=Bs h;refine Z13 trivial (Zbi x1 x2 _ _ ((fun z=>Zmh z x3)) ⟨by kernel_rfl,rfl,fun z r hz=>k_bar_Open_1 z x3 r hz⟩ _ ex4) (h:=?_);refine Zn2 5 ?_;dsimp only [go_sem];refine An ?_;exact Zq4 (res:=fun (r:(Bar×Int))=>.tup [.agg (Bar.row r.1),.iv r.2]) ok38 h
set_option maxRecDepth 100000
set_option maxHeartbeats 4000000
@[go_sem] def e36:EC:=.seq (.reg [(Qx 2 25 2 0),(Qa 4 (.alloc 25 [.nl,.nl])),(Qi 5 0)]) (.seq (.reg [(Qe 6 2 2),(Qm 7 1),(Qa 8 (.call 74 [(.t 6),(.t 7),(.c (.clo 75 []))])),(Qa 9 (.ext (.t 8) 0)),(Qa 10 (.ext (.t 8) 1)),(Qs 2 4 9),(Qm 5 10)]) (.ret))
theorem ok36:FnOK Tryz.prog 36 Tryz.f36 e36 [.c 4 (some 2),.t 5] 2 9:=⟨by kernel_rfl,⟨_,rfl,by kernel_rfl⟩,by kernel_rfl,by kernel_rfl⟩
noncomputable def Zei (x1:Bar) (x2:Int):Option (Bar×Int):=
 (Zai x1 x2 ((fun z=>Zpe z))).bind fun x3=>
 some (x3.1,x3.2)
theorem Zfi (x1:Bar) (x2:Int) (r:(Bar×Int)) (h:Zei x1 x2=some r):Zs2 Tryz.prog 36 [.agg (Bar.row x1),.iv x2] (.tup [.agg (Bar.row r.1),.iv r.2]):=by
 refine Zw2 ok36 rfl rfl fun w0 H0=>?_
 rw [Zei] at h
 refine Zn2 10 ?_;dsimp only [go_sem];refine An ?_;obtain ⟨x3,ex3,h⟩:=Bs h;refine Z13 trivial (Zbi x1 x2 _ _ ((fun z=>Zpe z)) ⟨by kernel_rfl,rfl,fun z r hz=>k_drink_Close z r hz⟩ _ ex3) (h:=?_);refine Zn2 5 ?_;dsimp only [go_sem];refine An ?_;exact Zq4 (res:=fun (r:(Bar×Int))=>.tup [.agg (Bar.row r.1),.iv r.2]) ok36 h
set_option maxRecDepth 100000
set_option maxHeartbeats 4000000
@[go_sem] def e87:EC:=.seq (.reg [(Qx 3 95 5 0),(Qa 4 (.mv (.c .ff)))]) (.seq (.reg [(Qf 5 0 3),(Ql 6 5),(Ql 7 1),(Qa 8 (.bin .eql (.t 6) (.t 7))),(Qm 9 8),(Qh 10 9 true 1 3),(Qn 11 9 true 10),(Qn 12 9 true 2),(Qg 13 9 true (.bin .eql (.t 11) (.t 12))),(Qp 14 9 13),(Qm 4 14)]) (.ret))
theorem ok87:FnOK Tryz.prog 87 Tryz.f87 e87 [.t 4] 3 12:=⟨by kernel_rfl,⟨_,rfl,by kernel_rfl⟩,by kernel_rfl,by kernel_rfl⟩
noncomputable def Zgi:Bool→Option Bool
| x4=>
 some x4
noncomputable def Zhi (x1:Mail) (x2:Int) (x3:Int):Option Bool:=
 ifb (decide (x1.From=x2)) (
 Zgi (decide (x1.To=x3))) (
 Zgi false)
theorem Zii (x1:Mail) (x2:Int) (x3:Int) (r:Bool) (h:Zhi x1 x2 x3=some r):Zs2 Tryz.prog 87 [.agg (Mail.row x1),.elt (Zw4 x2) 0,.elt (Zw4 x3) 0] (.bv r):=by
 refine Zw2 ok87 rfl rfl fun w0 H0=>?_
 rw [Zhi] at h
 refine Zn2 12 ?_;dsimp only [go_sem];refine An ?_;refine Zg4 (fun (x4:Bool)=>(⟨(an 4 (.bv x4::an 10 [])),[],[]⟩:St)) Zgi r ?_ fun J1=>?_
 ·intro x4 h;rw [Zgi] at h;(try dsimp only);exact Zq4 (res:=fun (r:Bool)=>.bv r) ok87 h
 ·refine Zp4 9 h rfl (fun _ h=>?_) fun _ h=>?_
  ·dsimp only [go_sem];refine Zn2 7 ?_;dsimp only [go_sem];refine An ?_;exact Zs4 J1 (s:=decide (x1.To=x3)) h
  ·dsimp only [go_sem];refine Zn2 7 ?_;dsimp only [go_sem];refine An ?_;exact Zs4 J1 (s:=false) h
set_option maxRecDepth 100000
set_option maxHeartbeats 4000000
@[go_sem] def e90:EC:=.seq (.reg [(Qx 3 63 5 0),(Qa 4 (.alloc 63 [.iv 0,.iv 0,.nl,.iv 0,.nl])),(Qi 5 0)]) (.seq (.reg [(Qe 6 5 3),(Ql 7 1),(Qe 8 3 2),(Qa 9 (.call 91 [(.t 6),(.t 7),(.t 8)])),(Qa 10 (.ext (.t 9) 0)),(Qa 11 (.ext (.t 9) 1)),(Qs 5 4 10),(Qm 5 11)]) (.ret))
theorem ok90:FnOK Tryz.prog 90 Tryz.f90 e90 [.c 4 (some 5),.t 5] 3 9:=⟨by kernel_rfl,⟨_,rfl,by kernel_rfl⟩,by kernel_rfl,by kernel_rfl⟩
noncomputable def Zji (x1:Drinker) (x2:Int) (x3:Msg):Option (Drinker×Int):=
 (Zve x1 x2 x3).bind fun x4=>
 some (x4.1,x4.2)
theorem Zki (x1:Drinker) (x2:Int) (x3:Msg) (r:(Drinker×Int)) (h:Zji x1 x2 x3=some r):Zs2 Tryz.prog 90 [.agg (Drinker.row x1),.elt (Zw4 x2) 0,.elt (Msg.row x3) 0] (.tup [.agg (Drinker.row r.1),.iv r.2]):=by
 refine Zw2 ok90 rfl rfl fun w0 H0=>?_
 rw [Zji] at h
 refine Zn2 11 ?_;dsimp only [go_sem];refine An ?_;obtain ⟨x4,ex4,h⟩:=Bs h;refine Z13 trivial (k_drink_Get x1 x2 x3 _ ex4) (h:=?_);refine Zn2 5 ?_;dsimp only [go_sem];refine An ?_;exact Zq4 (res:=fun (r:(Drinker×Int))=>.tup [.agg (Drinker.row r.1),.iv r.2]) ok90 h
set_option maxRecDepth 100000
set_option maxHeartbeats 4000000
@[go_sem] def e48:EC:=.seq (.reg [(Qx 3 25 2 0),(Qx 4 3 1 1),(Qx 5 3 1 2),(Qa 6 (.alloc 25 [.nl,.nl])),(Qi 7 0)]) (.seq (.seq (.reg [(Qe 11 2 3),(Qa 12 (.call 17 [(.t 11)])),(Qm 8 12)]) (.seq (.reg [(Qm 13 8),(Qa 14 (.bin .neq (.t 13) (.c (.iv 0))))]) (.ite (.t 14) (.seq (.reg [(Qa 15 (.build [.nl,.nl] [])),(Qm 16 8),(Qs 2 6 15),(Qm 7 16)]) (.ret)) (.skip)))) (.seq (.seq (.reg [(Qe 17 2 3),(Ql 18 4),(Qa 19 (.call 64 [(.t 17),(.t 18)])),(Qa 20 (.not (.t 19))),(Qm 21 20),(Qg 22 21 false (.loadA 2 (.t 3))),(Qn 23 21 false 5),(Qg 24 21 false (.call 64 [(.t 22),(.t 23)])),(Qg 25 21 false (.not (.t 24))),(Qq 26 21 25)]) (.ite (.t 26) (.seq (.reg [(Qa 27 (.build [.nl,.nl] [])),(Qs 2 6 27),(Qi 7 161)]) (.ret)) (.skip))) (.seq (.reg [(Qf 28 1 3),(Ql 29 28),(Qa 30 (.mkf 87 [(.t 4),(.t 5)])),(Qa 31 (.call 86 [(.t 29),(.t 30)])),(Qm 9 31)]) (.seq (.seq (.reg [(Qm 32 9),(Qa 33 (.bin .lss (.t 32) (.c (.iv 0))))]) (.ite (.t 33) (.seq (.reg [(Qa 34 (.build [.nl,.nl] [])),(Qs 2 6 34),(Qi 7 162)]) (.ret)) (.skip))) (.seq (.reg [(Qf 35 1 3),(Ql 36 35),(Qm 37 9),(Qk 38 5 36 37),(Qf 39 2 38),(Qe 40 3 39),(Qa 10 (.alloc 93 [.iv 0,.iv 0,.iv 0])),(Qs 3 10 40)]) (.seq (.drw [(Qf 41 1 3),(Ql 42 41),(Qm 43 9),(Qa 44 (.slice 5 (.t 42) none (some (.t 43)))),(Qf 45 1 3),(Ql 46 45),(Qm 47 9),(Qv 48 47 1),(Qa 49 (.slice 5 (.t 46) (some (.t 48)) none)),(Qa 50 (.bsl 23 1 2 [.nl] [(0,(.t 44)),(1,(.t 49))])),(Qa 51 (.call 88 [(.t 50)])),(Qf 52 1 3),(Qs 1 52 51)] [[],[0],[],[1,2],[],[4],[],[6],[5,7],[3,8],[9],[0,1,2,3,4,5,6,7,8,9,10],[11,10,10,0,1,2,3,4,5,6,7,8,9,10]] [[1],[0,3],[3],[1,2,9],[5],[4,8],[7],[6,8],[5,7,9],[3,8,10],[9,12],[12],[10,11]]) (.seq (.reg [(Qe 53 2 3),(Ql 54 5),(Qa 55 (.mkf 90 [(.t 4),(.t 10)])),(Qa 56 (.call 89 [(.t 53),(.t 54),(.t 55)])),(Qa 57 (.ext (.t 56) 0)),(Qa 58 (.ext (.t 56) 1)),(Qs 2 6 57),(Qm 7 58)]) (.ret))))))))
theorem ok48:FnOK Tryz.prog 48 Tryz.f48 e48 [.c 6 (some 2),.t 7] 3 56:=⟨by kernel_rfl,⟨_,rfl,by kernel_rfl⟩,by kernel_rfl,by kernel_rfl⟩
noncomputable def Zli (x1:Bar) (x2:Int) (x3:Int) (x9:Mail):(List Mail)→Option (Bar×Int)
| x13=>
 (Z9i ((Bar.mk x1.Drinkers x13)) x3 ((fun z=>Zji z x2 x9.Msg))).bind fun x14=>
 some (x14.1,x14.2)
noncomputable def Zmi (x1:Bar) (x2:Int) (x3:Int):Bool→Option (Bar×Int)
| x7=>
 ifb x7 (
 some ((Bar.mk (([]:(List Drinker))) (([]:(List Mail)))),161)) (
 (Znf x1.Mail ((fun z=>Zhi z x2 x3))).bind fun x8=>
 ifb (decide (x8<0)) (
 some ((Bar.mk (([]:(List Drinker))) (([]:(List Mail)))),162)) (
 (at_ x1.Mail x8).bind fun x9=>
 (sub_ x1.Mail 0 x8).bind fun x10=>
 (sub_ x1.Mail (wr (x8+1)) (ln Mail.row x1.Mail)).bind fun x11=>
 (Z2g ([x10,x11])).bind fun x12=>
 (Zli x1 x2 x3 x9) x12))
noncomputable def Zni (x1:Bar) (x2:Int) (x3:Int):Option (Bar×Int):=
 (Z1i x1).bind fun x4=>
 ifb (!decide (x4=0)) (
 some ((Bar.mk (([]:(List Drinker))) (([]:(List Mail)))),x4)) (
 (Z4i x1 x2).bind fun x5=>
 ifb (!x5) (
 (Zmi x1 x2 x3) true) (
 (Z4i x1 x3).bind fun x6=>
 (Zmi x1 x2 x3) (!x6)))
theorem Zoi (x1:Bar) (x2:Int) (x3:Int) (r:(Bar×Int)) (h:Zni x1 x2 x3=some r):Zs2 Tryz.prog 48 [.agg (Bar.row x1),.iv x2,.iv x3] (.tup [.agg (Bar.row r.1),.iv r.2]):=by
 refine Zw2 ok48 rfl rfl fun w0 H0=>?_
 rw [Zni] at h
 refine Zn2 12 ?_;dsimp only [go_sem];refine An ?_;obtain ⟨x4,ex4,h⟩:=Bs h;refine Z13 trivial (Z2i x1 _ ex4) (h:=?_);refine Zn2 7 ?_;dsimp only [go_sem];refine An ?_;refine Zi4 h rfl (fun _ h=>?_) fun _ h=>?_
 ·refine Zn2 7 ?_;dsimp only [go_sem];refine An ?_;exact Zq4 (res:=fun (r:(Bar×Int))=>.tup [.agg (Bar.row r.1),.iv r.2]) ok48 h
 ·refine Zn2 6 ?_;dsimp only [go_sem];refine An ?_;obtain ⟨x5,ex5,h⟩:=Bs h;refine Z13 trivial (Z5i x1 x2 _ ex5) (h:=?_);refine Zn2 2 ?_;dsimp only [go_sem];refine An ?_;refine Zg4 (fun (x7:Bool)=>(⟨(an 3 (.ptr 0 0 :: .ptr 1 0 :: .ptr 2 0 :: .ptr 3 0::an 19 (.bv x7::an 32 []))),[some ⟨25,[.sl 5 (List.map Drinker.row x1.Drinkers),.sl 5 (List.map Mail.row x1.Mail)]⟩,some ⟨3,[.iv x2]⟩,some ⟨3,[.iv x3]⟩,some ⟨25,[.nl,.nl]⟩],[]⟩:St)) (Zmi x1 x2 x3) r ?_ fun J1=>?_
  ·intro x7 h;rw [Zmi] at h;(try dsimp only);refine Zi4 h rfl (fun _ h=>?_) fun _ h=>?_
   ·refine Zn2 6 ?_;dsimp only [go_sem];refine An ?_;exact Zq4 (res:=fun (r:(Bar×Int))=>.tup [.agg (Bar.row r.1),.iv r.2]) ok48 h
   ·refine Zn2 6 ?_;dsimp only [go_sem];refine An ?_;obtain ⟨x8,ex8,h⟩:=Bs h;refine Zu4 trivial (((Zt4.refl _).block 1 rfl rfl).block 2 rfl rfl) (Zof x1.Mail _ _ ((fun z=>Zhi z x2 x3)) ⟨by kernel_rfl,rfl,fun z r hz=>Zii z x2 x3 r hz⟩ _ ex8) (h:=?_);refine Zn2 8 ?_;dsimp only [go_sem];refine An ?_;refine Zi4 h rfl (fun _ h=>?_) fun _ h=>?_
    ·refine Zn2 6 ?_;dsimp only [go_sem];refine An ?_;exact Zq4 (res:=fun (r:(Bar×Int))=>.tup [.agg (Bar.row r.1),.iv r.2]) ok48 h
    ·refine Zn2 6 ?_;dsimp only [go_sem];refine An ?_;obtain ⟨x9,ex9,h⟩:=Bs h;refine Zl4 Mail.row ex9 trivial rfl rfl rfl ?_;refine Zn2 6 ?_;dsimp only [go_sem];refine An ?_
     refine Zg4 (fun (x13:(List Mail))=>(⟨(an 3 (.ptr 0 0 :: .ptr 1 0 :: .ptr 2 0 :: .ptr 3 0::an 3 (.ptr 4 0::an 48 []))),[some ⟨25,[.sl 5 (List.map Drinker.row x1.Drinkers),.osl 1]⟩,some ⟨3,[.iv x2]⟩,some ⟨3,[.iv x3]⟩,some ⟨25,[.nl,.nl]⟩,some ⟨93,[.iv x9.Msg.Kind,.iv x9.Msg.Epoch,.iv x9.Msg.Num]⟩],[none,some ⟨95,5,List.map Mail.row x13⟩]⟩:St)) (Zli x1 x2 x3 x9) r ?_ fun J2=>?_
     ·intro x13 h;rw [Zli] at h;(try dsimp only);refine Zn2 5 ?_;dsimp only [go_sem];refine An ?_;refine Za3 1 rfl ?_;dsimp only [go_sem];refine V_sealB 1 rfl rfl ?_;dsimp only [go_sem];refine V_sealB 4 rfl rfl ?_;dsimp only [go_sem];obtain ⟨x14,ex14,h⟩:=Bs h;refine Z13 trivial (k_bar_act ((Bar.mk x1.Drinkers x13)) x3 _ _ ((fun z=>Zji z x2 x9.Msg)) ⟨by kernel_rfl,rfl,fun z r hz=>Zki z x2 x9.Msg r hz⟩ _ ex14) (h:=?_);refine Zn2 5 ?_;dsimp only [go_sem];refine An ?_
      exact Zq4 (res:=fun (r:(Bar×Int))=>.tup [.agg (Bar.row r.1),.iv r.2]) ok48 h
     ·refine Zi3 (by kernel_rfl) fun all hall hs hnap haf=>?_;dsimp only [go_sem];refine Z75 hall hs haf hnap 7 6 [3,1,4,5] [(41,[.ptr 0 1,.sl 5 (List.map Mail.row x1.Mail),.iv x8]),(1,[.ptr 0 1,.sl 5 (List.map Mail.row x1.Mail),.iv x8,.iv (wr (x8+1))])] (by kernel_rfl) ?_;dsimp only [go_sem];obtain ⟨x10,ex10,h⟩:=Bs h;refine G_sliceM hall hs haf hnap 3 Mail.row ex10 rfl rfl trivial rfl rfl rfl rfl rfl ?_;dsimp only [go_sem];obtain ⟨x11,ex11,h⟩:=Bs h;refine G_sliceM hall hs haf hnap 8 Mail.row ex11 rfl rfl trivial rfl rfl rfl rfl rfl ?_;dsimp only [go_sem]
      refine Zt3 9 rfl ?_;refine GO_bslS hall rfl trivial rfl trivial ?_;dsimp only [go_sem];refine Zt3 10 rfl ?_;obtain ⟨x12,ex12,h⟩:=Bs h;refine Z55 hall rfl trivial (Z3g ([x10,x11]) _ ex12) (h:=?_);dsimp only [go_sem];refine Z65 hall hs haf hnap 1 1 ?_;dsimp only [go_sem];refine An ?_;refine Zt3 12 rfl ?_;refine Zy3 hall rfl trivial ?_;dsimp only [go_sem];refine Zs3 rfl ?_ _;exact Zs4 J2 (s:=x12) h
  ·refine Zp4 21 h rfl (fun _ h=>?_) fun _ h=>?_
   ·dsimp only [go_sem];refine Zn2 6 ?_;dsimp only [go_sem];refine An ?_;exact Zs4 J1 (s:=true) h
   ·dsimp only [go_sem];refine Zn2 2 ?_;dsimp only [go_sem];refine An ?_;obtain ⟨x6,ex6,h⟩:=Bs h;refine Z13 trivial (Z5i x1 x3 _ ex6) (h:=?_);refine Zn2 3 ?_;dsimp only [go_sem];refine An ?_;exact Zs4 J1 (s:=!x6) h
set_option maxRecDepth 100000
set_option maxHeartbeats 4000000
@[go_sem] def e13:EC:=.seq (.reg [(Qx 2 25 2 0),(Qx 3 28 4 1),(Qa 4 (.alloc 25 [.nl,.nl])),(Qi 5 0)]) (.seq (.seq (.reg [(Qf 6 0 3),(Ql 7 6)]) (.blk 0 (.seq (.reg [(Qa 9 (.bin .eql (.t 7) (.c (.iv 0)))),(Qm 8 9)]) (.ite (.t 8) (.seq (.drw [(Qe 10 2 2),(Qf 11 1 3),(Ql 12 11),(Qa 13 (.bsl 3 1 0 [.iv 0] [])),(Qf 14 3 3),(Ql 15 14),(Qa 16 (.app 3 1 8 (.t 13) (.t 15))),(Qa 17 (.call 38 [(.t 10),(.t 12),(.t 16)])),(Qa 18 (.ext (.t 17) 0)),(Qa 19 (.ext (.t 17) 1)),(Qs 2 4 18),(Qm 5 19)] [[],[],[1],[],[],[4],[3,5],[0,2,6,6],[7],[7],[8,7,0,1,2,3,4,5,6,7,8,9],[9,10,0,1,2,3,4,5,6,7,8,9,10]] [[7],[2],[1,7],[6],[5],[4,6],[3,5,7],[0,2,6,8,9],[7,10],[7,11],[8],[9]]) (.ret)) (.seq (.reg [(Qa 21 (.bin .eql (.t 7) (.c (.iv 1)))),(Qm 20 21)]) (.ite (.t 20) (.seq (.reg [(Qe 22 2 2),(Qf 23 1 3),(Ql 24 23),(Qa 25 (.call 36 [(.t 22),(.t 24)])),(Qa 26 (.ext (.t 25) 0)),(Qa 27 (.ext (.t 25) 1)),(Qs 2 4 26),(Qm 5 27)]) (.ret)) (.skip))))))) (.seq (.reg [(Qe 28 2 2),(Qf 29 1 3),(Ql 30 29),(Qf 31 2 3),(Ql 32 31),(Qa 33 (.call 48 [(.t 28),(.t 30),(.t 32)])),(Qa 34 (.ext (.t 33) 0)),(Qa 35 (.ext (.t 33) 1)),(Qs 2 4 34),(Qm 5 35)]) (.ret)))
theorem ok13:FnOK Tryz.prog 13 Tryz.f13 e13 [.c 4 (some 2),.t 5] 2 34:=⟨by kernel_rfl,⟨_,rfl,by kernel_rfl⟩,by kernel_rfl,by kernel_rfl⟩
noncomputable def Zpi (x1:Bar) (x2:narthexlaw16_Act):Option (Bar×Int):=
 ifb (decide (x2.K=0)) (
 (Zb4 8 (([]:List Int)) x2.Need).bind fun x3=>
 (Zci x1 x2.A x3).bind fun x4=>
 some (x4.1,x4.2)) (
 ifb (decide (x2.K=1)) (
 (Zei x1 x2.A).bind fun x5=>
 some (x5.1,x5.2)) (
 (Zni x1 x2.A x2.B).bind fun x6=>
 some (x6.1,x6.2)))
theorem Zqi (x1:Bar) (x2:narthexlaw16_Act) (r:(Bar×Int)) (h:Zpi x1 x2=some r):Zs2 Tryz.prog 13 [.agg (Bar.row x1),.agg (narthexlaw16_Act.row x2)] (.tup [.agg (Bar.row r.1),.iv r.2]):=by
 refine Zw2 ok13 rfl rfl fun w0 H0=>?_
 rw [Zpi] at h
 refine Zn2 19 ?_;dsimp only [go_sem];refine An ?_;refine Zi4 h rfl (fun _ h=>?_) fun _ h=>?_
 ·refine Zn2 1 ?_;dsimp only [go_sem];refine An ?_;refine Zi3 (by kernel_rfl) fun all hall hs hnap haf=>?_;dsimp only [go_sem];refine Z65 hall hs haf hnap 5 7 ?_;dsimp only [go_sem];refine An ?_;refine Zt3 3 rfl ?_;refine Zy3 hall rfl trivial ?_;dsimp only [go_sem];refine Zt3 6 rfl ?_;obtain ⟨x3,ex3,h⟩:=Bs h;refine GO_appSM Zw4 ex3 hall rfl trivial rfl rfl rfl ?_;dsimp only [go_sem];refine Zt3 7 rfl ?_;obtain ⟨x4,ex4,h⟩:=Bs h;refine Zz3 hall rfl trivial (Zdi x1 x2.A x3 _ ex4) (h:=?_);dsimp only [go_sem]
  refine Z65 hall hs haf hnap 2 2 ?_;dsimp only [go_sem];refine An ?_;refine Zt3 10 rfl ?_;refine Zy3 hall rfl trivial ?_;dsimp only [go_sem];refine Z65 hall hs haf hnap 1 0 ?_;dsimp only [go_sem];refine An ?_;refine Zs3 rfl ?_ _;exact Zq4 (res:=fun (r:(Bar×Int))=>.tup [.agg (Bar.row r.1),.iv r.2]) ok13 h
 ·refine Zn2 5 ?_;dsimp only [go_sem];refine An ?_;refine Zi4 h rfl (fun _ h=>?_) fun _ h=>?_
  ·refine Zn2 5 ?_;dsimp only [go_sem];refine An ?_;obtain ⟨x5,ex5,h⟩:=Bs h;refine Z13 trivial (Zfi x1 x2.A _ ex5) (h:=?_);refine Zn2 5 ?_;dsimp only [go_sem];refine An ?_;exact Zq4 (res:=fun (r:(Bar×Int))=>.tup [.agg (Bar.row r.1),.iv r.2]) ok13 h
  ·refine Zn2 9 ?_;dsimp only [go_sem];refine An ?_;obtain ⟨x6,ex6,h⟩:=Bs h;refine Z13 trivial (Zoi x1 x2.A x2.B _ ex6) (h:=?_);refine Zn2 5 ?_;dsimp only [go_sem];refine An ?_;exact Zq4 (res:=fun (r:(Bar×Int))=>.tup [.agg (Bar.row r.1),.iv r.2]) ok13 h
set_option maxRecDepth 100000
set_option maxHeartbeats 4000000
@[go_sem] def e92:EC:=.seq (.reg [(Qx 1 61 3 0),(Qa 2 (.alloc 61 [.iv 0,.iv 0,.nl]))]) (.seq (.reg [(Qa 3 (.bsl 66 8 0 [.iv 0,.iv 0,.iv 0,.ff,.ff,.ff,.ff,.ff] [])),(Qf 4 2 1),(Ql 5 4),(Qa 6 (.app 66 8 32 (.t 3) (.t 5))),(Qf 7 2 1),(Qs 1 7 6)]) (.seq (.reg [(Qe 8 3 1),(Qs 3 2 8)]) (.ret)))
theorem ok92:FnOK Tryz.prog 92 Tryz.f92 e92 [.c 2 (some 3)] 1 8:=⟨by kernel_rfl,⟨_,rfl,by kernel_rfl⟩,by kernel_rfl,by kernel_rfl⟩
noncomputable def Zri (x1:Diner):Option Diner:=
 (Zb4 32 (([]:List Side)) x1.Sides).bind fun x2=>
 some (Diner.mk x1.ID x1.Phase x2)
theorem Zsi (x1:Diner) (r:Diner) (h:Zri x1=some r):Zs2 Tryz.prog 92 [.agg (Diner.row x1)] (.agg (Diner.row r)):=by
 refine Zw2 ok92 rfl rfl fun w0 H0=>?_
 rw [Zri] at h
 refine Zn2 10 ?_;dsimp only [go_sem];refine An ?_;obtain ⟨x2,ex2,h⟩:=Bs h;refine Zn4 Side.row ex2 trivial rfl rfl rfl ?_;refine Zn2 8 ?_;dsimp only [go_sem];refine An ?_;refine Za3 1 rfl ?_;dsimp only [go_sem];exact Zq4 (res:=fun (r:Diner)=>.agg (Diner.row r)) ok92 h
set_option maxRecDepth 100000
set_option maxHeartbeats 4000000
@[go_sem] def e50:EC:=.seq (.reg [(Qx 1 63 5 0),(Qa 2 (.alloc 63 [.iv 0,.iv 0,.nl,.iv 0,.nl]))]) (.seq (.reg [(Qf 3 0 1),(Qe 4 3 3),(Qa 5 (.call 92 [(.t 4)])),(Qf 6 0 1),(Qs 3 6 5)]) (.seq (.reg [(Qa 7 (.bsl 3 1 0 [.iv 0] [])),(Qf 8 4 1),(Ql 9 8),(Qa 10 (.app 3 1 8 (.t 7) (.t 9))),(Qf 11 4 1),(Qs 1 11 10)]) (.seq (.reg [(Qe 12 5 1),(Qs 5 2 12)]) (.ret))))
theorem ok50:FnOK Tryz.prog 50 Tryz.f50 e50 [.c 2 (some 5)] 1 12:=⟨by kernel_rfl,⟨_,rfl,by kernel_rfl⟩,by kernel_rfl,by kernel_rfl⟩
noncomputable def Zti (x1:Drinker):Option Drinker:=
 (Zri x1.Diner).bind fun x2=>
 (Zb4 8 (([]:List Int)) x1.Need).bind fun x3=>
 some (Drinker.mk x2 x1.Thirst x3)
theorem Zui (x1:Drinker) (r:Drinker) (h:Zti x1=some r):Zs2 Tryz.prog 50 [.agg (Drinker.row x1)] (.agg (Drinker.row r)):=by
 refine Zw2 ok50 rfl rfl fun w0 H0=>?_
 rw [Zti] at h
 refine Zn2 9 ?_;dsimp only [go_sem];refine An ?_;obtain ⟨x2,ex2,h⟩:=Bs h;refine Z13 trivial (Zsi x1.Diner _ ex2) (h:=?_);refine Zn2 8 ?_;dsimp only [go_sem];refine An ?_;obtain ⟨x3,ex3,h⟩:=Bs h;refine Zn4 Zw4 ex3 trivial rfl rfl rfl ?_;refine Zn2 8 ?_;dsimp only [go_sem];refine An ?_;refine Za3 1 rfl ?_;dsimp only [go_sem];exact Zq4 (res:=fun (r:Drinker)=>.agg (Drinker.row r)) ok50 h
set_option maxRecDepth 100000
set_option maxHeartbeats 4000000
@[go_sem] def e14_L0:EC:=.seq (.seq (.reg [(Qm 10 4),(Qf 11 0 1),(Ql 12 11),(Qa 13 (.len (.t 12))),(Qa 14 (.bin .lss (.t 10) (.t 13)))]) (.ite (.t 14) (.skip) (.exit 0))) (.seq (.blk 1 (.drw [(Qf 17 0 3),(Ql 18 17),(Qf 19 0 1),(Ql 20 19),(Qm 21 4),(Qk 22 5 20 21),(Qe 23 5 22),(Qa 24 (.call 50 [(.t 23)])),(Qa 25 (.bsl 63 5 1 [.iv 0,.iv 0,.nl,.iv 0,.nl] [(0,(.t 24))])),(Qa 26 (.app 63 5 72 (.t 18) (.t 25))),(Qf 27 0 3),(Qs 1 27 26)] [[],[0],[],[2],[],[3,4],[5],[6],[7],[1,8,7],[0,1,2,3,4,5,6,7,8,9],[10,9,9,0,1,2,3,4,5,6,7,8,9]] [[1],[0,9],[3],[2,5],[5],[3,4,6],[5,7],[6,8],[7,9],[1,8,11],[11],[9,10]])) (.reg [(Qm 15 4),(Qv 16 15 1),(Qm 4 16)]))
@[go_sem] def e14:EC:=.seq (.reg [(Qx 1 25 2 0),(Qa 2 (.alloc 25 [.nl,.nl]))]) (.seq (.reg [(Qa 5 (.bsl 95 5 0 [.iv 0,.iv 0,.iv 0,.iv 0,.iv 0] [])),(Qf 6 1 1),(Ql 7 6),(Qa 8 (.app 95 5 40 (.t 5) (.t 7))),(Qa 9 (.build [.nl,.nl] [(1,1,(.t 8))])),(Qa 3 (.alloc 25 [.nl,.nl])),(Qs 2 3 9)]) (.seq (.seq (.reg [(Qi 4 0)]) (.blk 0 (.loop e14_L0))) (.seq (.reg [(Qe 28 2 3),(Qs 2 2 28)]) (.ret))))
theorem ok14:FnOK Tryz.prog 14 Tryz.f14 e14 [.c 2 (some 2)] 1 28:=⟨by kernel_rfl,⟨_,rfl,by kernel_rfl⟩,by kernel_rfl,by kernel_rfl⟩
noncomputable def Zvi (x2:(List Mail)):(List Drinker)→Option Bar
| x28=>
 some (Bar.mk x28 x2)
noncomputable def Zwi (x1:Bar) (x2:(List Mail)):(Int×(List Drinker))→Option ((Int×(List Drinker)) ⊕ Bar)
| (x8,x9)=>
 ifb (decide (x8<(ln Drinker.row x1.Drinkers))) (
 (at_ x1.Drinkers x8).bind fun x10=>
 (Zti x10).bind fun x11=>
 (Zb4 72 x9 ([x11])).bind fun x13=>
 some (.inl (wr (x8+1),x13))) (
 Option.map Sum.inr ((Zvi x2) x9))
noncomputable def Zxi (x1:Bar):Option Bar:=
 (Zb4 40 (([]:List Mail)) x1.Mail).bind fun x2=>
 loop (Zwi x1 x2) (0,([]:List Drinker))
theorem Zyi (x1:Bar) (r:Bar) (h:Zxi x1=some r):Zs2 Tryz.prog 14 [.agg (Bar.row x1)] (.agg (Bar.row r)):=by
 refine Zw2 ok14 rfl rfl fun w0 H0=>?_
 rw [Zxi] at h
 refine Zn2 10 ?_;dsimp only [go_sem];refine An ?_;obtain ⟨x2,ex2,h⟩:=Bs h;refine Zn4 Mail.row ex2 trivial rfl rfl rfl ?_;refine Zn2 9 ?_;dsimp only [go_sem];refine An ?_;refine Zg4 (fun (x28:(List Drinker))=>(⟨(.any :: .any :: .ptr 1 0 :: .ptr 2 0::an 25 []),[none,some ⟨25,[.nl,.nl]⟩,some ⟨25,[.osl 2,.osl 1]⟩],[none,some ⟨95,5,List.map Mail.row x2⟩,some ⟨63,5,List.map Drinker.row x28⟩]⟩:St)) (Zvi x2) r ?_ fun J1=>?_
 ·intro x28 h;rw [Zvi] at h;(try dsimp only);refine Zn2 5 ?_;dsimp only [go_sem];refine An ?_;refine Za3 2 rfl ?_;dsimp only [go_sem];refine Za3 1 rfl ?_;dsimp only [go_sem];exact Zq4 (res:=fun (r:Bar)=>.agg (Bar.row r)) ok14 h
 ·refine Zn2 1 ?_;dsimp only [go_sem];refine An ?_;refine Z54 2 0 63 5 rfl rfl rfl ?_;dsimp only [go_sem];refine Zh4 h (fun ((x8,x9):(Int×(List Drinker)))=>(⟨(.any :: .ptr 0 0 :: .ptr 1 0 :: .ptr 2 0 :: .iv x8::an 24 []),[some ⟨25,[.sl 5 (List.map Drinker.row x1.Drinkers),.sl 5 (List.map Mail.row x1.Mail)]⟩,some ⟨25,[.nl,.nl]⟩,some ⟨25,[.osl 2,.osl 1]⟩],[none,some ⟨95,5,List.map Mail.row x2⟩,some ⟨63,5,List.map Drinker.row x9⟩]⟩:St)) (by simp [go_sem]) (by rintro ⟨x8,x9⟩;first | rfl | simp [go_sem]) ?_;rintro n1 ⟨x8,x9⟩ y1 h hin1 hout1
  rw [Zwi] at h;(try dsimp only);refine Zn2 9 ?_;dsimp only [go_sem];refine An ?_;refine Zi4 h rfl (fun _ h=>?_) fun _ h=>?_
  ·refine Zn2 3 ?_;dsimp only [go_sem];refine An ?_;refine Zi3 (by kernel_rfl) fun all hall hs hnap haf=>?_;dsimp only [go_sem];refine Z65 hall hs haf hnap 4 8 ?_;dsimp only [go_sem];refine An ?_;obtain ⟨x10,ex10,h⟩:=Bs h;refine Zm4 hall hs haf hnap 5 Drinker.row ex10 rfl rfl trivial rfl rfl rfl rfl ?_;refine Z65 hall hs haf hnap 1 6 ?_;dsimp only [go_sem];refine An ?_;obtain ⟨x11,ex11,h⟩:=Bs h;refine Zu3 1 7 rfl ?_ ?_
   ·refine Zy3 hall rfl trivial ?_;dsimp only [go_sem];refine Zt3 7 rfl ?_;refine Zz3 hall rfl trivial (Zui x10 _ ex11) (h:=?_);dsimp only [go_sem];refine Zt3 8 rfl ?_;refine Zy3 hall rfl trivial ?_;dsimp only [go_sem];refine Zt3 9 rfl ?_;obtain ⟨x13,ex13,h⟩:=Bs h;refine Zo4 Drinker.row ex13 hall rfl trivial rfl rfl rfl ?_;dsimp only [go_sem];refine Z65 hall hs haf hnap 1 1 ?_;dsimp only [go_sem];refine An ?_;refine Zt3 11 rfl ?_;refine Zy3 hall rfl trivial ?_;dsimp only [go_sem];refine Zs3 rfl ?_ _;refine Zn2 6 ?_
    dsimp only [go_sem];refine An ?_;refine Z44 4 2 rfl rfl rfl ?_;dsimp only [go_sem];exact Zr4 h hin1
   ·refine Zz3 hall rfl trivial (Zui x10 _ ex11) (h:=?_);dsimp only [go_sem];refine Zu3 1 8 rfl ?_ ?_
    ·refine Zy3 hall rfl trivial ?_;dsimp only [go_sem];refine Zt3 8 rfl ?_;refine Zy3 hall rfl trivial ?_;dsimp only [go_sem];refine Zt3 9 rfl ?_;obtain ⟨x13,ex13,h⟩:=Bs h;refine Zo4 Drinker.row ex13 hall rfl trivial rfl rfl rfl ?_;dsimp only [go_sem];refine Z65 hall hs haf hnap 1 1 ?_;dsimp only [go_sem];refine An ?_;refine Zt3 11 rfl ?_;refine Zy3 hall rfl trivial ?_;dsimp only [go_sem];refine Zs3 rfl ?_ _;refine Zn2 6 ?_;dsimp only [go_sem];refine An ?_;refine Z44 4 2 rfl rfl rfl ?_;dsimp only [go_sem];exact Zr4 h hin1
    ·refine Zy3 hall rfl trivial ?_;dsimp only [go_sem];refine Zt3 1 rfl ?_;refine Zy3 hall rfl trivial ?_;dsimp only [go_sem];refine Zt3 9 rfl ?_;obtain ⟨x13,ex13,h⟩:=Bs h;refine Zo4 Drinker.row ex13 hall rfl trivial rfl rfl rfl ?_;dsimp only [go_sem];refine Z65 hall hs haf hnap 1 1 ?_;dsimp only [go_sem];refine An ?_;refine Zt3 11 rfl ?_;refine Zy3 hall rfl trivial ?_;dsimp only [go_sem];refine Zs3 rfl ?_ _;refine Zn2 6 ?_;dsimp only [go_sem];refine An ?_;refine Z44 4 2 rfl rfl rfl ?_;dsimp only [go_sem];exact Zr4 h hin1
  ·refine Zn2 1 ?_;dsimp only [go_sem];refine An ?_;exact Zs4 J1 (s:=x9) (Zf4 h hout1)
set_option maxRecDepth 100000
set_option maxHeartbeats 4000000
@[go_sem] def e22_L0:EC:=.seq (.reg [(Qa 12 (.bin .lss (.t 11) (.t 10)))]) (.seq (.ite (.t 12) (.skip) (.exit 0)) (.seq (.blk 1 (.seq (.reg [(Qk 13 5 9 11),(Qe 14 5 13),(Qa 7 (.alloc 63 [.iv 0,.iv 0,.nl,.iv 0,.nl])),(Qs 5 7 14)]) (.seq (.reg [(Qf 15 3 7),(Ql 16 15),(Qm 17 1),(Qa 18 (.bin .eql (.t 16) (.t 17)))]) (.ite (.t 18) (.reg [(Qm 19 5),(Qf 20 0 7),(Qf 21 0 20),(Ql 22 21),(Qa 23 (.bsl 3 1 1 [.iv 0] [(0,(.t 22))])),(Qa 24 (.app 3 1 8 (.t 19) (.t 23))),(Qm 5 24)]) (.skip))))) (.reg [(Qv 25 11 1),(Qm 11 25)])))
@[go_sem] def e22:EC:=.seq (.reg [(Qx 2 25 2 0),(Qa 4 (.mv (.c .nl)))]) (.seq (.reg [(Qa 5 (.mv (.c .nl)))]) (.seq (.seq (.reg [(Qf 8 0 2),(Ql 9 8),(Qa 10 (.len (.t 9))),(Qi 11 0)]) (.blk 0 (.loop e22_L0))) (.seq (.reg [(Qm 26 5),(Qm 4 26)]) (.ret))))
theorem ok22:FnOK Tryz.prog 22 Tryz.f22 e22 [.t 4] 2 25:=⟨by kernel_rfl,⟨_,rfl,by kernel_rfl⟩,by kernel_rfl,by kernel_rfl⟩
noncomputable def Zzi:(List Int)→Option (List Int)
| x20=>
 some x20
noncomputable def Z0j (x8:Int):(List Int)→Option ((Int×(List Int)) ⊕ (List Int))
| x12=>
 some (.inl (wr (x8+1),x12))
noncomputable def Z1j (x1:Bar) (x2:Int):(Int×(List Int))→Option ((Int×(List Int)) ⊕ (List Int))
| (x8,x9)=>
 ifb (decide (x8<(ln Drinker.row x1.Drinkers))) (
 (at_ x1.Drinkers x8).bind fun x10=>
 ifb (decide (x10.Thirst=x2)) (
 (Zb4 8 x9 ([x10.Diner.ID])).bind fun x11=>
 (Z0j x8) x11) (
 (Z0j x8) x9)) (
 Option.map Sum.inr (Zzi x9))
noncomputable def Z2j (x1:Bar) (x2:Int):Option (List Int):=
 loop (Z1j x1 x2) (0,([]:List Int))
theorem o_bar_Who (x1:Bar) (x2:Int) (r:(List Int)) (h:Z2j x1 x2=some r):FunO Tryz.prog 22 [.agg (Bar.row x1),.iv x2] 3 1 (List.map Zw4 r):=by
 refine Z35 ok22 rfl fun w0 H0=>?_
 rw [Z2j] at h
 refine Zn2 17 ?_;dsimp only [go_sem];refine An ?_;refine Zg4 (fun (x20:(List Int))=>(⟨(an 5 (.osl 0::an 21 [])),[],[some ⟨3,1,List.map Zw4 x20⟩]⟩:St)) Zzi r ?_ fun J1=>?_
 ·intro x20 h;rw [Zzi] at h;(try dsimp only);refine Zn2 5 ?_;dsimp only [go_sem];refine An ?_;exact Z85 Zw4 ok22 h rfl rfl
 ·refine Zn2 1 ?_;dsimp only [go_sem];refine An ?_;refine V_own 5 3 1 rfl rfl ?_;dsimp only [go_sem];refine Zh4 h (fun ((x8,x9):(Int×(List Int)))=>(⟨(.any :: .iv x2::an 3 (.osl 0::an 3 (.sl 5 (List.map Drinker.row x1.Drinkers) :: .iv (ln Drinker.row x1.Drinkers) :: .iv x8::an 15 []))),[],[some ⟨3,1,List.map Zw4 x9⟩]⟩:St)) (by simp [go_sem]) (by rintro ⟨x8,x9⟩;first | rfl | simp [go_sem]) ?_;rintro n1 ⟨x8,x9⟩ y1 h hin1 hout1;rw [Z1j] at h;(try dsimp only);refine Zn2 5 ?_;dsimp only [go_sem];refine An ?_
  refine Zi4 h rfl (fun _ h=>?_) fun _ h=>?_
  ·refine Zn2 5 ?_;dsimp only [go_sem];refine An ?_;obtain ⟨x10,ex10,h⟩:=Bs h;refine Zl4 Drinker.row ex10 trivial rfl rfl rfl ?_;refine Zn2 11 ?_;dsimp only [go_sem];refine An ?_;refine Zg4 (fun (x12:(List Int))=>(⟨(.any :: .iv x2::an 3 (.osl 0::an 3 (.sl 5 (List.map Drinker.row x1.Drinkers) :: .iv (ln Drinker.row x1.Drinkers) :: .iv x8::an 15 []))),[],[some ⟨3,1,List.map Zw4 x12⟩]⟩:St)) (Z0j x8) y1 ?_ fun J2=>?_
   ·intro x12 h;rw [Z0j] at h;(try dsimp only);refine Zn2 5 ?_;dsimp only [go_sem];refine An ?_;exact Zr4 h hin1
   ·refine Zi4 h rfl (fun _ h=>?_) fun _ h=>?_
    ·refine Zn2 6 ?_;dsimp only [go_sem];refine An ?_;obtain ⟨x11,ex11,h⟩:=Bs h;refine Zn4 Zw4 ex11 trivial rfl rfl rfl ?_;refine Zn2 2 ?_;dsimp only [go_sem];refine An ?_;refine Z44 2 0 rfl rfl rfl ?_;dsimp only [go_sem];exact Zs4 J2 (s:=x11) h
    ·refine Zn2 1 ?_;dsimp only [go_sem];refine An ?_;exact Zs4 J2 (s:=x9) h
  ·refine Zn2 1 ?_;dsimp only [go_sem];refine An ?_;exact Zs4 J1 (s:=x9) (Zf4 h hout1)
theorem Z3j (x1:Bar) (x2:Int) (r:(List Int)) (h:Z2j x1 x2=some r):Zs2 Tryz.prog 22 [.agg (Bar.row x1),.iv x2] (.sl 1 (List.map Zw4 r)):=(o_bar_Who x1 x2 r h).sealed
set_option maxRecDepth 100000
set_option maxHeartbeats 4000000
@[go_sem] def e19_L1:EC:=.seq (.reg [(Qa 103 (.bin .lss (.t 102) (.t 101)))]) (.seq (.ite (.t 103) (.skip) (.exit 2)) (.seq (.blk 3 (.seq (.reg [(Qk 104 5 100 102),(Qe 105 5 104),(Qa 16 (.alloc 95 [.iv 0,.iv 0,.iv 0,.iv 0,.iv 0])),(Qs 5 16 105)]) (.seq (.reg [(Qf 106 2 16),(Qf 107 0 106),(Ql 108 107),(Qm 109 2),(Qa 110 (.bin .eql (.t 108) (.t 109))),(Qm 111 110),(Qh 112 111 true 2 16),(Qh 113 111 true 1 112),(Qn 114 111 true 113),(Qh 115 111 true 1 7),(Qn 116 111 true 115),(Qg 117 111 true (.bin .eql (.t 114) (.t 116))),(Qp 118 111 117),(Qm 119 118),(Qh 120 119 true 0 16),(Qn 121 119 true 120),(Qh 122 119 true 1 16),(Qn 123 119 true 122),(Qg 124 119 true (.mm false [(.t 121),(.t 123)])),(Qh 125 119 true 0 4),(Qn 126 119 true 125),(Qh 127 119 true 1 4),(Qn 128 119 true 127),(Qg 129 119 true (.mm false [(.t 126),(.t 128)])),(Qg 130 119 true (.bin .eql (.t 124) (.t 129))),(Qp 131 119 130),(Qm 132 131),(Qh 133 132 true 0 16),(Qn 134 132 true 133),(Qh 135 132 true 1 16),(Qn 136 132 true 135),(Qg 137 132 true (.mm true [(.t 134),(.t 136)])),(Qh 138 132 true 0 4),(Qn 139 132 true 138),(Qh 140 132 true 1 4),(Qn 141 132 true 140),(Qg 142 132 true (.mm true [(.t 139),(.t 141)])),(Qg 143 132 true (.bin .eql (.t 137) (.t 142))),(Qp 144 132 143)]) (.ite (.t 144) (.reg [(Qm 145 12),(Qv 146 145 1),(Qm 12 146)]) (.skip))))) (.reg [(Qv 147 102 1),(Qm 102 147)])))
@[go_sem] def e19_L0:EC:=.seq (.reg [(Qa 93 (.bin .lss (.t 92) (.c (.iv 2))))]) (.seq (.ite (.t 93) (.skip) (.exit 0)) (.seq (.blk 1 (.seq (.reg [(Qa 94 (.ai 2 (.t 91) (.t 92))),(Qm 14 94)]) (.seq (.reg [(Qm 95 14)]) (.ite (.t 95) (.reg [(Qm 96 12),(Qv 97 96 1),(Qm 12 97)]) (.skip))))) (.reg [(Qv 98 92 1),(Qm 92 98)])))
@[go_sem] def e19:EC:=.seq (.reg [(Qx 3 25 2 0),(Qx 4 30 2 1),(Qi 6 0)]) (.seq (.seq (.reg [(Qm 17 2),(Qa 18 (.bin .neq (.t 17) (.c (.iv 3)))),(Qm 19 18),(Qg 20 19 true (.mv (.t 2))),(Qg 21 19 true (.bin .neq (.t 20) (.c (.iv 4)))),(Qp 22 19 21)]) (.ite (.t 22) (.seq (.drw [(Qe 23 2 3),(Qa 24 (.call 26 [(.t 23)])),(Qe 25 2 4),(Qm 26 2),(Qa 27 (.call 63 [(.t 24),(.t 25),(.t 26)])),(Qm 6 27)] [[],[0],[],[],[1,2,3,1],[4,4,0,1,2,3,4]] [[1],[0,4],[4],[4],[1,2,3,5],[4]]) (.ret)) (.skip))) (.seq (.seq (.reg [(Qe 28 2 3),(Qf 29 0 4),(Ql 30 29),(Qa 31 (.call 64 [(.t 28),(.t 30)])),(Qa 32 (.not (.t 31))),(Qm 33 32),(Qg 34 33 false (.loadA 2 (.t 3))),(Qh 35 33 false 1 4),(Qn 36 33 false 35),(Qg 37 33 false (.call 64 [(.t 34),(.t 36)])),(Qg 38 33 false (.not (.t 37))),(Qq 39 33 38)]) (.ite (.t 39) (.seq (.reg [(Qi 6 0)]) (.ret)) (.skip))) (.seq (.drw [(Qf 41 0 3),(Ql 42 41),(Qf 43 0 4),(Ql 44 43),(Qk 45 5 42 44),(Qf 46 0 45),(Qe 47 3 46),(Qf 48 1 4),(Ql 49 48),(Qa 50 (.call 65 [(.t 47),(.t 49)])),(Qm 40 50),(Qa 51 (.ext (.t 40) 0)),(Qa 52 (.ext (.t 40) 1)),(Qa 7 (.alloc 66 [.iv 0,.iv 0,.iv 0,.ff,.ff,.ff,.ff,.ff])),(Qs 8 7 51),(Qm 8 52)] [[],[0],[],[2],[1,3],[4],[5],[],[7],[6,8],[9],[10],[10],[],[13,11,9,0,1,2,3,4,5,6,7,8,9,10,11,13],[12,14,0,1,2,3,4,5,6,7,8,9,10,11,12,13,14]] [[1],[0,4],[3],[2,4],[1,3,5],[4,6],[5,9],[8],[7,9],[6,8,10],[9,11,12],[10,14],[10,15],[14],[11,13],[12]]) (.seq (.drw [(Qf 54 0 3),(Ql 55 54),(Qf 56 1 4),(Ql 57 56),(Qk 58 5 55 57),(Qf 59 0 58),(Qe 60 3 59),(Qf 61 0 4),(Ql 62 61),(Qa 63 (.call 65 [(.t 60),(.t 62)])),(Qm 53 63),(Qa 64 (.ext (.t 53) 0)),(Qa 65 (.ext (.t 53) 1)),(Qa 9 (.alloc 66 [.iv 0,.iv 0,.iv 0,.ff,.ff,.ff,.ff,.ff])),(Qs 8 9 64),(Qm 10 65)] [[],[0],[],[2],[1,3],[4],[5],[],[7],[6,8],[9],[10],[10],[],[13,11,9,0,1,2,3,4,5,6,7,8,9,10,11,13],[12,14,0,1,2,3,4,5,6,7,8,9,10,11,12,13,14]] [[1],[0,4],[3],[2,4],[1,3,5],[4,6],[5,9],[8],[7,9],[6,8,10],[9,11,12],[10,14],[10,15],[14],[11,13],[12]]) (.seq (.seq (.reg [(Qm 66 8),(Qa 67 (.not (.t 66))),(Qm 68 67),(Qg 69 68 false (.mv (.t 10))),(Qg 70 68 false (.not (.t 69))),(Qq 71 68 70),(Qm 72 71),(Qh 73 72 false 1 7),(Qn 74 72 false 73),(Qh 75 72 false 1 9),(Qn 76 72 false 75),(Qg 77 72 false (.bin .neq (.t 74) (.t 76))),(Qq 78 72 77)]) (.ite (.t 78) (.seq (.reg [(Qi 6 0)]) (.ret)) (.skip))) (.seq (.reg [(Qf 79 6 7),(Ql 80 79),(Qf 81 6 9),(Ql 82 81),(Qa 83 (.build [.ff,.ff] [(0,1,(.t 80)),(1,1,(.t 82))])),(Qa 11 (.alloc 105 [.ff,.ff])),(Qs 2 11 83)]) (.seq (.seq (.reg [(Qm 84 2),(Qa 85 (.bin .eql (.t 84) (.c (.iv 4))))]) (.ite (.t 85) (.reg [(Qf 86 7 7),(Ql 87 86),(Qf 88 7 9),(Ql 89 88),(Qa 90 (.build [.ff,.ff] [(0,1,(.t 87)),(1,1,(.t 89))])),(Qs 2 11 90)]) (.skip))) (.seq (.reg [(Qi 12 0)]) (.seq (.seq (.reg [(Qe 91 2 11),(Qi 92 0)]) (.blk 0 (.loop e19_L0))) (.seq (.seq (.reg [(Qf 99 1 3),(Ql 100 99),(Qa 101 (.len (.t 100))),(Qi 102 0)]) (.blk 2 (.loop e19_L1))) (.seq (.reg [(Qm 148 12),(Qm 6 148)]) (.ret))))))))))))
theorem ok19:FnOK Tryz.prog 19 Tryz.f19 e19 [.t 6] 3 146:=⟨by kernel_rfl,⟨_,rfl,by kernel_rfl⟩,by kernel_rfl,by kernel_rfl⟩
noncomputable def Z4j:Int→Option Int
| x61=>
 some x61
noncomputable def Z5j (x48:Int):Int→Option ((Int×Int) ⊕ Int)
| x51=>
 some (.inl (x51,wr (x48+1)))
noncomputable def Z6j (x47:Int) (x48:Int):Bool→Option ((Int×Int) ⊕ Int)
| x50=>
 ifb x50 (
 (Z5j x48) (wr (x47+1))) (
 (Z5j x48) x47)
noncomputable def Z7j (x1:Bar) (x2:Edge) (x3:Int) (x14:Side):(Int×Int)→Option ((Int×Int) ⊕ Int)
| (x47,x48)=>
 ifb (decide (x48<(ln Mail.row x1.Mail))) (
 (at_ x1.Mail x48).bind fun x49=>
 ifb (decide (x49.Msg.Kind=x3)) (
 ifb (decide (x49.Msg.Epoch=x14.Epoch)) (
 ifb (decide (((min x49.From x49.To))=((min x2.A x2.B)))) (
 (Z6j x47 x48) (decide (((max x49.From x49.To))=((max x2.A x2.B))))) (
 (Z6j x47 x48) false)) (
 (Z6j x47 x48) false)) (
 (Z6j x47 x48) false)) (
 Option.map Sum.inr (Z4j x47))
noncomputable def Z8j (x1:Bar) (x2:Edge) (x3:Int) (x14:Side):Int→Option Int
| x41=>
 loop (Z7j x1 x2 x3 x14) (x41,0)
noncomputable def Z9j (x28:Int):Int→Option ((Int×Int) ⊕ Int)
| x30=>
 some (.inl (x30,wr (x28+1)))
noncomputable def Zaj (x1:Bar) (x2:Edge) (x3:Int) (x14:Side) (x21:Bool) (x22:Bool):(Int×Int)→Option ((Int×Int) ⊕ Int)
| (x27,x28)=>
 ifb (decide (x28<2)) (
 (at_ [x21,x22] x28).bind fun x29=>
 ifb x29 (
 (Z9j x28) (wr (x27+1))) (
 (Z9j x28) x27)) (
 Option.map Sum.inr ((Z8j x1 x2 x3 x14) x27))
noncomputable def Zbj (x1:Bar) (x2:Edge) (x3:Int) (x14:Side):(Bool×Bool)→Option Int
| (x21,x22)=>
 loop (Zaj x1 x2 x3 x14 x21 x22) (0,0)
noncomputable def Zcj (x1:Bar) (x2:Edge) (x3:Int) (x14:Side) (x19:Side):Bool→Option Int
| x20=>
 ifb x20 (
 some 0) (
 ifb (decide (x3=4)) (
 (Zbj x1 x2 x3 x14) (x14.Ask,x19.Ask)) (
 (Zbj x1 x2 x3 x14) (x14.Bottle,x19.Bottle)))
noncomputable def Zdj (x1:Bar) (x2:Edge) (x3:Int) (x13:Bool) (x14:Side):(Bool×Side)→Option Int
| (x18,x19)=>
 ifb (!x13) (
 (Zcj x1 x2 x3 x14 x19) true) (
 ifb (!x18) (
 (Zcj x1 x2 x3 x14 x19) true) (
 (Zcj x1 x2 x3 x14 x19) (!decide (x14.Epoch=x19.Epoch))))
noncomputable def Zej (x1:Bar) (x2:Edge) (x3:Int):(Bool×Side)→Option Int
| (x13,x14)=>
 (at_ x1.Drinkers x2.B).bind fun x15=>
 (Zi7 x15.Diner x2.A).bind fun x16=>
 (Zdj x1 x2 x3 x13 x14) (x16.2,x16.1)
noncomputable def Zfj (x1:Bar) (x2:Edge) (x3:Int):Bool→Option Int
| x9=>
 ifb x9 (
 some 0) (
 (at_ x1.Drinkers x2.A).bind fun x10=>
 (Zi7 x10.Diner x2.B).bind fun x11=>
 (Zej x1 x2 x3) (x11.2,x11.1))
noncomputable def Zgj (x1:Bar) (x2:Edge) (x3:Int):Bool→Option Int
| x4=>
 ifb x4 (
 (Zsh x1).bind fun x5=>
 (Zfh x5 x2 x3).bind fun x6=>
 some x6) (
 (Z4i x1 x2.A).bind fun x7=>
 ifb (!x7) (
 (Zfj x1 x2 x3) true) (
 (Z4i x1 x2.B).bind fun x8=>
 (Zfj x1 x2 x3) (!x8)))
noncomputable def Zhj (x1:Bar) (x2:Edge) (x3:Int):Option Int:=
 ifb (!decide (x3=3)) (
 (Zgj x1 x2 x3) (!decide (x3=4))) (
 (Zgj x1 x2 x3) false)
theorem k_bar_Count (x1:Bar) (x2:Edge) (x3:Int) (r:Int) (h:Zhj x1 x2 x3=some r):Zs2 Tryz.prog 19 [.agg (Bar.row x1),.agg (Edge.row x2),.iv x3] (.iv r):=by
 refine Zw2 ok19 rfl rfl fun w0 H0=>?_
 rw [Zhj] at h
 refine Zn2 12 ?_;dsimp only [go_sem];refine An ?_;refine Zg4 (fun (x4:Bool)=>(⟨(.any :: .any :: .iv x3 :: .ptr 0 0 :: .ptr 1 0::an 17 (.bv x4::an 126 [])),[some ⟨25,[.sl 5 (List.map Drinker.row x1.Drinkers),.sl 5 (List.map Mail.row x1.Mail)]⟩,some ⟨30,[.iv x2.A,.iv x2.B]⟩],[]⟩:St)) (Zgj x1 x2 x3) r ?_ fun J1=>?_
 ·intro x4 h;rw [Zgj] at h;(try dsimp only);refine Zi4 h rfl (fun _ h=>?_) fun _ h=>?_
  ·refine Zn2 1 ?_;dsimp only [go_sem];refine An ?_;refine Zi3 (by kernel_rfl) fun all hall hs hnap haf=>?_;dsimp only [go_sem];refine Z65 hall hs haf hnap 3 3 ?_;dsimp only [go_sem];refine An ?_;refine Zt3 1 rfl ?_;obtain ⟨x5,ex5,h⟩:=Bs h;refine Zz3 hall rfl trivial (Zth x1 _ ex5) (h:=?_);dsimp only [go_sem];refine Zt3 4 rfl ?_;obtain ⟨x6,ex6,h⟩:=Bs h;refine Zz3 hall rfl trivial (k_table_Count x5 x2 x3 _ ex6) (h:=?_);dsimp only [go_sem];refine Z65 hall hs haf hnap 1 0 ?_;dsimp only [go_sem];refine An ?_;refine Zs3 rfl ?_ _
   exact Zq4 (res:=fun (r:Int)=>.iv r) ok19 h
  ·refine Zn2 7 ?_;dsimp only [go_sem];refine An ?_;obtain ⟨x7,ex7,h⟩:=Bs h;refine Z13 trivial (Z5i x1 x2.A _ ex7) (h:=?_);refine Zn2 2 ?_;dsimp only [go_sem];refine An ?_;refine Zg4 (fun (x9:Bool)=>(⟨(.any :: .any :: .iv x3 :: .ptr 0 0 :: .ptr 1 0::an 34 (.bv x9::an 109 [])),[some ⟨25,[.sl 5 (List.map Drinker.row x1.Drinkers),.sl 5 (List.map Mail.row x1.Mail)]⟩,some ⟨30,[.iv x2.A,.iv x2.B]⟩],[]⟩:St)) (Zfj x1 x2 x3) r ?_ fun J2=>?_
   ·intro x9 h;rw [Zfj] at h;(try dsimp only);refine Zi4 h rfl (fun _ h=>?_) fun _ h=>?_
    ·refine Zn2 4 ?_;dsimp only [go_sem];refine An ?_;exact Zq4 (res:=fun (r:Int)=>.iv r) ok19 h
    ·refine Zn2 2 ?_;dsimp only [go_sem];refine An ?_;refine Zg4 (fun ((x13,x14):(Bool×Side))=>(⟨(.any :: .any :: .iv x3 :: .ptr 0 0 :: .ptr 1 0 :: .any :: .any :: .ptr 2 0 :: .bv x13::an 140 []),[some ⟨25,[.sl 5 (List.map Drinker.row x1.Drinkers),.sl 5 (List.map Mail.row x1.Mail)]⟩,some ⟨30,[.iv x2.A,.iv x2.B]⟩,some ⟨66,[.iv x14.Peer,.iv x14.Epoch,.iv x14.State,.bv x14.Fork,.bv x14.Dirty,.bv x14.Token,.bv x14.Bottle,.bv x14.Ask]⟩],[]⟩:St)) (Zej x1 x2 x3) r ?_ fun J3=>?_
     ·rintro ⟨x13,x14⟩ h;rw [Zej] at h;(try dsimp only);refine Zn2 1 ?_;dsimp only [go_sem];refine An ?_
      refine Zg4 (fun ((x18,x19):(Bool×Side))=>(⟨(.any :: .any :: .iv x3 :: .ptr 0 0 :: .ptr 1 0 :: .any :: .any :: .ptr 2 0 :: .bv x13 :: .ptr 3 0 :: .bv x18::an 138 []),[some ⟨25,[.sl 5 (List.map Drinker.row x1.Drinkers),.sl 5 (List.map Mail.row x1.Mail)]⟩,some ⟨30,[.iv x2.A,.iv x2.B]⟩,some ⟨66,[.iv x14.Peer,.iv x14.Epoch,.iv x14.State,.bv x14.Fork,.bv x14.Dirty,.bv x14.Token,.bv x14.Bottle,.bv x14.Ask]⟩,some ⟨66,[.iv x19.Peer,.iv x19.Epoch,.iv x19.State,.bv x19.Fork,.bv x19.Dirty,.bv x19.Token,.bv x19.Bottle,.bv x19.Ask]⟩],[]⟩:St)) (Zdj x1 x2 x3 x13 x14) r ?_ fun J4=>?_
      ·rintro ⟨x18,x19⟩ h;rw [Zdj] at h;(try dsimp only);refine Zn2 6 ?_;dsimp only [go_sem];refine An ?_
       refine Zg4 (fun (x20:Bool)=>(⟨(.any :: .any :: .iv x3 :: .ptr 0 0 :: .ptr 1 0 :: .any :: .any :: .ptr 2 0 :: .any :: .ptr 3 0::an 68 (.bv x20::an 70 [])),[some ⟨25,[.sl 5 (List.map Drinker.row x1.Drinkers),.sl 5 (List.map Mail.row x1.Mail)]⟩,some ⟨30,[.iv x2.A,.iv x2.B]⟩,some ⟨66,[.iv x14.Peer,.iv x14.Epoch,.iv x14.State,.bv x14.Fork,.bv x14.Dirty,.bv x14.Token,.bv x14.Bottle,.bv x14.Ask]⟩,some ⟨66,[.iv x19.Peer,.iv x19.Epoch,.iv x19.State,.bv x19.Fork,.bv x19.Dirty,.bv x19.Token,.bv x19.Bottle,.bv x19.Ask]⟩],[]⟩:St)) (Zcj x1 x2 x3 x14 x19) r ?_ fun J5=>?_
       ·intro x20 h;rw [Zcj] at h;(try dsimp only);refine Zi4 h rfl (fun _ h=>?_) fun _ h=>?_
        ·refine Zn2 4 ?_;dsimp only [go_sem];refine An ?_;exact Zq4 (res:=fun (r:Int)=>.iv r) ok19 h
        ·refine Zn2 17 ?_;dsimp only [go_sem];refine An ?_;refine Zg4 (fun ((x21,x22):(Bool×Bool))=>(⟨(.any :: .any :: .iv x3 :: .ptr 0 0 :: .ptr 1 0 :: .any :: .any :: .ptr 2 0::an 3 (.ptr 4 0::an 137 [])),[some ⟨25,[.sl 5 (List.map Drinker.row x1.Drinkers),.sl 5 (List.map Mail.row x1.Mail)]⟩,some ⟨30,[.iv x2.A,.iv x2.B]⟩,some ⟨66,[.iv x14.Peer,.iv x14.Epoch,.iv x14.State,.bv x14.Fork,.bv x14.Dirty,.bv x14.Token,.bv x14.Bottle,.bv x14.Ask]⟩,none,some ⟨105,[.bv x21,.bv x22]⟩],[]⟩:St)) (Zbj x1 x2 x3 x14) r ?_ fun J6=>?_
         ·rintro ⟨x21,x22⟩ h;rw [Zbj] at h;(try dsimp only);refine Zn2 10 ?_;dsimp only [go_sem];refine An ?_;refine Zg4 (fun (x41:Int)=>(⟨(.any :: .any :: .iv x3 :: .ptr 0 0 :: .ptr 1 0 :: .any :: .any :: .ptr 2 0::an 4 (.iv x41::an 136 [])),[some ⟨25,[.sl 5 (List.map Drinker.row x1.Drinkers),.sl 5 (List.map Mail.row x1.Mail)]⟩,some ⟨30,[.iv x2.A,.iv x2.B]⟩,some ⟨66,[.iv x14.Peer,.iv x14.Epoch,.iv x14.State,.bv x14.Fork,.bv x14.Dirty,.bv x14.Token,.bv x14.Bottle,.bv x14.Ask]⟩],[]⟩:St)) (Z8j x1 x2 x3 x14) r ?_ fun J7=>?_
          ·intro x41 h;rw [Z8j] at h;(try dsimp only);refine Zn2 8 ?_;dsimp only [go_sem];refine An ?_;refine Zg4 (fun (x61:Int)=>(⟨(an 12 (.iv x61::an 136 [])),[],[]⟩:St)) Z4j r ?_ fun J9=>?_
           ·intro x61 h;rw [Z4j] at h;(try dsimp only);refine Zn2 5 ?_;dsimp only [go_sem];refine An ?_;exact Zq4 (res:=fun (r:Int)=>.iv r) ok19 h
           ·refine Zn2 1 ?_;dsimp only [go_sem];refine An ?_;refine Zh4 h (fun ((x47,x48):(Int×Int))=>(⟨(.any :: .any :: .iv x3 :: .any :: .ptr 1 0 :: .any :: .any :: .ptr 2 0::an 4 (.iv x47::an 87 (.sl 5 (List.map Mail.row x1.Mail) :: .iv (ln Mail.row x1.Mail) :: .iv x48::an 46 []))),[none,some ⟨30,[.iv x2.A,.iv x2.B]⟩,some ⟨66,[.iv x14.Peer,.iv x14.Epoch,.iv x14.State,.bv x14.Fork,.bv x14.Dirty,.bv x14.Token,.bv x14.Bottle,.bv x14.Ask]⟩],[]⟩:St)) (by simp [go_sem]) (by rintro ⟨x47,x48⟩;first | rfl | simp [go_sem]) ?_
            rintro n1 ⟨x47,x48⟩ y1 h hin1 hout1;rw [Z7j] at h;(try dsimp only);refine Zn2 5 ?_;dsimp only [go_sem];refine An ?_;refine Zi4 h rfl (fun _ h=>?_) fun _ h=>?_
            ·refine Zn2 5 ?_;dsimp only [go_sem];refine An ?_;obtain ⟨x49,ex49,h⟩:=Bs h;refine Zl4 Mail.row ex49 trivial rfl rfl rfl ?_;refine Zn2 12 ?_;dsimp only [go_sem];refine An ?_
             refine Zg4 (fun (x50:Bool)=>(⟨(.any :: .any :: .iv x3 :: .any :: .ptr 1 0 :: .any :: .any :: .ptr 2 0::an 4 (.iv x47::an 87 (.sl 5 (List.map Mail.row x1.Mail) :: .iv (ln Mail.row x1.Mail) :: .iv x48::an 41 (.bv x50::an 4 [])))),[none,some ⟨30,[.iv x2.A,.iv x2.B]⟩,some ⟨66,[.iv x14.Peer,.iv x14.Epoch,.iv x14.State,.bv x14.Fork,.bv x14.Dirty,.bv x14.Token,.bv x14.Bottle,.bv x14.Ask]⟩],[]⟩:St)) (Z6j x47 x48) y1 ?_ fun J10=>?_
             ·intro x50 h;rw [Z6j] at h;(try dsimp only);refine Zg4 (fun (x51:Int)=>(⟨(.any :: .any :: .iv x3 :: .any :: .ptr 1 0 :: .any :: .any :: .ptr 2 0::an 4 (.iv x51::an 87 (.sl 5 (List.map Mail.row x1.Mail) :: .iv (ln Mail.row x1.Mail) :: .iv x48::an 46 []))),[none,some ⟨30,[.iv x2.A,.iv x2.B]⟩,some ⟨66,[.iv x14.Peer,.iv x14.Epoch,.iv x14.State,.bv x14.Fork,.bv x14.Dirty,.bv x14.Token,.bv x14.Bottle,.bv x14.Ask]⟩],[]⟩:St)) (Z5j x48) y1 ?_ fun J11=>?_
              ·intro x51 h;rw [Z5j] at h;(try dsimp only);refine Zn2 5 ?_;dsimp only [go_sem];refine An ?_;exact Zr4 h hin1
              ·refine Zi4 h rfl (fun _ h=>?_) fun _ h=>?_
               ·refine Zn2 5 ?_;dsimp only [go_sem];refine An ?_;exact Zs4 J11 (s:=wr (x47+1)) h
               ·refine Zn2 1 ?_;dsimp only [go_sem];refine An ?_;exact Zs4 J11 (s:=x47) h
             ·refine Zp4 111 h rfl (fun _ h=>?_) fun _ h=>?_
              ·dsimp only [go_sem];refine Zn2 8 ?_;dsimp only [go_sem];refine An ?_;refine Zp4 119 h rfl (fun _ h=>?_) fun _ h=>?_
               ·dsimp only [go_sem];refine Zn2 13 ?_;dsimp only [go_sem];refine An ?_;refine Zp4 132 h rfl (fun _ h=>?_) fun _ h=>?_
                ·dsimp only [go_sem];refine Zn2 13 ?_;dsimp only [go_sem];refine An ?_;exact Zs4 J10 (s:=decide (((max x49.From x49.To))=((max x2.A x2.B)))) h
                ·dsimp only [go_sem];refine Zn2 13 ?_;dsimp only [go_sem];refine An ?_;exact Zs4 J10 (s:=false) h
               ·dsimp only [go_sem];refine Zn2 26 ?_;dsimp only [go_sem];refine An ?_;exact Zs4 J10 (s:=false) h
              ·dsimp only [go_sem];refine Zn2 34 ?_;dsimp only [go_sem];refine An ?_;exact Zs4 J10 (s:=false) h
            ·refine Zn2 1 ?_;dsimp only [go_sem];refine An ?_;exact Zs4 J9 (s:=x47) (Zf4 h hout1)
          ·refine Zn2 1 ?_;dsimp only [go_sem];refine An ?_
           refine Zh4 h (fun ((x27,x28):(Int×Int))=>(⟨(.any :: .any :: .iv x3 :: .ptr 0 0 :: .ptr 1 0 :: .any :: .any :: .ptr 2 0::an 4 (.iv x27::an 78 (.agg [.bv x21,.bv x22] :: .iv x28::an 56 []))),[some ⟨25,[.sl 5 (List.map Drinker.row x1.Drinkers),.sl 5 (List.map Mail.row x1.Mail)]⟩,some ⟨30,[.iv x2.A,.iv x2.B]⟩,some ⟨66,[.iv x14.Peer,.iv x14.Epoch,.iv x14.State,.bv x14.Fork,.bv x14.Dirty,.bv x14.Token,.bv x14.Bottle,.bv x14.Ask]⟩],[]⟩:St)) (by simp [go_sem]) (by rintro ⟨x27,x28⟩;first | rfl | simp [go_sem]) ?_
           rintro n1 ⟨x27,x28⟩ y1 h hin1 hout1;rw [Zaj] at h;(try dsimp only);refine Zn2 5 ?_;dsimp only [go_sem];refine An ?_;refine Zi4 h rfl (fun _ h=>?_) fun _ h=>?_
           ·refine Zn2 5 ?_;dsimp only [go_sem];refine An ?_;obtain ⟨x29,ex29,h⟩:=Bs h;refine V_aiM AV.bv ex29 trivial (by rfl) rfl rfl ?_;refine Zn2 6 ?_;dsimp only [go_sem];refine An ?_
            refine Zg4 (fun (x30:Int)=>(⟨(.any :: .any :: .iv x3 :: .ptr 0 0 :: .ptr 1 0 :: .any :: .any :: .ptr 2 0::an 4 (.iv x30::an 78 (.agg [.bv x21,.bv x22] :: .iv x28::an 56 []))),[some ⟨25,[.sl 5 (List.map Drinker.row x1.Drinkers),.sl 5 (List.map Mail.row x1.Mail)]⟩,some ⟨30,[.iv x2.A,.iv x2.B]⟩,some ⟨66,[.iv x14.Peer,.iv x14.Epoch,.iv x14.State,.bv x14.Fork,.bv x14.Dirty,.bv x14.Token,.bv x14.Bottle,.bv x14.Ask]⟩],[]⟩:St)) (Z9j x28) y1 ?_ fun J8=>?_
            ·intro x30 h;rw [Z9j] at h;(try dsimp only);refine Zn2 5 ?_;dsimp only [go_sem];refine An ?_;exact Zr4 h hin1
            ·refine Zi4 h rfl (fun _ h=>?_) fun _ h=>?_
             ·refine Zn2 5 ?_;dsimp only [go_sem];refine An ?_;exact Zs4 J8 (s:=wr (x27+1)) h
             ·refine Zn2 1 ?_;dsimp only [go_sem];refine An ?_;exact Zs4 J8 (s:=x27) h
           ·refine Zn2 1 ?_;dsimp only [go_sem];refine An ?_;exact Zs4 J7 (s:=x27) (Zf4 h hout1)
         ·refine Zi4 h rfl (fun _ h=>?_) fun _ h=>?_
          ·refine Zn2 8 ?_;dsimp only [go_sem];refine An ?_;exact Zs4 J6 (s:=(x14.Ask,x19.Ask)) h
          ·refine Zn2 1 ?_;dsimp only [go_sem];refine An ?_;exact Zs4 J6 (s:=(x14.Bottle,x19.Bottle)) h
       ·refine Zp4 68 h rfl (fun _ h=>?_) fun _ h=>?_
        ·dsimp only [go_sem];refine Zn2 11 ?_;dsimp only [go_sem];refine An ?_;exact Zs4 J5 (s:=true) h
        ·dsimp only [go_sem];refine Zn2 4 ?_;dsimp only [go_sem];refine An ?_;refine Zp4 72 h rfl (fun _ h=>?_) fun _ h=>?_
         ·dsimp only [go_sem];refine Zn2 7 ?_;dsimp only [go_sem];refine An ?_;exact Zs4 J5 (s:=true) h
         ·dsimp only [go_sem];refine Zn2 7 ?_;dsimp only [go_sem];refine An ?_;exact Zs4 J5 (s:=!decide (x14.Epoch=x19.Epoch)) h
      ·refine Zi3 (by kernel_rfl) fun all hall hs hnap haf=>?_;dsimp only [go_sem];refine Z75 hall hs haf hnap 6 10 [4,3,2,7] [(54,[.ptr 0 0,.sl 5 (List.map Drinker.row x1.Drinkers),.ptr 1 1,.iv x2.B]),(3,[.ptr 1 0,.iv x2.A])] (by kernel_rfl) ?_;dsimp only [go_sem];obtain ⟨x15,ex15,h⟩:=Bs h;refine Zm4 hall hs haf hnap 4 Drinker.row ex15 rfl rfl trivial rfl rfl rfl rfl ?_;refine Z65 hall hs haf hnap 2 7 ?_;dsimp only [go_sem];refine An ?_;obtain ⟨x16,ex16,h⟩:=Bs h;refine Zu3 9 13 rfl ?_ ?_
       ·refine Zz3 hall rfl trivial (Zj7 x15.Diner x2.A _ ex16) (h:=?_);dsimp only [go_sem];refine Z65 hall hs haf hnap 3 3 ?_;dsimp only [go_sem];refine An ?_;refine Zt3 13 rfl ?_;refine Zy3 hall rfl trivial ?_;dsimp only [go_sem];refine Zt3 14 rfl ?_;refine Zy3 hall rfl trivial ?_;dsimp only [go_sem];refine Z65 hall hs haf hnap 1 0 ?_;dsimp only [go_sem];refine An ?_;refine Zs3 rfl ?_ _;exact Zs4 J4 (s:=(x16.2,x16.1)) h
       ·refine Zy3 hall rfl trivial ?_;dsimp only [go_sem];refine Zt3 9 rfl ?_;refine Zz3 hall rfl trivial (Zj7 x15.Diner x2.A _ ex16) (h:=?_);dsimp only [go_sem];refine Z65 hall hs haf hnap 3 2 ?_;dsimp only [go_sem];refine An ?_;refine Zt3 14 rfl ?_;refine Zy3 hall rfl trivial ?_;dsimp only [go_sem];refine Z65 hall hs haf hnap 1 0 ?_;dsimp only [go_sem];refine An ?_;refine Zs3 rfl ?_ _;exact Zs4 J4 (s:=(x16.2,x16.1)) h
     ·refine Zi3 (by kernel_rfl) fun all hall hs hnap haf=>?_;dsimp only [go_sem];refine Z75 hall hs haf hnap 6 10 [4,3,2,7] [(41,[.ptr 0 0,.sl 5 (List.map Drinker.row x1.Drinkers),.ptr 1 0,.iv x2.A]),(3,[.ptr 1 1,.iv x2.B])] (by kernel_rfl) ?_;dsimp only [go_sem];obtain ⟨x10,ex10,h⟩:=Bs h;refine Zm4 hall hs haf hnap 4 Drinker.row ex10 rfl rfl trivial rfl rfl rfl rfl ?_;refine Z65 hall hs haf hnap 2 7 ?_;dsimp only [go_sem];refine An ?_;obtain ⟨x11,ex11,h⟩:=Bs h;refine Zu3 9 13 rfl ?_ ?_
      ·refine Zz3 hall rfl trivial (Zj7 x10.Diner x2.B _ ex11) (h:=?_);dsimp only [go_sem];refine Z65 hall hs haf hnap 3 3 ?_;dsimp only [go_sem];refine An ?_;refine Zt3 13 rfl ?_;refine Zy3 hall rfl trivial ?_;dsimp only [go_sem];refine Zt3 14 rfl ?_;refine Zy3 hall rfl trivial ?_;dsimp only [go_sem];refine Z65 hall hs haf hnap 1 0 ?_;dsimp only [go_sem];refine An ?_;refine Zs3 rfl ?_ _;exact Zs4 J3 (s:=(x11.2,x11.1)) h
      ·refine Zy3 hall rfl trivial ?_;dsimp only [go_sem];refine Zt3 9 rfl ?_;refine Zz3 hall rfl trivial (Zj7 x10.Diner x2.B _ ex11) (h:=?_);dsimp only [go_sem];refine Z65 hall hs haf hnap 3 2 ?_;dsimp only [go_sem];refine An ?_;refine Zt3 14 rfl ?_;refine Zy3 hall rfl trivial ?_;dsimp only [go_sem];refine Z65 hall hs haf hnap 1 0 ?_;dsimp only [go_sem];refine An ?_;refine Zs3 rfl ?_ _;exact Zs4 J3 (s:=(x11.2,x11.1)) h
   ·refine Zp4 33 h rfl (fun _ h=>?_) fun _ h=>?_
    ·dsimp only [go_sem];refine Zn2 7 ?_;dsimp only [go_sem];refine An ?_;exact Zs4 J2 (s:=true) h
    ·dsimp only [go_sem];refine Zn2 3 ?_;dsimp only [go_sem];refine An ?_;obtain ⟨x8,ex8,h⟩:=Bs h;refine Z13 trivial (Z5i x1 x2.B _ ex8) (h:=?_);refine Zn2 3 ?_;dsimp only [go_sem];refine An ?_;exact Zs4 J2 (s:=!x8) h
 ·refine Zp4 19 h rfl (fun _ h=>?_) fun _ h=>?_
  ·dsimp only [go_sem];refine Zn2 4 ?_;dsimp only [go_sem];refine An ?_;exact Zs4 J1 (s:=!decide (x3=4)) h
  ·dsimp only [go_sem];refine Zn2 4 ?_;dsimp only [go_sem];refine An ?_;exact Zs4 J1 (s:=false) h
set_option maxRecDepth 100000
set_option maxHeartbeats 4000000
@[go_sem] def e40_L0:EC:=.seq (.reg [(Qa 22 (.bin .lss (.t 21) (.t 20)))]) (.seq (.ite (.t 22) (.skip) (.exit 0)) (.seq (.blk 1 (.seq (.reg [(Qk 23 3 19 21),(Qe 24 3 23),(Qa 8 (.alloc 61 [.iv 0,.iv 0,.nl])),(Qs 3 8 24)]) (.reg [(Qf 25 0 6),(Ql 26 25),(Qe 27 3 8),(Qa 28 (.build [.iv 0,.iv 0,.nl,.iv 0,.nl] [(0,3,(.t 27))])),(Qa 29 (.bsl 63 5 1 [.iv 0,.iv 0,.nl,.iv 0,.nl] [(0,(.t 28))])),(Qa 30 (.app 63 5 72 (.t 26) (.t 29))),(Qf 31 0 6),(Qs 1 31 30)]))) (.reg [(Qv 32 21 1),(Qm 21 32)])))
@[go_sem] def e40:EC:=.seq (.reg [(Qx 1 53 2 0),(Qa 2 (.alloc 25 [.nl,.nl])),(Qi 3 0)]) (.seq (.reg [(Qe 10 2 1),(Qa 11 (.call 78 [(.t 10)])),(Qm 9 11),(Qa 12 (.ext (.t 9) 0)),(Qa 13 (.ext (.t 9) 1)),(Qa 4 (.alloc 48 [.nl,.nl])),(Qs 2 4 12),(Qm 5 13)]) (.seq (.seq (.reg [(Qm 14 5),(Qa 15 (.bin .neq (.t 14) (.c (.iv 0))))]) (.ite (.t 15) (.seq (.reg [(Qa 16 (.build [.nl,.nl] [])),(Qm 17 5),(Qs 2 2 16),(Qm 3 17)]) (.ret)) (.skip))) (.seq (.reg [(Qa 6 (.alloc 25 [.nl,.nl]))]) (.seq (.seq (.reg [(Qf 18 0 4),(Ql 19 18),(Qa 20 (.len (.t 19))),(Qi 21 0)]) (.blk 0 (.loop e40_L0))) (.seq (.reg [(Qe 33 2 6),(Qs 2 2 33),(Qi 3 0)]) (.ret))))))
theorem ok40:FnOK Tryz.prog 40 Tryz.f40 e40 [.c 2 (some 2),.t 3] 1 33:=⟨by kernel_rfl,⟨_,rfl,by kernel_rfl⟩,by kernel_rfl,by kernel_rfl⟩
noncomputable def Zij:(List Drinker)→Option (Bar×Int)
| x17=>
 some ((Bar.mk x17 (([]:(List Mail)))),0)
noncomputable def Zjj (x2:(Scene×Int)):(Int×(List Drinker))→Option ((Int×(List Drinker)) ⊕ (Bar×Int))
| (x7,x8)=>
 ifb (decide (x7<(ln Diner.row x2.1.Diners))) (
 (at_ x2.1.Diners x7).bind fun x9=>
 (Zb4 72 x8 ([(Drinker.mk x9 0 (([]:List Int)))])).bind fun x10=>
 some (.inl (wr (x7+1),x10))) (
 Option.map Sum.inr (Zij x8))
noncomputable def Zkj (x1:Graph):Option (Bar×Int):=
 (Zeg x1).bind fun x2=>
 ifb (!decide (x2.2=0)) (
 some ((Bar.mk (([]:(List Drinker))) (([]:(List Mail)))),x2.2)) (
 loop (Zjj x2) (0,([]:List Drinker)))
theorem k_bar_New (x1:Graph) (r:(Bar×Int)) (h:Zkj x1=some r):Zs2 Tryz.prog 40 [.agg (Graph.row x1)] (.tup [.agg (Bar.row r.1),.iv r.2]):=by
 refine Zw2 ok40 rfl rfl fun w0 H0=>?_
 rw [Zkj] at h
 refine Zn2 9 ?_;dsimp only [go_sem];refine An ?_;obtain ⟨x2,ex2,h⟩:=Bs h;refine Z13 trivial (k_table_New x1 _ ex2) (h:=?_);refine Zn2 13 ?_;dsimp only [go_sem];refine An ?_;refine Zi4 h rfl (fun _ h=>?_) fun _ h=>?_
 ·refine Zn2 7 ?_;dsimp only [go_sem];refine An ?_;exact Zq4 (res:=fun (r:(Bar×Int))=>.tup [.agg (Bar.row r.1),.iv r.2]) ok40 h
 ·refine Zn2 13 ?_;dsimp only [go_sem];refine An ?_;refine Zg4 (fun (x17:(List Drinker))=>(⟨(.any :: .any :: .ptr 1 0::an 3 (.ptr 3 0::an 27 [])),[none,some ⟨25,[.nl,.nl]⟩,none,some ⟨25,[.osl 0,.nl]⟩],[some ⟨63,5,List.map Drinker.row x17⟩]⟩:St)) Zij r ?_ fun J1=>?_
  ·intro x17 h;rw [Zij] at h;(try dsimp only);refine Zn2 6 ?_;dsimp only [go_sem];refine An ?_;refine Za3 0 rfl ?_;dsimp only [go_sem];exact Zq4 (res:=fun (r:(Bar×Int))=>.tup [.agg (Bar.row r.1),.iv r.2]) ok40 h
  ·refine Zn2 1 ?_;dsimp only [go_sem];refine An ?_;refine Z54 3 0 63 5 rfl rfl rfl ?_;dsimp only [go_sem];refine Zh4 h (fun ((x7,x8):(Int×(List Drinker)))=>(⟨(.any :: .any :: .ptr 1 0::an 3 (.ptr 3 0::an 12 (.sl 3 (List.map Diner.row x2.1.Diners) :: .iv (ln Diner.row x2.1.Diners) :: .iv x7::an 12 []))),[none,some ⟨25,[.nl,.nl]⟩,none,some ⟨25,[.osl 0,.nl]⟩],[some ⟨63,5,List.map Drinker.row x8⟩]⟩:St)) (by simp [go_sem]) (by rintro ⟨x7,x8⟩;first | rfl | simp [go_sem]) ?_;rintro n1 ⟨x7,x8⟩ y1 h hin1 hout1;rw [Zjj] at h;(try dsimp only)
   refine Zn2 5 ?_;dsimp only [go_sem];refine An ?_;refine Zi4 h rfl (fun _ h=>?_) fun _ h=>?_
   ·refine Zn2 5 ?_;dsimp only [go_sem];refine An ?_;obtain ⟨x9,ex9,h⟩:=Bs h;refine Zl4 Diner.row ex9 trivial rfl rfl rfl ?_;refine Zn2 9 ?_;dsimp only [go_sem];refine An ?_;refine V_put1 28 (.agg [.iv x9.ID,.iv x9.Phase,.sl 8 (List.map Side.row x9.Sides),.iv 0,.sl 1 (List.map Zw4 (([]:List Int)))]) (by simp [go_sem]) ?_;dsimp only [go_sem];refine Zn2 1 ?_;dsimp only [go_sem];refine An ?_;obtain ⟨x10,ex10,h⟩:=Bs h;refine Zn4 Drinker.row ex10 trivial rfl rfl rfl ?_;refine Zn2 8 ?_;dsimp only [go_sem];refine An ?_;refine Z44 2 0 rfl rfl rfl ?_
    dsimp only [go_sem];exact Zr4 h hin1
   ·refine Zn2 1 ?_;dsimp only [go_sem];refine An ?_;exact Zs4 J1 (s:=x8) (Zf4 h hout1)
set_option maxRecDepth 100000
set_option maxHeartbeats 4000000
@[go_sem] def e67_L0:EC:=.seq (.reg [(Qa 18 (.bin .lss (.t 17) (.t 16)))]) (.seq (.ite (.t 18) (.skip) (.exit 0)) (.seq (.blk 1 (.seq (.reg [(Qm 19 17),(Qk 20 5 15 17),(Qe 21 5 20),(Qa 8 (.alloc 63 [.iv 0,.iv 0,.nl,.iv 0,.nl])),(Qm 7 19),(Qs 5 8 21)]) (.seq (.reg [(Qm 22 1),(Qm 23 7),(Qk 24 5 22 23),(Qe 25 5 24),(Qa 9 (.alloc 63 [.iv 0,.iv 0,.nl,.iv 0,.nl])),(Qs 5 9 25)]) (.seq (.reg [(Qm 26 2),(Qe 27 5 8),(Qe 28 5 9),(Qa 29 (.callv (.t 26) [(.t 27),(.t 28)])),(Qa 30 (.not (.t 29)))]) (.ite (.t 30) (.seq (.reg [(Qa 6 (.mv (.c .ff)))]) (.ret)) (.skip)))))) (.reg [(Qv 31 17 1),(Qm 17 31)])))
@[go_sem] def e67:EC:=.seq (.reg [(Qa 6 (.mv (.c .ff)))]) (.seq (.seq (.reg [(Qm 10 0),(Qa 11 (.len (.t 10))),(Qm 12 1),(Qa 13 (.len (.t 12))),(Qa 14 (.bin .neq (.t 11) (.t 13)))]) (.ite (.t 14) (.seq (.reg [(Qa 6 (.mv (.c .ff)))]) (.ret)) (.skip))) (.seq (.seq (.reg [(Qm 15 0),(Qa 16 (.len (.t 15))),(Qi 17 0)]) (.blk 0 (.loop e67_L0))) (.seq (.reg [(Qa 6 (.mv (.c .tt)))]) (.ret))))
theorem ok67:FnOK Tryz.prog 67 Tryz.f67 e67 [.t 6] 3 29:=⟨by kernel_rfl,⟨_,rfl,by kernel_rfl⟩,by kernel_rfl,by kernel_rfl⟩
noncomputable def Zlj:Unit→Option Bool
| ()=>
 some true
noncomputable def Zmj (x1:(List Drinker)) (x2:(List Drinker)) (p2:((Drinker×Drinker)→Option Bool)):Int→Option (Int ⊕ Bool)
| x7=>
 ifb (decide (x7<(ln Drinker.row x1))) (
 (at_ x1 x7).bind fun x8=>
 (at_ x2 x7).bind fun x9=>
 (p2 (x8,x9)).bind fun x10=>
 ifb (!x10) (
 Option.map Sum.inr (some false)) (
 some (.inl (wr (x7+1))))) (
 Option.map Sum.inr (Zlj ()))
noncomputable def Znj (x1:(List Drinker)) (x2:(List Drinker)) (p2:((Drinker×Drinker)→Option Bool)):Option Bool:=
 ifb (!decide ((ln Drinker.row x1)=(ln Drinker.row x2))) (
 some false) (
 loop (Zmj x1 x2 p2) 0)
theorem Zoj (x1:(List Drinker)) (x2:(List Drinker)) (g2:Nat) (caps2:List AV) (p2:((Drinker×Drinker)→Option Bool)) (hc2:CloOK Tryz.prog g2 caps2 (fun z=>[.agg (Drinker.row z.1),.agg (Drinker.row z.2)]) p2 (fun z=>.bv z)) (r:Bool) (h:Znj x1 x2 p2=some r):Zs2 Tryz.prog 67 [.sl 5 (List.map Drinker.row x1),.sl 5 (List.map Drinker.row x2),.clo g2 caps2] (.bv r):=by
 refine Zw2 ok67 rfl rfl fun w0 H0=>?_
 rw [Znj] at h
 refine Zn2 13 ?_;dsimp only [go_sem];refine An ?_;refine Zi4 h rfl (fun _ h=>?_) fun _ h=>?_
 ·refine Zn2 4 ?_;dsimp only [go_sem];refine An ?_;exact Zq4 (res:=fun (r:Bool)=>.bv r) ok67 h
 ·refine Zn2 8 ?_;dsimp only [go_sem];refine An ?_;refine Zg4 (fun (_:Unit)=>(⟨(an 32 []),[],[]⟩:St)) Zlj r ?_ fun J1=>?_
  ·rintro ⟨⟩ h;rw [Zlj] at h;(try dsimp only);refine Zn2 4 ?_;dsimp only [go_sem];refine An ?_;exact Zq4 (res:=fun (r:Bool)=>.bv r) ok67 h
  ·refine Zn2 1 ?_;dsimp only [go_sem];refine An ?_;refine Zh4 h (fun (x7:Int)=>(⟨(.any :: .sl 5 (List.map Drinker.row x2) :: .clo g2 caps2::an 12 (.sl 5 (List.map Drinker.row x1) :: .iv (ln Drinker.row x1) :: .iv x7::an 14 [])),[],[]⟩:St)) (by simp [go_sem]) (by intro x7;first | rfl | simp [go_sem,Z94 _ hc2.pu]) ?_;rintro n1 x7 y1 h hin1 hout1;rw [Zmj] at h;(try dsimp only);refine Zn2 5 ?_;dsimp only [go_sem];refine An ?_;refine Zi4 h rfl (fun _ h=>?_) fun _ h=>?_
   ·refine Zn2 6 ?_;dsimp only [go_sem];refine An ?_;obtain ⟨x8,ex8,h⟩:=Bs h;refine Zl4 Drinker.row ex8 trivial rfl rfl rfl ?_;refine Zn2 9 ?_;dsimp only [go_sem];refine An ?_;obtain ⟨x9,ex9,h⟩:=Bs h;refine Zl4 Drinker.row ex9 trivial rfl rfl rfl ?_;refine Zn2 9 ?_;dsimp only [go_sem];refine An ?_;obtain ⟨x10,ex10,h⟩:=Bs h;refine Zv4 trivial rfl hc2 (x:=(x8,x9)) ex10 (by first | exact Za4 _ | simp [go_sem]) (by first | rfl | simp [go_sem,hc2.pu]) ?_;refine Zn2 2 ?_;dsimp only [go_sem];refine An ?_
    refine Zi4 h rfl (fun _ h=>?_) fun _ h=>?_
    ·refine Zn2 4 ?_;dsimp only [go_sem];refine An ?_;exact Zq4 (res:=fun (r:Bool)=>.bv r) ok67 (Zf4 h hout1)
    ·refine Zn2 6 ?_;dsimp only [go_sem];refine An ?_;exact Zr4 h hin1 (hok:=by first | rfl | simp [go_sem,Z94 _ hc2.pu])
   ·refine Zn2 1 ?_;dsimp only [go_sem];refine An ?_;exact Zs4 J1 (s:=()) (Zf4 h hout1) (hok:=by first | rfl | simp [go_sem,Z94 _ hc2.pu])
set_option maxRecDepth 100000
set_option maxHeartbeats 4000000
@[go_sem] def e69_L0:EC:=.seq (.reg [(Qa 14 (.bin .lss (.t 13) (.t 12)))]) (.seq (.ite (.t 14) (.skip) (.exit 0)) (.seq (.blk 1 (.seq (.reg [(Qm 15 13),(Qm 5 15)]) (.seq (.drw [(Qm 16 0),(Qm 17 5),(Qk 18 5 16 17),(Qe 19 5 18),(Qm 20 1),(Qm 21 5),(Qk 22 5 20 21),(Qe 23 5 22),(Qa 24 (.eqs true [true,true,true,true,true] (.t 19) (.t 23)))] [[],[],[0,1],[2],[],[],[4,5],[6],[3,7]] [[2],[2],[0,1,3],[2,8],[6],[6],[4,5,7],[6,8],[3,7]]) (.ite (.t 24) (.seq (.reg [(Qa 4 (.mv (.c .ff)))]) (.ret)) (.skip))))) (.reg [(Qv 25 13 1),(Qm 13 25)])))
@[go_sem] def e69:EC:=.seq (.reg [(Qa 4 (.mv (.c .ff)))]) (.seq (.seq (.reg [(Qm 6 0),(Qa 7 (.len (.t 6))),(Qm 8 1),(Qa 9 (.len (.t 8))),(Qa 10 (.bin .neq (.t 7) (.t 9)))]) (.ite (.t 10) (.seq (.reg [(Qa 4 (.mv (.c .ff)))]) (.ret)) (.skip))) (.seq (.seq (.reg [(Qm 11 0),(Qa 12 (.len (.t 11))),(Qi 13 0)]) (.blk 0 (.loop e69_L0))) (.seq (.reg [(Qa 4 (.mv (.c .tt)))]) (.ret))))
theorem ok69:FnOK Tryz.prog 69 Tryz.f69 e69 [.t 4] 2 24:=⟨by kernel_rfl,⟨_,rfl,by kernel_rfl⟩,by kernel_rfl,by kernel_rfl⟩
noncomputable def Zpj:Unit→Option Bool
| ()=>
 some true
noncomputable def Zqj (x1:(List Mail)) (x2:(List Mail)):Int→Option (Int ⊕ Bool)
| x6=>
 ifb (decide (x6<(ln Mail.row x1))) (
 (at_ x1 x6).bind fun x7=>
 (at_ x2 x6).bind fun x8=>
 ifb (!(decide (x7.From=x8.From)&&(decide (x7.To=x8.To)&&(decide (x7.Msg.Kind=x8.Msg.Kind)&&(decide (x7.Msg.Epoch=x8.Msg.Epoch)&&(decide (x7.Msg.Num=x8.Msg.Num)&&true)))))) (
 Option.map Sum.inr (some false)) (
 some (.inl (wr (x6+1))))) (
 Option.map Sum.inr (Zpj ()))
noncomputable def Zrj (x1:(List Mail)) (x2:(List Mail)):Option Bool:=
 ifb (!decide ((ln Mail.row x1)=(ln Mail.row x2))) (
 some false) (
 loop (Zqj x1 x2) 0)
theorem Zsj (x1:(List Mail)) (x2:(List Mail)) (r:Bool) (h:Zrj x1 x2=some r):Zs2 Tryz.prog 69 [.sl 5 (List.map Mail.row x1),.sl 5 (List.map Mail.row x2)] (.bv r):=by
 refine Zw2 ok69 rfl rfl fun w0 H0=>?_
 rw [Zrj] at h
 refine Zn2 13 ?_;dsimp only [go_sem];refine An ?_;refine Zi4 h rfl (fun _ h=>?_) fun _ h=>?_
 ·refine Zn2 4 ?_;dsimp only [go_sem];refine An ?_;exact Zq4 (res:=fun (r:Bool)=>.bv r) ok69 h
 ·refine Zn2 8 ?_;dsimp only [go_sem];refine An ?_;refine Zg4 (fun (_:Unit)=>(⟨(an 26 []),[],[]⟩:St)) Zpj r ?_ fun J1=>?_
  ·rintro ⟨⟩ h;rw [Zpj] at h;(try dsimp only);refine Zn2 4 ?_;dsimp only [go_sem];refine An ?_;exact Zq4 (res:=fun (r:Bool)=>.bv r) ok69 h
  ·refine Zn2 1 ?_;dsimp only [go_sem];refine An ?_;refine Zh4 h (fun (x6:Int)=>(⟨(.sl 5 (List.map Mail.row x1) :: .sl 5 (List.map Mail.row x2)::an 10 (.iv (ln Mail.row x1) :: .iv x6::an 12 [])),[],[]⟩:St)) (by simp [go_sem]) (by intro x6;first | rfl | simp [go_sem]) ?_;rintro n1 x6 y1 h hin1 hout1;rw [Zqj] at h;(try dsimp only);refine Zn2 5 ?_;dsimp only [go_sem];refine An ?_;refine Zi4 h rfl (fun _ h=>?_) fun _ h=>?_
   ·refine Zn2 9 ?_;dsimp only [go_sem];refine An ?_;refine Zi3 (by kernel_rfl) fun all hall hs hnap haf=>?_;dsimp only [go_sem];refine Z65 hall hs haf hnap 4 5 ?_;dsimp only [go_sem];refine An ?_;obtain ⟨x7,ex7,h⟩:=Bs h;refine Zm4 hall hs haf hnap 2 Mail.row ex7 rfl rfl trivial rfl rfl rfl rfl ?_;refine Z65 hall hs haf hnap 1 3 ?_;dsimp only [go_sem];refine An ?_;obtain ⟨x8,ex8,h⟩:=Bs h;refine Zm4 hall hs haf hnap 6 Mail.row ex8 rfl rfl trivial rfl rfl rfl rfl ?_;refine Z65 hall hs haf hnap 2 0 ?_;dsimp only [go_sem];refine An ?_
    refine Zs3 rfl ?_ _;refine Zi4 h rfl (fun _ h=>?_) fun _ h=>?_
    ·refine Zn2 4 ?_;dsimp only [go_sem];refine An ?_;exact Zq4 (res:=fun (r:Bool)=>.bv r) ok69 (Zf4 h hout1)
    ·refine Zn2 6 ?_;dsimp only [go_sem];refine An ?_;exact Zr4 h hin1
   ·refine Zn2 1 ?_;dsimp only [go_sem];refine An ?_;exact Zs4 J1 (s:=()) (Zf4 h hout1)
set_option maxRecDepth 100000
set_option maxHeartbeats 4000000
@[go_sem] def e24:EC:=.seq (.reg [(Qx 2 25 2 0),(Qx 3 25 2 1),(Qa 4 (.mv (.c .ff)))]) (.seq (.reg [(Qf 5 0 2),(Ql 6 5),(Qf 7 0 3),(Ql 8 7),(Qa 9 (.call 67 [(.t 6),(.t 8),(.c (.clo 68 []))])),(Qm 10 9),(Qh 11 10 true 1 2),(Qn 12 10 true 11),(Qh 13 10 true 1 3),(Qn 14 10 true 13),(Qg 15 10 true (.call 69 [(.t 12),(.t 14)])),(Qp 16 10 15),(Qm 4 16)]) (.ret))
theorem ok24:FnOK Tryz.prog 24 Tryz.f24 e24 [.t 4] 2 15:=⟨by kernel_rfl,⟨_,rfl,by kernel_rfl⟩,by kernel_rfl,by kernel_rfl⟩
noncomputable def Ztj:Bool→Option Bool
| x5=>
 some x5
noncomputable def Zuj (x1:Bar) (x2:Bar):Option Bool:=
 (Znj x1.Drinkers x2.Drinkers ((fun z=>Zga z.1 z.2))).bind fun x3=>
 ifb x3 (
 (Zrj x1.Mail x2.Mail).bind fun x4=>
 Ztj x4) (
 Ztj false)
theorem Zvj (x1:Bar) (x2:Bar) (r:Bool) (h:Zuj x1 x2=some r):Zs2 Tryz.prog 24 [.agg (Bar.row x1),.agg (Bar.row x2)] (.bv r):=by
 refine Zw2 ok24 rfl rfl fun w0 H0=>?_
 rw [Zuj] at h
 refine Zn2 12 ?_;dsimp only [go_sem];refine An ?_;obtain ⟨x3,ex3,h⟩:=Bs h;refine Z13 trivial (Zoj x1.Drinkers x2.Drinkers _ _ ((fun z=>Zga z.1 z.2)) ⟨by kernel_rfl,rfl,fun z r hz=>Zha z.1 z.2 r hz⟩ _ ex3) (h:=?_);refine Zn2 1 ?_;dsimp only [go_sem];refine An ?_;refine Zg4 (fun (x5:Bool)=>(⟨(an 4 (.bv x5::an 12 [])),[],[]⟩:St)) Ztj r ?_ fun J1=>?_
 ·intro x5 h;rw [Ztj] at h;(try dsimp only);exact Zq4 (res:=fun (r:Bool)=>.bv r) ok24 h
 ·refine Zp4 10 h rfl (fun _ h=>?_) fun _ h=>?_
  ·dsimp only [go_sem];refine Zn2 4 ?_;dsimp only [go_sem];refine An ?_;obtain ⟨x4,ex4,h⟩:=Bs h;refine Z13 trivial (Zsj x1.Mail x2.Mail _ ex4) (h:=?_);refine Zn2 3 ?_;dsimp only [go_sem];refine An ?_;exact Zs4 J1 (s:=x4) h
  ·dsimp only [go_sem];refine Zn2 8 ?_;dsimp only [go_sem];refine An ?_;exact Zs4 J1 (s:=false) h
theorem Zwj (l:List Drinker) (p:Drinker→Option Bool) (q:Drinker→Bool) (hl:l.length≤4000000000000000000) (hp:∀x∈l,p x=some (q x)):Zwh l p=some (plc (l.findIdx? q)):=by
 unfold Zwh
 refine Z86 l _ q hl (fun k x hx=>?_) ?_
 ·simp only [Zvh,Z16 hx,Zv5,Zz5 hx,Option.bind_some,hp x (List.mem_iff_getElem?.2 ⟨k,hx⟩),Z46 hx hl]
  cases q x<;>rfl
 ·simp only [Zvh,Z26,Zw5,Zuh,Option.map_some]
theorem Zxj (l:List Drinker) (p:Drinker→Option Bool) (q:Drinker→Bool) (hl:l.length≤4000000000000000000) (hp:∀x∈l,p x=some (q x)):Zyh l p=some (l.any q):=by
 unfold Zyh
 rw [Zwj l p q hl hp,Option.bind_some,Z66,Z96]
def fewL (l:List Drinker):Prop:=l.length≤5000∧∀d∈l,d.Diner.Sides.length≤5000∧d.Need.length≤5000
def scB (s:Bar):Scene:=⟨s.Drinkers.map (·.Diner),s.Mail⟩
def bar0:Bar:=⟨[],[]⟩
theorem fewL_D {s:Bar} (h:fewL s.Drinkers):fewD (scB s).Diners:=by
 refine ⟨by simpa [scB] using h.1,fun d hd=>?_⟩
 obtain ⟨e,he,rfl⟩:=List.mem_map.1 hd
 exact (h.2 e he).1
theorem s_CloneMail (l:List Mail) (hl:l.length≤1000000):Zoh l=some l:=by
 simp only [Zoh]
 rw [Z06 _ _ (by omega) (by simp;omega)];rfl
theorem s_Scene (s:Bar) (hD:fewL s.Drinkers) (hM:s.Mail.length≤1000000):Zsh s=some (scB s):=by
 simp only [Zsh,s_CloneMail _ hM,Option.bind_some]
 refine Zn7 s.Drinkers (Zrh s s.Mail) (fun pre=>((pre.length:Int),pre.map (·.Diner))) _ (fun pre x post h=>?_) ?_
 ·have hx:=Zo7 h
  have hm:=Zp7 h
  have h1:=hD.1
  have h2:=(hD.2 x (Zq7 h)).1
  dsimp only [Zrh]
  rw [Z16 hx,Zv5,Zz5 hx,Option.bind_some,Z89 _ (by omega),Option.bind_some,Z06 _ _ (by omega) (by simp;omega),Option.bind_some,Z36 (by omega),Zt7]
  simp
 ·dsimp only [Zrh]
  rw [Z26,Zw5];rfl
def Zyj (s:Bar):Bool:=okS (scB s)&&s.Drinkers.all okDr
theorem s_bCheck (s:Bar) (hD:fewL s.Drinkers) (hM:s.Mail.length≤1000000):Z1i s=some (if Zyj s then 0 else 160):=by
 simp only [Z1i,s_Scene s hD hM,Option.bind_some,s_tCheck (scB s) (fewL_D hD) hM]
 unfold Zyj
 cases okS (scB s) with
 | false=>rfl
 | true=>
   rw [if_pos rfl,show decide ((0:Int)=0)=true from rfl,Bool.not_true,Zw5,Zxj s.Drinkers (fun z=>Znh z) (fun d=>!okDr d) (by have:=hD.1;omega) (fun d hd=>by
    simp only [Znh,Z1f d (by have:=(hD.2 d hd).2;omega),Option.bind_some]
    cases okDr d<;>rfl),Option.bind_some]
   have e1:s.Drinkers.any (fun d=>!okDr d)=!s.Drinkers.all okDr:=Zf7 _ _ _ fun _=>rfl
   rw [e1]
   cases s.Drinkers.all okDr<;>rfl
def Zzj (s:Bar) (a:Int):Bool:=decide (0≤a)&&decide (a<s.Drinkers.length)
theorem Z0k (s:Bar) (a:Int):Z4i s a=some (Zzj s a):=by
 simp only [Z4i,Z3i,Zzj,Zy4]
 cases decide (0≤a)<;>rfl
theorem Z1k {s:Bar} {a:Int}:Zzj s a=true↔0≤a∧a<s.Drinkers.length:=by simp [Zzj]
theorem Z2k {s:Bar} {a:Int} (h:Zzj s a=true):∃d,at_ s.Drinkers a=some d∧s.Drinkers[a.toNat]?=some d:=by
 rw [Z1k] at h
 exact at_lt h.1 h.2
theorem once_keep (d:Drinker):(Zae d).Need=d.Need∧(Zae d).Diner.ID=d.Diner.ID∧(Zae d).Diner.Sides.map (·.Peer)=d.Diner.Sides.map (·.Peer):=by
 refine ⟨rfl,rfl,?_⟩
 show (Z8e d).map (·.Peer)=_
 unfold Z8e
 rw [Zud,List.map_map,List.map_map]
 refine List.map_congr_left fun x _=>?_
 show (Z3e _ _ (Ztd (Z7e d) x)).Peer=x.Peer
 rw [(Z5e _ _ _).1,(Zwd (Z7e d) x).1]
theorem Z3k:∀(n:Nat) (d:Drinker) (out:List Mail),(fireN n d out).1.Need=d.Need∧(fireN n d out).1.Diner.ID=d.Diner.ID∧(fireN n d out).1.Diner.Sides.map (·.Peer)=d.Diner.Sides.map (·.Peer)∧(fireN n d out).2.length+bits (fireN n d out).1.Diner.Sides=out.length+bits d.Diner.Sides
 | 0,_,_=>⟨rfl,rfl,rfl,rfl⟩
 | n+1,d,out=>by
   unfold fireN
   split
   ·exact ⟨rfl,rfl,rfl,rfl⟩
   ·obtain ⟨h1,h2,h3,h4⟩:=Z3k n (Zae d) (out++Zbe d)
    obtain ⟨k1,k2,k3⟩:=once_keep d
    have hb:=Zee d
    exact ⟨h1.trans k1,h2.trans k2,h3.trans k3,by rw [h4,List.length_append];omega⟩
theorem Z4k (d:Drinker):(fireDr d).1.Diner.Sides.length=d.Diner.Sides.length∧(fireDr d).1.Need=d.Need:=by
 obtain ⟨h1,_,h3,_⟩:=Z3k 300 d []
 have:=congrArg List.length h3
 simp only [List.length_map] at this
 exact ⟨this,h1⟩
theorem Z5k {d:Drinker} (h:okDr d=true):(fireDr d).2.length≤252:=by
 have h1:=(Z3k 300 d []).2.2.2
 have h2:=bits_le d.Diner.Sides
 have h3:=Z99 (Z5f h)
 unfold fireDr
 simp only [List.length_nil] at h1
 omega
def Z6k (s:Bar) (a:Int) (d:Drinker):Bar:=⟨s.Drinkers.set a.toNat (fireDr d).1,s.Mail++(fireDr d).2⟩
def actBP (s:Bar) (a:Int) (r:Drinker×Int):Bar×Int:=if r.2=0 then (if okDr r.1 then (Z6k s a r.1,0) else (bar0,150)) else (bar0,r.2)
theorem s_bAct (s:Bar) (a:Int) (p:Drinker→Option (Drinker×Int)) (q:Drinker→Drinker×Int) (d:Drinker) (hp:p d=some (q d)) (hq:(q d).1.Need.length≤5000) (hD:fewL s.Drinkers) (hM:s.Mail.length≤900000) (hd:at_ s.Drinkers a=some d) (ha:0≤a):
  Z9i s a p=some (actBP s a (q d)):=by
 simp only [Z9i,hd,Option.bind_some,hp,actBP]
 by_cases h0:(q d).2=0
 ·simp only [h0,decide_true,Bool.not_true,Zw5,s_drFire _ (show (q d).1.Need.length≤1000000 by omega),Option.bind_some,if_true]
  cases hk:okDr (q d).1 with
  | false=>rfl
  | true=>
    have hl:=Z99 (Z5f hk)
    obtain ⟨f1,f2⟩:=Z4k (q d).1
    have hms:=Z5k hk
    have h5:=hD.1
    have hc:=s_Concat s.Mail (fireDr (q d).1).2 (by omega) (by omega)
    simp only [if_true,decide_true,Bool.not_true,Zw5,hc,Option.bind_some]
    have:=Zn7 s.Drinkers (Z8i s a ((fireDr (q d).1).1,(fireDr (q d).1).2,0) (s.Mail++(fireDr (q d).1).2)) (fun pre=>((pre.length:Int),(s.Drinkers.set a.toNat (fireDr (q d).1).1).take pre.length)) (Z6k s a (q d).1,0) (fun pre x post h=>by
     have hx:=Zo7 h
     have hm:=Zp7 h
     have h2:=hD.2 x (Zq7 h)
     have snoc:(s.Drinkers.set a.toNat (fireDr (q d).1).1).take (pre.length+1)=(s.Drinkers.set a.toNat (fireDr (q d).1).1).take pre.length++[if (pre.length:Int)=a then (fireDr (q d).1).1 else x]:=by
      rw [List.take_add_one,List.getElem?_set]
      by_cases hq:(pre.length:Int)=a
      ·rw [if_pos (by omega),if_pos (by omega),if_pos hq];rfl
      ·rw [if_neg (by omega),hx,if_neg hq];rfl
     have lt:((s.Drinkers.set a.toNat (fireDr (q d).1).1).take pre.length).length≤5000:=by rw [List.length_take,List.length_set];omega
     have step:∀z:Drinker,z.Diner.Sides.length≤5000→z.Need.length≤5000→Z7i (pre.length:Int) ((s.Drinkers.set a.toNat (fireDr (q d).1).1).take pre.length) z=some (.inl (((pre.length+1:Nat):Int),(s.Drinkers.set a.toNat (fireDr (q d).1).1).take pre.length++[z])):=fun z h1 h2=>by
      dsimp only [Z7i]
      rw [Z89 _ (by omega),Option.bind_some,Zxe _ (by omega),Option.bind_some,Z06 _ _ (by omega) (by simp only [List.length_singleton];omega),Option.bind_some,Z36 (by omega)]
     dsimp only [Z8i]
     rw [Z16 hx,Zv5,Zz5 hx,Option.bind_some,Zt7,snoc]
     by_cases hq:(pre.length:Int)=a
     ·rw [decide_eq_true hq,Zv5,step _ (by omega) (by rw [f2];omega),if_pos hq]
     ·rw [decide_eq_false hq,Zw5,step _ h2.1 h2.2,if_neg hq]) (by
     dsimp only [Z8i]
     rw [Z26,Zw5]
     dsimp only [Z6i]
     rw [List.take_of_length_le (by simp)];rfl)
    exact this
 ·simp only [h0,decide_false,Bool.not_false,Zv5,if_false]
  rfl
def Z7k (s:Bar) (a:Int) (q:Drinker→Drinker×Int):Bar×Int:=
 if Zyj s then (if Zzj s a then (match at_ s.Drinkers a with | some d=>actBP s a (q d) | none=>(bar0,161)) else (bar0,161)) else (bar0,160)
theorem s_bTurn (s:Bar) (a:Int) (p:Drinker→Option (Drinker×Int)) (q:Drinker→Drinker×Int) (hp:∀d∈s.Drinkers,p d=some (q d)∧(q d).1.Need.length≤5000) (hD:fewL s.Drinkers) (hM:s.Mail.length≤900000):Zai s a p=some (Z7k s a q):=by
 simp only [Zai,s_bCheck s hD (by omega),Option.bind_some]
 unfold Z7k
 cases Zyj s with
 | false=>rfl
 | true=>
   rw [if_pos rfl,show decide ((0:Int)=0)=true from rfl,Bool.not_true,Zw5,Z0k,Option.bind_some,if_pos rfl]
   cases h:Zzj s a with
   | false=>rfl
   | true=>
     obtain ⟨d,hd,hd'⟩:=Z2k h
     obtain ⟨p1,p2⟩:=hp d (List.mem_iff_getElem?.2 ⟨_,hd'⟩)
     rw [Bool.not_true,Zw5,if_pos rfl,s_bAct s a p q d p1 p2 hD hM hd (Z1k.1 h).1,Option.bind_some,hd]
theorem compact_len (l:List Int):(setL l).length≤l.length:=by
 unfold setL
 have:=Lib.compact_length_le (l.mergeSort fun x y=>decide (x≤y))
 rw [List.length_mergeSort] at this
 exact this
theorem openDr_need {d:Drinker} {need:List Int} (hm:need.length≤5000):(Z3f d need).1.Need.length≤5000:=by
 unfold Z3f
 have:=compact_len need
 split
 ·split
  ·split
   ·simp [Z0f]
   ·show (setL need).length≤5000;omega
  ·simp [Z0f]
 ·simp [Z0f]
theorem closeDr_need (d:Drinker):(Z4f d).1.Need.length≤5000:=by
 unfold Z4f
 split
 ·split<;>simp [Z0f]
 ·simp [Z0f]
theorem Z8k {d:Drinker} {p:Int} {m:Msg} (hn:d.Need.length≤5000):(viaD d p m).1.Need.length≤5000:=by
 unfold viaD
 split
 ·exact hn
 ·simp [Z0f]
theorem getDr_need {d:Drinker} {p:Int} {m:Msg} (hn:d.Need.length≤5000):(Z6f d p m).1.Need.length≤5000:=by
 unfold Z6f
 split
 ·split
  ·exact Z8k hn
  ·split
   ·exact Z8k hn
   ·split
    ·split
     ·split
      ·simp [Z0f]
      ·exact hn
     ·split
      ·simp [Z0f]
      ·exact hn
    ·exact Z8k hn
 ·simp [Z0f]
theorem s_bOpen (s:Bar) (a:Int) (need:List Int) (hD:fewL s.Drinkers) (hM:s.Mail.length≤900000) (hn:need.length≤5000):Zci s a need=some (Z7k s a fun d=>Z3f d need):=by
 simp only [Zci]
 rw [s_bTurn s a _ (fun d=>Z3f d need) (fun d hd=>⟨by simp only [Zmh,s_drOpen d need (show d.Need.length≤1000000 by have:=(hD.2 d hd).2;omega) (by omega),Option.bind_some],openDr_need hn⟩) hD hM,Option.bind_some]
theorem s_bClose (s:Bar) (a:Int) (hD:fewL s.Drinkers) (hM:s.Mail.length≤900000):Zei s a=some (Z7k s a Z4f):=by
 simp only [Zei]
 rw [s_bTurn s a _ Z4f (fun d hd=>⟨s_drClose d (show d.Need.length≤1000000 by have:=(hD.2 d hd).2;omega),closeDr_need d⟩) hD hM,Option.bind_some]
def Z9k (s:Bar) (a b:Int):Option Nat:=s.Mail.findIdx? fun m=>decide (m.From=a)&&decide (m.To=b)
def Zak (s:Bar) (a b:Int):Bar×Int:=
 if Zyj s then (if Zzj s a&&Zzj s b then (match Z9k s a b with
  | none=>(bar0,162)
  | some i=>match s.Mail[i]?,at_ s.Drinkers b with
    | some m,some d=>actBP ⟨s.Drinkers,s.Mail.take i++s.Mail.drop (i+1)⟩ b (Z6f d a m.Msg)
    | _,_=>(bar0,161)) else (bar0,161)) else (bar0,160)
theorem Zbk (s:Bar) (a b:Int) (hD:fewL s.Drinkers) (hM:s.Mail.length≤900000):Zni s a b=some (Zak s a b):=by
 simp only [Zni,s_bCheck s hD (by omega),Option.bind_some]
 unfold Zak
 cases Zyj s with
 | false=>rfl
 | true=>
   rw [if_pos rfl,show decide ((0:Int)=0)=true from rfl,Bool.not_true,Zw5,Z0k,Option.bind_some,if_pos rfl]
   cases h:Zzj s a with
   | false=>rfl
   | true=>
     rw [Bool.not_true,Zw5,Z0k,Option.bind_some]
     cases h':Zzj s b with
     | false=>rfl
     | true=>
       obtain ⟨d,hd,hd'⟩:=Z2k h'
       have hdn:=(hD.2 d (List.mem_iff_getElem?.2 ⟨_,hd'⟩)).2
       dsimp only [Zmi]
       rw [Bool.not_true,Zw5,Bool.and_self,if_pos rfl,Z4g s.Mail (fun z=>Zhi z a b) (fun m=>decide (m.From=a)&&decide (m.To=b)) (by omega) (fun m _=>by
        simp only [Zhi,Zgi]
        cases decide (m.From=a)<;>rfl),Option.bind_some,plc_neg]
       have hfi:=Zx7 (fun m:Mail=>decide (m.From=a)&&decide (m.To=b)) s.Mail
       unfold Z9k
       cases hf:s.Mail.findIdx? (fun m=>decide (m.From=a)&&decide (m.To=b)) with
       | none=>rfl
       | some i=>
         rw [hf] at hfi
         obtain ⟨m,hm,_⟩:=hfi
         have hlt:=(List.getElem?_eq_some_iff.1 hm).1
         have e1:sub_ s.Mail 0 (i:Int)=some (s.Mail.take i):=by
          unfold sub_
          rw [if_pos ⟨by omega,by omega,by omega⟩];simp
         have e2:sub_ s.Mail (wr ((i:Int)+1)) (ln Mail.row s.Mail)=some (s.Mail.drop (i+1)):=by
          rw [Z36 (by omega),Zy4]
          unfold sub_
          rw [if_pos ⟨by omega,by omega,by omega⟩];simp
         simp only [Option.isNone_some,Zw5,plc,Zz5 hm,Option.bind_some,e1,e2,hm,hd]
         rw [s_Concat _ _ (by simp;omega) (by simp;omega),Option.bind_some]
         dsimp only [Zli]
         rw [s_bAct ⟨s.Drinkers,s.Mail.take i++s.Mail.drop (i+1)⟩ b _ (fun d=>Z6f d a m.Msg) d (by simp only [Zji,s_drGet d a m.Msg (show d.Need.length≤1000000 by omega),Option.bind_some]) (getDr_need hdn) hD (by simp;omega) hd (Z1k.1 h').1]
         rfl
def actR (s:Bar) (k a b:Int) (need:List Int):Bar×Int:=if k=0 then Z7k s a (fun d=>Z3f d need) else if k=1 then Z7k s a Z4f else Zak s a b
theorem s_act16 (s:Bar) (k a b:Int) (need:List Int) (hD:fewL s.Drinkers) (hM:s.Mail.length≤900000) (hn:need.length≤5000):Zpi s ⟨k,a,b,need⟩=some (actR s k a b need):=by
 have e:Zb4 8 ([]:List Int) need=some need:=by rw [Z06 _ _ (by omega) (by simp;omega)];rfl
 simp only [Zpi,actR,e,Option.bind_some,s_bOpen s a need hD hM hn,s_bClose s a hD hM,Zbk s a b hD hM]
 by_cases h0:k=0
 ·simp [h0]
 ·by_cases h1:k=1
  ·simp [h1]
  ·simp [h0,h1]
theorem s_own13 (d:Diner) (h:d.Sides.length≤1000000):Zri d=some d:=by
 simp only [Zri]
 rw [Z06 _ _ (by omega) (by simp;omega)];rfl
theorem s_own16 (s:Bar) (hD:fewL s.Drinkers) (hM:s.Mail.length≤900000):Zxi s=some s:=by
 simp only [Zxi]
 rw [Z06 _ _ (by omega) (by simp;omega),Option.bind_some,List.nil_append]
 refine Zn7 s.Drinkers (Zwi s s.Mail) (fun pre=>((pre.length:Int),pre)) s (fun pre x post h=>?_) ?_
 ·have hx:=Zo7 h
  have hm:=Zp7 h
  have h1:=hD.1
  obtain ⟨h2,h3⟩:=hD.2 x (Zq7 h)
  have e:Zti x=some x:=by
   simp only [Zti,s_own13 _ (show x.Diner.Sides.length≤1000000 by omega),Option.bind_some]
   rw [Z06 _ _ (by omega) (by simp;omega)];rfl
  dsimp only [Zwi]
  rw [Z16 hx,Zv5,Zz5 hx,Option.bind_some,e,Option.bind_some,Z06 _ _ (by omega) (by simp;omega),Option.bind_some,Z36 (by omega),Zt7]
 ·dsimp only [Zwi]
  rw [Z26,Zw5];rfl
def Zck (l:List Drinker) (t:Int):List Int:=(l.filter fun d=>decide (d.Thirst=t)).map (·.Diner.ID)
theorem whoL_len (l:List Drinker) (t:Int):(Zck l t).length≤l.length:=by
 unfold Zck;rw [List.length_map];exact List.length_filter_le _ _
theorem s_Who (s:Bar) (t:Int) (hD:fewL s.Drinkers):Z2j s t=some (Zck s.Drinkers t):=by
 unfold Z2j
 refine Zn7 s.Drinkers (Z1j s t) (fun pre=>((pre.length:Int),Zck pre t)) _ (fun pre d post h=>?_) ?_
 ·have hx:=Zo7 h
  have hm:=Zp7 h
  have:=hD.1
  have hl:=whoL_len pre t
  have e:Zck (pre++[d]) t=if d.Thirst=t then Zck pre t++[d.Diner.ID] else Zck pre t:=by
   unfold Zck
   by_cases hp:d.Thirst=t<;>simp [hp]
  dsimp only [Z1j]
  rw [Z16 hx,Zv5,Zz5 hx,Option.bind_some,e,Zt7]
  by_cases hp:d.Thirst=t
  ·rw [decide_eq_true hp,Zv5,Z06 _ _ (by omega) (by simp only [List.length_singleton];omega),Option.bind_some,if_pos hp]
   dsimp only [Z0j];rw [Z36 (by omega)]
  ·rw [decide_eq_false hp,Zw5,if_neg hp]
   dsimp only [Z0j];rw [Z36 (by omega)]
 ·dsimp only [Z1j]
  rw [Z26,Zw5];rfl
def Zdk (x:Side) (k:Int):Bool:=if k=4 then x.Ask else x.Bottle
def Zek (s:Bar) (e:Edge) (k:Int):Nat:=
 if k=3∨k=4 then
  (if Zzj s e.A&&Zzj s e.B then
    match s.Drinkers[e.A.toNat]?,s.Drinkers[e.B.toNat]? with
    | some da,some db=>match Zw7 da.Diner e.B,Zw7 db.Diner e.A with
      | some x,some y=>if x.Epoch=y.Epoch then bn (Zdk x k)+bn (Zdk y k)+Zjh s.Mail e k x.Epoch else 0
      | _,_=>0
    | _,_=>0
  else 0)
 else countS (scB s) e k
theorem s_bCount (s:Bar) (e:Edge) (k:Int) (hD:fewL s.Drinkers) (hM:s.Mail.length≤900000):Zhj s e k=some (Zek s e k:Int):=by
 have j1:(k=3∨k=4)→Zgj s e k false=some (Zek s e k:Int):=fun hk=>by
  unfold Zek
  rw [if_pos hk]
  dsimp only [Zgj]
  rw [Zw5,Z0k,Option.bind_some]
  cases ha:Zzj s e.A with
  | false=>rfl
  | true=>
    rw [Bool.not_true,Zw5,Z0k,Option.bind_some]
    cases hb:Zzj s e.B with
    | false=>rfl
    | true=>
      obtain ⟨da,a1,a2⟩:=Z2k ha
      obtain ⟨db,b1,b2⟩:=Z2k hb
      have la:=(hD.2 da (List.mem_iff_getElem?.2 ⟨_,a2⟩)).1
      have lb:=(hD.2 db (List.mem_iff_getElem?.2 ⟨_,b2⟩)).1
      dsimp only [Zfj,Zej]
      rw [Bool.not_true,Zw5,a1,Option.bind_some,s_Side da.Diner e.B (by omega),Option.bind_some,b1,Option.bind_some,s_Side db.Diner e.A (by omega),Option.bind_some,Bool.and_self,if_pos rfl,a2,b2]
      dsimp only
      cases hx:Zw7 da.Diner e.B with
      | none=>rfl
      | some x=>
        cases hy:Zw7 db.Diner e.A with
        | none=>rfl
        | some y=>
          show Zdj s e k true x (true,y)=some ((if x.Epoch=y.Epoch then bn (Zdk x k)+bn (Zdk y k)+Zjh s.Mail e k x.Epoch else 0:Nat):Int)
          dsimp only [Zdj]
          rw [Bool.not_true,Zw5,Zw5]
          by_cases he:x.Epoch=y.Epoch
          ·rw [decide_eq_true he,Bool.not_true,if_pos he]
           dsimp only [Zcj]
           rw [Zw5]
           have j7:∀n:Nat,n≤2→Z8j s e k x (n:Int)=some ((n+Zjh s.Mail e k x.Epoch:Nat):Int):=fun n hn=>by
            dsimp only [Z8j]
            refine Zn7 s.Mail (Z7j s e k x) (fun pre=>(((n+Zjh pre e k x.Epoch:Nat):Int),(pre.length:Int))) ((n+Zjh s.Mail e k x.Epoch:Nat):Int) (fun pre m post h=>?_) ?_
            ·have hx:=Zo7 h
             have hm:=Zp7 h
             have hc:=Zlh pre e k x.Epoch
             dsimp only [Z7j]
             rw [Z16 hx,Zv5,Zz5 hx,Option.bind_some,Zkh,Zt7]
             have step:∀z,Z6j ((n+Zjh pre e k x.Epoch:Nat):Int) (pre.length:Int) z=some (.inl (((n+(Zjh pre e k x.Epoch+bn z):Nat):Int),((pre.length+1:Nat):Int))):=fun z=>by
              cases z with
              | true=>dsimp only [Z6j,Z5j];rw [Zv5,Z36 (by omega),Z36 (by omega)];rfl
              | false=>dsimp only [Z6j,Z5j];rw [Zw5,Z36 (by omega)];rfl
             unfold mailB
             simp only [step]
             cases decide (m.Msg.Kind=k)<;>cases decide (m.Msg.Epoch=x.Epoch)<;>cases decide (min m.From m.To=min e.A e.B)<;>rfl
            ·dsimp only [Z7j]
             rw [Z26,Zw5];rfl
           have j6:∀p q:Bool,Zbj s e k x (p,q)=some ((bn p+bn q+Zjh s.Mail e k x.Epoch:Nat):Int):=fun p q=>by
            have ef:(([p,q].countP id:Nat):Int)=((bn p+bn q:Nat):Int):=by cases p<;>cases q<;>rfl
            dsimp only [Zbj]
            have n2:bn p+bn q≤2:=by cases p<;>cases q<;>decide
            have hj:=j7 (bn p+bn q) n2
            have:=Zm7 [p,q] (Zaj s e k x p q) (fun pre=>(((pre.countP id:Nat):Int),(pre.length:Int))) (fun _ _=>Z8j s e k x (([p,q].countP id:Nat):Int)) (fun pre z post h=>.inl ⟨by
             have hx:=Zo7 h
             have hm:=Zp7 h
             have h2:pre.length<2:=hm
             have hc:pre.countP id≤pre.length:=List.countP_le_length
             dsimp only [Zaj]
             rw [decide_eq_true (by omega),Zv5,Zz5 hx,Option.bind_some,Zt7,List.countP_append,List.countP_cons,List.countP_nil]
             cases z with
             | true=>dsimp only [Z9j];rw [Zv5,Z36 (by omega),Z36 (by omega)];rfl
             | false=>dsimp only [Z9j];rw [Zw5,Z36 (by omega)];rfl,rfl⟩) (by
             dsimp only [Zaj]
             rw [show decide ((([p,q]:List Bool).length:Int)<2)=false from rfl,Zw5])
            rw [ef,hj] at this
            exact this
           unfold Zdk
           by_cases k4:k=4
           ·rw [decide_eq_true k4,Zv5,j6,if_pos k4,if_pos k4]
           ·rw [decide_eq_false k4,Zw5,j6,if_neg k4,if_neg k4]
          ·rw [decide_eq_false he,Bool.not_false,if_neg he];rfl
 simp only [Zhj]
 by_cases k3:k=3
 ·rw [decide_eq_true k3,Bool.not_true,Zw5];exact j1 (.inl k3)
 ·rw [decide_eq_false k3,Bool.not_false,Zv5]
  by_cases k4:k=4
  ·rw [decide_eq_true k4,Bool.not_true];exact j1 (.inr k4)
  ·rw [decide_eq_false k4,Bool.not_false]
   dsimp only [Zgj]
   rw [Zv5,s_Scene s hD (by omega),Option.bind_some,s_Count (scB s) e k (fewL_D hD) hM,Option.bind_some]
   unfold Zek
   rw [if_neg (by omega)]
theorem s_EqualMail (l m:List Mail) (hl:l.length≤1000000):Zrj l m=some (decide (l=m)):=by
 simp only [Zrj,ln_dec]
 by_cases h:l.length=m.length
 ·simp only [h,decide_true,Bool.not_true,Zw5]
  rw [Zu7 l m _ (fun x y=>decide (x=y)) h (by omega) (fun k x y hx hy=>by
   simp only [Zqj,Z16 hx,Zv5,Zz5 hx,Zz5 hy,Option.bind_some,Mail_eqB,Z46 hx (show l.length≤4000000000000000000 by omega),Zx5]
   cases decide (x=y)<;>rfl) (by simp only [Zqj,Z26,Zw5,Zpj,Option.map_some]),Zv7 l m h]
 ·simp [h,len_ne h]
theorem s_bSame (s t:Bar) (hD:fewL s.Drinkers) (hM:s.Mail.length≤900000):Zuj s t=some (decide (s=t)):=by
 obtain ⟨l,m⟩:=s
 obtain ⟨l',m'⟩:=t
 simp only at hD hM
 have h5:=hD.1
 have e1:Znj l l' (fun z=>Zga z.1 z.2)=some (decide (l=l')):=by
  simp only [Znj,ln_dec]
  by_cases h:l.length=l'.length
  ·simp only [h,decide_true,Bool.not_true,Zw5]
   rw [Zu7 l l' _ (fun x y=>decide (x=y)) h (by omega) (fun k x y hx hy=>by
    have hxm:=hD.2 x (List.mem_iff_getElem?.2 ⟨_,hx⟩)
    simp only [Zmj,Z16 hx,Zv5,Zz5 hx,Zz5 hy,Option.bind_some,s_drSame x y (show x.Diner.Sides.length≤1000000 by omega) (show x.Need.length≤1000000 by omega),Z46 hx (show l.length≤4000000000000000000 by omega),Zx5,Option.map_some]
    cases decide (x=y)<;>rfl) (by simp only [Zmj,Z26,Zw5,Zlj,Option.map_some]),Zv7 l l' h]
  ·simp [h,len_ne h]
 simp only [Zuj,Ztj,e1,s_EqualMail m m' (show m.length≤1000000 by omega),Option.bind_some,Bar.mk.injEq]
 by_cases h1:l=l'<;>by_cases h2:m=m'<;>simp [h1,h2]
def barT (g:Graph):Bar:=⟨(Zlg g).Diners.map fun d=>⟨d,0,[]⟩,[]⟩
theorem s_bNew (g:Graph):Zkj g=some (if okG g then (barT g,0) else (bar0,30)):=by
 simp only [Zkj,s_New,Option.bind_some]
 cases hg:okG g with
 | false=>rfl
 | true=>
   have hl:(Zlg g).Diners.length≤64:=by
    have:=Zhd hg (Zjg g)
    have:=(Ze7 hg).2.1
    show (Zpc g (Zjg g)).length≤64
    omega
   rw [if_pos rfl,show decide ((0:Int)=0)=true from rfl,Bool.not_true,Zw5,if_pos rfl]
   refine Zn7 (Zlg g).Diners (Zjj (Zlg g,0)) (fun pre=>((pre.length:Int),pre.map fun d=>(⟨d,0,[]⟩:Drinker))) (barT g,0) (fun pre x post h=>?_) ?_
   ·have hx:=Zo7 h
    have hm:=Zp7 h
    dsimp only [Zjj]
    rw [Z16 hx,Zv5,Zz5 hx,Option.bind_some,Z06 _ _ (by omega) (by simp;omega),Option.bind_some,Z36 (by omega),Zt7]
    simp
   ·dsimp only [Zjj]
    rw [Z26,Zw5];rfl
set_option maxRecDepth 100000
set_option maxHeartbeats 4000000
@[go_sem] def e11:EC:=.seq (.reg [(Qa 0 (.mv (.c .ff)))]) (.seq (.reg [(Qa 13 (.build [.iv 0,.iv 0] [(0,1,(.c (.iv 0))),(1,1,(.c (.iv 1)))])),(Qa 14 (.bsl 30 2 1 [.iv 0,.iv 0] [(0,(.t 13))])),(Qa 15 (.build [.iv 0,.nl] [(0,1,(.c (.iv 2))),(1,1,(.t 14))])),(Qa 16 (.call 40 [(.t 15)])),(Qm 12 16),(Qa 17 (.ext (.t 12) 0)),(Qa 18 (.ext (.t 12) 1)),(Qa 1 (.alloc 25 [.nl,.nl])),(Qs 2 1 17),(Qm 2 18)]) (.seq (.reg [(Qe 20 2 1),(Qa 21 (.call 38 [(.t 20),(.c (.iv 0)),(.c .nl)])),(Qm 19 21),(Qa 22 (.ext (.t 19) 0)),(Qa 23 (.ext (.t 19) 1)),(Qa 3 (.alloc 25 [.nl,.nl])),(Qs 2 3 22),(Qm 4 23)]) (.seq (.reg [(Qe 25 2 3),(Qa 26 (.call 38 [(.t 25),(.c (.iv 1)),(.c .nl)])),(Qm 24 26),(Qa 27 (.ext (.t 24) 0)),(Qa 28 (.ext (.t 24) 1)),(Qs 2 3 27),(Qm 5 28)]) (.seq (.seq (.reg [(Qm 29 2),(Qa 30 (.bin .neq (.t 29) (.c (.iv 0)))),(Qm 31 30),(Qg 32 31 false (.mv (.t 4))),(Qg 33 31 false (.bin .neq (.t 32) (.c (.iv 0)))),(Qq 34 31 33),(Qm 35 34),(Qg 36 35 false (.mv (.t 5))),(Qg 37 35 false (.bin .neq (.t 36) (.c (.iv 0)))),(Qq 38 35 37)]) (.ite (.t 38) (.seq (.reg [(Qa 0 (.mv (.c .ff)))]) (.ret)) (.skip))) (.seq (.reg [(Qe 40 2 1),(Qa 41 (.bsl 3 1 1 [.iv 0] [(0,(.c (.iv 1)))])),(Qa 42 (.call 38 [(.t 40),(.c (.iv 0)),(.t 41)])),(Qm 39 42),(Qa 43 (.ext (.t 39) 0)),(Qa 44 (.ext (.t 39) 1)),(Qa 6 (.alloc 25 [.nl,.nl])),(Qs 2 6 43),(Qm 7 44)]) (.seq (.reg [(Qe 46 2 3),(Qa 47 (.call 36 [(.t 46),(.c (.iv 0))])),(Qm 45 47),(Qa 48 (.ext (.t 45) 0)),(Qa 49 (.ext (.t 45) 1)),(Qa 8 (.alloc 25 [.nl,.nl])),(Qs 2 8 48),(Qm 9 49)]) (.seq (.reg [(Qe 51 2 1),(Qa 52 (.call 48 [(.t 51),(.c (.iv 0)),(.c (.iv 1))])),(Qm 50 52),(Qa 53 (.ext (.t 50) 0)),(Qa 54 (.ext (.t 50) 1)),(Qa 10 (.alloc 25 [.nl,.nl])),(Qs 2 10 53),(Qm 11 54)]) (.seq (.reg [(Qe 55 2 3),(Qa 56 (.call 22 [(.t 55),(.c (.iv 2))])),(Qa 57 (.len (.t 56))),(Qa 58 (.bin .eql (.t 57) (.c (.iv 2)))),(Qm 59 58),(Qg 60 59 true (.mv (.t 7))),(Qg 61 59 true (.bin .eql (.t 60) (.c (.iv 0)))),(Qp 62 59 61),(Qm 63 62),(Qg 64 63 true (.loadA 2 (.t 6))),(Qg 65 63 true (.call 22 [(.t 64),(.c (.iv 0))])),(Qg 66 63 true (.len (.t 65))),(Qg 67 63 true (.bin .eql (.t 66) (.c (.iv 1)))),(Qp 68 63 67),(Qm 69 68),(Qg 70 69 true (.mv (.t 9))),(Qg 71 69 true (.bin .eql (.t 70) (.c (.iv 0)))),(Qp 72 69 71),(Qm 73 72),(Qg 74 73 true (.loadA 2 (.t 8))),(Qg 75 73 true (.call 22 [(.t 74),(.c (.iv 2))])),(Qg 76 73 true (.len (.t 75))),(Qg 77 73 true (.bin .eql (.t 76) (.c (.iv 1)))),(Qp 78 73 77),(Qm 79 78),(Qg 80 79 true (.mv (.t 11))),(Qg 81 79 true (.bin .eql (.t 80) (.c (.iv 162)))),(Qp 82 79 81),(Qm 83 82),(Qg 84 83 true (.loadA 2 (.t 1))),(Qg 85 83 true (.call 17 [(.t 84)])),(Qg 86 83 true (.bin .eql (.t 85) (.c (.iv 0)))),(Qp 87 83 86),(Qm 88 87),(Qg 89 88 true (.loadA 2 (.t 1))),(Qg 90 88 true (.build [.iv 0,.iv 0] [(0,1,(.c (.iv 0))),(1,1,(.c (.iv 1)))])),(Qg 91 88 true (.call 19 [(.t 89),(.t 90),(.c (.iv 3))])),(Qg 92 88 true (.bin .eql (.t 91) (.c (.iv 1)))),(Qp 93 88 92),(Qm 94 93),(Qg 95 94 true (.loadA 2 (.t 1))),(Qg 96 94 true (.loadA 2 (.t 1))),(Qg 97 94 true (.call 24 [(.t 95),(.t 96)])),(Qp 98 94 97),(Qm 99 98),(Qg 100 99 true (.loadA 2 (.t 1))),(Qg 101 99 true (.loadA 2 (.t 3))),(Qg 102 99 true (.call 24 [(.t 100),(.t 101)])),(Qg 103 99 true (.not (.t 102))),(Qp 104 99 103),(Qm 105 104),(Qg 106 105 true (.loadA 2 (.t 1))),(Qg 107 105 true (.call 26 [(.t 106)])),(Qg 108 105 true (.field 0 none (.t 107))),(Qg 109 105 true (.len (.t 108))),(Qg 110 105 true (.bin .eql (.t 109) (.c (.iv 2)))),(Qp 111 105 110),(Qm 0 111)]) (.ret)))))))))
theorem ok11:FnOK Tryz.prog 11 Tryz.f11 e11 [.t 0] 0 112:=⟨by kernel_rfl,⟨_,rfl,by kernel_rfl⟩,by kernel_rfl,by kernel_rfl⟩
noncomputable def Zfk:Bool→Option Bool
| x16=>
 some x16
noncomputable def Zgk (x1:(Bar×Int)) (x3:(Bar×Int)):Bool→Option Bool
| x4=>
 ifb x4 (
 some false) (
 (Zci x1.1 0 ([1])).bind fun x5=>
 (Zei x3.1 0).bind fun x6=>
 (Zni x1.1 0 1).bind fun x7=>
 (Z2j x3.1 2).bind fun x8=>
 ifb (decide ((ln Zw4 x8)=2)) (
 ifb (decide (x5.2=0)) (
 (Z2j x5.1 0).bind fun x9=>
 ifb (decide ((ln Zw4 x9)=1)) (
 ifb (decide (x6.2=0)) (
 (Z2j x6.1 2).bind fun x10=>
 ifb (decide ((ln Zw4 x10)=1)) (
 ifb (decide (x7.2=162)) (
 (Z1i x1.1).bind fun x11=>
 ifb (decide (x11=0)) (
 (Zhj x1.1 ((Edge.mk 0 1)) 3).bind fun x12=>
 ifb (decide (x12=1)) (
 (Zuj x1.1 x1.1).bind fun x13=>
 ifb x13 (
 (Zuj x1.1 x3.1).bind fun x14=>
 ifb (!x14) (
 (Zsh x1.1).bind fun x15=>
 Zfk (decide ((ln Diner.row x15.Diners)=2))) (
 Zfk false)) (
 Zfk false)) (
 Zfk false)) (
 Zfk false)) (
 Zfk false)) (
 Zfk false)) (
 Zfk false)) (
 Zfk false)) (
 Zfk false)) (
 Zfk false))
noncomputable def Zhk:Option Bool:=
 (Zkj ((Graph.mk 2 ([(Edge.mk 0 1)])))).bind fun x1=>
 (Zci x1.1 0 (([]:(List Int)))).bind fun x2=>
 (Zci x2.1 1 (([]:(List Int)))).bind fun x3=>
 ifb (!decide (x1.2=0)) (
 (Zgk x1 x3) true) (
 ifb (!decide (x2.2=0)) (
 (Zgk x1 x3) true) (
 (Zgk x1 x3) (!decide (x3.2=0))))
theorem Zik (r:Bool) (h:Zhk=some r):Zs2 Tryz.prog 11 [] (.bv r):=by
 refine Zw2 ok11 rfl rfl fun w0 H0=>?_
 rw [Zhk] at h
 refine Zn2 9 ?_;dsimp only [go_sem];refine An ?_;refine Za3 0 rfl ?_;dsimp only [go_sem];obtain ⟨x1,ex1,h⟩:=Bs h;refine Z13 trivial (k_bar_New ((Graph.mk 2 ([(Edge.mk 0 1)]))) _ ex1) (h:=?_);refine Zn2 10 ?_;dsimp only [go_sem];refine An ?_;obtain ⟨x2,ex2,h⟩:=Bs h;refine Z13 trivial (Zdi x1.1 0 (([]:(List Int))) _ ex2) (h:=?_);refine Zn2 10 ?_;dsimp only [go_sem];refine An ?_;obtain ⟨x3,ex3,h⟩:=Bs h;refine Z13 trivial (Zdi x2.1 1 (([]:(List Int))) _ ex3) (h:=?_);refine Zn2 12 ?_;dsimp only [go_sem];refine An ?_
 refine Zg4 (fun (x4:Bool)=>(⟨(.any :: .ptr 0 0 :: .any :: .ptr 1 0::an 34 (.bv x4::an 73 [])),[some ⟨25,[.sl 5 (List.map Drinker.row x1.1.Drinkers),.sl 5 (List.map Mail.row x1.1.Mail)]⟩,some ⟨25,[.sl 5 (List.map Drinker.row x3.1.Drinkers),.sl 5 (List.map Mail.row x3.1.Mail)]⟩],[]⟩:St)) (Zgk x1 x3) r ?_ fun J1=>?_
 ·intro x4 h;rw [Zgk] at h;(try dsimp only);refine Zi4 h rfl (fun _ h=>?_) fun _ h=>?_
  ·refine Zn2 4 ?_;dsimp only [go_sem];refine An ?_;exact Zq4 (res:=fun (r:Bool)=>.bv r) ok11 h
  ·refine Zn2 5 ?_;dsimp only [go_sem];refine An ?_;refine Za3 0 rfl ?_;dsimp only [go_sem];obtain ⟨x5,ex5,h⟩:=Bs h;refine Z13 trivial (Zdi x1.1 0 ([1]) _ ex5) (h:=?_);refine Zn2 10 ?_;dsimp only [go_sem];refine An ?_;obtain ⟨x6,ex6,h⟩:=Bs h;refine Z13 trivial (Zfi x3.1 0 _ ex6) (h:=?_);refine Zn2 10 ?_;dsimp only [go_sem];refine An ?_;obtain ⟨x7,ex7,h⟩:=Bs h;refine Z13 trivial (Zoi x1.1 0 1 _ ex7) (h:=?_);refine Zn2 10 ?_;dsimp only [go_sem];refine An ?_;obtain ⟨x8,ex8,h⟩:=Bs h
   refine Z13 trivial (Z3j x3.1 2 _ ex8) (h:=?_);refine Zn2 3 ?_;dsimp only [go_sem];refine An ?_;refine Zg4 (fun (x16:Bool)=>(⟨(.bv x16::an 111 []),[],[]⟩:St)) Zfk r ?_ fun J2=>?_
   ·intro x16 h;rw [Zfk] at h;(try dsimp only);exact Zq4 (res:=fun (r:Bool)=>.bv r) ok11 h
   ·refine Zp4 59 h rfl (fun _ h=>?_) fun _ h=>?_
    ·dsimp only [go_sem];refine Zn2 4 ?_;dsimp only [go_sem];refine An ?_;refine Zp4 63 h rfl (fun _ h=>?_) fun _ h=>?_
     ·dsimp only [go_sem];refine Zn2 1 ?_;dsimp only [go_sem];refine An ?_;obtain ⟨x9,ex9,h⟩:=Bs h;refine Z13 trivial (Z3j x5.1 0 _ ex9) (h:=?_);refine Zn2 4 ?_;dsimp only [go_sem];refine An ?_;refine Zp4 69 h rfl (fun _ h=>?_) fun _ h=>?_
      ·dsimp only [go_sem];refine Zn2 4 ?_;dsimp only [go_sem];refine An ?_;refine Zp4 73 h rfl (fun _ h=>?_) fun _ h=>?_
       ·dsimp only [go_sem];refine Zn2 1 ?_;dsimp only [go_sem];refine An ?_;obtain ⟨x10,ex10,h⟩:=Bs h;refine Z13 trivial (Z3j x6.1 2 _ ex10) (h:=?_);refine Zn2 4 ?_;dsimp only [go_sem];refine An ?_;refine Zp4 79 h rfl (fun _ h=>?_) fun _ h=>?_
        ·dsimp only [go_sem];refine Zn2 4 ?_;dsimp only [go_sem];refine An ?_;refine Zp4 83 h rfl (fun _ h=>?_) fun _ h=>?_
         ·dsimp only [go_sem];refine Zn2 1 ?_;dsimp only [go_sem];refine An ?_;obtain ⟨x11,ex11,h⟩:=Bs h;refine Z13 trivial (Z2i x1.1 _ ex11) (h:=?_);refine Zn2 3 ?_;dsimp only [go_sem];refine An ?_;refine Zp4 88 h rfl (fun _ h=>?_) fun _ h=>?_
          ·dsimp only [go_sem];refine Zn2 2 ?_;dsimp only [go_sem];refine An ?_;obtain ⟨x12,ex12,h⟩:=Bs h;refine Z13 trivial (k_bar_Count x1.1 ((Edge.mk 0 1)) 3 _ ex12) (h:=?_);refine Zn2 3 ?_;dsimp only [go_sem];refine An ?_;refine Zp4 94 h rfl (fun _ h=>?_) fun _ h=>?_
           ·dsimp only [go_sem];refine Zn2 2 ?_;dsimp only [go_sem];refine An ?_;obtain ⟨x13,ex13,h⟩:=Bs h;refine Z13 trivial (Zvj x1.1 x1.1 _ ex13) (h:=?_);refine Zn2 2 ?_;dsimp only [go_sem];refine An ?_;refine Zp4 99 h rfl (fun _ h=>?_) fun _ h=>?_
            ·dsimp only [go_sem];refine Zn2 2 ?_;dsimp only [go_sem];refine An ?_;obtain ⟨x14,ex14,h⟩:=Bs h;refine Z13 trivial (Zvj x1.1 x3.1 _ ex14) (h:=?_);refine Zn2 3 ?_;dsimp only [go_sem];refine An ?_;refine Zp4 105 h rfl (fun _ h=>?_) fun _ h=>?_
             ·dsimp only [go_sem];refine Zn2 1 ?_;dsimp only [go_sem];refine An ?_;obtain ⟨x15,ex15,h⟩:=Bs h;refine Z13 trivial (Zth x1.1 _ ex15) (h:=?_);refine Zn2 6 ?_;dsimp only [go_sem];refine An ?_;exact Zs4 J2 (s:=decide ((ln Diner.row x15.Diners)=2)) h
             ·dsimp only [go_sem];refine Zn2 8 ?_;dsimp only [go_sem];refine An ?_;exact Zs4 J2 (s:=false) h
            ·dsimp only [go_sem];refine Zn2 14 ?_;dsimp only [go_sem];refine An ?_;exact Zs4 J2 (s:=false) h
           ·dsimp only [go_sem];refine Zn2 19 ?_;dsimp only [go_sem];refine An ?_;exact Zs4 J2 (s:=false) h
          ·dsimp only [go_sem];refine Zn2 25 ?_;dsimp only [go_sem];refine An ?_;exact Zs4 J2 (s:=false) h
         ·dsimp only [go_sem];refine Zn2 30 ?_;dsimp only [go_sem];refine An ?_;exact Zs4 J2 (s:=false) h
        ·dsimp only [go_sem];refine Zn2 34 ?_;dsimp only [go_sem];refine An ?_;exact Zs4 J2 (s:=false) h
       ·dsimp only [go_sem];refine Zn2 40 ?_;dsimp only [go_sem];refine An ?_;exact Zs4 J2 (s:=false) h
      ·dsimp only [go_sem];refine Zn2 44 ?_;dsimp only [go_sem];refine An ?_;exact Zs4 J2 (s:=false) h
     ·dsimp only [go_sem];refine Zn2 50 ?_;dsimp only [go_sem];refine An ?_;exact Zs4 J2 (s:=false) h
    ·dsimp only [go_sem];refine Zn2 54 ?_;dsimp only [go_sem];refine An ?_;exact Zs4 J2 (s:=false) h
 ·refine Zp4 31 h rfl (fun _ h=>?_) fun _ h=>?_
  ·dsimp only [go_sem];refine Zn2 8 ?_;dsimp only [go_sem];refine An ?_;exact Zs4 J1 (s:=true) h
  ·dsimp only [go_sem];refine Zn2 4 ?_;dsimp only [go_sem];refine An ?_;refine Zp4 35 h rfl (fun _ h=>?_) fun _ h=>?_
   ·dsimp only [go_sem];refine Zn2 4 ?_;dsimp only [go_sem];refine An ?_;exact Zs4 J1 (s:=true) h
   ·dsimp only [go_sem];refine Zn2 4 ?_;dsimp only [go_sem];refine An ?_;exact Zs4 J1 (s:=!decide (x3.2=0)) h
set_option maxRecDepth 100000
set_option maxHeartbeats 4000000
set_option maxRecDepth 100000
set_option maxHeartbeats 4000000
set_option maxRecDepth 100000
set_option maxHeartbeats 4000000
set_option maxRecDepth 100000
set_option maxHeartbeats 4000000
set_option maxRecDepth 100000
set_option maxHeartbeats 4000000
def fewR (s:Bar):Bool:=decide (s.Drinkers.length≤24)&&(s.Drinkers.all (fun d=>decide (d.Need.length≤24))&&fewB (scB s))
theorem fewR_iff {s:Bar} (h:fewR s=true):s.Drinkers.length≤24∧s.Mail.length≤40∧∀d∈s.Drinkers,d.Diner.Sides.length≤24∧d.Need.length≤24:=by
 unfold fewR at h
 simp only [Bool.and_eq_true,decide_eq_true_eq,List.all_eq_true] at h
 obtain ⟨h1,h2,h3⟩:=h
 obtain ⟨_,k2,k3⟩:=fewB_iff h3
 exact ⟨h1,k2,fun d hd=>⟨k3 _ (List.mem_map_of_mem hd),h2 d hd⟩⟩
theorem Zjk {s:Bar} (h:fewR s=true):fewL s.Drinkers:=by
 obtain ⟨h1,_,h3⟩:=fewR_iff h
 exact ⟨by omega,fun d hd=>by have:=h3 d hd;omega⟩
theorem setL_pw {l:List Int} (h:l.Pairwise (· < ·)):setL l=l:=by
 unfold setL
 rw [List.mergeSort_of_pairwise (h.imp fun hxy=>decide_eq_true (by omega)),Zjc h]
def Zkk (d:Drinker) (need set:List Int):Drinker×Int:=if okDr d then (if d.Thirst=0 then (if need.any (Z2f d.Diner) then (Z0f,151) else (⟨d.Diner,1,set⟩,0)) else (Z0f,152)) else (Z0f,150)
theorem openDr_S {need:List Int} (h:need.Pairwise (· < ·)):(fun d=>Z3f d need)=fun d=>Zkk d need need:=by
 funext d
 unfold Z3f Zkk
 rw [setL_pw h]
def g16:Graph:=⟨2,[⟨0,1⟩]⟩
def v0:Bar:=barT g16
def v2:Bar×Int:=Z7k v0 0 fun d=>Zkk d [] []
def v3:Bar×Int:=Z7k v2.1 1 fun d=>Zkk d [] []
def v5:Bar×Int:=Z7k v0 0 fun d=>Zkk d [1] [1]
def v6:Bar×Int:=Z7k v3.1 0 Z4f
def v7:Bar×Int:=Zak v0 0 1
theorem s_awake16:Zhk=some true:=by
 have f0:fewR v0=true:=by kernel_rfl
 have f2:fewR v2.1=true:=by kernel_rfl
 have f3:fewR v3.1=true:=by kernel_rfl
 have f5:fewR v5.1=true:=by kernel_rfl
 have f6:fewR v6.1=true:=by kernel_rfl
 have m:∀ {s:Bar},fewR s=true→s.Mail.length≤900000:=fun h=>by have:=(fewR_iff h).2.1;omega
 have hN:Zkj ⟨2,[⟨0,1⟩]⟩=some (v0,0):=by
  rw [s_bNew,show okG ⟨2,[⟨0,1⟩]⟩=true from by kernel_rfl];rfl
 simp only [Zhk,hN,Option.bind_some,decide_true,Bool.not_true,Zw5]
 rw [s_bOpen v0 0 [] (Zjk f0) (m f0) (by simp),Option.bind_some,openDr_S (need:=[]) (by simp),show (Z7k v0 0 fun d=>Zkk d [] [])=v2 from rfl]
 rw [s_bOpen v2.1 1 [] (Zjk f2) (m f2) (by simp),Option.bind_some,openDr_S (need:=[]) (by simp),show (Z7k v2.1 1 fun d=>Zkk d [] [])=v3 from rfl]
 rw [show decide (v2.2=0)=true from by kernel_rfl,Bool.not_true,Zw5,show decide (v3.2=0)=true from by kernel_rfl,Bool.not_true]
 dsimp only [Zgk]
 rw [Zw5,s_bOpen v0 0 [1] (Zjk f0) (m f0) (by simp),Option.bind_some,openDr_S (need:=[1]) (by simp),show (Z7k v0 0 fun d=>Zkk d [1] [1])=v5 from rfl]
 rw [s_bClose v3.1 0 (Zjk f3) (m f3),Option.bind_some,show Z7k v3.1 0 Z4f=v6 from rfl,Zbk v0 0 1 (Zjk f0) (m f0),Option.bind_some,show Zak v0 0 1=v7 from rfl]
 rw [s_Who v3.1 2 (Zjk f3),Option.bind_some,show decide (ln Zw4 (Zck v3.1.Drinkers 2)=2)=true from by rw [Zy4];kernel_rfl,Zv5,show decide (v5.2=0)=true from by kernel_rfl,Zv5]
 rw [s_Who v5.1 0 (Zjk f5),Option.bind_some,show decide (ln Zw4 (Zck v5.1.Drinkers 0)=1)=true from by rw [Zy4];kernel_rfl,Zv5,show decide (v6.2=0)=true from by kernel_rfl,Zv5]
 rw [s_Who v6.1 2 (Zjk f6),Option.bind_some,show decide (ln Zw4 (Zck v6.1.Drinkers 2)=1)=true from by rw [Zy4];kernel_rfl,Zv5,show decide (v7.2=162)=true from by kernel_rfl,Zv5]
 rw [s_bCheck v0 (Zjk f0) (by have:=m f0;omega),Option.bind_some,show Zyj v0=true from by kernel_rfl,show decide ((if true=true then (0:Int) else 160)=0)=true from rfl,Zv5]
 rw [s_bCount v0 ⟨0,1⟩ 3 (Zjk f0) (m f0),Option.bind_some,show decide ((Zek v0 ⟨0,1⟩ 3:Int)=1)=true from by kernel_rfl,Zv5]
 rw [s_bSame v0 v0 (Zjk f0) (m f0),Option.bind_some,decide_eq_true rfl,Zv5,s_bSame v0 v3.1 (Zjk f0) (m f0),Option.bind_some,show decide (v0=v3.1)=false from by kernel_rfl,Bool.not_false,Zv5]
 rw [s_Scene v0 (Zjk f0) (by have:=m f0;omega),Option.bind_some,Zy4,show decide (((scB v0).Diners.length:Int)=2)=true from by kernel_rfl]
 rfl
def k12 (m:Mail):Bool:=decide (m.Msg.Kind≤2)
def Zlk (s:Bar):Scene:=⟨s.Drinkers.map (·.Diner),s.Mail.filter k12⟩
def hasT (d:Diner) (k b:Int):Nat:=match Zw7 d b with | some x=>bn (Zdk x k) | none=>0
structure LocT (d:Drinker):Prop where
 lo:0≤d.Thirst
 hi:d.Thirst≤2
 need:d.Need.Pairwise (· < ·)
 sub:∀p∈d.Need,p∈d.Diner.Sides.map (·.Peer)
 tr:d.Thirst=0→d.Need=[]
 dr:d.Thirst=2→∀x∈d.Diner.Sides,x.Peer∈d.Need→x.Bottle=true
def mailR (g:Graph) (m:Mail):Prop:=(1≤m.Msg.Kind∧m.Msg.Kind≤4)∧m.Msg.Epoch=1∧m.Msg.Num=0∧m.To∈Zhc g m.From
structure InvB (g:Graph) (s:Bar):Prop where
 tab:Inv g (Zlk s)
 mail:∀m∈s.Mail,mailR g m
 th:∀d∈s.Drinkers,LocT d
 two:∀(a b:Nat) da db,s.Drinkers[a]?=some da→s.Drinkers[b]?=some db→(b:Int)∈Zhc g a→∀k,(k=3∨k=4)→hasT da.Diner k b+hasT db.Diner k a+cnt s.Mail k a b+cnt s.Mail k b a=1
theorem Zmk {s:Bar} {a:Nat} {d:Drinker} (h:s.Drinkers[a]?=some d):(Zlk s).Diners[a]?=some d.Diner:=by
 show (s.Drinkers.map (·.Diner))[a]?=_
 rw [List.getElem?_map,h];rfl
theorem InvB.upd {g:Graph} {s:Bar} (hg:okG g=true) (h:InvB g s) {a:Nat} {d d':Drinker} (hd:s.Drinkers[a]?=some d) {M:List Mail} (ht:Inv g ⟨(Zlk s).Diners.set a d'.Diner,M.filter k12⟩) (hm:∀m∈M,mailR g m) (hl:LocT d')
  (ho:∀k p q:Int,(k=3∨k=4)→p≠a→q≠a→cnt M k p q=cnt s.Mail k p q) (hc:∀b∈Zhc g a,∀k,(k=3∨k=4)→hasT d'.Diner k b+cnt M k a b+cnt M k b a=hasT d.Diner k b+cnt s.Mail k a b+cnt s.Mail k b a):InvB g ⟨s.Drinkers.set a d',M⟩:=by
 have hlt:=(List.getElem?_eq_some_iff.1 hd).1
 have get:∀(k:Nat) e,(s.Drinkers.set a d')[k]?=some e→(k=a∧e=d')∨(k≠a∧s.Drinkers[k]?=some e):=fun k e he=>by
  rw [List.getElem?_set] at he
  split at he
  ·rename_i hk
   simp at he
   exact .inl ⟨hk.symm,he.symm⟩
  ·rename_i hk
   exact .inr ⟨fun e=>hk e.symm,he⟩
 refine ⟨?_,hm,fun e he=>?_,fun x y dx dy hx hy hxy k hk=>?_⟩
 ·have e:Zlk ⟨s.Drinkers.set a d',M⟩=⟨(Zlk s).Diners.set a d'.Diner,M.filter k12⟩:=by
   unfold Zlk
   simp only [List.map_set]
  rw [e];exact ht
 ·obtain ⟨k,hk⟩:=List.mem_iff_getElem?.1 he
  rcases get k e hk with ⟨_,rfl⟩ | ⟨_,he⟩
  ·exact hl
  ·exact h.th e (List.mem_iff_getElem?.2 ⟨_,he⟩)
 ·dsimp only at hx hy ⊢
  have hne:=(Zmc hg hxy).2.2.1
  have hyx:=Zjd hg hxy
  rcases get x dx hx with ⟨rfl,rfl⟩ | ⟨x1,hx'⟩<;>rcases get y dy hy with ⟨rfl,rfl⟩ | ⟨y1,hy'⟩
  ·exact absurd rfl hne
  ·have:=hc y hxy k hk
   have:=h.two x y d dy hd hy' hxy k hk
   omega
  ·have:=hc x hyx k hk
   have:=h.two x y dx d hx' hd hxy k hk
   omega
  ·rw [ho k x y hk (by omega) (by omega),ho k y x hk (by omega) (by omega)]
   exact h.two x y dx dy hx' hy' hxy k hk
theorem Znk {id th:Int} {nd:Bool} {x:Side} {m:Mail} (h:m∈Z4e id nd th x):m.From=id∧m.To=x.Peer∧(m.Msg.Kind=3∨m.Msg.Kind=4)∧m.Msg.Epoch=x.Epoch∧m.Msg.Num=0:=by
 unfold Z4e at h
 rw [List.mem_append] at h
 rcases h with h | h
 ·split at h
  ·simp at h;subst h;exact ⟨rfl,rfl,.inl rfl,rfl,rfl⟩
  ·simp at h
 ·split at h
  ·simp at h;subst h;exact ⟨rfl,rfl,.inr rfl,rfl,rfl⟩
  ·simp at h
theorem bot_side (id th k:Int) (nd:Bool) (x:Side) (hk:k=3∨k=4) (he:x.Epoch=1):bn (Zdk (Z3e nd th x) k)+(Z4e id nd th x).count ⟨id,x.Peer,⟨k,1,0⟩⟩=bn (Zdk x k):=by
 obtain ⟨p,e,st,f,d,t,bo,ask⟩:=x
 dsimp only at he
 subst he
 unfold Z4e Z3e Z2e Z1e Zdk bn
 generalize h1:decide (th=1)=q1
 generalize h2:decide (th=2)=q2
 rcases hk with rfl | rfl<;>cases bo<;>cases ask<;>cases nd<;>cases q1<;>cases q2<;>cases f<;>simp
theorem Zok (id th k b:Int) (nd:Side→Bool):∀(l:List Side),l.Pairwise (fun x y=>x.Peer<y.Peer)→(l.flatMap fun x=>Z4e id (nd x) th x).count ⟨id,b,⟨k,1,0⟩⟩=match l.find? (fun x=>decide (x.Peer=b)) with | some x=>(Z4e id (nd x) th x).count ⟨id,x.Peer,⟨k,1,0⟩⟩ | none=>0
 | [],_=>rfl
 | x::l,h=>by
   rw [List.pairwise_cons] at h
   rw [List.flatMap_cons,List.count_append,Zok id th k b nd l h.2,List.find?_cons]
   by_cases hx:x.Peer=b
   ·have:l.find? (fun x=>decide (x.Peer=b))=none:=by
     rw [List.find?_eq_none]
     intro y hy
     have:=h.1 y hy
     simp;omega
    rw [this,decide_eq_true hx,←hx];simp
   ·rw [decide_eq_false hx,Zqd (fun hm=>hx (Znk hm).2.1.symm)];simp
theorem Zpk (d:Diner) (x:Side) (k:Int):Zdk (Ztd d x) k=Zdk x k:=by
 have h2:(Zc9 d.Phase x).Bottle=x.Bottle∧(Zc9 d.Phase x).Ask=x.Ask:=by
  unfold Zc9 Zb9
  split<;>split<;>exact ⟨rfl,rfl⟩
 have h3:(Ztd d x).Bottle=x.Bottle∧(Ztd d x).Ask=x.Ask:=by
  unfold Ztd
  split
  ·exact h2
  ·exact h2
 unfold Zdk
 rw [h3.1,h3.2]
theorem hasD_bot {d:Diner} {p:Int} {f:Side→Side} (hf:∀x,(f x).Peer=x.Peer∧(f x).Fork=x.Fork∧(f x).Token=x.Token) (k b:Int):hasD ⟨d.ID,p,d.Sides.map f⟩ k b=hasD d k b:=by
 unfold hasD
 rw [Zxd d f (fun x=>(hf x).1)]
 cases Zw7 d b with
 | none=>rfl
 | some x=>
   simp only [Option.map_some]
   unfold has
   rw [(hf x).2.1,(hf x).2.2]
theorem Zqk {α:Type} {l:List α} {a:Nat} {x:α} (h:l[a]?=some x):l.set a x=l:=by
 refine List.ext_getElem? fun k=>?_
 rw [List.getElem?_set]
 split
 ·rename_i e;subst e
  have:=(List.getElem?_eq_some_iff.1 h).1
  rw [if_pos this,h]
 ·rfl
theorem Inv.map {g:Graph} {s:Scene} (hg:okG g=true) (h:Inv g s) {a:Nat} {d:Diner} (hd:s.Diners[a]?=some d) {f:Side→Side} (hf:∀x,(f x).Peer=x.Peer∧(f x).Epoch=x.Epoch∧(f x).State=x.State∧(f x).Fork=x.Fork∧(f x).Dirty=x.Dirty∧(f x).Token=x.Token):
  Inv g ⟨s.Diners.set a ⟨d.ID,d.Phase,d.Sides.map f⟩,s.Mail⟩:=by
 have hl:=h.loc d (List.mem_iff_getElem?.2 ⟨_,hd⟩)
 refine h.set (d':=⟨d.ID,d.Phase,d.Sides.map f⟩) hg hd rfl ?_ ⟨hl.lo,hl.hi,fun y hy=>?_,fun e y hy=>?_⟩ h.mail (fun _ _ _ _ _=>rfl) (fun b _ k _=>?_)
 ·rw [List.map_map]
  exact List.map_congr_left fun x _=>(hf x).1
 ·obtain ⟨x,hx,rfl⟩:=List.mem_map.1 hy
  obtain ⟨p1,p2,p3,p4,p5,p6⟩:=hf x
  rw [p2,p3,p4,p5]
  exact hl.side x hx
 ·obtain ⟨x,hx,rfl⟩:=List.mem_map.1 hy
  obtain ⟨p1,p2,p3,p4,p5,p6⟩:=hf x
  rw [p4,p5]
  exact hl.eat e x hx
 ·rw [hasD_bot fun x=>⟨(hf x).1,(hf x).2.2.2.1,(hf x).2.2.2.2.2⟩]
theorem phaseDr_or (d:Drinker):Z6e d=d.Diner.Phase∨Z6e d=0∨Z6e d=1:=by
 unfold Z6e
 split
 ·exact .inr (.inr rfl)
 ·split
  ·exact .inr (.inl rfl)
  ·exact .inl rfl
theorem onceM_k12 (d:Drinker) (M:List Mail):(M++Zbe d).filter k12=M.filter k12++Zg9 (Z7e d):=by
 unfold Zbe
 rw [List.filter_append,List.filter_append]
 have h1:(Zg9 (Z7e d)).filter k12=Zg9 (Z7e d):=by
  rw [List.filter_eq_self]
  intro m hm
  obtain ⟨x,_,hx⟩:=List.mem_flatMap.1 hm
  have:=(Zpd hx).2.2.1
  unfold k12
  exact decide_eq_true (by omega)
 have h2:((Zf9 (Z7e d)).Sides.flatMap fun x=>Z4e d.Diner.ID (Z0e d x) d.Thirst x).filter k12=[]:=by
  rw [List.filter_eq_nil_iff]
  intro m hm
  obtain ⟨x,_,hx⟩:=List.mem_flatMap.1 hm
  have:=(Znk hx).2.2.1
  unfold k12
  simp;omega
 rw [h1,h2,List.append_nil]
theorem InvB.once {g:Graph} {s:Bar} (hg:okG g=true) (h:InvB g s) {a:Nat} {d:Drinker} (hd:s.Drinkers[a]?=some d):InvB g ⟨s.Drinkers.set a (Zae d),s.Mail++Zbe d⟩:=by
 have hdt:=Zmk hd
 obtain ⟨hid,hsh⟩:=h.tab.shp a _ hdt
 have hdm:d∈s.Drinkers:=List.mem_iff_getElem?.2 ⟨_,hd⟩
 have hT:=h.th d hdm
 have hloc:=h.tab.loc _ (List.mem_iff_getElem?.2 ⟨_,hdt⟩)
 have h1:Inv g ⟨(Zlk s).Diners.set a (Z7e d),(Zlk s).Mail⟩:=by
  rcases phaseDr_or d with e | e | e
  ·have:Z7e d=d.Diner:=by unfold Z7e;rw [e]
   rw [this,Zqk hdt];exact h.tab
  ·exact h.tab.phase hg hdt (p:=Z6e d) (by omega) (by omega)
  ·exact h.tab.phase hg hdt (p:=Z6e d) (by omega) (by omega)
 have hd1:((Zlk s).Diners.set a (Z7e d))[a]?=some (Z7e d):=Zog hdt
 have hpw1:=h1.pw hg hd1
 have h2:=h1.fire hg hd1
 dsimp only at h2
 rw [List.set_set] at h2
 have hd2:((Zlk s).Diners.set a (Zf9 (Z7e d)))[a]?=some (Zf9 (Z7e d)):=Zog hdt
 have hpw2:=h2.pw hg hd2
 have h3:=h2.map hg hd2 (f:=fun x=>Z3e (Z0e d x) d.Thirst x) (fun x=>Z5e _ _ x)
 dsimp only at h3
 rw [List.set_set,Zvd] at h3
 have hsm:∀m∈Zbe d,m.From=a∧m.To∈Zhc g a∧(1≤m.Msg.Kind∧m.Msg.Kind≤4)∧m.Msg.Epoch=1∧m.Msg.Num=0:=fun m hm=>by
  unfold Zbe at hm
  rcases List.mem_append.1 hm with hm | hm
  ·obtain ⟨x,hx,hxm⟩:=List.mem_flatMap.1 hm
   obtain ⟨m1,m2,m3,m4,m5⟩:=Zpd hxm
   refine ⟨m1.trans hid,?_,by omega,by rw [m4];exact (hloc.side x hx).1,m5⟩
   rw [m2,←hsh]
   exact List.mem_map_of_mem hx
  ·obtain ⟨x,hx,hxm⟩:=List.mem_flatMap.1 hm
   obtain ⟨m1,m2,m3,m4,m5⟩:=Znk hxm
   rw [Zud] at hx
   obtain ⟨y,hy,rfl⟩:=List.mem_map.1 hx
   obtain ⟨p1,p2,_⟩:=Zwd (Z7e d) y
   refine ⟨m1.trans hid,?_,by omega,by rw [m4,p2];exact (hloc.side y hy).1,m5⟩
   rw [m2,p1,←hsh]
   exact List.mem_map_of_mem hy
 have other:∀(k p q:Int),p≠a→(Zbe d).count ⟨p,q,⟨k,1,0⟩⟩=0:=fun k p q hp=>Zqd fun hm=>hp (hsm _ hm).1
 refine h.upd (d':=Zae d) hg hd ?_ (fun m hm=>?_) ?_ (fun k p q _ hp _=>?_) (fun b hb k hk=>?_)
 ·rw [onceM_k12]
  exact h3
 ·rcases List.mem_append.1 hm with hm | hm
  ·exact h.mail m hm
  ·obtain ⟨q1,q2,q3,q4,q5⟩:=hsm m hm
   exact ⟨q3,q4,q5,by rw [q1];exact q2⟩
 ·refine ⟨?_,?_,hT.need,?_,?_,?_⟩
  ·show 0≤Z9e d
   unfold Z9e;split
   ·omega
   ·exact hT.lo
  ·show Z9e d≤2
   unfold Z9e;split
   ·omega
   ·exact hT.hi
  ·intro p hp
   show p∈(Zae d).Diner.Sides.map (·.Peer)
   rw [(once_keep d).2.2]
   exact hT.sub p hp
  ·intro e
   refine hT.tr ?_
   have e':Z9e d=0:=e
   unfold Z9e at e'
   split at e'
   ·omega
   ·exact e'
  ·intro e x hx hn
   have e':Z9e d=2:=e
   have hx':x∈Z8e d:=hx
   unfold Z9e at e'
   split at e'
   ·rename_i hc
    rw [Bool.and_eq_true,List.all_eq_true] at hc
    have:=hc.2 x hx'
    unfold Z0e at this
    rw [decide_eq_true (show x.Peer∈d.Need from hn)] at this
    simpa using this
   ·unfold Z8e at hx'
    obtain ⟨y,hy,rfl⟩:=List.mem_map.1 hx'
    rw [Zud] at hy
    obtain ⟨z,hz,rfl⟩:=List.mem_map.1 hy
    have p1:=(Zwd (Z7e d) z).1
    rw [(Z5e _ _ _).1,p1] at hn
    have hb:=hT.dr e' z hz hn
    have hl:=Zpk (Z7e d) z 3
    unfold Zdk at hl
    simp at hl
    have hnd:Z0e d (Ztd (Z7e d) z)=true:=by unfold Z0e;rw [p1];exact decide_eq_true hn
    rw [hnd,e']
    unfold Z3e Z2e Z1e
    simp [hl,hb]
 ·unfold cnt
  rw [List.count_append,other k p q hp];rfl
 ·have hne:=(Zmc hg hb).2.2.1
  unfold cnt
  rw [List.count_append,List.count_append,other k b a hne]
  have e:=Zok d.Diner.ID d.Thirst k b (Z0e d) (Zf9 (Z7e d)).Sides hpw2
  have e0:(Zg9 (Z7e d)).count ⟨(a:Int),b,⟨k,1,0⟩⟩=0:=Zqd fun hm=>by
   obtain ⟨x,_,hx⟩:=List.mem_flatMap.1 hm
   have:=(Zpd hx).2.2.1
   dsimp only at this
   omega
  rw [hid] at e
  unfold Zbe
  rw [List.count_append,e0,hid,e]
  unfold hasT
  have es:Zw7 (Zae d).Diner b=(Zw7 (Zf9 (Z7e d)) b).map fun x=>Z3e (Z0e d x) d.Thirst x:=Zxd (Zf9 (Z7e d)) (fun x=>Z3e (Z0e d x) d.Thirst x) (fun x=>(Z5e _ _ x).1) _ _ b
  rw [es,Zyd]
  have ef:(Zf9 (Z7e d)).Sides.find? (fun x=>decide (x.Peer=b))=(Zw7 (Z7e d) b).map (Ztd (Z7e d)):=Zyd (Z7e d) b
  rw [ef]
  have ep:Zw7 (Z7e d) b=Zw7 d.Diner b:=rfl
  rw [ep]
  cases hf:Zw7 d.Diner b with
  | none=>simp
  | some x=>
    have hx:=(Zzd hf).1
    obtain ⟨p1,p2,_⟩:=Zwd (Z7e d) x
    have hbs:=bot_side (a:Int) d.Thirst k (Z0e d (Ztd (Z7e d) x)) (Ztd (Z7e d) x) hk (by rw [p2];exact (hloc.side x hx).1)
    rw [Zpk] at hbs
    simp only [Option.map_some]
    omega
theorem InvB.fireN {g:Graph} (hg:okG g=true) (L:List Drinker) (M:List Mail) {a:Nat} (ha:a<L.length):∀(n:Nat) (d:Drinker) (out:List Mail),InvB g ⟨L.set a d,M++out⟩→InvB g ⟨L.set a (NX.fireN n d out).1,M++(NX.fireN n d out).2⟩
 | 0,_,_,h=>h
 | n+1,d,out,h=>by
   unfold NX.fireN
   split
   ·exact h
   ·have hd:(L.set a d)[a]?=some d:=by rw [List.getElem?_set];simp [ha]
    have h1:=h.once hg hd
    dsimp only at h1
    rw [List.set_set,List.append_assoc] at h1
    exact InvB.fireN hg L M ha n _ _ h1
theorem InvB.fireDr {g:Graph} {s:Bar} (hg:okG g=true) (h:InvB g s) {a:Nat} {d:Drinker} (hd:s.Drinkers[a]?=some d):InvB g ⟨s.Drinkers.set a (NX.fireDr d).1,s.Mail++(NX.fireDr d).2⟩:=by
 refine InvB.fireN hg s.Drinkers s.Mail (List.getElem?_eq_some_iff.1 hd).1 300 d [] ?_
 rw [Zqk hd,List.append_nil];exact h
theorem Zrk {zs:List Int} (h:zs.Pairwise (· ≤ ·)):(Lib.compact zs).Pairwise (· < ·)∧∀x,x∈Lib.compact zs↔x∈zs:=by
 have get:∀j,j<zs.length→∃hj:j<zs.length,zs.toArray[j]! = zs[j]:=fun j hj=>⟨hj,by rw [getElem!_pos _ _ (by simpa using hj)];simp⟩
 have mono:∀i j,i≤j→j<zs.length→zs.toArray[i]!≤zs.toArray[j]!:=fun i j hij hj=>by
  obtain ⟨_,e1⟩:=get i (by omega)
  obtain ⟨_,e2⟩:=get j hj
  rw [e1,e2]
  by_cases e:i=j
  ·subst e;exact Int.le_refl _
  ·rw [List.pairwise_iff_getElem] at h
   exact h i j (by omega) hj (by omega)
 have key:∀m,m≤zs.length→(Lib.compactUpTo zs.toArray m).Pairwise (· < ·)∧(∀x,x∈Lib.compactUpTo zs.toArray m↔∃j,j<m∧x=zs.toArray[j]!):=by
  intro m
  induction m with
  | zero=>intro _;exact ⟨by simp [Lib.compactUpTo],fun x=>by simp [Lib.compactUpTo]⟩
  | succ m ih=>
    intro hm
    obtain ⟨h1,h2⟩:=ih (by omega)
    rw [Lib.compactUpTo_succ]
    cases hk:Lib.keeps zs.toArray m with
    | true=>
      rw [if_pos rfl]
      refine ⟨?_,fun x=>?_⟩
      ·rw [List.pairwise_append]
       refine ⟨h1,by simp,fun x hx y hy=>?_⟩
       rw [List.mem_singleton] at hy
       subst hy
       obtain ⟨j,hj,rfl⟩:=(h2 x).1 hx
       unfold Lib.keeps at hk
       simp only [decide_eq_true_eq] at hk
       have a1:=mono j (m-1) (by omega) (by omega)
       have a2:=mono (m-1) m (by omega) (by omega)
       rcases hk with e | e
       ·omega
       ·have:zs.toArray[m]!≠zs.toArray[m-1]!:=e
        omega
      ·rw [List.mem_append,h2]
       constructor
       ·rintro (⟨j,hj,e⟩ | e)
        ·exact ⟨j,by omega,e⟩
        ·simp at e;exact ⟨m,by omega,by simpa using e⟩
       ·rintro ⟨j,hj,e⟩
        by_cases hjm:j=m
        ·subst hjm;right;simp [e]
        ·exact .inl ⟨j,by omega,e⟩
    | false=>
      rw [if_neg (by simp),List.append_nil]
      refine ⟨h1,fun x=>?_⟩
      rw [h2]
      constructor
      ·rintro ⟨j,hj,e⟩;exact ⟨j,by omega,e⟩
      ·rintro ⟨j,hj,e⟩
       by_cases hjm:j=m
       ·subst hjm
        unfold Lib.keeps at hk
        simp only [decide_eq_false_iff_not,not_or,Classical.not_not] at hk
        exact ⟨j-1,by omega,by rw [e,hk.2]⟩
       ·exact ⟨j,by omega,e⟩
 obtain ⟨k1,k2⟩:=key zs.length (Nat.le_refl _)
 refine ⟨k1,fun x=>?_⟩
 have:=k2 x
 unfold Lib.compact
 rw [this]
 constructor
 ·rintro ⟨j,hj,e⟩
  obtain ⟨_,e1⟩:=get j hj
  rw [e,e1];exact List.getElem_mem hj
 ·intro hx
  obtain ⟨j,hj,e⟩:=List.mem_iff_getElem.1 hx
  obtain ⟨_,e1⟩:=get j hj
  exact ⟨j,hj,by rw [e1,e]⟩
theorem setL_spec (l:List Int):(setL l).Pairwise (· < ·)∧∀x,x∈setL l↔x∈l:=by
 have hs:(l.mergeSort fun x y=>decide (x≤y)).Pairwise (· ≤ ·):=by
  have:=List.pairwise_mergeSort (le:=fun x y:Int=>decide (x≤y)) (by intro a b c;simp;omega) (by intro a b;simp;omega) l
  exact this.imp fun h=>by simpa using h
 obtain ⟨h1,h2⟩:=Zrk hs
 refine ⟨h1,fun x=>?_⟩
 unfold setL
 rw [h2]
 exact (List.mergeSort_perm l _).mem_iff
theorem okI_of:∀(l:List Int) (p:Option Int),l.Pairwise (· < ·)→(∀q,p=some q→∀x∈l,q<x)→okI p l=true
 | [],_,_,_=>rfl
 | x::l,p,h,hp=>by
   rw [List.pairwise_cons] at h
   have ih:=okI_of l (some x) h.2 fun q hq y hy=>by simp at hq;subst hq;exact h.1 y hy
   unfold okI
   rw [ih,Bool.and_true]
   cases p with
   | none=>rfl
   | some q=>exact decide_eq_true (hp q rfl x (by simp))
theorem InvB.few {g:Graph} {s:Bar} (hg:okG g=true) (h:InvB g s):s.Drinkers.length≤64∧∀d∈s.Drinkers,d.Diner.Sides.length≤64∧d.Need.length≤64:=by
 have hl:=h.tab.len
 have h2:=(Ze7 hg).2.1
 have e:(Zlk s).Diners.length=s.Drinkers.length:=by simp [Zlk]
 refine ⟨by omega,fun d hd=>?_⟩
 obtain ⟨k,hk⟩:=List.mem_iff_getElem?.1 hd
 obtain ⟨_,hsh⟩:=h.tab.shp k _ (Zmk hk)
 have hfew:=near_few hg (k:Int)
 have hT:=h.th d hd
 have hsl:d.Diner.Sides.length=(Zhc g k).length:=by rw [←hsh];simp
 refine ⟨by omega,?_⟩
 have hb:∀p∈d.Need,0≤p∧p<g.N:=fun p hp=>by
  have:=hT.sub p hp
  rw [hsh] at this
  have:=Zmc hg this
  omega
 rcases pw_len d.Need 0 g.N hT.need hb with e | e
 ·rw [e];simp
 ·omega
theorem InvB.fewL {g:Graph} {s:Bar} (hg:okG g=true) (h:InvB g s):NX.fewL s.Drinkers:=by
 obtain ⟨h1,h2⟩:=h.few hg
 exact ⟨by omega,fun d hd=>by have:=h2 d hd;omega⟩
theorem InvB.okDr {g:Graph} {s:Bar} (hg:okG g=true) (hN:g.N≤60) (h:InvB g s) {d:Drinker} (hd:d∈s.Drinkers):NX.okDr d=true:=by
 obtain ⟨k,hk⟩:=List.mem_iff_getElem?.1 hd
 have hT:=h.th d hd
 have hD:=h.tab.okd hg hN (List.mem_iff_getElem?.2 ⟨_,Zmk hk⟩)
 unfold NX.okDr
 rw [hD,decide_eq_true hT.lo,decide_eq_true hT.hi,okI_of d.Need none hT.need (fun q hq=>by simp at hq),Bool.true_and,Bool.true_and,Bool.true_and,Bool.true_and,Bool.and_eq_true,List.all_eq_true]
 refine ⟨?_,fun p hp=>?_⟩
 ·by_cases h0:d.Thirst=0
  ·rw [hT.tr h0];simp
  ·rw [decide_eq_false h0];rfl
 ·unfold Zze
  rw [List.any_eq_true]
  obtain ⟨x,hx,e⟩:=List.mem_map.1 (hT.sub p hp)
  exact ⟨x,hx,decide_eq_true e⟩
theorem InvB.ok {g:Graph} {s:Bar} (hg:okG g=true) (hN:g.N≤60) (h:InvB g s):Zyj s=true:=by
 unfold Zyj okS
 have e1:Zb8 (scB s).Diners=(g,true):=show Zb8 (Zlk s).Diners=(g,true) from h.tab.graph hg
 have hl:((scB s).Diners.length:Int)=g.N:=show ((Zlk s).Diners.length:Int)=g.N from h.tab.len
 rw [e1,Bool.true_and,Bool.and_eq_true,Bool.and_eq_true,List.all_eq_true,List.all_eq_true,List.all_eq_true]
 refine ⟨⟨fun d hd=>h.tab.okd hg hN hd,fun m hm=>?_⟩,fun d hd=>h.okDr hg hN hd⟩
 obtain ⟨n1,n2,n3,n4,n5⟩:=Zmc hg (h.mail m hm).2.2.2
 unfold Z9g
 rw [decide_eq_false (by omega),decide_eq_false (by omega),decide_eq_false (by omega)];rfl
theorem InvB.first {g:Graph} (hg:okG g=true):InvB g (barT g):=by
 have hr:=(Zkg hg).1
 have e0:Zlk (barT g)=Zlg g:=by
  unfold Zlk barT
  rw [List.map_map]
  have:((fun d:Drinker=>d.Diner)∘fun d:Diner=>(⟨d,0,[]⟩:Drinker))=id:=rfl
  rw [this,List.map_id]
  rfl
 refine ⟨by rw [e0];exact Inv.first hg,by intro m hm;exact absurd hm (by simp [barT]),fun d hd=>?_,fun a b da db ha hb hab k hk=>?_⟩
 ·obtain ⟨e,he,rfl⟩:=List.mem_map.1 hd
  exact ⟨Int.le_refl _,by show (0:Int)≤2;omega,by simp,by simp,fun _=>rfl,fun e=>absurd e (by show ¬(0:Int)=2;omega)⟩
 ·have get:∀(k:Nat) d,(barT g).Drinkers[k]?=some d→d=⟨Zoc g (Zjg g) k,0,[]⟩:=fun k d hd=>by
   have h1:=Zmk hd
   rw [e0] at h1
   have hk:=(List.getElem?_eq_some_iff.1 h1).1
   have hl:=Zhd hg (Zjg g)
   have hk':k<(Zpc g (Zjg g)).length:=hk
   have e:=Zgd (g:=g) (c:=Zjg g) (a:=(k:Int)) (by omega) (by omega)
   rw [Int.toNat_natCast] at e
   have hd2:(Zlg g).Diners[k]?=some (Zoc g (Zjg g) k):=e
   have h3:(barT g).Drinkers[k]?=((Zlg g).Diners.map fun d=>(⟨d,0,[]⟩:Drinker))[k]?:=rfl
   rw [h3,List.getElem?_map,hd2] at hd
   simpa using hd.symm
  have:=get a da ha
  subst this
  have:=get b db hb
  subst this
  have hne:=Zrc hg hr hab
  have hba:=Zjd hg hab
  unfold hasT
  rw [Zid,if_pos hab,Zid,if_pos hba]
  have hlt:decide (cg (Zjg g) a<cg (Zjg g) b)=!decide (cg (Zjg g) b<cg (Zjg g) a):=by
   rw [←decide_not,decide_eq_decide];omega
  have e1:∀p q:Int,cnt (barT g).Mail k p q=0:=fun _ _=>rfl
  rw [e1,e1]
  simp only [Znc,Zdk,hlt,bn]
  by_cases hh:cg (Zjg g) b<cg (Zjg g) a<;>rcases hk with rfl | rfl<;>simp [hh]
set_option maxRecDepth 100000
set_option maxHeartbeats 4000000
@[go_sem] def e29_L0:EC:=.seq (.seq (.reg [(Qm 28 10),(Qm 29 1),(Qa 30 (.len (.t 29))),(Qa 31 (.bin .lss (.t 28) (.t 30)))]) (.ite (.t 31) (.skip) (.exit 0))) (.seq (.blk 1 (.seq (.drw [(Qe 35 2 8),(Qa 36 (.call 14 [(.t 35)])),(Qm 37 1),(Qm 38 10),(Qk 39 4 37 38),(Qe 40 4 39),(Qa 41 (.call 13 [(.t 36),(.t 40)])),(Qm 34 41),(Qa 42 (.ext (.t 34) 0)),(Qa 43 (.ext (.t 34) 1)),(Qa 11 (.alloc 25 [.nl,.nl])),(Qs 2 11 42),(Qm 12 43)] [[],[0],[],[],[2,3],[4],[1,5,1],[6],[7],[7],[],[10,8,6,0,1,2,3,4,5,6,7,8,10],[9,11,0,1,2,3,4,5,6,7,8,9,10,11]] [[1],[0,6],[4],[4],[2,3,5],[4,6],[1,5,7],[6,8,9],[7,11],[7,12],[11],[8,10],[9]]) (.seq (.seq (.reg [(Qm 44 12),(Qa 45 (.bin .neq (.t 44) (.c (.iv 0)))),(Qm 46 45),(Qg 47 46 true (.mv (.t 12))),(Qg 48 46 true (.bin .neq (.t 47) (.c (.iv 152)))),(Qp 49 46 48),(Qm 50 49),(Qg 51 50 true (.mv (.t 12))),(Qg 52 50 true (.bin .neq (.t 51) (.c (.iv 151)))),(Qp 53 50 52),(Qm 54 53),(Qg 55 54 true (.mv (.t 12))),(Qg 56 54 true (.bin .neq (.t 55) (.c (.iv 162)))),(Qp 57 54 56),(Qm 58 57),(Qg 59 58 true (.mv (.t 12))),(Qg 60 58 true (.bin .neq (.t 59) (.c (.iv 161)))),(Qp 61 58 60)]) (.ite (.t 61) (.seq (.reg [(Qe 62 2 8),(Qs 2 6 62),(Qa 7 (.mv (.c .ff)))]) (.ret)) (.skip))) (.seq (.seq (.reg [(Qm 63 12),(Qa 64 (.bin .eql (.t 63) (.c (.iv 0))))]) (.ite (.t 64) (.reg [(Qe 65 2 11),(Qs 2 8 65)]) (.skip))) (.seq (.reg [(Qm 66 2),(Qe 67 2 8),(Qa 68 (.callv (.t 66) [(.t 67)])),(Qa 69 (.not (.t 68)))]) (.ite (.t 69) (.seq (.reg [(Qe 70 2 8),(Qs 2 6 70),(Qa 7 (.mv (.c .ff)))]) (.ret)) (.skip))))))) (.reg [(Qm 32 10),(Qv 33 32 1),(Qm 10 33)]))
@[go_sem] def e29:EC:=.seq (.reg [(Qx 3 53 2 0),(Qa 6 (.alloc 25 [.nl,.nl])),(Qa 7 (.mv (.c .ff)))]) (.seq (.reg [(Qe 14 2 3),(Qa 15 (.call 41 [(.t 14)])),(Qa 16 (.call 40 [(.t 15)])),(Qm 13 16),(Qa 17 (.ext (.t 13) 0)),(Qa 18 (.ext (.t 13) 1)),(Qa 8 (.alloc 25 [.nl,.nl])),(Qs 2 8 17),(Qm 9 18)]) (.seq (.seq (.reg [(Qm 19 9),(Qa 20 (.bin .neq (.t 19) (.c (.iv 0)))),(Qm 21 20),(Qg 22 21 false (.mv (.t 2))),(Qg 23 21 false (.loadA 2 (.t 8))),(Qg 24 21 false (.callv (.t 22) [(.t 23)])),(Qg 25 21 false (.not (.t 24))),(Qq 26 21 25)]) (.ite (.t 26) (.seq (.reg [(Qe 27 2 8),(Qs 2 6 27),(Qa 7 (.mv (.c .ff)))]) (.ret)) (.skip))) (.seq (.seq (.reg [(Qi 10 0)]) (.blk 0 (.loop e29_L0))) (.seq (.reg [(Qe 71 2 8),(Qs 2 6 71),(Qa 7 (.mv (.c .tt)))]) (.ret)))))
theorem ok29:FnOK Tryz.prog 29 Tryz.f29 e29 [.c 6 (some 2),.t 7] 3 69:=⟨by kernel_rfl,⟨_,rfl,by kernel_rfl⟩,by kernel_rfl,by kernel_rfl⟩
noncomputable def Zsk:Bar→Option (Bar×Bool)
| x36=>
 some (x36,true)
noncomputable def Ztk (p2:(Bar→Option Bool)) (x19:Int):Bar→Option ((Int×Bar) ⊕ (Bar×Bool))
| x29=>
 (p2 x29).bind fun x30=>
 ifb (!x30) (
 Option.map Sum.inr (some (x29,false))) (
 some (.inl (wr (x19+1),x29)))
noncomputable def Zuk (p2:(Bar→Option Bool)) (x19:Int) (x20:Bar) (x26:Int) (x27:Bar):Bool→Option ((Int×Bar) ⊕ (Bar×Bool))
| x28=>
 ifb x28 (
 Option.map Sum.inr (some (x20,false))) (
 ifb (decide (x26=0)) (
 (Ztk p2 x19) x27) (
 (Ztk p2 x19) x20))
noncomputable def Zvk (p2:(Bar→Option Bool)) (x19:Int) (x20:Bar):(Int×Bar)→Option ((Int×Bar) ⊕ (Bar×Bool))
| (x26,x27)=>
 ifb (!decide (x26=0)) (
 ifb (!decide (x26=152)) (
 ifb (!decide (x26=151)) (
 ifb (!decide (x26=162)) (
 (Zuk p2 x19 x20 x26 x27) (!decide (x26=161))) (
 (Zuk p2 x19 x20 x26 x27) false)) (
 (Zuk p2 x19 x20 x26 x27) false)) (
 (Zuk p2 x19 x20 x26 x27) false)) (
 (Zuk p2 x19 x20 x26 x27) false)
noncomputable def Zwk (x2:(List narthexlaw16_Act)) (p2:(Bar→Option Bool)):(Int×Bar)→Option ((Int×Bar) ⊕ (Bar×Bool))
| (x19,x20)=>
 ifb (decide (x19<(ln narthexlaw16_Act.row x2))) (
 (at_ x2 x19).bind fun x21=>
 (Zxi x20).bind fun x22=>
 (Zpi x22 x21).bind fun x24=>
 (Zvk p2 x19 x20) (x24.2,x24.1)) (
 Option.map Sum.inr (Zsk x20))
noncomputable def Zxk (x2:(List narthexlaw16_Act)) (p2:(Bar→Option Bool)) (x4:(Bar×Int)):Bool→Option (Bar×Bool)
| x6=>
 ifb x6 (
 some (x4.1,false)) (
 loop (Zwk x2 p2) (0,x4.1))
noncomputable def Zyk (x1:Graph) (x2:(List narthexlaw16_Act)) (p2:(Bar→Option Bool)):Option (Bar×Bool):=
 (Zk7 x1).bind fun x3=>
 (Zkj x3).bind fun x4=>
 ifb (!decide (x4.2=0)) (
 (Zxk x2 p2 x4) true) (
 (p2 x4.1).bind fun x5=>
 (Zxk x2 p2 x4) (!x5))
theorem Zzk (x1:Graph) (x2:(List narthexlaw16_Act)) (g2:Nat) (caps2:List AV) (p2:(Bar→Option Bool)) (hc2:CloOK Tryz.prog g2 caps2 (fun z=>[.agg (Bar.row z)]) p2 (fun z=>.bv z)) (r:(Bar×Bool)) (h:Zyk x1 x2 p2=some r):Zs2 Tryz.prog 29 [.agg (Graph.row x1),.sl 4 (List.map narthexlaw16_Act.row x2),.clo g2 caps2] (.tup [.agg (Bar.row r.1),.bv r.2]):=by
 refine Zw2 ok29 rfl rfl fun w0 H0=>?_
 rw [Zyk] at h
 refine Zn2 9 ?_;dsimp only [go_sem];refine An ?_;obtain ⟨x3,ex3,h⟩:=Bs h;refine Z13 trivial (Zl7 x1 _ ex3) (hp:=(by first | rfl | simp [go_sem,hc2.pu])) (h:=?_);obtain ⟨x4,ex4,h⟩:=Bs h;refine Z13 trivial (k_bar_New x3 _ ex4) (hp:=(by first | rfl | simp [go_sem,hc2.pu])) (h:=?_);refine Zn2 13 ?_;dsimp only [go_sem];refine An ?_
 refine Zg4 (fun (x6:Bool)=>(⟨(.any :: .sl 4 (List.map narthexlaw16_Act.row x2) :: .clo g2 caps2::an 3 (.ptr 1 0 :: .any :: .ptr 2 0::an 17 (.bv x6::an 45 []))),[none,some ⟨25,[.nl,.nl]⟩,some ⟨25,[.sl 5 (List.map Drinker.row x4.1.Drinkers),.sl 5 (List.map Mail.row x4.1.Mail)]⟩],[]⟩:St)) (Zxk x2 p2 x4) r ?_ fun J1=>?_
 ·intro x6 h;rw [Zxk] at h;(try dsimp only);refine Zi4 h rfl (fun _ h=>?_) fun _ h=>?_
  ·refine Zn2 6 ?_;dsimp only [go_sem];refine An ?_;exact Zq4 (res:=fun (r:(Bar×Bool))=>.tup [.agg (Bar.row r.1),.bv r.2]) ok29 h
  ·refine Zn2 6 ?_;dsimp only [go_sem];refine An ?_;refine Zg4 (fun (x36:Bar)=>(⟨(an 6 (.ptr 1 0 :: .any :: .ptr 2 0::an 63 [])),[none,some ⟨25,[.nl,.nl]⟩,some ⟨25,[.sl 5 (List.map Drinker.row x36.Drinkers),.sl 5 (List.map Mail.row x36.Mail)]⟩],[]⟩:St)) Zsk r ?_ fun J2=>?_
   ·intro x36 h;rw [Zsk] at h;(try dsimp only);refine Zn2 6 ?_;dsimp only [go_sem];refine An ?_;exact Zq4 (res:=fun (r:(Bar×Bool))=>.tup [.agg (Bar.row r.1),.bv r.2]) ok29 h
   ·refine Zn2 1 ?_;dsimp only [go_sem];refine An ?_;refine Zh4 h (fun ((x19,x20):(Int×Bar))=>(⟨(.any :: .sl 4 (List.map narthexlaw16_Act.row x2) :: .clo g2 caps2::an 3 (.ptr 1 0 :: .any :: .ptr 2 0 :: .any :: .iv x19::an 61 [])),[none,some ⟨25,[.nl,.nl]⟩,some ⟨25,[.sl 5 (List.map Drinker.row x20.Drinkers),.sl 5 (List.map Mail.row x20.Mail)]⟩],[]⟩:St)) (by simp [go_sem]) (by rintro ⟨x19,x20⟩;first | rfl | simp [go_sem,Z94 _ hc2.pu]) ?_;rintro n1 ⟨x19,x20⟩ y1 h hin1 hout1;rw [Zwk] at h;(try dsimp only);refine Zn2 8 ?_
    dsimp only [go_sem];refine An ?_;refine Zi4 h rfl (fun _ h=>?_) fun _ h=>?_
    ·refine Zn2 4 ?_;dsimp only [go_sem];refine An ?_;refine Zg4 (fun ((x26,x27):(Int×Bar))=>(⟨(.any :: .sl 4 (List.map narthexlaw16_Act.row x2) :: .clo g2 caps2::an 3 (.ptr 1 0 :: .any :: .ptr 2 0 :: .any :: .iv x19 :: .ptr 3 0 :: .iv x26::an 59 [])),[none,some ⟨25,[.nl,.nl]⟩,some ⟨25,[.sl 5 (List.map Drinker.row x20.Drinkers),.sl 5 (List.map Mail.row x20.Mail)]⟩,some ⟨25,[.sl 5 (List.map Drinker.row x27.Drinkers),.sl 5 (List.map Mail.row x27.Mail)]⟩],[]⟩:St)) (Zvk p2 x19 x20) y1 ?_ fun J3=>?_
     ·rintro ⟨x26,x27⟩ h;rw [Zvk] at h;(try dsimp only);refine Zn2 6 ?_;dsimp only [go_sem];refine An ?_
      refine Zg4 (fun (x28:Bool)=>(⟨(.any :: .sl 4 (List.map narthexlaw16_Act.row x2) :: .clo g2 caps2::an 3 (.ptr 1 0 :: .any :: .ptr 2 0 :: .any :: .iv x19 :: .ptr 3 0 :: .iv x26::an 48 (.bv x28::an 10 []))),[none,some ⟨25,[.nl,.nl]⟩,some ⟨25,[.sl 5 (List.map Drinker.row x20.Drinkers),.sl 5 (List.map Mail.row x20.Mail)]⟩,some ⟨25,[.sl 5 (List.map Drinker.row x27.Drinkers),.sl 5 (List.map Mail.row x27.Mail)]⟩],[]⟩:St)) (Zuk p2 x19 x20 x26 x27) y1 ?_ fun J4=>?_
      ·intro x28 h;rw [Zuk] at h;(try dsimp only);refine Zi4 h rfl (fun _ h=>?_) fun _ h=>?_
       ·refine Zn2 6 ?_;dsimp only [go_sem];refine An ?_;exact Zq4 (res:=fun (r:(Bar×Bool))=>.tup [.agg (Bar.row r.1),.bv r.2]) ok29 (Zf4 h hout1)
       ·refine Zn2 7 ?_;dsimp only [go_sem];refine An ?_;refine Zg4 (fun (x29:Bar)=>(⟨(.any :: .sl 4 (List.map narthexlaw16_Act.row x2) :: .clo g2 caps2::an 3 (.ptr 1 0 :: .any :: .ptr 2 0 :: .any :: .iv x19::an 61 [])),[none,some ⟨25,[.nl,.nl]⟩,some ⟨25,[.sl 5 (List.map Drinker.row x29.Drinkers),.sl 5 (List.map Mail.row x29.Mail)]⟩],[]⟩:St)) (Ztk p2 x19) y1 ?_ fun J5=>?_
        ·intro x29 h;rw [Ztk] at h;(try dsimp only);refine Zn2 4 ?_;dsimp only [go_sem];refine An ?_;obtain ⟨x30,ex30,h⟩:=Bs h;refine Zv4 trivial rfl hc2 (x:=x29) ex30 (by first | exact Za4 _ | simp [go_sem]) (by first | rfl | simp [go_sem,hc2.pu]) ?_;refine Zn2 2 ?_;dsimp only [go_sem];refine An ?_;refine Zi4 h rfl (fun _ h=>?_) fun _ h=>?_
         ·refine Zn2 6 ?_;dsimp only [go_sem];refine An ?_;exact Zq4 (res:=fun (r:(Bar×Bool))=>.tup [.agg (Bar.row r.1),.bv r.2]) ok29 (Zf4 h hout1)
         ·refine Zn2 7 ?_;dsimp only [go_sem];refine An ?_;exact Zr4 h hin1 (hok:=by first | rfl | simp [go_sem,Z94 _ hc2.pu])
        ·refine Zi4 h rfl (fun _ h=>?_) fun _ h=>?_
         ·refine Zn2 4 ?_;dsimp only [go_sem];refine An ?_;exact Zs4 J5 (s:=x27) h (hok:=by first | rfl | simp [go_sem,Z94 _ hc2.pu])
         ·refine Zn2 1 ?_;dsimp only [go_sem];refine An ?_;exact Zs4 J5 (s:=x20) h (hok:=by first | rfl | simp [go_sem,Z94 _ hc2.pu])
      ·refine Zp4 46 h rfl (fun _ h=>?_) fun _ h=>?_
       ·dsimp only [go_sem];refine Zn2 4 ?_;dsimp only [go_sem];refine An ?_;refine Zp4 50 h rfl (fun _ h=>?_) fun _ h=>?_
        ·dsimp only [go_sem];refine Zn2 4 ?_;dsimp only [go_sem];refine An ?_;refine Zp4 54 h rfl (fun _ h=>?_) fun _ h=>?_
         ·dsimp only [go_sem];refine Zn2 4 ?_;dsimp only [go_sem];refine An ?_;refine Zp4 58 h rfl (fun _ h=>?_) fun _ h=>?_
          ·dsimp only [go_sem];refine Zn2 4 ?_;dsimp only [go_sem];refine An ?_;exact Zs4 J4 (s:=!decide (x26=161)) h (hok:=by first | rfl | simp [go_sem,Z94 _ hc2.pu])
          ·dsimp only [go_sem];refine Zn2 4 ?_;dsimp only [go_sem];refine An ?_;exact Zs4 J4 (s:=false) h (hok:=by first | rfl | simp [go_sem,Z94 _ hc2.pu])
         ·dsimp only [go_sem];refine Zn2 8 ?_;dsimp only [go_sem];refine An ?_;exact Zs4 J4 (s:=false) h (hok:=by first | rfl | simp [go_sem,Z94 _ hc2.pu])
        ·dsimp only [go_sem];refine Zn2 12 ?_;dsimp only [go_sem];refine An ?_;exact Zs4 J4 (s:=false) h (hok:=by first | rfl | simp [go_sem,Z94 _ hc2.pu])
       ·dsimp only [go_sem];refine Zn2 16 ?_;dsimp only [go_sem];refine An ?_;exact Zs4 J4 (s:=false) h (hok:=by first | rfl | simp [go_sem,Z94 _ hc2.pu])
     ·refine Zi3 (by kernel_rfl) fun all hall hs hnap haf=>?_;dsimp only [go_sem];refine Z65 hall hs haf hnap 3 10 ?_;dsimp only [go_sem];refine An ?_;obtain ⟨x21,ex21,h⟩:=Bs h;refine Zm4 hall hs haf hnap 4 narthexlaw16_Act.row ex21 rfl rfl trivial rfl rfl rfl rfl ?_;refine Z65 hall hs haf hnap 1 8 ?_;dsimp only [go_sem];refine An ?_;obtain ⟨x22,ex22,h⟩:=Bs h;refine Zu3 1 10 rfl ?_ ?_
      ·refine Zz3 hall rfl trivial (Zyi x20 _ ex22) (hp:=(by first | rfl | simp [go_sem,hc2.pu])) (h:=?_);dsimp only [go_sem];obtain ⟨x24,ex24,h⟩:=Bs h;refine Zu3 6 10 rfl ?_ ?_
       ·refine Zz3 hall rfl trivial (Zqi x22 x21 _ ex24) (hp:=(by first | rfl | simp [go_sem,hc2.pu])) (h:=?_);dsimp only [go_sem];refine Z65 hall hs haf hnap 3 3 ?_;dsimp only [go_sem];refine An ?_;refine Zt3 10 rfl ?_;refine Zy3 hall rfl trivial ?_;dsimp only [go_sem];refine Zt3 11 rfl ?_;refine Zy3 hall rfl trivial ?_;dsimp only [go_sem];refine Z65 hall hs haf hnap 1 0 ?_;dsimp only [go_sem];refine An ?_;refine Zs3 rfl ?_ _;exact Zs4 J3 (s:=(x24.2,x24.1)) h (hok:=by first | rfl | simp [go_sem,Z94 _ hc2.pu])
       ·refine Zy3 hall rfl trivial ?_;dsimp only [go_sem];refine Zt3 6 rfl ?_;refine Zz3 hall rfl trivial (Zqi x22 x21 _ ex24) (hp:=(by first | rfl | simp [go_sem,hc2.pu])) (h:=?_);dsimp only [go_sem];refine Z65 hall hs haf hnap 3 2 ?_;dsimp only [go_sem];refine An ?_;refine Zt3 11 rfl ?_;refine Zy3 hall rfl trivial ?_;dsimp only [go_sem];refine Z65 hall hs haf hnap 1 0 ?_;dsimp only [go_sem];refine An ?_;refine Zs3 rfl ?_ _;exact Zs4 J3 (s:=(x24.2,x24.1)) h (hok:=by first | rfl | simp [go_sem,Z94 _ hc2.pu])
      ·refine Zy3 hall rfl trivial ?_;dsimp only [go_sem];refine Zt3 1 rfl ?_;refine Zz3 hall rfl trivial (Zyi x20 _ ex22) (hp:=(by first | rfl | simp [go_sem,hc2.pu])) (h:=?_);dsimp only [go_sem];refine Zt3 6 rfl ?_;obtain ⟨x24,ex24,h⟩:=Bs h;refine Zz3 hall rfl trivial (Zqi x22 x21 _ ex24) (hp:=(by first | rfl | simp [go_sem,hc2.pu])) (h:=?_);dsimp only [go_sem];refine Z65 hall hs haf hnap 3 2 ?_;dsimp only [go_sem];refine An ?_;refine Zt3 11 rfl ?_;refine Zy3 hall rfl trivial ?_;dsimp only [go_sem]
       refine Z65 hall hs haf hnap 1 0 ?_;dsimp only [go_sem];refine An ?_;refine Zs3 rfl ?_ _;exact Zs4 J3 (s:=(x24.2,x24.1)) h (hok:=by first | rfl | simp [go_sem,Z94 _ hc2.pu])
    ·refine Zn2 1 ?_;dsimp only [go_sem];refine An ?_;exact Zs4 J2 (s:=x20) (Zf4 h hout1) (hok:=by first | rfl | simp [go_sem,Z94 _ hc2.pu])
 ·refine Zp4 21 h rfl (fun _ h=>?_) fun _ h=>?_
  ·dsimp only [go_sem];refine Zn2 6 ?_;dsimp only [go_sem];refine An ?_;exact Zs4 J1 (s:=true) h (hok:=by first | rfl | simp [go_sem,Z94 _ hc2.pu])
  ·dsimp only [go_sem];refine Zn2 2 ?_;dsimp only [go_sem];refine An ?_;obtain ⟨x5,ex5,h⟩:=Bs h;refine Zv4 trivial rfl hc2 (x:=x4.1) ex5 (by first | exact Za4 _ | simp [go_sem]) (by first | rfl | simp [go_sem,hc2.pu]) ?_;refine Zn2 3 ?_;dsimp only [go_sem];refine An ?_;exact Zs4 J1 (s:=!x5) h (hok:=by first | rfl | simp [go_sem,Z94 _ hc2.pu])
set_option maxRecDepth 100000
set_option maxHeartbeats 4000000
@[go_sem] def e28_L0:EC:=.seq (.seq (.reg [(Qm 6 5),(Qm 7 1),(Qa 8 (.len (.t 7))),(Qa 9 (.bin .lss (.t 6) (.t 8))),(Qm 10 9),(Qg 11 10 true (.mv (.t 5))),(Qg 12 10 true (.bin .lss (.t 11) (.c (.iv 81)))),(Qp 13 10 12)]) (.ite (.t 13) (.skip) (.exit 0))) (.seq (.blk 1 (.seq (.reg [(Qm 16 1),(Qm 17 5),(Qk 18 4 16 17),(Qf 19 3 18),(Ql 20 19),(Qa 21 (.len (.t 20))),(Qa 22 (.bin .gtr (.t 21) (.c (.iv 20))))]) (.ite (.t 22) (.seq (.reg [(Qa 4 (.mv (.c .ff)))]) (.ret)) (.skip)))) (.reg [(Qm 14 5),(Qv 15 14 1),(Qm 5 15)]))
@[go_sem] def e28:EC:=.seq (.reg [(Qx 2 53 2 0),(Qa 4 (.mv (.c .ff)))]) (.seq (.seq (.reg [(Qi 5 0)]) (.blk 0 (.loop e28_L0))) (.seq (.reg [(Qe 23 2 2),(Qa 24 (.call 73 [(.t 23)])),(Qm 25 24),(Qg 26 25 true (.mv (.t 1))),(Qg 27 25 true (.len (.t 26))),(Qg 28 25 true (.bin .leq (.t 27) (.c (.iv 80)))),(Qp 29 25 28),(Qm 4 29)]) (.ret)))
theorem ok28:FnOK Tryz.prog 28 Tryz.f28 e28 [.t 4] 2 28:=⟨by kernel_rfl,⟨_,rfl,by kernel_rfl⟩,by kernel_rfl,by kernel_rfl⟩
noncomputable def Z0l:Bool→Option Bool
| x14=>
 some x14
noncomputable def Z1l (x1:Graph) (x2:(List narthexlaw16_Act)):Unit→Option Bool
| ()=>
 (Zhh x1).bind fun x13=>
 ifb x13 (
 Z0l (decide ((ln narthexlaw16_Act.row x2)≤80))) (
 Z0l false)
noncomputable def Z2l (x1:Graph) (x2:(List narthexlaw16_Act)) (x6:Int):Bool→Option (Int ⊕ Bool)
| x7=>
 ifb x7 (
 (at_ x2 x6).bind fun x8=>
 ifb (decide (20<(ln Zw4 x8.Need))) (
 Option.map Sum.inr (some false)) (
 some (.inl (wr (x6+1))))) (
 Option.map Sum.inr ((Z1l x1 x2) ()))
noncomputable def Z3l (x1:Graph) (x2:(List narthexlaw16_Act)):Int→Option (Int ⊕ Bool)
| x6=>
 ifb (decide (x6<(ln narthexlaw16_Act.row x2))) (
 (Z2l x1 x2 x6) (decide (x6<81))) (
 (Z2l x1 x2 x6) false)
noncomputable def Z4l (x1:Graph) (x2:(List narthexlaw16_Act)):Option Bool:=
 loop (Z3l x1 x2) 0
theorem Z5l (x1:Graph) (x2:(List narthexlaw16_Act)) (r:Bool) (h:Z4l x1 x2=some r):Zs2 Tryz.prog 28 [.agg (Graph.row x1),.sl 4 (List.map narthexlaw16_Act.row x2)] (.bv r):=by
 refine Zw2 ok28 rfl rfl fun w0 H0=>?_
 rw [Z4l] at h
 refine Zn2 10 ?_;dsimp only [go_sem];refine An ?_;refine Zg4 (fun (_:Unit)=>(⟨(.any :: .sl 4 (List.map narthexlaw16_Act.row x2) :: .ptr 0 0::an 27 []),[some ⟨53,[.iv x1.N,.sl 2 (List.map Edge.row x1.Edges)]⟩],[]⟩:St)) (Z1l x1 x2) r ?_ fun J1=>?_
 ·rintro ⟨⟩ h;rw [Z1l] at h;(try dsimp only);refine Zn2 3 ?_;dsimp only [go_sem];refine An ?_;obtain ⟨x13,ex13,h⟩:=Bs h;refine Z13 trivial (Zih x1 _ ex13) (h:=?_);refine Zn2 1 ?_;dsimp only [go_sem];refine An ?_;refine Zg4 (fun (x14:Bool)=>(⟨(an 4 (.bv x14::an 25 [])),[],[]⟩:St)) Z0l r ?_ fun J3=>?_
  ·intro x14 h;rw [Z0l] at h;(try dsimp only);exact Zq4 (res:=fun (r:Bool)=>.bv r) ok28 h
  ·refine Zp4 25 h rfl (fun _ h=>?_) fun _ h=>?_
   ·dsimp only [go_sem];refine Zn2 6 ?_;dsimp only [go_sem];refine An ?_;exact Zs4 J3 (s:=decide ((ln narthexlaw16_Act.row x2)≤80)) h
   ·dsimp only [go_sem];refine Zn2 6 ?_;dsimp only [go_sem];refine An ?_;exact Zs4 J3 (s:=false) h
 ·refine Zn2 1 ?_;dsimp only [go_sem];refine An ?_;refine Zh4 h (fun (x6:Int)=>(⟨(.any :: .sl 4 (List.map narthexlaw16_Act.row x2) :: .ptr 0 0 :: .any :: .any :: .iv x6::an 24 []),[some ⟨53,[.iv x1.N,.sl 2 (List.map Edge.row x1.Edges)]⟩],[]⟩:St)) (by simp [go_sem]) (by intro x6;first | rfl | simp [go_sem]) ?_;rintro n1 x6 y1 h hin1 hout1;rw [Z3l] at h;(try dsimp only);refine Zn2 8 ?_;dsimp only [go_sem];refine An ?_
  refine Zg4 (fun (x7:Bool)=>(⟨(.any :: .sl 4 (List.map narthexlaw16_Act.row x2) :: .ptr 0 0 :: .any :: .any :: .iv x6::an 7 (.bv x7::an 16 [])),[some ⟨53,[.iv x1.N,.sl 2 (List.map Edge.row x1.Edges)]⟩],[]⟩:St)) (Z2l x1 x2 x6) y1 ?_ fun J2=>?_
  ·intro x7 h;rw [Z2l] at h;(try dsimp only);refine Zi4 h rfl (fun _ h=>?_) fun _ h=>?_
   ·refine Zn2 7 ?_;dsimp only [go_sem];refine An ?_;obtain ⟨x8,ex8,h⟩:=Bs h;refine Zl4 narthexlaw16_Act.row ex8 trivial rfl rfl rfl ?_;refine Zn2 5 ?_;dsimp only [go_sem];refine An ?_;refine Zi4 h rfl (fun _ h=>?_) fun _ h=>?_
    ·refine Zn2 4 ?_;dsimp only [go_sem];refine An ?_;exact Zq4 (res:=fun (r:Bool)=>.bv r) ok28 (Zf4 h hout1)
    ·refine Zn2 7 ?_;dsimp only [go_sem];refine An ?_;exact Zr4 h hin1
   ·refine Zn2 1 ?_;dsimp only [go_sem];refine An ?_;exact Zs4 J1 (s:=()) (Zf4 h hout1)
  ·refine Zp4 10 h rfl (fun _ h=>?_) fun _ h=>?_
   ·dsimp only [go_sem];refine Zn2 4 ?_;dsimp only [go_sem];refine An ?_;exact Zs4 J2 (s:=decide (x6<81)) h
   ·dsimp only [go_sem];refine Zn2 4 ?_;dsimp only [go_sem];refine An ?_;exact Zs4 J2 (s:=false) h
end NX
end Go.Proofs.YtacfbmldajmjiaaGreat
