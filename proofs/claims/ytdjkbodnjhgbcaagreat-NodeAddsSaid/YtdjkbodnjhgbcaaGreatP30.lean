/-
  The function narthex/narthexlaw18.awake: its code compiled, a model, and that the code answers as the model. Written by a program of ours (lb.py). No statement of the seat is proved here.
-/
import Derived.Test.YtdjkbodnjhgbcaaGreatP28
import Derived.Test.YtdjkbodnjhgbcaaGreatP29
set_option maxRecDepth 100000
set_option maxHeartbeats 4000000
namespace Go.Proofs.YtdjkbodnjhgbcaaGreat
namespace NX
open Go
@[go_sem] def e9:EC:=.seq (.reg [Qa 0 (.mv (.c .ff))]) (.seq (.reg [Qa 20 (.build [.iv 0,.iv 0,.nl] [(0,1,.c (.iv 1))]),Qa 21 (.build [.iv 0,.iv 0,.nl,.iv 0,.nl] [(0,3,.t 20)]),Qa 22 (.call 24 [.t 21]),Qm 19 22,Qa 23 (.ext (.t 19) 0),Qa 24 (.ext (.t 19) 1),Qa 1 (.alloc 35 [.iv 0,.iv 0,.nl,.iv 0,.nl,.iv 0,.nl,.nl,.nl,.nl]),Qs 10 1 23,Qm 2 24]) (.seq (.reg [Qe 26 10 1,Qa 27 (.build [.iv 0,.iv 0,.iv 0,.iv 0,.nl] [(0,1,.c (.iv 0)),(1,1,.c (.iv 4))]),Qa 28 (.call 11 [.t 26,.t 27]),Qm 25 28,Qa 29 (.ext (.t 25) 0),Qa 30 (.ext (.t 25) 1),Qa 31 (.ext (.t 25) 2),Qa 32 (.ext (.t 25) 3),Qa 3 (.alloc 35 [.iv 0,.iv 0,.nl,.iv 0,.nl,.iv 0,.nl,.nl,.nl,.nl]),Qs 10 3 29,Qm 4 30,Qm 5 31,Qm 6 32]) (.seq (.reg [Qe 34 10 3,Qa 35 (.build [.iv 0,.iv 0,.iv 0,.iv 0,.nl] [(0,1,.c (.iv 4)),(2,1,.c (.iv 2))]),Qa 36 (.call 11 [.t 34,.t 35]),Qm 33 36,Qa 37 (.ext (.t 33) 0),Qa 38 (.ext (.t 33) 1),Qa 39 (.ext (.t 33) 2),Qa 40 (.ext (.t 33) 3),Qa 7 (.alloc 35 [.iv 0,.iv 0,.nl,.iv 0,.nl,.iv 0,.nl,.nl,.nl,.nl]),Qs 10 7 37,Qm 8 38,Qm 9 39,Qm 10 40]) (.seq (.reg [Qe 42 10 7,Qa 43 (.build [.iv 0,.iv 0,.iv 0] [(0,1,.c (.iv 6)),(1,1,.c (.iv 1))]),Qa 44 (.call 13 [.t 42,.c (.iv 2),.t 43]),Qm 41 44,Qa 45 (.ext (.t 41) 0),Qa 46 (.ext (.t 41) 1),Qa 47 (.ext (.t 41) 2),Qa 48 (.ext (.t 41) 3),Qa 11 (.alloc 35 [.iv 0,.iv 0,.nl,.iv 0,.nl,.iv 0,.nl,.nl,.nl,.nl]),Qs 10 11 45,Qm 12 46,Qm 13 47,Qm 14 48]) (.seq (.reg [Qe 50 10 11,Qa 51 (.build [.iv 0,.iv 0,.iv 0,.iv 0,.nl] [(0,1,.c (.iv 4)),(2,1,.c (.iv 2))]),Qa 52 (.call 11 [.t 50,.t 51]),Qm 49 52,Qa 53 (.ext (.t 49) 0),Qa 54 (.ext (.t 49) 1),Qa 55 (.ext (.t 49) 2),Qa 56 (.ext (.t 49) 3),Qa 15 (.alloc 35 [.iv 0,.iv 0,.nl,.iv 0,.nl,.iv 0,.nl,.nl,.nl,.nl]),Qs 10 15 53,Qm 16 54,Qm 17 55,Qm 18 56]) (.seq (.reg [Qm 57 2,Qa 58 (.bin .eql (.t 57) (.c (.iv 0))),Qm 59 58,Qg 60 59 true (.mv (.t 6)),Qg 61 59 true (.bin .eql (.t 60) (.c (.iv 0))),Qp 62 59 61,Qm 63 62,Qg 64 63 true (.mv (.t 4)),Qg 65 63 true (.len (.t 64)),Qg 66 63 true (.bin .eql (.t 65) (.c (.iv 0))),Qp 67 63 66,Qm 68 67,Qg 69 68 true (.mv (.t 5)),Qg 70 68 true (.len (.t 69)),Qg 71 68 true (.bin .eql (.t 70) (.c (.iv 2))),Qp 72 68 71,Qm 73 72,Qg 74 73 true (.mv (.t 5)),Qg 75 73 true (.idx 5 (.t 74) (.c (.iv 1))),Qh 76 73 true 0 75,Qn 77 73 true 76,Qg 78 73 true (.bin .eql (.t 77) (.c (.iv 1))),Qp 79 73 78,Qm 80 79,Qg 81 80 true (.mv (.t 5)),Qg 82 80 true (.idx 5 (.t 81) (.c (.iv 1))),Qh 83 80 true 2 82,Qn 84 80 true 83,Qg 85 80 true (.bin .eql (.t 84) (.c (.iv 4))),Qp 86 80 85,Qm 87 86,Qg 88 87 true (.mv (.t 10)),Qg 89 87 true (.bin .eql (.t 88) (.c (.iv 0))),Qp 90 87 89,Qm 91 90,Qg 92 91 true (.mv (.t 8)),Qg 93 91 true (.len (.t 92)),Qg 94 91 true (.bin .eql (.t 93) (.c (.iv 1))),Qp 95 91 94,Qm 96 95,Qg 97 96 true (.mv (.t 8)),Qg 98 96 true (.idx 5 (.t 97) (.c (.iv 0))),Qg 99 96 true (.loadA 5 (.t 98)),Qg 100 96 true (.build [.iv 0,.iv 0,.iv 0] [(0,1,.c (.iv 5)),(1,1,.c (.iv 1))]),Qg 101 96 true (.build [.iv 0,.iv 0,.iv 0,.iv 0,.iv 0] [(0,1,.c (.iv 1)),(1,1,.c (.iv 2)),(2,3,.t 100)]),Qg 102 96 true (.eqs false [true,true,true,true,true] (.t 99) (.t 101)),Qp 103 96 102,Qm 104 103,Qg 105 104 true (.mv (.t 14)),Qg 106 104 true (.bin .eql (.t 105) (.c (.iv 0))),Qp 107 104 106,Qm 108 107,Qg 109 108 true (.mv (.t 12)),Qg 110 108 true (.len (.t 109)),Qg 111 108 true (.bin .eql (.t 110) (.c (.iv 0))),Qp 112 108 111,Qm 113 112,Qg 114 113 true (.mv (.t 13)),Qg 115 113 true (.len (.t 114)),Qg 116 113 true (.bin .eql (.t 115) (.c (.iv 1))),Qp 117 113 116,Qm 118 117,Qg 119 118 true (.mv (.t 13)),Qg 120 118 true (.idx 5 (.t 119) (.c (.iv 0))),Qh 121 118 true 0 120,Qn 122 118 true 121,Qg 123 118 true (.bin .eql (.t 122) (.c (.iv 6))),Qp 124 118 123,Qm 125 124,Qg 126 125 true (.mv (.t 18)),Qg 127 125 true (.bin .eql (.t 126) (.c (.iv 183))),Qp 128 125 127,Qm 129 128,Qg 130 129 true (.loadA 10 (.t 11)),Qg 131 129 true (.call 21 [.t 130]),Qg 132 129 true (.bsl 3 1 1 [.iv 0] [(0,.c (.iv 2))]),Qg 133 129 true (.call 25 [.t 131,.t 132]),Qp 134 129 133,Qm 135 134,Qg 136 135 true (.loadA 10 (.t 11)),Qg 137 135 true (.call 14 [.t 136]),Qg 138 135 true (.bin .eql (.t 137) (.c (.iv 0))),Qp 139 135 138,Qm 140 139,Qg 141 140 true (.loadA 10 (.t 11)),Qg 142 140 true (.loadA 10 (.t 11)),Qg 143 140 true (.call 26 [.t 141,.t 142]),Qp 144 140 143,Qm 145 144,Qg 146 145 true (.loadA 10 (.t 11)),Qg 147 145 true (.loadA 10 (.t 7)),Qg 148 145 true (.call 26 [.t 146,.t 147]),Qg 149 145 true (.not (.t 148)),Qp 150 145 149,Qm 151 150,Qg 152 151 true (.mv (.t 5)),Qg 153 151 true (.mv (.t 13)),Qg 154 151 true (.call 27 [.t 152,.t 153]),Qg 155 151 true (.not (.t 154)),Qp 156 151 155,Qm 0 156]) (.ret)))))))
theorem ok9:FnOK Tryz.prog 9 Tryz.f9 e9 [.t 0] 0 157:=okA
noncomputable def Zol:Bool→Option Bool
| x16=>
 some x16
noncomputable def Zpl:Option Bool:=
 (Z5l (DK.mk (DI.mk 1 0 (([]:List Side))) 0 (([]:List Int)))).bind fun x1=>
 (Zel x1.1 (Do.mk 0 4 0 0 (([]:List Int)))).bind fun x2=>
 (Zel x2.1 (Do.mk 4 0 2 0 (([]:List Int)))).bind fun x3=>
 (Znl x3.1 2 (Msg.mk 6 1 0)).bind fun x4=>
 (Zel x4.1 (Do.mk 4 0 2 0 (([]:List Int)))).bind fun x5=>
 ifb (decide (x1.2=0)) (
 ifb (decide (x2.2.2.2=0)) (
 ifb (decide ((ln Mail.row x2.2.1)=0)) (
 ifb (decide ((ln Event.row x2.2.2.1)=2)) (
 (at_ x2.2.2.1 1).bind fun x6=>
 ifb (decide (x6.Kind=1)) (
 (at_ x2.2.2.1 1).bind fun x7=>
 ifb (decide (x7.ID=4)) (
 ifb (decide (x3.2.2.2=0)) (
 ifb (decide ((ln Mail.row x3.2.1)=1)) (
 (at_ x3.2.1 0).bind fun x8=>
 ifb (decide (x8.From=1)&&(decide (x8.To=2)&&(decide (x8.Msg.Kind=5)&&(decide (x8.Msg.Epoch=1)&&(decide (x8.Msg.Num=0)&&true))))) (
 ifb (decide (x4.2.2.2=0)) (
 ifb (decide ((ln Mail.row x4.2.1)=0)) (
 ifb (decide ((ln Event.row x4.2.2.1)=1)) (
 (at_ x4.2.2.1 0).bind fun x9=>
 ifb (decide (x9.Kind=6)) (
 ifb (decide (x5.2.2.2=183)) (
 (Zjb x4.1).bind fun x10=>
 (Zu7 x10 ([2])).bind fun x11=>
 ifb x11 (
 (Zkk x4.1).bind fun x12=>
 ifb (decide (x12=0)) (
 (Zyf x4.1 x4.1).bind fun x13=>
 ifb x13 (
 (Zyf x4.1 x3.1).bind fun x14=>
 ifb (!x14) (
 (Zef x2.2.2.1 x4.2.2.1).bind fun x15=>
 Zol (!x15)) (
 Zol false)) (
 Zol false)) (
 Zol false)) (
 Zol false)) (
 Zol false)) (
 Zol false)) (
 Zol false)) (
 Zol false)) (
 Zol false)) (
 Zol false)) (
 Zol false)) (
 Zol false)) (
 Zol false)) (
 Zol false)) (
 Zol false)) (
 Zol false)) (
 Zol false)) (
 Zol false)
theorem k_narthexlaw18_awake (r:Bool) (h:Zpl=some r):Z03 Tryz.prog 9 [] (.bv r):=by
 refine FP ok9 fun w0 H0=>?_
 rw [Zpl] at h
 refine Vg 8 ?_;have ⟨x1,ex1,h⟩:=Bs h;refine VC (k_node_New (DK.mk (DI.mk 1 0 (([]:List Side))) 0 (([]:List Int))) _ ex1) (Vg 11 ?_);have ⟨x2,ex2,h⟩:=Bs h;refine VC (Zfl x1.1 (Do.mk 0 4 0 0 (([]:List Int))) _ ex2) (Vg 15 ?_);have ⟨x3,ex3,h⟩:=Bs h;refine VC (Zfl x2.1 (Do.mk 4 0 2 0 (([]:List Int))) _ ex3) (Zv2 15 ?_)
 dsimp only[go_sem];refine An ?_;have ⟨x4,ex4,h⟩:=Bs h;refine VC (k_node_Get x3.1 2 (Msg.mk 6 1 0) _ ex4) (Vg 15 ?_);have ⟨x5,ex5,h⟩:=Bs h;refine VC (Zfl x4.1 (Do.mk 4 0 2 0 (([]:List Int))) _ ex5) (Vg 16 ?_);refine Zo4 (fun (x16:Bool)=>⟨(.bv x16::an 156 []),[],[]⟩) Zol r ?_ fun J1=>?_
 ·intro x16 h;rw [Zol] at h;(try dsimp only);exact MD ok9 h
 ·refine MC 59 h (fun h=>?_) fun h=>?_
  ·refine Vg 4 ?_;refine MC 63 h (fun h=>?_) fun h=>?_
   ·refine Vg 5 ?_;refine MC 68 h (fun h=>?_) fun h=>?_
    ·refine Vg 5 ?_;refine MC 73 h (fun h=>?_) fun h=>?_
     ·refine Vg 1 ?_;have ⟨x6,ex6,h⟩:=Bs h;refine Zs4 Event.row ex6 trivial rfl rfl rfl (Vg 5 ?_);refine MC 80 h (fun h=>?_) fun h=>?_
      ·refine Vg 1 ?_;have ⟨x7,ex7,h⟩:=Bs h;refine Zs4 Event.row ex7 trivial rfl rfl rfl (Vg 5 ?_);refine MC 87 h (fun h=>?_) fun h=>?_
       ·refine Vg 4 ?_;refine MC 91 h (fun h=>?_) fun h=>?_
        ·refine Vg 5 ?_;refine MC 96 h (fun h=>?_) fun h=>?_
         ·refine Vg 1 ?_;have ⟨x8,ex8,h⟩:=Bs h;refine Zs4 Mail.row ex8 trivial rfl rfl rfl (Vg 6 ?_);refine MC 104 h (fun h=>?_) fun h=>?_
          ·refine Vg 4 ?_;refine MC 108 h (fun h=>?_) fun h=>?_
           ·refine Vg 5 ?_;refine MC 113 h (fun h=>?_) fun h=>?_
            ·refine Vg 5 ?_;refine MC 118 h (fun h=>?_) fun h=>?_
             ·refine Vg 1 ?_;have ⟨x9,ex9,h⟩:=Bs h;refine Zs4 Event.row ex9 trivial rfl rfl rfl (Vg 5 ?_);refine MC 125 h (fun h=>?_) fun h=>?_
              ·refine Vg 4 ?_;refine MC 129 h (fun h=>?_) fun h=>?_
               ·refine Vg 1 ?_;have ⟨x10,ex10,h⟩:=Bs h;refine VC (Zkb x4.1 _ ex10) (Vg 1 ?_);have ⟨x11,ex11,h⟩:=Bs h;refine VL (LR.slice 0 rfl) (Zv7 x10 ([2]) _ ex11) (Vg 2 ?_);refine MC 135 h (fun h=>?_) fun h=>?_
                ·refine Vg 1 ?_;have ⟨x12,ex12,h⟩:=Bs h;refine VC (Zlk x4.1 _ ex12) (Vg 3 ?_);refine MC 140 h (fun h=>?_) fun h=>?_
                 ·refine Vg 2 ?_;have ⟨x13,ex13,h⟩:=Bs h;refine VC (Zzf x4.1 x4.1 _ ex13) (Vg 2 ?_);refine MC 145 h (fun h=>?_) fun h=>?_
                  ·refine Vg 2 ?_;have ⟨x14,ex14,h⟩:=Bs h;refine VC (Zzf x4.1 x3.1 _ ex14) (Vg 3 ?_);refine MC 151 h (fun h=>?_) fun h=>?_
                   ·refine Vg 2 ?_;have ⟨x15,ex15,h⟩:=Bs h;refine VC (Zff x2.2.2.1 x4.2.2.1 _ ex15) (Vg 4 ?_);exact Zx4 J1 h
                   ·refine Vg 7 ?_;exact Zx4 J1 h
                  ·refine Vg 13 ?_;exact Zx4 J1 h
                 ·refine Vg 18 ?_;exact Zx4 J1 h
                ·refine Vg 23 ?_;exact Zx4 J1 h
               ·refine Vg 29 ?_;exact Zx4 J1 h
              ·refine Vg 33 ?_;exact Zx4 J1 h
             ·refine Vg 40 ?_;exact Zx4 J1 h
            ·refine Vg 45 ?_;exact Zx4 J1 h
           ·refine Vg 50 ?_;exact Zx4 J1 h
          ·refine Vg 54 ?_;exact Zx4 J1 h
         ·refine Vg 62 ?_;exact Zx4 J1 h
        ·refine Vg 67 ?_;exact Zx4 J1 h
       ·refine Vg 71 ?_;exact Zx4 J1 h
      ·refine Vg 78 ?_;exact Zx4 J1 h
     ·refine Vg 85 ?_;exact Zx4 J1 h
    ·refine Vg 90 ?_;exact Zx4 J1 h
   ·refine Vg 95 ?_;exact Zx4 J1 h
  ·refine Vg 99 ?_;exact Zx4 J1 h
end NX
end Go.Proofs.YtdjkbodnjhgbcaaGreat
