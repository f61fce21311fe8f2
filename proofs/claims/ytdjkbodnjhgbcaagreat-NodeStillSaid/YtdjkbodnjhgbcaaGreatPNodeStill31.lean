/-
  The function narthex/narthexref01.Has: its code compiled, a model, and that the code answers as the model. Written by a program of ours (lb.py). No statement of the seat is proved here.
-/
import Derived.Test.YtdjkbodnjhgbcaaGreatP30
set_option maxRecDepth 100000
set_option maxHeartbeats 4000000
namespace Go.Proofs.YtdjkbodnjhgbcaaGreat
namespace NX
open Go
noncomputable section
@[go_sem] def e109_L0:EC:=.seq (.seq (.reg [Qm 27 5,Qf 28 2 2,Ql 29 28,Qa 30 (.len (.t 29)),Qa 31 (.bin .lss (.t 27) (.t 30))]) (.ite (.t 31) (.skip) (.exit 0))) (.seq (.blk 1 (.seq (.drw [Qf 34 2 2,Ql 35 34,Qm 36 5,Qk 37 8 35 36,Qe 38 8 37,Qf 39 2 3,Ql 40 39,Qm 41 5,Qk 42 8 40 41,Qe 43 8 42,Qa 44 (.eqs true [true,true,true,false,false,false,false,false] (.t 38) (.t 43))] [[],[0],[],[1,2,0],[3,1,2,0],[],[5],[],[6,7,5],[8,6,7,5],[4,9,3,1,2,0,8,6,7,5]] [[1],[0,3],[3],[1,2,4],[3,10],[6],[5,8],[8],[6,7,9],[8,10],[4,9]]) (.ite (.t 44) (.seq (.reg [Qa 4 (.mv (.c .ff))]) (.ret)) (.skip)))) (.reg [Qm 32 5,Qv 33 32 1,Qm 5 33]))
@[go_sem] def e109:EC:=.seq (.reg [Qx 2 25 3 0,Qx 3 25 3 1,Qa 4 (.mv (.c .ff))]) (.seq (.seq (.reg [Qf 6 0 2,Ql 7 6,Qf 8 0 3,Ql 9 8,Qa 10 (.bin .neq (.t 7) (.t 9)),Qm 11 10,Qh 12 11 false 1 2,Qn 13 11 false 12,Qh 14 11 false 1 3,Qn 15 11 false 14,Qg 16 11 false (.bin .neq (.t 13) (.t 15)),Qq 17 11 16,Qm 18 17,Qh 19 18 false 2 2,Qn 20 18 false 19,Qg 21 18 false (.len (.t 20)),Qh 22 18 false 2 3,Qn 23 18 false 22,Qg 24 18 false (.len (.t 23)),Qg 25 18 false (.bin .neq (.t 21) (.t 24)),Qq 26 18 25]) (.ite (.t 26) (.seq (.reg [Qa 4 (.mv (.c .ff))]) (.ret)) (.skip))) (.seq (.seq (.reg [Qi 5 0]) (.blk 0 (.loop e109_L0))) (.seq (.reg [Qa 4 (.mv (.c .tt))]) (.ret))))
theorem ok109:FnOK Tryz.prog 109 Tryz.f109 e109 [.t 4] 2 43:=okA
def Zul:Unit→Option Bool
| ()=>
 some true
def Zvl (x1 x2:DI):Int→Option (Int ⊕ Bool)
| x7=>
 ifb (decide (x7<(ln Side.row x1.SD))) (
 (at_ x1.SD x7).bind fun x8=>
 (at_ x2.SD x7).bind fun x9=>
 ifb (!(decide (x8.Peer=x9.Peer)&&(decide (x8.Epoch=x9.Epoch)&&(decide (x8.State=x9.State)&&((x8.Fork==x9.Fork)&&((x8.DY==x9.DY)&&((x8.Token==x9.Token)&&((x8.BO==x9.BO)&&((x8.Ask==x9.Ask)&&true))))))))) (
 Option.map Sum.inr (some false)) (
 some (.inl (wr (x7+1))))) (
 Option.map Sum.inr (Zul ()))
def Zwl (x1 x2:DI):Bool→Option Bool
| x3=>
 ifb x3 (
 some false) (
 loop (Zvl x1 x2) 0)
def Zxl (x1 x2:DI):Option Bool:=
 ifb (!decide (x1.ID=x2.ID)) (
 (Zwl x1 x2) true) (
 ifb (!decide (x1.PH=x2.PH)) (
 (Zwl x1 x2) true) (
 (Zwl x1 x2) (!decide ((ln Side.row x1.SD)=(ln Side.row x2.SD)))))
theorem Zyl (x1 x2:DI) (r:Bool) (h:Zxl x1 x2=some r):Z03 Tryz.prog 109 [.agg (DI.row x1),.agg (DI.row x2)] (.bv r):=by
 refine FP ok109 fun w0 H0=>?_
 rw [Zxl] at h
 refine Vg 15 ?_;refine Zo4 (fun (x3:Bool)=>⟨(.any :: .any :: .ptr 0 0 :: .ptr 1 0::an 22 (.bv x3::an 18 [])),[some ⟨25,DI.row x1⟩,some ⟨25,DI.row x2⟩],[]⟩) (Zwl x1 x2) r ?_ fun J1=>?_
 ·intro x3 h;rw [Zwl] at h;(try dsimp only);refine MI h (fun h=>?_) fun h=>?_
  ·refine Vg 4 ?_;exact MD ok109 h
  ·refine Vg 6 ?_;refine Zo4 (fun (_:Unit)=>⟨an 45 [],[],[]⟩) Zul r ?_ fun J2=>?_
   ·rintro ⟨⟩ h;rw [Zul] at h;(try dsimp only);refine Vg 4 ?_;exact MD ok109 h
   ·refine Vg 1 ?_;refine Zp4 h (fun (x7:Int)=>⟨(.any :: .any :: .ptr 0 0 :: .ptr 1 0 :: .any :: .iv x7::an 39 []),[some ⟨25,DI.row x1⟩,some ⟨25,DI.row x2⟩],[]⟩) (by simp [go_sem]) (by intro x7;first | rfl | simp [go_sem]) ?_;rintro n1 x7 y1 h hin1 hout1;rw [Zvl] at h;(try dsimp only);refine Vg 9 ?_;refine MI h (fun h=>?_) fun h=>?_
    ·refine Vg 4 ?_;refine Zz6 fun all H=>?_;dsimp only[go_sem];refine GP H 6 5 [3,2,3,3] [(34,[.ptr 0 2,Sp2 x1.SD,.iv x7]),(2,[.ptr 1 2,Sp2 x2.SD,.iv x7])] ?_;dsimp only[go_sem];have ⟨x8,ex8,h⟩:=Bs h;refine Zt4 H.1 H.2.1 H.2.2.1 H.2.2.2 3 Side.row ex8 rfl rfl trivial rfl rfl rfl rfl (Gn H 1 3 ?_);have ⟨x9,ex9,h⟩:=Bs h
     refine Zt4 H.1 H.2.1 H.2.2.1 H.2.2.2 8 Side.row ex9 rfl rfl trivial rfl rfl rfl rfl (Gn H 2 0 ?_);refine GD (MI h (fun h=>?_) fun h=>?_)
     ·refine Vg 4 ?_;exact MD ok109 (Zn4 h hout1)
     ·refine Vg 7 ?_;exact Zw4 h hin1
    ·refine Vg 1 ?_;exact Zx4 J2 (Zn4 h hout1)
 ·refine MC 11 h (fun h=>?_) fun h=>?_
  ·refine Vg 16 ?_;exact Zx4 J1 h
  ·refine Vg 7 ?_;refine MC 18 h (fun h=>?_) fun h=>?_
   ·refine Vg 9 ?_;exact Zx4 J1 h
   ·refine Vg 9 ?_;exact Zx4 J1 h
@[go_sem] def e53:EC:=(by have h:=hF Tryz.f53;(conv at h=>rhs;reduce);dsimp only[go_sem] at h;exact ⟨_,h⟩:DP Tryz.f53).1
theorem ok53:FnOK Tryz.prog 53 Tryz.f53 e53 [.t 4] 2 22:=okA
def Z7m:Bool→Option Bool
| x5=>
 some x5
def Z8m (x1 x2:DK):Option Bool:=
 (Zxl x1.DI x2.DI).bind fun x3=>
 ifb x3 (
 ifb (decide (x1.TH=x2.TH)) (
 (Zu7 x1.Need x2.Need).bind fun x4=>
 Z7m x4) (
 Z7m false)) (
 Z7m false)
theorem Z9m (x1 x2:DK) (r:Bool) (h:Z8m x1 x2=some r):Z03 Tryz.prog 53 [.agg (DK.row x1),.agg (DK.row x2)] (.bv r):=by
 refine FP ok53 fun w0 H0=>?_
 rw [Z8m] at h
 refine Vg 12 ?_;have ⟨x3,ex3,h⟩:=Bs h;refine VC (Zyl x1.DI x2.DI _ ex3) (Vg 1 ?_);refine Zo4 (fun (x5:Bool)=>⟨an 4 (.bv x5::an 19 []),[],[]⟩) Z7m r ?_ fun J1=>?_
 ·intro x5 h;rw [Z7m] at h;(try dsimp only);exact MD ok53 h
 ·refine MC 10 h (fun h=>?_) fun h=>?_
  ·refine Vg 7 ?_;refine MC 17 h (fun h=>?_) fun h=>?_
   ·refine Vg 4 ?_;have ⟨x4,ex4,h⟩:=Bs h;refine VC (Zv7 x1.Need x2.Need _ ex4) (Vg 3 ?_);exact Zx4 J1 h
   ·refine Vg 8 ?_;exact Zx4 J1 h
  ·refine Vg 15 ?_;exact Zx4 J1 h
@[go_sem] def e54:EC:=(by have h:=hF Tryz.f54;(conv at h=>rhs;reduce);dsimp only[go_sem] at h;exact ⟨_,h⟩:DP Tryz.f54).1
theorem ok54:FnOK Tryz.prog 54 Tryz.f54 e54 [.t 4] 2 64:=okA
def Zam:Unit→Option Bool
| ()=>
 some true
def Zbm (x11:Int):Bool→Option (Int ⊕ Bool)
| x17=>
 ifb x17 (
 Option.map Sum.inr (some false)) (
 some (.inl (wr (x11+1))))
def Zcm (x11:Int):(Sess×Sess)→Option (Int ⊕ Bool)
| (x14,x15)=>
 ifb (!decide (x14.ID=x15.ID)) (
 (Zbm x11) true) (
 ifb (!decide (x14.State=x15.State)) (
 (Zbm x11) true) (
 ifb (!decide (x14.Age=x15.Age)) (
 (Zbm x11) true) (
 (Zu7 x14.Need x15.Need).bind fun x16=>
 (Zbm x11) (!x16))))
def Zdm (x1 x2:Book):Int→Option (Int ⊕ Bool)
| x11=>
 ifb (decide (x11<(ln Sess.row x1.Sess))) (
 (at_ x1.Sess x11).bind fun x12=>
 (at_ x2.Sess x11).bind fun x13=>
 (Zcm x11) (x12,x13)) (
 Option.map Sum.inr (Zam ()))
def Zem (x1 x2:Book):Bool→Option Bool
| x3=>
 ifb x3 (
 some false) (
 loop (Zdm x1 x2) 0)
def Zfm (x1 x2:Book):Option Bool:=
 ifb (!decide (x1.Last=x2.Last)) (
 (Zem x1 x2) true) (
 (Zem x1 x2) (!decide ((ln Sess.row x1.Sess)=(ln Sess.row x2.Sess))))
theorem Zgm (x1 x2:Book) (r:Bool) (h:Zfm x1 x2=some r):Z03 Tryz.prog 54 [.agg (Book.row x1),.agg (Book.row x2)] (.bv r):=by
 refine FP ok54 fun w0 H0=>?_
 rw [Zfm] at h
 refine Vg 15 ?_;refine Zo4 (fun (x3:Bool)=>⟨(.any :: .any :: .ptr 0 0 :: .ptr 1 0::an 17 (.bv x3::an 44 [])),[some ⟨32,Book.row x1⟩,some ⟨32,Book.row x2⟩],[]⟩) (Zem x1 x2) r ?_ fun J1=>?_
 ·intro x3 h;rw [Zem] at h;(try dsimp only);refine MI h (fun h=>?_) fun h=>?_
  ·refine Vg 4 ?_;exact MD ok54 h
  ·refine Vg 6 ?_;refine Zo4 (fun (_:Unit)=>⟨an 66 [],[],[]⟩) Zam r ?_ fun J2=>?_
   ·rintro ⟨⟩ h;rw [Zam] at h;(try dsimp only);refine Vg 4 ?_;exact MD ok54 h
   ·refine Vg 1 ?_;refine Zp4 h (fun (x11:Int)=>⟨(.any :: .any :: .ptr 0 0 :: .ptr 1 0 :: .any :: .iv x11::an 60 []),[some ⟨32,Book.row x1⟩,some ⟨32,Book.row x2⟩],[]⟩) (by simp [go_sem]) (by intro x11;first | rfl | simp [go_sem]) ?_;rintro n1 x11 y1 h hin1 hout1;rw [Zdm] at h;(try dsimp only);refine Vg 9 ?_;refine MI h (fun h=>?_) fun h=>?_
    ·refine Vg 4 ?_;refine Zo4 (fun ((x14,x15):(Sess×Sess))=>⟨(.any :: .any :: .ptr 0 0 :: .ptr 1 0 :: .any :: .iv x11 :: .ptr 2 0 :: .ptr 3 0::an 58 []),[some ⟨32,Book.row x1⟩,some ⟨32,Book.row x2⟩,some ⟨60,Sess.row x14⟩,some ⟨60,Sess.row x15⟩],[]⟩) (Zcm x11) y1 ?_ fun J3=>?_
     ·rintro ⟨x14,x15⟩ h;rw [Zcm] at h;(try dsimp only);refine Vg 8 ?_;refine Zo4 (fun (x17:Bool)=>⟨(.any :: .any :: .ptr 0 0 :: .ptr 1 0 :: .any :: .iv x11::an 59 [.bv x17]),[some ⟨32,Book.row x1⟩,some ⟨32,Book.row x2⟩],[]⟩) (Zbm x11) y1 ?_ fun J4=>?_
      ·intro x17 h;rw [Zbm] at h;(try dsimp only);refine MI h (fun h=>?_) fun h=>?_
       ·refine Vg 4 ?_;exact MD ok54 (Zn4 h hout1)
       ·refine Vg 7 ?_;exact Zw4 h hin1
      ·refine MC 44 h (fun h=>?_) fun h=>?_
       ·refine Vg 22 ?_;exact Zx4 J4 h
       ·refine Vg 7 ?_;refine MC 51 h (fun h=>?_) fun h=>?_
        ·refine Vg 15 ?_;exact Zx4 J4 h
        ·refine Vg 7 ?_;refine MC 58 h (fun h=>?_) fun h=>?_
         ·refine Vg 8 ?_;exact Zx4 J4 h
         ·refine Vg 4 ?_;have ⟨x16,ex16,h⟩:=Bs h;refine VC (Zv7 x14.Need x15.Need _ ex16) (Vg 3 ?_);exact Zx4 J4 h
     ·refine Zz6 fun all H=>?_;dsimp only[go_sem];refine GP H 5 9 [3,2,1,1,1,6] [(29,[.ptr 0 1,Sp3 x1.Sess,.iv x11]),(2,[.ptr 1 1]),(1,[.iv x11])] ?_;dsimp only[go_sem];have ⟨x12,ex12,h⟩:=Bs h;refine Zt4 H.1 H.2.1 H.2.2.1 H.2.2.2 3 Sess.row ex12 rfl rfl trivial rfl rfl rfl rfl (Gn H 1 7 ?_);refine Z84 6 10 11 rfl ?_ ?_ ?_
      ·refine GV H.1 ?_;dsimp only[go_sem];have ⟨x13,ex13,h⟩:=Bs h;refine Zt4 H.1 H.2.1 H.2.2.1 H.2.2.2 8 Sess.row ex13 rfl rfl trivial rfl rfl rfl rfl (Z84 9 10 11 rfl ?_ ?_ ?_)
       ·refine GV H.1 ?_;dsimp only[go_sem];refine Z74 10 11 rfl ?_ ?_
        ·refine GV H.1 ?_;dsimp only[go_sem];refine GE H.1 11 ?_;dsimp only[go_sem];refine GE H.1 12 ?_;dsimp only[go_sem];refine GE H.1 13 ?_;dsimp only[go_sem];refine GD ?_;exact Zx4 J3 h
        ·refine GV H.1 ?_;dsimp only[go_sem];refine GE H.1 10 ?_;dsimp only[go_sem];refine GE H.1 12 ?_;dsimp only[go_sem];refine GE H.1 13 ?_;dsimp only[go_sem];refine GD (V_swB 2 3 rfl rfl ?_);dsimp only[go_sem];exact Zx4 J3 h
       ·refine GV H.1 ?_;dsimp only[go_sem];refine Z74 9 11 rfl ?_ ?_
        ·refine GV H.1 ?_;dsimp only[go_sem];refine GE H.1 11 ?_;dsimp only[go_sem];refine GE H.1 12 ?_;dsimp only[go_sem];refine GE H.1 13 ?_;dsimp only[go_sem];refine GD ?_;exact Zx4 J3 h
        ·refine GV H.1 ?_;dsimp only[go_sem];refine Z74 9 12 rfl ?_ ?_
         ·refine GV H.1 ?_;dsimp only[go_sem];refine GE H.1 12 ?_;dsimp only[go_sem];refine GE H.1 13 ?_;dsimp only[go_sem];refine GD ?_;exact Zx4 J3 h
         ·refine GV H.1 ?_;refine Gn H 1 1 ?_;refine GE H.1 13 ?_;dsimp only[go_sem];refine GD ?_;exact Zx4 J3 h
       ·refine GV H.1 ?_;dsimp only[go_sem];refine Z74 9 10 rfl ?_ ?_
        ·refine GV H.1 ?_;dsimp only[go_sem];refine GE H.1 10 ?_;dsimp only[go_sem];refine GE H.1 12 ?_;dsimp only[go_sem];refine GE H.1 13 ?_;dsimp only[go_sem];refine GD (V_swB 2 3 rfl rfl ?_);dsimp only[go_sem];exact Zx4 J3 h
        ·refine GV H.1 ?_;dsimp only[go_sem];refine Z74 9 12 rfl ?_ ?_
         ·refine GV H.1 ?_;dsimp only[go_sem];refine GE H.1 12 ?_;dsimp only[go_sem];refine GE H.1 13 ?_;dsimp only[go_sem];refine GD (V_swB 2 3 rfl rfl ?_);dsimp only[go_sem];exact Zx4 J3 h
         ·refine GV H.1 ?_;refine Gn H 1 1 ?_;refine GE H.1 13 ?_;dsimp only[go_sem];refine GD (V_swB 2 3 rfl rfl ?_);dsimp only[go_sem];exact Zx4 J3 h
      ·refine GV H.1 ?_;dsimp only[go_sem];refine Z74 6 11 rfl ?_ ?_
       ·refine GV H.1 ?_;dsimp only[go_sem];have ⟨x13,ex13,h⟩:=Bs h;refine Zt4 H.1 H.2.1 H.2.2.1 H.2.2.2 8 Sess.row ex13 rfl rfl trivial rfl rfl rfl rfl (Z74 9 11 rfl ?_ ?_)
        ·refine GV H.1 ?_;dsimp only[go_sem];refine GE H.1 11 ?_;dsimp only[go_sem];refine GE H.1 12 ?_;dsimp only[go_sem];refine GE H.1 13 ?_;dsimp only[go_sem];refine GD ?_;exact Zx4 J3 h
        ·refine GV H.1 ?_;dsimp only[go_sem];refine Z74 9 12 rfl ?_ ?_
         ·refine GV H.1 ?_;dsimp only[go_sem];refine GE H.1 12 ?_;dsimp only[go_sem];refine GE H.1 13 ?_;dsimp only[go_sem];refine GD ?_;exact Zx4 J3 h
         ·refine GV H.1 ?_;refine Gn H 1 1 ?_;refine GE H.1 13 ?_;dsimp only[go_sem];refine GD ?_;exact Zx4 J3 h
       ·refine GV H.1 ?_;dsimp only[go_sem];refine Z74 6 12 rfl ?_ ?_
        ·refine GV H.1 ?_;dsimp only[go_sem];have ⟨x13,ex13,h⟩:=Bs h;refine Zt4 H.1 H.2.1 H.2.2.1 H.2.2.2 8 Sess.row ex13 rfl rfl trivial rfl rfl rfl rfl (Z74 9 12 rfl ?_ ?_)
         ·refine GV H.1 ?_;dsimp only[go_sem];refine GE H.1 12 ?_;dsimp only[go_sem];refine GE H.1 13 ?_;dsimp only[go_sem];refine GD ?_;exact Zx4 J3 h
         ·refine GV H.1 ?_;refine Gn H 1 1 ?_;refine GE H.1 13 ?_;dsimp only[go_sem];refine GD ?_;exact Zx4 J3 h
        ·refine GV H.1 ?_;refine Gn H 1 3 ?_;have ⟨x13,ex13,h⟩:=Bs h;refine Zt4 H.1 H.2.1 H.2.2.1 H.2.2.2 8 Sess.row ex13 rfl rfl trivial rfl rfl rfl rfl (Gn H 1 1 ?_);refine GE H.1 13 ?_;dsimp only[go_sem];refine GD ?_;exact Zx4 J3 h
      ·refine GV H.1 ?_;dsimp only[go_sem];refine Z74 6 10 rfl ?_ ?_
       ·refine GV H.1 ?_;dsimp only[go_sem];have ⟨x13,ex13,h⟩:=Bs h;refine Zt4 H.1 H.2.1 H.2.2.1 H.2.2.2 8 Sess.row ex13 rfl rfl trivial rfl rfl rfl rfl (Z74 9 10 rfl ?_ ?_)
        ·refine GV H.1 ?_;dsimp only[go_sem];refine GE H.1 10 ?_;dsimp only[go_sem];refine GE H.1 12 ?_;dsimp only[go_sem];refine GE H.1 13 ?_;dsimp only[go_sem];refine GD (V_swB 2 3 rfl rfl ?_);dsimp only[go_sem];exact Zx4 J3 h
        ·refine GV H.1 ?_;dsimp only[go_sem];refine Z74 9 12 rfl ?_ ?_
         ·refine GV H.1 ?_;dsimp only[go_sem];refine GE H.1 12 ?_;dsimp only[go_sem];refine GE H.1 13 ?_;dsimp only[go_sem];refine GD (V_swB 2 3 rfl rfl ?_);dsimp only[go_sem];exact Zx4 J3 h
         ·refine GV H.1 ?_;refine Gn H 1 1 ?_;refine GE H.1 13 ?_;dsimp only[go_sem];refine GD (V_swB 2 3 rfl rfl ?_);dsimp only[go_sem];exact Zx4 J3 h
       ·refine GV H.1 ?_;dsimp only[go_sem];refine Z74 6 12 rfl ?_ ?_
        ·refine GV H.1 ?_;dsimp only[go_sem];have ⟨x13,ex13,h⟩:=Bs h;refine Zt4 H.1 H.2.1 H.2.2.1 H.2.2.2 8 Sess.row ex13 rfl rfl trivial rfl rfl rfl rfl (Z74 9 12 rfl ?_ ?_)
         ·refine GV H.1 ?_;dsimp only[go_sem];refine GE H.1 12 ?_;dsimp only[go_sem];refine GE H.1 13 ?_;dsimp only[go_sem];refine GD (V_swB 2 3 rfl rfl ?_);dsimp only[go_sem];exact Zx4 J3 h
         ·refine GV H.1 ?_;refine Gn H 1 1 ?_;refine GE H.1 13 ?_;dsimp only[go_sem];refine GD (V_swB 2 3 rfl rfl ?_);dsimp only[go_sem];exact Zx4 J3 h
        ·refine GV H.1 ?_;refine Gn H 1 3 ?_;have ⟨x13,ex13,h⟩:=Bs h;refine Zt4 H.1 H.2.1 H.2.2.1 H.2.2.2 8 Sess.row ex13 rfl rfl trivial rfl rfl rfl rfl (Gn H 1 1 ?_);refine GE H.1 13 ?_;dsimp only[go_sem];refine GD (V_swB 2 3 rfl rfl ?_);dsimp only[go_sem];exact Zx4 J3 h
    ·refine Vg 1 ?_;exact Zx4 J2 (Zn4 h hout1)
 ·refine MC 13 h (fun h=>?_) fun h=>?_
  ·refine Vg 9 ?_;exact Zx4 J1 h
  ·refine Vg 9 ?_;exact Zx4 J1 h
@[go_sem] def e55_L0:EC:=.seq (.seq (.reg [Qm 11 5,Qm 12 0,Qa 13 (.len (.t 12)),Qa 14 (.bin .lss (.t 11) (.t 13))]) (.ite (.t 14) (.skip) (.exit 0))) (.seq (.blk 1 (.seq (.drw [Qm 17 0,Qm 18 5,Qk 19 2 17 18,Qe 20 2 19,Qm 21 1,Qm 22 5,Qk 23 2 21 22,Qe 24 2 23,Qa 25 (.eqs true [true,true] (.t 20) (.t 24))] [[],[],[0,1],[2,0,1],[],[],[4,5],[6,4,5],[3,7,2,0,1,6,4,5]] [[2],[2],[0,1,3],[2,8],[6],[6],[4,5,7],[6,8],[3,7]]) (.ite (.t 25) (.seq (.reg [Qa 4 (.mv (.c .ff))]) (.ret)) (.skip)))) (.reg [Qm 15 5,Qv 16 15 1,Qm 5 16]))
@[go_sem] def e55:EC:=.seq (.reg [Qa 4 (.mv (.c .ff))]) (.seq (.seq (.reg [Qm 6 0,Qa 7 (.len (.t 6)),Qm 8 1,Qa 9 (.len (.t 8)),Qa 10 (.bin .neq (.t 7) (.t 9))]) (.ite (.t 10) (.seq (.reg [Qa 4 (.mv (.c .ff))]) (.ret)) (.skip))) (.seq (.seq (.reg [Qi 5 0]) (.blk 0 (.loop e55_L0))) (.seq (.reg [Qa 4 (.mv (.c .tt))]) (.ret))))
theorem ok55:FnOK Tryz.prog 55 Tryz.f55 e55 [.t 4] 2 24:=okA
def Zhm:Unit→Option Bool
| ()=>
 some true
def Zim (x1 x2:List KE):Int→Option (Int ⊕ Bool)
| x6=>
 ifb (decide (x6<(ln KE.row x1))) (
 (at_ x1 x6).bind fun x7=>
 (at_ x2 x6).bind fun x8=>
 ifb (!(decide (x7.Peer=x8.Peer)&&(decide (x7.Epoch=x8.Epoch)&&true))) (
 Option.map Sum.inr (some false)) (
 some (.inl (wr (x6+1))))) (
 Option.map Sum.inr (Zhm ()))
def Zjm (x1 x2:List KE):Option Bool:=
 ifb (!decide ((ln KE.row x1)=(ln KE.row x2))) (
 some false) (
 loop (Zim x1 x2) 0)
theorem Zkm (x1 x2:List KE) (r:Bool) (h:Zjm x1 x2=some r):Z03 Tryz.prog 55 [Sp1 x1,Sp1 x2] (.bv r):=by
 refine FP ok55 fun w0 H0=>?_
 rw [Zjm] at h
 refine Vg 13 ?_;refine MI h (fun h=>?_) fun h=>?_
 ·refine Vg 4 ?_;exact MD ok55 h
 ·refine Vg 6 ?_;refine Zo4 (fun (_:Unit)=>⟨an 26 [],[],[]⟩) Zhm r ?_ fun J1=>?_
  ·rintro ⟨⟩ h;rw [Zhm] at h;(try dsimp only);refine Vg 4 ?_;exact MD ok55 h
  ·refine Vg 1 ?_;refine Zp4 h (fun (x6:Int)=>⟨(Sp1 x1 :: Sp1 x2::an 3 (.iv x6::an 20 [])),[],[]⟩) (by simp [go_sem]) (by intro x6;first | rfl | simp [go_sem]) ?_;rintro n1 x6 y1 h hin1 hout1;rw [Zim] at h;(try dsimp only);refine Vg 8 ?_;refine MI h (fun h=>?_) fun h=>?_
   ·refine Vg 4 ?_;refine Zz6 fun all H=>?_;refine Gn H 4 5 ?_;have ⟨x7,ex7,h⟩:=Bs h;refine Zt4 H.1 H.2.1 H.2.2.1 H.2.2.2 2 KE.row ex7 rfl rfl trivial rfl rfl rfl rfl (Gn H 1 3 ?_);have ⟨x8,ex8,h⟩:=Bs h;refine Zt4 H.1 H.2.1 H.2.2.1 H.2.2.2 6 KE.row ex8 rfl rfl trivial rfl rfl rfl rfl (Gn H 2 0 ?_)
    refine GD (MI h (fun h=>?_) fun h=>?_)
    ·refine Vg 4 ?_;exact MD ok55 (Zn4 h hout1)
    ·refine Vg 7 ?_;exact Zw4 h hin1
   ·refine Vg 1 ?_;exact Zx4 J1 (Zn4 h hout1)
@[go_sem] def e16:EC:=(by have h:=hF Tryz.f16;(conv at h=>rhs;reduce);dsimp only[go_sem] at h;exact ⟨_,h⟩:DP Tryz.f16).1
theorem ok16:FnOK Tryz.prog 16 Tryz.f16 e16 [.t 4] 2 36:=okA
def Zlm:Bool→Option Bool
| x8=>
 some x8
def Zmm (x1 x2:Node):Option Bool:=
 (Z8m x1.DK x2.DK).bind fun x3=>
 ifb x3 (
 (Zfm x1.Book x2.Book).bind fun x4=>
 ifb x4 (
 (Zjm x1.KN x2.KN).bind fun x5=>
 ifb x5 (
 (Zu7 x1.Told x2.Told).bind fun x6=>
 ifb x6 (
 (Zjm x1.AK x2.AK).bind fun x7=>
 Zlm x7) (
 Zlm false)) (
 Zlm false)) (
 Zlm false)) (
 Zlm false)
theorem Znm (x1 x2:Node) (r:Bool) (h:Zmm x1 x2=some r):Z03 Tryz.prog 16 [.agg (Node.row x1),.agg (Node.row x2)] (.bv r):=by
 refine FP ok16 fun w0 H0=>?_
 rw [Zmm] at h
 refine Vg 12 ?_;have ⟨x3,ex3,h⟩:=Bs h;refine VC (Z9m x1.DK x2.DK _ ex3) (Vg 1 ?_);refine Zo4 (fun (x8:Bool)=>⟨an 4 (.bv x8::an 33 []),[],[]⟩) Zlm r ?_ fun J1=>?_
 ·intro x8 h;rw [Zlm] at h;(try dsimp only);exact MD ok16 h
 ·refine MC 10 h (fun h=>?_) fun h=>?_
  ·refine Vg 4 ?_;have ⟨x4,ex4,h⟩:=Bs h;refine VC (Zgm x1.Book x2.Book _ ex4) (Vg 2 ?_);refine MC 17 h (fun h=>?_) fun h=>?_
   ·refine Vg 4 ?_;have ⟨x5,ex5,h⟩:=Bs h;refine VC (Zkm x1.KN x2.KN _ ex5) (Vg 2 ?_);refine MC 24 h (fun h=>?_) fun h=>?_
    ·refine Vg 4 ?_;have ⟨x6,ex6,h⟩:=Bs h;refine VC (Zv7 x1.Told x2.Told _ ex6) (Vg 2 ?_);refine MC 31 h (fun h=>?_) fun h=>?_
     ·refine Vg 4 ?_;have ⟨x7,ex7,h⟩:=Bs h;refine VC (Zkm x1.AK x2.AK _ ex7) (Vg 3 ?_);exact Zx4 J1 h
     ·refine Vg 8 ?_;exact Zx4 J1 h
    ·refine Vg 15 ?_;exact Zx4 J1 h
   ·refine Vg 22 ?_;exact Zx4 J1 h
  ·refine Vg 29 ?_;exact Zx4 J1 h
@[go_sem] def e6:EC:=(by have h:=hF Tryz.f6;(conv at h=>rhs;reduce);dsimp only[go_sem] at h;exact ⟨_,h⟩:DP Tryz.f6).1
@[go_sem] def e15:EC:=(by have h:=hF Tryz.f15;(conv at h=>rhs;reduce);dsimp only[go_sem] at h;exact ⟨_,h⟩:DP Tryz.f15).1
theorem ok15:FnOK Tryz.prog 15 Tryz.f15 e15 [.t 2] 1 36:=okA
def Z8n:Bool→Option Bool
| x11=>
 some x11
def Z9n (x1:Node):(List Mail×List Event×Int×Node)→Option Bool
| (x6,x7,x8,x9)=>
 (Zmm x9 x1).bind fun x10=>
 ifb x10 (
 ifb (decide ((ln Mail.row x6)=0)) (
 ifb (decide ((ln Event.row x7)=0)) (
 Z8n (decide (x8=0))) (
 Z8n false)) (
 Z8n false)) (
 Z8n false)
def Zan (x1:Node):Option Bool:=
 (Z7f x1).bind fun x2=>
 (Znl x2 x1.DK.DI.ID (Msg.mk 1 0 0)).bind fun x4=>
 (Z9n x1) (x4.2.1,x4.2.2.1,x4.2.2.2,x4.1)
theorem Zbn (x1:Node) (r:Bool) (h:Zan x1=some r):Z03 Tryz.prog 15 [.agg (Node.row x1)] (.bv r):=by
 refine FP ok15 fun w0 H0=>?_
 rw [Zan] at h
 refine Vg 6 ?_
 refine Zo4 (fun ((x6,x7,x8,x9):(List Mail×List Event×Int×Node))=>⟨(.any :: .ptr 0 0 :: .any :: .ptr 1 0 :: Sp4 x6 :: Sp5 x7 :: .iv x8::an 30 []),[some ⟨35,Node.row x1⟩,some ⟨35,Node.row x9⟩],[]⟩) (Z9n x1) r ?_ fun J1=>?_
 ·rintro ⟨x6,x7,x8,x9⟩ h;rw [Z9n] at h;(try dsimp only);refine Vg 4 ?_;have ⟨x10,ex10,h⟩:=Bs h;refine VC (Znm x9 x1 _ ex10) (Vg 1 ?_);refine Zo4 (fun (x11:Bool)=>⟨(.any :: .any :: .bv x11::an 34 []),[],[]⟩) Z8n r ?_ fun J2=>?_
  ·intro x11 h;rw [Z8n] at h;(try dsimp only);exact MD ok15 h
  ·refine MC 23 h (fun h=>?_) fun h=>?_
   ·refine Vg 5 ?_;refine MC 28 h (fun h=>?_) fun h=>?_
    ·refine Vg 5 ?_;refine MC 33 h (fun h=>?_) fun h=>?_
     ·refine Vg 5 ?_;exact Zx4 J2 h
     ·refine Vg 5 ?_;exact Zx4 J2 h
    ·refine Vg 10 ?_;exact Zx4 J2 h
   ·refine Vg 15 ?_;exact Zx4 J2 h
 ·refine Zz6 fun all H=>?_;dsimp only[go_sem];refine GP H 6 12 [1,1,5,11] [(8,[.agg (Node.row x1)]),(1,[.ptr 0 0,.ptr 0 0,.ptr 0 0,.iv x1.DK.DI.ID,.agg [.iv 1,.iv 0,.iv 0]])] ?_
  dsimp only[go_sem];have ⟨x2,ex2,h⟩:=Bs h;refine Z74 1 13 rfl ?_ ?_
  ·refine GC H.1 (k_narthexlaw18_Own x1 _ ex2) ?_;dsimp only[go_sem];have ⟨x4,ex4,h⟩:=Bs h;refine Z74 7 13 rfl ?_ ?_
   ·refine GC H.1 (k_node_Get x2 x1.DK.DI.ID (Msg.mk 1 0 0) _ ex4) ?_;dsimp only[go_sem]
    refine GP H 5 5 [13,5] [(7,[.tup [.agg (Node.row x4.1),Sp4 x4.2.1,Sp5 x4.2.2.1,.iv x4.2.2.2]]),(8,[.agg (Node.row x4.1),Sp4 x4.2.1,Sp5 x4.2.2.1,.iv x4.2.2.2])] ?_
    dsimp only[go_sem];refine GE H.1 13 ?_;dsimp only[go_sem];refine GE H.1 14 ?_;refine Gn H 3 0 ?_;refine GD ?_;exact Zx4 J1 h
   ·refine GV H.1 ?_;dsimp only[go_sem];refine Z64 7 rfl (GC H.1 (k_node_Get x2 x1.DK.DI.ID (Msg.mk 1 0 0) _ ex4) ?_);dsimp only[go_sem]
    refine GP H 5 4 [14,4] [(7,[.tup [.agg (Node.row x4.1),Sp4 x4.2.1,Sp5 x4.2.2.1,.iv x4.2.2.2]]),(8,[.agg (Node.row x4.1),Sp4 x4.2.1,Sp5 x4.2.2.1,.iv x4.2.2.2])] ?_
    dsimp only[go_sem];refine GE H.1 14 ?_;refine Gn H 3 0 ?_;refine GD ?_;exact Zx4 J1 h
  ·refine GV H.1 ?_;dsimp only[go_sem];refine Z64 1 rfl (GC H.1 (k_narthexlaw18_Own x1 _ ex2) ?_);dsimp only[go_sem];refine Z64 7 rfl ?_;have ⟨x4,ex4,h⟩:=Bs h;refine GC H.1 (k_node_Get x2 x1.DK.DI.ID (Msg.mk 1 0 0) _ ex4) ?_;dsimp only[go_sem]
   refine GP H 5 4 [14,4] [(7,[.tup [.agg (Node.row x4.1),Sp4 x4.2.1,Sp5 x4.2.2.1,.iv x4.2.2.2]]),(8,[.agg (Node.row x4.1),Sp4 x4.2.1,Sp5 x4.2.2.1,.iv x4.2.2.2])] ?_
   dsimp only[go_sem];refine GE H.1 14 ?_;refine Gn H 3 0 ?_;refine GD ?_;exact Zx4 J1 h
@[go_sem] def e3:EC:=(by have h:=hF Tryz.f3;(conv at h=>rhs;reduce);dsimp only[go_sem] at h;exact ⟨_,h⟩:DP Tryz.f3).1
theorem ok3:FnOK Tryz.prog 3 Tryz.f3 e3 [.t 8] 4 90:=okA
def Zcn:Bool→Option Bool
| x34=>
 some x34
def Zdn (x13:Int) (x14:Node) (x19:Int) (x20:Node):Bool→Option Bool
| x30=>
 ifb x30 (
 some false) (
 ifb (decide (x13=0)) (
 ifb (decide (x19=0)) (
 Zcn true) (
 (Zmm x20 (Node.mk (DK.mk (DI.mk 0 0 (([]:List Side))) 0 (([]:List Int))) (Book.mk 0 (([]:List Sess))) (([]:List KE)) (([]:List Int)) (([]:List KE)))).bind fun x31=>
 Zcn x31)) (
 (Zmm x14 (Node.mk (DK.mk (DI.mk 0 0 (([]:List Side))) 0 (([]:List Int))) (Book.mk 0 (([]:List Sess))) (([]:List KE)) (([]:List Int)) (([]:List KE)))).bind fun x32=>
 ifb x32 (
 ifb (decide (x19=0)) (
 Zcn true) (
 (Zmm x20 (Node.mk (DK.mk (DI.mk 0 0 (([]:List Side))) 0 (([]:List Int))) (Book.mk 0 (([]:List Sess))) (([]:List KE)) (([]:List Int)) (([]:List KE)))).bind fun x33=>
 Zcn x33)) (
 Zcn false)))
def Zen (x13:Int) (x14:Node):(Int×Node)→Option Bool
| (x19,x20)=>
 ifb (decide (x13=0)) (
 (Z7f x14).bind fun x21=>
 (Zkk x21).bind fun x22=>
 ifb (!decide (x22=0)) (
 (Zdn x13 x14 x19 x20) true) (
 (Zan x14).bind fun x23=>
 ifb (!x23) (
 (Zdn x13 x14 x19 x20) true) (
 ifb (decide (x19=0)) (
 (Z7f x20).bind fun x24=>
 (Zkk x24).bind fun x25=>
 ifb (!decide (x25=0)) (
 (Zdn x13 x14 x19 x20) true) (
 (Zan x20).bind fun x26=>
 (Zdn x13 x14 x19 x20) (!x26))) (
 (Zdn x13 x14 x19 x20) false)))) (
 ifb (decide (x19=0)) (
 (Z7f x20).bind fun x27=>
 (Zkk x27).bind fun x28=>
 ifb (!decide (x28=0)) (
 (Zdn x13 x14 x19 x20) true) (
 (Zan x20).bind fun x29=>
 (Zdn x13 x14 x19 x20) (!x29))) (
 (Zdn x13 x14 x19 x20) false))
def Zfn (x1:Node) (x3:Int) (x4:Msg):(Int×Node)→Option Bool
| (x13,x14)=>
 (Z7f x1).bind fun x15=>
 (Znl x15 x3 x4).bind fun x17=>
 (Zen x13 x14) (x17.2.2.2,x17.1)
def Zgn (x1:Node) (x2:Do) (x3:Int) (x4:Msg):Bool→Option Bool
| x7=>
 ifb x7 (
 (Zpl).bind fun x8=>
 some x8) (
 (Z7f x1).bind fun x9=>
 (Zel x9 x2).bind fun x11=>
 (Zfn x1 x3 x4) (x11.2.2.2,x11.1))
def Zhn (x1:Node) (x2:Do) (x3:Int) (x4:Msg):Option Bool:=
 (Zpl).bind fun x5=>
 ifb (!x5) (
 (Zgn x1 x2 x3 x4) true) (
 (Z5d x1).bind fun x6=>
 ifb (!x6) (
 (Zgn x1 x2 x3 x4) true) (
 (Zgn x1 x2 x3 x4) (decide (70<(ln Z05 x2.Need)))))
theorem Zin (x1:Node) (x2:Do) (x3:Int) (x4:Msg) (r:Bool) (h:Zhn x1 x2 x3 x4=some r):Z03 Tryz.prog 3 [.agg (Node.row x1),.agg (Do.row x2),.iv x3,.agg (Msg.row x4)] (.bv r):=by
 refine FP ok3 fun w0 H0=>?_
 rw [Zhn] at h
 refine Vg 10 ?_;have ⟨x5,ex5,h⟩:=Bs h;refine VC (k_narthexlaw18_awake _ ex5) (Vg 2 ?_)
 refine Zo4 (fun (x7:Bool)=>⟨(.any :: .any :: .iv x3 :: .any :: .ptr 0 0 :: .ptr 1 0 :: .any :: .ptr 2 0::an 21 (.bv x7::an 64 [])),[some ⟨35,Node.row x1⟩,some ⟨38,Do.row x2⟩,some ⟨41,Msg.row x4⟩],[]⟩) (Zgn x1 x2 x3 x4) r ?_ fun J1=>?_
 ·intro x7 h;rw [Zgn] at h;(try dsimp only);refine MI h (fun h=>?_) fun h=>?_
  ·refine Vg 2 ?_;have ⟨x8,ex8,h⟩:=Bs h;refine VC (k_narthexlaw18_awake _ ex8) (Vg 2 ?_);exact MD ok3 h
  ·refine Vg 2 ?_
   refine Zo4 (fun ((x13,x14):(Int×Node))=>⟨(.any :: .any :: .iv x3 :: .any :: .ptr 0 0 :: .any :: .any :: .ptr 2 0 :: .any :: .ptr 3 0 :: .any :: .any :: .iv x13::an 81 []),[some ⟨35,Node.row x1⟩,none,some ⟨41,Msg.row x4⟩,some ⟨35,Node.row x14⟩],[]⟩) (Zfn x1 x3 x4) r ?_ fun J2=>?_
   ·rintro ⟨x13,x14⟩ h;rw [Zfn] at h;(try dsimp only);refine Vg 1 ?_
    refine Zo4 (fun ((x19,x20):(Int×Node))=>⟨an 9 (.ptr 3 0 :: .any :: .any :: .iv x13 :: .ptr 4 0 :: .any :: .any :: .iv x19::an 77 []),[none,none,none,some ⟨35,Node.row x14⟩,some ⟨35,Node.row x20⟩],[]⟩) (Zen x13 x14) r ?_ fun J3=>?_
    ·rintro ⟨x19,x20⟩ h;rw [Zen] at h;(try dsimp only);refine Vg 6 ?_
     refine Zo4 (fun (x30:Bool)=>⟨an 9 (.ptr 3 0 :: .any :: .any :: .iv x13 :: .ptr 4 0 :: .any :: .any :: .iv x19::an 60 (.bv x30::an 16 [])),[none,none,none,some ⟨35,Node.row x14⟩,some ⟨35,Node.row x20⟩],[]⟩) (Zdn x13 x14 x19 x20) r ?_ fun J4=>?_
     ·intro x30 h;rw [Zdn] at h;(try dsimp only);refine MI h (fun h=>?_) fun h=>?_
      ·refine Vg 4 ?_;exact MD ok3 h
      ·refine Vg 6 ?_;refine Zo4 (fun (x34:Bool)=>⟨an 8 (.bv x34::an 85 []),[],[]⟩) Zcn r ?_ fun J5=>?_
       ·intro x34 h;rw [Zcn] at h;(try dsimp only);exact MD ok3 h
       ·refine MC 80 h (fun h=>?_) fun h=>?_
        ·refine Vg 8 ?_;refine MC 88 h (fun h=>?_) fun h=>?_
         ·refine Vg 7 ?_;exact Zx4 J5 h
         ·refine Vg 2 ?_;have ⟨x31,ex31,h⟩:=Bs h;refine VC (Znm x20 (Node.mk (DK.mk (DI.mk 0 0 (([]:List Side))) 0 (([]:List Int))) (Book.mk 0 (([]:List Sess))) (([]:List KE)) (([]:List Int)) (([]:List KE))) _ ex31) (Vg 4 ?_);exact Zx4 J5 h
        ·refine Vg 2 ?_;have ⟨x32,ex32,h⟩:=Bs h;refine VC (Znm x14 (Node.mk (DK.mk (DI.mk 0 0 (([]:List Side))) 0 (([]:List Int))) (Book.mk 0 (([]:List Sess))) (([]:List KE)) (([]:List Int)) (([]:List KE))) _ ex32) (Vg 2 ?_);refine MC 85 h (fun h=>?_) fun h=>?_
         ·refine Vg 3 ?_;refine MC 88 h (fun h=>?_) fun h=>?_
          ·refine Vg 7 ?_;exact Zx4 J5 h
          ·refine Vg 2 ?_;have ⟨x33,ex33,h⟩:=Bs h;refine VC (Znm x20 (Node.mk (DK.mk (DI.mk 0 0 (([]:List Side))) 0 (([]:List Int))) (Book.mk 0 (([]:List Sess))) (([]:List KE)) (([]:List Int)) (([]:List KE))) _ ex33) (Vg 4 ?_);exact Zx4 J5 h
         ·refine Vg 10 ?_;exact Zx4 J5 h
     ·refine MC 52 h (fun h=>?_) fun h=>?_
      ·refine Vg 1 ?_;have ⟨x21,ex21,h⟩:=Bs h;refine VC (k_narthexlaw18_Own x14 _ ex21) ?_;have ⟨x22,ex22,h⟩:=Bs h;refine VC (Zlk x21 _ ex22) (Vg 2 ?_);refine MC 57 h (fun h=>?_) fun h=>?_
       ·refine Vg 21 ?_;exact Zx4 J4 h
       ·refine Vg 1 ?_;have ⟨x23,ex23,h⟩:=Bs h;refine VC (Zbn x14 _ ex23) (Vg 4 ?_);refine MC 63 h (fun h=>?_) fun h=>?_
        ·refine Vg 15 ?_;exact Zx4 J4 h
        ·refine Vg 3 ?_;refine MC 66 h (fun h=>?_) fun h=>?_
         ·refine Vg 1 ?_;have ⟨x24,ex24,h⟩:=Bs h;refine VC (k_narthexlaw18_Own x20 _ ex24) ?_;have ⟨x25,ex25,h⟩:=Bs h;refine VC (Zlk x24 _ ex25) (Vg 2 ?_);refine MC 71 h (fun h=>?_) fun h=>?_
          ·refine Vg 7 ?_;exact Zx4 J4 h
          ·refine Vg 1 ?_;have ⟨x26,ex26,h⟩:=Bs h;refine VC (Zbn x20 _ ex26) (Vg 5 ?_);exact Zx4 J4 h
         ·refine Vg 12 ?_;exact Zx4 J4 h
      ·refine Vg 14 ?_;refine MC 66 h (fun h=>?_) fun h=>?_
       ·refine Vg 1 ?_;have ⟨x27,ex27,h⟩:=Bs h;refine VC (k_narthexlaw18_Own x20 _ ex27) ?_;have ⟨x28,ex28,h⟩:=Bs h;refine VC (Zlk x27 _ ex28) (Vg 2 ?_);refine MC 71 h (fun h=>?_) fun h=>?_
        ·refine Vg 7 ?_;exact Zx4 J4 h
        ·refine Vg 1 ?_;have ⟨x29,ex29,h⟩:=Bs h;refine VC (Zbn x20 _ ex29) (Vg 5 ?_);exact Zx4 J4 h
       ·refine Vg 12 ?_;exact Zx4 J4 h
    ·refine Zz6 fun all H=>?_;refine Gn H 3 12 ?_;have ⟨x15,ex15,h⟩:=Bs h;refine Z74 1 10 rfl ?_ ?_
     ·refine GC H.1 (k_narthexlaw18_Own x1 _ ex15) ?_;dsimp only[go_sem];have ⟨x17,ex17,h⟩:=Bs h;refine Z74 4 10 rfl ?_ ?_
      ·refine GC H.1 (k_node_Get x15 x3 x4 _ ex17) ?_;dsimp only[go_sem]
       refine GP H 5 5 [10,5] [(40,[.tup [.agg (Node.row x17.1),Sp4 x17.2.1,Sp5 x17.2.2.1,.iv x17.2.2.2]]),(5,[.agg (Node.row x17.1),Sp4 x17.2.1,Sp5 x17.2.2.1,.iv x17.2.2.2])] ?_
       dsimp only[go_sem];refine GE H.1 10 ?_;dsimp only[go_sem];refine GE H.1 11 ?_;refine Gn H 3 0 ?_;refine GD ?_;exact Zx4 J3 h
      ·refine GV H.1 ?_;dsimp only[go_sem];refine Z64 4 rfl (GC H.1 (k_node_Get x15 x3 x4 _ ex17) ?_);dsimp only[go_sem]
       refine GP H 5 4 [11,4] [(40,[.tup [.agg (Node.row x17.1),Sp4 x17.2.1,Sp5 x17.2.2.1,.iv x17.2.2.2]]),(5,[.agg (Node.row x17.1),Sp4 x17.2.1,Sp5 x17.2.2.1,.iv x17.2.2.2])] ?_
       dsimp only[go_sem];refine GE H.1 11 ?_;refine Gn H 3 0 ?_;refine GD ?_;exact Zx4 J3 h
     ·refine GV H.1 ?_;dsimp only[go_sem];refine Z64 1 rfl (GC H.1 (k_narthexlaw18_Own x1 _ ex15) ?_);dsimp only[go_sem];refine Z64 4 rfl ?_;have ⟨x17,ex17,h⟩:=Bs h;refine GC H.1 (k_node_Get x15 x3 x4 _ ex17) ?_;dsimp only[go_sem]
      refine GP H 5 4 [11,4] [(40,[.tup [.agg (Node.row x17.1),Sp4 x17.2.1,Sp5 x17.2.2.1,.iv x17.2.2.2]]),(5,[.agg (Node.row x17.1),Sp4 x17.2.1,Sp5 x17.2.2.1,.iv x17.2.2.2])] ?_
      dsimp only[go_sem];refine GE H.1 11 ?_;refine Gn H 3 0 ?_;refine GD ?_;exact Zx4 J3 h
   ·refine Zz6 fun all H=>?_;refine Gn H 2 12 ?_;have ⟨x9,ex9,h⟩:=Bs h;refine Z74 1 9 rfl ?_ ?_
    ·refine GC H.1 (k_narthexlaw18_Own x1 _ ex9) ?_;dsimp only[go_sem];have ⟨x11,ex11,h⟩:=Bs h;refine Z74 3 9 rfl ?_ ?_
     ·refine GC H.1 (Zfl x9 x2 _ ex11) ?_;dsimp only[go_sem]
      refine GP H 5 5 [9,5] [(31,[.tup [.agg (Node.row x11.1),Sp4 x11.2.1,Sp5 x11.2.2.1,.iv x11.2.2.2]]),(4,[.agg (Node.row x11.1),Sp4 x11.2.1,Sp5 x11.2.2.1,.iv x11.2.2.2])] ?_
      dsimp only[go_sem];refine GE H.1 9 ?_;dsimp only[go_sem];refine GE H.1 10 ?_;refine Gn H 3 0 ?_;refine GD ?_;exact Zx4 J2 h
     ·refine GV H.1 ?_;dsimp only[go_sem];refine Z64 3 rfl (GC H.1 (Zfl x9 x2 _ ex11) ?_);dsimp only[go_sem]
      refine GP H 5 4 [10,4] [(31,[.tup [.agg (Node.row x11.1),Sp4 x11.2.1,Sp5 x11.2.2.1,.iv x11.2.2.2]]),(4,[.agg (Node.row x11.1),Sp4 x11.2.1,Sp5 x11.2.2.1,.iv x11.2.2.2])] ?_
      dsimp only[go_sem];refine GE H.1 10 ?_;refine Gn H 3 0 ?_;refine GD ?_;exact Zx4 J2 h
    ·refine GV H.1 ?_;dsimp only[go_sem];refine Z64 1 rfl (GC H.1 (k_narthexlaw18_Own x1 _ ex9) ?_);dsimp only[go_sem];refine Z64 3 rfl ?_;have ⟨x11,ex11,h⟩:=Bs h;refine GC H.1 (Zfl x9 x2 _ ex11) ?_;dsimp only[go_sem]
     refine GP H 5 4 [10,4] [(31,[.tup [.agg (Node.row x11.1),Sp4 x11.2.1,Sp5 x11.2.2.1,.iv x11.2.2.2]]),(4,[.agg (Node.row x11.1),Sp4 x11.2.1,Sp5 x11.2.2.1,.iv x11.2.2.2])] ?_
     dsimp only[go_sem];refine GE H.1 10 ?_;refine Gn H 3 0 ?_;refine GD ?_;exact Zx4 J2 h
 ·refine MC 19 h (fun h=>?_) fun h=>?_
  ·refine Vg 11 ?_;exact Zx4 J1 h
  ·refine Vg 1 ?_;have ⟨x6,ex6,h⟩:=Bs h;refine VC (k_narthexref18_Few x1 _ ex6) (Vg 3 ?_);refine MC 24 h (fun h=>?_) fun h=>?_
   ·refine Vg 6 ?_;exact Zx4 J1 h
   ·refine Vg 6 ?_;exact Zx4 J1 h
@[go_sem] def e7:EC:=(by have h:=hF Tryz.f7;(conv at h=>rhs;reduce);dsimp only[go_sem] at h;exact ⟨_,h⟩:DP Tryz.f7).1
theorem OB {α β:Type} (a:α) (f:α→Option β):(some a).bind f=f a:=rfl
theorem DN {p:Prop} [Decidable p] (h:¬p):decide p=false:=decide_eq_false h
theorem DT {p:Prop} [Decidable p] (h:p):decide p=true:=decide_eq_true h
@[simp] theorem Zun {α:Type} (a b:Option α):ifb true a b=a:=rfl
@[simp] theorem Zvn {α:Type} (a b:Option α):ifb false a b=b:=rfl
theorem Zwn {α:Type} (e:Bool) (a b:Option α):ifb (!e) a b=ifb e b a:=by cases e<;>rfl
theorem Zxn {n:Int} (h1: -9223372036854775808≤n) (h2:n≤9223372036854775807):wr n=n:=IntWalk.i64_in n ⟨h1,h2⟩
theorem Zyn {α:Type} {l:List α} {k:Nat} {x:α} (h:l[k]?=some x):at_ l (k:Int)=some x:=by
 unfold at_;rw [if_pos (Int.natCast_nonneg k)];simpa using h
theorem Zzn {α:Type} {b:Nat} (l m:List α) (hb:b≤1000) (h:l.length+m.length≤100000000):Zj4 b l m=some (l++m):=by
 unfold Zj4
 rw [if_pos]
 exact ⟨by
  have h1:(l.length+m.length)*b≤100000000*1000:=Nat.mul_le_mul h hb
  omega,by omega⟩
theorem Z0o {α:Type} {f:α→List AV} {l:List α} {k:Nat} {x:α} (h:l[k]?=some x):decide ((k:Int)<ln f l)=true:=by
 have:=(List.getElem?_eq_some_iff.1 h).1
 rw [ln_eq];simp;omega
theorem Z1o {α:Type} {f:α→List AV} {l:List α}:decide ((l.length:Int)<ln f l)=false:=by rw [ln_eq];simp
theorem Z2o {k:Nat} (h:k≤4000000000000000000):wr ((k:Int)+1)=((k+1:Nat):Int):=Zxn (by omega) (by omega)
theorem Z3o {α:Type} {l:List α} {k:Nat} {x:α} (h:l[k]?=some x) (hl:l.length≤4000000000000000000):wr ((k:Int)+1)=((k+1:Nat):Int):=by
 have:=(List.getElem?_eq_some_iff.1 h).1
 exact Z2o (by omega)
def forR {σ β:Type} (f:Nat→σ→Option (σ ⊕ β)) (fin:σ→Option β):Nat→Nat→σ→Option β
 | 0,_,s=>fin s
 | m+1,k,s=>match f k s with
   | none=>none
   | some (.inl s')=>forR f fin m (k+1) s'
   | some (.inr r)=>some r
theorem Z4o {σ β τ:Type} (body:τ→Option (τ ⊕ β)) (mk:Int→σ→τ) (f:Nat→σ→Option (σ ⊕ β)) (fin:σ→Option β) (n:Nat) (hn:n≤4000000000000000000)
  (hb:∀(k:Nat) s,k<n→body (mk k s)=(f k s).map (fun | .inl s'=>.inl (mk (k+1:Nat) s') | .inr r=>.inr r)) (he:∀s,body (mk n s)=(fin s).map .inr):
  ∀(m k:Nat) (s:σ),m+k=n→loop body (mk k s)=forR f fin m k s
 | 0,k,s,h=>by
   have:k=n:=by omega
   subst this
   rw [loop_eq,he]
   cases hf:fin s<;>simp [forR,hf]
 | m+1,k,s,h=>by
   rw [loop_eq,hb k s (by omega)]
   simp only [forR]
   cases hf:f k s with
   | none=>rfl
   | some y=>
     cases y with
     | inl s'=>exact Z4o body mk f fin n hn hb he m (k+1) s' (by omega)
     | inr r=>rfl
def forL {α σ β:Type} (f:α→σ→Option (σ ⊕ β)) (fin:σ→Option β):List α→σ→Option β
 | [],s=>fin s
 | x::l,s=>match f x s with
   | none=>none
   | some (.inl s')=>forL f fin l s'
   | some (.inr r)=>some r
theorem forR_forL {α σ β:Type} (f:α→σ→Option (σ ⊕ β)) (fin:σ→Option β) (l:List α):∀(r:List α) (k:Nat) (s:σ),l.drop k=r→forR (fun k s=>(l[k]?).bind fun x=>f x s) fin r.length k s=forL f fin r s
 | [],k,s,_=>rfl
 | x::r,k,s,h=>by
   have hx:l[k]?=some x:=by
    have:=congrArg (·[0]?) h
    simpa using this
   have hr:l.drop (k+1)=r:=by
    rw [←List.drop_drop,h];rfl
   simp only [List.length_cons,forR,forL,hx,OB]
   cases hf:f x s with
   | none=>rfl
   | some y=>
     cases y with
     | inl s'=>exact forR_forL f fin l r (k+1) s' hr
     | inr r=>rfl
theorem loop_forL {α σ β τ:Type} (l:List α) (body:τ→Option (τ ⊕ β)) (mk:Int→σ→τ) (f:α→σ→Option (σ ⊕ β)) (fin:σ→Option β) (hl:l.length≤4000000000000000000)
  (hb:∀(k:Nat) x s,l[k]?=some x→body (mk k s)=(f x s).map (fun | .inl s'=>.inl (mk (k+1:Nat) s') | .inr r=>.inr r)) (he:∀s,body (mk l.length s)=(fin s).map .inr) (s:σ):
  loop body (mk 0 s)=forL f fin l s:=by
 have:=Z4o body mk (fun k s=>(l[k]?).bind fun x=>f x s) fin l.length hl (fun k s hk=>by
  have hx:l[k]?=some l[k]:=List.getElem?_eq_getElem hk
  rw [hx,OB];exact hb k _ s hx) he l.length 0 s (by omega)
 rw [show ((0:Nat):Int)=0 from rfl] at this
 rw [this]
 exact forR_forL f fin l l 0 s rfl
theorem forL_find {α β:Type} (f:α→Option (Unit ⊕ β)) (q:α→Bool) (g:α→β) (fin:Option β) (l:List α) (hf:∀x∈l,f x=if q x then some (.inr (g x)) else some (.inl ())):
  forL (fun x _=>f x) (fun _=>fin) l ()=match l.find? q with | some x=>some (g x) | none=>fin:=by
 induction l with
 | nil=>rfl
 | cons x l ih=>
   simp only [forL,hf x (by simp),List.find?_cons]
   cases hq:q x with
   | true=>simp
   | false=>
     simp only [Bool.false_eq_true,if_false]
     exact ih fun y hy=>hf y (List.mem_cons_of_mem _ hy)
def plc:Option Nat→Int
 | some i=>i
 | none=> -1
theorem Z5o (o:Option Nat):decide (0≤plc o)=o.isSome:=by cases o<;>simp [plc]
theorem plc_neg (o:Option Nat):decide (plc o<0)=o.isNone:=by
 cases o with
 | none=>rfl
 | some n=>exact DN (by show ¬((n:Int)<0);omega)
theorem Z6o {α:Type} (l:List α) (q:α→Bool):∀(r:List α) (k:Nat),l.drop k=r→
  forR (β:=Int) (fun k (_:Unit)=>(l[k]?).bind fun x=>if q x then some (.inr (k:Int)) else some (.inl ())) (fun _=>some (-1)) r.length k ()=some (plc ((r.findIdx? q).map (· + k)))
 | [],k,_=>by simp [forR,plc]
 | x::r,k,h=>by
   have hx:l[k]?=some x:=by have:=congrArg (·[0]?) h;simpa using this
   have hr:l.drop (k+1)=r:=by rw [←List.drop_drop,h];rfl
   simp only [List.length_cons,forR,hx,OB,List.findIdx?_cons]
   cases hq:q x with
   | true=>simp [plc]
   | false=>
     simp only [Bool.false_eq_true,if_false]
     rw [Z6o l q r (k+1) hr]
     cases r.findIdx? q with
     | none=>rfl
     | some n=>simp only [Option.map_some,plc];congr 2;omega
theorem Z7o {α:Type} (l:List α) (body:Int→Option (Int ⊕ Int)) (q:α→Bool) (hl:l.length≤4000000000000000000)
  (hb:∀(k:Nat) x,l[k]?=some x→body k=some (if q x then .inr (k:Int) else .inl ((k+1:Nat):Int))) (he:body l.length=some (.inr (-1))):loop body 0=some (plc (l.findIdx? q)):=by
 have:=Z4o body (fun k (_:Unit)=>k) (fun k _=>(l[k]?).bind fun x=>if q x then some (.inr (k:Int)) else some (.inl ())) (fun _=>some (-1)) l.length hl (fun k s hk=>by
  have hx:l[k]?=some l[k]:=List.getElem?_eq_getElem hk
  rw [hx,OB,hb k _ hx]
  cases q l[k]<;>rfl) (fun _=>he) l.length 0 () (by omega)
 rw [show ((0:Nat):Int)=0 from rfl] at this
 rw [this,Z6o l q l 0 rfl]
 simp
theorem Z8o {α:Type} (l:List α) (q:α→Bool):(l.findIdx? q).isSome=l.any q:=by rw [List.findIdx?_isSome]
theorem loop_any {α β:Type} (l:List α) (body:Int→Option (Int ⊕ β)) (q:α→Bool) (yes no:β) (hl:l.length≤4000000000000000000)
  (hb:∀(k:Nat) x,l[k]?=some x→body k=some (if q x then .inr yes else .inl ((k+1:Nat):Int))) (he:body l.length=some (.inr no)):loop body 0=some (if l.any q then yes else no):=by
 have:=loop_forL l body (fun k (_:Unit)=>k) (fun x _=>if q x then some (.inr yes) else some (.inl ())) (fun _=>some no) hl (fun k x s hx=>by
  rw [hb k x hx]
  cases q x<;>rfl) (fun _=>he) ()
 rw [this,forL_find (fun x=>if q x then some (.inr yes) else some (.inl ())) q (fun _=>yes) (some no) l (fun x _=>rfl)]
 cases h:l.find? q with
 | none=>
   rw [List.find?_eq_none] at h
   have:l.any q=false:=by rw [List.any_eq_false];exact h
   simp [this]
 | some x=>
   have:l.any q=true:=by rw [List.any_eq_true];exact ⟨x,List.mem_of_find?_eq_some h,List.find?_some h⟩
   simp [this]
theorem Z9o {α τ β:Type} (l:List α) (body:τ→Option (τ ⊕ β)) (st:List α→τ) (R:List α→List α→Option β)
  (hb:∀pre x post,l=pre++x::post→(body (st pre)=some (.inl (st (pre++[x])))∧R pre (x::post)=R (pre++[x]) post)∨∃r,body (st pre)=some (.inr r)∧R pre (x::post)=some r)
  (he:body (st l)=(R l []).map .inr):∀post pre,l=pre++post→loop body (st pre)=R pre post
 | [],pre,h=>by
   have:pre=l:=by simpa using h.symm
   subst this
   rw [loop_eq,he]
   cases R pre []<;>rfl
 | x::post,pre,h=>by
   rw [loop_eq]
   rcases hb pre x post h with ⟨h1,h2⟩ | ⟨r,h1,h2⟩
   ·rw [h1,h2]
    exact Z9o l body st R hb he post (pre++[x]) (by simpa using h)
   ·rw [h1,h2]
theorem Zao {α τ β:Type} (l:List α) (body:τ→Option (τ ⊕ β)) (st:List α→τ) (R:List α→List α→Option β)
 (hb:∀pre x post,l=pre++x::post→(body (st pre)=some (.inl (st (pre++[x])))∧R pre (x::post)=R (pre++[x]) post)∨∃r,body (st pre)=some (.inr r)∧R pre (x::post)=some r)
 (he:body (st l)=(R l []).map .inr):loop body (st [])=R [] l:=Z9o l body st R hb he l [] rfl
theorem loop_ppI {α τ β:Type} (l:List α) (body:τ→Option (τ ⊕ β)) (st:List α→τ) (R:List α→List α→Option β) (I:List α→Prop)
  (hb:∀pre x post,l=pre++x::post→I pre→(body (st pre)=some (.inl (st (pre++[x])))∧I (pre++[x])∧R pre (x::post)=R (pre++[x]) post)∨∃r,body (st pre)=some (.inr r)∧R pre (x::post)=some r)
  (he:I l→body (st l)=(R l []).map .inr):∀post pre,l=pre++post→I pre→loop body (st pre)=R pre post
 | [],pre,h,hI=>by
   have:pre=l:=by simpa using h.symm
   subst this
   rw [loop_eq,he hI]
   cases R pre []<;>rfl
 | x::post,pre,h,hI=>by
   rw [loop_eq]
   rcases hb pre x post h hI with ⟨h1,h3,h2⟩ | ⟨r,h1,h2⟩
   ·rw [h1,h2]
    exact loop_ppI l body st R I hb he post (pre++[x]) (by simpa using h) h3
   ·rw [h1,h2]
theorem Zbo {α τ β:Type} (l:List α) (body:τ→Option (τ ⊕ β)) (st:List α→τ) (r:β)
  (hb:∀pre x post,l=pre++x::post→body (st pre)=some (.inl (st (pre++[x])))) (he:body (st l)=some (.inr r)):loop body (st [])=some r:=
 Zao l body st (fun _ _=>some r) (fun pre x post h=>.inl ⟨hb pre x post h,rfl⟩) he
theorem Zco {α:Type} {l pre post:List α} {x:α} (h:l=pre++x::post):l[pre.length]?=some x:=by subst h;simp
theorem Zdo {α:Type} {l pre post:List α} {x:α} (h:l=pre++x::post):pre.length<l.length:=by subst h;simp
theorem Zeo {α:Type} {l pre post:List α} {x:α} (h:l=pre++x::post):x∈l:=by subst h;simp
theorem Zfo {α:Type} {l a b:List α} {x:α} (h:l=a++x::b):at_ l (a.length:Int)=some x:=Zyn (Zco h)
theorem Zgo {α:Type} (a b:List α) (x y:α):(a++x::b).set ((a.length:Int)).toNat y=a++y::b:=by simp
theorem Zho {α:Type} (pre:List α) (x:α):(pre++[x]).length=pre.length+1:=by simp
theorem loop_natI {τ β:Type} (n:Nat) (body:τ→Option (τ ⊕ β)) (st:Nat→τ) (R:Nat→Option β) (hb:∀k,k<n→(body (st k)=some (.inl (st (k+1)))∧R k=R (k+1))∨∃r,body (st k)=some (.inr r)∧R k=some r) (he:body (st n)=(R n).map .inr):loop body (st 0)=R 0:=by
 have key:∀m k,m+k=n→loop body (st k)=R k:=by
  intro m
  induction m with
  | zero=>
    intro k hk
    have:k=n:=by omega
    subst this
    rw [loop_eq,he]
    cases R k<;>rfl
  | succ m ih=>
    intro k hk
    rw [loop_eq]
    rcases hb k (by omega) with ⟨h1,h2⟩ | ⟨r,h1,h2⟩
    ·rw [h1,h2];exact ih (k+1) (by omega)
    ·rw [h1,h2]
 exact key n 0 rfl
theorem Zio {α:Type} (l m:List α) (body:Int→Option (Int ⊕ Bool)) (eqv:α→α→Bool) (h6:l.length=m.length) (hl:l.length≤4000000000000000000)
  (hb:∀(k:Nat) x y,l[k]?=some x→m[k]?=some y→body k=some (if eqv x y then .inl ((k+1:Nat):Int) else .inr false)) (he:body l.length=some (.inr true)):loop body 0=some ((l.zip m).all fun p=>eqv p.1 p.2):=by
 rw [loop_any (l.zip m) body (fun p=>!eqv p.1 p.2) false true (by simp;omega) (fun k x hx=>by
  obtain ⟨x1,x2⟩:=x
  rw [List.getElem?_zip_eq_some] at hx
  rw [hb k x1 x2 hx.1 hx.2]
  cases eqv x1 x2<;>rfl) (by rw [show (l.zip m).length=l.length by simp [h6]];exact he)]
 have:∀(q:List (α×α)),(if q.any (fun p=>!eqv p.1 p.2) then some false else some true)=some (q.all fun p=>eqv p.1 p.2):=by
  intro q
  induction q with
  | nil=>rfl
  | cons p q ih=>
    rw [List.any_cons,List.all_cons]
    cases h:eqv p.1 p.2 with
    | true=>exact ih
    | false=>rfl
 have h2:=this (l.zip m)
 rw [←h2]
 cases (l.zip m).any (fun p=>!eqv p.1 p.2)<;>rfl
theorem Zjo {α:Type} [DecidableEq α]:∀(l m:List α),l.length=m.length→(l.zip m).all (fun p=>decide (p.1=p.2))=decide (l=m)
 | [],[],_=>rfl
 | [],_::_,h=>by simp at h
 | _::_,[],h=>by simp at h
 | x::l,y::m,h=>by
   have ih:=Zjo l m (by simpa using h)
   simp only [List.zip_cons_cons,List.all_cons,ih]
   by_cases h1:x=y<;>simp [h1]
theorem Zko {α:Type} [DecidableEq α] {l m:List α} (h:l.length≠m.length):decide (l=m)=false:=DN (by rintro rfl;exact h rfl)
theorem Zlo {α β:Type} (f:α→List AV) (g:β→List AV) (l:List α) (m:List β):decide (ln f l=ln g m)=decide (l.length=m.length):=by
 rw [ln_eq,ln_eq,decide_eq_decide];omega
theorem Zmo (l:List Side) (p:Side→Option Bool) (q:Side→Bool) (hl:l.length≤4000000000000000000) (hp:∀x∈l,p x=some (q x)):Ze7 l p=some (plc (l.findIdx? q)):=by
 unfold Ze7
 refine Z7o l _ q hl (fun k x hx=>?_) ?_
 ·simp only [Zd7,Z0o hx,Zun,Zyn hx,OB,hp x (List.mem_iff_getElem?.2 ⟨k,hx⟩),Z3o hx hl]
  cases q x<;>rfl
 ·simp only [Zd7,Z1o,Zvn,Zc7,Option.map_some]
theorem Zno (l:List KE) (p:KE→Option Bool) (q:KE→Bool) (hl:l.length≤4000000000000000000) (hp:∀x∈l,p x=some (q x)):Zi7 l p=some (plc (l.findIdx? q)):=by
 unfold Zi7
 refine Z7o l _ q hl (fun k x hx=>?_) ?_
 ·simp only [Zh7,Z0o hx,Zun,Zyn hx,OB,hp x (List.mem_iff_getElem?.2 ⟨k,hx⟩),Z3o hx hl]
  cases q x<;>rfl
 ·simp only [Zh7,Z1o,Zvn,Zg7,Option.map_some]
theorem Zoo (l:List Int) (p:Int→Option Bool) (q:Int→Bool) (hl:l.length≤4000000000000000000) (hp:∀x∈l,p x=some (q x)):Zq7 l p=some (plc (l.findIdx? q)):=by
 unfold Zq7
 refine Z7o l _ q hl (fun k x hx=>?_) ?_
 ·simp only [Zp7,Z0o hx,Zun,Zyn hx,OB,hp x (List.mem_iff_getElem?.2 ⟨k,hx⟩),Z3o hx hl]
  cases q x<;>rfl
 ·simp only [Zp7,Z1o,Zvn,Zo7,Option.map_some]
theorem Zpo (l:List Sess) (p:Sess→Option Bool) (q:Sess→Bool) (hl:l.length≤4000000000000000000) (hp:∀x∈l,p x=some (q x)):Zm7 l p=some (plc (l.findIdx? q)):=by
 unfold Zm7
 refine Z7o l _ q hl (fun k x hx=>?_) ?_
 ·simp only [Zl7,Z0o hx,Zun,Zyn hx,OB,hp x (List.mem_iff_getElem?.2 ⟨k,hx⟩),Z3o hx hl]
  cases q x<;>rfl
 ·simp only [Zl7,Z1o,Zvn,Zk7,Option.map_some]
theorem Zqo (l:List Side) (p:Side→Option Bool) (q:Side→Bool) (hl:l.length≤4000000000000000000) (hp:∀x∈l,p x=some (q x)):Zpa l p=some (l.any q):=by
 unfold Zpa
 rw [Zmo l p q hl hp,OB,Z5o,Z8o]
theorem Zro (l:List KE) (p:KE→Option Bool) (q:KE→Bool) (hl:l.length≤4000000000000000000) (hp:∀x∈l,p x=some (q x)):Zra l p=some (l.any q):=by
 unfold Zra
 rw [Zno l p q hl hp,OB,Z5o,Z8o]
theorem Zso (l:List Int) (p:Int→Option Bool) (q:Int→Bool) (hl:l.length≤4000000000000000000) (hp:∀x∈l,p x=some (q x)):Zva l p=some (l.any q):=by
 unfold Zva
 rw [Zoo l p q hl hp,OB,Z5o,Z8o]
theorem Zto (l:List Sess) (p:Sess→Option Bool) (q:Sess→Bool) (hl:l.length≤4000000000000000000) (hp:∀x∈l,p x=some (q x)):Zta l p=some (l.any q):=by
 unfold Zta
 rw [Zpo l p q hl hp,OB,Z5o,Z8o]
theorem wr_pred {k:Nat} (h:k≤4000000000000000000):wr (((k+1:Nat):Int)-1)=(k:Int):=by
 rw [Zxn (by omega) (by omega)];omega
theorem Zuo {α:Type} (l:List α) (p q:α→Bool) (h:∀x,p x=!q x):l.any p=!l.all q:=by
 induction l with
 | nil=>rfl
 | cons x l ih=>simp [ih,h]
theorem pw_chain {l:List Int} (h:l.Pairwise (· < ·)) {k:Nat} {x y:Int} (hx:l[k]?=some x) (hy:l[k+1]?=some y):x<y:=by
 rw [List.pairwise_iff_getElem] at h
 obtain ⟨h1,rfl⟩:=List.getElem?_eq_some_iff.1 hx
 obtain ⟨h2,rfl⟩:=List.getElem?_eq_some_iff.1 hy
 exact h k (k+1) h1 h2 (by omega)
theorem compact_pw {l:List Int} (h:l.Pairwise (· < ·)):Lib.compact l=l:=by
 refine Lib.compact_all l fun j hj=>?_
 cases j with
 | zero=>exact Lib.keeps_lt_one _ 0 (by omega)
 | succ j=>
   have hx:l[j+1]?=some l[j+1]:=List.getElem?_eq_getElem hj
   have hy:l[j]?=some l[j]:=List.getElem?_eq_getElem (by omega)
   have:=pw_chain h hy hx
   refine Lib.keeps_pos ?_
   simp only [Nat.add_sub_cancel]
   rw [getElem!_pos _ _ (by simpa using hj),getElem!_pos _ _ (by simp;omega)]
   simp only [List.getElem_toArray]
   omega
def Zwo (l:List Int):List Int:=Lib.compact (l.mergeSort fun x y=>decide (x≤y))
theorem s_setL (l:List Int) (hl:l.length≤1000000):Zya l=some (Zwo l):=by
 simp only [Zya,Zw7]
 rw [Zzn _ _ (by omega) (by simp;omega),OB,List.nil_append,DT (by omega),Zun]
 rfl
theorem Zxo (l m:List Int) (hl:l.length≤1000000):Zu7 l m=some (decide (l=m)):=by
 simp only [Zu7,Zlo]
 by_cases h:l.length=m.length
 ·simp only [h,decide_true,Bool.not_true,Zvn]
  rw [Zio l m _ (fun x y=>decide (x=y)) h (by omega) (fun k x y hx hy=>by
   simp only [Zt7,Z0o hx,Zun,Zyn hx,Zyn hy,OB,Z3o hx (show l.length≤4000000000000000000 by omega),Zwn,Option.map_some]
   cases decide (x=y)<;>rfl) (by simp only [Zt7,Z1o,Zvn,Zs7,Option.map_some]),Zjo l m h]
 ·simp [h,Zko h]
theorem s_Grow (n:Nat) (hn:n≤3000000):Z2b n=some []:=by
 have e0:wr (0-0)=0:=Zxn (by omega) (by omega)
 have e1:wr ((n:Int)-0)=n:=by rw [Zxn (by omega) (by omega)];omega
 simp only [Z2b,Z1b,Z0b,e0,e1]
 rw [DN (by omega),Zvn]
 by_cases h:0<n
 ·rw [DT (by omega),Zun]
  unfold apz_
  rw [if_pos ⟨by omega,by omega,by omega⟩,OB]
  unfold sub_
  rw [if_pos ⟨by omega,by omega,by omega⟩]
  simp
 ·rw [DN (by omega),Zvn]
theorem s_Concat (a b:List Int) (ha:a.length≤1000000) (hb:b.length≤1000000):Zed [a,b]=some (a++b):=by
 have g0:at_ [a,b] 0=some a:=rfl
 have g1:at_ [a,b] (wr (0+1))=some b:=by rw [Zxn (by omega) (by omega)];rfl
 have l0:ln (Z15 1 Z05) [a,b]=2:=by rw [ln_eq];rfl
 have w1:wr (0+1)=1:=Zxn (by omega) (by omega)
 have w2:wr (1+1)=2:=Zxn (by omega) (by omega)
 have s1:wr (0+ln Z05 a)=(a.length:Int):=by rw [ln_eq,Zxn (by omega) (by omega)];omega
 have s2:wr ((a.length:Int)+ln Z05 b)=((a.length+b.length:Nat):Int):=by rw [ln_eq,Zxn (by omega) (by omega)];omega
 unfold Zed
 rw [loop_eq]
 dsimp only [Zdd]
 rw [l0,show decide ((0:Int)<2)=true from rfl,Zun,g0,OB,s1,DN (by omega),Zvn]
 dsimp only [Zcd]
 rw [s1,w1,loop_eq]
 dsimp only [Zdd]
 rw [l0,show decide ((1:Int)<2)=true from rfl,Zun,←w1,g1,OB,s2,DN (by omega),Zvn]
 dsimp only [Zcd]
 rw [s2,w1,w2,loop_eq]
 dsimp only [Zdd]
 rw [l0,show decide ((2:Int)<2)=false from rfl,Zvn]
 dsimp only [Zbd]
 rw [s_Grow _ (by omega),OB]
 have k:loop (Zad [a,b]) (0,[])=some (a++b):=by
  rw [loop_eq]
  dsimp only [Zad]
  rw [l0,show decide ((0:Int)<2)=true from rfl,Zun,g0,OB,Zzn _ _ (by omega) (by simp;omega),OB,List.nil_append,w1]
  dsimp only
  rw [loop_eq]
  dsimp only [Zad]
  rw [l0,show decide ((1:Int)<2)=true from rfl,Zun,←w1,g1,OB,Zzn _ _ (by omega) (by omega),OB,w1,w2]
  dsimp only
  rw [loop_eq]
  dsimp only [Zad]
  rw [l0,show decide ((2:Int)<2)=false from rfl,Zvn]
  rfl
 rw [k];rfl
theorem Zyo (l:List Int) (x:Int) (hl:l.length≤1000000):Z4b l x=some (decide (x∈l)):=by
 have h1:Z18 l x=some (plc (l.findIdx? fun y=>decide (x=y))):=by
  unfold Z18
  refine Z7o l _ (fun y=>decide (x=y)) (by omega) (fun k y hy=>?_) ?_
  ·simp only [Z08,Z0o hy,Zun,Zyn hy,OB,Z3o hy (show l.length≤4000000000000000000 by omega)]
   cases decide (x=y)<;>rfl
  ·simp only [Z08,Z1o,Zvn,Zz7,Option.map_some]
 simp only [Z4b,h1,OB,Z5o,Z8o]
 congr 1
 rw [Bool.eq_iff_iff,List.any_eq_true,decide_eq_true_iff]
 constructor
 ·rintro ⟨y,hy,h⟩
  have:x=y:=by simpa using h
  exact this ▸ hy
 ·intro h;exact ⟨x,h,by simp⟩
theorem Zzo (l:List Int) (x:Int) (hl:l.length≤1000000):Zgd l x=some (decide (x∈l)):=by
 simp only [Zgd,Zyo l x hl,OB]
theorem Z0p {zs:List Int} (h:zs.Pairwise (· ≤ ·)):(Lib.compact zs).Pairwise (· < ·)∧∀x,x∈Lib.compact zs↔x∈zs:=by
 have get:∀j,j<zs.length→∃hj:j<zs.length,zs.toArray[j]! = zs[j]:=fun j hj=>⟨hj,by rw [getElem!_pos _ _ (by simpa using hj)];simp⟩
 have mono:∀i j,i≤j→j<zs.length→zs.toArray[i]!≤zs.toArray[j]!:=fun i j h8 hj=>by
  obtain ⟨_,e1⟩:=get i (by omega)
  obtain ⟨_,e2⟩:=get j hj
  rw [e1,e2]
  by_cases e:i=j
  ·subst e;exact Int.le_refl _
  ·rw [List.pairwise_iff_getElem] at h
   exact h i j (by omega) hj (by omega)
 have key:∀m,m≤zs.length→(Lib.compactUpTo zs.toArray m).Pairwise (· < ·)∧(∀x,x∈Lib.compactUpTo zs.toArray m↔∃j,j<m∧x=zs.toArray[j]!):=by
  intro m
  induction m with
  | zero=>intro _;exact ⟨by simp [Lib.compactUpTo],fun x=>by simp [Lib.compactUpTo]⟩
  | succ m ih=>
    intro hm
    obtain ⟨h1,h2⟩:=ih (by omega)
    rw [Lib.compactUpTo_succ]
    cases hk:Lib.keeps zs.toArray m with
    | true=>
      rw [if_pos rfl]
      refine ⟨?_,fun x=>?_⟩
      ·rw [List.pairwise_append]
       refine ⟨h1,by simp,fun x hx y hy=>?_⟩
       rw [List.mem_singleton] at hy
       subst hy
       obtain ⟨j,hj,rfl⟩:=(h2 x).1 hx
       unfold Lib.keeps at hk
       simp only [decide_eq_true_eq] at hk
       have a1:=mono j (m-1) (by omega) (by omega)
       have a2:=mono (m-1) m (by omega) (by omega)
       rcases hk with e | e
       ·omega
       ·have:zs.toArray[m]!≠zs.toArray[m-1]!:=e
        omega
      ·rw [List.mem_append,h2]
       constructor
       ·rintro (⟨j,hj,e⟩ | e)
        ·exact ⟨j,by omega,e⟩
        ·simp at e;exact ⟨m,by omega,by simpa using e⟩
       ·rintro ⟨j,hj,e⟩
        by_cases h6:j=m
        ·subst h6;right;simp [e]
        ·exact .inl ⟨j,by omega,e⟩
    | false=>
      rw [if_neg (by simp),List.append_nil]
      refine ⟨h1,fun x=>?_⟩
      rw [h2]
      constructor
      ·rintro ⟨j,hj,e⟩;exact ⟨j,by omega,e⟩
      ·rintro ⟨j,hj,e⟩
       by_cases h6:j=m
       ·subst h6
        unfold Lib.keeps at hk
        simp only [decide_eq_false_iff_not,not_or,Classical.not_not] at hk
        exact ⟨j-1,by omega,by rw [e,hk.2]⟩
       ·exact ⟨j,by omega,e⟩
 obtain ⟨k1,k2⟩:=key zs.length (Nat.le_refl _)
 refine ⟨k1,fun x=>?_⟩
 have:=k2 x
 unfold Lib.compact
 rw [this]
 constructor
 ·rintro ⟨j,hj,e⟩
  obtain ⟨_,e1⟩:=get j hj
  rw [e,e1];exact List.getElem_mem hj
 ·intro hx
  obtain ⟨j,hj,e⟩:=List.mem_iff_getElem.1 hx
  obtain ⟨_,e1⟩:=get j hj
  exact ⟨j,hj,by rw [e1,e]⟩
theorem Z1p (l:List Int):(Zwo l).Pairwise (· < ·)∧∀x,x∈Zwo l↔x∈l:=by
 have hs:(l.mergeSort fun x y=>decide (x≤y)).Pairwise (· ≤ ·):=by
  have:=List.pairwise_mergeSort (le:=fun x y:Int=>decide (x≤y)) (by intro a b c;simp;omega) (by intro a b;simp;omega) l
  exact this.imp fun h=>by simpa using h
 obtain ⟨h1,h2⟩:=Z0p hs
 refine ⟨h1,fun x=>?_⟩
 unfold Zwo
 rw [h2]
 exact (List.mergeSort_perm l _).mem_iff
theorem pw_len:∀(l:List Int) (q n:Int),l.Pairwise (· < ·)→(∀x∈l,q≤x∧x<n)→l=[]∨(l.length:Int)≤n-q
 | [],_,_,_,_=>.inl rfl
 | x::l,q,n,h,hb=>by
   rw [List.pairwise_cons] at h
   have h1:=hb x (by simp)
   right
   rcases pw_len l (x+1) n h.2 (fun y hy=>⟨by have:=h.1 y hy;omega,(hb y (by simp [hy])).2⟩) with rfl | h2
   ·simp only [List.length_cons,List.length_nil];omega
   ·simp only [List.length_cons];omega
theorem pw2 {x y:Int} {r:List Int}:(x::y::r).Pairwise (· < ·)↔x<y∧(y::r).Pairwise (· < ·):=by
 constructor
 ·intro h
  rw [List.pairwise_cons] at h
  exact ⟨h.1 y (by simp),h.2⟩
 ·rintro ⟨h,k⟩
  rw [List.pairwise_cons]
  refine ⟨fun z hz=>?_,k⟩
  rw [List.pairwise_cons] at k
  rcases List.mem_cons.1 hz with rfl | hz
  ·exact h
  ·have:=k.1 z hz;omega
theorem s_Valid (l:List Int) (hl:l.length≤1000000):Z78 l=some (decide (l.Pairwise (· < ·))):=by
 unfold Z78
 have key:=loop_natI l.length (Z68 l) (fun k=>(k:Int)) (fun k=>some (decide ((l.drop (k-1)).Pairwise (· < ·)))) (fun k hk=>?_) ?_
 ·simpa using key
 ·obtain ⟨y,hy⟩:∃y,l[k]?=some y:=⟨_,List.getElem?_eq_getElem hk⟩
  dsimp only [Z68]
  rw [Z0o hy,Zun]
  cases k with
  | zero=>
    left
    rw [DN (by omega),Zvn]
    dsimp only [Z58]
    rw [Zvn,Z2o (by omega)]
    exact ⟨rfl,rfl⟩
  | succ k=>
    obtain ⟨x,hx⟩:∃x,l[k]?=some x:=⟨_,List.getElem?_eq_getElem (by omega)⟩
    have e1:l.drop k=x::l.drop (k+1):=by
     obtain ⟨h1,rfl⟩:=List.getElem?_eq_some_iff.1 hx
     exact List.drop_eq_getElem_cons h1
    have e2:l.drop (k+1)=y::l.drop (k+2):=by
     obtain ⟨h1,rfl⟩:=List.getElem?_eq_some_iff.1 hy
     exact List.drop_eq_getElem_cons h1
    rw [DT (by omega),Zun,wr_pred (by omega),Zyn hx,OB,Zyn hy,OB]
    dsimp only [Z58]
    rw [show k+1-1=k from rfl,show k+1+1-1=k+1 from rfl,e1,e2,decide_eq_decide.2 (pw2 (x:=x) (y:=y) (r:=l.drop (k+2)))]
    by_cases h:y≤x
    ·right
     refine ⟨false,by rw [DT h,Zun];rfl,?_⟩
     rw [DN (by rintro ⟨h1,_⟩;omega)]
    ·left
     refine ⟨by rw [DN h,Zvn,Z2o (by omega)],?_⟩
     have:x<y:=by omega
     simp [this]
 ·dsimp only [Z68]
  rw [Z1o,Zvn]
  have:(l.drop (l.length-1)).Pairwise (· < ·):=by
   have h1:(l.drop (l.length-1)).length≤1:=by rw [List.length_drop];omega
   generalize l.drop (l.length-1)=q at h1
   match q,h1 with
   | [],_=>exact .nil
   | [x],_=>exact List.pairwise_singleton _ _
  rw [DT this];rfl
theorem Z2p {α:Type} (f:α→Bool) (pre post:List α) (x:α):∃d,(pre++x::post).drop (pre.filter f).length=d::(pre++x::post).drop ((pre.filter f).length+1):=by
 have h1:(pre.filter f).length≤pre.length:=List.length_filter_le _ _
 have h2:(pre.filter f).length<(pre++x::post).length:=by simp;omega
 exact ⟨_,List.drop_eq_getElem_cons h2⟩
theorem s_DeleteFunc (l:List Int) (p:Int→Option Bool) (q:Int→Bool) (hl:l.length≤1000000) (hp:∀x∈l,p x=some (q x)):Zld l p=some (l.filter fun x=>!q x):=by
 simp only [Zld,Zoo l p q (by omega) hp,OB]
 cases hf:l.findIdx? q with
 | none=>
   rw [List.findIdx?_eq_none_iff] at hf
   rw [show plc none = -1 from rfl,DT rfl,Zun,List.filter_eq_self.2 (fun x hx=>by rw [hf x hx];rfl)]
 | some i=>
   obtain ⟨hi,hq,hn⟩:=List.findIdx?_eq_some_iff_getElem.1 hf
   rw [show plc (some i)=(i:Int) from rfl,DN (by omega),Zvn,Z2o (by omega)]
   let F:List Int→List Int:=fun pre=>pre.filter fun x=>!q x
   have hF:∀pre post,l=pre++post→(F pre).length≤pre.length:=fun pre post _=>List.length_filter_le _ _
   have key:=Z9o l (Zkd p) (fun pre=>(((F pre).length:Int),(pre.length:Int),F pre++l.drop (F pre).length)) (fun _ _=>some (F l)) (fun pre x post h=>?_) ?_ (l.drop (i+1)) (l.take (i+1)) (by simp)
   ·have e1:F (l.take (i+1))=l.take i:=by
     show (l.take (i+1)).filter _=_
     rw [List.take_succ_eq_append_getElem hi,List.filter_append]
     have a1:(l.take i).filter (fun x=>!q x)=l.take i:=by
      rw [List.filter_eq_self]
      intro x hx
      obtain ⟨j,hj,rfl⟩:=List.mem_iff_getElem.1 hx
      rw [List.getElem_take]
      have:=hn j (by simp at hj;omega)
      simpa using this
     have a2: [l[i]].filter (fun x=>!q x)=[]:=by simp [hq]
     rw [a1,a2,List.append_nil]
    rw [e1] at key
    have e2:(l.take i).length=i:=by simp;omega
    have e3:(l.take (i+1)).length=i+1:=by simp;omega
    rw [e2,e3,List.take_append_drop] at key
    exact key
   ·left
    refine ⟨?_,rfl⟩
    have hx:=Zco h
    have hm:=Zdo h
    have h8:=hF pre (x::post) h
    have h6:(F pre++l.drop (F pre).length).length=l.length:=by simp;omega
    have h9:(F pre++l.drop (F pre).length)[pre.length]?=some x:=by
     rw [List.getElem?_append_right h8,List.getElem?_drop,show (F pre).length+(pre.length-(F pre).length)=pre.length by omega];exact hx
    dsimp only [Zkd]
    rw [Z0o h9,Zun,Zyn h9,OB,hp x (Zeo h),OB]
    have hc:F (pre++[x])=F pre++(if q x then [] else [x]):=by
     show (pre++[x]).filter _=_
     rw [List.filter_append]
     congr 1
     cases ho:q x<;>simp [ho]
    cases he:q x with
    | true=>
      rw [Bool.not_true,Zvn]
      dsimp only [Zjd]
      rw [Z2o (by omega),hc,he,if_pos rfl,List.append_nil,Zho]
    | false=>
      rw [Bool.not_false,Zun]
      obtain ⟨d,hd⟩:=Z2p (fun x=>!q x) pre post x
      rw [←h] at hd
      have hd':l.drop (F pre).length=d::l.drop ((F pre).length+1):=hd
      have hw:(F pre++l.drop (F pre).length)[(F pre).length]?=some d:=by rw [hd'];simp
      rw [Zyn hw,OB]
      dsimp only [Zjd]
      rw [Z2o (by omega),Z2o (by omega),hc,he,if_neg (by simp),Zho,hd',Int.toNat_natCast,Zho]
      simp
   ·dsimp only [Zkd]
    have h8:=hF l [] (by simp)
    have h6:(F l++l.drop (F l).length).length=l.length:=by simp;omega
    rw [show ((l.length:Int))=((F l++l.drop (F l).length).length:Int) by rw [h6],Z1o,Zvn]
    dsimp only [Zid]
    unfold vw_
    rw [ln_eq,h6,if_pos ⟨by omega,by omega,by omega,by omega⟩,OB]
    unfold clr_
    rw [h6,if_pos ⟨by omega,by simp;omega⟩,OB]
    unfold sub_
    rw [if_pos ⟨by omega,by omega,by simp;omega⟩,OB]
    simp [Int.toNat_natCast,List.append_assoc]
theorem Z3p (l:List Int):(Zwo l).length≤l.length:=by
 have:=Lib.compact_length_le (l.mergeSort fun x y=>decide (x≤y))
 rw [List.length_mergeSort] at this
 exact this
theorem setL_pw {l:List Int} (h:l.Pairwise (· < ·)):Zwo l=l:=by
 unfold Zwo
 rw [List.mergeSort_of_pairwise (h.imp fun h6=>DT (by omega)),compact_pw h]
theorem s_keep (l:List Int) (p:Int→Option Bool) (q:Int→Bool) (hl:l.length≤1000000) (hp:∀x∈l,p x=some (q x)):Zif l p=some ((Zwo l).filter q):=by
 have h1:=Z3p l
 simp only [Zif,s_setL l hl,OB]
 rw [s_DeleteFunc (Zwo l) _ (fun x=>!q x) (by omega) (fun x hx=>by simp only [Z38,hp x (((Z1p l).2 x).1 hx),OB]),OB]
 simp
theorem s_Minus (a b:List Int) (ha:a.length≤1000000) (hb:b.length≤1000000):Zag a b=some ((Zwo a).filter fun z=>!decide (z∈b)):=by
 simp only [Zag]
 rw [s_keep a _ (fun z=>!decide (z∈b)) ha (fun x _=>by simp only [Zhf,Zzo b x hb,OB]),OB]
theorem s_Within (a b:List Int) (ha:a.length≤1000000) (hb:b.length≤1000000):Zlh a b=some (a.all fun z=>decide (z∈b)):=by
 simp only [Zlh,s_Minus a b ha hb,OB,ln_eq]
 congr 1
 rw [Bool.eq_iff_iff,decide_eq_true_eq,List.all_eq_true]
 have:((((Zwo a).filter fun z=>!decide (z∈b)).length:Nat):Int)=0↔((Zwo a).filter fun z=>!decide (z∈b))=[]:=by rw [←List.length_eq_zero_iff];omega
 rw [this,List.filter_eq_nil_iff]
 constructor
 ·intro h x hx
  have:=h x (((Z1p a).2 x).2 hx)
  simpa using this
 ·intro h x hx
  have:=h x (((Z1p a).2 x).1 hx)
  simpa using this
theorem s_Del (l:List Int) (x:Int) (hl:l.length≤1000000):Zjh l x=some ((Zwo l).filter fun z=>!decide (z∈ [x])):=by
 simp only [Zjh,s_Minus l [x] hl (by simp),OB]
theorem s_Add (l:List Int) (x:Int) (hl:l.length≤900000):Z9g l x=some (Zwo (l++[x])):=by
 simp only [Z9g,Zgf,s_Concat l [x] (by omega) (by simp),OB,s_setL (l++[x]) (by simp;omega)]
def Z4p:Book:=⟨0,[]⟩
def Z5p (n:List Int):Bool:=decide (n.length≤64)&&n.all (fun p=>decide (0≤p))
def sessB (last top:Int) (first:Bool) (s:Sess):Bool:=
 decide (last<s.ID)&&(decide (s.ID≤top)&&(Z5p s.Need&&(decide (s.Need.Pairwise (· < ·))&&(decide (0≤s.Age)&&((decide (s.State=1)&&first)||(decide (s.State=0)&&decide (s.Age=0)))))))
def Z6p (top:Int):Int→Bool→List Sess→Bool
 | _,_,[]=>true
 | last,first,s::l=>sessB last top first s&&Z6p top s.ID false l
def okBk (b:Book):Bool:=decide (0≤b.Last)&&(decide (b.Sess.length≤8)&&Z6p b.Last 0 true b.Sess)
def Z7p (b:Book):Prop:=b.Sess.length≤1000000∧∀s∈b.Sess,s.Need.length≤1000000
theorem s_odd (n:List Int) (hn:n.length≤1000000):Zsd n=some (!Z5p n):=by
 simp only [Zsd,Zrd,ln_eq,Z5p]
 rw [Zso n _ (fun z=>decide (z<0)) (by omega) (fun x _=>by simp only [Zb8])]
 have:n.any (fun z=>decide (z<0))=!n.all (fun p=>decide (0≤p)):=Zuo _ _ _ fun x=>by
  rw [Bool.eq_iff_iff];simp
 rw [this]
 by_cases h:n.length≤64
 ·rw [DN (by omega),DT h];rfl
 ·rw [DT (by omega),DN h];rfl
def Z8p (pre:List Sess):Int:=match pre.getLast? with | some s=>s.ID | none=>0
theorem lastID_snoc (pre:List Sess) (s:Sess):Z8p (pre++[s])=s.ID:=by simp [Z8p]
theorem s_Check3 (b:Book) (last i:Int) (s:Sess) (g:Bool) (hn:s.Need.length≤1000000):Znf b last i s g =
  if decide (last<s.ID)&&(decide (s.ID≤b.Last)&&(Z5p s.Need&&(decide (s.Need.Pairwise (· < ·))&&(decide (0≤s.Age)&&(g||(decide (s.State=0)&&decide (s.Age=0))))))) then some (.inl (s.ID,wr (i+1))) else some (.inr 170):=by
 have e4:∀z,Zmf i s g z=if !z&&(g||(decide (s.State=0)&&decide (s.Age=0))) then some (.inl (s.ID,wr (i+1))) else some (.inr 170):=fun z=>by
  simp only [Zmf,Zlf]
  cases z
  ·cases g
   ·by_cases h1:s.State=0
    ·by_cases h2:s.Age=0<;>simp [h1,h2]
    ·simp [h1]
   ·simp
  ·simp
 simp only [Znf,s_odd s.Need hn,s_Valid s.Need hn,OB,e4]
 by_cases h1:s.ID≤last
 ·rw [DT h1,Zun,DN (show ¬last<s.ID by omega)];simp
 ·rw [DN h1,Zvn,DT (show last<s.ID by omega),Bool.true_and]
  by_cases h2:b.Last<s.ID
  ·rw [DT h2,Zun,DN (show ¬s.ID≤b.Last by omega)];simp
  ·rw [DN h2,Zvn,DT (show s.ID≤b.Last by omega),Bool.true_and]
   cases Z5p s.Need
   ·simp
   ·by_cases h3:s.Need.Pairwise (· < ·)
    ·by_cases h4:s.Age<0
     ·have:¬0≤s.Age:=by omega
      simp [h3,h4,this]
     ·have:0≤s.Age:=by omega
      simp [h3,h4,this]
    ·simp [h3]
theorem Z9p (b:Book) (hb:Z7p b):Zqf b=some (if okBk b then 0 else 170):=by
 have hl:loop (Zof b) (0,0)=some (if Z6p b.Last 0 true b.Sess then 0 else 170):=by
  refine Zao b.Sess (Zof b) (fun pre=>(Z8p pre,(pre.length:Int))) (fun pre post=>some (if Z6p b.Last (Z8p pre) pre.isEmpty post then 0 else 170)) (fun pre x post h=>?_) ?_
  ·have hx:=Zco h
   have hm:=Zdo h
   have h1:=hb.1
   dsimp only [Zof]
   rw [Z0o hx,Zun,Zyn hx,OB]
   have e:∀u v:Bool,ifb (decide (x.State=1)) (Znf b (Z8p pre) (pre.length:Int) x u) (Znf b (Z8p pre) (pre.length:Int) x v)=Znf b (Z8p pre) (pre.length:Int) x (if decide (x.State=1) then u else v):=fun u v=>by
    cases decide (x.State=1)<;>rfl
   rw [e,s_Check3 _ _ _ _ _ (hb.2 x (Zeo h)),Z2o (by omega),lastID_snoc,Zho]
   have e2:(if decide (x.State=1)=true then decide ((pre.length:Int)=0) else false)=(decide (x.State=1)&&pre.isEmpty):=by
    cases pre with
    | nil=>cases decide (x.State=1)<;>rfl
    | cons a r=>cases decide (x.State=1)<;>simp<;>omega
   rw [e2]
   show (_∧some (if (sessB (Z8p pre) b.Last pre.isEmpty x&&Z6p b.Last x.ID false post) then (0:Int) else 170)=some (if Z6p b.Last x.ID (pre++[x]).isEmpty post then 0 else 170))∨∃r,_∧some (if (sessB (Z8p pre) b.Last pre.isEmpty x&&Z6p b.Last x.ID false post) then (0:Int) else 170)=some r
   have e3:(pre++[x]).isEmpty=false:=by simp
   rw [e3]
   show ((if sessB (Z8p pre) b.Last pre.isEmpty x then some (Sum.inl (x.ID,((pre.length+1:Nat):Int))) else some (.inr (170:Int)))=_∧_)∨∃r,(if sessB (Z8p pre) b.Last pre.isEmpty x then some (Sum.inl (x.ID,((pre.length+1:Nat):Int))) else some (.inr (170:Int)))=_∧_
   cases sessB (Z8p pre) b.Last pre.isEmpty x
   ·right;exact ⟨170,rfl,rfl⟩
   ·left;exact ⟨rfl,by rw [Bool.true_and]⟩
  ·dsimp only [Zof]
   rw [Z1o,Zvn];rfl
 simp only [Zqf,Zpf,hl,okBk,ln_eq]
 by_cases h1:b.Last<0
 ·have:¬0≤b.Last:=by omega
  simp [h1,this]
 ·have:0≤b.Last:=by omega
  by_cases h2:b.Sess.length≤8
  ·have h3:¬(8:Int)<b.Sess.length:=by omega
   simp [h1,this,h2,h3]
  ·have h3:(8:Int)<b.Sess.length:=by omega
   simp [h1,this,h2,h3]
theorem set_same {α:Type} {l:List α} {k:Nat} {x:α} (h:l[k]?=some x):l.set k x=l:=by
 obtain ⟨h1,rfl⟩:=List.getElem?_eq_some_iff.1 h
 exact List.set_getElem_self h1
theorem Zap (l:List Int) (h:l.length≤1000000):Zw7 l=some l:=by
 simp only [Zw7]
 rw [Zzn _ _ (by omega) (by simp;omega),List.nil_append]
theorem Zbp (l:List Sess) (h:l.length≤1000000):Z98 l=some l:=by
 simp only [Z98]
 rw [Zzn _ _ (by omega) (by simp;omega),List.nil_append]
theorem Zcp (b:Book) (hb:Z7p b):Zpd b=some b.Sess:=by
 have h1:=hb.1
 simp only [Zpd,Zbp b.Sess hb.1,OB]
 refine Zbo b.Sess _ (fun pre=>((pre.length:Int),b.Sess)) b.Sess (fun pre x post h=>?_) ?_
 ·have hx:=Zco h
  have hm:=Zdo h
  dsimp only [Zod]
  rw [Z0o hx,Zun,Zyn hx,OB,Zap _ (hb.2 x (Zeo h)),OB,Z2o (by omega),Int.toNat_natCast,set_same hx,Zho]
 ·dsimp only [Zod]
  rw [Z1o,Zvn];rfl
def Zdp (b:Book) (id:Int):Option Nat:=b.Sess.findIdx? fun s=>decide (s.ID=id)
theorem s_find (b:Book) (id:Int) (hb:b.Sess.length≤1000000):Z9b b id=some (plc (Zdp b id)):=by
 simp only [Z9b]
 rw [Zpo b.Sess _ (fun s=>decide (s.ID=id)) (by omega) (fun x _=>by simp only [Zc8]),OB]
 rfl
theorem Zep (l:List Sess) (i:Nat) (hi:i<l.length) (hl:l.length≤1000000):Z7b (i:Int) ((i+1:Nat):Int) l=some (l.take i++l.drop (i+1)):=by
 simp only [Z7b,ln_eq]
 unfold vw_
 rw [if_pos ⟨by omega,by omega,by omega,by omega⟩,OB,if_pos ⟨by omega,by omega,by omega,by omega⟩,OB,DN (by omega),Zvn,if_pos ⟨by omega,by omega,by omega,by omega⟩,OB]
 have t1:Int.toNat (i:Int)-Int.toNat 0=i:=by omega
 have t2:Int.toNat ((l.length:Nat):Int)-Int.toNat ((i+1:Nat):Int)=l.length-(i+1):=by omega
 have t3:Int.toNat ((i+1:Nat):Int)=i+1:=by omega
 rw [t1,t2,t3]
 unfold mvv_
 rw [if_pos ⟨by omega,by omega,by omega⟩,OB]
 have e1:(l.take (i+1+(l.length-(i+1)))).drop (i+1)=l.drop (i+1):=by
  rw [List.take_of_length_le (by omega)]
 have e2:(l.take i++l.drop (i+1)).length=l.length-1:=by simp;omega
 rw [e1]
 have e3:i+(l.length-(i+1))=l.length-1:=by omega
 simp only [Z6b,ln_eq,t1,t2,e3]
 have h6:(l.take i++l.drop (i+1)++l.drop (l.length-1)).length=l.length:=by rw [List.length_append,e2,List.length_drop];omega
 rw [OB,h6]
 unfold vw_
 rw [if_pos ⟨by omega,by omega,by omega,by omega⟩,OB]
 have t4:Int.toNat ((l.length-1:Nat):Int)=l.length-1:=by omega
 have t5:Int.toNat ((l.length:Nat):Int)-(l.length-1)=1:=by omega
 rw [t4,t5]
 unfold clr_
 rw [h6,if_pos ⟨by omega,by omega⟩,OB]
 unfold cut_
 have e4:(l.take i++l.drop (i+1)++l.drop (l.length-1)).take (l.length-1)=l.take i++l.drop (i+1):=by
  rw [List.take_left' e2]
 rw [e4]
 have h8:(l.take i++l.drop (i+1)++List.replicate 1 (Sess.mk 0 [] 0 0)++(l.take i++l.drop (i+1)++l.drop (l.length-1)).drop (l.length-1+1)).length=l.length:=by
  rw [List.length_append,List.length_append,e2,List.length_drop,h6];simp;omega
 rw [h8,if_pos ⟨by omega,by omega⟩,OB]
 congr 1
 rw [List.append_assoc (l.take i++l.drop (i+1))]
 rw [List.take_left' e2]
def openP (b:Book) (id:Int) (need:List Int):Book×Int:=
 if okBk b then (if id≤b.Last then (Z4p,171) else if Z5p (Zwo need) then (if b.Sess.length=8 then (Z4p,173) else (⟨id,b.Sess++[⟨id,Zwo need,0,0⟩]⟩,0)) else (Z4p,172)) else (Z4p,170)
theorem s_Open (b:Book) (id:Int) (need:List Int) (hb:Z7p b) (hn:need.length≤1000000):Zdg b id need=some (openP b id need):=by
 have hs:=Z3p need
 have h1:=hb.1
 simp only [Zdg,s_setL need hn,Z9p b hb,s_odd (Zwo need) (by omega),OB,Zcg,Zcp b hb,openP,ln_eq]
 rw [Zzn _ _ (by omega) (by simp;omega),OB]
 cases hk:okBk b
 ·rfl
 ·simp only [if_true]
  simp only [decide_true,Bool.not_true,Zvn]
  by_cases h2:id≤b.Last
  ·simp [h2,Z4p]
  ·cases h3:Z5p (Zwo need)
   ·simp [h2,Z4p]
   ·by_cases h4:b.Sess.length=8
    ·simp [h2,h4,Z4p]
    ·have:¬(b.Sess.length:Int)=8:=by omega
     simp [h2,h4,this]
def grantP (b:Book):Book×Int×Int:=
 if okBk b then (match b.Sess with | []=>(Z4p,0,175) | s::l=>if s.State=1 then (Z4p,0,175) else (⟨b.Last,⟨s.ID,s.Need,1,s.Age⟩::l⟩,s.ID,0)) else (Z4p,0,170)
theorem s_Grant (b:Book) (hb:Z7p b):Zhg b=some (grantP b):=by
 simp only [Zhg,Z9p b hb,OB,Zgg,Zcp b hb,grantP,ln_eq]
 cases hk:okBk b
 ·rfl
 ·simp only [if_true]
  simp only [decide_true,Bool.not_true,Zvn]
  cases hs:b.Sess with
  | nil=>simp [Z4p]
  | cons s l=>
    have h0:at_ (s::l) 0=some s:=rfl
    have:¬(((s::l).length:Nat):Int)=0:=by simp;omega
    rw [DN this,Zvn,h0,OB]
    by_cases h1:s.State=1
    ·simp [h1,Z4p]
    ·simp [h1]
def endP (b:Book) (id want:Int):Book×Int:=
 if okBk b then (match Zdp b id with
  | none=>(Z4p,174)
  | some i=>match b.Sess[i]? with
    | none=>(Z4p,174)
    | some s=>if s.State=want then (⟨b.Last,b.Sess.take i++b.Sess.drop (i+1)⟩,0) else (Z4p,175)) else (Z4p,170)
theorem findB_lt {b:Book} {id:Int} {i:Nat} (h:Zdp b id=some i):∃s,b.Sess[i]?=some s∧s.ID=id:=by
 obtain ⟨hi,hq,_⟩:=List.findIdx?_eq_some_iff_getElem.1 h
 exact ⟨_,List.getElem?_eq_getElem hi,by simpa using hq⟩
theorem s_end (b:Book) (id want:Int) (hb:Z7p b):Zqh b id want=some (endP b id want):=by
 have h1:=hb.1
 simp only [Zqh,Zjg,Z9p b hb,s_find b id hb.1,OB,endP]
 cases hk:okBk b
 ·simp [Zph,Zoh,Z4p]
 ·simp only [if_true]
  simp only [decide_true,Bool.not_true,Zvn]
  cases hf:Zdp b id with
  | none=>simp [plc,Zph,Zoh,Z4p]
  | some i=>
    obtain ⟨s,hs,_⟩:=findB_lt hf
    have hi:=(List.getElem?_eq_some_iff.1 hs).1
    rw [show plc (some i)=(i:Int) from rfl,DN (by omega),Zvn,Zyn hs,OB,OB]
    simp only [hs,decide_true,Zun,Zph,Zoh]
    by_cases h2:s.State=want
    ·have hf':Zdp ⟨b.Last,b.Sess⟩ id=some i:=hf
     simp only [h2,decide_true,Bool.not_true,Zvn,Zcp b hb,OB,s_find ⟨b.Last,b.Sess⟩ id hb.1,hf',if_true]
     rw [show plc (some i)=(i:Int) from rfl,Z2o (by omega),Zep b.Sess i hi hb.1,OB]
    ·simp [h2,Z4p]
theorem s_Release (b:Book) (id:Int) (hb:Z7p b):Z7i b id=some (endP b id 1):=by
 simp only [Z7i,s_end b id 1 hb,OB]
theorem s_Cancel (b:Book) (id:Int) (hb:Z7p b):Z9i b id=some (endP b id 0):=by
 simp only [Z9i,s_end b id 0 hb,OB]
theorem Side_eqB (x y:Side):(decide (x.Peer=y.Peer)&&(decide (x.Epoch=y.Epoch)&&(decide (x.State=y.State)&&((x.Fork==y.Fork)&&((x.DY==y.DY)&&((x.Token==y.Token)&&((x.BO==y.BO)&&((x.Ask==y.Ask)&&true))))))))=decide (x=y):=by
 rw [Bool.eq_iff_iff];cases x;cases y;simp [Side.mk.injEq]
theorem s_EqualSide (l m:List Side) (hl:l.length≤1000000):Zf8 l m=some (decide (l=m)):=by
 simp only [Zf8,Zlo]
 by_cases h:l.length=m.length
 ·simp only [h,decide_true,Bool.not_true,Zvn]
  rw [Zio l m _ (fun x y=>decide (x=y)) h (by omega) (fun k x y hx hy=>by
   simp only [Ze8,Z0o hx,Zun,Zyn hx,Zyn hy,OB,Side_eqB,Z3o hx (show l.length≤4000000000000000000 by omega),Zwn]
   cases decide (x=y)<;>rfl) (by simp only [Ze8,Z1o,Zvn,Zd8,Option.map_some]),Zjo l m h]
 ·simp [h,Zko h]
theorem s_r12SameOne (a b:DI) (hl:a.SD.length≤1000000):Zxl a b=some (decide (a=b)):=by
 obtain ⟨a1,a2,l⟩:=a
 obtain ⟨b1,b2,m⟩:=b
 dsimp only at hl
 simp only [Zxl,Zwl,Zlo,DI.mk.injEq]
 by_cases h1:a1=b1
 ·by_cases h2:a2=b2
  ·by_cases h:l.length=m.length
   ·simp only [h1,h2,h,decide_true,Bool.not_true,Zvn,true_and]
    rw [Zio l m _ (fun x y=>decide (x=y)) h (by omega) (fun k x y hx hy=>by
     simp only [Zvl,Z0o hx,Zun,Zyn hx,Zyn hy,OB,Side_eqB,Z3o hx (show l.length≤4000000000000000000 by omega),Zwn,Option.map_some]
     cases decide (x=y)<;>rfl) (by simp only [Zvl,Z1o,Zvn,Zul,Option.map_some]),Zjo l m h]
   ·have:=Zko h
    simp [h1,h2,h];rintro rfl;exact h rfl
  ·simp [h1,h2]
 ·simp [h1]
def side0:Side:=⟨0,0,0,false,false,false,false,false⟩
def Zjp (id q:Int) (x:Side):Bool:=decide (q<x.Peer)&&(!decide (x.Peer=id)&&(decide (0≤x.Epoch)&&(decide (x.Epoch≤65535)&&(decide (0≤x.State)&&(decide (x.State≤3)&&!(x.DY&&!x.Fork))))))
def Zkp (id:Int):Int→List Side→Bool
 | _,[]=>true
 | q,x::r=>Zjp id q x&&Zkp id x.Peer r
def okD (d:DI):Bool:=decide (0≤d.ID)&&(decide (0≤d.PH)&&(decide (d.PH≤2)&&(decide (d.SD.length<64)&&Zkp d.ID (-1) d.SD)))
theorem s_oddD (x:Side) (d:DI) (q:Int):Zdb x q d=some (!Zjp d.ID q x):=by
 simp only [Zdb,Zcb,Zbb,Zjp]
 by_cases h1:q<x.Peer
 ·by_cases h2:x.Peer=d.ID
  ·have h1':q<d.ID:=h2 ▸ h1
   simp [h2,h1']
  ·by_cases h3:x.Epoch<0
   ·have:¬0≤x.Epoch:=by omega
    simp [h1,h2,h3,this]
   ·have h3':0≤x.Epoch:=by omega
    by_cases h4:65535<x.Epoch
    ·have:¬x.Epoch≤65535:=by omega
     simp [h1,h2,h3,h4,this]
    ·have h4':x.Epoch≤65535:=by omega
     by_cases h5:x.State<0
     ·have:¬0≤x.State:=by omega
      simp [h1,h2,h3,h4,h5,this]
     ·have h5':0≤x.State:=by omega
      by_cases h6:3<x.State
      ·have:¬x.State≤3:=by omega
       simp [h1,h2,h3,h4,h5,h6,this]
      ·have h6':x.State≤3:=by omega
       simp only [h1,h2,h3,h4,h5,h6,h3',h4',h5',h6',decide_true,decide_false,Zun,Zvn,Bool.not_true,Bool.not_false,Bool.true_and]
       cases x.DY<;>cases x.Fork<;>rfl
 ·simp [h1]
def Zlp (id:Int):Nat→Int→List Side→Int×Int
 | _,q,[]=>(-1,q)
 | k,q,x::r=>if Zjp id q x then Zlp id (k+1) x.Peer r else (k,x.Peer)
theorem scanD_ok (id:Int):∀(l:List Side) (k:Nat) (q:Int),decide (0≤(Zlp id k q l).1)=!Zkp id q l
 | [],k,q=>by simp [Zlp,Zkp]
 | x::r,k,q=>by
   by_cases h:Zjp id q x=true
   ·have e1:Zlp id k q (x::r)=Zlp id (k+1) x.Peer r:=by simp [Zlp,h]
    rw [e1,scanD_ok id r (k+1) x.Peer]
    simp [Zkp,h]
   ·have h':Zjp id q x=false:=by simpa using h
    have e1:Zlp id k q (x::r)=((k:Int),x.Peer):=by simp [Zlp,h']
    rw [e1]
    simp [Zkp,h']
def lastQ (q:Int) (pre:List Side):Int:=match pre.getLast? with | some x=>x.Peer | none=>q
theorem Zmp (q:Int) (pre:List Side) (x:Side):lastQ q (pre++[x])=x.Peer:=by simp [lastQ]
theorem s_dCheck (d:DI):Zlg d=some (if okD d then 0 else 130):=by
 simp only [Zlg,Zkg,okD]
 by_cases h1:d.ID<0
 ·have:¬0≤d.ID:=by omega
  simp [h1,this]
 have h1':0≤d.ID:=by omega
 by_cases h2:d.PH<0
 ·have:¬0≤d.PH:=by omega
  simp [h1,h2,this]
 have h2':0≤d.PH:=by omega
 by_cases h3:2<d.PH
 ·have:¬d.PH≤2:=by omega
  simp [h1,h2,h3,this]
 have h3':d.PH≤2:=by omega
 by_cases h4:64≤d.SD.length
 ·have h4':(64:Int)≤ln Side.row d.SD:=by rw [ln_eq];omega
  have:¬d.SD.length<64:=by omega
  simp [h1,h2,h3,h4',this]
 have h4':¬(64:Int)≤ln Side.row d.SD:=by rw [ln_eq];omega
 have h4'':d.SD.length<64:=by omega
 simp only [h1,h2,h3,h4',h1',h2',h3',h4'',decide_true,decide_false,Zvn,Bool.true_and]
 have key:Zwd d.SD (-1) d=some (Zlp d.ID 0 (-1) d.SD):=by
  unfold Zwd
  refine Zao d.SD _ (fun pre=>((pre.length:Int),lastQ (-1) pre)) (fun pre post=>some (Zlp d.ID pre.length (lastQ (-1) pre) post)) (fun pre x post h=>?_) ?_
  ·have hx:=Zco h
   have hm:=Zdo h
   dsimp only [Zvd]
   rw [Z0o hx,Zun,Zyn hx,OB,s_oddD,OB,Zwn]
   cases hs:Zjp d.ID (lastQ (-1) pre) x with
   | true=>
     left
     exact ⟨by rw [Zun,Zho,Zmp,Z2o (by omega)],by simp [Zlp,hs,Zmp]⟩
   | false=>
     right
     exact ⟨_,rfl,by simp [Zlp,hs]⟩
  ·dsimp only [Zvd]
   rw [Z1o,Zvn];rfl
 simp only [Zsf,key,OB,scanD_ok]
 cases Zkp d.ID (-1) d.SD<;>rfl
theorem Znp (l:List Side) (hl:l.length≤1000000):Zj8 l=some l:=by
 simp only [Zj8]
 rw [Zzn _ _ (by omega) (by simp;omega)];rfl
theorem Zop {d:DI} (h:okD d=true):d.SD.length<64:=by
 simp only [okD,Bool.and_eq_true,decide_eq_true_eq] at h;exact h.2.2.2.1
def Zpp (ph:Int) (x:Side):Side:=if x.Fork&&(x.DY&&(x.Token&&!decide (ph=2))) then {x with Fork:=false,DY:=false} else x
def Zqp (ph:Int) (x:Side):Side:=if decide (ph=1)&&((Zpp ph x).Token&&!(Zpp ph x).Fork) then {Zpp ph x with Token:=false} else Zpp ph x
def Zrp (id ph:Int) (x:Side):List Mail:=
 (if x.Fork&&(x.DY&&(x.Token&&!decide (ph=2))) then [⟨id,x.Peer,⟨1,x.Epoch,0⟩⟩] else []) ++
 (if decide (ph=1)&&((Zpp ph x).Token&&!(Zpp ph x).Fork) then [⟨id,x.Peer,⟨2,x.Epoch,0⟩⟩] else [])
def Zsp (x:Side):Side:= {x with DY:=true}
def Ztp (d:DI):DI:=if decide (d.PH=1)&&(d.SD.map (Zqp d.PH)).all (·.Fork) then ⟨d.ID,2,(d.SD.map (Zqp d.PH)).map Zsp⟩ else ⟨d.ID,d.PH,d.SD.map (Zqp d.PH)⟩
def Zup (d:DI):List Mail:=d.SD.flatMap (Zrp d.ID d.PH)
theorem fireM_len (id ph:Int) (x:Side):(Zrp id ph x).length≤2:=by
 unfold Zrp
 rw [List.length_append]
 have h1:∀(c:Bool) (m:Mail),(if c then [m] else []).length≤1:=by intro c m;cases c<;>simp
 have:=h1 (x.Fork&&(x.DY&&(x.Token&&!decide (ph=2)))) ⟨id,x.Peer,⟨1,x.Epoch,0⟩⟩
 have:=h1 (decide (ph=1)&&((Zpp ph x).Token&&!(Zpp ph x).Fork)) ⟨id,x.Peer,⟨2,x.Epoch,0⟩⟩
 omega
theorem Zvp (l:List Side) (id ph:Int):(l.flatMap (Zrp id ph)).length≤2*l.length:=by
 induction l with
 | nil=>simp
 | cons x l ih=>have:=fireM_len id ph x;rw [List.flatMap_cons,List.length_append,List.length_cons];omega
def has (x:Side) (k:Int):Bool:=if k=1 then x.Fork else x.Token
def bn (b:Bool):Nat:=if b then 1 else 0
theorem fire2_peer (ph:Int) (x:Side):(Zqp ph x).Peer=x.Peer∧(Zqp ph x).Epoch=x.Epoch∧(Zqp ph x).State=x.State:=by
 unfold Zqp Zpp
 split<;>split<;>exact ⟨rfl,rfl,rfl⟩
theorem fire2_dirty (ph:Int) (x:Side) (h:x.DY=true→x.Fork=true):(Zqp ph x).DY=true→(Zqp ph x).Fork=true:=by
 unfold Zqp Zpp
 split<;>split<;>simp_all
def Zwp (d:DI) (x:Side):Side:=if decide (d.PH=1)&&(d.SD.map (Zqp d.PH)).all (·.Fork) then Zsp (Zqp d.PH x) else Zqp d.PH x
theorem Zxp (d:DI):(Ztp d).SD=d.SD.map (Zwp d):=by
 unfold Ztp Zwp
 split
 ·simp only [List.map_map];rfl
 ·rfl
theorem fireD_id (d:DI):(Ztp d).ID=d.ID:=by unfold Ztp;split<;>rfl
theorem Zyp (d:DI) (x:Side):(Zwp d x).Peer=x.Peer∧(Zwp d x).Epoch=x.Epoch∧(Zwp d x).State=x.State∧∀k,has (Zwp d x) k=has (Zqp d.PH x) k:=by
 obtain ⟨h1,h2,h3⟩:=fire2_peer d.PH x
 unfold Zwp
 split
 ·exact ⟨h1,h2,h3,fun k=>rfl⟩
 ·exact ⟨h1,h2,h3,fun k=>rfl⟩
theorem s_send (k id ph:Int) (a b:List Side) (x:Side) (E:List Mail) (hE:E.length≤1000000):Zfb k id ph (a.length:Int) E (a++x::b)=some (E++[⟨id,x.Peer,⟨k,x.Epoch,0⟩⟩]):=by
 simp only [Zfb]
 rw [Zfo rfl,OB,Zzn _ _ (by omega) (by simp;omega),OB]
theorem fire_step (d:DI) (l:List Side) (hl:l.length<64) (pre post:List Side) (x:Side) (h:l=pre++x::post) (all:Bool) (A:List Side) (hA:A.length=pre.length) (E:List Mail) (hE:E.length≤1000):
  Zji d l (all,(pre.length:Int),A++x::post,E)=some (.inl (all&&(Zqp d.PH x).Fork,((pre.length+1:Nat):Int),A++Zqp d.PH x::post,E++Zrp d.ID d.PH x)):=by
 have hx:=Zco h
 have hm:=Zdo h
 have at1:∀y:Side,at_ (A++y::post) (pre.length:Int)=some y:=fun y=>by rw [←hA];exact Zfo rfl
 have st1:∀y z:Side,(A++y::post).set ((pre.length:Int)).toNat z=A++z::post:=fun y z=>by rw [←hA];exact Zgo _ _ _ _
 have sd:∀(k:Int) (y:Side) (E:List Mail),E.length≤1000000→Zfb k d.ID d.PH (pre.length:Int) E (A++y::post)=some (E++[⟨d.ID,y.Peer,⟨k,y.Epoch,0⟩⟩]):=fun k y E hE=>by rw [←hA];exact s_send k d.ID d.PH A post y E hE
 have fin:∀(y:Side) (E':List Mail),Zfi all (pre.length:Int) (A++y::post,E')=some (.inl (all&&y.Fork,((pre.length+1:Nat):Int),A++y::post,E')):=fun y E'=>by
  dsimp only [Zfi,Zei]
  rw [at1,Z2o (by omega)]
  cases all<;>rfl
 have j3:∀(y:Side) (E':List Mail),E'.length≤100000→Zhi d all (pre.length:Int) (A++y::post,E') =
   if decide (d.PH=1)&&(y.Token&&!y.Fork) then some (.inl (all&&y.Fork,((pre.length+1:Nat):Int),A++{y with Token:=false}::post,E'++[⟨d.ID,y.Peer,⟨2,y.Epoch,0⟩⟩])) else some (.inl (all&&y.Fork,((pre.length+1:Nat):Int),A++y::post,E')):=fun y E' hE'=>by
  dsimp only [Zhi]
  by_cases h1:d.PH=1
  ·rw [DT h1,Zun,at1,OB]
   cases ht:y.Token with
   | false=>dsimp only [Zgi];rw [Zvn,Zvn,fin];simp
   | true=>
     cases hf:y.Fork with
     | true=>dsimp only [Zgi];rw [Zun,Bool.not_true,Zvn,fin];simp [hf]
     | false=>
       dsimp only [Zgi]
       rw [Zun,Bool.not_false,Zun,at1,OB,st1,sd _ _ _ (by omega),OB,fin]
       simp [hf]
  ·rw [DN h1,Zvn];dsimp only [Zgi];rw [Zvn,fin];simp
 dsimp only [Zji]
 rw [Z0o hx,Zun,at1,OB]
 have j2:∀z:Bool,Zii d all (pre.length:Int) (A++x::post) E x z=if z then Zhi d all (pre.length:Int) (A++{x with Fork:=false,DY:=false}::post,E++[⟨d.ID,x.Peer,⟨1,x.Epoch,0⟩⟩]) else Zhi d all (pre.length:Int) (A++x::post,E):=fun z=>by
  cases z with
  | false=>dsimp only [Zii];rw [Zvn];rfl
  | true=>
    dsimp only [Zii]
    rw [Zun,st1,sd _ _ _ (by omega),OB];rfl
 have e:ifb x.Fork (ifb x.DY (ifb x.Token (Zii d all (pre.length:Int) (A++x::post) E x (!decide (d.PH=2))) (Zii d all (pre.length:Int) (A++x::post) E x false)) (Zii d all (pre.length:Int) (A++x::post) E x false)) (Zii d all (pre.length:Int) (A++x::post) E x false)
   =Zii d all (pre.length:Int) (A++x::post) E x (x.Fork&&(x.DY&&(x.Token&&!decide (d.PH=2)))):=by
  cases x.Fork<;>cases x.DY<;>cases x.Token<;>rfl
 rw [e,j2]
 cases hz:(x.Fork&&(x.DY&&(x.Token&&!decide (d.PH=2)))) with
 | false=>
   rw [if_neg (by simp),j3 _ _ (by omega)]
   have f1:Zpp d.PH x=x:=by simp only [Zpp,hz];rfl
   unfold Zqp Zrp
   rw [f1,hz]
   cases hq:(decide (d.PH=1)&&(x.Token&&!x.Fork))<;>simp
 | true=>
   rw [if_pos rfl,j3 _ _ (by simp;omega)]
   have f1:Zpp d.PH x={x with Fork:=false,DY:=false}:=by simp only [Zpp,hz];rfl
   unfold Zqp Zrp
   rw [f1,hz]
   cases hq:(decide (d.PH=1)&&(x.Token&&!false))<;>simp_all
theorem s_Fire (d:DI):Zki d=some (if okD d then ((Ztp d).ID,(Ztp d).PH,0,(Ztp d).SD,Zup d) else (0,0,130,[],[])):=by
 simp only [Zki,s_dCheck,OB]
 cases h:okD d with
 | false=>rfl
 | true=>
   have hl:=Zop h
   simp only [if_true,decide_true,Bool.not_true,Zvn,Znp d.SD (by omega),OB]
   have key:=Zao d.SD (Zji d d.SD) (fun pre=>((pre.map (Zqp d.PH)).all (·.Fork),(pre.length:Int),pre.map (Zqp d.PH)++d.SD.drop pre.length,pre.flatMap (Zrp d.ID d.PH))) (fun _ _=>some ((Ztp d).ID,(Ztp d).PH,0,(Ztp d).SD,Zup d)) (fun pre x post hp=>?_) ?_
   ·simpa using key
   ·left
    have hd:d.SD.drop pre.length=x::post:=by rw [hp];simp
    have hd':d.SD.drop (pre++[x]).length=post:=by rw [hp];simp
    have hm:=Zdo hp
    have hE:=Zvp pre d.ID d.PH
    refine ⟨?_,rfl⟩
    rw [hd,hd',fire_step d d.SD hl pre post x hp _ _ (by simp) _ (by omega),Zho]
    simp
   ·have hE:=Zvp d.SD d.ID d.PH
    dsimp only [Zji]
    rw [Z1o,Zvn]
    simp only [List.drop_length,List.append_nil]
    dsimp only [Zdi]
    by_cases h1:d.PH=1
    ·rw [DT h1,Zun]
     dsimp only [Zci]
     cases h6:(d.SD.map (Zqp d.PH)).all (·.Fork) with
     | false=>
       rw [Zvn]
       unfold Ztp
       rw [h6,Bool.and_false]
       rfl
     | true=>
       rw [Zun]
       generalize hS:d.SD.map (Zqp d.PH)=S at h6
       have h8:S.length<64:=by rw [←hS];simpa using hl
       have k2:=Zbo S (Zbi d S (d.SD.flatMap (Zrp d.ID d.PH))) (fun pre=>((pre.length:Int),pre.map Zsp++S.drop pre.length)) (d.ID,2,0,S.map Zsp,d.SD.flatMap (Zrp d.ID d.PH)) (fun pre x post hp=>?_) ?_
       ·have k3:loop (Zbi d S (d.SD.flatMap (Zrp d.ID d.PH))) (0,S)=some (d.ID,2,0,S.map Zsp,d.SD.flatMap (Zrp d.ID d.PH)):=by simpa using k2
        rw [k3]
        unfold Ztp
        rw [hS,h6,DT h1]
        rfl
       ·have hx:=Zco hp
        have hm:=Zdo hp
        have hd:S.drop pre.length=x::post:=by rw [hp];simp
        have hd':S.drop (pre++[x]).length=post:=by rw [hp];simp
        dsimp only [Zbi]
        have e1:((pre.length:Nat):Int)=(((pre.map Zsp).length:Nat):Int):=by simp
        rw [Z0o hx,Zun,hd,hd',e1,Zfo rfl,OB,Zgo,←e1,Zho,Z2o (by omega)]
        simp [Zsp]
       ·dsimp only [Zbi]
        rw [Z1o,Zvn]
        simp [Zai]
    ·rw [DN h1,Zvn]
     dsimp only [Zci]
     rw [Zvn]
     unfold Ztp
     rw [DN h1,Bool.false_and]
     rfl
def Zzp (d:DK) (x:Side):Bool:=decide (x.Peer∈d.Need)
def keepB (nd:Bool) (th:Int) (x:Side):Bool:=nd&&(decide (th=2)||(decide (th=1)&&x.Fork))
def bot1 (nd:Bool) (th:Int) (x:Side):Side:=if x.BO&&(x.Ask&&!keepB nd th x) then {x with BO:=false} else x
def Z0q (nd:Bool) (th:Int) (x:Side):Side:=if decide (th=1)&&(nd&&((bot1 nd th x).Ask&&!(bot1 nd th x).BO)) then {bot1 nd th x with Ask:=false} else bot1 nd th x
def Z1q (id:Int) (nd:Bool) (th:Int) (x:Side):List Mail:=
 (if x.BO&&(x.Ask&&!keepB nd th x) then [⟨id,x.Peer,⟨3,x.Epoch,0⟩⟩] else []) ++
 (if decide (th=1)&&(nd&&((bot1 nd th x).Ask&&!(bot1 nd th x).BO)) then [⟨id,x.Peer,⟨4,x.Epoch,0⟩⟩] else [])
theorem Z2q (nd:Bool) (th:Int) (x:Side):(Z0q nd th x).Peer=x.Peer∧(Z0q nd th x).Epoch=x.Epoch∧(Z0q nd th x).State=x.State∧(Z0q nd th x).Fork=x.Fork∧(Z0q nd th x).DY=x.DY∧(Z0q nd th x).Token=x.Token:=by
 unfold Z0q bot1
 split<;>split<;>exact ⟨rfl,rfl,rfl,rfl,rfl,rfl⟩
theorem botM_len (id:Int) (nd:Bool) (th:Int) (x:Side):(Z1q id nd th x).length≤2:=by
 unfold Z1q
 rw [List.length_append]
 have h1:∀(c:Bool) (m:Mail),(if c then [m] else []).length≤1:=by intro c m;cases c<;>simp
 have:=h1 (x.BO&&(x.Ask&&!keepB nd th x)) ⟨id,x.Peer,⟨3,x.Epoch,0⟩⟩
 have:=h1 (decide (th=1)&&(nd&&((bot1 nd th x).Ask&&!(bot1 nd th x).BO))) ⟨id,x.Peer,⟨4,x.Epoch,0⟩⟩
 omega
theorem botMs_len (N:List Int) (id th:Int) (l:List Side):(l.flatMap fun x=>Z1q id (decide (x.Peer∈N)) th x).length≤2*l.length:=by
 induction l with
 | nil=>simp
 | cons x l ih=>have:=botM_len id (decide (x.Peer∈N)) th x;rw [List.flatMap_cons,List.length_append,List.length_cons];omega
theorem s_send2 (y:Side) (k id ph th:Int) (N:List Int) (l:List Side) (E:List Mail) (hE:E.length≤1000000):Zlc y k id ph th l N E=some (E++[⟨id,y.Peer,⟨k,y.Epoch,0⟩⟩]):=by
 simp only [Zlc]
 rw [Zzn _ _ (by omega) (by simp;omega),OB]
theorem bot_step (id ph th:Int) (N:List Int) (hN:N.length≤1000000) (l:List Side) (hl:l.length≤5000) (pre post:List Side) (x:Side) (h:l=pre++x::post) (all:Bool) (A:List Side) (hA:A.length=pre.length) (E:List Mail) (hE:E.length≤900000):
  Z8h id ph th l N (all,(pre.length:Int),A++x::post,E)=some (.inl (all&&(!decide (x.Peer∈N)||(Z0q (decide (x.Peer∈N)) th x).BO),((pre.length+1:Nat):Int),A++Z0q (decide (x.Peer∈N)) th x::post,E++Z1q id (decide (x.Peer∈N)) th x)):=by
 have hx:=Zco h
 have hm:=Zdo h
 have at1:∀y:Side,at_ (A++y::post) (pre.length:Int)=some y:=fun y=>by rw [←hA];exact Zfo rfl
 have st1:∀y z:Side,(A++y::post).set ((pre.length:Int)).toNat z=A++z::post:=fun y z=>by rw [←hA];exact Zgo _ _ _ _
 generalize h6:decide (x.Peer∈N)=nd
 have j7:∀(S:List Side) (E':List Mail) z,Z1h (pre.length:Int) S E' z=some (.inl (z,((pre.length+1:Nat):Int),S,E')):=fun S E' z=>by
  dsimp only [Z1h]
  rw [Z2o (by omega)]
 have j6:∀(y:Side) (E':List Mail),Z2h all (pre.length:Int) nd (A++y::post,E')=some (.inl (all&&(!nd||y.BO),((pre.length+1:Nat):Int),A++y::post,E')):=fun y E'=>by
  dsimp only [Z2h]
  rw [at1,OB]
  simp only [j7]
  cases all<;>cases nd<;>rfl
 have j4:∀(y:Side) (E':List Mail),E'.length≤950000→Z4h id ph th N all (pre.length:Int) nd (A++y::post,E') =
   if decide (th=1)&&(nd&&(y.Ask&&!y.BO)) then some (.inl (all&&(!nd||y.BO),((pre.length+1:Nat):Int),A++{y with Ask:=false}::post,E'++[⟨id,y.Peer,⟨4,y.Epoch,0⟩⟩])) else some (.inl (all&&(!nd||y.BO),((pre.length+1:Nat):Int),A++y::post,E')):=fun y E' hE'=>by
  have j5:∀z,Z3h id ph th N all (pre.length:Int) nd (A++y::post) E' z=if z then some (.inl (all&&(!nd||y.BO),((pre.length+1:Nat):Int),A++{y with Ask:=false}::post,E'++[⟨id,y.Peer,⟨4,y.Epoch,0⟩⟩])) else some (.inl (all&&(!nd||y.BO),((pre.length+1:Nat):Int),A++y::post,E')):=fun z=>by
   cases z with
   | false=>dsimp only [Z3h];rw [Zvn,j6];rfl
   | true=>
     dsimp only [Z3h]
     rw [Zun,at1,OB,st1,s_send2 _ _ _ _ _ _ _ _ (by omega),OB,j6]
     rfl
  dsimp only [Z4h]
  rw [at1,OB]
  simp only [j5]
  cases decide (th=1)<;>cases nd<;>cases y.Ask<;>rfl
 have j3:∀z,Z5h id ph th N all (pre.length:Int) (A++x::post) E x nd z=if z then Z4h id ph th N all (pre.length:Int) nd (A++{x with BO:=false}::post,E++[⟨id,x.Peer,⟨3,x.Epoch,0⟩⟩]) else Z4h id ph th N all (pre.length:Int) nd (A++x::post,E):=fun z=>by
  cases z with
  | false=>dsimp only [Z5h];rw [Zvn];rfl
  | true=>
    dsimp only [Z5h]
    rw [Zun,st1,s_send2 _ _ _ _ _ _ _ _ (by omega),OB]
    rfl
 have j2:∀z,Z6h id ph th N all (pre.length:Int) (A++x::post) E x nd z=Z5h id ph th N all (pre.length:Int) (A++x::post) E x nd (x.BO&&(x.Ask&&!z)):=fun z=>by
  dsimp only [Z6h]
  cases x.BO<;>cases x.Ask<;>rfl
 have e:Z8h id ph th l N (all,(pre.length:Int),A++x::post,E)=Z5h id ph th N all (pre.length:Int) (A++x::post) E x nd (x.BO&&(x.Ask&&!keepB nd th x)):=by
  dsimp only [Z8h]
  rw [Z0o hx,Zun,at1,OB,Zzo N _ hN,OB,h6]
  dsimp only [Z7h]
  simp only [j2]
  unfold keepB
  cases nd<;>cases decide (th=2)<;>cases decide (th=1)<;>rfl
 rw [e,j3]
 cases hz:(x.BO&&(x.Ask&&!keepB nd th x)) with
 | false=>
   have b1:bot1 nd th x=x:=by unfold bot1;rw [hz];rfl
   rw [if_neg (by simp),j4 _ _ (by omega)]
   unfold Z0q Z1q
   rw [b1,hz]
   cases (decide (th=1)&&(nd&&(x.Ask&&!x.BO)))<;>simp
 | true=>
   have b1:bot1 nd th x={x with BO:=false}:=by unfold bot1;rw [hz];rfl
   rw [if_pos rfl,j4 _ _ (by simp;omega)]
   unfold Z0q Z1q
   rw [b1,hz]
   cases (decide (th=1)&&(nd&&(x.Ask&&!false)))<;>simp
theorem s_bottles (id ph th:Int) (N:List Int) (hN:N.length≤1000000) (l:List Side) (hl:l.length≤5000) (E:List Mail) (hE:E.length≤800000):
  Z9h id ph th l N E=some (if decide (th=1)&&(l.map fun x=>Z0q (decide (x.Peer∈N)) th x).all (fun x=>!decide (x.Peer∈N)||x.BO) then 2 else th,l.map fun x=>Z0q (decide (x.Peer∈N)) th x,E++l.flatMap fun x=>Z1q id (decide (x.Peer∈N)) th x):=by
 have:=Zao l (Z8h id ph th l N) (fun pre=>((pre.map fun x=>Z0q (decide (x.Peer∈N)) th x).all (fun x=>!decide (x.Peer∈N)||x.BO),(pre.length:Int),(pre.map fun x=>Z0q (decide (x.Peer∈N)) th x)++l.drop pre.length,E++pre.flatMap fun x=>Z1q id (decide (x.Peer∈N)) th x))
  (fun _ _=>some (if decide (th=1)&&(l.map fun x=>Z0q (decide (x.Peer∈N)) th x).all (fun x=>!decide (x.Peer∈N)||x.BO) then 2 else th,l.map fun x=>Z0q (decide (x.Peer∈N)) th x,E++l.flatMap fun x=>Z1q id (decide (x.Peer∈N)) th x)) (fun pre x post h=>.inl ⟨by
    have hd:l.drop pre.length=x::post:=by rw [h];simp
    have hd':l.drop (pre++[x]).length=post:=by rw [h];simp
    have hm:=Zdo h
    have hE':=botMs_len N id th pre
    rw [hd,hd',bot_step id ph th N hN l hl pre post x h _ _ (by simp) _ (by rw [List.length_append];omega),Zho]
    have hp:=(Z2q (decide (x.Peer∈N)) th x).1
    simp [hp],rfl⟩) (by
  dsimp only [Z8h]
  rw [Z1o,Zvn]
  dsimp only [Z0h]
  rw [List.drop_length,List.append_nil]
  cases decide (th=1) with
  | false=>rfl
  | true=>cases (l.map fun x=>Z0q (decide (x.Peer∈N)) th x).all (fun x=>!decide (x.Peer∈N)||x.BO)<;>rfl)
 unfold Z9h
 simpa using this
def Z3q (d:DK):Int:=if decide (d.TH=1)&&decide (d.DI.PH=0) then 1 else if decide (d.DI.PH=2)&&(!decide (d.TH=1)&&!d.DI.SD.any (fun x=>decide (x.State=1))) then 0 else d.DI.PH
def Z4q (d:DK):DI:=⟨d.DI.ID,Z3q d,d.DI.SD⟩
def Z5q (d:DK):List Side:=(Ztp (Z4q d)).SD.map fun x=>Z0q (Zzp d x) d.TH x
def Z6q (d:DK):Int:=if decide (d.TH=1)&&(Z5q d).all (fun x=>!Zzp d x||x.BO) then 2 else d.TH
def Z7q (d:DK):DK:=⟨⟨d.DI.ID,(Ztp (Z4q d)).PH,Z5q d⟩,Z6q d,d.Need⟩
def Z8q (d:DK):List Mail:=Zup (Z4q d)++(Ztp (Z4q d)).SD.flatMap fun x=>Z1q d.DI.ID (Zzp d x) d.TH x
theorem pre_ok {d:DK} (h:okD d.DI=true):okD (Z4q d)=true:=by
 simp only [okD,Bool.and_eq_true,decide_eq_true_eq] at h ⊢
 refine ⟨h.1,?_,?_,h.2.2.2⟩
 ·show 0≤Z3q d
  unfold Z3q;split
  ·omega
  ·split<;>omega
 ·show Z3q d≤2
  unfold Z3q;split
  ·omega
  ·split<;>omega
theorem fireD_len (d:DI):(Ztp d).SD.length=d.SD.length:=by rw [Zxp];simp
theorem s_once (d:DK) (h:okD d.DI=true) (hN:d.Need.length≤1000000) (out:List Mail) (ho:out.length≤700000):
  Zej d.DI.ID d.DI.PH d.TH d.DI.SD d.Need out=some ((Z7q d).DI.ID,(Z7q d).DI.PH,(Z7q d).TH,(Z7q d).DI.SD,out++Z8q d):=by
 have hl:=Zop h
 have hp:=pre_ok h
 have hd:=Zvp d.DI.SD d.DI.ID (Z3q d)
 have e0:(Z4q d).SD=d.DI.SD:=rfl
 have h9:=fireD_len (Z4q d)
 rw [e0] at h9
 have j2:Zbj d.DI.ID d.TH d.DI.SD d.Need out (Z3q d)=some ((Z7q d).DI.ID,(Z7q d).DI.PH,(Z7q d).TH,(Z7q d).DI.SD,out++Z8q d):=by
  dsimp only [Zbj]
  have e1:(⟨d.DI.ID,Z3q d,d.DI.SD⟩:DI)=Z4q d:=rfl
  have he:(Zup (Z4q d)).length≤130:=by unfold Zup;rw [e0];show (d.DI.SD.flatMap (Zrp d.DI.ID (Z3q d))).length≤130;omega
  rw [e1,s_Fire,hp,if_pos rfl,OB]
  dsimp only
  rw [Zzn _ _ (by omega) (by omega),OB,s_bottles _ _ _ _ hN _ (by omega) _ (by rw [List.length_append];omega),OB]
  rw [fireD_id,List.append_assoc]
  rfl
 have h6:∀z:Int,z=Z3q d→Zbj d.DI.ID d.TH d.DI.SD d.Need out z=some ((Z7q d).DI.ID,(Z7q d).DI.PH,(Z7q d).TH,(Z7q d).DI.SD,out++Z8q d):=fun z e=>by rw [e];exact j2
 have hc:=Zqo d.DI.SD (fun z=>Zl8 z) (fun x=>decide (x.State=1)) (by omega) (fun x _=>rfl)
 dsimp only [Zej,Zdj,Zcj]
 rw [hc,OB]
 unfold Z3q at h6
 by_cases h1:d.TH=1
 ·rw [DT h1] at h6 ⊢
  by_cases h2:d.DI.PH=0
  ·rw [DT h2] at h6 ⊢
   exact h6 1 rfl
  ·rw [DN h2] at h6 ⊢
   have:=h6 d.DI.PH (by simp)
   rw [Zun,Zvn,this]
   cases decide (d.DI.PH=2)<;>rfl
 ·rw [DN h1] at h6 ⊢
  rw [Zvn,Zvn]
  by_cases h2:d.DI.PH=2
  ·rw [DT h2] at h6 ⊢
   cases h8:d.DI.SD.any (fun x=>decide (x.State=1)) with
   | true=>
     rw [h8] at h6
     exact h6 d.DI.PH (by simp)
   | false=>
     rw [h8] at h6
     exact h6 0 (by simp)
  ·rw [DN h2] at h6 ⊢
   exact h6 d.DI.PH (by simp)
def Z9q (x:Side):Nat:=bn x.Fork+bn x.Token+bn x.BO+bn x.Ask
def bits (l:List Side):Nat:=(l.map Z9q).sum
def rank (th ph:Int):Nat:=if th=1 then (if ph=0 then 5 else if ph=1 then 4 else 3) else (if ph=1 then 2 else if ph=2 then 1 else 0)
def mu (d:DK):Nat:=bits d.DI.SD+rank d.TH d.DI.PH
theorem fire2_bits (id ph:Int) (x:Side):Z9q (Zqp ph x)+(Zrp id ph x).length=Z9q x:=by
 obtain ⟨p,e,st,f,d,t,bo,ask⟩:=x
 unfold Zrp Zqp Zpp Z9q bn
 generalize h1:decide (ph=1)=q1
 generalize h2:decide (ph=2)=q2
 cases f<;>cases d<;>cases t<;>cases q1<;>cases q2<;>simp<;>omega
theorem bot2_bits (id:Int) (nd:Bool) (th:Int) (x:Side):Z9q (Z0q nd th x)+(Z1q id nd th x).length=Z9q x:=by
 obtain ⟨p,e,st,f,d,t,bo,ask⟩:=x
 unfold Z1q Z0q bot1 keepB Z9q bn
 generalize h1:decide (th=1)=q1
 generalize h2:decide (th=2)=q2
 cases bo<;>cases ask<;>cases nd<;>cases q1<;>cases q2<;>cases f<;>simp<;>omega
theorem fire3_bits (d:DI) (x:Side):Z9q (Zwp d x)=Z9q (Zqp d.PH x):=by unfold Zwp;split<;>rfl
theorem Zaq (d:DK):bits (Z7q d).DI.SD+(Z8q d).length=bits d.DI.SD:=by
 have key:∀l:List Side,((l.map fun x=>Z0q (Zzp d (Zwp (Z4q d) x)) d.TH (Zwp (Z4q d) x)).map Z9q).sum+((l.flatMap (Zrp d.DI.ID (Z3q d))).length+((l.map (Zwp (Z4q d))).flatMap fun x=>Z1q d.DI.ID (Zzp d x) d.TH x).length)=(l.map Z9q).sum:=by
  intro l
  induction l with
  | nil=>rfl
  | cons x l ih=>
    have h1:=fire2_bits d.DI.ID (Z3q d) x
    have h2:=bot2_bits d.DI.ID (Zzp d (Zwp (Z4q d) x)) d.TH (Zwp (Z4q d) x)
    have h3:=fire3_bits (Z4q d) x
    have e:(Z4q d).PH=Z3q d:=rfl
    rw [e] at h3
    simp only [List.map_cons,List.sum_cons,List.flatMap_cons,List.length_append]
    omega
 have:=key d.DI.SD
 unfold bits Z8q
 rw [List.length_append,Zxp]
 show (((Z5q d).map Z9q).sum+_=_)
 unfold Z5q
 rw [Zxp]
 simp only [List.map_map] at this ⊢
 exact this
theorem Zbq (d:DI):(Ztp d).PH=d.PH∧(decide (d.PH=1)&&(d.SD.map (Zqp d.PH)).all (·.Fork))=false∨d.PH=1∧(Ztp d).PH=2:=by
 unfold Ztp
 cases hq:decide (d.PH=1)&&(d.SD.map (Zqp d.PH)).all (·.Fork) with
 | false=>exact .inl ⟨rfl,rfl⟩
 | true=>
   rw [Bool.and_eq_true,decide_eq_true_eq] at hq
   exact .inr ⟨hq.1,rfl⟩
theorem fireM_nil {id ph:Int} {x:Side} (h:Zrp id ph x=[]):Zqp ph x=x:=by
 obtain ⟨p,e,st,f,d,t,bo,ask⟩:=x
 unfold Zrp at h
 unfold Zqp
 rw [List.append_eq_nil_iff] at h
 obtain ⟨h1,h2⟩:=h
 split at h1
 ·simp at h1
 ·rename_i q1
  split at h2
  ·simp at h2
  ·rename_i q2
   rw [if_neg q2]
   unfold Zpp
   rw [if_neg q1]
theorem botM_nil {id:Int} {nd:Bool} {th:Int} {x:Side} (h:Z1q id nd th x=[]):Z0q nd th x=x:=by
 unfold Z1q at h
 unfold Z0q
 rw [List.append_eq_nil_iff] at h
 obtain ⟨h1,h2⟩:=h
 split at h1
 ·simp at h1
 ·rename_i q1
  split at h2
  ·simp at h2
  ·rename_i q2
   rw [if_neg q2]
   unfold bot1
   rw [if_neg q1]
theorem map_same {α:Type} {f:α→α}:∀ {l:List α},(∀x∈l,f x=x)→l.map f=l
 | [],_=>rfl
 | x::l,h=>by rw [List.map_cons,h x (by simp),map_same fun y hy=>h y (by simp [hy])]
theorem rank_le {th ph ph' th':Int} (h0:0≤ph) (h2:ph≤2) (d:DK) (hd:d.TH=th∧d.DI.PH=ph) (h1:ph'=Z3q d∨Z3q d=1∧ph'=2) (ht:th'=th∨th=1∧th'=2):rank th' ph'<rank th ph∨th'=th∧ph'=ph∧Z3q d=ph:=by
 obtain ⟨d1,d2⟩:=hd
 unfold Z3q at h1 ⊢
 rw [d1,d2] at h1 ⊢
 unfold rank
 have hp:ph=0∨ph=1∨ph=2:=by omega
 by_cases h6:th=1
 ·subst h6
  rcases hp with rfl | rfl | rfl<;>rcases ht with rfl | ⟨_,rfl⟩<;>simp at h1 ⊢ <;>rcases h1 with rfl | h1<;>simp_all
 ·have:th'=th:=by rcases ht with h | h;exact h;exact absurd h.1 h6
  subst this
  rcases hp with rfl | rfl | rfl
  ·simp [h6] at h1 ⊢;rcases h1 with rfl | h1<;>simp_all
  ·simp [h6] at h1 ⊢;rcases h1 with rfl | h1<;>simp_all
  ·cases h8:d.DI.SD.any (fun x=>decide (x.State=1))<;>simp [h6,h8] at h1 ⊢ <;>simp_all
theorem once_mu {d:DK} (h0:0≤d.DI.PH) (h2:d.DI.PH≤2):Z7q d=d∧Z8q d=[]∨mu (Z7q d)<mu d:=by
 have hb:=Zaq d
 have hf:=Zbq (Z4q d)
 have ht:Z6q d=d.TH∨d.TH=1∧Z6q d=2:=by
  unfold Z6q
  cases hh:decide (d.TH=1)&&(Z5q d).all (fun x=>!Zzp d x||x.BO) with
  | false=>left;rfl
  | true=>right;rw [Bool.and_eq_true,decide_eq_true_eq] at hh;exact ⟨hh.1,rfl⟩
 have e1:(Z7q d).DI.PH=(Ztp (Z4q d)).PH:=rfl
 have e2:(Z7q d).TH=Z6q d:=rfl
 have hr:=rank_le (th':=Z6q d) (ph':=(Ztp (Z4q d)).PH) h0 h2 d ⟨rfl,rfl⟩ (by
  rcases hf with ⟨q,_⟩ | ⟨q1,q2⟩
  ·exact .inl q
  ·exact .inr ⟨q1,q2⟩) ht
 unfold mu
 rw [e1,e2]
 rcases hr with hr | ⟨r1,r2,r3⟩
 ·right;omega
 ·by_cases hm:(Z8q d).length=0
  ·left
   have hm':Z8q d=[]:=List.eq_nil_of_length_eq_zero hm
   refine ⟨?_,hm'⟩
   unfold Z8q at hm'
   rw [List.append_eq_nil_iff] at hm'
   obtain ⟨m1,m2⟩:=hm'
   have h8:∀x∈d.DI.SD,Zwp (Z4q d) x=x:=fun x hx=>by
    have h6:Zrp d.DI.ID (Z3q d) x=[]:=by
     have:∀y∈Zrp d.DI.ID (Z3q d) x,y∈Zup (Z4q d):=fun y hy=>List.mem_flatMap.2 ⟨x,hx,hy⟩
     rw [m1] at this
     cases hc:Zrp d.DI.ID (Z3q d) x with
     | nil=>rfl
     | cons y l=>exact absurd (this y (by rw [hc];simp)) (by simp)
    have h9:Zqp (Z3q d) x=x:=fireM_nil h6
    unfold Zwp
    rw [show (Z4q d).PH=Z3q d from rfl]
    split
    ·rename_i hc
     exfalso
     rcases hf with ⟨q,q'⟩ | ⟨q1,q2⟩
     ·have:=q';rw [show (Z4q d).PH=Z3q d from rfl] at this;rw [this] at hc;simp at hc
     ·rw [show (Z4q d).PH=Z3q d from rfl] at q1
      rw [q1] at r3
      rw [q2] at r2
      omega
    ·exact h9
   have hS:(Ztp (Z4q d)).SD=d.DI.SD:=by
    rw [Zxp];exact map_same h8
   have hB:Z5q d=d.DI.SD:=by
    unfold Z5q
    rw [hS]
    refine map_same fun x hx=>?_
    have h6:Z1q d.DI.ID (Zzp d x) d.TH x=[]:=by
     rw [hS] at m2
     have:∀y∈Z1q d.DI.ID (Zzp d x) d.TH x,y∈d.DI.SD.flatMap fun x=>Z1q d.DI.ID (Zzp d x) d.TH x:=fun y hy=>List.mem_flatMap.2 ⟨x,hx,hy⟩
     rw [m2] at this
     cases hc:Z1q d.DI.ID (Zzp d x) d.TH x with
     | nil=>rfl
     | cons y l=>exact absurd (this y (by rw [hc];simp)) (by simp)
    exact botM_nil h6
   unfold Z7q
   rw [hB,r1,r2]
  ·right
   rw [r1,r2]
   omega
theorem Zcq (id:Int) (f:Side→Side):∀(l:List Side) (q:Int),(∀x∈l,(f x).Peer=x.Peer∧∀q,Zjp id q x=true→Zjp id q (f x)=true)→Zkp id q l=true→Zkp id q (l.map f)=true
 | [],_,_,_=>rfl
 | x::l,q,h,hk=>by
   obtain ⟨h1,h2⟩:=h x (by simp)
   simp only [List.map_cons,Zkp,Bool.and_eq_true] at hk ⊢
   refine ⟨h2 q hk.1,?_⟩
   rw [h1]
   exact Zcq id f l x.Peer (fun y hy=>h y (by simp [hy])) hk.2
theorem okD_map {d:DI} (h:okD d=true) {p:Int} (h0:0≤p) (h2:p≤2) (f:Side→Side) (hf:∀x∈d.SD,(f x).Peer=x.Peer∧∀q,Zjp d.ID q x=true→Zjp d.ID q (f x)=true):okD ⟨d.ID,p,d.SD.map f⟩=true:=by
 simp only [okD,Bool.and_eq_true,decide_eq_true_eq] at h ⊢
 exact ⟨h.1,h0,h2,by simpa using h.2.2.2.1,Zcq d.ID f d.SD (-1) hf h.2.2.2.2⟩
theorem sideD_of {id q:Int} {x y:Side} (hp:y.Peer=x.Peer) (he:y.Epoch=x.Epoch) (hs:y.State=x.State) (hd:(x.DY=true→x.Fork=true)→y.DY=true→y.Fork=true) (h:Zjp id q x=true):Zjp id q y=true:=by
 unfold Zjp at h ⊢
 rw [hp,he,hs]
 simp only [Bool.and_eq_true] at h ⊢
 refine ⟨h.1,h.2.1,h.2.2.1,h.2.2.2.1,h.2.2.2.2.1,h.2.2.2.2.2.1,?_⟩
 have h7:=h.2.2.2.2.2.2
 cases h6:y.DY with
 | false=>rfl
 | true=>
   have:x.DY=true→x.Fork=true:=fun e=>by
    rw [e] at h7
    cases hf:x.Fork with
    | true=>rfl
    | false=>rw [hf] at h7;simp at h7
   rw [hd this h6];rfl
theorem fireD_ok {d:DI} (h:okD d=true):okD (Ztp d)=true:=by
 have hh:=h
 simp only [okD,Bool.and_eq_true,decide_eq_true_eq] at hh
 have hp:0≤(Ztp d).PH∧(Ztp d).PH≤2:=by
  rcases Zbq d with ⟨q,_⟩ | ⟨_,q⟩
  ·rw [q];exact ⟨hh.2.1,hh.2.2.1⟩
  ·rw [q];omega
 have:=okD_map h hp.1 hp.2 (Zwp d) fun x hx=>by
  obtain ⟨p1,p2,p3,_⟩:=Zyp d x
  refine ⟨p1,fun q=>sideD_of p1 p2 p3 fun hd=>?_⟩
  unfold Zwp
  split
  ·rename_i hc
   rw [Bool.and_eq_true,List.all_eq_true] at hc
   exact fun _=>hc.2 (Zqp d.PH x) (List.mem_map_of_mem hx)
  ·exact fire2_dirty _ _ hd
 rw [←Zxp] at this
 rw [show Ztp d=⟨d.ID,(Ztp d).PH,(Ztp d).SD⟩ by rw [←fireD_id d]]
 exact this
theorem once_ok {d:DK} (h:okD d.DI=true):okD (Z7q d).DI=true:=by
 have h1:=fireD_ok (pre_ok h)
 have hh:=h1
 simp only [okD,Bool.and_eq_true,decide_eq_true_eq] at hh
 have:=okD_map h1 hh.2.1 hh.2.2.1 (fun x=>Z0q (Zzp d x) d.TH x) fun x _=>by
  obtain ⟨p1,p2,p3,p4,p5,_⟩:=Z2q (Zzp d x) d.TH x
  exact ⟨p1,fun q=>sideD_of p1 p2 p3 fun hd e=>by rw [p4];rw [p5] at e;exact hd e⟩
 rw [fireD_id] at this
 exact this
def Zdq:Nat→DK→List Mail→DK×List Mail
 | 0,d,out=>(d,out)
 | n+1,d,out=>if Z7q d=d then (d,out) else Zdq n (Z7q d) (out++Z8q d)
def Zeq (d:DK):DK×List Mail:=Zdq 300 d []
theorem Zfq (l m:List Int) (hl:l.length≤1000000):Zs8 l m=some (decide (l=m)):=by
 simp only [Zs8,Zlo]
 by_cases h:l.length=m.length
 ·simp only [h,decide_true,Bool.not_true,Zvn]
  rw [Zio l m _ (fun x y=>decide (x=y)) h (by omega) (fun k x y hx hy=>by
   simp only [Zr8,Z0o hx,Zun,Zyn hx,Zyn hy,OB,Z3o hx (show l.length≤4000000000000000000 by omega),Zwn]
   cases decide (x=y)<;>rfl) (by simp only [Zr8,Z1o,Zvn,Zq8,Option.map_some]),Zjo l m h]
 ·simp [h,Zko h]
theorem s_drOwn (i p t:Int) (S:List Side) (N:List Int) (hs:S.length≤1000000) (hn:N.length≤1000000):Zge i p t S N=some (S,N):=by
 simp only [Zge,Znp _ hs,Zap _ hn,OB,Zfe]
theorem s_drSame (a b:DK) (hs:a.DI.SD.length≤1000000) (hn:a.Need.length≤1000000):Z1e a b=some (decide (a=b)):=by
 obtain ⟨⟨i,p,s⟩,t,n⟩:=a
 obtain ⟨⟨i',p',s'⟩,t',n'⟩:=b
 simp only at hs hn
 simp only [Z1e,Zib,Zhb,Z0e,s_EqualSide s s' hs,Zfq n n' hn,OB,DK.mk.injEq,DI.mk.injEq]
 by_cases h1:i=i'<;>by_cases h2:p=p'<;>by_cases h3:s=s'<;>by_cases h4:t=t'<;>by_cases h5:n=n'<;>simp [h1,h2,h3,h4,h5]
theorem bits_le (l:List Side):bits l≤4*l.length:=by
 induction l with
 | nil=>simp [bits]
 | cons x l ih=>
   have:Z9q x≤4:=by unfold Z9q bn;split<;>split<;>split<;>split<;>omega
   unfold bits at ih ⊢
   simp only [List.map_cons,List.sum_cons,List.length_cons]
   omega
theorem mu_le {d:DK} (h:okD d.DI=true):mu d≤257:=by
 have h1:=Zop h
 have h2:=bits_le d.DI.SD
 have:rank d.TH d.DI.PH≤5:=by unfold rank;(repeat' split)<;>omega
 unfold mu;omega
theorem Zgq {d:DI} (h:okD d=true):0≤d.PH∧d.PH≤2:=by
 simp only [okD,Bool.and_eq_true,decide_eq_true_eq] at h
 exact ⟨h.2.1,h.2.2.1⟩
theorem fire_loop (S0:List Side) (N:List Int) (hN:N.length≤1000000):∀(n:Nat) (d:DK) (out:List Mail),d.Need=N→okD d.DI=true→mu d≤n→out.length+bits d.DI.SD≤600000→
  loop (Zgk (S0,N)) (d.DI.ID,d.DI.PH,d.TH,d.DI.SD,out)=some ((Zdq (n+1) d out).1.DI.ID,(Zdq (n+1) d out).1.DI.PH,(Zdq (n+1) d out).1.TH,0,(Zdq (n+1) d out).1.DI.SD,N,(Zdq (n+1) d out).2):=fun n=>by
 have step:∀(d:DK) (out:List Mail),d.Need=N→okD d.DI=true→out.length+bits d.DI.SD≤600000→Zgk (S0,N) (d.DI.ID,d.DI.PH,d.TH,d.DI.SD,out)=if Z7q d=d then some (.inr (d.DI.ID,d.DI.PH,d.TH,0,d.DI.SD,N,out)) else some (.inl ((Z7q d).DI.ID,(Z7q d).DI.PH,(Z7q d).TH,(Z7q d).DI.SD,out++Z8q d)):=fun d out hd hk ho=>by
  have hl:=Zop hk
  have hp:=Zgq hk
  have e:(⟨⟨d.DI.ID,d.DI.PH,d.DI.SD⟩,d.TH,N⟩:DK)=d:=by rw [←hd]
  dsimp only [Zgk]
  have h6:=s_once d hk (by rw [hd];exact hN) out (by omega)
  rw [hd] at h6
  rw [s_drOwn _ _ _ _ _ (by omega) hN,OB,h6,OB]
  dsimp only
  have e2:(⟨⟨(Z7q d).DI.ID,(Z7q d).DI.PH,(Z7q d).DI.SD⟩,(Z7q d).TH,N⟩:DK)=Z7q d:=by rw [←hd];rfl
  rw [e,e2,s_drSame d _ (by omega) (by rw [hd];exact hN),OB]
  dsimp only [Zfk,Zek]
  by_cases hq:Z7q d=d
  ·rw [if_pos hq,DT hq.symm,Zun]
   have hm:Z8q d=[]:=by
    rcases once_mu hp.1 hp.2 with h1 | h1
    ·exact h1.2
    ·rw [hq] at h1;omega
   rw [hm,List.append_nil,hq];rfl
  ·rw [if_neg hq,DN fun e=>hq e.symm,Zvn]
 induction n with
 | zero=>
   intro d out hd hk hm ho
   have hp:=Zgq hk
   have hq:Z7q d=d:=by
    rcases once_mu hp.1 hp.2 with h1 | h1
    ·exact h1.1
    ·omega
   rw [loop_eq,step d out hd hk ho,if_pos hq]
   unfold Zdq
   rw [if_pos hq]
 | succ n ih=>
   intro d out hd hk hm ho
   have hp:=Zgq hk
   rw [loop_eq,step d out hd hk ho]
   unfold Zdq
   by_cases hq:Z7q d=d
   ·rw [if_pos hq,if_pos hq]
   ·rw [if_neg hq,if_neg hq]
    have hb:=Zaq d
    refine ih (Z7q d) (out++Z8q d) hd (once_ok hk) ?_ (by rw [List.length_append];omega)
    rcases once_mu hp.1 hp.2 with h1 | h1
    ·exact absurd h1.1 hq
    ·omega
def okI:Option Int→List Int→Bool
 | _,[]=>true
 | p,x::r=>(match p with | none=>true | some q=>decide (q<x))&&okI (some x) r
def Zhq (d:DI) (p:Int):Bool:=d.SD.any fun x=>decide (x.Peer=p)
def okDr (d:DK):Bool:=okD d.DI&&(decide (0≤d.TH)&&(decide (d.TH≤2)&&(okI none d.Need&&(!(decide (d.TH=0)&&decide (0<d.Need.length))&&d.Need.all (Zhq d.DI)))))
theorem Ziq (l:List Int) (hl:l.length≤1000000):Z78 l=some (okI none l):=by
 unfold Z78
 refine Zao l (Z68 l) (fun pre=>(pre.length:Int)) (fun pre post=>some (okI pre.getLast? post)) (fun pre x post h=>?_) ?_
 ·have hx:=Zco h
  have hm:=Zdo h
  have j2:∀z,Z58 (pre.length:Int) z=if z then some (.inr false) else some (.inl ((pre.length+1:Nat):Int)):=fun z=>by
   cases z with
   | true=>rfl
   | false=>dsimp only [Z58];rw [Zvn,Z2o (by omega)];rfl
  dsimp only [Z68]
  rw [Z0o hx,Zun]
  rcases List.eq_nil_or_concat pre with rfl | ⟨q,y,rfl⟩
  ·left
   rw [show decide ((0:Int)<(([]:List Int).length:Nat))=false from rfl,Zvn,j2]
   exact ⟨rfl,rfl⟩
  ·rw [List.concat_eq_append] at *
   have hy:l[q.length]?=some y:=by rw [h];simp
   rw [DT (show (0:Int)<((q++[y]).length:Nat) by rw [Zho];omega),Zun]
   have e1:wr (((q++[y]).length:Nat)-1)=(q.length:Int):=by rw [Zho] at hm ⊢;rw [Zxn (by omega) (by omega)];omega
   rw [e1,Zyn hy,OB,Zyn hx,OB,j2]
   by_cases hc:x≤y
   ·right
    refine ⟨false,by rw [DT hc];rfl,?_⟩
    have:¬y<x:=by omega
    simp [okI,this]
   ·left
    have:y<x:=by omega
    refine ⟨by rw [DN hc,Zho (q++[y])];rfl,?_⟩
    simp [okI,this]
 ·dsimp only [Z68]
  rw [Z1o,Zvn];rfl
theorem Zjq (d:DK) (hn:d.Need.length≤1000000):Zvh d=some (if okDr d then 0 else 150):=by
 simp only [Zvh,s_dCheck,OB]
 unfold okDr
 cases hk:okD d.DI with
 | false=>rfl
 | true=>
   have hl:=Zop hk
   rw [if_pos rfl,show decide ((0:Int)=0)=true from rfl,Bool.not_true,Zvn]
   by_cases h1:d.TH<0
   ·rw [DT h1,Zun,DN (show ¬0≤d.TH by omega)];rfl
   ·rw [DN h1,Zvn,DT (show 0≤d.TH by omega)]
    by_cases h2:2<d.TH
    ·rw [DT h2,DN (show ¬d.TH≤2 by omega)];rfl
    ·rw [DN h2,DT (show d.TH≤2 by omega)]
     dsimp only [Zuh]
     rw [Zvn,Ziq _ hn,OB]
     cases hv:okI none d.Need with
     | false=>rfl
     | true=>
       rw [Bool.not_true,Zvn]
       have j3:∀z,Zth d z=some (if (!z&&d.Need.all (Zhq d.DI))=true then 0 else 150):=fun z=>by
        cases z with
        | true=>rfl
        | false=>
          dsimp only [Zth]
          rw [Zvn,Zso d.Need (fun z=>Zyd z d) (fun p=>!Zhq d.DI p) (by omega) (fun p _=>by
           simp only [Zyd]
           rw [Zqo d.DI.SD (fun z=>Zo8 z p) (fun x=>decide (x.Peer=p)) (by omega) (fun x _=>rfl),OB]
           rfl),OB]
          have e1:d.Need.any (fun p=>!Zhq d.DI p)=!d.Need.all (Zhq d.DI):=Zuo _ _ _ fun _=>rfl
          rw [e1]
          cases d.Need.all (Zhq d.DI)<;>rfl
       rw [ln_eq]
       simp only [j3,Bool.true_and]
       have e3:decide ((0:Int)<(d.Need.length:Nat))=decide (0<d.Need.length):=by rw [decide_eq_decide];omega
       rw [e3]
       cases decide (d.TH=0)<;>rfl
theorem Zkq {d:DK} (h:okDr d=true):okD d.DI=true:=by unfold okDr at h;rw [Bool.and_eq_true] at h;exact h.1
theorem Zlq:∀(n:Nat) (d:DK) (out:List Mail),(Zdq n d out).1.Need=d.Need
 | 0,_,_=>rfl
 | n+1,d,out=>by
   unfold Zdq
   split
   ·rfl
   ·rw [Zlq n];rfl
theorem s_drFire (d:DK) (hk:okDr d=true) (hn:d.Need.length≤1000000):Zhk d.DI.ID d.DI.PH d.TH d.DI.SD d.Need=some ((Zeq d).1.DI.ID,(Zeq d).1.DI.PH,(Zeq d).1.TH,0,(Zeq d).1.DI.SD,d.Need,(Zeq d).2):=by
 have h6:=Zkq hk
 have hl:=Zop h6
 have hb:=bits_le d.DI.SD
 have hm:=mu_le h6
 dsimp only [Zhk]
 rw [show (⟨⟨d.DI.ID,d.DI.PH,d.DI.SD⟩,d.TH,d.Need⟩:DK)=d from rfl,Zjq d hn,OB,if_pos hk,show decide ((0:Int)=0)=true from rfl,Bool.not_true,Zvn,s_drOwn _ _ _ _ _ (by omega) hn,OB,fire_loop _ d.Need hn 299 d [] rfl h6 (by omega) (by simp only [List.length_nil];omega)]
 rfl
theorem s_drClose (d:DK) (hk:okDr d=true) (hn:d.Need.length≤1000000):Z8j d.DI.ID d.DI.PH d.TH d.DI.SD d.Need=some (if d.TH=0 then (0,0,152,[]) else (d.DI.ID,d.DI.PH,0,d.DI.SD)):=by
 have hl:=Zop (Zkq hk)
 dsimp only [Z8j]
 rw [show (⟨⟨d.DI.ID,d.DI.PH,d.DI.SD⟩,d.TH,d.Need⟩:DK)=d from rfl,Zjq d hn,OB,if_pos hk,show decide ((0:Int)=0)=true from rfl,Bool.not_true,Zvn]
 by_cases h1:d.TH=0
 ·rw [DT h1,Zun,if_pos h1]
 ·rw [DN h1,Zvn,if_neg h1,s_drOwn _ _ _ _ _ (by omega) hn,OB]
def Zmq (k:Int) (x:Side):Bool:=if k=1 then x.Fork else if k=2 then x.Token else if k=4 then x.Ask else x.BO
def layK (k:Int) (x:Side):Side:=if k=1 then {x with Fork:=true} else if k=2 then {x with Token:=true} else if k=4 then {x with Ask:=true} else {x with BO:=true}
theorem s_dGet (i p peer:Int) (m:Msg) (S:List Side) (hk:okD ⟨i,p,S⟩=true) {j:Nat} {x:Side} (hf:S.findIdx? (fun x=>decide (x.Peer=peer)&&decide (x.Epoch=m.Epoch))=some j) (hx:S[j]?=some x) (h0:m.Num=0) (hm:m.Kind=1∨m.Kind=2):
  Z7j i p peer m S=some (if Zmq m.Kind x then (0,0,132,[]) else (i,p,0,S.set j (layK m.Kind x))):=by
 have hl:S.length<64:=Zop hk
 dsimp only [Z7j]
 rw [s_dCheck,if_pos hk,OB,show decide ((0:Int)=0)=true from rfl,Bool.not_true,Zvn,Zmo S (fun z=>Zi8 z peer m) (fun x=>decide (x.Peer=peer)&&decide (x.Epoch=m.Epoch)) (by omega) (fun x _=>by
  simp only [Zi8,Zh8]
  cases decide (x.Peer=peer)<;>rfl),OB,plc_neg,hf,Option.isNone_some,Zvn,Znp S (by omega),OB]
 dsimp only [plc]
 rw [Zyn hx,OB]
 dsimp only [Z6j,Z4j,Z5j]
 rw [DT h0,Int.toNat_natCast]
 rcases hm with hm | hm
 ·rw [hm,show decide ((1:Int)=1)=true from rfl,Zun,Zun]
  simp only [Zmq,layK,if_true]
  cases x.Fork<;>rfl
 ·rw [hm,show decide ((2:Int)=1)=false from rfl,Zvn,Zvn,show decide ((2:Int)=2)=true from rfl,Zun,Zun]
  simp only [Zmq,layK,if_true,show ¬(2:Int)=1 by omega,if_false]
  cases x.Token<;>rfl
theorem s_drGet (d:DK) (peer:Int) (m:Msg) (hk:okDr d=true) (hn:d.Need.length≤1000000) {j:Nat} {x:Side} (hf:d.DI.SD.findIdx? (fun x=>decide (x.Peer=peer)&&decide (x.Epoch=m.Epoch))=some j) (hx:d.DI.SD[j]?=some x) (h0:m.Num=0) (hm:1≤m.Kind∧m.Kind≤4):
  Zxj d.DI.ID d.DI.PH d.TH peer m d.DI.SD d.Need=some (if Zmq m.Kind x then (0,0,0,132,[],[]) else (d.DI.ID,d.DI.PH,d.TH,0,d.DI.SD.set j (layK m.Kind x),d.Need)):=by
 have hl:=Zop (Zkq hk)
 dsimp only [Zxj]
 rw [show (⟨⟨d.DI.ID,d.DI.PH,d.DI.SD⟩,d.TH,d.Need⟩:DK)=d from rfl,Zjq d hn,if_pos hk,OB,show decide ((0:Int)=0)=true from rfl,Bool.not_true,Zvn,s_drOwn _ _ _ _ _ (by omega) hn,OB]
 dsimp only
 rw [Zmo d.DI.SD (fun z=>Z6a z peer m) (fun x=>decide (x.Peer=peer)&&decide (x.Epoch=m.Epoch)) (by omega) (fun x _=>by
     simp only [Z6a,Z5a]
     cases decide (x.Peer=peer)<;>rfl),OB,plc_neg,hf,Option.isNone_some,Zvn,DT h0,Bool.not_true,Zvn]
 have hd:=fun hm=>s_dGet d.DI.ID d.DI.PH peer m d.DI.SD (Zkq hk) hf hx h0 hm
 have j1:(m.Kind=1∨m.Kind=2)→Zwj d.DI.ID d.DI.PH d.TH peer m (d.DI.SD,d.Need) (plc (some j)) true=some (if Zmq m.Kind x then (0,0,0,132,[],[]) else (d.DI.ID,d.DI.PH,d.TH,0,d.DI.SD.set j (layK m.Kind x),d.Need)):=fun hq=>by
  dsimp only [Zwj]
  rw [Zun,hd hq,OB]
  cases Zmq m.Kind x<;>rfl
 have j0:(m.Kind=3∨m.Kind=4)→Zwj d.DI.ID d.DI.PH d.TH peer m (d.DI.SD,d.Need) (plc (some j)) false=some (if Zmq m.Kind x then (0,0,0,132,[],[]) else (d.DI.ID,d.DI.PH,d.TH,0,d.DI.SD.set j (layK m.Kind x),d.Need)):=fun hq=>by
  dsimp only [Zwj,plc]
  rw [Zvn,Zyn hx,OB,Int.toNat_natCast]
  rcases hq with hq | hq
  ·rw [hq,show decide ((3:Int)=4)=false from rfl,Zvn]
   simp only [Zmq,layK,show ¬(3:Int)=1 by omega,show ¬(3:Int)=2 by omega,show ¬(3:Int)=4 by omega,if_false]
   cases x.BO<;>rfl
  ·rw [hq,show decide ((4:Int)=4)=true from rfl,Zun]
   simp only [Zmq,layK,show ¬(4:Int)=1 by omega,show ¬(4:Int)=2 by omega,if_false,if_true]
   cases x.Ask<;>rfl
 by_cases k3:m.Kind=3
 ·rw [DT k3,Bool.not_true,Zvn];exact j0 (.inl k3)
 ·rw [DN k3,Bool.not_false,Zun]
  by_cases k4:m.Kind=4
  ·rw [DT k4,Bool.not_true];exact j0 (.inr k4)
  ·rw [DN k4,Bool.not_false];exact j1 (by omega)
structure FewN (n:Node):Prop where
 sides:n.DK.DI.SD.length≤100000
 need:n.DK.Need.length≤100000
 book:n.Book.Sess.length≤100000
 needs:∀s∈n.Book.Sess,s.Need.length≤100000
 known:n.KN.length≤100000
 told:n.Told.length≤100000
 asked:n.AK.length≤100000
theorem FewN.bk {n:Node} (h:FewN n):Z7p n.Book:=⟨by have:=h.book;omega,fun s hs=>by have:=h.needs s hs;omega⟩
def Znq (n:Node) (q:Side→Bool):List Int:=(n.DK.DI.SD.filter q).map (·.Peer)
theorem s_peers (n:Node) (hn:FewN n) (p:Side→Option Bool) (q:Side→Bool) (hp:∀x∈n.DK.DI.SD,p x=some (q x)):Zz8 n p=some (Znq n q):=by
 have hl:=hn.sides
 unfold Zz8
 refine Zbo n.DK.DI.SD _ (fun pre=>((pre.length:Int),(pre.filter q).map (·.Peer))) _ (fun pre x post h=>?_) ?_
 ·have hx:=Zco h
  have hm:=Zdo h
  have hf:=List.length_filter_le q pre
  dsimp only [Zy8]
  rw [Z0o hx,Zun,Zyn hx,OB,hp x (Zeo h),OB]
  cases hq:q x with
  | true=>
    rw [Zun,Zzn _ _ (by omega) (by simp;omega),OB]
    dsimp only [Zx8]
    rw [Z2o (by omega),Zho]
    simp [hq]
  | false=>
    rw [Zvn]
    dsimp only [Zx8]
    rw [Z2o (by omega),Zho]
    simp [hq]
 ·dsimp only [Zy8]
  rw [Z1o,Zvn];rfl
def Zoq (x:Side):Bool:=decide (x.State=0)
def Zpq (x:Side):Bool:=decide (x.State=1)
def Zqq (x:Side):Bool:=decide (x.State=3)
theorem s_Live (n:Node) (hn:FewN n):Zjb n=some (Znq n Zoq):=by
 simp only [Zjb,s_peers n hn (fun z=>Z19 z) Zoq (fun _ _=>rfl),OB]
def Zrq (K:List KE) (p:Int):Int:=match K.find? (fun k=>decide (k.Peer=p)) with | some k=>k.Epoch | none=>0
theorem s_epoch (n:Node) (hn:FewN n) (p:Int):Zy9 n p=some (Zrq n.KN p):=by
 have hl:=hn.known
 unfold Zy9
 refine Zao n.KN _ (fun pre=>(pre.length:Int)) (fun _ post=>some (Zrq post p)) (fun pre x post h=>?_) ?_
 ·have hx:=Zco h
  have hm:=Zdo h
  dsimp only [Zx9]
  rw [Z0o hx,Zun,Zyn hx,OB]
  by_cases hq:x.Peer=p
  ·right;exact ⟨x.Epoch,by rw [DT hq];rfl,by simp [Zrq,hq]⟩
  ·left;exact ⟨by rw [DN hq,Zvn,Z2o (by omega),Zho],by simp [Zrq,hq]⟩
 ·dsimp only [Zx9]
  rw [Z1o,Zvn];rfl
def mayB (n:Node) (k:KE):Bool:=
 !n.DK.DI.SD.any (fun x=>decide (x.Peer=k.Peer))&&(decide (0≤k.Peer)&&(decide (k.Peer<n.DK.DI.ID)&&(decide (Zrq n.KN k.Peer<k.Epoch)&&decide (k.Epoch≤65535))))
theorem s_may (n:Node) (hn:FewN n) (k:KE):Z0f n k=some (mayB n k):=by
 have hl:=hn.sides
 simp only [Z0f,Zqo n.DK.DI.SD (fun z=>Z0a z k) (fun x=>decide (x.Peer=k.Peer)) (by omega) (fun _ _=>rfl),OB,s_epoch n hn,Zze]
 unfold mayB
 cases n.DK.DI.SD.any (fun x=>decide (x.Peer=k.Peer))<;>cases decide (0≤k.Peer)<;>cases decide (k.Peer<n.DK.DI.ID)<;>cases decide (Zrq n.KN k.Peer<k.Epoch)<;>rfl
def Zsq (l:List KE):Bool:=decide (l.map (·.Peer)).Nodup
theorem Ztq (l:List KE) (hl:l.length≤1000000):Z4f l=some (Zsq l):=by
 unfold Z4f
 have key:=loop_ppI l (Z3f l) (fun pre=>(pre.length:Int)) (fun pre post=>some (Zsq (pre++post))) (fun pre=>(pre.map (·.Peer)).Nodup) (fun pre x post h hI=>?_) (fun hI=>?_) l [] rfl (by simp)
 ·exact key
 ·have hx:=Zco h
  have hm:=Zdo h
  have h6:sub_ l 0 (pre.length:Int)=some pre:=by
   unfold sub_
   rw [if_pos ⟨by omega,by omega,by omega⟩,h];simp
  dsimp only [Z3f]
  rw [Z0o hx,Zun,Zyn hx,OB,h6,OB,Zro pre (fun z=>Z1a z x) (fun y=>decide (y.Peer=x.Peer)) (by omega) (fun _ _=>rfl),OB]
  cases ha:pre.any (fun y=>decide (y.Peer=x.Peer)) with
  | true=>
    right
    refine ⟨false,rfl,?_⟩
    have:¬((pre++x::post).map (·.Peer)).Nodup:=by
     rw [List.any_eq_true] at ha
     obtain ⟨y,hy,hq⟩:=ha
     rw [List.map_append,List.map_cons,List.nodup_append]
     rintro ⟨_,_,h3⟩
     exact h3 y.Peer (List.mem_map.2 ⟨y,hy,rfl⟩) x.Peer (by simp) (by simpa using hq)
    unfold Zsq
    rw [DN this]
  | false=>
    left
    rw [List.any_eq_false] at ha
    refine ⟨by rw [Zvn,Z2o (by omega),Zho],?_,by simp [Zsq]⟩
    rw [List.map_append,List.nodup_append]
    refine ⟨hI,by simp,?_⟩
    intro a ha' b hb
    obtain ⟨y,hy,rfl⟩:=List.mem_map.1 ha'
    simp at hb;subst hb
    have:=ha y hy
    simpa using this
 ·dsimp only [Z3f]
  rw [Z1o,Zvn,List.append_nil]
  have:Zsq l=true:=by unfold Zsq;exact DT hI
  rw [this];rfl
def Zuq:Int→List KE→Bool
 | _,[]=>true
 | q,k::l=>(decide (q<k.Peer)&&(decide (k.Peer<64)&&(decide (1≤k.Epoch)&&decide (k.Epoch≤65535))))&&Zuq k.Peer l
def lastK (q:Int) (pre:List KE):Int:=match pre.getLast? with | some x=>x.Peer | none=>q
theorem Zvq (q:Int) (pre:List KE) (x:KE):lastK q (pre++[x])=x.Peer:=by simp [lastK]
theorem s_riseK (l:List KE) (hl:l.length≤1000000) (q:Int):∃z,Z2g l q=some (!Zuq q l,z):=by
 have s1:∀(k:KE) (q:Int),Zuc k q=some (!(decide (q<k.Peer)&&(decide (k.Peer<64)&&(decide (1≤k.Epoch)&&decide (k.Epoch≤65535))))):=fun k q=>by
  simp only [Zuc,Ztc]
  cases decide (q<k.Peer)<;>cases decide (k.Peer<64)<;>cases decide (1≤k.Epoch)<;>rfl
 have key:∀(post pre:List KE),l=pre++post→∃r z,loop (Zwe l) ((pre.length:Int),lastK q pre)=some (r,z)∧decide (0≤r)=!Zuq (lastK q pre) post:=by
  intro post
  induction post with
  | nil=>
    intro pre h
    have h:pre=l:=by simpa using h.symm
    subst h
    refine ⟨-1,lastK q pre,?_,rfl⟩
    rw [loop_eq]
    dsimp only [Zwe]
    rw [Z1o,Zvn];rfl
  | cons x post ih=>
    intro pre h
    have hx:=Zco h
    have hm:=Zdo h
    rw [loop_eq]
    dsimp only [Zwe]
    rw [Z0o hx,Zun,Zyn hx,OB,s1,OB]
    cases hk:(decide (lastK q pre<x.Peer)&&(decide (x.Peer<64)&&(decide (1≤x.Epoch)&&decide (x.Epoch≤65535)))) with
    | false=>exact ⟨pre.length,x.Peer,rfl,by simp only [Zuq,hk,Bool.false_and,Bool.not_false];exact DT (by omega)⟩
    | true=>
      obtain ⟨r,z,h1,h2⟩:=ih (pre++[x]) (by simpa using h)
      refine ⟨r,z,?_,?_⟩
      ·rw [Bool.not_true,Zvn,Z2o (by omega)]
       rw [Zho,Zvq] at h1
       exact h1
      ·rw [h2,Zvq]
       simp only [Zuq,hk,Bool.true_and]
 obtain ⟨r,z,h1,h2⟩:=key l [] rfl
 refine ⟨z,?_⟩
 have h1:loop (Zwe l) (0,q)=some (r,z):=h1
 simp only [Z2g,Zxe,h1,OB,h2]
 rfl
def sideN (n:Node) (x:Side):Bool:=decide (x.Peer<64)&&(decide (1≤x.Epoch)&&(decide (Zrq n.KN x.Peer=x.Epoch)&&!((decide (x.State=1)||decide (x.State=3))&&decide (x.Peer<n.DK.DI.ID))))
theorem s_edges1 (n:Node) (hn:FewN n) (x:Side):Zyc x n=some (!sideN n x):=by
 simp only [Zyc,Zxc,Zwc,s_epoch n hn,OB]
 unfold sideN
 by_cases h1:x.Peer<64
 ·rw [DT h1,DN (show ¬64≤x.Peer by omega)]
  by_cases h2:1≤x.Epoch
  ·rw [DT h2,DN (show ¬x.Epoch<1 by omega)]
   cases decide (Zrq n.KN x.Peer=x.Epoch)<;>cases decide (x.State=1)<;>cases decide (x.State=3)<;>cases decide (x.Peer<n.DK.DI.ID)<;>rfl
  ·rw [DN h2,DT (show x.Epoch<1 by omega)]
   cases decide (x.State=1)<;>rfl
 ·rw [DN h1,DT (show 64≤x.Peer by omega)]
  cases decide (x.State=1)<;>rfl
def knownN (n:Node):Bool:=decide (n.DK.DI.ID<64)&&(Zuq (-1) n.KN&&(n.DK.DI.SD.all (sideN n)&&(okI none n.Told&&n.Told.all fun z=>decide (z∈Znq n Zpq))))
def edgesN (n:Node):Bool:=n.AK.all (mayB n)&&(Zsq n.AK&&knownN n)
theorem Zwq (n:Node) (q:Side→Bool):(Znq n q).length≤n.DK.DI.SD.length:=by
 unfold Znq;rw [List.length_map];exact List.length_filter_le _ _
theorem s_edges (n:Node) (hn:FewN n):Zvj n=some (edgesN n):=by
 have h1:=hn.asked
 have h2:=hn.known
 have h3:=hn.sides
 have h4:=hn.told
 have h5:=Zwq n Zpq
 obtain ⟨z,hz⟩:=s_riseK n.KN (by omega) (-1)
 have hk:∃z,Zlj n (-1) (fun z=>Zyc z n)=some (knownN n,z):=by
  simp only [Zlj,Zkj,hz,OB,Zqo n.DK.DI.SD (fun z=>Zyc z n) (fun x=>!sideN n x) (by omega) (fun x _=>s_edges1 n hn x),Ziq n.Told (by omega),s_peers n hn (fun z=>Zk9 z) Zpq (fun _ _=>rfl),s_Within n.Told (Znq n Zpq) (by omega) (by omega)]
  unfold knownN
  have e1:n.DK.DI.SD.any (fun x=>!sideN n x)=!n.DK.DI.SD.all (sideN n):=Zuo _ _ _ fun _=>rfl
  rw [e1]
  cases decide (n.DK.DI.ID<64) with
  | false=>exact ⟨-1,rfl⟩
  | true=>cases Zuq (-1) n.KN with
    | false=>exact ⟨z,rfl⟩
    | true=>cases n.DK.DI.SD.all (sideN n) with
      | false=>exact ⟨z,rfl⟩
      | true=>cases okI none n.Told with
        | false=>exact ⟨z,rfl⟩
        | true=>exact ⟨z,rfl⟩
 obtain ⟨z',hk⟩:=hk
 have e2:n.AK.any (fun k=>!mayB n k)=!n.AK.all (mayB n):=Zuo _ _ _ fun _=>rfl
 simp only [Zvj,Zro n.AK (fun z=>Z4g z n) (fun k=>!mayB n k) (by omega) (fun k _=>by simp only [Z4g,s_may n hn,OB]),OB,e2,Ztq n.AK (by omega),Zuj,hk]
 unfold edgesN
 cases n.AK.all (mayB n)<;>cases Zsq n.AK<;>rfl
def sess0:Sess:=⟨0,[],0,0⟩
theorem s_first (n:Node):Z39 n=some (match n.Book.Sess with | []=>(sess0,false) | s::_=>(s,true)):=by
 simp only [Z39,ln_eq]
 cases h:n.Book.Sess with
 | nil=>rfl
 | cons s l=>
   rw [DN (by simp;omega),Zvn];rfl
def Zxq (n:Node):Bool:=match n.Book.Sess with | []=>false | s::_=>decide (s.State=1)
def headQ (n:Node):Bool:=match n.Book.Sess with | []=>false | s::_=>decide (s.Need=n.DK.Need)
def waitN (n:Node) (s:Sess):Bool:=!(decide (s.State=0)&&!s.Need.all fun z=>decide (z∈Znq n Zoq))
def Zyq (n:Node):Bool:=
 (decide (n.DK.TH=2)==Zxq n)&&((decide (n.DK.TH=0)||headQ n)&&(!n.DK.Need.any (fun z=>decide (z∈Znq n Zqq))&&n.Book.Sess.all (waitN n)))
theorem s_Both (a b:List Int) (ha:a.length≤1000000) (hb:b.length≤1000000):Zih a b=some ((Zwo a).filter fun z=>decide (z∈b)):=by
 simp only [Zih]
 rw [s_keep a (fun z=>Z6g z b) (fun z=>decide (z∈b)) ha (fun x _=>by simp only [Z6g,Zzo b x hb,OB]),OB]
theorem s_thirst (n:Node) (hn:FewN n):Zqj n=some (Zyq n):=by
 have h3:=hn.sides
 have h4:=hn.need
 have h5:=hn.book
 have h6:=Zwq n Zqq
 have h7:=Zwq n Zoq
 have hc:Zta n.Book.Sess (fun z=>Z2j z n)=some (n.Book.Sess.any fun s=>!waitN n s):=Zto _ _ _ (by omega) fun s hs=>by
  have:=hn.needs s hs
  simp only [Z2j,Z1j,s_Live n hn,OB,s_Within s.Need (Znq n Zoq) (by omega) (by omega)]
  unfold waitN
  cases decide (s.State=0)<;>cases (s.Need.all fun z=>decide (z∈Znq n Zoq))<;>rfl
 have e1:(n.Book.Sess.any fun s=>!waitN n s)=!n.Book.Sess.all (waitN n):=Zuo _ _ _ fun _=>rfl
 have j2:∀z,Zoj n z=some (!z&&(!n.DK.Need.any (fun z=>decide (z∈Znq n Zqq))&&n.Book.Sess.all (waitN n))):=fun z=>by
  cases z with
  | true=>rfl
  | false=>
    dsimp only [Zoj,Znj]
    rw [Zvn,s_peers n hn (fun z=>Z3a z) Zqq (fun _ _=>rfl),OB,s_Both _ _ (by omega) (by omega),OB,hc,e1,ln_eq]
    have e2:decide (((((Zwo n.DK.Need).filter fun z=>decide (z∈Znq n Zqq)).length:Nat):Int)=0)=!n.DK.Need.any (fun z=>decide (z∈Znq n Zqq)):=by
     have hm:=(Z1p n.DK.Need).2
     cases ha:n.DK.Need.any (fun z=>decide (z∈Znq n Zqq)) with
     | true=>
       rw [List.any_eq_true] at ha
       obtain ⟨x,hx,hq⟩:=ha
       refine DN fun e=>?_
       have:((Zwo n.DK.Need).filter fun z=>decide (z∈Znq n Zqq))=[]:=List.length_eq_zero_iff.1 (by omega)
       have h8:x∈((Zwo n.DK.Need).filter fun z=>decide (z∈Znq n Zqq)):=List.mem_filter.2 ⟨(hm x).2 hx,hq⟩
       rw [this] at h8;simp at h8
     | false=>
       rw [List.any_eq_false] at ha
       refine DT ?_
       have:((Zwo n.DK.Need).filter fun z=>decide (z∈Znq n Zqq))=[]:=by
        rw [List.filter_eq_nil_iff]
        intro x hx
        exact ha x ((hm x).1 hx)
       rw [this];rfl
    rw [e2]
    cases n.DK.Need.any (fun z=>decide (z∈Znq n Zqq)) with
    | true=>rfl
    | false=>
      rw [Bool.not_false,Zun,OB]
      cases n.Book.Sess.all (waitN n)<;>rfl
 simp only [Zqj,s_first,OB,Zpj,j2]
 unfold Zyq Zxq headQ
 cases hb:n.Book.Sess with
 | nil=>
   simp only [Zvn,Bool.not_false,Bool.not_true]
   cases decide (n.DK.TH=2)<;>cases decide (n.DK.TH=0)<;>simp [ifb]
 | cons s l=>
   have hs:=hn.needs s (by rw [hb];simp)
   simp only [Zun,Zfq s.Need n.DK.Need (by omega),OB,Bool.not_true,Zvn]
   cases decide (s.State=1)<;>cases decide (n.DK.TH=2)<;>cases decide (n.DK.TH=0)<;>cases decide (s.Need=n.DK.Need)<;>simp [ifb]
def okN (n:Node):Bool:=okDr n.DK&&(okBk n.Book&&(edgesN n&&Zyq n))
theorem Zzq (n:Node) (hn:FewN n):Zkk n=some (if okN n then 0 else 180):=by
 have h4:=hn.need
 simp only [Zkk,Zjk,Zjq n.DK (by omega),Z9p n.Book hn.bk,s_edges n hn,s_thirst n hn,OB]
 unfold okN
 cases okDr n.DK with
 | false=>rfl
 | true=>cases okBk n.Book with
   | false=>rfl
   | true=>cases edgesN n with
     | false=>rfl
     | true=>cases Zyq n<;>rfl
end
end NX
end Go.Proofs.YtdjkbodnjhgbcaaGreat
