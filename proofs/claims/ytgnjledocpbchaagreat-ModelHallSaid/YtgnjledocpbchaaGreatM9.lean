/-
  The function (*narthex/node.node).know, lent own memory. Written by a program of ours (lb.py). No statement of the seat is proved here.
-/
import Derived.Test.YtgnjledocpbchaaGreatM8
set_option maxRecDepth 100000
set_option maxHeartbeats 40000000
namespace Go.Proofs.YtgnjledocpbchaaGreat
namespace NX
open Go
noncomputable section
def RX (x2:Int) (x14:(Int×Bool)):List KE→Option (List KE)
| x16=>
 (Ac x16 x14.1).bind fun x17=>
 some (x16.set (Int.toNat (x14.1)) (KE.mk x17.PE x2))
def Wo (x1 x2:Int) (_x3 _x4:Int) (_x5 _x6 _x7:Int) (_x8:List SX) (_x9:List Int) (_x10:List SE) (x11:List KE) (_x12:List Int) (_x13:List KE):Option (List KE):=
 (La x11 x1 ((fun z=>Hy z.1 z.2))).bind fun x14=>
 A0 (!x14.2) (
 (Lj x11 x14.1 ([KE.mk x1 0])).bind fun x15=>
 (RX x2 x14) x15) (
 (RX x2 x14) x11)
instance t_node_node_know_I3 {x1 x2 x3 x4 x5 x6 x7 x8 x9 x10 x11 x12 x13}:KT (Wo x1 x2 x3 x4 x5 x6 x7 x8 x9 x10 x11 x12 x13) 181 [.ptr 0 0,.iv x1,.iv x2] [some ⟨191,[.iv x3,.iv x4,.osl 0,.iv x5,.osl 1,.iv x6,.osl 2,.osl 3,.osl 4,.osl 5,.nl,.nl,.iv x7]⟩] [Al x8,Ae x9,B4 x10,Ai x11,Ae x12,Ai x13] (fun _=>(.tup [])) (fun _=>[some ⟨191,[.iv x3,.iv x4,.osl 0,.iv x5,.osl 1,.iv x6,.osl 2,.osl 7,.osl 4,.osl 5,.nl,.nl,.iv x7]⟩]) (fun r=>[Al x8,Ae x9,B4 x10,none,Ae x12,Ai x13,none,Ai r]):=⟨fun{r} h=>by
 refine Ft XV fun w0 M0=>?_;have ok:=XV;have A1:AJ [.w 147 2,.w 147 2,.r 3 7]:=trivial;rw [Wo] at h;refine Vg 8 ?_;refine VN (LR.slice 3 rfl) h k_slices_BinarySearchFunc_Known_int.k fun x14 _ h=>?_;refine Vg 12 ?_;refine Vl [0,1,1,1,3,1] (fun x16=>([],[some ⟨191,[.iv x3,.iv x4,.osl 0,.iv x5,.osl 1,.iv x6,.osl 2,.osl 7,.osl 4,.osl 5,.nl,.nl,.iv x7]⟩],[Al x8,Ae x9,B4 x10,none,Ae x12,Ai x13,none,Ai x16])) (RX x2 x14) r ?_ fun J1=>?_
 ·intro x16 h;rw [RX] at h;refine Vg 8 ?_;have ⟨x17,ex17,h⟩:=Bs h;refine C5 KE.row ex17 trivial rfl rfl rfl (Vg 1 ?_);refine Du [.iv x2] KE.row (y':=(KE.mk x17.PE x2)) ex17 trivial rfl rfl rfl (by first | exact AA _ | simp [go_sem]) rfl rfl rfl rfl ?_;exact Wx
 ·exact Wx⟩
def aN:List DI→Option (List DI×Int)
| x68=>some (x68,0)
def WS (x31:Int) (x32:List DI):List SX→Option ((Int×List DI) ⊕ (List DI×Int))
| x59=>
 (AE 40 x32 ([DI.mk x31 0 x59])).bind fun x60=>
 some (.inl (wr (x31+1),x60))
def Ss (x2:List Int) (x31:Int) (x32:List DI) (x33:List Int):(Int×List SX)→Option ((Int×List SX) ⊕ ((Int×List DI) ⊕ (List DI×Int)))
| (x40,x41)=>
 A0 (decide (x40<(ln Am x33))) (
 (Ac x33 x40).bind fun x42=>
 (Ac x2 x31).bind fun x43=>
 (Ac x2 x42).bind fun x44=>
 (AE 32 x41 ([SX.mk x42 1 0 (decide (x44<x43)) (decide (x44<x43)) (!(decide (x44<x43))) (decide (x44<x43)) (!(decide (x44<x43)))])).bind fun x45=>
 some (.inl (wr (x40+1),x45))) (
 Option.map Sum.inr ((WS x31 x32) x41))
def Sr (x1:Graph) (x2:List Int):(Int×List DI)→Option ((Int×List DI) ⊕ (List DI×Int))
| (x31,x32)=>
 A0 (decide (x31<x1.N)) (
 (Il x1 x31).bind fun x33=>
 loop (Ss x2 x31 x32 x33) (0,([]:List SX))) (
 Option.map Sum.inr (aN x32))
def Sq (x1:Graph) (x2:List Int):Option (List DI×Int):=
 (Hq x1).bind fun x3=>
 A0 (!decide (x3=0)) (
 some (([]:List DI),x3)) (
 (PT x1 x2).bind fun x4=>
 A0 (!x4) (
 some (([]:List DI),120)) (
 loop (Sr x1 x2) (0,([]:List DI))))
instance k_place_Table {x1 x2}:KP (Sq x1 x2) 103 [.agg (Graph.row x1),Aj x2] (fun r=>(.tup [mL r.1,.iv r.2])):=⟨fun{r} h=>by
 have ok:=oJ 103 Tryz.f103 [.t 4,.t 5] 2 65;refine FP ok fun w0 H0=>?_;have A3:AJ [.r 3 1]:=trivial;have A2:AJ [.r 3 0]:=trivial;have A1:AJ [.s 0]:=trivial;rw [Sq] at h;refine Vg 10 ?_;refine VB h k_graph_Check.k fun _ _ h=>?_;refine Vg 7 ?_;refine MI h (fun h=>?_) fun h=>?_
 ·exact Wx
 ·refine Vg 6 ?_;refine VB h k_colour_Right.k fun _ _ h=>?_;refine Vg 2 ?_;refine MI h (fun h=>?_) fun h=>?_
  ·exact Wx
  ·refine Vg 12 ?_;refine Vl [] (fun x68=>([(7,.osl 0)],[],[YU x68])) aN r ?_ fun J1=>?_
   ·intro x68 h;rw [aN] at h;exact Wx
   ·refine Vg 1 ?_;(refine Wj [.t 7 51 3] ?_);refine Mm h [1,2,4,1,15,1] (fun s=>([(24,.iv s.1)],[],[],[(0,YU s.2)])) ?_;rintro n1 ⟨x31,x32⟩ y1 h hin1 hout1;rw [Sr] at h;refine Vg 5 ?_;refine MI h (fun h=>?_) fun h=>?_
    ·refine Vg 20 ?_;refine VB h PA fun _ _ h=>?_;refine Vg 3 ?_;refine Vl [1,2,4,1,1,1,13,2] (fun x59=>([],[some ⟨24,Graph.row x1⟩,some ⟨51,[.iv x31,.iv 0,.osl 1]⟩],[YU x32,Al x59])) (WS x31 x32) y1 ?_ fun J2=>?_
     ·intro x59 h;rw [WS] at h;refine Vg 3 ?_;(refine Wj [.s 1] ?_);exact Wx
     ·refine Vg 1 ?_;(refine Wj [.o 1 2 100 8] ?_);refine Mm h [1,2,4,3,13,2,6,2] (fun s=>([(33,.iv s.1)],[],[],[(1,Al s.2)])) ?_;rintro n2 ⟨x40,x41⟩ y2 h hin2 hout2;rw [Ss] at h;exact Wx
    ·exact Wx⟩
def ZY:List Int→Option (List Int×Int)
| x54=>some (x54,0)
def Ks (x26:Int):List Int→Option ((Int×List Int) ⊕ (List Int×Int))
| x46=>some (.inl (wr (x26+1),x46))
def Mu (x2:List Int) (x26:Int) (x28:List Int):List Int→Option ((List Int) ⊕ ((Int×List Int) ⊕ (List Int×Int)))
| x35=>
 (Fh x28 ((fun z=>Mt z x2 x35 x26))).bind fun x36=>
 A0 x36 (
 (Ac x35 x26).bind fun x37=>
 some (.inl (x35.set (Int.toNat (x26)) (wr (x37+1))))) (
 Option.map Sum.inr ((Ks x26) x35))
def Kt (x2:List Int) (x26:Int) (x27 x28:List Int):Bool→Option ((Int×List Int) ⊕ (List Int×Int))
| x31=>
 A0 x31 (
 (Ks x26) x27) (
 (Ac x27 x26).bind fun _=>
 loop (Mu x2 x26 x28) (x27.set (Int.toNat (x26)) 1))
def Q0 (x1:Graph) (x2:List Int):(Int×List Int)→Option ((Int×List Int) ⊕ (List Int×Int))
| (x26,x27)=>
 A0 (decide (x26<x1.N)) (
 (Il x1 x26).bind fun x28=>
 (Ac x2 x26).bind fun x29=>
 A0 (!decide (x29=0)) (
 (Kt x2 x26 x27 x28) true) (
 (Fh x28 ((fun z=>Ms z x2 x26))).bind fun x30=>
 (Kt x2 x26 x27 x28) x30)) (
 Option.map Sum.inr (ZY x27))
def PZ (x1:Graph) (x2:List Int):Bool→Option (List Int×Int)
| x5=>
 A0 x5 (
 some (([]:List Int),110)) (
 (Cp x2).bind fun x6=>
 loop (Q0 x1 x2) (0,x6))
def PW (x1:Graph) (x2:List Int):Option (List Int×Int):=
 (Hq x1).bind fun x3=>
 A0 (!decide (x3=0)) (
 some (([]:List Int),x3)) (
 A0 (!decide ((ln Am x2)=x1.N)) (
 (PZ x1 x2) true) (
 (Fh x2 ((fun z=>PX z))).bind fun x4=>
 (PZ x1 x2) x4))
instance k_colour_Round {x1 x2}:KP (PW x1 x2) 147 [.agg (Graph.row x1),Aj x2] (fun r=>(.tup [Aj r.1,.iv r.2])):=⟨fun{r} h=>by
 have ok:=oJ 147 Tryz.f147 [.t 4,.t 5] 2 56;refine FP ok fun w0 H0=>?_;have A1:AJ [.s 0]:=trivial;rw [PW] at h;refine Vg 11 ?_;refine VB h k_graph_Check.k fun _ _ h=>?_;refine Vg 7 ?_;refine MI h (fun h=>?_) fun h=>?_
 ·exact Wx
 ·refine Vg 10 ?_;refine Vk [2,2] (fun x5=>[(23,.bv x5)]) (PZ x1 x2) r ?_ fun J1=>?_
  ·intro x5 h;rw [PZ] at h;refine MI h (fun h=>?_) fun h=>?_
   ·exact Wx
   ·refine Vg 4 ?_;have ⟨x6,ex6,h⟩:=Bs h;refine F1 trivial (El ex6) (h:=?_);refine Vg 10 ?_;refine Vm [7,1] (fun x54=>([],[],[(0,none),(1,none)],[(0,Ae x54)])) ZY r ?_ fun J2=>?_
    ·intro x54 h;rw [ZY] at h;exact Wx
    ·refine Vg 1 ?_;refine Mm h [2,2,3,1,19,1] (fun s=>([(28,.iv s.1)],[],[],[(0,Ae s.2)])) ?_;rintro n1 ⟨x26,x27⟩ y1 h hin1 hout1;rw [Q0] at h;refine Vg 5 ?_;refine MI h (fun h=>?_) fun h=>?_
     ·refine Vg 2 ?_;refine Vm [2,2,3,1,19,2] (fun x46=>([],[],[],[(0,Ae x46)])) (Ks x26) y1 ?_ fun J3=>?_
      ·intro x46 h;rw [Ks] at h;exact Wx
      ·refine Vg 11 ?_;refine VB h PA fun x28 _ h=>?_;refine Vg 7 ?_;have ⟨x29,ex29,h⟩:=Bs h;refine Dt Am ex29 trivial rfl rfl rfl (Vg 3 ?_);refine Vk [2,2,3,3,17,2] (fun x31=>[(43,.bv x31)]) (Kt x2 x26 x27 x28) y1 ?_ fun J4=>?_
       ·intro x31 h;rw [Kt] at h;refine MI h (fun h=>?_) fun h=>?_
        ·exact Wx
        ·refine Vg 5 ?_;have ⟨x32,ex32,h⟩:=Bs h;refine C5 Am ex32 trivial rfl rfl rfl (Du [.iv 1] Am (y':=1) ex32 trivial rfl rfl rfl (by first | exact AA _ | simp [go_sem]) rfl rfl rfl rfl (Vg 2 ?_));refine Mm h [2,2,3,3,17,2] (fun x35=>([],[],[],[(0,Ae x35)])) ?_;rintro n2 x35 y2 h hin2 hout2;rw [Mu] at h;refine Vg 5 ?_;refine VN ((((LR.slice 0 rfl).block 1 rfl rfl).block 2 rfl rfl).block 3 rfl rfl) h k_slices_ContainsFunc_int.k fun _ _ h=>?_;refine Vg 1 ?_;refine MI h (fun h=>?_) fun h=>?_
         ·refine Vg 5 ?_;have ⟨x37,ex37,h⟩:=Bs h;refine C5 Am ex37 trivial rfl rfl rfl (Gm Am ex37 trivial rfl rfl rfl (Vg 1 ?_));refine C5 Am ex37 trivial rfl rfl rfl (Du [.iv (wr (x37+1))] Am (y':=wr (x37+1)) ex37 trivial rfl rfl rfl (by first | exact AA _ | simp [go_sem]) rfl rfl rfl rfl ?_);exact Wx
         ·exact Wx
       ·exact Wx
     ·exact Wx
  ·exact Wx⟩
def QO (x1:Int) (x2:Model) (x3:EV):Option Bool:=
 (Im x2 x1 x3.NO).bind fun x4=>
 some x4
instance k_model_grant_1 {x1 x2 x3}:KP (QO x1 x2 x3) 92 [.iv x1,.elt (Model.row x2) 0,.elt (EV.row x3) 0] (fun r=>(.bv r)):=⟨fun{r} h=>by have ok:=oJ 92 Tryz.f92 [.t 4] 3 7;refine FP ok fun w0 H0=>?_;rw [QO] at h;exact Wx⟩
instance {x2 x3}:KC (fun z=>QO z x2 x3) 92 [.elt (Model.row x2) 0,.elt (EV.row x3) 0] (fun z=>[.iv z]) (fun z=>(.bv z)):=⟨⟨by kernel_rfl,rfl,fun z r hz=>k_model_grant_1.k hz⟩⟩
def aq:List Place→Option (Model×Int)
| x30=>some ((Model.mk x30),0)
def VF (x1:Graph):(Int×List Place)→Option ((Int×List Place) ⊕ (Model×Int))
| (x7,x8)=>
 A0 (decide (x7<x1.N)) (
 (Il x1 x7).bind fun x9=>
 (AE 56 x8 ([Place.mk (BK.mk 0 (([]:List SE))) x9])).bind fun x11=>
 some (.inl (wr (x7+1),x11))) (
 Option.map Sum.inr (aq x8))
def Jt (x1:Graph):Option (Model×Int):=
 (Hq x1).bind fun x2=>
 A0 (!decide (x2=0)) (
 some ((Model.mk (([]:List Place))),x2)) (
 loop (VF x1) (0,([]:List Place)))
instance k_model_New {x1}:KP (Jt x1) 6 [.agg (Graph.row x1)] (fun r=>(.tup [.agg (Model.row r.1),.iv r.2])):=⟨fun{r} h=>by
 have ok:=oJ 6 Tryz.f6 [.c 2 (some 1),.t 3] 1 28;refine FP ok fun w0 H0=>?_;have A2:AJ [.r 2 0]:=trivial;have A1:AJ [.s 0]:=trivial;rw [Jt] at h;refine Vg 10 ?_;refine VB h k_graph_Check.k fun _ _ h=>?_;refine Vg 7 ?_;refine MI h (fun h=>?_) fun h=>?_
 ·exact Wx
 ·refine Vg 12 ?_;refine Vl [2,1,2,1] (fun x30=>([],[none,some ⟨30,[.nl]⟩,some ⟨30,[.osl 0]⟩],[CW x30])) aq r ?_ fun J1=>?_
  ·intro x30 h;rw [aq] at h;exact Wx
  ·refine Vg 1 ?_;(refine Wj [.o 2 0 62 3] ?_);refine Mm h [1,2,2,1,8,1] (fun s=>([(15,.iv s.1)],[],[],[(0,CW s.2)])) ?_;rintro n1 ⟨x7,x8⟩ y1 h hin1 hout1;rw [VF] at h;refine Vg 5 ?_;refine MI h (fun h=>?_) fun h=>?_
   ·refine Vg 8 ?_;refine AD fun all H=>?_;refine Gn H 3 7 ?_;have ⟨x9,ex9,h⟩:=Bs h;refine Ao 1 4 rfl ?_ ?_
    ·refine RV ?_;refine Ak 4 rfl (GC H.1 (PA ex9) (Ds ?_));refine Ak 5 rfl (FW (.agg [.iv 0,Aq (([]:List SE)),Aj x9]) H.1 rfl trivial (by simp [go_sem]) ?_);exact Wx
    ·refine GC H.1 (PA ex9) (Ds ?_);refine Ao 1 5 rfl ?_ ?_
     ·refine RV ?_;refine Ak 5 rfl (FW (.agg [.iv 0,Aq (([]:List SE)),Aj x9]) H.1 rfl trivial (by simp [go_sem]) ?_);exact Wx
     ·refine FW (.agg [.iv 0,Aq (([]:List SE)),Aj x9]) H.1 rfl trivial (by simp [go_sem]) ?_;exact Wx
   ·exact Wx⟩
def ae:Unit→Option Bool
| ()=>some true
def VA (x15:Int):Unit→Option (Int ⊕ Bool)
| ()=>some (.inl (wr (x15+1)))
def QB (x20:Int):Bool→Option (Int ⊕ (Int ⊕ Bool))
| x23=>
 A0 x23 (
 Option.map Sum.inr (Option.map Sum.inr (some false))) (
 some (.inl (wr (x20+1))))
def N4 (x1:Model) (x15:Int):Int→Option (Int ⊕ (Int ⊕ Bool))
| x20=>
 A0 (decide (x20<x15)) (
 (Im x1 x15 x20).bind fun x21=>
 A0 x21 (
 (Im x1 x20 x15).bind fun x22=>
 (QB x20) x22) (
 (QB x20) false)) (
 Option.map Sum.inr ((VA x15) ()))
def QC (x1:Model):Int→Option (Int ⊕ Bool)
| x15=>
 A0 (decide (x15<(ln Place.row x1.Places))) (
 loop (N4 x1 x15) 0) (
 Option.map Sum.inr (ae ()))
def QA (x1:Model):Option Bool:=loop (QC x1) 0
instance k_model_Apart {x1}:KP (QA x1) 16 [.agg (Model.row x1)] (fun r=>(.bv r)):=⟨fun{r} h=>by
 have ok:=oJ 16 Tryz.f16 [.t 2] 1 26;refine FP ok fun w0 H0=>?_;rw [QA] at h;refine Vg 13 ?_;refine Vl [] (fun _=>([],[],[])) ae r ?_ fun J1=>?_
 ·rintro ⟨⟩ h;rw [ae] at h;exact Wx
 ·refine Vg 1 ?_;refine Mk h [1,1,5,1] (fun x15=>[(8,.iv x15)]) ?_;rintro n1 x15 y1 h hin1 hout1;rw [QC] at h;refine Vg 5 ?_;refine MI h (fun h=>?_) fun h=>?_
  ·refine Vg 13 ?_;refine Vk [1,1,5,2] (fun _=>[]) (VA x15) y1 ?_ fun J2=>?_
   ·rintro ⟨⟩ h;rw [VA] at h;exact Wx
   ·refine Vg 1 ?_;refine Mk h [1,1,1,1,3,2,2,1] (fun x20=>[(12,.iv x20)]) ?_;rintro n2 x20 y2 h hin2 hout2;rw [N4] at h;refine Vg 5 ?_;refine MI h (fun h=>?_) fun h=>?_
    ·refine Vg 13 ?_;refine VB h k_model_uses.k fun _ _ h=>?_;refine Vg 1 ?_;refine Vk [1,1,1,1,3,2,2,2] (fun x23=>[(24,.bv x23)]) (QB x20) y2 ?_ fun J3=>?_
     ·intro x23 h;rw [QB] at h;exact Wx
     ·exact Wx
    ·exact Wx
  ·exact Wx⟩
def O1 (x1:BK) (x2:Int):Option (BK×Int):=
 (O4 x1 x2 1).bind fun x3=>
 some (x3.1,x3.2)
instance k_sess_Release {x1 x2}:KP (O1 x1 x2) 59 [.agg (BK.row x1),.iv x2] (fun r=>(.tup [.agg (BK.row r.1),.iv r.2])):=⟨fun{r} h=>by have ok:=oJ 59 Tryz.f59 [.c 4 (some 2),.t 5] 2 9;refine FP ok fun w0 H0=>?_;rw [O1] at h;exact Wx⟩
def NU (x1:BK) (x2:Int):Option (BK×Int):=
 (O4 x1 x2 0).bind fun x3=>
 some (x3.1,x3.2)
instance k_sess_Cancel {x1 x2}:KP (NU x1 x2) 61 [.agg (BK.row x1),.iv x2] (fun r=>(.tup [.agg (BK.row r.1),.iv r.2])):=⟨fun{r} h=>by have ok:=oJ 61 Tryz.f61 [.c 4 (some 2),.t 5] 2 9;refine FP ok fun w0 H0=>?_;rw [NU] at h;exact Wx⟩
@[go_sem] def pQ:EC:=eQ Tryz.f219
theorem iN:FnOK Tryz.prog 219 Tryz.f219 pQ [] 1 84:=AP
def Q5 (x1:DI) (x50:List ML):(Int×List SX)→Option (Int×Int×Int×List SX×List ML)
| (x65,x66)=>some (x1.ID,x65,0,x66,x50)
def Mz (x1:DI) (x49:List SX) (x50:List ML):(Int×List SX)→Option ((Int×List SX) ⊕ (Int×Int×Int×List SX×List ML))
| (x55,x56)=>
 A0 (decide (x55<(ln SX.row x49))) (
 (Ac x56 x55).bind fun x57=>
 some (.inl (wr (x55+1),x56.set (Int.toNat (x55)) (SX.mk x57.PE x57.EP x57.SS x57.FK true x57.TO x57.BO x57.Ask)))) (
 Option.map Sum.inr ((Q5 x1 x50) (2,x56)))
def Mx (x1:DI) (x49:List SX) (x50:List ML):Bool→Option (Int×Int×Int×List SX×List ML)
| x51=>
 A0 x51 (
 loop (Mz x1 x49 x50) (0,x49)) (
 (Q5 x1 x50) (x1.PH,x49))
def UW (x1:DI):(Bool×List SX×List ML)→Option (Int×Int×Int×List SX×List ML)
| (x48,x49,x50)=>
 A0 (decide (x1.PH=1)) (
 (Mx x1 x49 x50) x48) (
 (Mx x1 x49 x50) false)
def Q4 (x21:Int) (x33:List SX) (x34:List ML):Bool→Option ((Bool×Int×List SX×List ML) ⊕ (Int×Int×Int×List SX×List ML))
| x36=>some (.inl (x36,wr (x21+1),x33,x34))
def Mw (x20:Bool) (x21:Int):(List SX×List ML)→Option ((Bool×Int×List SX×List ML) ⊕ (Int×Int×Int×List SX×List ML))
| (x33,x34)=>
 A0 x20 (
 (Ac x33 x21).bind fun x35=>
 (Q4 x21 x33 x34) x35.FK) (
 (Q4 x21 x33 x34) false)
def Ij (x1:DI) (x20:Bool) (x21:Int) (x27:List SX) (x28:List ML):Bool→Option ((Bool×Int×List SX×List ML) ⊕ (Int×Int×Int×List SX×List ML))
| x30=>
 A0 x30 (
 (Ac x27 x21).bind fun x31=>
 (Kw 2 x1.ID x1.PH x21 x28 (x27.set (Int.toNat (x21)) (SX.mk x31.PE x31.EP x31.SS x31.FK x31.DY false x31.BO x31.Ask))).bind fun x32=>
 (Mw x20 x21) ((x27.set (Int.toNat (x21)) (SX.mk x31.PE x31.EP x31.SS x31.FK x31.DY false x31.BO x31.Ask)),x32)) (
 (Mw x20 x21) (x27,x28))
def Jm (x1:DI) (x20:Bool) (x21:Int):(List SX×List ML)→Option ((Bool×Int×List SX×List ML) ⊕ (Int×Int×Int×List SX×List ML))
| (x27,x28)=>
 A0 (decide (x1.PH=1)) (
 (Ac x27 x21).bind fun x29=>
 A0 x29.TO (
 (Ij x1 x20 x21 x27 x28) (!x29.FK)) (
 (Ij x1 x20 x21 x27 x28) false)) (
 (Ij x1 x20 x21 x27 x28) false)
def Fe (x1:DI) (x20:Bool) (x21:Int) (x22:List SX) (x23:List ML) (x24:SX):Bool→Option ((Bool×Int×List SX×List ML) ⊕ (Int×Int×Int×List SX×List ML))
| x25=>
 A0 x25 (
 (Kw 1 x1.ID x1.PH x21 x23 (x22.set (Int.toNat (x21)) (SX.mk x24.PE x24.EP x24.SS false false x24.TO x24.BO x24.Ask))).bind fun x26=>
 (Jm x1 x20 x21) ((x22.set (Int.toNat (x21)) (SX.mk x24.PE x24.EP x24.SS false false x24.TO x24.BO x24.Ask)),x26)) (
 (Jm x1 x20 x21) (x22,x23))
def My (x1:DI) (x3:List SX):(Bool×Int×List SX×List ML)→Option ((Bool×Int×List SX×List ML) ⊕ (Int×Int×Int×List SX×List ML))
| (x20,x21,x22,x23)=>
 A0 (decide (x21<(ln SX.row x3))) (
 (Ac x22 x21).bind fun x24=>
 A0 x24.FK (
 A0 x24.DY (
 A0 x24.TO (
 (Fe x1 x20 x21 x22 x23 x24) (!decide (x1.PH=2))) (
 (Fe x1 x20 x21 x22 x23 x24) false)) (
 (Fe x1 x20 x21 x22 x23 x24) false)) (
 (Fe x1 x20 x21 x22 x23 x24) false)) (
 Option.map Sum.inr ((UW x1) (x20,x22,x23)))
def Q3 (x1:DI):Option (Int×Int×Int×List SX×List ML):=
 (Kv x1).bind fun x2=>
 A0 (!decide (x2=0)) (
 some (0,0,x2,([]:List SX),([]:List ML))) (
 (Ew x1.SD).bind fun x3=>
 loop (My x1 x3) (true,0,x3,([]:List ML)))
instance t_dine_Fire_I1 {x1}:KT (Q3 x1) 225 [.agg (DI.row x1)] [] [] (fun r=>(.tup [.agg [.iv r.1,.iv r.2.1,.osl 0],.osl 1,.iv r.2.2.1])) (fun _=>[]) (fun r=>[Al r.2.2.2.1,AG r.2.2.2.2]):=⟨fun{r} h=>by
 refine Ft iO fun w0 M0=>?_;have ok:=iO;have A2:AJ [.r 3 1]:=trivial;have A1:AJ [.o 1 2 100 8,.t 3 156 5]:=trivial;rw [Q3] at h;refine Vg 11 ?_;refine VB h k_dine_Check.k fun _ _ h=>?_;refine Vg 7 ?_;refine MI h (fun h=>?_) fun h=>?_
 ·exact Wx
 ·refine Vg 5 ?_;have ⟨x3,ex3,h⟩:=Bs h;refine F1 trivial (Tw ex3) (h:=?_);refine Vg 19 ?_;refine Vl [1,2,3,1] (fun s=>([(7,.bv s.1)],[some ⟨51,[.iv x1.ID,.iv x1.PH,.osl 0]⟩,some ⟨51,[.iv 0,.iv 0,.nl]⟩,some ⟨36,[.osl 1]⟩],[Al s.2.1,AG s.2.2])) (UW x1) r ?_ fun J1=>?_
  ·rintro ⟨x48,x49,x50⟩ h;rw [UW] at h;refine Vg 7 ?_;refine Vk [1,2,3,1] (fun x51=>[(96,.bv x51)]) (Mx x1 x49 x50) r ?_ fun J7=>?_
   ·intro x51 h;rw [Mx] at h;refine Vm [1,2,3,1] (fun s=>([],[(0,1,.iv s.1)],[],[(0,Al s.2)])) (Q5 x1 x50) r ?_ fun J8=>?_
    ·rintro ⟨x65,x66⟩ h;rw [Q5] at h;exact Wx
    ·refine MI h (fun h=>?_) fun h=>?_
     ·refine Vg 13 ?_;refine Mm h [1,2,3,1,93,1] (fun s=>([(101,.iv s.1)],[],[],[(0,Al s.2)])) ?_;rintro n1 ⟨x55,x56⟩ y1 h hin1 hout1;rw [Mz] at h;refine Vg 5 ?_;refine MI h (fun h=>?_) fun h=>?_
      ·refine Vg 12 ?_;have ⟨x57,ex57,h⟩:=Bs h;refine C5 SX.row ex57 trivial rfl rfl rfl (Vg 1 ?_);refine Du [.bv true] SX.row (y':=(SX.mk x57.PE x57.EP x57.SS x57.FK true x57.TO x57.BO x57.Ask)) ex57 trivial rfl rfl rfl (by first | exact AA _ | simp [go_sem]) rfl rfl rfl rfl ?_;exact Wx
      ·exact Wx
     ·exact Wx
   ·exact Wx
  ·refine Vg 1 ?_;(refine Wj [.o 2 0 156 5] ?_);refine Mm h [1,2,3,1,17,1] (fun s=>([(7,.bv s.1),(25,.iv s.2.1)],[],[],[(0,Al s.2.2.1),(1,AG s.2.2.2)])) ?_;rintro n1 ⟨x20,x21,x22,x23⟩ y1 h hin1 hout1;rw [My] at h;refine Vg 5 ?_;refine MI h (fun h=>?_) fun h=>?_
   ·refine Vg 13 ?_;have ⟨x24,ex24,h⟩:=Bs h;refine C5 SX.row ex24 trivial rfl rfl rfl (Vg 14 ?_);refine Gm SX.row ex24 trivial rfl rfl rfl (Vg 1 ?_);refine Vk [1,2,3,2,1,2,13,2] (fun x25=>[(53,.bv x25)]) (Fe x1 x20 x21 x22 x23 x24) y1 ?_ fun J2=>?_
    ·intro x25 h;rw [Fe] at h;refine Vm [1,2,3,2,1,2,13,2] (fun s=>([],[],[],[(0,Al s.1),(1,AG s.2)])) (Jm x1 x20 x21) y1 ?_ fun J3=>?_
     ·rintro ⟨x27,x28⟩ h;rw [Jm] at h;refine Vg 7 ?_;refine Vk [1,2,3,2,1,2,13,2] (fun x30=>[(77,.bv x30)]) (Ij x1 x20 x21 x27 x28) y1 ?_ fun J4=>?_
      ·intro x30 h;rw [Ij] at h;refine Vm [1,2,3,2,1,1,14,2] (fun s=>([],[],[],[(0,Al s.1),(1,AG s.2)])) (Mw x20 x21) y1 ?_ fun J5=>?_
       ·rintro ⟨x33,x34⟩ h;rw [Mw] at h;refine Vg 3 ?_;refine Vl [1,2,3,1,17,2] (fun x36=>([(7,.bv x36)],[some ⟨51,[.iv x1.ID,.iv x1.PH,.osl 0]⟩,some ⟨51,[.iv 0,.iv 0,.nl]⟩,some ⟨36,[.osl 1]⟩],[Al x33,AG x34])) (Q4 x21 x33 x34) y1 ?_ fun J6=>?_
        ·intro x36 h;rw [Q4] at h;exact Wx
        ·exact Wx
       ·refine MI h (fun h=>?_) fun h=>?_
        ·refine Vg 5 ?_;have ⟨x31,ex31,h⟩:=Bs h;refine Du [.bv false] SX.row (y':=(SX.mk x31.PE x31.EP x31.SS x31.FK x31.DY false x31.BO x31.Ask)) ex31 trivial rfl rfl rfl (by first | exact AA _ | simp [go_sem]) rfl rfl rfl rfl (Vg 3 ?_);have ⟨x32,ex32,h⟩:=Bs h;refine H8 [true,false,true,true] [true,true] trivial rfl (EY [2,0,3] [1,0] 4 2 (t_dine_Fire_1_I2.k ex32)) (by kernel_rfl) (h:=?_);refine Vg 1 ?_;(refine Wj [.r 3 1] ?_);exact Wx
        ·exact Wx
      ·exact Wx
     ·refine MI h (fun h=>?_) fun h=>?_
      ·refine Vg 1 ?_;refine AD fun all H=>Ds ?_;refine Ao 0 1 rfl ?_ ?_
       ·refine RV ?_;refine Gn H 2 5 ?_;refine Ao 1 4 rfl ?_ ?_
        ·refine RV ?_;refine B8 [.bv false] (SX.mk x24.PE x24.EP x24.SS false x24.DY x24.TO x24.BO x24.Ask) ?_;refine Gn H 2 1 ?_;refine BX [.bv false] (SX.mk x24.PE x24.EP x24.SS false false x24.TO x24.BO x24.Ask) ?_;refine GD (Vg 2 ?_);have ⟨x26,ex26,h⟩:=Bs h;refine H8 [true,false,true,true] [true,true] trivial rfl (EY [2,0,3] [1,0] 4 2 (t_dine_Fire_1_I2.k ex26)) (by kernel_rfl) (h:=?_);refine Vg 1 ?_;(refine Wj [.r 3 1] ?_);exact Wx
        ·refine YM H.1 [.bv false] SX.row (y':=(SX.mk x24.PE x24.EP x24.SS false x24.DY x24.TO x24.BO x24.Ask)) ex24 rfl trivial rfl rfl rfl (by first | exact AA _ | simp [go_sem]) rfl rfl rfl rfl (Ds ?_);refine R1 ?_;refine Gn H 2 1 ?_;refine BX [.bv false] (SX.mk x24.PE x24.EP x24.SS false false x24.TO x24.BO x24.Ask) ?_;refine GD (Vg 2 ?_);have ⟨x26,ex26,h⟩:=Bs h;refine H8 [true,false,true,true] [true,true] trivial rfl (EY [2,0,3] [1,0] 4 2 (t_dine_Fire_1_I2.k ex26)) (by kernel_rfl) (h:=?_);refine Vg 1 ?_;(refine Wj [.r 3 1] ?_);exact Wx
       ·refine RV ?_;refine R1 ?_;refine Gn H 2 4 ?_;refine B8 [.bv false] (SX.mk x24.PE x24.EP x24.SS false x24.DY x24.TO x24.BO x24.Ask) ?_;refine Gn H 2 1 ?_;refine BX [.bv false] (SX.mk x24.PE x24.EP x24.SS false false x24.TO x24.BO x24.Ask) ?_;refine GD (Vg 2 ?_);have ⟨x26,ex26,h⟩:=Bs h;refine H8 [true,false,true,true] [true,true] trivial rfl (EY [2,0,3] [1,0] 4 2 (t_dine_Fire_1_I2.k ex26)) (by kernel_rfl) (h:=?_);refine Vg 1 ?_;(refine Wj [.r 3 1] ?_);exact Wx
      ·exact Wx
    ·exact Wx
   ·exact Wx⟩
def X1:(Int×List SE×List Int)→Option (List Int×List SE)
| (x31,x32,x33)=>
 (DQ (ln SE.row x32) x31 (ln SE.row x32)).bind fun _=>
 (He x32 (Int.toNat (x31)) (Int.toNat (ln SE.row x32)-Int.toNat (x31)) (SE.mk 0 (([]:List Int)) 0 0)).bind fun x35=>
 (D3 x35 0 x31).bind fun x36=>
 some (x33,x36)
def Oh (x14:Int) (x18:(Bool×List Int)):(Int×List SE)→Option ((Int×Int×List SE×List Int) ⊕ (List Int×List SE))
| (x20,x21)=>some (.inl (x20,wr (x14+1),x21,x18.2))
def SZ (x1:Int):(Int×Int×List SE×List Int)→Option ((Int×Int×List SE×List Int) ⊕ (List Int×List SE))
| (x13,x14,x15,x16)=>
 A0 (decide (x14<(ln SE.row x15))) (
 (Ac x15 x14).bind fun x17=>
 (NY x17 x1 x16).bind fun x18=>
 A0 (!x18.1) (
 (Ac x15 x13).bind fun _=>
 (Oh x14 x18) (wr (x13+1),x15.set (Int.toNat (x13)) x17)) (
 (Oh x14 x18) (x13,x15))) (
 Option.map Sum.inr (X1 (x13,x15,x16)))
def SY (x1:Int) (x2:List SE):Option (List Int×List SE):=
 (Tg x1 x2).bind fun x3=>
 A0 (decide (x3.1=((-1)))) (
 some (x3.2,x2)) (
 loop (SZ x1) (x3.1,wr (x3.1+1),x2,x3.2))
instance t_slices_DeleteFunc_Sess_I1 {x1 x2}:KT (SY x1 x2) 201 [.osl 0,.clo 202 [.ptr 0 0,.ptr 1 0]] [some ⟨3,[.iv x1]⟩,some ⟨45,[.nl]⟩] [B4 x2] (fun _=>(.osl 2)) (fun _=>[some ⟨3,[.iv x1]⟩,some ⟨45,[.osl 1]⟩]) (fun r=>[none,Ae r.1,B4 r.2]):=⟨fun{r} h=>by
 refine Ft iE fun w0 M0=>?_;have ok:=iE;have A2:AJ [.r 3 1]:=trivial;have A1:AJ [.w 67 4,.r 0 2]:=trivial;rw [SY] at h;refine Vg 8 ?_;have ⟨x3,ex3,h⟩:=Bs h;refine IR [true,true] [true] trivial (t_slices_IndexFunc_Sess_I1.k ex3) (h:=?_);refine Vg 8 ?_;refine MI h (fun h=>?_) fun h=>?_
 ·exact Wx
 ·refine Vg 8 ?_;refine Vm [0,1] (fun s=>([(5,.iv s.1)],[],[],[(0,B4 s.2.1),(1,Ae s.2.2)])) X1 r ?_ fun J1=>?_
  ·rintro ⟨x31,x32,x33⟩ h;rw [X1] at h;refine Vg 4 ?_;have ⟨x34,ex34,h⟩:=Bs h;refine YZ SE.row ex34 trivial rfl rfl rfl rfl ?_;have ⟨x35,ex35,h⟩:=Bs h;refine Ua SE.row ex35 trivial rfl rfl (by first | exact AA _ | simp [go_sem]) (by first | rfl | simp [go_sem]) rfl rfl (Vg 5 ?_);have ⟨x36,ex36,h⟩:=Bs h;refine P9 SE.row ex36 trivial rfl rfl rfl rfl ?_;exact Wx
  ·refine Vg 1 ?_;refine Mm h [0,2] (fun s=>([(5,.iv s.1),(6,.iv s.2.1)],[],[],[(0,B4 s.2.2.1),(1,Ae s.2.2.2)])) ?_;rintro n1 ⟨x13,x14,x15,x16⟩ y1 h hin1 hout1;rw [SZ] at h;refine Vg 8 ?_;refine MI h (fun h=>?_) fun h=>?_
   ·refine Vg 7 ?_;have ⟨x17,ex17,h⟩:=Bs h;refine C5 SE.row ex17 trivial rfl rfl rfl (H9 SE.row ex17 trivial rfl rfl rfl (Vg 7 ?_));have ⟨x18,ex18,h⟩:=Bs h;refine H8 [true,true,false] [false,true] trivial rfl (EY [0,1] [1] 3 2 (t_sess_Gone_1_I2.k ex18)) (by kernel_rfl) (h:=?_);refine Vg 2 ?_;refine Vl [0,2,4,1] (fun s=>([(5,.iv s.1)],[some ⟨3,[.iv x1]⟩,some ⟨45,[.osl 3]⟩],[B4 s.2,none,none,Ae x18.2])) (Oh x14 x18) y1 ?_ fun J2=>?_
    ·rintro ⟨x20,x21⟩ h;rw [Oh] at h;exact Wx
    ·refine MI h (fun h=>?_) fun h=>?_
     ·refine Vg 5 ?_;have ⟨x19,ex19,h⟩:=Bs h;refine C5 SE.row ex19 trivial rfl rfl rfl (Du (SE.row x17) SE.row (y':=x17) ex19 trivial rfl rfl rfl (by first | exact AA _ | simp [go_sem]) rfl rfl rfl rfl ?_);exact Wx
     ·exact Wx
   ·exact Wx⟩
@[go_sem] def pG:EC:=eQ Tryz.f203
theorem iG:FnOK Tryz.prog 203 Tryz.f203 pG [.c 2 (some 5),.t 3] 1 19:=AP
@[go_sem] def pH:EC:=eQ Tryz.f204
theorem iH:FnOK Tryz.prog 204 Tryz.f204 pH [] 1 34:=AP
def aI:(List Int×List ML)→Option (List Int×List ML)
| (x54,x55)=>some (x54,x55)
def NK (x25:Int):(List Int×List ML)→Option ((Int×List Int×List ML) ⊕ (List Int×List ML))
| (x34,x35)=>some (.inl (wr (x25+1),x34,x35))
def L3 (x1 x2:Int) (x3 x4:Int) (x5:List SE) (x7:Int) (x8:List SX) (x9:List Int) (x10 x11:List KE) (x13:List EV) (x25:Int) (x26:List Int) (x27:List ML) (x28:SX):Bool→Option ((Int×List Int×List ML) ⊕ (List Int×List ML))
| x31=>
 A0 x31 (
 (JL x28 5 x1 x2 x3 x4 x5 x26 x7 x8 x9 x10 x11 x27 x13).bind fun x32=>
 (L9 x26 x28.PE).bind fun x33=>
 (NK x25) (x33,x32)) (
 (NK x25) (x26,x27))
def NL (x1 x2:Int) (x3 x4:Int) (x5:List SE) (x7:Int) (x8:List SX) (x9:List Int) (x10 x11:List KE) (x13:List EV):(Int×List Int×List ML)→Option ((Int×List Int×List ML) ⊕ (List Int×List ML))
| (x25,x26,x27)=>
 A0 (decide (x25<(ln SX.row x8))) (
 (Ac x8 x25).bind fun x28=>
 (Ir x28).bind fun x29=>
 A0 x29 (
 (EM x26 x28.PE).bind fun x30=>
 (L3 x1 x2 x3 x4 x5 x7 x8 x9 x10 x11 x13 x25 x26 x27 x28) (!x30)) (
 (L3 x1 x2 x3 x4 x5 x7 x8 x9 x10 x11 x13 x25 x26 x27 x28) false)) (
 Option.map Sum.inr (aI (x26,x27)))
def Sf (x1 x2:Int) (x3 x4:Int) (x5:List SE) (x6:List Int) (x7:Int) (x8:List SX) (x9:List Int) (x10 x11:List KE) (x12:List ML) (x13:List EV):Option (List Int×List ML):=loop (NL x1 x2 x3 x4 x5 x7 x8 x9 x10 x11 x13) (0,x6,x12)
instance t_node_node_tell_I1 {x1 x2 x3 x4 x5 x6 x7 x8 x9 x10 x11 x12 x13}:KT (Sf x1 x2 x3 x4 x5 x6 x7 x8 x9 x10 x11 x12 x13) 207 [.ptr 0 0] [some ⟨191,[.iv x1,.iv x2,.osl 0,.iv x3,.osl 1,.iv x4,Aq x5,.osl 2,Aj x6,.osl 3,.osl 4,.osl 5,.iv x7]⟩] [Al x8,Ae x9,Ai x10,Ai x11,AG x12,Bk x13] (fun _=>(.tup [])) (fun r=>[some ⟨191,[.iv x1,.iv x2,.osl 0,.iv x3,.osl 1,.iv x4,Aq x5,.osl 2,Aj r.1,.osl 3,.osl 7,.osl 5,.iv x7]⟩]) (fun r=>[Al x8,Ae x9,Ai x10,Ai x11,none,Bk x13,none,AG r.2]):=⟨fun{r} h=>by
 refine Ft iJ fun w0 M0=>?_;have ok:=iJ;have A1:AJ [.r 9 7]:=trivial;rw [Sf] at h;refine Vg 12 ?_;refine Vl [] (fun s=>([],[some ⟨191,[.iv x1,.iv x2,.osl 0,.iv x3,.osl 1,.iv x4,Aq x5,.osl 2,Aj s.1,.osl 3,.osl 7,.osl 5,.iv x7]⟩],[Al x8,Ae x9,Ai x10,Ai x11,none,Bk x13,none,AG s.2])) aI r ?_ fun J1=>?_
 ·rintro ⟨x54,x55⟩ h;rw [aI] at h;exact Wx
 ·refine Vg 1 ?_;(refine Wj [.w 156 5,.w 156 5,.r 4 7] ?_);refine Mm h [0,1,9,2] (fun s=>([(12,.iv s.1)],[(0,8,Aj s.2.1)],[],[(6,none),(7,AG s.2.2)])) ?_;rintro n1 ⟨x25,x26,x27⟩ y1 h hin1 hout1;rw [NL] at h;refine Vg 5 ?_;refine MI h (fun h=>?_) fun h=>?_
  ·refine Vg 5 ?_;have ⟨x28,ex28,h⟩:=Bs h;refine C5 SX.row ex28 trivial rfl rfl rfl (H9 SX.row ex28 trivial rfl rfl rfl (Vg 4 ?_));refine Vk [0,1,2,1,6,3] (fun x31=>[(28,.bv x31)]) (L3 x1 x2 x3 x4 x5 x7 x8 x9 x10 x11 x13 x25 x26 x27 x28) y1 ?_ fun J2=>?_
   ·intro x31 h;rw [L3] at h;refine Vl [0,1,9,3] (fun s=>([],[some ⟨191,[.iv x1,.iv x2,.osl 0,.iv x3,.osl 1,.iv x4,Aq x5,.osl 2,Aj s.1,.osl 3,.osl 7,.osl 5,.iv x7]⟩],[Al x8,Ae x9,Ai x10,Ai x11,none,Bk x13,none,AG s.2])) (NK x25) y1 ?_ fun J3=>?_
    ·rintro ⟨x34,x35⟩ h;rw [NK] at h;exact Wx
    ·refine MI h (fun h=>?_) fun h=>?_
     ·refine Vg 4 ?_;refine VR [0] [0,1,2,3,7,5] 2 8 h t_node_node_send_I2.k fun _ _ h=>?_;refine Vg 1 ?_;have ⟨x33,ex33,h⟩:=Bs h;have q0:=k_set_Add.k ex33;exact Wx
     ·exact Wx
   ·exact Wx
  ·exact Wx⟩
def aG (x1:SX) (x2:Int) (x3 x4 x5:Int) (x6:List SE) (x7:List Int) (x8:Int) (x9:List SX) (x10:List Int) (x11 x12:List KE) (x13:List ML) (x14:List EV):Option (List SX×List KE):=
 (Lb x9 x1.PE ((fun z=>HD z.1 z.2))).bind fun x15=>
 (Ot x9 x15.1 ([x1])).bind fun x16=>
 (aF x1.PE x1.EP x2 x3 x4 x5 x6 x7 x8 x16 x10 x11 x12 x13 x14).bind fun x17=>
 some (x16,x17)
instance t_node_node_put_I2 {x1 x2 x3 x4 x5 x6 x7 x8 x9 x10 x11 x12 x13 x14}:KT (aG x1 x2 x3 x4 x5 x6 x7 x8 x9 x10 x11 x12 x13 x14) 126 [.ptr 0 0,.agg (SX.row x1)] [some ⟨191,[.iv x2,.iv x3,.osl 0,.iv x4,.osl 1,.iv x5,Aq x6,.osl 2,Aj x7,.osl 3,.osl 4,.osl 5,.iv x8]⟩] [Al x9,Ae x10,Ai x11,Ai x12,AG x13,Bk x14] (fun _=>(.tup [])) (fun _=>[some ⟨191,[.iv x2,.iv x3,.osl 7,.iv x4,.osl 1,.iv x5,Aq x6,.osl 9,Aj x7,.osl 3,.osl 4,.osl 5,.iv x8]⟩]) (fun r=>[none,Ae x10,none,Ai x12,AG x13,Bk x14,none,Al r.1,none,Ai r.2]):=⟨fun{r} h=>by refine Ft XP fun w0 M0=>?_;have ok:=XP;rw [aG] at h;exact Wx⟩
def Sa (x1:SX) (x2:Int) (x3 x4:Int) (x5 x6:Int) (x7:List SX) (x8:List Int) (x9:List SE) (x10:List KE) (x11:List Int) (x12:List KE):Option (List SX×List KE):=
 (Lb x7 x1.PE ((fun z=>HD z.1 z.2))).bind fun x13=>
 (Ot x7 x13.1 ([x1])).bind fun x14=>
 (Wo x1.PE x1.EP x2 x3 x4 x5 x6 x14 x8 x9 x10 x11 x12).bind fun x15=>
 some (x14,x15)
instance t_node_node_put_I3 {x1 x2 x3 x4 x5 x6 x7 x8 x9 x10 x11 x12}:KT (Sa x1 x2 x3 x4 x5 x6 x7 x8 x9 x10 x11 x12) 126 [.ptr 0 0,.agg (SX.row x1)] [some ⟨191,[.iv x2,.iv x3,.osl 0,.iv x4,.osl 1,.iv x5,.osl 2,.osl 3,.osl 4,.osl 5,.nl,.nl,.iv x6]⟩] [Al x7,Ae x8,B4 x9,Ai x10,Ae x11,Ai x12] (fun _=>(.tup [])) (fun _=>[some ⟨191,[.iv x2,.iv x3,.osl 7,.iv x4,.osl 1,.iv x5,.osl 2,.osl 9,.osl 4,.osl 5,.nl,.nl,.iv x6]⟩]) (fun r=>[none,Ae x8,B4 x9,none,Ae x11,Ai x12,none,Al r.1,none,Ai r.2]):=⟨fun{r} h=>by refine Ft XP fun w0 M0=>?_;have ok:=XP;rw [Sa] at h;exact Wx⟩
@[go_sem] def pa:EC:=eQ Tryz.f157
theorem ir:FnOK Tryz.prog 157 Tryz.f157 pa [.t 6] 3 37:=AP
def Sn:Bool→Option Bool
| x5=>some x5
def NT (x1:SE) (x2:NO):Option Bool:=
 A0 (decide (x1.SS=0)) (
 (Rq x2).bind fun x3=>
 (HG x1.NE x3).bind fun x4=>
 Sn (!x4)) (
 Sn false)
instance k_node_thirst_2 {x1 x2}:KP (NT x1 x2) 162 [.agg (SE.row x1),.elt (NO.row x2) 0] (fun r=>(.bv r)):=⟨fun{r} h=>by
 have ok:=oJ 162 Tryz.f162 [.t 3] 2 13;refine FP ok fun w0 H0=>?_;rw [NT] at h;refine Vg 6 ?_;refine Vl [] (fun x5=>([(3,.bv x5)],[],[])) Sn r ?_ fun J1=>?_
 ·intro x5 h;rw [Sn] at h;exact Wx
 ·exact Wx⟩
instance {x2}:KC (fun z=>NT z x2) 162 [.elt (NO.row x2) 0] (fun z=>[.agg (SE.row z)]) (fun z=>(.bv z)):=⟨⟨by kernel_rfl,rfl,fun z r hz=>k_node_thirst_2.k hz⟩⟩
def Q9 (x1 x2:Int):(Bool×List SX)→Option (Int×Int×Int×List SX)
| (x12,x13)=>
 A0 x12 (
 some (0,0,132,([]:List SX))) (
 some (x1,x2,0,x13))
def Qb (x1 x2 x7:Int) (x8:List SX) (x9:SX):Bool→Option (Int×Int×Int×List SX)
| x11=>
 A0 x11 (
 (Q9 x1 x2) (x9.TO,x8.set (Int.toNat (x7)) (SX.mk x9.PE x9.EP x9.SS x9.FK x9.DY true x9.BO x9.Ask))) (
 some (0,0,133,([]:List SX)))
def Q8 (x1 x2:Int) (x4:Msg) (x7:Int) (x8:List SX) (x9:SX):Bool→Option (Int×Int×Int×List SX)
| x10=>
 A0 x10 (
 (Q9 x1 x2) (x9.FK,x8.set (Int.toNat (x7)) (SX.mk x9.PE x9.EP x9.SS true x9.DY x9.TO x9.BO x9.Ask))) (
 A0 (decide (x4.KI=2)) (
 (Qb x1 x2 x7 x8 x9) (decide (x4.Num=0))) (
 (Qb x1 x2 x7 x8 x9) false))
def Q7 (x1 x2 x3:Int) (x4:Msg) (x5:List SX):Option (Int×Int×Int×List SX):=
 (Kv (DI.mk x1 x2 x5)).bind fun x6=>
 A0 (!decide (x6=0)) (
 some (0,0,x6,([]:List SX))) (
 (IA x5 ((fun z=>MA z x3 x4))).bind fun x7=>
 A0 (decide (x7<0)) (
 some (0,0,131,([]:List SX))) (
 (Ew x5).bind fun x8=>
 (Ac x8 x7).bind fun x9=>
 A0 (decide (x4.KI=1)) (
 (Q8 x1 x2 x4 x7 x8 x9) (decide (x4.Num=0))) (
 (Q8 x1 x2 x4 x7 x8 x9) false)))
instance t_dine_Get_I1 {x1 x2 x3 x4 x5}:KT (Q7 x1 x2 x3 x4 x5) 200 [.agg [.iv x1,.iv x2,.osl 0],.iv x3,.agg (Msg.row x4)] [] [Al x5] (fun r=>(.tup [.agg [.iv r.1,.iv r.2.1,.osl 1],.iv r.2.2.1])) (fun _=>[]) (fun r=>[Al x5,Al r.2.2.2]):=⟨fun{r} h=>by
 refine Ft iD fun w0 M0=>?_;have ok:=iD;have A2:AJ [.o 3 2 100 8,.r 2 1]:=trivial;have A1:AJ [.o 3 2 100 8]:=trivial;rw [Q7] at h;refine Vg 12 ?_;refine VN (LR.slice 0 rfl) h k_dine_Check.k fun _ _ h=>?_;refine Vg 7 ?_;refine MI h (fun h=>?_) fun h=>?_
 ·exact Wx
 ·refine Vg 6 ?_;refine VN (((LR.slice 0 rfl).block 1 rfl rfl).block 2 rfl rfl) h k_slices_IndexFunc_Side.k fun x7 _ h=>?_;refine Vg 8 ?_;refine MI h (fun h=>?_) fun h=>?_
  ·exact Wx
  ·refine Vg 5 ?_;refine VR [] [0] 4 1 h LF fun x8 _ h=>?_;refine Vg 8 ?_;have ⟨x9,ex9,h⟩:=Bs h;refine C5 SX.row ex9 trivial rfl rfl rfl (Vg 14 ?_);refine Vm [3,1,1,2,3,1] (fun x10=>([(34,.bv x10)],[],[(1,none)],[])) (Q8 x1 x2 x4 x7 x8 x9) r ?_ fun J1=>?_
   ·intro x10 h;rw [Q8] at h;refine Vm [3,1,2,1] (fun s=>([(11,.bv s.1)],[],[(2,none)],[(1,Al s.2)])) (Q9 x1 x2) r ?_ fun J2=>?_
    ·rintro ⟨x12,x13⟩ h;rw [Q9] at h;exact Wx
    ·refine MI h (fun h=>?_) fun h=>?_
     ·refine Vg 5 ?_;refine Gm SX.row ex9 trivial rfl rfl rfl (Vg 3 ?_);refine Du [.bv true] SX.row (y':=(SX.mk x9.PE x9.EP x9.SS true x9.DY x9.TO x9.BO x9.Ask)) ex9 trivial rfl rfl rfl (by first | exact AA _ | simp [go_sem]) rfl rfl rfl rfl ?_;exact Wx
     ·refine Vg 6 ?_;refine Vm [3,1,2,1,3,1] (fun x11=>([(50,.bv x11)],[],[(2,none)],[])) (Qb x1 x2 x7 x8 x9) r ?_ fun J3=>?_
      ·intro x11 h;rw [Qb] at h;refine MI h (fun h=>?_) fun h=>?_
       ·refine Vg 5 ?_;refine Gm SX.row ex9 trivial rfl rfl rfl (Vg 3 ?_);refine Du [.bv true] SX.row (y':=(SX.mk x9.PE x9.EP x9.SS x9.FK x9.DY true x9.BO x9.Ask)) ex9 trivial rfl rfl rfl (by first | exact AA _ | simp [go_sem]) rfl rfl rfl rfl ?_;exact Wx
       ·exact Wx
      ·exact Wx
   ·exact Wx⟩
def ZZ:(List Int×Int)→Option (List Int×Int×Int)
| (x17,x18)=>some (x17,x18,0)
def Mv (x1:Graph):(List Int×Int)→Option ((List Int×Int) ⊕ (List Int×Int×Int))
| (x8,x9)=>
 (Lg x8 0).bind fun x10=>
 A0 x10 (
 (PW x1 x8).bind fun x11=>
 some (.inl (x11.1,wr (x9+1)))) (
 Option.map Sum.inr (ZZ (x8,x9)))
def Ku (x1:Graph):Option (List Int×Int×Int):=
 (Hq x1).bind fun x2=>
 A0 (!decide (x2=0)) (
 some (([]:List Int),0,x2)) (
 (Ow 8 x1.N 0).bind fun x3=>
 loop (Mv x1) (x3,0))
instance k_colour_Run {x1}:KP (Ku x1) 102 [.agg (Graph.row x1)] (fun r=>(.tup [Aj r.1,.iv r.2.1,.iv r.2.2])):=⟨fun{r} h=>by
 have ok:=oJ 102 Tryz.f102 [.t 2,.t 3,.t 4] 1 27;refine FP ok fun w0 H0=>?_;rw [Ku] at h;refine Vg 11 ?_;refine VB h k_graph_Check.k fun _ _ h=>?_;refine Vg 7 ?_;refine MI h (fun h=>?_) fun h=>?_
 ·exact Wx
 ·refine Vg 5 ?_;have ⟨x3,ex3,h⟩:=Bs h;refine nh Am ex3 trivial rfl rfl rfl rfl (Vg 4 ?_);refine Vl [] (fun s=>([(6,Aj s.1),(7,.iv s.2)],[],[])) ZZ r ?_ fun J1=>?_
  ·rintro ⟨x17,x18⟩ h;rw [ZZ] at h;exact Wx
  ·refine Vg 1 ?_;(refine Wj [.s 0] ?_);refine Ml h [1,1] (fun s=>([(6,Aj s.1),(7,.iv s.2)],[some ⟨24,Graph.row x1⟩],[])) ?_;rintro n1 ⟨x8,x9⟩ y1 h hin1 hout1;rw [Mv] at h;exact Wx⟩
@[go_sem] def pZ:EC:=eQ Tryz.f28
theorem iT:FnOK Tryz.prog 28 Tryz.f28 pZ [.t 4,.t 5] 2 100:=AP
@[go_sem] def p6:EC:=eQ Tryz.f15
theorem OD:FnOK Tryz.prog 15 Tryz.f15 p6 [.t 4] 2 44:=AP
def am:List Int→Option (List Int)
| x29=>some x29
def QK (x13:Int):List Int→Option ((Int×List Int) ⊕ (List Int))
| x20=>some (.inl (wr (x13+1),x20))
def QJ (x13:Int) (x14:List Int) (x15:SE):Bool→Option ((Int×List Int) ⊕ (List Int))
| x18=>
 A0 x18 (
 (AE 8 x14 ([x15.ID])).bind fun x19=>
 (QK x13) x19) (
 (QK x13) x14)
def VE (x1:Model) (x2:Int) (x4:Place):(Int×List Int)→Option ((Int×List Int) ⊕ (List Int))
| (x13,x14)=>
 A0 (decide (x13<(ln SE.row x4.BK.SE))) (
 (Ac x4.BK.SE x13).bind fun x15=>
 A0 (decide (x15.SS=0)) (
 (Ac x1.Places x2).bind fun x16=>
 (HG x15.NE x16.Live).bind fun x17=>
 (QJ x13 x14 x15) (!x17)) (
 (QJ x13 x14 x15) false)) (
 Option.map Sum.inr (am x14))
def GJ (x1:Model) (x2:Int):Option (List Int):=
 (Hu x1 x2).bind fun x3=>
 A0 (!x3) (
 some (([]:List Int))) (
 (Ac x1.Places x2).bind fun x4=>
 loop (VE x1 x2 x4) (0,([]:List Int)))
theorem tv {x1 x2 r} (h:GJ x1 x2=some r):FOx 15 [.agg (Model.row x1),.iv x2] 3 1 (List.map Am r):=by
 refine EX OD rfl fun w0 H0=>?_;have ok:=OD;have A1:AJ [.r 2 0]:=trivial;rw [GJ] at h;refine Vg 14 ?_;refine VB h k_model_there.k fun _ _ h=>?_;refine Vg 2 ?_;refine MI h (fun h=>?_) fun h=>?_
 ·refine Vg 4 ?_;(refine Wj [.t 4 3 1] ?_);exact De Am OD h rfl rfl
 ·refine Vg 7 ?_;have ⟨x4,ex4,h⟩:=Bs h;refine Dt Place.row ex4 trivial rfl rfl rfl (Vg 6 ?_);refine Vl [] (fun x29=>([(5,.osl 0)],[],[Ae x29])) am r ?_ fun J1=>?_
  ·intro x29 h;rw [am] at h;refine Vg 5 ?_;exact De Am OD h rfl rfl
  ·refine Vg 1 ?_;(refine Wj [.t 5 3 1] ?_);refine Mm h [1,2,2,1,12,2] (fun s=>([(20,.iv s.1)],[],[],[(0,Ae s.2)])) ?_;rintro n1 ⟨x13,x14⟩ y1 h hin1 hout1;rw [VE] at h;refine Vg 5 ?_;refine MI h (fun h=>?_) fun h=>?_
   ·refine Vg 5 ?_;have ⟨x15,ex15,h⟩:=Bs h;refine Dt SE.row ex15 trivial rfl rfl rfl (Vg 5 ?_);refine Vk [1,2,2,1,1,1,10,3] (fun x18=>[(38,.bv x18)]) (QJ x13 x14 x15) y1 ?_ fun J2=>?_
    ·intro x18 h;rw [QJ] at h;refine Vl [1,2,2,1,12,3] (fun x20=>([],[some ⟨30,[C0 x1.Places]⟩],[Ae x20])) (QK x13) y1 ?_ fun J3=>?_
     ·intro x20 h;rw [QK] at h;exact Wx
     ·exact Wx
    ·exact Wx
   ·exact Wx
theorem rP {x1 x2 r} (h:GJ x1 x2=some r):FPx 15 [.agg (Model.row x1),.iv x2] (Aj r):=(tv h).sealed
instance {x1 x2}:KP (GJ x1 x2) 15 [.agg (Model.row x1),.iv x2] (fun r=>(Aj r)):=⟨fun h=>rP h⟩
@[go_sem] def q9:EC:=eQ Tryz.f58
theorem iW:FnOK Tryz.prog 58 Tryz.f58 q9 [.c 4 (some 2),.t 5] 2 38:=AP
def Sv (x1:BK) (x2:Int):Option (BK×List Int×Int):=
 (GT x1).bind fun x3=>
 A0 (!decide (x3=0)) (
 some ((BK.mk 0 (([]:List SE))),([]:List Int),x3)) (
 (Iv x1).bind fun x4=>
 (SY x2 x4).bind fun x5=>
 some ((BK.mk x1.LA x5.2),x5.1,0))
instance k_sess_Gone {x1 x2}:KP (Sv x1 x2) 169 [.agg (BK.row x1),.iv x2] (fun r=>(.tup [.agg (BK.row r.1),Aj r.2.1,.iv r.2.2])):=⟨fun{r} h=>by have ok:=oJ 169 Tryz.f169 [.c 4 (some 2),.t 5,.t 6] 2 22;refine FP ok fun w0 H0=>?_;have A1:AJ [.s 2,.s 1]:=trivial;rw [Sv] at h;exact Wx⟩
@[go_sem] def pj:EC:=eQ Tryz.f170
theorem iw:FnOK Tryz.prog 170 Tryz.f170 pj [] 1 19:=AP
def Qf (x1 x2 x3:Int) (x4:List SX) (x5:List Int):Option (Int×Int×Int×List SX):=
 (Jn (DK.mk (DI.mk x1 x2 x4) x3 x5)).bind fun x6=>
 A0 (!decide (x6=0)) (
 some (0,0,x6,([]:List SX))) (
 A0 (decide (x3=0)) (
 some (0,0,152,([]:List SX))) (
 (MT x1 x2 x3 x4 x5).bind fun x7=>
 some (x1,x2,0,x7.1)))
instance t_drink_Close_I1 {x1 x2 x3 x4 x5}:KT (Qf x1 x2 x3 x4 x5) 203 [.agg [.iv x1,.iv x2,.osl 0,.iv x3,.osl 1]] [] [Al x4,Ae x5] (fun r=>(.tup [.agg [.iv r.1,.iv r.2.1,.osl 2,.iv 0,.nl],.iv r.2.2.1])) (fun _=>[]) (fun r=>[Al x4,Ae x5,Al r.2.2.2]):=⟨fun{r} h=>by refine Ft iG fun w0 M0=>?_;have ok:=iG;have A1:AJ [.o 1 2 100 8]:=trivial;rw [Qf] at h;exact Wx⟩
def Jq (x1 x3:Int) (x4:List SX) (x5:List Int) (x6:List ML):Int→Option (Int×Int×Int×List SX×List ML)
| x10=>
 (Q3 (DI.mk x1 x10 x4)).bind fun x11=>
 (AE 40 x6 x11.2.2.2.2).bind fun x12=>
 (Ql x11.1 x11.2.1 x3 x11.2.2.2.1 x5 x12).bind fun x13=>
 some (x11.1,x11.2.1,x13.1,x13.2.1,x13.2.2)
def MQ (x1 x2 x3:Int) (x4:List SX) (x5:List Int) (x6:List ML):Bool→Option (Int×Int×Int×List SX×List ML)
| x9=>
 A0 x9 (
 (Jq x1 x3 x4 x5 x6) 0) (
 (Jq x1 x3 x4 x5 x6) x2)
def Qp (x1 x2 x3:Int) (x4:List SX) (x5:List Int) (x6:List ML):Bool→Option (Int×Int×Int×List SX×List ML)
| x7=>
 A0 x7 (
 (Jq x1 x3 x4 x5 x6) 1) (
 A0 (decide (x2=2)) (
 A0 (!decide (x3=1)) (
 (Iy x4 ((fun z=>Qn z))).bind fun x8=>
 (MQ x1 x2 x3 x4 x5 x6) (!x8)) (
 (MQ x1 x2 x3 x4 x5 x6) false)) (
 (MQ x1 x2 x3 x4 x5 x6) false))
def Qo (x1 x2 x3:Int) (x4:List SX) (x5:List Int) (x6:List ML):Option (Int×Int×Int×List SX×List ML):=
 A0 (decide (x3=1)) (
 (Qp x1 x2 x3 x4 x5 x6) (decide (x2=0))) (
 (Qp x1 x2 x3 x4 x5 x6) false)
instance t_drink_drinker_once_I4 {x1 x2 x3 x4 x5 x6}:KT (Qo x1 x2 x3 x4 x5 x6) 219 [.ptr 0 0] [some ⟨278,[.iv x1,.iv x2,.osl 0,.iv x3,.osl 1,.osl 2]⟩] [Al x4,Ae x5,AG x6] (fun _=>(.tup [])) (fun r=>[some ⟨278,[.iv r.1,.iv r.2.1,.osl 3,.iv r.2.2.1,.osl 1,.osl 7]⟩]) (fun r=>[none,Ae x5,none,Al r.2.2.2.1,none,none,none,AG r.2.2.2.2]):=⟨fun{r} h=>by
 refine Ft iN fun w0 M0=>?_;have ok:=iN;have A1:AJ [.s 0]:=trivial;rw [Qo] at h;refine Vg 15 ?_;refine Vk [0,1,1,1] (fun x7=>[(6,.bv x7)]) (Qp x1 x2 x3 x4 x5 x6) r ?_ fun J1=>?_
 ·intro x7 h;rw [Qp] at h;refine Vm [0,1] (fun x10=>([],[(0,1,.iv x10)],[],[])) (Jq x1 x3 x4 x5 x6) r ?_ fun J2=>?_
  ·intro x10 h;rw [Jq] at h;refine Vg 8 ?_;(refine Wj [.s 0] ?_);refine VR [] [] 1 3 h t_dine_Fire_I1.k fun _ _ h=>?_;refine Vg 26 ?_;have ⟨x12,ex12,h⟩:=Bs h;refine Er ML.row ex12 trivial rfl rfl rfl (Vg 6 ?_);refine VR [0] [3,1,5] 2 6 h t_drink_drinker_bottles_I2.k fun _ _ h=>?_;exact Wx
  ·refine MI h (fun h=>?_) fun h=>?_
   ·exact Wx
   ·refine Vg 10 ?_;refine Vk [0,1] (fun x9=>[(27,.bv x9)]) (MQ x1 x2 x3 x4 x5 x6) r ?_ fun J3=>?_
    ·intro x9 h;rw [MQ] at h;exact Wx
    ·exact Wx
 ·exact Wx⟩
def aE:(List SX×List KE×List ML×List EV)→Option (List SX×List KE×List ML×List EV)
| (x52,x53,x54,x55)=>some (x52,x53,x54,x55)
def Wm (x1 x2:Int) (x3 x4:Int) (x5:List SE) (x6:List Int) (x7:Int) (x9:List Int) (x11:List KE):(Int×List SX×List KE×List ML×List EV)→Option ((Int×List SX×List KE×List ML×List EV) ⊕ (List SX×List KE×List ML×List EV))
| (x23,x24,x25,x26,x27)=>
 A0 (decide (x23<(ln KE.row x11))) (
 (Ac x11 x23).bind fun x28=>
 (aG (SX.mk x28.PE x28.EP 0 false false true false true) x1 x2 x3 x4 x5 x6 x7 x24 x9 x25 x11 x26 x27).bind fun x29=>
 (JL (SX.mk x28.PE x28.EP 0 false false true false true) 6 x1 x2 x3 x4 x5 x6 x7 x29.1 x9 x29.2 x11 x26 x27).bind fun x30=>
 (RU 6 x28.PE x1 x2 x3 x4 x5 x6 x7 x29.1 x9 x29.2 x11 x30 x27).bind fun x31=>
 some (.inl (wr (x23+1),x29.1,x29.2,x30,x31))) (
 Option.map Sum.inr (aE (x24,x25,x26,x27)))
def RN (x1 x2:Int) (x3 x4:Int) (x5:List SE) (x6:List Int) (x7:Int) (x8:List SX) (x9:List Int) (x10 x11:List KE) (x12:List ML) (x13:List EV):Option (List SX×List KE×List ML×List EV):=loop (Wm x1 x2 x3 x4 x5 x6 x7 x9 x11) (0,x8,x10,x12,x13)
instance t_node_node_answer_I2 {x1 x2 x3 x4 x5 x6 x7 x8 x9 x10 x11 x12 x13}:KT (RN x1 x2 x3 x4 x5 x6 x7 x8 x9 x10 x11 x12 x13) 204 [.ptr 0 0] [some ⟨191,[.iv x1,.iv x2,.osl 0,.iv x3,.osl 1,.iv x4,Aq x5,.osl 2,Aj x6,.osl 3,.osl 4,.osl 5,.iv x7]⟩] [Al x8,Ae x9,Ai x10,Ai x11,AG x12,Bk x13] (fun _=>(.tup [])) (fun _=>[some ⟨191,[.iv x1,.iv x2,.osl 7,.iv x3,.osl 1,.iv x4,Aq x5,.osl 9,Aj x6,.nl,.osl 11,.osl 13,.iv x7]⟩]) (fun r=>[none,Ae x9,none,Ai x11,none,none,none,Al r.1,none,Ai r.2.1,none,AG r.2.2.1,none,Bk r.2.2.2]):=⟨fun{r} h=>by
 refine Ft iH fun w0 M0=>?_;have ok:=iH;have A1:AJ [.r 19 11,.r 21 13,.r 15 7,.r 17 9]:=trivial;rw [RN] at h;refine Vg 11 ?_;refine Vl [0,1] (fun s=>([],[some ⟨191,[.iv x1,.iv x2,.osl 7,.iv x3,.osl 1,.iv x4,Aq x5,.osl 9,Aj x6,.osl 3,.osl 11,.osl 13,.iv x7]⟩],[none,Ae x9,none,Ai x11,none,none,none,Al s.1,none,Ai s.2.1,none,AG s.2.2.1,none,Bk s.2.2.2])) aE r ?_ fun J1=>?_
 ·rintro ⟨x52,x53,x54,x55⟩ h;rw [aE] at h;exact Wx
 ·refine Vg 1 ?_;(refine Wj [.w 156 5,.w 156 5,.w 156 5,.w 156 5,.w 156 5,.w 156 5,.r 4 11,.w 47 5,.w 47 5,.r 5 13,.r 0 7,.r 2 9] ?_);refine Mm h [0,1,8,2] (fun s=>([(11,.iv s.1)],[],[],[(6,none),(7,Al s.2.1),(8,none),(9,Ai s.2.2.1),(10,none),(11,AG s.2.2.2.1),(12,none),(13,Bk s.2.2.2.2)])) ?_;rintro n1 ⟨x23,x24,x25,x26,x27⟩ y1 h hin1 hout1;rw [Wm] at h;exact Wx⟩
def JI:(Bool×Int)→Option (Bool×Int)
| (x8,x9)=>some (x8,x9)
def RJ (x1:NO) (x2:Int) (p0:(SX→Option Bool)):Option (Bool×Int):=
 A0 (decide (x1.DK.DI.ID<64)) (
 (SV x1.KN x2).bind fun x3=>
 A0 (!x3.1) (
 (Iy x1.DK.DI.SD p0).bind fun x4=>
 A0 (!x4) (
 (HF x1.TL).bind fun x5=>
 A0 x5 (
 (L4 x1 ((fun z=>Ir z))).bind fun x6=>
 (HG x1.TL x6).bind fun x7=>
 JI (x7,x3.2)) (
 JI (false,x3.2))) (
 JI (false,x3.2))) (
 JI (false,x3.2))) (
 JI (false,x2))
instance t_node_known_I1 {x1 x2 g0 caps0 p0} [ic0:KC p0 g0 caps0 (fun z=>[.agg (SX.row z)]) (fun z=>.bv z)]:KT (RJ x1 x2 p0) 157 [.agg (NO.row x1),.clo 154 [.ptr 0 0],.clo g0 caps0] [some ⟨3,[.iv x2]⟩] [] (fun r=>(.bv r.1)) (fun r=>[some ⟨3,[.iv r.2]⟩]) (fun _=>[]):=⟨fun{r} h=>by
 have hc0:=ic0.k;refine Ft ir fun w0 M0=>?_;have ok:=ir;rw [RJ] at h;refine Vg 6 ?_;refine Vl [] (fun s=>([(6,.bv s.1)],[some ⟨3,[.iv s.2]⟩],[])) JI r ?_ fun J1=>?_
 ·rintro ⟨x8,x9⟩ h;rw [JI] at h;exact Wx
 ·refine AD fun all H=>Ds (GP H 6 28 [6,28] [(7,[.ptr 1 0,.ptr 1 0,.ptr 1 0,.iv x1.DK.DI.ID,.bv (decide (x1.DK.DI.ID<64)),.bv (decide (x1.DK.DI.ID<64))])] (Ds ?_));refine BW 12 h rfl (fun _ h=>?_) fun _ h=>?_
  ·refine Ds (GP H 3 25 [9,25] [(13,[.ptr 1 7,Bf x1.KN,.clo 154 [.ptr 0 0]])] (Ds ?_));refine Ak 9 rfl ?_;have ⟨x3,ex3,h⟩:=Bs h;refine dc H.1 (by kernel_rfl) [true,false] [] rfl trivial (EY [0] [] 2 0 (t_slices_ContainsFunc_Known_I1.k ex3)) (ha:=(by first | exact AA _ | simp [go_sem,Yh _ _ _ _ _ hc0.pu])) (h:=Ds ?_);refine GP H 3 21 [13,21] [(17,[.bv (!x3.1),.bv (!x3.1),.bv (!x3.1)])] (Ds ?_);refine BW 19 h rfl (fun _ h=>?_) fun _ h=>?_
   ·refine Ds (GP H 5 16 [18,16] [(20,[.ptr 1 0,.ptr 1 0,.ptr 1 2,CV x1.DK.DI.SD,.clo g0 caps0])] (Ds ?_));refine Ak 18 rfl (GB H.1 h k_slices_ContainsFunc_Side.k (fun x4 _ h=>?_) (hp:=(by first | rfl | simp [go_sem,hc0.pu])));refine Ds (GP H 3 12 [22,12] [(26,[.bv (!x4),.bv (!x4),.bv (!x4)])] (Ds ?_));refine BW 28 h rfl (fun _ h=>?_) fun _ h=>?_
    ·exact Wx
    ·exact Wx
   ·refine Ds (GP H 21 0 [34] [(27,[.ff,.ff]),(3,[.ff,.ff]),(5,[.ff])] (Ds ?_));refine GD ?_;exact Eh J1 h (hok:=by first | rfl | simp [go_sem,C2 _ hc0.pu])
  ·refine Ds (GP H 28 0 [34] [(18,[.ff,.ff]),(7,[.ff,.ff]),(3,[.ff,.ff]),(5,[.ff])] (Ds ?_));refine GD ?_;exact Eh J1 h (hok:=by first | rfl | simp [go_sem,C2 _ hc0.pu])⟩
def Sp:Bool→Option Bool
| x9=>some x9
def JN (x1:NO):Bool→Option Bool
| x5=>
 A0 x5 (
 some false) (
 (L4 x1 ((fun z=>Sk z))).bind fun x6=>
 (SH x1.DK.NE x6).bind fun x7=>
 A0 (decide ((ln Am x7)=0)) (
 (Lf x1.BK.SE ((fun z=>NT z x1))).bind fun x8=>
 Sp (!x8)) (
 Sp false))
def So (x1:NO) (x2:(SE×Bool)):Bool→Option Bool
| x3=>
 A0 (!((decide (x1.DK.TH=2))==x3)) (
 (JN x1) true) (
 A0 (!decide (x1.DK.TH=0)) (
 A0 (!x2.2) (
 (JN x1) true) (
 (Iz x2.1.NE x1.DK.NE).bind fun x4=>
 (JN x1) (!x4))) (
 (JN x1) false))
def Sj (x1:NO):Option Bool:=
 (RD x1).bind fun x2=>
 A0 x2.2 (
 (So x1 x2) (decide (x2.1.SS=1))) (
 (So x1 x2) false)
instance k_node_thirst {x1}:KP (Sj x1) 106 [.agg (NO.row x1)] (fun r=>(.bv r)):=⟨fun{r} h=>by
 have ok:=oJ 106 Tryz.f106 [.t 2] 1 59;refine FP ok fun w0 H0=>?_;rw [Sj] at h;refine Vg 8 ?_;refine VB h k_node_first.k fun x2 _ h=>?_;refine Vg 11 ?_;refine Vk [1,1,1,2] (fun x3=>[(5,.bv x3)]) (So x1 x2) r ?_ fun J1=>?_
 ·intro x3 h;rw [So] at h;refine Vg 10 ?_;refine Vl [1,1] (fun x5=>([(42,.bv x5)],[some ⟨60,NO.row x1⟩],[])) (JN x1) r ?_ fun J2=>?_
  ·intro x5 h;rw [JN] at h;refine MI h (fun h=>?_) fun h=>?_
   ·exact Wx
   ·refine Vg 6 ?_;refine Vl [] (fun x9=>([(2,.bv x9)],[],[])) Sp r ?_ fun J3=>?_
    ·intro x9 h;rw [Sp] at h;exact Wx
    ·exact Wx
  ·exact Wx
 ·exact Wx⟩
@[go_sem] def pg:EC:=eQ Tryz.f166
theorem iu:FnOK Tryz.prog 166 Tryz.f166 pg [.c 6 (some 5),.t 7] 3 77:=AP
def Ou (x1:Graph):Option (SN×Int):=
 (Ku x1).bind fun x2=>
 A0 (!decide (x2.2.2=0)) (
 some ((SN.mk (([]:List DI)) (([]:List ML))),x2.2.2)) (
 (Sq x1 x2.1).bind fun x3=>
 some ((SN.mk x3.1 (([]:List ML))),x3.2))
instance k_table_New {x1}:KP (Ou x1) 74 [.agg (Graph.row x1)] (fun r=>(.tup [.agg (SN.row r.1),.iv r.2])):=⟨fun{r} h=>by have ok:=oJ 74 Tryz.f74 [.c 2 (some 2),.t 3] 1 26;refine FP ok fun w0 H0=>?_;rw [Ou] at h;exact Wx⟩
def G8:(List Int×Bool)→Option (List Int×Int)
| (x15,x16)=>
 A0 (!x16) (
 some (([]:List Int),206)) (
 some (x15,0))
def QN (x1:EV) (x3:Place):Bool→Option (List Int×Int)
| x9=>
 (L9 x3.Live x1.PE).bind fun x10=>
 G8 (x10,x9)
def Na (x1:EV) (x3:Place):Bool→Option (List Int×Int)
| x11=>
 (O8 x3.Live x1.PE).bind fun x12=>
 G8 (x12,x11)
def VG (x1:EV) (x2:List Place) (x3:Place):(Bool×Bool)→Option (List Int×Int)
| (x7,x8)=>
 A0 (decide (x1.KI=6)) (
 A0 (!x7) (
 (QN x1 x3) (x8==(decide (x1.NO<x1.PE)))) (
 (QN x1 x3) false)) (
 A0 (decide (x1.KI=7)) (
 A0 x7 (
 A0 (decide (x1.NO<x1.PE)) (
 (Na x1 x3) true) (
 (Na x1 x3) (!x8))) (
 (Na x1 x3) false)) (
 A0 (decide (x1.KI=8)) (
 A0 (decide (x1.NO<x1.PE)) (
 A0 (!x7) (
 A0 (!x8) (
 (Im (Model.mk x2) x1.NO x1.PE).bind fun x13=>
 A0 (!x13) (
 (Im (Model.mk x2) x1.PE x1.NO).bind fun x14=>
 G8 (x3.Live,!x14)) (
 G8 (x3.Live,false))) (
 G8 (x3.Live,false))) (
 G8 (x3.Live,false))) (
 G8 (x3.Live,false))) (
 G8 (x3.Live,false))))
def QM (x1:EV) (x2:List Place):Option (List Int×Int):=
 (Ac x2 x1.NO).bind fun x3=>
 (Nc (Model.mk x2) x1.NO x1.PE).bind fun x4=>
 (Nc (Model.mk x2) x1.PE x1.NO).bind fun x6=>
 (VG x1 x2 x3) (x4,x6)
instance t_model_edge_I1 {x1 x2}:KT (QM x1 x2) 28 [.agg [.osl 0],.agg (EV.row x1)] [] [CW x2] (fun r=>(.tup [Aj r.1,.iv r.2])) (fun _=>[]) (fun _=>[CW x2]):=⟨fun{r} h=>by
 refine Ft iT fun w0 M0=>?_;have ok:=iT;rw [QM] at h;refine Vg 13 ?_;have ⟨x3,ex3,h⟩:=Bs h;refine C5 Place.row ex3 trivial rfl rfl rfl (Vg 1 ?_);refine Gm Place.row ex3 trivial rfl rfl rfl (Vg 3 ?_);refine Vk [2,2,2,1] (fun s=>[(7,.bv s.1),(8,.bv s.2)]) (VG x1 x2 x3) r ?_ fun J1=>?_
 ·rintro ⟨x7,x8⟩ h;rw [VG] at h;refine Vg 16 ?_;refine Vl [] (fun s=>([(6,Aj s.1),(9,.bv s.2)],[],[CW x2])) G8 r ?_ fun J2=>?_
  ·rintro ⟨x15,x16⟩ h;rw [G8] at h;exact Wx
  ·refine MI h (fun h=>?_) fun h=>?_
   ·refine Vg 5 ?_;refine Vm [3,1,2,1] (fun x9=>([(9,.bv x9)],[],[(0,none)],[])) (QN x1 x3) r ?_ fun J3=>?_
    ·intro x9 h;rw [QN] at h;exact Wx
    ·exact Wx
   ·refine Vg 5 ?_;refine MI h (fun h=>?_) fun h=>?_
    ·refine Vg 4 ?_;refine Vm [3,1,2,1] (fun x11=>([(9,.bv x11)],[],[(0,none)],[])) (Na x1 x3) r ?_ fun J4=>?_
     ·intro x11 h;rw [Na] at h;exact Wx
     ·exact Wx
    ·exact Wx
 ·refine AD fun all H=>Ds (GP H 8 6 [0,1,4,2,4,3] [(18,[.ptr 1 1,.iv x1.NO,.ptr 1 3,.iv x1.PE]),(2,[.ptr 1 3,.iv x1.PE,.ptr 1 1,.iv x1.NO])] (Ds ?_));refine Ao 0 6 rfl ?_ ?_
  ·refine RV ?_;have ⟨x4,ex4,h⟩:=Bs h;refine Ao 5 6 rfl ?_ ?_
   ·refine GK H.1 (LR.slice 0 rfl) (k_model_live.k ex4) (Ds ?_);refine R1 ?_;refine RQ (LR.slice 0 rfl) h k_model_live.k fun x6 ex6 h=>?_;refine Gn H 2 0 ?_;refine GD ?_;exact Wx
   ·refine RV ?_;refine Ak 5 rfl (GK H.1 (LR.slice 0 rfl) (k_model_live.k ex4) (Ds ?_));refine RQ (LR.slice 0 rfl) h k_model_live.k fun _ _ h=>?_;refine Gn H 2 0 ?_;refine GD ?_;exact Wx
  ·refine RV ?_;refine R1 ?_;refine RQ (LR.slice 0 rfl) h k_model_live.k fun _ _ h=>?_;refine RQ (LR.slice 0 rfl) h k_model_live.k fun _ _ h=>?_;refine GN H 2 0 (Ds ?_);refine An (GD ?_);exact Wx⟩
@[go_sem] def q7:EC:=eQ Tryz.f29
theorem iU:FnOK Tryz.prog 29 Tryz.f29 q7 [.c 4 (some 2),.t 5] 2 86:=AP
def aj:List Int→Option (List Int)
| x27=>some x27
def QI (x12:Int):List Int→Option ((Int×List Int) ⊕ (List Int))
| x18=>some (.inl (wr (x12+1),x18))
def QH (x12:Int) (x13:List Int) (x14:SE):Bool→Option ((Int×List Int) ⊕ (List Int))
| x16=>
 A0 x16 (
 (AE 8 x13 ([x14.ID])).bind fun x17=>
 (QI x12) x17) (
 (QI x12) x13)
def VD (x4:Place):(Int×List Int)→Option ((Int×List Int) ⊕ (List Int))
| (x12,x13)=>
 A0 (decide (x12<(ln SE.row x4.BK.SE))) (
 (Ac x4.BK.SE x12).bind fun x14=>
 A0 (decide (x14.SS=0)) (
 (HG x14.NE x4.Live).bind fun x15=>
 (QH x12 x13 x14) (!x15)) (
 (QH x12 x13 x14) false)) (
 Option.map Sum.inr (aj x13))
def QG (x1:Int) (x2:List Place):Option (List Int):=
 (Hu (Model.mk x2) x1).bind fun x3=>
 A0 (!x3) (
 some (([]:List Int))) (
 (Ac x2 x1).bind fun x4=>
 loop (VD x4) (0,([]:List Int)))
instance t_model_Due_I1 {x1 x2}:KT (QG x1 x2) 15 [.agg [.osl 0],.iv x1] [] [CW x2] (fun _=>(.osl 1)) (fun _=>[]) (fun r=>[CW x2,Ae r]):=⟨fun{r} h=>by
 refine Ft OD fun w0 M0=>?_;have ok:=OD;have A2:AJ [.r 3 1]:=trivial;have A1:AJ [.t 4 3 1]:=trivial;rw [QG] at h;refine Vg 14 ?_;refine VN (LR.slice 0 rfl) h k_model_there.k fun _ _ h=>?_;refine Vg 2 ?_;refine MI h (fun h=>?_) fun h=>?_
 ·exact Wx
 ·refine Vg 7 ?_;have ⟨x4,ex4,h⟩:=Bs h;refine C5 Place.row ex4 trivial rfl rfl rfl (Vg 2 ?_);refine Gm Place.row ex4 trivial rfl rfl rfl (Vg 3 ?_);refine Vl [] (fun x27=>([(5,.osl 1)],[],[CW x2,Ae x27])) aj r ?_ fun J1=>?_
  ·intro x27 h;rw [aj] at h;exact Wx
  ·refine Vg 1 ?_;(refine Wj [.t 5 3 1] ?_);refine Mm h [1,2,2,1,12,2] (fun s=>([(20,.iv s.1)],[],[],[(1,Ae s.2)])) ?_;rintro n1 ⟨x12,x13⟩ y1 h hin1 hout1;rw [VD] at h;refine Vg 5 ?_;refine MI h (fun h=>?_) fun h=>?_
   ·refine Vg 5 ?_;have ⟨x14,ex14,h⟩:=Bs h;refine Dt SE.row ex14 trivial rfl rfl rfl (Vg 5 ?_);refine Vk [1,2,2,1,1,1,10,3] (fun x16=>[(38,.bv x16)]) (QH x12 x13 x14) y1 ?_ fun J2=>?_
    ·intro x16 h;rw [QH] at h;refine Vl [1,2,2,1,12,3] (fun x18=>([],[some ⟨30,[.osl 0]⟩],[CW x2,Ae x18])) (QI x12) y1 ?_ fun J3=>?_
     ·intro x18 h;rw [QI] at h;exact Wx
     ·exact Wx
    ·exact Wx
   ·exact Wx⟩
def Nb (x4:(BK×Int×Int)):Bool→Option (BK×Int)
| x7=>
 A0 x7 (
 some ((BK.mk 0 (([]:List SE))),203)) (
 some (x4.1,0))
def QP (x1:EV) (x2:List Place):Option (BK×Int):=
 (Ac x2 x1.NO).bind fun x3=>
 (NZ x3.BK).bind fun x4=>
 A0 (!decide (x4.2.2=0)) (
 (Nb x4) true) (
 A0 (!decide (x4.2.1=x1.ID)) (
 (Nb x4) true) (
 (Ac x4.1.SE 0).bind fun x5=>
 (Fh x5.NE ((fun z=>QO z (Model.mk x2) x1))).bind fun x6=>
 (Nb x4) x6))
instance t_model_grant_I1 {x1 x2}:KT (QP x1 x2) 58 [.agg [.osl 0],.agg (EV.row x1)] [] [CW x2] (fun r=>(.tup [.agg [.iv r.1.LA,Aq r.1.SE],.iv r.2])) (fun _=>[]) (fun _=>[CW x2]):=⟨fun{r} h=>by
 refine Ft iW fun w0 M0=>?_;have ok:=iW;rw [QP] at h;refine Vg 13 ?_;have ⟨x3,ex3,h⟩:=Bs h;refine C5 Place.row ex3 trivial rfl rfl rfl (Vg 1 ?_);refine H9 Place.row ex3 trivial rfl rfl rfl (VB h k_sess_Grant.k fun x4 _ h=>?_);refine Vg 15 ?_;refine Vm [4,1,1,1] (fun x7=>([(37,.bv x7)],[],[(0,none),(1,none)],[])) (Nb x4) r ?_ fun J1=>?_
 ·intro x7 h;rw [Nb] at h;exact Wx
 ·exact Wx⟩
@[go_sem] def pI:EC:=eQ Tryz.f206
theorem iI:FnOK Tryz.prog 206 Tryz.f206 pI [.c 2 (some 5),.t 3,.t 4] 1 38:=AP
@[go_sem] def oT:EC:=eQ Tryz.f121
theorem ij:FnOK Tryz.prog 121 Tryz.f121 oT [] 2 76:=AP
def Sh:(Int×Int×Int×List SX×List Int)→Option (Int×Int×Int×List SX×List Int)
| (x14,x15,x16,x17,x18)=>some (x14,x15,x16,x17,x18)
def HE (x1 x2:Int) (x3 _x4:Int) (_x5:List SE) (_x6:Int) (x7:List SX) (x8:List Int) (_x9:List KE) (_x10:List Int) (_x11:List KE) (_x12:List EV):Option (Int×Int×Int×List SX×List Int):=
 (Qf x1 x2 x3 x7 x8).bind fun x13=>
 A0 (decide (x13.2.2.1=0)) (
 Sh (x13.1,x13.2.1,0,x13.2.2.2,([]:List Int))) (
 Sh (x1,x2,x3,x7,x8))
instance t_node_node_tranquil_I1 {x1 x2 x3 x4 x5 x6 x7 x8 x9 x10 x11 x12}:KT (HE x1 x2 x3 x4 x5 x6 x7 x8 x9 x10 x11 x12) 170 [.ptr 0 0] [some ⟨191,[.iv x1,.iv x2,.osl 0,.iv x3,.osl 1,.iv x4,Aq x5,.osl 2,.osl 3,.osl 4,.nl,.osl 5,.iv x6]⟩] [Al x7,Ae x8,Ai x9,Ae x10,Ai x11,Bk x12] (fun _=>(.tup [])) (fun r=>[some ⟨191,[.iv r.1,.iv r.2.1,.osl 6,.iv r.2.2.1,.osl 7,.iv x4,Aq x5,.osl 2,.osl 3,.osl 4,.nl,.osl 5,.iv x6]⟩]) (fun r=>[none,none,Ai x9,Ae x10,Ai x11,Bk x12,Al r.2.2.2.1,Ae r.2.2.2.2]):=⟨fun{r} h=>by
 refine Ft iw fun w0 M0=>?_;have ok:=iw;have A2:AJ [.r 0 6,.w 3 1,.r 1 7]:=trivial;have A1:AJ [.o 0 4 3 1]:=trivial;rw [HE] at h;refine Vg 7 ?_;refine VR [] [0,1] 1 6 h t_drink_Close_I1.k fun _ _ h=>?_;refine Vg 12 ?_;refine Vl [] (fun s=>([],[some ⟨191,[.iv s.1,.iv s.2.1,.osl 6,.iv s.2.2.1,.osl 7,.iv x4,Aq x5,.osl 2,.osl 3,.osl 4,.nl,.osl 5,.iv x6]⟩],[none,none,Ai x9,Ae x10,Ai x11,Bk x12,Al s.2.2.2.1,Ae s.2.2.2.2])) Sh r ?_ fun J1=>?_
 ·rintro ⟨x14,x15,x16,x17,x18⟩ h;rw [Sh] at h;exact Wx
 ·exact Wx⟩
@[go_sem] def oW:EC:=eQ Tryz.f125
theorem il:FnOK Tryz.prog 125 Tryz.f125 oW [] 2 159:=AP
def Rz (x1:NO):Bool→Option Bool
| x4=>
 A0 x4 (
 (RJ x1 ((-1)) ((fun z=>JG z x1))).bind fun x5=>
 some x5.1) (
 some false)
def Rv (x1:NO):Option Bool:=
 (Og x1.AK ((fun z=>Nw z x1))).bind fun x2=>
 A0 (!x2) (
 (Nv x1.AK).bind fun x3=>
 (Rz x1) x3) (
 (Rz x1) false)
instance k_node_edges {x1}:KP (Rv x1) 105 [.agg (NO.row x1)] (fun r=>(.bv r)):=⟨fun{r} h=>by
 have ok:=oJ 105 Tryz.f105 [.t 2] 1 21;refine FP ok fun w0 H0=>?_;rw [Rv] at h;refine Vg 26 ?_;refine VN (LR.block 0 rfl rfl) h k_slices_ContainsFunc_Known.k fun _ _ h=>?_;refine Vg 2 ?_;refine Vk [1,1,1,1,1,1] (fun x4=>[(17,.bv x4)]) (Rz x1) r ?_ fun J1=>?_
 ·intro x4 h;rw [Rz] at h;refine MI h (fun h=>?_) fun h=>?_
  ·refine Vg 5 ?_;refine HY 0 rfl rfl ?_;exact Wx
  ·exact Wx
 ·exact Wx⟩
@[go_sem] def oR:EC:=eQ Tryz.f117
theorem ii:FnOK Tryz.prog 117 Tryz.f117 oR [] 3 25:=AP
def Ho (x1 x2:Int) (x3 x4:Int) (x5:Msg) (x9:(List SX×List Int)) (x10:Int):Bool→Option (Int×Int×Int×Int×List SX×List Int)
| x11=>
 A0 x11 (
 (Q7 x1 x2 x4 x5 x9.1).bind fun x12=>
 A0 (!decide (x12.2.2.1=0)) (
 some (0,0,0,x12.2.2.1,([]:List SX),([]:List Int))) (
 some (x12.1,x12.2.1,x3,0,x12.2.2.2,x9.2))) (
 (Ac x9.1 x10).bind fun x13=>
 A0 (decide (x5.KI=4)) (
 A0 x13.Ask (
 some (0,0,0,132,([]:List SX),([]:List Int))) (
 some (x1,x2,x3,0,x9.1.set (Int.toNat (x10)) (SX.mk x13.PE x13.EP x13.SS x13.FK x13.DY x13.TO x13.BO true),x9.2))) (
 A0 x13.BO (
 some (0,0,0,132,([]:List SX),([]:List Int))) (
 some (x1,x2,x3,0,x9.1.set (Int.toNat (x10)) (SX.mk x13.PE x13.EP x13.SS x13.FK x13.DY x13.TO true x13.Ask),x9.2))))
def Qj (x1 x2:Int) (x3 x4:Int) (x5:Msg) (x6:List SX) (x7:List Int):Option (Int×Int×Int×Int×List SX×List Int):=
 (Jn (DK.mk (DI.mk x1 x2 x6) x3 x7)).bind fun x8=>
 A0 (!decide (x8=0)) (
 some (0,0,0,x8,([]:List SX),([]:List Int))) (
 (MT x1 x2 x3 x6 x7).bind fun x9=>
 (IA x9.1 ((fun z=>MK z x4 x5))).bind fun x10=>
 A0 (decide (x10<0)) (
 (Ho x1 x2 x3 x4 x5 x9 x10) true) (
 A0 (!decide (x5.Num=0)) (
 (Ho x1 x2 x3 x4 x5 x9 x10) true) (
 A0 (!decide (x5.KI=3)) (
 (Ho x1 x2 x3 x4 x5 x9 x10) (!decide (x5.KI=4))) (
 (Ho x1 x2 x3 x4 x5 x9 x10) false))))
instance t_drink_Get_I1 {x1 x2 x3 x4 x5 x6 x7}:KT (Qj x1 x2 x3 x4 x5 x6 x7) 166 [.agg [.iv x1,.iv x2,.osl 0,.iv x3,.osl 1],.iv x4,.agg (Msg.row x5)] [] [Al x6,Ae x7] (fun r=>(.tup [.agg [.iv r.1,.iv r.2.1,.osl 2,.iv r.2.2.1,.osl 3],.iv r.2.2.2.1])) (fun _=>[]) (fun r=>[Al x6,Ae x7,Al r.2.2.2.2.1,Ae r.2.2.2.2.2]):=⟨fun{r} h=>by
 refine Ft iu fun w0 M0=>?_;have ok:=iu;have A4:AJ [.o 3 2 100 8,.o 3 4 3 1,.r 4 2,.r 5 3]:=trivial;have A3:AJ [.r 4 2]:=trivial;have A2:AJ [.o 3 2 100 8,.o 3 4 3 1,.r 5 2,.r 6 3]:=trivial;have A1:AJ [.o 3 2 100 8,.o 3 4 3 1]:=trivial;rw [Qj] at h;refine Vg 12 ?_;refine VN ((LR.slice 0 rfl).slice 1 rfl) h k_drink_Check.k fun _ _ h=>?_;refine Vg 7 ?_;refine MI h (fun h=>?_) fun h=>?_
 ·exact Wx
 ·refine Vg 4 ?_;refine VR [] [0,1] 4 2 h t_drink_own_I2.k fun x9 _ h=>?_;refine Vg 8 ?_;refine VN (((LR.slice 2 rfl).block 1 rfl rfl).block 2 rfl rfl) h k_slices_IndexFunc_Side.k fun x10 _ h=>?_;refine As 8 (Ds ?_);refine An (Vk [3,4,2,1] (fun x11=>[(42,.bv x11)]) (Ho x1 x2 x3 x4 x5 x9 x10) r ?_ fun J1=>?_)
  ·intro x11 h;rw [Ho] at h;refine MI h (fun h=>?_) fun h=>?_
   ·exact Wx
   ·refine Vg 7 ?_;have ⟨x13,ex13,h⟩:=Bs h;refine C5 SX.row ex13 trivial rfl rfl rfl (Vg 10 ?_);refine MI h (fun h=>?_) fun h=>?_
    ·refine Vg 5 ?_;refine C5 SX.row ex13 trivial rfl rfl rfl (Vg 8 ?_);refine Gm SX.row ex13 trivial rfl rfl rfl (Vg 1 ?_);refine MI h (fun h=>?_) fun h=>?_
     ·exact Wx
     ·refine Vg 5 ?_;refine Du [.bv true] SX.row (y':=(SX.mk x13.PE x13.EP x13.SS x13.FK x13.DY x13.TO x13.BO true)) ex13 trivial rfl rfl rfl (by first | exact AA _ | simp [go_sem]) rfl rfl rfl rfl ?_;exact Wx
    ·refine Vg 6 ?_;refine Gm SX.row ex13 trivial rfl rfl rfl (Vg 1 ?_);refine MI h (fun h=>?_) fun h=>?_
     ·exact Wx
     ·refine Vg 5 ?_;refine Du [.bv true] SX.row (y':=(SX.mk x13.PE x13.EP x13.SS x13.FK x13.DY x13.TO true x13.Ask)) ex13 trivial rfl rfl rfl (by first | exact AA _ | simp [go_sem]) rfl rfl rfl rfl ?_;exact Wx
  ·exact Wx⟩
def ZX:List DK→Option (Bar×Int)
| x17=>some ((Bar.mk x17 (([]:List ML))),0)
def PP (x2:(SN×Int)):(Int×List DK)→Option ((Int×List DK) ⊕ (Bar×Int))
| (x7,x8)=>
 A0 (decide (x7<(ln DI.row x2.1.DZ))) (
 (Ac x2.1.DZ x7).bind fun x9=>
 (AE 72 x8 ([DK.mk x9 0 (([]:List Int))])).bind fun x10=>
 some (.inl (wr (x7+1),x10))) (
 Option.map Sum.inr (ZX x8))
def PO (x1:Graph):Option (Bar×Int):=
 (Ou x1).bind fun x2=>
 A0 (!decide (x2.2=0)) (
 some ((Bar.mk (([]:List DK)) (([]:List ML))),x2.2)) (
 loop (PP x2) (0,([]:List DK)))
instance k_bar_New {x1}:KP (PO x1) 46 [.agg (Graph.row x1)] (fun r=>(.tup [.agg (Bar.row r.1),.iv r.2])):=⟨fun{r} h=>by
 have ok:=oJ 46 Tryz.f46 [.c 2 (some 2),.t 3] 1 33;refine FP ok fun w0 H0=>?_;have A2:AJ [.r 2 0]:=trivial;have A1:AJ [.s 0]:=trivial;rw [PO] at h;refine Vg 9 ?_;refine VB h k_table_New.k fun _ _ h=>?_;refine Vg 13 ?_;refine MI h (fun h=>?_) fun h=>?_
 ·exact Wx
 ·refine Vg 13 ?_;refine Vl [2,1,3,1] (fun x17=>([],[none,some ⟨116,[.nl,.nl]⟩,none,some ⟨116,[.osl 0,.nl]⟩],[dp x17])) ZX r ?_ fun J1=>?_
  ·intro x17 h;rw [ZX] at h;exact Wx
  ·refine Vg 1 ?_;(refine Wj [.o 3 0 54 5] ?_);refine Mm h [2,1,3,1,12,2] (fun s=>([(21,.iv s.1)],[],[(0,none),(2,none)],[(0,dp s.2)])) ?_;rintro n1 ⟨x7,x8⟩ y1 h hin1 hout1;rw [PP] at h;refine Vg 5 ?_;refine MI h (fun h=>?_) fun h=>?_
   ·refine Vg 5 ?_;have ⟨x9,ex9,h⟩:=Bs h;refine Dt DI.row ex9 trivial rfl rfl rfl (Vg 9 ?_);refine YX 28 (.agg [.iv x9.ID,.iv x9.PH,CV x9.SD,.iv 0,Aj (([]:List Int))]) (by simp [go_sem]) ?_;exact Wx
   ·exact Wx⟩
def KF:(Int×BK)→Option (BK×Int)
| (x12,x13)=>
 A0 (!decide (x12=0)) (
 some ((BK.mk 0 (([]:List SE))),204)) (
 some (x13,0))
def Nd (x1:EV) (x3:Place):Unit→Option (BK×Int)
| ()=>
 (NU x3.BK x1.ID).bind fun x11=>
 KF (x11.2,x11.1)
def VO (x1:EV) (x3:Place) (x4:List Int):Unit→Option (BK×Int)
| ()=>
 (EM x4 x1.ID).bind fun x10=>
 A0 (!x10) (
 some ((BK.mk 0 (([]:List SE))),205)) (
 (Nd x1 x3) ())
def Nf (x1:EV) (x3:Place):Unit→Option (BK×Int)
| ()=>
 (O1 x3.BK x1.ID).bind fun x9=>
 KF (x9.2,x9.1)
def VP (x1:EV) (x2:List Place):Unit→Option (BK×Int)
| ()=>
 (QP x1 x2).bind fun x8=>
 some (x8.1,x8.2)
def QS (x5:(BK×Int)):Bool→Option (BK×Int)
| x7=>
 A0 x7 (
 some ((BK.mk 0 (([]:List SE))),202)) (
 some (x5.1,x5.2))
def VQ (x1:EV) (x3:Place):Unit→Option (BK×Int)
| ()=>
 (O0 x3.BK x1.ID x1.NE).bind fun x5=>
 A0 (decide (x5.2=0)) (
 (HG x1.NE x3.Live).bind fun x6=>
 (QS x5) (!x6)) (
 (QS x5) false)
def QR (x1:EV) (x2:List Place):Option (BK×Int):=
 (Ac x2 x1.NO).bind fun x3=>
 (QG x1.NO x2).bind fun x4=>
 A0 (decide (x1.KI=0)) (
 (VQ x1 x3) ()) (
 A0 (decide (x1.KI=1)) (
 (VP x1 x2) ()) (
 A0 (decide (x1.KI=2)) (
 (Nf x1 x3) ()) (
 A0 (decide (x1.KI=4)) (
 (Nf x1 x3) ()) (
 A0 (decide (x1.KI=5)) (
 (VO x1 x3 x4) ()) (
 A0 (decide (x1.KI=3)) (
 (Nd x1 x3) ()) (
 KF (0,x3.BK)))))))
instance t_model_session_I1 {x1 x2}:KT (QR x1 x2) 29 [.agg [.osl 0],.agg (EV.row x1)] [] [CW x2] (fun r=>(.tup [.agg [.iv r.1.LA,Aq r.1.SE],.iv r.2])) (fun _=>[]) (fun _=>[CW x2]):=⟨fun{r} h=>by
 refine Ft iU fun w0 M0=>?_;have ok:=iU;rw [QR] at h;refine Vg 13 ?_;have ⟨x3,ex3,h⟩:=Bs h;refine C5 Place.row ex3 trivial rfl rfl rfl (Vg 1 ?_);refine H9 Place.row ex3 trivial rfl rfl rfl (Vg 7 ?_);refine VR [] [0] 3 1 h t_model_Due_I1.k fun x4 _ h=>?_;refine Vg 8 ?_;refine Vl [4,1] (fun s=>([(5,.iv s.1)],[none,none,some ⟨57,[.iv s.2.LA,Aq s.2.SE]⟩],[CW x2])) KF r ?_ fun J1=>?_
 ·rintro ⟨x12,x13⟩ h;rw [KF] at h;exact Wx
 ·refine Vg 2 ?_;refine Vl [3,2] (fun _=>([],[none,some ⟨47,EV.row x1⟩,some ⟨57,BK.row x3.BK⟩],[CW x2])) (Nd x1 x3) r ?_ fun J2=>?_
  ·rintro ⟨⟩ h;rw [Nd] at h;exact Wx
  ·refine Vg 2 ?_;refine Vm [3,2,1,1] (fun _=>([],[],[(0,none)],[])) (VO x1 x3 x4) r ?_ fun J3=>?_
   ·rintro ⟨⟩ h;rw [VO] at h;exact Wx
   ·refine Vg 2 ?_;refine Vl [3,2] (fun _=>([],[none,some ⟨47,EV.row x1⟩,some ⟨57,BK.row x3.BK⟩],[CW x2])) (Nf x1 x3) r ?_ fun J4=>?_
    ·rintro ⟨⟩ h;rw [Nf] at h;exact Wx
    ·refine Vg 3 ?_;refine Vl [2,3] (fun _=>([],[some ⟨30,[.osl 0]⟩,some ⟨47,EV.row x1⟩,some ⟨57,BK.row x3.BK⟩],[CW x2])) (VP x1 x2) r ?_ fun J5=>?_
     ·rintro ⟨⟩ h;rw [VP] at h;exact Wx
     ·refine Vg 2 ?_;refine Vl [2,3] (fun _=>([],[some ⟨30,[.osl 0]⟩,some ⟨47,EV.row x1⟩,some ⟨57,BK.row x3.BK⟩],[CW x2])) (VQ x1 x3) r ?_ fun J6=>?_
      ·rintro ⟨⟩ h;rw [VQ] at h;refine Vg 8 ?_;refine VB h k_sess_Open.k fun x5 _ h=>?_;refine Vg 8 ?_;refine Vm [4,2] (fun x7=>([(55,.bv x7)],[],[(0,none),(1,none)],[])) (QS x5) r ?_ fun J7=>?_
       ·intro x7 h;rw [QS] at h;exact Wx
       ·exact Wx
      ·exact Wx⟩
def WA (x18:(BK×List Int×Int)) (x23:Int) (x24 x25:Int) (x26:List SX) (x27:List Int):List EV→Option (Int×Int×Int×Int×List SE×List EV×List SX×List Int)
| x53=>some (x23,x24,x25,x18.1.LA,x18.1.SE,x53,x26,x27)
def WB (x6:Int) (x10:List KE) (x11:List Int) (x12:List KE) (x18:(BK×List Int×Int)) (x23:Int) (x24 x25:Int) (x26:List SX) (x27:List Int):(Int×List EV)→Option ((Int×List EV) ⊕ (Int×Int×Int×Int×List SE×List EV×List SX×List Int))
| (x32,x33)=>
 A0 (decide (x32<(ln Am x18.2.1))) (
 (Ac x18.2.1 x32).bind fun x34=>
 (Sb 5 x34 x23 x24 x25 x18.1.LA x18.1.SE x6 x26 x27 x10 x11 x12 x33).bind fun x35=>
 some (.inl (wr (x32+1),x35))) (
 Option.map Sum.inr ((WA x18 x23 x24 x25 x26 x27) x33))
def NJ (x6:Int) (x10:List KE) (x11:List Int) (x12:List KE) (x17:List EV) (x18:(BK×List Int×Int)):(Int×Int×Int×List SX×List Int)→Option (Int×Int×Int×Int×List SE×List EV×List SX×List Int)
| (x23,x24,x25,x26,x27)=>loop (WB x6 x10 x11 x12 x18 x23 x24 x25 x26 x27) (0,x17)
def L2 (x2 x3:Int) (x4 x5 x6:Int) (x8:List Int) (x9:List SE) (x10:List KE) (x11:List Int) (x12:List KE) (x16:List SX) (x17:List EV) (x18:(BK×List Int×Int)):Bool→Option (Int×Int×Int×Int×List SE×List EV×List SX×List Int)
| x21=>
 A0 x21 (
 (HE x2 x3 x4 x5 x9 x6 x16 x8 x10 x11 x12 x17).bind fun x22=>
 (NJ x6 x10 x11 x12 x17 x18) (x22.1,x22.2.1,x22.2.2.1,x22.2.2.2.1,x22.2.2.2.2)) (
 (NJ x6 x10 x11 x12 x17 x18) (x2,x3,x4,x16,x8))
def Ww (x1 x2:Int) (x3 x4:Int) (x5 x6:Int) (x8:List Int) (x9:List SE) (x10:List KE) (x11:List Int) (x12:List KE):List SX→Option (Int×Int×Int×Int×List SE×List EV×List SX×List Int)
| x16=>
 (Ny 7 x1 x2 x3 x4 x5 x6 x16 x8 x9 x10 x11 x12).bind fun x17=>
 (Sv (BK.mk x5 x9) x1).bind fun x18=>
 (RE x2 x3 x4 x5 x9 x16 x8 x10 x11 x12).bind fun x19=>
 A0 x19.2 (
 A0 (decide (x4=1)) (
 (Lg x18.2.1 x19.1.ID).bind fun x20=>
 (L2 x2 x3 x4 x5 x6 x8 x9 x10 x11 x12 x16 x17 x18) x20) (
 (L2 x2 x3 x4 x5 x6 x8 x9 x10 x11 x12 x16 x17 x18) false)) (
 (L2 x2 x3 x4 x5 x6 x8 x9 x10 x11 x12 x16 x17 x18) false)
def L1 (x1 x2:Int) (x3 x4:Int) (x5 x6:Int) (x7:List SX) (x8:List Int) (x9:List SE) (x10:List KE) (x11:List Int) (x12:List KE):Option (Int×Int×Int×Int×List SE×List EV×List SX×List Int):=
 (KZ (node_node.mk (NO.mk (DK.mk (DI.mk x2 x3 x7) x4 x8) (BK.mk x5 x9) x10 x11 x12) (([]:List ML)) (([]:List EV)) x6) x1).bind fun x13=>
 (Ac x7 x13).bind fun x15=>
 (Ww x1 x2 x3 x4 x5 x6 x8 x9 x10 x11 x12) (x7.set (Int.toNat (x13)) (SX.mk x15.PE x15.EP 2 x15.FK x15.DY x15.TO x15.BO x15.Ask))
instance t_node_node_shut_I1 {x1 x2 x3 x4 x5 x6 x7 x8 x9 x10 x11 x12}:KT (L1 x1 x2 x3 x4 x5 x6 x7 x8 x9 x10 x11 x12) 121 [.ptr 0 0,.iv x1] [some ⟨191,[.iv x2,.iv x3,.osl 0,.iv x4,.osl 1,.iv x5,.osl 2,.osl 3,.osl 4,.osl 5,.nl,.nl,.iv x6]⟩] [Al x7,Ae x8,B4 x9,Ai x10,Ae x11,Ai x12] (fun _=>(.tup [])) (fun r=>[some ⟨191,[.iv r.1,.iv r.2.1,.osl 8,.iv r.2.2.1,.osl 9,.iv r.2.2.2.1,Aq r.2.2.2.2.1,.osl 3,.osl 4,.osl 5,.nl,.osl 7,.iv x6]⟩]) (fun r=>[none,none,none,Ai x10,Ae x11,Ai x12,none,Bk r.2.2.2.2.2.1,Al r.2.2.2.2.2.2.1,Ae r.2.2.2.2.2.2.2]):=⟨fun{r} h=>by
 refine Ft ij fun w0 M0=>?_;have ok:=ij;have A2:AJ [.w 100 8,.r 0 8,.w 3 1,.r 1 9]:=trivial;have A1:AJ [.r 11 7]:=trivial;rw [L1] at h;refine Vg 1 ?_;refine Vm [0,2] (fun x16=>([],[],[],[(0,Al x16)])) (Ww x1 x2 x3 x4 x5 x6 x8 x9 x10 x11 x12) r ?_ fun J1=>?_
 ·intro x16 h;rw [Ww] at h;refine Vg 4 ?_;have ⟨x17,ex17,h⟩:=Bs h;refine IR [true] [true,true,true,true,true,true] trivial (t_node_node_edge_I2.k ex17) (h:=?_);refine Vg 9 ?_;(refine Wj [.s 2] ?_);refine VB h k_sess_Gone.k fun x18 _ h=>?_;refine Vg 16 ?_;refine VR [] [0,1,3,4,5] 2 8 h t_node_first_I1.k fun _ _ h=>?_;refine Vg 11 ?_;refine Vl [0,1,3,2] (fun x21=>([(60,.bv x21)],[some ⟨191,[.iv x2,.iv x3,.osl 0,.iv x4,.osl 1,.iv x5,Aq x9,.osl 3,.osl 4,.osl 5,.nl,.osl 7,.iv x6]⟩,some ⟨57,BK.row x18.1⟩],[Al x16,Ae x8,none,Ai x10,Ae x11,Ai x12,none,Bk x17])) (L2 x2 x3 x4 x5 x6 x8 x9 x10 x11 x12 x16 x17 x18) r ?_ fun J2=>?_
  ·intro x21 h;rw [L2] at h;refine Vl [0,1,3,2] (fun s=>([],[some ⟨191,[.iv s.1,.iv s.2.1,.osl 8,.iv s.2.2.1,.osl 9,.iv x5,Aq x9,.osl 3,.osl 4,.osl 5,.nl,.osl 7,.iv x6]⟩,some ⟨57,BK.row x18.1⟩],[none,none,none,Ai x10,Ae x11,Ai x12,none,Bk x17,Al s.2.2.2.1,Ae s.2.2.2.2])) (NJ x6 x10 x11 x12 x17 x18) r ?_ fun J3=>?_
   ·rintro ⟨x23,x24,x25,x26,x27⟩ h;rw [NJ] at h;refine Vg 15 ?_;refine Vl [] (fun x53=>([],[some ⟨191,[.iv x23,.iv x24,.osl 8,.iv x25,.osl 9,.iv x18.1.LA,Aq x18.1.SE,.osl 3,.osl 4,.osl 5,.nl,.osl 7,.iv x6]⟩],[none,none,none,Ai x10,Ae x11,Ai x12,none,Bk x53,Al x26,Ae x27])) (WA x18 x23 x24 x25 x26 x27) r ?_ fun J4=>?_
    ·intro x53 h;rw [WA] at h;exact Wx
    ·refine Vg 1 ?_;refine Ml h [0,1,67,2] (fun s=>([(70,.iv s.1)],[some ⟨191,[.iv x23,.iv x24,.osl 8,.iv x25,.osl 9,.iv x18.1.LA,Aq x18.1.SE,.osl 3,.osl 4,.osl 5,.nl,.osl 7,.iv x6]⟩],[none,none,none,Ai x10,Ae x11,Ai x12,none,Bk s.2,Al x26,Ae x27])) ?_;rintro n1 ⟨x32,x33⟩ y1 h hin1 hout1;rw [WB] at h;exact Wx
   ·exact Wx
  ·exact Wx
 ·refine AD fun all H=>Ds (GP H 8 5 [6,1,2,4] [(11,[.ptr 0 0,.ptr 0 0,.ptr 0 0,.ptr 0 0,.ptr 0 0,.ptr 0 2]),(1,[.ptr 0 0,.iv x1])] (Ds ?_));have ⟨x13,ex13,h⟩:=Bs h;refine Ao 6 9 rfl ?_ ?_
  ·refine RV ?_;refine Ak 9 rfl (GK H.1 (((((((LR.slice 0 rfl).slice 1 rfl).slice 2 rfl).slice 3 rfl).slice 4 rfl).slice 5 rfl).block 0 rfl rfl) (k_node_node_place.k ex13) (Ds ?_));have ⟨x15,ex15,h⟩:=Bs h;refine RO ?_;refine RI ?_;refine Gn H 1 1 ?_;refine B8 [.iv 2] (SX.mk x15.PE x15.EP 2 x15.FK x15.DY x15.TO x15.BO x15.Ask) ?_;refine GD ?_;exact Wx
  ·refine GK H.1 (((((((LR.slice 0 rfl).slice 1 rfl).slice 2 rfl).slice 3 rfl).slice 4 rfl).slice 5 rfl).block 0 rfl rfl) (k_node_node_place.k ex13) (Ds ?_);refine R1 ?_;have ⟨x15,ex15,h⟩:=Bs h;refine RO ?_;refine RI ?_;refine Gn H 1 1 ?_;refine B8 [.iv 2] (SX.mk x15.PE x15.EP 2 x15.FK x15.DY x15.TO x15.BO x15.Ask) ?_;refine GD ?_;exact Wx⟩
@[go_sem] def pn:EC:=eQ Tryz.f174
theorem iy:FnOK Tryz.prog 174 Tryz.f174 pn [] 1 148:=AP
def UZ (x7:(List SX×List Int)) (x23:(Int×Int×Int×List SX×List ML)):Unit→Option ((Int×Int×Int×List SX×List ML) ⊕ (Int×Int×Int×Int×List SX×List Int×List ML))
| ()=>Option.map Sum.inr (some (x23.1,x23.2.1,x23.2.2.1,0,x23.2.2.2.1,x7.2,x23.2.2.2.2))
def UY (x7:(List SX×List Int)) (x23:(Int×Int×Int×List SX×List ML)):Bool→Option ((Int×Int×Int×List SX×List ML) ⊕ (Int×Int×Int×Int×List SX×List Int×List ML))
| x25=>
 A0 x25 (
 (UZ x7 x23) ()) (
 some (.inl (x23.1,x23.2.1,x23.2.2.1,x23.2.2.2.1,x23.2.2.2.2)))
def Qg (x7:(List SX×List Int)):(Int×Int×Int×List SX×List ML)→Option ((Int×Int×Int×List SX×List ML) ⊕ (Int×Int×Int×Int×List SX×List Int×List ML))
| (x17,x18,x19,x20,x21)=>
 (MT x17 x18 x19 x20 x7.2).bind fun x22=>
 (Qo x17 x18 x19 x20 x7.2 x21).bind fun x23=>
 (MM (DK.mk (DI.mk x17 x18 x22.1) x19 x22.2) (DK.mk (DI.mk x23.1 x23.2.1 x23.2.2.2.1) x23.2.2.1 x7.2)).bind fun x24=>
 (UY x7 x23) x24
def MJ (x1 x2 x3:Int) (x4:List SX) (x5:List Int):Option (Int×Int×Int×Int×List SX×List Int×List ML):=
 (Jn (DK.mk (DI.mk x1 x2 x4) x3 x5)).bind fun x6=>
 A0 (!decide (x6=0)) (
 some (0,0,0,x6,([]:List SX),([]:List Int),([]:List ML))) (
 (MT x1 x2 x3 x4 x5).bind fun x7=>
 loop (Qg x7) (x1,x2,x3,x7.1,([]:List ML)))
instance t_drink_Fire_I1 {x1 x2 x3 x4 x5}:KT (MJ x1 x2 x3 x4 x5) 206 [.agg [.iv x1,.iv x2,.osl 0,.iv x3,.osl 1]] [] [Al x4,Ae x5] (fun r=>(.tup [.agg [.iv r.1,.iv r.2.1,.osl 2,.iv r.2.2.1,.osl 3],.osl 4,.iv r.2.2.2.1])) (fun _=>[]) (fun r=>[Al x4,Ae x5,Al r.2.2.2.2.1,Ae r.2.2.2.2.2.1,AG r.2.2.2.2.2.2]):=⟨fun{r} h=>by
 refine Ft iI fun w0 M0=>?_;have ok:=iI;have A2:AJ [.r 7 2,.r 11 4]:=trivial;have A1:AJ [.o 1 2 100 8,.o 1 4 3 1,.t 3 156 5]:=trivial;rw [MJ] at h;refine Vg 11 ?_;refine VN ((LR.slice 0 rfl).slice 1 rfl) h k_drink_Check.k fun _ _ h=>?_;refine Vg 7 ?_;refine MI h (fun h=>?_) fun h=>?_
 ·exact Wx
 ·refine Vg 4 ?_;refine VR [] [0,1] 2 2 h t_drink_own_I2.k fun x7 _ h=>?_;refine Vg 5 ?_;(refine Wj [.o 2 5 156 5] ?_);refine Mm h [2,1,3,1] (fun s=>([],[(2,0,.iv s.1),(2,1,.iv s.2.1),(2,3,.iv s.2.2.1)],[(0,none)],[(2,Al s.2.2.2.1),(4,AG s.2.2.2.2)])) ?_;rintro n1 ⟨x17,x18,x19,x20,x21⟩ y1 h hin1 hout1;rw [Qg] at h;refine Vg 7 ?_;refine VR [] [2,3] 3 5 h t_drink_own_I2.k fun _ _ h=>?_;refine Vg 6 ?_;refine VR [2] [2,3,4] 4 7 h t_drink_drinker_once_I4.k fun x23 _ h=>?_;refine Vg 2 ?_;refine Vl [2,1,3,1] (fun x25=>([(30,.bv x25)],[none,some ⟨54,[.iv 0,.iv 0,.nl,.iv 0,.nl]⟩,some ⟨278,[.iv x23.1,.iv x23.2.1,.osl 7,.iv x23.2.2.1,.osl 3,.osl 11]⟩],[Al x4,Ae x5,none,Ae x7.2,none,none,none,Al x23.2.2.2.1,none,none,none,AG x23.2.2.2.2])) (UY x7 x23) y1 ?_ fun J1=>?_
  ·intro x25 h;rw [UY] at h;refine MI h (fun h=>?_) fun h=>?_
   ·refine Vg 1 ?_;refine Vl [2,1] (fun _=>([(3,.osl 11),(4,.iv 0)],[none,some ⟨54,[.iv x23.1,.iv x23.2.1,.osl 7,.iv x23.2.2.1,.osl 3]⟩],[Al x4,Ae x5,none,Ae x7.2,none,none,none,Al x23.2.2.2.1,none,none,none,AG x23.2.2.2.2])) (UZ x7 x23) y1 ?_ fun J2=>?_
    ·rintro ⟨⟩ h;rw [UZ] at h;exact Wx
    ·exact Wx
   ·exact Wx
  ·exact Wx⟩
end
end NX
end Go.Proofs.YtgnjledocpbchaaGreat
