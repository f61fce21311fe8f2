/-
  The function narthex/H.1.Deliver: its code compiled, a model, and that the code answers as the model. Written by a program of ours (lb.py). No statement of the seat is proved here.
-/
import Derived.Test.YtjemlejoladlcaaGreatL27
set_option maxRecDepth 100000
set_option maxHeartbeats 40000000
namespace Go.Proofs.YtjemlejoladlcaaGreat
namespace NX
open Go
noncomputable section
def bQ:(List EV×Int×List NO×List ML)→Option (HL×List EV×Int)
| (x16,x17,x18,x19)=>some ((HL.mk x18 x19),x16,x17)
def Ng (x1:HL) (x2:Int) (x3:Int):Bool→Option (HL×List EV×Int)
| x7=>
 A0 x7 (
 some ((HL.mk (([]:List NO)) (([]:List ML))),([]:List EV),191)) (
 (Lp x1.ML ((fun z=>R0 z x2 x3))).bind fun x8=>
 A0 (decide (x8<0)) (
 some ((HL.mk (([]:List NO)) (([]:List ML))),([]:List EV),192)) (
 (A4 x1.ML x8).bind fun x9=>
 (Cj x1.ML 0 x8).bind fun x10=>
 (Cj x1.ML (wr (x8+1)) (ln ML.row x1.ML)).bind fun x11=>
 (Nh x1).bind fun x12=>
 (Lm ([x10,x11])).bind fun x14=>
 (Wf x12 x3 x2 x9.Msg x14).bind fun x15=>
 bQ (x15.1,x15.2.1,x15.2.2.1,x15.2.2.2)))
def Er (x1:HL) (x2:Int) (x3:Int):Option (HL×List EV×Int):=
 (Ii x1).bind fun x4=>
 A0 (!decide (x4=0)) (
 some ((HL.mk (([]:List NO)) (([]:List ML))),([]:List EV),x4)) (
 (Hp x1 x2).bind fun x5=>
 A0 (!x5) (
 (Ng x1 x2 x3) true) (
 (Hp x1 x3).bind fun x6=>
 (Ng x1 x2 x3) (!x6)))
theorem Vb {x1 x2 x3 r} (h:Er x1 x2 x3=some r):FPx 37 [.agg (HL.row x1),.iv x2,.iv x3] (.tup [.agg (HL.row r.1),Cz r.2.1,.iv r.2.2]):=by
 have ok:=oJ 37 Tryz.f37 [.c 6 (some 2),.t 7,.t 8] 3 59;refine FP ok fun w0 H0=>?_;rw [Er] at h;refine Vg 13 ?_;refine VB h Va fun _ _ h=>?_;refine Vg 7 ?_;refine MI h (fun h=>W) fun h=>?_;refine Vg 6 ?_;refine VB h Mj fun _ _ h=>?_;refine Vg 2 ?_;refine Vk [3,4] (fun x7=>[(27,.bv x7)]) (Ng x1 x2 x3) r ?_ fun J1=>?_
 ·intro x7 h;rw [Ng] at h;refine MI h (fun h=>W) fun h=>?_;refine Vg 6 ?_;refine VN ((LR.block 1 rfl rfl).block 2 rfl rfl) h (fun e=>iU e ⟨by kernel_rfl,rfl,fun z r hz=>uZ hz⟩) fun x8 _ h=>?_;refine Vg 8 ?_;refine MI h (fun h=>W) fun h=>?_;refine Vg 6 ?_;have ⟨x9,ex9,h⟩:=Bs h;refine AZ ML.row ex9 trivial rfl rfl rfl (Vg 6 ?_);refine Vl [6,1] (fun s=>([(7,Cz s.1),(8,.iv s.2.1)],[none,none,none,some ⟨31,[.osl 2,.osl 3]⟩],[none,none,EW s.2.2.1,Az s.2.2.2])) bQ r ?_ fun J2=>?_
  ·rintro ⟨x16,x17,x18,x19⟩ h;rw [bQ] at h;refine Ae 2 (Ds ?_);refine Ae 3 ?_;exact W
  ·refine Ai fun all H=>Ds (GP H 10 13 [1,1,4,1,4,3,1,8] [(42,[.agg (HL.row x1)]),(1,[.iv x3,.ptr 0 1,Cb x1.ML,.iv x8]),(1,[.ptr 0 1,Cb x1.ML,.iv x8,.iv (wr (x8+1))]),(3,[.clo 78 [.ptr 1 0,.ptr 4 0]])] (Ds ?_));have ⟨x10,ex10,h⟩:=Bs h;refine Zv H.1 H.2.1 H.2.2.1 H.2.2.2 6 ML.row ex10 rfl rfl trivial rfl rfl rfl rfl rfl (Ds ?_);have ⟨x11,ex11,h⟩:=Bs h;refine Zv H.1 H.2.1 H.2.2.1 H.2.2.2 11 ML.row ex11 rfl rfl trivial rfl rfl rfl rfl rfl (Ds ?_);have ⟨x12,ex12,h⟩:=Bs h;refine Ag 1 12 rfl ?_ ?_
   ·refine GC H.1 (aW ex12) (Ds ?_);refine A6 12 rfl (FR H.1 rfl trivial rfl trivial (Ds ?_));refine A6 13 rfl ?_;have ⟨x14,ex14,h⟩:=Bs h;refine AT H.1 rfl trivial (E7 ex14) (h:=?_);refine Gn H 1 7 ?_;refine RF [1,4] [1] 5 2 h nR fun x15 ex15 h=>?_;refine GP H 3 3 [20,3] [(59,[.agg [.osl 2,.osl 3],Cz x15.1,.iv x15.2.1])] (Ds ?_);refine R1 ?_;refine Gn H 2 0 ?_;refine GD ?_;exact W
   ·refine FR H.1 rfl trivial rfl trivial (Ds ?_);refine A6 1 rfl (GC H.1 (aW ex12) (Ds ?_));refine A6 13 rfl ?_;have ⟨x14,ex14,h⟩:=Bs h;refine AT H.1 rfl trivial (E7 ex14) (h:=?_);refine Gn H 1 7 ?_;refine RF [1,4] [1] 5 2 h nR fun x15 _ h=>?_;refine GP H 3 3 [20,3] [(59,[.agg [.osl 2,.osl 3],Cz x15.1,.iv x15.2.1])] (Ds ?_);refine R1 ?_;refine Gn H 2 0 ?_;refine GD ?_;exact W
 ·refine MC 22 h (fun h=>W) fun h=>?_;refine Vg 2 ?_;refine VB h Mj fun _ _ h=>?_;exact W
def Es:Bool→Option Bool
| x13=>some x13
def Hq:Option Bool:=
 (KM (Graph.mk 2 (([]:List Edge)))).bind fun x1=>
 (Ho x1.1 0 (Do.mk 4 0 1 0 (([]:List Int)))).bind fun x2=>
 (Er x2.1 0 1).bind fun x3=>
 (Er x3.1 1 0).bind fun x4=>
 (Er x4.1 1 0).bind fun x5=>
 (Jy x4.1).bind fun x6=>
 A0 (decide (x1.2=0)) (
 A0 (decide (x2.2.2=0)) (
 A0 (decide (x3.2.2=0)) (
 A0 (decide (x4.2.2=0)) (
 A0 (decide ((ln EV.row x3.2.1)=1)) (
 (A4 x3.2.1 0).bind fun x7=>
 A0 (decide (x7.KI=6)) (
 A0 (decide ((ln EV.row x4.2.1)=1)) (
 (A4 x4.2.1 0).bind fun x8=>
 A0 (decide (x8.KI=6)) (
 A0 (decide (x5.2.2=192)) (
 (Ii x4.1).bind fun x9=>
 A0 (decide (x9=0)) (
 (Jz x4.1 x4.1).bind fun x10=>
 A0 x10 (
 (Jz x2.1 x3.1).bind fun x11=>
 A0 (!x11) (
 A0 (decide ((ln DK.row x6.DS)=2)) (
 (A4 x6.DS 0).bind fun x12=>
 Es (decide ((ln SX.row x12.DI.SD)=1))) (
 Es false)) (
 Es false)) (
 Es false)) (
 Es false)) (
 Es false)) (
 Es false)) (
 Es false)) (
 Es false)) (
 Es false)) (
 Es false)) (
 Es false)) (
 Es false)) (
 Es false)
theorem Mn {r} (h:Hq=some r):FPx 8 [] (.bv r):=by
 have ok:=oJ 8 Tryz.f8 [.t 0] 0 122;refine FP ok fun w0 H0=>?_;rw [Hq] at h;refine Vg 7 ?_;refine VB h iC fun _ _ h=>?_;refine Vg 11 ?_;refine VB h iz fun _ _ h=>?_;refine Vg 12 ?_;refine VB h Vb fun _ _ h=>?_;refine Vg 12 ?_;refine VB h Vb fun _ _ h=>?_;refine Vg 12 ?_;refine VB h Vb fun _ _ h=>?_;refine Vg 12 ?_;refine VB h aV fun _ _ h=>?_;refine Vg 8 ?_;refine Vl [] (fun x13=>([(0,.bv x13)],[],[])) Es r ?_ fun J1=>?_
 ·intro x13 h;rw [Es] at h;exact W
 ·refine MC 50 h (fun h=>?_) fun h=>W;refine Vg 4 ?_;refine MC 54 h (fun h=>?_) fun h=>W;refine Vg 4 ?_;refine MC 58 h (fun h=>?_) fun h=>W;refine Vg 4 ?_;refine MC 62 h (fun h=>?_) fun h=>W;refine Vg 5 ?_;refine MC 67 h (fun h=>?_) fun h=>W;refine Vg 1 ?_;have ⟨x7,ex7,h⟩:=Bs h;refine AZ EV.row ex7 trivial rfl rfl rfl (Vg 5 ?_);refine MC 74 h (fun h=>?_) fun h=>W;refine Vg 5 ?_;refine MC 79 h (fun h=>?_) fun h=>W;refine Vg 1 ?_;have ⟨x8,ex8,h⟩:=Bs h;refine AZ EV.row ex8 trivial rfl rfl rfl (Vg 5 ?_);refine MC 86 h (fun h=>?_) fun h=>W;refine Vg 4 ?_;refine MC 90 h (fun h=>?_) fun h=>W;refine Vg 1 ?_;refine VB h Va fun _ _ h=>?_;refine Vg 3 ?_;refine MC 95 h (fun h=>?_) fun h=>W;refine Vg 2 ?_;refine VB h iD fun _ _ h=>?_;refine Vg 2 ?_;refine MC 100 h (fun h=>?_) fun h=>W;refine Vg 2 ?_;refine VB h iD fun _ _ h=>?_;exact W
def JA (x1:HL) (x2:narthexlaw19_Step):Option (HL×List EV×Int):=
 A0 x2.ML (
 (Er x1 x2.A x2.B).bind fun x3=>
 some (x3.1,x3.2.1,x3.2.2)) (
 (AI 8 (([]:List Int)) x2.Do.NE).bind fun x4=>
 (Ho x1 x2.A (Do.mk x2.Do.KI x2.Do.ID x2.Do.PE x2.Do.Hold x4)).bind fun x5=>
 some (x5.1,x5.2.1,x5.2.2))
theorem aX {x1 x2 r} (h:JA x1 x2=some r):FPx 40 [.agg (HL.row x1),.agg (narthexlaw19_Step.row x2)] (.tup [.agg (HL.row r.1),Cz r.2.1,.iv r.2.2]):=by
 have ok:=oJ 40 Tryz.f40 [.c 4 (some 2),.t 5,.t 6] 2 43;refine FP ok fun w0 H0=>?_;rw [JA] at h;refine Vg 14 ?_;refine MI h (fun h=>?_) fun h=>?_
 ·refine Vg 7 ?_;refine VB h Vb fun _ _ h=>?_;exact W
 ·refine Vg 7 ?_;have ⟨x4,ex4,h⟩:=Bs h;refine BP Ad ex4 trivial rfl rfl rfl (Vg 21 ?_);refine Ae 1 (Ds ?_);refine VB h iz fun _ _ h=>?_;exact W
@[go_sem] def rn:EC:=eQ Tryz.f10
theorem U0:FnOK Tryz.prog 10 Tryz.f10 rn [.c 6 (some 2),.t 7] 3 61:=B6
def bT:HL→Option (HL×Bool)
| x40=>some (x40,true)
def Np (x21:Int):HL→Option ((Int×HL) ⊕ (HL×Bool))
| x34=>some (.inl (wr (x21+1),x34))
def Nn (p2:((HL×List EV)→Option Bool)) (x21:Int) (x22:HL) (x28:List EV) (x29:Int) (x30:HL):Bool→Option ((Int×HL) ⊕ (HL×Bool))
| x32=>
 A0 x32 (
 Option.map Sum.inr (some (x22,false))) (
 A0 (decide (x29=0)) (
 (p2 (x30,x28)).bind fun x33=>
 A0 (!x33) (
 Option.map Sum.inr (some (x30,false))) (
 (Np x21) x30)) (
 (Np x21) x22))
def WE (p2:((HL×List EV)→Option Bool)) (x21:Int) (x22:HL):(List EV×Int×HL)→Option ((Int×HL) ⊕ (HL×Bool))
| (x28,x29,x30)=>
 A0 (!decide (x29=0)) (
 (Rq x29).bind fun x31=>
 (Nn p2 x21 x22 x28 x29 x30) (!x31)) (
 (Nn p2 x21 x22 x28 x29 x30) false)
def Rm (x2:List narthexlaw19_Step) (p2:((HL×List EV)→Option Bool)):(Int×HL)→Option ((Int×HL) ⊕ (HL×Bool))
| (x21,x22)=>
 A0 (decide (x21<(ln narthexlaw19_Step.row x2))) (
 (A4 x2 x21).bind fun x23=>
 (Rk x22).bind fun x24=>
 (JA x24 x23).bind fun x26=>
 (WE p2 x21 x22) (x26.2.1,x26.2.2,x26.1)) (
 Option.map Sum.inr (bT x22))
def Rl (x2:List narthexlaw19_Step) (p2:((HL×List EV)→Option Bool)) (x4:(HL×Int)):Bool→Option (HL×Bool)
| x6=>
 A0 x6 (
 some (x4.1,false)) (
 loop (Rm x2 p2) (0,x4.1))
def KU (x1:Graph) (x2:List narthexlaw19_Step) (p2:((HL×List EV)→Option Bool)):Option (HL×Bool):=
 (R8 x1).bind fun x3=>
 (KM x3).bind fun x4=>
 A0 (!decide (x4.2=0)) (
 (Rl x2 p2 x4) true) (
 (p2 (x4.1,([]:List EV))).bind fun x5=>
 (Rl x2 p2 x4) (!x5))
theorem aY {x1 x2 g2 caps2 p2 r} (h:KU x1 x2 p2=some r) (hc2:CloOK Tryz.prog g2 caps2 (fun z=>[.agg (HL.row z.1),Cz z.2]) p2 (fun z=>.bv z)):FPx 10 [.agg (Graph.row x1),Pq x2,.clo g2 caps2] (.tup [.agg (HL.row r.1),.bv r.2]):=by
 refine FP U0 fun w0 H0=>?_;rw [KU] at h;refine Vg 9 ?_;refine VB h v6 (fun _ _ h=>?_) (hp:=(by first | rfl | simp [go_sem,hc2.pu]));refine VB h iC (fun x4 _ h=>?_) (hp:=(by first | rfl | simp [go_sem,hc2.pu]));refine Vg 13 ?_;refine Vm [1,2,3,1,1,1] (fun x6=>([(27,.bv x6)],[],[(0,none)],[])) (Rl x2 p2 x4) r ?_ fun J1=>?_
 ·intro x6 h;rw [Rl] at h;refine MI h (fun h=>?_) fun h=>?_
  ·refine Vg 6 ?_;exact MD U0 h
  ·refine Vg 6 ?_;refine Vm [6,1,1,1] (fun x40=>([],[(2,0,IY x40.NS),(2,1,Cb x40.ML)],[],[])) bT r ?_ fun J2=>?_
   ·intro x40 h;rw [bT] at h;refine Vg 6 ?_;exact MD U0 h
   ·refine Vg 1 ?_;refine Mm h [1,2,3,1,1,1] (fun s=>([(10,.iv s.1)],[(2,0,IY s.2.NS),(2,1,Cb s.2.ML)],[],[])) ?_ (hok:=by rintro ⟨x21,x22⟩;first | rfl | (simp [go_sem];done) | simp [go_sem,Ax _ hc2.pu]);rintro n1 ⟨x21,x22⟩ y1 h hin1 hout1;rw [Rm] at h;refine Vg 8 ?_;refine MI h (fun h=>?_) fun h=>?_
    ·refine Vg 4 ?_;refine Vl [1,2,3,1,1,1,1,1] (fun s=>([(11,.ptr 3 0),(12,Cz s.1),(13,.iv s.2.1)],[none,some ⟨31,[.nl,.nl]⟩,some ⟨31,HL.row x22⟩,some ⟨31,[IY s.2.2.NS,Cb s.2.2.ML]⟩],[])) (WE p2 x21 x22) y1 ?_ fun J3=>?_
     ·rintro ⟨x28,x29,x30⟩ h;rw [WE] at h;refine Vg 6 ?_;refine Vk [1,2,3,1,1,1,1,4] (fun x32=>[(52,.bv x32)]) (Nn p2 x21 x22 x28 x29 x30) y1 ?_ fun J4=>?_
      ·intro x32 h;rw [Nn] at h;refine MI h (fun h=>?_) fun h=>?_
       ·refine Vg 6 ?_;exact MD U0 (BY h hout1)
       ·refine Vg 6 ?_;refine Vl [1,2,3,1,1,1,1,1] (fun x34=>([],[none,some ⟨31,[.nl,.nl]⟩,some ⟨31,HL.row x34⟩],[])) (Np x21) y1 ?_ fun J5=>?_
        ·intro x34 h;rw [Np] at h;refine Vg 6 ?_;exact Da h hin1 (hok:=by first | rfl | simp [go_sem,Ax _ hc2.pu])
        ·refine MI h (fun h=>?_) fun h=>?_
         ·refine Vg 10 ?_;have ⟨x33,ex33,h⟩:=Bs h;refine Dy trivial rfl hc2 (x:=(x30,x28)) ex33 (by first | exact Am _ | simp [go_sem]) (by first | rfl | simp [go_sem,hc2.pu]) (Vg 2 ?_);refine MI h (fun h=>?_) fun h=>?_
          ·refine Vg 6 ?_;exact MD U0 (BY h hout1)
          ·refine Vg 1 ?_;exact AQ J5 h (hok:=by first | rfl | simp [go_sem,Ax _ hc2.pu])
         ·refine Vg 1 ?_;exact AQ J5 h (hok:=by first | rfl | simp [go_sem,Ax _ hc2.pu])
      ·refine MC 48 h (fun h=>?_) fun h=>?_
       ·refine Vg 1 ?_;refine VB h vi (fun _ _ h=>?_) (hp:=(by first | rfl | simp [go_sem,hc2.pu]));refine Vg 3 ?_;exact AQ J4 h (hok:=by first | rfl | simp [go_sem,Ax _ hc2.pu])
       ·refine Vg 5 ?_;exact AQ J4 h (hok:=by first | rfl | simp [go_sem,Ax _ hc2.pu])
     ·refine Ai fun all H=>?_;refine Gn H 3 12 ?_;have ⟨x23,ex23,h⟩:=Bs h;refine Gj H.1 H.2.1 H.2.2.1 H.2.2.2 4 narthexlaw19_Step.row ex23 rfl rfl trivial rfl rfl rfl rfl (Gn H 1 10 ?_);have ⟨x24,ex24,h⟩:=Bs h;refine Ag 1 11 rfl ?_ ?_
      ·refine GC H.1 (iE ex24) (Ds ?_) (hp:=(by first | rfl | simp [go_sem,hc2.pu]));have ⟨x26,ex26,h⟩:=Bs h;refine Ag 6 11 rfl ?_ ?_
       ·refine GC H.1 (aX ex26) ?_ (hp:=(by first | rfl | simp [go_sem,hc2.pu]));refine Gn H 4 4 ?_;refine R1 ?_;refine R1 ?_;refine Gn H 2 0 ?_;refine GD ?_;exact AQ J3 h (hok:=by first | rfl | simp [go_sem,Ax _ hc2.pu])
       ·refine RV ?_;refine A6 6 rfl (GC H.1 (aX ex26) ?_ (hp:=(by first | rfl | simp [go_sem,hc2.pu])));refine Gn H 4 3 ?_;refine R1 ?_;refine Gn H 2 0 ?_;refine GD ?_;exact AQ J3 h (hok:=by first | rfl | simp [go_sem,Ax _ hc2.pu])
      ·refine RV ?_;refine A6 1 rfl (GC H.1 (iE ex24) (Ds ?_) (hp:=(by first | rfl | simp [go_sem,hc2.pu])));refine A6 6 rfl (GB H.1 h aX (fun _ _ h=>?_) (hp:=(by first | rfl | simp [go_sem,hc2.pu])));refine Gn H 4 3 ?_;refine R1 ?_;refine Gn H 2 0 ?_;refine GD ?_;exact AQ J3 h (hok:=by first | rfl | simp [go_sem,Ax _ hc2.pu])
    ·refine Vg 1 ?_;exact AQ J2 (BY h hout1) (hok:=by first | rfl | simp [go_sem,Ax _ hc2.pu])
 ·refine MC 22 h (fun h=>?_) fun h=>?_
  ·refine Vg 6 ?_;exact AQ J1 h (hok:=by first | rfl | simp [go_sem,Ax _ hc2.pu])
  ·refine Vg 2 ?_;have ⟨x5,ex5,h⟩:=Bs h;refine Dy trivial rfl hc2 (x:=(x4.1,([]:List EV))) ex5 (by first | exact Am _ | simp [go_sem]) (by first | rfl | simp [go_sem,hc2.pu]) (Vg 3 ?_);exact AQ J1 h (hok:=by first | rfl | simp [go_sem,Ax _ hc2.pu])
end
end NX
end Go.Proofs.YtjemlejoladlcaaGreat
