/-
  The function narthex/H.1.own: its code compiled, a model, and that the code answers as the model. Written by a program of ours (lb.py). No statement of the seat is proved here.
-/
import Derived.Test.YtgamgemlekpepaaGreatH17
set_option maxRecDepth 100000
set_option maxHeartbeats 4000000
namespace Go.Proofs.YtgamgemlekpepaaGreat
namespace NX
open Go
noncomputable section
@[go_sem] def e37:EC:=eQ Tryz.f37
def Zzv (x6:List Mail):List Node→Option Hall
| x90=>some (Hall.mk x90 x6)
def Z0w (x45:Int) (x58:List Node) (x59:Node):List Sess→Option ((Int×List Node) ⊕ Hall)
| x83=>some (.inl (wr (x45+1),x58.set (Int.toNat (x45)) (Node.mk x59.DK (Book.mk x59.Book.Last x83) x59.KN x59.Told x59.AK)))
def Z1w (x67:Int):List Sess→Option ((Int×List Sess) ⊕ ((Int×List Node) ⊕ Hall))
| x72=>some (.inl (wr (x67+1),x72))
def Z2w (x45:Int) (x58:List Node) (x59:Node) (x60:List Sess):(Int×List Sess)→Option ((Int×List Sess) ⊕ ((Int×List Node) ⊕ Hall))
| (x67,x68)=>
 ifb (decide (x67<(ln Sess.row x60))) (
 (at_ x68 x67).bind fun x69=>
 (Z0l x69.Need).bind fun x70=>
 (Z1w x67) (x68.set (Int.toNat (x67)) (Sess.mk x69.ID x70 x69.State x69.Age))) (
 Option.map Sum.inr ((Z0w x45 x58 x59) x68))
def Z3w (x45:Int):List Node→Option ((Int×List Node) ⊕ Hall)
| x58=>
 (at_ x58 x45).bind fun x59=>
 (Zfl x59.Book.Sess).bind fun x60=>
 loop (Z2w x45 x58 x59 x60) (0,x60)
def Z4w (x45:Int):List Node→Option ((Int×List Node) ⊕ Hall)
| x51=>
 (at_ x51 x45).bind fun x52=>
 (Zpm x52.KN).bind fun x53=>
 (Z0l x52.Told).bind fun x55=>
 (Zpm x52.AK).bind fun x57=>
 (Z3w x45) (x51.set (Int.toNat (x45)) (Node.mk x52.DK x52.Book x53 x55 x57))
def Z5w (x6:List Mail) (x7:List Node):(Int×List Node)→Option ((Int×List Node) ⊕ Hall)
| (x45,x46)=>
 ifb (decide (x45<(ln Node.row x7))) (
 (at_ x46 x45).bind fun x47=>
 (Zbm x47.DK.DI.SD).bind fun x48=>
 (Z0l x47.DK.Need).bind fun x50=>
 (Z4w x45) (x46.set (Int.toNat (x45)) (Node.mk (DK.mk (DI.mk x47.DK.DI.ID x47.DK.DI.PH x48) x47.DK.TH x50) x47.Book x47.KN x47.Told x47.AK))) (
 Option.map Sum.inr ((Zzv x6) x46))
def Z6w:(List Mail×List Node)→Option Hall
| (x6,x7)=>loop (Z5w x6 x7) (0,x7)
def Z7w (x1:Hall):Option Hall:=
 (Z1r x1.Mail).bind fun x2=>
 (Zzq x1.Nodes).bind fun x4=>
 Z6w (x2,x4)
theorem Z8w {x1 r} (h:Z7w x1=some r):Zy6 Tryz.prog 37 [.agg (Hall.row x1)] (.agg (Hall.row r)):=by
 have ok:=oK 37 Tryz.f37 e37 [.c 2 (some 2)] 1 109;refine FP ok fun w0 H0=>?_;rw [Z7w] at h;refine Vg 6 ?_;refine Vl [2,1] (fun s=>([(3,.ptr 2 0)],[none,some ⟨29,[.nl,.nl]⟩,some ⟨29,[.osl 1,.osl 0]⟩],[Sq6 s.1,Sq0 s.2])) Z6w r ?_ fun J1=>?_
 ·rintro ⟨x6,x7⟩ h;rw [Z6w] at h;(try dsimp only);refine Vg 8 ?_;refine Vm [2,2] (fun x90=>([],[],[],[(1,Sq0 x90)])) (Zzv x6) r ?_ fun J2=>?_
  ·intro x90 h;rw [Zzv] at h;(try dsimp only);refine Vg 5 ?_;refine Zhj 1 (Ds ?_);refine Zhj 0 ?_;exact W
  ·refine Vg 1 ?_;refine Mm h [2,2,12,1] (fun s=>([(17,.iv s.1)],[],[],[(1,Sq0 s.2)])) ?_;rintro n1 ⟨x45,x46⟩ y1 h hin1 hout1;rw [Z5w] at h;(try dsimp only);refine Vg 5 ?_;refine MI h (fun h=>?_) fun h=>?_
   ·refine Vg 13 ?_;have ⟨x47,ex47,h⟩:=Bs h;refine Zde Node.row ex47 trivial rfl rfl rfl (Vg 3 ?_);refine Vm [2,2,1,1,10,2] (fun x51=>([],[],[],[(1,Sq0 x51)])) (Z4w x45) y1 ?_ fun J3=>?_
    ·intro x51 h;rw [Z4w] at h;(try dsimp only);refine Vg 1 ?_;refine Vm [2,2,1,1,10,2] (fun x58=>([],[],[],[(1,Sq0 x58)])) (Z3w x45) y1 ?_ fun J4=>?_
     ·intro x58 h;rw [Z3w] at h;(try dsimp only);refine Vg 7 ?_;have ⟨x59,ex59,h⟩:=Bs h;refine Zke Node.row ex59 trivial rfl rfl rfl ?_;have ⟨x60,ex60,h⟩:=Bs h;refine Ztd trivial (Zgl ex60) (h:=?_);refine Vg 3 ?_;refine Zhh Node.row ex59 trivial rfl rfl rfl rfl (Vg 7 ?_);refine Zih Node.row ex59 trivial rfl rfl rfl (Vg 3 ?_);refine Vm [2,2,12,2] (fun x83=>([],[],[],[(2,Zuj x83)])) (Z0w x45 x58 x59) y1 ?_ fun J5=>?_
      ·intro x83 h;rw [Z0w] at h;(try dsimp only);refine Vg 5 ?_;refine Zeh 1 2 (f:=Node.row) (Node.mk x59.DK (Book.mk x59.Book.Last x83) x59.KN x59.Told x59.AK) ex59 rfl rfl rfl rfl rfl ?_;exact W
      ·refine Vg 1 ?_;refine Mm h [2,2,1,1,10,2,67,1] (fun s=>([(86,.iv s.1)],[],[],[(2,Zuj s.2)])) ?_;rintro n2 ⟨x67,x68⟩ y2 h hin2 hout2;rw [Z2w] at h;(try dsimp only);refine Vg 5 ?_;refine MI h (fun h=>?_) fun h=>?_
       ·refine Vg 8 ?_;refine Vm [2,2,1,1,10,2,67,2] (fun x72=>([],[],[],[(2,Zuj x72)])) (Z1w x67) y2 ?_ fun J6=>?_
        ·intro x72 h;rw [Z1w] at h;exact W
        ·refine Zej fun all H=>Ds (GP H 10 9 [4,1,5,1,1,7] [(89,[.oel 1 (Int.toNat (x45)*10) 0,.oel 1 (Int.toNat (x45)*10) 0,.oel 1 (Int.toNat (x45)*10) 5,.oel 1 (Int.toNat (x45)*10) 6]),(1,[.iv x67,.oel 1 (Int.toNat (x45)*10) 0,.oel 1 (Int.toNat (x45)*10) 0,.oel 1 (Int.toNat (x45)*10) 5,.oel 1 (Int.toNat (x45)*10) 6]),(1,[.iv x67])] (Ds ?_));refine Zna 4 10 rfl ?_ ?_
         ·refine Zjh H.1 Node.row ex59 rfl trivial rfl rfl rfl (Ds ?_);refine Zma 10 rfl (Zjh H.1 Node.row ex59 rfl trivial rfl rfl rfl (Ds ?_));have ⟨x69,ex69,h⟩:=Bs h;refine RO ?_;refine RI ?_;refine Gn H 1 5 ?_;refine RO ?_;refine RL ?_;refine Zma 15 rfl (GB H.1 h Z2l fun x70 ex70 h=>?_);refine Ds ?_;refine RO ?_;refine RI ?_;refine Gn H 1 1 ?_;refine Zma 18 rfl (Zuf H.1 [Sp1 x70] Sess.row (y':=(Sess.mk x69.ID x70 x69.State x69.Age)) ex69 rfl trivial rfl rfl rfl (by first | exact Zqb _ | simp [go_sem]) rfl rfl rfl rfl (Ds ?_));refine GD ?_;exact W
         ·refine Zjh H.1 Node.row ex59 rfl trivial rfl rfl rfl (Ds ?_);have ⟨x69,ex69,h⟩:=Bs h;refine Zna 4 12 rfl ?_ ?_
          ·refine Zjh H.1 Node.row ex59 rfl trivial rfl rfl rfl (Ds ?_);refine RO ?_;refine RI ?_;refine Gn H 1 5 ?_;refine RO ?_;refine RL ?_;refine Zma 15 rfl (GB H.1 h Z2l fun x70 ex70 h=>?_);refine Ds ?_;refine Zma 16 rfl (RI ?_);refine Gn H 1 1 ?_;refine Zma 18 rfl (Zuf H.1 [Sp1 x70] Sess.row (y':=(Sess.mk x69.ID x70 x69.State x69.Age)) ex69 rfl trivial rfl rfl rfl (by first | exact Zqb _ | simp [go_sem]) rfl rfl rfl rfl (Ds ?_));refine GD ?_;exact W
          ·refine RI ?_;refine Gn H 1 6 ?_;refine Zna 4 14 rfl ?_ ?_
           ·refine Zjh H.1 Node.row ex59 rfl trivial rfl rfl rfl (Ds ?_);refine RO ?_;refine RL ?_;refine Zma 15 rfl (GB H.1 h Z2l fun x70 ex70 h=>?_);refine Ds ?_;refine RO ?_;refine RI ?_;refine Gn H 1 1 ?_;refine Zma 18 rfl (Zuf H.1 [Sp1 x70] Sess.row (y':=(Sess.mk x69.ID x70 x69.State x69.Age)) ex69 rfl trivial rfl rfl rfl (by first | exact Zqb _ | simp [go_sem]) rfl rfl rfl rfl (Ds ?_));refine GD ?_;exact W
           ·refine RL ?_;have ⟨x70,ex70,h⟩:=Bs h;refine Zna 4 15 rfl ?_ ?_
            ·refine Zjh H.1 Node.row ex59 rfl trivial rfl rfl rfl (Ds ?_);refine Zma 15 rfl (GC H.1 (Z2l ex70) (Ds ?_));refine RO ?_;refine RI ?_;refine Gn H 1 1 ?_;refine Zma 18 rfl (Zuf H.1 [Sp1 x70] Sess.row (y':=(Sess.mk x69.ID x70 x69.State x69.Age)) ex69 rfl trivial rfl rfl rfl (by first | exact Zqb _ | simp [go_sem]) rfl rfl rfl rfl (Ds ?_));refine GD ?_;exact W
            ·refine GC H.1 (Z2l ex70) (Ds ?_);refine Zma 4 rfl (Zjh H.1 Node.row ex59 rfl trivial rfl rfl rfl (Ds ?_));refine RO ?_;refine RI ?_;refine Gn H 1 1 ?_;refine Zma 18 rfl (Zuf H.1 [Sp1 x70] Sess.row (y':=(Sess.mk x69.ID x70 x69.State x69.Age)) ex69 rfl trivial rfl rfl rfl (by first | exact Zqb _ | simp [go_sem]) rfl rfl rfl rfl (Ds ?_));refine GD ?_;exact W
       ·exact W
     ·refine Zej fun all H=>Ds (GP H 12 15 [6,2,3,2,3,11] [(46,[.oel 1 (Int.toNat (x45)*10) 0,.oel 1 (Int.toNat (x45)*10) 0,.oel 1 (Int.toNat (x45)*10) 0,.oel 1 (Int.toNat (x45)*10) 0,.oel 1 (Int.toNat (x45)*10) 0,.oel 1 (Int.toNat (x45)*10) 7]),(2,[.oel 1 (Int.toNat (x45)*10) 0,.oel 1 (Int.toNat (x45)*10) 0,.oel 1 (Int.toNat (x45)*10) 8]),(2,[.oel 1 (Int.toNat (x45)*10) 0,.oel 1 (Int.toNat (x45)*10) 0,.oel 1 (Int.toNat (x45)*10) 9])] (Ds ?_));have ⟨x52,ex52,h⟩:=Bs h;refine Zoa 6 11 16 rfl ?_ ?_ ?_
      ·refine RL ?_;have ⟨x53,ex53,h⟩:=Bs h;refine Zoa 7 11 16 rfl ?_ ?_ ?_
       ·refine GC H.1 (Zrm ex53) (Ds ?_);refine Zna 11 16 rfl ?_ ?_
        ·refine RL ?_;have ⟨x55,ex55,h⟩:=Bs h;refine Zna 12 16 rfl ?_ ?_
         ·refine GC H.1 (Z2l ex55) (Ds ?_);refine RO ?_;refine RL ?_;refine Zma 17 rfl (GB H.1 h Zrm fun x57 ex57 h=>?_);refine Gn H 2 7 ?_;refine Zma 20 rfl (Zuf H.1 [Sp2 x53] Node.row (y':=(Node.mk x52.DK x52.Book x53 x52.Told x52.AK)) ex52 rfl trivial rfl rfl rfl (by first | exact Zqb _ | simp [go_sem]) rfl rfl rfl rfl ?_);refine Gn H 2 4 ?_;refine Zma 23 rfl (Zvf H.1 [Sp1 x55] Node.row (y':=(Node.mk x52.DK x52.Book x53 x55 x52.AK)) (Zee ex52) rfl trivial rfl rfl rfl (by first | exact Zqb _ | simp [go_sem]) rfl rfl rfl rfl (Ds ?_));refine Gn H 2 1 ?_;refine Zma 26 rfl (Zvf H.1 [Sp2 x57] Node.row (y':=(Node.mk x52.DK x52.Book x53 x55 x57)) (Zee ex52) rfl trivial rfl rfl rfl (by first | exact Zqb _ | simp [go_sem]) rfl rfl rfl rfl (Ds ?_));refine GD ?_;exact W
         ·refine RL ?_;refine Zma 12 rfl (GC H.1 (Z2l ex55) (Ds ?_));refine Zma 17 rfl (GB H.1 h Zrm fun x57 ex57 h=>?_);refine Gn H 2 7 ?_;refine Zma 20 rfl (Zuf H.1 [Sp2 x53] Node.row (y':=(Node.mk x52.DK x52.Book x53 x52.Told x52.AK)) ex52 rfl trivial rfl rfl rfl (by first | exact Zqb _ | simp [go_sem]) rfl rfl rfl rfl ?_);refine Gn H 2 4 ?_;refine Zma 23 rfl (Zvf H.1 [Sp1 x55] Node.row (y':=(Node.mk x52.DK x52.Book x53 x55 x52.AK)) (Zee ex52) rfl trivial rfl rfl rfl (by first | exact Zqb _ | simp [go_sem]) rfl rfl rfl rfl (Ds ?_));refine Gn H 2 1 ?_;refine Zma 26 rfl (Zvf H.1 [Sp2 x57] Node.row (y':=(Node.mk x52.DK x52.Book x53 x55 x57)) (Zee ex52) rfl trivial rfl rfl rfl (by first | exact Zqb _ | simp [go_sem]) rfl rfl rfl rfl (Ds ?_));refine GD ?_;exact W
        ·refine RL ?_;refine RO ?_;refine RL ?_;refine Zma 12 rfl (GB H.1 h Z2l fun x55 ex55 h=>?_);refine Ds ?_;refine Zma 17 rfl (GB H.1 h Zrm fun x56 ex56 h=>?_);refine Gn H 2 7 ?_;refine Zma 20 rfl (Zuf H.1 [Sp2 x53] Node.row (y':=(Node.mk x52.DK x52.Book x53 x52.Told x52.AK)) ex52 rfl trivial rfl rfl rfl (by first | exact Zqb _ | simp [go_sem]) rfl rfl rfl rfl ?_);refine Gn H 2 4 ?_;refine Zma 23 rfl (Zvf H.1 [Sp1 x55] Node.row (y':=(Node.mk x52.DK x52.Book x53 x55 x52.AK)) (Zee ex52) rfl trivial rfl rfl rfl (by first | exact Zqb _ | simp [go_sem]) rfl rfl rfl rfl (Ds ?_));refine Gn H 2 1 ?_;refine Zma 26 rfl (Zvf H.1 [Sp2 x56] Node.row (y':=(Node.mk x52.DK x52.Book x53 x55 x56)) (Zee ex52) rfl trivial rfl rfl rfl (by first | exact Zqb _ | simp [go_sem]) rfl rfl rfl rfl (Ds ?_));refine GD ?_;exact W
       ·refine RL ?_;refine Zna 7 16 rfl ?_ ?_
        ·refine GC H.1 (Zrm ex53) (Ds ?_);have ⟨x55,ex55,h⟩:=Bs h;refine Zna 12 16 rfl ?_ ?_
         ·refine GC H.1 (Z2l ex55) (Ds ?_);refine RO ?_;refine RL ?_;refine Zma 17 rfl (GB H.1 h Zrm fun x57 ex57 h=>?_);refine Gn H 2 7 ?_;refine Zma 20 rfl (Zuf H.1 [Sp2 x53] Node.row (y':=(Node.mk x52.DK x52.Book x53 x52.Told x52.AK)) ex52 rfl trivial rfl rfl rfl (by first | exact Zqb _ | simp [go_sem]) rfl rfl rfl rfl ?_);refine Gn H 2 4 ?_;refine Zma 23 rfl (Zvf H.1 [Sp1 x55] Node.row (y':=(Node.mk x52.DK x52.Book x53 x55 x52.AK)) (Zee ex52) rfl trivial rfl rfl rfl (by first | exact Zqb _ | simp [go_sem]) rfl rfl rfl rfl (Ds ?_));refine Gn H 2 1 ?_;refine Zma 26 rfl (Zvf H.1 [Sp2 x57] Node.row (y':=(Node.mk x52.DK x52.Book x53 x55 x57)) (Zee ex52) rfl trivial rfl rfl rfl (by first | exact Zqb _ | simp [go_sem]) rfl rfl rfl rfl (Ds ?_));refine GD ?_;exact W
         ·refine RL ?_;refine Zma 12 rfl (GC H.1 (Z2l ex55) (Ds ?_));refine Zma 17 rfl (GB H.1 h Zrm fun x57 ex57 h=>?_);refine Gn H 2 7 ?_;refine Zma 20 rfl (Zuf H.1 [Sp2 x53] Node.row (y':=(Node.mk x52.DK x52.Book x53 x52.Told x52.AK)) ex52 rfl trivial rfl rfl rfl (by first | exact Zqb _ | simp [go_sem]) rfl rfl rfl rfl ?_);refine Gn H 2 4 ?_;refine Zma 23 rfl (Zvf H.1 [Sp1 x55] Node.row (y':=(Node.mk x52.DK x52.Book x53 x55 x52.AK)) (Zee ex52) rfl trivial rfl rfl rfl (by first | exact Zqb _ | simp [go_sem]) rfl rfl rfl rfl (Ds ?_));refine Gn H 2 1 ?_;refine Zma 26 rfl (Zvf H.1 [Sp2 x57] Node.row (y':=(Node.mk x52.DK x52.Book x53 x55 x57)) (Zee ex52) rfl trivial rfl rfl rfl (by first | exact Zqb _ | simp [go_sem]) rfl rfl rfl rfl (Ds ?_));refine GD ?_;exact W
        ·refine RL ?_;refine Zma 7 rfl (GC H.1 (Zrm ex53) (Ds ?_));refine Zma 12 rfl (GB H.1 h Z2l fun x55 ex55 h=>?_);refine Ds ?_;refine Zma 17 rfl (GB H.1 h Zrm fun x56 ex56 h=>?_);refine Ds ?_;refine GN H 2 7 (Ds ?_);refine An (Zma 20 rfl (Zuf H.1 [Sp2 x53] Node.row (y':=(Node.mk x52.DK x52.Book x53 x52.Told x52.AK)) ex52 rfl trivial rfl rfl rfl (by first | exact Zqb _ | simp [go_sem]) rfl rfl rfl rfl ?_));refine Gn H 2 4 ?_;refine Zma 23 rfl (Zvf H.1 [Sp1 x55] Node.row (y':=(Node.mk x52.DK x52.Book x53 x55 x52.AK)) (Zee ex52) rfl trivial rfl rfl rfl (by first | exact Zqb _ | simp [go_sem]) rfl rfl rfl rfl ?_);refine Gn H 2 1 ?_;refine Zma 26 rfl (Zvf H.1 [Sp2 x56] Node.row (y':=(Node.mk x52.DK x52.Book x53 x55 x56)) (Zee ex52) rfl trivial rfl rfl rfl (by first | exact Zqb _ | simp [go_sem]) rfl rfl rfl rfl (Ds ?_));refine GD ?_;exact W
       ·refine RL ?_;refine Zna 7 11 rfl ?_ ?_
        ·refine GC H.1 (Zrm ex53) (Ds ?_);refine RO ?_;refine RL ?_;refine Zma 12 rfl (GB H.1 h Z2l fun x55 ex55 h=>?_);refine Ds ?_;refine Zma 17 rfl (GB H.1 h Zrm fun x56 ex56 h=>?_);refine Ds ?_;refine GN H 2 7 (Ds ?_);refine An (Zma 20 rfl (Zuf H.1 [Sp2 x53] Node.row (y':=(Node.mk x52.DK x52.Book x53 x52.Told x52.AK)) ex52 rfl trivial rfl rfl rfl (by first | exact Zqb _ | simp [go_sem]) rfl rfl rfl rfl ?_));refine Gn H 2 4 ?_;refine Zma 23 rfl (Zvf H.1 [Sp1 x55] Node.row (y':=(Node.mk x52.DK x52.Book x53 x55 x52.AK)) (Zee ex52) rfl trivial rfl rfl rfl (by first | exact Zqb _ | simp [go_sem]) rfl rfl rfl rfl ?_);refine Gn H 2 1 ?_;refine Zma 26 rfl (Zvf H.1 [Sp2 x56] Node.row (y':=(Node.mk x52.DK x52.Book x53 x55 x56)) (Zee ex52) rfl trivial rfl rfl rfl (by first | exact Zqb _ | simp [go_sem]) rfl rfl rfl rfl (Ds ?_));refine GD ?_;exact W
        ·refine RL ?_;refine Zma 7 rfl (GC H.1 (Zrm ex53) (Ds ?_));refine Zma 12 rfl (GB H.1 h Z2l fun x55 ex55 h=>?_);refine Ds ?_;refine Zma 17 rfl (GB H.1 h Zrm fun x56 ex56 h=>?_);refine Ds ?_;refine GN H 2 7 (Ds ?_);refine An (Zma 20 rfl (Zuf H.1 [Sp2 x53] Node.row (y':=(Node.mk x52.DK x52.Book x53 x52.Told x52.AK)) ex52 rfl trivial rfl rfl rfl (by first | exact Zqb _ | simp [go_sem]) rfl rfl rfl rfl ?_));refine Gn H 2 4 ?_;refine Zma 23 rfl (Zvf H.1 [Sp1 x55] Node.row (y':=(Node.mk x52.DK x52.Book x53 x55 x52.AK)) (Zee ex52) rfl trivial rfl rfl rfl (by first | exact Zqb _ | simp [go_sem]) rfl rfl rfl rfl ?_);refine Gn H 2 1 ?_;refine Zma 26 rfl (Zvf H.1 [Sp2 x56] Node.row (y':=(Node.mk x52.DK x52.Book x53 x55 x56)) (Zee ex52) rfl trivial rfl rfl rfl (by first | exact Zqb _ | simp [go_sem]) rfl rfl rfl rfl (Ds ?_));refine GD ?_;exact W
      ·refine RL ?_;refine Zna 6 16 rfl ?_ ?_
       ·refine RL ?_;have ⟨x53,ex53,h⟩:=Bs h;refine Zna 7 16 rfl ?_ ?_
        ·refine GC H.1 (Zrm ex53) (Ds ?_);have ⟨x55,ex55,h⟩:=Bs h;refine Zna 12 16 rfl ?_ ?_
         ·refine GC H.1 (Z2l ex55) (Ds ?_);refine RO ?_;refine RL ?_;refine Zma 17 rfl (GB H.1 h Zrm fun x57 ex57 h=>?_);refine Gn H 2 7 ?_;refine Zma 20 rfl (Zuf H.1 [Sp2 x53] Node.row (y':=(Node.mk x52.DK x52.Book x53 x52.Told x52.AK)) ex52 rfl trivial rfl rfl rfl (by first | exact Zqb _ | simp [go_sem]) rfl rfl rfl rfl ?_);refine Gn H 2 4 ?_;refine Zma 23 rfl (Zvf H.1 [Sp1 x55] Node.row (y':=(Node.mk x52.DK x52.Book x53 x55 x52.AK)) (Zee ex52) rfl trivial rfl rfl rfl (by first | exact Zqb _ | simp [go_sem]) rfl rfl rfl rfl (Ds ?_));refine Gn H 2 1 ?_;refine Zma 26 rfl (Zvf H.1 [Sp2 x57] Node.row (y':=(Node.mk x52.DK x52.Book x53 x55 x57)) (Zee ex52) rfl trivial rfl rfl rfl (by first | exact Zqb _ | simp [go_sem]) rfl rfl rfl rfl (Ds ?_));refine GD ?_;exact W
         ·refine RL ?_;refine Zma 12 rfl (GC H.1 (Z2l ex55) (Ds ?_));refine Zma 17 rfl (GB H.1 h Zrm fun x57 _ h=>?_);refine Gn H 2 7 ?_;refine Zma 20 rfl (Zuf H.1 [Sp2 x53] Node.row (y':=(Node.mk x52.DK x52.Book x53 x52.Told x52.AK)) ex52 rfl trivial rfl rfl rfl (by first | exact Zqb _ | simp [go_sem]) rfl rfl rfl rfl ?_);refine Gn H 2 4 ?_;refine Zma 23 rfl (Zvf H.1 [Sp1 x55] Node.row (y':=(Node.mk x52.DK x52.Book x53 x55 x52.AK)) (Zee ex52) rfl trivial rfl rfl rfl (by first | exact Zqb _ | simp [go_sem]) rfl rfl rfl rfl (Ds ?_));refine Gn H 2 1 ?_;refine Zma 26 rfl (Zvf H.1 [Sp2 x57] Node.row (y':=(Node.mk x52.DK x52.Book x53 x55 x57)) (Zee ex52) rfl trivial rfl rfl rfl (by first | exact Zqb _ | simp [go_sem]) rfl rfl rfl rfl (Ds ?_));refine GD ?_;exact W
        ·refine RL ?_;refine Zma 7 rfl (GC H.1 (Zrm ex53) (Ds ?_));refine Zma 12 rfl (GB H.1 h Z2l fun x55 ex55 h=>?_);refine Ds ?_;refine Zma 17 rfl (GB H.1 h Zrm fun x56 ex56 h=>?_);refine Ds ?_;refine GN H 2 7 (Ds ?_);refine An (Zma 20 rfl (Zuf H.1 [Sp2 x53] Node.row (y':=(Node.mk x52.DK x52.Book x53 x52.Told x52.AK)) ex52 rfl trivial rfl rfl rfl (by first | exact Zqb _ | simp [go_sem]) rfl rfl rfl rfl ?_));refine Gn H 2 4 ?_;refine Zma 23 rfl (Zvf H.1 [Sp1 x55] Node.row (y':=(Node.mk x52.DK x52.Book x53 x55 x52.AK)) (Zee ex52) rfl trivial rfl rfl rfl (by first | exact Zqb _ | simp [go_sem]) rfl rfl rfl rfl ?_);refine Gn H 2 1 ?_;refine Zma 26 rfl (Zvf H.1 [Sp2 x56] Node.row (y':=(Node.mk x52.DK x52.Book x53 x55 x56)) (Zee ex52) rfl trivial rfl rfl rfl (by first | exact Zqb _ | simp [go_sem]) rfl rfl rfl rfl (Ds ?_));refine GD ?_;exact W
       ·refine RL ?_;refine RO ?_;refine RL ?_;refine Zma 7 rfl (GB H.1 h Zrm fun x53 ex53 h=>?_);refine Ds ?_;refine Zma 12 rfl (GB H.1 h Z2l fun x54 ex54 h=>?_);refine Ds ?_;refine Zma 17 rfl (GB H.1 h Zrm fun x55 ex55 h=>?_);refine Gn H 2 7 ?_;refine Zma 20 rfl (Zuf H.1 [Sp2 x53] Node.row (y':=(Node.mk x52.DK x52.Book x53 x52.Told x52.AK)) ex52 rfl trivial rfl rfl rfl (by first | exact Zqb _ | simp [go_sem]) rfl rfl rfl rfl ?_);refine Gn H 2 4 ?_;refine Zma 23 rfl (Zvf H.1 [Sp1 x54] Node.row (y':=(Node.mk x52.DK x52.Book x53 x54 x52.AK)) (Zee ex52) rfl trivial rfl rfl rfl (by first | exact Zqb _ | simp [go_sem]) rfl rfl rfl rfl ?_);refine Gn H 2 1 ?_;refine Zma 26 rfl (Zvf H.1 [Sp2 x55] Node.row (y':=(Node.mk x52.DK x52.Book x53 x54 x55)) (Zee ex52) rfl trivial rfl rfl rfl (by first | exact Zqb _ | simp [go_sem]) rfl rfl rfl rfl (Ds ?_));refine GD ?_;exact W
      ·refine RL ?_;refine Zna 6 11 rfl ?_ ?_
       ·refine RL ?_;have ⟨x53,ex53,h⟩:=Bs h;refine Zna 7 11 rfl ?_ ?_
        ·refine GC H.1 (Zrm ex53) (Ds ?_);refine RO ?_;refine RL ?_;refine Zma 12 rfl (GB H.1 h Z2l fun x55 ex55 h=>?_);refine Ds ?_;refine Zma 17 rfl (GB H.1 h Zrm fun x56 ex56 h=>?_);refine Ds ?_;refine GN H 2 7 (Ds ?_);refine An (Zma 20 rfl (Zuf H.1 [Sp2 x53] Node.row (y':=(Node.mk x52.DK x52.Book x53 x52.Told x52.AK)) ex52 rfl trivial rfl rfl rfl (by first | exact Zqb _ | simp [go_sem]) rfl rfl rfl rfl ?_));refine Gn H 2 4 ?_;refine Zma 23 rfl (Zvf H.1 [Sp1 x55] Node.row (y':=(Node.mk x52.DK x52.Book x53 x55 x52.AK)) (Zee ex52) rfl trivial rfl rfl rfl (by first | exact Zqb _ | simp [go_sem]) rfl rfl rfl rfl ?_);refine Gn H 2 1 ?_;refine Zma 26 rfl (Zvf H.1 [Sp2 x56] Node.row (y':=(Node.mk x52.DK x52.Book x53 x55 x56)) (Zee ex52) rfl trivial rfl rfl rfl (by first | exact Zqb _ | simp [go_sem]) rfl rfl rfl rfl (Ds ?_));refine GD ?_;exact W
        ·refine RL ?_;refine Zma 7 rfl (GC H.1 (Zrm ex53) (Ds ?_));refine Zma 12 rfl (GB H.1 h Z2l fun x55 ex55 h=>?_);refine Ds ?_;refine Zma 17 rfl (GB H.1 h Zrm fun x56 _ h=>?_);refine Ds ?_;refine GN H 2 7 (Ds ?_);refine An (Zma 20 rfl (Zuf H.1 [Sp2 x53] Node.row (y':=(Node.mk x52.DK x52.Book x53 x52.Told x52.AK)) ex52 rfl trivial rfl rfl rfl (by first | exact Zqb _ | simp [go_sem]) rfl rfl rfl rfl ?_));refine Gn H 2 4 ?_;refine Zma 23 rfl (Zvf H.1 [Sp1 x55] Node.row (y':=(Node.mk x52.DK x52.Book x53 x55 x52.AK)) (Zee ex52) rfl trivial rfl rfl rfl (by first | exact Zqb _ | simp [go_sem]) rfl rfl rfl rfl ?_);refine Gn H 2 1 ?_;refine Zma 26 rfl (Zvf H.1 [Sp2 x56] Node.row (y':=(Node.mk x52.DK x52.Book x53 x55 x56)) (Zee ex52) rfl trivial rfl rfl rfl (by first | exact Zqb _ | simp [go_sem]) rfl rfl rfl rfl (Ds ?_));refine GD ?_;exact W
       ·refine RL ?_;refine RO ?_;refine RL ?_;refine Zma 7 rfl (GB H.1 h Zrm fun x53 _ h=>?_);refine Ds ?_;refine Zma 12 rfl (GB H.1 h Z2l fun x54 _ h=>?_);refine Ds ?_;refine Zma 17 rfl (GB H.1 h Zrm fun x55 _ h=>?_);refine Gn H 2 7 ?_;refine Zma 20 rfl (Zuf H.1 [Sp2 x53] Node.row (y':=(Node.mk x52.DK x52.Book x53 x52.Told x52.AK)) ex52 rfl trivial rfl rfl rfl (by first | exact Zqb _ | simp [go_sem]) rfl rfl rfl rfl ?_);refine Gn H 2 4 ?_;refine Zma 23 rfl (Zvf H.1 [Sp1 x54] Node.row (y':=(Node.mk x52.DK x52.Book x53 x54 x52.AK)) (Zee ex52) rfl trivial rfl rfl rfl (by first | exact Zqb _ | simp [go_sem]) rfl rfl rfl rfl ?_);refine Gn H 2 1 ?_;refine Zma 26 rfl (Zvf H.1 [Sp2 x55] Node.row (y':=(Node.mk x52.DK x52.Book x53 x54 x55)) (Zee ex52) rfl trivial rfl rfl rfl (by first | exact Zqb _ | simp [go_sem]) rfl rfl rfl rfl (Ds ?_));refine GD ?_;exact W
    ·refine Zej fun all H=>Ds (GP H 11 13 [7,2,4,11] [(24,[.oel 1 (Int.toNat (x45)*10) 0,.oel 1 (Int.toNat (x45)*10) 0,.oel 1 (Int.toNat (x45)*10) 0,.oel 1 (Int.toNat (x45)*10) 0,.oel 1 (Int.toNat (x45)*10) 0,.oel 1 (Int.toNat (x45)*10) 0,.oel 1 (Int.toNat (x45)*10) 2]),(2,[.oel 1 (Int.toNat (x45)*10) 0,.oel 1 (Int.toNat (x45)*10) 0,.oel 1 (Int.toNat (x45)*10) 0,.oel 1 (Int.toNat (x45)*10) 4])] (Ds ?_));refine Zna 7 13 rfl ?_ ?_
     ·refine RL ?_;have ⟨x48,ex48,h⟩:=Bs h;refine Zna 8 13 rfl ?_ ?_
      ·refine GC H.1 (Zdm ex48) (Ds ?_);refine RO ?_;refine RL ?_;refine Zma 14 rfl (GB H.1 h Z2l fun x50 ex50 h=>?_);refine Ds (GP H 4 5 [19,5] [(39,[.oel 1 (Int.toNat (x45)*10) 0,.oel 1 (Int.toNat (x45)*10) 0,.oel 1 (Int.toNat (x45)*10) 0,.oel 1 (Int.toNat (x45)*10) 2])] (Ds ?_));refine Zma 19 rfl (Zuf H.1 [Sp3 x48] Node.row (y':=(Node.mk (DK.mk (DI.mk x47.DK.DI.ID x47.DK.DI.PH x48) x47.DK.TH x47.DK.Need) x47.Book x47.KN x47.Told x47.AK)) ex47 rfl trivial rfl rfl rfl (by first | exact Zqb _ | simp [go_sem]) rfl rfl rfl rfl (Ds ?_));refine GP H 3 1 [23,1] [(43,[.oel 1 (Int.toNat (x45)*10) 0,.oel 1 (Int.toNat (x45)*10) 0,.oel 1 (Int.toNat (x45)*10) 4])] (Ds ?_);refine Zma 23 rfl (Zvf H.1 [Sp1 x50] Node.row (y':=(Node.mk (DK.mk (DI.mk x47.DK.DI.ID x47.DK.DI.PH x48) x47.DK.TH x50) x47.Book x47.KN x47.Told x47.AK)) (Zee ex47) rfl trivial rfl rfl rfl (by first | exact Zqb _ | simp [go_sem]) rfl rfl rfl rfl (Ds ?_));refine GD ?_;exact W
      ·refine RL ?_;refine Zma 8 rfl (GC H.1 (Zdm ex48) (Ds ?_));refine Zma 14 rfl (GB H.1 h Z2l fun x50 _ h=>?_);refine Ds (GP H 4 5 [19,5] [(39,[.oel 1 (Int.toNat (x45)*10) 0,.oel 1 (Int.toNat (x45)*10) 0,.oel 1 (Int.toNat (x45)*10) 0,.oel 1 (Int.toNat (x45)*10) 2])] (Ds ?_));refine Zma 19 rfl (Zuf H.1 [Sp3 x48] Node.row (y':=(Node.mk (DK.mk (DI.mk x47.DK.DI.ID x47.DK.DI.PH x48) x47.DK.TH x47.DK.Need) x47.Book x47.KN x47.Told x47.AK)) ex47 rfl trivial rfl rfl rfl (by first | exact Zqb _ | simp [go_sem]) rfl rfl rfl rfl (Ds ?_));refine GP H 3 1 [23,1] [(43,[.oel 1 (Int.toNat (x45)*10) 0,.oel 1 (Int.toNat (x45)*10) 0,.oel 1 (Int.toNat (x45)*10) 4])] (Ds ?_);refine Zma 23 rfl (Zvf H.1 [Sp1 x50] Node.row (y':=(Node.mk (DK.mk (DI.mk x47.DK.DI.ID x47.DK.DI.PH x48) x47.DK.TH x50) x47.Book x47.KN x47.Told x47.AK)) (Zee ex47) rfl trivial rfl rfl rfl (by first | exact Zqb _ | simp [go_sem]) rfl rfl rfl rfl (Ds ?_));refine GD ?_;exact W
     ·refine RL ?_;refine RO ?_;refine RL ?_;refine Zma 8 rfl (GB H.1 h Zdm fun x48 _ h=>?_);refine Ds ?_;refine Zma 14 rfl (GB H.1 h Z2l fun x49 _ h=>?_);refine Ds (GP H 4 5 [19,5] [(39,[.oel 1 (Int.toNat (x45)*10) 0,.oel 1 (Int.toNat (x45)*10) 0,.oel 1 (Int.toNat (x45)*10) 0,.oel 1 (Int.toNat (x45)*10) 2])] (Ds ?_));refine Zma 19 rfl (Zuf H.1 [Sp3 x48] Node.row (y':=(Node.mk (DK.mk (DI.mk x47.DK.DI.ID x47.DK.DI.PH x48) x47.DK.TH x47.DK.Need) x47.Book x47.KN x47.Told x47.AK)) ex47 rfl trivial rfl rfl rfl (by first | exact Zqb _ | simp [go_sem]) rfl rfl rfl rfl (Ds ?_));refine GP H 3 1 [23,1] [(43,[.oel 1 (Int.toNat (x45)*10) 0,.oel 1 (Int.toNat (x45)*10) 0,.oel 1 (Int.toNat (x45)*10) 4])] (Ds ?_);refine Zma 23 rfl (Zvf H.1 [Sp1 x49] Node.row (y':=(Node.mk (DK.mk (DI.mk x47.DK.DI.ID x47.DK.DI.PH x48) x47.DK.TH x49) x47.Book x47.KN x47.Told x47.AK)) (Zee ex47) rfl trivial rfl rfl rfl (by first | exact Zqb _ | simp [go_sem]) rfl rfl rfl rfl (Ds ?_));refine GD ?_;exact W
   ·exact W
 ·refine Zej fun all H=>?_;refine Gn H 4 5 ?_;have ⟨x2,ex2,h⟩:=Bs h;refine Zna 2 7 rfl ?_ ?_
  ·refine Zud H.1 rfl trivial (Z2r ex2) (h:=Ds ?_);have ⟨x4,ex4,h⟩:=Bs h;refine Zna 5 7 rfl ?_ ?_
   ·refine Zud H.1 rfl trivial (Z0r ex4) (h:=?_);refine Gn H 1 2 ?_;refine R1 ?_;refine R1 ?_;refine GD ?_;exact W
   ·refine RV ?_;refine Zma 5 rfl (Zud H.1 rfl trivial (Z0r ex4) (h:=?_));refine Gn H 1 1 ?_;refine R1 ?_;refine GD ?_;exact W
  ·refine RV ?_;refine Zma 2 rfl (Zud H.1 rfl trivial (Z2r ex2) (h:=Ds ?_));refine Zma 5 rfl ?_;have ⟨x4,ex4,h⟩:=Bs h;refine Zud H.1 rfl trivial (Z0r ex4) (h:=?_);refine Gn H 1 1 ?_;refine R1 ?_;refine GD ?_;exact W
@[go_sem] def e18:EC:=eQ Tryz.f18
def Z9w (x2:List Mail):List DK→Option Bar
| x22=>some (Bar.mk x22 x2)
def Zaw (x1:Hall) (x2:List Mail):(Int×List DK)→Option ((Int×List DK) ⊕ Bar)
| (x9,x10)=>
 ifb (decide (x9<(ln Node.row x1.Nodes))) (
 (at_ x1.Nodes x9).bind fun x11=>
 (Zbm x11.DK.DI.SD).bind fun x12=>
 (Z0l x11.DK.Need).bind fun x13=>
 (Z7c 72 x10 ([DK.mk (DI.mk x11.DK.DI.ID x11.DK.DI.PH x12) x11.DK.TH x13])).bind fun x14=>
 some (.inl (wr (x9+1),x14))) (
 Option.map Sum.inr ((Z9w x2) x10))
def Zbw (x1:Hall):Option Bar:=
 (Z1r x1.Mail).bind fun x2=>
 loop (Zaw x1 x2) (0,([]:List DK))
theorem Zcw {x1 r} (h:Zbw x1=some r):Zy6 Tryz.prog 18 [.agg (Hall.row x1)] (.agg (Bar.row r)):=by
 have ok:=oK 18 Tryz.f18 e18 [.c 2 (some 2)] 1 37;refine FP ok fun w0 H0=>?_;rw [Zbw] at h;refine Vg 9 ?_;have ⟨x2,ex2,h⟩:=Bs h;refine Ztd trivial (Z2r ex2) (h:=?_);refine Vg 12 ?_;refine Vl [2,2] (fun x22=>([],[none,some ⟨73,[.nl,.nl]⟩,some ⟨73,[.osl 1,.osl 0]⟩],[Sq6 x2,Zvj x22])) (Z9w x2) r ?_ fun J1=>?_
 ·intro x22 h;rw [Z9w] at h;(try dsimp only);refine Vg 5 ?_;refine Zhj 1 (Ds ?_);refine Zhj 0 ?_;exact W
 ·refine Vg 1 ?_;refine Zij 2 0 61 5 (Ds ?_);refine Mm h [2,2,8,2] (fun s=>([(14,.iv s.1)],[],[(0,none)],[(1,Zvj s.2)])) ?_;rintro n1 ⟨x9,x10⟩ y1 h hin1 hout1;rw [Zaw] at h;(try dsimp only);refine Vg 5 ?_;refine MI h (fun h=>?_) fun h=>?_
  ·refine Vg 5 ?_;have ⟨x11,ex11,h⟩:=Bs h;refine Zic Node.row ex11 trivial rfl rfl rfl (Vg 12 ?_);refine Zej fun all H=>?_;refine Gn H 5 7 ?_;refine Zma 3 rfl ?_;have ⟨x12,ex12,h⟩:=Bs h;refine Zud H.1 rfl trivial (Zcm ex12) (h:=?_);refine Gn H 2 4 ?_;refine Zma 6 rfl ?_;have ⟨x13,ex13,h⟩:=Bs h;refine Zud H.1 rfl trivial (Z1l ex13) (h:=Ds ?_);refine R1 ?_;refine Gn H 1 1 ?_;refine R1 ?_;refine GD (Vg 4 ?_);refine Zhj 2 (Ds ?_);refine Zhj 3 (Ds ?_);refine Zf6 1 (Ds ?_);refine An ?_;have ⟨x14,ex14,h⟩:=Bs h;refine Zlc DK.row ex14 trivial rfl rfl rfl (Vg 8 ?_);refine Zgj 5 1 ?_;exact W
  ·exact W
@[go_sem] def e244:EC:=eQ Tryz.f244
def Zdw:List Int→Option (List Int)
| x31=>some x31
def Zew (x1:(List (List Int))):(Int×List Int)→Option ((Int×List Int) ⊕ (List Int))
| (x21,x22)=>
 ifb (decide (x21<(ln (Z7d 1 Z3d) x1))) (
 (at_ x1 x21).bind fun x23=>
 (Z7c 8 x22 x23).bind fun x24=>
 some (.inl (wr (x21+1),x24))) (
 Option.map Sum.inr (Zdw x22))
def Zfw (x1:(List (List Int))):Int→Option (List Int)
| x15=>
 (Zzr x15).bind fun x16=>
 loop (Zew x1) (0,x16)
def Zgw (x5 x6:Int) (x7:List Int):Unit→Option ((Int×Int) ⊕ (List Int))
| ()=>some (.inl (wr (x5+(ln Z3d x7)),wr (x6+1)))
def Zhw (x1:(List (List Int))):(Int×Int)→Option ((Int×Int) ⊕ (List Int))
| (x5,x6)=>
 ifb (decide (x6<(ln (Z7d 1 Z3d) x1))) (
 (at_ x1 x6).bind fun x7=>
 ifb (decide ((wr (x5+(ln Z3d x7)))<0)) (
 none) (
 (Zgw x5 x6 x7) ())) (
 Option.map Sum.inr ((Zfw x1) x5))
def Ziw (x1:(List (List Int))):Option (List Int):=loop (Zhw x1) (0,0)
theorem Zjw {x1 r} (h:Ziw x1=some r):Zpd Tryz.prog 244 [.sl 1 (List.map (Z7d 1 Z3d) x1)] 3 1 (List.map Z3d r):=by
 have ok:=oK 244 Tryz.f244 e244 [.t 2] 1 35;refine Zqd ok rfl fun w0 H0=>?_;rw [Ziw] at h;refine Vg 15 ?_;refine Vk [0,1] (fun x15=>[(3,.iv x15)]) (Zfw x1) r ?_ fun J1=>?_
 ·intro x15 h;rw [Zfw] at h;(try dsimp only);refine Vg 3 ?_;have ⟨x16,ex16,h⟩:=Bs h;refine Z8f [] [] trivial (Z0s ex16) (h:=?_);refine Vg 9 ?_;refine Vl [6,1] (fun x31=>([],[],[Sq4 x31])) Zdw r ?_ fun J3=>?_
  ·intro x31 h;rw [Zdw] at h;(try dsimp only);refine Vg 5 ?_;exact Z9e Z3d ok h rfl rfl
  ·refine Vg 1 ?_;refine Ml h [6,1,18,2] (fun s=>([(27,.iv s.1)],[],[Sq4 s.2])) ?_;rintro n1 ⟨x21,x22⟩ y1 h hin1 hout1;rw [Zew] at h;(try dsimp only);refine Vg 5 ?_;refine MI h (fun h=>?_) fun h=>?_
   ·refine Vg 5 ?_;have ⟨x23,ex23,h⟩:=Bs h;refine Zic (Z7d 1 Z3d) ex23 trivial rfl rfl rfl (Vg 6 ?_);have ⟨x24,ex24,h⟩:=Bs h;refine Zlc Z3d ex24 trivial rfl rfl rfl (Vg 7 ?_);refine Zgj 1 0 ?_;exact W
   ·exact W
 ·refine Vg 1 ?_;refine Mk h [0,1,8,2] (fun s=>[(3,.iv s.1),(11,.iv s.2)]) ?_;rintro n1 ⟨x5,x6⟩ y1 h hin1 hout1;rw [Zhw] at h;(try dsimp only);refine Vg 5 ?_;refine MI h (fun h=>?_) fun h=>?_
  ·refine Vg 5 ?_;have ⟨x7,ex7,h⟩:=Bs h;refine Zic (Z7d 1 Z3d) ex7 trivial rfl rfl rfl (Vg 16 ?_);refine Vk [0,1,2,1,5,3] (fun _=>[]) (Zgw x5 x6 x7) y1 ?_ fun J2=>?_
   ·rintro ⟨⟩ h;rw [Zgw] at h;exact W
   ·refine MI h (fun h=>?_) fun h=>?_
    ·cases h
    ·exact W
  ·exact W
@[go_sem] def e79:EC:=eQ Tryz.f79
def Zkw (x1:List Int) (x2:Int):Option Bool:=
 (Z1s x1 x2).bind fun x3=>
 some x3
theorem Zlw {x1 x2 r} (h:Zkw x1 x2=some r):Zy6 Tryz.prog 79 [Sp1 x1,.iv x2] (.bv r):=by have ok:=oK 79 Tryz.f79 e79 [.t 4] 2 6;refine FP ok fun w0 H0=>?_;rw [Zkw] at h;refine Vg 8 ?_;refine VB h Z2s fun _ _ h=>?_;exact W
def Zmw:(Int×List Int)→Option (List Int)
| (x25,x26)=>
 (vw_ (ln Z3d x26) x25 (ln Z3d x26)).bind fun _=>
 (Zsg x26 (Int.toNat (x25)) (Int.toNat (ln Z3d x26)-Int.toNat (x25)) 0).bind fun x28=>
 (Z8c x28 0 x25).bind fun x29=>
 some x29
def Znw (x12:Int):(Int×List Int)→Option ((Int×Int×List Int) ⊕ (List Int))
| (x17,x18)=>some (.inl (x17,wr (x12+1),x18))
def Zow (p0:(Int→Option Bool)):(Int×Int×List Int)→Option ((Int×Int×List Int) ⊕ (List Int))
| (x11,x12,x13)=>
 ifb (decide (x12<(ln Z3d x13))) (
 (at_ x13 x12).bind fun x14=>
 (p0 x14).bind fun x15=>
 ifb (!x15) (
 (at_ x13 x11).bind fun _=>
 (Znw x12) (wr (x11+1),x13.set (Int.toNat (x11)) x14)) (
 (Znw x12) (x11,x13))) (
 Option.map Sum.inr (Zmw (x11,x13)))
def Zpw (x1:List Int) (p0:(Int→Option Bool)):Option (List Int):=
 (Zpk x1 p0).bind fun x2=>
 ifb (decide (x2=((-1)))) (
 some x1) (
 loop (Zow p0) (x2,wr (x2+1),x1))
theorem Zqw {x1 g0 caps0 p0 r} (h:Zpw x1 p0=some r) (hc0:CloOK Tryz.prog g0 caps0 (fun z=>[.iv z]) p0 (fun z=>.bv z)):Z0f Tryz.prog 201 [.osl 0,.clo g0 caps0] [] [Sq4 x1] (.osl 1) [] [none,Sq4 r]:=by
 refine FT Z3s fun w0 M0=>?_;rw [Zpw] at h;dsimp only[lun,List.cons_append,List.nil_append];refine Vg 8 ?_;refine VN (LR.slice 0 rfl) h (fun e=>Zqk e hc0) (fun _ _ h=>?_) (hp:=(by first | rfl | simp [go_sem,hc0.pu])) (ha:=(by first | exact Zqb _ | simp [go_sem,Zeb _ _ _ hc0.pu]));refine Vg 8 ?_;refine MI h (fun h=>?_) fun h=>?_
 ·refine Vg 5 ?_;refine Zjj 3 1 (Ds ?_);refine Zgj 0 1 (Ds ?_);(try rw [Zlh _ _ _ hc0.pu]);obtain rfl:=Option.some.inj h;exact Zkj Z3s
 ·refine Vg 8 ?_;refine Vl [0,1] (fun s=>([(5,.iv s.1)],[],[Sq4 s.2])) Zmw r ?_ fun J1=>?_
  ·rintro ⟨x25,x26⟩ h;rw [Zmw] at h;(try dsimp only);refine Vg 4 ?_;have ⟨x27,ex27,h⟩:=Bs h;refine Zvg Z3d ex27 trivial rfl rfl rfl rfl ?_;have ⟨x28,ex28,h⟩:=Bs h;refine Zzg Z3d ex28 trivial rfl rfl (by first | exact Zqb _ | simp [go_sem]) (by first | rfl | simp [go_sem]) rfl rfl (Vg 5 ?_);have ⟨x29,ex29,h⟩:=Bs h;refine Zif Z3d ex29 trivial rfl rfl rfl rfl (Vg 2 ?_);obtain rfl:=Option.some.inj h;exact Zkj Z3s
  ·refine Vg 1 ?_;refine Ml h [0,2] (fun s=>([(5,.iv s.1),(6,.iv s.2.1)],[],[Sq4 s.2.2])) ?_ (hok:=by rintro ⟨x11,x12,x13⟩;first | rfl | (simp [go_sem];done) | simp [go_sem,Zpb _ hc0.pu]);rintro n1 ⟨x11,x12,x13⟩ y1 h hin1 hout1;rw [Zow] at h;(try dsimp only);refine Vg 8 ?_;refine MI h (fun h=>?_) fun h=>?_
   ·refine Vg 7 ?_;have ⟨x14,ex14,h⟩:=Bs h;refine Zde Z3d ex14 trivial rfl rfl rfl (Zke Z3d ex14 trivial rfl rfl rfl (Vg 6 ?_));have ⟨x15,ex15,h⟩:=Bs h;refine Z2d trivial rfl hc0 (x:=x14) ex15 (by first | exact Zqb _ | simp [go_sem]) (by first | rfl | simp [go_sem,hc0.pu]) (Vg 2 ?_);refine Vl [0,2,4,1] (fun s=>([(5,.iv s.1)],[],[Sq4 s.2])) (Znw x12) y1 ?_ fun J2=>?_
    ·rintro ⟨x17,x18⟩ h;rw [Znw] at h;(try dsimp only);refine Vg 6 ?_;exact Zrc h hin1 (hok:=by first | rfl | simp [go_sem,Zpb _ hc0.pu])
    ·refine MI h (fun h=>?_) fun h=>?_
     ·refine Vg 5 ?_;have ⟨x16,ex16,h⟩:=Bs h;refine Zde Z3d ex16 trivial rfl rfl rfl (Zue [.iv x14] Z3d (y':=x14) ex16 trivial rfl rfl rfl (by first | exact Zqb _ | simp [go_sem]) rfl rfl rfl rfl (Vg 6 ?_));exact Zsc J2 h (hok:=by first | rfl | simp [go_sem,Zpb _ hc0.pu])
     ·refine Vg 1 ?_;exact Zsc J2 h (hok:=by first | rfl | simp [go_sem,Zpb _ hc0.pu])
   ·refine Vg 1 ?_;exact Zsc J1 (Zdc h hout1) (hok:=by first | rfl | simp [go_sem])
def Zrw:List Sess→Option (List Sess)
| x35=>some x35
def Zsw (x2:List Sess):(Int×List Sess)→Option ((Int×List Sess) ⊕ (List Sess))
| (x8,x9)=>
 ifb (decide (x8<(ln Sess.row x2))) (
 (at_ x9 x8).bind fun x10=>
 (Z0l x10.Need).bind fun x11=>
 some (.inl (wr (x8+1),x9.set (Int.toNat (x8)) (Sess.mk x10.ID x11 x10.State x10.Age)))) (
 Option.map Sum.inr (Zrw x9))
def Ztw (x1:Book):Option (List Sess):=
 (Zfl x1.Sess).bind fun x2=>
 loop (Zsw x2) (0,x2)
theorem Zuw {x1 r} (h:Ztw x1=some r):Z0f Tryz.prog 165 [.agg (Book.row x1)] [] [] (.agg [.iv x1.Last,.osl 0]) [] [Zuj r]:=by
 refine FT Z4s fun w0 M0=>?_;have ok:=Z4s;rw [Ztw] at h;dsimp only[lun,List.cons_append,List.nil_append];refine Vg 9 ?_;have ⟨x2,ex2,h⟩:=Bs h;refine Ztd trivial (Zgl ex2) (h:=?_);refine Vg 11 ?_;refine Vm [1,2] (fun x35=>([],[],[],[(0,Zuj x35)])) Zrw r ?_ fun J1=>?_
 ·intro x35 h;rw [Zrw] at h;(try dsimp only);refine Vg 5 ?_;obtain rfl:=Option.some.inj h;exact Zkj Z4s
 ·refine Vg 1 ?_;refine Mm h [1,2,7,1] (fun s=>([(11,.iv s.1)],[],[],[(0,Zuj s.2)])) ?_;rintro n1 ⟨x8,x9⟩ y1 h hin1 hout1;rw [Zsw] at h;(try dsimp only);refine Vg 5 ?_;refine MI h (fun h=>?_) fun h=>?_
  ·refine Vg 8 ?_;refine Zej fun all H=>?_;refine Gn H 4 9 ?_;refine Zna 1 4 rfl ?_ ?_
   ·refine RV ?_;refine R1 ?_;have ⟨x10,ex10,h⟩:=Bs h;refine RO ?_;refine RI ?_;refine Gn H 1 5 ?_;refine RO ?_;refine RL ?_;refine Zma 9 rfl (GB H.1 h Z2l fun x11 ex11 h=>?_);refine Ds ?_;refine RO ?_;refine RI ?_;refine Gn H 1 1 ?_;refine Zma 12 rfl (Zuf H.1 [Sp1 x11] Sess.row (y':=(Sess.mk x10.ID x11 x10.State x10.Age)) ex10 rfl trivial rfl rfl rfl (by first | exact Zqb _ | simp [go_sem]) rfl rfl rfl rfl (Ds ?_));refine GD ?_;exact W
   ·refine RV ?_;have ⟨x10,ex10,h⟩:=Bs h;refine Zna 1 6 rfl ?_ ?_
    ·refine RV ?_;refine RO ?_;refine RI ?_;refine Gn H 1 5 ?_;refine RO ?_;refine RL ?_;refine Zma 9 rfl (GB H.1 h Z2l fun x11 ex11 h=>?_);refine Ds ?_;refine Zma 10 rfl (GI H.1 Sess.row ex10 (Ds ?_));refine Gn H 1 1 ?_;refine Zma 12 rfl (Zuf H.1 [Sp1 x11] Sess.row (y':=(Sess.mk x10.ID x11 x10.State x10.Age)) ex10 rfl trivial rfl rfl rfl (by first | exact Zqb _ | simp [go_sem]) rfl rfl rfl rfl (Ds ?_));refine GD ?_;exact W
    ·refine RI ?_;refine Gn H 1 6 ?_;refine Zna 1 8 rfl ?_ ?_
     ·refine RV ?_;refine RO ?_;refine RL ?_;refine Zma 9 rfl (GB H.1 h Z2l fun x11 ex11 h=>?_);refine Ds ?_;refine RO ?_;refine RI ?_;refine Gn H 1 1 ?_;refine Zma 12 rfl (Zuf H.1 [Sp1 x11] Sess.row (y':=(Sess.mk x10.ID x11 x10.State x10.Age)) ex10 rfl trivial rfl rfl rfl (by first | exact Zqb _ | simp [go_sem]) rfl rfl rfl rfl (Ds ?_));refine GD ?_;exact W
     ·refine RL ?_;have ⟨x11,ex11,h⟩:=Bs h;refine Zna 1 9 rfl ?_ ?_
      ·refine RV ?_;refine Zma 9 rfl (GC H.1 (Z2l ex11) (Ds ?_));refine RO ?_;refine RI ?_;refine Gn H 1 1 ?_;refine Zma 12 rfl (Zuf H.1 [Sp1 x11] Sess.row (y':=(Sess.mk x10.ID x11 x10.State x10.Age)) ex10 rfl trivial rfl rfl rfl (by first | exact Zqb _ | simp [go_sem]) rfl rfl rfl rfl (Ds ?_));refine GD ?_;exact W
      ·refine GC H.1 (Z2l ex11) (Ds ?_);refine R1 ?_;refine RO ?_;refine RI ?_;refine Gn H 1 1 ?_;refine Zma 12 rfl (Zuf H.1 [Sp1 x11] Sess.row (y':=(Sess.mk x10.ID x11 x10.State x10.Age)) ex10 rfl trivial rfl rfl rfl (by first | exact Zqb _ | simp [go_sem]) rfl rfl rfl rfl (Ds ?_));refine GD ?_;exact W
  ·exact W
@[go_sem] def e104:EC:=eQ Tryz.f104
def Zvw:Bool→Option Bool
| x3=>some x3
def Zww (x1:List Int):Option Bool:=
 ifb (decide (64<(ln Z3d x1))) (
 Zvw true) (
 (Znr x1 ((fun z=>Zhl z))).bind fun x2=>
 Zvw x2)
theorem Zxw {x1 r} (h:Zww x1=some r):Zy6 Tryz.prog 104 [Sp1 x1] (.bv r):=by
 have ok:=oK 104 Tryz.f104 e104 [.t 2] 1 9;refine FP ok fun w0 H0=>?_;rw [Zww] at h;refine Vg 10 ?_;refine Vk [] (fun x3=>[(2,.bv x3)]) Zvw r ?_ fun J1=>?_
 ·intro x3 h;rw [Zvw] at h;exact W
 ·refine MC 6 h (fun h=>?_) fun h=>?_
  ·exact W
  ·refine Vg 1 ?_;refine VB h (fun e=>Zor e ⟨by kernel_rfl,rfl,fun z r hz=>Zil hz⟩) fun _ _ h=>?_;exact W
def Zyw:Int→Option (Int×Int)
| x19=>some ((-1),x19)
def Zzw (x1:List Side) (x3:DI):(Int×Int)→Option ((Int×Int) ⊕ (Int×Int))
| (x8,x9)=>
 ifb (decide (x8<(ln Side.row x1))) (
 (at_ x1 x8).bind fun x10=>
 (Zcs x10 x9 x3).bind fun x11=>
 ifb x11 (
 Option.map Sum.inr (some (x8,x10.Peer))) (
 some (.inl (wr (x8+1),x10.Peer)))) (
 Option.map Sum.inr (Zyw x9))
def Z0x (x1:List Side) (x2:Int) (x3:DI):Option (Int×Int):=loop (Zzw x1 x3) (0,x2)
theorem Z1x {x1 x2 x3 r} (h:Z0x x1 x2 x3=some r):Z0f Tryz.prog 119 [Sp3 x1,.clo 157 [.ptr 0 0,.ptr 1 0]] [some ⟨3,[.iv x2]⟩,some ⟨58,DI.row x3⟩] [] (.iv r.1) [some ⟨3,[.iv r.2]⟩,some ⟨58,DI.row x3⟩] []:=by
 refine FT Z8k fun w0 M0=>?_;have ok:=Z8k;rw [Z0x] at h;dsimp only[lun,List.cons_append,List.nil_append];refine Vg 11 ?_;refine Vm [] (fun x19=>([],[(0,0,.iv x19)],[],[])) Zyw r ?_ fun J1=>?_
 ·intro x19 h;rw [Zyw] at h;(try dsimp only);refine Vg 4 ?_;obtain rfl:=Option.some.inj h;exact Zkj Z8k
 ·refine Vg 1 ?_;refine Mm h [0,2,5,1] (fun s=>([(8,.iv s.1)],[(0,0,.iv s.2)],[],[])) ?_;rintro n1 ⟨x8,x9⟩ y1 h hin1 hout1;rw [Zzw] at h;(try dsimp only);refine Vg 5 ?_;refine MI h (fun h=>?_) fun h=>?_
  ·refine Vg 13 ?_;have ⟨x10,ex10,h⟩:=Bs h;refine Zic Side.row ex10 trivial rfl rfl rfl (Vg 1 ?_);have ⟨x11,ex11,h⟩:=Bs h;refine Zaf [true,true] [] trivial rfl (Zds ex11) (by kernel_rfl) (h:=?_);refine Vg 1 ?_;refine MI h (fun h=>?_) fun h=>?_
   ·refine Vg 5 ?_;obtain rfl:=Option.some.inj (Zdc h hout1);exact Zkj Z8k
   ·exact W
  ·exact W
@[go_sem] def e98:EC:=eQ Tryz.f98
def Z2x (x1:Int) (x2:DK):Option Bool:=
 (Zgr x2.DI.SD ((fun z=>Zim z x1))).bind fun x3=>
 some (!x3)
theorem Z3x {x1 x2 r} (h:Z2x x1 x2=some r):Zy6 Tryz.prog 98 [.iv x1,.elt (DK.row x2) 0] (.bv r):=by have ok:=oK 98 Tryz.f98 e98 [.t 3] 2 8;refine FP ok fun w0 H0=>?_;rw [Z2x] at h;refine Vg 11 ?_;refine VN (LR.block 0 rfl rfl) h (fun e=>Zhr e ⟨by kernel_rfl,rfl,fun z r hz=>Zjm hz⟩) fun _ _ h=>?_;exact W
@[go_sem] def e83:EC:=eQ Tryz.f83
def Z4x:Bool→Option Bool
| x5=>some x5
def Z5x (x1 x2:DK):Option Bool:=
 (Zis x1.DI x2.DI).bind fun x3=>
 ifb x3 (
 ifb (decide (x1.TH=x2.TH)) (
 (Zmm x1.Need x2.Need).bind fun x4=>
 Z4x x4) (
 Z4x false)) (
 Z4x false)
theorem Z6x {x1 x2 r} (h:Z5x x1 x2=some r):Zy6 Tryz.prog 83 [.agg (DK.row x1),.agg (DK.row x2)] (.bv r):=by
 have ok:=oK 83 Tryz.f83 e83 [.t 4] 2 22;refine FP ok fun w0 H0=>?_;rw [Z5x] at h;refine Vg 12 ?_;refine VB h Zjs fun _ _ h=>?_;refine Vg 1 ?_;refine Vl [] (fun x5=>([(4,.bv x5)],[],[])) Z4x r ?_ fun J1=>?_
 ·intro x5 h;rw [Z4x] at h;exact W
 ·refine MC 10 h (fun h=>?_) fun h=>?_
  ·refine Vg 7 ?_;refine MC 17 h (fun h=>?_) fun h=>?_
   ·refine Vg 4 ?_;refine VB h Znm fun _ _ h=>?_;exact W
   ·exact W
  ·exact W
end
end NX
end Go.Proofs.YtgamgemlekpepaaGreat
