/-
  The function narthex/node.own, lent own memory. Written by a program of ours (lb.py). No statement of the seat is proved here.
-/
import Derived.Test.YtgamgemlekpepaaGreatH18
import Derived.Test.YtgamgemlekpepaaGreatH19
set_option maxRecDepth 100000
set_option maxHeartbeats 4000000
namespace Go.Proofs.YtgamgemlekpepaaGreat
namespace NX
open Go
noncomputable section
def Z7x (x4:List Side) (x5:List Int) (x9:List KE) (x10:List Int) (x11:List KE):List Sess→Option (List Side×List Int×List KE×List Int×List KE×List Sess)
| x39=>some (x4,x5,x9,x10,x11,x39)
def Z8x (x19:Int):List Sess→Option ((Int×List Sess) ⊕ (List Side×List Int×List KE×List Int×List KE×List Sess))
| x24=>some (.inl (wr (x19+1),x24))
def Z9x (x4:List Side) (x5:List Int) (x9:List KE) (x10:List Int) (x11:List KE) (x12:List Sess):(Int×List Sess)→Option ((Int×List Sess) ⊕ (List Side×List Int×List KE×List Int×List KE×List Sess))
| (x19,x20)=>
 ifb (decide (x19<(ln Sess.row x12))) (
 (at_ x20 x19).bind fun x21=>
 (Z0l x21.Need).bind fun x22=>
 (Z8x x19) (x20.set (Int.toNat (x19)) (Sess.mk x21.ID x22 x21.State x21.Age))) (
 Option.map Sum.inr ((Z7x x4 x5 x9 x10 x11) x20))
def Zax (x1:Node) (x4:List Side) (x5:List Int):(List KE×List Int×List KE)→Option (List Side×List Int×List KE×List Int×List KE×List Sess)
| (x9,x10,x11)=>
 (Zfl x1.Book.Sess).bind fun x12=>
 loop (Z9x x4 x5 x9 x10 x11 x12) (0,x12)
def Zbx (x1:Node):(List Side×List Int)→Option (List Side×List Int×List KE×List Int×List KE×List Sess)
| (x4,x5)=>
 (Zpm x1.KN).bind fun x6=>
 (Z0l x1.Told).bind fun x7=>
 (Zpm x1.AK).bind fun x8=>
 (Zax x1 x4 x5) (x6,x7,x8)
def Zcx (x1:Node):Option (List Side×List Int×List KE×List Int×List KE×List Sess):=
 (Zbm x1.DK.DI.SD).bind fun x2=>
 (Z0l x1.DK.Need).bind fun x3=>
 (Zbx x1) (x2,x3)
theorem Zdx {x1 r} (h:Zcx x1=some r):Z0f Tryz.prog 52 [.agg (Node.row x1)] [] [] (.agg [.iv x1.DK.DI.ID,.iv x1.DK.DI.PH,.osl 0,.iv x1.DK.TH,.osl 1,.iv x1.Book.Last,.osl 5,.osl 2,.osl 3,.osl 4]) [] [Zwj r.1,Sq4 r.2.1,Zxj r.2.2.1,Sq4 r.2.2.2.1,Zxj r.2.2.2.2.1,Zuj r.2.2.2.2.2]:=by
 refine FT Zks fun w0 M0=>?_;have ok:=Zks;rw [Zcx] at h;dsimp only[lun,List.cons_append,List.nil_append];refine Vg 6 ?_;refine Vl [1,2] (fun s=>([],[some ⟨67,[.iv x1.DK.DI.ID,.iv x1.DK.DI.PH,.osl 0,.iv x1.DK.TH,.osl 1,.iv x1.Book.Last,Sp5 x1.Book.Sess,Sp2 x1.KN,Sp1 x1.Told,Sp2 x1.AK]⟩,some ⟨67,[.iv 0,.iv 0,.nl,.iv 0,.nl,.iv 0,.nl,.nl,.nl,.nl]⟩],[Zwj s.1,Sq4 s.2])) (Zbx x1) r ?_ fun J1=>?_
 ·rintro ⟨x4,x5⟩ h;rw [Zbx] at h;(try dsimp only);refine Vg 1 ?_;refine Vl [1,2] (fun s=>([],[some ⟨67,[.iv x1.DK.DI.ID,.iv x1.DK.DI.PH,.osl 0,.iv x1.DK.TH,.osl 1,.iv x1.Book.Last,Sp5 x1.Book.Sess,.osl 2,.osl 3,.osl 4]⟩,some ⟨67,[.iv 0,.iv 0,.nl,.iv 0,.nl,.iv 0,.nl,.nl,.nl,.nl]⟩],[Zwj x4,Sq4 x5,Zxj s.1,Sq4 s.2.1,Zxj s.2.2])) (Zax x1 x4 x5) r ?_ fun J2=>?_
  ·rintro ⟨x9,x10,x11⟩ h;rw [Zax] at h;(try dsimp only);refine Vg 5 ?_;have ⟨x12,ex12,h⟩:=Bs h;refine Ztd trivial (Zgl ex12) (h:=?_);refine Vg 13 ?_;refine Vm [1,2] (fun x39=>([],[],[],[(5,Zuj x39)])) (Z7x x4 x5 x9 x10 x11) r ?_ fun J3=>?_
   ·intro x39 h;rw [Z7x] at h;(try dsimp only);refine Vg 5 ?_;obtain rfl:=Option.some.inj h;exact Zkj Zks
   ·refine Vg 1 ?_;refine Mm h [1,2,36,1] (fun s=>([(40,.iv s.1)],[],[],[(5,Zuj s.2)])) ?_;rintro n1 ⟨x19,x20⟩ y1 h hin1 hout1;rw [Z9x] at h;(try dsimp only);refine Vg 5 ?_;refine MI h (fun h=>?_) fun h=>?_
    ·refine Vg 8 ?_;refine Vm [1,2,36,2] (fun x24=>([],[],[],[(5,Zuj x24)])) (Z8x x19) y1 ?_ fun J4=>?_
     ·intro x24 h;rw [Z8x] at h;exact W
     ·refine Zej fun all H=>Ds (GP H 6 9 [2,1,3,1,1,7] [(43,[.ptr 0 5,.ptr 0 6]),(1,[.iv x19,.ptr 0 5,.ptr 0 6]),(1,[.iv x19])] (Ds ?_));refine Zna 2 6 rfl ?_ ?_
      ·refine RV ?_;refine R1 ?_;have ⟨x21,ex21,h⟩:=Bs h;refine RO ?_;refine RI ?_;refine Gn H 1 5 ?_;refine RO ?_;refine RL ?_;refine Zma 11 rfl (GB H.1 h Z2l fun x22 ex22 h=>?_);refine Ds ?_;refine RO ?_;refine RI ?_;refine Gn H 1 1 ?_;refine Zma 14 rfl (Zuf H.1 [Sp1 x22] Sess.row (y':=(Sess.mk x21.ID x22 x21.State x21.Age)) ex21 rfl trivial rfl rfl rfl (by first | exact Zqb _ | simp [go_sem]) rfl rfl rfl rfl (Ds ?_));refine GD ?_;exact W
      ·refine RV ?_;have ⟨x21,ex21,h⟩:=Bs h;refine Zna 2 8 rfl ?_ ?_
       ·refine RV ?_;refine RO ?_;refine RI ?_;refine Gn H 1 5 ?_;refine RO ?_;refine RL ?_;refine Zma 11 rfl (GB H.1 h Z2l fun x22 ex22 h=>?_);refine Ds ?_;refine Zma 12 rfl (GI H.1 Sess.row ex21 (Ds ?_));refine Gn H 1 1 ?_;refine Zma 14 rfl (Zuf H.1 [Sp1 x22] Sess.row (y':=(Sess.mk x21.ID x22 x21.State x21.Age)) ex21 rfl trivial rfl rfl rfl (by first | exact Zqb _ | simp [go_sem]) rfl rfl rfl rfl (Ds ?_));refine GD ?_;exact W
       ·refine RI ?_;refine Gn H 1 6 ?_;refine Zna 2 10 rfl ?_ ?_
        ·refine RV ?_;refine RO ?_;refine RL ?_;refine Zma 11 rfl (GB H.1 h Z2l fun x22 ex22 h=>?_);refine Ds ?_;refine RO ?_;refine RI ?_;refine Gn H 1 1 ?_;refine Zma 14 rfl (Zuf H.1 [Sp1 x22] Sess.row (y':=(Sess.mk x21.ID x22 x21.State x21.Age)) ex21 rfl trivial rfl rfl rfl (by first | exact Zqb _ | simp [go_sem]) rfl rfl rfl rfl (Ds ?_));refine GD ?_;exact W
        ·refine RL ?_;have ⟨x22,ex22,h⟩:=Bs h;refine Zna 2 11 rfl ?_ ?_
         ·refine RV ?_;refine Zma 11 rfl (GC H.1 (Z2l ex22) (Ds ?_));refine RO ?_;refine RI ?_;refine Gn H 1 1 ?_;refine Zma 14 rfl (Zuf H.1 [Sp1 x22] Sess.row (y':=(Sess.mk x21.ID x22 x21.State x21.Age)) ex21 rfl trivial rfl rfl rfl (by first | exact Zqb _ | simp [go_sem]) rfl rfl rfl rfl (Ds ?_));refine GD ?_;exact W
         ·refine GC H.1 (Z2l ex22) (Ds ?_);refine R1 ?_;refine RO ?_;refine RI ?_;refine Gn H 1 1 ?_;refine Zma 14 rfl (Zuf H.1 [Sp1 x22] Sess.row (y':=(Sess.mk x21.ID x22 x21.State x21.Age)) ex21 rfl trivial rfl rfl rfl (by first | exact Zqb _ | simp [go_sem]) rfl rfl rfl rfl (Ds ?_));refine GD ?_;exact W
    ·exact W
  ·refine Zej fun all H=>Ds (GP H 6 9 [2,1,2,1,2,7] [(18,[.ptr 0 7,Sp2 x1.KN]),(1,[.ptr 0 8,Sp1 x1.Told]),(1,[.ptr 0 9,Sp2 x1.AK])] (Ds ?_));refine Zma 2 rfl ?_;have ⟨x6,ex6,h⟩:=Bs h;refine Zud H.1 rfl trivial (Zqm ex6) (h:=?_);refine Gn H 1 7 ?_;refine Zma 5 rfl ?_;have ⟨x7,ex7,h⟩:=Bs h;refine Zud H.1 rfl trivial (Z1l ex7) (h:=Ds ?_);refine Zma 8 rfl ?_;have ⟨x8,ex8,h⟩:=Bs h;refine Zud H.1 rfl trivial (Zqm ex8) (h:=Ds ?_);refine R1 ?_;refine Gn H 1 3 ?_;refine R1 ?_;refine Gn H 1 1 ?_;refine R1 ?_;refine GD ?_;exact W
 ·refine Zej fun all H=>Ds (GP H 7 9 [4,1,3,8] [(4,[.ptr 0 0,.ptr 0 0,.ptr 0 2,Sp3 x1.DK.DI.SD]),(1,[.ptr 0 0,.ptr 0 4,Sp1 x1.DK.Need])] (Ds ?_));refine Zma 4 rfl ?_;have ⟨x2,ex2,h⟩:=Bs h;refine Zud H.1 rfl trivial (Zcm ex2) (h:=?_);refine Gn H 3 5 ?_;refine Zma 8 rfl ?_;have ⟨x3,ex3,h⟩:=Bs h;refine Zud H.1 rfl trivial (Z1l ex3) (h:=Ds ?_);refine R1 ?_;refine Gn H 2 1 ?_;refine R1 ?_;refine GD ?_;exact W
def Zex (x1 x2:Int) (x3 x4:Int) (x5:List Sess) (x6:List Side) (x7:List Int) (x8:List KE) (x9:List Int) (x10:List KE):Option (List Int):=
 (Zws x1 x2 x3 x4 x5 x6 x7 x8 x9 x10 ((fun z=>Zzm z))).bind fun x11=>
 some x11
theorem Zfx {x1 x2 x3 x4 x5 x6 x7 x8 x9 x10 r} (h:Zex x1 x2 x3 x4 x5 x6 x7 x8 x9 x10=some r):Z0f Tryz.prog 117 [.agg [.iv x1,.iv x2,.osl 0,.iv x3,.osl 1,.iv x4,Sp5 x5,.osl 2,.osl 3,.osl 4]] [] [Zwj x6,Sq4 x7,Zxj x8,Sq4 x9,Zxj x10] (.osl 5) [] [Zwj x6,Sq4 x7,Zxj x8,Sq4 x9,Zxj x10,Sq4 r]:=by refine FT Zls fun w0 M0=>?_;rw [Zex] at h;dsimp only[lun,List.cons_append,List.nil_append];refine Vg 8 ?_;refine VR [] [0,1,2,3,4] 1 5 h (fun e=>Zxs e ⟨by kernel_rfl,rfl,fun z r hz=>Z0n hz⟩) fun _ _ h=>?_;refine Vg 2 ?_;obtain rfl:=Option.some.inj h;exact Zkj Zls
def Zgx (x14:(Bool×Int)):(Int×List Sess)→Option (Bool×Int×List Sess×Int)
| (x15,x16)=>some (decide (x14.2=0),x15,x16,x14.2)
def Zhx (x1:Book) (x2:Int) (x3 x4:Int) (x5 x6:Int) (x7:List Sess) (x8:Int) (x9:List Side) (x10:List Int) (x11:List KE) (x12:List Int) (x13:List KE):Option (Bool×Int×List Sess×Int):=
 (Zrs (decide (x2=0)) x2 x3 x4 x5 x6 x7 x8 x9 x10 x11 x12 x13).bind fun x14=>
 ifb x14.1 (
 (Zgx x14) (x1.Last,x1.Sess)) (
 (Zgx x14) (x6,x7))
theorem Zix {x1 x2 x3 x4 x5 x6 x7 x8 x9 x10 x11 x12 x13 r} (h:Zhx x1 x2 x3 x4 x5 x6 x7 x8 x9 x10 x11 x12 x13=some r):Z0f Tryz.prog 123 [.ptr 0 0,.agg (Book.row x1),.iv x2] [some ⟨138,[.iv x3,.iv x4,.osl 0,.iv x5,.osl 1,.iv x6,Sp5 x7,.osl 2,.osl 3,.osl 4,.nl,.nl,.iv x8]⟩] [Zwj x9,Sq4 x10,Zxj x11,Sq4 x12,Zxj x13] (.bv r.1) [some ⟨138,[.iv x3,.iv x4,.osl 0,.iv x5,.osl 1,.iv r.2.1,Sp5 r.2.2.1,.osl 2,.osl 3,.osl 4,.nl,.nl,.iv r.2.2.2]⟩] [Zwj x9,Sq4 x10,Zxj x11,Sq4 x12,Zxj x13]:=by
 refine FT Zos fun w0 M0=>?_;have ok:=Zos;rw [Zhx] at h;dsimp only[lun,List.cons_append,List.nil_append];refine Vg 12 ?_;refine VR [0] [0,1,2,3,4] 2 5 h Zss fun x14 _ h=>?_;refine Vg 1 ?_;refine Vl [0,1] (fun s=>([],[some ⟨138,[.iv x3,.iv x4,.osl 0,.iv x5,.osl 1,.iv s.1,Sp5 s.2,.osl 2,.osl 3,.osl 4,.nl,.nl,.iv x14.2]⟩],[Zwj x9,Sq4 x10,Zxj x11,Sq4 x12,Zxj x13])) (Zgx x14) r ?_ fun J1=>?_
 ·rintro ⟨x15,x16⟩ h;rw [Zgx] at h;(try dsimp only);refine Vg 9 ?_;obtain rfl:=Option.some.inj h;exact Zkj Zos
 ·exact W
def Zjx:(List Side×List Int)→Option (List Side×List Int)
| (x9,x10)=>some (x9,x10)
def Zkx (_x1 _x2 _x3:Int) (x4:List Side) (x5:List Int):Option (List Side×List Int):=
 (Zbm x4).bind fun x6=>
 (Z0l x5).bind fun x8=>
 Zjx (x6,x8)
theorem Zlx {x1 x2 x3 x4 x5 r} (h:Zkx x1 x2 x3 x4 x5=some r):Z0f Tryz.prog 185 [.agg [.iv x1,.iv x2,.osl 0,.iv x3,.osl 1]] [] [Zwj x4,Sq4 x5] (.agg [.iv x1,.iv x2,.osl 2,.iv x3,.osl 3]) [] [Zwj x4,Sq4 x5,Zwj r.1,Sq4 r.2]:=by
 refine FT Zgs fun w0 M0=>?_;have ok:=Zgs;rw [Zkx] at h;dsimp only[lun,List.cons_append,List.nil_append];refine Vg 6 ?_;refine Vl [1,2] (fun s=>([],[some ⟨61,[.iv x1,.iv x2,.osl 2,.iv x3,.osl 3]⟩,some ⟨61,[.iv 0,.iv 0,.nl,.iv 0,.nl]⟩],[Zwj x4,Sq4 x5,Zwj s.1,Sq4 s.2])) Zjx r ?_ fun J1=>?_
 ·rintro ⟨x9,x10⟩ h;rw [Zjx] at h;(try dsimp only);refine Vg 5 ?_;obtain rfl:=Option.some.inj h;exact Zkj Zgs
 ·refine Zej fun all H=>?_;refine Gn H 3 9 ?_;refine Zna 2 5 rfl ?_ ?_
  ·refine RV ?_;have ⟨x6,ex6,h⟩:=Bs h;refine Zna 3 5 rfl ?_ ?_
   ·refine Zmj H.1 [] [0] 2 2 (Z0t ex6) (Ds ?_);refine R1 ?_;refine Gn H 2 4 ?_;refine Zma 6 rfl (GR H.1 [] [1] 2 3 h Z1t fun x8 ex8 h=>?_);refine Ds ?_;refine R1 ?_;refine Gn H 1 1 ?_;refine R1 ?_;refine GD ?_;exact W
   ·refine RV ?_;refine Zma 3 rfl (Zmj H.1 [] [0] 2 2 (Z0t ex6) ?_);refine Gn H 2 4 ?_;refine Zma 6 rfl (GR H.1 [] [1] 2 3 h Z1t fun _ _ h=>?_);refine Ds ?_;refine R1 ?_;refine Gn H 1 1 ?_;refine R1 ?_;refine GD ?_;exact W
  ·refine RV ?_;refine R1 ?_;refine Zma 3 rfl (GR H.1 [] [0] 2 2 h Z0t fun _ _ h=>?_);refine Gn H 2 4 ?_;refine Zma 6 rfl (GR H.1 [] [1] 2 3 h Z1t fun _ _ h=>?_);refine Ds ?_;refine R1 ?_;refine Gn H 1 1 ?_;refine R1 ?_;refine GD ?_;exact W
@[go_sem] def e82:EC:=eQ Tryz.f82
theorem Zmx:FnOK Tryz.prog 82 Tryz.f82 e82 [] 2 17:=okA
@[go_sem] def e84:EC:=eQ Tryz.f84
def Znx:Bool→Option Bool
| x4=>some x4
def Zox (x1 x2:Book):Option Bool:=
 ifb (decide (x1.Last=x2.Last)) (
 (Ztn x1.Sess x2.Sess ((fun z=>Znt z.1 z.2))).bind fun x3=>
 Znx x3) (
 Znx false)
theorem Zpx {x1 x2 r} (h:Zox x1 x2=some r):Zy6 Tryz.prog 84 [.agg (Book.row x1),.agg (Book.row x2)] (.bv r):=by
 have ok:=oK 84 Tryz.f84 e84 [.t 4] 2 15;refine FP ok fun w0 H0=>?_;rw [Zox] at h;refine Vg 14 ?_;refine Vl [] (fun x4=>([(4,.bv x4)],[],[])) Znx r ?_ fun J1=>?_
 ·intro x4 h;rw [Znx] at h;exact W
 ·refine MC 10 h (fun h=>?_) fun h=>?_
  ·refine Vg 4 ?_;refine VB h (fun e=>Zun e ⟨by kernel_rfl,rfl,fun z r hz=>Zot hz⟩) fun _ _ h=>?_;exact W
  ·exact W
def Zqx (x14:List Side) (x15:List Int) (x21:List KE) (x22:List Int) (x23:List KE):List Sess→Option (List Side×List Int×List KE×List Int×List KE×List Sess)
| x55=>some (x14,x15,x21,x22,x23,x55)
def Zrx (x31:Int):List Sess→Option ((Int×List Sess) ⊕ (List Side×List Int×List KE×List Int×List KE×List Sess))
| x36=>some (.inl (wr (x31+1),x36))
def Zsx (x14:List Side) (x15:List Int) (x21:List KE) (x22:List Int) (x23:List KE) (x24:List Sess):(Int×List Sess)→Option ((Int×List Sess) ⊕ (List Side×List Int×List KE×List Int×List KE×List Sess))
| (x31,x32)=>
 ifb (decide (x31<(ln Sess.row x24))) (
 (at_ x32 x31).bind fun x33=>
 (Z0l x33.Need).bind fun x34=>
 (Zrx x31) (x32.set (Int.toNat (x31)) (Sess.mk x33.ID x34 x33.State x33.Age))) (
 Option.map Sum.inr ((Zqx x14 x15 x21 x22 x23) x32))
def Ztx (x5:List Sess) (x14:List Side) (x15:List Int):(List KE×List Int×List KE)→Option (List Side×List Int×List KE×List Int×List KE×List Sess)
| (x21,x22,x23)=>
 (Zfl x5).bind fun x24=>
 loop (Zsx x14 x15 x21 x22 x23 x24) (0,x24)
def Zux (x5:List Sess) (x6:List Int) (x9 x10:List KE):(List Side×List Int)→Option (List Side×List Int×List KE×List Int×List KE×List Sess)
| (x14,x15)=>
 (Zpm x9).bind fun x16=>
 (Z0l x6).bind fun x18=>
 (Zpm x10).bind fun x20=>
 (Ztx x5 x14 x15) (x16,x18,x20)
def Zvx (_x1 _x2:Int) (_x3 _x4:Int) (x5:List Sess) (x6:List Int) (x7:List Side) (x8:List Int) (x9 x10:List KE):Option (List Side×List Int×List KE×List Int×List KE×List Sess):=
 (Zbm x7).bind fun x11=>
 (Z0l x8).bind fun x13=>
 (Zux x5 x6 x9 x10) (x11,x13)
theorem Zwx {x1 x2 x3 x4 x5 x6 x7 x8 x9 x10 r} (h:Zvx x1 x2 x3 x4 x5 x6 x7 x8 x9 x10=some r):Z0f Tryz.prog 52 [.agg [.iv x1,.iv x2,.osl 0,.iv x3,.osl 1,.iv x4,Sp5 x5,.osl 2,Sp1 x6,.osl 3]] [] [Zwj x7,Sq4 x8,Zxj x9,Zxj x10] (.agg [.iv x1,.iv x2,.osl 4,.iv x3,.osl 5,.iv x4,.osl 9,.osl 6,.osl 7,.osl 8]) [] [Zwj x7,Sq4 x8,Zxj x9,Zxj x10,Zwj r.1,Sq4 r.2.1,Zxj r.2.2.1,Sq4 r.2.2.2.1,Zxj r.2.2.2.2.1,Zuj r.2.2.2.2.2]:=by
 refine FT Zks fun w0 M0=>?_;have ok:=Zks;rw [Zvx] at h;dsimp only[lun,List.cons_append,List.nil_append];refine Vg 6 ?_;refine Vl [1,2] (fun s=>([],[some ⟨67,[.iv x1,.iv x2,.osl 4,.iv x3,.osl 5,.iv x4,Sp5 x5,.osl 2,Sp1 x6,.osl 3]⟩,some ⟨67,[.iv 0,.iv 0,.nl,.iv 0,.nl,.iv 0,.nl,.nl,.nl,.nl]⟩],[Zwj x7,Sq4 x8,Zxj x9,Zxj x10,Zwj s.1,Sq4 s.2])) (Zux x5 x6 x9 x10) r ?_ fun J1=>?_
 ·rintro ⟨x14,x15⟩ h;rw [Zux] at h;(try dsimp only);refine Vg 1 ?_;refine Vl [1,2] (fun s=>([],[some ⟨67,[.iv x1,.iv x2,.osl 4,.iv x3,.osl 5,.iv x4,Sp5 x5,.osl 6,.osl 7,.osl 8]⟩,some ⟨67,[.iv 0,.iv 0,.nl,.iv 0,.nl,.iv 0,.nl,.nl,.nl,.nl]⟩],[Zwj x7,Sq4 x8,Zxj x9,Zxj x10,Zwj x14,Sq4 x15,Zxj s.1,Sq4 s.2.1,Zxj s.2.2])) (Ztx x5 x14 x15) r ?_ fun J2=>?_
  ·rintro ⟨x21,x22,x23⟩ h;rw [Ztx] at h;(try dsimp only);refine Vg 5 ?_;have ⟨x24,ex24,h⟩:=Bs h;refine Ztd trivial (Zgl ex24) (h:=?_);refine Vg 13 ?_;refine Vm [1,2] (fun x55=>([],[],[],[(9,Zuj x55)])) (Zqx x14 x15 x21 x22 x23) r ?_ fun J3=>?_
   ·intro x55 h;rw [Zqx] at h;(try dsimp only);refine Vg 5 ?_;obtain rfl:=Option.some.inj h;exact Zkj Zks
   ·refine Vg 1 ?_;refine Mm h [1,2,36,1] (fun s=>([(40,.iv s.1)],[],[],[(9,Zuj s.2)])) ?_;rintro n1 ⟨x31,x32⟩ y1 h hin1 hout1;rw [Zsx] at h;(try dsimp only);refine Vg 5 ?_;refine MI h (fun h=>?_) fun h=>?_
    ·refine Vg 8 ?_;refine Vm [1,2,36,2] (fun x36=>([],[],[],[(9,Zuj x36)])) (Zrx x31) y1 ?_ fun J4=>?_
     ·intro x36 h;rw [Zrx] at h;exact W
     ·refine Zej fun all H=>Ds (GP H 6 9 [2,1,3,1,1,7] [(43,[.ptr 0 5,.ptr 0 6]),(1,[.iv x31,.ptr 0 5,.ptr 0 6]),(1,[.iv x31])] (Ds ?_));refine Zna 2 6 rfl ?_ ?_
      ·refine RV ?_;refine R1 ?_;have ⟨x33,ex33,h⟩:=Bs h;refine RO ?_;refine RI ?_;refine Gn H 1 5 ?_;refine RO ?_;refine RL ?_;refine Zma 11 rfl (GB H.1 h Z2l fun x34 ex34 h=>?_);refine Ds ?_;refine RO ?_;refine RI ?_;refine Gn H 1 1 ?_;refine Zma 14 rfl (Zuf H.1 [Sp1 x34] Sess.row (y':=(Sess.mk x33.ID x34 x33.State x33.Age)) ex33 rfl trivial rfl rfl rfl (by first | exact Zqb _ | simp [go_sem]) rfl rfl rfl rfl (Ds ?_));refine GD ?_;exact W
      ·refine RV ?_;have ⟨x33,ex33,h⟩:=Bs h;refine Zna 2 8 rfl ?_ ?_
       ·refine RV ?_;refine RO ?_;refine RI ?_;refine Gn H 1 5 ?_;refine RO ?_;refine RL ?_;refine Zma 11 rfl (GB H.1 h Z2l fun x34 ex34 h=>?_);refine Ds ?_;refine Zma 12 rfl (GI H.1 Sess.row ex33 (Ds ?_));refine Gn H 1 1 ?_;refine Zma 14 rfl (Zuf H.1 [Sp1 x34] Sess.row (y':=(Sess.mk x33.ID x34 x33.State x33.Age)) ex33 rfl trivial rfl rfl rfl (by first | exact Zqb _ | simp [go_sem]) rfl rfl rfl rfl (Ds ?_));refine GD ?_;exact W
       ·refine RI ?_;refine Gn H 1 6 ?_;refine Zna 2 10 rfl ?_ ?_
        ·refine RV ?_;refine RO ?_;refine RL ?_;refine Zma 11 rfl (GB H.1 h Z2l fun x34 ex34 h=>?_);refine Ds ?_;refine RO ?_;refine RI ?_;refine Gn H 1 1 ?_;refine Zma 14 rfl (Zuf H.1 [Sp1 x34] Sess.row (y':=(Sess.mk x33.ID x34 x33.State x33.Age)) ex33 rfl trivial rfl rfl rfl (by first | exact Zqb _ | simp [go_sem]) rfl rfl rfl rfl (Ds ?_));refine GD ?_;exact W
        ·refine RL ?_;have ⟨x34,ex34,h⟩:=Bs h;refine Zna 2 11 rfl ?_ ?_
         ·refine RV ?_;refine Zma 11 rfl (GC H.1 (Z2l ex34) (Ds ?_));refine RO ?_;refine RI ?_;refine Gn H 1 1 ?_;refine Zma 14 rfl (Zuf H.1 [Sp1 x34] Sess.row (y':=(Sess.mk x33.ID x34 x33.State x33.Age)) ex33 rfl trivial rfl rfl rfl (by first | exact Zqb _ | simp [go_sem]) rfl rfl rfl rfl (Ds ?_));refine GD ?_;exact W
         ·refine GC H.1 (Z2l ex34) (Ds ?_);refine R1 ?_;refine RO ?_;refine RI ?_;refine Gn H 1 1 ?_;refine Zma 14 rfl (Zuf H.1 [Sp1 x34] Sess.row (y':=(Sess.mk x33.ID x34 x33.State x33.Age)) ex33 rfl trivial rfl rfl rfl (by first | exact Zqb _ | simp [go_sem]) rfl rfl rfl rfl (Ds ?_));refine GD ?_;exact W
    ·exact W
  ·refine Zej fun all H=>?_;refine Gn H 4 11 ?_;refine Zna 1 7 rfl ?_ ?_
   ·refine RV ?_;have ⟨x16,ex16,h⟩:=Bs h;refine Zna 2 7 rfl ?_ ?_
    ·refine Zmj H.1 [] [2] 2 6 (Zpt ex16) (Ds ?_);have ⟨x18,ex18,h⟩:=Bs h;refine Zna 5 7 rfl ?_ ?_
     ·refine Zud H.1 rfl trivial (Z1l ex18) (h:=Ds ?_);refine R1 ?_;refine Gn H 1 6 ?_;refine Zma 8 rfl (GR H.1 [] [3] 2 8 h Zpt fun x20 ex20 h=>?_);refine Ds ?_;refine R1 ?_;refine Gn H 1 3 ?_;refine R1 ?_;refine Gn H 1 1 ?_;refine R1 ?_;refine GD ?_;exact W
     ·refine RV ?_;refine Gn H 1 7 ?_;refine Zma 5 rfl (Zud H.1 rfl trivial (Z1l ex18) (h:=Ds ?_));refine Zma 8 rfl (GR H.1 [] [3] 2 8 h Zpt fun _ _ h=>?_);refine Ds ?_;refine R1 ?_;refine Gn H 1 3 ?_;refine R1 ?_;refine Gn H 1 1 ?_;refine R1 ?_;refine GD ?_;exact W
    ·refine RV ?_;refine Zma 2 rfl (Zmj H.1 [] [2] 2 6 (Zpt ex16) ?_);refine Gn H 1 7 ?_;refine Zma 5 rfl ?_;have ⟨x18,ex18,h⟩:=Bs h;refine Zud H.1 rfl trivial (Z1l ex18) (h:=Ds ?_);refine Zma 8 rfl (GR H.1 [] [3] 2 8 h Zpt fun _ _ h=>?_);refine Ds ?_;refine R1 ?_;refine Gn H 1 3 ?_;refine R1 ?_;refine Gn H 1 1 ?_;refine R1 ?_;refine GD ?_;exact W
   ·refine RV ?_;refine R1 ?_;refine Zma 2 rfl (GR H.1 [] [2] 2 6 h Zpt fun _ _ h=>?_);refine Gn H 1 7 ?_;refine Zma 5 rfl ?_;have ⟨x17,ex17,h⟩:=Bs h;refine Zud H.1 rfl trivial (Z1l ex17) (h:=Ds ?_);refine Zma 8 rfl (GR H.1 [] [3] 2 8 h Zpt fun _ _ h=>?_);refine Ds ?_;refine R1 ?_;refine Gn H 1 3 ?_;refine R1 ?_;refine Gn H 1 1 ?_;refine Zma 14 rfl (RV ?_);refine GD ?_;exact W
 ·refine Zej fun all H=>Ds (GP H 5 11 [3,2,2,9] [(4,[.ptr 0 0,.ptr 0 0,.ptr 0 2]),(2,[.ptr 0 0,.ptr 0 4])] (Ds ?_));refine Zna 3 7 rfl ?_ ?_
  ·refine RV ?_;have ⟨x11,ex11,h⟩:=Bs h;refine Zna 4 7 rfl ?_ ?_
   ·refine Zmj H.1 [] [0] 2 4 (Z0t ex11) (Ds ?_);refine R1 ?_;refine Gn H 3 5 ?_;refine Zma 8 rfl (GR H.1 [] [1] 2 5 h Z1t fun x13 ex13 h=>?_);refine Ds ?_;refine GE H.1 12 (Ds ?_);refine Gn H 2 1 ?_;refine R1 ?_;refine GD ?_;exact W
   ·refine RV ?_;refine Zma 4 rfl (Zmj H.1 [] [0] 2 4 (Z0t ex11) ?_);refine Gn H 3 5 ?_;refine Zma 8 rfl (GR H.1 [] [1] 2 5 h Z1t fun _ _ h=>?_);refine Ds ?_;refine GE H.1 12 (Ds ?_);refine Gn H 2 1 ?_;refine R1 ?_;refine GD ?_;exact W
  ·refine RV ?_;refine R1 ?_;refine Zma 4 rfl (GR H.1 [] [0] 2 4 h Z0t fun _ _ h=>?_);refine Gn H 3 5 ?_;refine Zma 8 rfl (GR H.1 [] [1] 2 5 h Z1t fun _ _ h=>?_);refine Ds ?_;refine R1 ?_;refine Gn H 2 1 ?_;refine R1 ?_;refine GD ?_;exact W
def Zxx:(Int×List Side)→Option (List Side)
| (x25,x26)=>
 (vw_ (ln Side.row x26) x25 (ln Side.row x26)).bind fun _=>
 (Zsg x26 (Int.toNat (x25)) (Int.toNat (ln Side.row x26)-Int.toNat (x25)) (Side.mk 0 0 0 false false false false false)).bind fun x28=>
 (Z8c x28 0 x25).bind fun x29=>
 some x29
def Zyx (x12:Int):(Int×List Side)→Option ((Int×Int×List Side) ⊕ (List Side))
| (x17,x18)=>some (.inl (x17,wr (x12+1),x18))
def Zzx (p0:(Side→Option Bool)):(Int×Int×List Side)→Option ((Int×Int×List Side) ⊕ (List Side))
| (x11,x12,x13)=>
 ifb (decide (x12<(ln Side.row x13))) (
 (at_ x13 x12).bind fun x14=>
 (p0 x14).bind fun x15=>
 ifb (!x15) (
 (at_ x13 x11).bind fun _=>
 (Zyx x12) (wr (x11+1),x13.set (Int.toNat (x11)) x14)) (
 (Zyx x12) (x11,x13))) (
 Option.map Sum.inr (Zxx (x11,x13)))
def Z0y (x1:List Side) (p0:(Side→Option Bool)):Option (List Side):=
 (Zbk x1 p0).bind fun x2=>
 ifb (decide (x2=((-1)))) (
 some x1) (
 loop (Zzx p0) (x2,wr (x2+1),x1))
theorem Z1y {x1 g0 caps0 p0 r} (h:Z0y x1 p0=some r) (hc0:CloOK Tryz.prog g0 caps0 (fun z=>[.agg (Side.row z)]) p0 (fun z=>.bv z)):Z0f Tryz.prog 140 [.osl 0,.clo g0 caps0] [] [Zwj x1] (.osl 1) [] [none,Zwj r]:=by
 refine FT Zlt fun w0 M0=>?_;rw [Z0y] at h;dsimp only[lun,List.cons_append,List.nil_append];refine Vg 8 ?_;refine VN (LR.slice 0 rfl) h (fun e=>Zck e hc0) (fun _ _ h=>?_) (hp:=(by first | rfl | simp [go_sem,hc0.pu])) (ha:=(by first | exact Zqb _ | simp [go_sem,Zeb _ _ _ hc0.pu]));refine Vg 8 ?_;refine MI h (fun h=>?_) fun h=>?_
 ·refine Vg 5 ?_;refine Zjj 112 8 (Ds ?_);refine Zgj 0 1 (Ds ?_);(try rw [Zlh _ _ _ hc0.pu]);obtain rfl:=Option.some.inj h;exact Zkj Zlt
 ·refine Vg 8 ?_;refine Vl [0,1] (fun s=>([(5,.iv s.1)],[],[Zwj s.2])) Zxx r ?_ fun J1=>?_
  ·rintro ⟨x25,x26⟩ h;rw [Zxx] at h;(try dsimp only);refine Vg 4 ?_;have ⟨x27,ex27,h⟩:=Bs h;refine Zvg Side.row ex27 trivial rfl rfl rfl rfl ?_;have ⟨x28,ex28,h⟩:=Bs h;refine Zzg Side.row ex28 trivial rfl rfl (by first | exact Zqb _ | simp [go_sem]) (by first | rfl | simp [go_sem]) rfl rfl (Vg 5 ?_);have ⟨x29,ex29,h⟩:=Bs h;refine Zif Side.row ex29 trivial rfl rfl rfl rfl (Vg 2 ?_);obtain rfl:=Option.some.inj h;exact Zkj Zlt
  ·refine Vg 1 ?_;refine Ml h [0,2] (fun s=>([(5,.iv s.1),(6,.iv s.2.1)],[],[Zwj s.2.2])) ?_ (hok:=by rintro ⟨x11,x12,x13⟩;first | rfl | (simp [go_sem];done) | simp [go_sem,Zpb _ hc0.pu]);rintro n1 ⟨x11,x12,x13⟩ y1 h hin1 hout1;rw [Zzx] at h;(try dsimp only);refine Vg 8 ?_;refine MI h (fun h=>?_) fun h=>?_
   ·refine Vg 7 ?_;have ⟨x14,ex14,h⟩:=Bs h;refine Zde Side.row ex14 trivial rfl rfl rfl (Zme Side.row ex14 trivial rfl rfl rfl (Vg 7 ?_));have ⟨x15,ex15,h⟩:=Bs h;refine Z2d trivial rfl hc0 (x:=x14) ex15 (by first | exact Zqb _ | simp [go_sem]) (by first | rfl | simp [go_sem,hc0.pu]) (Vg 2 ?_);refine Vl [0,2,4,1] (fun s=>([(5,.iv s.1)],[],[Zwj s.2])) (Zyx x12) y1 ?_ fun J2=>?_
    ·rintro ⟨x17,x18⟩ h;rw [Zyx] at h;(try dsimp only);refine Vg 6 ?_;exact Zrc h hin1 (hok:=by first | rfl | simp [go_sem,Zpb _ hc0.pu])
    ·refine MI h (fun h=>?_) fun h=>?_
     ·refine Vg 5 ?_;have ⟨x16,ex16,h⟩:=Bs h;refine Zde Side.row ex16 trivial rfl rfl rfl (Zue (Side.row x14) Side.row (y':=x14) ex16 trivial rfl rfl rfl (by first | exact Zqb _ | simp [go_sem]) rfl rfl rfl rfl (Vg 6 ?_));exact Zsc J2 h (hok:=by first | rfl | simp [go_sem,Zpb _ hc0.pu])
     ·refine Vg 1 ?_;exact Zsc J2 h (hok:=by first | rfl | simp [go_sem,Zpb _ hc0.pu])
   ·refine Vg 1 ?_;exact Zsc J1 (Zdc h hout1) (hok:=by first | rfl | simp [go_sem])
def Z2y:Int→Option (Int×Int)
| x17=>some ((-1),x17)
def Z3y (x1:List KE):(Int×Int)→Option ((Int×Int) ⊕ (Int×Int))
| (x7,x8)=>
 ifb (decide (x7<(ln KE.row x1))) (
 (at_ x1 x7).bind fun x9=>
 (Z1u x9 x8).bind fun x10=>
 ifb x10 (
 Option.map Sum.inr (some (x7,x9.Peer))) (
 some (.inl (wr (x7+1),x9.Peer)))) (
 Option.map Sum.inr (Z2y x8))
def Z4y (x1:List KE) (x2:Int):Option (Int×Int):=loop (Z3y x1) (0,x2)
theorem Z5y {x1 x2 r} (h:Z4y x1 x2=some r):Z0f Tryz.prog 160 [Sp2 x1,.clo 106 [.ptr 0 0]] [some ⟨3,[.iv x2]⟩] [] (.iv r.1) [some ⟨3,[.iv r.2]⟩] []:=by
 refine FT Zdk fun w0 M0=>?_;have ok:=Zdk;rw [Z4y] at h;dsimp only[lun,List.cons_append,List.nil_append];refine Vg 11 ?_;refine Vl [] (fun x17=>([],[some ⟨3,[.iv x17]⟩],[])) Z2y r ?_ fun J1=>?_
 ·intro x17 h;rw [Z2y] at h;(try dsimp only);refine Vg 4 ?_;obtain rfl:=Option.some.inj h;exact Zkj Zdk
 ·refine Vg 1 ?_;refine Ml h [0,2,5,1] (fun s=>([(8,.iv s.1)],[some ⟨3,[.iv s.2]⟩],[])) ?_;rintro n1 ⟨x7,x8⟩ y1 h hin1 hout1;rw [Z3y] at h;(try dsimp only);refine Vg 5 ?_;refine MI h (fun h=>?_) fun h=>?_
  ·refine Vg 13 ?_;have ⟨x9,ex9,h⟩:=Bs h;refine Zic KE.row ex9 trivial rfl rfl rfl (Vg 1 ?_);have ⟨x10,ex10,h⟩:=Bs h;refine Zaf [true] [] trivial rfl (Z2u ex10) (by kernel_rfl) (h:=?_);refine Vg 1 ?_;refine MI h (fun h=>?_) fun h=>?_
   ·refine Vg 5 ?_;obtain rfl:=Option.some.inj (Zdc h hout1);exact Zkj Zdk
   ·exact W
  ·exact W
@[go_sem] def e77:EC:=eQ Tryz.f77
def Z6y:Bool→Option Bool
| x5=>some x5
def Z7y (x1:Node) (x2:KE):Option Bool:=
 (Zgr x1.DK.DI.SD ((fun z=>Z5o z x2))).bind fun x3=>
 ifb (!x3) (
 ifb (decide (0≤x2.Peer)) (
 ifb (decide (x2.Peer<x1.DK.DI.ID)) (
 (Z3o x1 x2.Peer).bind fun x4=>
 ifb (decide (x4<x2.Epoch)) (
 Z6y (decide (x2.Epoch≤65535))) (
 Z6y false)) (
 Z6y false)) (
 Z6y false)) (
 Z6y false)
theorem Z8y {x1 x2 r} (h:Z7y x1 x2=some r):Zy6 Tryz.prog 77 [.agg (Node.row x1),.agg (KE.row x2)] (.bv r):=by
 have ok:=oK 77 Tryz.f77 e77 [.t 4] 2 40;refine FP ok fun w0 H0=>?_;rw [Z7y] at h;refine Vg 13 ?_;refine VN (LR.block 1 rfl rfl) h (fun e=>Zhr e ⟨by kernel_rfl,rfl,fun z r hz=>Z6o hz⟩) fun x3 _ h=>?_;refine Vg 3 ?_;refine Vl [] (fun x5=>([(4,.bv x5)],[],[])) Z6y r ?_ fun J1=>?_
 ·intro x5 h;rw [Z6y] at h;exact W
 ·refine Zej fun all H=>Ds (GP H 3 28 [3,28] [(12,[.bv x3,.bv (!x3),.bv (!x3)])] (Ds ?_));refine Zcd 14 h rfl (fun _ h=>?_) fun _ h=>?_
  ·refine Ds (GP H 5 23 [8,23] [(15,[.ptr 1 0,.iv x2.Peer,.bv (decide (0≤x2.Peer)),.bv (decide (0≤x2.Peer)),.bv (decide (0≤x2.Peer))])] (Ds ?_));refine Zcd 19 h rfl (fun _ h=>?_) fun _ h=>?_
   ·refine Ds (GP H 9 14 [17,14] [(20,[.ptr 1 0,.iv x2.Peer,.ptr 0 0,.ptr 0 0,.ptr 0 0,.iv x1.DK.DI.ID,.bv (decide (x2.Peer<x1.DK.DI.ID)),.bv (decide (x2.Peer<x1.DK.DI.ID)),.bv (decide (x2.Peer<x1.DK.DI.ID))])] (Ds ?_));refine Zcd 28 h rfl (fun _ h=>?_) fun _ h=>?_
    ·refine Ds (GP H 5 9 [22,9] [(29,[.ptr 1 1,.iv x2.Epoch,.agg (Node.row x1),.ptr 1 0,.iv x2.Peer])] (Ds ?_));refine Zma 22 rfl (GB H.1 h Z4o fun x4 _ h=>?_);refine Ds (GP H 3 5 [26,5] [(35,[.bv (decide (x4<x2.Epoch)),.bv (decide (x4<x2.Epoch)),.bv (decide (x4<x2.Epoch))])] (Ds ?_));refine Zcd 37 h rfl (fun _ h=>?_) fun _ h=>?_
     ·refine Ds (GP H 5 0 [31] [(4,[.bv (decide (x2.Epoch≤65535))]),(33,[.ptr 1 1,.iv x2.Epoch,.bv (decide (x2.Epoch≤65535)),.bv (decide (x2.Epoch≤65535))])] (Ds ?_));refine GD ?_;exact W
     ·refine Ds (GP H 5 0 [31] [(41,[.ff])] (Ds ?_));refine GD ?_;exact W
    ·refine Ds (GP H 14 0 [31] [(36,[.ff,.ff]),(3,[.ff])] (Ds ?_));refine GD ?_;exact W
   ·refine Ds (GP H 23 0 [31] [(27,[.ff,.ff]),(7,[.ff,.ff]),(3,[.ff])] (Ds ?_));refine GD ?_;exact W
  ·refine Ds (GP H 28 0 [31] [(18,[.ff,.ff]),(7,[.ff,.ff]),(7,[.ff,.ff]),(3,[.ff])] (Ds ?_));refine GD ?_;exact W
@[go_sem] def e78:EC:=eQ Tryz.f78
def Z9y:Unit→Option Bool
| ()=>some true
def Zay (x1:List KE):Int→Option (Int ⊕ Bool)
| x6=>
 ifb (decide (x6<(ln KE.row x1))) (
 (at_ x1 x6).bind fun x7=>
 (Z8c x1 0 x6).bind fun x8=>
 (Zjr x8 ((fun z=>Z7o z x7))).bind fun x9=>
 ifb x9 (
 Option.map Sum.inr (some false)) (
 some (.inl (wr (x6+1))))) (
 Option.map Sum.inr (Z9y ()))
def Zby (x1:List KE):Option Bool:=loop (Zay x1) 0
theorem Zcy {x1 r} (h:Zby x1=some r):Zy6 Tryz.prog 78 [Sp2 x1] (.bv r):=by
 have ok:=oK 78 Tryz.f78 e78 [.t 2] 1 17;refine FP ok fun w0 H0=>?_;rw [Zby] at h;refine Vg 11 ?_;refine Vk [] (fun _=>[]) Z9y r ?_ fun J1=>?_
 ·rintro ⟨⟩ h;rw [Z9y] at h;exact W
 ·refine Vg 1 ?_;refine Mk h [0,1,4,2] (fun x6=>[(7,.iv x6)]) ?_;rintro n1 x6 y1 h hin1 hout1;rw [Zay] at h;(try dsimp only);refine Vg 5 ?_;refine MI h (fun h=>?_) fun h=>?_
  ·refine Vg 6 ?_;have ⟨x7,ex7,h⟩:=Bs h;refine Zic KE.row ex7 trivial rfl rfl rfl (Vg 9 ?_);have ⟨x8,ex8,h⟩:=Bs h;refine Zkd KE.row ex8 trivial rfl rfl rfl rfl (Vg 1 ?_);refine VN (LR.block 0 rfl rfl) h (fun e=>Zkr e ⟨by kernel_rfl,rfl,fun z r hz=>Z8o hz⟩) fun _ _ h=>?_;refine Zf6 1 (Ds ?_);refine An ?_;exact W
  ·exact W
@[go_sem] def e192:EC:=eQ Tryz.f192
def Zdy (x1 x2:Edge):Option Int:=
 (Zbu x1.A x2.A).bind fun x3=>
 (Zbu x1.B x2.B).bind fun x4=>
 (Zso ([x3,x4])).bind fun x5=>
 some x5
theorem Zey {x1 x2 r} (h:Zdy x1 x2=some r):Zy6 Tryz.prog 192 [.agg (Edge.row x1),.agg (Edge.row x2)] (.iv r):=by have ok:=oK 192 Tryz.f192 e192 [.t 4] 2 15;refine FP ok fun w0 H0=>?_;rw [Zdy] at h;refine Vg 7 ?_;refine Zej fun all H=>Ds (GP H 8 5 [4,1,4,4] [(5,[.ptr 0 0,.iv x1.A,.ptr 1 0,.iv x2.A]),(1,[.ptr 0 1,.iv x1.B,.ptr 1 1,.iv x2.B])] (Ds ?_));refine Zma 4 rfl (GB H.1 h Zcu fun _ _ h=>?_);refine Ds ?_;refine Zma 9 rfl (GB H.1 h Zcu fun _ _ h=>?_);refine Ds ?_;refine R1 ?_;refine Zma 11 rfl (GQ H.1 (LR.slice 0 rfl) h Zto fun _ _ h=>?_);refine Gn H 1 0 ?_;refine GD ?_;exact W
@[go_sem] def e198:EC:=eQ Tryz.f198
def Zfy:List Int→Option (List Int)
| x23=>some x23
def Zgy (x10:Int):List Int→Option ((Int×List Int) ⊕ (List Int))
| x16=>some (.inl (wr (x10+1),x16))
def Zhy (x1:Graph) (x2:Int) (x10:Int) (x11:List Int):Bool→Option ((Int×List Int) ⊕ (List Int))
| x13=>
 ifb x13 (
 (Z4p x1 x2 x10).bind fun x14=>
 ifb x14 (
 (Z7c 8 x11 ([x10])).bind fun x15=>
 (Zgy x10) x15) (
 (Zgy x10) x11)) (
 Option.map Sum.inr (Zfy x11))
def Ziy (x1:Graph) (x2:Int):(Int×List Int)→Option ((Int×List Int) ⊕ (List Int))
| (x10,x11)=>
 ifb (decide (x10<x1.N)) (
 (Zhu x1).bind fun x12=>
 (Zhy x1 x2 x10 x11) x12) (
 (Zhy x1 x2 x10 x11) false)
def Zjy (x1:Graph) (x2:Int):Option (List Int):=loop (Ziy x1 x2) (0,([]:List Int))
theorem Zky {x1 x2 r} (h:Zjy x1 x2=some r):Zpd Tryz.prog 198 [.agg (Graph.row x1),.iv x2] 3 1 (List.map Z3d r):=by
 have ok:=oK 198 Tryz.f198 e198 [.t 4] 2 25;refine Zqd ok rfl fun w0 H0=>?_;rw [Zjy] at h;refine Vg 15 ?_;refine Vl [5,1] (fun x23=>([],[],[Sq4 x23])) Zfy r ?_ fun J1=>?_
 ·intro x23 h;rw [Zfy] at h;(try dsimp only);refine Vg 5 ?_;exact Z9e Z3d ok h rfl rfl
 ·refine Vg 1 ?_;refine Mm h [1,2,2,1] (fun s=>([(6,.iv s.1)],[],[],[(0,Sq4 s.2)])) ?_;rintro n1 ⟨x10,x11⟩ y1 h hin1 hout1;rw [Ziy] at h;(try dsimp only);refine Vg 8 ?_;refine Vk [1,2,2,2] (fun x13=>[(15,.bv x13)]) (Zhy x1 x2 x10 x11) y1 ?_ fun J2=>?_
  ·intro x13 h;rw [Zhy] at h;(try dsimp only);refine MI h (fun h=>?_) fun h=>?_
   ·refine Vg 8 ?_;refine VB h Z5p fun _ _ h=>?_;refine Vg 1 ?_;refine Vm [1,2,2,2] (fun x16=>([],[],[],[(0,Sq4 x16)])) (Zgy x10) y1 ?_ fun J3=>?_
    ·intro x16 h;rw [Zgy] at h;exact W
    ·refine MI h (fun h=>?_) fun h=>?_
     ·refine Vg 4 ?_;have ⟨x15,ex15,h⟩:=Bs h;refine Zlc Z3d ex15 trivial rfl rfl rfl (Vg 2 ?_);refine Zgj 2 0 ?_;exact W
     ·exact W
   ·exact W
  ·refine MC 12 h (fun h=>?_) fun h=>?_
   ·refine Vg 1 ?_;refine VB h Ziu fun _ _ h=>?_;exact W
   ·exact W
theorem Zly {x1 x2 r} (h:Zjy x1 x2=some r):Zy6 Tryz.prog 198 [.agg (Graph.row x1),.iv x2] (Sp1 r):=(Zky h).sealed
end
end NX
end Go.Proofs.YtgamgemlekpepaaGreat
