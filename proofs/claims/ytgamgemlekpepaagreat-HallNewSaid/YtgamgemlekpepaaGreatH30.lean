/-
  The function narthex/H.1.done, lent own memory. Written by a program of ours (lb.py). No statement of the seat is proved here.
-/
import Derived.Test.YtgamgemlekpepaaGreatH29
set_option maxRecDepth 100000
set_option maxHeartbeats 40000000
namespace Go.Proofs.YtgamgemlekpepaaGreat
namespace NX
open Go
noncomputable section
def Zd91 (x2:Int) (x9:List Event) (x11:Node):(List Node×List Mail)→Option (List Event×Int×List Node×List Mail)
| (x16,x17)=>
 (at_ x16 x2).bind fun _=>
 some (x9,0,x16.set (Int.toNat (x2)) x11,x17)
def Ze91 (x1:Hall) (x2:Int) (x3:List Mail):(List Mail×List Event×Int×Node)→Option (List Event×Int×List Node×List Mail)
| (x8,x9,x10,x11)=>
 ifb (!decide (x10=0)) (
 some (([]:List Event),x10,([]:List Node),([]:List Mail))) (
 (Zzq x1.Nodes).bind fun x12=>
 (Ziz ([x3,x8])).bind fun x14=>
 (Zd91 x2 x9 x11) (x12,x14))
def Zf91 (x1:Hall) (x2:Int) (x3:List Mail) (x4:Do):Option (List Event×Int×List Node×List Mail):=
 (at_ x1.Nodes x2).bind fun x5=>
 (Z991 x5 x4).bind fun x6=>
 (Ze91 x1 x2 x3) (x6.2.1,x6.2.2.1,x6.2.2.2,x6.1)
theorem Zg91 {x1 x2 x3 x4 r} (h:Zf91 x1 x2 x3 x4=some r):Z0f Tryz.prog 36 [.agg (Hall.row x1),.agg [.iv x2,Sp9 x3,.clo 38 [.ptr 0 0]]] [some ⟨42,Do.row x4⟩] [] (.tup [.agg [.osl 0,.osl 1],Sp7 r.1,.iv r.2.1]) [none] [Sq0 r.2.2.1,Sq6 r.2.2.2]:=by
 refine FT ok36 fun w0 M0=>?_;have ok:=ok36;rw [Zf91] at h;dsimp only[lun,List.cons_append,List.nil_append];refine Vg 9 ?_;refine Ze8 0 rfl rfl (Ds ?_);refine Vl [2,3] (fun s=>([(7,.ptr 4 0),(8,Sp9 s.1),(9,Sp7 s.2.1),(10,.iv s.2.2.1)],[none,some ⟨29,Hall.row x1⟩,some ⟨104,[.iv x2,Sp9 x3,.clo 38 [.elt (Do.row x4) 0]]⟩,some ⟨29,[.nl,.nl]⟩,some ⟨67,[.iv s.2.2.2.DK.DI.ID,.iv s.2.2.2.DK.DI.PH,Sp3 s.2.2.2.DK.DI.SD,.iv s.2.2.2.DK.TH,Sp1 s.2.2.2.DK.Need,.iv s.2.2.2.Book.Last,Sp5 s.2.2.2.Book.Sess,Sp2 s.2.2.2.KN,Sp1 s.2.2.2.Told,Sp2 s.2.2.2.AK]⟩],[])) (Ze91 x1 x2 x3) r ?_ fun J1=>?_
 ·rintro ⟨x8,x9,x10,x11⟩ h;rw [Ze91] at h;(try dsimp only);refine Vg 6 ?_;refine MI h (fun h=>?_) fun h=>?_
  ·refine Vg 8 ?_;refine Zij 3 0 67 10 (Ds ?_);refine Zij 3 1 53 5 (Ds ?_);obtain rfl:=Option.some.inj h;exact Zkj ok36
  ·refine Vg 2 ?_;refine Vl [3,2,2,1,1,1] (fun s=>([(11,.ptr 5 0)],[none,none,some ⟨104,[.iv x2,Sp9 x3,.clo 38 [.elt (Do.row x4) 0]]⟩,some ⟨29,[.nl,.nl]⟩,some ⟨67,Node.row x11⟩,some ⟨29,[.osl 0,.osl 2]⟩],[Sq0 s.1,none,Sq6 s.2])) (Zd91 x2 x9 x11) r ?_ fun J2=>?_
   ·rintro ⟨x16,x17⟩ h;rw [Zd91] at h;(try dsimp only);refine Vg 7 ?_;have ⟨x18,ex18,h⟩:=Bs h;refine Zde Node.row ex18 trivial rfl rfl rfl (Zue (Node.row x11) Node.row (y':=x11) ex18 trivial rfl rfl rfl (by first | exact Zqb _ | simp [go_sem]) rfl rfl rfl rfl (Vg 9 ?_));refine Zgj 2 1 (Ds ?_);obtain rfl:=Option.some.inj h;exact Zkj ok36
   ·refine Zej fun all H=>?_;refine Gn H 5 6 ?_;have ⟨x12,ex12,h⟩:=Bs h;refine Zoa 2 6 9 rfl ?_ ?_ ?_
    ·refine Zud H.1 rfl trivial (Z0r ex12) (h:=Ds ?_);refine Zna 6 9 rfl ?_ ?_
     ·refine Zlb H.1 rfl trivial rfl trivial (Ds ?_);have ⟨x14,ex14,h⟩:=Bs h;refine Zna 7 9 rfl ?_ ?_
      ·refine Zud H.1 rfl trivial (Zjz ex14) (h:=?_);refine Gn H 1 2 ?_;refine R1 ?_;refine R1 ?_;refine GD ?_;exact W
      ·refine RV ?_;refine Zma 7 rfl (Zud H.1 rfl trivial (Zjz ex14) (h:=?_));refine Gn H 1 1 ?_;refine R1 ?_;refine GD ?_;exact W
     ·refine RV ?_;refine Zma 6 rfl (Zlb H.1 rfl trivial rfl trivial (Ds ?_));refine Zma 7 rfl ?_;have ⟨x14,ex14,h⟩:=Bs h;refine Zud H.1 rfl trivial (Zjz ex14) (h:=?_);refine Gn H 1 1 ?_;refine R1 ?_;refine GD ?_;exact W
    ·refine Zlb H.1 rfl trivial rfl trivial (Ds ?_);refine Zna 2 9 rfl ?_ ?_
     ·refine Zud H.1 rfl trivial (Z0r ex12) (h:=Ds ?_);have ⟨x14,ex14,h⟩:=Bs h;refine Zna 7 9 rfl ?_ ?_
      ·refine Zud H.1 rfl trivial (Zjz ex14) (h:=?_);refine Gn H 1 2 ?_;refine R1 ?_;refine R1 ?_;refine GD (Zgj 1 0 ?_);exact W
      ·refine RV ?_;refine Zma 7 rfl (Zud H.1 rfl trivial (Zjz ex14) (h:=?_));refine Gn H 1 1 ?_;refine R1 ?_;refine GD (Zgj 1 0 ?_);exact W
     ·refine RV ?_;refine Zma 2 rfl (Zud H.1 rfl trivial (Z0r ex12) (h:=Ds ?_));refine Zma 7 rfl ?_;have ⟨x14,ex14,h⟩:=Bs h;refine Zud H.1 rfl trivial (Zjz ex14) (h:=?_);refine Gn H 1 1 ?_;refine R1 ?_;refine GD (Zgj 1 0 ?_);exact W
    ·refine RV ?_;refine Zna 2 6 rfl ?_ ?_
     ·refine Zud H.1 rfl trivial (Z0r ex12) (h:=Ds ?_);refine Zma 6 rfl (Zlb H.1 rfl trivial rfl trivial (Ds ?_));refine Zma 7 rfl ?_;have ⟨x14,ex14,h⟩:=Bs h;refine Zud H.1 rfl trivial (Zjz ex14) (h:=?_);refine Gn H 1 1 ?_;refine R1 ?_;refine GD ?_;exact W
     ·refine Zlb H.1 rfl trivial rfl trivial (Ds ?_);refine Zma 2 rfl (Zud H.1 rfl trivial (Z0r ex12) (h:=Ds ?_));refine Zma 7 rfl ?_;have ⟨x14,ex14,h⟩:=Bs h;refine Zud H.1 rfl trivial (Zjz ex14) (h:=?_);refine Gn H 1 1 ?_;refine R1 ?_;refine GD (Zgj 1 0 ?_);exact W
 ·refine Zej fun all H=>Ds (GP H 6 13 [6,13] [(13,[.ptr 2 2,.clo 38 [.elt (Do.row x4) 0],.ptr 1 0,Zyj x1.Nodes,.ptr 2 0,.iv x2])] (Ds ?_));have ⟨x5,ex5,h⟩:=Bs h;refine Zjc H.1 H.2.1 H.2.2.1 H.2.2.2 6 Node.row ex5 rfl rfl trivial rfl rfl rfl rfl (Gn H 1 11 ?_);have ⟨x6,ex6,h⟩:=Bs h;refine Zna 8 14 rfl ?_ ?_
  ·refine Zva H.1 rfl trivial rfl (Za91 ex6) (by kernel_rfl) (h:=Ds ?_);refine GP H 5 5 [14,5] [(12,[.tup [.agg (Node.row x6.1),Sp9 x6.2.1,Sp7 x6.2.2.1,.iv x6.2.2.2]]),(9,[.agg (Node.row x6.1),Sp9 x6.2.1,Sp7 x6.2.2.1,.iv x6.2.2.2])] (Ds ?_);refine R1 ?_;refine R1 ?_;refine Gn H 3 0 ?_;refine GD ?_;exact W
  ·refine RV ?_;refine Zma 8 rfl (Zva H.1 rfl trivial rfl (Za91 ex6) (by kernel_rfl) (h:=Ds ?_));refine GP H 5 4 [15,4] [(12,[.tup [.agg (Node.row x6.1),Sp9 x6.2.1,Sp7 x6.2.2.1,.iv x6.2.2.2]]),(9,[.agg (Node.row x6.1),Sp9 x6.2.1,Sp7 x6.2.2.1,.iv x6.2.2.2])] (Ds ?_);refine R1 ?_;refine Gn H 3 0 ?_;refine GD ?_;exact W
def Zh91 (x2:Int) (x10:List Event) (x12:Node):(List Node×List Mail)→Option (List Event×Int×List Node×List Mail)
| (x17,x18)=>
 (at_ x17 x2).bind fun _=>
 some (x10,0,x17.set (Int.toNat (x2)) x12,x18)
def Zi91 (x1:Hall) (x2:Int) (x5:List Mail):(List Mail×List Event×Int×Node)→Option (List Event×Int×List Node×List Mail)
| (x9,x10,x11,x12)=>
 ifb (!decide (x11=0)) (
 some (([]:List Event),x11,([]:List Node),([]:List Mail))) (
 (Zzq x1.Nodes).bind fun x13=>
 (Ziz ([x5,x9])).bind fun x15=>
 (Zh91 x2 x10 x12) (x13,x15))
def Zj91 (x1:Hall) (x2:Int) (x3:Int) (x4:Msg) (x5:List Mail):Option (List Event×Int×List Node×List Mail):=
 (at_ x1.Nodes x2).bind fun x6=>
 (Zb91 x6 x3 x4).bind fun x7=>
 (Zi91 x1 x2 x5) (x7.2.1,x7.2.2.1,x7.2.2.2,x7.1)
theorem Zk91 {x1 x2 x3 x4 x5 r} (h:Zj91 x1 x2 x3 x4 x5=some r):Z0f Tryz.prog 36 [.agg (Hall.row x1),.agg [.iv x2,.osl 0,.clo 43 [.ptr 0 0,.ptr 1 0]]] [some ⟨3,[.iv x3]⟩,some ⟨51,Msg.row x4⟩] [Sq6 x5] (.tup [.agg [.osl 1,.osl 2],Sp7 r.1,.iv r.2.1]) [none,none] [none,Sq0 r.2.2.1,Sq6 r.2.2.2]:=by
 refine FT ok36 fun w0 M0=>?_;have ok:=ok36;rw [Zj91] at h;dsimp only[lun,List.cons_append,List.nil_append];refine Vg 9 ?_;refine Ze8 0 rfl rfl (Ds ?_);refine Ze8 1 rfl rfl (Ds ?_);refine Vl [2,3] (fun s=>([(7,.ptr 5 0),(8,Sp9 s.1),(9,Sp7 s.2.1),(10,.iv s.2.2.1)],[none,none,some ⟨29,Hall.row x1⟩,some ⟨104,[.iv x2,.osl 0,.clo 43 [.elt [.iv x3] 0,.elt (Msg.row x4) 0]]⟩,some ⟨29,[.nl,.nl]⟩,some ⟨67,[.iv s.2.2.2.DK.DI.ID,.iv s.2.2.2.DK.DI.PH,Sp3 s.2.2.2.DK.DI.SD,.iv s.2.2.2.DK.TH,Sp1 s.2.2.2.DK.Need,.iv s.2.2.2.Book.Last,Sp5 s.2.2.2.Book.Sess,Sp2 s.2.2.2.KN,Sp1 s.2.2.2.Told,Sp2 s.2.2.2.AK]⟩],[Sq6 x5])) (Zi91 x1 x2 x5) r ?_ fun J1=>?_
 ·rintro ⟨x9,x10,x11,x12⟩ h;rw [Zi91] at h;(try dsimp only);refine Vg 6 ?_;refine MI h (fun h=>?_) fun h=>?_
  ·refine Vg 8 ?_;refine Zij 4 0 67 10 (Ds ?_);refine Zij 4 1 53 5 (Ds ?_);obtain rfl:=Option.some.inj h;exact Zkj ok36
  ·refine Vg 2 ?_;refine Zhj 0 (Ds ?_);refine Vl [3,2,2,1,1,1] (fun s=>([(11,.ptr 6 0)],[none,none,none,some ⟨104,[.iv x2,Sp9 x5,.clo 43 [.elt [.iv x3] 0,.elt (Msg.row x4) 0]]⟩,some ⟨29,[.nl,.nl]⟩,some ⟨67,Node.row x12⟩,some ⟨29,[.osl 1,.osl 3]⟩],[none,Sq0 s.1,none,Sq6 s.2])) (Zh91 x2 x10 x12) r ?_ fun J2=>?_
   ·rintro ⟨x17,x18⟩ h;rw [Zh91] at h;(try dsimp only);refine Vg 7 ?_;have ⟨x19,ex19,h⟩:=Bs h;refine Zde Node.row ex19 trivial rfl rfl rfl (Zue (Node.row x12) Node.row (y':=x12) ex19 trivial rfl rfl rfl (by first | exact Zqb _ | simp [go_sem]) rfl rfl rfl rfl (Vg 9 ?_));refine Zgj 3 2 (Ds ?_);obtain rfl:=Option.some.inj h;exact Zkj ok36
   ·refine Zej fun all H=>?_;refine Gn H 5 6 ?_;have ⟨x13,ex13,h⟩:=Bs h;refine Zoa 2 6 9 rfl ?_ ?_ ?_
    ·refine Zud H.1 rfl trivial (Z0r ex13) (h:=Ds ?_);refine Zna 6 9 rfl ?_ ?_
     ·refine Zlb H.1 rfl trivial rfl trivial (Ds ?_);have ⟨x15,ex15,h⟩:=Bs h;refine Zna 7 9 rfl ?_ ?_
      ·refine Zud H.1 rfl trivial (Zjz ex15) (h:=?_);refine Gn H 1 2 ?_;refine R1 ?_;refine R1 ?_;refine GD ?_;exact W
      ·refine RV ?_;refine Zma 7 rfl (Zud H.1 rfl trivial (Zjz ex15) (h:=?_));refine Gn H 1 1 ?_;refine R1 ?_;refine GD ?_;exact W
     ·refine RV ?_;refine Zma 6 rfl (Zlb H.1 rfl trivial rfl trivial (Ds ?_));refine Zma 7 rfl ?_;have ⟨x15,ex15,h⟩:=Bs h;refine Zud H.1 rfl trivial (Zjz ex15) (h:=?_);refine Gn H 1 1 ?_;refine R1 ?_;refine GD ?_;exact W
    ·refine Zlb H.1 rfl trivial rfl trivial (Ds ?_);refine Zna 2 9 rfl ?_ ?_
     ·refine Zud H.1 rfl trivial (Z0r ex13) (h:=Ds ?_);have ⟨x15,ex15,h⟩:=Bs h;refine Zna 7 9 rfl ?_ ?_
      ·refine Zud H.1 rfl trivial (Zjz ex15) (h:=?_);refine Gn H 1 2 ?_;refine R1 ?_;refine R1 ?_;refine GD (Zgj 2 1 ?_);exact W
      ·refine RV ?_;refine Zma 7 rfl (Zud H.1 rfl trivial (Zjz ex15) (h:=?_));refine Gn H 1 1 ?_;refine R1 ?_;refine GD (Zgj 2 1 ?_);exact W
     ·refine RV ?_;refine Zma 2 rfl (Zud H.1 rfl trivial (Z0r ex13) (h:=Ds ?_));refine Zma 7 rfl ?_;have ⟨x15,ex15,h⟩:=Bs h;refine Zud H.1 rfl trivial (Zjz ex15) (h:=?_);refine Gn H 1 1 ?_;refine R1 ?_;refine GD (Zgj 2 1 ?_);exact W
    ·refine RV ?_;refine Zna 2 6 rfl ?_ ?_
     ·refine Zud H.1 rfl trivial (Z0r ex13) (h:=Ds ?_);refine Zma 6 rfl (Zlb H.1 rfl trivial rfl trivial (Ds ?_));refine Zma 7 rfl ?_;have ⟨x15,ex15,h⟩:=Bs h;refine Zud H.1 rfl trivial (Zjz ex15) (h:=?_);refine Gn H 1 1 ?_;refine R1 ?_;refine GD ?_;exact W
     ·refine Zlb H.1 rfl trivial rfl trivial (Ds ?_);refine Zma 2 rfl (Zud H.1 rfl trivial (Z0r ex13) (h:=Ds ?_));refine Zma 7 rfl ?_;have ⟨x15,ex15,h⟩:=Bs h;refine Zud H.1 rfl trivial (Zjz ex15) (h:=?_);refine Gn H 1 1 ?_;refine R1 ?_;refine GD (Zgj 2 1 ?_);exact W
 ·refine Zej fun all H=>Ds (GP H 6 13 [6,13] [(13,[.ptr 3 2,.clo 43 [.elt [.iv x3] 0,.elt (Msg.row x4) 0],.ptr 2 0,Zyj x1.Nodes,.ptr 3 0,.iv x2])] (Ds ?_));have ⟨x6,ex6,h⟩:=Bs h;refine Zjc H.1 H.2.1 H.2.2.1 H.2.2.2 6 Node.row ex6 rfl rfl trivial rfl rfl rfl rfl (Gn H 1 11 ?_);have ⟨x7,ex7,h⟩:=Bs h;refine Zna 8 14 rfl ?_ ?_
  ·refine Zva H.1 rfl trivial rfl (Zc91 ex7) (by kernel_rfl) (h:=Ds ?_);refine GP H 5 5 [14,5] [(12,[.tup [.agg (Node.row x7.1),Sp9 x7.2.1,Sp7 x7.2.2.1,.iv x7.2.2.2]]),(9,[.agg (Node.row x7.1),Sp9 x7.2.1,Sp7 x7.2.2.1,.iv x7.2.2.2])] (Ds ?_);refine R1 ?_;refine R1 ?_;refine Gn H 3 0 ?_;refine GD ?_;exact W
  ·refine RV ?_;refine Zma 8 rfl (Zva H.1 rfl trivial rfl (Zc91 ex7) (by kernel_rfl) (h:=Ds ?_));refine GP H 5 4 [15,4] [(12,[.tup [.agg (Node.row x7.1),Sp9 x7.2.1,Sp7 x7.2.2.1,.iv x7.2.2.2]]),(9,[.agg (Node.row x7.1),Sp9 x7.2.1,Sp7 x7.2.2.1,.iv x7.2.2.2])] (Ds ?_);refine R1 ?_;refine Gn H 3 0 ?_;refine GD ?_;exact W
@[go_sem] def e16:EC:=eQ Tryz.f16
def Zl91 (x1:Hall) (x2:Int) (x3:Do):Bool→Option (Hall×List Event×Int)
| x7=>
 ifb x7 (
 some ((Hall.mk (([]:List Node)) (([]:List Mail))),([]:List Event),191)) (
 (Z7w x1).bind fun x8=>
 (Zf91 x8 x2 x1.Mail x3).bind fun x9=>
 some ((Hall.mk x9.2.2.1 x9.2.2.2),x9.1,x9.2.1))
def Zm91 (x1:Hall) (x2:Int) (x3:Do):Option (Hall×List Event×Int):=
 (Zk81 x1).bind fun x4=>
 ifb (!decide (x4=0)) (
 some ((Hall.mk (([]:List Node)) (([]:List Mail))),([]:List Event),x4)) (
 (Zqq x1 x2).bind fun x5=>
 ifb (!x5) (
 (Zl91 x1 x2 x3) true) (
 ifb (decide (x3.Kind=4)) (
 (Zqq x1 x3.Peer).bind fun x6=>
 (Zl91 x1 x2 x3) (!x6)) (
 (Zl91 x1 x2 x3) false)))
theorem Zn91 {x1 x2 x3 r} (h:Zm91 x1 x2 x3=some r):Zy6 Tryz.prog 16 [.agg (Hall.row x1),.iv x2,.agg (Do.row x3)] (.tup [.agg (Hall.row r.1),Sp7 r.2.1,.iv r.2.2]):=by
 have ok:=oK 16 Tryz.f16 e16 [.c 6 (some 2),.t 7,.t 8] 3 41;refine FP ok fun w0 H0=>?_;rw [Zm91] at h;refine Vg 12 ?_;refine VB h Zl81 fun _ _ h=>?_;refine Vg 7 ?_;refine MI h (fun h=>?_) fun h=>?_
 ·exact W
 ·refine Vg 6 ?_;refine VB h Zrq fun _ _ h=>?_;refine Vg 2 ?_;refine Vk [1,1,1,1,1,2] (fun x7=>[(31,.bv x7)]) (Zl91 x1 x2 x3) r ?_ fun J1=>?_
  ·intro x7 h;rw [Zl91] at h;(try dsimp only);refine MI h (fun h=>?_) fun h=>?_
   ·exact W
   ·refine Vg 2 ?_;refine Zej fun all H=>Ds (GP H 6 8 [1,1,5,7] [(33,[.agg (Hall.row x1)]),(1,[.iv x2,.ptr 0 1,Sp9 x1.Mail,.clo 38 [.ptr 1 0],.agg [.iv x2,Sp9 x1.Mail,.clo 38 [.ptr 1 0]]])] (Ds ?_));refine Zma 1 rfl (GB H.1 h Z8w fun _ _ h=>?_);refine Ds ?_;refine Zma 7 rfl (GF H.1 [1] [] 3 0 h Zg91 fun _ _ h=>?_);refine Gn H 3 3 ?_;refine R1 ?_;refine Gn H 2 0 ?_;refine GD (Zhj 0 (Ds ?_));refine Zhj 1 ?_;exact W
  ·refine MC 20 h (fun h=>?_) fun h=>?_
   ·exact W
   ·refine Vg 4 ?_;refine MC 24 h (fun h=>?_) fun h=>?_
    ·refine Vg 3 ?_;refine VB h Zrq fun _ _ h=>?_;exact W
    ·exact W
@[go_sem] def e17:EC:=eQ Tryz.f17
def Zo91:(List Event×Int×List Node×List Mail)→Option (Hall×List Event×Int)
| (x16,x17,x18,x19)=>some ((Hall.mk x18 x19),x16,x17)
def Zp91 (x1:Hall) (x2:Int) (x3:Int):Bool→Option (Hall×List Event×Int)
| x7=>
 ifb x7 (
 some ((Hall.mk (([]:List Node)) (([]:List Mail))),([]:List Event),191)) (
 (Zuq x1.Mail ((fun z=>Z4r z x2 x3))).bind fun x8=>
 ifb (decide (x8<0)) (
 some ((Hall.mk (([]:List Node)) (([]:List Mail))),([]:List Event),192)) (
 (at_ x1.Mail x8).bind fun x9=>
 (Z8c x1.Mail 0 x8).bind fun x10=>
 (Z8c x1.Mail (wr (x8+1)) (ln Mail.row x1.Mail)).bind fun x11=>
 (Z7w x1).bind fun x12=>
 (Ziz ([x10,x11])).bind fun x14=>
 (Zj91 x12 x3 x2 x9.Msg x14).bind fun x15=>
 Zo91 (x15.1,x15.2.1,x15.2.2.1,x15.2.2.2)))
def Zq91 (x1:Hall) (x2:Int) (x3:Int):Option (Hall×List Event×Int):=
 (Zk81 x1).bind fun x4=>
 ifb (!decide (x4=0)) (
 some ((Hall.mk (([]:List Node)) (([]:List Mail))),([]:List Event),x4)) (
 (Zqq x1 x2).bind fun x5=>
 ifb (!x5) (
 (Zp91 x1 x2 x3) true) (
 (Zqq x1 x3).bind fun x6=>
 (Zp91 x1 x2 x3) (!x6)))
theorem Zr91 {x1 x2 x3 r} (h:Zq91 x1 x2 x3=some r):Zy6 Tryz.prog 17 [.agg (Hall.row x1),.iv x2,.iv x3] (.tup [.agg (Hall.row r.1),Sp7 r.2.1,.iv r.2.2]):=by
 have ok:=oK 17 Tryz.f17 e17 [.c 6 (some 2),.t 7,.t 8] 3 59;refine FP ok fun w0 H0=>?_;rw [Zq91] at h;refine Vg 13 ?_;refine VB h Zl81 fun _ _ h=>?_;refine Vg 7 ?_;refine MI h (fun h=>?_) fun h=>?_
 ·exact W
 ·refine Vg 6 ?_;refine VB h Zrq fun _ _ h=>?_;refine Vg 2 ?_;refine Vk [3,4] (fun x7=>[(27,.bv x7)]) (Zp91 x1 x2 x3) r ?_ fun J1=>?_
  ·intro x7 h;rw [Zp91] at h;(try dsimp only);refine MI h (fun h=>?_) fun h=>?_
   ·exact W
   ·refine Vg 6 ?_;refine VN ((LR.block 1 rfl rfl).block 2 rfl rfl) h (fun e=>Zvq e ⟨by kernel_rfl,rfl,fun z r hz=>Z5r hz⟩) fun x8 _ h=>?_;refine Vg 8 ?_;refine MI h (fun h=>?_) fun h=>?_
    ·exact W
    ·refine Vg 6 ?_;have ⟨x9,ex9,h⟩:=Bs h;refine Zic Mail.row ex9 trivial rfl rfl rfl (Vg 6 ?_);refine Vl [6,1] (fun s=>([(7,Sp7 s.1),(8,.iv s.2.1)],[none,none,none,some ⟨29,[.osl 2,.osl 3]⟩],[none,none,Sq0 s.2.2.1,Sq6 s.2.2.2])) Zo91 r ?_ fun J2=>?_
     ·rintro ⟨x16,x17,x18,x19⟩ h;rw [Zo91] at h;(try dsimp only);refine Zhj 2 (Ds ?_);refine Zhj 3 ?_;exact W
     ·refine Zej fun all H=>Ds (GP H 10 13 [1,1,4,1,4,3,1,8] [(42,[.agg (Hall.row x1)]),(1,[.iv x3,.ptr 0 1,Sp9 x1.Mail,.iv x8]),(1,[.ptr 0 1,Sp9 x1.Mail,.iv x8,.iv (wr (x8+1))]),(3,[.clo 43 [.ptr 1 0,.ptr 4 0]])] (Ds ?_));have ⟨x10,ex10,h⟩:=Bs h;refine Zld H.1 H.2.1 H.2.2.1 H.2.2.2 6 Mail.row ex10 rfl rfl trivial rfl rfl rfl rfl rfl (Ds ?_);have ⟨x11,ex11,h⟩:=Bs h;refine Zld H.1 H.2.1 H.2.2.1 H.2.2.2 11 Mail.row ex11 rfl rfl trivial rfl rfl rfl rfl rfl (Ds ?_);have ⟨x12,ex12,h⟩:=Bs h;refine Zna 1 12 rfl ?_ ?_
      ·refine GC H.1 (Z8w ex12) (Ds ?_);refine Zma 12 rfl (Zlb H.1 rfl trivial rfl trivial (Ds ?_));refine Zma 13 rfl ?_;have ⟨x14,ex14,h⟩:=Bs h;refine Zud H.1 rfl trivial (Zjz ex14) (h:=?_);refine Gn H 1 7 ?_;refine Zma 16 rfl (GF H.1 [1,4] [1] 5 2 h Zk91 fun x15 ex15 h=>?_);refine Ds (GP H 3 3 [20,3] [(59,[.agg [.osl 2,.osl 3],Sp7 x15.1,.iv x15.2.1])] (Ds ?_));refine R1 ?_;refine Gn H 2 0 ?_;refine GD ?_;exact Zsc J2 h
      ·refine Zlb H.1 rfl trivial rfl trivial (Ds ?_);refine Zma 1 rfl (GC H.1 (Z8w ex12) (Ds ?_));refine Zma 13 rfl ?_;have ⟨x14,ex14,h⟩:=Bs h;refine Zud H.1 rfl trivial (Zjz ex14) (h:=?_);refine Gn H 1 7 ?_;refine Zma 16 rfl (GF H.1 [1,4] [1] 5 2 h Zk91 fun x15 _ h=>?_);refine Ds (GP H 3 3 [20,3] [(59,[.agg [.osl 2,.osl 3],Sp7 x15.1,.iv x15.2.1])] (Ds ?_));refine R1 ?_;refine Gn H 2 0 ?_;refine GD ?_;exact Zsc J2 h
  ·refine MC 22 h (fun h=>?_) fun h=>?_
   ·exact W
   ·refine Vg 2 ?_;refine VB h Zrq fun _ _ h=>?_;exact W
@[go_sem] def e5:EC:=eQ Tryz.f5
def Zs91:Bool→Option Bool
| x13=>some x13
def Zt91:Option Bool:=
 (Zr81 (Graph.mk 2 (([]:List Edge)))).bind fun x1=>
 (Zm91 x1.1 0 (Do.mk 4 0 1 0 (([]:List Int)))).bind fun x2=>
 (Zq91 x2.1 0 1).bind fun x3=>
 (Zq91 x3.1 1 0).bind fun x4=>
 (Zq91 x4.1 1 0).bind fun x5=>
 (Zbw x4.1).bind fun x6=>
 ifb (decide (x1.2=0)) (
 ifb (decide (x2.2.2=0)) (
 ifb (decide (x3.2.2=0)) (
 ifb (decide (x4.2.2=0)) (
 ifb (decide ((ln Event.row x3.2.1)=1)) (
 (at_ x3.2.1 0).bind fun x7=>
 ifb (decide (x7.Kind=6)) (
 ifb (decide ((ln Event.row x4.2.1)=1)) (
 (at_ x4.2.1 0).bind fun x8=>
 ifb (decide (x8.Kind=6)) (
 ifb (decide (x5.2.2=192)) (
 (Zk81 x4.1).bind fun x9=>
 ifb (decide (x9=0)) (
 (Ze31 x4.1 x4.1).bind fun x10=>
 ifb x10 (
 (Ze31 x2.1 x3.1).bind fun x11=>
 ifb (!x11) (
 ifb (decide ((ln DK.row x6.Drinkers)=2)) (
 (at_ x6.Drinkers 0).bind fun x12=>
 Zs91 (decide ((ln Side.row x12.DI.SD)=1))) (
 Zs91 false)) (
 Zs91 false)) (
 Zs91 false)) (
 Zs91 false)) (
 Zs91 false)) (
 Zs91 false)) (
 Zs91 false)) (
 Zs91 false)) (
 Zs91 false)) (
 Zs91 false)) (
 Zs91 false)) (
 Zs91 false)) (
 Zs91 false)
theorem Zu91 {r} (h:Zt91=some r):Zy6 Tryz.prog 5 [] (.bv r):=by
 have ok:=oK 5 Tryz.f5 e5 [.t 0] 0 122;refine FP ok fun w0 H0=>?_;rw [Zt91] at h;refine Vg 7 ?_;refine VB h Zs81 fun _ _ h=>?_;refine Vg 11 ?_;refine VB h Zn91 fun _ _ h=>?_;refine Vg 12 ?_;refine VB h Zr91 fun _ _ h=>?_;refine Vg 12 ?_;refine VB h Zr91 fun _ _ h=>?_;refine Vg 12 ?_;refine VB h Zr91 fun _ _ h=>?_;refine Vg 12 ?_;refine VB h Zcw fun _ _ h=>?_;refine Vg 8 ?_;refine Vl [] (fun x13=>([(0,.bv x13)],[],[])) Zs91 r ?_ fun J1=>?_
 ·intro x13 h;rw [Zs91] at h;exact W
 ·refine MC 50 h (fun h=>?_) fun h=>?_
  ·refine Vg 4 ?_;refine MC 54 h (fun h=>?_) fun h=>?_
   ·refine Vg 4 ?_;refine MC 58 h (fun h=>?_) fun h=>?_
    ·refine Vg 4 ?_;refine MC 62 h (fun h=>?_) fun h=>?_
     ·refine Vg 5 ?_;refine MC 67 h (fun h=>?_) fun h=>?_
      ·refine Vg 1 ?_;have ⟨x7,ex7,h⟩:=Bs h;refine Zic Event.row ex7 trivial rfl rfl rfl (Vg 5 ?_);refine MC 74 h (fun h=>?_) fun h=>?_
       ·refine Vg 5 ?_;refine MC 79 h (fun h=>?_) fun h=>?_
        ·refine Vg 1 ?_;have ⟨x8,ex8,h⟩:=Bs h;refine Zic Event.row ex8 trivial rfl rfl rfl (Vg 5 ?_);refine MC 86 h (fun h=>?_) fun h=>?_
         ·refine Vg 4 ?_;refine MC 90 h (fun h=>?_) fun h=>?_
          ·refine Vg 1 ?_;refine VB h Zl81 fun _ _ h=>?_;refine Vg 3 ?_;refine MC 95 h (fun h=>?_) fun h=>?_
           ·refine Vg 2 ?_;refine VB h Zf31 fun _ _ h=>?_;refine Vg 2 ?_;refine MC 100 h (fun h=>?_) fun h=>?_
            ·refine Vg 2 ?_;refine VB h Zf31 fun _ _ h=>?_;exact W
            ·exact W
           ·exact W
          ·exact W
         ·exact W
        ·exact W
       ·exact W
      ·exact W
     ·exact W
    ·exact W
   ·exact W
  ·exact W
@[go_sem] def e3:EC:=eQ Tryz.f3
def Zv91:Bool→Option Bool
| x9=>some x9
def Zw91:Bool→Option Bool
| x14=>some x14
def Zx91 (x1:Graph):Bool→Option Bool
| x3=>
 ifb x3 (
 (Zt91).bind fun x4=>
 some x4) (
 (Zwq x1).bind fun x5=>
 (Zr81 x5).bind fun x6=>
 (Zhu x1).bind fun x7=>
 ifb (!x7) (
 (Zb11 x6.1 (Hall.mk (([]:List Node)) (([]:List Mail)))).bind fun x8=>
 ifb x8 (
 Zv91 (decide (x6.2=30))) (
 Zv91 false)) (
 (Zs61 x1).bind fun x10=>
 (Zb11 x6.1 x10).bind fun x11=>
 ifb x11 (
 ifb (decide (x6.2=0)) (
 (Zf11 x6.1).bind fun x12=>
 (Zk81 x12).bind fun x13=>
 ifb (decide (x13=0)) (
 Zw91 (decide ((ln Node.row x6.1.Nodes)=x1.N))) (
 Zw91 false)) (
 Zw91 false)) (
 Zw91 false)))
def Zy91 (x1:Graph):Option Bool:=
 (Zt91).bind fun x2=>
 ifb (!x2) (
 (Zx91 x1) true) (
 ifb (decide (60<(ln Edge.row x1.Edges))) (
 (Zx91 x1) true) (
 (Zx91 x1) (decide (24<x1.N))))
theorem Zz91 {x1 r} (h:Zy91 x1=some r):Zy6 Tryz.prog 3 [.agg (Graph.row x1)] (.bv r):=by
 have ok:=oK 3 Tryz.f3 e3 [.t 2] 1 56;refine FP ok fun w0 H0=>?_;rw [Zy91] at h;refine Vg 8 ?_;refine VB h Zu91 fun _ _ h=>?_;refine Vg 2 ?_;refine Vk [1,1] (fun x3=>[(17,.bv x3)]) (Zx91 x1) r ?_ fun J1=>?_
 ·intro x3 h;rw [Zx91] at h;(try dsimp only);refine MI h (fun h=>?_) fun h=>?_
  ·refine Vg 2 ?_;refine VB h Zu91 fun _ _ h=>?_;exact W
  ·refine Vg 4 ?_;refine VB h Zxq fun _ _ h=>?_;refine VB h Zs81 fun x6 _ h=>?_;refine Vg 11 ?_;refine VB h Ziu fun _ _ h=>?_;refine Vg 2 ?_;refine MI h (fun h=>?_) fun h=>?_
   ·refine Vg 4 ?_;refine VB h Zc11 fun _ _ h=>?_;refine Vg 1 ?_;refine Vl [] (fun x9=>([(2,.bv x9)],[],[])) Zv91 r ?_ fun J2=>?_
    ·intro x9 h;rw [Zv91] at h;exact W
    ·exact W
   ·refine Vg 2 ?_;refine Vl [] (fun x14=>([(2,.bv x14)],[],[])) Zw91 r ?_ fun J3=>?_
    ·intro x14 h;rw [Zw91] at h;exact W
    ·refine Zej fun all H=>?_;refine Gn H 2 21 ?_;refine Zma 2 rfl (GB H.1 h Zt61 fun _ _ h=>?_);refine Ds ?_;refine Zma 3 rfl (GB H.1 h Zc11 fun _ _ h=>?_);refine Gn H 1 18 ?_;refine Zcd 39 h rfl (fun _ h=>?_) fun _ h=>?_
     ·refine Ds (GP H 4 14 [9,14] [(40,[.iv x6.2,.bv (decide (x6.2=0)),.bv (decide (x6.2=0)),.bv (decide (x6.2=0))])] (Ds ?_));refine Zcd 43 h rfl (fun _ h=>?_) fun _ h=>?_
      ·refine Gn H 1 13 ?_;refine Zma 10 rfl (GB H.1 h Zg11 fun _ _ h=>?_);refine Ds ?_;refine Zma 11 rfl (GB H.1 h Zl81 fun x13 _ h=>?_);refine Ds (GP H 3 8 [15,8] [(47,[.bv (decide (x13=0)),.bv (decide (x13=0)),.bv (decide (x13=0))])] (Ds ?_));refine Zcd 49 h rfl (fun _ h=>?_) fun _ h=>?_
       ·refine Ds (GP H 8 0 [23] [(2,[.bv (decide ((ln Node.row x6.1.Nodes)=x1.N))]),(47,[.ptr 1 0,Zyj x6.1.Nodes,.iv (ln Node.row x6.1.Nodes),.ptr 0 0,.iv x1.N,.bv (decide ((ln Node.row x6.1.Nodes)=x1.N)),.bv (decide ((ln Node.row x6.1.Nodes)=x1.N))])] (Ds ?_));refine GD ?_;exact W
       ·refine Ds (GP H 8 0 [23] [(2,[.ff]),(47,[.un,.un,.un,.un,.un,.un,.ff])] (Ds ?_));refine GD ?_;exact W
      ·refine Ds (GP H 14 0 [23] [(2,[.ff]),(41,[.un,.un,.un,.un,.ff,.ff,.un,.un,.un,.un,.un,.un,.ff])] (Ds ?_));refine GD ?_;exact W
     ·refine Ds (GP H 18 0 [23] [(2,[.ff]),(37,[.un,.un,.ff,.ff,.un,.un,.un,.un,.ff,.ff,.un,.un,.un,.un,.un,.un,.ff])] (Ds ?_));refine GD ?_;exact W
 ·exact W
end
end NX
end Go.Proofs.YtgamgemlekpepaaGreat
