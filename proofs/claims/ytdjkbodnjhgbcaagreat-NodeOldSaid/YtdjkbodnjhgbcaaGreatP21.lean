/-
  The function slices.ContainsFunc[[]narthex/api.Side,narthex/api.Side], lent own memory. Written by a program of ours (lb.py). No statement of the seat is proved here.
-/
import Derived.Test.YtdjkbodnjhgbcaaGreatP20
set_option maxRecDepth 100000
set_option maxHeartbeats 4000000
namespace Go.Proofs.YtdjkbodnjhgbcaaGreat
namespace NX
open Go
noncomputable section
def Zsf (x1:List Side) (x2:Int) (x3:DI):Option (Bool×Int):=
 (Zwd x1 x2 x3).bind fun x4=>
 some (decide (0≤x4.1),x4.2)
theorem Ztf (x1:List Side) (x2:Int) (x3:DI) (r:(Bool×Int)) (h:Zsf x1 x2 x3=some r):Zq5 Tryz.prog 88 [Sp2 x1,.clo 140 [.ptr 0 0,.ptr 1 0]] [some ⟨3,[.iv x2]⟩,some ⟨25,DI.row x3⟩] [] (.bv r.1) [some ⟨3,[.iv r.2]⟩,some ⟨25,DI.row x3⟩] []:=by
 refine FT ok88 fun w0 M0=>?_
 rw [Zsf] at h
 dsimp only[lun,List.cons_append,List.nil_append]
 refine Vg 8 ?_;have ⟨x4,ex4,h⟩:=Bs h;refine Zs5 [true,true] [] trivial (Zxd x1 x2 x3 _ ex4) (h:=?_);refine Vg 3 ?_;obtain rfl:=Option.some.inj h;exact Z47 ok88
@[go_sem] def e175:EC:=(by have h:=hF Tryz.f175;(conv at h=>rhs;reduce);dsimp only[go_sem] at h;exact ⟨_,h⟩:DP Tryz.f175).1
theorem ok175:FnOK Tryz.prog 175 Tryz.f175 e175 [] 1 134:=okA
@[go_sem] def e81:EC:=(by have h:=hF Tryz.f81;(conv at h=>rhs;reduce);dsimp only[go_sem] at h;exact ⟨_,h⟩:DP Tryz.f81).1
theorem ok81:FnOK Tryz.prog 81 Tryz.f81 e81 [.t 6] 3 92:=okA
@[go_sem] def e123:EC:=(by have h:=hF Tryz.f123;(conv at h=>rhs;reduce);dsimp only[go_sem] at h;exact ⟨_,h⟩:DP Tryz.f123).1
theorem ok123:FnOK Tryz.prog 123 Tryz.f123 e123 [.t 6] 3 92:=okA
@[go_sem] def e125:EC:=(by have h:=hF Tryz.f125;(conv at h=>rhs;reduce);dsimp only[go_sem] at h;exact ⟨_,h⟩:DP Tryz.f125).1
theorem ok125:FnOK Tryz.prog 125 Tryz.f125 e125 [.t 4] 3 19:=okA
@[go_sem] def e128:EC:=(by have h:=hF Tryz.f128;(conv at h=>rhs;reduce);dsimp only[go_sem] at h;exact ⟨_,h⟩:DP Tryz.f128).1
theorem ok128:FnOK Tryz.prog 128 Tryz.f128 e128 [.t 3] 2 15:=okA
def Zuf:Bool→Option Bool
| x5=>
 some x5
def Zvf (x1:Side) (x2:node_node):Option Bool:=
 (Zk9 x1).bind fun x3=>
 ifb x3 (
 (Zgd x2.Node.Told x1.Peer).bind fun x4=>
 Zuf (!x4)) (
 Zuf false)
theorem Zwf (x1:Side) (x2:node_node) (r:Bool) (h:Zvf x1 x2=some r):Z03 Tryz.prog 128 [.agg (Side.row x1),.elt ((ptrRow node_node.row) x2) 0] (.bv r):=by
 refine FP ok128 fun w0 H0=>?_
 rw [Zvf] at h
 refine Vg 6 ?_;refine Zo4 (fun (x5:Bool)=>⟨an 3 (.bv x5::an 13 []),[],[]⟩) Zuf r ?_ fun J1=>?_
 ·intro x5 h;rw [Zuf] at h;(try dsimp only);exact MD ok128 h
 ·refine Zz6 fun all H=>?_;refine Gn H 1 13 ?_;refine Z64 1 rfl ?_;have ⟨x3,ex3,h⟩:=Bs h;refine GC H.1 (Zl9 x1 _ ex3) ?_;refine Gn H 1 11 ?_;refine Z25 6 h rfl (fun _ h=>?_) fun _ h=>?_
  ·dsimp only[go_sem]
   refine GP H 7 4 [10,4] [(7,[.elt (node_node.row x2) 0,.elt (node_node.row x2) 0,.elt (node_node.row x2) 0,.elt (node_node.row x2) 8,Sp0 x2.Node.Told,.ptr 0 0,.iv x1.Peer])] ?_
   dsimp only[go_sem];refine Z64 10 rfl ?_;have ⟨x4,ex4,h⟩:=Bs h;refine GC H.1 (Zhd x2.Node.Told x1.Peer _ ex4) ?_;refine Gn H 3 0 ?_;refine GD ?_;exact Zx4 J1 h
  ·dsimp only[go_sem];refine GP H 11 0 [14] [(16,[.ff])] ?_;dsimp only[go_sem];refine GD ?_;exact Zx4 J1 h
@[go_sem] def e133:EC:=(by have h:=hF Tryz.f133;(conv at h=>rhs;reduce);dsimp only[go_sem] at h;exact ⟨_,h⟩:DP Tryz.f133).1
theorem ok133:FnOK Tryz.prog 133 Tryz.f133 e133 [] 1 70:=okA
@[go_sem] def e26:EC:=(by have h:=hF Tryz.f26;(conv at h=>rhs;reduce);dsimp only[go_sem] at h;exact ⟨_,h⟩:DP Tryz.f26).1
theorem ok26:FnOK Tryz.prog 26 Tryz.f26 e26 [.t 4] 2 36:=okA
def Zxf:Bool→Option Bool
| x8=>
 some x8
def Zyf (x1 x2:Node):Option Bool:=
 (Z1e x1.DK x2.DK).bind fun x3=>
 ifb x3 (
 (Zje x1.Book x2.Book).bind fun x4=>
 ifb x4 (
 (Zu9 x1.KN x2.KN).bind fun x5=>
 ifb x5 (
 (Zs8 x1.Told x2.Told).bind fun x6=>
 ifb x6 (
 (Zu9 x1.AK x2.AK).bind fun x7=>
 Zxf x7) (
 Zxf false)) (
 Zxf false)) (
 Zxf false)) (
 Zxf false)
theorem Zzf (x1 x2:Node) (r:Bool) (h:Zyf x1 x2=some r):Z03 Tryz.prog 26 [.agg (Node.row x1),.agg (Node.row x2)] (.bv r):=by
 refine FP ok26 fun w0 H0=>?_
 rw [Zyf] at h
 refine Vg 12 ?_;have ⟨x3,ex3,h⟩:=Bs h;refine VC (Z2e x1.DK x2.DK _ ex3) (Vg 1 ?_);refine Zo4 (fun (x8:Bool)=>⟨an 4 (.bv x8::an 33 []),[],[]⟩) Zxf r ?_ fun J1=>?_
 ·intro x8 h;rw [Zxf] at h;(try dsimp only);exact MD ok26 h
 ·refine MC 10 h (fun h=>?_) fun h=>?_
  ·refine Vg 4 ?_;have ⟨x4,ex4,h⟩:=Bs h;refine VC (k_sess_Same x1.Book x2.Book _ ex4) (Vg 2 ?_);refine MC 17 h (fun h=>?_) fun h=>?_
   ·refine Vg 4 ?_;have ⟨x5,ex5,h⟩:=Bs h;refine VC (Zv9 x1.KN x2.KN _ ex5) (Vg 2 ?_);refine MC 24 h (fun h=>?_) fun h=>?_
    ·refine Vg 4 ?_;have ⟨x6,ex6,h⟩:=Bs h;refine VC (Zt8 x1.Told x2.Told _ ex6) (Vg 2 ?_);refine MC 31 h (fun h=>?_) fun h=>?_
     ·refine Vg 4 ?_;have ⟨x7,ex7,h⟩:=Bs h;refine VC (Zv9 x1.AK x2.AK _ ex7) (Vg 3 ?_);exact Zx4 J1 h
     ·refine Vg 8 ?_;exact Zx4 J1 h
    ·refine Vg 15 ?_;exact Zx4 J1 h
   ·refine Vg 22 ?_;exact Zx4 J1 h
  ·refine Vg 29 ?_;exact Zx4 J1 h
def Z0g (x1 _x2:Int) (_x3 _x4 _x5:Int) (_x6:List Sess) (_x7:List Int) (_x8:Int) (x9:List Side) (_x10:List Int) (_x11 _x12:List KE) (_x13:List Mail) (_x14:List Event):Option (List Side):=
 (Zte x9 ((fun z=>Zm9 z x1))).bind fun x15=>
 some x15
theorem Z1g (x1 x2:Int) (x3 x4 x5:Int) (x6:List Sess) (x7:List Int) (x8:Int) (x9:List Side) (x10:List Int) (x11 x12:List KE) (x13:List Mail) (x14:List Event) (r:List Side) (h:Z0g x1 x2 x3 x4 x5 x6 x7 x8 x9 x10 x11 x12 x13 x14=some r):Zq5 Tryz.prog 48 [.ptr 0 0,.iv x1] [some ⟨81,[.iv x2,.iv x3,.osl 0,.iv x4,.osl 1,.iv x5,Sp3 x6,.osl 2,Sp0 x7,.osl 3,.osl 4,.osl 5,.iv x8]⟩] [Sq6 x9,Sq7 x10,Sq8 x11,Sq8 x12,Za7 x13,Z97 x14] (.tup []) [some ⟨81,[.iv x2,.iv x3,.osl 6,.iv x4,.osl 1,.iv x5,Sp3 x6,.osl 2,Sp0 x7,.osl 3,.osl 4,.osl 5,.iv x8]⟩] [none,Sq7 x10,Sq8 x11,Sq8 x12,Za7 x13,Z97 x14,Sq6 r]:=by
 refine FT ok48 fun w0 M0=>?_
 rw [Z0g] at h
 dsimp only[lun,List.cons_append,List.nil_append]
 refine Vg 14 ?_;refine Zk3 1 rfl rfl ?_;dsimp only[go_sem];have ⟨x15,ex15,h⟩:=Bs h;refine Z67 [] [0] 2 6 (Zue x9 _ _ ((fun z=>Zm9 z x1)) ⟨by kernel_rfl,rfl,fun z r hz=>Zn9 z x1 r hz⟩ _ ex15) ?_;refine Vg 7 ?_;obtain rfl:=Option.some.inj h;exact Z57 ok48
def Z2g (x1:List KE) (x2:Int):Option (Bool×Int):=
 (Zxe x1 x2).bind fun x3=>
 some (decide (0≤x3.1),x3.2)
theorem Z3g (x1:List KE) (x2:Int) (r:(Bool×Int)) (h:Z2g x1 x2=some r):Zq5 Tryz.prog 90 [Sp1 x1,.clo 102 [.ptr 0 0]] [some ⟨3,[.iv x2]⟩] [] (.bv r.1) [some ⟨3,[.iv r.2]⟩] []:=by
 refine FT ok90 fun w0 M0=>?_
 rw [Z2g] at h
 dsimp only[lun,List.cons_append,List.nil_append]
 refine Vg 8 ?_;have ⟨x3,ex3,h⟩:=Bs h;refine Zs5 [true] [] trivial (Zye x1 x2 _ ex3) (h:=?_);refine Vg 3 ?_;obtain rfl:=Option.some.inj h;exact Z47 ok90
@[go_sem] def e103:EC:=(by have h:=hF Tryz.f103;(conv at h=>rhs;reduce);dsimp only[go_sem] at h;exact ⟨_,h⟩:DP Tryz.f103).1
theorem ok103:FnOK Tryz.prog 103 Tryz.f103 e103 [.t 3] 2 6:=okA
def Z4g (x1:KE) (x2:Node):Option Bool:=
 (Z0f x2 x1).bind fun x3=>
 some (!x3)
theorem Z5g (x1:KE) (x2:Node) (r:Bool) (h:Z4g x1 x2=some r):Z03 Tryz.prog 103 [.agg (KE.row x1),.elt (Node.row x2) 0] (.bv r):=by
 refine FP ok103 fun w0 H0=>?_
 rw [Z4g] at h
 refine Vg 9 ?_;have ⟨x3,ex3,h⟩:=Bs h;refine VC (Z1f x2 x1 _ ex3) (Vg 3 ?_);exact MD ok103 h
@[go_sem] def e143:EC:=(by have h:=hF Tryz.f143;(conv at h=>rhs;reduce);dsimp only[go_sem] at h;exact ⟨_,h⟩:DP Tryz.f143).1
theorem ok143:FnOK Tryz.prog 143 Tryz.f143 e143 [.t 3] 2 5:=okA
def Z6g (x1:Int) (x2:List Int):Option Bool:=
 (Zgd x2 x1).bind fun x3=>
 some x3
theorem k_set_Both_1 (x1:Int) (x2:List Int) (r:Bool) (h:Z6g x1 x2=some r):Z03 Tryz.prog 143 [.iv x1,.elt ((Z15 1 Z05) x2) 0] (.bv r):=by
 refine FP ok143 fun w0 H0=>?_
 rw [Z6g] at h
 refine Vg 8 ?_;have ⟨x3,ex3,h⟩:=Bs h;refine VC (Zhd x2 x1 _ ex3) (Vg 2 ?_);exact MD ok143 h
def Z7g (x1 _x2:Int) (_x3 _x4:Int) (_x5 _x6:Int) (x7:List Side) (_x8:List Int) (_x9:List Sess) (_x10:List KE) (_x11:List Int) (_x12:List KE):Option (List Side):=
 (Zte x7 ((fun z=>Zm9 z x1))).bind fun x13=>
 some x13
theorem Z8g (x1 x2:Int) (x3 x4:Int) (x5 x6:Int) (x7:List Side) (x8:List Int) (x9:List Sess) (x10:List KE) (x11:List Int) (x12:List KE) (r:List Side) (h:Z7g x1 x2 x3 x4 x5 x6 x7 x8 x9 x10 x11 x12=some r):Zq5 Tryz.prog 48 [.ptr 0 0,.iv x1] [some ⟨81,[.iv x2,.iv x3,.osl 0,.iv x4,.osl 1,.iv x5,.osl 2,.osl 3,.osl 4,.osl 5,.nl,.nl,.iv x6]⟩] [Sq6 x7,Sq7 x8,Sq9 x9,Sq8 x10,Sq7 x11,Sq8 x12] (.tup []) [some ⟨81,[.iv x2,.iv x3,.osl 6,.iv x4,.osl 1,.iv x5,.osl 2,.osl 3,.osl 4,.osl 5,.nl,.nl,.iv x6]⟩] [none,Sq7 x8,Sq9 x9,Sq8 x10,Sq7 x11,Sq8 x12,Sq6 r]:=by
 refine FT ok48 fun w0 M0=>?_
 rw [Z7g] at h
 dsimp only[lun,List.cons_append,List.nil_append]
 refine Vg 14 ?_;refine Zk3 1 rfl rfl ?_;dsimp only[go_sem];have ⟨x13,ex13,h⟩:=Bs h;refine Z67 [] [0] 2 6 (Zue x7 _ _ ((fun z=>Zm9 z x1)) ⟨by kernel_rfl,rfl,fun z r hz=>Zn9 z x1 r hz⟩ _ ex13) ?_;refine Vg 7 ?_;obtain rfl:=Option.some.inj h;exact Z57 ok48
@[go_sem] def e155:EC:=(by have h:=hF Tryz.f155;(conv at h=>rhs;reduce);dsimp only[go_sem] at h;exact ⟨_,h⟩:DP Tryz.f155).1
theorem ok155:FnOK Tryz.prog 155 Tryz.f155 e155 [.t 4] 2 7:=okA
def Z9g (x1:List Int) (x2:Int):Option (List Int):=
 (Zgf x1 ([x2])).bind fun x3=>
 some x3
theorem k_set_Add (x1:List Int) (x2:Int) (r:List Int) (h:Z9g x1 x2=some r):Z03 Tryz.prog 155 [Sp0 x1,.iv x2] (Sp0 r):=by
 refine FP ok155 fun w0 H0=>?_
 rw [Z9g] at h
 refine Vg 9 ?_;refine Z17 0 ?_;dsimp only[go_sem];have ⟨x3,ex3,h⟩:=Bs h;refine VC (k_set_Union x1 ([x2]) _ ex3) (Vg 2 ?_);exact MD ok155 h
@[go_sem] def e92:EC:=(by have h:=hF Tryz.f92;(conv at h=>rhs;reduce);dsimp only[go_sem] at h;exact ⟨_,h⟩:DP Tryz.f92).1
theorem ok92:FnOK Tryz.prog 92 Tryz.f92 e92 [.t 4] 2 6:=okA
def Zag (x1 x2:List Int):Option (List Int):=
 (Zif x1 ((fun z=>Zhf z x2))).bind fun x3=>
 some x3
theorem Zbg (x1 x2 r:List Int) (h:Zag x1 x2=some r):Z03 Tryz.prog 92 [Sp0 x1,Sp0 x2] (Sp0 r):=by
 refine FP ok92 fun w0 H0=>?_
 rw [Zag] at h
 refine Vg 9 ?_;refine Zk3 0 rfl rfl ?_;dsimp only[go_sem];have ⟨x3,ex3,h⟩:=Bs h;refine VC (Zjf x1 _ _ ((fun z=>Zhf z x2)) ⟨by kernel_rfl,rfl,fun z r hz=>k_set_Minus_1 z x2 r hz⟩ _ ex3) (Vg 2 ?_);exact MD ok92 h
@[go_sem] def e69:EC:=(by have h:=hF Tryz.f69;(conv at h=>rhs;reduce);dsimp only[go_sem] at h;exact ⟨_,h⟩:DP Tryz.f69).1
theorem ok69:FnOK Tryz.prog 69 Tryz.f69 e69 [.c 6 (some 2),.t 7] 3 44:=okA
def Zcg (x1:Book) (x2:Int) (x4:List Int):Int→Option (Book×Int)
| x7=>
 ifb (!decide (x7=0)) (
 some ((Book.mk 0 (([]:List Sess))),x7)) (
 (Zpd x1).bind fun x8=>
 (Zj4 48 x8 ([Sess.mk x2 x4 0 0])).bind fun x9=>
 some ((Book.mk x2 x9),0))
def Zdg (x1:Book) (x2:Int) (x3:List Int):Option (Book×Int):=
 (Zya x3).bind fun x4=>
 (Zqf x1).bind fun x5=>
 ifb (!decide (x5=0)) (
 (Zcg x1 x2 x4) x5) (
 ifb (decide (x2≤x1.Last)) (
 (Zcg x1 x2 x4) 171) (
 (Zsd x4).bind fun x6=>
 ifb x6 (
 (Zcg x1 x2 x4) 172) (
 ifb (decide ((ln Sess.row x1.Sess)=8)) (
 (Zcg x1 x2 x4) 173) (
 (Zcg x1 x2 x4) x5))))
theorem Zeg (x1:Book) (x2:Int) (x3:List Int) (r:(Book×Int)) (h:Zdg x1 x2 x3=some r):Z03 Tryz.prog 69 [.agg (Book.row x1),.iv x2,Sp0 x3] (.tup [.agg (Book.row r.1),.iv r.2]):=by
 refine FP ok69 fun w0 H0=>?_
 rw [Zdg] at h
 refine Vg 9 ?_;have ⟨x4,ex4,h⟩:=Bs h;refine Z75 trivial (Zza x3 _ ex4) (h:=?_);refine Vg 5 ?_;have ⟨x5,ex5,h⟩:=Bs h;refine VC (Zrf x1 _ ex5) (Vg 10 ?_)
 refine Zo4 (fun (x7:Int)=>⟨(.any :: .iv x2 :: .any :: .ptr 0 0 :: .any :: .any :: .ptr 1 0 :: .any :: .osl 0 :: .iv x7::an 37 []),[some ⟨32,Book.row x1⟩,some ⟨32,[.iv 0,.nl]⟩],[Sq7 x4]⟩) (Zcg x1 x2 x4) r ?_ fun J1=>?_
 ·intro x7 h;rw [Zcg] at h;(try dsimp only);refine Vg 7 ?_;refine MI h (fun h=>?_) fun h=>?_
  ·refine Vg 7 ?_;exact MD ok69 h
  ·refine Vg 4 ?_;have ⟨x8,ex8,h⟩:=Bs h;refine Z67 [] [] 2 1 (Zqd x1 _ ex8) ?_;refine Vg 15 ?_;refine Z17 0 ?_;refine Vg 1 ?_;have ⟨x9,ex9,h⟩:=Bs h;refine Zu4 Sess.row ex9 trivial rfl rfl rfl (Vg 9 ?_);refine Z17 3 ?_;dsimp only[go_sem]
   exact MD ok69 h
 ·refine MI h (fun h=>?_) fun h=>?_
  ·refine Vg 1 ?_;exact Zx4 J1 h
  ·refine Vg 8 ?_;refine MI h (fun h=>?_) fun h=>?_
   ·refine Vg 3 ?_;exact Zx4 J1 h
   ·refine Vg 3 ?_;have ⟨x6,ex6,h⟩:=Bs h;refine VL (LR.slice 0 rfl) (Ztd x4 _ ex6) (Vg 2 ?_);refine MI h (fun h=>?_) fun h=>?_
    ·refine Vg 3 ?_;exact Zx4 J1 h
    ·refine Vg 8 ?_;refine MI h (fun h=>?_) fun h=>?_
     ·refine Vg 3 ?_;exact Zx4 J1 h
     ·refine Vg 1 ?_;exact Zx4 J1 h
@[go_sem] def e131:EC:=(by have h:=hF Tryz.f131;(conv at h=>rhs;reduce);dsimp only[go_sem] at h;exact ⟨_,h⟩:DP Tryz.f131).1
theorem Zfg:FnOK Tryz.prog 131 Tryz.f131 e131 [.c 2 (some 2),.t 3,.t 4] 1 36:=okA
def Zgg (x1:Book):Bool→Option (Book×Int×Int)
| x4=>
 ifb x4 (
 some ((Book.mk 0 (([]:List Sess))),0,175)) (
 (Zpd x1).bind fun x5=>
 (at_ x5 0).bind fun x6=>
 some ((Book.mk x1.Last (x5.set (Int.toNat (0)) (Sess.mk x6.ID x6.Need 1 x6.Age))),x6.ID,0))
def Zhg (x1:Book):Option (Book×Int×Int):=
 (Zqf x1).bind fun x2=>
 ifb (!decide (x2=0)) (
 some ((Book.mk 0 (([]:List Sess))),0,x2)) (
 ifb (decide ((ln Sess.row x1.Sess)=0)) (
 (Zgg x1) true) (
 (at_ x1.Sess 0).bind fun x3=>
 (Zgg x1) (decide (x3.State=1))))
theorem Zig (x1:Book) (r:(Book×Int×Int)) (h:Zhg x1=some r):Z03 Tryz.prog 131 [.agg (Book.row x1)] (.tup [.agg (Book.row r.1),.iv r.2.1,.iv r.2.2]):=by
 refine FP Zfg fun w0 H0=>?_
 rw [Zhg] at h
 refine Vg 11 ?_;have ⟨x2,ex2,h⟩:=Bs h;refine VC (Zrf x1 _ ex2) (Vg 7 ?_);refine MI h (fun h=>?_) fun h=>?_
 ·refine Vg 8 ?_;exact MD Zfg h
 ·refine Vg 9 ?_;refine Zo4 (fun (x4:Bool)=>⟨(.any :: .ptr 0 0 :: .ptr 1 0::an 20 (.bv x4::an 13 [])),[some ⟨32,Book.row x1⟩,some ⟨32,[.iv 0,.nl]⟩],[]⟩) (Zgg x1) r ?_ fun J1=>?_
  ·intro x4 h;rw [Zgg] at h;(try dsimp only);refine MI h (fun h=>?_) fun h=>?_
   ·refine Vg 7 ?_;exact MD Zfg h
   ·refine Vg 4 ?_;have ⟨x5,ex5,h⟩:=Bs h;refine Z67 [] [] 2 0 (Zqd x1 _ ex5) ?_;refine Vg 6 ?_;have ⟨x6,ex6,h⟩:=Bs h;refine Zd5 Sess.row ex6 trivial rfl rfl rfl (Vg 1 ?_);refine Zk5 [.iv 1] Sess.row (y':=(Sess.mk x6.ID x6.Need 1 x6.Age)) ex6 trivial rfl rfl rfl (by first | exact Zi4 _ | simp [go_sem]) rfl rfl rfl rfl (Zv2 2 ?_);dsimp only[go_sem]
    refine An (Zz6 fun all H=>?_);refine Gn H 1 8 ?_;refine Z74 0 2 rfl ?_ ?_
    ·refine GV H.1 ?_;dsimp only[go_sem];refine Z74 2 6 rfl ?_ ?_
     ·refine GV H.1 ?_;dsimp only[go_sem];refine Z74 3 6 rfl ?_ ?_
      ·refine GI H.1 Sess.row (Ze5 ex6) ?_;refine Gn H 1 4 ?_;refine Z74 5 6 rfl ?_ ?_
       ·refine GL H.1 Sess.row (Ze5 ex6) ?_;dsimp only[go_sem];refine GE H.1 6 ?_;refine Gn H 2 0 ?_;refine GD (Z17 0 ?_);dsimp only[go_sem];exact MD Zfg h
       ·refine GV H.1 ?_;dsimp only[go_sem];refine Z64 5 rfl (GL H.1 Sess.row (Ze5 ex6) ?_);refine Gn H 2 0 ?_;refine GD (Z17 0 ?_);dsimp only[go_sem];exact MD Zfg h
      ·refine GV H.1 ?_;dsimp only[go_sem];refine Z64 3 rfl (GI H.1 Sess.row (Ze5 ex6) ?_);refine Gn H 1 3 ?_;refine Z64 5 rfl (GL H.1 Sess.row (Ze5 ex6) ?_);refine Gn H 2 0 ?_;refine GD (Z17 0 ?_);dsimp only[go_sem]
       exact MD Zfg h
     ·refine GV H.1 ?_;dsimp only[go_sem];refine GE H.1 2 ?_;dsimp only[go_sem];refine Z64 3 rfl (GI H.1 Sess.row (Ze5 ex6) ?_);refine Gn H 1 3 ?_;refine Z64 5 rfl (GL H.1 Sess.row (Ze5 ex6) ?_);refine Gn H 2 0 ?_;refine GD (Z17 0 ?_);dsimp only[go_sem]
      exact MD Zfg h
    ·refine GV H.1 ?_;dsimp only[go_sem];refine Z74 0 3 rfl ?_ ?_
     ·refine GV H.1 ?_;dsimp only[go_sem];refine Z74 3 6 rfl ?_ ?_
      ·refine GI H.1 Sess.row (Ze5 ex6) ?_;refine Gn H 1 4 ?_;refine Z74 5 6 rfl ?_ ?_
       ·refine GL H.1 Sess.row (Ze5 ex6) ?_;dsimp only[go_sem];refine GE H.1 6 ?_;refine Gn H 2 0 ?_;refine GD (Z17 0 ?_);dsimp only[go_sem];exact MD Zfg h
       ·refine GV H.1 ?_;dsimp only[go_sem];refine Z64 5 rfl (GL H.1 Sess.row (Ze5 ex6) ?_);refine Gn H 2 0 ?_;refine GD (Z17 0 ?_);dsimp only[go_sem];exact MD Zfg h
      ·refine GV H.1 ?_;dsimp only[go_sem];refine Z64 3 rfl (GI H.1 Sess.row (Ze5 ex6) ?_);refine Gn H 1 3 ?_;refine Z64 5 rfl (GL H.1 Sess.row (Ze5 ex6) ?_);refine Gn H 2 0 ?_;refine GD (Z17 0 ?_);dsimp only[go_sem]
       exact MD Zfg h
     ·refine GI H.1 Sess.row (Ze5 ex6) ?_;refine Gn H 1 5 ?_;refine Z74 0 5 rfl ?_ ?_
      ·refine GV H.1 ?_;dsimp only[go_sem];refine Z74 5 6 rfl ?_ ?_
       ·refine GL H.1 Sess.row (Ze5 ex6) ?_;dsimp only[go_sem];refine GE H.1 6 ?_;refine Gn H 2 0 ?_;refine GD (Z17 0 ?_);dsimp only[go_sem];exact MD Zfg h
       ·refine GV H.1 ?_;dsimp only[go_sem];refine Z64 5 rfl (GL H.1 Sess.row (Ze5 ex6) ?_);refine Gn H 2 0 ?_;refine GD (Z17 0 ?_);dsimp only[go_sem];exact MD Zfg h
      ·refine GL H.1 Sess.row (Ze5 ex6) ?_;dsimp only[go_sem];refine GE H.1 0 ?_;dsimp only[go_sem];refine GE H.1 6 ?_;refine Gn H 2 0 ?_;refine GD (Z17 0 ?_);dsimp only[go_sem];exact MD Zfg h
  ·refine MC 16 h (fun h=>?_) fun h=>?_
   ·refine Vg 8 ?_;exact Zx4 J1 h
   ·refine Vg 2 ?_;have ⟨x3,ex3,h⟩:=Bs h;refine Zs4 Sess.row ex3 trivial rfl rfl rfl (Vg 5 ?_);exact Zx4 J1 h
@[go_sem] def e148:EC:=(by have h:=hF Tryz.f148;(conv at h=>rhs;reduce);dsimp only[go_sem] at h;exact ⟨_,h⟩:DP Tryz.f148).1
theorem ok148:FnOK Tryz.prog 148 Tryz.f148 e148 [.t 4,.t 5] 2 22:=okA
def Zjg (x1:Book) (x2:Int):Option (Int×Int):=
 (Zqf x1).bind fun x3=>
 ifb (!decide (x3=0)) (
 some (0,x3)) (
 (Z9b x1 x2).bind fun x4=>
 ifb (decide (x4<0)) (
 some (0,174)) (
 (at_ x1.Sess x4).bind fun x5=>
 some (x5.State,0)))
theorem k_sess_Poll (x1:Book) (x2:Int) (r:(Int×Int)) (h:Zjg x1 x2=some r):Z03 Tryz.prog 148 [.agg (Book.row x1),.iv x2] (.tup [.iv r.1,.iv r.2]):=by
 refine FP ok148 fun w0 H0=>?_
 rw [Zjg] at h
 refine Vg 10 ?_;have ⟨x3,ex3,h⟩:=Bs h;refine VC (Zrf x1 _ ex3) (Vg 7 ?_);refine MI h (fun h=>?_) fun h=>?_
 ·refine Vg 6 ?_;exact MD ok148 h
 ·refine Vg 5 ?_;have ⟨x4,ex4,h⟩:=Bs h;refine VC (Zab x1 x2 _ ex4) (Vg 8 ?_);refine MI h (fun h=>?_) fun h=>?_
  ·refine Vg 5 ?_;exact MD ok148 h
  ·refine Vg 6 ?_;have ⟨x5,ex5,h⟩:=Bs h;refine Zs4 Sess.row ex5 trivial rfl rfl rfl (Vg 5 ?_);exact MD ok148 h
@[go_sem] def e97:EC:=(by have h:=hF Tryz.f97;(conv at h=>rhs;reduce);dsimp only[go_sem] at h;exact ⟨_,h⟩:DP Tryz.f97).1
theorem ok97:FnOK Tryz.prog 97 Tryz.f97 e97 [.t 2] 1 30:=okA
def Zkg:Bool→Option Int
| x3=>
 ifb x3 (
 some 130) (
 some 0)
def Zlg (x1:DI):Option Int:=
 ifb (decide (x1.ID<0)) (
 Zkg true) (
 ifb (decide (x1.PH<0)) (
 Zkg true) (
 ifb (decide (2<x1.PH)) (
 Zkg true) (
 ifb (decide (64≤(ln Side.row x1.SD))) (
 Zkg true) (
 (Zsf x1.SD ((-1)) x1).bind fun x2=>
 Zkg x2.1))))
theorem Zmg (x1:DI) (r:Int) (h:Zlg x1=some r):Z03 Tryz.prog 97 [.agg (DI.row x1)] (.iv r):=by
 refine FP ok97 fun w0 H0=>?_
 rw [Zlg] at h
 refine Vg 22 ?_;refine Zo4 (fun (x3:Bool)=>⟨an 30 [.bv x3],[],[]⟩) Zkg r ?_ fun J1=>?_
 ·intro x3 h;rw [Zkg] at h;(try dsimp only);refine MI h (fun h=>?_) fun h=>?_
  ·refine Vg 4 ?_;exact MD ok97 h
  ·refine Vg 5 ?_;exact MD ok97 h
 ·refine MC 9 h (fun h=>?_) fun h=>?_
  ·refine Vg 22 ?_;exact Zx4 J1 h
  ·refine Vg 5 ?_;refine MC 14 h (fun h=>?_) fun h=>?_
   ·refine Vg 17 ?_;exact Zx4 J1 h
   ·refine Vg 5 ?_;refine MC 19 h (fun h=>?_) fun h=>?_
    ·refine Vg 12 ?_;exact Zx4 J1 h
    ·refine Vg 6 ?_;refine MC 25 h (fun h=>?_) fun h=>?_
     ·refine Vg 6 ?_;exact Zx4 J1 h
     ·refine Vg 3 ?_;have ⟨x2,ex2,h⟩:=Bs h;refine Z67 [1,0] [] 2 0 (Ztf x1.SD ((-1)) x1 _ ex2) ?_;refine Vg 2 ?_;exact Zx4 J1 h
@[go_sem] def e78:EC:=(by have h:=hF Tryz.f78;(conv at h=>rhs;reduce);dsimp only[go_sem] at h;exact ⟨_,h⟩:DP Tryz.f78).1
theorem ok78:FnOK Tryz.prog 78 Tryz.f78 e78 [.c 4 (some 2),.t 5,.t 6] 2 63:=okA
def Zng (x1:Book) (x2:Int) (x4:List Sess):Bool→Option (Book×Int×Int)
| x6=>
 ifb x6 (
 some ((Book.mk x1.Last x4),0,0)) (
 (at_ x4 0).bind fun x7=>
 ifb (decide ((max x7.Age (wr ((min x7.Age 4611686018427387903)+1)))<x2)) (
 some ((Book.mk x1.Last (x4.set (Int.toNat (0)) (Sess.mk x7.ID x7.Need x7.State (max x7.Age (wr ((min x7.Age 4611686018427387903)+1)))))),0,0)) (
 (Z7b 0 1 (x4.set (Int.toNat (0)) (Sess.mk x7.ID x7.Need x7.State (max x7.Age (wr ((min x7.Age 4611686018427387903)+1)))))).bind fun x8=>
 some ((Book.mk x1.Last x8),x7.ID,0)))
def Zog (x1:Book) (x2:Int):Option (Book×Int×Int):=
 (Zqf x1).bind fun x3=>
 ifb (!decide (x3=0)) (
 some ((Book.mk 0 (([]:List Sess))),0,x3)) (
 (Zpd x1).bind fun x4=>
 ifb (decide ((ln Sess.row x4)=0)) (
 (Zng x1 x2 x4) true) (
 (at_ x4 0).bind fun x5=>
 (Zng x1 x2 x4) (!decide (x5.State=1))))
theorem Zpg (x1:Book) (x2:Int) (r:(Book×Int×Int)) (h:Zog x1 x2=some r):Z03 Tryz.prog 78 [.agg (Book.row x1),.iv x2] (.tup [.agg (Book.row r.1),.iv r.2.1,.iv r.2.2]):=by
 refine FP ok78 fun w0 H0=>?_
 rw [Zog] at h
 refine Vg 11 ?_;have ⟨x3,ex3,h⟩:=Bs h;refine VC (Zrf x1 _ ex3) (Vg 7 ?_);refine MI h (fun h=>?_) fun h=>?_
 ·refine Vg 8 ?_;exact MD ok78 h
 ·refine Vg 4 ?_;have ⟨x4,ex4,h⟩:=Bs h;refine Z67 [] [] 2 0 (Zqd x1 _ ex4) ?_;refine Vg 10 ?_;refine Zo4 (fun (x6:Bool)=>⟨(.any :: .iv x2 :: .ptr 0 0 :: .any :: .ptr 1 0::an 24 (.bv x6::an 35 [])),[some ⟨32,[.iv x1.Last,.osl 0]⟩,some ⟨32,[.iv 0,.nl]⟩],[Sq9 x4]⟩) (Zng x1 x2 x4) r ?_ fun J1=>?_
  ·intro x6 h;rw [Zng] at h;(try dsimp only);refine MI h (fun h=>?_) fun h=>?_
   ·refine Vg 7 ?_;refine Z17 0 ?_;dsimp only[go_sem];exact MD ok78 h
   ·refine Vg 5 ?_;have ⟨x7,ex7,h⟩:=Bs h;refine Zd5 Sess.row ex7 trivial rfl rfl rfl (Vg 3 ?_);refine Zz6 fun all H=>?_;dsimp only[go_sem];refine GP H 7 8 [4,1,3,7] [(34,[.oel 0 (Int.toNat (0)*4) 0,.oel 0 (Int.toNat (0)*4) 0,.oel 0 (Int.toNat (0)*4) 0,.oel 0 (Int.toNat (0)*4) 3]),(1,[.oel 0 (Int.toNat (0)*4) 0,.oel 0 (Int.toNat (0)*4) 0,.oel 0 (Int.toNat (0)*4) 3])] ?_;dsimp only[go_sem]
    refine Z74 4 8 rfl ?_ ?_
    ·refine GL H.1 Sess.row ex7 ?_;dsimp only[go_sem];refine Z64 8 rfl (GL H.1 Sess.row ex7 ?_);dsimp only[go_sem];refine GE H.1 9 ?_;refine Gn H 1 4 ?_;refine GE H.1 11 ?_;refine Gn H 2 1 ?_;refine Z64 14 rfl ?_
     refine Zv5 H.1 [.iv (max x7.Age (wr ((min x7.Age 4611686018427387903)+1)))] Sess.row (y':=(Sess.mk x7.ID x7.Need x7.State (max x7.Age (wr ((min x7.Age 4611686018427387903)+1))))) ex7 rfl trivial rfl rfl rfl (by first | exact Zi4 _ | simp [go_sem]) rfl rfl rfl rfl ?_;dsimp only[go_sem];refine GD (Vg 6 ?_);refine Zf5 Sess.row (Ze5 ex7) trivial rfl rfl rfl (Vg 3 ?_);refine MI h (fun h=>?_) fun h=>?_
     ·refine Vg 7 ?_;refine Z17 0 ?_;dsimp only[go_sem];exact MD ok78 h
     ·refine Vg 6 ?_;refine Zf5 Sess.row (Ze5 ex7) trivial rfl rfl rfl (Vg 6 ?_);have ⟨x8,ex8,h⟩:=Bs h;refine Z67 [] [0] 2 1 (Z8b 0 1 (x4.set (Int.toNat (0)) (Sess.mk x7.ID x7.Need x7.State (max x7.Age (wr ((min x7.Age 4611686018427387903)+1))))) _ ex8) ?_;refine Vg 11 ?_;refine Z17 1 ?_;dsimp only[go_sem]
      exact MD ok78 h
    ·refine GL H.1 Sess.row ex7 ?_;dsimp only[go_sem];refine Z74 4 9 rfl ?_ ?_
     ·refine GL H.1 Sess.row ex7 ?_;dsimp only[go_sem];refine GE H.1 9 ?_;refine Gn H 1 4 ?_;refine GE H.1 11 ?_;refine Gn H 2 1 ?_;refine Z64 14 rfl ?_
      refine Zv5 H.1 [.iv (max x7.Age (wr ((min x7.Age 4611686018427387903)+1)))] Sess.row (y':=(Sess.mk x7.ID x7.Need x7.State (max x7.Age (wr ((min x7.Age 4611686018427387903)+1))))) ex7 rfl trivial rfl rfl rfl (by first | exact Zi4 _ | simp [go_sem]) rfl rfl rfl rfl ?_;dsimp only[go_sem];refine GD (Vg 6 ?_);refine Zf5 Sess.row (Ze5 ex7) trivial rfl rfl rfl (Vg 3 ?_);refine MI h (fun h=>?_) fun h=>?_
      ·refine Vg 7 ?_;refine Z17 0 ?_;dsimp only[go_sem];exact MD ok78 h
      ·refine Vg 6 ?_;refine Zf5 Sess.row (Ze5 ex7) trivial rfl rfl rfl (Vg 6 ?_);have ⟨x8,ex8,h⟩:=Bs h;refine Z67 [] [0] 2 1 (Z8b 0 1 (x4.set (Int.toNat (0)) (Sess.mk x7.ID x7.Need x7.State (max x7.Age (wr ((min x7.Age 4611686018427387903)+1))))) _ ex8) ?_;refine Vg 11 ?_;refine Z17 1 ?_;dsimp only[go_sem]
       exact MD ok78 h
     ·refine GV H.1 ?_;refine Gn H 1 5 ?_;refine Z64 4 rfl (GL H.1 Sess.row ex7 ?_);dsimp only[go_sem];refine GE H.1 11 ?_;refine Gn H 2 1 ?_;refine Z64 14 rfl ?_
      refine Zv5 H.1 [.iv (max x7.Age (wr ((min x7.Age 4611686018427387903)+1)))] Sess.row (y':=(Sess.mk x7.ID x7.Need x7.State (max x7.Age (wr ((min x7.Age 4611686018427387903)+1))))) ex7 rfl trivial rfl rfl rfl (by first | exact Zi4 _ | simp [go_sem]) rfl rfl rfl rfl ?_;dsimp only[go_sem];refine GD (Vg 6 ?_);refine Zf5 Sess.row (Ze5 ex7) trivial rfl rfl rfl (Vg 3 ?_);refine MI h (fun h=>?_) fun h=>?_
      ·refine Vg 7 ?_;refine Z17 0 ?_;dsimp only[go_sem];exact MD ok78 h
      ·refine Vg 6 ?_;refine Zf5 Sess.row (Ze5 ex7) trivial rfl rfl rfl (Vg 6 ?_);have ⟨x8,ex8,h⟩:=Bs h;refine Z67 [] [0] 2 1 (Z8b 0 1 (x4.set (Int.toNat (0)) (Sess.mk x7.ID x7.Need x7.State (max x7.Age (wr ((min x7.Age 4611686018427387903)+1))))) _ ex8) ?_;refine Vg 11 ?_;refine Z17 1 ?_;dsimp only[go_sem]
       exact MD ok78 h
  ·refine MC 22 h (fun h=>?_) fun h=>?_
   ·refine Vg 8 ?_;exact Zx4 J1 h
   ·refine Vg 2 ?_;have ⟨x5,ex5,h⟩:=Bs h;refine Zd5 Sess.row ex5 trivial rfl rfl rfl (Vg 1 ?_);refine Zf5 Sess.row ex5 trivial rfl rfl rfl (Vg 3 ?_);exact Zx4 J1 h
@[go_sem] def e82:EC:=(by have h:=hF Tryz.f82;(conv at h=>rhs;reduce);dsimp only[go_sem] at h;exact ⟨_,h⟩:DP Tryz.f82).1
theorem ok82:FnOK Tryz.prog 82 Tryz.f82 e82 [] 3 40:=okA
end
end NX
end Go.Proofs.YtdjkbodnjhgbcaaGreat
