/-
  The function (*narthex/node.node).tranquil: its code compiled, a model, and that the code answers as the model. Written by a program of ours (lb.py). No statement of the seat is proved here.
-/
import Derived.Test.YtdjkbodnjhgbcaaGreatP24
set_option maxRecDepth 100000
set_option maxHeartbeats 4000000
namespace Go.Proofs.YtdjkbodnjhgbcaaGreat
namespace NX
open Go
noncomputable section
@[go_sem] def e75:EC:=(by have h:=hF Tryz.f75;(conv at h=>rhs;reduce);dsimp only[go_sem] at h;exact ⟨_,h⟩:DP Tryz.f75).1
theorem ok75:FnOK Tryz.prog 75 Tryz.f75 e75 [] 1 19:=okA
def Z8j (x1 x2 x3:Int) (x4:List Side) (x5:List Int):Option (Int×Int×Int×List Side):=
 (Zvh (DK.mk (DI.mk x1 x2 x4) x3 x5)).bind fun x6=>
 ifb (!decide (x6=0)) (
 some (0,0,x6,([]:List Side))) (
 ifb (decide (x3=0)) (
 some (0,0,152,([]:List Side))) (
 (Zge x1 x2 x3 x4 x5).bind fun x7=>
 some (x1,x2,0,x7.1)))
theorem Z9j (x1 x2 x3:Int) (x4:List Side) (x5:List Int) (r:(Int×Int×Int×List Side)) (h:Z8j x1 x2 x3 x4 x5=some r):Zq5 Tryz.prog 117 [.agg [.iv x1,.iv x2,.osl 0,.iv x3,.osl 1]] [] [Sq6 x4,Sq7 x5] (.tup [.agg [.iv r.1,.iv r.2.1,.osl 2,.iv 0,.nl],.iv r.2.2.1]) [] [Sq6 x4,Sq7 x5,Sq6 r.2.2.2]:=by
 refine FT ok117 fun w0 M0=>?_
 rw [Z8j] at h
 dsimp only[lun,List.cons_append,List.nil_append]
 refine Vg 10 ?_;have ⟨x6,ex6,h⟩:=Bs h;refine VL ((LR.slice 0 rfl).slice 1 rfl) (Zwh (DK.mk (DI.mk x1 x2 x4) x3 x5) _ ex6) (Vg 7 ?_);refine MI h (fun h=>?_) fun h=>?_
 ·refine Vg 7 ?_;refine Z27 1 2 65 8 ?_;dsimp only[go_sem];obtain rfl:=Option.some.inj h;exact Z47 ok117
 ·refine Vg 8 ?_;refine MI h (fun h=>?_) fun h=>?_
  ·refine Vg 6 ?_;refine Z27 1 2 65 8 ?_;dsimp only[go_sem];obtain rfl:=Option.some.inj h;exact Z47 ok117
  ·refine Vg 4 ?_;have ⟨x7,ex7,h⟩:=Bs h;refine Z67 [] [0,1] 2 2 (Zhe x1 x2 x3 x4 x5 _ ex7) ?_;refine Vg 15 ?_;obtain rfl:=Option.some.inj h;exact Z47 ok117
@[go_sem] def e83:EC:=(by have h:=hF Tryz.f83;(conv at h=>rhs;reduce);dsimp only[go_sem] at h;exact ⟨_,h⟩:DP Tryz.f83).1
theorem ok83:FnOK Tryz.prog 83 Tryz.f83 e83 [.c 4 (some 2),.t 5,.t 6] 2 22:=okA
def Zaj (x1:Book) (x2:Int):Option (Book×List Int×Int):=
 (Zqf x1).bind fun x3=>
 ifb (!decide (x3=0)) (
 some ((Book.mk 0 (([]:List Sess))),([]:List Int),x3)) (
 (Zpd x1).bind fun x4=>
 (Zri x2 x4).bind fun x5=>
 some ((Book.mk x1.Last x5.2),x5.1,0))
theorem k_sess_Gone (x1:Book) (x2:Int) (r:(Book×List Int×Int)) (h:Zaj x1 x2=some r):Z03 Tryz.prog 83 [.agg (Book.row x1),.iv x2] (.tup [.agg (Book.row r.1),Sp0 r.2.1,.iv r.2.2]):=by
 refine FP ok83 fun w0 H0=>?_
 rw [Zaj] at h
 refine Vg 12 ?_;have ⟨x3,ex3,h⟩:=Bs h;refine VC (Zrf x1 _ ex3) (Vg 7 ?_);refine MI h (fun h=>?_) fun h=>?_
 ·refine Vg 8 ?_;exact MD ok83 h
 ·refine Vg 8 ?_;have ⟨x4,ex4,h⟩:=Bs h;refine Z67 [] [] 4 0 (Zqd x1 _ ex4) ?_;refine Vg 7 ?_;have ⟨x5,ex5,h⟩:=Bs h;refine Z67 [1,3] [0] 4 1 (Zsi x2 x4 _ ex5) ?_;refine Vg 4 ?_;refine Zz6 fun all H=>?_;dsimp only[go_sem]
  refine Z74 0 1 rfl ?_ ?_
  ·refine GV H.1 ?_;dsimp only[go_sem];refine Z74 1 2 rfl ?_ ?_
   ·refine GV H.1 ?_;dsimp only[go_sem];refine GE H.1 2 ?_;refine Gn H 2 0 ?_;refine GD (Z17 2 ?_);dsimp only[go_sem];refine Z17 1 ?_;dsimp only[go_sem];exact MD ok83 h
   ·refine GV H.1 ?_;dsimp only[go_sem];refine GE H.1 1 ?_;refine Gn H 2 0 ?_;refine GD (Z17 2 ?_);dsimp only[go_sem];refine Z17 1 ?_;dsimp only[go_sem];exact MD ok83 h
  ·refine GV H.1 ?_;dsimp only[go_sem];refine GE H.1 0 ?_;dsimp only[go_sem];refine GE H.1 2 ?_;refine Gn H 2 0 ?_;refine GD (Z17 2 ?_);dsimp only[go_sem];refine Z17 1 ?_;dsimp only[go_sem];exact MD ok83 h
def Zbj (x1 x3:Int) (x4:List Side) (x5:List Int) (x6:List Mail):Int→Option (Int×Int×Int×List Side×List Mail)
| x10=>
 (Zki (DI.mk x1 x10 x4)).bind fun x11=>
 (Zj4 40 x6 x11.2.2.2.2).bind fun x12=>
 (Z9h x11.1 x11.2.1 x3 x11.2.2.2.1 x5 x12).bind fun x13=>
 some (x11.1,x11.2.1,x13.1,x13.2.1,x13.2.2)
def Zcj (x1 x2 x3:Int) (x4:List Side) (x5:List Int) (x6:List Mail):Bool→Option (Int×Int×Int×List Side×List Mail)
| x9=>
 ifb x9 (
 (Zbj x1 x3 x4 x5 x6) 0) (
 (Zbj x1 x3 x4 x5 x6) x2)
def Zdj (x1 x2 x3:Int) (x4:List Side) (x5:List Int) (x6:List Mail):Bool→Option (Int×Int×Int×List Side×List Mail)
| x7=>
 ifb x7 (
 (Zbj x1 x3 x4 x5 x6) 1) (
 ifb (decide (x2=2)) (
 ifb (!decide (x3=1)) (
 (Zpa x4 ((fun z=>Zl8 z))).bind fun x8=>
 (Zcj x1 x2 x3 x4 x5 x6) (!x8)) (
 (Zcj x1 x2 x3 x4 x5 x6) false)) (
 (Zcj x1 x2 x3 x4 x5 x6) false))
def Zej (x1 x2 x3:Int) (x4:List Side) (x5:List Int) (x6:List Mail):Option (Int×Int×Int×List Side×List Mail):=
 ifb (decide (x3=1)) (
 (Zdj x1 x2 x3 x4 x5 x6) (decide (x2=0))) (
 (Zdj x1 x2 x3 x4 x5 x6) false)
theorem Zfj (x1 x2 x3:Int) (x4:List Side) (x5:List Int) (x6:List Mail) (r:(Int×Int×Int×List Side×List Mail)) (h:Zej x1 x2 x3 x4 x5 x6=some r):Zq5 Tryz.prog 154 [.ptr 0 0] [some ⟨178,[.iv x1,.iv x2,.osl 0,.iv x3,.osl 1,.osl 2]⟩] [Sq6 x4,Sq7 x5,Za7 x6] (.tup []) [some ⟨178,[.iv r.1,.iv r.2.1,.osl 3,.iv r.2.2.1,.osl 1,.osl 7]⟩] [none,Sq7 x5,none,Sq6 r.2.2.2.1,none,none,none,Za7 r.2.2.2.2]:=by
 refine FT ok154 fun w0 M0=>?_
 rw [Zej] at h
 dsimp only[lun,List.cons_append,List.nil_append]
 refine Vg 15 ?_;refine Zo4 (fun (x7:Bool)=>⟨(.ptr 0 0 :: .any :: .clo 173 []::an 3 (.bv x7::an 78 [])),[some ⟨178,[.iv x1,.iv x2,.osl 0,.iv x3,.osl 1,.osl 2]⟩],[Sq6 x4,Sq7 x5,Za7 x6]⟩) (Zdj x1 x2 x3 x4 x5 x6) r ?_ fun J1=>?_
 ·intro x7 h;rw [Zdj] at h;(try dsimp only);refine Zo4 (fun (x10:Int)=>⟨(.ptr 0 0::an 84 []),[some ⟨178,[.iv x1,.iv x10,.osl 0,.iv x3,.osl 1,.osl 2]⟩],[Sq6 x4,Sq7 x5,Za7 x6]⟩) (Zbj x1 x3 x4 x5 x6) r ?_ fun J2=>?_
  ·intro x10 h;rw [Zbj] at h;(try dsimp only);refine Vg 8 ?_;refine Z17 0 ?_;dsimp only[go_sem];have ⟨x11,ex11,h⟩:=Bs h;refine Z67 [] [] 1 3 (Zli (DI.mk x1 x10 x4) _ ex11) ?_;refine Vg 26 ?_;have ⟨x12,ex12,h⟩:=Bs h;refine Zu4 Mail.row ex12 trivial rfl rfl rfl (Vg 6 ?_);have ⟨x13,ex13,h⟩:=Bs h
   refine Z67 [0] [3,1,5] 2 6 (Zah x11.1 x11.2.1 x3 x11.2.2.2.1 x5 x12 _ ex13) ?_;refine Vg 1 ?_;obtain rfl:=Option.some.inj h;exact Z57 ok154
  ·refine MI h (fun h=>?_) fun h=>?_
   ·refine Vg 8 ?_;exact Zx4 J2 h
   ·refine Vg 10 ?_;refine Zo4 (fun (x9:Bool)=>⟨(.ptr 0 0::an 26 (.bv x9::an 57 [])),[some ⟨178,[.iv x1,.iv x2,.osl 0,.iv x3,.osl 1,.osl 2]⟩],[Sq6 x4,Sq7 x5,Za7 x6]⟩) (Zcj x1 x2 x3 x4 x5 x6) r ?_ fun J3=>?_
    ·intro x9 h;rw [Zcj] at h;(try dsimp only);refine MI h (fun h=>?_) fun h=>?_
     ·refine Vg 8 ?_;exact Zx4 J2 h
     ·refine Vg 1 ?_;exact Zx4 J2 h
    ·refine MC 35 h (fun h=>?_) fun h=>?_
     ·refine Vg 8 ?_;refine MC 43 h (fun h=>?_) fun h=>?_
      ·refine Vg 7 ?_;have ⟨x8,ex8,h⟩:=Bs h;refine VL (LR.slice 0 rfl) (Zqa x4 _ _ ((fun z=>Zl8 z)) ⟨by kernel_rfl,rfl,fun z r hz=>Zm8 z r hz⟩ _ ex8) (Vg 4 ?_);exact Zx4 J3 h
      ·refine Vg 12 ?_;exact Zx4 J3 h
     ·refine Vg 20 ?_;exact Zx4 J3 h
 ·refine MC 13 h (fun h=>?_) fun h=>?_
  ·refine Vg 10 ?_;exact Zx4 J1 h
  ·refine Vg 10 ?_;exact Zx4 J1 h
def Zgj:(List Side×List KE×List Mail×List Event)→Option (List Side×List KE×List Mail×List Event)
| (x52,x53,x54,x55)=>
 some (x52,x53,x54,x55)
def Zhj (x1 x2:Int) (x3 x4:Int) (x5:List Sess) (x6:List Int) (x7:Int) (x9:List Int) (x11:List KE):(Int×List Side×List KE×List Mail×List Event)→Option ((Int×List Side×List KE×List Mail×List Event) ⊕ (List Side×List KE×List Mail×List Event))
| (x23,x24,x25,x26,x27)=>
 ifb (decide (x23<(ln KE.row x11))) (
 (at_ x11 x23).bind fun x28=>
 (Zzi (Side.mk x28.Peer x28.Epoch 0 false false true false true) x1 x2 x3 x4 x5 x6 x7 x24 x9 x25 x11 x26 x27).bind fun x29=>
 (Zpc (Side.mk x28.Peer x28.Epoch 0 false false true false true) 6 x1 x2 x3 x4 x5 x6 x7 x29.1 x9 x29.2 x11 x26 x27).bind fun x30=>
 (Zrc 6 x28.Peer x1 x2 x3 x4 x5 x6 x7 x29.1 x9 x29.2 x11 x30 x27).bind fun x31=>
 some (.inl (wr (x23+1),x29.1,x29.2,x30,x31))) (
 Option.map Sum.inr (Zgj (x24,x25,x26,x27)))
def Zij (x1 x2:Int) (x3 x4:Int) (x5:List Sess) (x6:List Int) (x7:Int) (x8:List Side) (x9:List Int) (x10 x11:List KE) (x12:List Mail) (x13:List Event):Option (List Side×List KE×List Mail×List Event):=
 loop (Zhj x1 x2 x3 x4 x5 x6 x7 x9 x11) (0,x8,x10,x12,x13)
theorem Zjj (x1 x2:Int) (x3 x4:Int) (x5:List Sess) (x6:List Int) (x7:Int) (x8:List Side) (x9:List Int) (x10 x11:List KE) (x12:List Mail) (x13:List Event) (r:(List Side×List KE×List Mail×List Event)) (h:Zij x1 x2 x3 x4 x5 x6 x7 x8 x9 x10 x11 x12 x13=some r):Zq5 Tryz.prog 127 [.ptr 0 0] [some ⟨81,[.iv x1,.iv x2,.osl 0,.iv x3,.osl 1,.iv x4,Sp3 x5,.osl 2,Sp0 x6,.osl 3,.osl 4,.osl 5,.iv x7]⟩] [Sq6 x8,Sq7 x9,Sq8 x10,Sq8 x11,Za7 x12,Z97 x13] (.tup []) [some ⟨81,[.iv x1,.iv x2,.osl 7,.iv x3,.osl 1,.iv x4,Sp3 x5,.osl 9,Sp0 x6,.nl,.osl 11,.osl 13,.iv x7]⟩] [none,Sq7 x9,none,Sq8 x11,none,none,none,Sq6 r.1,none,Sq8 r.2.1,none,Za7 r.2.2.1,none,Z97 r.2.2.2]:=by
 refine FT ok127 fun w0 M0=>?_
 rw [Zij] at h
 dsimp only[lun,List.cons_append,List.nil_append]
 refine Vg 11 ?_
 refine Zo4 (fun ((x52,x53,x54,x55):(List Side×List KE×List Mail×List Event))=>⟨(.ptr 0 0::an 34 []),[some ⟨81,[.iv x1,.iv x2,.osl 7,.iv x3,.osl 1,.iv x4,Sp3 x5,.osl 9,Sp0 x6,.osl 3,.osl 11,.osl 13,.iv x7]⟩],[none,Sq7 x9,none,Sq8 x11,none,none,none,Sq6 x52,none,Sq8 x53,none,Za7 x54,none,Z97 x55]⟩) Zgj r ?_ fun J1=>?_
 ·rintro ⟨x52,x53,x54,x55⟩ h;rw [Zgj] at h;(try dsimp only);refine Vg 7 ?_;obtain rfl:=Option.some.inj h;exact Z57 ok127
 ·refine Vg 1 ?_;refine Z37 74 5 ?_;dsimp only[go_sem];refine Z37 74 5 ?_;dsimp only[go_sem];refine Z37 74 5 ?_;dsimp only[go_sem];refine Z37 74 5 ?_;dsimp only[go_sem];refine Z37 74 5 ?_;dsimp only[go_sem];refine Z37 74 5 ?_;dsimp only[go_sem];refine Z07 4 11 ?_;dsimp only[go_sem];refine Z37 57 5 ?_;dsimp only[go_sem];refine Z37 57 5 ?_;dsimp only[go_sem];refine Z07 5 13 (Z07 0 7 ?_);dsimp only[go_sem]
  refine Z07 2 9 ?_;dsimp only[go_sem]
  refine Zp4 h (fun ((x23,x24,x25,x26,x27):(Int×List Side×List KE×List Mail×List Event))=>⟨(.ptr 0 0::an 8 (.osl 3 :: .iv (ln KE.row x11) :: .iv x23::an 23 [])),[some ⟨81,[.iv x1,.iv x2,.osl 7,.iv x3,.osl 1,.iv x4,Sp3 x5,.osl 9,Sp0 x6,.osl 3,.osl 11,.osl 13,.iv x7]⟩],[none,Sq7 x9,none,Sq8 x11,none,none,none,Sq6 x24,none,Sq8 x25,none,Za7 x26,none,Z97 x27]⟩) (by simp [go_sem]) (by rintro ⟨x23,x24,x25,x26,x27⟩;first | rfl | simp [go_sem]) ?_
  rintro n1 ⟨x23,x24,x25,x26,x27⟩ y1 h hin1 hout1;rw [Zhj] at h;(try dsimp only);refine Vg 5 ?_;refine MI h (fun h=>?_) fun h=>?_
  ·refine Vg 5 ?_;have ⟨x28,ex28,h⟩:=Bs h;refine Zd5 KE.row ex28 trivial rfl rfl rfl (Zg5 KE.row ex28 trivial rfl rfl rfl (Vg 17 ?_));have ⟨x29,ex29,h⟩:=Bs h
   refine Z67 [0] [7,1,9,3,11,13] 3 14 (Z0j (Side.mk x28.Peer x28.Epoch 0 false false true false true) x1 x2 x3 x4 x5 x6 x7 x24 x9 x25 x11 x26 x27 _ ex29) ?_;refine Vg 5 ?_;have ⟨x30,ex30,h⟩:=Bs h
   refine Z67 [0] [15,1,17,3,11,13] 3 18 (Zqc (Side.mk x28.Peer x28.Epoch 0 false false true false true) 6 x1 x2 x3 x4 x5 x6 x7 x29.1 x9 x29.2 x11 x26 x27 _ ex30) ?_;refine Vg 5 ?_;have ⟨x31,ex31,h⟩:=Bs h
   refine Z67 [0] [15,1,17,3,19,13] 3 20 (Zsc 6 x28.Peer x1 x2 x3 x4 x5 x6 x7 x29.1 x9 x29.2 x11 x30 x27 _ ex31) ?_;refine Vg 6 ?_;refine Z07 19 11 (Z07 21 13 ?_);dsimp only[go_sem];refine Z07 15 7 (Z07 17 9 ?_)
   dsimp only[go_sem];exact Zw4 h hin1
  ·refine Vg 1 ?_;exact Zx4 J1 (Zn4 h hout1)
def Zkj:(Bool×Int)→Option (Bool×Int)
| (x8,x9)=>
 some (x8,x9)
def Zlj (x1:Node) (x2:Int) (p0:(Side→Option Bool)):Option (Bool×Int):=
 ifb (decide (x1.DK.DI.ID<64)) (
 (Z2g x1.KN x2).bind fun x3=>
 ifb (!x3.1) (
 (Zpa x1.DK.DI.SD p0).bind fun x4=>
 ifb (!x4) (
 (Z78 x1.Told).bind fun x5=>
 ifb x5 (
 (Zz8 x1 ((fun z=>Zk9 z))).bind fun x6=>
 (Zlh x1.Told x6).bind fun x7=>
 Zkj (x7,x3.2)) (
 Zkj (false,x3.2))) (
 Zkj (false,x3.2))) (
 Zkj (false,x3.2))) (
 Zkj (false,x2))
theorem Zmj (x1:Node) (x2:Int) (g0:Nat) (caps0:List AV) (p0:(Side→Option Bool)) (hc0:CloOK Tryz.prog g0 caps0 (fun z=>[.agg (Side.row z)]) p0 (fun z=>.bv z)) (r:(Bool×Int)) (h:Zlj x1 x2 p0=some r):Zq5 Tryz.prog 104 [.agg (Node.row x1),.clo 102 [.ptr 0 0],.clo g0 caps0] [some ⟨3,[.iv x2]⟩] [] (.bv r.1) [some ⟨3,[.iv r.2]⟩] []:=by
 refine FT ok104 fun w0 M0=>?_
 rw [Zlj] at h
 dsimp only[lun,List.cons_append,List.nil_append]
 refine Vg 6 ?_;refine Zo4 (fun ((x8,x9):(Bool×Int))=>⟨an 6 (.bv x8::an 33 []),[some ⟨3,[.iv x9]⟩],[]⟩) Zkj r ?_ fun J1=>?_
 ·rintro ⟨x8,x9⟩ h;rw [Zkj] at h;(try dsimp only);obtain rfl:=Option.some.inj h;exact Z47 ok104
 ·refine Zz6 fun all H=>?_;dsimp only[go_sem];refine GP H 6 28 [6,28] [(7,[.ptr 1 0,.ptr 1 0,.ptr 1 0,.iv x1.DK.DI.ID,.bv (decide (x1.DK.DI.ID<64)),.bv (decide (x1.DK.DI.ID<64))])] ?_;dsimp only[go_sem];refine Z25 12 h rfl (fun _ h=>?_) fun _ h=>?_
  ·dsimp only[go_sem];refine GP H 3 25 [9,25] [(13,[.ptr 1 7,Sp1 x1.KN,.clo 102 [.ptr 0 0]])] ?_;dsimp only[go_sem];refine Z64 9 rfl ?_;have ⟨x3,ex3,h⟩:=Bs h;refine GO_callTF H.1 (by kernel_rfl) [true,false] [] rfl trivial (Zy6 [0] [] 2 0 (Z3g x1.KN x2 _ ex3)) (ha:=(by first | exact Zi4 _ | simp [go_sem,rnFL_pu _ _ _ _ _ hc0.pu])) (h:=?_);dsimp only[go_sem];refine GP H 3 21 [13,21] [(17,[.bv (!x3.1),.bv (!x3.1),.bv (!x3.1)])] ?_
   dsimp only[go_sem];refine Z25 19 h rfl (fun _ h=>?_) fun _ h=>?_
   ·dsimp only[go_sem];refine GP H 5 16 [18,16] [(20,[.ptr 1 0,.ptr 1 0,.ptr 1 2,Sp2 x1.DK.DI.SD,.clo g0 caps0])] ?_;dsimp only[go_sem];refine Z64 18 rfl ?_;have ⟨x4,ex4,h⟩:=Bs h;refine GC H.1 (Zqa x1.DK.DI.SD _ _ p0 hc0 _ ex4) ?_ (hp:=(by first | rfl | simp [go_sem,hc0.pu]));dsimp only[go_sem];refine GP H 3 12 [22,12] [(26,[.bv (!x4),.bv (!x4),.bv (!x4)])] ?_;dsimp only[go_sem]
    refine Z25 28 h rfl (fun _ h=>?_) fun _ h=>?_
    ·dsimp only[go_sem];refine GP H 2 10 [24,10] [(29,[.ptr 1 8,Sp0 x1.Told])] ?_;dsimp only[go_sem];refine Z64 24 rfl ?_;have ⟨x5,ex5,h⟩:=Bs h;refine GC H.1 (Z88 x1.Told _ ex5) ?_ (hp:=(by first | rfl | simp [go_sem,hc0.pu]));dsimp only[go_sem];refine GP H 2 7 [27,7] [(32,[.bv x5,.bv x5])] ?_;dsimp only[go_sem];refine Z25 33 h rfl (fun _ h=>?_) fun _ h=>?_
     ·dsimp only[go_sem];refine GP H 3 4 [30,4] [(34,[.ptr 1 8,Sp0 x1.Told,.agg (Node.row x1)])] ?_;dsimp only[go_sem];refine Z64 30 rfl ?_;have ⟨x6,ex6,h⟩:=Bs h
      refine GC H.1 (Z09 x1 _ _ ((fun z=>Zk9 z)) ⟨by kernel_rfl,rfl,fun z r hz=>Zl9 z r hz⟩ _ ex6) ?_ (hp:=(by first | rfl | simp [go_sem,hc0.pu]));dsimp only[go_sem];refine Z64 31 rfl ?_;have ⟨x7,ex7,h⟩:=Bs h;refine GC H.1 (Zmh x1.Told x6 _ ex7) ?_ (hp:=(by first | rfl | simp [go_sem,hc0.pu]));dsimp only[go_sem];refine GP H 2 0 [34] [(6,[.bv x7]),(32,[.bv x7])] ?_;dsimp only[go_sem];refine GD ?_
      exact Zx4 J1 h (hok:=by first | rfl | simp [go_sem,Zh4 _ hc0.pu])
     ·dsimp only[go_sem];refine GP H 7 0 [34] [(39,[.ff])] ?_;dsimp only[go_sem];refine GD ?_;exact Zx4 J1 h (hok:=by first | rfl | simp [go_sem,Zh4 _ hc0.pu])
    ·dsimp only[go_sem];refine GP H 12 0 [34] [(32,[.ff,.ff]),(5,[.ff])] ?_;dsimp only[go_sem];refine GD ?_;exact Zx4 J1 h (hok:=by first | rfl | simp [go_sem,Zh4 _ hc0.pu])
   ·dsimp only[go_sem];refine GP H 21 0 [34] [(27,[.ff,.ff]),(3,[.ff,.ff]),(5,[.ff])] ?_;dsimp only[go_sem];refine GD ?_;exact Zx4 J1 h (hok:=by first | rfl | simp [go_sem,Zh4 _ hc0.pu])
  ·dsimp only[go_sem];refine GP H 28 0 [34] [(18,[.ff,.ff]),(7,[.ff,.ff]),(3,[.ff,.ff]),(5,[.ff])] ?_;dsimp only[go_sem];refine GD ?_;exact Zx4 J1 h (hok:=by first | rfl | simp [go_sem,Zh4 _ hc0.pu])
@[go_sem] def e52:EC:=(by have h:=hF Tryz.f52;(conv at h=>rhs;reduce);dsimp only[go_sem] at h;exact ⟨_,h⟩:DP Tryz.f52).1
theorem ok52:FnOK Tryz.prog 52 Tryz.f52 e52 [.t 2] 1 59:=okA
def Znj:Bool→Option Bool
| x9=>
 some x9
def Zoj (x1:Node):Bool→Option Bool
| x5=>
 ifb x5 (
 some false) (
 (Zz8 x1 ((fun z=>Z3a z))).bind fun x6=>
 (Zih x1.DK.Need x6).bind fun x7=>
 ifb (decide ((ln Z05 x7)=0)) (
 (Zta x1.Book.Sess ((fun z=>Z2j z x1))).bind fun x8=>
 Znj (!x8)) (
 Znj false))
def Zpj (x1:Node) (x2:(Sess×Bool)):Bool→Option Bool
| x3=>
 ifb (!((decide (x1.DK.TH=2))==x3)) (
 (Zoj x1) true) (
 ifb (!decide (x1.DK.TH=0)) (
 ifb (!x2.2) (
 (Zoj x1) true) (
 (Zs8 x2.1.Need x1.DK.Need).bind fun x4=>
 (Zoj x1) (!x4))) (
 (Zoj x1) false))
def Zqj (x1:Node):Option Bool:=
 (Z39 x1).bind fun x2=>
 ifb x2.2 (
 (Zpj x1 x2) (decide (x2.1.State=1))) (
 (Zpj x1 x2) false)
theorem k_node_thirst (x1:Node) (r:Bool) (h:Zqj x1=some r):Z03 Tryz.prog 52 [.agg (Node.row x1)] (.bv r):=by
 refine FP ok52 fun w0 H0=>?_
 rw [Zqj] at h
 refine Vg 8 ?_;have ⟨x2,ex2,h⟩:=Bs h;refine VC (k_node_first x1 _ ex2) (Vg 11 ?_)
 refine Zo4 (fun (x3:Bool)=>⟨(.any :: .ptr 0 0 :: .any :: .ptr 1 0 :: .bv x2.2 :: .bv x3::an 54 []),[some ⟨35,Node.row x1⟩,some ⟨60,Sess.row x2.1⟩],[]⟩) (Zpj x1 x2) r ?_ fun J1=>?_
 ·intro x3 h;rw [Zpj] at h;(try dsimp only);refine Vg 10 ?_;refine Zo4 (fun (x5:Bool)=>⟨(.any :: .ptr 0 0::an 40 (.bv x5::an 17 [])),[some ⟨35,Node.row x1⟩],[]⟩) (Zoj x1) r ?_ fun J2=>?_
  ·intro x5 h;rw [Zoj] at h;(try dsimp only);refine MI h (fun h=>?_) fun h=>?_
   ·refine Vg 4 ?_;exact MD ok52 h
   ·refine Vg 6 ?_;refine Zo4 (fun (x9:Bool)=>⟨(.any :: .any :: .bv x9::an 57 []),[],[]⟩) Znj r ?_ fun J3=>?_
    ·intro x9 h;rw [Znj] at h;(try dsimp only);exact MD ok52 h
    ·refine Zz6 fun all H=>?_;dsimp only[go_sem];refine GP H 5 13 [5,13] [(43,[.ptr 0 0,.ptr 0 4,Sp0 x1.DK.Need,.agg (Node.row x1),.clo 105 []])] ?_;dsimp only[go_sem]
     refine Z64 5 rfl ?_;have ⟨x6,ex6,h⟩:=Bs h;refine GC H.1 (Z09 x1 _ _ ((fun z=>Z3a z)) ⟨by kernel_rfl,rfl,fun z r hz=>Z4a z r hz⟩ _ ex6) ?_;dsimp only[go_sem];refine Z64 6 rfl ?_;have ⟨x7,ex7,h⟩:=Bs h;refine GC H.1 (k_set_Both x1.DK.Need x6 _ ex7) ?_;refine Gn H 3 8 ?_;refine Z25 52 h rfl (fun _ h=>?_) fun _ h=>?_
     ·dsimp only[go_sem];refine GP H 4 4 [14,4] [(53,[.ptr 0 5,.ptr 0 6,Sp3 x1.Book.Sess,.clo 108 [.ptr 0 0]])] ?_;dsimp only[go_sem];refine Z64 14 rfl ?_;have ⟨x8,ex8,h⟩:=Bs h;refine GK H.1 (LR.block 0 rfl rfl) (Zua x1.Book.Sess _ _ ((fun z=>Z2j z x1)) ⟨by kernel_rfl,rfl,fun z r hz=>Z3j z x1 r hz⟩ _ ex8) ?_;refine Gn H 3 0 ?_;refine GD ?_
      exact Zx4 J3 h
     ·dsimp only[go_sem];refine GP H 8 0 [18] [(2,[.ff]),(50,[.un,.un,.un,.un,.un,.un,.ff])] ?_;dsimp only[go_sem];refine GD ?_;exact Zx4 J3 h
  ·refine MC 24 h (fun h=>?_) fun h=>?_
   ·refine Vg 19 ?_;exact Zx4 J2 h
   ·refine Vg 5 ?_;refine MC 29 h (fun h=>?_) fun h=>?_
    ·refine Vg 3 ?_;refine MC 32 h (fun h=>?_) fun h=>?_
     ·refine Vg 11 ?_;exact Zx4 J2 h
     ·refine Vg 5 ?_;have ⟨x4,ex4,h⟩:=Bs h;refine VC (Zt8 x2.1.Need x1.DK.Need _ ex4) (Vg 5 ?_);exact Zx4 J2 h
    ·refine Vg 14 ?_;exact Zx4 J2 h
 ·refine MC 13 h (fun h=>?_) fun h=>?_
  ·refine Vg 6 ?_;exact Zx4 J1 h
  ·refine Vg 6 ?_;exact Zx4 J1 h
@[go_sem] def e87:EC:=(by have h:=hF Tryz.f87;(conv at h=>rhs;reduce);dsimp only[go_sem] at h;exact ⟨_,h⟩:DP Tryz.f87).1
theorem ok87:FnOK Tryz.prog 87 Tryz.f87 e87 [.c 6 (some 5),.t 7] 3 77:=okA
@[go_sem] def e130:EC:=(by have h:=hF Tryz.f130;(conv at h=>rhs;reduce);dsimp only[go_sem] at h;exact ⟨_,h⟩:DP Tryz.f130).1
theorem ok130:FnOK Tryz.prog 130 Tryz.f130 e130 [.c 2 (some 5),.t 3,.t 4] 1 38:=okA
@[go_sem] def e32:EC:=(by have h:=hF Tryz.f32;(conv at h=>rhs;reduce);dsimp only[go_sem] at h;exact ⟨_,h⟩:DP Tryz.f32).1
theorem ok32:FnOK Tryz.prog 32 Tryz.f32 e32 [] 2 159:=okA
def Zrj:(Int×Int×Int×List Side×List Int)→Option (Int×Int×Int×List Side×List Int)
| (x14,x15,x16,x17,x18)=>
 some (x14,x15,x16,x17,x18)
def Zsj (x1 x2:Int) (x3 _x4:Int) (_x5:List Sess) (_x6:Int) (x7:List Side) (x8:List Int) (_x9:List KE) (_x10:List Int) (_x11:List KE) (_x12:List Event):Option (Int×Int×Int×List Side×List Int):=
 (Z8j x1 x2 x3 x7 x8).bind fun x13=>
 ifb (decide (x13.2.2.1=0)) (
 Zrj (x13.1,x13.2.1,0,x13.2.2.2,([]:List Int))) (
 Zrj (x1,x2,x3,x7,x8))
theorem Ztj (x1 x2:Int) (x3 x4:Int) (x5:List Sess) (x6:Int) (x7:List Side) (x8:List Int) (x9:List KE) (x10:List Int) (x11:List KE) (x12:List Event) (r:(Int×Int×Int×List Side×List Int)) (h:Zsj x1 x2 x3 x4 x5 x6 x7 x8 x9 x10 x11 x12=some r):Zq5 Tryz.prog 75 [.ptr 0 0] [some ⟨81,[.iv x1,.iv x2,.osl 0,.iv x3,.osl 1,.iv x4,Sp3 x5,.osl 2,.osl 3,.osl 4,.nl,.osl 5,.iv x6]⟩] [Sq6 x7,Sq7 x8,Sq8 x9,Sq7 x10,Sq8 x11,Z97 x12] (.tup []) [some ⟨81,[.iv r.1,.iv r.2.1,.osl 6,.iv r.2.2.1,.osl 7,.iv x4,Sp3 x5,.osl 2,.osl 3,.osl 4,.nl,.osl 5,.iv x6]⟩] [none,none,Sq8 x9,Sq7 x10,Sq8 x11,Z97 x12,Sq6 r.2.2.2.1,Sq7 r.2.2.2.2]:=by
 refine FT ok75 fun w0 M0=>?_
 rw [Zsj] at h
 dsimp only[lun,List.cons_append,List.nil_append]
 refine Vg 7 ?_;have ⟨x13,ex13,h⟩:=Bs h;refine Z67 [] [0,1] 1 6 (Z9j x1 x2 x3 x7 x8 _ ex13) ?_;refine Vg 12 ?_
 refine Zo4 (fun ((x14,x15,x16,x17,x18):(Int×Int×Int×List Side×List Int))=>⟨an 20 [],[some ⟨81,[.iv x14,.iv x15,.osl 6,.iv x16,.osl 7,.iv x4,Sp3 x5,.osl 2,.osl 3,.osl 4,.nl,.osl 5,.iv x6]⟩],[none,none,Sq8 x9,Sq7 x10,Sq8 x11,Z97 x12,Sq6 x17,Sq7 x18]⟩) Zrj r ?_ fun J1=>?_
 ·rintro ⟨x14,x15,x16,x17,x18⟩ h;rw [Zrj] at h;(try dsimp only);obtain rfl:=Option.some.inj h;exact Z57 ok75
 ·refine MI h (fun h=>?_) fun h=>?_
  ·refine Vg 8 ?_;refine Z27 0 4 3 1 ?_;dsimp only[go_sem];exact Zx4 J1 h
  ·refine Vg 1 ?_;refine Z07 0 6 ?_;dsimp only[go_sem];refine Z37 3 1 ?_;dsimp only[go_sem];refine Z07 1 7 ?_;dsimp only[go_sem];exact Zx4 J1 h
@[go_sem] def e36:EC:=(by have h:=hF Tryz.f36;(conv at h=>rhs;reduce);dsimp only[go_sem] at h;exact ⟨_,h⟩:DP Tryz.f36).1
theorem ok36:FnOK Tryz.prog 36 Tryz.f36 e36 [] 2 76:=okA
@[go_sem] def e51:EC:=(by have h:=hF Tryz.f51;(conv at h=>rhs;reduce);dsimp only[go_sem] at h;exact ⟨_,h⟩:DP Tryz.f51).1
theorem ok51:FnOK Tryz.prog 51 Tryz.f51 e51 [.t 2] 1 21:=okA
def Zuj (x1:Node):Bool→Option Bool
| x4=>
 ifb x4 (
 (Zlj x1 ((-1)) ((fun z=>Zyc z x1))).bind fun x5=>
 some x5.1) (
 some false)
def Zvj (x1:Node):Option Bool:=
 (Zra x1.AK ((fun z=>Z4g z x1))).bind fun x2=>
 ifb (!x2) (
 (Z4f x1.AK).bind fun x3=>
 (Zuj x1) x3) (
 (Zuj x1) false)
theorem k_node_edges (x1:Node) (r:Bool) (h:Zvj x1=some r):Z03 Tryz.prog 51 [.agg (Node.row x1)] (.bv r):=by
 refine FP ok51 fun w0 H0=>?_
 rw [Zvj] at h
 refine Vg 26 ?_;have ⟨x2,ex2,h⟩:=Bs h;refine VL (LR.block 0 rfl rfl) (Zsa x1.AK _ _ ((fun z=>Z4g z x1)) ⟨by kernel_rfl,rfl,fun z r hz=>Z5g z x1 r hz⟩ _ ex2) (Vg 2 ?_)
 refine Zo4 (fun (x4:Bool)=>⟨(.any :: .ptr 0 0 :: .any :: .clo 101 [.ptr 0 0] :: .any :: .clo 102 [.ptr 1 0]::an 11 (.bv x4::an 4 [])),[some ⟨35,Node.row x1⟩,some ⟨3,[.iv ((-1))]⟩],[]⟩) (Zuj x1) r ?_ fun J1=>?_
 ·intro x4 h;rw [Zuj] at h;(try dsimp only);refine MI h (fun h=>?_) fun h=>?_
  ·refine Vg 5 ?_;refine Zk3 0 rfl rfl ?_;dsimp only[go_sem];have ⟨x5,ex5,h⟩:=Bs h;refine Z67 [1] [] 2 0 (Zmj x1 ((-1)) _ _ ((fun z=>Zyc z x1)) ⟨by kernel_rfl,rfl,fun z r hz=>Zzc z x1 r hz⟩ _ ex5) ?_;refine Vg 2 ?_;exact MD ok51 h
  ·refine Vg 5 ?_;exact MD ok51 h
 ·refine MC 13 h (fun h=>?_) fun h=>?_
  ·refine Vg 2 ?_;have ⟨x3,ex3,h⟩:=Bs h;refine VC (Z5f x1.AK _ ex3) (Vg 2 ?_);exact Zx4 J1 h
  ·refine Vg 5 ?_;exact Zx4 J1 h
@[go_sem] def e41:EC:=(by have h:=hF Tryz.f41;(conv at h=>rhs;reduce);dsimp only[go_sem] at h;exact ⟨_,h⟩:DP Tryz.f41).1
theorem ok41:FnOK Tryz.prog 41 Tryz.f41 e41 [] 3 25:=okA
def Zwj (x1 x2:Int) (x3 x4:Int) (x5:Msg) (x9:(List Side×List Int)) (x10:Int):Bool→Option (Int×Int×Int×Int×List Side×List Int)
| x11=>
 ifb x11 (
 (Z7j x1 x2 x4 x5 x9.1).bind fun x12=>
 ifb (!decide (x12.2.2.1=0)) (
 some (0,0,0,x12.2.2.1,([]:List Side),([]:List Int))) (
 some (x12.1,x12.2.1,x3,0,x12.2.2.2,x9.2))) (
 (at_ x9.1 x10).bind fun x13=>
 ifb (decide (x5.Kind=4)) (
 ifb x13.Ask (
 some (0,0,0,132,([]:List Side),([]:List Int))) (
 some (x1,x2,x3,0,x9.1.set (Int.toNat (x10)) (Side.mk x13.Peer x13.Epoch x13.State x13.Fork x13.DY x13.Token x13.BO true),x9.2))) (
 ifb x13.BO (
 some (0,0,0,132,([]:List Side),([]:List Int))) (
 some (x1,x2,x3,0,x9.1.set (Int.toNat (x10)) (Side.mk x13.Peer x13.Epoch x13.State x13.Fork x13.DY x13.Token true x13.Ask),x9.2))))
def Zxj (x1 x2:Int) (x3 x4:Int) (x5:Msg) (x6:List Side) (x7:List Int):Option (Int×Int×Int×Int×List Side×List Int):=
 (Zvh (DK.mk (DI.mk x1 x2 x6) x3 x7)).bind fun x8=>
 ifb (!decide (x8=0)) (
 some (0,0,0,x8,([]:List Side),([]:List Int))) (
 (Zge x1 x2 x3 x6 x7).bind fun x9=>
 (Ze7 x9.1 ((fun z=>Z6a z x4 x5))).bind fun x10=>
 ifb (decide (x10<0)) (
 (Zwj x1 x2 x3 x4 x5 x9 x10) true) (
 ifb (!decide (x5.Num=0)) (
 (Zwj x1 x2 x3 x4 x5 x9 x10) true) (
 ifb (!decide (x5.Kind=3)) (
 (Zwj x1 x2 x3 x4 x5 x9 x10) (!decide (x5.Kind=4))) (
 (Zwj x1 x2 x3 x4 x5 x9 x10) false))))
theorem Zyj (x1 x2:Int) (x3 x4:Int) (x5:Msg) (x6:List Side) (x7:List Int) (r:(Int×Int×Int×Int×List Side×List Int)) (h:Zxj x1 x2 x3 x4 x5 x6 x7=some r):Zq5 Tryz.prog 87 [.agg [.iv x1,.iv x2,.osl 0,.iv x3,.osl 1],.iv x4,.agg (Msg.row x5)] [] [Sq6 x6,Sq7 x7] (.tup [.agg [.iv r.1,.iv r.2.1,.osl 2,.iv r.2.2.1,.osl 3],.iv r.2.2.2.1]) [] [Sq6 x6,Sq7 x7,Sq6 r.2.2.2.2.1,Sq7 r.2.2.2.2.2]:=by
 refine FT ok87 fun w0 M0=>?_
 rw [Zxj] at h
 dsimp only[lun,List.cons_append,List.nil_append]
 refine Vg 12 ?_;have ⟨x8,ex8,h⟩:=Bs h;refine VL ((LR.slice 0 rfl).slice 1 rfl) (Zwh (DK.mk (DI.mk x1 x2 x6) x3 x7) _ ex8) (Vg 7 ?_);refine MI h (fun h=>?_) fun h=>?_
 ·refine Vg 7 ?_;refine Z27 3 2 65 8 ?_;dsimp only[go_sem];refine Z27 3 4 3 1 ?_;dsimp only[go_sem];obtain rfl:=Option.some.inj h;exact Z47 ok87
 ·refine Vg 4 ?_;have ⟨x9,ex9,h⟩:=Bs h;refine Z67 [] [0,1] 4 2 (Zhe x1 x2 x3 x6 x7 _ ex9) ?_;refine Vg 8 ?_;have ⟨x10,ex10,h⟩:=Bs h;refine VL (((LR.slice 2 rfl).block 1 rfl rfl).block 2 rfl rfl) (Zf7 x9.1 _ _ ((fun z=>Z6a z x4 x5)) ⟨by kernel_rfl,rfl,fun z r hz=>k_drink_Get_1 z x4 x5 r hz⟩ _ ex10) (Zv2 8 ?_)
  dsimp only[go_sem];refine An (Zo4 (fun (x11:Bool)=>⟨an 3 (.ptr 0 0 :: .ptr 1 0 :: .ptr 2 0 :: .ptr 3 0 :: .any :: .any :: .iv x10::an 32 (.bv x11::an 37 [])),[some ⟨29,[.iv x1,.iv x2,.osl 2,.iv x3,.osl 3]⟩,some ⟨3,[.iv x4]⟩,some ⟨41,Msg.row x5⟩,some ⟨29,[.iv 0,.iv 0,.nl,.iv 0,.nl]⟩],[Sq6 x6,Sq7 x7,Sq6 x9.1,Sq7 x9.2]⟩) (Zwj x1 x2 x3 x4 x5 x9 x10) r ?_ fun J1=>?_)
  ·intro x11 h;rw [Zwj] at h;(try dsimp only);refine MI h (fun h=>?_) fun h=>?_
   ·refine Vg 6 ?_;have ⟨x12,ex12,h⟩:=Bs h;refine Z67 [] [2] 4 4 (t_dine_Get_I1 x1 x2 x4 x5 x9.1 _ ex12) ?_;refine Vg 13 ?_;refine MI h (fun h=>?_) fun h=>?_
    ·refine Vg 7 ?_;refine Z27 3 2 65 8 ?_;dsimp only[go_sem];refine Z27 3 4 3 1 ?_;dsimp only[go_sem];refine Z07 5 2 (Z07 6 3 ?_);dsimp only[go_sem];obtain rfl:=Option.some.inj h;exact Z47 ok87
    ·refine Vg 13 ?_;refine Z07 4 2 ?_;dsimp only[go_sem];obtain rfl:=Option.some.inj h;exact Z47 ok87
   ·refine Vg 7 ?_;have ⟨x13,ex13,h⟩:=Bs h;refine Zd5 Side.row ex13 trivial rfl rfl rfl (Vg 10 ?_);refine MI h (fun h=>?_) fun h=>?_
    ·refine Vg 5 ?_;refine Zd5 Side.row ex13 trivial rfl rfl rfl (Vg 8 ?_);refine Zf5 Side.row ex13 trivial rfl rfl rfl (Vg 1 ?_);refine MI h (fun h=>?_) fun h=>?_
     ·refine Vg 6 ?_;refine Z27 3 2 65 8 ?_;dsimp only[go_sem];refine Z27 3 4 3 1 ?_;dsimp only[go_sem];refine Z07 4 2 (Z07 5 3 ?_);dsimp only[go_sem];obtain rfl:=Option.some.inj h;exact Z47 ok87
     ·refine Vg 5 ?_;refine Zk5 [.bv true] Side.row (y':=(Side.mk x13.Peer x13.Epoch x13.State x13.Fork x13.DY x13.Token x13.BO true)) ex13 trivial rfl rfl rfl (by first | exact Zi4 _ | simp [go_sem]) rfl rfl rfl rfl (Vg 7 ?_);obtain rfl:=Option.some.inj h;exact Z47 ok87
    ·refine Vg 6 ?_;refine Zf5 Side.row ex13 trivial rfl rfl rfl (Vg 1 ?_);refine MI h (fun h=>?_) fun h=>?_
     ·refine Vg 6 ?_;refine Z27 3 2 65 8 ?_;dsimp only[go_sem];refine Z27 3 4 3 1 ?_;dsimp only[go_sem];refine Z07 4 2 (Z07 5 3 ?_);dsimp only[go_sem];obtain rfl:=Option.some.inj h;exact Z47 ok87
     ·refine Vg 5 ?_;refine Zk5 [.bv true] Side.row (y':=(Side.mk x13.Peer x13.Epoch x13.State x13.Fork x13.DY x13.Token true x13.Ask)) ex13 trivial rfl rfl rfl (by first | exact Zi4 _ | simp [go_sem]) rfl rfl rfl rfl (Vg 7 ?_);obtain rfl:=Option.some.inj h;exact Z47 ok87
  ·refine MC 28 h (fun h=>?_) fun h=>?_
   ·refine Vg 15 ?_;exact Zx4 J1 h
   ·refine Vg 5 ?_;refine MC 33 h (fun h=>?_) fun h=>?_
    ·refine Vg 10 ?_;exact Zx4 J1 h
    ·refine Vg 4 ?_;refine MC 37 h (fun h=>?_) fun h=>?_
     ·refine Vg 6 ?_;exact Zx4 J1 h
     ·refine Vg 6 ?_;exact Zx4 J1 h
end
end NX
end Go.Proofs.YtdjkbodnjhgbcaaGreat
