/-
  The function (*narthex/node.node).leave, lent own memory. Written by a program of ours (lb.py). No statement of the seat is proved here.
-/
import Derived.Test.YtdjkbodnjhgbcaaGreatP22
set_option maxRecDepth 100000
set_option maxHeartbeats 4000000
namespace Go.Proofs.YtdjkbodnjhgbcaaGreat
namespace NX
open Go
noncomputable section
def Zbh:(List Side×List Mail)→Option ((List Side×List Mail) ⊕ (List Mail×List Side))
| (x100,x101)=>
 Option.map Sum.inr (some (x101,x100))
def Zch (x71:Int):(List Side×List Mail)→Option ((Int×List Side×List Mail) ⊕ ((List Side×List Mail) ⊕ (List Mail×List Side)))
| (x80,x81)=>
 some (.inl (wr (x71+1),x80,x81))
def Zdh (x1 x2:Int) (x3 x4:Int) (x5:List Sess) (x6:List Int) (x7:Int) (x9:List Int) (x10 x11:List KE) (x13:List Event) (x71:Int) (x72:List Side) (x73:List Mail) (x74:Side):Bool→Option ((Int×List Side×List Mail) ⊕ ((List Side×List Mail) ⊕ (List Mail×List Side)))
| x76=>
 ifb x76 (
 (Zch x71) (x72,x73)) (
 ifb (decide (x1<x74.Peer)) (
 (Zpc x74 7 x1 x2 x3 x4 x5 x6 x7 (x72.set (Int.toNat (x71)) (Side.mk x74.Peer x74.Epoch 3 x74.Fork x74.DY x74.Token x74.BO x74.Ask)) x9 x10 x11 x73 x13).bind fun x77=>
 (Zch x71) ((x72.set (Int.toNat (x71)) (Side.mk x74.Peer x74.Epoch 3 x74.Fork x74.DY x74.Token x74.BO x74.Ask)),x77)) (
 (Z0g x74.Peer x1 x2 x3 x4 x5 x6 x7 x72 x9 x10 x11 x73 x13).bind fun x78=>
 (Zpc x74 8 x1 x2 x3 x4 x5 x6 x7 x78 x9 x10 x11 x73 x13).bind fun x79=>
 Option.map Sum.inr (some (.inl (x78,x79)))))
def Zeh (x1 x2:Int) (x3 x4:Int) (x5:List Sess) (x6:List Int) (x7:Int) (x9:List Int) (x10 x11:List KE) (x13:List Event) (x58:List Side):(Int×List Side×List Mail)→Option ((Int×List Side×List Mail) ⊕ ((List Side×List Mail) ⊕ (List Mail×List Side)))
| (x71,x72,x73)=>
 ifb (decide (x71<(ln Side.row x58))) (
 (at_ x72 x71).bind fun x74=>
 ifb (!decide (x74.State=2)) (
 (Zdh x1 x2 x3 x4 x5 x6 x7 x9 x10 x11 x13 x71 x72 x73 x74) true) (
 ifb (decide (x3=2)) (
 (Zgd x9 x74.Peer).bind fun x75=>
 (Zdh x1 x2 x3 x4 x5 x6 x7 x9 x10 x11 x13 x71 x72 x73 x74) x75) (
 (Zdh x1 x2 x3 x4 x5 x6 x7 x9 x10 x11 x13 x71 x72 x73 x74) false))) (
 Option.map Sum.inr (Zbh (x72,x73)))
def Zfh (x1 x2:Int) (x3 x4:Int) (x5:List Sess) (x6:List Int) (x7:Int) (x9:List Int) (x10 x11:List KE) (x13:List Event):(List Side×List Mail)→Option ((List Side×List Mail) ⊕ (List Mail×List Side))
| (x58,x59)=>
 loop (Zeh x1 x2 x3 x4 x5 x6 x7 x9 x10 x11 x13 x58) (0,x58,x59)
def Zgh (x1 x2:Int) (x3 x4:Int) (x5:List Sess) (x6:List Int) (x7:Int) (x8:List Side) (x9:List Int) (x10 x11:List KE) (x12:List Mail) (x13:List Event):Option (List Mail×List Side):=
 loop (Zfh x1 x2 x3 x4 x5 x6 x7 x9 x10 x11 x13) (x8,x12)
theorem Zhh (x1 x2:Int) (x3 x4:Int) (x5:List Sess) (x6:List Int) (x7:Int) (x8:List Side) (x9:List Int) (x10 x11:List KE) (x12:List Mail) (x13:List Event) (r:(List Mail×List Side)) (h:Zgh x1 x2 x3 x4 x5 x6 x7 x8 x9 x10 x11 x12 x13=some r):Zq5 Tryz.prog 133 [.ptr 0 0] [some ⟨81,[.iv x1,.iv x2,.osl 0,.iv x3,.osl 1,.iv x4,Sp3 x5,.osl 2,Sp0 x6,.osl 3,.osl 4,.osl 5,.iv x7]⟩] [Sq6 x8,Sq7 x9,Sq8 x10,Sq8 x11,Za7 x12,Z97 x13] (.tup []) [some ⟨81,[.iv x1,.iv x2,.osl 8,.iv x3,.osl 1,.iv x4,Sp3 x5,.osl 2,Sp0 x6,.osl 3,.osl 7,.osl 5,.iv x7]⟩] [none,Sq7 x9,Sq8 x10,Sq8 x11,none,Z97 x13,none,Za7 r.1,Sq6 r.2]:=by
 refine FT ok133 fun w0 M0=>?_
 rw [Zgh] at h
 dsimp only[lun,List.cons_append,List.nil_append]
 refine Vg 3 ?_;refine Z37 74 5 ?_;dsimp only[go_sem];refine Z37 74 5 ?_;dsimp only[go_sem];refine Z37 74 5 ?_;dsimp only[go_sem];refine Z37 74 5 ?_;dsimp only[go_sem];refine Z37 74 5 ?_;dsimp only[go_sem];refine Z07 4 10 (Z07 0 8 ?_);dsimp only[go_sem]
 refine M_jump h (fun ((x58,x59):(List Side×List Mail))=>⟨(.ptr 0 0::an 70 []),[some ⟨81,[.iv x1,.iv x2,.osl 8,.iv x3,.osl 1,.iv x4,Sp3 x5,.osl 2,Sp0 x6,.osl 3,.osl 10,.osl 5,.iv x7]⟩],[none,Sq7 x9,Sq8 x10,Sq8 x11,none,Z97 x13,none,none,Sq6 x58,none,Za7 x59]⟩) (by simp [go_sem]) (by rintro ⟨x58,x59⟩;first | rfl | simp [go_sem]) (by rintro ⟨x58,x59⟩;rfl) (by rintro ⟨x58,x59⟩;rfl) ?_
 rintro ⟨x58,x59⟩ y1 h hin1 hout1;rw [Zfh] at h;(try dsimp only);refine Vg 12 ?_
 refine Zo4 (fun ((x100,x101):(List Side×List Mail))=>⟨an 71 [],[some ⟨81,[.iv x1,.iv x2,.osl 8,.iv x3,.osl 1,.iv x4,Sp3 x5,.osl 2,Sp0 x6,.osl 3,.osl 10,.osl 5,.iv x7]⟩],[none,Sq7 x9,Sq8 x10,Sq8 x11,none,Z97 x13,none,none,Sq6 x100,none,Za7 x101]⟩) Zbh y1 ?_ fun J1=>?_
 ·rintro ⟨x100,x101⟩ h;rw [Zbh] at h;(try dsimp only);refine Vg 1 ?_;refine Z07 10 7 ?_;dsimp only[go_sem];obtain rfl:=Option.some.inj (Zn4 h hout1);exact Z57 ok133
 ·refine Vg 1 ?_
  refine Zp4 h (fun ((x71,x72,x73):(Int×List Side×List Mail))=>⟨(.ptr 0 0::an 9 (.osl 8 :: .iv (ln Side.row x58) :: .iv x71::an 58 [])),[some ⟨81,[.iv x1,.iv x2,.osl 8,.iv x3,.osl 1,.iv x4,Sp3 x5,.osl 2,Sp0 x6,.osl 3,.osl 10,.osl 5,.iv x7]⟩],[none,Sq7 x9,Sq8 x10,Sq8 x11,none,Z97 x13,none,none,Sq6 x72,none,Za7 x73]⟩) (by simp [go_sem]) (by rintro ⟨x71,x72,x73⟩;first | rfl | simp [go_sem]) ?_
  rintro n2 ⟨x71,x72,x73⟩ y2 h hin2 hout2;rw [Zeh] at h;(try dsimp only);refine Vg 5 ?_;refine MI h (fun h=>?_) fun h=>?_
  ·refine Vg 2 ?_
   refine Zo4 (fun ((x80,x81):(List Side×List Mail))=>⟨(.ptr 0 0::an 9 (.osl 8 :: .iv (ln Side.row x58) :: .iv x71::an 58 [])),[some ⟨81,[.iv x1,.iv x2,.osl 8,.iv x3,.osl 1,.iv x4,Sp3 x5,.osl 2,Sp0 x6,.osl 3,.osl 10,.osl 5,.iv x7]⟩],[none,Sq7 x9,Sq8 x10,Sq8 x11,none,Z97 x13,none,none,Sq6 x80,none,Za7 x81]⟩) (Zch x71) y2 ?_ fun J2=>?_
   ·rintro ⟨x80,x81⟩ h;rw [Zch] at h;(try dsimp only);refine Vg 4 ?_;exact Zw4 h hin2
   ·refine Vg 4 ?_;have ⟨x74,ex74,h⟩:=Bs h;refine Zd5 Side.row ex74 trivial rfl rfl rfl (Zg5 Side.row ex74 trivial rfl rfl rfl (Vg 6 ?_))
    refine Zo4 (fun (x76:Bool)=>⟨(.ptr 0 0 :: .any :: .iv x71 :: .ptr 1 0::an 6 (.osl 8 :: .iv (ln Side.row x58) :: .iv x71::an 26 (.bv x76::an 31 []))),[some ⟨81,[.iv x1,.iv x2,.osl 8,.iv x3,.osl 1,.iv x4,Sp3 x5,.osl 2,Sp0 x6,.osl 3,.osl 10,.osl 5,.iv x7]⟩,some ⟨65,Side.row x74⟩],[none,Sq7 x9,Sq8 x10,Sq8 x11,none,Z97 x13,none,none,Sq6 x72,none,Za7 x73]⟩) (Zdh x1 x2 x3 x4 x5 x6 x7 x9 x10 x11 x13 x71 x72 x73 x74) y2 ?_ fun J3=>?_
    ·intro x76 h;rw [Zdh] at h;(try dsimp only);refine MI h (fun h=>?_) fun h=>?_
     ·refine Vg 1 ?_;exact Zx4 J2 h
     ·refine Vg 3 ?_;refine Zz6 fun all H=>?_;dsimp only[go_sem];refine GP H 10 0 [10] [(40,[.ptr 1 0,.iv x74.Peer,.ptr 0 0,.ptr 0 0,.ptr 0 0,.ptr 0 0,.ptr 0 0,.ptr 0 0,.iv x1,.bv (decide (x1<x74.Peer))])] ?_;dsimp only[go_sem];refine GD (MI h (fun h=>?_) fun h=>?_)
      ·refine Vg 10 ?_;refine Zd5 Side.row ex74 trivial rfl rfl rfl (Vg 1 ?_);refine Zk5 [.iv 3] Side.row (y':=(Side.mk x74.Peer x74.Epoch 3 x74.Fork x74.DY x74.Token x74.BO x74.Ask)) ex74 trivial rfl rfl rfl (by first | exact Zi4 _ | simp [go_sem]) rfl rfl rfl rfl (Vg 5 ?_);have ⟨x77,ex77,h⟩:=Bs h
       refine Z67 [0] [8,1,2,3,10,5] 2 11 (Zqc x74 7 x1 x2 x3 x4 x5 x6 x7 (x72.set (Int.toNat (x71)) (Side.mk x74.Peer x74.Epoch 3 x74.Fork x74.DY x74.Token x74.BO x74.Ask)) x9 x10 x11 x73 x13 _ ex77) ?_;refine Vg 2 ?_;refine Z07 12 10 ?_;dsimp only[go_sem]
       exact Zx4 J2 h
      ·refine Vg 6 ?_;have ⟨x78,ex78,h⟩:=Bs h;refine Z67 [0] [8,1,2,3,10,5] 2 11 (Z1g x74.Peer x1 x2 x3 x4 x5 x6 x7 x72 x9 x10 x11 x73 x13 _ ex78) ?_;refine Vg 5 ?_;have ⟨x79,ex79,h⟩:=Bs h
       refine Z67 [0] [11,1,2,3,10,5] 2 12 (Zqc x74 8 x1 x2 x3 x4 x5 x6 x7 x78 x9 x10 x11 x73 x13 _ ex79) ?_;refine Vg 4 ?_;refine Z07 13 10 (Z07 11 8 ?_);dsimp only[go_sem];exact Zw4 (Zn4 h hout2) hin1
    ·refine Zz6 fun all H=>?_;dsimp only[go_sem];refine GP H 4 19 [4,19] [(17,[.ptr 1 2,.iv x74.State,.bv (!decide (x74.State=2)),.bv (!decide (x74.State=2))])] ?_;dsimp only[go_sem];refine Z25 20 h rfl (fun _ h=>?_) fun _ h=>?_
     ·dsimp only[go_sem];refine GP H 19 0 [23] [(21,[.un,.un,.un,.un,.un,.un,.un,.un,.un,.un,.un,.un,.un,.un,.un,.un,.un,.un,.tt])] ?_;dsimp only[go_sem];refine GD ?_;exact Zx4 J3 h
     ·dsimp only[go_sem];refine GP H 8 11 [12,11] [(21,[.ptr 0 0,.ptr 0 0,.ptr 0 0,.ptr 0 0,.ptr 0 3,.iv x3,.bv (decide (x3=2)),.bv (decide (x3=2))])] ?_;dsimp only[go_sem];refine Z25 28 h rfl (fun _ h=>?_) fun _ h=>?_
      ·dsimp only[go_sem];refine GP H 7 4 [17,1,2,3] [(29,[.ptr 0 0,.ptr 0 0,.ptr 0 0,.ptr 0 0,.ptr 0 4]),(1,[.ptr 1 0,.iv x74.Peer])] ?_;dsimp only[go_sem];refine GE H.1 17 ?_;dsimp only[go_sem];refine Z64 20 rfl ?_;have ⟨x75,ex75,h⟩:=Bs h;refine GK H.1 (LR.slice 1 rfl) (Zhd x9 x74.Peer _ ex75) ?_;refine Gn H 2 0 ?_;refine GD ?_;exact Zx4 J3 h
      ·dsimp only[go_sem];refine GP H 11 0 [23] [(29,[.un,.un,.un,.un,.un,.un,.un,.un,.un,.ff,.ff])] ?_;dsimp only[go_sem];refine GD ?_;exact Zx4 J3 h
  ·refine Vg 1 ?_;exact Zx4 J1 (Zn4 h hout2)
@[go_sem] def e106:EC:=(by have h:=hF Tryz.f106;(conv at h=>rhs;reduce);dsimp only[go_sem] at h;exact ⟨_,h⟩:DP Tryz.f106).1
theorem ok106:FnOK Tryz.prog 106 Tryz.f106 e106 [.t 4] 2 6:=okA
def Zih (x1 x2:List Int):Option (List Int):=
 (Zif x1 ((fun z=>Z6g z x2))).bind fun x3=>
 some x3
theorem k_set_Both (x1 x2 r:List Int) (h:Zih x1 x2=some r):Z03 Tryz.prog 106 [Sp0 x1,Sp0 x2] (Sp0 r):=by
 refine FP ok106 fun w0 H0=>?_
 rw [Zih] at h
 refine Vg 9 ?_;refine Zk3 0 rfl rfl ?_;dsimp only[go_sem];have ⟨x3,ex3,h⟩:=Bs h;refine VC (Zjf x1 _ _ ((fun z=>Z6g z x2)) ⟨by kernel_rfl,rfl,fun z r hz=>k_set_Both_1 z x2 r hz⟩ _ ex3) (Vg 2 ?_);exact MD ok106 h
@[go_sem] def e46:EC:=(by have h:=hF Tryz.f46;(conv at h=>rhs;reduce);dsimp only[go_sem] at h;exact ⟨_,h⟩:DP Tryz.f46).1
theorem ok46:FnOK Tryz.prog 46 Tryz.f46 e46 [.t 4] 2 7:=okA
def Zjh (x1:List Int) (x2:Int):Option (List Int):=
 (Zag x1 ([x2])).bind fun x3=>
 some x3
theorem Zkh (x1:List Int) (x2:Int) (r:List Int) (h:Zjh x1 x2=some r):Z03 Tryz.prog 46 [Sp0 x1,.iv x2] (Sp0 r):=by
 refine FP ok46 fun w0 H0=>?_
 rw [Zjh] at h
 refine Vg 9 ?_;refine Z17 0 ?_;dsimp only[go_sem];have ⟨x3,ex3,h⟩:=Bs h;refine VC (Zbg x1 ([x2]) _ ex3) (Vg 2 ?_);exact MD ok46 h
@[go_sem] def e70:EC:=(by have h:=hF Tryz.f70;(conv at h=>rhs;reduce);dsimp only[go_sem] at h;exact ⟨_,h⟩:DP Tryz.f70).1
theorem ok70:FnOK Tryz.prog 70 Tryz.f70 e70 [.t 4] 2 8:=okA
def Zlh (x1 x2:List Int):Option Bool:=
 (Zag x1 x2).bind fun x3=>
 some (decide ((ln Z05 x3)=0))
theorem Zmh (x1 x2:List Int) (r:Bool) (h:Zlh x1 x2=some r):Z03 Tryz.prog 70 [Sp0 x1,Sp0 x2] (.bv r):=by
 refine FP ok70 fun w0 H0=>?_
 rw [Zlh] at h
 refine Vg 8 ?_;have ⟨x3,ex3,h⟩:=Bs h;refine VC (Zbg x1 x2 _ ex3) (Vg 4 ?_);exact MD ok70 h
@[go_sem] def e116:EC:=(by have h:=hF Tryz.f116;(conv at h=>rhs;reduce);dsimp only[go_sem] at h;exact ⟨_,h⟩:DP Tryz.f116).1
theorem Znh:FnOK Tryz.prog 116 Tryz.f116 e116 [.c 6 (some 2),.t 7] 3 38:=okA
def Zoh (x1:Book) (x2:Int):Int→Option (Book×Int)
| x6=>
 ifb (!decide (x6=0)) (
 some ((Book.mk 0 (([]:List Sess))),x6)) (
 (Zpd x1).bind fun x7=>
 (Z9b (Book.mk x1.Last x7) x2).bind fun x8=>
 (Z7b x8 (wr (x8+1)) x7).bind fun x11=>
 some ((Book.mk x1.Last x11),0))
def Zph (x1:Book) (x2:Int) (x4:(Int×Int)):Bool→Option (Book×Int)
| x5=>
 ifb x5 (
 (Zoh x1 x2) 175) (
 (Zoh x1 x2) x4.2)
def Zqh (x1:Book) (x2:Int) (x3:Int):Option (Book×Int):=
 (Zjg x1 x2).bind fun x4=>
 ifb (decide (x4.2=0)) (
 (Zph x1 x2 x4) (!decide (x4.1=x3))) (
 (Zph x1 x2 x4) false)
theorem Zrh (x1:Book) (x2:Int) (x3:Int) (r:(Book×Int)) (h:Zqh x1 x2 x3=some r):Z03 Tryz.prog 116 [.agg (Book.row x1),.iv x2,.iv x3] (.tup [.agg (Book.row r.1),.iv r.2]):=by
 refine FP Znh fun w0 H0=>?_
 rw [Zqh] at h
 refine Vg 10 ?_;have ⟨x4,ex4,h⟩:=Bs h;refine VC (k_sess_Poll x1 x2 _ ex4) (Vg 12 ?_);refine Zo4 (fun (x5:Bool)=>⟨(.any :: .iv x2 :: .any :: .ptr 0 0 :: .any :: .any :: .ptr 1 0 :: .any :: .any :: .iv x4.2::an 12 (.bv x5::an 18 [])),[some ⟨32,Book.row x1⟩,some ⟨32,[.iv 0,.nl]⟩],[]⟩) (Zph x1 x2 x4) r ?_ fun J1=>?_
 ·intro x5 h;rw [Zph] at h;(try dsimp only);refine Zo4 (fun (x6:Int)=>⟨(.any :: .iv x2 :: .any :: .ptr 0 0 :: .any :: .any :: .ptr 1 0 :: .any :: .any :: .iv x6::an 31 []),[some ⟨32,Book.row x1⟩,some ⟨32,[.iv 0,.nl]⟩],[]⟩) (Zoh x1 x2) r ?_ fun J2=>?_
  ·intro x6 h;rw [Zoh] at h;(try dsimp only);refine Vg 6 ?_;refine MI h (fun h=>?_) fun h=>?_
   ·refine Vg 7 ?_;exact MD Znh h
   ·refine Vg 4 ?_;have ⟨x7,ex7,h⟩:=Bs h;refine Z67 [] [] 2 0 (Zqd x1 _ ex7) ?_;refine Vg 3 ?_;refine Zz6 fun all H=>?_;refine Gn H 3 9 ?_;refine Z84 1 2 5 rfl ?_ ?_ ?_
    ·refine GV H.1 ?_;dsimp only[go_sem];refine Z74 2 5 rfl ?_ ?_
     ·refine GV H.1 ?_;dsimp only[go_sem];have ⟨x8,ex8,h⟩:=Bs h;refine Z74 4 5 rfl ?_ ?_
      ·refine GK H.1 (LR.slice 0 rfl) (Zab (Book.mk x1.Last x7) x2 _ ex8) ?_;dsimp only[go_sem];refine GE H.1 5 ?_;dsimp only[go_sem];refine Z64 7 rfl (GK H.1 (LR.slice 0 rfl) (Zab (Book.mk x1.Last x7) x2 _ ex8) ?_);refine Gn H 1 3 ?_;refine Z64 9 rfl ?_;have ⟨x11,ex11,h⟩:=Bs h
       refine Z77 H.1 [] [0] 2 1 (Z8b x8 (wr (x8+1)) x7 _ ex11) ?_;refine Gn H 1 1 ?_;refine GE H.1 11 ?_;dsimp only[go_sem];refine GD (Vg 6 ?_);refine Z17 1 ?_;dsimp only[go_sem];exact MD Znh h
      ·refine GV H.1 ?_;dsimp only[go_sem];refine Z64 4 rfl (GK H.1 (LR.slice 0 rfl) (Zab (Book.mk x1.Last x7) x2 _ ex8) ?_);dsimp only[go_sem];refine Z64 7 rfl (GK H.1 (LR.slice 0 rfl) (Zab (Book.mk x1.Last x7) x2 _ ex8) ?_);refine Gn H 1 3 ?_;refine Z64 9 rfl ?_;have ⟨x11,ex11,h⟩:=Bs h
       refine Z77 H.1 [] [0] 2 1 (Z8b x8 (wr (x8+1)) x7 _ ex11) ?_;refine Gn H 1 1 ?_;refine GE H.1 11 ?_;dsimp only[go_sem];refine GD (Vg 6 ?_);refine Z17 1 ?_;dsimp only[go_sem];exact MD Znh h
     ·refine GV H.1 ?_;dsimp only[go_sem];refine GE H.1 2 ?_;dsimp only[go_sem];refine Z64 4 rfl ?_;have ⟨x8,ex8,h⟩:=Bs h;refine GK H.1 (LR.slice 0 rfl) (Zab (Book.mk x1.Last x7) x2 _ ex8) ?_;dsimp only[go_sem];refine Z64 7 rfl (GK H.1 (LR.slice 0 rfl) (Zab (Book.mk x1.Last x7) x2 _ ex8) ?_);refine Gn H 1 3 ?_;refine Z64 9 rfl ?_
      have ⟨x10,ex10,h⟩:=Bs h;refine Z77 H.1 [] [0] 2 1 (Z8b x8 (wr (x8+1)) x7 _ ex10) ?_;refine Gn H 1 1 ?_;refine GE H.1 11 ?_;dsimp only[go_sem];refine GD (Vg 6 ?_);refine Z17 1 ?_;dsimp only[go_sem];exact MD Znh h
    ·refine GV H.1 ?_;dsimp only[go_sem];have ⟨x8,ex8,h⟩:=Bs h;refine Z84 1 4 5 rfl ?_ ?_ ?_
     ·refine GV H.1 ?_;dsimp only[go_sem];refine Z74 4 5 rfl ?_ ?_
      ·refine GK H.1 (LR.slice 0 rfl) (Zab (Book.mk x1.Last x7) x2 _ ex8) ?_;dsimp only[go_sem];refine GE H.1 5 ?_;dsimp only[go_sem];refine Z64 7 rfl (GK H.1 (LR.slice 0 rfl) (Zab (Book.mk x1.Last x7) x2 _ ex8) ?_);refine Gn H 1 3 ?_;refine Z64 9 rfl ?_;have ⟨x11,ex11,h⟩:=Bs h
       refine Z77 H.1 [] [0] 2 1 (Z8b x8 (wr (x8+1)) x7 _ ex11) ?_;refine Gn H 1 1 ?_;refine GE H.1 11 ?_;dsimp only[go_sem];refine GD (Vg 6 ?_);refine Z17 1 ?_;dsimp only[go_sem];exact MD Znh h
      ·refine GV H.1 ?_;dsimp only[go_sem];refine Z64 4 rfl (GK H.1 (LR.slice 0 rfl) (Zab (Book.mk x1.Last x7) x2 _ ex8) ?_);dsimp only[go_sem];refine Z64 7 rfl (GK H.1 (LR.slice 0 rfl) (Zab (Book.mk x1.Last x7) x2 _ ex8) ?_);refine Gn H 1 3 ?_;refine Z64 9 rfl ?_;have ⟨x11,ex11,h⟩:=Bs h
       refine Z77 H.1 [] [0] 2 1 (Z8b x8 (wr (x8+1)) x7 _ ex11) ?_;refine Gn H 1 1 ?_;refine GE H.1 11 ?_;dsimp only[go_sem];refine GD (Vg 6 ?_);refine Z17 1 ?_;dsimp only[go_sem];exact MD Znh h
     ·refine GK H.1 (LR.slice 0 rfl) (Zab (Book.mk x1.Last x7) x2 _ ex8) ?_;dsimp only[go_sem];refine Z74 1 5 rfl ?_ ?_
      ·refine GV H.1 ?_;dsimp only[go_sem];refine GE H.1 5 ?_;dsimp only[go_sem];refine Z64 7 rfl (GK H.1 (LR.slice 0 rfl) (Zab (Book.mk x1.Last x7) x2 _ ex8) ?_);refine Gn H 1 3 ?_;refine Z64 9 rfl ?_;have ⟨x11,ex11,h⟩:=Bs h;refine Z77 H.1 [] [0] 2 1 (Z8b x8 (wr (x8+1)) x7 _ ex11) ?_;dsimp only[go_sem]
       refine Gn H 1 1 ?_;refine GE H.1 11 ?_;dsimp only[go_sem];refine GD (Vg 6 ?_);refine Z17 1 ?_;dsimp only[go_sem];exact MD Znh h
      ·refine GV H.1 ?_;dsimp only[go_sem];refine Z74 1 7 rfl ?_ ?_
       ·refine GV H.1 ?_;dsimp only[go_sem];refine Z64 7 rfl (GK H.1 (LR.slice 0 rfl) (Zab (Book.mk x1.Last x7) x2 _ ex8) ?_);refine Gn H 1 3 ?_;refine Z64 9 rfl ?_;have ⟨x11,ex11,h⟩:=Bs h;refine Z77 H.1 [] [0] 2 1 (Z8b x8 (wr (x8+1)) x7 _ ex11) ?_;refine Gn H 1 1 ?_
        refine GE H.1 11 ?_;dsimp only[go_sem];refine GD (Vg 6 ?_);refine Z17 1 ?_;dsimp only[go_sem];exact MD Znh h
       ·refine GK H.1 (LR.slice 0 rfl) (Zab (Book.mk x1.Last x7) x2 _ ex8) ?_;refine Gn H 1 4 ?_;refine GE H.1 1 ?_;dsimp only[go_sem];refine Z64 9 rfl ?_;have ⟨x11,ex11,h⟩:=Bs h;refine Z77 H.1 [] [0] 2 1 (Z8b x8 (wr (x8+1)) x7 _ ex11) ?_;refine Gn H 1 1 ?_
        refine GE H.1 11 ?_;dsimp only[go_sem];refine GD (Vg 6 ?_);refine Z17 1 ?_;dsimp only[go_sem];exact MD Znh h
     ·refine GV H.1 ?_;dsimp only[go_sem];refine Z74 1 4 rfl ?_ ?_
      ·refine GV H.1 ?_;dsimp only[go_sem];refine Z64 4 rfl (GK H.1 (LR.slice 0 rfl) (Zab (Book.mk x1.Last x7) x2 _ ex8) ?_);dsimp only[go_sem];refine Z64 7 rfl (GK H.1 (LR.slice 0 rfl) (Zab (Book.mk x1.Last x7) x2 _ ex8) ?_);refine Gn H 1 3 ?_;refine Z64 9 rfl ?_;have ⟨x11,ex11,h⟩:=Bs h
       refine Z77 H.1 [] [0] 2 1 (Z8b x8 (wr (x8+1)) x7 _ ex11) ?_;refine Gn H 1 1 ?_;refine GE H.1 11 ?_;dsimp only[go_sem];refine GD (Vg 6 ?_);refine Z17 1 ?_;dsimp only[go_sem];exact MD Znh h
      ·refine GK H.1 (LR.slice 0 rfl) (Zab (Book.mk x1.Last x7) x2 _ ex8) ?_;dsimp only[go_sem];refine Z74 1 7 rfl ?_ ?_
       ·refine GV H.1 ?_;dsimp only[go_sem];refine Z64 7 rfl (GK H.1 (LR.slice 0 rfl) (Zab (Book.mk x1.Last x7) x2 _ ex8) ?_);refine Gn H 1 3 ?_;refine Z64 9 rfl ?_;have ⟨x11,ex11,h⟩:=Bs h;refine Z77 H.1 [] [0] 2 1 (Z8b x8 (wr (x8+1)) x7 _ ex11) ?_;refine Gn H 1 1 ?_
        refine GE H.1 11 ?_;dsimp only[go_sem];refine GD (Vg 6 ?_);refine Z17 1 ?_;dsimp only[go_sem];exact MD Znh h
       ·refine GK H.1 (LR.slice 0 rfl) (Zab (Book.mk x1.Last x7) x2 _ ex8) ?_;refine Gn H 1 4 ?_;refine GE H.1 1 ?_;dsimp only[go_sem];refine Z64 9 rfl ?_;have ⟨x11,ex11,h⟩:=Bs h;refine Z77 H.1 [] [0] 2 1 (Z8b x8 (wr (x8+1)) x7 _ ex11) ?_;refine Gn H 1 1 ?_
        refine GE H.1 11 ?_;dsimp only[go_sem];refine GD (Vg 6 ?_);refine Z17 1 ?_;dsimp only[go_sem];exact MD Znh h
    ·refine GV H.1 ?_;dsimp only[go_sem];refine Z74 1 2 rfl ?_ ?_
     ·refine GV H.1 ?_;dsimp only[go_sem];refine GE H.1 2 ?_;dsimp only[go_sem];refine Z64 4 rfl ?_;have ⟨x8,ex8,h⟩:=Bs h;refine GK H.1 (LR.slice 0 rfl) (Zab (Book.mk x1.Last x7) x2 _ ex8) ?_;dsimp only[go_sem];refine Z64 7 rfl (GK H.1 (LR.slice 0 rfl) (Zab (Book.mk x1.Last x7) x2 _ ex8) ?_);refine Gn H 1 3 ?_;refine Z64 9 rfl ?_
      have ⟨x10,ex10,h⟩:=Bs h;refine Z77 H.1 [] [0] 2 1 (Z8b x8 (wr (x8+1)) x7 _ ex10) ?_;refine Gn H 1 1 ?_;refine GE H.1 11 ?_;dsimp only[go_sem];refine GD (Vg 6 ?_);refine Z17 1 ?_;dsimp only[go_sem];exact MD Znh h
     ·refine GV H.1 ?_;dsimp only[go_sem];have ⟨x8,ex8,h⟩:=Bs h;refine Z74 1 4 rfl ?_ ?_
      ·refine GV H.1 ?_;dsimp only[go_sem];refine Z64 4 rfl (GK H.1 (LR.slice 0 rfl) (Zab (Book.mk x1.Last x7) x2 _ ex8) ?_);dsimp only[go_sem];refine Z64 7 rfl (GK H.1 (LR.slice 0 rfl) (Zab (Book.mk x1.Last x7) x2 _ ex8) ?_);refine Gn H 1 3 ?_;refine Z64 9 rfl ?_;have ⟨x11,ex11,h⟩:=Bs h
       refine Z77 H.1 [] [0] 2 1 (Z8b x8 (wr (x8+1)) x7 _ ex11) ?_;refine Gn H 1 1 ?_;refine GE H.1 11 ?_;dsimp only[go_sem];refine GD (Vg 6 ?_);refine Z17 1 ?_;dsimp only[go_sem];exact MD Znh h
      ·refine GK H.1 (LR.slice 0 rfl) (Zab (Book.mk x1.Last x7) x2 _ ex8) ?_;dsimp only[go_sem];refine Z74 1 7 rfl ?_ ?_
       ·refine GV H.1 ?_;dsimp only[go_sem];refine Z64 7 rfl (GK H.1 (LR.slice 0 rfl) (Zab (Book.mk x1.Last x7) x2 _ ex8) ?_);refine Gn H 1 3 ?_;refine Z64 9 rfl ?_;have ⟨x11,ex11,h⟩:=Bs h;refine Z77 H.1 [] [0] 2 1 (Z8b x8 (wr (x8+1)) x7 _ ex11) ?_;refine Gn H 1 1 ?_
        refine GE H.1 11 ?_;dsimp only[go_sem];refine GD (Vg 6 ?_);refine Z17 1 ?_;dsimp only[go_sem];exact MD Znh h
       ·refine GK H.1 (LR.slice 0 rfl) (Zab (Book.mk x1.Last x7) x2 _ ex8) ?_;refine Gn H 1 4 ?_;refine GE H.1 1 ?_;dsimp only[go_sem];refine Z64 9 rfl ?_;have ⟨x11,ex11,h⟩:=Bs h;refine Z77 H.1 [] [0] 2 1 (Z8b x8 (wr (x8+1)) x7 _ ex11) ?_;refine Gn H 1 1 ?_
        refine GE H.1 11 ?_;dsimp only[go_sem];refine GD (Vg 6 ?_);refine Z17 1 ?_;dsimp only[go_sem];exact MD Znh h
  ·refine MI h (fun h=>?_) fun h=>?_
   ·refine Vg 3 ?_;exact Zx4 J2 h
   ·refine Vg 1 ?_;exact Zx4 J2 h
 ·refine MC 18 h (fun h=>?_) fun h=>?_
  ·refine Vg 5 ?_;exact Zx4 J1 h
  ·refine Vg 5 ?_;exact Zx4 J1 h
@[go_sem] def e136:EC:=(by have h:=hF Tryz.f136;(conv at h=>rhs;reduce);dsimp only[go_sem] at h;exact ⟨_,h⟩:DP Tryz.f136).1
theorem ok136:FnOK Tryz.prog 136 Tryz.f136 e136 [.c 6 (some 3),.t 7] 3 66:=okA
@[go_sem] def e174:EC:=(by have h:=hF Tryz.f174;(conv at h=>rhs;reduce);dsimp only[go_sem] at h;exact ⟨_,h⟩:DP Tryz.f174).1
theorem ok174:FnOK Tryz.prog 174 Tryz.f174 e174 [.c 2 (some 3),.t 3,.t 4] 1 111:=okA
@[go_sem] def e49:EC:=(by have h:=hF Tryz.f49;(conv at h=>rhs;reduce);dsimp only[go_sem] at h;exact ⟨_,h⟩:DP Tryz.f49).1
theorem ok49:FnOK Tryz.prog 49 Tryz.f49 e49 [.t 2] 1 33:=okA
def Zsh:Bool→Option Int
| x7=>
 ifb x7 (
 some 150) (
 some 0)
def Zth (x1:DK):Bool→Option Int
| x5=>
 ifb x5 (
 Zsh x5) (
 (Zva x1.Need ((fun z=>Zyd z x1))).bind fun x6=>
 Zsh x6)
def Zuh (x1:DK):Bool→Option Int
| x3=>
 ifb x3 (
 some 150) (
 (Z78 x1.Need).bind fun x4=>
 ifb (!x4) (
 Zsh (!x4)) (
 ifb (decide (x1.TH=0)) (
 (Zth x1) (decide (0<(ln Z05 x1.Need)))) (
 (Zth x1) false)))
def Zvh (x1:DK):Option Int:=
 (Zlg x1.DI).bind fun x2=>
 ifb (!decide (x2=0)) (
 (Zuh x1) (!decide (x2=0))) (
 ifb (decide (x1.TH<0)) (
 (Zuh x1) (decide (x1.TH<0))) (
 (Zuh x1) (decide (2<x1.TH))))
theorem Zwh (x1:DK) (r:Int) (h:Zvh x1=some r):Z03 Tryz.prog 49 [.agg (DK.row x1)] (.iv r):=by
 refine FP ok49 fun w0 H0=>?_
 rw [Zvh] at h
 refine Vg 17 ?_;have ⟨x2,ex2,h⟩:=Bs h;refine VC (Zmg x1.DI _ ex2) (Vg 3 ?_);refine Zo4 (fun (x3:Bool)=>⟨(.any :: .ptr 0 0 :: .any :: .clo 95 [.ptr 0 0] :: .any :: .bv x3::an 28 []),[some ⟨29,DK.row x1⟩],[]⟩) (Zuh x1) r ?_ fun J1=>?_
 ·intro x3 h;rw [Zuh] at h;(try dsimp only);refine MI h (fun h=>?_) fun h=>?_
  ·refine Vg 4 ?_;exact MD ok49 h
  ·refine Vg 5 ?_;have ⟨x4,ex4,h⟩:=Bs h;refine VC (Z88 x1.Need _ ex4) (Vg 3 ?_);refine Zo4 (fun (x7:Bool)=>⟨an 16 (.bv x7::an 17 []),[],[]⟩) Zsh r ?_ fun J2=>?_
   ·intro x7 h;rw [Zsh] at h;(try dsimp only);refine MI h (fun h=>?_) fun h=>?_
    ·refine Vg 4 ?_;exact MD ok49 h
    ·refine Vg 6 ?_;exact MD ok49 h
   ·refine MI h (fun h=>?_) fun h=>?_
    ·refine Vg 1 ?_;exact Zx4 J2 h
    ·refine Vg 6 ?_;refine Zo4 (fun (x5:Bool)=>⟨(.any :: .ptr 0 0 :: .any :: .clo 95 [.ptr 0 0]::an 12 (.bv x5::an 17 [])),[some ⟨29,DK.row x1⟩],[]⟩) (Zth x1) r ?_ fun J3=>?_
     ·intro x5 h;rw [Zth] at h;(try dsimp only);refine MI h (fun h=>?_) fun h=>?_
      ·refine Vg 1 ?_;exact Zx4 J2 h
      ·refine Vg 4 ?_;have ⟨x6,ex6,h⟩:=Bs h;refine VL (LR.block 0 rfl rfl) (Zwa x1.Need _ _ ((fun z=>Zyd z x1)) ⟨by kernel_rfl,rfl,fun z r hz=>Zzd z x1 r hz⟩ _ ex6) (Vg 2 ?_);exact Zx4 J2 h
     ·refine MC 24 h (fun h=>?_) fun h=>?_
      ·refine Vg 7 ?_;exact Zx4 J3 h
      ·refine Vg 7 ?_;exact Zx4 J3 h
 ·refine MI h (fun h=>?_) fun h=>?_
  ·refine Vg 1 ?_;exact Zx4 J1 h
  ·refine Vg 7 ?_;refine MI h (fun h=>?_) fun h=>?_
   ·refine Vg 1 ?_;exact Zx4 J1 h
   ·refine Vg 6 ?_;exact Zx4 J1 h
@[go_sem] def e34:EC:=(by have h:=hF Tryz.f34;(conv at h=>rhs;reduce);dsimp only[go_sem] at h;exact ⟨_,h⟩:DP Tryz.f34).1
theorem ok34:FnOK Tryz.prog 34 Tryz.f34 e34 [] 2 40:=okA
def Zxh (x2:Int) (x14:(Int×Bool)):List KE→Option (List KE)
| x16=>
 (at_ x16 x14.1).bind fun x17=>
 some (x16.set (Int.toNat (x14.1)) (KE.mk x17.Peer x2))
def Zyh (x1 x2:Int) (_x3 _x4:Int) (_x5 _x6 _x7:Int) (_x8:List Side) (_x9:List Int) (_x10:List Sess) (x11:List KE) (_x12:List Int) (_x13:List KE):Option (List KE):=
 (Ze9 x11 x1 ((fun z=>Zg9 z.1 z.2))).bind fun x14=>
 ifb (!x14.2) (
 (Zsg x11 x14.1 ([KE.mk x1 0])).bind fun x15=>
 (Zxh x2 x14) x15) (
 (Zxh x2 x14) x11)
theorem Zzh (x1 x2:Int) (x3 x4:Int) (x5 x6 x7:Int) (x8:List Side) (x9:List Int) (x10:List Sess) (x11:List KE) (x12:List Int) (x13 r:List KE) (h:Zyh x1 x2 x3 x4 x5 x6 x7 x8 x9 x10 x11 x12 x13=some r):Zq5 Tryz.prog 82 [.ptr 0 0,.iv x1,.iv x2] [some ⟨81,[.iv x3,.iv x4,.osl 0,.iv x5,.osl 1,.iv x6,.osl 2,.osl 3,.osl 4,.osl 5,.nl,.nl,.iv x7]⟩] [Sq6 x8,Sq7 x9,Sq9 x10,Sq8 x11,Sq7 x12,Sq8 x13] (.tup []) [some ⟨81,[.iv x3,.iv x4,.osl 0,.iv x5,.osl 1,.iv x6,.osl 2,.osl 7,.osl 4,.osl 5,.nl,.nl,.iv x7]⟩] [Sq6 x8,Sq7 x9,Sq9 x10,none,Sq7 x12,Sq8 x13,none,Sq8 r]:=by
 refine FT ok82 fun w0 M0=>?_
 rw [Zyh] at h
 dsimp only[lun,List.cons_append,List.nil_append]
 refine Vg 8 ?_;have ⟨x14,ex14,h⟩:=Bs h;refine VL (LR.slice 3 rfl) (Zf9 x11 x1 _ _ ((fun z=>Zg9 z.1 z.2)) ⟨by kernel_rfl,rfl,fun z r hz=>Zh9 z.1 z.2 r hz⟩ _ ex14) (Vg 12 ?_)
 refine Zo4 (fun (x16:List KE)=>⟨(.ptr 0 0 :: .any :: .iv x2::an 3 (.iv x14.1::an 36 [])),[some ⟨81,[.iv x3,.iv x4,.osl 0,.iv x5,.osl 1,.iv x6,.osl 2,.osl 7,.osl 4,.osl 5,.nl,.nl,.iv x7]⟩],[Sq6 x8,Sq7 x9,Sq9 x10,none,Sq7 x12,Sq8 x13,none,Sq8 x16]⟩) (Zxh x2 x14) r ?_ fun J1=>?_
 ·intro x16 h;rw [Zxh] at h;(try dsimp only);refine Vg 8 ?_;have ⟨x17,ex17,h⟩:=Bs h;refine Zd5 KE.row ex17 trivial rfl rfl rfl (Vg 1 ?_);refine Zk5 [.iv x2] KE.row (y':=(KE.mk x17.Peer x2)) ex17 trivial rfl rfl rfl (by first | exact Zi4 _ | simp [go_sem]) rfl rfl rfl rfl (Vg 1 ?_);obtain rfl:=Option.some.inj h;exact Z57 ok82
 ·refine MI h (fun h=>?_) fun h=>?_
  ·refine Vg 11 ?_;have ⟨x15,ex15,h⟩:=Bs h;refine Z67 [] [3,6] 1 7 (Ztg x11 x14.1 ([KE.mk x1 0]) _ ex15) ?_;refine Vg 5 ?_;exact Zx4 J1 h
  ·refine Vg 1 ?_;refine Z37 95 2 ?_;dsimp only[go_sem];refine Z37 95 2 ?_;dsimp only[go_sem];refine Z07 3 7 ?_;dsimp only[go_sem];exact Zx4 J1 h
def Z0i:List Int→Option (Int×List Int)
| x18=>
 some ((-1),x18)
def Z1i (x1:Int) (x2:List Sess):(Int×List Int)→Option ((Int×List Int) ⊕ (Int×List Int))
| (x7,x8)=>
 ifb (decide (x7<(ln Sess.row x2))) (
 (at_ x2 x7).bind fun x9=>
 (Zwg x9 x1 x8).bind fun x10=>
 ifb x10.1 (
 Option.map Sum.inr (some (x7,x10.2))) (
 some (.inl (wr (x7+1),x10.2)))) (
 Option.map Sum.inr (Z0i x8))
def Z2i (x1:Int) (x2:List Sess):Option (Int×List Int):=
 loop (Z1i x1 x2) (0,([]:List Int))
theorem Z3i (x1:Int) (x2:List Sess) (r:(Int×List Int)) (h:Z2i x1 x2=some r):Zq5 Tryz.prog 144 [.osl 0,.clo 125 [.ptr 0 0,.ptr 1 0]] [some ⟨3,[.iv x1]⟩,some ⟨27,[.nl]⟩] [Sq9 x2] (.iv r.1) [some ⟨3,[.iv x1]⟩,some ⟨27,[.osl 1]⟩] [Sq9 x2,Sq7 r.2]:=by
 refine FT ok144 fun w0 M0=>?_
 rw [Z2i] at h
 dsimp only[lun,List.cons_append,List.nil_append]
 refine Vg 11 ?_;refine Zo4 (fun (x18:List Int)=>⟨an 19 [],[some ⟨3,[.iv x1]⟩,some ⟨27,[.osl 1]⟩],[Sq9 x2,Sq7 x18]⟩) Z0i r ?_ fun J1=>?_
 ·intro x18 h;rw [Z0i] at h;(try dsimp only);refine Vg 4 ?_;obtain rfl:=Option.some.inj h;exact Z47 ok144
 ·refine Vg 1 ?_;refine Z27 1 0 3 1 ?_;dsimp only[go_sem];refine Zp4 h (fun ((x7,x8):(Int×List Int))=>⟨(.osl 0 :: .clo 125 [.ptr 0 0,.ptr 1 0]::an 5 (.iv (ln Sess.row x2) :: .iv x7::an 10 [])),[some ⟨3,[.iv x1]⟩,some ⟨27,[.osl 1]⟩],[Sq9 x2,Sq7 x8]⟩) (by simp [go_sem]) (by rintro ⟨x7,x8⟩;first | rfl | simp [go_sem]) ?_;rintro n1 ⟨x7,x8⟩ y1 h hin1 hout1;rw [Z1i] at h;(try dsimp only);refine Zv2 5 ?_;dsimp only[go_sem]
  refine An (MI h (fun h=>?_) fun h=>?_)
  ·refine Vg 13 ?_;have ⟨x9,ex9,h⟩:=Bs h;refine Zd5 Sess.row ex9 trivial rfl rfl rfl (Zg5 Sess.row ex9 trivial rfl rfl rfl ?_);have ⟨x10,ex10,h⟩:=Bs h;refine Zt5 [true,true] [false,true] trivial rfl (Zy6 [0,1] [1] 2 2 (Zxg x9 x1 x8 _ ex10)) (by kernel_rfl) (h:=?_);refine Vg 1 ?_;refine MI h (fun h=>?_) fun h=>?_
   ·refine Vg 5 ?_;refine Z07 3 1 ?_;dsimp only[go_sem];obtain rfl:=Option.some.inj (Zn4 h hout1);exact Z47 ok144
   ·refine Vg 6 ?_;refine Z07 3 1 ?_;dsimp only[go_sem];exact Zw4 h hin1
  ·refine Vg 1 ?_;exact Zx4 J1 (Zn4 h hout1)
@[go_sem] def e132:EC:=(by have h:=hF Tryz.f132;(conv at h=>rhs;reduce);dsimp only[go_sem] at h;exact ⟨_,h⟩:DP Tryz.f132).1
theorem ok132:FnOK Tryz.prog 132 Tryz.f132 e132 [] 1 44:=okA
def Z4i (x2:Int) (x16:(Int×Bool)):List KE→Option (List KE)
| x18=>
 (at_ x18 x16.1).bind fun x19=>
 some (x18.set (Int.toNat (x16.1)) (KE.mk x19.Peer x2))
def Z5i (x1 x2:Int) (_x3 _x4:Int) (_x5 _x6:Int) (_x7:List Sess) (_x8:List Int) (_x9:Int) (_x10:List Side) (_x11:List Int) (x12 _x13:List KE) (_x14:List Mail) (_x15:List Event):Option (List KE):=
 (Ze9 x12 x1 ((fun z=>Zg9 z.1 z.2))).bind fun x16=>
 ifb (!x16.2) (
 (Zsg x12 x16.1 ([KE.mk x1 0])).bind fun x17=>
 (Z4i x2 x16) x17) (
 (Z4i x2 x16) x12)
theorem Z6i (x1 x2:Int) (x3 x4:Int) (x5 x6:Int) (x7:List Sess) (x8:List Int) (x9:Int) (x10:List Side) (x11:List Int) (x12 x13:List KE) (x14:List Mail) (x15:List Event) (r:List KE) (h:Z5i x1 x2 x3 x4 x5 x6 x7 x8 x9 x10 x11 x12 x13 x14 x15=some r):Zq5 Tryz.prog 82 [.ptr 0 0,.iv x1,.iv x2] [some ⟨81,[.iv x3,.iv x4,.osl 0,.iv x5,.osl 1,.iv x6,Sp3 x7,.osl 2,Sp0 x8,.osl 3,.osl 4,.osl 5,.iv x9]⟩] [Sq6 x10,Sq7 x11,Sq8 x12,Sq8 x13,Za7 x14,Z97 x15] (.tup []) [some ⟨81,[.iv x3,.iv x4,.osl 0,.iv x5,.osl 1,.iv x6,Sp3 x7,.osl 7,Sp0 x8,.osl 3,.osl 4,.osl 5,.iv x9]⟩] [Sq6 x10,Sq7 x11,none,Sq8 x13,Za7 x14,Z97 x15,none,Sq8 r]:=by
 refine FT ok82 fun w0 M0=>?_
 rw [Z5i] at h
 dsimp only[lun,List.cons_append,List.nil_append]
 refine Vg 8 ?_;have ⟨x16,ex16,h⟩:=Bs h;refine VL (LR.slice 2 rfl) (Zf9 x12 x1 _ _ ((fun z=>Zg9 z.1 z.2)) ⟨by kernel_rfl,rfl,fun z r hz=>Zh9 z.1 z.2 r hz⟩ _ ex16) (Vg 12 ?_)
 refine Zo4 (fun (x18:List KE)=>⟨(.ptr 0 0 :: .any :: .iv x2::an 3 (.iv x16.1::an 36 [])),[some ⟨81,[.iv x3,.iv x4,.osl 0,.iv x5,.osl 1,.iv x6,Sp3 x7,.osl 7,Sp0 x8,.osl 3,.osl 4,.osl 5,.iv x9]⟩],[Sq6 x10,Sq7 x11,none,Sq8 x13,Za7 x14,Z97 x15,none,Sq8 x18]⟩) (Z4i x2 x16) r ?_ fun J1=>?_
 ·intro x18 h;rw [Z4i] at h;(try dsimp only);refine Vg 8 ?_;have ⟨x19,ex19,h⟩:=Bs h;refine Zd5 KE.row ex19 trivial rfl rfl rfl (Vg 1 ?_);refine Zk5 [.iv x2] KE.row (y':=(KE.mk x19.Peer x2)) ex19 trivial rfl rfl rfl (by first | exact Zi4 _ | simp [go_sem]) rfl rfl rfl rfl (Vg 1 ?_);obtain rfl:=Option.some.inj h;exact Z57 ok82
 ·refine MI h (fun h=>?_) fun h=>?_
  ·refine Vg 11 ?_;have ⟨x17,ex17,h⟩:=Bs h;refine Z67 [] [2,6] 1 7 (Ztg x12 x16.1 ([KE.mk x1 0]) _ ex17) ?_;refine Vg 5 ?_;exact Zx4 J1 h
  ·refine Vg 1 ?_;refine Z37 95 2 ?_;dsimp only[go_sem];refine Z37 95 2 ?_;dsimp only[go_sem];refine Z07 2 7 ?_;dsimp only[go_sem];exact Zx4 J1 h
@[go_sem] def e73:EC:=(by have h:=hF Tryz.f73;(conv at h=>rhs;reduce);dsimp only[go_sem] at h;exact ⟨_,h⟩:DP Tryz.f73).1
theorem ok73:FnOK Tryz.prog 73 Tryz.f73 e73 [.c 4 (some 2),.t 5] 2 9:=okA
def Z7i (x1:Book) (x2:Int):Option (Book×Int):=
 (Zqh x1 x2 1).bind fun x3=>
 some (x3.1,x3.2)
theorem Z8i (x1:Book) (x2:Int) (r:(Book×Int)) (h:Z7i x1 x2=some r):Z03 Tryz.prog 73 [.agg (Book.row x1),.iv x2] (.tup [.agg (Book.row r.1),.iv r.2]):=by
 refine FP ok73 fun w0 H0=>?_
 rw [Z7i] at h
 refine Vg 10 ?_;have ⟨x3,ex3,h⟩:=Bs h;refine VC (Zrh x1 x2 1 _ ex3) (Vg 5 ?_);exact MD ok73 h
@[go_sem] def e77:EC:=(by have h:=hF Tryz.f77;(conv at h=>rhs;reduce);dsimp only[go_sem] at h;exact ⟨_,h⟩:DP Tryz.f77).1
theorem ok77:FnOK Tryz.prog 77 Tryz.f77 e77 [.c 4 (some 2),.t 5] 2 9:=okA
def Z9i (x1:Book) (x2:Int):Option (Book×Int):=
 (Zqh x1 x2 0).bind fun x3=>
 some (x3.1,x3.2)
theorem k_sess_Cancel (x1:Book) (x2:Int) (r:(Book×Int)) (h:Z9i x1 x2=some r):Z03 Tryz.prog 77 [.agg (Book.row x1),.iv x2] (.tup [.agg (Book.row r.1),.iv r.2]):=by
 refine FP ok77 fun w0 H0=>?_
 rw [Z9i] at h
 refine Vg 10 ?_;have ⟨x3,ex3,h⟩:=Bs h;refine VC (Zrh x1 x2 0 _ ex3) (Vg 5 ?_);exact MD ok77 h
@[go_sem] def e154:EC:=(by have h:=hF Tryz.f154;(conv at h=>rhs;reduce);dsimp only[go_sem] at h;exact ⟨_,h⟩:DP Tryz.f154).1
theorem ok154:FnOK Tryz.prog 154 Tryz.f154 e154 [] 1 84:=okA
end
end NX
end Go.Proofs.YtdjkbodnjhgbcaaGreat
