/-
  The function narthex/drink.Fire, lent own memory. Written by a program of ours (lb.py). No statement of the seat is proved here.
-/
import Derived.Test.YtdjkbodnjhgbcaaGreatB27
set_option maxRecDepth 100000
set_option maxHeartbeats 4000000
namespace Go.Proofs.YtdjkbodnjhgbcaaGreat
namespace NX
open Go
noncomputable section
def Zfk (x7:(List Side×List Int)) (x23:(Int×Int×Int×List Side×List Mail)):Unit→Option ((Int×Int×Int×List Side×List Mail) ⊕ (Int×Int×Int×Int×List Side×List Int×List Mail))
| ()=>
 Option.map Sum.inr (some (x23.1,x23.2.1,x23.2.2.1,0,x23.2.2.2.1,x7.2,x23.2.2.2.2))
def Zgk (x7:(List Side×List Int)) (x23:(Int×Int×Int×List Side×List Mail)):Bool→Option ((Int×Int×Int×List Side×List Mail) ⊕ (Int×Int×Int×Int×List Side×List Int×List Mail))
| x25=>
 ifb x25 (
 (Zfk x7 x23) ()) (
 some (.inl (x23.1,x23.2.1,x23.2.2.1,x23.2.2.2.1,x23.2.2.2.2)))
def Zhk (x7:(List Side×List Int)):(Int×Int×Int×List Side×List Mail)→Option ((Int×Int×Int×List Side×List Mail) ⊕ (Int×Int×Int×Int×List Side×List Int×List Mail))
| (x17,x18,x19,x20,x21)=>
 (Zhe x17 x18 x19 x20 x7.2).bind fun x22=>
 (Zfj x17 x18 x19 x20 x7.2 x21).bind fun x23=>
 (Z2e (DK.mk (DI.mk x17 x18 x22.1) x19 x22.2) (DK.mk (DI.mk x23.1 x23.2.1 x23.2.2.2.1) x23.2.2.1 x7.2)).bind fun x24=>
 (Zgk x7 x23) x24
def Zik (x1 x2 x3:Int) (x4:List Side) (x5:List Int):Option (Int×Int×Int×Int×List Side×List Int×List Mail):=
 (Zwh (DK.mk (DI.mk x1 x2 x4) x3 x5)).bind fun x6=>
 ifb (!decide (x6=0)) (
 some (0,0,0,x6,([]:List Side),([]:List Int),([]:List Mail))) (
 (Zhe x1 x2 x3 x4 x5).bind fun x7=>
 loop (Zhk x7) (x1,x2,x3,x7.1,([]:List Mail)))
theorem Zjk (x1 x2 x3:Int) (x4:List Side) (x5:List Int) (r:(Int×Int×Int×Int×List Side×List Int×List Mail)) (h:Zik x1 x2 x3 x4 x5=some r):Zr5 Tryz.prog 130 [.agg [.iv x1,.iv x2,.osl 0,.iv x3,.osl 1]] [] [Sq6 x4,Sq7 x5] (.tup [.agg [.iv r.1,.iv r.2.1,.osl 2,.iv r.2.2.1,.osl 3],.osl 4,.iv r.2.2.2.1]) [] [Sq6 x4,Sq7 x5,Sq6 r.2.2.2.2.1,Sq7 r.2.2.2.2.2.1,Zb7 r.2.2.2.2.2.2]:=by
 refine FT ok130 fun w0 M0=>?_
 rw [Zik] at h
 dsimp only[lun,List.cons_append,List.nil_append]
 refine Zv2 11 ?_;dsimp only[go_sem];refine An ?_;have ⟨x6,ex6,h⟩:=Bs h;refine VL ((LR.slice 0 rfl).slice 1 rfl) (Zxh (DK.mk (DI.mk x1 x2 x4) x3 x5) _ ex6) (Zv2 7 ?_);dsimp only[go_sem];refine An (MI h (fun h=>?_) fun h=>?_)
 ·refine Zv2 8 ?_;dsimp only[go_sem];refine An (Z37 1 2 65 8 ?_);dsimp only[go_sem];refine Z37 1 4 3 1 ?_;dsimp only[go_sem];refine Zf4 3 74 5 rfl rfl ?_;dsimp only[go_sem];obtain rfl:=Option.some.inj h;exact Z57 ok130
 ·refine Zv2 4 ?_;dsimp only[go_sem];refine An ?_;have ⟨x7,ex7,h⟩:=Bs h;refine Z77 [] [0,1] 2 2 (Zie x1 x2 x3 x4 x5 _ ex7) ?_;dsimp only[go_sem];refine Zv2 5 ?_;dsimp only[go_sem];refine An (Z37 2 5 74 5 ?_);dsimp only[go_sem]
  refine Zp4 h (fun ((x17,x18,x19,x20,x21):(Int×Int×Int×List Side×List Mail))=>(⟨(.any :: .any :: .ptr 1 0::an 3 (.ptr 2 0::an 32 [])),[none,some ⟨29,[.iv 0,.iv 0,.nl,.iv 0,.nl]⟩,some ⟨178,[.iv x17,.iv x18,.osl 2,.iv x19,.osl 3,.osl 4]⟩],[Sq6 x4,Sq7 x5,Sq6 x20,Sq7 x7.2,Zb7 x21]⟩:St)) (by simp [go_sem]) (by rintro ⟨x17,x18,x19,x20,x21⟩;first | rfl | simp [go_sem]) ?_
  rintro n1 ⟨x17,x18,x19,x20,x21⟩ y1 h hin1 hout1;rw [Zhk] at h;(try dsimp only);refine Zv2 7 ?_;dsimp only[go_sem];refine An ?_;have ⟨x22,ex22,h⟩:=Bs h;refine Z77 [] [2,3] 3 5 (Zie x17 x18 x19 x20 x7.2 _ ex22) ?_;dsimp only[go_sem];refine Zv2 6 ?_;dsimp only[go_sem];refine An ?_;have ⟨x23,ex23,h⟩:=Bs h
  refine Z77 [2] [2,3,4] 4 7 (Zgj x17 x18 x19 x20 x7.2 x21 _ ex23) ?_;dsimp only[go_sem];refine Zv2 2 ?_;dsimp only[go_sem];refine An ?_
  refine Zo4 (fun (x25:Bool)=>(⟨(.any :: .any :: .ptr 1 0::an 3 (.ptr 2 0::an 23 (.bv x25::an 8 []))),[none,some ⟨29,[.iv 0,.iv 0,.nl,.iv 0,.nl]⟩,some ⟨178,[.iv x23.1,.iv x23.2.1,.osl 7,.iv x23.2.2.1,.osl 3,.osl 11]⟩],[Sq6 x4,Sq7 x5,none,Sq7 x7.2,none,none,none,Sq6 x23.2.2.2.1,none,none,none,Zb7 x23.2.2.2.2]⟩:St)) (Zgk x7 x23) y1 ?_ fun J1=>?_
  ·intro x25 h;rw [Zgk] at h;(try dsimp only);refine MI h (fun h=>?_) fun h=>?_
   ·refine Zv2 1 ?_;dsimp only[go_sem];refine An (Zo4 (fun (_:Unit)=>(⟨(.any :: .any :: .ptr 1 0 :: .osl 11 :: .iv 0::an 34 []),[none,some ⟨29,[.iv x23.1,.iv x23.2.1,.osl 7,.iv x23.2.2.1,.osl 3]⟩],[Sq6 x4,Sq7 x5,none,Sq7 x7.2,none,none,none,Sq6 x23.2.2.2.1,none,none,none,Zb7 x23.2.2.2.2]⟩:St)) (Zfk x7 x23) y1 ?_ fun J2=>?_)
    ·rintro ⟨⟩ h;rw [Zfk] at h;(try dsimp only);refine Z17 7 2 (Z17 11 4 ?_);dsimp only[go_sem];obtain rfl:=Option.some.inj (Zn4 h hout1);exact Z57 ok130
    ·refine Z07 fun all H=>?_;dsimp only[go_sem];refine GP H 6 5 [3,1,3,4] [(31,[.ptr 2 0,.ptr 2 0,.ptr 2 0]),(1,[.ptr 2 0,.ptr 2 0,.ptr 2 5])] ?_;dsimp only[go_sem];refine Z74 3 7 rfl ?_ ?_
     ·refine GV H.1 ?_;dsimp only[go_sem];refine Z74 7 8 rfl ?_ ?_
      ·refine GV H.1 ?_;dsimp only[go_sem];refine GE H.1 8 ?_;dsimp only[go_sem];refine GN H 2 0 ?_;dsimp only[go_sem];refine An (GD ?_);exact Zy4 J2 (s:=()) h
      ·refine GV H.1 ?_;dsimp only[go_sem];refine GE H.1 7 ?_;dsimp only[go_sem];refine GN H 2 0 ?_;dsimp only[go_sem];refine An (GD ?_);exact Zy4 J2 (s:=()) h
     ·refine GV H.1 ?_;dsimp only[go_sem];refine GE H.1 3 ?_;dsimp only[go_sem];refine GE H.1 8 ?_;dsimp only[go_sem];refine GN H 2 0 ?_;dsimp only[go_sem];refine An (GD ?_);exact Zy4 J2 (s:=()) h
   ·refine Zv2 2 ?_;dsimp only[go_sem];refine An (Z17 7 2 (Z17 11 4 ?_));dsimp only[go_sem];exact Zx4 h hin1
  ·refine Z07 fun all H=>?_;dsimp only[go_sem];refine GN H 3 3 ?_;dsimp only[go_sem];refine An (Z74 0 4 rfl ?_ ?_)
   ·refine GV H.1 ?_;dsimp only[go_sem];refine GE H.1 4 ?_;dsimp only[go_sem];refine Z64 5 rfl ?_;have ⟨x24,ex24,h⟩:=Bs h;refine GK H.1 ((((LR.slice 3 rfl).slice 5 rfl).slice 6 rfl).slice 7 rfl) (Z3e (DK.mk (DI.mk x17 x18 x22.1) x19 x22.2) (DK.mk (DI.mk x23.1 x23.2.1 x23.2.2.2.1) x23.2.2.1 x7.2) _ ex24) ?_;dsimp only[go_sem];refine GD ?_;exact Zy4 J1 (s:=x24) h
   ·refine GV H.1 ?_;dsimp only[go_sem];refine GE H.1 0 ?_;dsimp only[go_sem];refine Z64 5 rfl ?_;have ⟨x24,ex24,h⟩:=Bs h;refine GK H.1 ((((LR.slice 3 rfl).slice 5 rfl).slice 6 rfl).slice 7 rfl) (Z3e (DK.mk (DI.mk x17 x18 x22.1) x19 x22.2) (DK.mk (DI.mk x23.1 x23.2.1 x23.2.2.2.1) x23.2.2.1 x7.2) _ ex24) ?_;dsimp only[go_sem];refine GD ?_;exact Zy4 J1 (s:=x24) h
@[go_sem] def e14:EC:=(by have h:=hF Tryz.f14;(conv at h=>rhs;reduce);dsimp only[go_sem] at h;exact ⟨_,h⟩:DP Tryz.f14).1
theorem ok14:FnOK Tryz.prog 14 Tryz.f14 e14 [.t 2] 1 22:=okA
def Zkk:Bool→Option Int
| x6=>
 ifb x6 (
 some 180) (
 some 0)
def Zlk (x1:Node):Option Int:=
 (Zwh x1.DK).bind fun x2=>
 ifb (!decide (x2=0)) (
 Zkk true) (
 (Zrf x1.Book).bind fun x3=>
 ifb (!decide (x3=0)) (
 Zkk true) (
 (Zwj x1).bind fun x4=>
 ifb (!x4) (
 Zkk true) (
 (Zrj x1).bind fun x5=>
 Zkk (!x5))))
theorem Zmk (x1:Node) (r:Int) (h:Zlk x1=some r):Z03 Tryz.prog 14 [.agg (Node.row x1)] (.iv r):=by
 refine FP ok14 fun w0 H0=>?_
 rw [Zlk] at h
 refine Zv2 10 ?_;dsimp only[go_sem];refine An ?_;have ⟨x2,ex2,h⟩:=Bs h;refine VC (Zxh x1.DK _ ex2) (Zv2 2 ?_);dsimp only[go_sem];refine An (Zo4 (fun (x6:Bool)=>(⟨an 22 [.bv x6],[],[]⟩:St)) Zkk r ?_ fun J1=>?_)
 ·intro x6 h;rw [Zkk] at h;(try dsimp only);refine MI h (fun h=>?_) fun h=>?_
  ·refine Zv2 4 ?_;dsimp only[go_sem];refine An ?_;exact Zw4 (res:=fun (r:Int)=>.iv r) ok14 h
  ·refine Zv2 5 ?_;dsimp only[go_sem];refine An ?_;exact Zw4 (res:=fun (r:Int)=>.iv r) ok14 h
 ·refine MC 7 h (fun h=>?_) fun h=>?_
  ·dsimp only[go_sem];refine Zv2 16 ?_;dsimp only[go_sem];refine An ?_;exact Zy4 J1 (s:=true) h
  ·dsimp only[go_sem];refine Zv2 2 ?_;dsimp only[go_sem];refine An ?_;have ⟨x3,ex3,h⟩:=Bs h;refine VC (Zsf x1.Book _ ex3) (Zv2 3 ?_);dsimp only[go_sem];refine An (MC 13 h (fun h=>?_) fun h=>?_)
   ·dsimp only[go_sem];refine Zv2 10 ?_;dsimp only[go_sem];refine An ?_;exact Zy4 J1 (s:=true) h
   ·dsimp only[go_sem];refine Zv2 1 ?_;dsimp only[go_sem];refine An ?_;have ⟨x4,ex4,h⟩:=Bs h;refine VC (k_node_edges x1 _ ex4) (Zv2 3 ?_);dsimp only[go_sem];refine An (MC 18 h (fun h=>?_) fun h=>?_)
    ·dsimp only[go_sem];refine Zv2 5 ?_;dsimp only[go_sem];refine An ?_;exact Zy4 J1 (s:=true) h
    ·dsimp only[go_sem];refine Zv2 1 ?_;dsimp only[go_sem];refine An ?_;have ⟨x5,ex5,h⟩:=Bs h;refine VC (k_node_thirst x1 _ ex5) (Zv2 3 ?_);dsimp only[go_sem];refine An ?_;exact Zy4 J1 (s:=!x5) h
def Znk (x22:(Bool×Int)):(Int×Int×Int×List Side×List Int)→Option (Int×Int×Int×Int×List Side×List Int)
| (x23,x24,x25,x26,x27)=>
 some (x23,x24,x25,x22.2,x26,x27)
def Zok (x3 x4:Int) (x5 x6 x7:Int) (x8:List Side) (x9:List Int) (x10:List Sess) (x11:List KE) (x12:List Int) (x13:List KE):(Int×Int×Int×Int×List Side×List Int)→Option (Int×Int×Int×Int×List Side×List Int)
| (x16,x17,x18,x19,x20,x21)=>
 (Z3c (decide (x16=0)) 187 x3 x4 x5 x6 x7 x8 x9 x10 x11 x12 x13).bind fun x22=>
 ifb x22.1 (
 (Znk x22) (x17,x18,x19,x20,x21)) (
 (Znk x22) (x3,x4,x5,x8,x9))
def Zpk (x1:Int) (x2:Msg) (x3 x4:Int) (x5 x6 x7:Int) (x8:List Side) (x9:List Int) (x10:List Sess) (x11:List KE) (x12:List Int) (x13:List KE):Option (Int×Int×Int×Int×List Side×List Int):=
 (Zyj x3 x4 x5 x1 x2 x8 x9).bind fun x14=>
 (Zok x3 x4 x5 x6 x7 x8 x9 x10 x11 x12 x13) (x14.2.2.2.1,x14.1,x14.2.1,x14.2.2.1,x14.2.2.2.2.1,x14.2.2.2.2.2)
theorem Zqk (x1:Int) (x2:Msg) (x3 x4:Int) (x5 x6 x7:Int) (x8:List Side) (x9:List Int) (x10:List Sess) (x11:List KE) (x12:List Int) (x13:List KE) (r:(Int×Int×Int×Int×List Side×List Int)) (h:Zpk x1 x2 x3 x4 x5 x6 x7 x8 x9 x10 x11 x12 x13=some r):Zr5 Tryz.prog 41 [.ptr 0 0,.iv x1,.agg (Msg.row x2)] [some ⟨81,[.iv x3,.iv x4,.osl 0,.iv x5,.osl 1,.iv x6,.osl 2,.osl 3,.osl 4,.osl 5,.nl,.nl,.iv x7]⟩] [Sq6 x8,Sq7 x9,Sq9 x10,Sq8 x11,Sq7 x12,Sq8 x13] (.tup []) [some ⟨81,[.iv r.1,.iv r.2.1,.osl 6,.iv r.2.2.1,.osl 7,.iv x6,.osl 2,.osl 3,.osl 4,.osl 5,.nl,.nl,.iv r.2.2.2.1]⟩] [none,none,Sq9 x10,Sq8 x11,Sq7 x12,Sq8 x13,Sq6 r.2.2.2.2.1,Sq7 r.2.2.2.2.2]:=by
 refine FT ok41 fun w0 M0=>?_
 rw [Zpk] at h
 dsimp only[lun,List.cons_append,List.nil_append]
 refine Zv2 5 ?_;dsimp only[go_sem];refine An ?_
 refine Zo4 (fun ((x16,x17,x18,x19,x20,x21):(Int×Int×Int×Int×List Side×List Int))=>(⟨(.ptr 0 0::an 5 (.ptr 2 0 :: .iv x16::an 20 [])),[some ⟨81,[.iv x3,.iv x4,.osl 0,.iv x5,.osl 1,.iv x6,.osl 2,.osl 3,.osl 4,.osl 5,.nl,.nl,.iv x7]⟩,none,some ⟨29,[.iv x17,.iv x18,.osl 6,.iv x19,.osl 7]⟩],[Sq6 x8,Sq7 x9,Sq9 x10,Sq8 x11,Sq7 x12,Sq8 x13,Sq6 x20,Sq7 x21]⟩:St)) (Zok x3 x4 x5 x6 x7 x8 x9 x10 x11 x12 x13) r ?_ fun J1=>?_
 ·rintro ⟨x16,x17,x18,x19,x20,x21⟩ h;rw [Zok] at h;(try dsimp only);refine Zv2 5 ?_;dsimp only[go_sem];refine An ?_;have ⟨x22,ex22,h⟩:=Bs h;refine Z77 [0] [0,1,2,3,4,5] 3 8 (Z4c (decide (x16=0)) 187 x3 x4 x5 x6 x7 x8 x9 x10 x11 x12 x13 _ ex22) ?_;dsimp only[go_sem];refine Zv2 1 ?_;dsimp only[go_sem];refine An ?_
  refine Zo4 (fun ((x23,x24,x25,x26,x27):(Int×Int×Int×List Side×List Int))=>(⟨an 28 [],[some ⟨81,[.iv x23,.iv x24,.osl 6,.iv x25,.osl 7,.iv x6,.osl 2,.osl 3,.osl 4,.osl 5,.nl,.nl,.iv x22.2]⟩],[none,none,Sq9 x10,Sq8 x11,Sq7 x12,Sq8 x13,Sq6 x26,Sq7 x27]⟩:St)) (Znk x22) r ?_ fun J2=>?_
  ·rintro ⟨x23,x24,x25,x26,x27⟩ h;rw [Znk] at h;(try dsimp only);obtain rfl:=Option.some.inj h;exact Z67 ok41
  ·refine MI h (fun h=>?_) fun h=>?_
   ·refine Zv2 8 ?_;dsimp only[go_sem];refine An ?_;exact Zy4 J2 (s:=(x17,x18,x19,x20,x21)) h
   ·refine Zv2 1 ?_;dsimp only[go_sem];refine An (Z17 0 6 (Z17 1 7 ?_));dsimp only[go_sem];exact Zy4 J2 (s:=(x3,x4,x5,x8,x9)) h
 ·refine Z07 fun all H=>?_;dsimp only[go_sem];refine GP H 6 8 [4,1,2,7] [(9,[.ptr 0 0,.ptr 0 0,.ptr 0 0,.ptr 0 0]),(1,[.iv x1,.agg (Msg.row x2)])] ?_;dsimp only[go_sem];refine Z74 4 11 rfl ?_ ?_
  ·refine GV H.1 ?_;dsimp only[go_sem];have ⟨x14,ex14,h⟩:=Bs h;refine Z74 7 11 rfl ?_ ?_
   ·refine Z87 H.1 [] [0,1] 2 6 (Zzj x3 x4 x5 x1 x2 x8 x9 _ ex14) ?_;dsimp only[go_sem];refine GN H 3 3 ?_;dsimp only[go_sem];refine An (GE H.1 11 ?_);dsimp only[go_sem];refine GE H.1 12 ?_;dsimp only[go_sem];refine GN H 1 0 ?_;dsimp only[go_sem];refine An (GD ?_)
    exact Zy4 J1 (s:=(x14.2.2.2.1,x14.1,x14.2.1,x14.2.2.1,x14.2.2.2.2.1,x14.2.2.2.2.2)) h
   ·refine GV H.1 ?_;dsimp only[go_sem];refine Z64 7 rfl (Z87 H.1 [] [0,1] 3 6 (Zzj x3 x4 x5 x1 x2 x8 x9 _ ex14) ?_);dsimp only[go_sem];refine GN H 3 2 ?_;dsimp only[go_sem];refine An (GE H.1 12 ?_);dsimp only[go_sem];refine GN H 1 0 ?_;dsimp only[go_sem];refine An (GD ?_)
    exact Zy4 J1 (s:=(x14.2.2.2.1,x14.1,x14.2.1,x14.2.2.1,x14.2.2.2.2.1,x14.2.2.2.2.2)) h
  ·refine GV H.1 ?_;dsimp only[go_sem];refine GE H.1 4 ?_;dsimp only[go_sem];refine Z64 7 rfl ?_;have ⟨x14,ex14,h⟩:=Bs h;refine Z87 H.1 [] [0,1] 3 6 (Zzj x3 x4 x5 x1 x2 x8 x9 _ ex14) ?_;dsimp only[go_sem];refine GN H 3 2 ?_;dsimp only[go_sem];refine An (GE H.1 12 ?_);dsimp only[go_sem];refine GN H 1 0 ?_;dsimp only[go_sem]
   refine An (GD ?_);exact Zy4 J1 (s:=(x14.2.2.2.1,x14.1,x14.2.1,x14.2.2.1,x14.2.2.2.2.1,x14.2.2.2.2.2)) h
@[go_sem] def e37:EC:=(by have h:=hF Tryz.f37;(conv at h=>rhs;reduce);dsimp only[go_sem] at h;exact ⟨_,h⟩:DP Tryz.f37).1
theorem Zrk:FnOK Tryz.prog 37 Tryz.f37 e37 [.c 2 (some 10),.t 3,.t 4,.t 5] 1 41:=okA
def Zsk (x7:Int) (x16:List KE) (x19:List KE) (x29:(Int×Int×Int×Int×List Side×List Int×List Mail)) (x39:Int) (x40:List Sess) (x41:List Event):(List Int×List Mail)→Option (Int×Int×Int×Int×List Sess×List Int×List KE×List Event×List KE×List Int×List Mail×List Side)
| (x43,x44)=>
 (Zhh x29.1 x29.2.1 x29.2.2.1 x39 x40 x43 x7 x29.2.2.2.2.1 x29.2.2.2.2.2.1 x16 x19 x44 x41).bind fun x45=>
 some (x29.1,x29.2.1,x29.2.2.1,x39,x40,x43,x16,x41,x19,x29.2.2.2.2.2.1,x45.1,x45.2)
def Ztk (x6:List Int) (x7:Int) (x16 x19:List KE) (x29:(Int×Int×Int×Int×List Side×List Int×List Mail)) (x32:List Mail):(Int×List Sess×List Event)→Option (Int×Int×Int×Int×List Sess×List Int×List KE×List Event×List KE×List Int×List Mail×List Side)
| (x39,x40,x41)=>
 ifb (decide (x29.2.1=2)) (
 (Zyi x29.1 x29.2.1 x29.2.2.1 x39 x40 x6 x7 x29.2.2.2.2.1 x29.2.2.2.2.2.1 x16 x19 x32 x41).bind fun x42=>
 (Zsk x7 x16 x19 x29 x39 x40 x41) (x42.1,x42.2)) (
 (Zsk x7 x16 x19 x29 x39 x40 x41) (x6,x32))
def Zuk (x6:List Int) (x7:Int) (x16:List KE) (x18:List Event) (x19:List KE) (x20:(Sess×Bool)) (x29:(Int×Int×Int×Int×List Side×List Int×List Mail)) (x32:List Mail):(Int×List Sess)→Option (Int×Int×Int×Int×List Sess×List Int×List KE×List Event×List KE×List Int×List Mail×List Side)
| (x36,x37)=>
 (Zoc 1 x20.1.ID x29.1 x29.2.1 x29.2.2.1 x36 x37 x6 x7 x29.2.2.2.2.1 x29.2.2.2.2.2.1 x16 x19 x32 x18).bind fun x38=>
 (Ztk x6 x7 x16 x19 x29 x32) (x36,x37,x38)
def Zvk (x4:Int) (x5:List Sess) (x6:List Int) (x7:Int) (x16:List KE) (x18:List Event) (x19:List KE) (x20:(Sess×Bool)) (x29:(Int×Int×Int×Int×List Side×List Int×List Mail)) (x32:List Mail):Bool→Option (Int×Int×Int×Int×List Sess×List Int×List KE×List Event×List KE×List Int×List Mail×List Side)
| x33=>
 ifb x33 (
 (Zig (Book.mk x4 x5)).bind fun x34=>
 (Zuk x6 x7 x16 x18 x19 x20 x29 x32) (x34.1.Last,x34.1.Sess)) (
 (Ztk x6 x7 x16 x19 x29 x32) (x4,x5,x18))
def Zwk (x4:Int) (x5:List Sess) (x6:List Int) (x7:Int) (x16:List KE) (x18:List Event) (x19:List KE) (x20:(Sess×Bool)) (x29:(Int×Int×Int×Int×List Side×List Int×List Mail)):List Mail→Option (Int×Int×Int×Int×List Sess×List Int×List KE×List Event×List KE×List Int×List Mail×List Side)
| x32=>
 ifb x20.2 (
 ifb (decide (x20.1.State=0)) (
 (Zvk x4 x5 x6 x7 x16 x18 x19 x20 x29 x32) (decide (x29.2.2.1=2))) (
 (Zvk x4 x5 x6 x7 x16 x18 x19 x20 x29 x32) false)) (
 (Zvk x4 x5 x6 x7 x16 x18 x19 x20 x29 x32) false)
def Zxk (x1 x4:Int) (x5:List Sess) (x6:List Int) (x7:Int) (x15:List Side) (x16:List KE) (x17:List Mail) (x18:List Event) (x19:List KE) (x20:(Sess×Bool)) (x24:Int) (x25:List Int):Int→Option (Int×Int×Int×Int×List Sess×List Int×List KE×List Event×List KE×List Int×List Mail×List Side)
| x28=>
 (Zik x1 x28 x24 x15 x25).bind fun x29=>
 (Zj4 40 x17 x29.2.2.2.2.2.2).bind fun x30=>
 (Zwk x4 x5 x6 x7 x16 x18 x19 x20 x29) x30
def Zyk (x1 x2 x4:Int) (x5:List Sess) (x6:List Int) (x7:Int) (x15:List Side) (x16:List KE) (x17:List Mail) (x18:List Event) (x19:List KE) (x20:(Sess×Bool)) (x24:Int) (x25:List Int):Bool→Option (Int×Int×Int×Int×List Sess×List Int×List KE×List Event×List KE×List Int×List Mail×List Side)
| x27=>
 ifb x27 (
 (Zxk x1 x4 x5 x6 x7 x15 x16 x17 x18 x19 x20 x24 x25) 1) (
 (Zxk x1 x4 x5 x6 x7 x15 x16 x17 x18 x19 x20 x24 x25) x2)
def Zzk (x1 x2 x4:Int) (x5:List Sess) (x6:List Int) (x7:Int) (x15:List Side) (x16:List KE) (x17:List Mail) (x18:List Event) (x19:List KE) (x20:(Sess×Bool)):(Int×List Int)→Option (Int×Int×Int×Int×List Sess×List Int×List KE×List Event×List KE×List Int×List Mail×List Side)
| (x24,x25)=>
 ifb (decide (x2=0)) (
 (Zqa x15 ((fun z=>Zwf z (node_node.mk (Node.mk (DK.mk (DI.mk x1 x2 x15) x24 x25) (Book.mk x4 x5) x16 x6 x19) x17 x18 x7)))).bind fun x26=>
 (Zyk x1 x2 x4 x5 x6 x7 x15 x16 x17 x18 x19 x20 x24 x25) x26) (
 (Zyk x1 x2 x4 x5 x6 x7 x15 x16 x17 x18 x19 x20 x24 x25) false)
def Z0l (x1 x2:Int) (x3 x4:Int) (x5:List Sess) (x6:List Int) (x7:Int) (x9:List Int) (x15:List Side) (x16:List KE) (x17:List Mail) (x18:List Event) (x19:List KE) (x20:(Sess×Bool)):Bool→Option (Int×Int×Int×Int×List Sess×List Int×List KE×List Event×List KE×List Int×List Mail×List Side)
| x21=>
 ifb x21 (
 (Zx7 x20.1.Need).bind fun x22=>
 (Zzk x1 x2 x4 x5 x6 x7 x15 x16 x17 x18 x19 x20) (1,x22)) (
 (Zzk x1 x2 x4 x5 x6 x7 x15 x16 x17 x18 x19 x20) (x3,x9))
def Z1l (x1 x2:Int) (x3 x4:Int) (x5:List Sess) (x6:List Int) (x7:Int) (x9:List Int):(List Side×List KE×List Mail×List Event×List KE)→Option (Int×Int×Int×Int×List Sess×List Int×List KE×List Event×List KE×List Int×List Mail×List Side)
| (x15,x16,x17,x18,x19)=>
 (Zkc x1 x2 x3 x4 x5 x6 x15 x9 x16 x19).bind fun x20=>
 ifb x20.2 (
 ifb (decide (x20.1.State=0)) (
 (Z0l x1 x2 x3 x4 x5 x6 x7 x9 x15 x16 x17 x18 x19 x20) (decide (x3=0))) (
 (Z0l x1 x2 x3 x4 x5 x6 x7 x9 x15 x16 x17 x18 x19 x20) false)) (
 (Z0l x1 x2 x3 x4 x5 x6 x7 x9 x15 x16 x17 x18 x19 x20) false)
def Z2l (x1 x2:Int) (x3 x4:Int) (x5:List Sess) (x6:List Int) (x7:Int) (x8:List Side) (x9:List Int) (x10 x11:List KE) (x12:List Mail) (x13:List Event):Option (Int×Int×Int×Int×List Sess×List Int×List KE×List Event×List KE×List Int×List Mail×List Side):=
 ifb (!decide (x2=2)) (
 (Zjj x1 x2 x3 x4 x5 x6 x7 x8 x9 x10 x11 x12 x13).bind fun x14=>
 (Z1l x1 x2 x3 x4 x5 x6 x7 x9) (x14.1,x14.2.1,x14.2.2.1,x14.2.2.2,([]:List KE))) (
 (Z1l x1 x2 x3 x4 x5 x6 x7 x9) (x8,x10,x12,x13,x11))
theorem Z3l (x1 x2:Int) (x3 x4:Int) (x5:List Sess) (x6:List Int) (x7:Int) (x8:List Side) (x9:List Int) (x10 x11:List KE) (x12:List Mail) (x13:List Event) (r:(Int×Int×Int×Int×List Sess×List Int×List KE×List Event×List KE×List Int×List Mail×List Side)) (h:Z2l x1 x2 x3 x4 x5 x6 x7 x8 x9 x10 x11 x12 x13=some r):Zr5 Tryz.prog 85 [.ptr 0 0] [some ⟨81,[.iv x1,.iv x2,.osl 0,.iv x3,.osl 1,.iv x4,Sp3 x5,.osl 2,Sp0 x6,.osl 3,.osl 4,.osl 5,.iv x7]⟩] [Sq6 x8,Sq7 x9,Sq8 x10,Sq8 x11,Zb7 x12,Za7 x13] (.tup []) [some ⟨81,[.iv r.1,.iv r.2.1,.osl 22,.iv r.2.2.1,.osl 17,.iv r.2.2.2.1,Sp3 r.2.2.2.2.1,.osl 9,Sp0 r.2.2.2.2.2.1,.osl 14,.osl 21,.osl 13,.iv x7]⟩] [none,none,none,none,none,none,none,none,none,Sq8 r.2.2.2.2.2.2.1,none,none,none,Za7 r.2.2.2.2.2.2.2.1,Sq8 r.2.2.2.2.2.2.2.2.1,none,none,Sq7 r.2.2.2.2.2.2.2.2.2.1,none,none,none,Zb7 r.2.2.2.2.2.2.2.2.2.2.1,Sq6 r.2.2.2.2.2.2.2.2.2.2.2]:=by
 refine FT ok85 fun w0 M0=>?_
 rw [Z2l] at h
 dsimp only[lun,List.cons_append,List.nil_append]
 refine Zv2 16 ?_;dsimp only[go_sem];refine An ?_
 refine Zo4 (fun ((x15,x16,x17,x18,x19):(List Side×List KE×List Mail×List Event×List KE))=>(⟨(.any :: .ptr 1 0::an 147 []),[some ⟨81,[.iv x1,.iv x2,.osl 7,.iv x3,.osl 1,.iv x4,Sp3 x5,.osl 9,Sp0 x6,.osl 14,.osl 11,.osl 13,.iv x7]⟩,some ⟨79,[.ptr 0 0]⟩],[none,Sq7 x9,none,none,none,none,none,Sq6 x15,none,Sq8 x16,none,Zb7 x17,none,Za7 x18,Sq8 x19]⟩:St)) (Z1l x1 x2 x3 x4 x5 x6 x7 x9) r ?_ fun J1=>?_
 ·rintro ⟨x15,x16,x17,x18,x19⟩ h;rw [Z1l] at h;(try dsimp only);refine Zv2 6 ?_;dsimp only[go_sem];refine An ?_;have ⟨x20,ex20,h⟩:=Bs h;refine Z77 [] [7,1,9,14] 2 15 (Zlc x1 x2 x3 x4 x5 x6 x15 x9 x16 x19 _ ex20) ?_;dsimp only[go_sem];refine Zv2 12 ?_;dsimp only[go_sem];refine An ?_
  refine Zo4 (fun (x21:Bool)=>(⟨(.any :: .ptr 1 0 :: .ptr 2 0 :: .bv x20.2::an 36 (.bv x21::an 108 [])),[some ⟨81,[.iv x1,.iv x2,.osl 7,.iv x3,.osl 1,.iv x4,Sp3 x5,.osl 9,Sp0 x6,.osl 14,.osl 11,.osl 13,.iv x7]⟩,some ⟨79,[.ptr 0 0]⟩,some ⟨60,Sess.row x20.1⟩],[none,Sq7 x9,none,none,none,none,none,Sq6 x15,none,Sq8 x16,none,Zb7 x17,none,Za7 x18,Sq8 x19]⟩:St)) (Z0l x1 x2 x3 x4 x5 x6 x7 x9 x15 x16 x17 x18 x19 x20) r ?_ fun J2=>?_
  ·intro x21 h;rw [Z0l] at h;(try dsimp only)
   refine Zo4 (fun ((x24,x25):(Int×List Int))=>(⟨(.any :: .ptr 1 0 :: .ptr 2 0 :: .bv x20.2::an 145 []),[some ⟨81,[.iv x1,.iv x2,.osl 7,.iv x24,.osl 15,.iv x4,Sp3 x5,.osl 9,Sp0 x6,.osl 14,.osl 11,.osl 13,.iv x7]⟩,some ⟨79,[.ptr 0 0]⟩,some ⟨60,Sess.row x20.1⟩],[none,none,none,none,none,none,none,Sq6 x15,none,Sq8 x16,none,Zb7 x17,none,Za7 x18,Sq8 x19,Sq7 x25]⟩:St)) (Zzk x1 x2 x4 x5 x6 x7 x15 x16 x17 x18 x19 x20) r ?_ fun J3=>?_
   ·rintro ⟨x24,x25⟩ h;rw [Zzk] at h;(try dsimp only);refine Zv2 17 ?_;dsimp only[go_sem];refine An ?_
    refine Zo4 (fun (x27:Bool)=>(⟨(.any :: .ptr 1 0 :: .ptr 2 0 :: .bv x20.2::an 69 (.bv x27::an 75 [])),[some ⟨81,[.iv x1,.iv x2,.osl 7,.iv x24,.osl 15,.iv x4,Sp3 x5,.osl 9,Sp0 x6,.osl 14,.osl 11,.osl 13,.iv x7]⟩,some ⟨79,[.ptr 0 0]⟩,some ⟨60,Sess.row x20.1⟩],[none,none,none,none,none,none,none,Sq6 x15,none,Sq8 x16,none,Zb7 x17,none,Za7 x18,Sq8 x19,Sq7 x25]⟩:St)) (Zyk x1 x2 x4 x5 x6 x7 x15 x16 x17 x18 x19 x20 x24 x25) r ?_ fun J4=>?_
    ·intro x27 h;rw [Zyk] at h;(try dsimp only)
     refine Zo4 (fun (x28:Int)=>(⟨(.any :: .ptr 1 0 :: .ptr 2 0 :: .bv x20.2::an 145 []),[some ⟨81,[.iv x1,.iv x28,.osl 7,.iv x24,.osl 15,.iv x4,Sp3 x5,.osl 9,Sp0 x6,.osl 14,.osl 11,.osl 13,.iv x7]⟩,some ⟨79,[.ptr 0 0]⟩,some ⟨60,Sess.row x20.1⟩],[none,none,none,none,none,none,none,Sq6 x15,none,Sq8 x16,none,Zb7 x17,none,Za7 x18,Sq8 x19,Sq7 x25]⟩:St)) (Zxk x1 x4 x5 x6 x7 x15 x16 x17 x18 x19 x20 x24 x25) r ?_ fun J5=>?_
     ·intro x28 h;rw [Zxk] at h;(try dsimp only);refine Zv2 7 ?_;dsimp only[go_sem];refine An ?_;have ⟨x29,ex29,h⟩:=Bs h;refine Z77 [] [7,15] 3 16 (Zjk x1 x28 x24 x15 x25 _ ex29) ?_;dsimp only[go_sem];refine Zv2 19 ?_;dsimp only[go_sem];refine An ?_
      refine Zo4 (fun (x32:List Mail)=>(⟨(.any :: .ptr 1 0 :: .ptr 2 0 :: .bv x20.2::an 145 []),[some ⟨81,[.iv x29.1,.iv x29.2.1,.osl 16,.iv x29.2.2.1,.osl 17,.iv x4,Sp3 x5,.osl 9,Sp0 x6,.osl 14,.osl 19,.osl 13,.iv x7]⟩,some ⟨79,[.ptr 0 0]⟩,some ⟨60,Sess.row x20.1⟩],[none,none,none,none,none,none,none,none,none,Sq8 x16,none,none,none,Za7 x18,Sq8 x19,none,Sq6 x29.2.2.2.2.1,Sq7 x29.2.2.2.2.2.1,none,Zb7 x32]⟩:St)) (Zwk x4 x5 x6 x7 x16 x18 x19 x20 x29) r ?_ fun J6=>?_
      ·intro x32 h;rw [Zwk] at h;(try dsimp only);refine Zv2 5 ?_;dsimp only[go_sem];refine An ?_
       refine Zo4 (fun (x33:Bool)=>(⟨(.any :: .ptr 1 0 :: .ptr 2 0::an 115 (.bv x33::an 30 [])),[some ⟨81,[.iv x29.1,.iv x29.2.1,.osl 16,.iv x29.2.2.1,.osl 17,.iv x4,Sp3 x5,.osl 9,Sp0 x6,.osl 14,.osl 19,.osl 13,.iv x7]⟩,some ⟨79,[.ptr 0 0]⟩,some ⟨60,Sess.row x20.1⟩],[none,none,none,none,none,none,none,none,none,Sq8 x16,none,none,none,Za7 x18,Sq8 x19,none,Sq6 x29.2.2.2.2.1,Sq7 x29.2.2.2.2.2.1,none,Zb7 x32]⟩:St)) (Zvk x4 x5 x6 x7 x16 x18 x19 x20 x29 x32) r ?_ fun J7=>?_
       ·intro x33 h;rw [Zvk] at h;(try dsimp only)
        refine Zo4 (fun ((x39,x40,x41):(Int×List Sess×List Event))=>(⟨(.any :: .ptr 1 0::an 147 []),[some ⟨81,[.iv x29.1,.iv x29.2.1,.osl 16,.iv x29.2.2.1,.osl 17,.iv x39,Sp3 x40,.osl 9,Sp0 x6,.osl 14,.osl 19,.osl 13,.iv x7]⟩,some ⟨79,[.ptr 0 0]⟩],[none,none,none,none,none,none,none,none,none,Sq8 x16,none,none,none,Za7 x41,Sq8 x19,none,Sq6 x29.2.2.2.2.1,Sq7 x29.2.2.2.2.2.1,none,Zb7 x32]⟩:St)) (Ztk x6 x7 x16 x19 x29 x32) r ?_ fun J8=>?_
        ·rintro ⟨x39,x40,x41⟩ h;rw [Ztk] at h;(try dsimp only);refine Zv2 12 ?_;dsimp only[go_sem];refine An ?_
         refine Zo4 (fun ((x43,x44):(List Int×List Mail))=>(⟨(.any :: .ptr 1 0::an 147 []),[some ⟨81,[.iv x29.1,.iv x29.2.1,.osl 16,.iv x29.2.2.1,.osl 17,.iv x39,Sp3 x40,.osl 9,Sp0 x43,.osl 14,.osl 19,.osl 13,.iv x7]⟩,some ⟨79,[.ptr 0 0]⟩],[none,none,none,none,none,none,none,none,none,Sq8 x16,none,none,none,Za7 x41,Sq8 x19,none,Sq6 x29.2.2.2.2.1,Sq7 x29.2.2.2.2.2.1,none,Zb7 x44]⟩:St)) (Zsk x7 x16 x19 x29 x39 x40 x41) r ?_ fun J10=>?_
         ·rintro ⟨x43,x44⟩ h;rw [Zsk] at h;(try dsimp only);refine Zv2 2 ?_;dsimp only[go_sem];refine An ?_;have ⟨x45,ex45,h⟩:=Bs h;refine Z77 [0] [16,17,9,14,19,13] 2 20 (Zih x29.1 x29.2.1 x29.2.2.1 x39 x40 x43 x7 x29.2.2.2.2.1 x29.2.2.2.2.2.1 x16 x19 x44 x41 _ ex45) ?_;dsimp only[go_sem];refine Zv2 1 ?_;dsimp only[go_sem];refine An ?_
          obtain rfl:=Option.some.inj h;exact Z67 ok85
         ·refine MI h (fun h=>?_) fun h=>?_
          ·refine Zv2 2 ?_;dsimp only[go_sem];refine An ?_;have ⟨x42,ex42,h⟩:=Bs h;refine Z77 [0] [16,17,9,14,19,13] 2 20 (Zzi x29.1 x29.2.1 x29.2.2.1 x39 x40 x6 x7 x29.2.2.2.2.1 x29.2.2.2.2.2.1 x16 x19 x32 x41 _ ex42) ?_;dsimp only[go_sem];refine Zv2 1 ?_;dsimp only[go_sem];refine An (Z17 21 19 ?_);dsimp only[go_sem]
           exact Zy4 J10 (s:=(x42.1,x42.2)) h
          ·refine Zv2 1 ?_;dsimp only[go_sem];refine An ?_;exact Zy4 J10 (s:=(x6,x32)) h
        ·refine MI h (fun h=>?_) fun h=>?_
         ·refine Zv2 1 ?_;dsimp only[go_sem];refine An ?_
          refine Zo4 (fun ((x36,x37):(Int×List Sess))=>(⟨(.any :: .ptr 1 0 :: .ptr 2 0::an 146 []),[some ⟨81,[.iv x29.1,.iv x29.2.1,.osl 16,.iv x29.2.2.1,.osl 17,.iv x36,Sp3 x37,.osl 9,Sp0 x6,.osl 14,.osl 19,.osl 13,.iv x7]⟩,some ⟨79,[.ptr 0 0]⟩,some ⟨60,Sess.row x20.1⟩],[none,none,none,none,none,none,none,none,none,Sq8 x16,none,none,none,Za7 x18,Sq8 x19,none,Sq6 x29.2.2.2.2.1,Sq7 x29.2.2.2.2.2.1,none,Zb7 x32]⟩:St)) (Zuk x6 x7 x16 x18 x19 x20 x29 x32) r ?_ fun J9=>?_
          ·rintro ⟨x36,x37⟩ h;rw [Zuk] at h;(try dsimp only);refine Zv2 4 ?_;dsimp only[go_sem];refine An ?_;have ⟨x38,ex38,h⟩:=Bs h;refine Z77 [0] [16,17,9,14,19,13] 3 20 (Zpc 1 x20.1.ID x29.1 x29.2.1 x29.2.2.1 x36 x37 x6 x7 x29.2.2.2.2.1 x29.2.2.2.2.2.1 x16 x19 x32 x18 _ ex38) ?_;dsimp only[go_sem];refine Zv2 1 ?_;dsimp only[go_sem]
           refine An (Z17 21 13 ?_);dsimp only[go_sem];exact Zy4 J8 (s:=(x36,x37,x38)) h
          ·refine Z07 fun all H=>?_;dsimp only[go_sem];refine Z74 0 1 rfl ?_ ?_
           ·refine GV H.1 ?_;dsimp only[go_sem];refine GE H.1 1 ?_;dsimp only[go_sem];refine GN H 4 9 ?_;dsimp only[go_sem];refine An (Z64 6 rfl ?_);have ⟨x34,ex34,h⟩:=Bs h;refine GC H.1 (Zjg (Book.mk x4 x5) _ ex34) ?_;dsimp only[go_sem]
            refine GP H 7 1 [14,1] [(119,[.tup [.agg (Book.row x34.1),.iv x34.2.1,.iv x34.2.2]]),(7,[.agg (Book.row x34.1),.iv x34.2.1,.iv x34.2.2,.ptr 0 0,.ptr 0 0,.ptr 0 5])] ?_;dsimp only[go_sem];refine GE H.1 14 ?_;dsimp only[go_sem];refine GD ?_;exact Zy4 J9 (s:=(x34.1.Last,x34.1.Sess)) h
           ·refine GV H.1 ?_;dsimp only[go_sem];refine GN H 4 10 ?_;dsimp only[go_sem];refine An ?_;have ⟨x34,ex34,h⟩:=Bs h;refine Z74 0 6 rfl ?_ ?_
            ·refine GV H.1 ?_;dsimp only[go_sem];refine Z64 6 rfl (GC H.1 (Zjg (Book.mk x4 x5) _ ex34) ?_);dsimp only[go_sem];refine GP H 7 1 [14,1] [(119,[.tup [.agg (Book.row x34.1),.iv x34.2.1,.iv x34.2.2]]),(7,[.agg (Book.row x34.1),.iv x34.2.1,.iv x34.2.2,.ptr 0 0,.ptr 0 0,.ptr 0 5])] ?_;dsimp only[go_sem];refine GE H.1 14 ?_;dsimp only[go_sem]
             refine GD ?_;exact Zy4 J9 (s:=(x34.1.Last,x34.1.Sess)) h
            ·refine GC H.1 (Zjg (Book.mk x4 x5) _ ex34) ?_;dsimp only[go_sem];refine GN H 4 5 ?_;dsimp only[go_sem];refine An (GE H.1 0 ?_);dsimp only[go_sem];refine GN H 3 1 ?_;dsimp only[go_sem];refine An (GE H.1 14 ?_);dsimp only[go_sem];refine GD ?_;exact Zy4 J9 (s:=(x34.1.Last,x34.1.Sess)) h
         ·refine Zv2 1 ?_;dsimp only[go_sem];refine An ?_;exact Zy4 J8 (s:=(x4,x5,x18)) h
       ·refine MC 105 h (fun h=>?_) fun h=>?_
        ·dsimp only[go_sem];refine Zv2 5 ?_;dsimp only[go_sem];refine An (MC 110 h (fun h=>?_) fun h=>?_)
         ·dsimp only[go_sem];refine Zv2 9 ?_;dsimp only[go_sem];refine An ?_;exact Zy4 J7 (s:=decide (x29.2.2.1=2)) h
         ·dsimp only[go_sem];refine Zv2 9 ?_;dsimp only[go_sem];refine An ?_;exact Zy4 J7 (s:=false) h
        ·dsimp only[go_sem];refine Zv2 14 ?_;dsimp only[go_sem];refine An ?_;exact Zy4 J7 (s:=false) h
      ·refine Z07 fun all H=>?_;dsimp only[go_sem];refine GN H 1 9 ?_;dsimp only[go_sem];refine An (Z74 0 1 rfl ?_ ?_)
       ·refine GV H.1 ?_;dsimp only[go_sem];refine GE H.1 1 ?_;dsimp only[go_sem];refine GN H 2 5 ?_;dsimp only[go_sem];refine An (GE H.1 4 ?_);dsimp only[go_sem];refine Z64 6 rfl ?_;have ⟨x30,ex30,h⟩:=Bs h;refine GA Mail.row ex30 H.1 ?_;dsimp only[go_sem];refine GN H 2 1 ?_;dsimp only[go_sem];refine An (GE H.1 9 ?_);dsimp only[go_sem]
        refine GD ?_;exact Zy4 J6 (s:=x30) h
       ·refine GV H.1 ?_;dsimp only[go_sem];refine GN H 2 6 ?_;dsimp only[go_sem];refine An (Z74 0 4 rfl ?_ ?_)
        ·refine GV H.1 ?_;dsimp only[go_sem];refine GE H.1 4 ?_;dsimp only[go_sem];refine Z64 6 rfl ?_;have ⟨x30,ex30,h⟩:=Bs h;refine GA Mail.row ex30 H.1 ?_;dsimp only[go_sem];refine GN H 2 1 ?_;dsimp only[go_sem];refine An (GE H.1 9 ?_);dsimp only[go_sem];refine GD ?_;exact Zy4 J6 (s:=x30) h
        ·refine GV H.1 ?_;dsimp only[go_sem];have ⟨x30,ex30,h⟩:=Bs h;refine Z74 0 6 rfl ?_ ?_
         ·refine GV H.1 ?_;dsimp only[go_sem];refine Z64 6 rfl (GA Mail.row ex30 H.1 ?_);dsimp only[go_sem];refine GN H 2 1 ?_;dsimp only[go_sem];refine An (GE H.1 9 ?_);dsimp only[go_sem];refine GD ?_;exact Zy4 J6 (s:=x30) h
         ·refine GA Mail.row ex30 H.1 ?_;dsimp only[go_sem];refine GE H.1 0 ?_;dsimp only[go_sem];refine GN H 2 1 ?_;dsimp only[go_sem];refine An (GE H.1 9 ?_);dsimp only[go_sem];refine GD ?_;exact Zy4 J6 (s:=x30) h
     ·refine MI h (fun h=>?_) fun h=>?_
      ·refine Zv2 9 ?_;dsimp only[go_sem];refine An ?_;exact Zy4 J5 (s:=1) h
      ·refine Zv2 1 ?_;dsimp only[go_sem];refine An ?_;exact Zy4 J5 (s:=x2) h
    ·refine MC 63 h (fun h=>?_) fun h=>?_
     ·dsimp only[go_sem];refine Zv2 8 ?_;dsimp only[go_sem];refine An ?_;have ⟨x26,ex26,h⟩:=Bs h
      refine VL ((((((((LR.slice 7 rfl).slice 9 rfl).slice 11 rfl).slice 13 rfl).slice 14 rfl).slice 15 rfl).block 0 rfl rfl).block 1 rfl rfl) (Zra x15 _ _ ((fun z=>Zwf z (node_node.mk (Node.mk (DK.mk (DI.mk x1 x2 x15) x24 x25) (Book.mk x4 x5) x16 x6 x19) x17 x18 x7))) ⟨by kernel_rfl,rfl,fun z r hz=>Zxf z (node_node.mk (Node.mk (DK.mk (DI.mk x1 x2 x15) x24 x25) (Book.mk x4 x5) x16 x6 x19) x17 x18 x7) r hz⟩ _ ex26) (Zv2 2 ?_);dsimp only[go_sem]
      refine An ?_;exact Zy4 J4 (s:=x26) h
     ·dsimp only[go_sem];refine Zv2 11 ?_;dsimp only[go_sem];refine An ?_;exact Zy4 J4 (s:=false) h
   ·refine MI h (fun h=>?_) fun h=>?_
    ·refine Z07 fun all H=>?_;dsimp only[go_sem];refine GN H 2 13 ?_;dsimp only[go_sem];refine An ?_;have ⟨x22,ex22,h⟩:=Bs h;refine Z84 0 1 4 rfl ?_ ?_ ?_
     ·refine GV H.1 ?_;dsimp only[go_sem];refine Z74 1 4 rfl ?_ ?_
      ·refine GV H.1 ?_;dsimp only[go_sem];refine Z64 4 rfl (Z95 H.1 rfl trivial (Zy7 x20.1.Need _ ex22) (h:=?_));dsimp only[go_sem];refine GN H 4 6 ?_;dsimp only[go_sem];refine An (GE H.1 9 ?_);dsimp only[go_sem];refine GN H 4 1 ?_;dsimp only[go_sem];refine An (GE H.1 14 ?_);dsimp only[go_sem];refine GD ?_;exact Zy4 J3 (s:=(1,x22)) h
      ·refine Z95 H.1 rfl trivial (Zy7 x20.1.Need _ ex22) (h:=?_);dsimp only[go_sem];refine GN H 4 7 ?_;dsimp only[go_sem];refine An (Z74 1 9 rfl ?_ ?_)
       ·refine GV H.1 ?_;dsimp only[go_sem];refine GE H.1 9 ?_;dsimp only[go_sem];refine GN H 4 1 ?_;dsimp only[go_sem];refine An (GE H.1 14 ?_);dsimp only[go_sem];refine GD ?_;exact Zy4 J3 (s:=(1,x22)) h
       ·refine GV H.1 ?_;dsimp only[go_sem];refine GE H.1 1 ?_;dsimp only[go_sem];refine GN H 4 1 ?_;dsimp only[go_sem];refine An (GE H.1 14 ?_);dsimp only[go_sem];refine GD ?_;exact Zy4 J3 (s:=(1,x22)) h
     ·refine GV H.1 ?_;dsimp only[go_sem];refine Z74 0 4 rfl ?_ ?_
      ·refine GV H.1 ?_;dsimp only[go_sem];refine Z64 4 rfl (Z95 H.1 rfl trivial (Zy7 x20.1.Need _ ex22) (h:=?_));dsimp only[go_sem];refine GN H 4 6 ?_;dsimp only[go_sem];refine An (GE H.1 9 ?_);dsimp only[go_sem];refine GN H 4 1 ?_;dsimp only[go_sem];refine An (GE H.1 14 ?_);dsimp only[go_sem];refine GD ?_;exact Zy4 J3 (s:=(1,x22)) h
      ·refine Z95 H.1 rfl trivial (Zy7 x20.1.Need _ ex22) (h:=?_);dsimp only[go_sem];refine GE H.1 0 ?_;dsimp only[go_sem];refine GN H 4 6 ?_;dsimp only[go_sem];refine An (GE H.1 9 ?_);dsimp only[go_sem];refine GN H 4 1 ?_;dsimp only[go_sem];refine An (GE H.1 14 ?_);dsimp only[go_sem];refine GD ?_;exact Zy4 J3 (s:=(1,x22)) h
     ·refine Z95 H.1 rfl trivial (Zy7 x20.1.Need _ ex22) (h:=?_);dsimp only[go_sem];refine Z74 0 1 rfl ?_ ?_
      ·refine GV H.1 ?_;dsimp only[go_sem];refine GN H 4 7 ?_;dsimp only[go_sem];refine An (Z74 1 9 rfl ?_ ?_)
       ·refine GV H.1 ?_;dsimp only[go_sem];refine GE H.1 9 ?_;dsimp only[go_sem];refine GN H 4 1 ?_;dsimp only[go_sem];refine An (GE H.1 14 ?_);dsimp only[go_sem];refine GD ?_;exact Zy4 J3 (s:=(1,x22)) h
       ·refine GV H.1 ?_;dsimp only[go_sem];refine GE H.1 1 ?_;dsimp only[go_sem];refine GN H 4 1 ?_;dsimp only[go_sem];refine An (GE H.1 14 ?_);dsimp only[go_sem];refine GD ?_;exact Zy4 J3 (s:=(1,x22)) h
      ·refine GV H.1 ?_;dsimp only[go_sem];refine GE H.1 0 ?_;dsimp only[go_sem];refine GN H 4 6 ?_;dsimp only[go_sem];refine An (GE H.1 9 ?_);dsimp only[go_sem];refine GN H 4 1 ?_;dsimp only[go_sem];refine An (GE H.1 14 ?_);dsimp only[go_sem];refine GD ?_;exact Zy4 J3 (s:=(1,x22)) h
    ·refine Zv2 1 ?_;dsimp only[go_sem];refine An (Z47 3 1 ?_);dsimp only[go_sem];refine Z17 1 15 ?_;dsimp only[go_sem];exact Zy4 J3 (s:=(x3,x9)) h
  ·refine MC 27 h (fun h=>?_) fun h=>?_
   ·dsimp only[go_sem];refine Zv2 5 ?_;dsimp only[go_sem];refine An (MC 32 h (fun h=>?_) fun h=>?_)
    ·dsimp only[go_sem];refine Zv2 9 ?_;dsimp only[go_sem];refine An ?_;exact Zy4 J2 (s:=decide (x3=0)) h
    ·dsimp only[go_sem];refine Zv2 9 ?_;dsimp only[go_sem];refine An ?_;exact Zy4 J2 (s:=false) h
   ·dsimp only[go_sem];refine Zv2 14 ?_;dsimp only[go_sem];refine An ?_;exact Zy4 J2 (s:=false) h
 ·refine MI h (fun h=>?_) fun h=>?_
  ·refine Zv2 2 ?_;dsimp only[go_sem];refine An ?_;have ⟨x14,ex14,h⟩:=Bs h;refine Z77 [0] [0,1,2,3,4,5] 2 6 (Zkj x1 x2 x3 x4 x5 x6 x7 x8 x9 x10 x11 x12 x13 _ ex14) ?_;dsimp only[go_sem];refine Zv2 1 ?_;dsimp only[go_sem];refine An (Z37 0 9 95 2 ?_);dsimp only[go_sem];exact Zy4 J1 (s:=(x14.1,x14.2.1,x14.2.2.1,x14.2.2.2,([]:List KE))) h
  ·refine Zv2 1 ?_;dsimp only[go_sem];refine An (Z47 74 5 ?_);dsimp only[go_sem];refine Z47 74 5 ?_;dsimp only[go_sem];refine Z47 74 5 ?_;dsimp only[go_sem];refine Z47 74 5 ?_;dsimp only[go_sem];refine Z47 74 5 ?_;dsimp only[go_sem];refine Z47 74 5 ?_;dsimp only[go_sem];refine Z17 4 11 ?_;dsimp only[go_sem];refine Z47 57 5 ?_;dsimp only[go_sem];refine Z47 57 5 ?_;dsimp only[go_sem];refine Z17 5 13 (Z17 0 7 ?_);dsimp only[go_sem]
   refine Z17 2 9 ?_;dsimp only[go_sem];refine Z47 95 2 ?_;dsimp only[go_sem];refine Z17 3 14 ?_;dsimp only[go_sem];exact Zy4 J1 (s:=(x8,x10,x12,x13,x11)) h
@[go_sem] def e24:EC:=(by have h:=hF Tryz.f24;(conv at h=>rhs;reduce);dsimp only[go_sem] at h;exact ⟨_,h⟩:DP Tryz.f24).1
theorem ok24:FnOK Tryz.prog 24 Tryz.f24 e24 [.c 2 (some 10),.t 3] 1 33:=okA
def Z4l (x1:DK):List KE→Option (Node×Int)
| x21=>
 (Zlk (Node.mk x1 (Book.mk 0 (([]:List Sess))) x21 (([]:List Int)) (([]:List KE)))).bind fun x22=>
 ifb (!decide (x22=0)) (
 some ((Node.mk (DK.mk (DI.mk 0 0 (([]:List Side))) 0 (([]:List Int))) (Book.mk 0 (([]:List Sess))) (([]:List KE)) (([]:List Int)) (([]:List KE))),180)) (
 (Zef x1.DI.ID x1.DI.PH x1.DI.SD x1.TH x1.Need 0 x21).bind fun x23=>
 some ((Node.mk (DK.mk (DI.mk x1.DI.ID x1.DI.PH x23.1) x1.TH x23.2.1) (Book.mk 0 x23.2.2.2.2.2) x23.2.2.1 x23.2.2.2.1 x23.2.2.2.2.1),0))
def Z5l (x1:DK):(Int×List KE)→Option ((Int×List KE) ⊕ (Node×Int))
| (x6,x7)=>
 ifb (decide (x6<(ln Side.row x1.DI.SD))) (
 (at_ x1.DI.SD x6).bind fun x8=>
 (Zj4 16 x7 ([KE.mk x8.Peer x8.Epoch])).bind fun x9=>
 some (.inl (wr (x6+1),x9))) (
 Option.map Sum.inr ((Z4l x1) x7))
def Z6l (x1:DK):Option (Node×Int):=
 loop (Z5l x1) (0,([]:List KE))
theorem k_node_New (x1:DK) (r:(Node×Int)) (h:Z6l x1=some r):Z03 Tryz.prog 24 [.agg (DK.row x1)] (.tup [.agg (Node.row r.1),.iv r.2]):=by
 refine FP ok24 fun w0 H0=>?_
 rw [Z6l] at h
 refine Zv2 22 ?_;dsimp only[go_sem];refine An (Zo4 (fun (x21:List KE)=>(⟨(.any :: .any :: .ptr 1 0 :: .any :: .ptr 2 0::an 29 []),[none,some ⟨35,[.iv 0,.iv 0,.nl,.iv 0,.nl,.iv 0,.nl,.nl,.nl,.nl]⟩,some ⟨35,[.iv x1.DI.ID,.iv x1.DI.PH,Sp2 x1.DI.SD,.iv x1.TH,Sp0 x1.Need,.iv 0,.nl,.osl 0,.nl,.nl]⟩],[Sq8 x21]⟩:St)) (Z4l x1) r ?_ fun J1=>?_)
 ·intro x21 h;rw [Z4l] at h;(try dsimp only);refine Zv2 4 ?_;dsimp only[go_sem];refine An ?_;have ⟨x22,ex22,h⟩:=Bs h;refine VL (LR.slice 0 rfl) (Zmk (Node.mk x1 (Book.mk 0 (([]:List Sess))) x21 (([]:List Int)) (([]:List KE))) _ ex22) (Zv2 2 ?_);dsimp only[go_sem];refine An (MI h (fun h=>?_) fun h=>?_)
  ·refine Zv2 6 ?_;dsimp only[go_sem];refine An ?_;exact Zw4 (res:=fun (r:(Node×Int))=>.tup [.agg (Node.row r.1),.iv r.2]) ok24 h
  ·refine Zv2 4 ?_;dsimp only[go_sem];refine An ?_;have ⟨x23,ex23,h⟩:=Bs h;refine Z77 [] [0] 3 1 (t_node_own_I1 x1.DI.ID x1.DI.PH x1.DI.SD x1.TH x1.Need 0 x21 _ ex23) ?_;dsimp only[go_sem];refine Zv2 3 ?_;dsimp only[go_sem];refine An (Z27 1 ?_);dsimp only[go_sem];refine Z27 2 ?_;dsimp only[go_sem];refine Z27 6 ?_;dsimp only[go_sem];refine Z27 3 ?_;dsimp only[go_sem];refine Z27 4 ?_;dsimp only[go_sem];refine Z27 5 ?_
   dsimp only[go_sem];exact Zw4 (res:=fun (r:(Node×Int))=>.tup [.agg (Node.row r.1),.iv r.2]) ok24 h
 ·refine Zv2 1 ?_;dsimp only[go_sem];refine An (Z37 2 7 95 2 ?_);dsimp only[go_sem]
  refine Zp4 h (fun ((x6,x7):(Int×List KE))=>(⟨(.any :: .any :: .ptr 1 0 :: .any :: .ptr 2 0::an 6 (Sp2 x1.DI.SD :: .iv (ln Side.row x1.DI.SD) :: .iv x6::an 20 [])),[none,some ⟨35,[.iv 0,.iv 0,.nl,.iv 0,.nl,.iv 0,.nl,.nl,.nl,.nl]⟩,some ⟨35,[.iv x1.DI.ID,.iv x1.DI.PH,Sp2 x1.DI.SD,.iv x1.TH,Sp0 x1.Need,.iv 0,.nl,.osl 0,.nl,.nl]⟩],[Sq8 x7]⟩:St)) (by simp [go_sem]) (by rintro ⟨x6,x7⟩;first | rfl | simp [go_sem]) ?_
  rintro n1 ⟨x6,x7⟩ y1 h hin1 hout1;rw [Z5l] at h;(try dsimp only);refine Zv2 5 ?_;dsimp only[go_sem];refine An (MI h (fun h=>?_) fun h=>?_)
  ·refine Zv2 5 ?_;dsimp only[go_sem];refine An ?_;have ⟨x8,ex8,h⟩:=Bs h;refine Zs4 Side.row ex8 trivial rfl rfl rfl (Zv2 13 ?_);dsimp only[go_sem];refine An ?_;have ⟨x9,ex9,h⟩:=Bs h;refine Zu4 KE.row ex9 trivial rfl rfl rfl (Zv2 8 ?_);dsimp only[go_sem];refine An (Z17 2 0 ?_);dsimp only[go_sem];exact Zx4 h hin1
  ·refine Zv2 1 ?_;dsimp only[go_sem];refine An ?_;exact Zy4 J1 (s:=x7) (Zn4 h hout1)
end
end NX
end Go.Proofs.YtdjkbodnjhgbcaaGreat
