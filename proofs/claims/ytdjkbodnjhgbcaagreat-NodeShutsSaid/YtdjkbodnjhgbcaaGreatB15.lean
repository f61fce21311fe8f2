/-
  The function narthex/dine.Fire$1: its code compiled, a model, and that the code answers as the model. Written by a program of ours (lb.py). No statement of the seat is proved here.
-/
import Derived.Test.YtdjkbodnjhgbcaaGreatB13
set_option maxRecDepth 100000
set_option maxHeartbeats 4000000
namespace Go.Proofs.YtdjkbodnjhgbcaaGreat
namespace NX
open Go
noncomputable section
@[go_sem] def e184:EC:=(by have h:=hF Tryz.f184;(conv at h=>rhs;reduce);dsimp only[go_sem] at h;exact ⟨_,h⟩:DP Tryz.f184).1
theorem Zo8:FnOK Tryz.prog 184 Tryz.f184 e184 [] 4 17:=okA
@[go_sem] def e185:EC:=(by have h:=hF Tryz.f185;(conv at h=>rhs;reduce);dsimp only[go_sem] at h;exact ⟨_,h⟩:DP Tryz.f185).1
theorem ok185:FnOK Tryz.prog 185 Tryz.f185 e185 [] 3 25:=okA
@[go_sem] def e96:EC:=(by have h:=hF Tryz.f96;(conv at h=>rhs;reduce);dsimp only[go_sem] at h;exact ⟨_,h⟩:DP Tryz.f96).1
theorem ok96:FnOK Tryz.prog 96 Tryz.f96 e96 [.t 3] 2 6:=okA
def Zp8 (x1:Side) (x2:Int):Option Bool:=
 some (decide (x1.Peer=x2))
theorem Zq8 (x1:Side) (x2:Int) (r:Bool) (h:Zp8 x1 x2=some r):Z03 Tryz.prog 96 [.agg (Side.row x1),.elt (Z15 x2) 0] (.bv r):=by
 refine FP ok96 fun w0 H0=>?_
 rw [Zp8] at h
 refine Zv2 13 ?_;dsimp only[go_sem];refine An ?_;exact Zw4 (res:=fun (r:Bool)=>.bv r) ok96 h
@[go_sem] def e61:EC:=(by have h:=hF Tryz.f61;(conv at h=>rhs;reduce);dsimp only[go_sem] at h;exact ⟨_,h⟩:DP Tryz.f61).1
theorem ok61:FnOK Tryz.prog 61 Tryz.f61 e61 [.t 4] 2 24:=okA
def Zr8:Unit→Option Bool
| ()=>
 some true
def Zs8 (x1 x2:List Int):Int→Option (Int ⊕ Bool)
| x6=>
 ifb (decide (x6<(ln Z15 x1))) (
 (at_ x1 x6).bind fun x7=>
 (at_ x2 x6).bind fun x8=>
 ifb (!decide (x7=x8)) (
 Option.map Sum.inr (some false)) (
 some (.inl (wr (x6+1))))) (
 Option.map Sum.inr (Zr8 ()))
def Zt8 (x1 x2:List Int):Option Bool:=
 ifb (!decide ((ln Z15 x1)=(ln Z15 x2))) (
 some false) (
 loop (Zs8 x1 x2) 0)
theorem Zu8 (x1 x2:List Int) (r:Bool) (h:Zt8 x1 x2=some r):Z03 Tryz.prog 61 [Sp0 x1,Sp0 x2] (.bv r):=by
 refine FP ok61 fun w0 H0=>?_
 rw [Zt8] at h
 refine Zv2 13 ?_;dsimp only[go_sem];refine An (MI h (fun h=>?_) fun h=>?_)
 ·refine Zv2 4 ?_;dsimp only[go_sem];refine An ?_;exact Zw4 (res:=fun (r:Bool)=>.bv r) ok61 h
 ·refine Zv2 8 ?_;dsimp only[go_sem];refine An (Zo4 (fun (_:Unit)=>(⟨an 26 [],[],[]⟩:St)) Zr8 r ?_ fun J1=>?_)
  ·rintro ⟨⟩ h;rw [Zr8] at h;(try dsimp only);refine Zv2 4 ?_;dsimp only[go_sem];refine An ?_;exact Zw4 (res:=fun (r:Bool)=>.bv r) ok61 h
  ·refine Zv2 1 ?_;dsimp only[go_sem];refine An (Zp4 h (fun (x6:Int)=>(⟨(Sp0 x1 :: Sp0 x2::an 10 (.iv (ln Z15 x1) :: .iv x6::an 12 [])),[],[]⟩:St)) (by simp [go_sem]) (by intro x6;first | rfl | simp [go_sem]) ?_);rintro n1 x6 y1 h hin1 hout1;rw [Zs8] at h;(try dsimp only);refine Zv2 5 ?_;dsimp only[go_sem];refine An (MI h (fun h=>?_) fun h=>?_)
   ·refine Zv2 9 ?_;dsimp only[go_sem];refine An (Z07 fun all H=>?_);dsimp only[go_sem];refine GN H 4 5 ?_;dsimp only[go_sem];refine An ?_;have ⟨x7,ex7,h⟩:=Bs h;refine Zt4 H.1 H.2.1 H.2.2.1 H.2.2.2 2 Z15 ex7 rfl rfl trivial rfl rfl rfl rfl (GN H 1 3 ?_);dsimp only[go_sem];refine An ?_;have ⟨x8,ex8,h⟩:=Bs h;refine Zt4 H.1 H.2.1 H.2.2.1 H.2.2.2 6 Z15 ex8 rfl rfl trivial rfl rfl rfl rfl (GN H 2 0 ?_);dsimp only[go_sem];refine An (GD ?_)
    refine MI h (fun h=>?_) fun h=>?_
    ·refine Zv2 4 ?_;dsimp only[go_sem];refine An ?_;exact Zw4 (res:=fun (r:Bool)=>.bv r) ok61 (Zn4 h hout1)
    ·refine Zv2 6 ?_;dsimp only[go_sem];refine An ?_;exact Zx4 h hin1
   ·refine Zv2 1 ?_;dsimp only[go_sem];refine An ?_;exact Zy4 J1 (s:=()) (Zn4 h hout1)
@[go_sem] def e44:EC:=(by have h:=hF Tryz.f44;(conv at h=>rhs;reduce);dsimp only[go_sem] at h;exact ⟨_,h⟩:DP Tryz.f44).1
theorem ok44:FnOK Tryz.prog 44 Tryz.f44 e44 [.t 2] 1 7:=okA
def Zv8 (x1:List KE):Option (List KE):=Zj4 16 [] x1
theorem Zw8 (x1 r:List KE) (h:Zv8 x1=some r):FunO Tryz.prog 44 [Sp1 x1] 95 2 (List.map KE.row r):=by
 refine Z75 ok44 rfl fun w0 H0=>?_
 rw [Zv8] at h
 refine Zv2 100 ?_
 dsimp only [e44,go_sem]
 refine ⟨by simp,?_⟩
 refine V_isnil trivial rfl (fun hn=>?_) ?_
 ·refine Zv2 100 ?_
  dsimp only[go_sem]
  refine ⟨by simp,?_⟩
  refine Zf4 2 95 2 rfl rfl ?_
  dsimp only[go_sem]
  have hn:x1=[]:=by simpa using hn
  subst hn
  exact Zd5 KE.row (e:=[]) ok44 (by simpa [Zj4] using h) rfl rfl
 ·refine Zv2 100 ?_
  dsimp only[go_sem]
  refine ⟨by simp,?_⟩
  refine Zu4 KE.row h trivial rfl rfl rfl ?_
  refine Zv2 100 ?_
  dsimp only[go_sem]
  refine ⟨by simp,?_⟩
  exact Zd5 KE.row ok44 (rfl:some r=some r) rfl rfl
@[go_sem] def e33:EC:=(by have h:=hF Tryz.f33;(conv at h=>rhs;reduce);dsimp only[go_sem] at h;exact ⟨_,h⟩:DP Tryz.f33).1
theorem ok33:FnOK Tryz.prog 33 Tryz.f33 e33 [.t 6] 3 22:=okA
@[go_sem] def e57:EC:=(by have h:=hF Tryz.f57;(conv at h=>rhs;reduce);dsimp only[go_sem] at h;exact ⟨_,h⟩:DP Tryz.f57).1
theorem ok57:FnOK Tryz.prog 57 Tryz.f57 e57 [.t 4] 2 25:=okA
def Zx8:List Int→Option (List Int)
| x20=>
 some x20
def Zy8 (x8:Int):List Int→Option ((Int×List Int) ⊕ (List Int))
| x13=>
 some (.inl (wr (x8+1),x13))
def Zz8 (x1:Node) (p1:(Side→Option Bool)):(Int×List Int)→Option ((Int×List Int) ⊕ (List Int))
| (x8,x9)=>
 ifb (decide (x8<(ln Side.row x1.DK.DI.SD))) (
 (at_ x1.DK.DI.SD x8).bind fun x10=>
 (p1 x10).bind fun x11=>
 ifb x11 (
 (Zj4 8 x9 ([x10.Peer])).bind fun x12=>
 (Zy8 x8) x12) (
 (Zy8 x8) x9)) (
 Option.map Sum.inr (Zx8 x9))
def Z09 (x1:Node) (p1:(Side→Option Bool)):Option (List Int):=
 loop (Zz8 x1 p1) (0,([]:List Int))
theorem Z19 (x1:Node) (g1:Nat) (caps1:List AV) (p1:(Side→Option Bool)) (hc1:CloOK Tryz.prog g1 caps1 (fun z=>[.agg (Side.row z)]) p1 (fun z=>.bv z)) (r:List Int) (h:Z09 x1 p1=some r):Z03 Tryz.prog 57 [.agg (Node.row x1),.clo g1 caps1] (Sp0 r):=by
 refine FP ok57 fun w0 H0=>?_
 rw [Z09] at h
 refine Zv2 19 ?_;dsimp only[go_sem];refine An (Zo4 (fun (x20:List Int)=>(⟨an 5 (.osl 0::an 21 []),[],[Sq7 x20]⟩:St)) Zx8 r ?_ fun J1=>?_)
 ·intro x20 h;rw [Zx8] at h;(try dsimp only);refine Zv2 5 ?_;dsimp only[go_sem];refine An (Z27 0 ?_);dsimp only[go_sem];exact Zw4 (res:=fun (r:List Int)=>Sp0 r) ok57 h
 ·refine Zv2 1 ?_;dsimp only[go_sem];refine An (Zf4 5 3 1 rfl rfl ?_);dsimp only[go_sem];refine Zp4 h (fun ((x8,x9):(Int×List Int))=>(⟨(.any :: .clo g1 caps1::an 3 (.osl 0::an 5 (Sp2 x1.DK.DI.SD :: .iv (ln Side.row x1.DK.DI.SD) :: .iv x8::an 13 []))),[],[Sq7 x9]⟩:St)) (by simp [go_sem]) (by rintro ⟨x8,x9⟩;first | rfl | simp [go_sem,Zh4 _ hc1.pu]) ?_;rintro n1 ⟨x8,x9⟩ y1 h hin1 hout1;rw [Zz8] at h;(try dsimp only);refine Zv2 5 ?_;dsimp only[go_sem];refine An ?_
  refine MI h (fun h=>?_) fun h=>?_
  ·refine Zv2 5 ?_;dsimp only[go_sem];refine An ?_;have ⟨x10,ex10,h⟩:=Bs h;refine Zs4 Side.row ex10 trivial rfl rfl rfl (Zv2 8 ?_);dsimp only[go_sem];refine An ?_;have ⟨x11,ex11,h⟩:=Bs h;refine Z05 trivial rfl hc1 (x:=x10) ex11 (by first | exact Zi4 _ | simp [go_sem]) (by first | rfl | simp [go_sem,hc1.pu]) (Zv2 1 ?_);dsimp only[go_sem];refine An ?_
   refine Zo4 (fun (x13:List Int)=>(⟨(.any :: .clo g1 caps1::an 3 (.osl 0::an 5 (Sp2 x1.DK.DI.SD :: .iv (ln Side.row x1.DK.DI.SD) :: .iv x8::an 13 []))),[],[Sq7 x13]⟩:St)) (Zy8 x8) y1 ?_ fun J2=>?_
   ·intro x13 h;rw [Zy8] at h;(try dsimp only);refine Zv2 5 ?_;dsimp only[go_sem];refine An ?_;exact Zx4 h hin1 (hok:=by first | rfl | simp [go_sem,Zh4 _ hc1.pu])
   ·refine MI h (fun h=>?_) fun h=>?_
    ·refine Zv2 5 ?_;dsimp only[go_sem];refine An ?_;have ⟨x12,ex12,h⟩:=Bs h;refine Zu4 Z15 ex12 trivial rfl rfl rfl (Zv2 2 ?_);dsimp only[go_sem];refine An (Z17 2 0 ?_);dsimp only[go_sem];(try rw [Zc6 _ _ _ hc1.pu]);exact Zy4 J2 (s:=x12) h (hok:=by first | rfl | simp [go_sem,Zh4 _ hc1.pu])
    ·refine Zv2 1 ?_;dsimp only[go_sem];refine An ?_;exact Zy4 J2 (s:=x9) h (hok:=by first | rfl | simp [go_sem,Zh4 _ hc1.pu])
  ·refine Zv2 1 ?_;dsimp only[go_sem];refine An ?_;exact Zy4 J1 (s:=x9) (Zn4 h hout1) (hok:=by first | rfl | simp [go_sem])
@[go_sem] def e35:EC:=(by have h:=hF Tryz.f35;(conv at h=>rhs;reduce);dsimp only[go_sem] at h;exact ⟨_,h⟩:DP Tryz.f35).1
theorem ok35:FnOK Tryz.prog 35 Tryz.f35 e35 [.t 2] 1 5:=okA
def Z29 (x1:Side):Option Bool:=
 some (decide (x1.State=0))
theorem Z39 (x1:Side) (r:Bool) (h:Z29 x1=some r):Z03 Tryz.prog 35 [.agg (Side.row x1)] (.bv r):=by
 refine FP ok35 fun w0 H0=>?_
 rw [Z29] at h
 refine Zv2 12 ?_;dsimp only[go_sem];refine An ?_;exact Zw4 (res:=fun (r:Bool)=>.bv r) ok35 h
@[go_sem] def e74:EC:=(by have h:=hF Tryz.f74;(conv at h=>rhs;reduce);dsimp only[go_sem] at h;exact ⟨_,h⟩:DP Tryz.f74).1
theorem ok74:FnOK Tryz.prog 74 Tryz.f74 e74 [] 3 22:=okA
@[go_sem] def e76:EC:=(by have h:=hF Tryz.f76;(conv at h=>rhs;reduce);dsimp only[go_sem] at h;exact ⟨_,h⟩:DP Tryz.f76).1
theorem ok76:FnOK Tryz.prog 76 Tryz.f76 e76 [.c 2 (some 4),.t 3] 1 14:=okA
def Z49 (x1:Node):Option (Sess×Bool):=
 ifb (decide ((ln Sess.row x1.Book.Sess)=0)) (
 some ((Sess.mk 0 (([]:List Int)) 0 0),false)) (
 (at_ x1.Book.Sess 0).bind fun x2=>
 some (x2,true))
theorem k_node_first (x1:Node) (r:(Sess×Bool)) (h:Z49 x1=some r):Z03 Tryz.prog 76 [.agg (Node.row x1)] (.tup [.agg (Sess.row r.1),.bv r.2]):=by
 refine FP ok76 fun w0 H0=>?_
 rw [Z49] at h
 refine Zv2 15 ?_;dsimp only[go_sem];refine An (MI h (fun h=>?_) fun h=>?_)
 ·refine Zv2 6 ?_;dsimp only[go_sem];refine An ?_;exact Zw4 (res:=fun (r:(Sess×Bool))=>.tup [.agg (Sess.row r.1),.bv r.2]) ok76 h
 ·refine Zv2 6 ?_;dsimp only[go_sem];refine An ?_;have ⟨x2,ex2,h⟩:=Bs h;refine Zs4 Sess.row ex2 trivial rfl rfl rfl (Zv2 4 ?_);dsimp only[go_sem];refine An ?_;exact Zw4 (res:=fun (r:(Sess×Bool))=>.tup [.agg (Sess.row r.1),.bv r.2]) ok76 h
@[go_sem] def e79:EC:=(by have h:=hF Tryz.f79;(conv at h=>rhs;reduce);dsimp only[go_sem] at h;exact ⟨_,h⟩:DP Tryz.f79).1
theorem ok79:FnOK Tryz.prog 79 Tryz.f79 e79 [.t 6,.t 7] 3 46:=okA
def Z59 (x23:Int):Bool→Option (Int×Bool)
| x26=>
 some (x23,x26)
def Z69 (x1:List Side) (x2:Int) (p2:((Side×Int)→Option Int)):Int→Option (Int×Bool)
| x23=>
 ifb (decide (x23<(ln Side.row x1))) (
 (at_ x1 x23).bind fun x24=>
 (p2 (x24,x2)).bind fun x25=>
 (Z59 x23) (decide (x25=0))) (
 (Z59 x23) false)
def Z79 (x1:List Side) (x2:Int) (p2:((Side×Int)→Option Int)):(Int×Int)→Option ((Int×Int) ⊕ (Int×Bool))
| (x7,x8)=>
 ifb (decide (x7<x8)) (
 (at_ x1 (wr (Int.fdiv (kw .u64 (wr (x7+x8))) (2 ^ min (Int.toNat 1) (IntKind.bits .u64))))).bind fun x9=>
 (p2 (x9,x2)).bind fun x10=>
 ifb (decide (x10<0)) (
 some (.inl (wr ((wr (Int.fdiv (kw .u64 (wr (x7+x8))) (2 ^ min (Int.toNat 1) (IntKind.bits .u64))))+1),x8))) (
 some (.inl (x7,wr (Int.fdiv (kw .u64 (wr (x7+x8))) (2 ^ min (Int.toNat 1) (IntKind.bits .u64))))))) (
 Option.map Sum.inr ((Z69 x1 x2 p2) x7))
def Z89 (x1:List Side) (x2:Int) (p2:((Side×Int)→Option Int)):Option (Int×Bool):=
 loop (Z79 x1 x2 p2) (0,ln Side.row x1)
theorem Z99 (x1:List Side) (x2:Int) (g2:Nat) (caps2:List AV) (p2:((Side×Int)→Option Int)) (hc2:CloOK Tryz.prog g2 caps2 (fun z=>[.agg (Side.row z.1),.iv z.2]) p2 (fun z=>.iv z)) (r:(Int×Bool)) (h:Z89 x1 x2 p2=some r):Z03 Tryz.prog 79 [Sp2 x1,.iv x2,.clo g2 caps2] (.tup [.iv r.1,.bv r.2]):=by
 refine FP ok79 fun w0 H0=>?_
 rw [Z89] at h
 refine Zv2 18 ?_;dsimp only[go_sem];refine An (Zo4 (fun (x23:Int)=>(⟨(Sp2 x1 :: .iv x2 :: .clo g2 caps2::an 5 (.iv (ln Side.row x1) :: .iv x23::an 39 [])),[],[]⟩:St)) (Z69 x1 x2 p2) r ?_ fun J1=>?_)
 ·intro x23 h;rw [Z69] at h;(try dsimp only);refine Zv2 7 ?_;dsimp only[go_sem];refine An (Zo4 (fun (x26:Bool)=>(⟨an 6 (.iv x23 :: .bv x26::an 41 []),[],[]⟩:St)) (Z59 x23) r ?_ fun J2=>?_)
  ·intro x26 h;rw [Z59] at h;(try dsimp only);exact Zw4 (res:=fun (r:(Int×Bool))=>.tup [.iv r.1,.bv r.2]) ok79 h
  ·refine MC 39 h (fun h=>?_) fun h=>?_
   ·dsimp only[go_sem];refine Zv2 3 ?_;dsimp only[go_sem];refine An ?_;have ⟨x24,ex24,h⟩:=Bs h;refine Zs4 Side.row ex24 trivial rfl rfl rfl (Zv2 2 ?_);dsimp only[go_sem];refine An ?_;have ⟨x25,ex25,h⟩:=Bs h;refine Z05 trivial rfl hc2 (x:=(x24,x2)) ex25 (by first | exact Zi4 _ | simp [go_sem]) (by first | rfl | simp [go_sem,hc2.pu]) (Zv2 5 ?_);dsimp only[go_sem];refine An ?_;exact Zy4 J2 (s:=decide (x25=0)) h (hok:=by first | rfl | simp [go_sem,Zh4 _ hc2.pu])
   ·dsimp only[go_sem];refine Zv2 12 ?_;dsimp only[go_sem];refine An ?_;exact Zy4 J2 (s:=false) h (hok:=by first | rfl | simp [go_sem,Zh4 _ hc2.pu])
 ·refine Zv2 1 ?_;dsimp only[go_sem];refine An (Zp4 h (fun ((x7,x8):(Int×Int))=>(⟨(Sp2 x1 :: .iv x2 :: .clo g2 caps2::an 5 (.iv (ln Side.row x1) :: .iv x7 :: .iv x8::an 38 [])),[],[]⟩:St)) (by simp [go_sem]) (by rintro ⟨x7,x8⟩;first | rfl | simp [go_sem,Zh4 _ hc2.pu]) ?_);rintro n1 ⟨x7,x8⟩ y1 h hin1 hout1;rw [Z79] at h;(try dsimp only);refine Zv2 7 ?_;dsimp only[go_sem];refine An (MI h (fun h=>?_) fun h=>?_)
  ·refine Zv2 17 ?_;dsimp only[go_sem];refine An ?_;have ⟨x9,ex9,h⟩:=Bs h;refine Zs4 Side.row ex9 trivial rfl rfl rfl (Zv2 2 ?_);dsimp only[go_sem];refine An ?_;have ⟨x10,ex10,h⟩:=Bs h;refine Z05 trivial rfl hc2 (x:=(x9,x2)) ex10 (by first | exact Zi4 _ | simp [go_sem]) (by first | rfl | simp [go_sem,hc2.pu]) (Zv2 2 ?_);dsimp only[go_sem];refine An (MI h (fun h=>?_) fun h=>?_)
   ·refine Zv2 6 ?_;dsimp only[go_sem];refine An ?_;exact Zx4 h hin1 (hok:=by first | rfl | simp [go_sem,Zh4 _ hc2.pu])
   ·refine Zv2 5 ?_;dsimp only[go_sem];refine An ?_;exact Zx4 h hin1 (hok:=by first | rfl | simp [go_sem,Zh4 _ hc2.pu])
  ·refine Zv2 1 ?_;dsimp only[go_sem];refine An ?_;exact Zy4 J1 (s:=x7) (Zn4 h hout1) (hok:=by first | rfl | simp [go_sem,Zh4 _ hc2.pu])
@[go_sem] def e80:EC:=(by have h:=hF Tryz.f80;(conv at h=>rhs;reduce);dsimp only[go_sem] at h;exact ⟨_,h⟩:DP Tryz.f80).1
theorem ok80:FnOK Tryz.prog 80 Tryz.f80 e80 [.t 4] 2 7:=okA
def Za9 (x1:Side) (x2:Int):Option Int:=
 some (wr (x1.Peer-x2))
theorem Zb9 (x1:Side) (x2:Int) (r:Int) (h:Za9 x1 x2=some r):Z03 Tryz.prog 80 [.agg (Side.row x1),.iv x2] (.iv r):=by
 refine FP ok80 fun w0 H0=>?_
 rw [Za9] at h
 refine Zv2 13 ?_;dsimp only[go_sem];refine An ?_;exact Zw4 (res:=fun (r:Int)=>.iv r) ok80 h
@[go_sem] def e121:EC:=(by have h:=hF Tryz.f121;(conv at h=>rhs;reduce);dsimp only[go_sem] at h;exact ⟨_,h⟩:DP Tryz.f121).1
theorem ok121:FnOK Tryz.prog 121 Tryz.f121 e121 [.t 6,.t 7] 3 46:=okA
def Zc9 (x23:Int):Bool→Option (Int×Bool)
| x26=>
 some (x23,x26)
def Zd9 (x1:List KE) (x2:Int) (p2:((KE×Int)→Option Int)):Int→Option (Int×Bool)
| x23=>
 ifb (decide (x23<(ln KE.row x1))) (
 (at_ x1 x23).bind fun x24=>
 (p2 (x24,x2)).bind fun x25=>
 (Zc9 x23) (decide (x25=0))) (
 (Zc9 x23) false)
def Ze9 (x1:List KE) (x2:Int) (p2:((KE×Int)→Option Int)):(Int×Int)→Option ((Int×Int) ⊕ (Int×Bool))
| (x7,x8)=>
 ifb (decide (x7<x8)) (
 (at_ x1 (wr (Int.fdiv (kw .u64 (wr (x7+x8))) (2 ^ min (Int.toNat 1) (IntKind.bits .u64))))).bind fun x9=>
 (p2 (x9,x2)).bind fun x10=>
 ifb (decide (x10<0)) (
 some (.inl (wr ((wr (Int.fdiv (kw .u64 (wr (x7+x8))) (2 ^ min (Int.toNat 1) (IntKind.bits .u64))))+1),x8))) (
 some (.inl (x7,wr (Int.fdiv (kw .u64 (wr (x7+x8))) (2 ^ min (Int.toNat 1) (IntKind.bits .u64))))))) (
 Option.map Sum.inr ((Zd9 x1 x2 p2) x7))
def Zf9 (x1:List KE) (x2:Int) (p2:((KE×Int)→Option Int)):Option (Int×Bool):=
 loop (Ze9 x1 x2 p2) (0,ln KE.row x1)
theorem Zg9 (x1:List KE) (x2:Int) (g2:Nat) (caps2:List AV) (p2:((KE×Int)→Option Int)) (hc2:CloOK Tryz.prog g2 caps2 (fun z=>[.agg (KE.row z.1),.iv z.2]) p2 (fun z=>.iv z)) (r:(Int×Bool)) (h:Zf9 x1 x2 p2=some r):Z03 Tryz.prog 121 [Sp1 x1,.iv x2,.clo g2 caps2] (.tup [.iv r.1,.bv r.2]):=by
 refine FP ok121 fun w0 H0=>?_
 rw [Zf9] at h
 refine Zv2 18 ?_;dsimp only[go_sem];refine An (Zo4 (fun (x23:Int)=>(⟨(Sp1 x1 :: .iv x2 :: .clo g2 caps2::an 5 (.iv (ln KE.row x1) :: .iv x23::an 39 [])),[],[]⟩:St)) (Zd9 x1 x2 p2) r ?_ fun J1=>?_)
 ·intro x23 h;rw [Zd9] at h;(try dsimp only);refine Zv2 7 ?_;dsimp only[go_sem];refine An (Zo4 (fun (x26:Bool)=>(⟨an 6 (.iv x23 :: .bv x26::an 41 []),[],[]⟩:St)) (Zc9 x23) r ?_ fun J2=>?_)
  ·intro x26 h;rw [Zc9] at h;(try dsimp only);exact Zw4 (res:=fun (r:(Int×Bool))=>.tup [.iv r.1,.bv r.2]) ok121 h
  ·refine MC 39 h (fun h=>?_) fun h=>?_
   ·dsimp only[go_sem];refine Zv2 3 ?_;dsimp only[go_sem];refine An ?_;have ⟨x24,ex24,h⟩:=Bs h;refine Zs4 KE.row ex24 trivial rfl rfl rfl (Zv2 2 ?_);dsimp only[go_sem];refine An ?_;have ⟨x25,ex25,h⟩:=Bs h;refine Z05 trivial rfl hc2 (x:=(x24,x2)) ex25 (by first | exact Zi4 _ | simp [go_sem]) (by first | rfl | simp [go_sem,hc2.pu]) (Zv2 5 ?_);dsimp only[go_sem];refine An ?_;exact Zy4 J2 (s:=decide (x25=0)) h (hok:=by first | rfl | simp [go_sem,Zh4 _ hc2.pu])
   ·dsimp only[go_sem];refine Zv2 12 ?_;dsimp only[go_sem];refine An ?_;exact Zy4 J2 (s:=false) h (hok:=by first | rfl | simp [go_sem,Zh4 _ hc2.pu])
 ·refine Zv2 1 ?_;dsimp only[go_sem];refine An (Zp4 h (fun ((x7,x8):(Int×Int))=>(⟨(Sp1 x1 :: .iv x2 :: .clo g2 caps2::an 5 (.iv (ln KE.row x1) :: .iv x7 :: .iv x8::an 38 [])),[],[]⟩:St)) (by simp [go_sem]) (by rintro ⟨x7,x8⟩;first | rfl | simp [go_sem,Zh4 _ hc2.pu]) ?_);rintro n1 ⟨x7,x8⟩ y1 h hin1 hout1;rw [Ze9] at h;(try dsimp only);refine Zv2 7 ?_;dsimp only[go_sem];refine An (MI h (fun h=>?_) fun h=>?_)
  ·refine Zv2 17 ?_;dsimp only[go_sem];refine An ?_;have ⟨x9,ex9,h⟩:=Bs h;refine Zs4 KE.row ex9 trivial rfl rfl rfl (Zv2 2 ?_);dsimp only[go_sem];refine An ?_;have ⟨x10,ex10,h⟩:=Bs h;refine Z05 trivial rfl hc2 (x:=(x9,x2)) ex10 (by first | exact Zi4 _ | simp [go_sem]) (by first | rfl | simp [go_sem,hc2.pu]) (Zv2 2 ?_);dsimp only[go_sem];refine An (MI h (fun h=>?_) fun h=>?_)
   ·refine Zv2 6 ?_;dsimp only[go_sem];refine An ?_;exact Zx4 h hin1 (hok:=by first | rfl | simp [go_sem,Zh4 _ hc2.pu])
   ·refine Zv2 5 ?_;dsimp only[go_sem];refine An ?_;exact Zx4 h hin1 (hok:=by first | rfl | simp [go_sem,Zh4 _ hc2.pu])
  ·refine Zv2 1 ?_;dsimp only[go_sem];refine An ?_;exact Zy4 J1 (s:=x7) (Zn4 h hout1) (hok:=by first | rfl | simp [go_sem,Zh4 _ hc2.pu])
@[go_sem] def e122:EC:=(by have h:=hF Tryz.f122;(conv at h=>rhs;reduce);dsimp only[go_sem] at h;exact ⟨_,h⟩:DP Tryz.f122).1
theorem ok122:FnOK Tryz.prog 122 Tryz.f122 e122 [.t 4] 2 7:=okA
def Zh9 (x1:KE) (x2:Int):Option Int:=
 some (wr (x1.Peer-x2))
theorem Zi9 (x1:KE) (x2:Int) (r:Int) (h:Zh9 x1 x2=some r):Z03 Tryz.prog 122 [.agg (KE.row x1),.iv x2] (.iv r):=by
 refine FP ok122 fun w0 H0=>?_
 rw [Zh9] at h
 refine Zv2 13 ?_;dsimp only[go_sem];refine An ?_;exact Zw4 (res:=fun (r:Int)=>.iv r) ok122 h
@[go_sem] def e68:EC:=(by have h:=hF Tryz.f68;(conv at h=>rhs;reduce);dsimp only[go_sem] at h;exact ⟨_,h⟩:DP Tryz.f68).1
theorem ok68:FnOK Tryz.prog 68 Tryz.f68 e68 [.t 3] 2 6:=okA
def Zj9 (x1:Side) (x2:Int):Option Bool:=
 some (decide (x1.Peer=x2))
theorem Zk9 (x1:Side) (x2:Int) (r:Bool) (h:Zj9 x1 x2=some r):Z03 Tryz.prog 68 [.agg (Side.row x1),.elt (Z15 x2) 0] (.bv r):=by
 refine FP ok68 fun w0 H0=>?_
 rw [Zj9] at h
 refine Zv2 13 ?_;dsimp only[go_sem];refine An ?_;exact Zw4 (res:=fun (r:Bool)=>.bv r) ok68 h
@[go_sem] def e47:EC:=(by have h:=hF Tryz.f47;(conv at h=>rhs;reduce);dsimp only[go_sem] at h;exact ⟨_,h⟩:DP Tryz.f47).1
theorem ok47:FnOK Tryz.prog 47 Tryz.f47 e47 [] 3 22:=okA
@[go_sem] def e153:EC:=(by have h:=hF Tryz.f153;(conv at h=>rhs;reduce);dsimp only[go_sem] at h;exact ⟨_,h⟩:DP Tryz.f153).1
theorem ok153:FnOK Tryz.prog 153 Tryz.f153 e153 [] 3 26:=okA
@[go_sem] def e129:EC:=(by have h:=hF Tryz.f129;(conv at h=>rhs;reduce);dsimp only[go_sem] at h;exact ⟨_,h⟩:DP Tryz.f129).1
theorem ok129:FnOK Tryz.prog 129 Tryz.f129 e129 [.t 2] 1 5:=okA
def Zl9 (x1:Side):Option Bool:=
 some (decide (x1.State=1))
theorem Zm9 (x1:Side) (r:Bool) (h:Zl9 x1=some r):Z03 Tryz.prog 129 [.agg (Side.row x1)] (.bv r):=by
 refine FP ok129 fun w0 H0=>?_
 rw [Zl9] at h
 refine Zv2 12 ?_;dsimp only[go_sem];refine An ?_;exact Zw4 (res:=fun (r:Bool)=>.bv r) ok129 h
@[go_sem] def e94:EC:=(by have h:=hF Tryz.f94;(conv at h=>rhs;reduce);dsimp only[go_sem] at h;exact ⟨_,h⟩:DP Tryz.f94).1
theorem ok94:FnOK Tryz.prog 94 Tryz.f94 e94 [.t 3] 2 6:=okA
def Zn9 (x1:Side) (x2:Int):Option Bool:=
 some (decide (x1.Peer=x2))
theorem Zo9 (x1:Side) (x2:Int) (r:Bool) (h:Zn9 x1 x2=some r):Z03 Tryz.prog 94 [.agg (Side.row x1),.elt (Z15 x2) 0] (.bv r):=by
 refine FP ok94 fun w0 H0=>?_
 rw [Zn9] at h
 refine Zv2 13 ?_;dsimp only[go_sem];refine An ?_;exact Zw4 (res:=fun (r:Bool)=>.bv r) ok94 h
@[go_sem] def e111:EC:=(by have h:=hF Tryz.f111;(conv at h=>rhs;reduce);dsimp only[go_sem] at h;exact ⟨_,h⟩:DP Tryz.f111).1
theorem ok111:FnOK Tryz.prog 111 Tryz.f111 e111 [.t 6] 3 29:=okA
def Zp9:Unit→Option Bool
| ()=>
 some true
def Zq9 (x1 x2:List Sess) (p2:((Sess×Sess)→Option Bool)):Int→Option (Int ⊕ Bool)
| x7=>
 ifb (decide (x7<(ln Sess.row x1))) (
 (at_ x1 x7).bind fun x8=>
 (at_ x2 x7).bind fun x9=>
 (p2 (x8,x9)).bind fun x10=>
 ifb (!x10) (
 Option.map Sum.inr (some false)) (
 some (.inl (wr (x7+1))))) (
 Option.map Sum.inr (Zp9 ()))
def Zr9 (x1 x2:List Sess) (p2:((Sess×Sess)→Option Bool)):Option Bool:=
 ifb (!decide ((ln Sess.row x1)=(ln Sess.row x2))) (
 some false) (
 loop (Zq9 x1 x2 p2) 0)
theorem Zs9 (x1 x2:List Sess) (g2:Nat) (caps2:List AV) (p2:((Sess×Sess)→Option Bool)) (hc2:CloOK Tryz.prog g2 caps2 (fun z=>[.agg (Sess.row z.1),.agg (Sess.row z.2)]) p2 (fun z=>.bv z)) (r:Bool) (h:Zr9 x1 x2 p2=some r):Z03 Tryz.prog 111 [Sp3 x1,Sp3 x2,.clo g2 caps2] (.bv r):=by
 refine FP ok111 fun w0 H0=>?_
 rw [Zr9] at h
 refine Zv2 13 ?_;dsimp only[go_sem];refine An (MI h (fun h=>?_) fun h=>?_)
 ·refine Zv2 4 ?_;dsimp only[go_sem];refine An ?_;exact Zw4 (res:=fun (r:Bool)=>.bv r) ok111 h
 ·refine Zv2 8 ?_;dsimp only[go_sem];refine An (Zo4 (fun (_:Unit)=>(⟨an 32 [],[],[]⟩:St)) Zp9 r ?_ fun J1=>?_)
  ·rintro ⟨⟩ h;rw [Zp9] at h;(try dsimp only);refine Zv2 4 ?_;dsimp only[go_sem];refine An ?_;exact Zw4 (res:=fun (r:Bool)=>.bv r) ok111 h
  ·refine Zv2 1 ?_;dsimp only[go_sem];refine An (Zp4 h (fun (x7:Int)=>(⟨(.any :: Sp3 x2 :: .clo g2 caps2::an 12 (Sp3 x1 :: .iv (ln Sess.row x1) :: .iv x7::an 14 [])),[],[]⟩:St)) (by simp [go_sem]) (by intro x7;first | rfl | simp [go_sem,Zh4 _ hc2.pu]) ?_);rintro n1 x7 y1 h hin1 hout1;rw [Zq9] at h;(try dsimp only);refine Zv2 5 ?_;dsimp only[go_sem];refine An (MI h (fun h=>?_) fun h=>?_)
   ·refine Zv2 6 ?_;dsimp only[go_sem];refine An ?_;have ⟨x8,ex8,h⟩:=Bs h;refine Zs4 Sess.row ex8 trivial rfl rfl rfl (Zv2 9 ?_);dsimp only[go_sem];refine An ?_;have ⟨x9,ex9,h⟩:=Bs h;refine Zs4 Sess.row ex9 trivial rfl rfl rfl (Zv2 9 ?_);dsimp only[go_sem];refine An ?_;have ⟨x10,ex10,h⟩:=Bs h;refine Z05 trivial rfl hc2 (x:=(x8,x9)) ex10 (by first | exact Zi4 _ | simp [go_sem]) (by first | rfl | simp [go_sem,hc2.pu]) (Zv2 2 ?_);dsimp only[go_sem];refine An (MI h (fun h=>?_) fun h=>?_)
    ·refine Zv2 4 ?_;dsimp only[go_sem];refine An ?_;exact Zw4 (res:=fun (r:Bool)=>.bv r) ok111 (Zn4 h hout1)
    ·refine Zv2 6 ?_;dsimp only[go_sem];refine An ?_;exact Zx4 h hin1 (hok:=by first | rfl | simp [go_sem,Zh4 _ hc2.pu])
   ·refine Zv2 1 ?_;dsimp only[go_sem];refine An ?_;exact Zy4 J1 (s:=()) (Zn4 h hout1) (hok:=by first | rfl | simp [go_sem,Zh4 _ hc2.pu])
@[go_sem] def e60_L0:EC:=.seq (.reg [Qa 14 (.bin .lss (.t 13) (.t 12))]) (.seq (.ite (.t 14) (.skip) (.exit 0)) (.seq (.blk 1 (.seq (.reg [Qm 15 13,Qm 5 15]) (.seq (.drw [Qm 16 0,Qm 17 5,Qk 18 2 16 17,Qe 19 2 18,Qm 20 1,Qm 21 5,Qk 22 2 20 21,Qe 23 2 22,Qa 24 (.eqs true [true,true] (.t 19) (.t 23))] [[],[],[0,1],[2,0,1],[],[],[4,5],[6,4,5],[3,7,2,0,1,6,4,5]] [[2],[2],[0,1,3],[2,8],[6],[6],[4,5,7],[6,8],[3,7]]) (.ite (.t 24) (.seq (.reg [Qa 4 (.mv (.c .ff))]) (.ret)) (.skip))))) (.reg [Qv 25 13 1,Qm 13 25])))
@[go_sem] def e60:EC:=.seq (.reg [Qa 4 (.mv (.c .ff))]) (.seq (.seq (.reg [Qm 6 0,Qa 7 (.len (.t 6)),Qm 8 1,Qa 9 (.len (.t 8)),Qa 10 (.bin .neq (.t 7) (.t 9))]) (.ite (.t 10) (.seq (.reg [Qa 4 (.mv (.c .ff))]) (.ret)) (.skip))) (.seq (.seq (.reg [Qm 11 0,Qa 12 (.len (.t 11)),Qi 13 0]) (.blk 0 (.loop e60_L0))) (.seq (.reg [Qa 4 (.mv (.c .tt))]) (.ret))))
theorem ok60:FnOK Tryz.prog 60 Tryz.f60 e60 [.t 4] 2 24:=okA
def Zt9:Unit→Option Bool
| ()=>
 some true
def Zu9 (x1 x2:List KE):Int→Option (Int ⊕ Bool)
| x6=>
 ifb (decide (x6<(ln KE.row x1))) (
 (at_ x1 x6).bind fun x7=>
 (at_ x2 x6).bind fun x8=>
 ifb (!(decide (x7.Peer=x8.Peer)&&(decide (x7.Epoch=x8.Epoch)&&true))) (
 Option.map Sum.inr (some false)) (
 some (.inl (wr (x6+1))))) (
 Option.map Sum.inr (Zt9 ()))
def Zv9 (x1 x2:List KE):Option Bool:=
 ifb (!decide ((ln KE.row x1)=(ln KE.row x2))) (
 some false) (
 loop (Zu9 x1 x2) 0)
theorem Zw9 (x1 x2:List KE) (r:Bool) (h:Zv9 x1 x2=some r):Z03 Tryz.prog 60 [Sp1 x1,Sp1 x2] (.bv r):=by
 refine FP ok60 fun w0 H0=>?_
 rw [Zv9] at h
 refine Zv2 13 ?_;dsimp only[go_sem];refine An (MI h (fun h=>?_) fun h=>?_)
 ·refine Zv2 4 ?_;dsimp only[go_sem];refine An ?_;exact Zw4 (res:=fun (r:Bool)=>.bv r) ok60 h
 ·refine Zv2 8 ?_;dsimp only[go_sem];refine An (Zo4 (fun (_:Unit)=>(⟨an 26 [],[],[]⟩:St)) Zt9 r ?_ fun J1=>?_)
  ·rintro ⟨⟩ h;rw [Zt9] at h;(try dsimp only);refine Zv2 4 ?_;dsimp only[go_sem];refine An ?_;exact Zw4 (res:=fun (r:Bool)=>.bv r) ok60 h
  ·refine Zv2 1 ?_;dsimp only[go_sem];refine An (Zp4 h (fun (x6:Int)=>(⟨(Sp1 x1 :: Sp1 x2::an 10 (.iv (ln KE.row x1) :: .iv x6::an 12 [])),[],[]⟩:St)) (by simp [go_sem]) (by intro x6;first | rfl | simp [go_sem]) ?_);rintro n1 x6 y1 h hin1 hout1;rw [Zu9] at h;(try dsimp only);refine Zv2 5 ?_;dsimp only[go_sem];refine An (MI h (fun h=>?_) fun h=>?_)
   ·refine Zv2 9 ?_;dsimp only[go_sem];refine An (Z07 fun all H=>?_);dsimp only[go_sem];refine GN H 4 5 ?_;dsimp only[go_sem];refine An ?_;have ⟨x7,ex7,h⟩:=Bs h;refine Zt4 H.1 H.2.1 H.2.2.1 H.2.2.2 2 KE.row ex7 rfl rfl trivial rfl rfl rfl rfl (GN H 1 3 ?_);dsimp only[go_sem];refine An ?_;have ⟨x8,ex8,h⟩:=Bs h;refine Zt4 H.1 H.2.1 H.2.2.1 H.2.2.2 6 KE.row ex8 rfl rfl trivial rfl rfl rfl rfl (GN H 2 0 ?_);dsimp only[go_sem];refine An ?_
    refine GD (MI h (fun h=>?_) fun h=>?_)
    ·refine Zv2 4 ?_;dsimp only[go_sem];refine An ?_;exact Zw4 (res:=fun (r:Bool)=>.bv r) ok60 (Zn4 h hout1)
    ·refine Zv2 6 ?_;dsimp only[go_sem];refine An ?_;exact Zx4 h hin1
   ·refine Zv2 1 ?_;dsimp only[go_sem];refine An ?_;exact Zy4 J1 (s:=()) (Zn4 h hout1)
@[go_sem] def e102:EC:=(by have h:=hF Tryz.f102;(conv at h=>rhs;reduce);dsimp only[go_sem] at h;exact ⟨_,h⟩:DP Tryz.f102).1
theorem ok102:FnOK Tryz.prog 102 Tryz.f102 e102 [.t 3] 2 26:=okA
@[go_sem] def e31:EC:=(by have h:=hF Tryz.f31;(conv at h=>rhs;reduce);dsimp only[go_sem] at h;exact ⟨_,h⟩:DP Tryz.f31).1
theorem ok31:FnOK Tryz.prog 31 Tryz.f31 e31 [.t 4] 2 19:=okA
def Zx9:Unit→Option Int
| ()=>
 some 0
def Zy9 (x1:Node) (x2:Int):Int→Option (Int ⊕ Int)
| x5=>
 ifb (decide (x5<(ln KE.row x1.KN))) (
 (at_ x1.KN x5).bind fun x6=>
 ifb (decide (x6.Peer=x2)) (
 Option.map Sum.inr (some x6.Epoch)) (
 some (.inl (wr (x5+1))))) (
 Option.map Sum.inr (Zx9 ()))
def Zz9 (x1:Node) (x2:Int):Option Int:=
 loop (Zy9 x1 x2) 0
theorem Z0a (x1:Node) (x2:Int) (r:Int) (h:Zz9 x1 x2=some r):Z03 Tryz.prog 31 [.agg (Node.row x1),.iv x2] (.iv r):=by
 refine FP ok31 fun w0 H0=>?_
 rw [Zz9] at h
 refine Zv2 13 ?_;dsimp only[go_sem];refine An (Zo4 (fun (_:Unit)=>(⟨an 21 [],[],[]⟩:St)) Zx9 r ?_ fun J1=>?_)
 ·rintro ⟨⟩ h;rw [Zx9] at h;(try dsimp only);refine Zv2 4 ?_;dsimp only[go_sem];refine An ?_;exact Zw4 (res:=fun (r:Int)=>.iv r) ok31 h
 ·refine Zv2 1 ?_;dsimp only[go_sem];refine An (Zp4 h (fun (x5:Int)=>(⟨(.any :: .iv x2::an 6 (Sp1 x1.KN :: .iv (ln KE.row x1.KN) :: .iv x5::an 10 [])),[],[]⟩:St)) (by simp [go_sem]) (by intro x5;first | rfl | simp [go_sem]) ?_);rintro n1 x5 y1 h hin1 hout1;rw [Zy9] at h;(try dsimp only);refine Zv2 5 ?_;dsimp only[go_sem];refine An (MI h (fun h=>?_) fun h=>?_)
  ·refine Zv2 5 ?_;dsimp only[go_sem];refine An ?_;have ⟨x6,ex6,h⟩:=Bs h;refine Zs4 KE.row ex6 trivial rfl rfl rfl (Zv2 11 ?_);dsimp only[go_sem];refine An (MI h (fun h=>?_) fun h=>?_)
   ·refine Zv2 6 ?_;dsimp only[go_sem];refine An ?_;exact Zw4 (res:=fun (r:Int)=>.iv r) ok31 (Zn4 h hout1)
   ·refine Zv2 6 ?_;dsimp only[go_sem];refine An ?_;exact Zx4 h hin1
  ·refine Zv2 1 ?_;dsimp only[go_sem];refine An ?_;exact Zy4 J1 (s:=()) (Zn4 h hout1)
@[go_sem] def e89:EC:=(by have h:=hF Tryz.f89;(conv at h=>rhs;reduce);dsimp only[go_sem] at h;exact ⟨_,h⟩:DP Tryz.f89).1
theorem ok89:FnOK Tryz.prog 89 Tryz.f89 e89 [.t 3] 2 7:=okA
def Z1a (x1:Side) (x2:KE):Option Bool:=
 some (decide (x1.Peer=x2.Peer))
theorem k_node_may_1 (x1:Side) (x2:KE) (r:Bool) (h:Z1a x1 x2=some r):Z03 Tryz.prog 89 [.agg (Side.row x1),.elt (KE.row x2) 0] (.bv r):=by
 refine FP ok89 fun w0 H0=>?_
 rw [Z1a] at h
 refine Zv2 14 ?_;dsimp only[go_sem];refine An ?_;exact Zw4 (res:=fun (r:Bool)=>.bv r) ok89 h
@[go_sem] def e91:EC:=(by have h:=hF Tryz.f91;(conv at h=>rhs;reduce);dsimp only[go_sem] at h;exact ⟨_,h⟩:DP Tryz.f91).1
theorem ok91:FnOK Tryz.prog 91 Tryz.f91 e91 [.t 3] 2 7:=okA
def Z2a (x1 x2:KE):Option Bool:=
 some (decide (x1.Peer=x2.Peer))
theorem Z3a (x1 x2:KE) (r:Bool) (h:Z2a x1 x2=some r):Z03 Tryz.prog 91 [.agg (KE.row x1),.elt (KE.row x2) 0] (.bv r):=by
 refine FP ok91 fun w0 H0=>?_
 rw [Z2a] at h
 refine Zv2 14 ?_;dsimp only[go_sem];refine An ?_;exact Zw4 (res:=fun (r:Bool)=>.bv r) ok91 h
@[go_sem] def e105:EC:=(by have h:=hF Tryz.f105;(conv at h=>rhs;reduce);dsimp only[go_sem] at h;exact ⟨_,h⟩:DP Tryz.f105).1
theorem ok105:FnOK Tryz.prog 105 Tryz.f105 e105 [.t 2] 1 5:=okA
def Z4a (x1:Side):Option Bool:=
 some (decide (x1.State=3))
theorem Z5a (x1:Side) (r:Bool) (h:Z4a x1=some r):Z03 Tryz.prog 105 [.agg (Side.row x1)] (.bv r):=by
 refine FP ok105 fun w0 H0=>?_
 rw [Z4a] at h
 refine Zv2 12 ?_;dsimp only[go_sem];refine An ?_;exact Zw4 (res:=fun (r:Bool)=>.bv r) ok105 h
end
end NX
end Go.Proofs.YtdjkbodnjhgbcaaGreat
