/-
  The function slices.Equal[[]int,int]: its code compiled, a model, and that the code answers as the model. Written by a program of ours (lb.py). No statement of the seat is proved here.
-/
import Derived.Test.YtdjkbodnjhgbcaaGreatP13
set_option maxRecDepth 100000
set_option maxHeartbeats 4000000
namespace Go.Proofs.YtdjkbodnjhgbcaaGreat
namespace NX
open Go
noncomputable section
@[go_sem] def e61:EC:=(by have h:=hF Tryz.f61;(conv at h=>rhs;reduce);dsimp only[go_sem] at h;exact ⟨_,h⟩:DP Tryz.f61).1
theorem ok61:FnOK Tryz.prog 61 Tryz.f61 e61 [.t 4] 2 24:=okA
def Zq8:Unit→Option Bool
| ()=>
 some true
def Zr8 (x1 x2:List Int):Int→Option (Int ⊕ Bool)
| x6=>
 ifb (decide (x6<(ln Z05 x1))) (
 (at_ x1 x6).bind fun x7=>
 (at_ x2 x6).bind fun x8=>
 ifb (!decide (x7=x8)) (
 Option.map Sum.inr (some false)) (
 some (.inl (wr (x6+1))))) (
 Option.map Sum.inr (Zq8 ()))
def Zs8 (x1 x2:List Int):Option Bool:=
 ifb (!decide ((ln Z05 x1)=(ln Z05 x2))) (
 some false) (
 loop (Zr8 x1 x2) 0)
theorem Zt8 (x1 x2:List Int) (r:Bool) (h:Zs8 x1 x2=some r):Z03 Tryz.prog 61 [Sp0 x1,Sp0 x2] (.bv r):=by
 refine FP ok61 fun w0 H0=>?_
 rw [Zs8] at h
 refine Vg 13 ?_;refine MI h (fun h=>?_) fun h=>?_
 ·refine Vg 4 ?_;exact MD ok61 h
 ·refine Vg 8 ?_;refine Zo4 (fun (_:Unit)=>⟨an 26 [],[],[]⟩) Zq8 r ?_ fun J1=>?_
  ·rintro ⟨⟩ h;rw [Zq8] at h;(try dsimp only);refine Vg 4 ?_;exact MD ok61 h
  ·refine Vg 1 ?_;refine Zp4 h (fun (x6:Int)=>⟨(Sp0 x1 :: Sp0 x2::an 10 (.iv (ln Z05 x1) :: .iv x6::an 12 [])),[],[]⟩) (by simp [go_sem]) (by intro x6;first | rfl | simp [go_sem]) ?_;rintro n1 x6 y1 h hin1 hout1;rw [Zr8] at h;(try dsimp only);refine Vg 5 ?_;refine MI h (fun h=>?_) fun h=>?_
   ·refine Vg 9 ?_;refine Zz6 fun all H=>?_;refine Gn H 4 5 ?_;have ⟨x7,ex7,h⟩:=Bs h;refine Zt4 H.1 H.2.1 H.2.2.1 H.2.2.2 2 Z05 ex7 rfl rfl trivial rfl rfl rfl rfl (Gn H 1 3 ?_);have ⟨x8,ex8,h⟩:=Bs h;refine Zt4 H.1 H.2.1 H.2.2.1 H.2.2.2 6 Z05 ex8 rfl rfl trivial rfl rfl rfl rfl (Gn H 2 0 ?_);refine GD ?_
    refine MI h (fun h=>?_) fun h=>?_
    ·refine Vg 4 ?_;exact MD ok61 (Zn4 h hout1)
    ·refine Vg 6 ?_;exact Zw4 h hin1
   ·refine Vg 1 ?_;exact Zx4 J1 (Zn4 h hout1)
@[go_sem] def e44:EC:=(by have h:=hF Tryz.f44;(conv at h=>rhs;reduce);dsimp only[go_sem] at h;exact ⟨_,h⟩:DP Tryz.f44).1
theorem ok44:FnOK Tryz.prog 44 Tryz.f44 e44 [.t 2] 1 7:=okA
def Zu8 (x1:List KE):Option (List KE):=Zj4 16 [] x1
theorem Zv8 (x1 r:List KE) (h:Zu8 x1=some r):FunO Tryz.prog 44 [Sp1 x1] 95 2 (List.map KE.row r):=by
 refine Z65 ok44 rfl fun w0 H0=>?_
 rw [Zu8] at h
 refine Zv2 100 ?_
 dsimp only [e44,go_sem]
 refine ⟨by simp,?_⟩
 refine V_isnil trivial rfl (fun hn=>?_) ?_
 ·refine Zv2 100 ?_
  dsimp only[go_sem]
  refine ⟨by simp,?_⟩
  refine Zf4 2 95 2 rfl rfl ?_
  dsimp only[go_sem]
  have hn:x1=[]:=by simpa using hn
  subst hn
  exact Zc5 KE.row (e:=[]) ok44 (by simpa [Zj4] using h) rfl rfl
 ·refine Zv2 100 ?_
  dsimp only[go_sem]
  refine ⟨by simp,?_⟩
  refine Zu4 KE.row h trivial rfl rfl rfl ?_
  refine Zv2 100 ?_
  dsimp only[go_sem]
  refine ⟨by simp,?_⟩
  exact Zc5 KE.row ok44 (rfl:some r=some r) rfl rfl
@[go_sem] def e33:EC:=(by have h:=hF Tryz.f33;(conv at h=>rhs;reduce);dsimp only[go_sem] at h;exact ⟨_,h⟩:DP Tryz.f33).1
theorem ok33:FnOK Tryz.prog 33 Tryz.f33 e33 [.t 6] 3 22:=okA
@[go_sem] def e57:EC:=(by have h:=hF Tryz.f57;(conv at h=>rhs;reduce);dsimp only[go_sem] at h;exact ⟨_,h⟩:DP Tryz.f57).1
theorem ok57:FnOK Tryz.prog 57 Tryz.f57 e57 [.t 4] 2 25:=okA
def Zw8:List Int→Option (List Int)
| x20=>
 some x20
def Zx8 (x8:Int):List Int→Option ((Int×List Int) ⊕ (List Int))
| x13=>
 some (.inl (wr (x8+1),x13))
def Zy8 (x1:Node) (p1:(Side→Option Bool)):(Int×List Int)→Option ((Int×List Int) ⊕ (List Int))
| (x8,x9)=>
 ifb (decide (x8<(ln Side.row x1.DK.DI.SD))) (
 (at_ x1.DK.DI.SD x8).bind fun x10=>
 (p1 x10).bind fun x11=>
 ifb x11 (
 (Zj4 8 x9 ([x10.Peer])).bind fun x12=>
 (Zx8 x8) x12) (
 (Zx8 x8) x9)) (
 Option.map Sum.inr (Zw8 x9))
def Zz8 (x1:Node) (p1:(Side→Option Bool)):Option (List Int):=
 loop (Zy8 x1 p1) (0,([]:List Int))
theorem Z09 (x1:Node) (g1:Nat) (caps1:List AV) (p1:(Side→Option Bool)) (hc1:CloOK Tryz.prog g1 caps1 (fun z=>[.agg (Side.row z)]) p1 (fun z=>.bv z)) (r:List Int) (h:Zz8 x1 p1=some r):Z03 Tryz.prog 57 [.agg (Node.row x1),.clo g1 caps1] (Sp0 r):=by
 refine FP ok57 fun w0 H0=>?_
 rw [Zz8] at h
 refine Vg 19 ?_;refine Zo4 (fun (x20:List Int)=>⟨an 5 (.osl 0::an 21 []),[],[Sq7 x20]⟩) Zw8 r ?_ fun J1=>?_
 ·intro x20 h;rw [Zw8] at h;(try dsimp only);refine Vg 5 ?_;refine Z17 0 ?_;dsimp only[go_sem];exact MD ok57 h
 ·refine Vg 1 ?_;refine Zf4 5 3 1 rfl rfl ?_;dsimp only[go_sem];refine Zp4 h (fun ((x8,x9):(Int×List Int))=>⟨(.any :: .clo g1 caps1::an 3 (.osl 0::an 5 (Sp2 x1.DK.DI.SD :: .iv (ln Side.row x1.DK.DI.SD) :: .iv x8::an 13 []))),[],[Sq7 x9]⟩) (by simp [go_sem]) (by rintro ⟨x8,x9⟩;first | rfl | simp [go_sem,Zh4 _ hc1.pu]) ?_;rintro n1 ⟨x8,x9⟩ y1 h hin1 hout1;rw [Zy8] at h;(try dsimp only);refine Vg 5 ?_
  refine MI h (fun h=>?_) fun h=>?_
  ·refine Vg 5 ?_;have ⟨x10,ex10,h⟩:=Bs h;refine Zs4 Side.row ex10 trivial rfl rfl rfl (Vg 8 ?_);have ⟨x11,ex11,h⟩:=Bs h;refine Zz4 trivial rfl hc1 (x:=x10) ex11 (by first | exact Zi4 _ | simp [go_sem]) (by first | rfl | simp [go_sem,hc1.pu]) (Vg 1 ?_)
   refine Zo4 (fun (x13:List Int)=>⟨(.any :: .clo g1 caps1::an 3 (.osl 0::an 5 (Sp2 x1.DK.DI.SD :: .iv (ln Side.row x1.DK.DI.SD) :: .iv x8::an 13 []))),[],[Sq7 x13]⟩) (Zx8 x8) y1 ?_ fun J2=>?_
   ·intro x13 h;rw [Zx8] at h;(try dsimp only);refine Vg 5 ?_;exact Zw4 h hin1 (hok:=by first | rfl | simp [go_sem,Zh4 _ hc1.pu])
   ·refine MI h (fun h=>?_) fun h=>?_
    ·refine Vg 5 ?_;have ⟨x12,ex12,h⟩:=Bs h;refine Zu4 Z05 ex12 trivial rfl rfl rfl (Vg 2 ?_);refine Z07 2 0 ?_;dsimp only[go_sem];(try rw [Zb6 _ _ _ hc1.pu]);exact Zx4 J2 h (hok:=by first | rfl | simp [go_sem,Zh4 _ hc1.pu])
    ·refine Vg 1 ?_;exact Zx4 J2 h (hok:=by first | rfl | simp [go_sem,Zh4 _ hc1.pu])
  ·refine Vg 1 ?_;exact Zx4 J1 (Zn4 h hout1) (hok:=by first | rfl | simp [go_sem])
@[go_sem] def e35:EC:=(by have h:=hF Tryz.f35;(conv at h=>rhs;reduce);dsimp only[go_sem] at h;exact ⟨_,h⟩:DP Tryz.f35).1
theorem ok35:FnOK Tryz.prog 35 Tryz.f35 e35 [.t 2] 1 5:=okA
def Z19 (x1:Side):Option Bool:=
 some (decide (x1.State=0))
theorem Z29 (x1:Side) (r:Bool) (h:Z19 x1=some r):Z03 Tryz.prog 35 [.agg (Side.row x1)] (.bv r):=by
 refine FP ok35 fun w0 H0=>?_
 rw [Z19] at h
 refine Vg 12 ?_;exact MD ok35 h
@[go_sem] def e74:EC:=(by have h:=hF Tryz.f74;(conv at h=>rhs;reduce);dsimp only[go_sem] at h;exact ⟨_,h⟩:DP Tryz.f74).1
theorem ok74:FnOK Tryz.prog 74 Tryz.f74 e74 [] 3 22:=okA
@[go_sem] def e76:EC:=(by have h:=hF Tryz.f76;(conv at h=>rhs;reduce);dsimp only[go_sem] at h;exact ⟨_,h⟩:DP Tryz.f76).1
theorem ok76:FnOK Tryz.prog 76 Tryz.f76 e76 [.c 2 (some 4),.t 3] 1 14:=okA
def Z39 (x1:Node):Option (Sess×Bool):=
 ifb (decide ((ln Sess.row x1.Book.Sess)=0)) (
 some ((Sess.mk 0 (([]:List Int)) 0 0),false)) (
 (at_ x1.Book.Sess 0).bind fun x2=>
 some (x2,true))
theorem k_node_first (x1:Node) (r:(Sess×Bool)) (h:Z39 x1=some r):Z03 Tryz.prog 76 [.agg (Node.row x1)] (.tup [.agg (Sess.row r.1),.bv r.2]):=by
 refine FP ok76 fun w0 H0=>?_
 rw [Z39] at h
 refine Vg 15 ?_;refine MI h (fun h=>?_) fun h=>?_
 ·refine Vg 6 ?_;exact MD ok76 h
 ·refine Vg 6 ?_;have ⟨x2,ex2,h⟩:=Bs h;refine Zs4 Sess.row ex2 trivial rfl rfl rfl (Vg 4 ?_);exact MD ok76 h
@[go_sem] def e79:EC:=(by have h:=hF Tryz.f79;(conv at h=>rhs;reduce);dsimp only[go_sem] at h;exact ⟨_,h⟩:DP Tryz.f79).1
theorem ok79:FnOK Tryz.prog 79 Tryz.f79 e79 [.t 6,.t 7] 3 46:=okA
def Z49 (x23:Int):Bool→Option (Int×Bool)
| x26=>
 some (x23,x26)
def Z59 (x1:List Side) (x2:Int) (p2:((Side×Int)→Option Int)):Int→Option (Int×Bool)
| x23=>
 ifb (decide (x23<(ln Side.row x1))) (
 (at_ x1 x23).bind fun x24=>
 (p2 (x24,x2)).bind fun x25=>
 (Z49 x23) (decide (x25=0))) (
 (Z49 x23) false)
def Z69 (x1:List Side) (x2:Int) (p2:((Side×Int)→Option Int)):(Int×Int)→Option ((Int×Int) ⊕ (Int×Bool))
| (x7,x8)=>
 ifb (decide (x7<x8)) (
 (at_ x1 (wr (Int.fdiv (kw .u64 (wr (x7+x8))) (2 ^ min (Int.toNat 1) (IntKind.bits .u64))))).bind fun x9=>
 (p2 (x9,x2)).bind fun x10=>
 ifb (decide (x10<0)) (
 some (.inl (wr ((wr (Int.fdiv (kw .u64 (wr (x7+x8))) (2 ^ min (Int.toNat 1) (IntKind.bits .u64))))+1),x8))) (
 some (.inl (x7,wr (Int.fdiv (kw .u64 (wr (x7+x8))) (2 ^ min (Int.toNat 1) (IntKind.bits .u64))))))) (
 Option.map Sum.inr ((Z59 x1 x2 p2) x7))
def Z79 (x1:List Side) (x2:Int) (p2:((Side×Int)→Option Int)):Option (Int×Bool):=
 loop (Z69 x1 x2 p2) (0,ln Side.row x1)
theorem Z89 (x1:List Side) (x2:Int) (g2:Nat) (caps2:List AV) (p2:((Side×Int)→Option Int)) (hc2:CloOK Tryz.prog g2 caps2 (fun z=>[.agg (Side.row z.1),.iv z.2]) p2 (fun z=>.iv z)) (r:(Int×Bool)) (h:Z79 x1 x2 p2=some r):Z03 Tryz.prog 79 [Sp2 x1,.iv x2,.clo g2 caps2] (.tup [.iv r.1,.bv r.2]):=by
 refine FP ok79 fun w0 H0=>?_
 rw [Z79] at h
 refine Vg 18 ?_;refine Zo4 (fun (x23:Int)=>⟨(Sp2 x1 :: .iv x2 :: .clo g2 caps2::an 5 (.iv (ln Side.row x1) :: .iv x23::an 39 [])),[],[]⟩) (Z59 x1 x2 p2) r ?_ fun J1=>?_
 ·intro x23 h;rw [Z59] at h;(try dsimp only);refine Vg 7 ?_;refine Zo4 (fun (x26:Bool)=>⟨an 6 (.iv x23 :: .bv x26::an 41 []),[],[]⟩) (Z49 x23) r ?_ fun J2=>?_
  ·intro x26 h;rw [Z49] at h;(try dsimp only);exact MD ok79 h
  ·refine MC 39 h (fun h=>?_) fun h=>?_
   ·refine Vg 3 ?_;have ⟨x24,ex24,h⟩:=Bs h;refine Zs4 Side.row ex24 trivial rfl rfl rfl (Vg 2 ?_);have ⟨x25,ex25,h⟩:=Bs h;refine Zz4 trivial rfl hc2 (x:=(x24,x2)) ex25 (by first | exact Zi4 _ | simp [go_sem]) (by first | rfl | simp [go_sem,hc2.pu]) (Vg 5 ?_);exact Zx4 J2 h (hok:=by first | rfl | simp [go_sem,Zh4 _ hc2.pu])
   ·refine Vg 12 ?_;exact Zx4 J2 h (hok:=by first | rfl | simp [go_sem,Zh4 _ hc2.pu])
 ·refine Vg 1 ?_;refine Zp4 h (fun ((x7,x8):(Int×Int))=>⟨(Sp2 x1 :: .iv x2 :: .clo g2 caps2::an 5 (.iv (ln Side.row x1) :: .iv x7 :: .iv x8::an 38 [])),[],[]⟩) (by simp [go_sem]) (by rintro ⟨x7,x8⟩;first | rfl | simp [go_sem,Zh4 _ hc2.pu]) ?_;rintro n1 ⟨x7,x8⟩ y1 h hin1 hout1;rw [Z69] at h;(try dsimp only);refine Vg 7 ?_;refine MI h (fun h=>?_) fun h=>?_
  ·refine Vg 17 ?_;have ⟨x9,ex9,h⟩:=Bs h;refine Zs4 Side.row ex9 trivial rfl rfl rfl (Vg 2 ?_);have ⟨x10,ex10,h⟩:=Bs h;refine Zz4 trivial rfl hc2 (x:=(x9,x2)) ex10 (by first | exact Zi4 _ | simp [go_sem]) (by first | rfl | simp [go_sem,hc2.pu]) (Vg 2 ?_);refine MI h (fun h=>?_) fun h=>?_
   ·refine Vg 6 ?_;exact Zw4 h hin1 (hok:=by first | rfl | simp [go_sem,Zh4 _ hc2.pu])
   ·refine Vg 5 ?_;exact Zw4 h hin1 (hok:=by first | rfl | simp [go_sem,Zh4 _ hc2.pu])
  ·refine Vg 1 ?_;exact Zx4 J1 (Zn4 h hout1) (hok:=by first | rfl | simp [go_sem,Zh4 _ hc2.pu])
@[go_sem] def e80:EC:=(by have h:=hF Tryz.f80;(conv at h=>rhs;reduce);dsimp only[go_sem] at h;exact ⟨_,h⟩:DP Tryz.f80).1
theorem ok80:FnOK Tryz.prog 80 Tryz.f80 e80 [.t 4] 2 7:=okA
def Z99 (x1:Side) (x2:Int):Option Int:=
 some (wr (x1.Peer-x2))
theorem Za9 (x1:Side) (x2:Int) (r:Int) (h:Z99 x1 x2=some r):Z03 Tryz.prog 80 [.agg (Side.row x1),.iv x2] (.iv r):=by
 refine FP ok80 fun w0 H0=>?_
 rw [Z99] at h
 refine Vg 13 ?_;exact MD ok80 h
@[go_sem] def e121:EC:=(by have h:=hF Tryz.f121;(conv at h=>rhs;reduce);dsimp only[go_sem] at h;exact ⟨_,h⟩:DP Tryz.f121).1
theorem ok121:FnOK Tryz.prog 121 Tryz.f121 e121 [.t 6,.t 7] 3 46:=okA
def Zb9 (x23:Int):Bool→Option (Int×Bool)
| x26=>
 some (x23,x26)
def Zc9 (x1:List KE) (x2:Int) (p2:((KE×Int)→Option Int)):Int→Option (Int×Bool)
| x23=>
 ifb (decide (x23<(ln KE.row x1))) (
 (at_ x1 x23).bind fun x24=>
 (p2 (x24,x2)).bind fun x25=>
 (Zb9 x23) (decide (x25=0))) (
 (Zb9 x23) false)
def Zd9 (x1:List KE) (x2:Int) (p2:((KE×Int)→Option Int)):(Int×Int)→Option ((Int×Int) ⊕ (Int×Bool))
| (x7,x8)=>
 ifb (decide (x7<x8)) (
 (at_ x1 (wr (Int.fdiv (kw .u64 (wr (x7+x8))) (2 ^ min (Int.toNat 1) (IntKind.bits .u64))))).bind fun x9=>
 (p2 (x9,x2)).bind fun x10=>
 ifb (decide (x10<0)) (
 some (.inl (wr ((wr (Int.fdiv (kw .u64 (wr (x7+x8))) (2 ^ min (Int.toNat 1) (IntKind.bits .u64))))+1),x8))) (
 some (.inl (x7,wr (Int.fdiv (kw .u64 (wr (x7+x8))) (2 ^ min (Int.toNat 1) (IntKind.bits .u64))))))) (
 Option.map Sum.inr ((Zc9 x1 x2 p2) x7))
def Ze9 (x1:List KE) (x2:Int) (p2:((KE×Int)→Option Int)):Option (Int×Bool):=
 loop (Zd9 x1 x2 p2) (0,ln KE.row x1)
theorem Zf9 (x1:List KE) (x2:Int) (g2:Nat) (caps2:List AV) (p2:((KE×Int)→Option Int)) (hc2:CloOK Tryz.prog g2 caps2 (fun z=>[.agg (KE.row z.1),.iv z.2]) p2 (fun z=>.iv z)) (r:(Int×Bool)) (h:Ze9 x1 x2 p2=some r):Z03 Tryz.prog 121 [Sp1 x1,.iv x2,.clo g2 caps2] (.tup [.iv r.1,.bv r.2]):=by
 refine FP ok121 fun w0 H0=>?_
 rw [Ze9] at h
 refine Vg 18 ?_;refine Zo4 (fun (x23:Int)=>⟨(Sp1 x1 :: .iv x2 :: .clo g2 caps2::an 5 (.iv (ln KE.row x1) :: .iv x23::an 39 [])),[],[]⟩) (Zc9 x1 x2 p2) r ?_ fun J1=>?_
 ·intro x23 h;rw [Zc9] at h;(try dsimp only);refine Vg 7 ?_;refine Zo4 (fun (x26:Bool)=>⟨an 6 (.iv x23 :: .bv x26::an 41 []),[],[]⟩) (Zb9 x23) r ?_ fun J2=>?_
  ·intro x26 h;rw [Zb9] at h;(try dsimp only);exact MD ok121 h
  ·refine MC 39 h (fun h=>?_) fun h=>?_
   ·refine Vg 3 ?_;have ⟨x24,ex24,h⟩:=Bs h;refine Zs4 KE.row ex24 trivial rfl rfl rfl (Vg 2 ?_);have ⟨x25,ex25,h⟩:=Bs h;refine Zz4 trivial rfl hc2 (x:=(x24,x2)) ex25 (by first | exact Zi4 _ | simp [go_sem]) (by first | rfl | simp [go_sem,hc2.pu]) (Vg 5 ?_);exact Zx4 J2 h (hok:=by first | rfl | simp [go_sem,Zh4 _ hc2.pu])
   ·refine Vg 12 ?_;exact Zx4 J2 h (hok:=by first | rfl | simp [go_sem,Zh4 _ hc2.pu])
 ·refine Vg 1 ?_;refine Zp4 h (fun ((x7,x8):(Int×Int))=>⟨(Sp1 x1 :: .iv x2 :: .clo g2 caps2::an 5 (.iv (ln KE.row x1) :: .iv x7 :: .iv x8::an 38 [])),[],[]⟩) (by simp [go_sem]) (by rintro ⟨x7,x8⟩;first | rfl | simp [go_sem,Zh4 _ hc2.pu]) ?_;rintro n1 ⟨x7,x8⟩ y1 h hin1 hout1;rw [Zd9] at h;(try dsimp only);refine Vg 7 ?_;refine MI h (fun h=>?_) fun h=>?_
  ·refine Vg 17 ?_;have ⟨x9,ex9,h⟩:=Bs h;refine Zs4 KE.row ex9 trivial rfl rfl rfl (Vg 2 ?_);have ⟨x10,ex10,h⟩:=Bs h;refine Zz4 trivial rfl hc2 (x:=(x9,x2)) ex10 (by first | exact Zi4 _ | simp [go_sem]) (by first | rfl | simp [go_sem,hc2.pu]) (Vg 2 ?_);refine MI h (fun h=>?_) fun h=>?_
   ·refine Vg 6 ?_;exact Zw4 h hin1 (hok:=by first | rfl | simp [go_sem,Zh4 _ hc2.pu])
   ·refine Vg 5 ?_;exact Zw4 h hin1 (hok:=by first | rfl | simp [go_sem,Zh4 _ hc2.pu])
  ·refine Vg 1 ?_;exact Zx4 J1 (Zn4 h hout1) (hok:=by first | rfl | simp [go_sem,Zh4 _ hc2.pu])
@[go_sem] def e122:EC:=(by have h:=hF Tryz.f122;(conv at h=>rhs;reduce);dsimp only[go_sem] at h;exact ⟨_,h⟩:DP Tryz.f122).1
theorem ok122:FnOK Tryz.prog 122 Tryz.f122 e122 [.t 4] 2 7:=okA
def Zg9 (x1:KE) (x2:Int):Option Int:=
 some (wr (x1.Peer-x2))
theorem Zh9 (x1:KE) (x2:Int) (r:Int) (h:Zg9 x1 x2=some r):Z03 Tryz.prog 122 [.agg (KE.row x1),.iv x2] (.iv r):=by
 refine FP ok122 fun w0 H0=>?_
 rw [Zg9] at h
 refine Vg 13 ?_;exact MD ok122 h
@[go_sem] def e68:EC:=(by have h:=hF Tryz.f68;(conv at h=>rhs;reduce);dsimp only[go_sem] at h;exact ⟨_,h⟩:DP Tryz.f68).1
theorem ok68:FnOK Tryz.prog 68 Tryz.f68 e68 [.t 3] 2 6:=okA
def Zi9 (x1:Side) (x2:Int):Option Bool:=
 some (decide (x1.Peer=x2))
theorem Zj9 (x1:Side) (x2:Int) (r:Bool) (h:Zi9 x1 x2=some r):Z03 Tryz.prog 68 [.agg (Side.row x1),.elt (Z05 x2) 0] (.bv r):=by
 refine FP ok68 fun w0 H0=>?_
 rw [Zi9] at h
 refine Vg 13 ?_;exact MD ok68 h
@[go_sem] def e47:EC:=(by have h:=hF Tryz.f47;(conv at h=>rhs;reduce);dsimp only[go_sem] at h;exact ⟨_,h⟩:DP Tryz.f47).1
theorem ok47:FnOK Tryz.prog 47 Tryz.f47 e47 [] 3 22:=okA
@[go_sem] def e153:EC:=(by have h:=hF Tryz.f153;(conv at h=>rhs;reduce);dsimp only[go_sem] at h;exact ⟨_,h⟩:DP Tryz.f153).1
theorem ok153:FnOK Tryz.prog 153 Tryz.f153 e153 [] 3 26:=okA
@[go_sem] def e129:EC:=(by have h:=hF Tryz.f129;(conv at h=>rhs;reduce);dsimp only[go_sem] at h;exact ⟨_,h⟩:DP Tryz.f129).1
theorem ok129:FnOK Tryz.prog 129 Tryz.f129 e129 [.t 2] 1 5:=okA
def Zk9 (x1:Side):Option Bool:=
 some (decide (x1.State=1))
theorem Zl9 (x1:Side) (r:Bool) (h:Zk9 x1=some r):Z03 Tryz.prog 129 [.agg (Side.row x1)] (.bv r):=by
 refine FP ok129 fun w0 H0=>?_
 rw [Zk9] at h
 refine Vg 12 ?_;exact MD ok129 h
@[go_sem] def e94:EC:=(by have h:=hF Tryz.f94;(conv at h=>rhs;reduce);dsimp only[go_sem] at h;exact ⟨_,h⟩:DP Tryz.f94).1
theorem ok94:FnOK Tryz.prog 94 Tryz.f94 e94 [.t 3] 2 6:=okA
def Zm9 (x1:Side) (x2:Int):Option Bool:=
 some (decide (x1.Peer=x2))
theorem Zn9 (x1:Side) (x2:Int) (r:Bool) (h:Zm9 x1 x2=some r):Z03 Tryz.prog 94 [.agg (Side.row x1),.elt (Z05 x2) 0] (.bv r):=by
 refine FP ok94 fun w0 H0=>?_
 rw [Zm9] at h
 refine Vg 13 ?_;exact MD ok94 h
@[go_sem] def e111:EC:=(by have h:=hF Tryz.f111;(conv at h=>rhs;reduce);dsimp only[go_sem] at h;exact ⟨_,h⟩:DP Tryz.f111).1
theorem ok111:FnOK Tryz.prog 111 Tryz.f111 e111 [.t 6] 3 29:=okA
def Zo9:Unit→Option Bool
| ()=>
 some true
def Zp9 (x1 x2:List Sess) (p2:((Sess×Sess)→Option Bool)):Int→Option (Int ⊕ Bool)
| x7=>
 ifb (decide (x7<(ln Sess.row x1))) (
 (at_ x1 x7).bind fun x8=>
 (at_ x2 x7).bind fun x9=>
 (p2 (x8,x9)).bind fun x10=>
 ifb (!x10) (
 Option.map Sum.inr (some false)) (
 some (.inl (wr (x7+1))))) (
 Option.map Sum.inr (Zo9 ()))
def Zq9 (x1 x2:List Sess) (p2:((Sess×Sess)→Option Bool)):Option Bool:=
 ifb (!decide ((ln Sess.row x1)=(ln Sess.row x2))) (
 some false) (
 loop (Zp9 x1 x2 p2) 0)
theorem Zr9 (x1 x2:List Sess) (g2:Nat) (caps2:List AV) (p2:((Sess×Sess)→Option Bool)) (hc2:CloOK Tryz.prog g2 caps2 (fun z=>[.agg (Sess.row z.1),.agg (Sess.row z.2)]) p2 (fun z=>.bv z)) (r:Bool) (h:Zq9 x1 x2 p2=some r):Z03 Tryz.prog 111 [Sp3 x1,Sp3 x2,.clo g2 caps2] (.bv r):=by
 refine FP ok111 fun w0 H0=>?_
 rw [Zq9] at h
 refine Vg 13 ?_;refine MI h (fun h=>?_) fun h=>?_
 ·refine Vg 4 ?_;exact MD ok111 h
 ·refine Vg 8 ?_;refine Zo4 (fun (_:Unit)=>⟨an 32 [],[],[]⟩) Zo9 r ?_ fun J1=>?_
  ·rintro ⟨⟩ h;rw [Zo9] at h;(try dsimp only);refine Vg 4 ?_;exact MD ok111 h
  ·refine Vg 1 ?_;refine Zp4 h (fun (x7:Int)=>⟨(.any :: Sp3 x2 :: .clo g2 caps2::an 12 (Sp3 x1 :: .iv (ln Sess.row x1) :: .iv x7::an 14 [])),[],[]⟩) (by simp [go_sem]) (by intro x7;first | rfl | simp [go_sem,Zh4 _ hc2.pu]) ?_;rintro n1 x7 y1 h hin1 hout1;rw [Zp9] at h;(try dsimp only);refine Vg 5 ?_;refine MI h (fun h=>?_) fun h=>?_
   ·refine Vg 6 ?_;have ⟨x8,ex8,h⟩:=Bs h;refine Zs4 Sess.row ex8 trivial rfl rfl rfl (Vg 9 ?_);have ⟨x9,ex9,h⟩:=Bs h;refine Zs4 Sess.row ex9 trivial rfl rfl rfl (Vg 9 ?_);have ⟨x10,ex10,h⟩:=Bs h;refine Zz4 trivial rfl hc2 (x:=(x8,x9)) ex10 (by first | exact Zi4 _ | simp [go_sem]) (by first | rfl | simp [go_sem,hc2.pu]) (Vg 2 ?_);refine MI h (fun h=>?_) fun h=>?_
    ·refine Vg 4 ?_;exact MD ok111 (Zn4 h hout1)
    ·refine Vg 6 ?_;exact Zw4 h hin1 (hok:=by first | rfl | simp [go_sem,Zh4 _ hc2.pu])
   ·refine Vg 1 ?_;exact Zx4 J1 (Zn4 h hout1) (hok:=by first | rfl | simp [go_sem,Zh4 _ hc2.pu])
@[go_sem] def e60_L0:EC:=.seq (.reg [Qa 14 (.bin .lss (.t 13) (.t 12))]) (.seq (.ite (.t 14) (.skip) (.exit 0)) (.seq (.blk 1 (.seq (.reg [Qm 15 13,Qm 5 15]) (.seq (.drw [Qm 16 0,Qm 17 5,Qk 18 2 16 17,Qe 19 2 18,Qm 20 1,Qm 21 5,Qk 22 2 20 21,Qe 23 2 22,Qa 24 (.eqs true [true,true] (.t 19) (.t 23))] [[],[],[0,1],[2,0,1],[],[],[4,5],[6,4,5],[3,7,2,0,1,6,4,5]] [[2],[2],[0,1,3],[2,8],[6],[6],[4,5,7],[6,8],[3,7]]) (.ite (.t 24) (.seq (.reg [Qa 4 (.mv (.c .ff))]) (.ret)) (.skip))))) (.reg [Qv 25 13 1,Qm 13 25])))
@[go_sem] def e60:EC:=.seq (.reg [Qa 4 (.mv (.c .ff))]) (.seq (.seq (.reg [Qm 6 0,Qa 7 (.len (.t 6)),Qm 8 1,Qa 9 (.len (.t 8)),Qa 10 (.bin .neq (.t 7) (.t 9))]) (.ite (.t 10) (.seq (.reg [Qa 4 (.mv (.c .ff))]) (.ret)) (.skip))) (.seq (.seq (.reg [Qm 11 0,Qa 12 (.len (.t 11)),Qi 13 0]) (.blk 0 (.loop e60_L0))) (.seq (.reg [Qa 4 (.mv (.c .tt))]) (.ret))))
theorem ok60:FnOK Tryz.prog 60 Tryz.f60 e60 [.t 4] 2 24:=okA
def Zs9:Unit→Option Bool
| ()=>
 some true
def Zt9 (x1 x2:List KE):Int→Option (Int ⊕ Bool)
| x6=>
 ifb (decide (x6<(ln KE.row x1))) (
 (at_ x1 x6).bind fun x7=>
 (at_ x2 x6).bind fun x8=>
 ifb (!(decide (x7.Peer=x8.Peer)&&(decide (x7.Epoch=x8.Epoch)&&true))) (
 Option.map Sum.inr (some false)) (
 some (.inl (wr (x6+1))))) (
 Option.map Sum.inr (Zs9 ()))
def Zu9 (x1 x2:List KE):Option Bool:=
 ifb (!decide ((ln KE.row x1)=(ln KE.row x2))) (
 some false) (
 loop (Zt9 x1 x2) 0)
theorem Zv9 (x1 x2:List KE) (r:Bool) (h:Zu9 x1 x2=some r):Z03 Tryz.prog 60 [Sp1 x1,Sp1 x2] (.bv r):=by
 refine FP ok60 fun w0 H0=>?_
 rw [Zu9] at h
 refine Vg 13 ?_;refine MI h (fun h=>?_) fun h=>?_
 ·refine Vg 4 ?_;exact MD ok60 h
 ·refine Vg 8 ?_;refine Zo4 (fun (_:Unit)=>⟨an 26 [],[],[]⟩) Zs9 r ?_ fun J1=>?_
  ·rintro ⟨⟩ h;rw [Zs9] at h;(try dsimp only);refine Vg 4 ?_;exact MD ok60 h
  ·refine Vg 1 ?_;refine Zp4 h (fun (x6:Int)=>⟨(Sp1 x1 :: Sp1 x2::an 10 (.iv (ln KE.row x1) :: .iv x6::an 12 [])),[],[]⟩) (by simp [go_sem]) (by intro x6;first | rfl | simp [go_sem]) ?_;rintro n1 x6 y1 h hin1 hout1;rw [Zt9] at h;(try dsimp only);refine Vg 5 ?_;refine MI h (fun h=>?_) fun h=>?_
   ·refine Vg 9 ?_;refine Zz6 fun all H=>?_;refine Gn H 4 5 ?_;have ⟨x7,ex7,h⟩:=Bs h;refine Zt4 H.1 H.2.1 H.2.2.1 H.2.2.2 2 KE.row ex7 rfl rfl trivial rfl rfl rfl rfl (Gn H 1 3 ?_);have ⟨x8,ex8,h⟩:=Bs h;refine Zt4 H.1 H.2.1 H.2.2.1 H.2.2.2 6 KE.row ex8 rfl rfl trivial rfl rfl rfl rfl (Gn H 2 0 ?_)
    refine GD (MI h (fun h=>?_) fun h=>?_)
    ·refine Vg 4 ?_;exact MD ok60 (Zn4 h hout1)
    ·refine Vg 6 ?_;exact Zw4 h hin1
   ·refine Vg 1 ?_;exact Zx4 J1 (Zn4 h hout1)
@[go_sem] def e102:EC:=(by have h:=hF Tryz.f102;(conv at h=>rhs;reduce);dsimp only[go_sem] at h;exact ⟨_,h⟩:DP Tryz.f102).1
theorem ok102:FnOK Tryz.prog 102 Tryz.f102 e102 [.t 3] 2 26:=okA
@[go_sem] def e31:EC:=(by have h:=hF Tryz.f31;(conv at h=>rhs;reduce);dsimp only[go_sem] at h;exact ⟨_,h⟩:DP Tryz.f31).1
theorem ok31:FnOK Tryz.prog 31 Tryz.f31 e31 [.t 4] 2 19:=okA
def Zw9:Unit→Option Int
| ()=>
 some 0
def Zx9 (x1:Node) (x2:Int):Int→Option (Int ⊕ Int)
| x5=>
 ifb (decide (x5<(ln KE.row x1.KN))) (
 (at_ x1.KN x5).bind fun x6=>
 ifb (decide (x6.Peer=x2)) (
 Option.map Sum.inr (some x6.Epoch)) (
 some (.inl (wr (x5+1))))) (
 Option.map Sum.inr (Zw9 ()))
def Zy9 (x1:Node) (x2:Int):Option Int:=
 loop (Zx9 x1 x2) 0
theorem Zz9 (x1:Node) (x2:Int) (r:Int) (h:Zy9 x1 x2=some r):Z03 Tryz.prog 31 [.agg (Node.row x1),.iv x2] (.iv r):=by
 refine FP ok31 fun w0 H0=>?_
 rw [Zy9] at h
 refine Vg 13 ?_;refine Zo4 (fun (_:Unit)=>⟨an 21 [],[],[]⟩) Zw9 r ?_ fun J1=>?_
 ·rintro ⟨⟩ h;rw [Zw9] at h;(try dsimp only);refine Vg 4 ?_;exact MD ok31 h
 ·refine Vg 1 ?_;refine Zp4 h (fun (x5:Int)=>⟨(.any :: .iv x2::an 6 (Sp1 x1.KN :: .iv (ln KE.row x1.KN) :: .iv x5::an 10 [])),[],[]⟩) (by simp [go_sem]) (by intro x5;first | rfl | simp [go_sem]) ?_;rintro n1 x5 y1 h hin1 hout1;rw [Zx9] at h;(try dsimp only);refine Vg 5 ?_;refine MI h (fun h=>?_) fun h=>?_
  ·refine Vg 5 ?_;have ⟨x6,ex6,h⟩:=Bs h;refine Zs4 KE.row ex6 trivial rfl rfl rfl (Vg 11 ?_);refine MI h (fun h=>?_) fun h=>?_
   ·refine Vg 6 ?_;exact MD ok31 (Zn4 h hout1)
   ·refine Vg 6 ?_;exact Zw4 h hin1
  ·refine Vg 1 ?_;exact Zx4 J1 (Zn4 h hout1)
@[go_sem] def e89:EC:=(by have h:=hF Tryz.f89;(conv at h=>rhs;reduce);dsimp only[go_sem] at h;exact ⟨_,h⟩:DP Tryz.f89).1
theorem ok89:FnOK Tryz.prog 89 Tryz.f89 e89 [.t 3] 2 7:=okA
def Z0a (x1:Side) (x2:KE):Option Bool:=
 some (decide (x1.Peer=x2.Peer))
theorem k_node_may_1 (x1:Side) (x2:KE) (r:Bool) (h:Z0a x1 x2=some r):Z03 Tryz.prog 89 [.agg (Side.row x1),.elt (KE.row x2) 0] (.bv r):=by
 refine FP ok89 fun w0 H0=>?_
 rw [Z0a] at h
 refine Vg 14 ?_;exact MD ok89 h
@[go_sem] def e91:EC:=(by have h:=hF Tryz.f91;(conv at h=>rhs;reduce);dsimp only[go_sem] at h;exact ⟨_,h⟩:DP Tryz.f91).1
theorem ok91:FnOK Tryz.prog 91 Tryz.f91 e91 [.t 3] 2 7:=okA
def Z1a (x1 x2:KE):Option Bool:=
 some (decide (x1.Peer=x2.Peer))
theorem Z2a (x1 x2:KE) (r:Bool) (h:Z1a x1 x2=some r):Z03 Tryz.prog 91 [.agg (KE.row x1),.elt (KE.row x2) 0] (.bv r):=by
 refine FP ok91 fun w0 H0=>?_
 rw [Z1a] at h
 refine Vg 14 ?_;exact MD ok91 h
@[go_sem] def e105:EC:=(by have h:=hF Tryz.f105;(conv at h=>rhs;reduce);dsimp only[go_sem] at h;exact ⟨_,h⟩:DP Tryz.f105).1
theorem ok105:FnOK Tryz.prog 105 Tryz.f105 e105 [.t 2] 1 5:=okA
def Z3a (x1:Side):Option Bool:=
 some (decide (x1.State=3))
theorem Z4a (x1:Side) (r:Bool) (h:Z3a x1=some r):Z03 Tryz.prog 105 [.agg (Side.row x1)] (.bv r):=by
 refine FP ok105 fun w0 H0=>?_
 rw [Z3a] at h
 refine Vg 12 ?_;exact MD ok105 h
@[go_sem] def e135:EC:=(by have h:=hF Tryz.f135;(conv at h=>rhs;reduce);dsimp only[go_sem] at h;exact ⟨_,h⟩:DP Tryz.f135).1
theorem ok135:FnOK Tryz.prog 135 Tryz.f135 e135 [.t 4] 3 13:=okA
def Z5a:Bool→Option Bool
| x4=>
 some x4
def Z6a (x1:Side) (x2:Int) (x3:Msg):Option Bool:=
 ifb (decide (x1.Peer=x2)) (
 Z5a (decide (x1.Epoch=x3.Epoch))) (
 Z5a false)
theorem k_drink_Get_1 (x1:Side) (x2:Int) (x3:Msg) (r:Bool) (h:Z6a x1 x2 x3=some r):Z03 Tryz.prog 135 [.agg (Side.row x1),.elt (Z05 x2) 0,.elt (Msg.row x3) 0] (.bv r):=by
 refine FP ok135 fun w0 H0=>?_
 rw [Z6a] at h
 refine Vg 12 ?_;refine Zo4 (fun (x4:Bool)=>⟨an 4 (.bv x4::an 11 []),[],[]⟩) Z5a r ?_ fun J1=>?_
 ·intro x4 h;rw [Z5a] at h;(try dsimp only);exact MD ok135 h
 ·refine MC 9 h (fun h=>?_) fun h=>?_
  ·refine Vg 8 ?_;exact Zx4 J1 h
  ·refine Vg 8 ?_;exact Zx4 J1 h
@[go_sem] def e40:EC:=(by have h:=hF Tryz.f40;(conv at h=>rhs;reduce);dsimp only[go_sem] at h;exact ⟨_,h⟩:DP Tryz.f40).1
theorem ok40:FnOK Tryz.prog 40 Tryz.f40 e40 [.t 5] 4 35:=okA
def Z7a:Bool→Option Bool
| x7=>
 some x7
def Z8a (x1 x2:Int) (x3:node_node) (x4:Msg):Option Bool:=
 ifb (decide (0≤x2)) (
 (at_ x3.Node.DK.DI.SD x2).bind fun x5=>
 ifb (decide (x5.Epoch=x4.Epoch)) (
 (at_ x3.Node.DK.DI.SD x2).bind fun x6=>
 Z7a (decide (x6.State=x1))) (
 Z7a false)) (
 Z7a false)
theorem Z9a (x1 x2:Int) (x3:node_node) (x4:Msg) (r:Bool) (h:Z8a x1 x2 x3 x4=some r):Z03 Tryz.prog 40 [.iv x1,.elt (Z05 x2) 0,.elt ((ptrRow node_node.row) x3) 0,.elt (Msg.row x4) 0] (.bv r):=by
 refine FP ok40 fun w0 H0=>?_
 rw [Z8a] at h
 refine Vg 5 ?_;refine Zo4 (fun (x7:Bool)=>⟨an 5 (.bv x7::an 33 []),[],[]⟩) Z7a r ?_ fun J1=>?_
 ·intro x7 h;rw [Z7a] at h;(try dsimp only);exact MD ok40 h
 ·refine Zz6 fun all H=>?_;dsimp only[go_sem];refine GP H 3 31 [3,31] [(6,[.iv x2,.bv (decide (0≤x2)),.bv (decide (0≤x2))])] ?_;dsimp only[go_sem];refine Z25 8 h rfl (fun _ h=>?_) fun _ h=>?_
  ·dsimp only[go_sem]
   refine GP H 10 21 [11,3,2,18] [(9,[.elt (node_node.row x3) 0,.elt (node_node.row x3) 0,.elt (node_node.row x3) 0,.elt (node_node.row x3) 0,.elt (node_node.row x3) 0,.elt (node_node.row x3) 2,Sp2 x3.Node.DK.DI.SD,.iv x2]),(3,[.elt (Msg.row x4) 1,.iv x4.Epoch])] ?_
   dsimp only[go_sem];have ⟨x5,ex5,h⟩:=Bs h;refine Zt4 H.1 H.2.1 H.2.2.1 H.2.2.2 11 Side.row ex5 rfl rfl trivial rfl rfl rfl rfl (GP H 5 15 [19,15] [(18,[.elt (Side.row x5) 1,.iv x5.Epoch]),(2,[.bv (decide (x5.Epoch=x4.Epoch)),.bv (decide (x5.Epoch=x4.Epoch)),.bv (decide (x5.Epoch=x4.Epoch))])] ?_);dsimp only[go_sem];refine Z25 24 h rfl (fun _ h=>?_) fun _ h=>?_
   ·dsimp only[go_sem]
    refine GP H 9 6 [27,3,1,3] [(25,[.elt (node_node.row x3) 0,.elt (node_node.row x3) 0,.elt (node_node.row x3) 0,.elt (node_node.row x3) 0,.elt (node_node.row x3) 0,.elt (node_node.row x3) 2,Sp2 x3.Node.DK.DI.SD,.iv x2]),(3,[.iv x1])] ?_
    dsimp only[go_sem];have ⟨x6,ex6,h⟩:=Bs h;refine Zt4 H.1 H.2.1 H.2.2.1 H.2.2.2 27 Side.row ex6 rfl rfl trivial rfl rfl rfl rfl (GP H 5 0 [34] [(5,[.bv (decide (x6.State=x1))]),(28,[.elt (Side.row x6) 2,.iv x6.State]),(1,[.bv (decide (x6.State=x1)),.bv (decide (x6.State=x1))])] ?_);dsimp only[go_sem];refine GD ?_;exact Zx4 J1 h
   ·dsimp only[go_sem];refine GP H 15 0 [34] [(38,[.ff])] ?_;dsimp only[go_sem];refine GD ?_;exact Zx4 J1 h
  ·dsimp only[go_sem];refine GP H 31 0 [34] [(23,[.ff,.ff]),(13,[.ff])] ?_;dsimp only[go_sem];refine GD ?_;exact Zx4 J1 h
@[go_sem] def e86:EC:=(by have h:=hF Tryz.f86;(conv at h=>rhs;reduce);dsimp only[go_sem] at h;exact ⟨_,h⟩:DP Tryz.f86).1
theorem ok86:FnOK Tryz.prog 86 Tryz.f86 e86 [.c 2 (some 3)] 1 8:=okA
def Zaa (x1:DI):Option DI:=
 (Zj4 32 (([]:List Side)) x1.SD).bind fun x2=>
 some (DI.mk x1.ID x1.PH x2)
theorem Zba (x1 r:DI) (h:Zaa x1=some r):Z03 Tryz.prog 86 [.agg (DI.row x1)] (.agg (DI.row r)):=by
 refine FP ok86 fun w0 H0=>?_
 rw [Zaa] at h
 refine Vg 10 ?_;have ⟨x2,ex2,h⟩:=Bs h;refine Zu4 Side.row ex2 trivial rfl rfl rfl (Vg 8 ?_);refine Z17 1 ?_;dsimp only[go_sem];exact MD ok86 h
end
end NX
end Go.Proofs.YtdjkbodnjhgbcaaGreat
