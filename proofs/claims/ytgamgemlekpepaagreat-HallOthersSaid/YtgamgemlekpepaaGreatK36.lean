/-
  The function narthex/narthexlaw19.Own: its code compiled, a model, and that the code answers as the model. Written by a program of ours (lb.py). No statement of the seat is proved here.
-/
import Derived.Test.YtgamgemlekpepaaGreatK35
set_option maxRecDepth 100000
set_option maxHeartbeats 40000000
namespace Go.Proofs.YtgamgemlekpepaaGreat
namespace NX
open Go
noncomputable section
def Zu11 (x2:List ML):List NO→Option HL
| x20=>some (HL.mk x20 x2)
def Zv11 (x1:HL) (x2:List ML):(Int×List NO)→Option ((Int×List NO) ⊕ HL)
| (x8,x9)=>
 ifb (decide (x8<(ln NO.row x1.NS))) (
 (at_ x1.NS x8).bind fun x10=>
 (Z4z x10).bind fun x11=>
 (Z8c 176 x9 ([x11])).bind fun x13=>
 some (.inl (wr (x8+1),x13))) (
 Option.map Sum.inr ((Zu11 x2) x9))
def Zw11 (x1:HL):Option HL:=
 (Z8c 40 (([]:List ML)) x1.ML).bind fun x2=>
 loop (Zv11 x1 x2) (0,([]:List NO))
theorem Zx11 {x1 r} (h:Zw11 x1=some r):FPx 12 [.agg (HL.row x1)] (.agg (HL.row r)):=by
 have ok:=oJ 12 Tryz.f12 [.c 2 (some 2)] 1 28;refine FP ok fun w0 H0=>?_;rw [Zw11] at h;refine Vg 10 ?_;have ⟨x2,ex2,h⟩:=Bs h;refine Zmc ML.row ex2 trivial rfl rfl rfl (Vg 9 ?_);refine Vl [2,2] (fun x20=>([],[none,some ⟨29,[.nl,.nl]⟩,some ⟨29,[.osl 2,.osl 1]⟩],[none,Sq6 x2,Sq0 x20])) (Zu11 x2) r ?_ fun J1=>?_
 ·intro x20 h;rw [Zu11] at h;refine Vg 5 ?_;refine Zjj 2 (Ds ?_);refine Zjj 1 ?_;exact W
 ·refine Vg 1 ?_;refine Zkj 2 0 67 10 (Ds ?_);refine Mm h [1,3] (fun s=>([(4,.iv s.1)],[],[],[(2,Sq0 s.2)])) ?_;rintro n1 ⟨x8,x9⟩ y1 h hin1 hout1;rw [Zv11] at h;refine Vg 9 ?_;refine MI h (fun h=>?_) fun h=>?_
  ·refine Vg 3 ?_;have ⟨x10,ex10,h⟩:=Bs h;have ⟨x11,ex11,h⟩:=Bs h;have ⟨x13,ex13,h⟩:=Bs h;have q0:=Z5z ex11;refine Zgj fun all H=>Gs ?_;refine Vg 6 ?_;refine Zij 4 2 ?_;exact W
  ·exact W
@[go_sem] def e36:EC:=eQ Tryz.f36
theorem ok36:FnOK Tryz.prog 36 Tryz.f36 e36 [.c 4 (some 2),.t 5,.t 6] 2 45:=okA
def Zy11 (x1:List Int) (x2:Int):Option (List Int):=
 (Z101 x1 ([x2])).bind fun x3=>
 some x3
theorem Zz11 {x1 x2 r} (h:Zy11 x1 x2=some r):FPx 212 [Sp1 x1,.iv x2] (Sp1 r):=by have ok:=oJ 212 Tryz.f212 [.t 4] 2 7;refine FP ok fun w0 H0=>?_;rw [Zy11] at h;refine Vg 9 ?_;refine Zjj 0 (Ds ?_);refine VB h Z301 fun _ _ h=>?_;exact W
def Z021 (x1 x2:List Int):Option (List Int):=
 (Z601 x1 ((fun z=>Z401 z x2))).bind fun x3=>
 some x3
theorem Z121 {x1 x2 r} (h:Z021 x1 x2=some r):FPx 139 [Sp1 x1,Sp1 x2] (Sp1 r):=by have ok:=oJ 139 Tryz.f139 [.t 4] 2 6;refine FP ok fun w0 H0=>?_;rw [Z021] at h;refine Vg 9 ?_;refine Zf8 0 rfl rfl (Ds ?_);refine VB h (fun e=>Z701 e ⟨by kernel_rfl,rfl,fun z r hz=>Z501 hz⟩) fun _ _ h=>?_;exact W
def Z221 (x1:BK) (x2:Int) (x4:List Int):Int→Option (BK×Int)
| x7=>
 ifb (!decide (x7=0)) (
 some ((BK.mk 0 (([]:List SE))),x7)) (
 (Zax x1).bind fun x8=>
 (Z8c 48 x8 ([SE.mk x2 x4 0 0])).bind fun x9=>
 some ((BK.mk x2 x9),0))
def Z321 (x1:BK) (x2:Int) (x3:List Int):Option (BK×Int):=
 (Z8s x3).bind fun x4=>
 (Ze01 x1).bind fun x5=>
 ifb (!decide (x5=0)) (
 (Z221 x1 x2 x4) x5) (
 ifb (decide (x2≤x1.LA)) (
 (Z221 x1 x2 x4) 171) (
 (Zdx x4).bind fun x6=>
 ifb x6 (
 (Z221 x1 x2 x4) 172) (
 ifb (decide ((ln SE.row x1.SE)=8)) (
 (Z221 x1 x2 x4) 173) (
 (Z221 x1 x2 x4) x5))))
theorem Z421 {x1 x2 x3 r} (h:Z321 x1 x2 x3=some r):FPx 121 [.agg (BK.row x1),.iv x2,Sp1 x3] (.tup [.agg (BK.row r.1),.iv r.2]):=by
 have ok:=oJ 121 Tryz.f121 [.c 6 (some 2),.t 7] 3 44;refine FP ok fun w0 H0=>?_;rw [Z321] at h;refine Vg 9 ?_;have ⟨x4,ex4,h⟩:=Bs h;refine Zud trivial (Z9s ex4) (h:=?_);refine Vg 5 ?_;refine VB h Zf01 fun _ _ h=>?_;refine Vg 10 ?_;refine Vk [1,1,1,1,2,1,1,1] (fun x7=>[(9,.iv x7)]) (Z221 x1 x2 x4) r ?_ fun J1=>?_
 ·intro x7 h;rw [Z221] at h;refine Vg 7 ?_;refine MI h (fun h=>?_) fun h=>?_
  ·exact W
  ·refine Vg 4 ?_;refine VR [] [] 2 1 h Zbx fun _ _ h=>?_;refine Vg 15 ?_;refine Zjj 0 ?_;refine Vg 1 ?_;have ⟨x9,ex9,h⟩:=Bs h;refine Zmc SE.row ex9 trivial rfl rfl rfl (Vg 9 ?_);refine Zjj 3 ?_;exact W
 ·refine MI h (fun h=>?_) fun h=>?_
  ·exact W
  ·refine Vg 8 ?_;refine MI h (fun h=>?_) fun h=>?_
   ·exact W
   ·refine Vg 3 ?_;refine VN (LR.slice 0 rfl) h Zex fun _ _ h=>?_;exact W
def Z521 (x1:BK):Bool→Option (BK×Int×Int)
| x4=>
 ifb x4 (
 some ((BK.mk 0 (([]:List SE))),0,175)) (
 (Zax x1).bind fun x5=>
 (at_ x5 0).bind fun x6=>
 some ((BK.mk x1.LA (x5.set (Int.toNat (0)) (SE.mk x6.ID x6.NE 1 x6.Age))),x6.ID,0))
def Z621 (x1:BK):Option (BK×Int×Int):=
 (Ze01 x1).bind fun x2=>
 ifb (!decide (x2=0)) (
 some ((BK.mk 0 (([]:List SE))),0,x2)) (
 ifb (decide ((ln SE.row x1.SE)=0)) (
 (Z521 x1) true) (
 (at_ x1.SE 0).bind fun x3=>
 (Z521 x1) (decide (x3.SS=1))))
theorem Z721 {x1 r} (h:Z621 x1=some r):FPx 182 [.agg (BK.row x1)] (.tup [.agg (BK.row r.1),.iv r.2.1,.iv r.2.2]):=by
 have ok:=oJ 182 Tryz.f182 [.c 2 (some 2),.t 3,.t 4] 1 36;refine FP ok fun w0 H0=>?_;rw [Z621] at h;refine Vg 11 ?_;refine VB h Zf01 fun _ _ h=>?_;refine Vg 7 ?_;refine MI h (fun h=>?_) fun h=>?_
 ·exact W
 ·refine Vg 9 ?_;refine Vk [1,2] (fun x4=>[(23,.bv x4)]) (Z521 x1) r ?_ fun J1=>?_
  ·intro x4 h;rw [Z521] at h;refine MI h (fun h=>?_) fun h=>?_
   ·exact W
   ·refine Vg 4 ?_;refine VR [] [] 2 0 h Zbx fun _ _ h=>?_;refine Vg 6 ?_;have ⟨x6,ex6,h⟩:=Bs h;refine Zee SE.row ex6 trivial rfl rfl rfl (Vg 1 ?_);refine Zve [.iv 1] SE.row (y':=(SE.mk x6.ID x6.NE 1 x6.Age)) ex6 trivial rfl rfl rfl (by first | exact Zrb _ | simp [go_sem]) rfl rfl rfl rfl (Zg6 2 (Ds ?_));refine An (Zgj fun all H=>Gs ?_);refine Zjj 0 ?_;exact W
  ·exact W
def Z821 (x1:BK) (x2:Int):Option (Int×Int):=
 (Ze01 x1).bind fun x3=>
 ifb (!decide (x3=0)) (
 some (0,x3)) (
 (Zms x1 x2).bind fun x4=>
 ifb (decide (x4<0)) (
 some (0,174)) (
 (at_ x1.SE x4).bind fun x5=>
 some (x5.SS,0)))
theorem Z921 {x1 x2 r} (h:Z821 x1 x2=some r):FPx 205 [.agg (BK.row x1),.iv x2] (.tup [.iv r.1,.iv r.2]):=by
 have ok:=oJ 205 Tryz.f205 [.t 4,.t 5] 2 22;refine FP ok fun w0 H0=>?_;rw [Z821] at h;refine Vg 10 ?_;refine VB h Zf01 fun _ _ h=>?_;refine Vg 7 ?_;refine MI h (fun h=>?_) fun h=>?_
 ·exact W
 ·refine Vg 5 ?_;refine VB h Zns fun _ _ h=>?_;exact W
def Za21:Bool→Option Int
| x3=>
 ifb x3 (
 some 130) (
 some 0)
def Zb21 (x1:DI):Option Int:=
 ifb (decide (x1.ID<0)) (
 Za21 true) (
 ifb (decide (x1.PH<0)) (
 Za21 true) (
 ifb (decide (2<x1.PH)) (
 Za21 true) (
 ifb (decide (64≤(ln SX.row x1.SD))) (
 Za21 true) (
 (Zg01 x1.SD ((-1)) x1).bind fun x2=>
 Za21 x2.1))))
theorem Zc21 {x1 r} (h:Zb21 x1=some r):FPx 101 [.agg (DI.row x1)] (.iv r):=by
 have ok:=oJ 101 Tryz.f101 [.t 2] 1 30;refine FP ok fun w0 H0=>?_;rw [Zb21] at h;refine Vg 22 ?_;refine Vl [] (fun x3=>([(30,.bv x3)],[],[])) Za21 r ?_ fun J1=>?_
 ·intro x3 h;rw [Za21] at h;exact W
 ·refine MC 9 h (fun h=>?_) fun h=>?_
  ·exact W
  ·refine Vg 5 ?_;refine MC 14 h (fun h=>?_) fun h=>?_
   ·exact W
   ·refine Vg 5 ?_;refine MC 19 h (fun h=>?_) fun h=>?_
    ·exact W
    ·refine Vg 6 ?_;refine MC 25 h (fun h=>?_) fun h=>?_
     ·exact W
     ·refine Vg 3 ?_;refine VR [1,0] [] 2 0 h Zh01 fun _ _ h=>?_;exact W
def Zd21 (x1:BK) (x2:Int) (x4:List SE):Bool→Option (BK×Int×Int)
| x6=>
 ifb x6 (
 some ((BK.mk x1.LA x4),0,0)) (
 (at_ x4 0).bind fun x7=>
 ifb (decide ((max x7.Age (wr ((min x7.Age 4611686018427387903)+1)))<x2)) (
 some ((BK.mk x1.LA (x4.set (Int.toNat (0)) (SE.mk x7.ID x7.NE x7.SS (max x7.Age (wr ((min x7.Age 4611686018427387903)+1)))))),0,0)) (
 (Zks 0 1 (x4.set (Int.toNat (0)) (SE.mk x7.ID x7.NE x7.SS (max x7.Age (wr ((min x7.Age 4611686018427387903)+1)))))).bind fun x8=>
 some ((BK.mk x1.LA x8),x7.ID,0)))
def Ze21 (x1:BK) (x2:Int):Option (BK×Int×Int):=
 (Ze01 x1).bind fun x3=>
 ifb (!decide (x3=0)) (
 some ((BK.mk 0 (([]:List SE))),0,x3)) (
 (Zax x1).bind fun x4=>
 ifb (decide ((ln SE.row x4)=0)) (
 (Zd21 x1 x2 x4) true) (
 (at_ x4 0).bind fun x5=>
 (Zd21 x1 x2 x4) (!decide (x5.SS=1))))
theorem Zf21 {x1 x2 r} (h:Ze21 x1 x2=some r):FPx 128 [.agg (BK.row x1),.iv x2] (.tup [.agg (BK.row r.1),.iv r.2.1,.iv r.2.2]):=by
 have ok:=oJ 128 Tryz.f128 [.c 4 (some 2),.t 5,.t 6] 2 63;refine FP ok fun w0 H0=>?_;rw [Ze21] at h;refine Vg 11 ?_;refine VB h Zf01 fun _ _ h=>?_;refine Vg 7 ?_;refine MI h (fun h=>?_) fun h=>?_
 ·exact W
 ·refine Vg 4 ?_;refine VR [] [] 2 0 h Zbx fun x4 _ h=>?_;refine Vg 10 ?_;refine Vk [1,2,1,1] (fun x6=>[(29,.bv x6)]) (Zd21 x1 x2 x4) r ?_ fun J1=>?_
  ·intro x6 h;rw [Zd21] at h;refine MI h (fun h=>?_) fun h=>?_
   ·refine Vg 7 ?_;refine Zjj 0 ?_;exact W
   ·refine Vg 5 ?_;have ⟨x7,ex7,h⟩:=Bs h;refine Zee SE.row ex7 trivial rfl rfl rfl (Vg 3 ?_);refine Zgj fun all H=>Ds (GP H 7 8 [4,1,3,7] [(34,[.oel 0 (Int.toNat (0)*4) 0,.oel 0 (Int.toNat (0)*4) 0,.oel 0 (Int.toNat (0)*4) 0,.oel 0 (Int.toNat (0)*4) 3]),(1,[.oel 0 (Int.toNat (0)*4) 0,.oel 0 (Int.toNat (0)*4) 0,.oel 0 (Int.toNat (0)*4) 3])] (Ds ?_));refine Zoa 4 8 rfl ?_ ?_
    ·refine RL ?_;refine RO ?_;refine RL ?_;refine R1 ?_;refine Gn H 1 4 ?_;refine R1 ?_;refine Gn H 2 1 ?_;refine RSo [.iv (max x7.Age (wr ((min x7.Age 4611686018427387903)+1)))] (SE.mk x7.ID x7.NE x7.SS (max x7.Age (wr ((min x7.Age 4611686018427387903)+1)))) ?_;refine GD (Vg 6 ?_);refine Zle SE.row (Zfe ex7) trivial rfl rfl rfl (Vg 3 ?_);refine MI h (fun h=>?_) fun h=>?_
     ·refine Vg 7 ?_;refine Zjj 0 ?_;exact W
     ·refine Vg 6 ?_;refine Zle SE.row (Zfe ex7) trivial rfl rfl rfl (Vg 6 ?_);refine VR [] [0] 2 1 h Zls fun x8 ex8 h=>?_;refine Vg 11 ?_;refine Zjj 1 ?_;exact W
    ·refine RL ?_;refine Zoa 4 9 rfl ?_ ?_
     ·refine RL ?_;refine R1 ?_;refine Gn H 1 4 ?_;refine R1 ?_;refine Gn H 2 1 ?_;refine RSo [.iv (max x7.Age (wr ((min x7.Age 4611686018427387903)+1)))] (SE.mk x7.ID x7.NE x7.SS (max x7.Age (wr ((min x7.Age 4611686018427387903)+1)))) ?_;refine GD (Vg 6 ?_);refine Zle SE.row (Zfe ex7) trivial rfl rfl rfl (Vg 3 ?_);refine MI h (fun h=>?_) fun h=>?_
      ·refine Vg 7 ?_;refine Zjj 0 ?_;exact W
      ·refine Vg 6 ?_;refine Zle SE.row (Zfe ex7) trivial rfl rfl rfl (Vg 6 ?_);refine VR [] [0] 2 1 h Zls fun x8 ex8 h=>?_;refine Vg 11 ?_;refine Zjj 1 ?_;exact W
     ·refine RV ?_;refine Gn H 1 5 ?_;refine RO ?_;refine RL ?_;refine R1 ?_;refine Gn H 2 1 ?_;refine RSo [.iv (max x7.Age (wr ((min x7.Age 4611686018427387903)+1)))] (SE.mk x7.ID x7.NE x7.SS (max x7.Age (wr ((min x7.Age 4611686018427387903)+1)))) ?_;refine GD (Vg 6 ?_);refine Zle SE.row (Zfe ex7) trivial rfl rfl rfl (Vg 3 ?_);refine MI h (fun h=>?_) fun h=>?_
      ·refine Vg 7 ?_;refine Zjj 0 ?_;exact W
      ·refine Vg 6 ?_;refine Zle SE.row (Zfe ex7) trivial rfl rfl rfl (Vg 6 ?_);refine VR [] [0] 2 1 h Zls fun _ _ h=>?_;refine Vg 11 ?_;refine Zjj 1 ?_;exact W
  ·refine MC 22 h (fun h=>?_) fun h=>?_
   ·exact W
   ·refine Vg 2 ?_;have ⟨x5,ex5,h⟩:=Bs h;refine Zee SE.row ex5 trivial rfl rfl rfl (Vg 1 ?_);refine Zle SE.row ex5 trivial rfl rfl rfl ?_;exact W
@[go_sem] def e132:EC:=eQ Tryz.f132
theorem Zg21:FnOK Tryz.prog 132 Tryz.f132 e132 [] 3 40:=okA
def Zh21 (l:List SX) (i:Int) (vs:List SX):Option (List SX):=Zfi 32 l i vs
theorem Zi21 {l i vs r} (h:Zh21 l i vs=some r):
  Z1f Tryz.prog 131 [.osl 0,.iv i,.osl 1] [] [some ⟨112,8,l.map SX.row⟩,some ⟨112,8,List.map SX.row vs⟩] (.osl 2) [] [none,none,some ⟨112,8,r.map SX.row⟩]:=by
 obtain ⟨v,rfl,h⟩:=Zgi h;obtain ⟨hr,h0,h1,hb,h63⟩:=Zhi h;have hln:(l.map SX.row).length=l.length:=List.length_map _;have hw1:wr ((l.length:Int)+1)=(l.length:Int)+1:=IntWalk.i64_in _ ⟨by omega,by omega⟩;have hw2:wr ((l.length:Int)+1-i)=(l.length:Int)+1-i:=IntWalk.i64_in _ ⟨by omega,by omega⟩;have hw3:wr (i+1)=i+1:=IntWalk.i64_in _ ⟨by omega,by omega⟩;obtain ⟨y,hy⟩:∃y,y=v.row:=⟨_,rfl⟩
 have hv1: [v].map SX.row=[y]:=by rw [hy];rfl
 rw [hv1];have hr1:(([y]:List (List AV)).length:Int)=1:=rfl;have hR:(l.map SX.row).take i.toNat++y::(l.map SX.row).drop i.toNat=r.map SX.row:=by rw [hr,hy];simp [List.map_take,List.map_drop]
 have hw4:(i+1).toNat=i.toNat+1:=by omega
 have hw5:((l.length:Int)+1).toNat=l.length+1:=by omega
 refine Z7i (j:=0) Zj01 rfl rfl rfl (by first | rfl | simp [go_sem]) rfl rfl (i<l.length) (fun h=>by rw [hln];omega) (fun w M hc=>?_) (fun w M g cap hq e1 hc e2=>?_)
 ·dsimp only[lun,List.cons_append,List.nil_append];refine Zg6 100 ?_;dsimp only[go_sem];refine An ?_;refine Z87 trivial (Zai (l:=i) rfl rfl rfl h0 (by rw [hln];exact h1)) rfl ?_;refine Zg6 100 ?_;dsimp only[go_sem];refine An ?_;refine Z44 rfl (fun e=>by simp at e) fun _=>?_;refine Zg6 100 ?_;dsimp only[go_sem];refine An ?_;refine Z44 rfl (fun e=>?_) fun hne=>?_
  ·have hi:i=l.length:=by simpa using e
   subst hi;refine Zg6 100 ?_;dsimp only[go_sem];refine An ?_;rw [←hv1];refine Zmc SX.row (l':=l) (m':=[v]) (v:=r) ?_ trivial rfl rfl rfl ?_
   ·unfold Z8c;rw [if_pos ⟨by simpa using hb,by simpa using h63⟩,hr];simp
   refine Zg6 100 ?_;dsimp only[go_sem];refine An ?_;exact Zmj Zj01
  ·have hi:i<l.length:=by
    have:¬i=l.length:=by simpa using hne
    omega
   have hc:=hc hi;have hcl:Zth (M.σ 0)<l.length+1:=by simpa [hln] using hc
   refine Zg6 100 ?_;dsimp only[go_sem];refine An ?_;refine Z87 trivial (Zxh rfl rfl (by show 0<2;omega)) rfl ?_;refine Zg6 100 ?_;dsimp only[go_sem];refine An ?_;rw [show (Ctx.lent Tryz.prog w M [] [some ⟨112,8,l.map SX.row⟩,some ⟨112,8,[y]⟩] 0 2).ps 0=M.σ 0 from rfl];simp only [hln,hr1,hw1];refine Z44 rfl (fun _=>?_) fun e=>?_
   ·refine Zg6 100 ?_;dsimp only[go_sem];refine An ?_;refine Z87 trivial (Zig (l:=0) (h:=i) rfl rfl (by rw [hln]<;>omega) rfl rfl (by omega) h0 (by rw [hln];exact h1)) rfl ?_;refine Zg6 100 ?_;dsimp only[go_sem];refine An ?_;simp only [hw1,hw2];have hik:i=(i.toNat:Int):=by omega
    refine Z87 trivial (Z5i (i:=i.toNat) (m:=(l.length:Int)+1-i) rfl rfl (by rw [hln]<;>omega) (by show 0<2;omega) rfl (by omega) ?_ rfl ?_ (by omega) rfl) rfl ?_
    ·show (Zth (M.σ 0):Int)<_;omega
    ·have:(i.toNat:Int)+((l.length:Int)+1-i)=((l.length+1:Nat):Int):=by omega
     rw [this];omega
    refine Zg6 100 ?_;dsimp only[go_sem];refine An ?_;have hrl:((l.map SX.row).take i.toNat++List.replicate ((l.length:Int)+1-i).toNat [AV.iv 0,AV.iv 0,AV.iv 0,AV.ff,AV.ff,AV.ff,AV.ff,AV.ff]).length=l.length+1:=by rw [List.length_append,List.length_take,List.length_replicate,hln];omega
    refine Z87 trivial (Zig (l:=i) (h:=(l.length:Int)+1) rfl rfl (by rw [hrl]<;>omega) rfl (by simp only [bnd,hrl];rfl) h0 (by omega) (by rw [hrl]<;>omega)) rfl ?_;refine Zg6 100 ?_;dsimp only[go_sem];refine An ?_;refine Z4i 44 1 rfl rfl (by show 0<1;omega) ?_;dsimp only[go_sem];refine Z87 trivial (Zbi ((l.map SX.row).take i.toNat++y::List.replicate ((l.map SX.row).length-i.toNat) [AV.iv 0,AV.iv 0,AV.iv 0,AV.ff,AV.ff,AV.ff,AV.ff,AV.ff]) rfl rfl rfl rfl (by rw [hrl]<;>omega) (by show 0+1≤1;omega) (by rw [hrl]<;>omega) (by show 0<1;omega) (Zci (by rw [hln]<;>omega) (by rw [hln]<;>omega) (by omega) rfl)) rfl ?_;refine Zg6 100 ?_;dsimp only[go_sem];refine An ?_;refine Zgj fun all H=>?_;dsimp only[go_sem];refine GN H 6 3 ?_;dsimp only[go_sem];refine An ?_;simp only [hw3];have hr2:((l.map SX.row).take i.toNat++y::List.replicate ((l.map SX.row).length-i.toNat) [AV.iv 0,AV.iv 0,AV.iv 0,AV.ff,AV.ff,AV.ff,AV.ff,AV.ff]).length=l.length+1:=by rw [List.length_append,List.length_take,List.length_cons,List.length_replicate,hln];omega
    refine Zoa 4 7 rfl ?_ ?_
    ·refine Zqa H.1 trivial (Zig (l:=i+1) (h:=(l.length:Int)+1) rfl rfl (by rw [hr2]<;>omega) rfl (by simp only [bnd,hr2];rfl) (by omega) (by omega) (by rw [hr2]<;>omega)) rfl (Z8a _ _) ?_;dsimp only[go_sem];refine Zna 7 rfl ?_;refine Zqa H.1 trivial (Zig (l:=i) (h:=(l.length:Int)) rfl rfl (by rw [hln]<;>omega) rfl (by simp only [bnd,hln]) h0 (by omega) (by rw [hln];exact Int.le_refl _)) rfl (Z8a _ _) ?_;dsimp only[go_sem];refine Zna 8 rfl ?_;refine Zqa (S1:=⟨_,_,_⟩) H.1 trivial (Zbi (r.map SX.row) rfl rfl rfl rfl (by rw [hr2]<;>omega) (by rw [hln]<;>omega) (by rw [hr2]<;>omega) (by omega) ?_) rfl (fun _ _ _ _ h _ _=>h) ?_
     ·rw [show (i+1).toNat=i.toNat+1 by omega,←hR];exact Zdi (by rw [hln]<;>omega) (by rw [hln]<;>omega) (by rw [hln]<;>omega)
     dsimp only[go_sem];refine GD ?_;refine Zg6 100 ?_;dsimp only[go_sem];refine An ?_;exact Zmj Zj01
    ·refine Zqa H.1 trivial (Zig (l:=i) (h:=(l.length:Int)) rfl rfl (by rw [hln]<;>omega) rfl (by simp only [bnd,hln]) h0 (by omega) (by rw [hln];exact Int.le_refl _)) rfl (Z8a _ _) ?_;dsimp only[go_sem];refine Zna 4 rfl ?_;refine Zqa H.1 trivial (Zig (l:=i+1) (h:=(l.length:Int)+1) rfl rfl (by rw [hr2]<;>omega) rfl (by simp only [bnd,hr2];rfl) (by omega) (by omega) (by rw [hr2]<;>omega)) rfl (Z8a _ _) ?_;dsimp only[go_sem];refine Zna 8 rfl ?_;refine Zqa (S1:=⟨_,_,_⟩) H.1 trivial (Zbi (r.map SX.row) rfl rfl rfl rfl (by rw [hr2]<;>omega) (by rw [hln]<;>omega) (by rw [hr2]<;>omega) (by omega) ?_) rfl (fun _ _ _ _ h _ _=>h) ?_
     ·rw [show (i+1).toNat=i.toNat+1 by omega,←hR];exact Zdi (by rw [hln]<;>omega) (by rw [hln]<;>omega) (by rw [hln]<;>omega)
     dsimp only[go_sem];refine GD ?_;refine Zg6 100 ?_;dsimp only[go_sem];refine An ?_;exact Zmj Zj01
   ·exact absurd e (by simpa using (by omega:(Zth (M.σ 0):Int)<l.length+1))
 ·dsimp only[lun,List.cons_append,List.nil_append];have hcn:(Ctx.lent Tryz.prog w M [] [some ⟨112,8,l.map SX.row⟩,some ⟨112,8,[y]⟩,none] 0 3).nq=3:=rfl;have hp0:(Ctx.lent Tryz.prog w M [] [some ⟨112,8,l.map SX.row⟩,some ⟨112,8,[y]⟩,none] 0 3).ps 0 = .slice (some ⟨g,0,none⟩) l.length cap:=by rw [hln] at e1;exact e1
  have hp2:(Ctx.lent Tryz.prog w M [] [some ⟨112,8,l.map SX.row⟩,some ⟨112,8,[y]⟩,none] 0 3).ps 2 = .slice (some ⟨g,0,none⟩) (l.length+1) cap:=by rw [hln] at e2;exact e2
  have hc:l.length+1≤cap:=by rw [hln] at hc;exact hc
  refine Zg6 100 ?_;dsimp only[go_sem];refine An ?_;refine Z87 trivial (Zai (l:=i) rfl rfl rfl h0 (by rw [hln];exact h1)) rfl ?_;refine Zg6 100 ?_;dsimp only[go_sem];refine An ?_;refine Z44 rfl (fun e=>by simp at e) fun _=>?_;refine Zg6 100 ?_;dsimp only[go_sem];refine An ?_;refine Z44 rfl (fun e=>?_) fun _=>?_
  ·exfalso;have:i=l.length:=by simpa using e
   omega
  refine Zg6 100 ?_;dsimp only[go_sem];refine An ?_;refine Z87 trivial (Zxh rfl rfl (by show 0<3;omega)) rfl ?_;rw [hp0];refine Zg6 100 ?_;dsimp only [go_sem,Zth];refine An ?_;simp only [hln,hr1,hw1];refine Z44 rfl (fun e=>?_) fun _=>?_
  ·exfalso;have:(cap:Int)<l.length+1:=by simpa using e
   omega
  refine Zg6 100 ?_;dsimp only[go_sem];refine An ?_;simp only [hw1];refine Z87 trivial (Zyh (h:=(l.length:Int)+1) rfl (by show 0<3;omega) (by show 2<3;omega) hp0 hp2 hc rfl rfl rfl) rfl ?_;refine Zg6 100 ?_;dsimp only[go_sem];refine An ?_;simp only [hw3];refine Z87 trivial (Zzh (l:=i+1) (h:=(l.length:Int)+1) rfl (by show 2<3;omega) hp2 hc rfl rfl (by omega) (by omega) (by omega)) rfl ?_;refine Zg6 100 ?_;dsimp only[go_sem];refine An ?_;refine Z87 trivial (Z1i (ft:=Tryz.f171) (tS:=56) (tR:=4) (e:=112) (j:=0) (by kernel_rfl) (by kernel_rfl) (by kernel_rfl) (by kernel_rfl) (by kernel_rfl) (by kernel_rfl) (by kernel_rfl) rfl rfl rfl rfl (by omega) (by show 0<1;omega) (by show 0<(l.map SX.row).length;rw [hln];omega) (by show 0<3;omega) (by show 2<3;omega) hp0 hp2) rfl ?_;refine Zg6 100 ?_;dsimp only[go_sem];refine An ?_;have hrs:((l.map SX.row).take (i.toNat+1)++(l.map SX.row).drop i.toNat).length=l.length+1:=by rw [List.length_append,List.length_take,List.length_drop,hln];omega
  refine Zgj fun all H=>?_;dsimp only[go_sem];refine GN H 6 3 ?_;dsimp only[go_sem];refine An ?_;simp only [hw3];refine Zoa 4 7 rfl ?_ ?_
  ·refine Zqa H.1 trivial (Zzh (l:=i+1) (h:=(l.length:Int)+1) rfl (by show 2<3;omega) hp2 hc rfl rfl (by omega) (by omega) (by omega)) rfl (Z8a _ _) ?_;dsimp only[go_sem];refine Zna 7 rfl ?_;refine Zqa H.1 trivial (Zzh (l:=i) (h:=(l.length:Int)+1) rfl (by show 2<3;omega) hp2 hc rfl rfl h0 (by omega) (by omega)) rfl (Z8a _ _) ?_;dsimp only[go_sem];simp only [hw4,hw5,Nat.add_sub_add_right];refine Zna 8 rfl ?_;refine Zqa (S1:=⟨_,_,_⟩) H.1 trivial (Z2i (i:=i.toNat) rfl rfl rfl hln (by omega) (by show 2<3;omega) (by show 0<3;omega) (by show 2<3;omega) hp0 hp2 hc) rfl (fun _ _ _ _ h _ _=>h) ?_;dsimp only[go_sem];refine GD ?_;refine Zg6 100 ?_;dsimp only[go_sem];refine An ?_;refine Z87 trivial (Zzh (l:=i) (h:=(l.length:Int)+1) rfl (by show 2<3;omega) hp2 hc rfl rfl h0 (by omega) (by omega)) rfl ?_;refine Zg6 100 ?_;dsimp only[go_sem];refine An ?_;refine Z4i 81 1 rfl rfl (by show 0<1;omega) ?_;dsimp only[go_sem];refine Z87 trivial (Zbi (r.map SX.row) rfl rfl rfl rfl (by rw [hrs,hw5]<;>omega) (by show 0+1≤1;omega) (by rw [hrs]<;>omega) (by show 0<1;omega) (by rw [←hR];exact Zei (by rw [hln]<;>omega) (by omega) rfl)) rfl ?_;refine Zg6 100 ?_;dsimp only[go_sem];refine An ?_;exact Zmj Zj01
  ·refine Zqa H.1 trivial (Zzh (l:=i) (h:=(l.length:Int)+1) rfl (by show 2<3;omega) hp2 hc rfl rfl h0 (by omega) (by omega)) rfl (Z8a _ _) ?_;dsimp only[go_sem];refine Zna 4 rfl ?_;refine Zqa H.1 trivial (Zzh (l:=i+1) (h:=(l.length:Int)+1) rfl (by show 2<3;omega) hp2 hc rfl rfl (by omega) (by omega) (by omega)) rfl (Z8a _ _) ?_;dsimp only[go_sem];simp only [hw4,hw5,Nat.add_sub_add_right];refine Zna 8 rfl ?_;refine Zqa (S1:=⟨_,_,_⟩) H.1 trivial (Z2i (i:=i.toNat) rfl rfl rfl hln (by omega) (by show 2<3;omega) (by show 0<3;omega) (by show 2<3;omega) hp0 hp2 hc) rfl (fun _ _ _ _ h _ _=>h) ?_;dsimp only[go_sem];refine GD ?_;refine Zg6 100 ?_;dsimp only[go_sem];refine An ?_;refine Z87 trivial (Zzh (l:=i) (h:=(l.length:Int)+1) rfl (by show 2<3;omega) hp2 hc rfl rfl h0 (by omega) (by omega)) rfl ?_;refine Zg6 100 ?_;dsimp only[go_sem];refine An ?_;refine Z4i 81 1 rfl rfl (by show 0<1;omega) ?_;dsimp only[go_sem];refine Z87 trivial (Zbi (r.map SX.row) rfl rfl rfl rfl (by rw [hrs,hw5]<;>omega) (by show 0+1≤1;omega) (by rw [hrs]<;>omega) (by show 0<1;omega) (by rw [←hR];exact Zei (by rw [hln]<;>omega) (by omega) rfl)) rfl ?_;refine Zg6 100 ?_;dsimp only[go_sem];refine An ?_;exact Zmj Zj01
end
end NX
end Go.Proofs.YtgamgemlekpepaaGreat
