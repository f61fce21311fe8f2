/-
  The function narthex/set.Of: its code compiled, a model, and that the code answers as the model. Written by a program of ours (lb.py). No statement of the seat is proved here.
-/
import Derived.Test.YtgamgemlekpepaaGreatK23
set_option maxRecDepth 100000
set_option maxHeartbeats 40000000
namespace Go.Proofs.YtgamgemlekpepaaGreat
namespace NX
open Go
noncomputable section
def Z3s:Go.Shelf.Ren:=⟨(fun | 189=>166 | 125=>204 | 257=>203 | 128=>226 | 129=>227 | 294=>217 | 295=>218 | 296=>219 | 297=>220 | 298=>221 | 299=>222 | 216=>223 | 300=>224 | 301=>225 | 328=>236 | 329=>237 | 330=>238 | 331=>239 | 332=>240 | 215=>235 | 343=>245 | n=>n),(fun | 28=>40 | 3=>3 | 46=>221 | 0=>0 | 51=>262 | 53=>264 | 4=>4 | 183=>255 | 182=>254 | 131=>188 | 5=>5 | 9=>9 | 218=>268 | 222=>272 | 228=>277 | 229=>278 | n=>n),(fun | n=>n)⟩
theorem Z4s:Lays.n189 Tryz.prog Z3s where
 mixed:=by kernel_rfl
 f125:=Tryz.func204.trans (congrArg some (by kernel_rfl))
 f128:=Tryz.func226.trans (congrArg some (by kernel_rfl))
 f129:=Tryz.func227.trans (congrArg some (by kernel_rfl))
 f189:=Tryz.func166.trans (congrArg some (by kernel_rfl))
 f215:=Tryz.func235.trans (congrArg some (by kernel_rfl))
 f216:=Tryz.func223.trans (congrArg some (by kernel_rfl))
 f257:=Tryz.func203.trans (congrArg some (by kernel_rfl))
 f294:=Tryz.func217.trans (congrArg some (by kernel_rfl))
 f295:=Tryz.func218.trans (congrArg some (by kernel_rfl))
 f296:=Tryz.func219.trans (congrArg some (by kernel_rfl))
 f297:=Tryz.func220.trans (congrArg some (by kernel_rfl))
 f298:=Tryz.func221.trans (congrArg some (by kernel_rfl))
 f299:=Tryz.func222.trans (congrArg some (by kernel_rfl))
 f300:=Tryz.func224.trans (congrArg some (by kernel_rfl))
 f301:=Tryz.func225.trans (congrArg some (by kernel_rfl))
 f328:=Tryz.func236.trans (congrArg some (by kernel_rfl))
 f329:=Tryz.func237.trans (congrArg some (by kernel_rfl))
 f330:=Tryz.func238.trans (congrArg some (by kernel_rfl))
 f331:=Tryz.func239.trans (congrArg some (by kernel_rfl))
 f332:=Tryz.func240.trans (congrArg some (by kernel_rfl))
 f343:=Tryz.func245.trans (congrArg some (by kernel_rfl))
 t0:=Tryz.underlying0
 a0:=Tryz.isAgg0
 z0:=Tryz.sizeOf0
 v0:=Tryz.zeroValue0
 t3:=Tryz.underlying3
 a3:=Tryz.isAgg3
 z3:=Tryz.sizeOf3
 v3:=Tryz.zeroValue3
 t4:=Tryz.underlying4
 a4:=Tryz.isAgg4
 z4:=Tryz.sizeOf4
 v4:=Tryz.zeroValue4
 t5:=Tryz.underlying5
 a5:=Tryz.isAgg5
 z5:=Tryz.sizeOf5
 v5:=Tryz.zeroValue5
 t9:=Tryz.underlying9
 a9:=Tryz.isAgg9
 z9:=Tryz.sizeOf9
 v9:=Tryz.zeroValue9
 t28:=Tryz.underlying40
 a28:=Tryz.isAgg40
 z28:=Tryz.sizeOf40
 v28:=Tryz.zeroValue40
 t46:=Tryz.underlying221
 a46:=Tryz.isAgg221
 z46:=Tryz.sizeOf221
 v46:=Tryz.zeroValue221
 t51:=Tryz.underlying262
 a51:=Tryz.isAgg262
 z51:=Tryz.sizeOf262
 v51:=Tryz.zeroValue262
 t53:=Tryz.underlying264
 a53:=Tryz.isAgg264
 z53:=Tryz.sizeOf264
 v53:=Tryz.zeroValue264
 t131:=Tryz.underlying188
 a131:=Tryz.isAgg188
 z131:=Tryz.sizeOf188
 v131:=Tryz.zeroValue188
 t182:=Tryz.underlying254
 a182:=Tryz.isAgg254
 z182:=Tryz.sizeOf254
 v182:=Tryz.zeroValue254
 t183:=Tryz.underlying255
 a183:=Tryz.isAgg255
 z183:=Tryz.sizeOf255
 v183:=Tryz.zeroValue255
 t218:=Tryz.underlying268
 a218:=Tryz.isAgg268
 z218:=Tryz.sizeOf268
 v218:=Tryz.zeroValue268
 t222:=Tryz.underlying272
 a222:=Tryz.isAgg272
 z222:=Tryz.sizeOf272
 v222:=Tryz.zeroValue272
 t228:=Tryz.underlying277
 a228:=Tryz.isAgg277
 z228:=Tryz.sizeOf277
 v228:=Tryz.zeroValue277
 t229:=Tryz.underlying278
 a229:=Tryz.isAgg278
 z229:=Tryz.sizeOf278
 v229:=Tryz.zeroValue278
def Z5s:Go.Shelf.Ren:=⟨(fun | 20=>167 | n=>n),(fun | 22=>40 | 3=>3 | 4=>4 | 0=>0 | n=>n),(fun | n=>n)⟩
theorem Z6s:Lays2.n20 Tryz.prog Z5s where
 mixed:=by kernel_rfl
 f20:=Tryz.func167.trans (congrArg some (by kernel_rfl))
 t0:=Tryz.underlying0
 a0:=Tryz.isAgg0
 z0:=Tryz.sizeOf0
 v0:=Tryz.zeroValue0
 t3:=Tryz.underlying3
 a3:=Tryz.isAgg3
 z3:=Tryz.sizeOf3
 v3:=Tryz.zeroValue3
 t4:=Tryz.underlying4
 a4:=Tryz.isAgg4
 z4:=Tryz.sizeOf4
 v4:=Tryz.zeroValue4
 t22:=Tryz.underlying40
 a22:=Tryz.isAgg40
 z22:=Tryz.sizeOf40
 v22:=Tryz.zeroValue40
 i3:=by kernel_rfl
@[go_sem] def Z7s:EC:=eQ Tryz.f122
def Z8s (x1:List Int):Option (List Int):=
 (Z9l x1).bind fun x2=>
 ifb (decide (x2.length<4611686018427387904)) (
 some (Lib.compact (x2.mergeSort fun x y=>decide (x≤y)))) none
theorem Z9s {x1 r} (h:Z8s x1=some r):FOx 122 [Sp1 x1] 3 1 (List.map Z4d r):=by
 have ok:=oK 122 Tryz.f122 Z7s [.t 2] 1 9;refine Zrd ok rfl fun w0 H0=>?_;rw [Z8s] at h;refine Zg6 100 ?_;dsimp only [Z7s,go_sem];refine ⟨by simp,?_⟩;have ⟨x2,ex2,h⟩:=Option.bind_eq_some_iff.1 h;refine Zud trivial (Zal ex2) (by first | exact Zrb _ | simp [go_sem]) (by first | rfl | simp [go_sem]) ?_;refine Zg6 100 ?_;dsimp only [Z7s,go_sem];refine ⟨by simp,?_⟩;by_cases hl:x2.length<4611686018427387904
 ·rw [show decide (x2.length<4611686018427387904)=true from decide_eq_true hl] at h;have h:some (Lib.compact (x2.mergeSort fun x y=>decide (x≤y)))=some r:=h;refine Zek Z4s x2 trivial (by kernel_rfl) rfl rfl hl ?_;refine Zg6 100 ?_;dsimp only [Z7s,go_sem];refine ⟨by simp,?_⟩;refine Zgk Z6s (x2.mergeSort fun x y=>decide (x≤y)) trivial (by kernel_rfl) rfl rfl (by simpa using hl) ?_;refine Zg6 100 ?_;dsimp only [Z7s,go_sem];refine ⟨by simp,?_⟩;exact Zae Z4d ok h rfl rfl
 ·rw [show decide (x2.length<4611686018427387904)=false from decide_eq_false hl] at h;cases h
theorem Zas {x1 r} (h:Z8s x1=some r):FPx 122 [Sp1 x1] (Sp1 r):=(Z9s h).sealed
def Zbs:List Int→Option (List Int)
| x4=>some x4
def Zcs (x1:Int):Unit→Option (List Int)
| ()=>
 ifb (decide (0<(wr (x1-(wr (0-0)))))) (
 (Zqf 8 (wr (x1-(wr (0-0)))) 0).bind fun x2=>
 (Z9c x2 0 0).bind fun x3=>
 Zbs x3) (
 Zbs (([]:List Int)))
def Zds (x1:Int):Option (List Int):=
 ifb (decide (x1<0)) (
 none) (
 (Zcs x1) ())
theorem Zes {x1 r} (h:Zds x1=some r):FTx 246 [.nl,.iv x1] [] [] (.osl 0) [] [Sq4 r]:=by
 refine Ft Zcl fun w0 M0=>?_;have ok:=Zcl;rw [Zds] at h;refine Vg 10 ?_;refine Vk [0,2] (fun _=>[]) (Zcs x1) r ?_ fun J1=>?_
 ·rintro ⟨⟩ h;rw [Zcs] at h;refine Vg 5 ?_;refine Zof trivial rfl (Vg 11 ?_);refine Vl [] (fun x4=>([(0,.osl 0)],[],[Sq4 x4])) Zbs r ?_ fun J2=>?_
  ·intro x4 h;rw [Zbs] at h;exact W
  ·refine MI h (fun h=>?_) fun h=>?_
   ·refine Vg 3 ?_;refine Zof trivial rfl (Zlf trivial rfl rfl rfl (Vg 1 ?_));have ⟨x2,ex2,h⟩:=Bs h;refine Zsf Z4d ex2 trivial rfl rfl rfl rfl (Vg 2 ?_);have ⟨x3,ex3,h⟩:=Bs h;refine Zjf Z4d ex3 trivial rfl rfl rfl rfl (Vg 2 ?_);refine Zij 1 0 ?_;exact W
   ·refine Vg 1 ?_;refine Zcb 0 3 1 rfl rfl ?_;exact W
 ·refine MI h (fun h=>?_) fun h=>?_
  ·cases h
  ·exact W
def Zfs (x1:List Int) (x2:Int):Option Bool:=
 (Zfl x1 x2).bind fun x3=>
 some (decide (0≤x3))
theorem Zgs {x1 x2 r} (h:Zfs x1 x2=some r):FPx 134 [Sp1 x1,.iv x2] (.bv r):=by have ok:=oJ 134 Tryz.f134 [.t 4] 2 7;refine FP ok fun w0 H0=>?_;rw [Zfs] at h;refine Vg 8 ?_;refine VB h Zgl fun _ _ h=>?_;exact W
@[go_sem] def e201:EC:=eQ Tryz.f201
theorem Zhs:FnOK Tryz.prog 201 Tryz.f201 e201 [.t 4] 2 40:=okA
@[go_sem] def e165:EC:=eQ Tryz.f165
theorem Zis:FnOK Tryz.prog 165 Tryz.f165 e165 [.c 2 (some 2)] 1 27:=okA
def Zjs (x1 x2:Int) (x3:List SE):List SE→Option (List SE)
| x11=>
 (vw_ (ln SE.row x11) ((((Int.toNat (x1)-Int.toNat (0))+(Int.toNat (ln SE.row x3)-Int.toNat (x2)):Nat):Int)) (ln SE.row x3)).bind fun _=>
 (Zug x11 (Int.toNat ((((Int.toNat (x1)-Int.toNat (0))+(Int.toNat (ln SE.row x3)-Int.toNat (x2)):Nat):Int))) (Int.toNat (ln SE.row x3)-Int.toNat ((((Int.toNat (x1)-Int.toNat (0))+(Int.toNat (ln SE.row x3)-Int.toNat (x2)):Nat):Int))) (SE.mk 0 (([]:List Int)) 0 0)).bind fun x13=>
 (Zwg x13 ((Int.toNat (x1)-Int.toNat (0))+(Int.toNat (ln SE.row x3)-Int.toNat (x2)))).bind fun x14=>
 some x14
def Zks (x1 x2:Int) (x3:List SE):Option (List SE):=
 (vw_ (ln SE.row x3) x1 x2).bind fun _=>
 (vw_ (ln SE.row x3) x2 (ln SE.row x3)).bind fun _=>
 ifb (decide (x1=x2)) (
 some x3) (
 (vw_ (ln SE.row x3) 0 x1).bind fun _=>
 (vw_ (ln SE.row x3) x2 (ln SE.row x3)).bind fun _=>
 (Zvg x3 (Int.toNat (x1)-Int.toNat (0)) (Int.toNat (x2)) (Int.toNat (ln SE.row x3)-Int.toNat (x2))).bind fun x10=>
 (Zjs x1 x2 x3) x10)
theorem Zls {x1 x2 x3 r} (h:Zks x1 x2 x3=some r):FTx 170 [.osl 0,.iv x1,.iv x2] [] [Z3k x3] (.osl 1) [] [none,Z3k r]:=by
 refine Ft Zsl fun w0 M0=>?_;have ok:=Zsl;rw [Zks] at h;refine Vg 11 ?_;have ⟨x4,ex4,h⟩:=Bs h;have ⟨x5,ex5,h⟩:=Bs h;refine Z0h SE.row ex4 ex5 trivial rfl rfl rfl rfl rfl (Vg 8 ?_);refine MI h (fun h=>?_) fun h=>?_
 ·refine Vg 5 ?_;refine Zlj 131 4 (Ds ?_);refine Zij 0 1 ?_;exact W
 ·refine Vg 8 ?_;refine Vl [7,1] (fun x11=>([(0,.ocs 0 0 4 ((Int.toNat (x1)-Int.toNat (0))+(Int.toNat (ln SE.row x3)-Int.toNat (x2))))],[],[Z3k x11])) (Zjs x1 x2 x3) r ?_ fun J1=>?_
  ·intro x11 h;rw [Zjs] at h;refine Vg 6 ?_;have ⟨x12,ex12,h⟩:=Bs h;refine Zzg SE.row ex12 trivial rfl rfl rfl rfl ?_;have ⟨x13,ex13,h⟩:=Bs h;refine Z1h SE.row ex13 trivial rfl rfl (by first | exact Zrb _ | simp [go_sem]) (by first | rfl | simp [go_sem]) rfl rfl (Vg 6 ?_);have ⟨x14,ex14,h⟩:=Bs h;refine Z3h 6 0 4 ((Int.toNat (x1)-Int.toNat (0))+(Int.toNat (ln SE.row x3)-Int.toNat (x2))) SE.row ex14 rfl rfl ?_;exact W
  ·refine Zgj fun all H=>?_;refine Gn H 4 4 ?_;have ⟨x6,ex6,h⟩:=Bs h;have ⟨x7,ex7,h⟩:=Bs h;refine Zoa 2 5 rfl ?_ ?_
   ·refine Zyg SE.row ex6 H.1 rfl trivial rfl rfl rfl rfl (Ds ?_);refine Zna 5 rfl (Zyg SE.row ex7 H.1 rfl trivial rfl rfl rfl rfl (Ds ?_));refine Zna 6 rfl ?_;have ⟨x10,ex10,h⟩:=Bs h;refine Z2h SE.row ex10 H.1 rfl trivial rfl rfl rfl ?_;refine Gn H 1 0 ?_;refine GD ?_;exact W
   ·refine Zyg SE.row ex7 H.1 rfl trivial rfl rfl rfl rfl (Ds ?_);refine Zna 2 rfl (Zyg SE.row ex6 H.1 rfl trivial rfl rfl rfl rfl (Ds ?_));refine Zna 6 rfl ?_;have ⟨x10,ex10,h⟩:=Bs h;refine Z2h SE.row ex10 H.1 rfl trivial rfl rfl rfl ?_;refine Gn H 1 0 ?_;refine GD ?_;exact W
def Zms (x1:BK) (x2:Int):Option Int:=
 (Zuk x1.SE ((fun z=>Ztl z x2))).bind fun x3=>
 some x3
theorem Zns {x1 x2 r} (h:Zms x1 x2=some r):FPx 206 [.agg (BK.row x1),.iv x2] (.iv r):=by have ok:=oJ 206 Tryz.f206 [.t 4] 2 7;refine FP ok fun w0 H0=>?_;rw [Zms] at h;refine Vg 11 ?_;refine VN (LR.block 1 rfl rfl) h (fun e=>Zvk e ⟨by kernel_rfl,rfl,fun z r hz=>Zul hz⟩) fun _ _ h=>?_;exact W
def Zos:Bool→Option Bool
| x5=>some x5
def Zps (x1:SX):Bool→Option Bool
| x4=>
 ifb (!x4) (
 Zos true) (
 ifb (decide (x1.EP<0)) (
 Zos true) (
 ifb (decide (65535<x1.EP)) (
 Zos true) (
 ifb (decide (x1.SS<0)) (
 Zos true) (
 ifb (decide (3<x1.SS)) (
 Zos true) (
 ifb x1.DY (
 Zos (!x1.FK)) (
 Zos false))))))
def Zqs (x1:SX) (x2:Int) (x3:DI):Option Bool:=
 ifb (decide (x2<x1.PE)) (
 (Zps x1) (!decide (x1.PE=x3.ID))) (
 (Zps x1) false)
theorem Zrs {x1 x2 x3 r} (h:Zqs x1 x2 x3=some r):FTx 157 [.agg (SX.row x1),.ptr 0 0,.ptr 1 0] [some ⟨3,[.iv x2]⟩,some ⟨58,DI.row x3⟩] [] (.bv r) [some ⟨3,[.iv x1.PE]⟩,some ⟨58,DI.row x3⟩] []:=by
 refine Ft Zfm fun w0 M0=>?_;have ok:=Zfm;rw [Zqs] at h;refine Vg 12 ?_;refine Vk [1,1,1,1] (fun x4=>[(5,.bv x4)]) (Zps x1) r ?_ fun J1=>?_
 ·intro x4 h;rw [Zps] at h;refine Vg 11 ?_;refine Vl [] (fun x5=>([(4,.bv x5)],[some ⟨3,[.iv x1.PE]⟩,some ⟨58,DI.row x3⟩],[])) Zos r ?_ fun J2=>?_
  ·intro x5 h;rw [Zos] at h;exact W
  ·exact W
 ·exact W
def Zss (x1 x2:Int) (_x3 x4:Int) (x5:List ML) (x6:List SX):Option (List ML):=
 (at_ x6 x4).bind fun x7=>
 (Z8c 40 x5 ([ML.mk x2 x7.PE (Msg.mk x1 x7.EP 0)])).bind fun x8=>
 some x8
theorem Zts {x1 x2 x3 x4 x5 x6 r} (h:Zss x1 x2 x3 x4 x5 x6=some r):FTx 242 [.iv x1,.ptr 0 0,.ptr 1 0,.ptr 2 0] [some ⟨27,[.osl 0]⟩,some ⟨58,[.iv x2,.iv x3,.osl 1]⟩,some ⟨249,[.oel 1 (Int.toNat (x4)*8) 0]⟩] [Sq6 x5,Z5k x6] (.tup []) [some ⟨27,[.osl 3]⟩,some ⟨58,[.iv x2,.iv x3,.osl 1]⟩,some ⟨249,[.oel 1 (Int.toNat (x4)*8) 0]⟩] [none,Z5k x6,none,Sq6 r]:=by refine Ft Zpm fun w0 M0=>?_;have ok:=Zpm;rw [Zss] at h;have ⟨x7,ex7,h⟩:=Bs h;have ⟨x8,ex8,h⟩:=Bs h;refine Zgj fun all H=>Gs ?_;exact W
@[go_sem] def e185:EC:=eQ Tryz.f185
theorem Zus:FnOK Tryz.prog 185 Tryz.f185 e185 [.c 2 (some 5)] 1 13:=okA
def Zvs:Bool→Option Bool
| x4=>some x4
def Zws (x1 x2:DI):Option Bool:=
 ifb (decide (x1.ID=x2.ID)) (
 ifb (decide (x1.PH=x2.PH)) (
 (Zyl x1.SD x2.SD).bind fun x3=>
 Zvs x3) (
 Zvs false)) (
 Zvs false)
theorem Zxs {x1 x2 r} (h:Zws x1 x2=some r):FPx 142 [.agg (DI.row x1),.agg (DI.row x2)] (.bv r):=by
 have ok:=oJ 142 Tryz.f142 [.t 4] 2 22;refine FP ok fun w0 H0=>?_;rw [Zws] at h;refine Vg 14 ?_;refine Vl [] (fun x4=>([(4,.bv x4)],[],[])) Zvs r ?_ fun J1=>?_
 ·intro x4 h;rw [Zvs] at h;exact W
 ·refine MC 10 h (fun h=>?_) fun h=>?_
  ·refine Vg 7 ?_;refine MC 17 h (fun h=>?_) fun h=>?_
   ·refine Vg 4 ?_;refine VB h Zzl fun _ _ h=>?_;exact W
   ·exact W
  ·exact W
@[go_sem] def e52:EC:=eQ Tryz.f52
theorem Zys:FnOK Tryz.prog 52 Tryz.f52 e52 [.c 2 (some 10)] 1 58:=okA
@[go_sem] def e117:EC:=eQ Tryz.f117
theorem Zzs:FnOK Tryz.prog 117 Tryz.f117 e117 [.t 2] 1 4:=okA
def Z0t (x1:NO):Option (List Int):=
 (Z6n x1 ((fun z=>Z8n z))).bind fun x2=>
 some x2
theorem Z1t {x1 r} (h:Z0t x1=some r):FPx 117 [.agg (NO.row x1)] (Sp1 r):=by refine FP Zzs fun w0 H0=>?_;have ok:=Zzs;rw [Z0t] at h;refine Vg 8 ?_;refine VB h (fun e=>Z7n e ⟨by kernel_rfl,rfl,fun z r hz=>Z9n hz⟩) fun _ _ h=>?_;exact W
@[go_sem] def e123:EC:=eQ Tryz.f123
theorem Z2t:FnOK Tryz.prog 123 Tryz.f123 e123 [.t 6] 3 19:=okA
def Z3t:Int→Option (Bool×Int)
| x15=>some (decide (x15=0),x15)
def Z4t (x2 x8:Int):Bool→Option (Bool×Int)
| x14=>
 ifb x14 (
 Z3t x2) (
 Z3t x8)
def Z5t (x1:Bool) (x2:Int) (_x3 _x4:Int) (_x5 _x6:Int) (_x7:List SE) (x8:Int) (_x9:List SX) (_x10:List Int) (_x11:List KE) (_x12:List Int) (_x13:List KE):Option (Bool×Int):=
 ifb (decide (x8=0)) (
 (Z4t x2 x8) (!x1)) (
 (Z4t x2 x8) false)
theorem Z6t {x1 x2 x3 x4 x5 x6 x7 x8 x9 x10 x11 x12 x13 r} (h:Z5t x1 x2 x3 x4 x5 x6 x7 x8 x9 x10 x11 x12 x13=some r):FTx 69 [.ptr 0 0,.bv x1,.iv x2] [some ⟨138,[.iv x3,.iv x4,.osl 0,.iv x5,.osl 1,.iv x6,Sp5 x7,.osl 2,.osl 3,.osl 4,.nl,.nl,.iv x8]⟩] [Z5k x9,Sq4 x10,Z6k x11,Sq4 x12,Z6k x13] (.bv r.1) [some ⟨138,[.iv x3,.iv x4,.osl 0,.iv x5,.osl 1,.iv x6,Sp5 x7,.osl 2,.osl 3,.osl 4,.nl,.nl,.iv r.2]⟩] [Z5k x9,Sq4 x10,Z6k x11,Sq4 x12,Z6k x13]:=by
 refine Ft Z1n fun w0 M0=>?_;have ok:=Z1n;rw [Z5t] at h;refine Vg 13 ?_;refine Vk [0,1,1,1] (fun x14=>[(15,.bv x14)]) (Z4t x2 x8) r ?_ fun J1=>?_
 ·intro x14 h;rw [Z4t] at h;refine Vm [0,1] (fun x15=>([],[(0,12,.iv x15)],[],[])) Z3t r ?_ fun J2=>?_
  ·intro x15 h;rw [Z3t] at h;exact W
  ·exact W
 ·exact W
def Z7t:List Int→Option (List Int)
| x33=>some x33
def Z8t (x17:Int):List Int→Option ((Int×List Int) ⊕ (List Int))
| x22=>some (.inl (wr (x17+1),x22))
def Z9t (x6:List SX) (p0:(SX→Option Bool)):(Int×List Int)→Option ((Int×List Int) ⊕ (List Int))
| (x17,x18)=>
 ifb (decide (x17<(ln SX.row x6))) (
 (at_ x6 x17).bind fun x19=>
 (p0 x19).bind fun x20=>
 ifb x20 (
 (Z8c 8 x18 ([x19.PE])).bind fun x21=>
 (Z8t x17) x21) (
 (Z8t x17) x18)) (
 Option.map Sum.inr (Z7t x18))
def Zat (_x1 _x2:Int) (_x3 _x4:Int) (_x5:List SE) (x6:List SX) (_x7:List Int) (_x8:List KE) (_x9:List Int) (_x10:List KE) (p0:(SX→Option Bool)):Option (List Int):=loop (Z9t x6 p0) (0,([]:List Int))
theorem Zbt {x1 x2 x3 x4 x5 x6 x7 x8 x9 x10 g0 caps0 p0 r} (h:Zat x1 x2 x3 x4 x5 x6 x7 x8 x9 x10 p0=some r) (hc0:CloOK Tryz.prog g0 caps0 (fun z=>[.agg (SX.row z)]) p0 (fun z=>.bv z)):FTx 113 [.agg [.iv x1,.iv x2,.osl 0,.iv x3,.osl 1,.iv x4,Sp5 x5,.osl 2,.osl 3,.osl 4],.clo g0 caps0] [] [Z5k x6,Sq4 x7,Z6k x8,Sq4 x9,Z6k x10] (.osl 5) [] [Z5k x6,Sq4 x7,Z6k x8,Sq4 x9,Z6k x10,Sq4 r]:=by
 refine Ft Z2n fun w0 M0=>?_;rw [Zat] at h;refine Vg 19 ?_;refine Vl [] (fun x33=>([(5,.osl 5)],[],[Z5k x6,Sq4 x7,Z6k x8,Sq4 x9,Z6k x10,Sq4 x33])) Z7t r ?_ fun J1=>?_
 ·intro x33 h;rw [Z7t] at h;refine Vg 5 ?_;exact Td Z2n h
 ·refine Vg 1 ?_;refine Zcb 5 3 1 rfl rfl (Ds ?_);refine Ml h [1,1,3,1,5,2] (fun s=>([(13,.iv s.1)],[],[Z5k x6,Sq4 x7,Z6k x8,Sq4 x9,Z6k x10,Sq4 s.2])) ?_ (hok:=by rintro ⟨x17,x18⟩;first | rfl | (simp [go_sem];done) | simp [go_sem,Zqb _ hc0.pu]);rintro n1 ⟨x17,x18⟩ y1 h hin1 hout1;rw [Z9t] at h;(try dsimp only);refine Vg 5 ?_;refine MI h (fun h=>?_) fun h=>?_
  ·refine Vg 5 ?_;have ⟨x19,ex19,h⟩:=Bs h;refine Zee SX.row ex19 trivial rfl rfl rfl (Zne SX.row ex19 trivial rfl rfl rfl (Vg 7 ?_));have ⟨x20,ex20,h⟩:=Bs h;refine Z3d trivial rfl hc0 (x:=x19) ex20 (by first | exact Zrb _ | simp [go_sem]) (by first | rfl | simp [go_sem,hc0.pu]) (Vg 1 ?_);refine Vl [1,1,3,1,5,3] (fun x22=>([],[],[Z5k x6,Sq4 x7,Z6k x8,Sq4 x9,Z6k x10,Sq4 x22])) (Z8t x17) y1 ?_ fun J2=>?_
   ·intro x22 h;rw [Z8t] at h;refine Vg 5 ?_;exact Zsc h hin1 (hok:=by first | rfl | simp [go_sem,Zqb _ hc0.pu])
   ·refine MI h (fun h=>?_) fun h=>?_
    ·refine Vg 5 ?_;have ⟨x21,ex21,h⟩:=Bs h;refine Zmc Z4d ex21 trivial rfl rfl rfl (Vg 2 ?_);refine Zij 7 5 (Ds ?_);(try rw [Znh _ _ _ hc0.pu]);exact Ztc J2 h (hok:=by first | rfl | simp [go_sem,Zqb _ hc0.pu])
    ·refine Vg 1 ?_;exact Ztc J2 h (hok:=by first | rfl | simp [go_sem,Zqb _ hc0.pu])
  ·refine Vg 1 ?_;exact Ztc J1 (Zec h hout1) (hok:=by first | rfl | simp [go_sem])
def Zct (x1 x2:Int) (x3 _x4:Int) (_x5 _x6:Int) (_x7:List SE) (_x8:Int) (_x9:List SX) (_x10:List Int) (_x11:List KE) (_x12:List Int) (_x13:List KE):Option (List EV):=
 (Z8c 56 [] ([EV.mk x1 x3 x2 0 (([]:List Int))])).bind fun x14=>
 some x14
theorem Zdt {x1 x2 x3 x4 x5 x6 x7 x8 x9 x10 x11 x12 x13 r} (h:Zct x1 x2 x3 x4 x5 x6 x7 x8 x9 x10 x11 x12 x13=some r):FTx 125 [.ptr 0 0,.iv x1,.iv x2] [some ⟨138,[.iv x3,.iv x4,.osl 0,.iv x5,.osl 1,.iv x6,Sp5 x7,.osl 2,.osl 3,.osl 4,.nl,.nl,.iv x8]⟩] [Z5k x9,Sq4 x10,Z6k x11,Sq4 x12,Z6k x13] (.tup []) [some ⟨138,[.iv x3,.iv x4,.osl 0,.iv x5,.osl 1,.iv x6,Sp5 x7,.osl 2,.osl 3,.osl 4,.nl,.osl 6,.iv x8]⟩] [Z5k x9,Sq4 x10,Z6k x11,Sq4 x12,Z6k x13,none,Z8k r]:=by refine Ft Zan fun w0 M0=>?_;have ok:=Zan;rw [Zct] at h;refine Zgj fun all H=>Ds (GP H 14 6 [14,6] [(6,[.ptr 0 0,.ptr 0 0,.ptr 0 0,.ptr 0 11,.nl,.iv x1,.ptr 0 0,.ptr 0 0,.ptr 0 0,.ptr 0 0,.ptr 0 0,.ptr 0 0,.iv x3,.iv x2])] (Ds ?_));refine Zna 14 rfl (Zzf (.agg [.iv x1,.iv x3,.iv x2,.iv 0,Sp1 (([]:List Int))]) H.1 rfl trivial (by simp [go_sem]) (Ds ?_));refine R1 ?_;refine Zna 16 rfl ?_;have ⟨x14,ex14,h⟩:=Bs h;refine Zoc EV.row ex14 H.1 rfl trivial rfl rfl ?_;refine Gn H 2 1 ?_;refine R1 ?_;refine GD ?_;exact W
theorem Zet {l r} (h:Zkm l=some r):
  Z1f Tryz.prog 46 [.osl 0] [] [some ⟨112,8,l.map SX.row⟩] (.osl 1) [] [some ⟨112,8,l.map SX.row⟩,some ⟨112,8,r.map SX.row⟩]:=by
 unfold Zkm at h;refine FT Zjm fun w0 M0=>?_;dsimp only[lun,List.cons_append,List.nil_append];refine Zg6 100 ?_;dsimp only[go_sem];refine An ?_;refine Z8i trivial rfl rfl (fun hn=>?_) ?_
 ·refine Zg6 100 ?_;dsimp only[go_sem];refine An ?_;refine Zcb 2 112 8 rfl rfl ?_;dsimp only[go_sem];have hn:l=[]:=by simpa using hn
  subst hn;obtain rfl:r=[]:=by simpa [Z8c] using h.symm
  exact Zmj Zjm
 ·refine Zg6 100 ?_;dsimp only[go_sem];refine An ?_;refine Zmc SX.row (l':=[]) h trivial rfl rfl rfl ?_;refine Zg6 100 ?_;dsimp only[go_sem];refine An ?_;refine Zij 2 1 ?_;dsimp only[go_sem];exact Zmj Zjm
theorem Zft {l r} (h:Z9l l=some r):
  Z1f Tryz.prog 47 [.osl 0] [] [some ⟨3,1,l.map Z4d⟩] (.osl 1) [] [some ⟨3,1,l.map Z4d⟩,some ⟨3,1,r.map Z4d⟩]:=by
 unfold Z9l at h;refine FT Z8l fun w0 M0=>?_;dsimp only[lun,List.cons_append,List.nil_append];refine Zg6 100 ?_;dsimp only[go_sem];refine An ?_;refine Z8i trivial rfl rfl (fun hn=>?_) ?_
 ·refine Zg6 100 ?_;dsimp only[go_sem];refine An ?_;refine Zcb 2 3 1 rfl rfl ?_;dsimp only[go_sem];have hn:l=[]:=by simpa using hn
  subst hn;obtain rfl:r=[]:=by simpa [Z8c] using h.symm
  exact Zmj Z8l
 ·refine Zg6 100 ?_;dsimp only[go_sem];refine An ?_;refine Zmc Z4d (l':=[]) h trivial rfl rfl rfl ?_;refine Zg6 100 ?_;dsimp only[go_sem];refine An ?_;refine Zij 2 1 ?_;dsimp only[go_sem];exact Zmj Z8l
end
end NX
end Go.Proofs.YtgamgemlekpepaaGreat
