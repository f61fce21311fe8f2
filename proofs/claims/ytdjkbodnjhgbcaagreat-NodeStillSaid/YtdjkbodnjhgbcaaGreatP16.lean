/-
  The function narthex/narthexlaw17.Own: its code compiled, a model, and that the code answers as the model. Written by a program of ours (lb.py). No statement of the seat is proved here.
-/
import Derived.Test.YtdjkbodnjhgbcaaGreatP14
set_option maxRecDepth 100000
set_option maxHeartbeats 4000000
namespace Go.Proofs.YtdjkbodnjhgbcaaGreat
namespace NX
open Go
noncomputable section
@[go_sem] def e39:EC:=(by have h:=hF Tryz.f39;(conv at h=>rhs;reduce);dsimp only[go_sem] at h;exact ⟨_,h⟩:DP Tryz.f39).1
theorem ok39:FnOK Tryz.prog 39 Tryz.f39 e39 [.c 2 (some 2)] 1 32:=okA
def Zca (x1:Book):List Sess→Option Book
| x18=>
 some (Book.mk x1.Last x18)
def Zda (x1:Book):(Int×List Sess)→Option ((Int×List Sess) ⊕ Book)
| (x7,x8)=>
 ifb (decide (x7<(ln Sess.row x1.Sess))) (
 (at_ x1.Sess x7).bind fun x9=>
 (Zj4 8 (([]:List Int)) x9.Need).bind fun x10=>
 (Zj4 48 x8 ([Sess.mk x9.ID x10 x9.State x9.Age])).bind fun x11=>
 some (.inl (wr (x7+1),x11))) (
 Option.map Sum.inr ((Zca x1) x8))
def Zea (x1:Book):Option Book:=
 loop (Zda x1) (0,([]:List Sess))
theorem Zfa (x1 r:Book) (h:Zea x1=some r):Z03 Tryz.prog 39 [.agg (Book.row x1)] (.agg (Book.row r)):=by
 refine FP ok39 fun w0 H0=>?_
 rw [Zea] at h
 refine Vg 18 ?_;refine Zo4 (fun (x18:List Sess)=>⟨(.any :: .any :: .ptr 1 0 :: .ptr 2 0::an 29 []),[none,some ⟨32,[.iv 0,.nl]⟩,some ⟨32,[.iv x1.Last,.osl 0]⟩],[Sq9 x18]⟩) (Zca x1) r ?_ fun J1=>?_
 ·intro x18 h;rw [Zca] at h;(try dsimp only);refine Vg 5 ?_;refine Z17 0 ?_;dsimp only[go_sem];exact MD ok39 h
 ·refine Vg 1 ?_;refine Z27 2 1 60 4 ?_;dsimp only[go_sem];refine Zp4 h (fun ((x7,x8):(Int×List Sess))=>⟨(.any :: .ptr 0 0 :: .ptr 1 0 :: .ptr 2 0 :: .iv x7::an 28 []),[some ⟨32,Book.row x1⟩,some ⟨32,[.iv 0,.nl]⟩,some ⟨32,[.iv x1.Last,.osl 0]⟩],[Sq9 x8]⟩) (by simp [go_sem]) (by rintro ⟨x7,x8⟩;first | rfl | simp [go_sem]) ?_;rintro n1 ⟨x7,x8⟩ y1 h hin1 hout1;rw [Zda] at h;(try dsimp only);refine Zv2 9 ?_
  dsimp only[go_sem];refine An (MI h (fun h=>?_) fun h=>?_)
  ·refine Vg 8 ?_;have ⟨x9,ex9,h⟩:=Bs h;refine Zs4 Sess.row ex9 trivial rfl rfl rfl (Vg 9 ?_);have ⟨x10,ex10,h⟩:=Bs h;refine Zu4 Z05 ex10 trivial rfl rfl rfl (Vg 7 ?_);refine Z17 2 ?_;refine Vg 1 ?_;have ⟨x11,ex11,h⟩:=Bs h;refine Zu4 Sess.row ex11 trivial rfl rfl rfl (Vg 9 ?_);refine Z07 4 0 ?_
   dsimp only[go_sem];exact Zw4 h hin1
  ·refine Vg 1 ?_;exact Zx4 J1 (Zn4 h hout1)
@[go_sem] def e28:EC:=(by have h:=hF Tryz.f28;(conv at h=>rhs;reduce);dsimp only[go_sem] at h;exact ⟨_,h⟩:DP Tryz.f28).1
theorem ok28:FnOK Tryz.prog 28 Tryz.f28 e28 [.t 2] 1 26:=okA
def Zga (x1:Book):Unit→Option Bool
| ()=>
 some (decide ((ln Sess.row x1.Sess)≤12))
def Zha (x1:Book) (x5:Int):Bool→Option (Int ⊕ Bool)
| x6=>
 ifb x6 (
 (at_ x1.Sess x5).bind fun x7=>
 ifb (decide (70<(ln Z05 x7.Need))) (
 Option.map Sum.inr (some false)) (
 some (.inl (wr (x5+1))))) (
 Option.map Sum.inr ((Zga x1) ()))
def Zia (x1:Book):Int→Option (Int ⊕ Bool)
| x5=>
 ifb (decide (x5<(ln Sess.row x1.Sess))) (
 (Zha x1 x5) (decide (x5<13))) (
 (Zha x1 x5) false)
def Zja (x1:Book):Option Bool:=
 loop (Zia x1) 0
theorem Zka (x1:Book) (r:Bool) (h:Zja x1=some r):Z03 Tryz.prog 28 [.agg (Book.row x1)] (.bv r):=by
 refine FP ok28 fun w0 H0=>?_
 rw [Zja] at h
 refine Vg 10 ?_;refine Zo4 (fun (_:Unit)=>⟨(.any :: .ptr 0 0::an 25 []),[some ⟨32,Book.row x1⟩],[]⟩) (Zga x1) r ?_ fun J1=>?_
 ·rintro ⟨⟩ h;rw [Zga] at h;(try dsimp only);refine Vg 8 ?_;exact MD ok28 h
 ·refine Vg 1 ?_;refine Zp4 h (fun (x5:Int)=>⟨(.any :: .ptr 0 0 :: .any :: .iv x5::an 23 []),[some ⟨32,Book.row x1⟩],[]⟩) (by simp [go_sem]) (by intro x5;first | rfl | simp [go_sem]) ?_;rintro n1 x5 y1 h hin1 hout1;rw [Zia] at h;(try dsimp only);refine Vg 9 ?_
  refine Zo4 (fun (x6:Bool)=>⟨(.any :: .ptr 0 0 :: .any :: .iv x5::an 8 (.bv x6::an 14 [])),[some ⟨32,Book.row x1⟩],[]⟩) (Zha x1 x5) y1 ?_ fun J2=>?_
  ·intro x6 h;rw [Zha] at h;(try dsimp only);refine MI h (fun h=>?_) fun h=>?_
   ·refine Vg 8 ?_;have ⟨x7,ex7,h⟩:=Bs h;refine Zs4 Sess.row ex7 trivial rfl rfl rfl (Vg 5 ?_);refine MI h (fun h=>?_) fun h=>?_
    ·refine Vg 4 ?_;exact MD ok28 (Zn4 h hout1)
    ·refine Vg 7 ?_;exact Zw4 h hin1
   ·refine Vg 1 ?_;exact Zx4 J1 (Zn4 h hout1)
  ·refine MC 9 h (fun h=>?_) fun h=>?_
   ·refine Vg 4 ?_;exact Zx4 J2 h
   ·refine Vg 4 ?_;exact Zx4 J2 h
@[go_sem] def e62:EC:=(by have h:=hF Tryz.f62;(conv at h=>rhs;reduce);dsimp only[go_sem] at h;exact ⟨_,h⟩:DP Tryz.f62).1
theorem ok62:FnOK Tryz.prog 62 Tryz.f62 e62 [.t 6] 3 29:=okA
def Zla:Unit→Option Bool
| ()=>
 some true
def Zma (x1 x2:List Event) (p2:((Event×Event)→Option Bool)):Int→Option (Int ⊕ Bool)
| x7=>
 ifb (decide (x7<(ln Event.row x1))) (
 (at_ x1 x7).bind fun x8=>
 (at_ x2 x7).bind fun x9=>
 (p2 (x8,x9)).bind fun x10=>
 ifb (!x10) (
 Option.map Sum.inr (some false)) (
 some (.inl (wr (x7+1))))) (
 Option.map Sum.inr (Zla ()))
def Zna (x1 x2:List Event) (p2:((Event×Event)→Option Bool)):Option Bool:=
 ifb (!decide ((ln Event.row x1)=(ln Event.row x2))) (
 some false) (
 loop (Zma x1 x2 p2) 0)
theorem Zoa (x1 x2:List Event) (g2:Nat) (caps2:List AV) (p2:((Event×Event)→Option Bool)) (hc2:CloOK Tryz.prog g2 caps2 (fun z=>[.agg (Event.row z.1),.agg (Event.row z.2)]) p2 (fun z=>.bv z)) (r:Bool) (h:Zna x1 x2 p2=some r):Z03 Tryz.prog 62 [Sp5 x1,Sp5 x2,.clo g2 caps2] (.bv r):=by
 refine FP ok62 fun w0 H0=>?_
 rw [Zna] at h
 refine Vg 13 ?_;refine MI h (fun h=>?_) fun h=>?_
 ·refine Vg 4 ?_;exact MD ok62 h
 ·refine Vg 8 ?_;refine Zo4 (fun (_:Unit)=>⟨an 32 [],[],[]⟩) Zla r ?_ fun J1=>?_
  ·rintro ⟨⟩ h;rw [Zla] at h;(try dsimp only);refine Vg 4 ?_;exact MD ok62 h
  ·refine Vg 1 ?_;refine Zp4 h (fun (x7:Int)=>⟨(.any :: Sp5 x2 :: .clo g2 caps2::an 12 (Sp5 x1 :: .iv (ln Event.row x1) :: .iv x7::an 14 [])),[],[]⟩) (by simp [go_sem]) (by intro x7;first | rfl | simp [go_sem,Zh4 _ hc2.pu]) ?_;rintro n1 x7 y1 h hin1 hout1;rw [Zma] at h;(try dsimp only);refine Vg 5 ?_;refine MI h (fun h=>?_) fun h=>?_
   ·refine Vg 6 ?_;have ⟨x8,ex8,h⟩:=Bs h;refine Zs4 Event.row ex8 trivial rfl rfl rfl (Vg 9 ?_);have ⟨x9,ex9,h⟩:=Bs h;refine Zs4 Event.row ex9 trivial rfl rfl rfl (Vg 9 ?_);have ⟨x10,ex10,h⟩:=Bs h;refine Zz4 trivial rfl hc2 (x:=(x8,x9)) ex10 (by first | exact Zi4 _ | simp [go_sem]) (by first | rfl | simp [go_sem,hc2.pu]) (Vg 2 ?_)
    refine MI h (fun h=>?_) fun h=>?_
    ·refine Vg 4 ?_;exact MD ok62 (Zn4 h hout1)
    ·refine Vg 6 ?_;exact Zw4 h hin1 (hok:=by first | rfl | simp [go_sem,Zh4 _ hc2.pu])
   ·refine Vg 1 ?_;exact Zx4 J1 (Zn4 h hout1) (hok:=by first | rfl | simp [go_sem,Zh4 _ hc2.pu])
@[go_sem] def e88:EC:=(by have h:=hF Tryz.f88;(conv at h=>rhs;reduce);dsimp only[go_sem] at h;exact ⟨_,h⟩:DP Tryz.f88).1
theorem ok88:FnOK Tryz.prog 88 Tryz.f88 e88 [.t 4] 2 7:=okA
def Zpa (x1:List Side) (p1:(Side→Option Bool)):Option Bool:=
 (Ze7 x1 p1).bind fun x2=>
 some (decide (0≤x2))
theorem Zqa (x1:List Side) (g1:Nat) (caps1:List AV) (p1:(Side→Option Bool)) (hc1:CloOK Tryz.prog g1 caps1 (fun z=>[.agg (Side.row z)]) p1 (fun z=>.bv z)) (r:Bool) (h:Zpa x1 p1=some r):Z03 Tryz.prog 88 [Sp2 x1,.clo g1 caps1] (.bv r):=by
 refine FP ok88 fun w0 H0=>?_
 rw [Zpa] at h
 refine Vg 8 ?_;have ⟨x2,ex2,h⟩:=Bs h;refine VC (Zf7 x1 _ _ p1 hc1 _ ex2) ?_ (hp:=(by first | rfl | simp [go_sem,hc1.pu]));refine Vg 3 ?_;exact MD ok88 h
@[go_sem] def e90:EC:=(by have h:=hF Tryz.f90;(conv at h=>rhs;reduce);dsimp only[go_sem] at h;exact ⟨_,h⟩:DP Tryz.f90).1
theorem ok90:FnOK Tryz.prog 90 Tryz.f90 e90 [.t 4] 2 7:=okA
def Zra (x1:List KE) (p1:(KE→Option Bool)):Option Bool:=
 (Zi7 x1 p1).bind fun x2=>
 some (decide (0≤x2))
theorem Zsa (x1:List KE) (g1:Nat) (caps1:List AV) (p1:(KE→Option Bool)) (hc1:CloOK Tryz.prog g1 caps1 (fun z=>[.agg (KE.row z)]) p1 (fun z=>.bv z)) (r:Bool) (h:Zra x1 p1=some r):Z03 Tryz.prog 90 [Sp1 x1,.clo g1 caps1] (.bv r):=by
 refine FP ok90 fun w0 H0=>?_
 rw [Zra] at h
 refine Vg 8 ?_;have ⟨x2,ex2,h⟩:=Bs h;refine VC (Zj7 x1 _ _ p1 hc1 _ ex2) ?_ (hp:=(by first | rfl | simp [go_sem,hc1.pu]));refine Vg 3 ?_;exact MD ok90 h
@[go_sem] def e107:EC:=(by have h:=hF Tryz.f107;(conv at h=>rhs;reduce);dsimp only[go_sem] at h;exact ⟨_,h⟩:DP Tryz.f107).1
theorem ok107:FnOK Tryz.prog 107 Tryz.f107 e107 [.t 4] 2 7:=okA
def Zta (x1:List Sess) (p1:(Sess→Option Bool)):Option Bool:=
 (Zm7 x1 p1).bind fun x2=>
 some (decide (0≤x2))
theorem Zua (x1:List Sess) (g1:Nat) (caps1:List AV) (p1:(Sess→Option Bool)) (hc1:CloOK Tryz.prog g1 caps1 (fun z=>[.agg (Sess.row z)]) p1 (fun z=>.bv z)) (r:Bool) (h:Zta x1 p1=some r):Z03 Tryz.prog 107 [Sp3 x1,.clo g1 caps1] (.bv r):=by
 refine FP ok107 fun w0 H0=>?_
 rw [Zta] at h
 refine Vg 8 ?_;have ⟨x2,ex2,h⟩:=Bs h;refine VC (Zn7 x1 _ _ p1 hc1 _ ex2) ?_ (hp:=(by first | rfl | simp [go_sem,hc1.pu]));refine Vg 3 ?_;exact MD ok107 h
@[go_sem] def e99:EC:=(by have h:=hF Tryz.f99;(conv at h=>rhs;reduce);dsimp only[go_sem] at h;exact ⟨_,h⟩:DP Tryz.f99).1
theorem ok99:FnOK Tryz.prog 99 Tryz.f99 e99 [.t 4] 2 7:=okA
def Zva (x1:List Int) (p1:(Int→Option Bool)):Option Bool:=
 (Zq7 x1 p1).bind fun x2=>
 some (decide (0≤x2))
theorem Zwa (x1:List Int) (g1:Nat) (caps1:List AV) (p1:(Int→Option Bool)) (hc1:CloOK Tryz.prog g1 caps1 (fun z=>[.iv z]) p1 (fun z=>.bv z)) (r:Bool) (h:Zva x1 p1=some r):Z03 Tryz.prog 99 [Sp0 x1,.clo g1 caps1] (.bv r):=by
 refine FP ok99 fun w0 H0=>?_
 rw [Zva] at h
 refine Vg 8 ?_;have ⟨x2,ex2,h⟩:=Bs h;refine VC (Zr7 x1 _ _ p1 hc1 _ ex2) ?_ (hp:=(by first | rfl | simp [go_sem,hc1.pu]));refine Vg 3 ?_;exact MD ok99 h
def laysSort_ren:Go.Shelf.Ren:=⟨(fun | 189=>114 | 125=>147 | 257=>146 | 128=>168 | 129=>169 | 294=>159 | 295=>160 | 296=>161 | 297=>162 | 298=>163 | 299=>164 | 216=>165 | 300=>166 | 301=>167 | 328=>177 | 329=>178 | 330=>179 | 331=>180 | 332=>181 | 215=>182 | 343=>187 | n=>n),(fun | 28=>27 | 3=>3 | 46=>152 | 0=>0 | 51=>189 | 53=>191 | 4=>4 | 183=>182 | 182=>181 | 131=>122 | 5=>5 | 9=>9 | 218=>195 | 222=>199 | 228=>204 | 229=>205 | n=>n),(fun | n=>n)⟩
theorem laysSort:Lays.n189 Tryz.prog laysSort_ren where
 mixed:=by kernel_rfl
 f125:=Tryz.func147.trans (congrArg some (by kernel_rfl))
 f128:=Tryz.func168.trans (congrArg some (by kernel_rfl))
 f129:=Tryz.func169.trans (congrArg some (by kernel_rfl))
 f189:=Tryz.func114.trans (congrArg some (by kernel_rfl))
 f215:=Tryz.func182.trans (congrArg some (by kernel_rfl))
 f216:=Tryz.func165.trans (congrArg some (by kernel_rfl))
 f257:=Tryz.func146.trans (congrArg some (by kernel_rfl))
 f294:=Tryz.func159.trans (congrArg some (by kernel_rfl))
 f295:=Tryz.func160.trans (congrArg some (by kernel_rfl))
 f296:=Tryz.func161.trans (congrArg some (by kernel_rfl))
 f297:=Tryz.func162.trans (congrArg some (by kernel_rfl))
 f298:=Tryz.func163.trans (congrArg some (by kernel_rfl))
 f299:=Tryz.func164.trans (congrArg some (by kernel_rfl))
 f300:=Tryz.func166.trans (congrArg some (by kernel_rfl))
 f301:=Tryz.func167.trans (congrArg some (by kernel_rfl))
 f328:=Tryz.func177.trans (congrArg some (by kernel_rfl))
 f329:=Tryz.func178.trans (congrArg some (by kernel_rfl))
 f330:=Tryz.func179.trans (congrArg some (by kernel_rfl))
 f331:=Tryz.func180.trans (congrArg some (by kernel_rfl))
 f332:=Tryz.func181.trans (congrArg some (by kernel_rfl))
 f343:=Tryz.func187.trans (congrArg some (by kernel_rfl))
 t0:=Tryz.underlying0
 a0:=Tryz.isAgg0
 z0:=Tryz.sizeOf0
 v0:=Tryz.zeroValue0
 t3:=Tryz.underlying3
 a3:=Tryz.isAgg3
 z3:=Tryz.sizeOf3
 v3:=Tryz.zeroValue3
 t4:=Tryz.underlying4
 a4:=Tryz.isAgg4
 z4:=Tryz.sizeOf4
 v4:=Tryz.zeroValue4
 t5:=Tryz.underlying5
 a5:=Tryz.isAgg5
 z5:=Tryz.sizeOf5
 v5:=Tryz.zeroValue5
 t9:=Tryz.underlying9
 a9:=Tryz.isAgg9
 z9:=Tryz.sizeOf9
 v9:=Tryz.zeroValue9
 t28:=Tryz.underlying27
 a28:=Tryz.isAgg27
 z28:=Tryz.sizeOf27
 v28:=Tryz.zeroValue27
 t46:=Tryz.underlying152
 a46:=Tryz.isAgg152
 z46:=Tryz.sizeOf152
 v46:=Tryz.zeroValue152
 t51:=Tryz.underlying189
 a51:=Tryz.isAgg189
 z51:=Tryz.sizeOf189
 v51:=Tryz.zeroValue189
 t53:=Tryz.underlying191
 a53:=Tryz.isAgg191
 z53:=Tryz.sizeOf191
 v53:=Tryz.zeroValue191
 t131:=Tryz.underlying122
 a131:=Tryz.isAgg122
 z131:=Tryz.sizeOf122
 v131:=Tryz.zeroValue122
 t182:=Tryz.underlying181
 a182:=Tryz.isAgg181
 z182:=Tryz.sizeOf181
 v182:=Tryz.zeroValue181
 t183:=Tryz.underlying182
 a183:=Tryz.isAgg182
 z183:=Tryz.sizeOf182
 v183:=Tryz.zeroValue182
 t218:=Tryz.underlying195
 a218:=Tryz.isAgg195
 z218:=Tryz.sizeOf195
 v218:=Tryz.zeroValue195
 t222:=Tryz.underlying199
 a222:=Tryz.isAgg199
 z222:=Tryz.sizeOf199
 v222:=Tryz.zeroValue199
 t228:=Tryz.underlying204
 a228:=Tryz.isAgg204
 z228:=Tryz.sizeOf204
 v228:=Tryz.zeroValue204
 t229:=Tryz.underlying205
 a229:=Tryz.isAgg205
 z229:=Tryz.sizeOf205
 v229:=Tryz.zeroValue205
def Zxa:Go.Shelf.Ren:=⟨(fun | 20=>115 | n=>n),(fun | 22=>27 | 3=>3 | 4=>4 | 0=>0 | n=>n),(fun | n=>n)⟩
theorem laysCompact:Lays2.n20 Tryz.prog Zxa where
 mixed:=by kernel_rfl
 f20:=Tryz.func115.trans (congrArg some (by kernel_rfl))
 t0:=Tryz.underlying0
 a0:=Tryz.isAgg0
 z0:=Tryz.sizeOf0
 v0:=Tryz.zeroValue0
 t3:=Tryz.underlying3
 a3:=Tryz.isAgg3
 z3:=Tryz.sizeOf3
 v3:=Tryz.zeroValue3
 t4:=Tryz.underlying4
 a4:=Tryz.isAgg4
 z4:=Tryz.sizeOf4
 v4:=Tryz.zeroValue4
 t22:=Tryz.underlying27
 a22:=Tryz.isAgg27
 z22:=Tryz.sizeOf27
 v22:=Tryz.zeroValue27
 i3:=by kernel_rfl
@[go_sem] def e71:EC:=(by have h:=hF Tryz.f71;(conv at h=>rhs;reduce);dsimp only[go_sem] at h;exact ⟨_,h⟩:DP Tryz.f71).1
theorem ok71:FnOK Tryz.prog 71 Tryz.f71 e71 [.t 2] 1 9:=okA
def Zya (x1:List Int):Option (List Int):=
 (Zw7 x1).bind fun x2=>
 ifb (decide (x2.length<4611686018427387904)) (
 some (Lib.compact (x2.mergeSort fun x y=>decide (x≤y)))) none
theorem Zza (x1 r:List Int) (h:Zya x1=some r):FunO Tryz.prog 71 [Sp0 x1] 3 1 (List.map Z05 r):=by
 refine Z65 ok71 rfl fun w0 H0=>?_
 rw [Zya] at h
 refine Zv2 100 ?_
 dsimp only [e71,go_sem]
 refine ⟨by simp,?_⟩
 have ⟨x2,ex2,h⟩:=Option.bind_eq_some_iff.1 h
 refine Z75 trivial (Zx7 x1 _ ex2) (by first | exact Zi4 _ | simp [go_sem]) (by first | rfl | simp [go_sem]) ?_
 refine Zv2 100 ?_
 dsimp only [e71,go_sem]
 refine ⟨by simp,?_⟩
 by_cases hl:x2.length<4611686018427387904
 ·rw [show decide (x2.length<4611686018427387904)=true from decide_eq_true hl] at h
  have h:some (Lib.compact (x2.mergeSort fun x y=>decide (x≤y)))=some r:=h
  refine V_sort laysSort x2 trivial (by kernel_rfl) rfl rfl hl ?_
  refine Zv2 100 ?_
  dsimp only [e71,go_sem]
  refine ⟨by simp,?_⟩
  refine V_compact laysCompact (x2.mergeSort fun x y=>decide (x≤y)) trivial (by kernel_rfl) rfl rfl (by simpa using hl) ?_
  refine Zv2 100 ?_
  dsimp only [e71,go_sem]
  refine ⟨by simp,?_⟩
  exact Zc5 Z05 ok71 h rfl rfl
 ·rw [show decide (x2.length<4611686018427387904)=false from decide_eq_false hl] at h
  cases h
theorem k_set_Of (x1 r:List Int) (h:Zya x1=some r):Z03 Tryz.prog 71 [Sp0 x1] (Sp0 r):=(Zza x1 r h).sealed
def Z0b:List Int→Option (List Int)
| x4=>
 some x4
def Z1b (x1:Int):Unit→Option (List Int)
| ()=>
 ifb (decide (0<(wr (x1-(wr (0-0)))))) (
 (apz_ 8 (wr (x1-(wr (0-0)))) 0).bind fun x2=>
 (sub_ x2 0 0).bind fun x3=>
 Z0b x3) (
 Z0b (([]:List Int)))
def Z2b (x1:Int):Option (List Int):=
 ifb (decide (x1<0)) (
 none) (
 (Z1b x1) ())
theorem Z3b (x1:Int) (r:List Int) (h:Z2b x1=some r):Zq5 Tryz.prog 188 [.nl,.iv x1] [] [] (.osl 0) [] [Sq7 r]:=by
 refine FT ok188 fun w0 M0=>?_
 rw [Z2b] at h
 dsimp only[lun,List.cons_append,List.nil_append]
 refine Vg 10 ?_;refine Zo4 (fun (_:Unit)=>⟨(.nl :: .iv x1::an 25 []),[],[]⟩) (Z1b x1) r ?_ fun J1=>?_
 ·rintro ⟨⟩ h;rw [Z1b] at h;(try dsimp only);refine Vg 5 ?_;refine V_capN trivial rfl (Vg 11 ?_);refine Zo4 (fun (x4:List Int)=>⟨(.osl 0::an 26 []),[],[Sq7 x4]⟩) Z0b r ?_ fun J2=>?_
  ·intro x4 h;rw [Z0b] at h;(try dsimp only);refine Vg 5 ?_;obtain rfl:=Option.some.inj h;exact Z47 ok188
  ·refine MI h (fun h=>?_) fun h=>?_
   ·refine Vg 3 ?_;refine V_capN trivial rfl (V_sliceN trivial rfl rfl rfl (Vg 1 ?_));have ⟨x2,ex2,h⟩:=Bs h;refine V_apzM Z05 ex2 trivial rfl rfl rfl rfl (Vg 2 ?_);have ⟨x3,ex3,h⟩:=Bs h;refine V_cutM Z05 ex3 trivial rfl rfl rfl rfl (Vg 2 ?_);refine Z07 1 0 ?_;dsimp only[go_sem];exact Zx4 J2 h
   ·refine Vg 1 ?_;refine Zf4 0 3 1 rfl rfl ?_;dsimp only[go_sem];exact Zx4 J2 h
 ·refine MI h (fun h=>?_) fun h=>?_
  ·cases h
  ·refine Vg 1 ?_;exact Zx4 J1 h
@[go_sem] def e84:EC:=(by have h:=hF Tryz.f84;(conv at h=>rhs;reduce);dsimp only[go_sem] at h;exact ⟨_,h⟩:DP Tryz.f84).1
theorem ok84:FnOK Tryz.prog 84 Tryz.f84 e84 [.t 4] 2 7:=okA
def Z4b (x1:List Int) (x2:Int):Option Bool:=
 (Z18 x1 x2).bind fun x3=>
 some (decide (0≤x3))
theorem Z5b (x1:List Int) (x2:Int) (r:Bool) (h:Z4b x1 x2=some r):Z03 Tryz.prog 84 [Sp0 x1,.iv x2] (.bv r):=by
 refine FP ok84 fun w0 H0=>?_
 rw [Z4b] at h
 refine Vg 8 ?_;have ⟨x3,ex3,h⟩:=Bs h;refine VC (Z28 x1 x2 _ ex3) (Vg 3 ?_);exact MD ok84 h
@[go_sem] def e157:EC:=(by have h:=hF Tryz.f157;(conv at h=>rhs;reduce);dsimp only[go_sem] at h;exact ⟨_,h⟩:DP Tryz.f157).1
theorem ok157:FnOK Tryz.prog 157 Tryz.f157 e157 [.t 4] 2 40:=okA
@[go_sem] def e113:EC:=(by have h:=hF Tryz.f113;(conv at h=>rhs;reduce);dsimp only[go_sem] at h;exact ⟨_,h⟩:DP Tryz.f113).1
theorem ok113:FnOK Tryz.prog 113 Tryz.f113 e113 [.c 2 (some 2)] 1 27:=okA
def Z6b (x1 x2:Int) (x3:List Sess):List Sess→Option (List Sess)
| x11=>
 (vw_ (ln Sess.row x11) ((((Int.toNat (x1)-Int.toNat (0))+(Int.toNat (ln Sess.row x3)-Int.toNat (x2)):Nat):Int)) (ln Sess.row x3)).bind fun _=>
 (clr_ x11 (Int.toNat ((((Int.toNat (x1)-Int.toNat (0))+(Int.toNat (ln Sess.row x3)-Int.toNat (x2)):Nat):Int))) (Int.toNat (ln Sess.row x3)-Int.toNat ((((Int.toNat (x1)-Int.toNat (0))+(Int.toNat (ln Sess.row x3)-Int.toNat (x2)):Nat):Int))) (Sess.mk 0 (([]:List Int)) 0 0)).bind fun x13=>
 (cut_ x13 ((Int.toNat (x1)-Int.toNat (0))+(Int.toNat (ln Sess.row x3)-Int.toNat (x2)))).bind fun x14=>
 some x14
def Z7b (x1 x2:Int) (x3:List Sess):Option (List Sess):=
 (vw_ (ln Sess.row x3) x1 x2).bind fun _=>
 (vw_ (ln Sess.row x3) x2 (ln Sess.row x3)).bind fun _=>
 ifb (decide (x1=x2)) (
 some x3) (
 (vw_ (ln Sess.row x3) 0 x1).bind fun _=>
 (vw_ (ln Sess.row x3) x2 (ln Sess.row x3)).bind fun _=>
 (mvv_ x3 (Int.toNat (x1)-Int.toNat (0)) (Int.toNat (x2)) (Int.toNat (ln Sess.row x3)-Int.toNat (x2))).bind fun x10=>
 (Z6b x1 x2 x3) x10)
theorem Z8b (x1 x2:Int) (x3 r:List Sess) (h:Z7b x1 x2 x3=some r):Zq5 Tryz.prog 118 [.osl 0,.iv x1,.iv x2] [] [Sq9 x3] (.osl 1) [] [none,Sq9 r]:=by
 refine FT ok118 fun w0 M0=>?_
 rw [Z7b] at h
 dsimp only[lun,List.cons_append,List.nil_append]
 refine Vg 11 ?_;have ⟨x4,ex4,h⟩:=Bs h;have ⟨x5,ex5,h⟩:=Bs h;refine V_sl3M Sess.row ex4 ex5 trivial rfl rfl rfl rfl rfl (Vg 8 ?_);refine MI h (fun h=>?_) fun h=>?_
 ·refine Vg 5 ?_;refine Z37 60 4 ?_;dsimp only[go_sem];refine Z07 0 1 ?_;dsimp only[go_sem];obtain rfl:=Option.some.inj h;exact Z47 ok118
 ·refine Vg 8 ?_;refine Zo4 (fun (x11:List Sess)=>⟨(.ocs 0 0 4 ((Int.toNat (x1)-Int.toNat (0))+(Int.toNat (ln Sess.row x3)-Int.toNat (x2)))::an 6 (.iv (ln Sess.row x3)::an 25 [])),[],[Sq9 x11]⟩) (Z6b x1 x2 x3) r ?_ fun J1=>?_
  ·intro x11 h;rw [Z6b] at h;(try dsimp only);refine Vg 6 ?_;have ⟨x12,ex12,h⟩:=Bs h;refine V_viewVM Sess.row ex12 trivial rfl rfl rfl rfl ?_;have ⟨x13,ex13,h⟩:=Bs h;refine V_clrM Sess.row ex13 trivial rfl rfl (by first | exact Zi4 _ | simp [go_sem]) (by first | rfl | simp [go_sem]) rfl rfl (Vg 6 ?_);have ⟨x14,ex14,h⟩:=Bs h;refine V_cutVM 6 0 4 ((Int.toNat (x1)-Int.toNat (0))+(Int.toNat (ln Sess.row x3)-Int.toNat (x2))) Sess.row ex14 rfl rfl ?_
   dsimp only[go_sem];obtain rfl:=Option.some.inj h;exact Z47 ok118
  ·refine Zz6 fun all H=>?_;refine Gn H 4 4 ?_;have ⟨x6,ex6,h⟩:=Bs h;have ⟨x7,ex7,h⟩:=Bs h;refine Z74 2 5 rfl ?_ ?_
   ·refine Z86 Sess.row ex6 H.1 rfl trivial rfl rfl rfl rfl ?_;dsimp only[go_sem];refine Z64 5 rfl (Z86 Sess.row ex7 H.1 rfl trivial rfl rfl rfl rfl ?_);dsimp only[go_sem];refine Z64 6 rfl ?_;have ⟨x10,ex10,h⟩:=Bs h;refine GO_appVM Sess.row ex10 H.1 rfl trivial rfl rfl rfl ?_;refine Gn H 1 0 ?_;refine GD ?_;exact Zx4 J1 h
   ·refine Z86 Sess.row ex7 H.1 rfl trivial rfl rfl rfl rfl ?_;dsimp only[go_sem];refine Z64 2 rfl (Z86 Sess.row ex6 H.1 rfl trivial rfl rfl rfl rfl ?_);dsimp only[go_sem];refine Z64 6 rfl ?_;have ⟨x10,ex10,h⟩:=Bs h;refine GO_appVM Sess.row ex10 H.1 rfl trivial rfl rfl rfl ?_;refine Gn H 1 0 ?_;refine GD ?_;exact Zx4 J1 h
@[go_sem] def e149:EC:=(by have h:=hF Tryz.f149;(conv at h=>rhs;reduce);dsimp only[go_sem] at h;exact ⟨_,h⟩:DP Tryz.f149).1
theorem ok149:FnOK Tryz.prog 149 Tryz.f149 e149 [.t 4] 2 7:=okA
def Z9b (x1:Book) (x2:Int):Option Int:=
 (Zm7 x1.Sess ((fun z=>Zc8 z x2))).bind fun x3=>
 some x3
theorem Zab (x1:Book) (x2:Int) (r:Int) (h:Z9b x1 x2=some r):Z03 Tryz.prog 149 [.agg (Book.row x1),.iv x2] (.iv r):=by
 refine FP ok149 fun w0 H0=>?_
 rw [Z9b] at h
 refine Vg 11 ?_;have ⟨x3,ex3,h⟩:=Bs h;refine VL (LR.block 1 rfl rfl) (Zn7 x1.Sess _ _ ((fun z=>Zc8 z x2)) ⟨by kernel_rfl,rfl,fun z r hz=>k_sess_find_1 z x2 r hz⟩ _ ex3) (Vg 2 ?_);exact MD ok149 h
def Zbb:Bool→Option Bool
| x5=>
 some x5
def Zcb (x1:Side):Bool→Option Bool
| x4=>
 ifb (!x4) (
 Zbb true) (
 ifb (decide (x1.Epoch<0)) (
 Zbb true) (
 ifb (decide (65535<x1.Epoch)) (
 Zbb true) (
 ifb (decide (x1.State<0)) (
 Zbb true) (
 ifb (decide (3<x1.State)) (
 Zbb true) (
 ifb x1.DY (
 Zbb (!x1.Fork)) (
 Zbb false))))))
def Zdb (x1:Side) (x2:Int) (x3:DI):Option Bool:=
 ifb (decide (x2<x1.Peer)) (
 (Zcb x1) (!decide (x1.Peer=x3.ID))) (
 (Zcb x1) false)
theorem Zeb (x1:Side) (x2:Int) (x3:DI) (r:Bool) (h:Zdb x1 x2 x3=some r):Zq5 Tryz.prog 140 [.agg (Side.row x1),.ptr 0 0,.ptr 1 0] [some ⟨3,[.iv x2]⟩,some ⟨25,DI.row x3⟩] [] (.bv r) [some ⟨3,[.iv x1.Peer]⟩,some ⟨25,DI.row x3⟩] []:=by
 refine FT ok140 fun w0 M0=>?_
 rw [Zdb] at h
 dsimp only[lun,List.cons_append,List.nil_append]
 refine Vg 12 ?_;refine Zo4 (fun (x4:Bool)=>⟨(.any :: .ptr 0 0 :: .any :: .ptr 2 0 :: .any :: .bv x4::an 44 []),[some ⟨3,[.iv x2]⟩,some ⟨25,DI.row x3⟩,some ⟨65,Side.row x1⟩],[]⟩) (Zcb x1) r ?_ fun J1=>?_
 ·intro x4 h;rw [Zcb] at h;(try dsimp only);refine Vg 11 ?_;refine Zo4 (fun (x5:Bool)=>⟨an 4 (.bv x5::an 45 []),[some ⟨3,[.iv x1.Peer]⟩,some ⟨25,DI.row x3⟩],[]⟩) Zbb r ?_ fun J2=>?_
  ·intro x5 h;rw [Zbb] at h;(try dsimp only);obtain rfl:=Option.some.inj h;exact Z47 ok140
  ·refine MC 21 h (fun h=>?_) fun h=>?_
   ·refine Vg 30 ?_;exact Zx4 J2 h
   ·refine Vg 5 ?_;refine MC 26 h (fun h=>?_) fun h=>?_
    ·refine Vg 25 ?_;exact Zx4 J2 h
    ·refine Vg 5 ?_;refine MC 31 h (fun h=>?_) fun h=>?_
     ·refine Vg 20 ?_;exact Zx4 J2 h
     ·refine Vg 5 ?_;refine MC 36 h (fun h=>?_) fun h=>?_
      ·refine Vg 15 ?_;exact Zx4 J2 h
      ·refine Vg 5 ?_;refine MC 41 h (fun h=>?_) fun h=>?_
       ·refine Vg 10 ?_;exact Zx4 J2 h
       ·refine Vg 3 ?_;refine MC 44 h (fun h=>?_) fun h=>?_
        ·refine Vg 7 ?_;exact Zx4 J2 h
        ·refine Vg 7 ?_;exact Zx4 J2 h
 ·refine MC 10 h (fun h=>?_) fun h=>?_
  ·refine Vg 8 ?_;exact Zx4 J1 h
  ·refine Vg 8 ?_;exact Zx4 J1 h
end
end NX
end Go.Proofs.YtdjkbodnjhgbcaaGreat
