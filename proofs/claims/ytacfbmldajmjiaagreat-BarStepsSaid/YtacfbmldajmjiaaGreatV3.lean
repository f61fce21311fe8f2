/-
  The function narthex/set.Of: its code compiled, a model, and that the code answers as the model. Written by a program of ours (lb.py). No statement of the seat is proved here.
-/
import Derived.KernelRfl
import Derived.Test.YtacfbmldajmjiaaGreatV2
import Derived.Test.YtacfbmldajmjiaaGreatV1
namespace Go.Proofs.YtacfbmldajmjiaaGreat
namespace NX
open Go
set_option maxRecDepth 100000
def laysSort_ren:Go.Shelf.Ren:=⟨(fun | 189=>147 | 125=>164 | 257=>163 | 128=>192 | 129=>193 | 294=>183 | 295=>184 | 296=>185 | 297=>186 | 298=>187 | 299=>188 | 216=>189 | 300=>190 | 301=>191 | 328=>198 | 329=>199 | 330=>200 | 331=>201 | 332=>202 | 215=>197 | 343=>203 | n=>n),(fun | 28=>26 | 3=>3 | 46=>182 | 0=>0 | 51=>198 | 53=>201 | 4=>4 | 183=>212 | 182=>211 | 131=>217 | 5=>5 | 9=>9 | 218=>223 | 222=>227 | 228=>229 | 229=>230 | n=>n),(fun | n=>n)⟩
theorem laysSort:Lays.n189 Tryz.prog laysSort_ren where
 mixed:=by kernel_rfl
 f125:=Tryz.func164.trans (congrArg some (by kernel_rfl))
 f128:=Tryz.func192.trans (congrArg some (by kernel_rfl))
 f129:=Tryz.func193.trans (congrArg some (by kernel_rfl))
 f189:=Tryz.func147.trans (congrArg some (by kernel_rfl))
 f215:=Tryz.func197.trans (congrArg some (by kernel_rfl))
 f216:=Tryz.func189.trans (congrArg some (by kernel_rfl))
 f257:=Tryz.func163.trans (congrArg some (by kernel_rfl))
 f294:=Tryz.func183.trans (congrArg some (by kernel_rfl))
 f295:=Tryz.func184.trans (congrArg some (by kernel_rfl))
 f296:=Tryz.func185.trans (congrArg some (by kernel_rfl))
 f297:=Tryz.func186.trans (congrArg some (by kernel_rfl))
 f298:=Tryz.func187.trans (congrArg some (by kernel_rfl))
 f299:=Tryz.func188.trans (congrArg some (by kernel_rfl))
 f300:=Tryz.func190.trans (congrArg some (by kernel_rfl))
 f301:=Tryz.func191.trans (congrArg some (by kernel_rfl))
 f328:=Tryz.func198.trans (congrArg some (by kernel_rfl))
 f329:=Tryz.func199.trans (congrArg some (by kernel_rfl))
 f330:=Tryz.func200.trans (congrArg some (by kernel_rfl))
 f331:=Tryz.func201.trans (congrArg some (by kernel_rfl))
 f332:=Tryz.func202.trans (congrArg some (by kernel_rfl))
 f343:=Tryz.func203.trans (congrArg some (by kernel_rfl))
 t0:=Tryz.underlying0
 a0:=Tryz.isAgg0
 z0:=Tryz.sizeOf0
 v0:=Tryz.zeroValue0
 t3:=Tryz.underlying3
 a3:=Tryz.isAgg3
 z3:=Tryz.sizeOf3
 v3:=Tryz.zeroValue3
 t4:=Tryz.underlying4
 a4:=Tryz.isAgg4
 z4:=Tryz.sizeOf4
 v4:=Tryz.zeroValue4
 t5:=Tryz.underlying5
 a5:=Tryz.isAgg5
 z5:=Tryz.sizeOf5
 v5:=Tryz.zeroValue5
 t9:=Tryz.underlying9
 a9:=Tryz.isAgg9
 z9:=Tryz.sizeOf9
 v9:=Tryz.zeroValue9
 t28:=Tryz.underlying26
 a28:=Tryz.isAgg26
 z28:=Tryz.sizeOf26
 v28:=Tryz.zeroValue26
 t46:=Tryz.underlying182
 a46:=Tryz.isAgg182
 z46:=Tryz.sizeOf182
 v46:=Tryz.zeroValue182
 t51:=Tryz.underlying198
 a51:=Tryz.isAgg198
 z51:=Tryz.sizeOf198
 v51:=Tryz.zeroValue198
 t53:=Tryz.underlying201
 a53:=Tryz.isAgg201
 z53:=Tryz.sizeOf201
 v53:=Tryz.zeroValue201
 t131:=Tryz.underlying217
 a131:=Tryz.isAgg217
 z131:=Tryz.sizeOf217
 v131:=Tryz.zeroValue217
 t182:=Tryz.underlying211
 a182:=Tryz.isAgg211
 z182:=Tryz.sizeOf211
 v182:=Tryz.zeroValue211
 t183:=Tryz.underlying212
 a183:=Tryz.isAgg212
 z183:=Tryz.sizeOf212
 v183:=Tryz.zeroValue212
 t218:=Tryz.underlying223
 a218:=Tryz.isAgg223
 z218:=Tryz.sizeOf223
 v218:=Tryz.zeroValue223
 t222:=Tryz.underlying227
 a222:=Tryz.isAgg227
 z222:=Tryz.sizeOf227
 v222:=Tryz.zeroValue227
 t228:=Tryz.underlying229
 a228:=Tryz.isAgg229
 z228:=Tryz.sizeOf229
 v228:=Tryz.zeroValue229
 t229:=Tryz.underlying230
 a229:=Tryz.isAgg230
 z229:=Tryz.sizeOf230
 v229:=Tryz.zeroValue230
def Zzc:Go.Shelf.Ren:=⟨(fun | 20=>148 | n=>n),(fun | 22=>26 | 3=>3 | 4=>4 | 0=>0 | n=>n),(fun | n=>n)⟩
theorem laysCompact:Lays2.n20 Tryz.prog Zzc where
 mixed:=by kernel_rfl
 f20:=Tryz.func148.trans (congrArg some (by kernel_rfl))
 t0:=Tryz.underlying0
 a0:=Tryz.isAgg0
 z0:=Tryz.sizeOf0
 v0:=Tryz.zeroValue0
 t3:=Tryz.underlying3
 a3:=Tryz.isAgg3
 z3:=Tryz.sizeOf3
 v3:=Tryz.zeroValue3
 t4:=Tryz.underlying4
 a4:=Tryz.isAgg4
 z4:=Tryz.sizeOf4
 v4:=Tryz.zeroValue4
 t22:=Tryz.underlying26
 a22:=Tryz.isAgg26
 z22:=Tryz.sizeOf26
 v22:=Tryz.zeroValue26
 i3:=by kernel_rfl
@[go_sem] def e123:EC:=.seq (.reg [(Qa 2 (.mv (.c .nl)))]) (.seq (.reg [(Qm 4 0),(Qa 5 (.call 136 [(.t 4)])),(Qm 3 5)]) (.seq (.reg [(Qm 6 3),(Qa 7 (.call 147 [(.t 6)]))]) (.seq (.reg [(Qm 8 3),(Qa 9 (.call 148 [(.t 8)])),(Qm 2 9)]) (.ret))))
theorem ok123:FnOK Tryz.prog 123 Tryz.f123 e123 [.t 2] 1 9:=⟨by kernel_rfl,⟨_,rfl,by kernel_rfl⟩,by kernel_rfl,by kernel_rfl⟩
noncomputable def Z0d (x1:List Int):Option (List Int):=
 (Zna x1).bind fun x2=>
 ifb (decide (x2.length<4611686018427387904)) (
 some (Lib.compact (x2.mergeSort fun x y=>decide (x≤y)))) none
theorem k_set_Of (x1:List Int) (r:List Int) (h:Z0d x1=some r):Zp2 Tryz.prog 123 [.sl 1 (List.map Zu4 x1)] (.sl 1 (List.map Zu4 r)):=by
 refine Zt2 ok123 rfl rfl fun w0 H0=>?_
 rw [Z0d] at h
 refine Zk2 100 ?_
 dsimp only [e123,go_sem]
 refine ⟨by simp,?_⟩
 obtain ⟨x2,ex2,h⟩:=Option.bind_eq_some_iff.1 h
 refine Z35 trivial (Zoa x1 _ ex2) (by first | exact Z74 _ | simp [go_sem]) (by first | rfl | simp [go_sem]) ?_
 refine Zk2 100 ?_
 dsimp only [e123,go_sem]
 refine ⟨by simp,?_⟩
 by_cases hl:x2.length<4611686018427387904
 ·rw [show decide (x2.length<4611686018427387904)=true from decide_eq_true hl] at h
  have h:some (Lib.compact (x2.mergeSort fun x y=>decide (x≤y)))=some r:=h
  refine V_sort laysSort x2 trivial (by kernel_rfl) rfl rfl hl ?_
  refine Zk2 100 ?_
  dsimp only [e123,go_sem]
  refine ⟨by simp,?_⟩
  refine V_compact laysCompact (x2.mergeSort fun x y=>decide (x≤y)) trivial (by kernel_rfl) rfl rfl (by simpa using hl) ?_
  refine Zk2 100 ?_
  dsimp only [e123,go_sem]
  refine ⟨by simp,?_⟩
  refine Z73 1 rfl ?_
  dsimp only [go_sem]
  exact Zo4 (res:=fun (r:List Int)=>.sl 1 (List.map Zu4 r)) ok123 h (by first | exact le_refl _ | simp [go_sem])
 ·rw [show decide (x2.length<4611686018427387904)=false from decide_eq_false hl] at h
  cases h
set_option maxRecDepth 100000
set_option maxHeartbeats 4000000
@[go_sem] def e152_L0:EC:=.seq (.reg [(Qa 15 (.bin .lss (.t 14) (.t 13)))]) (.seq (.ite (.t 15) (.skip) (.exit 0)) (.seq (.blk 1 (.seq (.reg [(Qk 16 2 12 14),(Qe 17 2 16),(Qa 7 (.alloc 30 [.iv 0,.iv 0])),(Qs 2 7 17)]) (.seq (.reg [(Qm 18 1)]) (.blk 2 (.seq (.reg [(Qf 20 0 7),(Ql 21 20),(Qa 22 (.bin .eql (.t 18) (.t 21))),(Qm 19 22)]) (.ite (.t 19) (.reg [(Qm 23 5),(Qf 24 1 7),(Ql 25 24),(Qa 26 (.bsl 3 1 1 [.iv 0] [(0,(.t 25))])),(Qa 27 (.app 3 1 8 (.t 23) (.t 26))),(Qm 5 27)]) (.seq (.reg [(Qf 29 1 7),(Ql 30 29),(Qa 31 (.bin .eql (.t 18) (.t 30))),(Qm 28 31)]) (.ite (.t 28) (.reg [(Qm 32 5),(Qf 33 0 7),(Ql 34 33),(Qa 35 (.bsl 3 1 1 [.iv 0] [(0,(.t 34))])),(Qa 36 (.app 3 1 8 (.t 32) (.t 35))),(Qm 5 36)]) (.skip))))))))) (.reg [(Qv 37 14 1),(Qm 14 37)])))
@[go_sem] def e152:EC:=.seq (.reg [(Qx 2 53 2 0),(Qa 4 (.mv (.c .nl)))]) (.seq (.seq (.reg [(Qe 8 2 2),(Qa 9 (.call 144 [(.t 8)])),(Qa 10 (.bin .neq (.t 9) (.c (.iv 0))))]) (.ite (.t 10) (.seq (.reg [(Qa 4 (.mv (.c .nl)))]) (.ret)) (.skip))) (.seq (.reg [(Qa 5 (.mv (.c .nl)))]) (.seq (.seq (.reg [(Qf 11 1 2),(Ql 12 11),(Qa 13 (.len (.t 12))),(Qi 14 0)]) (.blk 0 (.loop e152_L0))) (.seq (.reg [(Qm 38 5),(Qa 39 (.call 123 [(.t 38)])),(Qm 4 39)]) (.ret)))))
theorem ok152:FnOK Tryz.prog 152 Tryz.f152 e152 [.t 4] 2 38:=⟨by kernel_rfl,⟨_,rfl,by kernel_rfl⟩,by kernel_rfl,by kernel_rfl⟩
noncomputable def Z1d:(List Int)→Option (List Int)
| x23=>
 (Z0d x23).bind fun x24=>
 some x24
noncomputable def Z2d (x10:Int):(List Int)→Option ((Int×(List Int)) ⊕ (List Int))
| x15=>
 some (.inl (wr (x10+1),x15))
noncomputable def Z3d (x1:Graph) (x2:Int):(Int×(List Int))→Option ((Int×(List Int)) ⊕ (List Int))
| (x10,x11)=>
 ifb (decide (x10<(ln Edge.row x1.Edges))) (
 (at_ x1.Edges x10).bind fun x12=>
 ifb (decide (x2=x12.A)) (
 (Z84 8 x11 ([x12.B])).bind fun x13=>
 (Z2d x10) x13) (
 ifb (decide (x2=x12.B)) (
 (Z84 8 x11 ([x12.A])).bind fun x14=>
 (Z2d x10) x14) (
 (Z2d x10) x11))) (
 Option.map Sum.inr (Z1d x11))
noncomputable def Z4d (x1:Graph) (x2:Int):Option (List Int):=
 (Z67 x1).bind fun x3=>
 ifb (!decide (x3=0)) (
 some ([]:(List Int))) (
 loop (Z3d x1 x2) (0,([]:List Int)))
theorem Z5d (x1:Graph) (x2:Int) (r:(List Int)) (h:Z4d x1 x2=some r):Zp2 Tryz.prog 152 [.agg (Graph.row x1),.iv x2] (.sl 1 (List.map Zu4 r)):=by
 refine Zt2 ok152 rfl rfl fun w0 H0=>?_
 rw [Z4d] at h
 refine Zk2 9 ?_;dsimp only [go_sem];refine An ?_;obtain ⟨x3,ex3,h⟩:=Bs h;refine Zy2 trivial (Z77 x1 _ ex3) (h:=?_);refine Zk2 2 ?_;dsimp only [go_sem];refine An ?_;refine Zg4 h rfl (fun _ h=>?_) fun _ h=>?_
 ·refine Zk2 4 ?_;dsimp only [go_sem];refine An ?_;exact Zo4 (res:=fun (r:(List Int))=>.sl 1 (List.map Zu4 r)) ok152 h
 ·refine Zk2 13 ?_;dsimp only [go_sem];refine An ?_;refine Ze4 (fun (x23:(List Int))=>(⟨(an 5 (.osl 0::an 34 [])),[],[some ⟨3,1,List.map Zu4 x23⟩]⟩:St)) Z1d r ?_ fun J1=>?_
  ·intro x23 h;rw [Z1d] at h;(try dsimp only);refine Zk2 3 ?_;dsimp only [go_sem];refine An ?_;refine Z73 0 rfl ?_;dsimp only [go_sem];obtain ⟨x24,ex24,h⟩:=Bs h;refine Zy2 trivial (k_set_Of x23 _ ex24) (h:=?_);refine Zk2 2 ?_;dsimp only [go_sem];refine An ?_;exact Zo4 (res:=fun (r:(List Int))=>.sl 1 (List.map Zu4 r)) ok152 h
  ·refine Zk2 1 ?_;dsimp only [go_sem];refine An ?_;refine V_own 5 3 1 rfl rfl ?_;dsimp only [go_sem];refine Zf4 h (fun ((x10,x11):(Int×(List Int)))=>(⟨(.any :: .iv x2::an 3 (.osl 0::an 6 (.sl 2 (List.map Edge.row x1.Edges) :: .iv (ln Edge.row x1.Edges) :: .iv x10::an 25 []))),[],[some ⟨3,1,List.map Zu4 x11⟩]⟩:St)) (by simp [go_sem]) (by rintro ⟨x10,x11⟩;first | rfl | simp [go_sem]) ?_;rintro n1 ⟨x10,x11⟩ y1 h hin1 hout1;rw [Z3d] at h;(try dsimp only);refine Zk2 5 ?_;dsimp only [go_sem];refine An ?_
   refine Zg4 h rfl (fun _ h=>?_) fun _ h=>?_
   ·refine Zk2 5 ?_;dsimp only [go_sem];refine An ?_;obtain ⟨x12,ex12,h⟩:=Bs h;refine Zj4 Edge.row ex12 trivial rfl rfl rfl ?_;refine Zk2 16 ?_;dsimp only [go_sem];refine An ?_;refine Ze4 (fun (x15:(List Int))=>(⟨(.any :: .iv x2::an 3 (.osl 0::an 6 (.sl 2 (List.map Edge.row x1.Edges) :: .iv (ln Edge.row x1.Edges) :: .iv x10::an 25 []))),[],[some ⟨3,1,List.map Zu4 x15⟩]⟩:St)) (Z2d x10) y1 ?_ fun J2=>?_
    ·intro x15 h;rw [Z2d] at h;(try dsimp only);refine Zk2 6 ?_;dsimp only [go_sem];refine An ?_;exact Zp4 h hin1
    ·refine Zg4 h rfl (fun _ h=>?_) fun _ h=>?_
     ·refine Zk2 5 ?_;dsimp only [go_sem];refine An ?_;obtain ⟨x13,ex13,h⟩:=Bs h;refine Zl4 Zu4 ex13 trivial rfl rfl rfl ?_;refine Zk2 2 ?_;dsimp only [go_sem];refine An ?_;refine Z14 2 0 rfl rfl rfl ?_;dsimp only [go_sem];exact Zq4 J2 (s:=x13) h
     ·refine Zk2 7 ?_;dsimp only [go_sem];refine An ?_;refine Zg4 h rfl (fun _ h=>?_) fun _ h=>?_
      ·refine Zk2 5 ?_;dsimp only [go_sem];refine An ?_;obtain ⟨x14,ex14,h⟩:=Bs h;refine Zl4 Zu4 ex14 trivial rfl rfl rfl ?_;refine Zk2 2 ?_;dsimp only [go_sem];refine An ?_;refine Z14 2 0 rfl rfl rfl ?_;dsimp only [go_sem];exact Zq4 J2 (s:=x14) h
      ·refine Zk2 1 ?_;dsimp only [go_sem];refine An ?_;exact Zq4 J2 (s:=x11) h
   ·refine Zk2 1 ?_;dsimp only [go_sem];refine An ?_;exact Zq4 J1 (s:=x11) (Zd4 h hout1)
set_option maxRecDepth 100000
set_option maxHeartbeats 4000000
@[go_sem] def e125_L1:EC:=.seq (.reg [(Qa 34 (.bin .lss (.t 33) (.t 32)))]) (.seq (.ite (.t 34) (.skip) (.exit 2)) (.seq (.blk 3 (.seq (.reg [(Qk 35 1 31 33),(Ql 36 35),(Qm 11 36)]) (.seq (.drw [(Qm 37 1),(Qm 38 8),(Qk 39 1 37 38),(Ql 40 39),(Qm 41 1),(Qm 42 11),(Qk 43 1 41 42),(Ql 44 43),(Qa 45 (.bin .gtr (.t 40) (.t 44))),(Qm 12 45)] [[],[],[0,1],[2],[],[],[4,5],[6],[3,7],[8,0,1,2,3,4,5,6,7,8]] [[2],[2],[0,1,3],[2,8],[6],[6],[4,5,7],[6,8],[3,7,9],[8]]) (.reg [(Qf 46 2 9),(Ql 47 46),(Qm 48 11),(Qm 49 12),(Qm 50 12),(Qm 51 12),(Qm 52 12),(Qa 53 (.not (.t 52))),(Qm 54 12),(Qa 55 (.not (.t 54))),(Qa 56 (.build [.iv 0,.iv 0,.iv 0,.ff,.ff,.ff,.ff,.ff] [(0,1,(.t 48)),(1,1,(.c (.iv 1))),(3,1,(.t 49)),(4,1,(.t 50)),(6,1,(.t 51)),(5,1,(.t 53)),(7,1,(.t 55))])),(Qa 57 (.bsl 66 8 1 [.iv 0,.iv 0,.iv 0,.ff,.ff,.ff,.ff,.ff] [(0,(.t 56))])),(Qa 58 (.app 66 8 32 (.t 47) (.t 57))),(Qf 59 2 9),(Qs 1 59 58)])))) (.reg [(Qv 60 33 1),(Qm 33 60)])))
@[go_sem] def e125_L0:EC:=.seq (.reg [(Qa 25 (.bin .lss (.t 24) (.t 23)))]) (.seq (.ite (.t 25) (.skip) (.exit 0)) (.seq (.blk 1 (.seq (.reg [(Qm 26 24),(Qm 8 26)]) (.seq (.reg [(Qm 27 8),(Qa 28 (.build [.iv 0,.iv 0,.nl] [(0,1,(.t 27))])),(Qa 9 (.alloc 61 [.iv 0,.iv 0,.nl])),(Qs 3 9 28)]) (.seq (.seq (.reg [(Qe 29 2 2),(Qm 30 8),(Qa 31 (.call 152 [(.t 29),(.t 30)])),(Qa 32 (.len (.t 31))),(Qi 33 0)]) (.blk 2 (.loop e125_L1))) (.reg [(Qm 61 7),(Qe 62 3 9),(Qa 63 (.bsl 61 3 1 [.iv 0,.iv 0,.nl] [(0,(.t 62))])),(Qa 64 (.app 61 3 40 (.t 61) (.t 63))),(Qm 7 64)]))))) (.reg [(Qv 65 24 1),(Qm 24 65)])))
@[go_sem] def e125:EC:=.seq (.reg [(Qx 2 53 2 0),(Qa 4 (.mv (.c .nl))),(Qi 5 0)]) (.seq (.seq (.reg [(Qe 13 2 2),(Qa 14 (.call 144 [(.t 13)])),(Qm 6 14)]) (.seq (.reg [(Qm 15 6),(Qa 16 (.bin .neq (.t 15) (.c (.iv 0))))]) (.ite (.t 16) (.seq (.reg [(Qm 17 6),(Qa 4 (.mv (.c .nl))),(Qm 5 17)]) (.ret)) (.skip)))) (.seq (.seq (.reg [(Qe 18 2 2),(Qm 19 1),(Qa 20 (.call 151 [(.t 18),(.t 19)])),(Qa 21 (.not (.t 20)))]) (.ite (.t 21) (.seq (.reg [(Qa 4 (.mv (.c .nl))),(Qi 5 120)]) (.ret)) (.skip))) (.seq (.reg [(Qa 7 (.mv (.c .nl)))]) (.seq (.seq (.reg [(Qf 22 0 2),(Ql 23 22),(Qi 24 0)]) (.blk 0 (.loop e125_L0))) (.seq (.reg [(Qm 66 7),(Qm 4 66),(Qi 5 0)]) (.ret))))))
theorem ok125:FnOK Tryz.prog 125 Tryz.f125 e125 [.t 4,.t 5] 2 65:=⟨by kernel_rfl,⟨_,rfl,by kernel_rfl⟩,by kernel_rfl,by kernel_rfl⟩
noncomputable def Z6d:(List Diner)→Option ((List Diner)×Int)
| x68=>
 some (x68,0)
noncomputable def Z7d (x31:Int) (x32:(List Diner)):(List Side)→Option ((Int×(List Diner)) ⊕ ((List Diner)×Int))
| x59=>
 (Z84 40 x32 ([(Diner.mk x31 0 x59)])).bind fun x60=>
 some (.inl (wr (x31+1),x60))
noncomputable def Z8d (x2:(List Int)) (x31:Int) (x32:(List Diner)) (x33:(List Int)):(Int×(List Side))→Option ((Int×(List Side)) ⊕ ((Int×(List Diner)) ⊕ ((List Diner)×Int)))
| (x40,x41)=>
 ifb (decide (x40<(ln Zu4 x33))) (
 (at_ x33 x40).bind fun x42=>
 (at_ x2 x31).bind fun x43=>
 (at_ x2 x42).bind fun x44=>
 (Z84 32 x41 ([(Side.mk x42 1 0 (decide (x44<x43)) (decide (x44<x43)) (!(decide (x44<x43))) (decide (x44<x43)) (!(decide (x44<x43))))])).bind fun x45=>
 some (.inl (wr (x40+1),x45))) (
 Option.map Sum.inr ((Z7d x31 x32) x41))
noncomputable def Z9d (x1:Graph) (x2:(List Int)):(Int×(List Diner))→Option ((Int×(List Diner)) ⊕ ((List Diner)×Int))
| (x31,x32)=>
 ifb (decide (x31<x1.N)) (
 (Z4d x1 x31).bind fun x33=>
 loop (Z8d x2 x31 x32 x33) (0,([]:List Side))) (
 Option.map Sum.inr (Z6d x32))
noncomputable def Zad (x1:Graph) (x2:(List Int)):Option ((List Diner)×Int):=
 (Z67 x1).bind fun x3=>
 ifb (!decide (x3=0)) (
 some (([]:(List Diner)),x3)) (
 (Zhc x1 x2).bind fun x4=>
 ifb (!x4) (
 some (([]:(List Diner)),120)) (
 loop (Z9d x1 x2) (0,([]:List Diner))))
theorem k_place_Table (x1:Graph) (x2:(List Int)) (r:((List Diner)×Int)) (h:Zad x1 x2=some r):Zp2 Tryz.prog 125 [.agg (Graph.row x1),.sl 1 (List.map Zu4 x2)] (.tup [.sl 3 (List.map Diner.row r.1),.iv r.2]):=by
 refine Zt2 ok125 rfl rfl fun w0 H0=>?_
 rw [Zad] at h
 refine Zk2 10 ?_;dsimp only [go_sem];refine An ?_;obtain ⟨x3,ex3,h⟩:=Bs h;refine Zy2 trivial (Z77 x1 _ ex3) (h:=?_);refine Zk2 7 ?_;dsimp only [go_sem];refine An ?_;refine Zg4 h rfl (fun _ h=>?_) fun _ h=>?_
 ·refine Zk2 6 ?_;dsimp only [go_sem];refine An ?_;exact Zo4 (res:=fun (r:((List Diner)×Int))=>.tup [.sl 3 (List.map Diner.row r.1),.iv r.2]) ok125 h
 ·refine Zk2 6 ?_;dsimp only [go_sem];refine An ?_;obtain ⟨x4,ex4,h⟩:=Bs h;refine Zy2 trivial (Zic x1 x2 _ ex4) (h:=?_);refine Zk2 2 ?_;dsimp only [go_sem];refine An ?_;refine Zg4 h rfl (fun _ h=>?_) fun _ h=>?_
  ·refine Zk2 5 ?_;dsimp only [go_sem];refine An ?_;exact Zo4 (res:=fun (r:((List Diner)×Int))=>.tup [.sl 3 (List.map Diner.row r.1),.iv r.2]) ok125 h
  ·refine Zk2 12 ?_;dsimp only [go_sem];refine An ?_;refine Ze4 (fun (x68:(List Diner))=>(⟨(an 7 (.osl 0::an 59 [])),[],[some ⟨61,3,List.map Diner.row x68⟩]⟩:St)) Z6d r ?_ fun J1=>?_
   ·intro x68 h;rw [Z6d] at h;(try dsimp only);refine Zk2 6 ?_;dsimp only [go_sem];refine An ?_;refine Z73 0 rfl ?_;dsimp only [go_sem];exact Zo4 (res:=fun (r:((List Diner)×Int))=>.tup [.sl 3 (List.map Diner.row r.1),.iv r.2]) ok125 h
   ·refine Zk2 1 ?_;dsimp only [go_sem];refine An ?_;refine V_own 7 61 3 rfl rfl ?_;dsimp only [go_sem];refine Zf4 h (fun ((x31,x32):(Int×(List Diner)))=>(⟨(.any :: .sl 1 (List.map Zu4 x2) :: .ptr 0 0::an 4 (.osl 0::an 15 (.iv x1.N :: .iv x31::an 42 []))),[some ⟨53,[.iv x1.N,.sl 2 (List.map Edge.row x1.Edges)]⟩],[some ⟨61,3,List.map Diner.row x32⟩]⟩:St)) (by simp [go_sem]) (by rintro ⟨x31,x32⟩;first | rfl | simp [go_sem]) ?_;rintro n1 ⟨x31,x32⟩ y1 h hin1 hout1;rw [Z9d] at h;(try dsimp only);refine Zk2 5 ?_;dsimp only [go_sem]
    refine An ?_;refine Zg4 h rfl (fun _ h=>?_) fun _ h=>?_
    ·refine Zk2 20 ?_;dsimp only [go_sem];refine An ?_;obtain ⟨x33,ex33,h⟩:=Bs h;refine Zy2 trivial (Z5d x1 x31 _ ex33) (h:=?_);refine Zk2 3 ?_;dsimp only [go_sem];refine An ?_
     refine Ze4 (fun (x59:(List Side))=>(⟨(.any :: .sl 1 (List.map Zu4 x2) :: .ptr 0 0::an 4 (.osl 0 :: .any :: .ptr 1 0::an 13 (.iv x1.N :: .iv x31::an 42 []))),[some ⟨53,[.iv x1.N,.sl 2 (List.map Edge.row x1.Edges)]⟩,some ⟨61,[.iv x31,.iv 0,.osl 1]⟩],[some ⟨61,3,List.map Diner.row x32⟩,some ⟨66,8,List.map Side.row x59⟩]⟩:St)) (Z7d x31 x32) y1 ?_ fun J2=>?_
     ·intro x59 h;rw [Z7d] at h;(try dsimp only);refine Zk2 3 ?_;dsimp only [go_sem];refine An ?_;refine Z73 1 rfl ?_;dsimp only [go_sem];refine Zk2 1 ?_;dsimp only [go_sem];refine An ?_;obtain ⟨x60,ex60,h⟩:=Bs h;refine Zl4 Diner.row ex60 trivial rfl rfl rfl ?_;refine Zk2 7 ?_;dsimp only [go_sem];refine An ?_;refine Z14 3 0 rfl rfl rfl ?_;dsimp only [go_sem];exact Zp4 h hin1
     ·refine Zk2 1 ?_;dsimp only [go_sem];refine An ?_;refine Z24 1 2 66 8 rfl rfl rfl ?_;dsimp only [go_sem]
      refine Zf4 h (fun ((x40,x41):(Int×(List Side)))=>(⟨(.any :: .sl 1 (List.map Zu4 x2) :: .ptr 0 0::an 4 (.osl 0 :: .iv x31 :: .ptr 1 0::an 13 (.iv x1.N :: .iv x31::an 6 (.sl 1 (List.map Zu4 x33) :: .iv (ln Zu4 x33) :: .iv x40::an 33 [])))),[some ⟨53,[.iv x1.N,.sl 2 (List.map Edge.row x1.Edges)]⟩,some ⟨61,[.iv x31,.iv 0,.osl 1]⟩],[some ⟨61,3,List.map Diner.row x32⟩,some ⟨66,8,List.map Side.row x41⟩]⟩:St)) (by simp [go_sem]) (by rintro ⟨x40,x41⟩;first | rfl | simp [go_sem]) ?_;rintro n2 ⟨x40,x41⟩ y2 h hin2 hout2;rw [Z8d] at h
      (try dsimp only);refine Zk2 5 ?_;dsimp only [go_sem];refine An ?_;refine Zg4 h rfl (fun _ h=>?_) fun _ h=>?_
      ·refine Zk2 5 ?_;dsimp only [go_sem];refine An ?_;obtain ⟨x42,ex42,h⟩:=Bs h;refine Zj4 Zu4 ex42 trivial rfl rfl rfl ?_;refine Zk2 4 ?_;dsimp only [go_sem];refine An ?_;refine Zf3 (by kernel_rfl) fun all hall hs hnap haf=>?_;dsimp only [go_sem];refine Z55 hall hs haf hnap 4 6 ?_;dsimp only [go_sem];refine An ?_;obtain ⟨x43,ex43,h⟩:=Bs h;refine Zk4 hall hs haf hnap 2 Zu4 ex43 rfl rfl trivial rfl rfl rfl rfl ?_;refine Z55 hall hs haf hnap 1 4 ?_;dsimp only [go_sem];refine An ?_;obtain ⟨x44,ex44,h⟩:=Bs h
       refine Zk4 hall hs haf hnap 6 Zu4 ex44 rfl rfl trivial rfl rfl rfl rfl ?_;refine Z55 hall hs haf hnap 3 0 ?_;dsimp only [go_sem];refine An ?_;refine Zp3 rfl ?_ _;refine Zk2 13 ?_;dsimp only [go_sem];refine An ?_;obtain ⟨x45,ex45,h⟩:=Bs h;refine Zl4 Side.row ex45 trivial rfl rfl rfl ?_;refine Zk2 8 ?_;dsimp only [go_sem];refine An ?_;refine Z14 3 1 rfl rfl rfl ?_;dsimp only [go_sem];exact Zp4 h hin2
      ·refine Zk2 1 ?_;dsimp only [go_sem];refine An ?_;exact Zq4 J2 (s:=x41) (Zd4 h hout2)
    ·refine Zk2 1 ?_;dsimp only [go_sem];refine An ?_;exact Zq4 J1 (s:=x32) (Zd4 h hout1)
set_option maxRecDepth 100000
set_option maxHeartbeats 4000000
theorem pw_ext {α:Type} {R:α→α→Prop} (irr:∀x,¬R x x) (asy:∀x y,R x y→¬R y x):∀ {l m:List α},l.Pairwise R→m.Pairwise R→(∀x,x∈l↔x∈m)→l=m
 | [],[],_,_,_=>rfl
 | [],y::m,_,_,h=>absurd ((h y).2 (by simp)) (by simp)
 | x::l,[],_,_,h=>absurd ((h x).1 (by simp)) (by simp)
 | x::l,y::m,hl,hm,h=>by
   rw [List.pairwise_cons] at hl hm
   have hxy:x=y:=by
    rcases List.mem_cons.1 ((h x).1 (by simp)) with e | e
    ·exact e
    ·rcases List.mem_cons.1 ((h y).2 (by simp)) with e2 | e2
     ·exact e2.symm
     ·exact absurd (hl.1 y e2) (asy _ _ (hm.1 x e))
   subst hxy
   rw [pw_ext irr asy hl.2 hm.2 fun z=>?_]
   constructor
   ·intro hz
    rcases List.mem_cons.1 ((h z).1 (List.mem_cons_of_mem _ hz)) with e | e
    ·subst e;exact absurd (hl.1 z hz) (irr z)
    ·exact e
   ·intro hz
    rcases List.mem_cons.1 ((h z).2 (List.mem_cons_of_mem _ hz)) with e | e
    ·subst e;exact absurd (hm.1 z hz) (irr z)
    ·exact e
theorem Edge.lt_trans {x y z:Edge} (h:x.lt y=true) (k:y.lt z=true):x.lt z=true:=by
 simp only [Edge.lt,Bool.or_eq_true,Bool.and_eq_true,decide_eq_true_eq] at *
 omega
theorem Edge.lt_irr (x:Edge):¬x.lt x=true:=by
 simp only [Edge.lt,Bool.or_eq_true,Bool.and_eq_true,decide_eq_true_eq]
 omega
theorem Zbd:∀ {l:List Edge},risB l=true→l.Pairwise fun x y=>x.lt y=true
 | [],_=>List.Pairwise.nil
 | [x],_=>by simp
 | x::y::l,h=>by
   simp only [risB,Bool.and_eq_true] at h
   have ih:=Zbd h.2
   refine List.pairwise_cons.2 ⟨?_,ih⟩
   intro z hz
   rcases List.mem_cons.1 hz with rfl | hz
   ·exact h.1
   ·exact Edge.lt_trans h.1 ((List.pairwise_cons.1 ih).1 z hz)
theorem okG_pw {g:Graph} (h:okG g=true):g.Edges.Pairwise fun x y=>x.lt y=true:=Zbd (Zl7 h).2.2.2.2
def Zcd (a:Int) (e:Edge):Option Int:=if a=e.A then some e.B else if a=e.B then some e.A else none
def Zdd (g:Graph) (a:Int):List Int:=g.Edges.filterMap (Zcd a)
theorem Zed {g:Graph} (h:okG g=true) (a:Int):(Zdd g a).Pairwise (· < ·):=by
 unfold Zdd
 rw [List.pairwise_filterMap]
 obtain ⟨_,_,_,h4,_⟩:=Zl7 h
 refine List.Pairwise.imp_of_mem ?_ (okG_pw h)
 intro x y hx hy hxy b hb b' hb'
 have k1:=h4 x hx
 have k2:=h4 y hy
 simp only [Edge.lt,Bool.or_eq_true,Bool.and_eq_true,decide_eq_true_eq] at hxy
 unfold Zcd at hb hb'
 split at hb<;>split at hb'
 ·simp at hb hb';omega
 ·split at hb'
  ·simp at hb hb';omega
  ·simp at hb'
 ·split at hb
  ·simp at hb hb';omega
  ·simp at hb
 ·split at hb<;>split at hb'
  ·simp at hb hb';omega
  ·simp at hb'
  ·simp at hb
  ·simp at hb
theorem pw_chain {l:List Int} (h:l.Pairwise (· < ·)) {k:Nat} {x y:Int} (hx:l[k]?=some x) (hy:l[k+1]?=some y):x<y:=by
 rw [List.pairwise_iff_getElem] at h
 obtain ⟨h1,rfl⟩:=List.getElem?_eq_some_iff.1 hx
 obtain ⟨h2,rfl⟩:=List.getElem?_eq_some_iff.1 hy
 exact h k (k+1) h1 h2 (by omega)
theorem Zfd {l:List Int} (h:l.Pairwise (· < ·)):Lib.compact l=l:=by
 refine Lib.compact_all l fun j hj=>?_
 cases j with
 | zero=>exact Lib.keeps_lt_one _ 0 (by omega)
 | succ j=>
   have hx:l[j+1]?=some l[j+1]:=List.getElem?_eq_getElem hj
   have hy:l[j]?=some l[j]:=List.getElem?_eq_getElem (by omega)
   have:=pw_chain h hy hx
   refine Lib.keeps_pos ?_
   simp only [Nat.add_sub_cancel]
   rw [getElem!_pos _ _ (by simpa using hj),getElem!_pos _ _ (by simp;omega)]
   simp only [List.getElem_toArray]
   omega
def setL (l:List Int):List Int:=Lib.compact (l.mergeSort fun x y=>decide (x≤y))
theorem s_setL (l:List Int) (hl:l.length≤1000000):Z0d l=some (setL l):=by
 simp only [Z0d,Zna]
 rw [Z56 _ _ (by omega) (by simp;omega),Option.bind_some,List.nil_append,decide_eq_true (by omega),Z06]
 rfl
theorem s_setOf (l:List Int) (hl:l.length≤1000000) (h:l.Pairwise (· < ·)):Z0d l=some l:=by
 rw [s_setL l hl]
 unfold setL
 rw [List.mergeSort_of_pairwise (h.imp fun hxy=>decide_eq_true (by omega)),Zfd h]
theorem Zgd (g:Graph) (a:Int):(Zdd g a).length≤g.Edges.length:=List.length_filterMap_le _ _
theorem s_Near (g:Graph) (a:Int):Z4d g a=some (if okG g then Zdd g a else []):=by
 simp only [Z4d,Zk7,Option.bind_some]
 cases hg:okG g with
 | false=>rfl
 | true=>
   have h400:=(Zl7 hg).2.2.1
   simp only [if_true,decide_true,Bool.not_true,Z16]
   refine Z68 g.Edges _ (fun pre=>((pre.length:Int),pre.filterMap (Zcd a))) (Zdd g a) (fun pre e post h=>?_) ?_
   ·have hx:=Z78 h
    have hm:=Z88 h
    have hl:(pre.filterMap (Zcd a)).length≤pre.length:=List.length_filterMap_le _ _
    dsimp only [Z3d]
    rw [Z66 hx,Z06,Z46 hx,Option.bind_some,Zc8,List.filterMap_append]
    by_cases h1:a=e.A
    ·rw [decide_eq_true h1,Z06,Z56 _ _ (by omega) (by simp only [List.length_singleton];omega),Option.bind_some,Z2d,Z86 (by omega)]
     simp [Zcd,h1]
    ·by_cases h2:a=e.B
     ·rw [decide_eq_false h1,Z16,decide_eq_true h2,Z06,Z56 _ _ (by omega) (by simp only [List.length_singleton];omega),Option.bind_some,Z2d,Z86 (by omega)]
      have:¬e.B=e.A:=fun e'=>h1 (h2.trans e')
      simp [Zcd,h2,this]
     ·rw [decide_eq_false h1,Z16,decide_eq_false h2,Z16,Z2d,Z86 (by omega)]
      simp [Zcd,h1,h2]
   ·dsimp only [Z3d]
    rw [Z76,Z16,Z1d]
    have:(g.Edges.filterMap (Zcd a))=Zdd g a:=rfl
    rw [this,s_setOf _ (by have:=Zgd g a;omega) (Zed hg a)]
    rfl
theorem Zhd {g:Graph} (h:okG g=true) {a b:Int}:b∈Zdd g a↔(⟨a,b⟩:Edge)∈g.Edges∨(⟨b,a⟩:Edge)∈g.Edges:=by
 obtain ⟨_,_,_,h4,_⟩:=Zl7 h
 unfold Zdd
 rw [List.mem_filterMap]
 constructor
 ·rintro ⟨e,he,hb⟩
  unfold Zcd at hb
  split at hb
  ·rename_i h1
   simp at hb;subst hb;subst h1;exact .inl he
  ·split at hb
   ·rename_i h2
    simp at hb;subst hb;subst h2;exact .inr he
   ·simp at hb
 ·rintro (he | he)
  ·exact ⟨_,he,by simp [Zcd]⟩
  ·have:=h4 _ he
   dsimp only at this
   exact ⟨_,he,by unfold Zcd;rw [if_neg (by dsimp only;omega),if_pos rfl]⟩
theorem Zid {g:Graph} (h:okG g=true) {a b:Int} (hb:b∈Zdd g a):0≤b∧b<g.N∧b≠a∧0≤a∧a<g.N:=by
 obtain ⟨_,_,_,h4,_⟩:=Zl7 h
 rcases (Zhd h).1 hb with he | he
 ·have:=h4 _ he;dsimp only at this;omega
 ·have:=h4 _ he;dsimp only at this;omega
def sideT (c:List Int) (a b:Int):Side:=⟨b,1,0,decide (cg c b<cg c a),decide (cg c b<cg c a),!decide (cg c b<cg c a),decide (cg c b<cg c a),!decide (cg c b<cg c a)⟩
def Zjd (g:Graph) (c:List Int) (a:Nat):Diner:=⟨a,0,(Zdd g a).map (sideT c a)⟩
def Zkd (g:Graph) (c:List Int):List Diner:=(List.range g.N.toNat).map (Zjd g c)
theorem Zld {α:Type} (f:Nat→α) (k:Nat):(List.range (k+1)).map f=(List.range k).map f++[f k]:=by simp [List.range_succ]
theorem s_Table2 (g:Graph) (hg:okG g=true) (c:List Int) (hc:(c.length:Int)=g.N) (a:Nat) (ha:(a:Int)<g.N) (L:List Diner) (hL:L.length≤1000):
  loop (Z8d c a L (Zdd g a)) (0,[])=some (.inl (((a+1:Nat):Int),L++[Zjd g c a])):=by
 obtain ⟨g1,g2,g3,_,_⟩:=Zl7 hg
 have hnl:=Zgd g a
 refine Z68 (Zdd g a) _ (fun pre=>((pre.length:Int),pre.map (sideT c a))) _ (fun pre b post h=>?_) ?_
 ·have hx:=Z78 h
  have hm:=Z88 h
  obtain ⟨b1,b2,_,_,_⟩:=Zid hg (Z98 h)
  dsimp only [Z8d]
  rw [Z66 hx,Z06,Z46 hx,Option.bind_some,at_cg (c:=c) (Int.natCast_nonneg a) (by omega),Option.bind_some,at_cg (c:=c) b1 (by omega),Option.bind_some,Z56 _ _ (by omega) (by simp;omega),Option.bind_some,Zc8,Z86 (by omega),List.map_append]
  rfl
 ·dsimp only [Z8d]
  rw [Z76,Z16,Z7d,Z56 _ _ (by omega) (by simp;omega),Option.bind_some,Z86 (by omega)]
  rfl
theorem rightB_len {g:Graph} {c:List Int} (h:Zwc g c=true):(c.length:Int)=g.N:=by
 simp only [Zwc,Bool.and_eq_true,decide_eq_true_eq] at h;exact h.1
theorem s_Table (g:Graph) (c:List Int) (hc:c.length≤1000000):Zad g c=some (if okG g then (if Zwc g c then (Zkd g c,0) else ([],120)) else ([],30)):=by
 simp only [Zad,Zk7,Option.bind_some]
 cases hg:okG g with
 | false=>rfl
 | true=>
   obtain ⟨g1,g2,_,_,_⟩:=Zl7 hg
   simp only [if_true,decide_true,Bool.not_true,Z16,s_Right g c hc,hg,Bool.true_and,Option.bind_some]
   cases hr:Zwc g c with
   | false=>rfl
   | true=>
     simp only [Bool.not_true,Z16,if_true]
     refine loop_nat g.N.toNat (Z9d g c) (fun k=>((k:Int),(List.range k).map (Zjd g c))) _ (fun k hk=>?_) ?_
     ·dsimp only [Z9d]
      rw [decide_eq_true (by omega),Z06,s_Near,hg,if_pos rfl,Option.bind_some,s_Table2 g hg c (rightB_len hr) k (by omega) _ (by simp;omega),Zld]
     ·dsimp only [Z9d]
      rw [decide_eq_false (by omega),Z16]
      rfl
theorem rightB_ne {g:Graph} (hg:okG g=true) {c:List Int} (h:Zwc g c=true) {a b:Int} (hb:b∈Zdd g a):cg c a≠cg c b:=by
 simp only [Zwc,Bool.and_eq_true,List.all_eq_true,Bool.not_eq_true',decide_eq_false_iff_not] at h
 rcases (Zhd hg).1 hb with he | he
 ·exact h.2.2 _ he
 ·exact fun e=>h.2.2 _ he e.symm
set_option maxRecDepth 100000
set_option maxHeartbeats 4000000
@[go_sem] def e166:EC:=.seq (.reg [(Qa 2 (.mv (.c .ff)))]) (.seq (.reg [(Qm 3 0),(Qa 4 (.bin .lss (.t 3) (.c (.iv 0)))),(Qm 2 4)]) (.ret))
theorem ok166:FnOK Tryz.prog 166 Tryz.f166 e166 [.t 2] 1 4:=⟨by kernel_rfl,⟨_,rfl,by kernel_rfl⟩,by kernel_rfl,by kernel_rfl⟩
noncomputable def Zmd (x1:Int):Option Bool:=
 some (decide (x1<0))
theorem Znd (x1:Int) (r:Bool) (h:Zmd x1=some r):Zp2 Tryz.prog 166 [.iv x1] (.bv r):=by
 refine Zt2 ok166 rfl rfl fun w0 H0=>?_
 rw [Zmd] at h
 refine Zk2 10 ?_;dsimp only [go_sem];refine An ?_;exact Zo4 (res:=fun (r:Bool)=>.bv r) ok166 h
set_option maxRecDepth 100000
set_option maxHeartbeats 4000000
@[go_sem] def e167:EC:=.seq (.reg [(Qa 4 (.mv (.c .ff)))]) (.seq (.reg [(Ql 5 1),(Qm 6 0),(Qk 7 1 5 6),(Ql 8 7),(Qa 9 (.bin .eql (.t 8) (.c (.iv 0)))),(Qm 10 9),(Qg 11 10 true (.mv (.t 0))),(Qn 12 10 true 2),(Qg 13 10 true (.bin .gtr (.t 11) (.t 12))),(Qp 14 10 13),(Qm 4 14)]) (.ret))
theorem ok167:FnOK Tryz.prog 167 Tryz.f167 e167 [.t 4] 3 12:=⟨by kernel_rfl,⟨_,rfl,by kernel_rfl⟩,by kernel_rfl,by kernel_rfl⟩
noncomputable def Zod:Bool→Option Bool
| x5=>
 some x5
noncomputable def Zpd (x1:Int) (x2:(List Int)) (x3:Int):Option Bool:=
 (at_ x2 x1).bind fun x4=>
 ifb (decide (x4=0)) (
 Zod (decide (x3<x1))) (
 Zod false)
theorem Zqd (x1:Int) (x2:(List Int)) (x3:Int) (r:Bool) (h:Zpd x1 x2 x3=some r):Zp2 Tryz.prog 167 [.iv x1,.elt ((Zv4 1 Zu4) x2) 0,.elt (Zu4 x3) 0] (.bv r):=by
 refine Zt2 ok167 rfl rfl fun w0 H0=>?_
 rw [Zpd] at h
 refine Zk2 8 ?_;dsimp only [go_sem];refine An ?_;obtain ⟨x4,ex4,h⟩:=Bs h;refine Zj4 Zu4 ex4 trivial rfl rfl rfl ?_;refine Zk2 3 ?_;dsimp only [go_sem];refine An ?_;refine Ze4 (fun (x5:Bool)=>(⟨(an 4 (.bv x5::an 10 [])),[],[]⟩:St)) Zod r ?_ fun J1=>?_
 ·intro x5 h;rw [Zod] at h;(try dsimp only);exact Zo4 (res:=fun (r:Bool)=>.bv r) ok167 h
 ·refine Zn4 10 h rfl (fun _ h=>?_) fun _ h=>?_
  ·dsimp only [go_sem];refine Zk2 6 ?_;dsimp only [go_sem];refine An ?_;exact Zq4 J1 (s:=decide (x3<x1)) h
  ·dsimp only [go_sem];refine Zk2 6 ?_;dsimp only [go_sem];refine An ?_;exact Zq4 J1 (s:=false) h
set_option maxRecDepth 100000
set_option maxHeartbeats 4000000
@[go_sem] def e168:EC:=.seq (.reg [(Qa 5 (.mv (.c .ff)))]) (.seq (.drw [(Ql 6 1),(Qm 7 0),(Qk 8 1 6 7),(Ql 9 8),(Ql 10 2),(Ql 11 3),(Qk 12 1 10 11),(Ql 13 12),(Qa 14 (.bin .eql (.t 9) (.t 13))),(Qm 5 14)] [[],[],[0,1],[2],[],[],[4,5],[6],[3,7],[8,0,1,2,3,4,5,6,7,8]] [[2],[2],[0,1,3],[2,8],[6],[6],[4,5,7],[6,8],[3,7,9],[8]]) (.ret))
theorem ok168:FnOK Tryz.prog 168 Tryz.f168 e168 [.t 5] 4 11:=⟨by kernel_rfl,⟨_,rfl,by kernel_rfl⟩,by kernel_rfl,by kernel_rfl⟩
noncomputable def Zrd (x1:Int) (x2:(List Int)) (x3:(List Int)) (x4:Int):Option Bool:=
 (at_ x2 x1).bind fun x5=>
 (at_ x3 x4).bind fun x6=>
 some (decide (x5=x6))
theorem Zsd (x1:Int) (x2:(List Int)) (x3:(List Int)) (x4:Int) (r:Bool) (h:Zrd x1 x2 x3 x4=some r):Zp2 Tryz.prog 168 [.iv x1,.elt ((Zv4 1 Zu4) x2) 0,.elt ((Zv4 1 Zu4) x3) 0,.elt (Zu4 x4) 0] (.bv r):=by
 refine Zt2 ok168 rfl rfl fun w0 H0=>?_
 rw [Zrd] at h
 refine Zk2 5 ?_;dsimp only [go_sem];refine An ?_;refine Zf3 (by kernel_rfl) fun all hall hs hnap haf=>?_;dsimp only [go_sem];refine Z55 hall hs haf hnap 4 6 ?_;dsimp only [go_sem];refine An ?_;obtain ⟨x5,ex5,h⟩:=Bs h;refine Zk4 hall hs haf hnap 2 Zu4 ex5 rfl rfl trivial rfl rfl rfl rfl ?_;refine Z55 hall hs haf hnap 1 4 ?_;dsimp only [go_sem];refine An ?_;obtain ⟨x6,ex6,h⟩:=Bs h;refine Zk4 hall hs haf hnap 6 Zu4 ex6 rfl rfl trivial rfl rfl rfl rfl ?_;refine Z55 hall hs haf hnap 3 0 ?_;dsimp only [go_sem];refine An ?_;refine Zp3 rfl ?_ _
 exact Zo4 (res:=fun (r:Bool)=>.bv r) ok168 h
set_option maxRecDepth 100000
set_option maxHeartbeats 4000000
@[go_sem] def e150_L1:EC:=.seq (.seq (.reg [(Qm 47 9),(Qa 48 (.mkf 168 [(.t 3),(.t 7),(.t 8)])),(Qa 49 (.call 103 [(.t 47),(.t 48)]))]) (.ite (.t 49) (.skip) (.exit 2))) (.blk 3 (.reg [(Ql 50 7),(Ql 51 8),(Qk 52 1 50 51),(Ql 53 52),(Qv 54 53 1),(Qk 55 1 50 51),(Qs 1 55 54)]))
@[go_sem] def e150_L0:EC:=.seq (.reg [(Qa 29 (.bin .lss (.t 28) (.t 27)))]) (.seq (.ite (.t 29) (.skip) (.exit 0)) (.seq (.blk 1 (.seq (.reg [(Qm 30 28),(Qa 8 (.alloc 3 [.iv 0])),(Qs 1 8 30)]) (.seq (.reg [(Qe 31 2 2),(Ql 32 8),(Qa 33 (.call 152 [(.t 31),(.t 32)])),(Qm 9 33)]) (.seq (.seq (.reg [(Ql 34 3),(Ql 35 8),(Qk 36 1 34 35),(Ql 37 36),(Qa 38 (.bin .neq (.t 37) (.c (.iv 0)))),(Qm 39 38),(Qg 40 39 false (.mv (.t 9))),(Qg 41 39 false (.mkf 167 [(.t 3),(.t 8)])),(Qg 42 39 false (.call 103 [(.t 40),(.t 41)])),(Qq 43 39 42)]) (.ite (.t 43) (.exit 1) (.skip))) (.seq (.reg [(Ql 44 7),(Ql 45 8),(Qk 46 1 44 45),(Qb (.store 1 (.t 46) (.c (.iv 1))))]) (.blk 2 (.loop e150_L1))))))) (.reg [(Qv 56 28 1),(Qm 28 56)])))
@[go_sem] def e150:EC:=.seq (.reg [(Qx 2 53 2 0),(Qx 3 26 1 1),(Qa 4 (.mv (.c .nl))),(Qi 5 0)]) (.seq (.seq (.reg [(Qe 10 2 2),(Qa 11 (.call 144 [(.t 10)])),(Qm 6 11)]) (.seq (.reg [(Qm 12 6),(Qa 13 (.bin .neq (.t 12) (.c (.iv 0))))]) (.ite (.t 13) (.seq (.reg [(Qm 14 6),(Qa 4 (.mv (.c .nl))),(Qm 5 14)]) (.ret)) (.skip)))) (.seq (.seq (.reg [(Ql 15 3),(Qa 16 (.len (.t 15))),(Qf 17 0 2),(Ql 18 17),(Qa 19 (.bin .neq (.t 16) (.t 18))),(Qm 20 19),(Qn 21 20 false 3),(Qg 22 20 false (.call 103 [(.t 21),(.c (.clo 166 []))])),(Qq 23 20 22)]) (.ite (.t 23) (.seq (.reg [(Qa 4 (.mv (.c .nl))),(Qi 5 110)]) (.ret)) (.skip))) (.seq (.reg [(Ql 24 3),(Qa 25 (.call 136 [(.t 24)])),(Qa 7 (.alloc 26 [.nl])),(Qs 1 7 25)]) (.seq (.seq (.reg [(Qf 26 0 2),(Ql 27 26),(Qi 28 0)]) (.blk 0 (.loop e150_L0))) (.seq (.reg [(Ql 57 7),(Qm 4 57),(Qi 5 0)]) (.ret))))))
theorem ok150:FnOK Tryz.prog 150 Tryz.f150 e150 [.t 4,.t 5] 2 56:=⟨by kernel_rfl,⟨_,rfl,by kernel_rfl⟩,by kernel_rfl,by kernel_rfl⟩
noncomputable def Ztd:(List Int)→Option ((List Int)×Int)
| x54=>
 some (x54,0)
noncomputable def Zud (x26:Int):(List Int)→Option ((Int×(List Int)) ⊕ ((List Int)×Int))
| x46=>
 some (.inl (wr (x26+1),x46))
noncomputable def Zvd (x2:(List Int)) (x26:Int) (x28:(List Int)):(List Int)→Option ((List Int) ⊕ ((Int×(List Int)) ⊕ ((List Int)×Int)))
| x35=>
 (Zc7 x28 ((fun z=>Zrd z x2 x35 x26))).bind fun x36=>
 ifb x36 (
 (at_ x35 x26).bind fun x37=>
 some (.inl (x35.set (x26).toNat (wr (x37+1))))) (
 Option.map Sum.inr ((Zud x26) x35))
noncomputable def Zwd (x2:(List Int)) (x26:Int) (x27:(List Int)) (x28:(List Int)):Bool→Option ((Int×(List Int)) ⊕ ((List Int)×Int))
| x31=>
 ifb x31 (
 (Zud x26) x27) (
 (at_ x27 x26).bind fun _=>
 loop (Zvd x2 x26 x28) (x27.set (x26).toNat 1))
noncomputable def Zxd (x1:Graph) (x2:(List Int)):(Int×(List Int))→Option ((Int×(List Int)) ⊕ ((List Int)×Int))
| (x26,x27)=>
 ifb (decide (x26<x1.N)) (
 (Z4d x1 x26).bind fun x28=>
 (at_ x2 x26).bind fun x29=>
 ifb (!decide (x29=0)) (
 (Zwd x2 x26 x27 x28) true) (
 (Zc7 x28 ((fun z=>Zpd z x2 x26))).bind fun x30=>
 (Zwd x2 x26 x27 x28) x30)) (
 Option.map Sum.inr (Ztd x27))
noncomputable def Zyd (x1:Graph) (x2:(List Int)):Bool→Option ((List Int)×Int)
| x5=>
 ifb x5 (
 some (([]:(List Int)),110)) (
 (Zna x2).bind fun x6=>
 loop (Zxd x1 x2) (0,x6))
noncomputable def Zzd (x1:Graph) (x2:(List Int)):Option ((List Int)×Int):=
 (Z67 x1).bind fun x3=>
 ifb (!decide (x3=0)) (
 some (([]:(List Int)),x3)) (
 ifb (!decide ((ln Zu4 x2)=x1.N)) (
 (Zyd x1 x2) true) (
 (Zc7 x2 ((fun z=>Zmd z))).bind fun x4=>
 (Zyd x1 x2) x4))
theorem Z0e (x1:Graph) (x2:(List Int)) (r:((List Int)×Int)) (h:Zzd x1 x2=some r):Zp2 Tryz.prog 150 [.agg (Graph.row x1),.sl 1 (List.map Zu4 x2)] (.tup [.sl 1 (List.map Zu4 r.1),.iv r.2]):=by
 refine Zt2 ok150 rfl rfl fun w0 H0=>?_
 rw [Zzd] at h
 refine Zk2 11 ?_;dsimp only [go_sem];refine An ?_;obtain ⟨x3,ex3,h⟩:=Bs h;refine Zy2 trivial (Z77 x1 _ ex3) (h:=?_);refine Zk2 7 ?_;dsimp only [go_sem];refine An ?_;refine Zg4 h rfl (fun _ h=>?_) fun _ h=>?_
 ·refine Zk2 6 ?_;dsimp only [go_sem];refine An ?_;exact Zo4 (res:=fun (r:((List Int)×Int))=>.tup [.sl 1 (List.map Zu4 r.1),.iv r.2]) ok150 h
 ·refine Zk2 10 ?_;dsimp only [go_sem];refine An ?_;refine Ze4 (fun (x5:Bool)=>(⟨(.any :: .any :: .ptr 0 0 :: .ptr 1 0::an 19 (.bv x5::an 34 [])),[some ⟨53,[.iv x1.N,.sl 2 (List.map Edge.row x1.Edges)]⟩,some ⟨26,[.sl 1 (List.map Zu4 x2)]⟩],[]⟩:St)) (Zyd x1 x2) r ?_ fun J1=>?_
  ·intro x5 h;rw [Zyd] at h;(try dsimp only);refine Zg4 h rfl (fun _ h=>?_) fun _ h=>?_
   ·refine Zk2 5 ?_;dsimp only [go_sem];refine An ?_;exact Zo4 (res:=fun (r:((List Int)×Int))=>.tup [.sl 1 (List.map Zu4 r.1),.iv r.2]) ok150 h
   ·refine Zk2 4 ?_;dsimp only [go_sem];refine An ?_;obtain ⟨x6,ex6,h⟩:=Bs h;refine Z35 trivial (Zoa x2 _ ex6) (h:=?_);refine Zk2 10 ?_;dsimp only [go_sem];refine An ?_;refine Ze4 (fun (x54:(List Int))=>(⟨(an 7 (.ptr 2 0::an 50 [])),[none,none,some ⟨26,[.osl 0]⟩],[some ⟨3,1,List.map Zu4 x54⟩]⟩:St)) Ztd r ?_ fun J2=>?_
    ·intro x54 h;rw [Ztd] at h;(try dsimp only);refine Zk2 6 ?_;dsimp only [go_sem];refine An ?_;refine Z73 0 rfl ?_;dsimp only [go_sem];exact Zo4 (res:=fun (r:((List Int)×Int))=>.tup [.sl 1 (List.map Zu4 r.1),.iv r.2]) ok150 h
    ·refine Zk2 1 ?_;dsimp only [go_sem];refine An ?_;refine Zf4 h (fun ((x26,x27):(Int×(List Int)))=>(⟨(.any :: .any :: .ptr 0 0 :: .ptr 1 0::an 3 (.ptr 2 0::an 19 (.iv x1.N :: .iv x26::an 29 []))),[some ⟨53,[.iv x1.N,.sl 2 (List.map Edge.row x1.Edges)]⟩,some ⟨26,[.sl 1 (List.map Zu4 x2)]⟩,some ⟨26,[.osl 0]⟩],[some ⟨3,1,List.map Zu4 x27⟩]⟩:St)) (by simp [go_sem]) (by rintro ⟨x26,x27⟩;first | rfl | simp [go_sem]) ?_;rintro n1 ⟨x26,x27⟩ y1 h hin1 hout1;rw [Zxd] at h;(try dsimp only);refine Zk2 5 ?_;dsimp only [go_sem];refine An ?_
     refine Zg4 h rfl (fun _ h=>?_) fun _ h=>?_
     ·refine Zk2 2 ?_;dsimp only [go_sem];refine An ?_;refine Ze4 (fun (x46:(List Int))=>(⟨(.any :: .any :: .ptr 0 0 :: .ptr 1 0::an 3 (.ptr 2 0::an 19 (.iv x1.N :: .iv x26::an 29 []))),[some ⟨53,[.iv x1.N,.sl 2 (List.map Edge.row x1.Edges)]⟩,some ⟨26,[.sl 1 (List.map Zu4 x2)]⟩,some ⟨26,[.osl 0]⟩],[some ⟨3,1,List.map Zu4 x46⟩]⟩:St)) (Zud x26) y1 ?_ fun J3=>?_
      ·intro x46 h;rw [Zud] at h;(try dsimp only);refine Zk2 4 ?_;dsimp only [go_sem];refine An ?_;exact Zp4 h hin1
      ·refine Zk2 11 ?_;dsimp only [go_sem];refine An ?_;obtain ⟨x28,ex28,h⟩:=Bs h;refine Zy2 trivial (Z5d x1 x26 _ ex28) (h:=?_);refine Zk2 7 ?_;dsimp only [go_sem];refine An ?_;obtain ⟨x29,ex29,h⟩:=Bs h;refine Zj4 Zu4 ex29 trivial rfl rfl rfl ?_;refine Zk2 3 ?_;dsimp only [go_sem];refine An ?_
       refine Ze4 (fun (x31:Bool)=>(⟨(.any :: .any :: .ptr 0 0 :: .ptr 1 0::an 3 (.ptr 2 0 :: .ptr 3 0 :: .sl 1 (List.map Zu4 x28)::an 17 (.iv x1.N :: .iv x26::an 14 (.bv x31::an 14 [])))),[some ⟨53,[.iv x1.N,.sl 2 (List.map Edge.row x1.Edges)]⟩,some ⟨26,[.sl 1 (List.map Zu4 x2)]⟩,some ⟨26,[.osl 0]⟩,some ⟨3,[.iv x26]⟩],[some ⟨3,1,List.map Zu4 x27⟩]⟩:St)) (Zwd x2 x26 x27 x28) y1 ?_ fun J4=>?_
       ·intro x31 h;rw [Zwd] at h;(try dsimp only);refine Zg4 h rfl (fun _ h=>?_) fun _ h=>?_
        ·refine Zk2 1 ?_;dsimp only [go_sem];refine An ?_;exact Zq4 J3 (s:=x27) h
        ·refine Zk2 5 ?_;dsimp only [go_sem];refine An ?_;obtain ⟨x32,ex32,h⟩:=Bs h;refine Z85 Zu4 ex32 trivial rfl rfl rfl ?_;refine Ze5 [.iv 1] Zu4 (y':=1) ex32 trivial rfl rfl rfl (by first | exact Z74 _ | simp [go_sem]) rfl rfl rfl rfl ?_;refine Zk2 2 ?_;dsimp only [go_sem];refine An ?_
         refine Zf4 h (fun (x35:(List Int))=>(⟨(.any :: .any :: .ptr 0 0 :: .ptr 1 0::an 3 (.ptr 2 0 :: .ptr 3 0 :: .sl 1 (List.map Zu4 x28)::an 17 (.iv x1.N :: .iv x26::an 29 []))),[some ⟨53,[.iv x1.N,.sl 2 (List.map Edge.row x1.Edges)]⟩,some ⟨26,[.sl 1 (List.map Zu4 x2)]⟩,some ⟨26,[.osl 0]⟩,some ⟨3,[.iv x26]⟩],[some ⟨3,1,List.map Zu4 x35⟩]⟩:St)) (by simp [go_sem]) (by intro x35;first | rfl | simp [go_sem]) ?_;rintro n2 x35 y2 h hin2 hout2;rw [Zvd] at h;(try dsimp only);refine Zk2 5 ?_;dsimp only [go_sem];refine An ?_
         obtain ⟨x36,ex36,h⟩:=Bs h;refine Zs4 trivial (((((Zr4.refl _).slice 0 rfl).block 1 rfl rfl).block 2 rfl rfl).block 3 rfl rfl) (Zd7 x28 _ _ ((fun z=>Zrd z x2 x35 x26)) ⟨by kernel_rfl,rfl,fun z r hz=>Zsd z x2 x35 x26 r hz⟩ _ ex36) (h:=?_);refine Zk2 1 ?_;dsimp only [go_sem];refine An ?_;refine Zg4 h rfl (fun _ h=>?_) fun _ h=>?_
         ·refine Zk2 5 ?_;dsimp only [go_sem];refine An ?_;obtain ⟨x37,ex37,h⟩:=Bs h;refine Z85 Zu4 ex37 trivial rfl rfl rfl ?_;refine Z95 Zu4 ex37 trivial rfl rfl rfl ?_;refine Zk2 1 ?_;dsimp only [go_sem];refine An ?_;refine Z85 Zu4 ex37 trivial rfl rfl rfl ?_;refine Ze5 [.iv (wr (x37+1))] Zu4 (y':=wr (x37+1)) ex37 trivial rfl rfl rfl (by first | exact Z74 _ | simp [go_sem]) rfl rfl rfl rfl ?_;refine Zk2 2 ?_;dsimp only [go_sem];refine An ?_;exact Zp4 h hin2
         ·refine Zk2 2 ?_;dsimp only [go_sem];refine An ?_;exact Zq4 J3 (s:=x35) (Zd4 h hout2)
       ·refine Zn4 39 h rfl (fun _ h=>?_) fun _ h=>?_
        ·dsimp only [go_sem];refine Zk2 5 ?_;dsimp only [go_sem];refine An ?_;exact Zq4 J4 (s:=true) h
        ·dsimp only [go_sem];refine Zk2 2 ?_;dsimp only [go_sem];refine An ?_;obtain ⟨x30,ex30,h⟩:=Bs h;refine Zs4 trivial (((Zr4.refl _).block 1 rfl rfl).block 3 rfl rfl) (Zd7 x28 _ _ ((fun z=>Zpd z x2 x26)) ⟨by kernel_rfl,rfl,fun z r hz=>Zqd z x2 x26 r hz⟩ _ ex30) (h:=?_);refine Zk2 2 ?_;dsimp only [go_sem];refine An ?_;exact Zq4 J4 (s:=x30) h
     ·refine Zk2 1 ?_;dsimp only [go_sem];refine An ?_;exact Zq4 J2 (s:=x27) (Zd4 h hout1)
  ·refine Zn4 20 h rfl (fun _ h=>?_) fun _ h=>?_
   ·dsimp only [go_sem];refine Zk2 4 ?_;dsimp only [go_sem];refine An ?_;exact Zq4 J1 (s:=true) h
   ·dsimp only [go_sem];refine Zk2 1 ?_;dsimp only [go_sem];refine An ?_;obtain ⟨x4,ex4,h⟩:=Bs h;refine Zy2 trivial (Zd7 x2 _ _ ((fun z=>Zmd z)) ⟨by kernel_rfl,rfl,fun z r hz=>Znd z r hz⟩ _ ex4) (h:=?_);refine Zk2 2 ?_;dsimp only [go_sem];refine An ?_;exact Zq4 J1 (s:=x4) h
set_option maxRecDepth 100000
set_option maxHeartbeats 4000000
@[go_sem] def e124_L0:EC:=.seq (.seq (.reg [(Qm 16 6),(Qa 17 (.call 149 [(.t 16),(.c (.iv 0))]))]) (.ite (.t 17) (.skip) (.exit 0))) (.blk 1 (.seq (.reg [(Qe 19 2 1),(Qm 20 6),(Qa 21 (.call 150 [(.t 19),(.t 20)])),(Qm 18 21),(Qa 22 (.ext (.t 18) 0)),(Qa 23 (.ext (.t 18) 1)),(Qm 6 22)]) (.reg [(Qm 24 7),(Qv 25 24 1),(Qm 7 25)])))
@[go_sem] def e124:EC:=.seq (.reg [(Qx 1 53 2 0),(Qa 2 (.mv (.c .nl))),(Qi 3 0),(Qi 4 0)]) (.seq (.seq (.reg [(Qe 8 2 1),(Qa 9 (.call 144 [(.t 8)])),(Qm 5 9)]) (.seq (.reg [(Qm 10 5),(Qa 11 (.bin .neq (.t 10) (.c (.iv 0))))]) (.ite (.t 11) (.seq (.reg [(Qm 12 5),(Qa 2 (.mv (.c .nl))),(Qi 3 0),(Qm 4 12)]) (.ret)) (.skip)))) (.seq (.reg [(Qf 13 0 1),(Ql 14 13),(Qa 15 (.mks 3 1 8 [.iv 0] (.t 14) (.t 14))),(Qm 6 15),(Qi 7 0)]) (.seq (.blk 0 (.loop e124_L0)) (.seq (.reg [(Qm 26 6),(Qm 27 7),(Qm 2 26),(Qm 3 27),(Qi 4 0)]) (.ret)))))
theorem ok124:FnOK Tryz.prog 124 Tryz.f124 e124 [.t 2,.t 3,.t 4] 1 27:=⟨by kernel_rfl,⟨_,rfl,by kernel_rfl⟩,by kernel_rfl,by kernel_rfl⟩
noncomputable def Z1e:((List Int)×Int)→Option ((List Int)×Int×Int)
| (x17,x18)=>
 some (x17,x18,0)
noncomputable def Z2e (x1:Graph):((List Int)×Int)→Option (((List Int)×Int) ⊕ ((List Int)×Int×Int))
| (x8,x9)=>
 (Zya x8 0).bind fun x10=>
 ifb x10 (
 (Zzd x1 x8).bind fun x11=>
 some (.inl (x11.1,wr (x9+1)))) (
 Option.map Sum.inr (Z1e (x8,x9)))
noncomputable def Z3e (x1:Graph):Option ((List Int)×Int×Int):=
 (Z67 x1).bind fun x2=>
 ifb (!decide (x2=0)) (
 some (([]:(List Int)),0,x2)) (
 (mk_ 8 x1.N 0).bind fun x3=>
 loop (Z2e x1) (x3,0))
theorem k_colour_Run (x1:Graph) (r:((List Int)×Int×Int)) (h:Z3e x1=some r):Zp2 Tryz.prog 124 [.agg (Graph.row x1)] (.tup [.sl 1 (List.map Zu4 r.1),.iv r.2.1,.iv r.2.2]):=by
 refine Zt2 ok124 rfl rfl fun w0 H0=>?_
 rw [Z3e] at h
 refine Zk2 11 ?_;dsimp only [go_sem];refine An ?_;obtain ⟨x2,ex2,h⟩:=Bs h;refine Zy2 trivial (Z77 x1 _ ex2) (h:=?_);refine Zk2 7 ?_;dsimp only [go_sem];refine An ?_;refine Zg4 h rfl (fun _ h=>?_) fun _ h=>?_
 ·refine Zk2 7 ?_;dsimp only [go_sem];refine An ?_;exact Zo4 (res:=fun (r:((List Int)×Int×Int))=>.tup [.sl 1 (List.map Zu4 r.1),.iv r.2.1,.iv r.2.2]) ok124 h
 ·refine Zk2 5 ?_;dsimp only [go_sem];refine An ?_;obtain ⟨x3,ex3,h⟩:=Bs h;refine V_mksM Zu4 ex3 trivial rfl rfl rfl rfl ?_;refine Zk2 4 ?_;dsimp only [go_sem];refine An ?_;refine Ze4 (fun ((x17,x18):((List Int)×Int))=>(⟨(an 6 (.sl 1 (List.map Zu4 x17) :: .iv x18::an 20 [])),[],[]⟩:St)) Z1e r ?_ fun J1=>?_
  ·rintro ⟨x17,x18⟩ h;rw [Z1e] at h;(try dsimp only);refine Zk2 8 ?_;dsimp only [go_sem];refine An ?_;exact Zo4 (res:=fun (r:((List Int)×Int×Int))=>.tup [.sl 1 (List.map Zu4 r.1),.iv r.2.1,.iv r.2.2]) ok124 h
  ·refine Zk2 1 ?_;dsimp only [go_sem];refine An ?_;refine Z73 0 rfl ?_;dsimp only [go_sem];refine Zf4 h (fun ((x8,x9):((List Int)×Int))=>(⟨(.any :: .ptr 0 0::an 4 (.sl 1 (List.map Zu4 x8) :: .iv x9::an 20 [])),[some ⟨53,[.iv x1.N,.sl 2 (List.map Edge.row x1.Edges)]⟩],[]⟩:St)) (by simp [go_sem]) (by rintro ⟨x8,x9⟩;first | rfl | simp [go_sem]) ?_;rintro n1 ⟨x8,x9⟩ y1 h hin1 hout1;rw [Z2e] at h;(try dsimp only);refine Zk2 4 ?_;dsimp only [go_sem];refine An ?_;obtain ⟨x10,ex10,h⟩:=Bs h
   refine Zy2 trivial (Zza x8 0 _ ex10) (h:=?_);refine Zk2 1 ?_;dsimp only [go_sem];refine An ?_;refine Zg4 h rfl (fun _ h=>?_) fun _ h=>?_
   ·refine Zk2 6 ?_;dsimp only [go_sem];refine An ?_;obtain ⟨x11,ex11,h⟩:=Bs h;refine Zy2 trivial (Z0e x1 x8 _ ex11) (h:=?_);refine Zk2 11 ?_;dsimp only [go_sem];refine An ?_;exact Zp4 h hin1
   ·refine Zk2 1 ?_;dsimp only [go_sem];refine An ?_;exact Zq4 J1 (s:=(x8,x9)) (Zd4 h hout1)
def lsf (p:Nat→Bool):Nat→Nat→Nat
 | 0,k=>k
 | f+1,k=>if p k then k else lsf p f (k+1)
theorem lsf_spec (p:Nat→Bool):∀(f k:Nat),p (k+f)=true→p (lsf p f k)=true∧k≤lsf p f k∧lsf p f k≤k+f
 | 0,k,h=>⟨h,Nat.le_refl _,Nat.le_refl _⟩
 | f+1,k,h=>by
   simp only [lsf]
   split
   ·rename_i h1;exact ⟨h1,Nat.le_refl _,by omega⟩
   ·obtain ⟨h1,h2,h3⟩:=lsf_spec p f (k+1) (by rw [show k+1+f=k+(f+1) by omega];exact h)
    exact ⟨h1,by omega,by omega⟩
def Z4e (c:List Int) (near:List Int) (k:Nat):Bool:=near.any fun b=>decide (cg c b=(k:Int))
def Z5e (c near:List Int):Nat:=lsf (fun k=>!Z4e c near k) 200 1
def Z6e (c near:List Int) (a:Int):Bool:=decide (cg c a=0)&&!near.any fun b=>decide (cg c b=0)&&decide (a<b)
def newC (g:Graph) (c:List Int) (a:Nat):Int:=if Z6e c (Zdd g a) a then (Z5e c (Zdd g a):Int) else cg c a
def Z7e (g:Graph) (c:List Int):List Int:=(List.range g.N.toNat).map (newC g c)
structure ColI (g:Graph) (c:List Int):Prop where
 len:(c.length:Int)=g.N
 lo:∀x∈c,0≤x
 hi:∀x∈c,x≤100
theorem cg_mem {c:List Int} {a:Int} (h0:0≤a) (h:a<c.length):cg c a∈c:=by
 obtain ⟨x,h1,h2⟩:=at_lt h0 h
 unfold cg
 rw [h2]
 exact List.mem_iff_getElem?.2 ⟨_,h2⟩
theorem Z8e {g:Graph} (hg:okG g=true) {c:List Int} (hc:ColI g c) (a:Int):Z4e c (Zdd g a) (Z5e c (Zdd g a))=false∧1≤Z5e c (Zdd g a)∧Z5e c (Zdd g a)≤201:=by
 have h:=lsf_spec (fun k=>!Z4e c (Zdd g a) k) 200 1 (by
  simp only [Bool.not_eq_true']
  unfold Z4e
  rw [List.any_eq_false]
  intro b hb
  obtain ⟨b1,b2,_⟩:=Zid hg hb
  have:=hc.hi _ (cg_mem (c:=c) b1 (by rw [hc.len];exact b2))
  simp;omega)
 have h1:=h.1
 simp only [Bool.not_eq_true'] at h1
 exact ⟨h1,h.2.1,h.2.2⟩
theorem Z9e (l:List Int) (x:Int) (hl:l.length≤1000000):Zya l x=some (decide (x∈l)):=by
 have h1:Zwa l x=some (plc (l.findIdx? fun y=>decide (x=y))):=by
  unfold Zwa
  refine Ze6 l _ (fun y=>decide (x=y)) (by omega) (fun k y hy=>?_) ?_
  ·simp only [Zva,Z66 hy,Z06,Z46 hy,Option.bind_some,Z96 hy (show l.length≤4000000000000000000 by omega)]
   cases decide (x=y)<;>rfl
  ·simp only [Zva,Z76,Z16,Zua,Option.map_some]
 simp only [Zya,h1,Option.bind_some,Zb6,Zf6]
 congr 1
 rw [Bool.eq_iff_iff,List.any_eq_true,decide_eq_true_iff]
 constructor
 ·rintro ⟨y,hy,h⟩
  have:x=y:=by simpa using h
  exact this ▸ hy
 ·intro h;exact ⟨x,h,by simp⟩
theorem s_Round2 (g:Graph) (hg:okG g=true) (c:List Int) (hc:ColI g c) (a:Nat) (ha:(a:Int)<g.N) (A B:List Int) (hA:A.length=a):
  loop (Zvd c a (Zdd g a)) (A++1::B)=some (.inl (((a+1:Nat):Int),A++(Z5e c (Zdd g a):Int)::B)):=by
 obtain ⟨g1,g2,g3,_,_⟩:=Zl7 hg
 have hnl:=Zgd g a
 have at1:∀y:Int,at_ (A++y::B) (a:Int)=some y:=fun y=>by rw [←hA];exact Za8 rfl
 have st1:∀y z:Int,(A++y::B).set ((a:Int)).toNat z=A++z::B:=fun y z=>by rw [←hA];exact Zb8 _ _ _ _
 have step:∀k:Nat,Zc7 (Zdd g a) (fun z=>Zrd z c (A++(k:Int)::B) a)=some (Z4e c (Zdd g a) k):=fun k=>by
  refine Zi7 (Zdd g a) _ (fun b=>decide (cg c b=(k:Int))) (by omega) (fun b hb=>?_)
  obtain ⟨b1,b2,_⟩:=Zid hg hb
  simp only [Zrd]
  rw [at_cg (c:=c) b1 (by rw [hc.len];exact b2),Option.bind_some,at1,Option.bind_some]
 have key:∀f k:Nat,k+f=201→1≤k→Z4e c (Zdd g a) 201=false→loop (Zvd c a (Zdd g a)) (A++(k:Int)::B)=some (.inl (((a+1:Nat):Int),A++(lsf (fun k=>!Z4e c (Zdd g a) k) f k:Int)::B)):=by
  intro f
  induction f with
  | zero=>
    intro k hk _ h201
    have:k=201:=by omega
    subst this
    rw [Zc4]
    dsimp only [Zvd]
    rw [step,Option.bind_some,h201,Z16]
    dsimp only [Zud]
    rw [Z86 (by omega)]
    rfl
  | succ f ih=>
    intro k hk h1 h201
    rw [Zc4]
    dsimp only [Zvd]
    rw [step,Option.bind_some]
    cases hu:Z4e c (Zdd g a) k with
    | true=>
      rw [Z06,at1,Option.bind_some,st1,Z86 (by omega)]
      dsimp only
      rw [ih (k+1) (by omega) (by omega) h201]
      simp [lsf,hu]
    | false=>
      rw [Z16]
      dsimp only [Zud]
      rw [Z86 (by omega)]
      simp [lsf,hu]
 refine key 200 1 rfl (Nat.le_refl _) ?_
 unfold Z4e
 rw [List.any_eq_false]
 intro b hb
 obtain ⟨b1,b2,_⟩:=Zid hg hb
 have:=hc.hi _ (cg_mem (c:=c) b1 (by rw [hc.len];exact b2))
 simp;omega
theorem drop_cons {c:List Int} {k:Nat} (h:k<c.length):c.drop k=cg c k::c.drop (k+1):=by
 rw [List.drop_eq_getElem_cons h]
 congr 1
 unfold cg
 simp [h]
theorem s_Round (g:Graph) (hg:okG g=true) (c:List Int) (hc:ColI g c):Zzd g c=some (Z7e g c,0):=by
 obtain ⟨g1,g2,g3,_,_⟩:=Zl7 hg
 have hlen:=hc.len
 simp only [Zzd,Zk7,hg,if_true,decide_true,Bool.not_true,Z16,Option.bind_some,Zw4,hlen]
 rw [Zi7 c (fun z=>Zmd z) (fun x=>decide (x<0)) (by omega) (fun x _=>rfl),Option.bind_some]
 have e0:c.any (fun x=>decide (x<0))=false:=by
  rw [List.any_eq_false];intro x hx;have:=hc.lo x hx;simp;omega
 rw [e0]
 simp only [Zyd,Z16,Zna]
 rw [Z56 _ _ (by omega) (by simp;omega),Option.bind_some,List.nil_append]
 refine (loop_nat g.N.toNat (Zxd g c) (fun k=>((k:Int),(List.range k).map (newC g c)++c.drop k)) (Z7e g c,0) (fun k hk=>?_) ?_)
 ·have hkl:k<c.length:=by omega
  obtain ⟨g1',_⟩:=Zl7 hg
  dsimp only [Zxd]
  rw [decide_eq_true (by omega),Z06,s_Near,hg,if_pos rfl,Option.bind_some,at_cg (c:=c) (Int.natCast_nonneg k) (by omega),Option.bind_some,drop_cons hkl,Zld]
  have hA:((List.range k).map (newC g c)).length=k:=by simp
  have keep:newC g c k=cg c k→Zwd c k ((List.range k).map (newC g c)++cg c k::c.drop (k+1)) (Zdd g k) true=some (.inl (((k+1:Nat):Int),((List.range k).map (newC g c)++[newC g c k])++c.drop (k+1))):=fun e=>by
   dsimp only [Zwd,Zud]
   rw [Z06,Z86 (by omega),e];simp
  by_cases h0:cg c k=0
  ·rw [decide_eq_true h0,Bool.not_true,Z16]
   have hcf:Zc7 (Zdd g k) (fun z=>Zpd z c k)=some ((Zdd g k).any fun b=>decide (cg c b=0)&&decide ((k:Int)<b)):=by
    refine Zi7 (Zdd g k) _ (fun b=>decide (cg c b=0)&&decide ((k:Int)<b)) (by have:=Zgd g k;omega) (fun b hb=>?_)
    obtain ⟨b1,b2,_⟩:=Zid hg hb
    simp only [Zpd,Zod]
    rw [at_cg (c:=c) b1 (by omega),Option.bind_some]
    cases decide (cg c b=0)<;>rfl
   rw [hcf,Option.bind_some]
   cases ht:(Zdd g k).any fun b=>decide (cg c b=0)&&decide ((k:Int)<b) with
   | true=>
     refine keep ?_
     unfold newC Z6e
     rw [ht];simp
   | false=>
     have e:newC g c k=(Z5e c (Zdd g k):Int):=by
      unfold newC Z6e
      rw [ht,decide_eq_true h0];simp
     dsimp only [Zwd]
     have at1:=Za8 (l:=(List.range k).map (newC g c)++cg c k::c.drop (k+1)) rfl
     rw [hA] at at1
     have st1:=Zb8 ((List.range k).map (newC g c)) (c.drop (k+1)) (cg c k) 1
     rw [hA] at st1
     rw [Z16,at1,Option.bind_some,st1,s_Round2 g hg c hc k (by omega) _ _ hA,e]
     simp
  ·rw [decide_eq_false h0,Bool.not_false,Z06]
   refine keep ?_
   unfold newC Z6e
   rw [decide_eq_false h0];simp
 ·dsimp only [Zxd]
  rw [decide_eq_false (by omega),Z16,List.drop_eq_nil_of_le (by omega),List.append_nil]
  rfl
theorem Zae {g:Graph} {c:List Int} {a:Int} (h0:0≤a) (h:a<g.N):(Zkd g c)[a.toNat]?=some (Zjd g c a.toNat):=by
 unfold Zkd
 rw [List.getElem?_map,List.getElem?_range (by omega)];rfl
theorem Zbe {g:Graph} (hg:okG g=true) (c:List Int):((Zkd g c).length:Int)=g.N:=by
 have:=(Zl7 hg).1
 simp [Zkd];omega
theorem Zce (g:Graph) (c:List Int) (a:Nat) (b:Int):Zi8 (Zjd g c a) b=if b∈Zdd g a then some (sideT c a b) else none:=by
 unfold Zi8 Zjd
 dsimp only
 rw [List.find?_map]
 have e:((fun x:Side=>decide (x.Peer=b))∘sideT c a)=fun z=>decide (z=b):=rfl
 rw [e]
 by_cases h:b∈Zdd g a
 ·rw [if_pos h]
  have:(Zdd g a).find? (fun z=>decide (z=b))=some b:=by
   cases hf:(Zdd g a).find? (fun z=>decide (z=b)) with
   | none=>rw [List.find?_eq_none] at hf;exact absurd (by simp) (hf b h)
   | some z=>have:=List.find?_some hf;simp at this;rw [this]
  rw [this];rfl
 ·rw [if_neg h]
  have:(Zdd g a).find? (fun z=>decide (z=b))=none:=by
   rw [List.find?_eq_none];intro z hz;simp;rintro rfl;exact h hz
  rw [this];rfl
theorem Zde {g:Graph} (hg:okG g=true) {a b:Int} (h:b∈Zdd g a):a∈Zdd g b:=by
 rw [Zhd hg] at *;exact h.symm
theorem tableT_pw {g:Graph} (hg:okG g=true) (c:List Int) (d:Diner) (hd:d∈Zkd g c):d.Sides.Pairwise fun x y=>x.Peer<y.Peer:=by
 obtain ⟨a,_,rfl⟩:=List.mem_map.1 hd
 simp only [Zjd,List.pairwise_map]
 exact Zed hg a
theorem graphP_T {g:Graph} (hg:okG g=true) (c:List Int):Z09 (Zkd g c)=(g,true):=by
 obtain ⟨g1,g2,g3,g4,g5⟩:=Zl7 hg
 have hlen:=Zbe hg c
 have hall:Zx8 (Zkd g c) 0 (Zkd g c)=true:=by
  rw [okAll_iff]
  intro k d hd
  have hk:=(List.getElem?_eq_some_iff.1 hd).1
  have e:=Zae (g:=g) (c:=c) (a:=(k:Int)) (by omega) (by omega)
  rw [Int.toNat_natCast,hd] at e
  simp at e;subst e
  refine ⟨by simp [Zjd],?_⟩
  rw [Nat.zero_add,Z9c]
  refine ⟨fun x hx=>?_,tableT_pw hg c _ (List.mem_iff_getElem?.2 ⟨_,hd⟩),by simp⟩
  obtain ⟨b,hb,rfl⟩:=List.mem_map.1 hx
  obtain ⟨b1,b2,b3,_,_⟩:=Zid hg hb
  have hs:Zi8 (Zjd g c b.toNat) k=some (sideT c b.toNat k):=by
   rw [Zce,if_pos]
   rw [Int.toNat_of_nonneg b1];exact Zde hg hb
  have hs':(Zi8 (Zjd g c b.toNat) (k:Int)).isSome=true:=by rw [hs];rfl
  show (decide (0≤b)&&(decide (b<((Zkd g c).length:Int))&&(!decide (b=(k:Int))&&(match (Zkd g c)[b.toNat]? with | some e=>(Zi8 e k).isSome | none=>false))))=true
  rw [decide_eq_true b1,decide_eq_true (by omega),decide_eq_false b3,Zae (c:=c) b1 b2]
  simpa using hs'
 have hedges:Zy8 0 (Zkd g c)=g.Edges:=by
  refine pw_ext (R:=fun x y=>x.lt y=true) Edge.lt_irr (fun x y h1 h2=>Edge.lt_irr x (Edge.lt_trans h1 h2)) (edgesL_pw (tableT_pw hg c)) (okG_pw hg) fun e=>?_
  rw [Zbc]
  constructor
  ·rintro ⟨k,d,hd,he⟩
   have hk:=(List.getElem?_eq_some_iff.1 hd).1
   have e':=Zae (g:=g) (c:=c) (a:=(k:Int)) (by omega) (by omega)
   rw [Int.toNat_natCast,hd] at e'
   simp at e';subst e'
   obtain ⟨h1,h2,x,hx,h3⟩:=Zac.1 he
   obtain ⟨b,hb,rfl⟩:=List.mem_map.1 hx
   simp only [sideT] at h3
   subst h3
   rw [Nat.zero_add] at h1 h2
   rcases (Zhd hg).1 hb with hb | hb
   ·obtain ⟨e1,e2⟩:=e;dsimp only at h1 hb;rw [h1];exact hb
   ·have:=g4 _ hb;dsimp only at this;omega
  ·intro he
   have h:=g4 e he
   refine ⟨e.A.toNat,Zjd g c e.A.toNat,Zae h.1 (by omega),Zac.2 ⟨by omega,by omega,sideT c e.A.toNat e.B,?_,rfl⟩⟩
   simp only [Zjd]
   refine List.mem_map_of_mem ?_
   rw [Zhd hg,Int.toNat_of_nonneg h.1]
   exact .inl he
 have hG:(⟨(Zkd g c).length,Zy8 0 (Zkd g c)⟩:Graph)=g:=by
  rw [hedges,hlen]
 unfold Z09
 rw [hG,hall,hg];rfl
def key (d:Diner):Int×List Int:=(d.ID,d.Sides.map (·.Peer))
def sideK (K:List (Int×List Int)) (i:Nat) (p:Int):Bool:=decide (0≤p)&&(decide (p<K.length)&&(!decide (p=i)&&(match K[p.toNat]? with | some e=>decide ((i:Int)∈e.2) | none=>false)))
def okFromK (K:List (Int×List Int)) (i:Nat):Option Int→List Int→Bool
 | _,[]=>true
 | p,x::r=>(match p with | none=>true | some q=>decide (q<x))&&(sideK K i x&&okFromK K i (some x) r)
def okAllK (K:List (Int×List Int)):Nat→List (Int×List Int)→Bool
 | _,[]=>true
 | i,d::r=>decide (d.1=i)&&(okFromK K i none d.2&&okAllK K (i+1) r)
def edgesK:Nat→List (Int×List Int)→List Edge
 | _,[]=>[]
 | i,d::r=>((d.2.filter fun x=>decide ((i:Int)<x)).map fun x=>⟨i,x⟩)++edgesK (i+1) r
theorem sideO_mem (d:Diner) (i:Int):(Zi8 d i).isSome=decide (i∈d.Sides.map (·.Peer)):=by
 unfold Zi8
 rw [Bool.eq_iff_iff,List.find?_isSome,decide_eq_true_iff,List.mem_map]
 simp
theorem sideB_key (l:List Diner) (i:Nat) (x:Side):Zs8 l i x=sideK (l.map key) i x.Peer:=by
 unfold Zs8 sideK
 rw [List.length_map,List.getElem?_map]
 cases l[x.Peer.toNat]? with
 | none=>rfl
 | some e=>simp only [Option.map_some,key,sideO_mem]
theorem Zee (l:List Diner) (i:Nat):∀(xs:List Side) (p:Option Int),Zv8 l i p xs=okFromK (l.map key) i p (xs.map (·.Peer))
 | [],_=>rfl
 | x::r,p=>by
   simp only [Zv8,List.map_cons,okFromK,Zee l i r,sideB_key]
   cases p<;>rfl
theorem Zfe (l:List Diner):∀(r:List Diner) (i:Nat),Zx8 l i r=okAllK (l.map key) i (r.map key)
 | [],_=>rfl
 | d::r,i=>by
   simp only [Zx8,List.map_cons,okAllK,Zfe l r,Zee]
   rfl
theorem Zge:∀(r:List Diner) (i:Nat),Zy8 i r=edgesK i (r.map key)
 | [],_=>rfl
 | d::r,i=>by
   simp only [Zy8,List.map_cons,edgesK,Zge r,Zw8,key,List.filter_map,List.map_map]
   rfl
theorem graphP_key {l m:List Diner} (h:l.map key=m.map key):Z09 l=Z09 m:=by
 have hl:l.length=m.length:=by have:=congrArg List.length h;simpa using this
 unfold Z09
 rw [Zfe,Zfe,Zge,Zge,h,hl]
theorem pw_len:∀(l:List Int) (q n:Int),l.Pairwise (· < ·)→(∀x∈l,q≤x∧x<n)→l=[]∨(l.length:Int)≤n-q
 | [],_,_,_,_=>.inl rfl
 | x::l,q,n,h,hb=>by
   rw [List.pairwise_cons] at h
   have h1:=hb x (by simp)
   right
   rcases pw_len l (x+1) n h.2 (fun y hy=>⟨by have:=h.1 y hy;omega,(hb y (by simp [hy])).2⟩) with rfl | h2
   ·simp only [List.length_cons,List.length_nil];omega
   ·simp only [List.length_cons];omega
theorem near_few {g:Graph} (hg:okG g=true) (a:Int):((Zdd g a).length:Int)≤g.N:=by
 rcases pw_len (Zdd g a) 0 g.N (Zed hg a) (fun x hx=>by have:=Zid hg hx;omega) with h | h
 ·rw [h];exact (Zl7 hg).1
 ·omega
def has (x:Side) (k:Int):Bool:=if k=1 then x.Fork else x.Token
def bn (b:Bool):Nat:=if b then 1 else 0
def hasD (d:Diner) (k b:Int):Nat:=match Zi8 d b with | some x=>bn (has x k) | none=>0
def cnt (M:List Mail) (k a b:Int):Nat:=M.count ⟨a,b,⟨k,1,0⟩⟩
structure LocD (d:Diner):Prop where
 lo:0≤d.Phase
 hi:d.Phase≤2
 side:∀x∈d.Sides,x.Epoch=1∧x.State=0∧(x.Dirty=true→x.Fork=true)
 eat:d.Phase=2→∀x∈d.Sides,x.Fork=true∧x.Dirty=true
def mailG (g:Graph) (m:Mail):Prop:=(m.Msg.Kind=1∨m.Msg.Kind=2)∧m.Msg.Epoch=1∧m.Msg.Num=0∧m.To∈Zdd g m.From
structure Inv (g:Graph) (s:Scene):Prop where
 len:(s.Diners.length:Int)=g.N
 shp:∀(a:Nat) d,s.Diners[a]?=some d→d.ID=a∧d.Sides.map (·.Peer)=Zdd g a
 loc:∀d∈s.Diners,LocD d
 mail:∀m∈s.Mail,mailG g m
 one:∀(a b:Nat) da db,s.Diners[a]?=some da→s.Diners[b]?=some db→(b:Int)∈Zdd g a→∀k,(k=1∨k=2)→hasD da k b+hasD db k a+cnt s.Mail k a b+cnt s.Mail k b a=1
theorem Inv.set {g:Graph} {s:Scene} (hg:okG g=true) (h:Inv g s) {a:Nat} {d d':Diner} (hd:s.Diners[a]?=some d) (hid:d'.ID=d.ID) (hp:d'.Sides.map (·.Peer)=d.Sides.map (·.Peer)) (hl:LocD d')
  {M:List Mail} (hm:∀m∈M,mailG g m) (ho:∀k p q:Int,p≠a→q≠a→cnt M k p q=cnt s.Mail k p q)
  (hc:∀b∈Zdd g a,∀k,(k=1∨k=2)→hasD d' k b+cnt M k a b+cnt M k b a=hasD d k b+cnt s.Mail k a b+cnt s.Mail k b a):Inv g ⟨s.Diners.set a d',M⟩:=by
 have hlt:=(List.getElem?_eq_some_iff.1 hd).1
 have get:∀(k:Nat) e,(s.Diners.set a d')[k]?=some e→(k=a∧e=d')∨(k≠a∧s.Diners[k]?=some e):=fun k e he=>by
  rw [List.getElem?_set] at he
  split at he
  ·rename_i hk
   simp at he
   exact .inl ⟨hk.symm,he.symm⟩
  ·rename_i hk
   exact .inr ⟨fun e=>hk e.symm,he⟩
 refine ⟨by simpa using h.len,fun k e he=>?_,fun e he=>?_,hm,fun x y dx dy hx hy hxy k hk=>?_⟩
 ·rcases get k e he with ⟨rfl,rfl⟩ | ⟨_,he⟩
  ·rw [hid,hp];exact h.shp k d hd
  ·exact h.shp k e he
 ·obtain ⟨k,hk⟩:=List.mem_iff_getElem?.1 he
  rcases get k e hk with ⟨_,rfl⟩ | ⟨_,he⟩
  ·exact hl
  ·exact h.loc e (List.mem_iff_getElem?.2 ⟨_,he⟩)
 ·dsimp only at hx hy ⊢
  have hne:=(Zid hg hxy).2.2.1
  have hyx:=Zde hg hxy
  rcases get x dx hx with ⟨rfl,rfl⟩ | ⟨x1,hx'⟩<;>rcases get y dy hy with ⟨rfl,rfl⟩ | ⟨y1,hy'⟩
  ·exact absurd rfl hne
  ·have:=hc y hxy k hk
   have:=h.one x y d dy hd hy' hxy k hk
   omega
  ·have:=hc x hyx k hk
   have:=h.one x y dx d hx' hd hxy k hk
   omega
  ·rw [ho k x y (by omega) (by omega),ho k y x (by omega) (by omega)]
   exact h.one x y dx dy hx' hy' hxy k hk
theorem fire2_peer (ph:Int) (x:Side):(Z3a ph x).Peer=x.Peer∧(Z3a ph x).Epoch=x.Epoch∧(Z3a ph x).State=x.State:=by
 unfold Z3a Z2a
 split<;>split<;>exact ⟨rfl,rfl,rfl⟩
theorem Zhe (ph:Int) (x:Side) (h:x.Dirty=true→x.Fork=true):(Z3a ph x).Dirty=true→(Z3a ph x).Fork=true:=by
 unfold Z3a Z2a
 split<;>split<;>simp_all
theorem fire2_eats (x:Side):Z3a 2 x=x:=by
 unfold Z3a Z2a
 simp
theorem fire_side (id ph k:Int) (x:Side) (hk:k=1∨k=2) (he:x.Epoch=1):bn (has (Z3a ph x) k)+(Z4a id ph x).count ⟨id,x.Peer,⟨k,1,0⟩⟩=bn (has x k):=by
 obtain ⟨p,e,st,f,d,t,bo,ask⟩:=x
 dsimp only at he
 subst he
 unfold Z4a Z3a Z2a has bn
 generalize h1:decide (ph=1)=q1
 generalize h2:decide (ph=2)=q2
 rcases hk with rfl | rfl<;>cases f<;>cases d<;>cases t<;>cases q1<;>cases q2<;>simp
theorem Zie {id ph:Int} {x:Side} {m:Mail} (h:m∈Z4a id ph x):m.From=id∧m.To=x.Peer∧(m.Msg.Kind=1∨m.Msg.Kind=2)∧m.Msg.Epoch=x.Epoch∧m.Msg.Num=0:=by
 unfold Z4a at h
 rw [List.mem_append] at h
 rcases h with h | h
 ·split at h
  ·simp at h;subst h;exact ⟨rfl,rfl,.inl rfl,rfl,rfl⟩
  ·simp at h
 ·split at h
  ·simp at h;subst h;exact ⟨rfl,rfl,.inr rfl,rfl,rfl⟩
  ·simp at h
theorem Zje {M:List Mail} {m:Mail} (h:m∉M):M.count m=0:=List.count_eq_zero.2 h
theorem Zke (id ph k b:Int):∀(l:List Side),l.Pairwise (fun x y=>x.Peer<y.Peer)→(l.flatMap (Z4a id ph)).count ⟨id,b,⟨k,1,0⟩⟩=match l.find? (fun x=>decide (x.Peer=b)) with | some x=>(Z4a id ph x).count ⟨id,x.Peer,⟨k,1,0⟩⟩ | none=>0
 | [],_=>rfl
 | x::l,h=>by
   rw [List.pairwise_cons] at h
   rw [List.flatMap_cons,List.count_append,Zke id ph k b l h.2,List.find?_cons]
   by_cases hx:x.Peer=b
   ·have:l.find? (fun x=>decide (x.Peer=b))=none:=by
     rw [List.find?_eq_none]
     intro y hy
     have:=h.1 y hy
     simp;omega
    rw [this,decide_eq_true hx,←hx];simp
   ·rw [decide_eq_false hx,Zje (fun hm=>hx (Zie hm).2.1.symm)];simp
theorem Zle {d:Diner} {k p q:Int} (hp:p≠d.ID):(Z7a d).count ⟨p,q,⟨k,1,0⟩⟩=0:=by
 refine Zje fun h=>?_
 obtain ⟨x,_,hx⟩:=List.mem_flatMap.1 h
 exact hp (Zie hx).1
def Zme (d:Diner) (x:Side):Side:=if decide (d.Phase=1)&&(d.Sides.map (Z3a d.Phase)).all (·.Fork) then Z5a (Z3a d.Phase x) else Z3a d.Phase x
theorem Zne (d:Diner):(Z6a d).Sides=d.Sides.map (Zme d):=by
 unfold Z6a Zme
 split
 ·simp only [List.map_map];rfl
 ·rfl
theorem Zoe (d:Diner):(Z6a d).ID=d.ID:=by unfold Z6a;split<;>rfl
theorem Zpe (d:Diner) (x:Side):(Zme d x).Peer=x.Peer∧(Zme d x).Epoch=x.Epoch∧(Zme d x).State=x.State∧∀k,has (Zme d x) k=has (Z3a d.Phase x) k:=by
 obtain ⟨h1,h2,h3⟩:=fire2_peer d.Phase x
 unfold Zme
 split
 ·exact ⟨h1,h2,h3,fun k=>rfl⟩
 ·exact ⟨h1,h2,h3,fun k=>rfl⟩
theorem Zqe (d:Diner) (f:Side→Side) (hf:∀x,(f x).Peer=x.Peer) (i p b:Int):Zi8 ⟨i,p,d.Sides.map f⟩ b=(Zi8 d b).map f:=by
 unfold Zi8
 dsimp only
 rw [List.find?_map]
 congr 2
 funext x
 simp only [Function.comp,hf]
theorem Zre (d:Diner) (b:Int):Zi8 (Z6a d) b=(Zi8 d b).map (Zme d):=by
 have:=Zqe d (Zme d) (fun x=>(Zpe d x).1) (Z6a d).ID (Z6a d).Phase b
 rw [←Zne] at this
 exact this
theorem sideO_some {d:Diner} {b:Int} {x:Side} (h:Zi8 d b=some x):x∈d.Sides∧x.Peer=b:=by
 unfold Zi8 at h
 exact ⟨List.mem_of_find?_eq_some h,by simpa using List.find?_some h⟩
theorem LocD.fire {d:Diner} (h:LocD d):LocD (Z6a d):=by
 have hs:∀y∈(Z6a d).Sides,∃x∈d.Sides,y=Zme d x:=fun y hy=>by
  rw [Zne] at hy
  obtain ⟨x,hx,rfl⟩:=List.mem_map.1 hy
  exact ⟨x,hx,rfl⟩
 have hph:(Z6a d).Phase=2→(decide (d.Phase=1)&&(d.Sides.map (Z3a d.Phase)).all (·.Fork))=true∨d.Phase=2:=fun h2=>by
  unfold Z6a at h2
  split at h2
  ·rename_i h1;exact .inl h1
  ·exact .inr h2
 have allF:(decide (d.Phase=1)&&(d.Sides.map (Z3a d.Phase)).all (·.Fork))=true→∀x∈d.Sides,(Z3a d.Phase x).Fork=true:=fun h1 x hx=>by
  rw [Bool.and_eq_true,List.all_eq_true] at h1
  exact h1.2 _ (List.mem_map_of_mem hx)
 refine ⟨?_,?_,fun y hy=>?_,fun h2 y hy=>?_⟩
 ·unfold Z6a;split
  ·show (0:Int)≤2;omega
  ·exact h.lo
 ·unfold Z6a;split
  ·exact Int.le_refl _
  ·exact h.hi
 ·obtain ⟨x,hx,rfl⟩:=hs y hy
  obtain ⟨s1,s2,s3⟩:=h.side x hx
  obtain ⟨p1,p2,p3,_⟩:=Zpe d x
  refine ⟨by rw [p2,s1],by rw [p3,s2],?_⟩
  unfold Zme
  split
  ·rename_i h1;exact fun _=>allF h1 x hx
  ·exact Zhe _ _ s3
 ·obtain ⟨x,hx,rfl⟩:=hs y hy
  rcases hph h2 with h1 | h1
  ·unfold Zme
   rw [if_pos h1]
   exact ⟨allF h1 x hx,rfl⟩
  ·unfold Zme
   rw [h1,show (decide ((2:Int)=1)&&(d.Sides.map (Z3a 2)).all (·.Fork))=false from rfl,if_neg (by simp),fire2_eats]
   exact h.eat h1 x hx
theorem Inv.pw {g:Graph} {s:Scene} (hg:okG g=true) (h:Inv g s) {a:Nat} {d:Diner} (hd:s.Diners[a]?=some d):d.Sides.Pairwise fun x y=>x.Peer<y.Peer:=by
 have:=Zed hg a
 rw [←(h.shp a d hd).2,List.pairwise_map] at this
 exact this
theorem Inv.fire {g:Graph} {s:Scene} (hg:okG g=true) (h:Inv g s) {a:Nat} {d:Diner} (hd:s.Diners[a]?=some d):Inv g ⟨s.Diners.set a (Z6a d),s.Mail++Z7a d⟩:=by
 obtain ⟨hid,hsh⟩:=h.shp a d hd
 have hdm:=List.mem_iff_getElem?.2 ⟨_,hd⟩
 have hloc:=h.loc d hdm
 refine h.set hg hd (Zoe d) ?_ hloc.fire (fun m hm=>?_) (fun k p q hp hq=>?_) (fun b hb k hk=>?_)
 ·rw [Zne,List.map_map]
  refine List.map_congr_left fun x _=>(Zpe d x).1
 ·rcases List.mem_append.1 hm with hm | hm
  ·exact h.mail m hm
  ·obtain ⟨x,hx,hxm⟩:=List.mem_flatMap.1 hm
   obtain ⟨m1,m2,m3,m4,m5⟩:=Zie hxm
   refine ⟨m3,by rw [m4];exact (hloc.side x hx).1,m5,?_⟩
   rw [m1,m2,hid,←hsh]
   exact List.mem_map_of_mem hx
 ·unfold cnt
  rw [List.count_append,Zle (by rw [hid];exact hp)]
  rfl
 ·have hne:=(Zid hg hb).2.2.1
  unfold cnt
  rw [List.count_append,List.count_append,Zle (p:=b) (by rw [hid];exact hne)]
  have e:=Zke d.ID d.Phase k b d.Sides (h.pw hg hd)
  rw [hid] at e
  unfold Z7a
  rw [hid,e]
  unfold hasD
  rw [Zre]
  unfold Zi8
  cases hf:d.Sides.find? (fun x=>decide (x.Peer=b)) with
  | none=>simp
  | some x=>
    have hx:=List.mem_of_find?_eq_some hf
    have:=fire_side (a:Int) d.Phase k x hk (hloc.side x hx).1
    have h3:=(Zpe d x).2.2.2 k
    simp only [Option.map_some,h3]
    omega
def Zse (d:Drinker) (x:Side):Bool:=decide (x.Peer∈d.Need)
def Zte (nd:Bool) (th:Int) (x:Side):Bool:=nd&&(decide (th=2)||(decide (th=1)&&x.Fork))
def bot1 (nd:Bool) (th:Int) (x:Side):Side:=if x.Bottle&&(x.Ask&&!Zte nd th x) then {x with Bottle:=false} else x
def Zue (nd:Bool) (th:Int) (x:Side):Side:=if decide (th=1)&&(nd&&((bot1 nd th x).Ask&&!(bot1 nd th x).Bottle)) then {bot1 nd th x with Ask:=false} else bot1 nd th x
def Zve (id:Int) (nd:Bool) (th:Int) (x:Side):List Mail:=
 (if x.Bottle&&(x.Ask&&!Zte nd th x) then [⟨id,x.Peer,⟨3,x.Epoch,0⟩⟩] else []) ++
 (if decide (th=1)&&(nd&&((bot1 nd th x).Ask&&!(bot1 nd th x).Bottle)) then [⟨id,x.Peer,⟨4,x.Epoch,0⟩⟩] else [])
theorem Zwe (nd:Bool) (th:Int) (x:Side):(Zue nd th x).Peer=x.Peer∧(Zue nd th x).Epoch=x.Epoch∧(Zue nd th x).State=x.State∧(Zue nd th x).Fork=x.Fork∧(Zue nd th x).Dirty=x.Dirty∧(Zue nd th x).Token=x.Token:=by
 unfold Zue bot1
 split<;>split<;>exact ⟨rfl,rfl,rfl,rfl,rfl,rfl⟩
theorem botM_len (id:Int) (nd:Bool) (th:Int) (x:Side):(Zve id nd th x).length≤2:=by
 unfold Zve
 rw [List.length_append]
 have h1:∀(c:Bool) (m:Mail),(if c then [m] else []).length≤1:=by intro c m;cases c<;>simp
 have:=h1 (x.Bottle&&(x.Ask&&!Zte nd th x)) ⟨id,x.Peer,⟨3,x.Epoch,0⟩⟩
 have:=h1 (decide (th=1)&&(nd&&((bot1 nd th x).Ask&&!(bot1 nd th x).Bottle))) ⟨id,x.Peer,⟨4,x.Epoch,0⟩⟩
 omega
theorem botMs_len (N:List Int) (id th:Int) (l:List Side):(l.flatMap fun x=>Zve id (decide (x.Peer∈N)) th x).length≤2*l.length:=by
 induction l with
 | nil=>simp
 | cons x l ih=>have:=botM_len id (decide (x.Peer∈N)) th x;rw [List.flatMap_cons,List.length_append,List.length_cons];omega
theorem s_setHas (l:List Int) (x:Int) (hl:l.length≤1000000):Z0b l x=some (decide (x∈l)):=by
 simp only [Z0b,Z9e l x hl,Option.bind_some]
theorem s_send2 (y:Side) (k id ph th:Int) (N:List Int) (l:List Side) (E:List Mail) (hE:E.length≤1000000):Zob y k id ph th N l E=some (E++[⟨id,y.Peer,⟨k,y.Epoch,0⟩⟩]):=by
 simp only [Zob]
 rw [Z56 _ _ (by omega) (by simp;omega),Option.bind_some]
theorem bot_step (id ph th:Int) (N:List Int) (hN:N.length≤1000000) (l:List Side) (hl:l.length≤5000) (pre post:List Side) (x:Side) (h:l=pre++x::post) (all:Bool) (A:List Side) (hA:A.length=pre.length) (E:List Mail) (hE:E.length≤900000):
  Zzb id ph th N l (all,(pre.length:Int),A++x::post,E)=some (.inl (all&&(!decide (x.Peer∈N)||(Zue (decide (x.Peer∈N)) th x).Bottle),((pre.length+1:Nat):Int),A++Zue (decide (x.Peer∈N)) th x::post,E++Zve id (decide (x.Peer∈N)) th x)):=by
 have hx:=Z78 h
 have hm:=Z88 h
 have at1:∀y:Side,at_ (A++y::post) (pre.length:Int)=some y:=fun y=>by rw [←hA];exact Za8 rfl
 have st1:∀y z:Side,(A++y::post).set ((pre.length:Int)).toNat z=A++z::post:=fun y z=>by rw [←hA];exact Zb8 _ _ _ _
 generalize hnd:decide (x.Peer∈N)=nd
 have j7:∀(S:List Side) (E':List Mail) z,Ztb (pre.length:Int) S E' z=some (.inl (z,((pre.length+1:Nat):Int),S,E')):=fun S E' z=>by
  dsimp only [Ztb]
  rw [Z86 (by omega)]
 have j6:∀(y:Side) (E':List Mail),Zub all (pre.length:Int) nd (A++y::post,E')=some (.inl (all&&(!nd||y.Bottle),((pre.length+1:Nat):Int),A++y::post,E')):=fun y E'=>by
  dsimp only [Zub]
  rw [at1,Option.bind_some]
  simp only [j7]
  cases all<;>cases nd<;>rfl
 have j4:∀(y:Side) (E':List Mail),E'.length≤950000→Zwb id ph th N all (pre.length:Int) nd (A++y::post,E') =
   if decide (th=1)&&(nd&&(y.Ask&&!y.Bottle)) then some (.inl (all&&(!nd||y.Bottle),((pre.length+1:Nat):Int),A++{y with Ask:=false}::post,E'++[⟨id,y.Peer,⟨4,y.Epoch,0⟩⟩])) else some (.inl (all&&(!nd||y.Bottle),((pre.length+1:Nat):Int),A++y::post,E')):=fun y E' hE'=>by
  have j5:∀z,Zvb id ph th N all (pre.length:Int) nd (A++y::post) E' z=if z then some (.inl (all&&(!nd||y.Bottle),((pre.length+1:Nat):Int),A++{y with Ask:=false}::post,E'++[⟨id,y.Peer,⟨4,y.Epoch,0⟩⟩])) else some (.inl (all&&(!nd||y.Bottle),((pre.length+1:Nat):Int),A++y::post,E')):=fun z=>by
   cases z with
   | false=>dsimp only [Zvb];rw [Z16,j6];rfl
   | true=>
     dsimp only [Zvb]
     rw [Z06,at1,Option.bind_some,st1,s_send2 _ _ _ _ _ _ _ _ (by omega),Option.bind_some,j6]
     rfl
  dsimp only [Zwb]
  rw [at1,Option.bind_some]
  simp only [j5]
  cases decide (th=1)<;>cases nd<;>cases y.Ask<;>rfl
 have j3:∀z,Zxb id ph th N all (pre.length:Int) (A++x::post) E x nd z=if z then Zwb id ph th N all (pre.length:Int) nd (A++{x with Bottle:=false}::post,E++[⟨id,x.Peer,⟨3,x.Epoch,0⟩⟩]) else Zwb id ph th N all (pre.length:Int) nd (A++x::post,E):=fun z=>by
  cases z with
  | false=>dsimp only [Zxb];rw [Z16];rfl
  | true=>
    dsimp only [Zxb]
    rw [Z06,st1,s_send2 _ _ _ _ _ _ _ _ (by omega),Option.bind_some]
    rfl
 have j2:∀z,Zyb id ph th N all (pre.length:Int) (A++x::post) E x nd z=Zxb id ph th N all (pre.length:Int) (A++x::post) E x nd (x.Bottle&&(x.Ask&&!z)):=fun z=>by
  dsimp only [Zyb]
  cases x.Bottle<;>cases x.Ask<;>rfl
 have e:Zzb id ph th N l (all,(pre.length:Int),A++x::post,E)=Zxb id ph th N all (pre.length:Int) (A++x::post) E x nd (x.Bottle&&(x.Ask&&!Zte nd th x)):=by
  dsimp only [Zzb]
  rw [Z66 hx,Z06,at1,Option.bind_some,s_setHas N _ hN,Option.bind_some,hnd]
  simp only [j2]
  unfold Zte
  cases nd<;>cases decide (th=2)<;>cases decide (th=1)<;>rfl
 rw [e,j3]
 cases hz:(x.Bottle&&(x.Ask&&!Zte nd th x)) with
 | false=>
   have b1:bot1 nd th x=x:=by unfold bot1;rw [hz];rfl
   rw [if_neg (by simp),j4 _ _ (by omega)]
   unfold Zue Zve
   rw [b1,hz]
   cases (decide (th=1)&&(nd&&(x.Ask&&!x.Bottle)))<;>simp
 | true=>
   have b1:bot1 nd th x={x with Bottle:=false}:=by unfold bot1;rw [hz];rfl
   rw [if_pos rfl,j4 _ _ (by simp;omega)]
   unfold Zue Zve
   rw [b1,hz]
   cases (decide (th=1)&&(nd&&(x.Ask&&!false)))<;>simp
theorem s_bottles (id ph th:Int) (N:List Int) (hN:N.length≤1000000) (l:List Side) (hl:l.length≤5000) (E:List Mail) (hE:E.length≤800000):
  Z0c id ph th N l E=some (if decide (th=1)&&(l.map fun x=>Zue (decide (x.Peer∈N)) th x).all (fun x=>!decide (x.Peer∈N)||x.Bottle) then 2 else th,l.map fun x=>Zue (decide (x.Peer∈N)) th x,E++l.flatMap fun x=>Zve id (decide (x.Peer∈N)) th x):=by
 have:=Z58 l (Zzb id ph th N l) (fun pre=>((pre.map fun x=>Zue (decide (x.Peer∈N)) th x).all (fun x=>!decide (x.Peer∈N)||x.Bottle),(pre.length:Int),(pre.map fun x=>Zue (decide (x.Peer∈N)) th x)++l.drop pre.length,E++pre.flatMap fun x=>Zve id (decide (x.Peer∈N)) th x))
  (fun _ _=>some (if decide (th=1)&&(l.map fun x=>Zue (decide (x.Peer∈N)) th x).all (fun x=>!decide (x.Peer∈N)||x.Bottle) then 2 else th,l.map fun x=>Zue (decide (x.Peer∈N)) th x,E++l.flatMap fun x=>Zve id (decide (x.Peer∈N)) th x)) (fun pre x post h=>.inl ⟨by
    have hd:l.drop pre.length=x::post:=by rw [h];simp
    have hd':l.drop (pre++[x]).length=post:=by rw [h];simp
    have hm:=Z88 h
    have hE':=botMs_len N id th pre
    rw [hd,hd',bot_step id ph th N hN l hl pre post x h _ _ (by simp) _ (by rw [List.length_append];omega),Zc8]
    have hp:=(Zwe (decide (x.Peer∈N)) th x).1
    simp [hp],rfl⟩) (by
  dsimp only [Zzb]
  rw [Z76,Z16]
  dsimp only [Zsb]
  rw [List.drop_length,List.append_nil]
  cases decide (th=1) with
  | false=>rfl
  | true=>cases (l.map fun x=>Zue (decide (x.Peer∈N)) th x).all (fun x=>!decide (x.Peer∈N)||x.Bottle)<;>rfl)
 unfold Z0c
 simpa using this
def Zxe (d:Drinker):Int:=if decide (d.Thirst=1)&&decide (d.Diner.Phase=0) then 1 else if decide (d.Diner.Phase=2)&&(!decide (d.Thirst=1)&&!d.Diner.Sides.any (fun x=>decide (x.State=1))) then 0 else d.Diner.Phase
def Zye (d:Drinker):Diner:=⟨d.Diner.ID,Zxe d,d.Diner.Sides⟩
def Zze (d:Drinker):List Side:=(Z6a (Zye d)).Sides.map fun x=>Zue (Zse d x) d.Thirst x
def Z0f (d:Drinker):Int:=if decide (d.Thirst=1)&&(Zze d).all (fun x=>!Zse d x||x.Bottle) then 2 else d.Thirst
def Z1f (d:Drinker):Drinker:=⟨⟨d.Diner.ID,(Z6a (Zye d)).Phase,Zze d⟩,Z0f d,d.Need⟩
def Z2f (d:Drinker):List Mail:=Z7a (Zye d)++(Z6a (Zye d)).Sides.flatMap fun x=>Zve d.Diner.ID (Zse d x) d.Thirst x
theorem Z3f (l:List Side) (p:Side→Option Bool) (q:Side→Bool) (hl:l.length≤4000000000000000000) (hp:∀x∈l,p x=some (q x)):Z69 l p=some (l.any q):=by
 unfold Z69
 rw [Zg7 l p q hl hp,Option.bind_some,Zb6,Zf6]
theorem pre_ok {d:Drinker} (h:okD d.Diner=true):okD (Zye d)=true:=by
 simp only [okD,Bool.and_eq_true,decide_eq_true_eq] at h ⊢
 refine ⟨h.1,?_,?_,h.2.2.2⟩
 ·show 0≤Zxe d
  unfold Zxe;split
  ·omega
  ·split<;>omega
 ·show Zxe d≤2
  unfold Zxe;split
  ·omega
  ·split<;>omega
theorem fireD_len (d:Diner):(Z6a d).Sides.length=d.Sides.length:=by rw [Zne];simp
theorem s_once (d:Drinker) (h:okD d.Diner=true) (hN:d.Need.length≤1000000) (out:List Mail) (ho:out.length≤700000):
  Z5c d.Diner.ID d.Diner.Phase d.Diner.Sides d.Thirst d.Need out=some ((Z1f d).Diner.ID,(Z1f d).Diner.Phase,(Z1f d).Thirst,(Z1f d).Diner.Sides,out++Z2f d):=by
 have hl:=Z0a h
 have hp:=pre_ok h
 have hms:=Z8a d.Diner.Sides d.Diner.ID (Zxe d)
 have e0:(Zye d).Sides=d.Diner.Sides:=rfl
 have hfl:=fireD_len (Zye d)
 rw [e0] at hfl
 have j2:Z2c d.Diner.ID d.Diner.Sides d.Thirst d.Need out (Zxe d)=some ((Z1f d).Diner.ID,(Z1f d).Diner.Phase,(Z1f d).Thirst,(Z1f d).Diner.Sides,out++Z2f d):=by
  dsimp only [Z2c]
  have e1:(⟨d.Diner.ID,Zxe d,d.Diner.Sides⟩:Diner)=Zye d:=rfl
  have hml:(Z7a (Zye d)).length≤130:=by unfold Z7a;rw [e0];show (d.Diner.Sides.flatMap (Z4a d.Diner.ID (Zxe d))).length≤130;omega
  rw [e1,s_Fire,hp,if_pos rfl,Option.bind_some]
  dsimp only
  rw [Z56 _ _ (by omega) (by omega),Option.bind_some,s_bottles _ _ _ _ hN _ (by omega) _ (by rw [List.length_append];omega),Option.bind_some]
  rw [Zoe,List.append_assoc]
  rfl
 have hph:∀z:Int,z=Zxe d→Z2c d.Diner.ID d.Diner.Sides d.Thirst d.Need out z=some ((Z1f d).Diner.ID,(Z1f d).Diner.Phase,(Z1f d).Thirst,(Z1f d).Diner.Sides,out++Z2f d):=fun z e=>by rw [e];exact j2
 have hcf:=Z3f d.Diner.Sides (fun z=>Zra z) (fun x=>decide (x.State=1)) (by omega) (fun x _=>rfl)
 dsimp only [Z5c,Z4c,Z3c]
 rw [hcf,Option.bind_some]
 unfold Zxe at hph
 by_cases h1:d.Thirst=1
 ·rw [decide_eq_true h1] at hph ⊢
  by_cases h2:d.Diner.Phase=0
  ·rw [decide_eq_true h2] at hph ⊢
   exact hph 1 rfl
  ·rw [decide_eq_false h2] at hph ⊢
   have:=hph d.Diner.Phase (by simp)
   rw [Z06,Z16,this]
   cases decide (d.Diner.Phase=2)<;>rfl
 ·rw [decide_eq_false h1] at hph ⊢
  rw [Z16,Z16]
  by_cases h2:d.Diner.Phase=2
  ·rw [decide_eq_true h2] at hph ⊢
   cases hop:d.Diner.Sides.any (fun x=>decide (x.State=1)) with
   | true=>
     rw [hop] at hph
     exact hph d.Diner.Phase (by simp)
   | false=>
     rw [hop] at hph
     exact hph 0 (by simp)
  ·rw [decide_eq_false h2] at hph ⊢
   exact hph d.Diner.Phase (by simp)
def Z4f (x:Side):Nat:=bn x.Fork+bn x.Token+bn x.Bottle+bn x.Ask
def bits (l:List Side):Nat:=(l.map Z4f).sum
def rank (th ph:Int):Nat:=if th=1 then (if ph=0 then 5 else if ph=1 then 4 else 3) else (if ph=1 then 2 else if ph=2 then 1 else 0)
def mu (d:Drinker):Nat:=bits d.Diner.Sides+rank d.Thirst d.Diner.Phase
theorem fire2_bits (id ph:Int) (x:Side):Z4f (Z3a ph x)+(Z4a id ph x).length=Z4f x:=by
 obtain ⟨p,e,st,f,d,t,bo,ask⟩:=x
 unfold Z4a Z3a Z2a Z4f bn
 generalize h1:decide (ph=1)=q1
 generalize h2:decide (ph=2)=q2
 cases f<;>cases d<;>cases t<;>cases q1<;>cases q2<;>simp<;>omega
theorem bot2_bits (id:Int) (nd:Bool) (th:Int) (x:Side):Z4f (Zue nd th x)+(Zve id nd th x).length=Z4f x:=by
 obtain ⟨p,e,st,f,d,t,bo,ask⟩:=x
 unfold Zve Zue bot1 Zte Z4f bn
 generalize h1:decide (th=1)=q1
 generalize h2:decide (th=2)=q2
 cases bo<;>cases ask<;>cases nd<;>cases q1<;>cases q2<;>cases f<;>simp<;>omega
theorem fire3_bits (d:Diner) (x:Side):Z4f (Zme d x)=Z4f (Z3a d.Phase x):=by unfold Zme;split<;>rfl
theorem Z5f (d:Drinker):bits (Z1f d).Diner.Sides+(Z2f d).length=bits d.Diner.Sides:=by
 have key:∀l:List Side,((l.map fun x=>Zue (Zse d (Zme (Zye d) x)) d.Thirst (Zme (Zye d) x)).map Z4f).sum+((l.flatMap (Z4a d.Diner.ID (Zxe d))).length+((l.map (Zme (Zye d))).flatMap fun x=>Zve d.Diner.ID (Zse d x) d.Thirst x).length)=(l.map Z4f).sum:=by
  intro l
  induction l with
  | nil=>rfl
  | cons x l ih=>
    have h1:=fire2_bits d.Diner.ID (Zxe d) x
    have h2:=bot2_bits d.Diner.ID (Zse d (Zme (Zye d) x)) d.Thirst (Zme (Zye d) x)
    have h3:=fire3_bits (Zye d) x
    have e:(Zye d).Phase=Zxe d:=rfl
    rw [e] at h3
    simp only [List.map_cons,List.sum_cons,List.flatMap_cons,List.length_append]
    omega
 have:=key d.Diner.Sides
 unfold bits Z2f
 rw [List.length_append,Zne]
 show (((Zze d).map Z4f).sum+_=_)
 unfold Zze
 rw [Zne]
 simp only [List.map_map] at this ⊢
 exact this
theorem Z6f (d:Diner):(Z6a d).Phase=d.Phase∧(decide (d.Phase=1)&&(d.Sides.map (Z3a d.Phase)).all (·.Fork))=false∨d.Phase=1∧(Z6a d).Phase=2:=by
 unfold Z6a
 cases hq:decide (d.Phase=1)&&(d.Sides.map (Z3a d.Phase)).all (·.Fork) with
 | false=>exact .inl ⟨rfl,rfl⟩
 | true=>
   rw [Bool.and_eq_true,decide_eq_true_eq] at hq
   exact .inr ⟨hq.1,rfl⟩
theorem fireM_nil {id ph:Int} {x:Side} (h:Z4a id ph x=[]):Z3a ph x=x:=by
 obtain ⟨p,e,st,f,d,t,bo,ask⟩:=x
 unfold Z4a at h
 unfold Z3a
 rw [List.append_eq_nil_iff] at h
 obtain ⟨h1,h2⟩:=h
 split at h1
 ·simp at h1
 ·rename_i q1
  split at h2
  ·simp at h2
  ·rename_i q2
   rw [if_neg q2]
   unfold Z2a
   rw [if_neg q1]
theorem botM_nil {id:Int} {nd:Bool} {th:Int} {x:Side} (h:Zve id nd th x=[]):Zue nd th x=x:=by
 unfold Zve at h
 unfold Zue
 rw [List.append_eq_nil_iff] at h
 obtain ⟨h1,h2⟩:=h
 split at h1
 ·simp at h1
 ·rename_i q1
  split at h2
  ·simp at h2
  ·rename_i q2
   rw [if_neg q2]
   unfold bot1
   rw [if_neg q1]
theorem map_same {α:Type} {f:α→α}:∀ {l:List α},(∀x∈l,f x=x)→l.map f=l
 | [],_=>rfl
 | x::l,h=>by rw [List.map_cons,h x (by simp),map_same fun y hy=>h y (by simp [hy])]
theorem rank_le {th ph ph' th':Int} (h0:0≤ph) (h2:ph≤2) (d:Drinker) (hd:d.Thirst=th∧d.Diner.Phase=ph) (h1:ph'=Zxe d∨Zxe d=1∧ph'=2) (ht:th'=th∨th=1∧th'=2):rank th' ph'<rank th ph∨th'=th∧ph'=ph∧Zxe d=ph:=by
 obtain ⟨d1,d2⟩:=hd
 unfold Zxe at h1 ⊢
 rw [d1,d2] at h1 ⊢
 unfold rank
 have hp:ph=0∨ph=1∨ph=2:=by omega
 by_cases ht1:th=1
 ·subst ht1
  rcases hp with rfl | rfl | rfl<;>rcases ht with rfl | ⟨_,rfl⟩<;>simp at h1 ⊢ <;>rcases h1 with rfl | h1<;>simp_all
 ·have:th'=th:=by rcases ht with h | h;exact h;exact absurd h.1 ht1
  subst this
  rcases hp with rfl | rfl | rfl
  ·simp [ht1] at h1 ⊢;rcases h1 with rfl | h1<;>simp_all
  ·simp [ht1] at h1 ⊢;rcases h1 with rfl | h1<;>simp_all
  ·cases hop:d.Diner.Sides.any (fun x=>decide (x.State=1))<;>simp [ht1,hop] at h1 ⊢ <;>simp_all
theorem Z7f {d:Drinker} (h0:0≤d.Diner.Phase) (h2:d.Diner.Phase≤2):Z1f d=d∧Z2f d=[]∨mu (Z1f d)<mu d:=by
 have hb:=Z5f d
 have hf:=Z6f (Zye d)
 have ht:Z0f d=d.Thirst∨d.Thirst=1∧Z0f d=2:=by
  unfold Z0f
  cases hh:decide (d.Thirst=1)&&(Zze d).all (fun x=>!Zse d x||x.Bottle) with
  | false=>left;rfl
  | true=>right;rw [Bool.and_eq_true,decide_eq_true_eq] at hh;exact ⟨hh.1,rfl⟩
 have e1:(Z1f d).Diner.Phase=(Z6a (Zye d)).Phase:=rfl
 have e2:(Z1f d).Thirst=Z0f d:=rfl
 have hr:=rank_le (th':=Z0f d) (ph':=(Z6a (Zye d)).Phase) h0 h2 d ⟨rfl,rfl⟩ (by
  rcases hf with ⟨q,_⟩ | ⟨q1,q2⟩
  ·exact .inl q
  ·exact .inr ⟨q1,q2⟩) ht
 unfold mu
 rw [e1,e2]
 rcases hr with hr | ⟨r1,r2,r3⟩
 ·right;omega
 ·by_cases hm:(Z2f d).length=0
  ·left
   have hm':Z2f d=[]:=List.eq_nil_of_length_eq_zero hm
   refine ⟨?_,hm'⟩
   unfold Z2f at hm'
   rw [List.append_eq_nil_iff] at hm'
   obtain ⟨m1,m2⟩:=hm'
   have hsame:∀x∈d.Diner.Sides,Zme (Zye d) x=x:=fun x hx=>by
    have hnil:Z4a d.Diner.ID (Zxe d) x=[]:=by
     have:∀y∈Z4a d.Diner.ID (Zxe d) x,y∈Z7a (Zye d):=fun y hy=>List.mem_flatMap.2 ⟨x,hx,hy⟩
     rw [m1] at this
     cases hc:Z4a d.Diner.ID (Zxe d) x with
     | nil=>rfl
     | cons y l=>exact absurd (this y (by rw [hc];simp)) (by simp)
    have h2x:Z3a (Zxe d) x=x:=fireM_nil hnil
    unfold Zme
    rw [show (Zye d).Phase=Zxe d from rfl]
    split
    ·rename_i hc
     exfalso
     rcases hf with ⟨q,q'⟩ | ⟨q1,q2⟩
     ·have:=q';rw [show (Zye d).Phase=Zxe d from rfl] at this;rw [this] at hc;simp at hc
     ·rw [show (Zye d).Phase=Zxe d from rfl] at q1
      rw [q1] at r3
      rw [q2] at r2
      omega
    ·exact h2x
   have hS:(Z6a (Zye d)).Sides=d.Diner.Sides:=by
    rw [Zne];exact map_same hsame
   have hB:Zze d=d.Diner.Sides:=by
    unfold Zze
    rw [hS]
    refine map_same fun x hx=>?_
    have hnil:Zve d.Diner.ID (Zse d x) d.Thirst x=[]:=by
     rw [hS] at m2
     have:∀y∈Zve d.Diner.ID (Zse d x) d.Thirst x,y∈d.Diner.Sides.flatMap fun x=>Zve d.Diner.ID (Zse d x) d.Thirst x:=fun y hy=>List.mem_flatMap.2 ⟨x,hx,hy⟩
     rw [m2] at this
     cases hc:Zve d.Diner.ID (Zse d x) d.Thirst x with
     | nil=>rfl
     | cons y l=>exact absurd (this y (by rw [hc];simp)) (by simp)
    exact botM_nil hnil
   unfold Z1f
   rw [hB,r1,r2]
  ·right
   rw [r1,r2]
   omega
set_option maxRecDepth 100000
set_option maxHeartbeats 4000000
@[go_sem] def e122:EC:=.seq (.reg [(Qx 2 66 8 0),(Qa 3 (.mv (.c .ff)))]) (.seq (.reg [(Qf 4 0 2),(Ql 5 4),(Ql 6 1),(Qa 7 (.bin .eql (.t 5) (.t 6))),(Qm 8 7),(Qh 9 8 true 2 2),(Qn 10 8 true 9),(Qg 11 8 true (.bin .eql (.t 10) (.c (.iv 0)))),(Qp 12 8 11),(Qm 3 12)]) (.ret))
theorem ok122:FnOK Tryz.prog 122 Tryz.f122 e122 [.t 3] 2 11:=⟨by kernel_rfl,⟨_,rfl,by kernel_rfl⟩,by kernel_rfl,by kernel_rfl⟩
noncomputable def Z8f:Bool→Option Bool
| x3=>
 some x3
noncomputable def Z9f (x1:Side) (x2:Int):Option Bool:=
 ifb (decide (x1.Peer=x2)) (
 Z8f (decide (x1.State=0))) (
 Z8f false)
theorem Zaf (x1:Side) (x2:Int) (r:Bool) (h:Z9f x1 x2=some r):Zp2 Tryz.prog 122 [.agg (Side.row x1),.elt (Zu4 x2) 0] (.bv r):=by
 refine Zt2 ok122 rfl rfl fun w0 H0=>?_
 rw [Z9f] at h
 refine Zk2 12 ?_;dsimp only [go_sem];refine An ?_;refine Ze4 (fun (x3:Bool)=>(⟨(an 3 (.bv x3::an 9 [])),[],[]⟩:St)) Z8f r ?_ fun J1=>?_
 ·intro x3 h;rw [Z8f] at h;(try dsimp only);exact Zo4 (res:=fun (r:Bool)=>.bv r) ok122 h
 ·refine Zn4 8 h rfl (fun _ h=>?_) fun _ h=>?_
  ·dsimp only [go_sem];refine Zk2 6 ?_;dsimp only [go_sem];refine An ?_;exact Zq4 J1 (s:=decide (x1.State=0)) h
  ·dsimp only [go_sem];refine Zk2 6 ?_;dsimp only [go_sem];refine An ?_;exact Zq4 J1 (s:=false) h
set_option maxRecDepth 100000
set_option maxHeartbeats 4000000
@[go_sem] def e121:EC:=.seq (.reg [(Qx 2 3 1 0),(Qa 3 (.mv (.c .ff)))]) (.seq (.reg [(Qf 4 0 1),(Qf 5 2 4),(Ql 6 5),(Qa 7 (.mkf 122 [(.t 2)])),(Qa 8 (.call 99 [(.t 6),(.t 7)])),(Qa 9 (.not (.t 8))),(Qm 3 9)]) (.ret))
theorem ok121:FnOK Tryz.prog 121 Tryz.f121 e121 [.t 3] 2 8:=⟨by kernel_rfl,⟨_,rfl,by kernel_rfl⟩,by kernel_rfl,by kernel_rfl⟩
noncomputable def Zbf (x1:Int) (x2:Drinker):Option Bool:=
 (Z69 x2.Diner.Sides ((fun z=>Z9f z x1))).bind fun x3=>
 some (!x3)
theorem Zcf (x1:Int) (x2:Drinker) (r:Bool) (h:Zbf x1 x2=some r):Zp2 Tryz.prog 121 [.iv x1,.elt (Drinker.row x2) 0] (.bv r):=by
 refine Zt2 ok121 rfl rfl fun w0 H0=>?_
 rw [Zbf] at h
 refine Zk2 11 ?_;dsimp only [go_sem];refine An ?_;obtain ⟨x3,ex3,h⟩:=Bs h;refine Zs4 trivial ((Zr4.refl _).block 0 rfl rfl) (Z79 x2.Diner.Sides _ _ ((fun z=>Z9f z x1)) ⟨by kernel_rfl,rfl,fun z r hz=>Zaf z x1 r hz⟩ _ ex3) (h:=?_);refine Zk2 3 ?_;dsimp only [go_sem];refine An ?_;exact Zo4 (res:=fun (r:Bool)=>.bv r) ok121 h
set_option maxRecDepth 100000
set_option maxHeartbeats 4000000
@[go_sem] def e77:EC:=.seq (.reg [(Qx 2 63 5 0),(Qa 4 (.alloc 63 [.iv 0,.iv 0,.nl,.iv 0,.nl])),(Qi 5 0)]) (.seq (.reg [(Qa 8 (.mkf 121 [(.t 2)])),(Qm 6 8)]) (.seq (.reg [(Qe 9 5 2),(Qa 10 (.call 58 [(.t 9)])),(Qm 7 10)]) (.seq (.blk 0 (.seq (.reg [(Qm 12 7),(Qa 13 (.bin .neq (.t 12) (.c (.iv 0)))),(Qm 11 13)]) (.ite (.t 11) (.skip) (.seq (.reg [(Qf 15 3 2),(Ql 16 15),(Qa 17 (.bin .neq (.t 16) (.c (.iv 0)))),(Qm 14 17)]) (.ite (.t 14) (.reg [(Qi 7 152)]) (.seq (.reg [(Qm 19 1),(Qm 20 6),(Qa 21 (.call 103 [(.t 19),(.t 20)])),(Qm 18 21)]) (.ite (.t 18) (.reg [(Qi 7 151)]) (.skip)))))))) (.seq (.seq (.reg [(Qm 22 7),(Qa 23 (.bin .neq (.t 22) (.c (.iv 0))))]) (.ite (.t 23) (.seq (.reg [(Qa 24 (.build [.iv 0,.iv 0,.nl,.iv 0,.nl] [])),(Qm 25 7),(Qs 5 4 24),(Qm 5 25)]) (.ret)) (.skip))) (.seq (.reg [(Qe 26 5 2),(Qa 27 (.call 120 [(.t 26)])),(Qs 5 2 27)]) (.seq (.reg [(Qm 28 1),(Qa 29 (.call 123 [(.t 28)])),(Qf 30 3 2),(Qb (.store 1 (.t 30) (.c (.iv 1)))),(Qf 31 4 2),(Qs 1 31 29)]) (.seq (.reg [(Qe 32 5 2),(Qs 5 4 32),(Qi 5 0)]) (.ret))))))))
theorem ok77:FnOK Tryz.prog 77 Tryz.f77 e77 [.c 4 (some 5),.t 5] 2 31:=⟨by kernel_rfl,⟨_,rfl,by kernel_rfl⟩,by kernel_rfl,by kernel_rfl⟩
noncomputable def Zdf (x1:Drinker) (x2:(List Int)):Int→Option (Drinker×Int)
| x5=>
 ifb (!decide (x5=0)) (
 some ((Drinker.mk ((Diner.mk 0 0 (([]:(List Side))))) 0 (([]:(List Int)))),x5)) (
 (Zpa x1).bind fun x6=>
 (Z0d x2).bind fun x7=>
 some ((Drinker.mk x6.Diner 1 x7),0))
noncomputable def Zef (x1:Drinker) (x2:(List Int)):Option (Drinker×Int):=
 (Zla x1).bind fun x3=>
 ifb (!decide (x3=0)) (
 (Zdf x1 x2) x3) (
 ifb (!decide (x1.Thirst=0)) (
 (Zdf x1 x2) 152) (
 (Zc7 x2 ((fun z=>Zbf z x1))).bind fun x4=>
 ifb x4 (
 (Zdf x1 x2) 151) (
 (Zdf x1 x2) x3)))
theorem k_drink_Open (x1:Drinker) (x2:(List Int)) (r:(Drinker×Int)) (h:Zef x1 x2=some r):Zp2 Tryz.prog 77 [.agg (Drinker.row x1),.sl 1 (List.map Zu4 x2)] (.tup [.agg (Drinker.row r.1),.iv r.2]):=by
 refine Zt2 ok77 rfl rfl fun w0 H0=>?_
 rw [Zef] at h
 refine Zk2 14 ?_;dsimp only [go_sem];refine An ?_;obtain ⟨x3,ex3,h⟩:=Bs h;refine Zy2 trivial (Zma x1 _ ex3) (h:=?_);refine Zk2 10 ?_;dsimp only [go_sem];refine An ?_;refine Ze4 (fun (x5:Int)=>(⟨(.any :: .sl 1 (List.map Zu4 x2) :: .ptr 0 0 :: .any :: .ptr 1 0 :: .any :: .any :: .iv x5::an 25 []),[some ⟨63,[.iv x1.Diner.ID,.iv x1.Diner.Phase,.sl 8 (List.map Side.row x1.Diner.Sides),.iv x1.Thirst,.sl 1 (List.map Zu4 x1.Need)]⟩,some ⟨63,[.iv 0,.iv 0,.nl,.iv 0,.nl]⟩],[]⟩:St)) (Zdf x1 x2) r ?_ fun J1=>?_
 ·intro x5 h;rw [Zdf] at h;(try dsimp only);refine Zk2 7 ?_;dsimp only [go_sem];refine An ?_;refine Zg4 h rfl (fun _ h=>?_) fun _ h=>?_
  ·refine Zk2 7 ?_;dsimp only [go_sem];refine An ?_;exact Zo4 (res:=fun (r:(Drinker×Int))=>.tup [.agg (Drinker.row r.1),.iv r.2]) ok77 h
  ·refine Zk2 4 ?_;dsimp only [go_sem];refine An ?_;obtain ⟨x6,ex6,h⟩:=Bs h;refine Zy2 trivial (Zqa x1 _ ex6) (h:=?_);refine Zk2 5 ?_;dsimp only [go_sem];refine An ?_;obtain ⟨x7,ex7,h⟩:=Bs h;refine Zy2 trivial (k_set_Of x2 _ ex7) (h:=?_);refine Zk2 11 ?_;dsimp only [go_sem];refine An ?_;exact Zo4 (res:=fun (r:(Drinker×Int))=>.tup [.agg (Drinker.row r.1),.iv r.2]) ok77 h
 ·refine Zg4 h rfl (fun _ h=>?_) fun _ h=>?_
  ·refine Zk2 1 ?_;dsimp only [go_sem];refine An ?_;exact Zq4 J1 (s:=x3) h
  ·refine Zk2 7 ?_;dsimp only [go_sem];refine An ?_;refine Zg4 h rfl (fun _ h=>?_) fun _ h=>?_
   ·refine Zk2 3 ?_;dsimp only [go_sem];refine An ?_;exact Zq4 J1 (s:=152) h
   ·refine Zk2 4 ?_;dsimp only [go_sem];refine An ?_;obtain ⟨x4,ex4,h⟩:=Bs h;refine Zs4 trivial ((Zr4.refl _).block 0 rfl rfl) (Zd7 x2 _ _ ((fun z=>Zbf z x1)) ⟨by kernel_rfl,rfl,fun z r hz=>Zcf z x1 r hz⟩ _ ex4) (h:=?_);refine Zk2 2 ?_;dsimp only [go_sem];refine An ?_;refine Zg4 h rfl (fun _ h=>?_) fun _ h=>?_
    ·refine Zk2 3 ?_;dsimp only [go_sem];refine An ?_;exact Zq4 J1 (s:=151) h
    ·refine Zk2 1 ?_;dsimp only [go_sem];refine An ?_;exact Zq4 J1 (s:=x3) h
set_option maxRecDepth 100000
set_option maxHeartbeats 4000000
@[go_sem] def e75:EC:=.seq (.reg [(Qx 1 63 5 0),(Qa 2 (.alloc 63 [.iv 0,.iv 0,.nl,.iv 0,.nl])),(Qi 3 0)]) (.seq (.seq (.reg [(Qe 5 5 1),(Qa 6 (.call 58 [(.t 5)])),(Qm 4 6)]) (.seq (.reg [(Qm 7 4),(Qa 8 (.bin .neq (.t 7) (.c (.iv 0))))]) (.ite (.t 8) (.seq (.reg [(Qa 9 (.build [.iv 0,.iv 0,.nl,.iv 0,.nl] [])),(Qm 10 4),(Qs 5 2 9),(Qm 3 10)]) (.ret)) (.skip)))) (.seq (.seq (.reg [(Qf 11 3 1),(Ql 12 11),(Qa 13 (.bin .eql (.t 12) (.c (.iv 0))))]) (.ite (.t 13) (.seq (.reg [(Qa 14 (.build [.iv 0,.iv 0,.nl,.iv 0,.nl] [])),(Qs 5 2 14),(Qi 3 152)]) (.ret)) (.skip))) (.seq (.reg [(Qe 15 5 1),(Qa 16 (.call 120 [(.t 15)])),(Qs 5 1 16)]) (.seq (.reg [(Qf 17 3 1),(Qb (.store 1 (.t 17) (.c (.iv 0)))),(Qf 18 4 1),(Qb (.store 1 (.t 18) (.c .nl)))]) (.seq (.reg [(Qe 19 5 1),(Qs 5 2 19),(Qi 3 0)]) (.ret))))))
theorem ok75:FnOK Tryz.prog 75 Tryz.f75 e75 [.c 2 (some 5),.t 3] 1 19:=⟨by kernel_rfl,⟨_,rfl,by kernel_rfl⟩,by kernel_rfl,by kernel_rfl⟩
noncomputable def Zff (x1:Drinker):Option (Drinker×Int):=
 (Zla x1).bind fun x2=>
 ifb (!decide (x2=0)) (
 some ((Drinker.mk ((Diner.mk 0 0 (([]:(List Side))))) 0 (([]:(List Int)))),x2)) (
 ifb (decide (x1.Thirst=0)) (
 some ((Drinker.mk ((Diner.mk 0 0 (([]:(List Side))))) 0 (([]:(List Int)))),152)) (
 (Zpa x1).bind fun x3=>
 some ((Drinker.mk x3.Diner 0 (([]:(List Int)))),0)))
theorem k_drink_Close (x1:Drinker) (r:(Drinker×Int)) (h:Zff x1=some r):Zp2 Tryz.prog 75 [.agg (Drinker.row x1)] (.tup [.agg (Drinker.row r.1),.iv r.2]):=by
 refine Zt2 ok75 rfl rfl fun w0 H0=>?_
 rw [Zff] at h
 refine Zk2 10 ?_;dsimp only [go_sem];refine An ?_;obtain ⟨x2,ex2,h⟩:=Bs h;refine Zy2 trivial (Zma x1 _ ex2) (h:=?_);refine Zk2 7 ?_;dsimp only [go_sem];refine An ?_;refine Zg4 h rfl (fun _ h=>?_) fun _ h=>?_
 ·refine Zk2 7 ?_;dsimp only [go_sem];refine An ?_;exact Zo4 (res:=fun (r:(Drinker×Int))=>.tup [.agg (Drinker.row r.1),.iv r.2]) ok75 h
 ·refine Zk2 8 ?_;dsimp only [go_sem];refine An ?_;refine Zg4 h rfl (fun _ h=>?_) fun _ h=>?_
  ·refine Zk2 6 ?_;dsimp only [go_sem];refine An ?_;exact Zo4 (res:=fun (r:(Drinker×Int))=>.tup [.agg (Drinker.row r.1),.iv r.2]) ok75 h
  ·refine Zk2 4 ?_;dsimp only [go_sem];refine An ?_;obtain ⟨x3,ex3,h⟩:=Bs h;refine Zy2 trivial (Zqa x1 _ ex3) (h:=?_);refine Zk2 15 ?_;dsimp only [go_sem];refine An ?_;exact Zo4 (res:=fun (r:(Drinker×Int))=>.tup [.agg (Drinker.row r.1),.iv r.2]) ok75 h
set_option maxRecDepth 100000
set_option maxHeartbeats 4000000
@[go_sem] def e137:EC:=.seq (.reg [(Qx 3 66 8 0),(Qa 4 (.mv (.c .ff)))]) (.seq (.reg [(Qf 5 0 3),(Ql 6 5),(Ql 7 1),(Qa 8 (.bin .eql (.t 6) (.t 7))),(Qm 9 8),(Qh 10 9 true 1 3),(Qn 11 9 true 10),(Qh 12 9 true 1 2),(Qn 13 9 true 12),(Qg 14 9 true (.bin .eql (.t 11) (.t 13))),(Qp 15 9 14),(Qm 4 15)]) (.ret))
theorem ok137:FnOK Tryz.prog 137 Tryz.f137 e137 [.t 4] 3 13:=⟨by kernel_rfl,⟨_,rfl,by kernel_rfl⟩,by kernel_rfl,by kernel_rfl⟩
noncomputable def Zgf:Bool→Option Bool
| x4=>
 some x4
noncomputable def Zhf (x1:Side) (x2:Int) (x3:Msg):Option Bool:=
 ifb (decide (x1.Peer=x2)) (
 Zgf (decide (x1.Epoch=x3.Epoch))) (
 Zgf false)
theorem k_drink_Get_1 (x1:Side) (x2:Int) (x3:Msg) (r:Bool) (h:Zhf x1 x2 x3=some r):Zp2 Tryz.prog 137 [.agg (Side.row x1),.elt (Zu4 x2) 0,.elt (Msg.row x3) 0] (.bv r):=by
 refine Zt2 ok137 rfl rfl fun w0 H0=>?_
 rw [Zhf] at h
 refine Zk2 12 ?_;dsimp only [go_sem];refine An ?_;refine Ze4 (fun (x4:Bool)=>(⟨(an 4 (.bv x4::an 11 [])),[],[]⟩:St)) Zgf r ?_ fun J1=>?_
 ·intro x4 h;rw [Zgf] at h;(try dsimp only);exact Zo4 (res:=fun (r:Bool)=>.bv r) ok137 h
 ·refine Zn4 9 h rfl (fun _ h=>?_) fun _ h=>?_
  ·dsimp only [go_sem];refine Zk2 8 ?_;dsimp only [go_sem];refine An ?_;exact Zq4 J1 (s:=decide (x1.Epoch=x3.Epoch)) h
  ·dsimp only [go_sem];refine Zk2 8 ?_;dsimp only [go_sem];refine An ?_;exact Zq4 J1 (s:=false) h
set_option maxRecDepth 100000
set_option maxHeartbeats 4000000
@[go_sem] def e91:EC:=.seq (.reg [(Qx 3 63 5 0),(Qx 4 3 1 1),(Qx 5 93 3 2),(Qa 6 (.alloc 63 [.iv 0,.iv 0,.nl,.iv 0,.nl])),(Qi 7 0)]) (.seq (.seq (.reg [(Qe 13 5 3),(Qa 14 (.call 58 [(.t 13)])),(Qm 8 14)]) (.seq (.reg [(Qm 15 8),(Qa 16 (.bin .neq (.t 15) (.c (.iv 0))))]) (.ite (.t 16) (.seq (.reg [(Qa 17 (.build [.iv 0,.iv 0,.nl,.iv 0,.nl] [])),(Qm 18 8),(Qs 5 6 17),(Qm 7 18)]) (.ret)) (.skip)))) (.seq (.reg [(Qe 19 5 3),(Qa 20 (.call 120 [(.t 19)])),(Qs 5 3 20)]) (.seq (.reg [(Qf 21 0 3),(Qf 22 2 21),(Ql 23 22),(Qa 24 (.mkf 137 [(.t 4),(.t 5)])),(Qa 25 (.call 116 [(.t 23),(.t 24)])),(Qm 9 25)]) (.seq (.seq (.reg [(Qm 26 9),(Qa 27 (.bin .lss (.t 26) (.c (.iv 0)))),(Qm 28 27),(Qh 29 28 false 2 5),(Qn 30 28 false 29),(Qg 31 28 false (.bin .neq (.t 30) (.c (.iv 0)))),(Qq 32 28 31),(Qm 33 32),(Qh 34 33 false 0 5),(Qn 35 33 false 34),(Qg 36 33 false (.bin .neq (.t 35) (.c (.iv 3)))),(Qg 37 33 false (.mv (.t 36))),(Qh 38 37 true 0 5),(Qn 39 37 true 38),(Qg 40 37 true (.bin .neq (.t 39) (.c (.iv 4)))),(Qg 41 33 false (.pick (.t 37) (.t 40) (.c .ff))),(Qq 42 33 41)]) (.ite (.t 42) (.seq (.reg [(Qf 44 0 3),(Qe 45 3 44),(Ql 46 4),(Qe 47 3 5),(Qa 48 (.call 138 [(.t 45),(.t 46),(.t 47)])),(Qm 43 48),(Qa 49 (.ext (.t 43) 0)),(Qa 50 (.ext (.t 43) 1)),(Qa 10 (.alloc 61 [.iv 0,.iv 0,.nl])),(Qs 3 10 49),(Qm 11 50)]) (.seq (.seq (.reg [(Qm 51 11),(Qa 52 (.bin .neq (.t 51) (.c (.iv 0))))]) (.ite (.t 52) (.seq (.reg [(Qa 53 (.build [.iv 0,.iv 0,.nl,.iv 0,.nl] [])),(Qm 54 11),(Qs 5 6 53),(Qm 7 54)]) (.ret)) (.skip))) (.seq (.reg [(Qe 55 3 10),(Qf 56 0 3),(Qs 3 56 55)]) (.seq (.reg [(Qe 57 5 3),(Qs 5 6 57),(Qi 7 0)]) (.ret))))) (.skip))) (.seq (.reg [(Qf 58 0 3),(Qf 59 2 58),(Ql 60 59),(Qm 61 9),(Qk 62 8 60 61),(Qf 63 6 62),(Qm 12 63)]) (.seq (.seq (.reg [(Qf 64 0 5),(Ql 65 64),(Qa 66 (.bin .eql (.t 65) (.c (.iv 4))))]) (.ite (.t 66) (.reg [(Qf 67 0 3),(Qf 68 2 67),(Ql 69 68),(Qm 70 9),(Qk 71 8 69 70),(Qf 72 7 71),(Qm 12 72)]) (.skip))) (.seq (.seq (.reg [(Qm 73 12),(Qa 74 (.nilchk (.t 73))),(Ql 75 74)]) (.ite (.t 75) (.seq (.reg [(Qa 76 (.build [.iv 0,.iv 0,.nl,.iv 0,.nl] [])),(Qs 5 6 76),(Qi 7 132)]) (.ret)) (.skip))) (.seq (.reg [(Qm 77 12),(Qa 78 (.nilchk (.t 77))),(Qb (.store 1 (.t 78) (.c .tt)))]) (.seq (.reg [(Qe 79 5 3),(Qs 5 6 79),(Qi 7 0)]) (.ret))))))))))
theorem ok91:FnOK Tryz.prog 91 Tryz.f91 e91 [.c 6 (some 5),.t 7] 3 77:=⟨by kernel_rfl,⟨_,rfl,by kernel_rfl⟩,by kernel_rfl,by kernel_rfl⟩
noncomputable def Zif (x1:Drinker):Option ((List Side)×(List Int)):=
 (Zn9 x1.Diner.Sides).bind fun x2=>
 (Zna x1.Need).bind fun x3=>
 some (x2,x3)
theorem Zjf (x1:Drinker) (r:((List Side)×(List Int))) (h:Zif x1=some r):FunT Tryz.prog 120 [.agg [.iv x1.Diner.ID,.iv x1.Diner.Phase,.sl 8 (List.map Side.row x1.Diner.Sides),.iv x1.Thirst,.sl 1 (List.map Zu4 x1.Need)]] [none,none,none,none] [] (.agg [.iv x1.Diner.ID,.iv x1.Diner.Phase,.osl 0,.iv x1.Thirst,.osl 1]) [none,none,none,none] [some ⟨66,8,List.map Side.row r.1⟩,some ⟨3,1,List.map Zu4 r.2⟩]:=by
 refine Zj5 ok120 rfl rfl rfl (by first | rfl | simp [go_sem]) fun w0 M0=>?_
 rw [Zif] at h
 dsimp only [lun,List.cons_append,List.nil_append]
 refine Zk2 6 ?_;dsimp only [go_sem];refine An ?_;refine Zf3 (by kernel_rfl) fun all hall hs hnap haf=>?_;dsimp only [go_sem];refine Z55 hall hs haf hnap 5 7 ?_;dsimp only [go_sem];refine An ?_;refine Zq3 3 rfl ?_;obtain ⟨x2,ex2,h⟩:=Bs h;refine Z45 hall rfl trivial (Zo9 x1.Diner.Sides _ ex2) (h:=?_);dsimp only [go_sem];refine Z55 hall hs haf hnap 2 4 ?_;dsimp only [go_sem];refine An ?_;refine Zq3 6 rfl ?_;obtain ⟨x3,ex3,h⟩:=Bs h;refine Z45 hall rfl trivial (Zoa x1.Need _ ex3) (h:=?_);dsimp only [go_sem]
 refine Zq3 9 rfl ?_;refine Zv3 hall rfl trivial ?_;dsimp only [go_sem];refine Z55 hall hs haf hnap 1 1 ?_;dsimp only [go_sem];refine An ?_;refine Zq3 11 rfl ?_;refine Zv3 hall rfl trivial ?_;dsimp only [go_sem];refine Zp3 rfl ?_ _;refine Zk2 5 ?_;dsimp only [go_sem];refine An ?_;obtain rfl:=Option.some.inj h;exact Zk5 ok120 rfl (by simp [go_sem])
noncomputable def Zkf (x1:Drinker) (x2:Int) (x3:Msg) (x5:((List Side)×(List Int))) (x6:Int):Bool→Option (Drinker×Int)
| x7=>
 ifb x7 (
 (Zs9 ((Diner.mk x1.Diner.ID x1.Diner.Phase x5.1)) x2 x3).bind fun x8=>
 ifb (!decide (x8.2=0)) (
 some ((Drinker.mk ((Diner.mk 0 0 (([]:(List Side))))) 0 (([]:(List Int)))),x8.2)) (
 some ((Drinker.mk x8.1 x1.Thirst x5.2),0))) (
 (at_ x5.1 x6).bind fun x9=>
 ifb (decide (x3.Kind=4)) (
 ifb x9.Ask (
 some ((Drinker.mk ((Diner.mk 0 0 (([]:(List Side))))) 0 (([]:(List Int)))),132)) (
 some ((Drinker.mk ((Diner.mk x1.Diner.ID x1.Diner.Phase (x5.1.set (x6).toNat ((Side.mk x9.Peer x9.Epoch x9.State x9.Fork x9.Dirty x9.Token x9.Bottle true))))) x1.Thirst x5.2),0))) (
 ifb x9.Bottle (
 some ((Drinker.mk ((Diner.mk 0 0 (([]:(List Side))))) 0 (([]:(List Int)))),132)) (
 some ((Drinker.mk ((Diner.mk x1.Diner.ID x1.Diner.Phase (x5.1.set (x6).toNat ((Side.mk x9.Peer x9.Epoch x9.State x9.Fork x9.Dirty x9.Token true x9.Ask))))) x1.Thirst x5.2),0))))
noncomputable def Zlf (x1:Drinker) (x2:Int) (x3:Msg):Option (Drinker×Int):=
 (Zla x1).bind fun x4=>
 ifb (!decide (x4=0)) (
 some ((Drinker.mk ((Diner.mk 0 0 (([]:(List Side))))) 0 (([]:(List Int)))),x4)) (
 (Zif x1).bind fun x5=>
 (Zp6 x5.1 ((fun z=>Zhf z x2 x3))).bind fun x6=>
 ifb (decide (x6<0)) (
 (Zkf x1 x2 x3 x5 x6) true) (
 ifb (!decide (x3.Num=0)) (
 (Zkf x1 x2 x3 x5 x6) true) (
 ifb (!decide (x3.Kind=3)) (
 (Zkf x1 x2 x3 x5 x6) (!decide (x3.Kind=4))) (
 (Zkf x1 x2 x3 x5 x6) false))))
theorem k_drink_Get (x1:Drinker) (x2:Int) (x3:Msg) (r:(Drinker×Int)) (h:Zlf x1 x2 x3=some r):Zp2 Tryz.prog 91 [.agg (Drinker.row x1),.iv x2,.agg (Msg.row x3)] (.tup [.agg (Drinker.row r.1),.iv r.2]):=by
 refine Zt2 ok91 rfl rfl fun w0 H0=>?_
 rw [Zlf] at h
 refine Zk2 12 ?_;dsimp only [go_sem];refine An ?_;obtain ⟨x4,ex4,h⟩:=Bs h;refine Zy2 trivial (Zma x1 _ ex4) (h:=?_);refine Zk2 7 ?_;dsimp only [go_sem];refine An ?_;refine Zg4 h rfl (fun _ h=>?_) fun _ h=>?_
 ·refine Zk2 7 ?_;dsimp only [go_sem];refine An ?_;exact Zo4 (res:=fun (r:(Drinker×Int))=>.tup [.agg (Drinker.row r.1),.iv r.2]) ok91 h
 ·refine Zk2 4 ?_;dsimp only [go_sem];refine An ?_;obtain ⟨x5,ex5,h⟩:=Bs h;refine Zm5 [false,false,false,false] [] trivial (Zjf x1 _ ex5) (h:=?_);dsimp only [go_sem];refine Zk2 8 ?_;dsimp only [go_sem];refine An ?_;obtain ⟨x6,ex6,h⟩:=Bs h;refine Zs4 trivial ((((Zr4.refl _).slice 0 rfl).block 1 rfl rfl).block 2 rfl rfl) (Zq6 x5.1 _ _ ((fun z=>Zhf z x2 x3)) ⟨by kernel_rfl,rfl,fun z r hz=>k_drink_Get_1 z x2 x3 r hz⟩ _ ex6) (h:=?_);refine Zk2 8 ?_;dsimp only [go_sem];refine An ?_
  refine Ze4 (fun (x7:Bool)=>(⟨(an 3 (.ptr 0 0 :: .ptr 1 0 :: .ptr 2 0 :: .ptr 3 0 :: .any :: .any :: .iv x6::an 32 (.bv x7::an 37 []))),[some ⟨63,[.iv x1.Diner.ID,.iv x1.Diner.Phase,.osl 0,.iv x1.Thirst,.osl 1]⟩,some ⟨3,[.iv x2]⟩,some ⟨93,[.iv x3.Kind,.iv x3.Epoch,.iv x3.Num]⟩,some ⟨63,[.iv 0,.iv 0,.nl,.iv 0,.nl]⟩],[some ⟨66,8,List.map Side.row x5.1⟩,some ⟨3,1,List.map Zu4 x5.2⟩]⟩:St)) (Zkf x1 x2 x3 x5 x6) r ?_ fun J1=>?_
  ·intro x7 h;rw [Zkf] at h;(try dsimp only);refine Zg4 h rfl (fun _ h=>?_) fun _ h=>?_
   ·refine Zk2 6 ?_;dsimp only [go_sem];refine An ?_;refine Z73 0 rfl ?_;dsimp only [go_sem];obtain ⟨x8,ex8,h⟩:=Bs h;refine Zy2 trivial (k_dine_Get ((Diner.mk x1.Diner.ID x1.Diner.Phase x5.1)) x2 x3 _ ex8) (h:=?_);refine Zk2 13 ?_;dsimp only [go_sem];refine An ?_;refine Zg4 h rfl (fun _ h=>?_) fun _ h=>?_
    ·refine Zk2 7 ?_;dsimp only [go_sem];refine An ?_;exact Zo4 (res:=fun (r:(Drinker×Int))=>.tup [.agg (Drinker.row r.1),.iv r.2]) ok91 h
    ·refine Zk2 13 ?_;dsimp only [go_sem];refine An ?_;refine Z73 1 rfl ?_;dsimp only [go_sem];exact Zo4 (res:=fun (r:(Drinker×Int))=>.tup [.agg (Drinker.row r.1),.iv r.2]) ok91 h
   ·refine Zk2 7 ?_;dsimp only [go_sem];refine An ?_;obtain ⟨x9,ex9,h⟩:=Bs h;refine Z85 Side.row ex9 trivial rfl rfl rfl ?_;refine Zk2 10 ?_;dsimp only [go_sem];refine An ?_;refine Zg4 h rfl (fun _ h=>?_) fun _ h=>?_
    ·refine Zk2 5 ?_;dsimp only [go_sem];refine An ?_;refine Z85 Side.row ex9 trivial rfl rfl rfl ?_;refine Zk2 8 ?_;dsimp only [go_sem];refine An ?_;refine Z95 Side.row ex9 trivial rfl rfl rfl ?_;refine Zk2 1 ?_;dsimp only [go_sem];refine An ?_;refine Zg4 h rfl (fun _ h=>?_) fun _ h=>?_
     ·refine Zk2 6 ?_;dsimp only [go_sem];refine An ?_;exact Zo4 (res:=fun (r:(Drinker×Int))=>.tup [.agg (Drinker.row r.1),.iv r.2]) ok91 h
     ·refine Zk2 5 ?_;dsimp only [go_sem];refine An ?_;refine Ze5 [.bv true] Side.row (y':=(Side.mk x9.Peer x9.Epoch x9.State x9.Fork x9.Dirty x9.Token x9.Bottle true)) ex9 trivial rfl rfl rfl (by first | exact Z74 _ | simp [go_sem]) rfl rfl rfl rfl ?_;refine Zk2 7 ?_;dsimp only [go_sem];refine An ?_;refine Z73 0 rfl ?_;dsimp only [go_sem];refine Z73 1 rfl ?_;dsimp only [go_sem];exact Zo4 (res:=fun (r:(Drinker×Int))=>.tup [.agg (Drinker.row r.1),.iv r.2]) ok91 h
    ·refine Zk2 6 ?_;dsimp only [go_sem];refine An ?_;refine Z95 Side.row ex9 trivial rfl rfl rfl ?_;refine Zk2 1 ?_;dsimp only [go_sem];refine An ?_;refine Zg4 h rfl (fun _ h=>?_) fun _ h=>?_
     ·refine Zk2 6 ?_;dsimp only [go_sem];refine An ?_;exact Zo4 (res:=fun (r:(Drinker×Int))=>.tup [.agg (Drinker.row r.1),.iv r.2]) ok91 h
     ·refine Zk2 5 ?_;dsimp only [go_sem];refine An ?_;refine Ze5 [.bv true] Side.row (y':=(Side.mk x9.Peer x9.Epoch x9.State x9.Fork x9.Dirty x9.Token true x9.Ask)) ex9 trivial rfl rfl rfl (by first | exact Z74 _ | simp [go_sem]) rfl rfl rfl rfl ?_;refine Zk2 7 ?_;dsimp only [go_sem];refine An ?_;refine Z73 0 rfl ?_;dsimp only [go_sem];refine Z73 1 rfl ?_;dsimp only [go_sem];exact Zo4 (res:=fun (r:(Drinker×Int))=>.tup [.agg (Drinker.row r.1),.iv r.2]) ok91 h
  ·refine Zn4 28 h rfl (fun _ h=>?_) fun _ h=>?_
   ·dsimp only [go_sem];refine Zk2 15 ?_;dsimp only [go_sem];refine An ?_;exact Zq4 J1 (s:=true) h
   ·dsimp only [go_sem];refine Zk2 5 ?_;dsimp only [go_sem];refine An ?_;refine Zn4 33 h rfl (fun _ h=>?_) fun _ h=>?_
    ·dsimp only [go_sem];refine Zk2 10 ?_;dsimp only [go_sem];refine An ?_;exact Zq4 J1 (s:=true) h
    ·dsimp only [go_sem];refine Zk2 4 ?_;dsimp only [go_sem];refine An ?_;refine Zn4 37 h rfl (fun _ h=>?_) fun _ h=>?_
     ·dsimp only [go_sem];refine Zk2 6 ?_;dsimp only [go_sem];refine An ?_;exact Zq4 J1 (s:=!decide (x3.Kind=4)) h
     ·dsimp only [go_sem];refine Zk2 6 ?_;dsimp only [go_sem];refine An ?_;exact Zq4 J1 (s:=false) h
theorem Zmf (id:Int) (f:Side→Side):∀(l:List Side) (q:Int),(∀x∈l,(f x).Peer=x.Peer∧∀q,Zt9 id q x=true→Zt9 id q (f x)=true)→Zu9 id q l=true→Zu9 id q (l.map f)=true
 | [],_,_,_=>rfl
 | x::l,q,h,hk=>by
   obtain ⟨h1,h2⟩:=h x (by simp)
   simp only [List.map_cons,Zu9,Bool.and_eq_true] at hk ⊢
   refine ⟨h2 q hk.1,?_⟩
   rw [h1]
   exact Zmf id f l x.Peer (fun y hy=>h y (by simp [hy])) hk.2
theorem okD_map {d:Diner} (h:okD d=true) {p:Int} (h0:0≤p) (h2:p≤2) (f:Side→Side) (hf:∀x∈d.Sides,(f x).Peer=x.Peer∧∀q,Zt9 d.ID q x=true→Zt9 d.ID q (f x)=true):okD ⟨d.ID,p,d.Sides.map f⟩=true:=by
 simp only [okD,Bool.and_eq_true,decide_eq_true_eq] at h ⊢
 exact ⟨h.1,h0,h2,by simpa using h.2.2.2.1,Zmf d.ID f d.Sides (-1) hf h.2.2.2.2⟩
theorem sideD_of {id q:Int} {x y:Side} (hp:y.Peer=x.Peer) (he:y.Epoch=x.Epoch) (hs:y.State=x.State) (hd:(x.Dirty=true→x.Fork=true)→y.Dirty=true→y.Fork=true) (h:Zt9 id q x=true):Zt9 id q y=true:=by
 unfold Zt9 at h ⊢
 rw [hp,he,hs]
 simp only [Bool.and_eq_true] at h ⊢
 refine ⟨h.1,h.2.1,h.2.2.1,h.2.2.2.1,h.2.2.2.2.1,h.2.2.2.2.2.1,?_⟩
 have h7:=h.2.2.2.2.2.2
 cases hyd:y.Dirty with
 | false=>rfl
 | true=>
   have:x.Dirty=true→x.Fork=true:=fun e=>by
    rw [e] at h7
    cases hf:x.Fork with
    | true=>rfl
    | false=>rw [hf] at h7;simp at h7
   rw [hd this hyd];rfl
theorem fireD_ok {d:Diner} (h:okD d=true):okD (Z6a d)=true:=by
 have hh:=h
 simp only [okD,Bool.and_eq_true,decide_eq_true_eq] at hh
 have hp:0≤(Z6a d).Phase∧(Z6a d).Phase≤2:=by
  rcases Z6f d with ⟨q,_⟩ | ⟨_,q⟩
  ·rw [q];exact ⟨hh.2.1,hh.2.2.1⟩
  ·rw [q];omega
 have:=okD_map h hp.1 hp.2 (Zme d) fun x hx=>by
  obtain ⟨p1,p2,p3,_⟩:=Zpe d x
  refine ⟨p1,fun q=>sideD_of p1 p2 p3 fun hd=>?_⟩
  unfold Zme
  split
  ·rename_i hc
   rw [Bool.and_eq_true,List.all_eq_true] at hc
   exact fun _=>hc.2 (Z3a d.Phase x) (List.mem_map_of_mem hx)
  ·exact Zhe _ _ hd
 rw [←Zne] at this
 rw [show Z6a d=⟨d.ID,(Z6a d).Phase,(Z6a d).Sides⟩ by rw [←Zoe d]]
 exact this
theorem once_ok {d:Drinker} (h:okD d.Diner=true):okD (Z1f d).Diner=true:=by
 have h1:=fireD_ok (pre_ok h)
 have hh:=h1
 simp only [okD,Bool.and_eq_true,decide_eq_true_eq] at hh
 have:=okD_map h1 hh.2.1 hh.2.2.1 (fun x=>Zue (Zse d x) d.Thirst x) fun x _=>by
  obtain ⟨p1,p2,p3,p4,p5,_⟩:=Zwe (Zse d x) d.Thirst x
  exact ⟨p1,fun q=>sideD_of p1 p2 p3 fun hd e=>by rw [p4];rw [p5] at e;exact hd e⟩
 rw [Zoe] at this
 exact this
def fireN:Nat→Drinker→List Mail→Drinker×List Mail
 | 0,d,out=>(d,out)
 | n+1,d,out=>if Z1f d=d then (d,out) else fireN n (Z1f d) (out++Z2f d)
def fireDr (d:Drinker):Drinker×List Mail:=fireN 300 d []
theorem Znf (l:List Int) (hl:l.length≤1000000):Zna l=some l:=by
 simp only [Zna]
 rw [Z56 _ _ (by omega) (by simp;omega)];rfl
theorem s_EqualInt (l m:List Int) (hl:l.length≤1000000):Z5b l m=some (decide (l=m)):=by
 simp only [Z5b,Zg8]
 by_cases h:l.length=m.length
 ·simp only [h,decide_true,Bool.not_true,Z16]
  rw [Zd8 l m _ (fun x y=>decide (x=y)) h (by omega) (fun k x y hx hy=>by
   simp only [Z4b,Z66 hx,Z06,Z46 hx,Z46 hy,Option.bind_some,Z96 hx (show l.length≤4000000000000000000 by omega),Z26]
   cases decide (x=y)<;>rfl) (by simp only [Z4b,Z76,Z16,Z3b,Option.map_some]),Ze8 l m h]
 ·simp [h,Zf8 h]
theorem s_drOwn (d:Drinker) (hs:d.Diner.Sides.length≤1000000) (hn:d.Need.length≤1000000):Zpa d=some d:=by
 simp only [Zpa,Zz9 _ hs,Znf _ hn,Option.bind_some]
theorem s_drSame (a b:Drinker) (hs:a.Diner.Sides.length≤1000000) (hn:a.Need.length≤1000000):Z8b a b=some (decide (a=b)):=by
 obtain ⟨⟨i,p,s⟩,t,n⟩:=a
 obtain ⟨⟨i',p',s'⟩,t',n'⟩:=b
 simp only at hs hn
 simp only [Z8b,Z2b,Z1b,Z7b,s_EqualSide s s' hs,s_EqualInt n n' hn,Option.bind_some,Drinker.mk.injEq,Diner.mk.injEq]
 by_cases h1:i=i'<;>by_cases h2:p=p'<;>by_cases h3:s=s'<;>by_cases h4:t=t'<;>by_cases h5:n=n'<;>simp [h1,h2,h3,h4,h5]
theorem bits_le (l:List Side):bits l≤4*l.length:=by
 induction l with
 | nil=>simp [bits]
 | cons x l ih=>
   have:Z4f x≤4:=by unfold Z4f bn;split<;>split<;>split<;>split<;>omega
   unfold bits at ih ⊢
   simp only [List.map_cons,List.sum_cons,List.length_cons]
   omega
theorem mu_le {d:Drinker} (h:okD d.Diner=true):mu d≤257:=by
 have h1:=Z0a h
 have h2:=bits_le d.Diner.Sides
 have:rank d.Thirst d.Diner.Phase≤5:=by unfold rank;(repeat' split)<;>omega
 unfold mu;omega
theorem Zof {d:Diner} (h:okD d=true):0≤d.Phase∧d.Phase≤2:=by
 simp only [okD,Bool.and_eq_true,decide_eq_true_eq] at h
 exact ⟨h.2.1,h.2.2.1⟩
theorem fire_loop (x3:Drinker) (hN:x3.Need.length≤1000000):∀(n:Nat) (d:Drinker) (out:List Mail),d.Need=x3.Need→okD d.Diner=true→mu d≤n→out.length+bits d.Diner.Sides≤600000→
  loop (Z7c x3) (d.Diner.ID,d.Diner.Phase,d.Diner.Sides,d.Thirst,out)=some ((fireN (n+1) d out).1,(fireN (n+1) d out).2,0):=fun n=>by
 have step:∀(d:Drinker) (out:List Mail),d.Need=x3.Need→okD d.Diner=true→out.length+bits d.Diner.Sides≤600000→Z7c x3 (d.Diner.ID,d.Diner.Phase,d.Diner.Sides,d.Thirst,out)=if Z1f d=d then some (.inr (d,out,0)) else some (.inl ((Z1f d).Diner.ID,(Z1f d).Diner.Phase,(Z1f d).Diner.Sides,(Z1f d).Thirst,out++Z2f d)):=fun d out hd hk ho=>by
  have hl:=Z0a hk
  have hp:=Zof hk
  have e:(⟨⟨d.Diner.ID,d.Diner.Phase,d.Diner.Sides⟩,d.Thirst,x3.Need⟩:Drinker)=d:=by rw [←hd]
  dsimp only [Z7c]
  have ho2:=s_once d hk (by rw [hd];exact hN) out (by omega)
  rw [hd] at ho2
  rw [e,s_drOwn d (by omega) (by rw [hd];exact hN),Option.bind_some,ho2,Option.bind_some]
  dsimp only
  have e2:(⟨⟨(Z1f d).Diner.ID,(Z1f d).Diner.Phase,(Z1f d).Diner.Sides⟩,(Z1f d).Thirst,x3.Need⟩:Drinker)=Z1f d:=by rw [←hd];rfl
  rw [e2,s_drSame d _ (by omega) (by rw [hd];exact hN),Option.bind_some]
  by_cases hq:Z1f d=d
  ·rw [if_pos hq,decide_eq_true hq.symm,Z06]
   have hm:Z2f d=[]:=by
    rcases Z7f hp.1 hp.2 with h1 | h1
    ·exact h1.2
    ·rw [hq] at h1;omega
   rw [hm,List.append_nil,hq];rfl
  ·rw [if_neg hq,decide_eq_false fun e=>hq e.symm,Z16]
 induction n with
 | zero=>
   intro d out hd hk hm ho
   have hp:=Zof hk
   have hq:Z1f d=d:=by
    rcases Z7f hp.1 hp.2 with h1 | h1
    ·exact h1.1
    ·omega
   rw [Zc4,step d out hd hk ho,if_pos hq]
   unfold fireN
   rw [if_pos hq]
 | succ n ih=>
   intro d out hd hk hm ho
   have hp:=Zof hk
   rw [Zc4,step d out hd hk ho]
   unfold fireN
   by_cases hq:Z1f d=d
   ·rw [if_pos hq,if_pos hq]
   ·rw [if_neg hq,if_neg hq]
    have hb:=Z5f d
    refine ih (Z1f d) (out++Z2f d) hd (once_ok hk) ?_ (by rw [List.length_append];omega)
    rcases Z7f hp.1 hp.2 with h1 | h1
    ·exact absurd h1.1 hq
    ·omega
def okI:Option Int→List Int→Bool
 | _,[]=>true
 | p,x::r=>(match p with | none=>true | some q=>decide (q<x))&&okI (some x) r
def Zpf (d:Diner) (p:Int):Bool:=d.Sides.any fun x=>decide (x.Peer=p)
def okDr (d:Drinker):Bool:=okD d.Diner&&(decide (0≤d.Thirst)&&(decide (d.Thirst≤2)&&(okI none d.Need&&(!(decide (d.Thirst=0)&&decide (0<d.Need.length))&&d.Need.all (Zpf d.Diner)))))
def Zqf:Drinker:=⟨Z1a,0,[]⟩
theorem s_setValid (l:List Int) (hl:l.length≤1000000):Zha l=some (okI none l):=by
 unfold Zha
 refine Z58 l (Zga l) (fun pre=>(pre.length:Int)) (fun pre post=>some (okI pre.getLast? post)) (fun pre x post h=>?_) ?_
 ·have hx:=Z78 h
  have hm:=Z88 h
  have j2:∀z,Zfa (pre.length:Int) z=if z then some (.inr false) else some (.inl ((pre.length+1:Nat):Int)):=fun z=>by
   cases z with
   | true=>rfl
   | false=>dsimp only [Zfa];rw [Z16,Z86 (by omega)];rfl
  dsimp only [Zga]
  rw [Z66 hx,Z06]
  rcases List.eq_nil_or_concat pre with rfl | ⟨q,y,rfl⟩
  ·left
   rw [show decide ((0:Int)<(([]:List Int).length:Nat))=false from rfl,Z16,j2]
   exact ⟨rfl,rfl⟩
  ·rw [List.concat_eq_append] at *
   have hy:l[q.length]?=some y:=by rw [h];simp
   rw [decide_eq_true (show (0:Int)<((q++[y]).length:Nat) by rw [Zc8];omega),Z06]
   have e1:wr (((q++[y]).length:Nat)-1)=(q.length:Int):=by rw [Zc8] at hm ⊢;rw [Z36 (by omega) (by omega)];omega
   rw [e1,Z46 hy,Option.bind_some,Z46 hx,Option.bind_some,j2]
   by_cases hc:x≤y
   ·right
    refine ⟨false,by rw [decide_eq_true hc];rfl,?_⟩
    have:¬y<x:=by omega
    simp [okI,this]
   ·left
    have:y<x:=by omega
    refine ⟨by rw [decide_eq_false hc,Zc8 (q++[y])];rfl,?_⟩
    simp [okI,this]
 ·dsimp only [Zga]
  rw [Z76,Z16];rfl
theorem Zrf (d:Drinker) (hn:d.Need.length≤1000000):Zla d=some (if okDr d then 0 else 150):=by
 simp only [Zla,Zy9,Option.bind_some]
 unfold okDr
 cases hk:okD d.Diner with
 | false=>rfl
 | true=>
   have hl:=Z0a hk
   rw [if_pos rfl,show decide ((0:Int)=0)=true from rfl,Bool.not_true,Z16]
   by_cases h1:d.Thirst<0
   ·rw [decide_eq_true h1,Z06,decide_eq_false (show ¬0≤d.Thirst by omega)];rfl
   ·rw [decide_eq_false h1,Z16,decide_eq_true (show 0≤d.Thirst by omega)]
    by_cases h2:2<d.Thirst
    ·rw [decide_eq_true h2,decide_eq_false (show ¬d.Thirst≤2 by omega)];rfl
    ·rw [decide_eq_false h2,decide_eq_true (show d.Thirst≤2 by omega)]
     dsimp only [Zka]
     rw [Z16,s_setValid _ hn,Option.bind_some]
     cases hv:okI none d.Need with
     | false=>rfl
     | true=>
       rw [Bool.not_true,Z16]
       have j3:∀z,Zja d z=some (if (!z&&d.Need.all (Zpf d.Diner))=true then 0 else 150):=fun z=>by
        cases z with
        | true=>rfl
        | false=>
          dsimp only [Zja]
          rw [Z16,Zi7 d.Need (fun z=>Zca z d) (fun p=>!Zpf d.Diner p) (by omega) (fun p _=>by
           simp only [Zca]
           rw [Z3f d.Diner.Sides (fun z=>Zaa z p) (fun x=>decide (x.Peer=p)) (by omega) (fun x _=>rfl),Option.bind_some]
           rfl),Option.bind_some]
          have e1:d.Need.any (fun p=>!Zpf d.Diner p)=!d.Need.all (Zpf d.Diner):=Zm7 _ _ _ fun _=>rfl
          rw [e1]
          cases d.Need.all (Zpf d.Diner)<;>rfl
       rw [Zw4]
       simp only [j3,Bool.true_and]
       have e3:decide ((0:Int)<(d.Need.length:Nat))=decide (0<d.Need.length):=by rw [decide_eq_decide];omega
       rw [e3]
       cases decide (d.Thirst=0)<;>rfl
theorem s_drFire (d:Drinker) (hn:d.Need.length≤1000000):Z8c d=some (if okDr d then ((fireDr d).1,(fireDr d).2,0) else (Zqf,[],150)):=by
 simp only [Z8c,Zrf d hn,Option.bind_some]
 cases hk:okDr d with
 | false=>rfl
 | true=>
   have hk2:okD d.Diner=true:=by unfold okDr at hk;rw [Bool.and_eq_true] at hk;exact hk.1
   have hl:=Z0a hk2
   have hb:=bits_le d.Diner.Sides
   have hm:=mu_le hk2
   rw [if_pos rfl,show decide ((0:Int)=0)=true from rfl,Bool.not_true,Z16,s_drOwn d (by omega) hn,Option.bind_some,fire_loop d hn 299 d [] rfl hk2 (by omega) (by simp only [List.length_nil];omega),if_pos rfl]
   rfl
def Zsf (d:Diner) (p:Int):Bool:=!d.Sides.any fun x=>decide (x.Peer=p)&&decide (x.State=0)
def Ztf (d:Drinker) (need:List Int):Drinker×Int:=if okDr d then (if d.Thirst=0 then (if need.any (Zsf d.Diner) then (Zqf,151) else (⟨d.Diner,1,setL need⟩,0)) else (Zqf,152)) else (Zqf,150)
def Zuf (d:Drinker):Drinker×Int:=if okDr d then (if d.Thirst=0 then (Zqf,152) else (⟨d.Diner,0,[]⟩,0)) else (Zqf,150)
theorem Zvf {d:Drinker} (h:okDr d=true):okD d.Diner=true:=by unfold okDr at h;rw [Bool.and_eq_true] at h;exact h.1
theorem s_drOpen (d:Drinker) (need:List Int) (hn:d.Need.length≤1000000) (hm:need.length≤1000000):Zef d need=some (Ztf d need):=by
 simp only [Zef,Zrf d hn,Option.bind_some]
 unfold Ztf
 cases hk:okDr d with
 | false=>rfl
 | true=>
   have hl:=Z0a (Zvf hk)
   rw [if_pos rfl,show decide ((0:Int)=0)=true from rfl,Bool.not_true,Z16,if_pos rfl]
   by_cases h1:d.Thirst=0
   ·rw [decide_eq_true h1,Bool.not_true,Z16,if_pos h1,Zi7 need (fun z=>Zbf z d) (Zsf d.Diner) (by omega) (fun p _=>by
     simp only [Zbf]
     rw [Z3f d.Diner.Sides (fun z=>Z9f z p) (fun x=>decide (x.Peer=p)&&decide (x.State=0)) (by omega) (fun x _=>by
      simp only [Z9f,Z8f]
      cases decide (x.Peer=p)<;>rfl),Option.bind_some]
     rfl),Option.bind_some]
    cases need.any (Zsf d.Diner) with
    | true=>rfl
    | false=>
      rw [Z16,if_neg (by simp)]
      dsimp only [Zdf]
      rw [show decide ((0:Int)=0)=true from rfl,Bool.not_true,Z16,s_drOwn d (by omega) hn,Option.bind_some,s_setL need hm,Option.bind_some]
   ·rw [decide_eq_false h1,Bool.not_false,Z06,if_neg h1];rfl
theorem s_drClose (d:Drinker) (hn:d.Need.length≤1000000):Zff d=some (Zuf d):=by
 simp only [Zff,Zrf d hn,Option.bind_some]
 unfold Zuf
 cases hk:okDr d with
 | false=>rfl
 | true=>
   have hl:=Z0a (Zvf hk)
   rw [if_pos rfl,show decide ((0:Int)=0)=true from rfl,Bool.not_true,Z16,if_pos rfl]
   by_cases h1:d.Thirst=0
   ·rw [decide_eq_true h1,Z06,if_pos h1];rfl
   ·rw [decide_eq_false h1,Z16,if_neg h1,s_drOwn d (by omega) hn,Option.bind_some]
def viaD (d:Drinker) (peer:Int) (m:Msg):Drinker×Int:=if (Z9a d.Diner peer m).2=0 then (⟨(Z9a d.Diner peer m).1,d.Thirst,d.Need⟩,0) else (Zqf,(Z9a d.Diner peer m).2)
def Zwf (d:Drinker) (peer:Int) (m:Msg):Drinker×Int:=
 if okDr d then match d.Diner.Sides.findIdx? (fun x=>decide (x.Peer=peer)&&decide (x.Epoch=m.Epoch)) with
  | none=>viaD d peer m
  | some i=>match d.Diner.Sides[i]? with
    | none=>viaD d peer m
    | some x=>if decide (m.Num=0)&&(decide (m.Kind=3)||decide (m.Kind=4)) then
       (if m.Kind=4 then (if x.Ask then (Zqf,132) else (⟨⟨d.Diner.ID,d.Diner.Phase,d.Diner.Sides.set i {x with Ask:=true}⟩,d.Thirst,d.Need⟩,0))
       else (if x.Bottle then (Zqf,132) else (⟨⟨d.Diner.ID,d.Diner.Phase,d.Diner.Sides.set i {x with Bottle:=true}⟩,d.Thirst,d.Need⟩,0)))
      else viaD d peer m
 else (Zqf,150)
theorem s_drGet (d:Drinker) (peer:Int) (m:Msg) (hn:d.Need.length≤1000000):Zlf d peer m=some (Zwf d peer m):=by
 simp only [Zlf,Zrf d hn,Option.bind_some]
 unfold Zwf
 cases hk:okDr d with
 | false=>rfl
 | true=>
   have hl:=Z0a (Zvf hk)
   have hown:Zif d=some (d.Diner.Sides,d.Need):=by
    simp only [Zif,Zz9 _ (show d.Diner.Sides.length≤1000000 by omega),Znf _ hn,Option.bind_some]
   have hvia:Zkf d peer m (d.Diner.Sides,d.Need) (plc (d.Diner.Sides.findIdx? (fun x=>decide (x.Peer=peer)&&decide (x.Epoch=m.Epoch)))) true=some (viaD d peer m):=by
    dsimp only [Zkf]
    rw [Z06,s_Get,Option.bind_some]
    unfold viaD
    by_cases h0:(Z9a d.Diner peer m).2=0
    ·rw [show (⟨d.Diner.ID,d.Diner.Phase,d.Diner.Sides⟩:Diner)=d.Diner from rfl,decide_eq_true h0,if_pos h0];rfl
    ·rw [show (⟨d.Diner.ID,d.Diner.Phase,d.Diner.Sides⟩:Diner)=d.Diner from rfl,decide_eq_false h0,if_neg h0];rfl
   rw [if_pos rfl,show decide ((0:Int)=0)=true from rfl,Bool.not_true,Z16,if_pos rfl,hown,Option.bind_some]
   dsimp only
   rw [Zg7 d.Diner.Sides (fun z=>Zhf z peer m) (fun x=>decide (x.Peer=peer)&&decide (x.Epoch=m.Epoch)) (by omega) (fun x _=>by
    simp only [Zhf,Zgf]
    cases decide (x.Peer=peer)<;>rfl),Option.bind_some,Zc6]
   have hfi:=Zj8 (fun x:Side=>decide (x.Peer=peer)&&decide (x.Epoch=m.Epoch)) d.Diner.Sides
   cases hf:d.Diner.Sides.findIdx? (fun x=>decide (x.Peer=peer)&&decide (x.Epoch=m.Epoch)) with
   | none=>rw [hf] at hvia;exact hvia
   | some i=>
     rw [hf] at hfi hvia
     obtain ⟨x,hx,_⟩:=hfi
     dsimp only
     rw [hx]
     dsimp only
     rw [Option.isNone_some,Z16]
     by_cases n0:m.Num=0
     ·rw [decide_eq_true n0,Bool.not_true,Z16,Bool.true_and]
      have main:(m.Kind=3∨m.Kind=4)→Zkf d peer m (d.Diner.Sides,d.Need) (plc (some i)) false=some (if m.Kind=4 then (if x.Ask then (Zqf,132) else (⟨⟨d.Diner.ID,d.Diner.Phase,d.Diner.Sides.set i {x with Ask:=true}⟩,d.Thirst,d.Need⟩,0))
       else (if x.Bottle then (Zqf,132) else (⟨⟨d.Diner.ID,d.Diner.Phase,d.Diner.Sides.set i {x with Bottle:=true}⟩,d.Thirst,d.Need⟩,0))):=fun _=>by
       dsimp only [Zkf,plc]
       rw [Z16,Z46 hx,Option.bind_some,Int.toNat_natCast]
       by_cases k4:m.Kind=4
       ·rw [decide_eq_true k4,Z06,if_pos k4]
        cases x.Ask<;>rfl
       ·rw [decide_eq_false k4,Z16,if_neg k4]
        cases x.Bottle<;>rfl
      by_cases k3:m.Kind=3
      ·rw [decide_eq_true k3,Bool.not_true,Z16,Bool.true_or,if_pos rfl]
       exact main (.inl k3)
      ·rw [decide_eq_false k3,Bool.not_false,Z06,Bool.false_or]
       by_cases k4:m.Kind=4
       ·rw [decide_eq_true k4,if_pos rfl]
        exact main (.inr k4)
       ·rw [decide_eq_false k4,if_neg (by simp)]
        exact hvia
     ·rw [decide_eq_false n0,Bool.not_false,Z06,Bool.false_and,if_neg (by simp)]
      exact hvia
set_option maxRecDepth 100000
set_option maxHeartbeats 4000000
@[go_sem] def e113:EC:=.seq (.reg [(Qx 2 48 2 0),(Qa 4 (.mv (.c .ff)))]) (.seq (.reg [(Qm 5 1),(Qa 6 (.bin .geq (.t 5) (.c (.iv 0)))),(Qm 7 6),(Qg 8 7 true (.mv (.t 1))),(Qh 9 7 true 0 2),(Qn 10 7 true 9),(Qg 11 7 true (.len (.t 10))),(Qg 12 7 true (.bin .lss (.t 8) (.t 11))),(Qp 13 7 12),(Qm 4 13)]) (.ret))
theorem ok113:FnOK Tryz.prog 113 Tryz.f113 e113 [.t 4] 2 12:=⟨by kernel_rfl,⟨_,rfl,by kernel_rfl⟩,by kernel_rfl,by kernel_rfl⟩
noncomputable def Zxf:Bool→Option Bool
| x3=>
 some x3
noncomputable def Zyf (x1:Scene) (x2:Int):Option Bool:=
 ifb (decide (0≤x2)) (
 Zxf (decide (x2<(ln Diner.row x1.Diners)))) (
 Zxf false)
theorem Zzf (x1:Scene) (x2:Int) (r:Bool) (h:Zyf x1 x2=some r):Zp2 Tryz.prog 113 [.agg (Scene.row x1),.iv x2] (.bv r):=by
 refine Zt2 ok113 rfl rfl fun w0 H0=>?_
 rw [Zyf] at h
 refine Zk2 10 ?_;dsimp only [go_sem];refine An ?_;refine Ze4 (fun (x3:Bool)=>(⟨(an 4 (.bv x3::an 9 [])),[],[]⟩:St)) Zxf r ?_ fun J1=>?_
 ·intro x3 h;rw [Zxf] at h;(try dsimp only);exact Zo4 (res:=fun (r:Bool)=>.bv r) ok113 h
 ·refine Zn4 7 h rfl (fun _ h=>?_) fun _ h=>?_
  ·dsimp only [go_sem];refine Zk2 8 ?_;dsimp only [go_sem];refine An ?_;exact Zq4 J1 (s:=decide (x2<(ln Diner.row x1.Diners))) h
  ·dsimp only [go_sem];refine Zk2 8 ?_;dsimp only [go_sem];refine An ?_;exact Zq4 J1 (s:=false) h
set_option maxRecDepth 100000
set_option maxHeartbeats 4000000
@[go_sem] def e104:EC:=.seq (.reg [(Qx 2 95 5 0),(Qa 3 (.mv (.c .ff)))]) (.seq (.reg [(Qf 4 0 2),(Ql 5 4),(Qf 6 1 2),(Ql 7 6),(Qa 8 (.mm false [(.t 5),(.t 7)])),(Qa 9 (.bin .lss (.t 8) (.c (.iv 0)))),(Qm 10 9),(Qh 11 10 false 0 2),(Qn 12 10 false 11),(Qh 13 10 false 1 2),(Qn 14 10 false 13),(Qg 15 10 false (.mm true [(.t 12),(.t 14)])),(Qh 16 10 false 0 1),(Qn 17 10 false 16),(Qg 18 10 false (.len (.t 17))),(Qg 19 10 false (.bin .geq (.t 15) (.t 18))),(Qq 20 10 19),(Qm 21 20),(Qh 22 21 false 0 2),(Qn 23 21 false 22),(Qh 24 21 false 1 2),(Qn 25 21 false 24),(Qg 26 21 false (.bin .eql (.t 23) (.t 25))),(Qq 27 21 26),(Qm 3 27)]) (.ret))
theorem ok104:FnOK Tryz.prog 104 Tryz.f104 e104 [.t 3] 2 26:=⟨by kernel_rfl,⟨_,rfl,by kernel_rfl⟩,by kernel_rfl,by kernel_rfl⟩
noncomputable def Z0g:Bool→Option Bool
| x3=>
 some x3
noncomputable def Z1g (x1:Mail) (x2:Scene):Option Bool:=
 ifb (decide (((min x1.From x1.To))<0)) (
 Z0g true) (
 ifb (decide ((ln Diner.row x2.Diners)≤((max x1.From x1.To)))) (
 Z0g true) (
 Z0g (decide (x1.From=x1.To))))
theorem Z2g (x1:Mail) (x2:Scene) (r:Bool) (h:Z1g x1 x2=some r):Zp2 Tryz.prog 104 [.agg (Mail.row x1),.elt (Scene.row x2) 0] (.bv r):=by
 refine Zt2 ok104 rfl rfl fun w0 H0=>?_
 rw [Z1g] at h
 refine Zk2 14 ?_;dsimp only [go_sem];refine An ?_;refine Ze4 (fun (x3:Bool)=>(⟨(an 3 (.bv x3::an 24 [])),[],[]⟩:St)) Z0g r ?_ fun J1=>?_
 ·intro x3 h;rw [Z0g] at h;(try dsimp only);exact Zo4 (res:=fun (r:Bool)=>.bv r) ok104 h
 ·refine Zn4 10 h rfl (fun _ h=>?_) fun _ h=>?_
  ·dsimp only [go_sem];refine Zk2 19 ?_;dsimp only [go_sem];refine An ?_;exact Zq4 J1 (s:=true) h
  ·dsimp only [go_sem];refine Zk2 11 ?_;dsimp only [go_sem];refine An ?_;refine Zn4 21 h rfl (fun _ h=>?_) fun _ h=>?_
   ·dsimp only [go_sem];refine Zk2 8 ?_;dsimp only [go_sem];refine An ?_;exact Zq4 J1 (s:=true) h
   ·dsimp only [go_sem];refine Zk2 8 ?_;dsimp only [go_sem];refine An ?_;exact Zq4 J1 (s:=decide (x1.From=x1.To)) h
set_option maxRecDepth 100000
set_option maxHeartbeats 4000000
@[go_sem] def e105:EC:=.seq (.reg [(Qx 1 61 3 0),(Qa 2 (.mv (.c .ff)))]) (.seq (.reg [(Qe 3 3 1),(Qa 4 (.call 101 [(.t 3)])),(Qa 5 (.bin .neq (.t 4) (.c (.iv 0)))),(Qm 2 5)]) (.ret))
theorem ok105:FnOK Tryz.prog 105 Tryz.f105 e105 [.t 2] 1 5:=⟨by kernel_rfl,⟨_,rfl,by kernel_rfl⟩,by kernel_rfl,by kernel_rfl⟩
noncomputable def Z3g (x1:Diner):Option Bool:=
 (Zj9 x1).bind fun x2=>
 some (!decide (x2=0))
theorem Z4g (x1:Diner) (r:Bool) (h:Z3g x1=some r):Zp2 Tryz.prog 105 [.agg (Diner.row x1)] (.bv r):=by
 refine Zt2 ok105 rfl rfl fun w0 H0=>?_
 rw [Z3g] at h
 refine Zk2 8 ?_;dsimp only [go_sem];refine An ?_;obtain ⟨x2,ex2,h⟩:=Bs h;refine Zy2 trivial (Zk9 x1 _ ex2) (h:=?_);refine Zk2 3 ?_;dsimp only [go_sem];refine An ?_;exact Zo4 (res:=fun (r:Bool)=>.bv r) ok105 h
set_option maxRecDepth 100000
set_option maxHeartbeats 4000000
@[go_sem] def e145_L0:EC:=.seq (.reg [(Qa 9 (.bin .lss (.t 8) (.t 7)))]) (.seq (.ite (.t 9) (.skip) (.exit 0)) (.seq (.blk 1 (.seq (.reg [(Qm 10 8),(Qm 5 10)]) (.seq (.reg [(Qm 11 1),(Qm 12 0),(Qm 13 5),(Qk 14 3 12 13),(Qe 15 3 14),(Qa 16 (.callv (.t 11) [(.t 15)]))]) (.ite (.t 16) (.seq (.reg [(Qm 17 5),(Qm 4 17)]) (.ret)) (.skip))))) (.reg [(Qv 18 8 1),(Qm 8 18)])))
@[go_sem] def e145:EC:=.seq (.reg [(Qi 4 0)]) (.seq (.seq (.reg [(Qm 6 0),(Qa 7 (.len (.t 6))),(Qi 8 0)]) (.blk 0 (.loop e145_L0))) (.seq (.reg [(Qa 4 (.mv (.c (.iv (-1)))))]) (.ret)))
theorem ok145:FnOK Tryz.prog 145 Tryz.f145 e145 [.t 4] 2 17:=⟨by kernel_rfl,⟨_,rfl,by kernel_rfl⟩,by kernel_rfl,by kernel_rfl⟩
noncomputable def Z5g:Unit→Option Int
| ()=>
 some (-1)
noncomputable def Z6g (x1:(List Diner)) (p1:(Diner→Option Bool)):Int→Option (Int ⊕ Int)
| x5=>
 ifb (decide (x5<(ln Diner.row x1))) (
 (at_ x1 x5).bind fun x6=>
 (p1 x6).bind fun x7=>
 ifb x7 (
 Option.map Sum.inr (some x5)) (
 some (.inl (wr (x5+1))))) (
 Option.map Sum.inr (Z5g ()))
noncomputable def Z7g (x1:(List Diner)) (p1:(Diner→Option Bool)):Option Int:=
 loop (Z6g x1 p1) 0
theorem Z8g (x1:(List Diner)) (g1:Nat) (caps1:List AV) (p1:(Diner→Option Bool)) (hc1:CloOK Tryz.prog g1 caps1 (fun z=>[.agg (Diner.row z)]) p1 (fun z=>.bv z)) (r:Int) (h:Z7g x1 p1=some r):Zp2 Tryz.prog 145 [.sl 3 (List.map Diner.row x1),.clo g1 caps1] (.iv r):=by
 refine Zt2 ok145 rfl rfl fun w0 H0=>?_
 rw [Z7g] at h
 refine Zk2 11 ?_;dsimp only [go_sem];refine An ?_;refine Ze4 (fun (_:Unit)=>(⟨(an 19 []),[],[]⟩:St)) Z5g r ?_ fun J1=>?_
 ·rintro ⟨⟩ h;rw [Z5g] at h;(try dsimp only);refine Zk2 4 ?_;dsimp only [go_sem];refine An ?_;exact Zo4 (res:=fun (r:Int)=>.iv r) ok145 h
 ·refine Zk2 1 ?_;dsimp only [go_sem];refine An ?_;refine Zf4 h (fun (x5:Int)=>(⟨(.sl 3 (List.map Diner.row x1) :: .clo g1 caps1::an 5 (.iv (ln Diner.row x1) :: .iv x5::an 10 [])),[],[]⟩:St)) (by simp [go_sem]) (by intro x5;first | rfl | simp [go_sem,Z64 _ hc1.pu]) ?_;rintro n1 x5 y1 h hin1 hout1;rw [Z6g] at h;(try dsimp only);refine Zk2 5 ?_;dsimp only [go_sem];refine An ?_;refine Zg4 h rfl (fun _ h=>?_) fun _ h=>?_
  ·refine Zk2 13 ?_;dsimp only [go_sem];refine An ?_;obtain ⟨x6,ex6,h⟩:=Bs h;refine Zj4 Diner.row ex6 trivial rfl rfl rfl ?_;refine Zk2 1 ?_;dsimp only [go_sem];refine An ?_;obtain ⟨x7,ex7,h⟩:=Bs h;refine Zt4 trivial rfl hc1 (x:=x6) ex7 (by first | exact Z74 _ | simp [go_sem]) (by first | rfl | simp [go_sem,hc1.pu]) ?_;refine Zk2 1 ?_;dsimp only [go_sem];refine An ?_;refine Zg4 h rfl (fun _ h=>?_) fun _ h=>?_
   ·refine Zk2 5 ?_;dsimp only [go_sem];refine An ?_;exact Zo4 (res:=fun (r:Int)=>.iv r) ok145 (Zd4 h hout1)
   ·refine Zk2 6 ?_;dsimp only [go_sem];refine An ?_;exact Zp4 h hin1 (hok:=by first | rfl | simp [go_sem,Z64 _ hc1.pu])
  ·refine Zk2 1 ?_;dsimp only [go_sem];refine An ?_;exact Zq4 J1 (s:=()) (Zd4 h hout1) (hok:=by first | rfl | simp [go_sem,Z64 _ hc1.pu])
set_option maxRecDepth 100000
set_option maxHeartbeats 4000000
@[go_sem] def e107:EC:=.seq (.reg [(Qa 4 (.mv (.c .ff)))]) (.seq (.reg [(Qm 5 0),(Qm 6 1),(Qa 7 (.call 145 [(.t 5),(.t 6)])),(Qa 8 (.bin .geq (.t 7) (.c (.iv 0)))),(Qm 4 8)]) (.ret))
theorem ok107:FnOK Tryz.prog 107 Tryz.f107 e107 [.t 4] 2 7:=⟨by kernel_rfl,⟨_,rfl,by kernel_rfl⟩,by kernel_rfl,by kernel_rfl⟩
noncomputable def Z9g (x1:(List Diner)) (p1:(Diner→Option Bool)):Option Bool:=
 (Z7g x1 p1).bind fun x2=>
 some (decide (0≤x2))
theorem Zag (x1:(List Diner)) (g1:Nat) (caps1:List AV) (p1:(Diner→Option Bool)) (hc1:CloOK Tryz.prog g1 caps1 (fun z=>[.agg (Diner.row z)]) p1 (fun z=>.bv z)) (r:Bool) (h:Z9g x1 p1=some r):Zp2 Tryz.prog 107 [.sl 3 (List.map Diner.row x1),.clo g1 caps1] (.bv r):=by
 refine Zt2 ok107 rfl rfl fun w0 H0=>?_
 rw [Z9g] at h
 refine Zk2 8 ?_;dsimp only [go_sem];refine An ?_;obtain ⟨x2,ex2,h⟩:=Bs h;refine Zy2 trivial (Z8g x1 _ _ p1 hc1 _ ex2) (hp:=(by first | rfl | simp [go_sem,hc1.pu])) (h:=?_);refine Zk2 3 ?_;dsimp only [go_sem];refine An ?_;exact Zo4 (res:=fun (r:Bool)=>.bv r) ok107 h
set_option maxRecDepth 100000
set_option maxHeartbeats 4000000
@[go_sem] def e86_L0:EC:=.seq (.reg [(Qa 9 (.bin .lss (.t 8) (.t 7)))]) (.seq (.ite (.t 9) (.skip) (.exit 0)) (.seq (.blk 1 (.seq (.reg [(Qm 10 8),(Qm 5 10)]) (.seq (.reg [(Qm 11 1),(Qm 12 0),(Qm 13 5),(Qk 14 5 12 13),(Qe 15 5 14),(Qa 16 (.callv (.t 11) [(.t 15)]))]) (.ite (.t 16) (.seq (.reg [(Qm 17 5),(Qm 4 17)]) (.ret)) (.skip))))) (.reg [(Qv 18 8 1),(Qm 8 18)])))
@[go_sem] def e86:EC:=.seq (.reg [(Qi 4 0)]) (.seq (.seq (.reg [(Qm 6 0),(Qa 7 (.len (.t 6))),(Qi 8 0)]) (.blk 0 (.loop e86_L0))) (.seq (.reg [(Qa 4 (.mv (.c (.iv (-1)))))]) (.ret)))
theorem ok86:FnOK Tryz.prog 86 Tryz.f86 e86 [.t 4] 2 17:=⟨by kernel_rfl,⟨_,rfl,by kernel_rfl⟩,by kernel_rfl,by kernel_rfl⟩
noncomputable def Zbg:Unit→Option Int
| ()=>
 some (-1)
noncomputable def Zcg (x1:(List Mail)) (p1:(Mail→Option Bool)):Int→Option (Int ⊕ Int)
| x5=>
 ifb (decide (x5<(ln Mail.row x1))) (
 (at_ x1 x5).bind fun x6=>
 (p1 x6).bind fun x7=>
 ifb x7 (
 Option.map Sum.inr (some x5)) (
 some (.inl (wr (x5+1))))) (
 Option.map Sum.inr (Zbg ()))
noncomputable def Zdg (x1:(List Mail)) (p1:(Mail→Option Bool)):Option Int:=
 loop (Zcg x1 p1) 0
theorem Zeg (x1:(List Mail)) (g1:Nat) (caps1:List AV) (p1:(Mail→Option Bool)) (hc1:CloOK Tryz.prog g1 caps1 (fun z=>[.agg (Mail.row z)]) p1 (fun z=>.bv z)) (r:Int) (h:Zdg x1 p1=some r):Zp2 Tryz.prog 86 [.sl 5 (List.map Mail.row x1),.clo g1 caps1] (.iv r):=by
 refine Zt2 ok86 rfl rfl fun w0 H0=>?_
 rw [Zdg] at h
 refine Zk2 11 ?_;dsimp only [go_sem];refine An ?_;refine Ze4 (fun (_:Unit)=>(⟨(an 19 []),[],[]⟩:St)) Zbg r ?_ fun J1=>?_
 ·rintro ⟨⟩ h;rw [Zbg] at h;(try dsimp only);refine Zk2 4 ?_;dsimp only [go_sem];refine An ?_;exact Zo4 (res:=fun (r:Int)=>.iv r) ok86 h
 ·refine Zk2 1 ?_;dsimp only [go_sem];refine An ?_;refine Zf4 h (fun (x5:Int)=>(⟨(.sl 5 (List.map Mail.row x1) :: .clo g1 caps1::an 5 (.iv (ln Mail.row x1) :: .iv x5::an 10 [])),[],[]⟩:St)) (by simp [go_sem]) (by intro x5;first | rfl | simp [go_sem,Z64 _ hc1.pu]) ?_;rintro n1 x5 y1 h hin1 hout1;rw [Zcg] at h;(try dsimp only);refine Zk2 5 ?_;dsimp only [go_sem];refine An ?_;refine Zg4 h rfl (fun _ h=>?_) fun _ h=>?_
  ·refine Zk2 13 ?_;dsimp only [go_sem];refine An ?_;obtain ⟨x6,ex6,h⟩:=Bs h;refine Zj4 Mail.row ex6 trivial rfl rfl rfl ?_;refine Zk2 1 ?_;dsimp only [go_sem];refine An ?_;obtain ⟨x7,ex7,h⟩:=Bs h;refine Zt4 trivial rfl hc1 (x:=x6) ex7 (by first | exact Z74 _ | simp [go_sem]) (by first | rfl | simp [go_sem,hc1.pu]) ?_;refine Zk2 1 ?_;dsimp only [go_sem];refine An ?_;refine Zg4 h rfl (fun _ h=>?_) fun _ h=>?_
   ·refine Zk2 5 ?_;dsimp only [go_sem];refine An ?_;exact Zo4 (res:=fun (r:Int)=>.iv r) ok86 (Zd4 h hout1)
   ·refine Zk2 6 ?_;dsimp only [go_sem];refine An ?_;exact Zp4 h hin1 (hok:=by first | rfl | simp [go_sem,Z64 _ hc1.pu])
  ·refine Zk2 1 ?_;dsimp only [go_sem];refine An ?_;exact Zq4 J1 (s:=()) (Zd4 h hout1) (hok:=by first | rfl | simp [go_sem,Z64 _ hc1.pu])
set_option maxRecDepth 100000
set_option maxHeartbeats 4000000
@[go_sem] def e108:EC:=.seq (.reg [(Qa 4 (.mv (.c .ff)))]) (.seq (.reg [(Qm 5 0),(Qm 6 1),(Qa 7 (.call 86 [(.t 5),(.t 6)])),(Qa 8 (.bin .geq (.t 7) (.c (.iv 0)))),(Qm 4 8)]) (.ret))
theorem ok108:FnOK Tryz.prog 108 Tryz.f108 e108 [.t 4] 2 7:=⟨by kernel_rfl,⟨_,rfl,by kernel_rfl⟩,by kernel_rfl,by kernel_rfl⟩
noncomputable def Zfg (x1:(List Mail)) (p1:(Mail→Option Bool)):Option Bool:=
 (Zdg x1 p1).bind fun x2=>
 some (decide (0≤x2))
theorem Zgg (x1:(List Mail)) (g1:Nat) (caps1:List AV) (p1:(Mail→Option Bool)) (hc1:CloOK Tryz.prog g1 caps1 (fun z=>[.agg (Mail.row z)]) p1 (fun z=>.bv z)) (r:Bool) (h:Zfg x1 p1=some r):Zp2 Tryz.prog 108 [.sl 5 (List.map Mail.row x1),.clo g1 caps1] (.bv r):=by
 refine Zt2 ok108 rfl rfl fun w0 H0=>?_
 rw [Zfg] at h
 refine Zk2 8 ?_;dsimp only [go_sem];refine An ?_;obtain ⟨x2,ex2,h⟩:=Bs h;refine Zy2 trivial (Zeg x1 _ _ p1 hc1 _ ex2) (hp:=(by first | rfl | simp [go_sem,hc1.pu])) (h:=?_);refine Zk2 3 ?_;dsimp only [go_sem];refine An ?_;exact Zo4 (res:=fun (r:Bool)=>.bv r) ok108 h
set_option maxRecDepth 100000
set_option maxHeartbeats 4000000
@[go_sem] def e59:EC:=.seq (.reg [(Qx 1 48 2 0),(Qi 2 0)]) (.seq (.reg [(Qa 7 (.mkf 104 [(.t 1)])),(Qm 3 7)]) (.seq (.reg [(Qa 4 (.mv (.c (.clo 105 []))))]) (.seq (.seq (.reg [(Qf 9 0 1),(Ql 10 9),(Qa 11 (.call 106 [(.t 10)])),(Qm 8 11),(Qa 12 (.ext (.t 8) 0)),(Qa 13 (.ext (.t 8) 1)),(Qa 5 (.alloc 53 [.iv 0,.nl])),(Qs 2 5 12),(Qm 6 13)]) (.seq (.reg [(Qm 14 6),(Qa 15 (.not (.t 14))),(Qm 16 15),(Qh 17 16 false 0 1),(Qn 18 16 false 17),(Qg 19 16 false (.mv (.t 4))),(Qg 20 16 false (.call 107 [(.t 18),(.t 19)])),(Qq 21 16 20),(Qm 22 21),(Qh 23 22 false 1 1),(Qn 24 22 false 23),(Qg 25 22 false (.mv (.t 3))),(Qg 26 22 false (.call 108 [(.t 24),(.t 25)])),(Qq 27 22 26)]) (.ite (.t 27) (.seq (.reg [(Qi 2 142)]) (.ret)) (.skip)))) (.seq (.reg [(Qi 2 0)]) (.ret)))))
theorem ok59:FnOK Tryz.prog 59 Tryz.f59 e59 [.t 2] 1 27:=⟨by kernel_rfl,⟨_,rfl,by kernel_rfl⟩,by kernel_rfl,by kernel_rfl⟩
noncomputable def Zhg:Bool→Option Int
| x5=>
 ifb x5 (
 some 142) (
 some 0)
noncomputable def Zig (x1:Scene):Option Int:=
 (Zr8 x1.Diners).bind fun x2=>
 ifb (!x2.2) (
 Zhg true) (
 (Z9g x1.Diners ((fun z=>Z3g z))).bind fun x3=>
 ifb x3 (
 Zhg true) (
 (Zfg x1.Mail ((fun z=>Z1g z x1))).bind fun x4=>
 Zhg x4))
theorem k_table_Check (x1:Scene) (r:Int) (h:Zig x1=some r):Zp2 Tryz.prog 59 [.agg (Scene.row x1)] (.iv r):=by
 refine Zt2 ok59 rfl rfl fun w0 H0=>?_
 rw [Zig] at h
 refine Zk2 19 ?_;dsimp only [go_sem];refine An ?_;obtain ⟨x2,ex2,h⟩:=Bs h;refine Zy2 trivial (k_place_Graph x1.Diners _ ex2) (h:=?_);refine Zk2 12 ?_;dsimp only [go_sem];refine An ?_;refine Ze4 (fun (x5:Bool)=>(⟨(an 27 [.bv x5]),[],[]⟩:St)) Zhg r ?_ fun J1=>?_
 ·intro x5 h;rw [Zhg] at h;(try dsimp only);refine Zg4 h rfl (fun _ h=>?_) fun _ h=>?_
  ·refine Zk2 4 ?_;dsimp only [go_sem];refine An ?_;exact Zo4 (res:=fun (r:Int)=>.iv r) ok59 h
  ·refine Zk2 5 ?_;dsimp only [go_sem];refine An ?_;exact Zo4 (res:=fun (r:Int)=>.iv r) ok59 h
 ·refine Zn4 16 h rfl (fun _ h=>?_) fun _ h=>?_
  ·dsimp only [go_sem];refine Zk2 12 ?_;dsimp only [go_sem];refine An ?_;exact Zq4 J1 (s:=true) h
  ·dsimp only [go_sem];refine Zk2 3 ?_;dsimp only [go_sem];refine An ?_;obtain ⟨x3,ex3,h⟩:=Bs h;refine Zy2 trivial (Zag x1.Diners _ _ ((fun z=>Z3g z)) ⟨by kernel_rfl,rfl,fun z r hz=>Z4g z r hz⟩ _ ex3) (h:=?_);refine Zk2 2 ?_;dsimp only [go_sem];refine An ?_;refine Zn4 22 h rfl (fun _ h=>?_) fun _ h=>?_
   ·dsimp only [go_sem];refine Zk2 6 ?_;dsimp only [go_sem];refine An ?_;exact Zq4 J1 (s:=true) h
   ·dsimp only [go_sem];refine Zk2 3 ?_;dsimp only [go_sem];refine An ?_;obtain ⟨x4,ex4,h⟩:=Bs h;refine Zs4 trivial ((Zr4.refl _).block 0 rfl rfl) (Zgg x1.Mail _ _ ((fun z=>Z1g z x1)) ⟨by kernel_rfl,rfl,fun z r hz=>Z2g z x1 r hz⟩ _ ex4) (h:=?_);refine Zk2 2 ?_;dsimp only [go_sem];refine An ?_;exact Zq4 J1 (s:=x4) h
set_option maxRecDepth 100000
set_option maxHeartbeats 4000000
@[go_sem] def e134:EC:=.seq (.reg [(Qa 4 (.mv (.c .nl)))]) (.seq (.seq (.reg [(Qm 5 1),(Qa 6 (.bin .lss (.t 5) (.c (.iv 0))))]) (.ite (.t 6) (.reg [(Qa 7 .bad),(Qb .bad)]) (.skip))) (.seq (.seq (.reg [(Qm 8 1),(Qm 9 0),(Qa 10 (.cap (.t 9))),(Qm 11 0),(Qa 12 (.len (.t 11))),(Qa 13 (.bin .sub (.t 10) (.t 12))),(Qa 14 (.bin .sub (.t 8) (.t 13))),(Qm 1 14)]) (.seq (.reg [(Qm 15 1),(Qa 16 (.bin .gtr (.t 15) (.c (.iv 0))))]) (.ite (.t 16) (.reg [(Qm 17 0),(Qm 18 0),(Qa 19 (.cap (.t 18))),(Qa 20 (.slice 5 (.t 17) none (some (.t 19)))),(Qm 21 1),(Qa 22 (.apz 95 5 40 [.iv 0,.iv 0,.iv 0,.iv 0,.iv 0] (.t 20) (.t 21))),(Qm 23 0),(Qa 24 (.len (.t 23))),(Qa 25 (.slice 5 (.t 22) none (some (.t 24)))),(Qm 0 25)]) (.skip)))) (.seq (.reg [(Qm 26 0),(Qm 4 26)]) (.ret))))
theorem ok134:FnOK Tryz.prog 134 Tryz.f134 e134 [.t 4] 2 25:=⟨by kernel_rfl,⟨_,rfl,by kernel_rfl⟩,by kernel_rfl,by kernel_rfl⟩
set_option maxRecDepth 100000
set_option maxHeartbeats 4000000
@[go_sem] def e88_L1:EC:=.seq (.reg [(Qa 28 (.bin .lss (.t 27) (.t 26)))]) (.seq (.ite (.t 28) (.skip) (.exit 2)) (.seq (.blk 3 (.seq (.reg [(Qk 29 1 25 27),(Ql 30 29),(Qm 8 30)]) (.reg [(Qm 31 6),(Qm 32 8),(Qa 33 (.app 95 5 40 (.t 31) (.t 32))),(Qm 6 33)]))) (.reg [(Qv 34 27 1),(Qm 27 34)])))
@[go_sem] def e88_L0:EC:=.seq (.reg [(Qa 12 (.bin .lss (.t 11) (.t 10)))]) (.seq (.ite (.t 12) (.skip) (.exit 0)) (.seq (.blk 1 (.seq (.reg [(Qk 13 1 9 11),(Ql 14 13),(Qm 5 14)]) (.seq (.reg [(Qm 15 3),(Qm 16 5),(Qa 17 (.len (.t 16))),(Qa 18 (.bin .add (.t 15) (.t 17))),(Qm 3 18)]) (.seq (.reg [(Qm 19 3),(Qa 20 (.bin .lss (.t 19) (.c (.iv 0))))]) (.ite (.t 20) (.reg [(Qa 21 .bad),(Qb .bad)]) (.skip)))))) (.reg [(Qv 22 11 1),(Qm 11 22)])))
@[go_sem] def e88:EC:=.seq (.reg [(Qa 2 (.mv (.c .nl)))]) (.seq (.reg [(Qi 3 0)]) (.seq (.seq (.reg [(Qm 9 0),(Qa 10 (.len (.t 9))),(Qi 11 0)]) (.blk 0 (.loop e88_L0))) (.seq (.reg [(Qm 23 3),(Qa 24 (.call 134 [(.c .nl),(.t 23)])),(Qm 6 24)]) (.seq (.seq (.reg [(Qm 25 0),(Qa 26 (.len (.t 25))),(Qi 27 0)]) (.blk 2 (.loop e88_L1))) (.seq (.reg [(Qm 35 6),(Qm 2 35)]) (.ret))))))
theorem ok88:FnOK Tryz.prog 88 Tryz.f88 e88 [.t 2] 1 35:=⟨by kernel_rfl,⟨_,rfl,by kernel_rfl⟩,by kernel_rfl,by kernel_rfl⟩
noncomputable def Zjg:(List Mail)→Option (List Mail)
| x4=>
 some x4
noncomputable def Zkg (x1:Int):Unit→Option (List Mail)
| ()=>
 ifb (decide (0<(wr (x1-(wr (0-0)))))) (
 (apz_ 40 (wr (x1-(wr (0-0)))) ((Mail.mk 0 0 ((Msg.mk 0 0 0))))).bind fun x2=>
 (Z94 x2 0 0).bind fun x3=>
 Zjg x3) (
 Zjg (([]:List Mail)))
noncomputable def Zlg (x1:Int):Option (List Mail):=
 ifb (decide (x1<0)) (
 none) (
 (Zkg x1) ())
theorem Zmg (x1:Int) (r:(List Mail)) (h:Zlg x1=some r):FunT Tryz.prog 134 [.nl,.iv x1] [] [] (.osl 0) [] [some ⟨95,5,List.map Mail.row r⟩]:=by
 refine Zj5 ok134 rfl rfl rfl (by first | rfl | simp [go_sem]) fun w0 M0=>?_
 rw [Zlg] at h
 dsimp only [lun,List.cons_append,List.nil_append]
 refine Zk2 10 ?_;dsimp only [go_sem];refine An ?_;refine Ze4 (fun (_:Unit)=>(⟨(.nl :: .iv x1::an 25 []),[],[]⟩:St)) (Zkg x1) r ?_ fun J1=>?_
 ·rintro ⟨⟩ h;rw [Zkg] at h;(try dsimp only);refine Zk2 5 ?_;dsimp only [go_sem];refine An ?_;refine V_capN trivial rfl ?_;refine Zk2 11 ?_;dsimp only [go_sem];refine An ?_;refine Ze4 (fun (x4:(List Mail))=>(⟨(.osl 0::an 26 []),[],[some ⟨95,5,List.map Mail.row x4⟩]⟩:St)) Zjg r ?_ fun J2=>?_
  ·intro x4 h;rw [Zjg] at h;(try dsimp only);refine Zk2 5 ?_;dsimp only [go_sem];refine An ?_;obtain rfl:=Option.some.inj h;exact Zk5 ok134 rfl (by simp [go_sem])
  ·refine Zg4 h rfl (fun _ h=>?_) fun _ h=>?_
   ·refine Zk2 3 ?_;dsimp only [go_sem];refine An ?_;refine V_capN trivial rfl ?_;refine V_sliceN trivial rfl rfl rfl ?_;refine Zk2 1 ?_;dsimp only [go_sem];refine An ?_;obtain ⟨x2,ex2,h⟩:=Bs h;refine V_apzM Mail.row ex2 trivial rfl rfl rfl rfl ?_;refine Zk2 2 ?_;dsimp only [go_sem];refine An ?_;obtain ⟨x3,ex3,h⟩:=Bs h;refine V_cutM Mail.row ex3 trivial rfl rfl rfl rfl ?_;refine Zk2 2 ?_;dsimp only [go_sem];refine An ?_;refine Z14 1 0 rfl rfl rfl ?_;dsimp only [go_sem];exact Zq4 J2 (s:=x3) h
   ·refine Zk2 1 ?_;dsimp only [go_sem];refine An ?_;refine V_own 0 95 5 rfl rfl ?_;dsimp only [go_sem];exact Zq4 J2 (s:=([]:List Mail)) h
 ·refine Zg4 h rfl (fun _ h=>?_) fun _ h=>?_
  ·cases h
  ·refine Zk2 1 ?_;dsimp only [go_sem];refine An ?_;exact Zq4 J1 (s:=()) h
noncomputable def Zng:(List Mail)→Option (List Mail)
| x31=>
 some x31
noncomputable def Zog (x1:(List (List Mail))):(Int×(List Mail))→Option ((Int×(List Mail)) ⊕ (List Mail))
| (x21,x22)=>
 ifb (decide (x21<(ln (Zv4 5 Mail.row) x1))) (
 (at_ x1 x21).bind fun x23=>
 (Z84 40 x22 x23).bind fun x24=>
 some (.inl (wr (x21+1),x24))) (
 Option.map Sum.inr (Zng x22))
noncomputable def Zpg (x1:(List (List Mail))):Int→Option (List Mail)
| x15=>
 (Zlg x15).bind fun x16=>
 loop (Zog x1) (0,x16)
noncomputable def Zqg (x5:Int) (x6:Int) (x7:(List Mail)):Unit→Option ((Int×Int) ⊕ (List Mail))
| ()=>
 some (.inl (wr (x5+(ln Mail.row x7)),wr (x6+1)))
noncomputable def Zrg (x1:(List (List Mail))):(Int×Int)→Option ((Int×Int) ⊕ (List Mail))
| (x5,x6)=>
 ifb (decide (x6<(ln (Zv4 5 Mail.row) x1))) (
 (at_ x1 x6).bind fun x7=>
 ifb (decide ((wr (x5+(ln Mail.row x7)))<0)) (
 none) (
 (Zqg x5 x6 x7) ())) (
 Option.map Sum.inr ((Zpg x1) x5))
noncomputable def Zsg (x1:(List (List Mail))):Option (List Mail):=
 loop (Zrg x1) (0,0)
theorem Ztg (x1:(List (List Mail))) (r:(List Mail)) (h:Zsg x1=some r):FunO Tryz.prog 88 [.sl 1 (List.map (Zv4 5 Mail.row) x1)] 95 5 (List.map Mail.row r):=by
 refine Z25 ok88 rfl fun w0 H0=>?_
 rw [Zsg] at h
 refine Zk2 15 ?_;dsimp only [go_sem];refine An ?_;refine Ze4 (fun (x15:Int)=>(⟨(.sl 1 (List.map (Zv4 5 Mail.row) x1) :: .any :: .any :: .iv x15::an 32 []),[],[]⟩:St)) (Zpg x1) r ?_ fun J1=>?_
 ·intro x15 h;rw [Zpg] at h;(try dsimp only);refine Zk2 3 ?_;dsimp only [go_sem];refine An ?_;obtain ⟨x16,ex16,h⟩:=Bs h;refine Zm5 [] [] trivial (Zmg x15 _ ex16) (h:=?_);dsimp only [go_sem];refine Zk2 9 ?_;dsimp only [go_sem];refine An ?_;refine Ze4 (fun (x31:(List Mail))=>(⟨(an 6 (.osl 0::an 29 [])),[],[some ⟨95,5,List.map Mail.row x31⟩]⟩:St)) Zng r ?_ fun J3=>?_
  ·intro x31 h;rw [Zng] at h;(try dsimp only);refine Zk2 5 ?_;dsimp only [go_sem];refine An ?_;exact Z75 Mail.row ok88 h rfl rfl
  ·refine Zk2 1 ?_;dsimp only [go_sem];refine An ?_;refine Zf4 h (fun ((x21,x22):(Int×(List Mail)))=>(⟨(an 6 (.osl 0::an 18 (.sl 1 (List.map (Zv4 5 Mail.row) x1) :: .iv (ln (Zv4 5 Mail.row) x1) :: .iv x21::an 8 []))),[],[some ⟨95,5,List.map Mail.row x22⟩]⟩:St)) (by simp [go_sem]) (by rintro ⟨x21,x22⟩;first | rfl | simp [go_sem]) ?_;rintro n1 ⟨x21,x22⟩ y1 h hin1 hout1;rw [Zog] at h;(try dsimp only);refine Zk2 5 ?_;dsimp only [go_sem];refine An ?_;refine Zg4 h rfl (fun _ h=>?_) fun _ h=>?_
   ·refine Zk2 5 ?_;dsimp only [go_sem];refine An ?_;obtain ⟨x23,ex23,h⟩:=Bs h;refine Zj4 (Zv4 5 Mail.row) ex23 trivial rfl rfl rfl ?_;refine Zk2 6 ?_;dsimp only [go_sem];refine An ?_;obtain ⟨x24,ex24,h⟩:=Bs h;refine Zl4 Mail.row ex24 trivial rfl rfl rfl ?_;refine Zk2 7 ?_;dsimp only [go_sem];refine An ?_;refine Z14 1 0 rfl rfl rfl ?_;dsimp only [go_sem];exact Zp4 h hin1
   ·refine Zk2 1 ?_;dsimp only [go_sem];refine An ?_;exact Zq4 J3 (s:=x22) (Zd4 h hout1)
 ·refine Zk2 1 ?_;dsimp only [go_sem];refine An ?_;refine Zf4 h (fun ((x5,x6):(Int×Int))=>(⟨(.sl 1 (List.map (Zv4 5 Mail.row) x1) :: .any :: .any :: .iv x5::an 5 (.sl 1 (List.map (Zv4 5 Mail.row) x1) :: .iv (ln (Zv4 5 Mail.row) x1) :: .iv x6::an 24 [])),[],[]⟩:St)) (by simp [go_sem]) (by rintro ⟨x5,x6⟩;first | rfl | simp [go_sem]) ?_;rintro n1 ⟨x5,x6⟩ y1 h hin1 hout1;rw [Zrg] at h;(try dsimp only);refine Zk2 5 ?_;dsimp only [go_sem];refine An ?_;refine Zg4 h rfl (fun _ h=>?_) fun _ h=>?_
  ·refine Zk2 5 ?_;dsimp only [go_sem];refine An ?_;obtain ⟨x7,ex7,h⟩:=Bs h;refine Zj4 (Zv4 5 Mail.row) ex7 trivial rfl rfl rfl ?_;refine Zk2 16 ?_;dsimp only [go_sem];refine An ?_;refine Ze4 (fun (_:Unit)=>(⟨(.sl 1 (List.map (Zv4 5 Mail.row) x1) :: .any :: .any :: .iv (wr (x5+(ln Mail.row x7)))::an 5 (.sl 1 (List.map (Zv4 5 Mail.row) x1) :: .iv (ln (Zv4 5 Mail.row) x1) :: .iv x6::an 24 [])),[],[]⟩:St)) (Zqg x5 x6 x7) y1 ?_ fun J2=>?_
   ·rintro ⟨⟩ h;rw [Zqg] at h;(try dsimp only);refine Zk2 5 ?_;dsimp only [go_sem];refine An ?_;exact Zp4 h hin1
   ·refine Zg4 h rfl (fun _ h=>?_) fun _ h=>?_
    ·cases h
    ·refine Zk2 1 ?_;dsimp only [go_sem];refine An ?_;exact Zq4 J2 (s:=()) h
  ·refine Zk2 1 ?_;dsimp only [go_sem];refine An ?_;exact Zq4 J1 (s:=x5) (Zd4 h hout1)
set_option maxRecDepth 100000
set_option maxHeartbeats 4000000
@[go_sem] def e56_L0:EC:=.seq (.seq (.reg [(Qm 11 5),(Qm 12 0),(Qa 13 (.len (.t 12))),(Qa 14 (.bin .lss (.t 11) (.t 13)))]) (.ite (.t 14) (.skip) (.exit 0))) (.seq (.blk 1 (.seq (.drw [(Qm 17 0),(Qm 18 5),(Qk 19 5 17 18),(Qe 20 5 19),(Qm 21 1),(Qm 22 5),(Qk 23 5 21 22),(Qe 24 5 23),(Qa 25 (.eqs true [true,true,true,true,true] (.t 20) (.t 24)))] [[],[],[0,1],[2],[],[],[4,5],[6],[3,7]] [[2],[2],[0,1,3],[2,8],[6],[6],[4,5,7],[6,8],[3,7]]) (.ite (.t 25) (.seq (.reg [(Qa 4 (.mv (.c .ff)))]) (.ret)) (.skip)))) (.reg [(Qm 15 5),(Qv 16 15 1),(Qm 5 16)]))
@[go_sem] def e56:EC:=.seq (.reg [(Qa 4 (.mv (.c .ff)))]) (.seq (.seq (.reg [(Qm 6 0),(Qa 7 (.len (.t 6))),(Qm 8 1),(Qa 9 (.len (.t 8))),(Qa 10 (.bin .neq (.t 7) (.t 9)))]) (.ite (.t 10) (.seq (.reg [(Qa 4 (.mv (.c .ff)))]) (.ret)) (.skip))) (.seq (.seq (.reg [(Qi 5 0)]) (.blk 0 (.loop e56_L0))) (.seq (.reg [(Qa 4 (.mv (.c .tt)))]) (.ret))))
theorem ok56:FnOK Tryz.prog 56 Tryz.f56 e56 [.t 4] 2 24:=⟨by kernel_rfl,⟨_,rfl,by kernel_rfl⟩,by kernel_rfl,by kernel_rfl⟩
noncomputable def Zug:Unit→Option Bool
| ()=>
 some true
noncomputable def Zvg (x1:(List Mail)) (x2:(List Mail)):Int→Option (Int ⊕ Bool)
| x6=>
 ifb (decide (x6<(ln Mail.row x1))) (
 (at_ x1 x6).bind fun x7=>
 (at_ x2 x6).bind fun x8=>
 ifb (!(decide (x7.From=x8.From)&&(decide (x7.To=x8.To)&&(decide (x7.Msg.Kind=x8.Msg.Kind)&&(decide (x7.Msg.Epoch=x8.Msg.Epoch)&&(decide (x7.Msg.Num=x8.Msg.Num)&&true)))))) (
 Option.map Sum.inr (some false)) (
 some (.inl (wr (x6+1))))) (
 Option.map Sum.inr (Zug ()))
noncomputable def Zwg (x1:(List Mail)) (x2:(List Mail)):Option Bool:=
 ifb (!decide ((ln Mail.row x1)=(ln Mail.row x2))) (
 some false) (
 loop (Zvg x1 x2) 0)
theorem Zxg (x1:(List Mail)) (x2:(List Mail)) (r:Bool) (h:Zwg x1 x2=some r):Zp2 Tryz.prog 56 [.sl 5 (List.map Mail.row x1),.sl 5 (List.map Mail.row x2)] (.bv r):=by
 refine Zt2 ok56 rfl rfl fun w0 H0=>?_
 rw [Zwg] at h
 refine Zk2 13 ?_;dsimp only [go_sem];refine An ?_;refine Zg4 h rfl (fun _ h=>?_) fun _ h=>?_
 ·refine Zk2 4 ?_;dsimp only [go_sem];refine An ?_;exact Zo4 (res:=fun (r:Bool)=>.bv r) ok56 h
 ·refine Zk2 6 ?_;dsimp only [go_sem];refine An ?_;refine Ze4 (fun (_:Unit)=>(⟨(an 26 []),[],[]⟩:St)) Zug r ?_ fun J1=>?_
  ·rintro ⟨⟩ h;rw [Zug] at h;(try dsimp only);refine Zk2 4 ?_;dsimp only [go_sem];refine An ?_;exact Zo4 (res:=fun (r:Bool)=>.bv r) ok56 h
  ·refine Zk2 1 ?_;dsimp only [go_sem];refine An ?_;refine Zf4 h (fun (x6:Int)=>(⟨(.sl 5 (List.map Mail.row x1) :: .sl 5 (List.map Mail.row x2)::an 3 (.iv x6::an 20 [])),[],[]⟩:St)) (by simp [go_sem]) (by intro x6;first | rfl | simp [go_sem]) ?_;rintro n1 x6 y1 h hin1 hout1;rw [Zvg] at h;(try dsimp only);refine Zk2 8 ?_;dsimp only [go_sem];refine An ?_;refine Zg4 h rfl (fun _ h=>?_) fun _ h=>?_
   ·refine Zk2 4 ?_;dsimp only [go_sem];refine An ?_;refine Zf3 (by kernel_rfl) fun all hall hs hnap haf=>?_;dsimp only [go_sem];refine Z55 hall hs haf hnap 4 5 ?_;dsimp only [go_sem];refine An ?_;obtain ⟨x7,ex7,h⟩:=Bs h;refine Zk4 hall hs haf hnap 2 Mail.row ex7 rfl rfl trivial rfl rfl rfl rfl ?_;refine Z55 hall hs haf hnap 1 3 ?_;dsimp only [go_sem];refine An ?_;obtain ⟨x8,ex8,h⟩:=Bs h;refine Zk4 hall hs haf hnap 6 Mail.row ex8 rfl rfl trivial rfl rfl rfl rfl ?_;refine Z55 hall hs haf hnap 2 0 ?_;dsimp only [go_sem];refine An ?_
    refine Zp3 rfl ?_ _;refine Zg4 h rfl (fun _ h=>?_) fun _ h=>?_
    ·refine Zk2 4 ?_;dsimp only [go_sem];refine An ?_;exact Zo4 (res:=fun (r:Bool)=>.bv r) ok56 (Zd4 h hout1)
    ·refine Zk2 7 ?_;dsimp only [go_sem];refine An ?_;exact Zp4 h hin1
   ·refine Zk2 1 ?_;dsimp only [go_sem];refine An ?_;exact Zq4 J1 (s:=()) (Zd4 h hout1)
set_option maxRecDepth 100000
set_option maxHeartbeats 4000000
@[go_sem] def e25:EC:=.seq (.reg [(Qx 2 48 2 0),(Qx 3 48 2 1),(Qa 4 (.mv (.c .ff)))]) (.seq (.reg [(Qf 5 0 2),(Ql 6 5),(Qf 7 0 3),(Ql 8 7),(Qa 9 (.call 70 [(.t 6),(.t 8)])),(Qm 10 9),(Qh 11 10 true 1 2),(Qn 12 10 true 11),(Qh 13 10 true 1 3),(Qn 14 10 true 13),(Qg 15 10 true (.call 56 [(.t 12),(.t 14)])),(Qp 16 10 15),(Qm 4 16)]) (.ret))
theorem ok25:FnOK Tryz.prog 25 Tryz.f25 e25 [.t 4] 2 15:=⟨by kernel_rfl,⟨_,rfl,by kernel_rfl⟩,by kernel_rfl,by kernel_rfl⟩
noncomputable def Zyg:Bool→Option Bool
| x5=>
 some x5
noncomputable def Zzg (x1:Scene) (x2:Scene):Option Bool:=
 (Zp7 x1.Diners x2.Diners).bind fun x3=>
 ifb x3 (
 (Zwg x1.Mail x2.Mail).bind fun x4=>
 Zyg x4) (
 Zyg false)
theorem Z0h (x1:Scene) (x2:Scene) (r:Bool) (h:Zzg x1 x2=some r):Zp2 Tryz.prog 25 [.agg (Scene.row x1),.agg (Scene.row x2)] (.bv r):=by
 refine Zt2 ok25 rfl rfl fun w0 H0=>?_
 rw [Zzg] at h
 refine Zk2 12 ?_;dsimp only [go_sem];refine An ?_;obtain ⟨x3,ex3,h⟩:=Bs h;refine Zy2 trivial (Zq7 x1.Diners x2.Diners _ ex3) (h:=?_);refine Zk2 1 ?_;dsimp only [go_sem];refine An ?_;refine Ze4 (fun (x5:Bool)=>(⟨(an 4 (.bv x5::an 12 [])),[],[]⟩:St)) Zyg r ?_ fun J1=>?_
 ·intro x5 h;rw [Zyg] at h;(try dsimp only);exact Zo4 (res:=fun (r:Bool)=>.bv r) ok25 h
 ·refine Zn4 10 h rfl (fun _ h=>?_) fun _ h=>?_
  ·dsimp only [go_sem];refine Zk2 4 ?_;dsimp only [go_sem];refine An ?_;obtain ⟨x4,ex4,h⟩:=Bs h;refine Zy2 trivial (Zxg x1.Mail x2.Mail _ ex4) (h:=?_);refine Zk2 3 ?_;dsimp only [go_sem];refine An ?_;exact Zq4 J1 (s:=x4) h
  ·dsimp only [go_sem];refine Zk2 8 ?_;dsimp only [go_sem];refine An ?_;exact Zq4 J1 (s:=false) h
theorem Z1h (l:List Mail) (p:Mail→Option Bool) (q:Mail→Bool) (hl:l.length≤4000000000000000000) (hp:∀x∈l,p x=some (q x)):Zdg l p=some (plc (l.findIdx? q)):=by
 unfold Zdg
 refine Ze6 l _ q hl (fun k x hx=>?_) ?_
 ·simp only [Zcg,Z66 hx,Z06,Z46 hx,Option.bind_some,hp x (List.mem_iff_getElem?.2 ⟨k,hx⟩),Z96 hx hl]
  cases q x<;>rfl
 ·simp only [Zcg,Z76,Z16,Zbg,Option.map_some]
theorem Z2h (l:List Mail) (p:Mail→Option Bool) (q:Mail→Bool) (hl:l.length≤4000000000000000000) (hp:∀x∈l,p x=some (q x)):Zfg l p=some (l.any q):=by
 unfold Zfg
 rw [Z1h l p q hl hp,Option.bind_some,Zb6,Zf6]
theorem Z3h (l:List Diner) (p:Diner→Option Bool) (q:Diner→Bool) (hl:l.length≤4000000000000000000) (hp:∀x∈l,p x=some (q x)):Z7g l p=some (plc (l.findIdx? q)):=by
 unfold Z7g
 refine Ze6 l _ q hl (fun k x hx=>?_) ?_
 ·simp only [Z6g,Z66 hx,Z06,Z46 hx,Option.bind_some,hp x (List.mem_iff_getElem?.2 ⟨k,hx⟩),Z96 hx hl]
  cases q x<;>rfl
 ·simp only [Z6g,Z76,Z16,Z5g,Option.map_some]
theorem Z4h (l:List Diner) (p:Diner→Option Bool) (q:Diner→Bool) (hl:l.length≤4000000000000000000) (hp:∀x∈l,p x=some (q x)):Z9g l p=some (l.any q):=by
 unfold Z9g
 rw [Z3h l p q hl hp,Option.bind_some,Zb6,Zf6]
def Z5h (n:Nat) (m:Mail):Bool:=!(decide (min m.From m.To<0)||(decide ((n:Int)≤max m.From m.To)||decide (m.From=m.To)))
def okS (s:Scene):Bool:=(Z09 s.Diners).2&&(s.Diners.all okD&&s.Mail.all (Z5h s.Diners.length))
theorem s_tCheck1 (m:Mail) (s:Scene):Z1g m s=some (!Z5h s.Diners.length m):=by
 simp only [Z1g,Z0g,Z5h,Zw4,Bool.not_not]
 cases decide (min m.From m.To<0)<;>cases decide ((s.Diners.length:Int)≤max m.From m.To)<;>rfl
theorem s_tCheck (s:Scene) (hD:fewD s.Diners) (hM:s.Mail.length≤1000000):Zig s=some (if okS s then 0 else 142):=by
 simp only [Zig,s_Graph _ hD,Option.bind_some,Zhg]
 rw [show okS s=((Z09 s.Diners).2&&(s.Diners.all okD&&s.Mail.all (Z5h s.Diners.length))) from rfl]
 cases h1:(Z09 s.Diners).2 with
 | false=>simp
 | true=>
   rw [Z4h s.Diners _ (fun d=>!okD d) (by have:=hD.1;omega) (fun d _=>by
    simp only [Z3g,Zy9,Option.bind_some]
    cases okD d<;>rfl)]
   rw [Z2h s.Mail _ (fun m=>!Z5h s.Diners.length m) (by omega) (fun m _=>s_tCheck1 m s)]
   have e1:s.Diners.any (fun d=>!okD d)=!s.Diners.all okD:=Zm7 _ _ _ fun _=>rfl
   have e2:s.Mail.any (fun m=>!Z5h s.Diners.length m)=!s.Mail.all (Z5h s.Diners.length):=Zm7 _ _ _ fun _=>rfl
   rw [e1,e2]
   cases s.Diners.all okD<;>cases s.Mail.all (Z5h s.Diners.length)<;>rfl
def Z6h (s:Scene) (a:Int):Bool:=decide (0≤a)&&decide (a<s.Diners.length)
theorem s_there (s:Scene) (a:Int):Zyf s a=some (Z6h s a):=by
 simp only [Zyf,Zxf,Z6h,Zw4]
 cases decide (0≤a)<;>rfl
theorem s_Grow (n:Nat) (hn:n≤3000000):Zlg n=some []:=by
 have e0:wr (0-0)=0:=Z36 (by omega) (by omega)
 have e1:wr ((n:Int)-0)=n:=by rw [Z36 (by omega) (by omega)];omega
 simp only [Zlg,Zkg,Zjg,e0,e1]
 rw [decide_eq_false (by omega),Z16]
 by_cases h:0<n
 ·rw [decide_eq_true (by omega),Z06]
  unfold apz_
  rw [if_pos ⟨by omega,by omega,by omega⟩,Option.bind_some]
  unfold Z94
  rw [if_pos ⟨by omega,by omega,by omega⟩]
  simp
 ·rw [decide_eq_false (by omega),Z16]
theorem s_Concat (a b:List Mail) (ha:a.length≤1000000) (hb:b.length≤1000000):Zsg [a,b]=some (a++b):=by
 have g0:at_ [a,b] 0=some a:=rfl
 have g1:at_ [a,b] (wr (0+1))=some b:=by rw [Z36 (by omega) (by omega)];rfl
 have l0:ln (Zv4 5 Mail.row) [a,b]=2:=by rw [Zw4];rfl
 have w1:wr (0+1)=1:=Z36 (by omega) (by omega)
 have w2:wr (1+1)=2:=Z36 (by omega) (by omega)
 have s1:wr (0+ln Mail.row a)=(a.length:Int):=by rw [Zw4,Z36 (by omega) (by omega)];omega
 have s2:wr ((a.length:Int)+ln Mail.row b)=((a.length+b.length:Nat):Int):=by rw [Zw4,Z36 (by omega) (by omega)];omega
 unfold Zsg
 rw [Zc4]
 dsimp only [Zrg]
 rw [l0,show decide ((0:Int)<2)=true from rfl,Z06,g0,Option.bind_some,s1,decide_eq_false (by omega),Z16]
 dsimp only [Zqg]
 rw [s1,w1,Zc4]
 dsimp only [Zrg]
 rw [l0,show decide ((1:Int)<2)=true from rfl,Z06,←w1,g1,Option.bind_some,s2,decide_eq_false (by omega),Z16]
 dsimp only [Zqg]
 rw [s2,w1,w2,Zc4]
 dsimp only [Zrg]
 rw [l0,show decide ((2:Int)<2)=false from rfl,Z16]
 dsimp only [Zpg]
 rw [s_Grow _ (by omega),Option.bind_some]
 have k:loop (Zog [a,b]) (0,[])=some (a++b):=by
  rw [Zc4]
  dsimp only [Zog]
  rw [l0,show decide ((0:Int)<2)=true from rfl,Z06,g0,Option.bind_some,Z56 _ _ (by omega) (by simp;omega),Option.bind_some,List.nil_append,w1]
  dsimp only
  rw [Zc4]
  dsimp only [Zog]
  rw [l0,show decide ((1:Int)<2)=true from rfl,Z06,←w1,g1,Option.bind_some,Z56 _ _ (by omega) (by omega),Option.bind_some,w1,w2]
  dsimp only
  rw [Zc4]
  dsimp only [Zog]
  rw [l0,show decide ((2:Int)<2)=false from rfl,Z16]
  rfl
 rw [k];rfl
theorem there_at {s:Scene} {a:Int} (h:Z6h s a=true):∃d,at_ s.Diners a=some d∧s.Diners[a.toNat]?=some d:=by
 simp only [Z6h,Bool.and_eq_true,decide_eq_true_eq] at h
 exact at_lt h.1 h.2
theorem Z7h (l m:List Mail) (hl:l.length≤1000000):Zwg l m=some (decide (l=m)):=by
 simp only [Zwg,Zg8]
 by_cases h:l.length=m.length
 ·simp only [h,decide_true,Bool.not_true,Z16]
  rw [Zd8 l m _ (fun x y=>decide (x=y)) h (by omega) (fun k x y hx hy=>by
   simp only [Zvg,Z66 hx,Z06,Z46 hx,Z46 hy,Option.bind_some,Mail_eqB,Z96 hx (show l.length≤4000000000000000000 by omega),Z26,Option.map_some]
   cases decide (x=y)<;>rfl) (by simp only [Zvg,Z76,Z16,Zug,Option.map_some]),Ze8 l m h]
 ·simp [h,Zf8 h]
theorem s_Same14 (s t:Scene) (hD:fewD s.Diners) (hM:s.Mail.length≤900000):Zzg s t=some (decide (s=t)):=by
 obtain ⟨l,m⟩:=s
 obtain ⟨l',m'⟩:=t
 simp only [Zzg,Zyg,s_r12Same _ _ hD,Z7h m m' (by simp only at hM;omega),Option.bind_some,Scene.mk.injEq]
 by_cases h1:l=l'<;>by_cases h2:m=m'<;>simp [h1,h2]
set_option maxRecDepth 100000
set_option maxHeartbeats 4000000
@[go_sem] def e78:EC:=.seq (.reg [(Qx 1 53 2 0),(Qa 2 (.alloc 48 [.nl,.nl])),(Qi 3 0)]) (.seq (.reg [(Qe 9 2 1),(Qa 10 (.call 124 [(.t 9)])),(Qm 8 10),(Qa 11 (.ext (.t 8) 0)),(Qa 12 (.ext (.t 8) 1)),(Qa 13 (.ext (.t 8) 2)),(Qm 4 11),(Qm 5 12),(Qm 6 13)]) (.seq (.seq (.reg [(Qm 14 6),(Qa 15 (.bin .neq (.t 14) (.c (.iv 0))))]) (.ite (.t 15) (.seq (.reg [(Qa 16 (.build [.nl,.nl] [])),(Qm 17 6),(Qs 2 2 16),(Qm 3 17)]) (.ret)) (.skip))) (.seq (.reg [(Qe 19 2 1),(Qm 20 4),(Qa 21 (.call 125 [(.t 19),(.t 20)])),(Qm 18 21),(Qa 22 (.ext (.t 18) 0)),(Qa 23 (.ext (.t 18) 1)),(Qm 7 22),(Qm 6 23)]) (.seq (.reg [(Qm 24 7),(Qa 25 (.build [.nl,.nl] [(0,1,(.t 24))])),(Qm 26 6),(Qs 2 2 25),(Qm 3 26)]) (.ret)))))
theorem ok78:FnOK Tryz.prog 78 Tryz.f78 e78 [.c 2 (some 2),.t 3] 1 26:=⟨by kernel_rfl,⟨_,rfl,by kernel_rfl⟩,by kernel_rfl,by kernel_rfl⟩
noncomputable def Z8h (x1:Graph):Option (Scene×Int):=
 (Z3e x1).bind fun x2=>
 ifb (!decide (x2.2.2=0)) (
 some ((Scene.mk (([]:(List Diner))) (([]:(List Mail)))),x2.2.2)) (
 (Zad x1 x2.1).bind fun x3=>
 some ((Scene.mk x3.1 (([]:(List Mail)))),x3.2))
theorem k_table_New (x1:Graph) (r:(Scene×Int)) (h:Z8h x1=some r):Zp2 Tryz.prog 78 [.agg (Graph.row x1)] (.tup [.agg (Scene.row r.1),.iv r.2]):=by
 refine Zt2 ok78 rfl rfl fun w0 H0=>?_
 rw [Z8h] at h
 refine Zk2 9 ?_;dsimp only [go_sem];refine An ?_;obtain ⟨x2,ex2,h⟩:=Bs h;refine Zy2 trivial (k_colour_Run x1 _ ex2) (h:=?_);refine Zk2 14 ?_;dsimp only [go_sem];refine An ?_;refine Zg4 h rfl (fun _ h=>?_) fun _ h=>?_
 ·refine Zk2 7 ?_;dsimp only [go_sem];refine An ?_;exact Zo4 (res:=fun (r:(Scene×Int))=>.tup [.agg (Scene.row r.1),.iv r.2]) ok78 h
 ·refine Zk2 5 ?_;dsimp only [go_sem];refine An ?_;obtain ⟨x3,ex3,h⟩:=Bs h;refine Zy2 trivial (k_place_Table x1 x2.1 _ ex3) (h:=?_);refine Zk2 14 ?_;dsimp only [go_sem];refine An ?_;exact Zo4 (res:=fun (r:(Scene×Int))=>.tup [.agg (Scene.row r.1),.iv r.2]) ok78 h
theorem lsf_le (p:Nat→Bool):∀(f k j:Nat),p j=true→k≤j→j≤k+f→lsf p f k≤j
 | 0,k,j,_,h1,_=>h1
 | f+1,k,j,h,h1,h2=>by
   simp only [lsf]
   split
   ·exact h1
   ·rename_i hp
    have:k≠j:=by rintro rfl;exact hp h
    exact lsf_le p f (k+1) j h (by omega) (by omega)
theorem countP_lt {α:Type} (p q:α→Bool):∀(l:List α),(∀x∈l,p x=true→q x=true)→(∃x∈l,q x=true∧p x=false)→l.countP p<l.countP q
 | [],_,⟨x,hx,_⟩=>absurd hx (by simp)
 | y::l,h,⟨x,hx,h1,h2⟩=>by
   have hle:l.countP p≤l.countP q:=List.countP_mono_left fun z hz=>h z (List.mem_cons_of_mem _ hz)
   rw [List.countP_cons,List.countP_cons]
   rcases List.mem_cons.1 hx with rfl | hx
   ·rw [h1,h2];simp;omega
   ·have:=countP_lt p q l (fun z hz=>h z (List.mem_cons_of_mem _ hz)) ⟨x,hx,h1,h2⟩
    have hy:=h y (by simp)
    cases hp:p y with
    | false=>simp;omega
    | true=>rw [hy hp];simp;omega
def zeros (g:Graph) (c:List Int):Nat:=(List.range g.N.toNat).countP fun a:Nat=>decide (cg c (a:Int)=0)
theorem zeros_le (g:Graph) (c:List Int):zeros g c≤g.N.toNat:=by
 have:=List.countP_le_length (p:=fun a:Nat=>decide (cg c (a:Int)=0)) (l:=List.range g.N.toNat)
 simpa [zeros] using this
structure ColN (g:Graph) (c:List Int) (n:Nat):Prop where
 len:(c.length:Int)=g.N
 lo:∀x∈c,0≤x
 hi:∀x∈c,x≤n
 ne:∀a b,b∈Zdd g a→cg c a≠0→cg c b≠0→cg c a≠cg c b
theorem ColN.I {g:Graph} {c:List Int} {n:Nat} (h:ColN g c n) (hn:n≤100):ColI g c:=⟨h.len,h.lo,fun x hx=>by have:=h.hi x hx;omega⟩
theorem Z9h {g:Graph} {c:List Int} {a:Int} (h0:0≤a) (h:a<g.N):cg (Z7e g c) a=newC g c a.toNat:=by
 unfold cg Z7e
 rw [List.getElem?_map,List.getElem?_range (by omega)];rfl
theorem near_symm' {g:Graph} (hg:okG g=true) {a b:Int} (h:b∈Zdd g a):a∈Zdd g b:=by
 rw [Zhd hg] at *;exact h.symm
theorem Zah {c near:List Int} {a:Int}:Z6e c near a=true↔cg c a=0∧∀b∈near,cg c b=0→b≤a:=by
 unfold Z6e
 simp only [Bool.and_eq_true,decide_eq_true_eq,Bool.not_eq_true',List.any_eq_false,Bool.and_eq_true,decide_eq_true_eq,not_and]
 constructor
 ·rintro ⟨h1,h2⟩;exact ⟨h1,fun b hb h0=>by have:=h2 b hb h0;omega⟩
 ·rintro ⟨h1,h2⟩;exact ⟨h1,fun b hb h0=>by have:=h2 b hb h0;omega⟩
theorem freshC_le {g:Graph} {c:List Int} {n:Nat} (hc:ColN g c n) (hn:n≤100) (a:Int):Z5e c (Zdd g a)≤n+1:=by
 refine lsf_le _ _ _ _ ?_ (by omega) (by omega)
 simp only [Bool.not_eq_true']
 unfold Z4e
 rw [List.any_eq_false]
 intro b hb
 simp only [decide_eq_true_eq]
 intro he
 by_cases h:0≤b∧b<c.length
 ·have:=hc.hi _ (cg_mem (c:=c) h.1 h.2)
  omega
 ·unfold cg at he
  have hb0:0≤b.toNat:=Nat.zero_le _
  cases hq:c[b.toNat]? with
  | none=>rw [hq] at he;simp at he;omega
  | some y=>
    rw [hq] at he
    have:=hc.hi y (List.mem_iff_getElem?.2 ⟨_,hq⟩)
    simp at he;omega
theorem Zbh (g:Graph) (c:List Int) (a:Nat):(Z6e c (Zdd g a) a=true∧newC g c a=(Z5e c (Zdd g a):Int))∨(Z6e c (Zdd g a) a=false∧newC g c a=cg c a):=by
 unfold newC
 cases Z6e c (Zdd g a) a<;>simp
theorem ColN.round {g:Graph} (hg:okG g=true) {c:List Int} {n:Nat} (hc:ColN g c n) (hn:n≤100):ColN g (Z7e g c) (n+1):=by
 obtain ⟨g1,g2,_,_,_⟩:=Zl7 hg
 have hI:=hc.I hn
 have hmem:∀x∈Z7e g c,0≤x∧x≤n+1:=fun x hx=>by
  obtain ⟨a,ha,rfl⟩:=List.mem_map.1 hx
  have ha':=List.mem_range.1 ha
  have:=freshC_le hc hn a
  rcases Zbh g c a with ⟨_,h2⟩ | ⟨_,h2⟩
  ·rw [h2];omega
  ·rw [h2]
   have hm:=cg_mem (c:=c) (a:=(a:Int)) (by omega) (by have:=hc.len;omega)
   have:=hc.lo _ hm
   have:=hc.hi _ hm
   omega
 refine ⟨by simp [Z7e];omega,fun x hx=>(hmem x hx).1,fun x hx=>by have:=(hmem x hx).2;omega,fun a b hb ha0 hb0=>?_⟩
 obtain ⟨b1,b2,b3,a1,a2⟩:=Zid hg hb
 have hab:=near_symm' hg hb
 rw [Z9h a1 a2] at ha0 ⊢
 rw [Z9h b1 b2] at hb0 ⊢
 have ea:((a.toNat:Nat):Int)=a:=Int.toNat_of_nonneg a1
 have eb:((b.toNat:Nat):Int)=b:=Int.toNat_of_nonneg b1
 have ua:=(Z8e hg hI a).1
 have ub:=(Z8e hg hI b).1
 unfold Z4e at ua ub
 rw [List.any_eq_false] at ua ub
 have ua':=ua b hb
 have ub':=ub a hab
 simp only [decide_eq_true_eq] at ua' ub'
 rcases Zbh g c a.toNat with ⟨h1,h2⟩ | ⟨h1,h2⟩<;>rcases Zbh g c b.toNat with ⟨k1,k2⟩ | ⟨k1,k2⟩<;>rw [ea] at h1 h2<;>rw [eb] at k1 k2
 ·rw [Zah] at h1 k1
  have:=h1.2 b hb k1.1
  have:=k1.2 a hab h1.1
  exact absurd (by omega) b3
 ·rw [h2,k2];exact fun e=>ua' e.symm
 ·rw [h2,k2];exact ub'
 ·rw [h2,k2]
  rw [h2] at ha0
  rw [k2] at hb0
  exact hc.ne a b hb ha0 hb0
theorem max_zero (p:Nat→Bool):∀n:Nat,(∃a,a<n∧p a=true)→∃a,a<n∧p a=true∧∀b,b<n→p b=true→b≤a
 | 0,⟨a,h,_⟩=>absurd h (by omega)
 | n+1,⟨a,h,hp⟩=>by
   cases hn:p n with
   | true=>exact ⟨n,by omega,hn,fun b hb _=>by omega⟩
   | false=>
     have:a≠n:=by rintro rfl;rw [hn] at hp;simp at hp
     obtain ⟨a',h1,h2,h3⟩:=max_zero p n ⟨a,by omega,hp⟩
     refine ⟨a',by omega,h2,fun b hb hpb=>?_⟩
     have:b≠n:=by rintro rfl;rw [hn] at hpb;simp at hpb
     exact h3 b (by omega) hpb
theorem Zch {g:Graph} (hg:okG g=true) {c:List Int} {n:Nat} (hc:ColN g c n) (hn:n≤100) (h0:(0:Int)∈c):zeros g (Z7e g c)<zeros g c:=by
 have hI:=hc.I hn
 have ex:∃a,a<g.N.toNat∧(fun a:Nat=>decide (cg c (a:Int)=0)) a=true:=by
  obtain ⟨k,hk⟩:=List.mem_iff_getElem?.1 h0
  have hlt:=(List.getElem?_eq_some_iff.1 hk).1
  have:=hc.len
  refine ⟨k,by omega,?_⟩
  simp [cg,hk]
 obtain ⟨a,h1,h2,h3⟩:=max_zero _ _ ex
 simp only [decide_eq_true_eq] at h2 h3
 refine countP_lt _ _ _ (fun b hb hz=>?_) ⟨a,List.mem_range.2 h1,by simpa using h2,?_⟩
 ·have hb':=List.mem_range.1 hb
  have hf:=(Z8e hg hI b).2.1
  simp only [decide_eq_true_eq] at hz ⊢
  rw [Z9h (by omega) (by omega),Int.toNat_natCast] at hz
  rcases Zbh g c b with ⟨k1,k2⟩ | ⟨k1,k2⟩
  ·rw [Zah] at k1;exact k1.1
  ·rw [←k2];exact hz
 ·have ht:Z6e c (Zdd g a) a=true:=by
   rw [Zah]
   refine ⟨h2,fun b hb hb0=>?_⟩
   obtain ⟨b1,b2,_⟩:=Zid hg hb
   have:=h3 b.toNat (by omega) (by rw [Int.toNat_of_nonneg b1];exact hb0)
   omega
  have hf:=(Z8e hg hI a).2.1
  simp only [decide_eq_false_iff_not]
  rw [Z9h (by omega) (by omega),Int.toNat_natCast]
  unfold newC
  rw [ht];simp;omega
def runL (g:Graph):Nat→List Int→Int→List Int×Int
 | 0,c,n=>(c,n)
 | f+1,c,n=>if (0:Int)∈c then runL g f (Z7e g c) (n+1) else (c,n)
theorem zeros_pos {g:Graph} {c:List Int} {n:Nat} (hc:ColN g c n) (h0:(0:Int)∈c):0<zeros g c:=by
 obtain ⟨k,hk⟩:=List.mem_iff_getElem?.1 h0
 have hlt:=(List.getElem?_eq_some_iff.1 hk).1
 have:=hc.len
 refine List.countP_pos_iff.2 ⟨k,List.mem_range.2 (by omega),?_⟩
 simp [cg,hk]
theorem runL_right {g:Graph} (hg:okG g=true):∀(f:Nat) (c:List Int) (n:Nat),ColN g c n→zeros g c≤f→n+f≤100→Zwc g (runL g f c n).1=true∧(runL g f c n).1.length≤64:=by
 obtain ⟨g1,g2,g3,g4,g5⟩:=Zl7 hg
 have done:∀(c:List Int) (n:Nat),ColN g c n→(0:Int)∉c→Zwc g c=true∧c.length≤64:=fun c n hc h0=>by
  have hl:=hc.len
  refine ⟨?_,by omega⟩
  unfold Zwc
  rw [decide_eq_true hl,Bool.true_and,Bool.and_eq_true,List.all_eq_true,List.all_eq_true]
  have nz:∀a:Int,0≤a→a<g.N→cg c a≠0:=fun a h1 h2 h=>h0 (h ▸ cg_mem (c:=c) h1 (by omega))
  refine ⟨fun x hx=>?_,fun e he=>?_⟩
  ·have:=hc.lo x hx
   have:x≠0:=by rintro rfl;exact h0 hx
   simp;omega
  ·obtain ⟨e1,e2,e3⟩:=g4 e he
   have:=hc.ne e.A e.B ((Zhd hg).2 (.inl he)) (nz _ e1 (by omega)) (nz _ (by omega) e3)
   simpa using this
 intro f
 induction f with
 | zero=>
   intro c n hc hz _
   have h0:(0:Int)∉c:=fun h=>by have:=zeros_pos hc h;omega
   exact done c n hc h0
 | succ f ih=>
   intro c n hc hz hn
   simp only [runL]
   split
   ·rename_i h0
    have:=Zch hg hc (by omega) h0
    have k:=ih (Z7e g c) (n+1) (hc.round hg (by omega)) (by omega) (by omega)
    rwa [show ((n+1:Nat):Int)=(n:Int)+1 from rfl] at k
   ·rename_i h0
    exact done c n hc h0
theorem run_loop {g:Graph} (hg:okG g=true):∀(f:Nat) (c:List Int) (n:Nat),ColN g c n→zeros g c≤f→n+f≤100→loop (Z2e g) (c,(n:Int))=some ((runL g f c n).1,(runL g f c n).2,0):=by
 obtain ⟨g1,g2,g3,g4,g5⟩:=Zl7 hg
 have stop:∀(c:List Int) (n:Nat),ColN g c n→(0:Int)∉c→loop (Z2e g) (c,(n:Int))=some (c,(n:Int),0):=fun c n hc h0=>by
  have hl:=hc.len
  rw [Zc4]
  dsimp only [Z2e]
  rw [Z9e c 0 (by omega),Option.bind_some,decide_eq_false h0,Z16]
  rfl
 intro f
 induction f with
 | zero=>
   intro c n hc hz _
   have h0:(0:Int)∉c:=fun h=>by have:=zeros_pos hc h;omega
   exact stop c n hc h0
 | succ f ih=>
   intro c n hc hz hn
   have hl:=hc.len
   simp only [runL]
   by_cases h0:(0:Int)∈c
   ·rw [if_pos h0,Zc4]
    dsimp only [Z2e]
    rw [Z9e c 0 (by omega),Option.bind_some,decide_eq_true h0,Z06,s_Round g hg c (hc.I (by omega)),Option.bind_some,Z86 (by omega)]
    have:=Zch hg hc (by omega) h0
    exact ih (Z7e g c) (n+1) (hc.round hg (by omega)) (by omega) (by omega)
   ·rw [if_neg h0];exact stop c n hc h0
def c0 (g:Graph):List Int:=List.replicate g.N.toNat 0
def Zdh (g:Graph):List Int:=(runL g 64 (c0 g) 0).1
theorem cg_c0 (g:Graph) (a:Int):cg (c0 g) a=0:=by
 unfold cg c0
 rw [List.getElem?_replicate]
 split<;>rfl
theorem c0_ok {g:Graph} (hg:okG g=true):ColN g (c0 g) 0:=by
 obtain ⟨g1,_⟩:=Zl7 hg
 refine ⟨by simp [c0];omega,fun x hx=>?_,fun x hx=>?_,fun a b _ h _=>absurd (cg_c0 g a) h⟩
 ·have:=List.eq_of_mem_replicate hx;omega
 ·have:=List.eq_of_mem_replicate hx;omega
theorem zeros64 {g:Graph} (hg:okG g=true) (c:List Int):zeros g c≤64:=by
 have:=zeros_le g c
 have:=(Zl7 hg).2.1
 omega
theorem Zeh {g:Graph} (hg:okG g=true):Zwc g (Zdh g)=true∧(Zdh g).length≤64:=by
 have:=runL_right hg 64 (c0 g) 0 (c0_ok hg) (zeros64 hg _) (by omega)
 exact this
theorem s_Run (g:Graph) (hg:okG g=true):Z3e g=some (Zdh g,(runL g 64 (c0 g) 0).2,0):=by
 obtain ⟨g1,g2,_⟩:=Zl7 hg
 simp only [Z3e,Zk7,hg,if_true,Option.bind_some,decide_true,Bool.not_true,Z16]
 have e:mk_ 8 g.N 0=some (c0 g):=by
  unfold mk_
  rw [if_pos ⟨by omega,by omega⟩];rfl
 rw [e,Option.bind_some]
 exact run_loop hg 64 (c0 g) 0 (c0_ok hg) (zeros64 hg _) (by omega)
def Zfh (g:Graph):Scene:=⟨Zkd g (Zdh g),[]⟩
theorem s_New (g:Graph):Z8h g=some (if okG g then (Zfh g,0) else (⟨[],[]⟩,30)):=by
 cases hg:okG g with
 | false=>
   have:Z3e g=some ([],0,30):=by
    simp only [Z3e,Zk7,hg,Option.bind_some];rfl
   simp only [Z8h,this,Option.bind_some];rfl
 | true=>
   obtain ⟨h1,h2⟩:=Zeh hg
   simp only [Z8h,s_Run g hg,Option.bind_some,decide_true,Bool.not_true,Z16,s_Table g _ (show (Zdh g).length≤1000000 by omega),hg,h1,if_true]
   rfl
theorem Zgh (id:Int):∀(l:List Side) (q:Int),l.Pairwise (fun x y=>x.Peer<y.Peer)→(∀x∈l,q<x.Peer∧x.Peer≠id∧x.Epoch=1∧x.State=0∧(x.Dirty=true→x.Fork=true))→Zu9 id q l=true
 | [],_,_,_=>rfl
 | x::l,q,h,hb=>by
   rw [List.pairwise_cons] at h
   obtain ⟨b1,b2,b3,b4,b5⟩:=hb x (by simp)
   have ih:=Zgh id l x.Peer h.2 fun y hy=>by
    have:=hb y (by simp [hy])
    exact ⟨h.1 y hy,this.2⟩
   simp only [Zu9,ih,Bool.and_true,Zt9,decide_eq_true b1,decide_eq_false b2,b3,b4]
   cases hd:x.Dirty with
   | false=>rfl
   | true=>rw [b5 hd];rfl
theorem LocD.ok {g:Graph} (hg:okG g=true) (hN:g.N≤60) {a:Nat} {d:Diner} (h:LocD d) (hid:d.ID=a) (hp:d.Sides.map (·.Peer)=Zdd g a):okD d=true:=by
 have hlen:d.Sides.length=(Zdd g a).length:=by rw [←hp];simp
 have hfew:=near_few hg (a:Int)
 have hpw:d.Sides.Pairwise fun x y=>x.Peer<y.Peer:=by
  have:=Zed hg (a:Int)
  rw [←hp,List.pairwise_map] at this
  exact this
 unfold okD
 rw [decide_eq_true (show 0≤d.ID by omega),decide_eq_true h.lo,decide_eq_true h.hi,decide_eq_true (show d.Sides.length<64 by omega),Zgh d.ID d.Sides (-1) hpw fun x hx=>?_]
 ·rfl
 ·have hm:x.Peer∈Zdd g a:=by rw [←hp];exact List.mem_map_of_mem hx
  obtain ⟨n1,n2,n3,_⟩:=Zid hg hm
  exact ⟨by omega,by omega,h.side x hx⟩
theorem Inv.okd {g:Graph} {s:Scene} (hg:okG g=true) (hN:g.N≤60) (h:Inv g s) {d:Diner} (hd:d∈s.Diners):okD d=true:=by
 obtain ⟨k,hk⟩:=List.mem_iff_getElem?.1 hd
 obtain ⟨h1,h2⟩:=h.shp k d hk
 exact (h.loc d hd).ok hg hN h1 h2
theorem Inv.few {g:Graph} {s:Scene} (hg:okG g=true) (h:Inv g s):fewD s.Diners:=by
 have:=(Zl7 hg).2.1
 refine ⟨by have:=h.len;omega,fun d hd=>?_⟩
 obtain ⟨k,hk⟩:=List.mem_iff_getElem?.1 hd
 have h2:=(h.shp k d hk).2
 have:d.Sides.length=(Zdd g k).length:=by rw [←h2];simp
 have:=near_few hg (k:Int)
 omega
theorem Inv.graph {g:Graph} {s:Scene} (hg:okG g=true) (h:Inv g s):Z09 s.Diners=(g,true):=by
 rw [←graphP_T hg []]
 refine graphP_key (List.ext_getElem? fun k=>?_)
 have hl:=Zbe hg []
 have hl2:=h.len
 rw [List.getElem?_map,List.getElem?_map]
 by_cases hk:k<s.Diners.length
 ·have e:=Zae (g:=g) (c:=[]) (a:=(k:Int)) (by omega) (by omega)
  have hx:s.Diners[k]?=some s.Diners[k]:=List.getElem?_eq_getElem hk
  obtain ⟨h1,h2⟩:=h.shp k _ hx
  rw [Int.toNat_natCast] at e
  rw [hx,e]
  simp only [Option.map_some,key,h1,h2,Zjd,List.map_map]
  congr 2
  exact (List.map_id _).symm
 ·rw [List.getElem?_eq_none (by omega),List.getElem?_eq_none (by omega)]
theorem mailG_ok {g:Graph} (hg:okG g=true) {n:Nat} (hn:(n:Int)=g.N) {m:Mail} (h:mailG g m):Z5h n m=true:=by
 obtain ⟨n1,n2,n3,n4,n5⟩:=Zid hg h.2.2.2
 unfold Z5h
 rw [decide_eq_false (by omega),decide_eq_false (by omega),decide_eq_false (by omega)];rfl
theorem Inv.ok {g:Graph} {s:Scene} (hg:okG g=true) (hN:g.N≤60) (h:Inv g s):okS s=true:=by
 unfold okS
 rw [h.graph hg,Bool.true_and,Bool.and_eq_true,List.all_eq_true,List.all_eq_true]
 exact ⟨fun d hd=>h.okd hg hN hd,fun m hm=>mailG_ok hg h.len (h.mail m hm)⟩
theorem Inv.init {g:Graph} (hg:okG g=true) {c:List Int} (hr:Zwc g c=true):Inv g ⟨Zkd g c,[]⟩:=by
 have get:∀(k:Nat) d,(Zkd g c)[k]?=some d→(k:Int)<g.N∧d=Zjd g c k:=fun k d hd=>by
  have hk:=(List.getElem?_eq_some_iff.1 hd).1
  have hl:=Zbe hg c
  have e:=Zae (g:=g) (c:=c) (a:=(k:Int)) (by omega) (by omega)
  rw [Int.toNat_natCast,hd] at e
  exact ⟨by omega,by simpa using e⟩
 refine ⟨Zbe hg c,fun k d hd=>?_,fun d hd=>?_,by simp,fun a b da db ha hb hab k hk=>?_⟩
 ·obtain ⟨_,rfl⟩:=get k d hd
  refine ⟨rfl,?_⟩
  simp only [Zjd,List.map_map]
  exact List.map_id _
 ·obtain ⟨k,hk⟩:=List.mem_iff_getElem?.1 hd
  obtain ⟨_,rfl⟩:=get k d hk
  refine ⟨Int.le_refl _,by show (0:Int)≤2;omega,fun x hx=>?_,fun h=>absurd h (by show ¬(0:Int)=2;omega)⟩
  obtain ⟨b,_,rfl⟩:=List.mem_map.1 hx
  exact ⟨rfl,rfl,fun h=>h⟩
 ·obtain ⟨_,rfl⟩:=get a da ha
  obtain ⟨_,rfl⟩:=get b db hb
  have hne:=rightB_ne hg hr hab
  have hba:=Zde hg hab
  unfold hasD cnt
  rw [Zce,if_pos hab,Zce,if_pos hba]
  have hlt:decide (cg c a<cg c b)=!decide (cg c b<cg c a):=by
   rw [←decide_not,decide_eq_decide];omega
  simp only [sideT,has,hlt,bn]
  by_cases hh:cg c b<cg c a<;>rcases hk with rfl | rfl<;>simp [hh]
theorem set_get {l:List Diner} {a:Nat} {d d':Diner} (hd:l[a]?=some d):(l.set a d')[a]?=some d':=by
 have hlt:=(List.getElem?_eq_some_iff.1 hd).1
 rw [List.getElem?_set];simp [hlt]
theorem Inv.phase {g:Graph} {s:Scene} (hg:okG g=true) (h:Inv g s) {a:Nat} {d:Diner} (hd:s.Diners[a]?=some d) {p:Int} (h0:0≤p) (h1:p<2):Inv g ⟨s.Diners.set a ⟨d.ID,p,d.Sides⟩,s.Mail⟩:=by
 have hl:=h.loc d (List.mem_iff_getElem?.2 ⟨_,hd⟩)
 exact h.set (d':=⟨d.ID,p,d.Sides⟩) hg hd rfl rfl ⟨h0,by show p≤2;omega,hl.side,fun e=>absurd e (by show ¬p=2;omega)⟩ h.mail (fun _ _ _ _ _=>rfl) (fun _ _ _ _=>rfl)
set_option maxRecDepth 100000
set_option maxHeartbeats 4000000
@[go_sem] def e114:EC:=.seq (.reg [(Qx 1 66 8 0),(Qa 2 (.mv (.c .ff)))]) (.seq (.reg [(Qf 3 3 1),(Ql 4 3),(Qm 2 4)]) (.ret))
theorem ok114:FnOK Tryz.prog 114 Tryz.f114 e114 [.t 2] 1 4:=⟨by kernel_rfl,⟨_,rfl,by kernel_rfl⟩,by kernel_rfl,by kernel_rfl⟩
noncomputable def Zhh (x1:Side):Option Bool:=
 some x1.Fork
theorem Zih (x1:Side) (r:Bool) (h:Zhh x1=some r):Zp2 Tryz.prog 114 [.agg (Side.row x1)] (.bv r):=by
 refine Zt2 ok114 rfl rfl fun w0 H0=>?_
 rw [Zhh] at h
 refine Zk2 11 ?_;dsimp only [go_sem];refine An ?_;exact Zo4 (res:=fun (r:Bool)=>.bv r) ok114 h
set_option maxRecDepth 100000
set_option maxHeartbeats 4000000
@[go_sem] def e115:EC:=.seq (.reg [(Qx 1 66 8 0),(Qa 2 (.mv (.c .ff)))]) (.seq (.reg [(Qf 3 5 1),(Ql 4 3),(Qm 2 4)]) (.ret))
theorem ok115:FnOK Tryz.prog 115 Tryz.f115 e115 [.t 2] 1 4:=⟨by kernel_rfl,⟨_,rfl,by kernel_rfl⟩,by kernel_rfl,by kernel_rfl⟩
noncomputable def Zjh (x1:Side):Option Bool:=
 some x1.Token
theorem Zkh (x1:Side) (r:Bool) (h:Zjh x1=some r):Zp2 Tryz.prog 115 [.agg (Side.row x1)] (.bv r):=by
 refine Zt2 ok115 rfl rfl fun w0 H0=>?_
 rw [Zjh] at h
 refine Zk2 11 ?_;dsimp only [go_sem];refine An ?_;exact Zo4 (res:=fun (r:Bool)=>.bv r) ok115 h
set_option maxRecDepth 100000
set_option maxHeartbeats 4000000
@[go_sem] def e63_L1:EC:=.seq (.reg [(Qa 89 (.bin .lss (.t 88) (.t 87)))]) (.seq (.ite (.t 89) (.skip) (.exit 3)) (.seq (.blk 4 (.seq (.reg [(Qk 90 5 86 88),(Qe 91 5 90),(Qa 16 (.alloc 95 [.iv 0,.iv 0,.iv 0,.iv 0,.iv 0])),(Qs 5 16 91)]) (.seq (.reg [(Qf 92 2 16),(Qf 93 0 92),(Ql 94 93),(Qm 95 2),(Qa 96 (.bin .eql (.t 94) (.t 95))),(Qm 97 96),(Qh 98 97 true 2 16),(Qh 99 97 true 1 98),(Qn 100 97 true 99),(Qh 101 97 true 1 7),(Qn 102 97 true 101),(Qg 103 97 true (.bin .eql (.t 100) (.t 102))),(Qp 104 97 103),(Qm 105 104),(Qh 106 105 true 0 16),(Qn 107 105 true 106),(Qh 108 105 true 1 16),(Qn 109 105 true 108),(Qg 110 105 true (.mm false [(.t 107),(.t 109)])),(Qh 111 105 true 0 4),(Qn 112 105 true 111),(Qh 113 105 true 1 4),(Qn 114 105 true 113),(Qg 115 105 true (.mm false [(.t 112),(.t 114)])),(Qg 116 105 true (.bin .eql (.t 110) (.t 115))),(Qp 117 105 116),(Qm 118 117),(Qh 119 118 true 0 16),(Qn 120 118 true 119),(Qh 121 118 true 1 16),(Qn 122 118 true 121),(Qg 123 118 true (.mm true [(.t 120),(.t 122)])),(Qh 124 118 true 0 4),(Qn 125 118 true 124),(Qh 126 118 true 1 4),(Qn 127 118 true 126),(Qg 128 118 true (.mm true [(.t 125),(.t 127)])),(Qg 129 118 true (.bin .eql (.t 123) (.t 128))),(Qp 130 118 129)]) (.ite (.t 130) (.reg [(Qm 131 12),(Qv 132 131 1),(Qm 12 132)]) (.skip))))) (.reg [(Qv 133 88 1),(Qm 88 133)])))
@[go_sem] def e63_L0:EC:=.seq (.reg [(Qa 76 (.bin .lss (.t 75) (.t 74)))]) (.seq (.ite (.t 76) (.skip) (.exit 1)) (.seq (.blk 2 (.seq (.reg [(Qk 77 8 73 75),(Qe 78 8 77),(Qa 14 (.alloc 66 [.iv 0,.iv 0,.iv 0,.ff,.ff,.ff,.ff,.ff])),(Qs 8 14 78)]) (.seq (.reg [(Qm 79 11),(Qe 80 8 14),(Qa 81 (.callv (.t 79) [(.t 80)]))]) (.ite (.t 81) (.reg [(Qm 82 12),(Qv 83 82 1),(Qm 12 83)]) (.skip))))) (.reg [(Qv 84 75 1),(Qm 75 84)])))
@[go_sem] def e63:EC:=.seq (.reg [(Qx 3 48 2 0),(Qx 4 30 2 1),(Qi 6 0)]) (.seq (.seq (.reg [(Qe 17 2 3),(Qf 18 0 4),(Ql 19 18),(Qa 20 (.call 113 [(.t 17),(.t 19)])),(Qa 21 (.not (.t 20))),(Qm 22 21),(Qg 23 22 false (.loadA 2 (.t 3))),(Qh 24 22 false 1 4),(Qn 25 22 false 24),(Qg 26 22 false (.call 113 [(.t 23),(.t 25)])),(Qg 27 22 false (.not (.t 26))),(Qq 28 22 27)]) (.ite (.t 28) (.seq (.reg [(Qi 6 0)]) (.ret)) (.skip))) (.seq (.drw [(Qf 30 0 3),(Ql 31 30),(Qf 32 0 4),(Ql 33 32),(Qk 34 3 31 33),(Qe 35 3 34),(Qf 36 1 4),(Ql 37 36),(Qa 38 (.call 65 [(.t 35),(.t 37)])),(Qm 29 38),(Qa 39 (.ext (.t 29) 0)),(Qa 40 (.ext (.t 29) 1)),(Qa 7 (.alloc 66 [.iv 0,.iv 0,.iv 0,.ff,.ff,.ff,.ff,.ff])),(Qs 8 7 39),(Qm 8 40)] [[],[0],[],[2],[1,3],[4],[],[6],[5,7],[8],[9],[9],[],[12,10,8,0,1,2,3,4,5,6,7,8,9,10,12],[11,13,0,1,2,3,4,5,6,7,8,9,10,11,12,13]] [[1],[0,4],[3],[2,4],[1,3,5],[4,8],[7],[6,8],[5,7,9],[8,10,11],[9,13],[9,14],[13],[10,12],[11]]) (.seq (.drw [(Qf 42 0 3),(Ql 43 42),(Qf 44 1 4),(Ql 45 44),(Qk 46 3 43 45),(Qe 47 3 46),(Qf 48 0 4),(Ql 49 48),(Qa 50 (.call 65 [(.t 47),(.t 49)])),(Qm 41 50),(Qa 51 (.ext (.t 41) 0)),(Qa 52 (.ext (.t 41) 1)),(Qa 9 (.alloc 66 [.iv 0,.iv 0,.iv 0,.ff,.ff,.ff,.ff,.ff])),(Qs 8 9 51),(Qm 10 52)] [[],[0],[],[2],[1,3],[4],[],[6],[5,7],[8],[9],[9],[],[12,10,8,0,1,2,3,4,5,6,7,8,9,10,12],[11,13,0,1,2,3,4,5,6,7,8,9,10,11,12,13]] [[1],[0,4],[3],[2,4],[1,3,5],[4,8],[7],[6,8],[5,7,9],[8,10,11],[9,13],[9,14],[13],[10,12],[11]]) (.seq (.seq (.reg [(Qm 53 8),(Qa 54 (.not (.t 53))),(Qm 55 54),(Qg 56 55 false (.mv (.t 10))),(Qg 57 55 false (.not (.t 56))),(Qq 58 55 57),(Qm 59 58),(Qh 60 59 false 1 7),(Qn 61 59 false 60),(Qh 62 59 false 1 9),(Qn 63 59 false 62),(Qg 64 59 false (.bin .neq (.t 61) (.t 63))),(Qq 65 59 64)]) (.ite (.t 65) (.seq (.reg [(Qi 6 0)]) (.ret)) (.skip))) (.seq (.reg [(Qa 11 (.mv (.c .any)))]) (.seq (.seq (.reg [(Qm 66 2)]) (.blk 0 (.seq (.reg [(Qa 68 (.bin .eql (.t 66) (.c (.iv 1)))),(Qm 67 68)]) (.ite (.t 67) (.reg [(Qa 11 (.mv (.c (.clo 114 []))))]) (.seq (.reg [(Qa 70 (.bin .eql (.t 66) (.c (.iv 2)))),(Qm 69 70)]) (.ite (.t 69) (.reg [(Qa 11 (.mv (.c (.clo 115 []))))]) (.seq (.reg [(Qi 6 0)]) (.ret)))))))) (.seq (.reg [(Qi 12 0)]) (.seq (.seq (.reg [(Qe 71 8 7),(Qe 72 8 9),(Qa 73 (.bsl 66 8 2 [.iv 0,.iv 0,.iv 0,.ff,.ff,.ff,.ff,.ff] [(0,(.t 71)),(1,(.t 72))])),(Qa 74 (.len (.t 73))),(Qi 75 0)]) (.blk 1 (.loop e63_L0))) (.seq (.seq (.reg [(Qf 85 1 3),(Ql 86 85),(Qa 87 (.len (.t 86))),(Qi 88 0)]) (.blk 3 (.loop e63_L1))) (.seq (.reg [(Qm 134 12),(Qm 6 134)]) (.ret)))))))))))
theorem ok63:FnOK Tryz.prog 63 Tryz.f63 e63 [.t 6] 3 132:=⟨by kernel_rfl,⟨_,rfl,by kernel_rfl⟩,by kernel_rfl,by kernel_rfl⟩
noncomputable def Zlh:Int→Option Int
| x58=>
 some x58
noncomputable def Zmh (x45:Int):Int→Option ((Int×Int) ⊕ Int)
| x48=>
 some (.inl (x48,wr (x45+1)))
noncomputable def Znh (x44:Int) (x45:Int):Bool→Option ((Int×Int) ⊕ Int)
| x47=>
 ifb x47 (
 (Zmh x45) (wr (x44+1))) (
 (Zmh x45) x44)
noncomputable def Zoh (x1:Scene) (x2:Edge) (x3:Int) (x11:Side):(Int×Int)→Option ((Int×Int) ⊕ Int)
| (x44,x45)=>
 ifb (decide (x45<(ln Mail.row x1.Mail))) (
 (at_ x1.Mail x45).bind fun x46=>
 ifb (decide (x46.Msg.Kind=x3)) (
 ifb (decide (x46.Msg.Epoch=x11.Epoch)) (
 ifb (decide (((min x46.From x46.To))=((min x2.A x2.B)))) (
 (Znh x44 x45) (decide (((max x46.From x46.To))=((max x2.A x2.B))))) (
 (Znh x44 x45) false)) (
 (Znh x44 x45) false)) (
 (Znh x44 x45) false)) (
 Option.map Sum.inr (Zlh x44))
noncomputable def Zph (x1:Scene) (x2:Edge) (x3:Int) (x11:Side):Int→Option Int
| x38=>
 loop (Zoh x1 x2 x3 x11) (x38,0)
noncomputable def Zqh (x24:Int):Int→Option ((Int×Int) ⊕ Int)
| x27=>
 some (.inl (x27,wr (x24+1)))
noncomputable def Zrh (x1:Scene) (x2:Edge) (x3:Int) (x11:Side) (x16:Side):(Int×Int)→Option ((Int×Int) ⊕ Int)
| (x23,x24)=>
 ifb (decide (x24<(ln Side.row ([x11,x16])))) (
 (at_ ([x11,x16]) x24).bind fun x25=>
 (Zhh x25).bind fun x26=>
 ifb x26 (
 (Zqh x24) (wr (x23+1))) (
 (Zqh x24) x23)) (
 Option.map Sum.inr ((Zph x1 x2 x3 x11) x23))
noncomputable def Zsh:Int→Option Int
| x99=>
 some x99
noncomputable def Zth (x86:Int):Int→Option ((Int×Int) ⊕ Int)
| x89=>
 some (.inl (x89,wr (x86+1)))
noncomputable def Zuh (x85:Int) (x86:Int):Bool→Option ((Int×Int) ⊕ Int)
| x88=>
 ifb x88 (
 (Zth x86) (wr (x85+1))) (
 (Zth x86) x85)
noncomputable def Zvh (x1:Scene) (x2:Edge) (x3:Int) (x11:Side):(Int×Int)→Option ((Int×Int) ⊕ Int)
| (x85,x86)=>
 ifb (decide (x86<(ln Mail.row x1.Mail))) (
 (at_ x1.Mail x86).bind fun x87=>
 ifb (decide (x87.Msg.Kind=x3)) (
 ifb (decide (x87.Msg.Epoch=x11.Epoch)) (
 ifb (decide (((min x87.From x87.To))=((min x2.A x2.B)))) (
 (Zuh x85 x86) (decide (((max x87.From x87.To))=((max x2.A x2.B))))) (
 (Zuh x85 x86) false)) (
 (Zuh x85 x86) false)) (
 (Zuh x85 x86) false)) (
 Option.map Sum.inr (Zsh x85))
noncomputable def Zwh (x1:Scene) (x2:Edge) (x3:Int) (x11:Side):Int→Option Int
| x79=>
 loop (Zvh x1 x2 x3 x11) (x79,0)
noncomputable def Zxh (x65:Int):Int→Option ((Int×Int) ⊕ Int)
| x68=>
 some (.inl (x68,wr (x65+1)))
noncomputable def Zyh (x1:Scene) (x2:Edge) (x3:Int) (x11:Side) (x16:Side):(Int×Int)→Option ((Int×Int) ⊕ Int)
| (x64,x65)=>
 ifb (decide (x65<(ln Side.row ([x11,x16])))) (
 (at_ ([x11,x16]) x65).bind fun x66=>
 (Zjh x66).bind fun x67=>
 ifb x67 (
 (Zxh x65) (wr (x64+1))) (
 (Zxh x65) x64)) (
 Option.map Sum.inr ((Zwh x1 x2 x3 x11) x64))
noncomputable def Zzh (x1:Scene) (x2:Edge) (x3:Int) (x11:Side) (x16:Side):Bool→Option Int
| x17=>
 ifb x17 (
 some 0) (
 ifb (decide (x3=1)) (
 loop (Zrh x1 x2 x3 x11 x16) (0,0)) (
 ifb (decide (x3=2)) (
 loop (Zyh x1 x2 x3 x11 x16) (0,0)) (
 some 0)))
noncomputable def Z0i (x1:Scene) (x2:Edge) (x3:Int) (x10:Bool) (x11:Side):(Bool×Side)→Option Int
| (x15,x16)=>
 ifb (!x10) (
 (Zzh x1 x2 x3 x11 x16) true) (
 ifb (!x15) (
 (Zzh x1 x2 x3 x11 x16) true) (
 (Zzh x1 x2 x3 x11 x16) (!decide (x11.Epoch=x16.Epoch))))
noncomputable def Z1i (x1:Scene) (x2:Edge) (x3:Int):(Bool×Side)→Option Int
| (x10,x11)=>
 (at_ x1.Diners x2.B).bind fun x12=>
 (Zt7 x12 x2.A).bind fun x13=>
 (Z0i x1 x2 x3 x10 x11) (x13.2,x13.1)
noncomputable def Z2i (x1:Scene) (x2:Edge) (x3:Int):Bool→Option Int
| x6=>
 ifb x6 (
 some 0) (
 (at_ x1.Diners x2.A).bind fun x7=>
 (Zt7 x7 x2.B).bind fun x8=>
 (Z1i x1 x2 x3) (x8.2,x8.1))
noncomputable def Z3i (x1:Scene) (x2:Edge) (x3:Int):Option Int:=
 (Zyf x1 x2.A).bind fun x4=>
 ifb (!x4) (
 (Z2i x1 x2 x3) true) (
 (Zyf x1 x2.B).bind fun x5=>
 (Z2i x1 x2 x3) (!x5))
theorem k_table_Count (x1:Scene) (x2:Edge) (x3:Int) (r:Int) (h:Z3i x1 x2 x3=some r):Zp2 Tryz.prog 63 [.agg (Scene.row x1),.agg (Edge.row x2),.iv x3] (.iv r):=by
 refine Zt2 ok63 rfl rfl fun w0 H0=>?_
 rw [Z3i] at h
 refine Zk2 12 ?_;dsimp only [go_sem];refine An ?_;obtain ⟨x4,ex4,h⟩:=Bs h;refine Zy2 trivial (Zzf x1 x2.A _ ex4) (h:=?_);refine Zk2 2 ?_;dsimp only [go_sem];refine An ?_;refine Ze4 (fun (x6:Bool)=>(⟨(.any :: .any :: .iv x3 :: .ptr 0 0 :: .ptr 1 0::an 23 (.bv x6::an 106 [])),[some ⟨48,[.sl 3 (List.map Diner.row x1.Diners),.sl 5 (List.map Mail.row x1.Mail)]⟩,some ⟨30,[.iv x2.A,.iv x2.B]⟩],[]⟩:St)) (Z2i x1 x2 x3) r ?_ fun J1=>?_
 ·intro x6 h;rw [Z2i] at h;(try dsimp only);refine Zg4 h rfl (fun _ h=>?_) fun _ h=>?_
  ·refine Zk2 4 ?_;dsimp only [go_sem];refine An ?_;exact Zo4 (res:=fun (r:Int)=>.iv r) ok63 h
  ·refine Zk2 2 ?_;dsimp only [go_sem];refine An ?_;refine Ze4 (fun ((x10,x11):(Bool×Side))=>(⟨(.any :: .any :: .iv x3 :: .ptr 0 0 :: .ptr 1 0 :: .any :: .any :: .ptr 2 0 :: .bv x10::an 126 []),[some ⟨48,[.sl 3 (List.map Diner.row x1.Diners),.sl 5 (List.map Mail.row x1.Mail)]⟩,some ⟨30,[.iv x2.A,.iv x2.B]⟩,some ⟨66,[.iv x11.Peer,.iv x11.Epoch,.iv x11.State,.bv x11.Fork,.bv x11.Dirty,.bv x11.Token,.bv x11.Bottle,.bv x11.Ask]⟩],[]⟩:St)) (Z1i x1 x2 x3) r ?_ fun J2=>?_
   ·rintro ⟨x10,x11⟩ h;rw [Z1i] at h;(try dsimp only);refine Zk2 1 ?_;dsimp only [go_sem];refine An ?_
    refine Ze4 (fun ((x15,x16):(Bool×Side))=>(⟨(.any :: .any :: .iv x3 :: .ptr 0 0 :: .ptr 1 0 :: .any :: .any :: .ptr 2 0 :: .bv x10 :: .ptr 3 0 :: .bv x15::an 124 []),[some ⟨48,[.sl 3 (List.map Diner.row x1.Diners),.sl 5 (List.map Mail.row x1.Mail)]⟩,some ⟨30,[.iv x2.A,.iv x2.B]⟩,some ⟨66,[.iv x11.Peer,.iv x11.Epoch,.iv x11.State,.bv x11.Fork,.bv x11.Dirty,.bv x11.Token,.bv x11.Bottle,.bv x11.Ask]⟩,some ⟨66,[.iv x16.Peer,.iv x16.Epoch,.iv x16.State,.bv x16.Fork,.bv x16.Dirty,.bv x16.Token,.bv x16.Bottle,.bv x16.Ask]⟩],[]⟩:St)) (Z0i x1 x2 x3 x10 x11) r ?_ fun J3=>?_
    ·rintro ⟨x15,x16⟩ h;rw [Z0i] at h;(try dsimp only);refine Zk2 6 ?_;dsimp only [go_sem];refine An ?_
     refine Ze4 (fun (x17:Bool)=>(⟨(.any :: .any :: .iv x3 :: .ptr 0 0 :: .ptr 1 0 :: .any :: .any :: .ptr 2 0 :: .any :: .ptr 3 0::an 55 (.bv x17::an 69 [])),[some ⟨48,[.sl 3 (List.map Diner.row x1.Diners),.sl 5 (List.map Mail.row x1.Mail)]⟩,some ⟨30,[.iv x2.A,.iv x2.B]⟩,some ⟨66,[.iv x11.Peer,.iv x11.Epoch,.iv x11.State,.bv x11.Fork,.bv x11.Dirty,.bv x11.Token,.bv x11.Bottle,.bv x11.Ask]⟩,some ⟨66,[.iv x16.Peer,.iv x16.Epoch,.iv x16.State,.bv x16.Fork,.bv x16.Dirty,.bv x16.Token,.bv x16.Bottle,.bv x16.Ask]⟩],[]⟩:St)) (Zzh x1 x2 x3 x11 x16) r ?_ fun J4=>?_
     ·intro x17 h;rw [Zzh] at h;(try dsimp only);refine Zg4 h rfl (fun _ h=>?_) fun _ h=>?_
      ·refine Zk2 4 ?_;dsimp only [go_sem];refine An ?_;exact Zo4 (res:=fun (r:Int)=>.iv r) ok63 h
      ·refine Zk2 16 ?_;dsimp only [go_sem];refine An ?_;refine Zg4 h rfl (fun _ h=>?_) fun _ h=>?_
       ·refine Zk2 17 ?_;dsimp only [go_sem];refine An ?_;refine Ze4 (fun (x38:Int)=>(⟨(.any :: .any :: .iv x3 :: .ptr 0 0 :: .ptr 1 0 :: .any :: .any :: .ptr 2 0::an 4 (.iv x38::an 122 [])),[some ⟨48,[.sl 3 (List.map Diner.row x1.Diners),.sl 5 (List.map Mail.row x1.Mail)]⟩,some ⟨30,[.iv x2.A,.iv x2.B]⟩,some ⟨66,[.iv x11.Peer,.iv x11.Epoch,.iv x11.State,.bv x11.Fork,.bv x11.Dirty,.bv x11.Token,.bv x11.Bottle,.bv x11.Ask]⟩],[]⟩:St)) (Zph x1 x2 x3 x11) r ?_ fun J5=>?_
        ·intro x38 h;rw [Zph] at h;(try dsimp only);refine Zk2 8 ?_;dsimp only [go_sem];refine An ?_;refine Ze4 (fun (x58:Int)=>(⟨(an 12 (.iv x58::an 122 [])),[],[]⟩:St)) Zlh r ?_ fun J7=>?_
         ·intro x58 h;rw [Zlh] at h;(try dsimp only);refine Zk2 5 ?_;dsimp only [go_sem];refine An ?_;exact Zo4 (res:=fun (r:Int)=>.iv r) ok63 h
         ·refine Zk2 1 ?_;dsimp only [go_sem];refine An ?_;refine Zf4 h (fun ((x44,x45):(Int×Int))=>(⟨(.any :: .any :: .iv x3 :: .any :: .ptr 1 0 :: .any :: .any :: .ptr 2 0::an 4 (.iv x44::an 73 (.sl 5 (List.map Mail.row x1.Mail) :: .iv (ln Mail.row x1.Mail) :: .iv x45::an 46 []))),[none,some ⟨30,[.iv x2.A,.iv x2.B]⟩,some ⟨66,[.iv x11.Peer,.iv x11.Epoch,.iv x11.State,.bv x11.Fork,.bv x11.Dirty,.bv x11.Token,.bv x11.Bottle,.bv x11.Ask]⟩],[]⟩:St)) (by simp [go_sem]) (by rintro ⟨x44,x45⟩;first | rfl | simp [go_sem]) ?_
          rintro n1 ⟨x44,x45⟩ y1 h hin1 hout1;rw [Zoh] at h;(try dsimp only);refine Zk2 5 ?_;dsimp only [go_sem];refine An ?_;refine Zg4 h rfl (fun _ h=>?_) fun _ h=>?_
          ·refine Zk2 5 ?_;dsimp only [go_sem];refine An ?_;obtain ⟨x46,ex46,h⟩:=Bs h;refine Zj4 Mail.row ex46 trivial rfl rfl rfl ?_;refine Zk2 12 ?_;dsimp only [go_sem];refine An ?_
           refine Ze4 (fun (x47:Bool)=>(⟨(.any :: .any :: .iv x3 :: .any :: .ptr 1 0 :: .any :: .any :: .ptr 2 0::an 4 (.iv x44::an 73 (.sl 5 (List.map Mail.row x1.Mail) :: .iv (ln Mail.row x1.Mail) :: .iv x45::an 41 (.bv x47::an 4 [])))),[none,some ⟨30,[.iv x2.A,.iv x2.B]⟩,some ⟨66,[.iv x11.Peer,.iv x11.Epoch,.iv x11.State,.bv x11.Fork,.bv x11.Dirty,.bv x11.Token,.bv x11.Bottle,.bv x11.Ask]⟩],[]⟩:St)) (Znh x44 x45) y1 ?_ fun J8=>?_
           ·intro x47 h;rw [Znh] at h;(try dsimp only);refine Ze4 (fun (x48:Int)=>(⟨(.any :: .any :: .iv x3 :: .any :: .ptr 1 0 :: .any :: .any :: .ptr 2 0::an 4 (.iv x48::an 73 (.sl 5 (List.map Mail.row x1.Mail) :: .iv (ln Mail.row x1.Mail) :: .iv x45::an 46 []))),[none,some ⟨30,[.iv x2.A,.iv x2.B]⟩,some ⟨66,[.iv x11.Peer,.iv x11.Epoch,.iv x11.State,.bv x11.Fork,.bv x11.Dirty,.bv x11.Token,.bv x11.Bottle,.bv x11.Ask]⟩],[]⟩:St)) (Zmh x45) y1 ?_ fun J9=>?_
            ·intro x48 h;rw [Zmh] at h;(try dsimp only);refine Zk2 5 ?_;dsimp only [go_sem];refine An ?_;exact Zp4 h hin1
            ·refine Zg4 h rfl (fun _ h=>?_) fun _ h=>?_
             ·refine Zk2 5 ?_;dsimp only [go_sem];refine An ?_;exact Zq4 J9 (s:=wr (x44+1)) h
             ·refine Zk2 1 ?_;dsimp only [go_sem];refine An ?_;exact Zq4 J9 (s:=x44) h
           ·refine Zn4 97 h rfl (fun _ h=>?_) fun _ h=>?_
            ·dsimp only [go_sem];refine Zk2 8 ?_;dsimp only [go_sem];refine An ?_;refine Zn4 105 h rfl (fun _ h=>?_) fun _ h=>?_
             ·dsimp only [go_sem];refine Zk2 13 ?_;dsimp only [go_sem];refine An ?_;refine Zn4 118 h rfl (fun _ h=>?_) fun _ h=>?_
              ·dsimp only [go_sem];refine Zk2 13 ?_;dsimp only [go_sem];refine An ?_;exact Zq4 J8 (s:=decide (((max x46.From x46.To))=((max x2.A x2.B)))) h
              ·dsimp only [go_sem];refine Zk2 13 ?_;dsimp only [go_sem];refine An ?_;exact Zq4 J8 (s:=false) h
             ·dsimp only [go_sem];refine Zk2 26 ?_;dsimp only [go_sem];refine An ?_;exact Zq4 J8 (s:=false) h
            ·dsimp only [go_sem];refine Zk2 34 ?_;dsimp only [go_sem];refine An ?_;exact Zq4 J8 (s:=false) h
          ·refine Zk2 1 ?_;dsimp only [go_sem];refine An ?_;exact Zq4 J7 (s:=x44) (Zd4 h hout1)
        ·refine Zk2 1 ?_;dsimp only [go_sem];refine An ?_
         refine Zf4 h (fun ((x23,x24):(Int×Int))=>(⟨(.any :: .any :: .iv x3 :: .ptr 0 0 :: .ptr 1 0 :: .any :: .any :: .ptr 2 0::an 3 (.clo 114 [] :: .iv x23::an 60 (.osl 0 :: .iv (ln Side.row ([x11,x16])) :: .iv x24::an 59 []))),[some ⟨48,[.sl 3 (List.map Diner.row x1.Diners),.sl 5 (List.map Mail.row x1.Mail)]⟩,some ⟨30,[.iv x2.A,.iv x2.B]⟩,some ⟨66,[.iv x11.Peer,.iv x11.Epoch,.iv x11.State,.bv x11.Fork,.bv x11.Dirty,.bv x11.Token,.bv x11.Bottle,.bv x11.Ask]⟩],[some ⟨66,8,List.map Side.row ([x11,x16])⟩]⟩:St)) (by simp [go_sem]) (by rintro ⟨x23,x24⟩;first | rfl | simp [go_sem]) ?_
         rintro n1 ⟨x23,x24⟩ y1 h hin1 hout1;rw [Zrh] at h;(try dsimp only);refine Zk2 5 ?_;dsimp only [go_sem];refine An ?_;refine Zg4 h rfl (fun _ h=>?_) fun _ h=>?_
         ·refine Zk2 5 ?_;dsimp only [go_sem];refine An ?_;obtain ⟨x25,ex25,h⟩:=Bs h;refine Z85 Side.row ex25 trivial rfl rfl rfl ?_;refine Zb5 Side.row ex25 trivial rfl rfl rfl ?_;refine Zk2 7 ?_;dsimp only [go_sem];refine An ?_;obtain ⟨x26,ex26,h⟩:=Bs h;refine V_callv trivial rfl (Zih x25 _ ex26) (by kernel_rfl) (h:=?_);refine Zk2 1 ?_;dsimp only [go_sem];refine An ?_
          refine Ze4 (fun (x27:Int)=>(⟨(.any :: .any :: .iv x3 :: .ptr 0 0 :: .ptr 1 0 :: .any :: .any :: .ptr 2 0::an 3 (.clo 114 [] :: .iv x27::an 60 (.osl 0 :: .iv (ln Side.row ([x11,x16])) :: .iv x24::an 59 []))),[some ⟨48,[.sl 3 (List.map Diner.row x1.Diners),.sl 5 (List.map Mail.row x1.Mail)]⟩,some ⟨30,[.iv x2.A,.iv x2.B]⟩,some ⟨66,[.iv x11.Peer,.iv x11.Epoch,.iv x11.State,.bv x11.Fork,.bv x11.Dirty,.bv x11.Token,.bv x11.Bottle,.bv x11.Ask]⟩],[some ⟨66,8,List.map Side.row ([x11,x16])⟩]⟩:St)) (Zqh x24) y1 ?_ fun J6=>?_
          ·intro x27 h;rw [Zqh] at h;(try dsimp only);refine Zk2 5 ?_;dsimp only [go_sem];refine An ?_;exact Zp4 h hin1
          ·refine Zg4 h rfl (fun _ h=>?_) fun _ h=>?_
           ·refine Zk2 5 ?_;dsimp only [go_sem];refine An ?_;exact Zq4 J6 (s:=wr (x23+1)) h
           ·refine Zk2 1 ?_;dsimp only [go_sem];refine An ?_;exact Zq4 J6 (s:=x23) h
         ·refine Zk2 1 ?_;dsimp only [go_sem];refine An ?_;exact Zq4 J5 (s:=x23) (Zd4 h hout1)
       ·refine Zk2 5 ?_;dsimp only [go_sem];refine An ?_;refine Zg4 h rfl (fun _ h=>?_) fun _ h=>?_
        ·refine Zk2 17 ?_;dsimp only [go_sem];refine An ?_;refine Ze4 (fun (x79:Int)=>(⟨(.any :: .any :: .iv x3 :: .ptr 0 0 :: .ptr 1 0 :: .any :: .any :: .ptr 2 0::an 4 (.iv x79::an 122 [])),[some ⟨48,[.sl 3 (List.map Diner.row x1.Diners),.sl 5 (List.map Mail.row x1.Mail)]⟩,some ⟨30,[.iv x2.A,.iv x2.B]⟩,some ⟨66,[.iv x11.Peer,.iv x11.Epoch,.iv x11.State,.bv x11.Fork,.bv x11.Dirty,.bv x11.Token,.bv x11.Bottle,.bv x11.Ask]⟩],[]⟩:St)) (Zwh x1 x2 x3 x11) r ?_ fun J10=>?_
         ·intro x79 h;rw [Zwh] at h;(try dsimp only);refine Zk2 8 ?_;dsimp only [go_sem];refine An ?_;refine Ze4 (fun (x99:Int)=>(⟨(an 12 (.iv x99::an 122 [])),[],[]⟩:St)) Zsh r ?_ fun J12=>?_
          ·intro x99 h;rw [Zsh] at h;(try dsimp only);refine Zk2 5 ?_;dsimp only [go_sem];refine An ?_;exact Zo4 (res:=fun (r:Int)=>.iv r) ok63 h
          ·refine Zk2 1 ?_;dsimp only [go_sem];refine An ?_;refine Zf4 h (fun ((x85,x86):(Int×Int))=>(⟨(.any :: .any :: .iv x3 :: .any :: .ptr 1 0 :: .any :: .any :: .ptr 2 0::an 4 (.iv x85::an 73 (.sl 5 (List.map Mail.row x1.Mail) :: .iv (ln Mail.row x1.Mail) :: .iv x86::an 46 []))),[none,some ⟨30,[.iv x2.A,.iv x2.B]⟩,some ⟨66,[.iv x11.Peer,.iv x11.Epoch,.iv x11.State,.bv x11.Fork,.bv x11.Dirty,.bv x11.Token,.bv x11.Bottle,.bv x11.Ask]⟩],[]⟩:St)) (by simp [go_sem]) (by rintro ⟨x85,x86⟩;first | rfl | simp [go_sem]) ?_
           rintro n1 ⟨x85,x86⟩ y1 h hin1 hout1;rw [Zvh] at h;(try dsimp only);refine Zk2 5 ?_;dsimp only [go_sem];refine An ?_;refine Zg4 h rfl (fun _ h=>?_) fun _ h=>?_
           ·refine Zk2 5 ?_;dsimp only [go_sem];refine An ?_;obtain ⟨x87,ex87,h⟩:=Bs h;refine Zj4 Mail.row ex87 trivial rfl rfl rfl ?_;refine Zk2 12 ?_;dsimp only [go_sem];refine An ?_
            refine Ze4 (fun (x88:Bool)=>(⟨(.any :: .any :: .iv x3 :: .any :: .ptr 1 0 :: .any :: .any :: .ptr 2 0::an 4 (.iv x85::an 73 (.sl 5 (List.map Mail.row x1.Mail) :: .iv (ln Mail.row x1.Mail) :: .iv x86::an 41 (.bv x88::an 4 [])))),[none,some ⟨30,[.iv x2.A,.iv x2.B]⟩,some ⟨66,[.iv x11.Peer,.iv x11.Epoch,.iv x11.State,.bv x11.Fork,.bv x11.Dirty,.bv x11.Token,.bv x11.Bottle,.bv x11.Ask]⟩],[]⟩:St)) (Zuh x85 x86) y1 ?_ fun J13=>?_
            ·intro x88 h;rw [Zuh] at h;(try dsimp only);refine Ze4 (fun (x89:Int)=>(⟨(.any :: .any :: .iv x3 :: .any :: .ptr 1 0 :: .any :: .any :: .ptr 2 0::an 4 (.iv x89::an 73 (.sl 5 (List.map Mail.row x1.Mail) :: .iv (ln Mail.row x1.Mail) :: .iv x86::an 46 []))),[none,some ⟨30,[.iv x2.A,.iv x2.B]⟩,some ⟨66,[.iv x11.Peer,.iv x11.Epoch,.iv x11.State,.bv x11.Fork,.bv x11.Dirty,.bv x11.Token,.bv x11.Bottle,.bv x11.Ask]⟩],[]⟩:St)) (Zth x86) y1 ?_ fun J14=>?_
             ·intro x89 h;rw [Zth] at h;(try dsimp only);refine Zk2 5 ?_;dsimp only [go_sem];refine An ?_;exact Zp4 h hin1
             ·refine Zg4 h rfl (fun _ h=>?_) fun _ h=>?_
              ·refine Zk2 5 ?_;dsimp only [go_sem];refine An ?_;exact Zq4 J14 (s:=wr (x85+1)) h
              ·refine Zk2 1 ?_;dsimp only [go_sem];refine An ?_;exact Zq4 J14 (s:=x85) h
            ·refine Zn4 97 h rfl (fun _ h=>?_) fun _ h=>?_
             ·dsimp only [go_sem];refine Zk2 8 ?_;dsimp only [go_sem];refine An ?_;refine Zn4 105 h rfl (fun _ h=>?_) fun _ h=>?_
              ·dsimp only [go_sem];refine Zk2 13 ?_;dsimp only [go_sem];refine An ?_;refine Zn4 118 h rfl (fun _ h=>?_) fun _ h=>?_
               ·dsimp only [go_sem];refine Zk2 13 ?_;dsimp only [go_sem];refine An ?_;exact Zq4 J13 (s:=decide (((max x87.From x87.To))=((max x2.A x2.B)))) h
               ·dsimp only [go_sem];refine Zk2 13 ?_;dsimp only [go_sem];refine An ?_;exact Zq4 J13 (s:=false) h
              ·dsimp only [go_sem];refine Zk2 26 ?_;dsimp only [go_sem];refine An ?_;exact Zq4 J13 (s:=false) h
             ·dsimp only [go_sem];refine Zk2 34 ?_;dsimp only [go_sem];refine An ?_;exact Zq4 J13 (s:=false) h
           ·refine Zk2 1 ?_;dsimp only [go_sem];refine An ?_;exact Zq4 J12 (s:=x85) (Zd4 h hout1)
         ·refine Zk2 1 ?_;dsimp only [go_sem];refine An ?_
          refine Zf4 h (fun ((x64,x65):(Int×Int))=>(⟨(.any :: .any :: .iv x3 :: .ptr 0 0 :: .ptr 1 0 :: .any :: .any :: .ptr 2 0::an 3 (.clo 115 [] :: .iv x64::an 60 (.osl 0 :: .iv (ln Side.row ([x11,x16])) :: .iv x65::an 59 []))),[some ⟨48,[.sl 3 (List.map Diner.row x1.Diners),.sl 5 (List.map Mail.row x1.Mail)]⟩,some ⟨30,[.iv x2.A,.iv x2.B]⟩,some ⟨66,[.iv x11.Peer,.iv x11.Epoch,.iv x11.State,.bv x11.Fork,.bv x11.Dirty,.bv x11.Token,.bv x11.Bottle,.bv x11.Ask]⟩],[some ⟨66,8,List.map Side.row ([x11,x16])⟩]⟩:St)) (by simp [go_sem]) (by rintro ⟨x64,x65⟩;first | rfl | simp [go_sem]) ?_
          rintro n1 ⟨x64,x65⟩ y1 h hin1 hout1;rw [Zyh] at h;(try dsimp only);refine Zk2 5 ?_;dsimp only [go_sem];refine An ?_;refine Zg4 h rfl (fun _ h=>?_) fun _ h=>?_
          ·refine Zk2 5 ?_;dsimp only [go_sem];refine An ?_;obtain ⟨x66,ex66,h⟩:=Bs h;refine Z85 Side.row ex66 trivial rfl rfl rfl ?_;refine Zb5 Side.row ex66 trivial rfl rfl rfl ?_;refine Zk2 7 ?_;dsimp only [go_sem];refine An ?_;obtain ⟨x67,ex67,h⟩:=Bs h;refine V_callv trivial rfl (Zkh x66 _ ex67) (by kernel_rfl) (h:=?_);refine Zk2 1 ?_;dsimp only [go_sem];refine An ?_
           refine Ze4 (fun (x68:Int)=>(⟨(.any :: .any :: .iv x3 :: .ptr 0 0 :: .ptr 1 0 :: .any :: .any :: .ptr 2 0::an 3 (.clo 115 [] :: .iv x68::an 60 (.osl 0 :: .iv (ln Side.row ([x11,x16])) :: .iv x65::an 59 []))),[some ⟨48,[.sl 3 (List.map Diner.row x1.Diners),.sl 5 (List.map Mail.row x1.Mail)]⟩,some ⟨30,[.iv x2.A,.iv x2.B]⟩,some ⟨66,[.iv x11.Peer,.iv x11.Epoch,.iv x11.State,.bv x11.Fork,.bv x11.Dirty,.bv x11.Token,.bv x11.Bottle,.bv x11.Ask]⟩],[some ⟨66,8,List.map Side.row ([x11,x16])⟩]⟩:St)) (Zxh x65) y1 ?_ fun J11=>?_
           ·intro x68 h;rw [Zxh] at h;(try dsimp only);refine Zk2 5 ?_;dsimp only [go_sem];refine An ?_;exact Zp4 h hin1
           ·refine Zg4 h rfl (fun _ h=>?_) fun _ h=>?_
            ·refine Zk2 5 ?_;dsimp only [go_sem];refine An ?_;exact Zq4 J11 (s:=wr (x64+1)) h
            ·refine Zk2 1 ?_;dsimp only [go_sem];refine An ?_;exact Zq4 J11 (s:=x64) h
          ·refine Zk2 1 ?_;dsimp only [go_sem];refine An ?_;exact Zq4 J10 (s:=x64) (Zd4 h hout1)
        ·refine Zk2 4 ?_;dsimp only [go_sem];refine An ?_;exact Zo4 (res:=fun (r:Int)=>.iv r) ok63 h
     ·refine Zn4 55 h rfl (fun _ h=>?_) fun _ h=>?_
      ·dsimp only [go_sem];refine Zk2 11 ?_;dsimp only [go_sem];refine An ?_;exact Zq4 J4 (s:=true) h
      ·dsimp only [go_sem];refine Zk2 4 ?_;dsimp only [go_sem];refine An ?_;refine Zn4 59 h rfl (fun _ h=>?_) fun _ h=>?_
       ·dsimp only [go_sem];refine Zk2 7 ?_;dsimp only [go_sem];refine An ?_;exact Zq4 J4 (s:=true) h
       ·dsimp only [go_sem];refine Zk2 7 ?_;dsimp only [go_sem];refine An ?_;exact Zq4 J4 (s:=!decide (x11.Epoch=x16.Epoch)) h
    ·refine Zf3 (by kernel_rfl) fun all hall hs hnap haf=>?_;dsimp only [go_sem];refine Z65 hall hs haf hnap 6 9 [4,2,2,7] [(42,[.ptr 0 0,.sl 3 (List.map Diner.row x1.Diners),.ptr 1 1,.iv x2.B]),(2,[.ptr 1 0,.iv x2.A])] (by kernel_rfl) ?_;dsimp only [go_sem];obtain ⟨x12,ex12,h⟩:=Bs h;refine Zk4 hall hs haf hnap 4 Diner.row ex12 rfl rfl trivial rfl rfl rfl rfl ?_;refine Z55 hall hs haf hnap 1 7 ?_;dsimp only [go_sem];refine An ?_;obtain ⟨x13,ex13,h⟩:=Bs h;refine Zr3 8 12 rfl ?_ ?_
     ·refine Zw3 hall rfl trivial (Zu7 x12 x2.A _ ex13) (h:=?_);dsimp only [go_sem];refine Z55 hall hs haf hnap 3 3 ?_;dsimp only [go_sem];refine An ?_;refine Zq3 12 rfl ?_;refine Zv3 hall rfl trivial ?_;dsimp only [go_sem];refine Zq3 13 rfl ?_;refine Zv3 hall rfl trivial ?_;dsimp only [go_sem];refine Z55 hall hs haf hnap 1 0 ?_;dsimp only [go_sem];refine An ?_;refine Zp3 rfl ?_ _;exact Zq4 J3 (s:=(x13.2,x13.1)) h
     ·refine Zv3 hall rfl trivial ?_;dsimp only [go_sem];refine Zq3 8 rfl ?_;refine Zw3 hall rfl trivial (Zu7 x12 x2.A _ ex13) (h:=?_);dsimp only [go_sem];refine Z55 hall hs haf hnap 3 2 ?_;dsimp only [go_sem];refine An ?_;refine Zq3 13 rfl ?_;refine Zv3 hall rfl trivial ?_;dsimp only [go_sem];refine Z55 hall hs haf hnap 1 0 ?_;dsimp only [go_sem];refine An ?_;refine Zp3 rfl ?_ _;exact Zq4 J3 (s:=(x13.2,x13.1)) h
   ·refine Zf3 (by kernel_rfl) fun all hall hs hnap haf=>?_;dsimp only [go_sem];refine Z65 hall hs haf hnap 6 9 [4,2,2,7] [(30,[.ptr 0 0,.sl 3 (List.map Diner.row x1.Diners),.ptr 1 0,.iv x2.A]),(2,[.ptr 1 1,.iv x2.B])] (by kernel_rfl) ?_;dsimp only [go_sem];obtain ⟨x7,ex7,h⟩:=Bs h;refine Zk4 hall hs haf hnap 4 Diner.row ex7 rfl rfl trivial rfl rfl rfl rfl ?_;refine Z55 hall hs haf hnap 1 7 ?_;dsimp only [go_sem];refine An ?_;obtain ⟨x8,ex8,h⟩:=Bs h;refine Zr3 8 12 rfl ?_ ?_
    ·refine Zw3 hall rfl trivial (Zu7 x7 x2.B _ ex8) (h:=?_);dsimp only [go_sem];refine Z55 hall hs haf hnap 3 3 ?_;dsimp only [go_sem];refine An ?_;refine Zq3 12 rfl ?_;refine Zv3 hall rfl trivial ?_;dsimp only [go_sem];refine Zq3 13 rfl ?_;refine Zv3 hall rfl trivial ?_;dsimp only [go_sem];refine Z55 hall hs haf hnap 1 0 ?_;dsimp only [go_sem];refine An ?_;refine Zp3 rfl ?_ _;exact Zq4 J2 (s:=(x8.2,x8.1)) h
    ·refine Zv3 hall rfl trivial ?_;dsimp only [go_sem];refine Zq3 8 rfl ?_;refine Zw3 hall rfl trivial (Zu7 x7 x2.B _ ex8) (h:=?_);dsimp only [go_sem];refine Z55 hall hs haf hnap 3 2 ?_;dsimp only [go_sem];refine An ?_;refine Zq3 13 rfl ?_;refine Zv3 hall rfl trivial ?_;dsimp only [go_sem];refine Z55 hall hs haf hnap 1 0 ?_;dsimp only [go_sem];refine An ?_;refine Zp3 rfl ?_ _;exact Zq4 J2 (s:=(x8.2,x8.1)) h
 ·refine Zn4 22 h rfl (fun _ h=>?_) fun _ h=>?_
  ·dsimp only [go_sem];refine Zk2 7 ?_;dsimp only [go_sem];refine An ?_;exact Zq4 J1 (s:=true) h
  ·dsimp only [go_sem];refine Zk2 3 ?_;dsimp only [go_sem];refine An ?_;obtain ⟨x5,ex5,h⟩:=Bs h;refine Zy2 trivial (Zzf x1 x2.B _ ex5) (h:=?_);refine Zk2 3 ?_;dsimp only [go_sem];refine An ?_;exact Zq4 J1 (s:=!x5) h
set_option maxRecDepth 100000
set_option maxHeartbeats 4000000
def mailB (e:Edge) (k ep:Int) (m:Mail):Bool:=decide (m.Msg.Kind=k)&&(decide (m.Msg.Epoch=ep)&&(decide (min m.From m.To=min e.A e.B)&&decide (max m.From m.To=max e.A e.B)))
def Z4i (M:List Mail) (e:Edge) (k ep:Int):Nat:=M.countP (mailB e k ep)
theorem Z5i (M:List Mail) (m:Mail) (e:Edge) (k ep:Int):Z4i (M++[m]) e k ep=Z4i M e k ep+bn (mailB e k ep m):=by
 unfold Z4i
 rw [List.countP_append,List.countP_cons]
 cases mailB e k ep m<;>simp [bn]
theorem Z6i (M:List Mail) (e:Edge) (k ep:Int):Z4i M e k ep≤M.length:=List.countP_le_length
theorem s_countL2 (s:Scene) (e:Edge) (k:Int) (x:Side) (n:Nat) (hn:n≤2) (hM:s.Mail.length≤900000):loop (Zoh s e k x) ((n:Int),0)=some ((n+Z4i s.Mail e k x.Epoch:Nat):Int):=by
 have key:=Z68 s.Mail (Zoh s e k x) (fun pre=>(((n+Z4i pre e k x.Epoch:Nat):Int),(pre.length:Int))) ((n+Z4i s.Mail e k x.Epoch:Nat):Int) (fun pre m post h=>?_) ?_
 ·exact key
 ·have hx:=Z78 h
  have hm:=Z88 h
  have hc:=Z6i pre e k x.Epoch
  dsimp only [Zoh]
  rw [Z66 hx,Z06,Z46 hx,Option.bind_some,Z5i,Zc8]
  have step:∀z,Znh ((n+Z4i pre e k x.Epoch:Nat):Int) (pre.length:Int) z=some (.inl (((n+(Z4i pre e k x.Epoch+bn z):Nat):Int),((pre.length+1:Nat):Int))):=fun z=>by
   cases z with
   | true=>dsimp only [Znh,Zmh];rw [Z06,Z86 (by omega),Z86 (by omega)];rfl
   | false=>dsimp only [Znh,Zmh];rw [Z16,Z86 (by omega)];rfl
  unfold mailB
  cases h1:decide (m.Msg.Kind=k) with
  | false=>rw [Z16,step,Bool.false_and]
  | true=>
    cases h2:decide (m.Msg.Epoch=x.Epoch) with
    | false=>rw [Z06,Z16,step,Bool.true_and,Bool.false_and]
    | true=>
      cases h3:decide (min m.From m.To=min e.A e.B) with
      | false=>rw [Z06,Z06,Z16,step,Bool.true_and,Bool.true_and,Bool.false_and]
      | true=>rw [Z06,Z06,Z06,step,Bool.true_and,Bool.true_and,Bool.true_and]
 ·dsimp only [Zoh]
  rw [Z76,Z16];rfl
theorem s_countL4 (s:Scene) (e:Edge) (k:Int) (x:Side) (n:Nat) (hn:n≤2) (hM:s.Mail.length≤900000):loop (Zvh s e k x) ((n:Int),0)=some ((n+Z4i s.Mail e k x.Epoch:Nat):Int):=by
 have key:=Z68 s.Mail (Zvh s e k x) (fun pre=>(((n+Z4i pre e k x.Epoch:Nat):Int),(pre.length:Int))) ((n+Z4i s.Mail e k x.Epoch:Nat):Int) (fun pre m post h=>?_) ?_
 ·exact key
 ·have hx:=Z78 h
  have hm:=Z88 h
  have hc:=Z6i pre e k x.Epoch
  dsimp only [Zvh]
  rw [Z66 hx,Z06,Z46 hx,Option.bind_some,Z5i,Zc8]
  have step:∀z,Zuh ((n+Z4i pre e k x.Epoch:Nat):Int) (pre.length:Int) z=some (.inl (((n+(Z4i pre e k x.Epoch+bn z):Nat):Int),((pre.length+1:Nat):Int))):=fun z=>by
   cases z with
   | true=>dsimp only [Zuh,Zth];rw [Z06,Z86 (by omega),Z86 (by omega)];rfl
   | false=>dsimp only [Zuh,Zth];rw [Z16,Z86 (by omega)];rfl
  unfold mailB
  cases h1:decide (m.Msg.Kind=k) with
  | false=>rw [Z16,step,Bool.false_and]
  | true=>
    cases h2:decide (m.Msg.Epoch=x.Epoch) with
    | false=>rw [Z06,Z16,step,Bool.true_and,Bool.false_and]
    | true=>
      cases h3:decide (min m.From m.To=min e.A e.B) with
      | false=>rw [Z06,Z06,Z16,step,Bool.true_and,Bool.true_and,Bool.false_and]
      | true=>rw [Z06,Z06,Z06,step,Bool.true_and,Bool.true_and,Bool.true_and]
 ·dsimp only [Zvh]
  rw [Z76,Z16];rfl
theorem s_countS1 (s:Scene) (e:Edge) (k:Int) (x y:Side):loop (Zrh s e k x y) (0,0)=Zph s e k x ((bn x.Fork+bn y.Fork:Nat):Int):=by
 have ef:(([x,y].countP (·.Fork):Nat):Int)=((bn x.Fork+bn y.Fork:Nat):Int):=by
  rw [List.countP_cons,List.countP_cons,List.countP_nil]
  cases x.Fork<;>cases y.Fork<;>rfl
 rw [←ef]
 refine Z58 [x,y] (Zrh s e k x y) (fun pre=>(((pre.countP (·.Fork):Nat):Int),(pre.length:Int))) (fun _ _=>Zph s e k x (([x,y].countP (·.Fork):Nat):Int)) (fun pre z post h=>.inl ⟨?_,rfl⟩) ?_
 ·have hx:=Z78 h
  have hm:=Z88 h
  have h2:pre.length<2:=hm
  have hc:pre.countP (·.Fork)≤pre.length:=List.countP_le_length
  dsimp only [Zrh,Zhh,Zqh]
  rw [Z66 hx,Z06,Z46 hx,Option.bind_some,Option.bind_some,Zc8,List.countP_append,List.countP_cons,List.countP_nil,Z86 (by omega),Z86 (by omega)]
  cases z.Fork<;>rfl
 ·dsimp only [Zrh]
  rw [Z76,Z16]
theorem s_countS3 (s:Scene) (e:Edge) (k:Int) (x y:Side):loop (Zyh s e k x y) (0,0)=Zwh s e k x ((bn x.Token+bn y.Token:Nat):Int):=by
 have ef:(([x,y].countP (·.Token):Nat):Int)=((bn x.Token+bn y.Token:Nat):Int):=by
  rw [List.countP_cons,List.countP_cons,List.countP_nil]
  cases x.Token<;>cases y.Token<;>rfl
 rw [←ef]
 refine Z58 [x,y] (Zyh s e k x y) (fun pre=>(((pre.countP (·.Token):Nat):Int),(pre.length:Int))) (fun _ _=>Zwh s e k x (([x,y].countP (·.Token):Nat):Int)) (fun pre z post h=>.inl ⟨?_,rfl⟩) ?_
 ·have hx:=Z78 h
  have hm:=Z88 h
  have h2:pre.length<2:=hm
  have hc:pre.countP (·.Token)≤pre.length:=List.countP_le_length
  dsimp only [Zyh,Zjh,Zxh]
  rw [Z66 hx,Z06,Z46 hx,Option.bind_some,Option.bind_some,Zc8,List.countP_append,List.countP_cons,List.countP_nil,Z86 (by omega),Z86 (by omega)]
  cases z.Token<;>rfl
 ·dsimp only [Zyh]
  rw [Z76,Z16]
def countS (s:Scene) (e:Edge) (k:Int):Nat:=
 if Z6h s e.A&&Z6h s e.B then
  match s.Diners[e.A.toNat]?,s.Diners[e.B.toNat]? with
  | some da,some db=>match Zi8 da e.B,Zi8 db e.A with
    | some x,some y=>if decide (x.Epoch=y.Epoch)&&(decide (k=1)||decide (k=2)) then bn (has x k)+bn (has y k)+Z4i s.Mail e k x.Epoch else 0
    | _,_=>0
  | _,_=>0
 else 0
theorem s_Count (s:Scene) (e:Edge) (k:Int) (hD:fewD s.Diners) (hM:s.Mail.length≤900000):Z3i s e k=some (countS s e k:Int):=by
 simp only [Z3i,s_there,Option.bind_some]
 unfold countS
 cases ha:Z6h s e.A with
 | false=>rfl
 | true=>
   cases hb:Z6h s e.B with
   | false=>rfl
   | true=>
     obtain ⟨da,a1,a2⟩:=there_at ha
     obtain ⟨db,b1,b2⟩:=there_at hb
     have la:=hD.2 da (List.mem_iff_getElem?.2 ⟨_,a2⟩)
     have lb:=hD.2 db (List.mem_iff_getElem?.2 ⟨_,b2⟩)
     simp only [Bool.not_true,Z16,Z2i,a1,a2,b1,b2,Option.bind_some,Z1i,s_Side da e.B (by omega),s_Side db e.A (by omega),Bool.and_self,if_true,Z0i]
     cases hx:Zi8 da e.B with
     | none=>rfl
     | some x=>
       cases hy:Zi8 db e.A with
       | none=>rfl
       | some y=>
         simp only [sideP,Bool.not_true,Z16,Zzh]
         by_cases he:x.Epoch=y.Epoch
         ·by_cases h1:k=1
          ·subst h1
           have n2:bn x.Fork+bn y.Fork≤2:=by cases x.Fork<;>cases y.Fork<;>decide
           simp only [decide_true,Z06,s_countS1,Zph,s_countL2 s e 1 x _ n2 hM]
           simp [he,has]
          ·by_cases h2:k=2
           ·subst h2
            have n2:bn x.Token+bn y.Token≤2:=by cases x.Token<;>cases y.Token<;>decide
            simp only [Z16,show decide ((2:Int)=1)=false from rfl,decide_true,Z06,s_countS3,Zwh,s_countL4 s e 2 x _ n2 hM]
            simp [he,has]
           ·simp [he,h1,h2]
         ·simp [he]
theorem Inv.first {g:Graph} (hg:okG g=true):Inv g (Zfh g):=Inv.init hg (Zeh hg).1
theorem Inv.get {g:Graph} {s:Scene} (h:Inv g s) {a:Int} (h0:0≤a) (h1:a<g.N):∃d,s.Diners[a.toNat]?=some d:=by
 have:=h.len
 exact ⟨_,List.getElem?_eq_getElem (by omega)⟩
set_option maxRecDepth 100000
set_option maxHeartbeats 4000000
@[go_sem] def e76:EC:=.seq (.reg [(Qx 2 63 5 0),(Qa 3 (.alloc 63 [.iv 0,.iv 0,.nl,.iv 0,.nl])),(Qi 4 0)]) (.seq (.reg [(Qe 5 5 2),(Ql 6 1),(Qa 7 (.call 77 [(.t 5),(.t 6)])),(Qa 8 (.ext (.t 7) 0)),(Qa 9 (.ext (.t 7) 1)),(Qs 5 3 8),(Qm 4 9)]) (.ret))
theorem ok76:FnOK Tryz.prog 76 Tryz.f76 e76 [.c 3 (some 5),.t 4] 2 8:=⟨by kernel_rfl,⟨_,rfl,by kernel_rfl⟩,by kernel_rfl,by kernel_rfl⟩
noncomputable def Z7i (x1:Drinker) (x2:(List Int)):Option (Drinker×Int):=
 (Zef x1 x2).bind fun x3=>
 some (x3.1,x3.2)
theorem k_bar_Open_1 (x1:Drinker) (x2:(List Int)) (r:(Drinker×Int)) (h:Z7i x1 x2=some r):Zp2 Tryz.prog 76 [.agg (Drinker.row x1),.elt ((Zv4 1 Zu4) x2) 0] (.tup [.agg (Drinker.row r.1),.iv r.2]):=by
 refine Zt2 ok76 rfl rfl fun w0 H0=>?_
 rw [Z7i] at h
 refine Zk2 10 ?_;dsimp only [go_sem];refine An ?_;obtain ⟨x3,ex3,h⟩:=Bs h;refine Zy2 trivial (k_drink_Open x1 x2 _ ex3) (h:=?_);refine Zk2 5 ?_;dsimp only [go_sem];refine An ?_;exact Zo4 (res:=fun (r:(Drinker×Int))=>.tup [.agg (Drinker.row r.1),.iv r.2]) ok76 h
end NX
end Go.Proofs.YtacfbmldajmjiaaGreat
