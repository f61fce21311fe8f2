/-
  The function narthex/narthexlaw16.BarOthers: its code compiled, a model, and that the code answers as the model. Written by a program of ours (lb.py). No statement of the seat is proved here.
-/
import Derived.KernelRfl
import Derived.Test.YtacfbmldajmjiaaGreatT5
import Derived.Test.YtacfbmldajmjiaaGreatT1
namespace Go.Proofs.YtacfbmldajmjiaaGreat
namespace NX
open Go
set_option maxRecDepth 100000
set_option maxHeartbeats 4000000
def Zup:EC:=.seq (.seq (.reg [(Qa 47 (.mv (.t 8))),(Qa 48 (.fld 0 (.t 2))),(Qa 49 (.load (.t 48))),(Qa 50 (.len (.t 49))),(Qa 51 (.bin .lss (.t 47) (.t 50)))]) (.ite (.t 51) (.skip) (.exit 0))) (.seq (.blk 1 (.seq (.drw [(Qa 54 (.mv (.t 8))),(Qa 55 (.mv (.t 7))),(Qa 56 (.bin .neq (.t 54) (.t 55))),(Qa 57 (.mv (.t 56))),(Qg 58 57 true (.mv (.t 8))),(Qg 59 57 true (.fld 0 (.t 5))),(Qg 60 57 true (.load (.t 59))),(Qg 61 57 true (.len (.t 60))),(Qg 62 57 true (.bin .geq (.t 58) (.t 61))),(Qg 63 57 true (.mv (.t 62))),(Qg 64 63 false (.fld 0 (.t 2))),(Qg 65 63 false (.load (.t 64))),(Qg 66 63 false (.mv (.t 8))),(Qg 67 63 false (.idx 5 (.t 65) (.t 66))),(Qg 68 63 false (.loadA 5 (.t 67))),(Qg 69 63 false (.fld 0 (.t 5))),(Qg 70 63 false (.load (.t 69))),(Qg 71 63 false (.mv (.t 8))),(Qg 72 63 false (.idx 5 (.t 70) (.t 71))),(Qg 73 63 false (.loadA 5 (.t 72))),(Qg 74 63 false (.call 44 [(.t 68),(.t 73)])),(Qg 75 63 false (.not (.t 74))),(Qg 76 57 true (.pick (.t 63) (.c .tt) (.t 75))),(Qa 77 (.pick (.t 57) (.t 76) (.c .ff)))] [[],[],[0,1],[2],[3],[3],[5,3],[6,3],[4,7,3],[8,3,3],[9],[10,9],[9],[11,12,9],[13,9],[9],[15,9],[9],[16,17,9],[18,9],[14,19,9,9],[20,9],[9,21,3],[3,22]] [[2],[2],[0,1,3],[2,4,5,6,7,8,9,22,23],[3,8],[3,6],[3,5,7],[3,6,8],[3,4,7,9],[3,8,10,11,12,13,14,15,16,17,18,19,20,21,22],[9,11],[9,10,13],[9,13],[9,11,12,14],[9,13,20],[9,16],[9,15,18],[9,18],[9,16,17,19],[9,18,20],[9,14,19,21],[9,20,22],[3,9,21,23],[3,22]]) (.ite (.t 77) (.seq (.reg [(Qa 4 (.mv (.c .ff)))]) (.ret)) (.skip)))) (.reg [(Qa 52 (.mv (.t 8))),(Qa 53 (.bin .add (.t 52) (.c (.iv 1)))),(Qa 8 (.mv (.t 53)))]))
def e9:EC:=.seq (.reg [(Qa 2 (.box 25 2 (.t 0))),(Qa 3 (.box 28 4 (.t 1))),(Qa 4 (.mv (.c .ff)))]) (.seq (.seq (.reg [(Qa 9 (.call 11 [])),(Qa 10 (.not (.t 9))),(Qa 11 (.mv (.t 10))),(Qg 12 11 false (.loadA 2 (.t 2))),(Qg 13 11 false (.call 12 [(.t 12)])),(Qg 14 11 false (.not (.t 13))),(Qa 15 (.pick (.t 11) (.c .tt) (.t 14))),(Qa 16 (.mv (.t 15))),(Qg 17 16 false (.fld 3 (.t 3))),(Qg 18 16 false (.load (.t 17))),(Qg 19 16 false (.len (.t 18))),(Qg 20 16 false (.bin .gtr (.t 19) (.c (.iv 24)))),(Qa 21 (.pick (.t 16) (.c .tt) (.t 20)))]) (.ite (.t 21) (.seq (.reg [(Qa 22 (.call 11 [])),(Qa 4 (.mv (.t 22)))]) (.ret)) (.skip))) (.seq (.reg [(Qa 23 (.fld 0 (.t 3))),(Qa 24 (.load (.t 23))),(Qa 25 (.mm true [(.t 24),(.c (.iv 0))])),(Qa 26 (.mm false [(.t 25),(.c (.iv 2))])),(Qa 27 (.fld 0 (.t 3))),(Qb (.store 1 (.t 27) (.t 26)))]) (.seq (.drw [(Qa 29 (.loadA 2 (.t 2))),(Qa 30 (.call 14 [(.t 29)])),(Qa 31 (.loadA 4 (.t 3))),(Qa 32 (.call 13 [(.t 30),(.t 31)])),(Qa 28 (.mv (.t 32))),(Qa 33 (.ext (.t 28) 0)),(Qa 34 (.ext (.t 28) 1)),(Qa 5 (.alloc 25 [.nl,.nl])),(Qb (.store 2 (.t 5) (.t 33))),(Qa 6 (.mv (.t 34)))] [[],[0],[],[1,2,1],[3],[4],[4],[],[7,5,3,0,1,2,3,4,5,7],[6,8,0,1,2,3,4,5,6,7,8]] [[1],[0,3],[3],[1,2,4],[3,5,6],[4,8],[4,9],[8],[5,7],[6]]) (.seq (.seq (.reg [(Qa 35 (.mv (.t 6))),(Qa 36 (.bin .neq (.t 35) (.c (.iv 0))))]) (.ite (.t 36) (.seq (.reg [(Qa 37 (.loadA 2 (.t 5))),(Qa 38 (.build [.nl,.nl] [])),(Qa 39 (.call 16 [(.t 37),(.t 38)])),(Qa 4 (.mv (.t 39)))]) (.ret)) (.skip))) (.seq (.reg [(Qa 40 (.fld 1 (.t 3))),(Qa 41 (.load (.t 40))),(Qa 7 (.mv (.t 41)))]) (.seq (.seq (.reg [(Qa 42 (.fld 0 (.t 3))),(Qa 43 (.load (.t 42))),(Qa 44 (.bin .eql (.t 43) (.c (.iv 2))))]) (.ite (.t 44) (.reg [(Qa 45 (.fld 2 (.t 3))),(Qa 46 (.load (.t 45))),(Qa 7 (.mv (.t 46)))]) (.skip))) (.seq (.seq (.reg [(Qa 8 (.mv (.c (.iv 0))))]) (.blk 0 (.loop Zup))) (.seq (.reg [(Qa 78 (.fld 0 (.t 5))),(Qa 79 (.load (.t 78))),(Qa 80 (.len (.t 79))),(Qa 81 (.fld 0 (.t 2))),(Qa 82 (.load (.t 81))),(Qa 83 (.len (.t 82))),(Qa 84 (.bin .eql (.t 80) (.t 83))),(Qa 4 (.mv (.t 84)))]) (.ret)))))))))
theorem ok9:FnOK Tryz.prog 9 Tryz.f9 e9 [.t 4] 2 83:=⟨by kernel_rfl,⟨_,rfl,by kernel_rfl⟩,by kernel_rfl,by kernel_rfl⟩
noncomputable def Zvp (x1:Bar) (x12:Bar):Unit→Option Bool
| ()=>
 some (decide ((ln Drinker.row x12.Drinkers)=(ln Drinker.row x1.Drinkers)))
noncomputable def Zwp (x20:Int):Bool→Option (Int ⊕ Bool)
| x24=>
 ifb x24 (
 Option.map Sum.inr (some false)) (
 some (.inl (wr (x20+1))))
noncomputable def Zxp (x1:Bar) (x12:Bar) (x14:Int):Int→Option (Int ⊕ Bool)
| x20=>
 ifb (decide (x20<(ln Drinker.row x1.Drinkers))) (
 ifb (!decide (x20=x14)) (
 ifb (decide ((ln Drinker.row x12.Drinkers)≤x20)) (
 (Zwp x20) true) (
 (at_ x1.Drinkers x20).bind fun x21=>
 (at_ x12.Drinkers x20).bind fun x22=>
 (Zwn x21 x22).bind fun x23=>
 (Zwp x20) (!x23))) (
 (Zwp x20) false)) (
 Option.map Sum.inr ((Zvp x1 x12) ()))
noncomputable def Zyp (x1:Bar) (x12:Bar):Int→Option Bool
| x14=>
 loop (Zxp x1 x12 x14) 0
noncomputable def Zzp (x1:Bar) (x2:narthexlaw16_Act):(Int×Bar)→Option Bool
| (x11,x12)=>
 ifb (!decide (x11=0)) (
 (Z1o x12 ((Bar.mk (([]:(List Drinker))) (([]:(List Mail)))))).bind fun x13=>
 some x13) (
 ifb (decide (((min ((max x2.K 0)) 2))=2)) (
 (Zyp x1 x12) x2.B) (
 (Zyp x1 x12) x2.A))
noncomputable def Z0q (x1:Bar) (x2:narthexlaw16_Act):Bool→Option Bool
| x5=>
 ifb x5 (
 (Zon).bind fun x6=>
 some x6) (
 (Z2m x1).bind fun x7=>
 (Ztl x7 ((narthexlaw16_Act.mk ((min ((max x2.K 0)) 2)) x2.A x2.B x2.Need))).bind fun x9=>
 (Zzp x1 x2) (x9.2,x9.1))
noncomputable def Z1q (x1:Bar) (x2:narthexlaw16_Act):Option Bool:=
 (Zon).bind fun x3=>
 ifb (!x3) (
 (Z0q x1 x2) true) (
 (Zdo x1).bind fun x4=>
 ifb (!x4) (
 (Z0q x1 x2) true) (
 (Z0q x1 x2) (decide (24<(ln Z05 x2.Need)))))
theorem Z2q (x1:Bar) (x2:narthexlaw16_Act) (r:Bool) (h:Z1q x1 x2=some r):Zq2 Tryz.prog 9 [.agg (Bar.row x1),.agg (narthexlaw16_Act.row x2)] (.bv r):=by
 refine Zu2 ok9 rfl rfl fun w0 H0=>?_
 rw [Z1q] at h
 refine Zl2 9 ?_;dsimp only [e9,Zup,go_sem];refine ⟨by simp,?_⟩;obtain ⟨x3,ex3,h⟩:=Option.bind_eq_some_iff.1 h;refine Zz2 trivial (Zpn _ ex3) (h:=?_);refine Zl2 2 ?_;dsimp only [e9,Zup,go_sem];refine ⟨by simp,?_⟩;refine Zi4 (fun (x5:Bool)=>(⟨(.any :: .any :: .ptr 0 0 :: .ptr 1 0::an 17 (.bv x5::an 63 [])),[some ⟨25,[.sl 5 (List.map Drinker.row x1.Drinkers),.sl 5 (List.map Mail.row x1.Mail)]⟩,some ⟨28,[.iv x2.K,.iv x2.A,.iv x2.B,.sl 1 (List.map Z05 x2.Need)]⟩],[]⟩:St)) (Z0q x1 x2) r ?_ fun J1=>?_
 ·intro x5 h;rw [Z0q] at h;(try dsimp only);refine Zk4 h rfl (fun _ h=>?_) fun _ h=>?_
  ·refine Zl2 2 ?_;dsimp only [e9,Zup,go_sem];refine ⟨by simp,?_⟩;obtain ⟨x6,ex6,h⟩:=Option.bind_eq_some_iff.1 h;refine Zz2 trivial (Zpn _ ex6) (h:=?_);refine Zl2 2 ?_;dsimp only [e9,Zup,go_sem];refine ⟨by simp,?_⟩;exact Zt4 (res:=fun (r:Bool)=>.bv r) ok9 h
  ·refine Zl2 11 ?_;dsimp only [e9,Zup,go_sem];refine ⟨by simp,?_⟩;refine Zi4 (fun ((x11,x12):(Int×Bar))=>(⟨(.any :: .any :: .ptr 0 0 :: .ptr 1 0 :: .any :: .ptr 2 0 :: .iv x11::an 78 []),[some ⟨25,[.sl 5 (List.map Drinker.row x1.Drinkers),.sl 5 (List.map Mail.row x1.Mail)]⟩,some ⟨28,[.iv ((min ((max x2.K 0)) 2)),.iv x2.A,.iv x2.B,.sl 1 (List.map Z05 x2.Need)]⟩,some ⟨25,[.sl 5 (List.map Drinker.row x12.Drinkers),.sl 5 (List.map Mail.row x12.Mail)]⟩],[]⟩:St)) (Zzp x1 x2) r ?_ fun J2=>?_
   ·rintro ⟨x11,x12⟩ h;rw [Zzp] at h;(try dsimp only);refine Zl2 6 ?_;dsimp only [e9,Zup,go_sem];refine ⟨by simp,?_⟩;refine Zk4 h rfl (fun _ h=>?_) fun _ h=>?_
    ·refine Zl2 4 ?_;dsimp only [e9,Zup,go_sem];refine ⟨by simp,?_⟩;obtain ⟨x13,ex13,h⟩:=Option.bind_eq_some_iff.1 h;refine Zz2 trivial (Z2o x12 ((Bar.mk (([]:(List Drinker))) (([]:(List Mail))))) _ ex13) (h:=?_);refine Zl2 2 ?_;dsimp only [e9,Zup,go_sem];refine ⟨by simp,?_⟩;exact Zt4 (res:=fun (r:Bool)=>.bv r) ok9 h
    ·refine Zl2 14 ?_;dsimp only [e9,Zup,go_sem];refine ⟨by simp,?_⟩;refine Zi4 (fun (x14:Int)=>(⟨(.any :: .any :: .ptr 0 0 :: .any :: .any :: .ptr 2 0 :: .any :: .iv x14::an 77 []),[some ⟨25,[.sl 5 (List.map Drinker.row x1.Drinkers),.sl 5 (List.map Mail.row x1.Mail)]⟩,none,some ⟨25,[.sl 5 (List.map Drinker.row x12.Drinkers),.sl 5 (List.map Mail.row x12.Mail)]⟩],[]⟩:St)) (Zyp x1 x12) r ?_ fun J3=>?_
     ·intro x14 h;rw [Zyp] at h;(try dsimp only);refine Zl2 5 ?_;dsimp only [e9,Zup,go_sem];refine ⟨by simp,?_⟩;refine Zi4 (fun (_:Unit)=>(⟨(.any :: .any :: .ptr 0 0 :: .any :: .any :: .ptr 2 0::an 79 []),[some ⟨25,[.sl 5 (List.map Drinker.row x1.Drinkers),.sl 5 (List.map Mail.row x1.Mail)]⟩,none,some ⟨25,[.sl 5 (List.map Drinker.row x12.Drinkers),.sl 5 (List.map Mail.row x12.Mail)]⟩],[]⟩:St)) (Zvp x1 x12) r ?_ fun J4=>?_
      ·rintro ⟨⟩ h;rw [Zvp] at h;(try dsimp only);refine Zl2 11 ?_;dsimp only [e9,Zup,go_sem];refine ⟨by simp,?_⟩;exact Zt4 (res:=fun (r:Bool)=>.bv r) ok9 h
      ·refine Zl2 1 ?_;dsimp only [e9,Zup,go_sem];refine ⟨by simp,?_⟩;refine Zj4 h (fun (x20:Int)=>(⟨(.any :: .any :: .ptr 0 0 :: .any :: .any :: .ptr 2 0 :: .any :: .iv x14 :: .iv x20::an 76 []),[some ⟨25,[.sl 5 (List.map Drinker.row x1.Drinkers),.sl 5 (List.map Mail.row x1.Mail)]⟩,none,some ⟨25,[.sl 5 (List.map Drinker.row x12.Drinkers),.sl 5 (List.map Mail.row x12.Mail)]⟩],[]⟩:St)) (by simp [go_sem]) (by intro x20;first | rfl | simp [go_sem]) ?_;rintro n1 x20 y1 h hin1 hout1;rw [Zxp] at h;(try dsimp only);refine Zl2 9 ?_
       dsimp only [e9,Zup,go_sem];refine ⟨by simp,?_⟩;refine Zk4 h rfl (fun _ h=>?_) fun _ h=>?_
       ·refine Zl2 4 ?_;dsimp only [e9,Zup,go_sem];refine ⟨by simp,?_⟩;refine Zi4 (fun (x24:Bool)=>(⟨(.any :: .any :: .ptr 0 0 :: .any :: .any :: .ptr 2 0 :: .any :: .iv x14 :: .iv x20::an 68 (.bv x24::an 7 [])),[some ⟨25,[.sl 5 (List.map Drinker.row x1.Drinkers),.sl 5 (List.map Mail.row x1.Mail)]⟩,none,some ⟨25,[.sl 5 (List.map Drinker.row x12.Drinkers),.sl 5 (List.map Mail.row x12.Mail)]⟩],[]⟩:St)) (Zwp x20) y1 ?_ fun J5=>?_
        ·intro x24 h;rw [Zwp] at h;(try dsimp only);refine Zk4 h rfl (fun _ h=>?_) fun _ h=>?_
         ·refine Zl2 4 ?_;dsimp only [e9,Zup,go_sem];refine ⟨by simp,?_⟩;exact Zt4 (res:=fun (r:Bool)=>.bv r) ok9 (Zh4 h hout1)
         ·refine Zl2 7 ?_;dsimp only [e9,Zup,go_sem];refine ⟨by simp,?_⟩;exact Zu4 h hin1
        ·refine Zh3 (by kernel_rfl) fun all hall hs hnap haf=>?_;dsimp only [go_sem]
         refine Zg5 hall hs haf hnap 4 20 [true,true,true,true,false,false,false,false,false,false,false,false,false,false,false,false,false,false,false,false,false,false,false,false] (⟨(.any :: .any :: .ptr 0 0 :: .any :: .any :: .ptr 2 0 :: .any :: .iv x14 :: .iv x20::an 38 (.iv x20 :: .ptr 0 0 :: .sl 5 (List.map Drinker.row x1.Drinkers) :: .iv (ln Drinker.row x1.Drinkers) :: .bv (decide (x20<(ln Drinker.row x1.Drinkers))) :: .any :: .any :: .iv x20 :: .iv x14 :: .bv (!decide (x20=x14)) :: .bv (!decide (x20=x14))::an 27 [])),[some ⟨25,[.sl 5 (List.map Drinker.row x1.Drinkers),.sl 5 (List.map Mail.row x1.Mail)]⟩,none,some ⟨25,[.sl 5 (List.map Drinker.row x12.Drinkers),.sl 5 (List.map Mail.row x12.Mail)]⟩],[]⟩:St) (by kernel_rfl) ?_
         refine Z35 57 h rfl (fun _ h=>?_) fun _ h=>?_
         ·dsimp only [go_sem]
          refine Zg5 hall hs haf hnap 6 14 [true,true,true,true,true,true,true,true,true,true,false,false,false,false,false,false,false,false,false,false,false,false,false,false] (⟨(.any :: .any :: .ptr 0 0 :: .any :: .any :: .ptr 2 0 :: .any :: .iv x14 :: .iv x20::an 38 (.iv x20 :: .ptr 0 0 :: .sl 5 (List.map Drinker.row x1.Drinkers) :: .iv (ln Drinker.row x1.Drinkers) :: .bv (decide (x20<(ln Drinker.row x1.Drinkers))) :: .any :: .any :: .iv x20 :: .iv x14 :: .bv (!decide (x20=x14)) :: .tt :: .iv x20 :: .ptr 2 0 :: .sl 5 (List.map Drinker.row x12.Drinkers) :: .iv (ln Drinker.row x12.Drinkers) :: .bv (decide ((ln Drinker.row x12.Drinkers)≤x20)) :: .bv (decide ((ln Drinker.row x12.Drinkers)≤x20))::an 21 [])),[some ⟨25,[.sl 5 (List.map Drinker.row x1.Drinkers),.sl 5 (List.map Mail.row x1.Mail)]⟩,none,some ⟨25,[.sl 5 (List.map Drinker.row x12.Drinkers),.sl 5 (List.map Mail.row x12.Mail)]⟩],[]⟩:St) (by kernel_rfl) ?_
          refine Z35 63 h rfl (fun _ h=>?_) fun _ h=>?_
          ·dsimp only [go_sem]
           refine Zg5 hall hs haf hnap 14 0 [true,true,true,true,true,true,true,true,true,true,true,true,true,true,true,true,true,true,true,true,true,true,true,true] (⟨(.any :: .any :: .ptr 0 0 :: .any :: .any :: .ptr 2 0 :: .any :: .iv x14 :: .iv x20::an 38 (.iv x20 :: .ptr 0 0 :: .sl 5 (List.map Drinker.row x1.Drinkers) :: .iv (ln Drinker.row x1.Drinkers) :: .bv (decide (x20<(ln Drinker.row x1.Drinkers))) :: .any :: .any :: .iv x20 :: .iv x14 :: .bv (!decide (x20=x14)) :: .tt :: .iv x20 :: .ptr 2 0 :: .sl 5 (List.map Drinker.row x12.Drinkers) :: .iv (ln Drinker.row x12.Drinkers) :: .bv (decide ((ln Drinker.row x12.Drinkers)≤x20)) :: .tt :: .un :: .un :: .un :: .un :: .un :: .un :: .un :: .un :: .un :: .un :: .un :: .un :: .tt :: .tt::an 7 [])),[some ⟨25,[.sl 5 (List.map Drinker.row x1.Drinkers),.sl 5 (List.map Mail.row x1.Mail)]⟩,none,some ⟨25,[.sl 5 (List.map Drinker.row x12.Drinkers),.sl 5 (List.map Mail.row x12.Mail)]⟩],[]⟩:St) (by kernel_rfl) ?_
           refine Zt3 rfl ?_ _;exact Zv4 J5 (s:=true) h
          ·dsimp only [go_sem]
           refine Zg5 hall hs haf hnap 6 8 [true,true,true,true,true,true,true,true,true,true,true,true,true,false,false,true,true,true,false,false,false,false,false,false] (⟨(.any :: .any :: .ptr 0 0 :: .any :: .any :: .ptr 2 0 :: .any :: .iv x14 :: .iv x20::an 38 (.iv x20 :: .ptr 0 0 :: .sl 5 (List.map Drinker.row x1.Drinkers) :: .iv (ln Drinker.row x1.Drinkers) :: .bv (decide (x20<(ln Drinker.row x1.Drinkers))) :: .any :: .any :: .iv x20 :: .iv x14 :: .bv (!decide (x20=x14)) :: .tt :: .iv x20 :: .ptr 2 0 :: .sl 5 (List.map Drinker.row x12.Drinkers) :: .iv (ln Drinker.row x12.Drinkers) :: .bv (decide ((ln Drinker.row x12.Drinkers)≤x20)) :: .ff :: .ptr 0 0 :: .sl 5 (List.map Drinker.row x1.Drinkers) :: .iv x20 :: .any :: .any :: .ptr 2 0 :: .sl 5 (List.map Drinker.row x12.Drinkers) :: .iv x20::an 13 [])),[some ⟨25,[.sl 5 (List.map Drinker.row x1.Drinkers),.sl 5 (List.map Mail.row x1.Mail)]⟩,none,some ⟨25,[.sl 5 (List.map Drinker.row x12.Drinkers),.sl 5 (List.map Mail.row x12.Mail)]⟩],[]⟩:St) (by kernel_rfl) ?_
           obtain ⟨x21,ex21,h⟩:=Option.bind_eq_some_iff.1 h;refine Zo4 hall hs haf hnap 13 Drinker.row ex21 rfl rfl trivial rfl rfl rfl rfl ?_;refine Zf5 hall hs haf hnap 1 6 ?_;dsimp only [go_sem];refine ⟨by simp,?_⟩;obtain ⟨x22,ex22,h⟩:=Option.bind_eq_some_iff.1 h;refine Zo4 hall hs haf hnap 18 Drinker.row ex22 rfl rfl trivial rfl rfl rfl rfl ?_;refine Zf5 hall hs haf hnap 1 4 ?_;dsimp only [go_sem];refine ⟨by simp,?_⟩;refine Zu3 20 rfl ?_;obtain ⟨x23,ex23,h⟩:=Option.bind_eq_some_iff.1 h
           refine Z04 hall rfl trivial (Zxn x21 x22 _ ex23) (h:=?_);dsimp only [go_sem]
           refine Zg5 hall hs haf hnap 3 0 [true,true,true,true,true,true,true,true,true,true,true,true,true,true,true,true,true,true,true,true,true,true,true,true] (⟨(.any :: .any :: .ptr 0 0 :: .any :: .any :: .ptr 2 0 :: .any :: .iv x14 :: .iv x20::an 38 (.iv x20 :: .ptr 0 0 :: .sl 5 (List.map Drinker.row x1.Drinkers) :: .iv (ln Drinker.row x1.Drinkers) :: .bv (decide (x20<(ln Drinker.row x1.Drinkers))) :: .any :: .any :: .iv x20 :: .iv x14 :: .bv (!decide (x20=x14)) :: .tt :: .iv x20 :: .ptr 2 0 :: .sl 5 (List.map Drinker.row x12.Drinkers) :: .iv (ln Drinker.row x12.Drinkers) :: .bv (decide ((ln Drinker.row x12.Drinkers)≤x20)) :: .ff :: .ptr 0 0 :: .sl 5 (List.map Drinker.row x1.Drinkers) :: .iv x20 :: .elt [.iv x21.Diner.ID,.iv x21.Diner.Phase,.sl 8 (List.map Side.row x21.Diner.Sides),.iv x21.Thirst,.sl 1 (List.map Z05 x21.Need)] 0 :: .agg [.iv x21.Diner.ID,.iv x21.Diner.Phase,.sl 8 (List.map Side.row x21.Diner.Sides),.iv x21.Thirst,.sl 1 (List.map Z05 x21.Need)] :: .ptr 2 0 :: .sl 5 (List.map Drinker.row x12.Drinkers) :: .iv x20 :: .elt [.iv x22.Diner.ID,.iv x22.Diner.Phase,.sl 8 (List.map Side.row x22.Diner.Sides),.iv x22.Thirst,.sl 1 (List.map Z05 x22.Need)] 0 :: .agg [.iv x22.Diner.ID,.iv x22.Diner.Phase,.sl 8 (List.map Side.row x22.Diner.Sides),.iv x22.Thirst,.sl 1 (List.map Z05 x22.Need)] :: .bv x23 :: .bv (!x23) :: .bv (!x23) :: .bv (!x23)::an 7 [])),[some ⟨25,[.sl 5 (List.map Drinker.row x1.Drinkers),.sl 5 (List.map Mail.row x1.Mail)]⟩,none,some ⟨25,[.sl 5 (List.map Drinker.row x12.Drinkers),.sl 5 (List.map Mail.row x12.Mail)]⟩],[]⟩:St) (by kernel_rfl) ?_
           refine Zt3 rfl ?_ _;exact Zv4 J5 (s:=!x23) h
         ·dsimp only [go_sem]
          refine Zg5 hall hs haf hnap 20 0 [true,true,true,true,true,true,true,true,true,true,true,true,true,true,true,true,true,true,true,true,true,true,true,true] (⟨(.any :: .any :: .ptr 0 0 :: .any :: .any :: .ptr 2 0 :: .any :: .iv x14 :: .iv x20::an 38 (.iv x20 :: .ptr 0 0 :: .sl 5 (List.map Drinker.row x1.Drinkers) :: .iv (ln Drinker.row x1.Drinkers) :: .bv (decide (x20<(ln Drinker.row x1.Drinkers))) :: .any :: .any :: .iv x20 :: .iv x14 :: .bv (!decide (x20=x14)) :: .ff :: .un :: .un :: .un :: .un :: .un :: .un :: .un :: .un :: .un :: .un :: .un :: .un :: .un :: .un :: .un :: .un :: .un :: .un :: .un :: .ff::an 7 [])),[some ⟨25,[.sl 5 (List.map Drinker.row x1.Drinkers),.sl 5 (List.map Mail.row x1.Mail)]⟩,none,some ⟨25,[.sl 5 (List.map Drinker.row x12.Drinkers),.sl 5 (List.map Mail.row x12.Mail)]⟩],[]⟩:St) (by kernel_rfl) ?_
          refine Zt3 rfl ?_ _;exact Zv4 J5 (s:=false) h
       ·refine Zl2 1 ?_;dsimp only [e9,Zup,go_sem];refine ⟨by simp,?_⟩;exact Zv4 J4 (s:=()) (Zh4 h hout1)
     ·refine Zk4 h rfl (fun _ h=>?_) fun _ h=>?_
      ·refine Zl2 5 ?_;dsimp only [e9,Zup,go_sem];refine ⟨by simp,?_⟩;exact Zv4 J3 (s:=x2.B) h
      ·refine Zl2 1 ?_;dsimp only [e9,Zup,go_sem];refine ⟨by simp,?_⟩;exact Zv4 J3 (s:=x2.A) h
   ·refine Zh3 (by kernel_rfl) fun all hall hs hnap haf=>?_;dsimp only [go_sem];refine Zf5 hall hs haf hnap 2 8 ?_;dsimp only [go_sem];refine ⟨by simp,?_⟩;obtain ⟨x7,ex7,h⟩:=Option.bind_eq_some_iff.1 h;refine Zv3 1 7 rfl ?_ ?_
    ·refine Z04 hall rfl trivial (Z3m x1 _ ex7) (h:=?_);dsimp only [go_sem];obtain ⟨x9,ex9,h⟩:=Option.bind_eq_some_iff.1 h;refine Zv3 3 7 rfl ?_ ?_
     ·refine Z04 hall rfl trivial (Zul x7 ((narthexlaw16_Act.mk ((min ((max x2.K 0)) 2)) x2.A x2.B x2.Need)) _ ex9) (h:=?_);dsimp only [go_sem];refine Zf5 hall hs haf hnap 3 3 ?_;dsimp only [go_sem];refine ⟨by simp,?_⟩;refine Zu3 7 rfl ?_;refine Zz3 hall rfl trivial ?_;dsimp only [go_sem];refine Zu3 8 rfl ?_;refine Zz3 hall rfl trivial ?_;dsimp only [go_sem];refine Zf5 hall hs haf hnap 1 0 ?_;dsimp only [go_sem];refine ⟨by simp,?_⟩;refine Zt3 rfl ?_ _;exact Zv4 J2 (s:=(x9.2,x9.1)) h
     ·refine Zz3 hall rfl trivial ?_;dsimp only [go_sem];refine Zu3 3 rfl ?_;refine Z04 hall rfl trivial (Zul x7 ((narthexlaw16_Act.mk ((min ((max x2.K 0)) 2)) x2.A x2.B x2.Need)) _ ex9) (h:=?_);dsimp only [go_sem];refine Zf5 hall hs haf hnap 3 2 ?_;dsimp only [go_sem];refine ⟨by simp,?_⟩;refine Zu3 8 rfl ?_;refine Zz3 hall rfl trivial ?_;dsimp only [go_sem];refine Zf5 hall hs haf hnap 1 0 ?_;dsimp only [go_sem];refine ⟨by simp,?_⟩;refine Zt3 rfl ?_ _;exact Zv4 J2 (s:=(x9.2,x9.1)) h
    ·refine Zz3 hall rfl trivial ?_;dsimp only [go_sem];refine Zu3 1 rfl ?_;refine Z04 hall rfl trivial (Z3m x1 _ ex7) (h:=?_);dsimp only [go_sem];refine Zu3 3 rfl ?_;obtain ⟨x9,ex9,h⟩:=Option.bind_eq_some_iff.1 h;refine Z04 hall rfl trivial (Zul x7 ((narthexlaw16_Act.mk ((min ((max x2.K 0)) 2)) x2.A x2.B x2.Need)) _ ex9) (h:=?_);dsimp only [go_sem];refine Zf5 hall hs haf hnap 3 2 ?_;dsimp only [go_sem];refine ⟨by simp,?_⟩;refine Zu3 8 rfl ?_;refine Zz3 hall rfl trivial ?_;dsimp only [go_sem]
     refine Zf5 hall hs haf hnap 1 0 ?_;dsimp only [go_sem];refine ⟨by simp,?_⟩;refine Zt3 rfl ?_ _;exact Zv4 J2 (s:=(x9.2,x9.1)) h
 ·refine Zs4 11 h rfl (fun _ h=>?_) fun _ h=>?_
  ·dsimp only [go_sem];refine Zl2 11 ?_;dsimp only [e9,Zup,go_sem];refine ⟨by simp,?_⟩;exact Zv4 J1 (s:=true) h
  ·dsimp only [go_sem];refine Zl2 1 ?_;dsimp only [e9,Zup,go_sem];refine ⟨by simp,?_⟩;obtain ⟨x4,ex4,h⟩:=Option.bind_eq_some_iff.1 h;refine Zz2 trivial (Zeo x1 _ ex4) (h:=?_);refine Zl2 3 ?_;dsimp only [e9,Zup,go_sem];refine ⟨by simp,?_⟩;refine Zs4 16 h rfl (fun _ h=>?_) fun _ h=>?_
   ·dsimp only [go_sem];refine Zl2 6 ?_;dsimp only [e9,Zup,go_sem];refine ⟨by simp,?_⟩;exact Zv4 J1 (s:=true) h
   ·dsimp only [go_sem];refine Zl2 6 ?_;dsimp only [e9,Zup,go_sem];refine ⟨by simp,?_⟩;exact Zv4 J1 (s:=decide (24<(ln Z05 x2.Need))) h
theorem scB_T (g:Graph):scB (barT g)=Zij g:=by
 unfold scB barT
 rw [List.map_map]
 have:((fun d:Drinker=>d.Diner)∘fun d:Diner=>(⟨d,0,[]⟩:Drinker))=id:=rfl
 rw [this,List.map_id]
 rfl
theorem fewL_T {g:Graph} (hg:okG g=true):fewL (barT g).Drinkers:=by
 have h:=(Inv.first hg).few hg
 refine ⟨by simpa [barT] using h.1,fun d hd=>?_⟩
 obtain ⟨e,he,rfl⟩:=List.mem_map.1 hd
 exact ⟨h.2 e he,by simp⟩
theorem okB_T {g:Graph} (hg:okG g=true) (hN:g.N≤60):Zan (barT g)=true:=by
 unfold Zan
 rw [scB_T,(Inv.first hg).ok hg hN,Bool.true_and,List.all_eq_true]
 intro d hd
 obtain ⟨e,he,rfl⟩:=List.mem_map.1 hd
 have:=(Inv.first hg).okd hg hN he
 unfold Zkh
 rw [this];rfl
theorem who_T (g:Graph) (hg:okG g=true):((whoL (barT g).Drinkers 0).length:Int)=g.N:=by
 have h:(barT g).Drinkers.filter (fun d=>decide (d.Thirst=0))=(barT g).Drinkers:=by
  rw [List.filter_eq_self]
  intro d hd
  obtain ⟨e,_,rfl⟩:=List.mem_map.1 hd
  rfl
 unfold whoL
 rw [h,List.length_map]
 show (((Zij g).Diners.map fun d=>(⟨d,0,[]⟩:Drinker)).length:Int)=g.N
 rw [List.length_map]
 exact Z8g hg (Zgj g)
theorem s_r16New (g:Graph) (hg:okG g=true):Zop g=some (barT g):=by
 simp only [Zop,s_r14New g hg,Option.bind_some]
 have hl:(Zij g).Diners.length≤64:=by
  have:=Z8g hg (Zgj g)
  have:=(Z28 hg).2.1
  show (Z8f g (Zgj g)).length≤64
  omega
 refine Zr8 (Zij g).Diners (Znp (Zij g)) (fun pre=>((pre.length:Int),pre.map fun d=>(⟨d,0,[]⟩:Drinker))) (barT g) (fun pre x post h=>?_) ?_
 ·have hx:=Zs8 h
  have hm:=Zt8 h
  dsimp only [Znp]
  rw [Zi6 hx,Zc6,Zg6 hx,Option.bind_some,Zh6 _ _ (by omega) (by simp;omega),Option.bind_some,Zk6 (by omega),Zx8]
  simp
 ·dsimp only [Znp]
  rw [Zj6,Zd6];rfl
theorem p_narthexlaw16_BarNew (g:Graph):Ztp g=some true:=by
 have yes:Zsp g true=some true:=by
  simp only [Zsp,Zc6,Zio,Option.bind_some]
 have no:g.Edges.length≤60→g.N≤24→Zsp g false=some true:=fun h1 h2=>by
  dsimp only [Zsp]
  rw [Zd6,s_Own03 g (by omega),Option.bind_some,s_bNew,Option.bind_some,Z4e,Option.bind_some]
  cases hg:okG g with
  | false=>
    rw [if_neg (by simp),Bool.not_false,Zc6]
    have e:Z1o Z9n ⟨[],[]⟩=some true:=by
     have:=Zfo Z9n Z9n ⟨by simp [Z9n],by simp [Z9n]⟩ (by simp [Z9n])
     rwa [decide_eq_true rfl] at this
    rw [e];rfl
  | true=>
    have hL:=fewL_T hg
    have hM:(barT g).Mail.length=0:=rfl
    rw [if_pos rfl,Bool.not_true,Zd6,s_r16New g hg,Option.bind_some,Zfo _ _ hL (by omega),Option.bind_some,decide_eq_true rfl,Zc6,decide_eq_true rfl,Zc6,s_own16 _ hL (by omega),Option.bind_some,Zbn _ hL (by omega),okB_T hg (by omega),Option.bind_some,
     if_pos rfl,decide_eq_true rfl,Zc6,s_Who _ _ hL,Option.bind_some,Z25,decide_eq_true (who_T g hg)]
    rfl
 simp only [Ztp,Zio,Option.bind_some,Bool.not_true,Zd6,Z25,yes]
 by_cases h1:(60:Int)<g.Edges.length
 ·rw [decide_eq_true h1];rfl
 ·rw [decide_eq_false h1,Zd6]
  by_cases h2:24<g.N
  ·rw [decide_eq_true h2];exact yes
  ·rw [decide_eq_false h2];exact no (by omega) (by omega)
theorem Z3q {s:Bar} {a:Int} (ha:0≤a) {r:Drinker×Int}:(Zhn s a r).2=0∧(Zhn s a r).1.Drinkers.length=s.Drinkers.length∧(∀(k:Nat) d,s.Drinkers[k]?=some d→(k:Int)≠a→(Zhn s a r).1.Drinkers[k]?=some d)∨(Zhn s a r).2≠0∧(Zhn s a r).1=Z9n:=by
 unfold Zhn
 by_cases h0:r.2=0
 ·rw [if_pos h0]
  cases hk:Zkh r.1 with
  | false=>right;exact ⟨by simp,rfl⟩
  | true=>
    left
    refine ⟨rfl,by simp [actBS],fun k d hd hne=>?_⟩
    simp only [if_true,actBS]
    rw [List.getElem?_set,if_neg (by omega)]
    exact hd
 ·right
  rw [if_neg h0]
  exact ⟨h0,rfl⟩
theorem Z4q {s:Bar} {a:Int} {q:Drinker→Drinker×Int}:(Zin s a q).2=0∧(Zin s a q).1.Drinkers.length=s.Drinkers.length∧(∀(k:Nat) d,s.Drinkers[k]?=some d→(k:Int)≠a→(Zin s a q).1.Drinkers[k]?=some d)∨(Zin s a q).2≠0∧(Zin s a q).1=Z9n:=by
 unfold Zin
 cases Zan s with
 | false=>right;exact ⟨by simp,rfl⟩
 | true=>
   cases ht:Zcn s a with
   | false=>right;exact ⟨by simp,rfl⟩
   | true=>
     obtain ⟨d,hd,_⟩:=Zfn ht
     rw [if_pos rfl,if_pos rfl,hd]
     exact Z3q (Zen.1 ht).1
theorem delivR_others {s:Bar} {a b:Int}:(Zkn s a b).2=0∧(Zkn s a b).1.Drinkers.length=s.Drinkers.length∧(∀(k:Nat) d,s.Drinkers[k]?=some d→(k:Int)≠b→(Zkn s a b).1.Drinkers[k]?=some d)∨(Zkn s a b).2≠0∧(Zkn s a b).1=Z9n:=by
 unfold Zkn
 cases Zan s with
 | false=>right;exact ⟨by simp,rfl⟩
 | true=>
   cases ht:(Zcn s a&&Zcn s b) with
   | false=>right;exact ⟨by simp,rfl⟩
   | true=>
     rw [Bool.and_eq_true] at ht
     obtain ⟨d,hd,_⟩:=Zfn ht.2
     rw [if_pos rfl,if_pos rfl]
     cases hi:delivJ s a b with
     | none=>right;exact ⟨by simp,rfl⟩
     | some i=>
       dsimp only
       rw [hd]
       cases hm:s.Mail[i]? with
       | none=>right;exact ⟨by simp,rfl⟩
       | some m=>exact Z3q (s:=⟨s.Drinkers,s.Mail.take i++s.Mail.drop (i+1)⟩) (Zen.1 ht.2).1
def whoR (k a b:Int):Int:=if k=2 then b else a
theorem actR_others {s:Bar} {k a b:Int} (need:List Int) (hk:k=0∨k=1∨k=2):(actR s k a b need).2=0∧(actR s k a b need).1.Drinkers.length=s.Drinkers.length∧(∀(j:Nat) d,s.Drinkers[j]?=some d→(j:Int)≠whoR k a b→(actR s k a b need).1.Drinkers[j]?=some d)∨(actR s k a b need).2≠0∧(actR s k a b need).1=Z9n:=by
 unfold actR whoR
 rcases hk with rfl | rfl | rfl
 ·exact Z4q
 ·exact Z4q
 ·exact delivR_others
theorem Z5q (s:Bar) (c:narthexlaw16_Act):Z1q s c=some true:=by
 obtain ⟨k0,a,b,need⟩:=c
 have yes:Z0q s ⟨k0,a,b,need⟩ true=some true:=by
  simp only [Z0q,Zc6,Zio,Option.bind_some]
 simp only [Z1q,Zio,Option.bind_some,Bool.not_true,Zd6,s_Few16,Z25]
 cases hf:fewR s with
 | false=>exact yes
 | true=>
   rw [Bool.not_true,Zd6]
   by_cases hn:(24:Int)<need.length
   ·rw [decide_eq_true hn];exact yes
   ·rw [decide_eq_false hn]
    have hD:=Zgo hf
    obtain ⟨f1,f2,f3⟩:=fewR_iff hf
    simp only [Z0q,Zd6,s_own16 s hD (show s.Mail.length≤900000 by omega),Option.bind_some,s_act16 s _ a b need hD (show s.Mail.length≤900000 by omega) (show need.length≤5000 by omega)]
    generalize hk:min (max k0 0) 2=k
    have hk3:k=0∨k=1∨k=2:=by omega
    simp only [Zzp,hk]
    rcases actR_others (s:=s) (a:=a) (b:=b) need hk3 with ⟨h0,h2,h3⟩ | ⟨h0,h1⟩
    ·rw [decide_eq_true h0,Bool.not_true,Zd6]
     have key:∀who,who=whoR k a b→Zyp s (actR s k a b need).1 who=some true:=by
      rintro who rfl
      dsimp only [Zyp]
      refine Zy8 s.Drinkers.length _ (fun j=>(j:Int)) true (fun j hj=>?_) ?_
      ·have hx:s.Drinkers[j]?=some s.Drinkers[j]:=List.getElem?_eq_getElem hj
       have hxm:=f3 _ (List.getElem_mem hj)
       dsimp only [Zxp]
       rw [Zi6 hx,Zc6]
       have good:Zwp (j:Int) false=some (.inl ((j+1:Nat):Int)):=by
        dsimp only [Zwp];rw [Zd6,Zk6 (by omega)]
       by_cases hw:(j:Int)=whoR k a b
       ·rw [decide_eq_true hw,Bool.not_true,Zd6,good]
       ·have hy:=h3 j _ hx hw
        rw [decide_eq_false hw,Bool.not_false,Zc6,Z25,h2,decide_eq_false (by omega),Zd6,Zg6 hx,Option.bind_some,Zg6 hy,Option.bind_some,s_r15Same _ _ (by omega) (by omega),Option.bind_some,decide_eq_true rfl,Bool.not_true,good]
      ·dsimp only [Zxp]
       rw [Zj6,Zd6]
       dsimp only [Zvp]
       rw [Z29,h2,decide_eq_true rfl];rfl
     by_cases hk2:k=2
     ·rw [decide_eq_true hk2,Zc6];exact key b (by simp [whoR,hk2])
     ·rw [decide_eq_false hk2,Zd6];exact key a (by simp [whoR,hk2])
    ·rw [decide_eq_false h0,Bool.not_false,Zc6,h1]
     have:=Zfo Z9n Z9n ⟨by simp [Z9n],by simp [Z9n]⟩ (by simp [Z9n])
     rw [decide_eq_true rfl] at this
     have e:Z1o Z9n ⟨[],[]⟩=some true:=this
     rw [e];rfl
end NX
end Go.Proofs.YtacfbmldajmjiaaGreat
