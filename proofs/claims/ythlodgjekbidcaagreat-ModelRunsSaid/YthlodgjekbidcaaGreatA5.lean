/-
  The function narthex/narthexref20.Check: its code compiled, a model, and that the code answers as the model. Written by a program of ours (lb.py). No statement of the seat is proved here.
-/
import Derived.KernelRfl
import Derived.Test.YthlodgjekbidcaaGreatA4
import Derived.Test.YthlodgjekbidcaaGreatA2
import Derived.Test.YthlodgjekbidcaaGreatA3
namespace Go.Proofs.YthlodgjekbidcaaGreat
namespace NX
open Go
set_option maxRecDepth 100000
set_option maxHeartbeats 4000000
@[go_sem] def e27_L1:EC:=.seq (.seq (.reg [(Qm 22 5),(Qf 23 2 4),(Ql 24 23),(Qa 25 (.len (.t 24))),(Qa 26 (.bin .lss (.t 22) (.t 25)))]) (.ite (.t 26) (.skip) (.exit 2))) (.seq (.blk 3 (.seq (.drw [(Qe 29 1 1),(Qf 30 2 4),(Ql 31 30),(Qm 32 5),(Qk 33 1 31 32),(Ql 34 33),(Qa 35 (.call 28 [(.t 29),(.t 34)])),(Qa 36 (.not (.t 35))),(Qm 37 36),(Qh 38 37 false 2 4),(Qn 39 37 false 38),(Qg 40 37 false (.mv (.t 5))),(Qg 41 37 false (.idx 1 (.t 39) (.t 40))),(Qn 42 37 false 41),(Qg 43 37 false (.mv (.t 3))),(Qg 44 37 false (.bin .eql (.t 42) (.t 43))),(Qq 45 37 44),(Qm 46 45),(Qg 47 46 false (.mv (.t 5))),(Qg 48 46 false (.bin .gtr (.t 47) (.c (.iv 0)))),(Qg 49 46 false (.mv (.t 48))),(Qh 50 49 true 2 4),(Qn 51 49 true 50),(Qg 52 49 true (.mv (.t 5))),(Qg 53 49 true (.bin .sub (.t 52) (.c (.iv 1)))),(Qg 54 49 true (.idx 1 (.t 51) (.t 53))),(Qn 55 49 true 54),(Qh 56 49 true 2 4),(Qn 57 49 true 56),(Qg 58 49 true (.mv (.t 5))),(Qg 59 49 true (.idx 1 (.t 57) (.t 58))),(Qn 60 49 true 59),(Qg 61 49 true (.bin .geq (.t 55) (.t 60))),(Qg 62 46 false (.pick (.t 49) (.t 61) (.c .ff))),(Qq 63 46 62)] [[],[],[1],[],[2,3],[4],[0,5],[6],[7,6],[8],[9,8],[8],[10,11,8],[12,8],[8],[13,14,8],[8,15],[16,8],[17],[18,17],[19,17,17],[20],[21,20],[20],[23,20],[22,24,20],[25,20],[20],[27,20],[20],[28,29,20],[30,20],[26,31,20],[20,32,17],[17,33]] [[6],[2],[1,4],[4],[2,3,5],[4,6],[0,5,7],[6,8],[7,9,10,11,12,13,14,15,16],[8,10],[8,9,12],[8,12],[8,10,11,13],[8,12,15],[8,15],[8,13,14,16],[8,15,17],[16,18,19,20,33,34],[17,19],[17,18,20],[17,19,21,22,23,24,25,26,27,28,29,30,31,32,33],[20,22],[20,21,25],[20,24],[20,23,25],[20,22,24,26],[20,25,32],[20,28],[20,27,30],[20,30],[20,28,29,31],[20,30,32],[20,26,31,33],[17,20,32,34],[17,33]]) (.ite (.t 63) (.seq (.reg [(Qa 2 (.mv (.c .ff)))]) (.ret)) (.skip)))) (.reg [(Qm 27 5),(Qv 28 27 1),(Qm 5 28)]))
@[go_sem] def e27_L0:EC:=.seq (.seq (.reg [(Qm 6 3),(Qf 7 0 1),(Ql 8 7),(Qa 9 (.len (.t 8))),(Qa 10 (.bin .lss (.t 6) (.t 9)))]) (.ite (.t 10) (.skip) (.exit 0))) (.seq (.blk 1 (.seq (.reg [(Qf 13 0 1),(Ql 14 13),(Qm 15 3),(Qk 16 3 14 15),(Qe 17 3 16),(Qa 4 (.alloc 69 [.iv 0,.nl,.nl])),(Qs 3 4 17)]) (.seq (.seq (.reg [(Qf 18 0 4),(Qe 19 2 18),(Qa 20 (.call 63 [(.t 19)])),(Qa 21 (.not (.t 20)))]) (.ite (.t 21) (.seq (.reg [(Qa 2 (.mv (.c .ff)))]) (.ret)) (.skip))) (.seq (.reg [(Qi 5 0)]) (.blk 2 (.loop e27_L1)))))) (.reg [(Qm 11 3),(Qv 12 11 1),(Qm 3 12)]))
@[go_sem] def e27:EC:=.seq (.reg [(Qx 1 35 1 0),(Qa 2 (.mv (.c .ff)))]) (.seq (.seq (.reg [(Qi 3 0)]) (.blk 0 (.loop e27_L0))) (.seq (.reg [(Qf 64 0 1),(Ql 65 64),(Qa 66 (.len (.t 65))),(Qa 67 (.bin .leq (.t 66) (.c (.iv 64)))),(Qm 2 67)]) (.ret)))
theorem ok27:FnOK Tryz.prog 27 Tryz.f27 e27 [.t 2] 1 67:=⟨by kernel_rfl,⟨_,rfl,by kernel_rfl⟩,by kernel_rfl,by kernel_rfl⟩
noncomputable def Zns (x1:Model):Unit→Option Bool
| ()=>
 some (decide ((ln Place.row x1.Places)≤64))
noncomputable def Zos (x23:Int):Unit→Option (Int ⊕ Bool)
| ()=>
 some (.inl (wr (x23+1)))
noncomputable def Zps (x33:Int):Bool→Option (Int ⊕ (Int ⊕ Bool))
| x39=>
 ifb x39 (
 Option.map Sum.inr (Option.map Sum.inr (some false))) (
 some (.inl (wr (x33+1))))
noncomputable def Zqs (x1:Model) (x23:Int) (x24:Place):Int→Option (Int ⊕ (Int ⊕ Bool))
| x33=>
 ifb (decide (x33<(ln Zb5 x24.Live))) (
 (at_ x24.Live x33).bind fun x34=>
 (Zls x1 x34).bind fun x35=>
 ifb (!x35) (
 (Zps x33) true) (
 (at_ x24.Live x33).bind fun x36=>
 ifb (decide (x36=x23)) (
 (Zps x33) true) (
 ifb (decide (0<x33)) (
 (at_ x24.Live (wr (x33-1))).bind fun x37=>
 (at_ x24.Live x33).bind fun x38=>
 (Zps x33) (decide (x38≤x37))) (
 (Zps x33) false)))) (
 Option.map Sum.inr ((Zos x23) ()))
noncomputable def Zrs (x1:Model):Int→Option (Int ⊕ Bool)
| x23=>
 ifb (decide (x23<(ln Place.row x1.Places))) (
 (at_ x1.Places x23).bind fun x24=>
 (Zzr x24.Book).bind fun x25=>
 ifb (!x25) (
 Option.map Sum.inr (some false)) (
 loop (Zqs x1 x23 x24) 0)) (
 Option.map Sum.inr ((Zns x1) ()))
noncomputable def Zss (x1:Model):Option Bool:=
 loop (Zrs x1) 0
theorem Zts (x1:Model) (r:Bool) (h:Zss x1=some r):Zy2 Tryz.prog 27 [.agg (Model.row x1)] (.bv r):=by
 refine Z23 ok27 rfl rfl fun w0 H0=>?_
 rw [Zss] at h
 refine Zt2 10 ?_;dsimp only [go_sem];refine An ?_;refine Zu4 (fun (_:Unit)=>(⟨(.any :: .ptr 0 0::an 66 []),[some ⟨35,[.sl 3 (List.map Place.row x1.Places)]⟩],[]⟩:St)) (Zns x1) r ?_ fun J1=>?_
 ·rintro ⟨⟩ h;rw [Zns] at h;(try dsimp only);refine Zt2 8 ?_;dsimp only [go_sem];refine An ?_;exact Z45 (res:=fun (r:Bool)=>.bv r) ok27 h
 ·refine Zt2 1 ?_;dsimp only [go_sem];refine An ?_;refine Zv4 h (fun (x23:Int)=>(⟨(.any :: .ptr 0 0 :: .any :: .iv x23::an 64 []),[some ⟨35,[.sl 3 (List.map Place.row x1.Places)]⟩],[]⟩:St)) (by simp [go_sem]) (by intro x23;first | rfl | simp [go_sem]) ?_;rintro n1 x23 y1 h hin1 hout1;rw [Zrs] at h;(try dsimp only);refine Zt2 9 ?_;dsimp only [go_sem];refine An ?_;refine Zw4 h rfl (fun _ h=>?_) fun _ h=>?_
  ·refine Zt2 8 ?_;dsimp only [go_sem];refine An ?_;obtain ⟨x24,ex24,h⟩:=Bs h;refine Zz4 Place.row ex24 trivial rfl rfl rfl ?_;refine Zt2 9 ?_;dsimp only [go_sem];refine An ?_;obtain ⟨x25,ex25,h⟩:=Bs h;refine Z73 trivial (Z0s x24.Book _ ex25) (h:=?_);refine Zt2 2 ?_;dsimp only [go_sem];refine An ?_;refine Zw4 h rfl (fun _ h=>?_) fun _ h=>?_
   ·refine Zt2 4 ?_;dsimp only [go_sem];refine An ?_;exact Z45 (res:=fun (r:Bool)=>.bv r) ok27 (Zt4 h hout1)
   ·refine Zt2 5 ?_;dsimp only [go_sem];refine An ?_;refine Zu4 (fun (_:Unit)=>(⟨(.any :: .ptr 0 0 :: .any :: .iv x23::an 64 []),[some ⟨35,[.sl 3 (List.map Place.row x1.Places)]⟩],[]⟩:St)) (Zos x23) y1 ?_ fun J2=>?_
    ·rintro ⟨⟩ h;rw [Zos] at h;(try dsimp only);refine Zt2 6 ?_;dsimp only [go_sem];refine An ?_;exact Z55 h hin1
    ·refine Zt2 1 ?_;dsimp only [go_sem];refine An ?_;refine Zv4 h (fun (x33:Int)=>(⟨(.any :: .ptr 0 0 :: .any :: .iv x23 :: .ptr 1 0 :: .iv x33::an 62 []),[some ⟨35,[.sl 3 (List.map Place.row x1.Places)]⟩,some ⟨69,[.iv x24.Book.Last,.sl 4 (List.map Sess.row x24.Book.Sess),.sl 1 (List.map Zb5 x24.Live)]⟩],[]⟩:St)) (by simp [go_sem]) (by intro x33;first | rfl | simp [go_sem]) ?_;rintro n2 x33 y2 h hin2 hout2;rw [Zqs] at h;(try dsimp only);refine Zt2 9 ?_;dsimp only [go_sem];refine An ?_;refine Zw4 h rfl (fun _ h=>?_) fun _ h=>?_
     ·refine Zt2 4 ?_;dsimp only [go_sem];refine An ?_;refine Zu4 (fun (x39:Bool)=>(⟨(.any :: .ptr 0 0 :: .any :: .iv x23 :: .ptr 1 0 :: .iv x33::an 57 (.bv x39::an 4 [])),[some ⟨35,[.sl 3 (List.map Place.row x1.Places)]⟩,some ⟨69,[.iv x24.Book.Last,.sl 4 (List.map Sess.row x24.Book.Sess),.sl 1 (List.map Zb5 x24.Live)]⟩],[]⟩:St)) (Zps x33) y2 ?_ fun J3=>?_
      ·intro x39 h;rw [Zps] at h;(try dsimp only);refine Zw4 h rfl (fun _ h=>?_) fun _ h=>?_
       ·refine Zt2 4 ?_;dsimp only [go_sem];refine An ?_;exact Z45 (res:=fun (r:Bool)=>.bv r) ok27 (Zt4 (Zt4 h hout2) hout1)
       ·refine Zt2 7 ?_;dsimp only [go_sem];refine An ?_;exact Z55 h hin2
      ·refine Zs3 (by kernel_rfl) fun all hall hs hnap haf=>?_;dsimp only [go_sem];refine Zq5 hall hs haf hnap 4 31 [4,31] [(29,[.agg [.sl 3 (List.map Place.row x1.Places)],.ptr 1 2,.sl 1 (List.map Zb5 x24.Live),.iv x33])] (by kernel_rfl) ?_;dsimp only [go_sem];obtain ⟨x34,ex34,h⟩:=Bs h;refine Z05 hall hs haf hnap 4 Zb5 ex34 rfl rfl trivial rfl rfl rfl rfl ?_;refine Zp5 hall hs haf hnap 1 29 ?_;dsimp only [go_sem];refine An ?_;refine Z34 6 rfl ?_;obtain ⟨x35,ex35,h⟩:=Bs h
       refine Z84 hall rfl trivial (Zms x1 x34 _ ex35) (h:=?_);dsimp only [go_sem];refine Zq5 hall hs haf hnap 2 26 [9,26] [(36,[.bv (!x35),.bv (!x35)])] (by kernel_rfl) ?_;dsimp only [go_sem];refine Ze5 37 h rfl (fun _ h=>?_) fun _ h=>?_
       ·dsimp only [go_sem];refine Zq5 hall hs haf hnap 26 0 [35] [(38,[.un,.un,.un,.un,.un,.un,.un,.tt,.tt,.un,.un,.un,.un,.un,.un,.un,.un,.un,.un,.un,.un,.un,.un,.un,.un,.tt])] (by kernel_rfl) ?_;dsimp only [go_sem];refine Z24 rfl ?_ _;exact Z65 J3 (s:=true) h
       ·dsimp only [go_sem];refine Zq5 hall hs haf hnap 4 22 [12,2,1,20] [(38,[.ptr 1 2,.sl 1 (List.map Zb5 x24.Live),.iv x33]),(2,[.iv x23])] (by kernel_rfl) ?_;dsimp only [go_sem];obtain ⟨x36,ex36,h⟩:=Bs h;refine Z05 hall hs haf hnap 12 Zb5 ex36 rfl rfl trivial rfl rfl rfl rfl ?_;refine Zq5 hall hs haf hnap 4 17 [18,17] [(42,[.iv x36]),(1,[.bv (decide (x36=x23)),.bv (decide (x36=x23)),.bv (decide (x36=x23))])] (by kernel_rfl) ?_;dsimp only [go_sem];refine Ze5 46 h rfl (fun _ h=>?_) fun _ h=>?_
        ·dsimp only [go_sem];refine Zq5 hall hs haf hnap 17 0 [35] [(47,[.un,.un,.un,.un,.un,.un,.un,.un,.un,.un,.un,.un,.un,.un,.un,.un,.tt])] (by kernel_rfl) ?_;dsimp only [go_sem];refine Z24 rfl ?_ _;exact Z65 J3 (s:=true) h
        ·dsimp only [go_sem];refine Zq5 hall hs haf hnap 3 14 [21,14] [(47,[.iv x33,.bv (decide (0<x33)),.bv (decide (0<x33))])] (by kernel_rfl) ?_;dsimp only [go_sem];refine Ze5 49 h rfl (fun _ h=>?_) fun _ h=>?_
         ·dsimp only [go_sem];refine Zq5 hall hs haf hnap 7 7 [25,2,3,5] [(50,[.ptr 1 2,.sl 1 (List.map Zb5 x24.Live),.iv x33,.iv (wr (x33-1))]),(2,[.ptr 1 2,.sl 1 (List.map Zb5 x24.Live),.iv x33])] (by kernel_rfl) ?_;dsimp only [go_sem];obtain ⟨x37,ex37,h⟩:=Bs h;refine Z05 hall hs haf hnap 25 Zb5 ex37 rfl rfl trivial rfl rfl rfl rfl ?_;refine Zp5 hall hs haf hnap 1 5 ?_;dsimp only [go_sem];refine An ?_;obtain ⟨x38,ex38,h⟩:=Bs h;refine Z05 hall hs haf hnap 30 Zb5 ex38 rfl rfl trivial rfl rfl rfl rfl ?_
          refine Zq5 hall hs haf hnap 4 0 [35] [(60,[.iv x38,.bv (decide (x38≤x37)),.bv (decide (x38≤x37)),.bv (decide (x38≤x37))])] (by kernel_rfl) ?_;dsimp only [go_sem];refine Z24 rfl ?_ _;exact Z65 J3 (s:=decide (x38≤x37)) h
         ·dsimp only [go_sem];refine Zq5 hall hs haf hnap 14 0 [35] [(50,[.un,.un,.un,.un,.un,.un,.un,.un,.un,.un,.un,.un,.ff,.ff])] (by kernel_rfl) ?_;dsimp only [go_sem];refine Z24 rfl ?_ _;exact Z65 J3 (s:=false) h
     ·refine Zt2 1 ?_;dsimp only [go_sem];refine An ?_;exact Z65 J2 (s:=()) (Zt4 h hout2)
  ·refine Zt2 1 ?_;dsimp only [go_sem];refine An ?_;exact Z65 J1 (s:=()) (Zt4 h hout1)
set_option maxRecDepth 100000
set_option maxHeartbeats 4000000
@[go_sem] def e64_L0:EC:=.seq (.seq (.reg [(Qm 9 5),(Qf 10 1 3),(Ql 11 10),(Qa 12 (.len (.t 11))),(Qa 13 (.bin .lss (.t 9) (.t 12)))]) (.ite (.t 13) (.skip) (.exit 0))) (.seq (.blk 1 (.seq (.drw [(Qf 16 2 2),(Ql 17 16),(Qf 18 1 3),(Ql 19 18),(Qm 20 5),(Qk 21 1 19 20),(Ql 22 21),(Qa 23 (.call 30 [(.t 17),(.t 22)])),(Qa 24 (.not (.t 23)))] [[],[0],[],[2],[],[3,4],[5],[1,6],[7]] [[1],[0,7],[3],[2,5],[5],[3,4,6],[5,7],[1,6,8],[7]]) (.ite (.t 24) (.seq (.reg [(Qa 4 (.mv (.c .tt)))]) (.ret)) (.skip)))) (.reg [(Qm 14 5),(Qv 15 14 1),(Qm 5 15)]))
@[go_sem] def e64:EC:=.seq (.reg [(Qx 2 69 3 0),(Qx 3 74 4 1),(Qa 4 (.mv (.c .ff)))]) (.seq (.seq (.reg [(Qf 6 2 3),(Ql 7 6),(Qa 8 (.bin .neq (.t 7) (.c (.iv 0))))]) (.ite (.t 8) (.seq (.reg [(Qa 4 (.mv (.c .ff)))]) (.ret)) (.skip))) (.seq (.seq (.reg [(Qi 5 0)]) (.blk 0 (.loop e64_L0))) (.seq (.reg [(Qa 4 (.mv (.c .ff)))]) (.ret))))
theorem ok64:FnOK Tryz.prog 64 Tryz.f64 e64 [.t 4] 2 23:=⟨by kernel_rfl,⟨_,rfl,by kernel_rfl⟩,by kernel_rfl,by kernel_rfl⟩
noncomputable def Zus:Unit→Option Bool
| ()=>
 some false
noncomputable def Zvs (x1:Place) (x2:Sess):Int→Option (Int ⊕ Bool)
| x6=>
 ifb (decide (x6<(ln Zb5 x2.Need))) (
 (at_ x2.Need x6).bind fun x7=>
 (Z7a x1.Live x7).bind fun x8=>
 ifb (!x8) (
 Option.map Sum.inr (some true)) (
 some (.inl (wr (x6+1))))) (
 Option.map Sum.inr (Zus ()))
noncomputable def Zws (x1:Place) (x2:Sess):Option Bool:=
 ifb (!decide (x2.State=0)) (
 some false) (
 loop (Zvs x1 x2) 0)
theorem Zxs (x1:Place) (x2:Sess) (r:Bool) (h:Zws x1 x2=some r):Zy2 Tryz.prog 64 [.agg (Place.row x1),.agg (Sess.row x2)] (.bv r):=by
 refine Z23 ok64 rfl rfl fun w0 H0=>?_
 rw [Zws] at h
 refine Zt2 13 ?_;dsimp only [go_sem];refine An ?_;refine Zw4 h rfl (fun _ h=>?_) fun _ h=>?_
 ·refine Zt2 4 ?_;dsimp only [go_sem];refine An ?_;exact Z45 (res:=fun (r:Bool)=>.bv r) ok64 h
 ·refine Zt2 6 ?_;dsimp only [go_sem];refine An ?_;refine Zu4 (fun (_:Unit)=>(⟨(an 25 []),[],[]⟩:St)) Zus r ?_ fun J1=>?_
  ·rintro ⟨⟩ h;rw [Zus] at h;(try dsimp only);refine Zt2 4 ?_;dsimp only [go_sem];refine An ?_;exact Z45 (res:=fun (r:Bool)=>.bv r) ok64 h
  ·refine Zt2 1 ?_;dsimp only [go_sem];refine An ?_;refine Zv4 h (fun (x6:Int)=>(⟨(.any :: .any :: .ptr 0 0 :: .ptr 1 0 :: .any :: .iv x6::an 19 []),[some ⟨69,[.iv x1.Book.Last,.sl 4 (List.map Sess.row x1.Book.Sess),.sl 1 (List.map Zb5 x1.Live)]⟩,some ⟨74,[.iv x2.ID,.sl 1 (List.map Zb5 x2.Need),.iv x2.State,.iv x2.Age]⟩],[]⟩:St)) (by simp [go_sem]) (by intro x6;first | rfl | simp [go_sem]) ?_;rintro n1 x6 y1 h hin1 hout1;rw [Zvs] at h;(try dsimp only);refine Zt2 9 ?_;dsimp only [go_sem];refine An ?_
   refine Zw4 h rfl (fun _ h=>?_) fun _ h=>?_
   ·refine Zt2 4 ?_;dsimp only [go_sem];refine An ?_;refine Zs3 (by kernel_rfl) fun all hall hs hnap haf=>?_;dsimp only [go_sem];refine Zp5 hall hs haf hnap 5 4 ?_;dsimp only [go_sem];refine An ?_;obtain ⟨x7,ex7,h⟩:=Bs h;refine Z05 hall hs haf hnap 5 Zb5 ex7 rfl rfl trivial rfl rfl rfl rfl ?_;refine Zp5 hall hs haf hnap 1 2 ?_;dsimp only [go_sem];refine An ?_;refine Z34 7 rfl ?_;obtain ⟨x8,ex8,h⟩:=Bs h;refine Z84 hall rfl trivial (Z8a x1.Live x7 _ ex8) (h:=?_);dsimp only [go_sem];refine Zp5 hall hs haf hnap 1 0 ?_
    dsimp only [go_sem];refine An ?_;refine Z24 rfl ?_ _;refine Zw4 h rfl (fun _ h=>?_) fun _ h=>?_
    ·refine Zt2 4 ?_;dsimp only [go_sem];refine An ?_;exact Z45 (res:=fun (r:Bool)=>.bv r) ok64 (Zt4 h hout1)
    ·refine Zt2 7 ?_;dsimp only [go_sem];refine An ?_;exact Z55 h hin1
   ·refine Zt2 1 ?_;dsimp only [go_sem];refine An ?_;exact Z65 J1 (s:=()) (Zt4 h hout1)
set_option maxRecDepth 100000
set_option maxHeartbeats 4000000
@[go_sem] def e29_L0:EC:=.seq (.seq (.reg [(Qm 19 7),(Qf 20 0 6),(Qf 21 1 20),(Ql 22 21),(Qa 23 (.len (.t 22))),(Qa 24 (.bin .lss (.t 19) (.t 23)))]) (.ite (.t 24) (.skip) (.exit 0))) (.seq (.blk 1 (.seq (.drw [(Qe 27 3 6),(Qf 28 0 6),(Qf 29 1 28),(Ql 30 29),(Qm 31 7),(Qk 32 4 30 31),(Qe 33 4 32),(Qa 34 (.call 64 [(.t 27),(.t 33)]))] [[],[],[1],[2],[],[3,4],[5],[0,6]] [[7],[2],[1,3],[2,5],[5],[3,4,6],[5,7],[0,6]]) (.ite (.t 34) (.reg [(Qm 35 5),(Qf 36 0 6),(Qf 37 1 36),(Ql 38 37),(Qm 39 7),(Qk 40 4 38 39),(Qf 41 0 40),(Ql 42 41),(Qa 43 (.bsl 3 1 1 [.iv 0] [(0,(.t 42))])),(Qa 44 (.app 3 1 8 (.t 35) (.t 43))),(Qm 5 44)]) (.skip)))) (.reg [(Qm 25 7),(Qv 26 25 1),(Qm 7 26)]))
@[go_sem] def e29:EC:=.seq (.reg [(Qx 2 35 1 0),(Qa 4 (.mv (.c .nl)))]) (.seq (.reg [(Qa 8 (.bsl 3 1 0 [.iv 0] [])),(Qm 5 8)]) (.seq (.seq (.reg [(Qe 9 1 2),(Qm 10 1),(Qa 11 (.call 28 [(.t 9),(.t 10)])),(Qa 12 (.not (.t 11)))]) (.ite (.t 12) (.seq (.reg [(Qm 13 5),(Qm 4 13)]) (.ret)) (.skip))) (.seq (.reg [(Qf 14 0 2),(Ql 15 14),(Qm 16 1),(Qk 17 3 15 16),(Qe 18 3 17),(Qa 6 (.alloc 69 [.iv 0,.nl,.nl])),(Qs 3 6 18)]) (.seq (.seq (.reg [(Qi 7 0)]) (.blk 0 (.loop e29_L0))) (.seq (.reg [(Qm 45 5),(Qm 4 45)]) (.ret))))))
theorem ok29:FnOK Tryz.prog 29 Tryz.f29 e29 [.t 4] 2 44:=⟨by kernel_rfl,⟨_,rfl,by kernel_rfl⟩,by kernel_rfl,by kernel_rfl⟩
noncomputable def Zys:(List Int)→Option (List Int)
| x24=>
 some x24
noncomputable def Zzs (x12:Int):(List Int)→Option ((Int×(List Int)) ⊕ (List Int))
| x18=>
 some (.inl (wr (x12+1),x18))
noncomputable def Z0t (x4:Place):(Int×(List Int))→Option ((Int×(List Int)) ⊕ (List Int))
| (x12,x13)=>
 ifb (decide (x12<(ln Sess.row x4.Book.Sess))) (
 (at_ x4.Book.Sess x12).bind fun x14=>
 (Zws x4 x14).bind fun x15=>
 ifb x15 (
 (at_ x4.Book.Sess x12).bind fun x16=>
 (Zh4 8 x13 ([x16.ID])).bind fun x17=>
 (Zzs x12) x17) (
 (Zzs x12) x13)) (
 Option.map Sum.inr (Zys x13))
noncomputable def Z1t (x1:Model) (x2:Int):Option (List Int):=
 (Zls x1 x2).bind fun x3=>
 ifb (!x3) (
 some (([]:List Int))) (
 (at_ x1.Places x2).bind fun x4=>
 loop (Z0t x4) (0,([]:List Int)))
theorem Z2t (x1:Model) (x2:Int) (r:(List Int)) (h:Z1t x1 x2=some r):FunO Tryz.prog 29 [.agg (Model.row x1),.iv x2] 3 1 (List.map Zb5 r):=by
 refine Zj5 ok29 rfl fun w0 H0=>?_
 rw [Z1t] at h
 refine Zt2 15 ?_;dsimp only [go_sem];refine An ?_;obtain ⟨x3,ex3,h⟩:=Bs h;refine Z73 trivial (Zms x1 x2 _ ex3) (h:=?_);refine Zt2 2 ?_;dsimp only [go_sem];refine An ?_;refine Zw4 h rfl (fun _ h=>?_) fun _ h=>?_
 ·refine Zt2 5 ?_;dsimp only [go_sem];refine An ?_;exact Zr5 Zb5 ok29 h rfl rfl
 ·refine Zt2 6 ?_;dsimp only [go_sem];refine An ?_;obtain ⟨x4,ex4,h⟩:=Bs h;refine Zz4 Place.row ex4 trivial rfl rfl rfl ?_;refine Zt2 9 ?_;dsimp only [go_sem];refine An ?_;refine Zu4 (fun (x24:(List Int))=>(⟨(an 5 (.osl 0::an 40 [])),[],[some ⟨3,1,List.map Zb5 x24⟩]⟩:St)) Zys r ?_ fun J1=>?_
  ·intro x24 h;rw [Zys] at h;(try dsimp only);refine Zt2 5 ?_;dsimp only [go_sem];refine An ?_;exact Zr5 Zb5 ok29 h rfl rfl
  ·refine Zt2 1 ?_;dsimp only [go_sem];refine An ?_;refine Zv4 h (fun ((x12,x13):(Int×(List Int)))=>(⟨(an 5 (.osl 0 :: .ptr 1 0 :: .iv x12::an 38 [])),[none,some ⟨69,[.iv x4.Book.Last,.sl 4 (List.map Sess.row x4.Book.Sess),.sl 1 (List.map Zb5 x4.Live)]⟩],[some ⟨3,1,List.map Zb5 x13⟩]⟩:St)) (by simp [go_sem]) (by rintro ⟨x12,x13⟩;first | rfl | simp [go_sem]) ?_;rintro n1 ⟨x12,x13⟩ y1 h hin1 hout1;rw [Z0t] at h;(try dsimp only);refine Zt2 10 ?_;dsimp only [go_sem];refine An ?_;refine Zw4 h rfl (fun _ h=>?_) fun _ h=>?_
   ·refine Zt2 4 ?_;dsimp only [go_sem];refine An ?_;refine Zs3 (by kernel_rfl) fun all hall hs hnap haf=>?_;dsimp only [go_sem];refine Zp5 hall hs haf hnap 5 3 ?_;dsimp only [go_sem];refine An ?_;obtain ⟨x14,ex14,h⟩:=Bs h;refine Z05 hall hs haf hnap 5 Sess.row ex14 rfl rfl trivial rfl rfl rfl rfl ?_;refine Zp5 hall hs haf hnap 1 1 ?_;dsimp only [go_sem];refine An ?_;refine Z34 7 rfl ?_;obtain ⟨x15,ex15,h⟩:=Bs h;refine Z84 hall rfl trivial (Zxs x4 x14 _ ex15) (h:=?_);dsimp only [go_sem];refine Z24 rfl ?_ _
    refine Zu4 (fun (x18:(List Int))=>(⟨(an 5 (.osl 0 :: .ptr 1 0 :: .iv x12::an 38 [])),[none,some ⟨69,[.iv x4.Book.Last,.sl 4 (List.map Sess.row x4.Book.Sess),.sl 1 (List.map Zb5 x4.Live)]⟩],[some ⟨3,1,List.map Zb5 x18⟩]⟩:St)) (Zzs x12) y1 ?_ fun J2=>?_
    ·intro x18 h;rw [Zzs] at h;(try dsimp only);refine Zt2 6 ?_;dsimp only [go_sem];refine An ?_;exact Z55 h hin1
    ·refine Zw4 h rfl (fun _ h=>?_) fun _ h=>?_
     ·refine Zt2 6 ?_;dsimp only [go_sem];refine An ?_;obtain ⟨x16,ex16,h⟩:=Bs h;refine Zz4 Sess.row ex16 trivial rfl rfl rfl ?_;refine Zt2 3 ?_;dsimp only [go_sem];refine An ?_;obtain ⟨x17,ex17,h⟩:=Bs h;refine Z15 Zb5 ex17 trivial rfl rfl rfl ?_;refine Zt2 2 ?_;dsimp only [go_sem];refine An ?_;refine Zd4 2 0 rfl rfl rfl ?_;dsimp only [go_sem];exact Z65 J2 (s:=x17) h
     ·refine Zt2 1 ?_;dsimp only [go_sem];refine An ?_;exact Z65 J2 (s:=x13) h
   ·refine Zt2 1 ?_;dsimp only [go_sem];refine An ?_;exact Z65 J1 (s:=x13) (Zt4 h hout1)
theorem Z3t (x1:Model) (x2:Int) (r:(List Int)) (h:Z1t x1 x2=some r):Zy2 Tryz.prog 29 [.agg (Model.row x1),.iv x2] (.sl 1 (List.map Zb5 r)):=(Z2t x1 x2 r h).sealed
set_option maxRecDepth 100000
set_option maxHeartbeats 4000000
@[go_sem] def e33_L0:EC:=.seq (.seq (.reg [(Qm 13 7),(Qf 14 0 3),(Ql 15 14),(Qm 16 1),(Qk 17 3 15 16),(Qf 18 0 17),(Qf 19 1 18),(Ql 20 19),(Qa 21 (.len (.t 20))),(Qa 22 (.bin .lss (.t 13) (.t 21)))]) (.ite (.t 22) (.skip) (.exit 0))) (.seq (.blk 1 (.seq (.reg [(Qf 25 0 3),(Ql 26 25),(Qm 27 1),(Qk 28 3 26 27),(Qf 29 0 28),(Qf 30 1 29),(Ql 31 30),(Qm 32 7),(Qk 33 4 31 32),(Qe 34 4 33),(Qa 8 (.alloc 74 [.iv 0,.nl,.iv 0,.iv 0])),(Qs 4 8 34)]) (.seq (.reg [(Qf 35 2 8),(Ql 36 35),(Qa 37 (.bin .eql (.t 36) (.c (.iv 1)))),(Qm 38 37),(Qh 39 38 true 1 8),(Qn 40 38 true 39),(Qg 41 38 true (.mv (.t 2))),(Qg 42 38 true (.call 30 [(.t 40),(.t 41)])),(Qp 43 38 42)]) (.ite (.t 43) (.seq (.reg [(Qa 6 (.mv (.c .tt)))]) (.ret)) (.skip))))) (.reg [(Qm 23 7),(Qv 24 23 1),(Qm 7 24)]))
@[go_sem] def e33:EC:=.seq (.reg [(Qx 3 35 1 0),(Qa 6 (.mv (.c .ff)))]) (.seq (.seq (.reg [(Qe 9 1 3),(Qm 10 1),(Qa 11 (.call 28 [(.t 9),(.t 10)])),(Qa 12 (.not (.t 11)))]) (.ite (.t 12) (.seq (.reg [(Qa 6 (.mv (.c .ff)))]) (.ret)) (.skip))) (.seq (.seq (.reg [(Qi 7 0)]) (.blk 0 (.loop e33_L0))) (.seq (.reg [(Qa 6 (.mv (.c .ff)))]) (.ret))))
theorem ok33:FnOK Tryz.prog 33 Tryz.f33 e33 [.t 6] 3 41:=⟨by kernel_rfl,⟨_,rfl,by kernel_rfl⟩,by kernel_rfl,by kernel_rfl⟩
noncomputable def Z4t:Unit→Option Bool
| ()=>
 some false
noncomputable def Z5t (x11:Int):Bool→Option (Int ⊕ Bool)
| x16=>
 ifb x16 (
 Option.map Sum.inr (some true)) (
 some (.inl (wr (x11+1))))
noncomputable def Z6t (x1:Model) (x2:Int) (x3:Int):Int→Option (Int ⊕ Bool)
| x11=>
 (at_ x1.Places x2).bind fun x12=>
 ifb (decide (x11<(ln Sess.row x12.Book.Sess))) (
 (at_ x1.Places x2).bind fun x13=>
 (at_ x13.Book.Sess x11).bind fun x14=>
 ifb (decide (x14.State=1)) (
 (Z7a x14.Need x3).bind fun x15=>
 (Z5t x11) x15) (
 (Z5t x11) false)) (
 Option.map Sum.inr (Z4t ()))
noncomputable def Z7t (x1:Model) (x2:Int) (x3:Int):Option Bool:=
 (Zls x1 x2).bind fun x4=>
 ifb (!x4) (
 some false) (
 loop (Z6t x1 x2 x3) 0)
theorem Z8t (x1:Model) (x2:Int) (x3:Int) (r:Bool) (h:Z7t x1 x2 x3=some r):Zy2 Tryz.prog 33 [.agg (Model.row x1),.iv x2,.iv x3] (.bv r):=by
 refine Z23 ok33 rfl rfl fun w0 H0=>?_
 rw [Z7t] at h
 refine Zt2 10 ?_;dsimp only [go_sem];refine An ?_;obtain ⟨x4,ex4,h⟩:=Bs h;refine Z73 trivial (Zms x1 x2 _ ex4) (h:=?_);refine Zt2 2 ?_;dsimp only [go_sem];refine An ?_;refine Zw4 h rfl (fun _ h=>?_) fun _ h=>?_
 ·refine Zt2 4 ?_;dsimp only [go_sem];refine An ?_;exact Z45 (res:=fun (r:Bool)=>.bv r) ok33 h
 ·refine Zt2 6 ?_;dsimp only [go_sem];refine An ?_;refine Zu4 (fun (_:Unit)=>(⟨(an 44 []),[],[]⟩:St)) Z4t r ?_ fun J1=>?_
  ·rintro ⟨⟩ h;rw [Z4t] at h;(try dsimp only);refine Zt2 4 ?_;dsimp only [go_sem];refine An ?_;exact Z45 (res:=fun (r:Bool)=>.bv r) ok33 h
  ·refine Zt2 1 ?_;dsimp only [go_sem];refine An ?_;refine Zv4 h (fun (x11:Int)=>(⟨(.any :: .iv x2 :: .iv x3 :: .ptr 0 0::an 3 (.iv x11::an 36 [])),[some ⟨35,[.sl 3 (List.map Place.row x1.Places)]⟩],[]⟩:St)) (by simp [go_sem]) (by intro x11;first | rfl | simp [go_sem]) ?_;rintro n1 x11 y1 h hin1 hout1;rw [Z6t] at h;(try dsimp only);refine Zt2 7 ?_;dsimp only [go_sem];refine An ?_;obtain ⟨x12,ex12,h⟩:=Bs h;refine Zz4 Place.row ex12 trivial rfl rfl rfl ?_;refine Zt2 6 ?_;dsimp only [go_sem];refine An ?_
   refine Zw4 h rfl (fun _ h=>?_) fun _ h=>?_
   ·refine Zt2 8 ?_;dsimp only [go_sem];refine An ?_;obtain ⟨x13,ex13,h⟩:=Bs h;refine Zz4 Place.row ex13 trivial rfl rfl rfl ?_;refine Zt2 4 ?_;dsimp only [go_sem];refine An ?_;obtain ⟨x14,ex14,h⟩:=Bs h;refine Zz4 Sess.row ex14 trivial rfl rfl rfl ?_;refine Zt2 10 ?_;dsimp only [go_sem];refine An ?_;refine Zu4 (fun (x16:Bool)=>(⟨(.any :: .iv x2 :: .iv x3 :: .ptr 0 0::an 3 (.iv x11::an 35 [.bv x16])),[some ⟨35,[.sl 3 (List.map Place.row x1.Places)]⟩],[]⟩:St)) (Z5t x11) y1 ?_ fun J2=>?_
    ·intro x16 h;rw [Z5t] at h;(try dsimp only);refine Zw4 h rfl (fun _ h=>?_) fun _ h=>?_
     ·refine Zt2 4 ?_;dsimp only [go_sem];refine An ?_;exact Z45 (res:=fun (r:Bool)=>.bv r) ok33 (Zt4 h hout1)
     ·refine Zt2 7 ?_;dsimp only [go_sem];refine An ?_;exact Z55 h hin1
    ·refine Z35 38 h rfl (fun _ h=>?_) fun _ h=>?_
     ·dsimp only [go_sem];refine Zt2 3 ?_;dsimp only [go_sem];refine An ?_;obtain ⟨x15,ex15,h⟩:=Bs h;refine Z73 trivial (Z8a x14.Need x3 _ ex15) (h:=?_);refine Zt2 2 ?_;dsimp only [go_sem];refine An ?_;exact Z65 J2 (s:=x15) h
     ·dsimp only [go_sem];refine Zt2 6 ?_;dsimp only [go_sem];refine An ?_;exact Z65 J2 (s:=false) h
   ·refine Zt2 1 ?_;dsimp only [go_sem];refine An ?_;exact Z65 J1 (s:=()) (Zt4 h hout1)
set_option maxRecDepth 100000
set_option maxHeartbeats 4000000
@[go_sem] def e34_L0:EC:=.seq (.seq (.reg [(Qm 10 8),(Qf 11 0 3),(Ql 12 11),(Qa 13 (.len (.t 12))),(Qa 14 (.bin .lss (.t 10) (.t 13)))]) (.ite (.t 14) (.skip) (.exit 0))) (.seq (.blk 1 (.seq (.reg [(Qm 17 8),(Qm 18 1),(Qa 19 (.bin .eql (.t 17) (.t 18)))]) (.ite (.t 19) (.reg [(Qf 20 0 7),(Ql 21 20),(Qe 22 3 5),(Qa 23 (.bsl 69 3 1 [.iv 0,.nl,.nl] [(0,(.t 22))])),(Qa 24 (.app 69 3 56 (.t 21) (.t 23))),(Qf 25 0 7),(Qs 1 25 24)]) (.drw [(Qf 26 0 7),(Ql 27 26),(Qf 28 0 3),(Ql 29 28),(Qm 30 8),(Qk 31 3 29 30),(Qe 32 3 31),(Qa 33 (.bsl 69 3 1 [.iv 0,.nl,.nl] [(0,(.t 32))])),(Qa 34 (.app 69 3 56 (.t 27) (.t 33))),(Qf 35 0 7),(Qs 1 35 34)] [[],[0],[],[2],[],[3,4],[5],[6],[1,7],[0,1,2,3,4,5,6,7,8],[9,8,8,0,1,2,3,4,5,6,7,8]] [[1],[0,8],[3],[2,5],[5],[3,4,6],[5,7],[6,8],[1,7,10],[10],[8,9]])))) (.reg [(Qm 15 8),(Qv 16 15 1),(Qm 8 16)]))
@[go_sem] def e34:EC:=.seq (.reg [(Qx 3 35 1 0),(Qx 5 69 3 2),(Qa 6 (.alloc 35 [.nl]))]) (.seq (.reg [(Qa 9 (.build [.nl] [])),(Qa 7 (.alloc 35 [.nl])),(Qs 1 7 9)]) (.seq (.seq (.reg [(Qi 8 0)]) (.blk 0 (.loop e34_L0))) (.seq (.reg [(Qe 36 1 7),(Qs 1 6 36)]) (.ret))))
theorem ok34:FnOK Tryz.prog 34 Tryz.f34 e34 [.c 6 (some 1)] 3 34:=⟨by kernel_rfl,⟨_,rfl,by kernel_rfl⟩,by kernel_rfl,by kernel_rfl⟩
noncomputable def Z9t:(List Place)→Option Model
| x23=>
 some (Model.mk x23)
noncomputable def Zat (x10:Int):(List Place)→Option ((Int×(List Place)) ⊕ Model)
| x15=>
 some (.inl (wr (x10+1),x15))
noncomputable def Zbt (x1:Model) (x2:Int) (x3:Place):(Int×(List Place))→Option ((Int×(List Place)) ⊕ Model)
| (x10,x11)=>
 ifb (decide (x10<(ln Place.row x1.Places))) (
 ifb (decide (x10=x2)) (
 (Zh4 56 x11 ([x3])).bind fun x12=>
 (Zat x10) x12) (
 (at_ x1.Places x10).bind fun x13=>
 (Zh4 56 x11 ([x13])).bind fun x14=>
 (Zat x10) x14)) (
 Option.map Sum.inr (Z9t x11))
noncomputable def Zct (x1:Model) (x2:Int) (x3:Place):Option Model:=
 loop (Zbt x1 x2 x3) (0,([]:List Place))
theorem Zdt (x1:Model) (x2:Int) (x3:Place) (r:Model) (h:Zct x1 x2 x3=some r):Zy2 Tryz.prog 34 [.agg (Model.row x1),.iv x2,.agg (Place.row x3)] (.agg (Model.row r)):=by
 refine Z23 ok34 rfl rfl fun w0 H0=>?_
 rw [Zct] at h
 refine Zt2 17 ?_;dsimp only [go_sem];refine An ?_;refine Zu4 (fun (x23:(List Place))=>(⟨(an 6 (.ptr 2 0 :: .ptr 3 0::an 29 [])),[none,none,some ⟨35,[.nl]⟩,some ⟨35,[.osl 0]⟩],[some ⟨69,3,List.map Place.row x23⟩]⟩:St)) Z9t r ?_ fun J1=>?_
 ·intro x23 h;rw [Z9t] at h;(try dsimp only);refine Zt2 5 ?_;dsimp only [go_sem];refine An ?_;refine Zk3 0 rfl ?_;dsimp only [go_sem];exact Z45 (res:=fun (r:Model)=>.agg (Model.row r)) ok34 h
 ·refine Zt2 1 ?_;dsimp only [go_sem];refine An ?_;refine V_ownB 3 0 69 3 rfl rfl rfl ?_;dsimp only [go_sem];refine Zv4 h (fun ((x10,x11):(Int×(List Place)))=>(⟨(.any :: .iv x2 :: .any :: .ptr 0 0 :: .any :: .ptr 1 0 :: .ptr 2 0 :: .ptr 3 0 :: .iv x10::an 28 []),[some ⟨35,[.sl 3 (List.map Place.row x1.Places)]⟩,some ⟨69,[.iv x3.Book.Last,.sl 4 (List.map Sess.row x3.Book.Sess),.sl 1 (List.map Zb5 x3.Live)]⟩,some ⟨35,[.nl]⟩,some ⟨35,[.osl 0]⟩],[some ⟨69,3,List.map Place.row x11⟩]⟩:St)) (by simp [go_sem]) (by rintro ⟨x10,x11⟩;first | rfl | simp [go_sem]) ?_
  rintro n1 ⟨x10,x11⟩ y1 h hin1 hout1;rw [Zbt] at h;(try dsimp only);refine Zt2 9 ?_;dsimp only [go_sem];refine An ?_;refine Zw4 h rfl (fun _ h=>?_) fun _ h=>?_
  ·refine Zt2 9 ?_;dsimp only [go_sem];refine An ?_;refine Zu4 (fun (x15:(List Place))=>(⟨(.any :: .iv x2 :: .any :: .ptr 0 0 :: .any :: .ptr 1 0 :: .ptr 2 0 :: .ptr 3 0 :: .iv x10::an 28 []),[some ⟨35,[.sl 3 (List.map Place.row x1.Places)]⟩,some ⟨69,[.iv x3.Book.Last,.sl 4 (List.map Sess.row x3.Book.Sess),.sl 1 (List.map Zb5 x3.Live)]⟩,some ⟨35,[.nl]⟩,some ⟨35,[.osl 2]⟩],[none,none,some ⟨69,3,List.map Place.row x15⟩]⟩:St)) (Zat x10) y1 ?_ fun J2=>?_
   ·intro x15 h;rw [Zat] at h;(try dsimp only);refine Zt2 6 ?_;dsimp only [go_sem];refine An ?_;refine Zd4 2 0 rfl rfl rfl ?_;dsimp only [go_sem];exact Z55 h hin1
   ·refine Zw4 h rfl (fun _ h=>?_) fun _ h=>?_
    ·refine Zt2 5 ?_;dsimp only [go_sem];refine An ?_;obtain ⟨x12,ex12,h⟩:=Bs h;refine Z15 Place.row ex12 trivial rfl rfl rfl ?_;refine Zt2 3 ?_;dsimp only [go_sem];refine An ?_;exact Z65 J2 (s:=x12) h
    ·refine Zs3 (by kernel_rfl) fun all hall hs hnap haf=>?_;dsimp only [go_sem];refine Zp5 hall hs haf hnap 4 7 ?_;dsimp only [go_sem];refine An ?_;obtain ⟨x13,ex13,h⟩:=Bs h;refine Z05 hall hs haf hnap 5 Place.row ex13 rfl rfl trivial rfl rfl rfl rfl ?_;refine Zp5 hall hs haf hnap 1 5 ?_;dsimp only [go_sem];refine An ?_;refine Z44 1 7 rfl ?_ ?_
     ·refine Z74 hall rfl trivial ?_;dsimp only [go_sem];refine Z34 7 rfl ?_;refine Z74 hall rfl trivial ?_;dsimp only [go_sem];refine Z34 8 rfl ?_;obtain ⟨x14,ex14,h⟩:=Bs h;refine Z25 Place.row ex14 hall rfl trivial rfl rfl rfl ?_;dsimp only [go_sem];refine Zp5 hall hs haf hnap 1 1 ?_;dsimp only [go_sem];refine An ?_;refine Z34 10 rfl ?_;refine Z74 hall rfl trivial ?_;dsimp only [go_sem];refine Z24 rfl ?_ _;exact Z65 J2 (s:=x14) h
     ·refine Z74 hall rfl trivial ?_;dsimp only [go_sem];refine Z34 1 rfl ?_;refine Z74 hall rfl trivial ?_;dsimp only [go_sem];refine Z34 8 rfl ?_;obtain ⟨x14,ex14,h⟩:=Bs h;refine Z25 Place.row ex14 hall rfl trivial rfl rfl rfl ?_;dsimp only [go_sem];refine Zp5 hall hs haf hnap 1 1 ?_;dsimp only [go_sem];refine An ?_;refine Z34 10 rfl ?_;refine Z74 hall rfl trivial ?_;dsimp only [go_sem];refine Z24 rfl ?_ _;exact Z65 J2 (s:=x14) h
  ·refine Zt2 1 ?_;dsimp only [go_sem];refine An ?_;exact Z65 J1 (s:=x11) (Zt4 h hout1)
set_option maxRecDepth 100000
set_option maxHeartbeats 4000000
@[go_sem] def e11_L1:EC:=.seq (.seq (.reg [(Qm 232 18),(Qf 233 1 15),(Ql 234 233),(Qa 235 (.idx 4 (.t 234) (.c (.iv 0)))),(Qf 236 1 235),(Ql 237 236),(Qa 238 (.len (.t 237))),(Qa 239 (.bin .lss (.t 232) (.t 238)))]) (.ite (.t 239) (.skip) (.exit 4))) (.seq (.blk 5 (.seq (.drw [(Qe 242 1 2),(Qf 243 1 15),(Ql 244 243),(Qa 245 (.idx 4 (.t 244) (.c (.iv 0)))),(Qf 246 1 245),(Ql 247 246),(Qm 248 18),(Qk 249 1 247 248),(Ql 250 249),(Qf 251 1 3),(Ql 252 251),(Qa 253 (.call 33 [(.t 242),(.t 250),(.t 252)]))] [[],[],[1],[2],[3],[4],[],[5,6],[7],[],[9],[0,8,10]] [[11],[2],[1,3],[2,4],[3,5],[4,7],[7],[5,6,8],[7,11],[10],[9,11],[0,8,10]]) (.ite (.t 253) (.seq (.reg [(Qe 254 1 6),(Qs 1 4 254),(Qi 5 203)]) (.ret)) (.skip)))) (.reg [(Qm 240 18),(Qv 241 240 1),(Qm 18 241)]))
@[go_sem] def e11_L0:EC:=.seq (.seq (.reg [(Qm 195 14),(Qf 196 4 3),(Ql 197 196),(Qa 198 (.len (.t 197))),(Qa 199 (.bin .lss (.t 195) (.t 198)))]) (.ite (.t 199) (.skip) (.exit 2))) (.seq (.blk 3 (.seq (.drw [(Qf 202 2 8),(Ql 203 202),(Qf 204 4 3),(Ql 205 204),(Qm 206 14),(Qk 207 1 205 206),(Ql 208 207),(Qa 209 (.call 30 [(.t 203),(.t 208)])),(Qa 210 (.not (.t 209)))] [[],[0],[],[2],[],[3,4],[5],[1,6],[7]] [[1],[0,7],[3],[2,5],[5],[3,4,6],[5,7],[1,6,8],[7]]) (.ite (.t 210) (.seq (.reg [(Qe 211 1 6),(Qs 1 4 211),(Qi 5 202)]) (.ret)) (.skip)))) (.reg [(Qm 200 14),(Qv 201 200 1),(Qm 14 201)]))
@[go_sem] def e11:EC:=.seq (.reg [(Qx 2 35 1 0),(Qx 3 42 5 1),(Qa 4 (.alloc 35 [.nl])),(Qi 5 0)]) (.seq (.reg [(Qa 23 (.build [.nl] [])),(Qa 6 (.alloc 35 [.nl])),(Qs 1 6 23)]) (.seq (.seq (.reg [(Qe 24 1 2),(Qa 25 (.call 27 [(.t 24)])),(Qa 26 (.not (.t 25)))]) (.ite (.t 26) (.seq (.reg [(Qe 27 1 6),(Qs 1 4 27),(Qi 5 200)]) (.ret)) (.skip))) (.seq (.reg [(Qf 28 0 3),(Ql 29 28),(Qa 30 (.bin .geq (.t 29) (.c (.iv 6)))),(Qm 31 30),(Qh 32 31 true 0 3),(Qn 33 31 true 32),(Qg 34 31 true (.bin .leq (.t 33) (.c (.iv 8)))),(Qp 35 31 34),(Qm 7 35)]) (.seq (.seq (.reg [(Qe 36 1 2),(Qf 37 1 3),(Ql 38 37),(Qa 39 (.call 28 [(.t 36),(.t 38)])),(Qa 40 (.not (.t 39))),(Qm 41 40),(Qg 42 41 false (.mv (.t 7))),(Qg 43 41 false (.mv (.t 42))),(Qg 44 43 true (.loadA 1 (.t 2))),(Qh 45 43 true 3 3),(Qn 46 43 true 45),(Qg 47 43 true (.call 28 [(.t 44),(.t 46)])),(Qg 48 43 true (.not (.t 47))),(Qg 49 43 true (.mv (.t 48))),(Qh 50 49 false 3 3),(Qn 51 49 false 50),(Qh 52 49 false 1 3),(Qn 53 49 false 52),(Qg 54 49 false (.bin .eql (.t 51) (.t 53))),(Qg 55 43 true (.pick (.t 49) (.c .tt) (.t 54))),(Qg 56 41 false (.pick (.t 43) (.t 55) (.c .ff))),(Qq 57 41 56)]) (.ite (.t 57) (.seq (.reg [(Qe 58 1 6),(Qs 1 4 58),(Qi 5 201)]) (.ret)) (.skip))) (.seq (.seq (.reg [(Qf 59 0 3),(Ql 60 59),(Qa 61 (.bin .neq (.t 60) (.c (.iv 5)))),(Qm 62 61),(Qg 63 62 true (.loadA 1 (.t 2))),(Qh 64 62 true 1 3),(Qn 65 62 true 64),(Qg 66 62 true (.call 29 [(.t 63),(.t 65)])),(Qg 67 62 true (.len (.t 66))),(Qg 68 62 true (.bin .gtr (.t 67) (.c (.iv 0)))),(Qp 69 62 68)]) (.ite (.t 69) (.seq (.reg [(Qe 70 1 6),(Qs 1 4 70),(Qi 5 205)]) (.ret)) (.skip))) (.seq (.reg [(Qf 71 0 2),(Ql 72 71),(Qf 73 1 3),(Ql 74 73),(Qk 75 3 72 74),(Qe 76 3 75),(Qa 8 (.alloc 69 [.iv 0,.nl,.nl])),(Qs 3 8 76)]) (.seq (.seq (.reg [(Qm 77 7)]) (.ite (.t 77) (.seq (.reg [(Qf 78 2 8),(Ql 79 78),(Qf 80 3 3),(Ql 81 80),(Qa 82 (.call 30 [(.t 79),(.t 81)])),(Qm 9 82)]) (.seq (.drw [(Qf 83 0 2),(Ql 84 83),(Qf 85 3 3),(Ql 86 85),(Qk 87 3 84 86),(Qf 88 2 87),(Ql 89 88),(Qf 90 1 3),(Ql 91 90),(Qa 92 (.call 30 [(.t 89),(.t 91)])),(Qm 10 92)] [[],[0],[],[2],[1,3],[4],[5],[],[7],[6,8],[9,9,0,1,2,3,4,5,6,7,8,9]] [[1],[0,4],[3],[2,4],[1,3,5],[4,6],[5,9],[8],[7,9],[6,8,10],[9]]) (.seq (.reg [(Qf 93 3 3),(Ql 94 93),(Qf 95 1 3),(Ql 96 95),(Qa 97 (.bin .gtr (.t 94) (.t 96))),(Qm 11 97)]) (.seq (.seq (.reg [(Qf 98 0 3),(Ql 99 98)]) (.blk 0 (.seq (.reg [(Qa 101 (.bin .eql (.t 99) (.c (.iv 6)))),(Qm 100 101)]) (.ite (.t 100) (.seq (.seq (.reg [(Qm 102 9),(Qm 103 102),(Qg 104 103 false (.mv (.t 11))),(Qg 105 103 false (.mv (.t 104))),(Qg 106 105 true (.mv (.t 10))),(Qg 107 105 true (.not (.t 106))),(Qg 108 103 false (.pick (.t 105) (.t 107) (.c .ff))),(Qq 109 103 108),(Qm 110 109),(Qg 111 110 false (.mv (.t 11))),(Qg 112 110 false (.not (.t 111))),(Qg 113 110 false (.mv (.t 112))),(Qg 114 113 true (.mv (.t 10))),(Qg 115 110 false (.pick (.t 113) (.t 114) (.c .ff))),(Qq 116 110 115)]) (.ite (.t 116) (.seq (.reg [(Qe 117 1 6),(Qs 1 4 117),(Qi 5 206)]) (.ret)) (.skip))) (.reg [(Qf 118 2 8),(Ql 119 118),(Qf 120 3 3),(Ql 121 120),(Qa 122 (.bsl 3 1 1 [.iv 0] [(0,(.t 121))])),(Qa 123 (.call 31 [(.t 119),(.t 122)])),(Qf 124 2 8),(Qs 1 124 123)])) (.seq (.reg [(Qa 126 (.bin .eql (.t 99) (.c (.iv 7)))),(Qm 125 126)]) (.ite (.t 125) (.seq (.seq (.reg [(Qm 127 9),(Qa 128 (.not (.t 127))),(Qm 129 128),(Qg 130 129 false (.mv (.t 11))),(Qg 131 129 false (.not (.t 130))),(Qg 132 129 false (.mv (.t 131))),(Qg 133 132 true (.mv (.t 10))),(Qg 134 129 false (.pick (.t 132) (.t 133) (.c .ff))),(Qq 135 129 134)]) (.ite (.t 135) (.seq (.reg [(Qe 136 1 6),(Qs 1 4 136),(Qi 5 206)]) (.ret)) (.skip))) (.reg [(Qf 137 2 8),(Ql 138 137),(Qf 139 3 3),(Ql 140 139),(Qa 141 (.bsl 3 1 1 [.iv 0] [(0,(.t 140))])),(Qa 142 (.call 32 [(.t 138),(.t 141),(.c .ff)])),(Qf 143 2 8),(Qs 1 143 142)])) (.seq (.reg [(Qa 145 (.bin .eql (.t 99) (.c (.iv 8)))),(Qm 144 145)]) (.ite (.t 144) (.seq (.reg [(Qm 146 11),(Qa 147 (.not (.t 146))),(Qm 148 147),(Qg 149 148 false (.mv (.t 9))),(Qq 150 148 149),(Qm 151 150),(Qg 152 151 false (.mv (.t 10))),(Qq 153 151 152),(Qm 154 153),(Qg 155 154 false (.loadA 1 (.t 2))),(Qh 156 154 false 1 3),(Qn 157 154 false 156),(Qh 158 154 false 3 3),(Qn 159 154 false 158),(Qg 160 154 false (.call 33 [(.t 155),(.t 157),(.t 159)])),(Qq 161 154 160),(Qm 162 161),(Qg 163 162 false (.loadA 1 (.t 2))),(Qh 164 162 false 3 3),(Qn 165 162 false 164),(Qh 166 162 false 1 3),(Qn 167 162 false 166),(Qg 168 162 false (.call 33 [(.t 163),(.t 165),(.t 167)])),(Qq 169 162 168)]) (.ite (.t 169) (.seq (.reg [(Qe 170 1 6),(Qs 1 4 170),(Qi 5 206)]) (.ret)) (.skip))) (.skip))))))))) (.seq (.reg [(Qe 171 1 2),(Qf 172 1 3),(Ql 173 172),(Qe 174 3 8),(Qa 175 (.call 34 [(.t 171),(.t 173),(.t 174)])),(Qs 1 4 175),(Qi 5 0)]) (.ret)))))) (.skip))) (.seq (.seq (.reg [(Qf 176 0 3),(Ql 177 176)]) (.blk 1 (.seq (.reg [(Qa 180 (.bin .eql (.t 177) (.c (.iv 0)))),(Qm 179 180)]) (.ite (.t 179) (.seq (.reg [(Qf 182 0 8),(Qe 183 2 182),(Qf 184 2 3),(Ql 185 184),(Qf 186 4 3),(Ql 187 186),(Qa 188 (.call 35 [(.t 183),(.t 185),(.t 187)])),(Qm 181 188),(Qa 189 (.ext (.t 181) 0)),(Qa 190 (.ext (.t 181) 1)),(Qa 12 (.alloc 64 [.iv 0,.nl])),(Qs 2 12 189),(Qm 13 190)]) (.seq (.seq (.reg [(Qm 191 13),(Qa 192 (.bin .neq (.t 191) (.c (.iv 0))))]) (.ite (.t 192) (.seq (.reg [(Qe 193 1 6),(Qm 194 13),(Qs 1 4 193),(Qm 5 194)]) (.ret)) (.skip))) (.seq (.seq (.reg [(Qi 14 0)]) (.blk 2 (.loop e11_L0))) (.reg [(Qe 212 2 12),(Qf 213 0 8),(Qs 2 213 212)])))) (.seq (.reg [(Qa 215 (.bin .eql (.t 177) (.c (.iv 1)))),(Qm 214 215)]) (.ite (.t 214) (.seq (.reg [(Qf 217 0 8),(Qe 218 2 217),(Qa 219 (.call 36 [(.t 218)])),(Qm 216 219),(Qa 220 (.ext (.t 216) 0)),(Qa 221 (.ext (.t 216) 1)),(Qa 222 (.ext (.t 216) 2)),(Qa 15 (.alloc 64 [.iv 0,.nl])),(Qs 2 15 220),(Qm 16 221),(Qm 17 222)]) (.seq (.seq (.reg [(Qm 223 17),(Qa 224 (.bin .neq (.t 223) (.c (.iv 0)))),(Qm 225 224),(Qg 226 225 false (.mv (.t 16))),(Qh 227 225 false 2 3),(Qn 228 225 false 227),(Qg 229 225 false (.bin .neq (.t 226) (.t 228))),(Qq 230 225 229)]) (.ite (.t 230) (.seq (.reg [(Qe 231 1 6),(Qs 1 4 231),(Qi 5 203)]) (.ret)) (.skip))) (.seq (.seq (.reg [(Qi 18 0)]) (.blk 4 (.loop e11_L1))) (.reg [(Qe 255 2 15),(Qf 256 0 8),(Qs 2 256 255)])))) (.seq (.seq (.reg [(Qa 258 (.bin .eql (.t 177) (.c (.iv 2)))),(Qm 257 258)]) (.ite (.t 257) (.skip) (.reg [(Qa 259 (.bin .eql (.t 177) (.c (.iv 4)))),(Qm 257 259)]))) (.ite (.t 257) (.seq (.reg [(Qf 261 0 8),(Qe 262 2 261),(Qf 263 2 3),(Ql 264 263),(Qa 265 (.call 37 [(.t 262),(.t 264),(.c (.iv 1))])),(Qm 260 265),(Qa 266 (.ext (.t 260) 0)),(Qa 267 (.ext (.t 260) 1)),(Qa 19 (.alloc 64 [.iv 0,.nl])),(Qs 2 19 266),(Qm 20 267)]) (.seq (.seq (.reg [(Qm 268 20),(Qa 269 (.bin .neq (.t 268) (.c (.iv 0))))]) (.ite (.t 269) (.seq (.reg [(Qe 270 1 6),(Qs 1 4 270),(Qi 5 204)]) (.ret)) (.skip))) (.reg [(Qe 271 2 19),(Qf 272 0 8),(Qs 2 272 271)]))) (.seq (.reg [(Qa 274 (.bin .eql (.t 177) (.c (.iv 3)))),(Qm 273 274)]) (.ite (.t 273) (.seq (.reg [(Qf 276 0 8),(Qe 277 2 276),(Qf 278 2 3),(Ql 279 278),(Qa 280 (.call 37 [(.t 277),(.t 279),(.c (.iv 0))])),(Qm 275 280),(Qa 281 (.ext (.t 275) 0)),(Qa 282 (.ext (.t 275) 1)),(Qa 21 (.alloc 64 [.iv 0,.nl])),(Qs 2 21 281),(Qm 22 282)]) (.seq (.seq (.reg [(Qm 283 22),(Qa 284 (.bin .neq (.t 283) (.c (.iv 0))))]) (.ite (.t 284) (.seq (.reg [(Qe 285 1 6),(Qs 1 4 285),(Qi 5 204)]) (.ret)) (.skip))) (.reg [(Qe 286 2 21),(Qf 287 0 8),(Qs 2 287 286)]))) (.seq (.reg [(Qa 289 (.bin .eql (.t 177) (.c (.iv 5)))),(Qm 288 289)]) (.ite (.t 288) (.seq (.seq (.drw [(Qe 290 1 2),(Qf 291 1 3),(Ql 292 291),(Qa 293 (.call 29 [(.t 290),(.t 292)])),(Qf 294 2 3),(Ql 295 294),(Qa 296 (.call 30 [(.t 293),(.t 295)])),(Qa 297 (.not (.t 296)))] [[],[],[1],[0,2],[],[4],[3,5,3],[6]] [[3],[2],[1,3],[0,2,6],[5],[4,6],[3,5,7],[6]]) (.ite (.t 297) (.seq (.reg [(Qe 298 1 6),(Qs 1 4 298),(Qi 5 205)]) (.ret)) (.skip))) (.drw [(Qf 299 0 8),(Qe 300 2 299),(Qf 301 0 8),(Qe 302 2 301),(Qf 303 2 3),(Ql 304 303),(Qa 305 (.call 39 [(.t 302),(.t 304)])),(Qa 306 (.call 38 [(.t 300),(.t 305)])),(Qf 307 0 8),(Qs 2 307 306)] [[],[0],[],[2],[],[4],[3,5],[1,6,6],[0,1,2,3,4,5,6,7],[8,7,7,0,1,2,3,4,5,6,7]] [[1],[0,7],[3],[2,6],[5],[4,6],[3,5,7],[1,6,9],[9],[7,8]])) (.seq (.reg [(Qe 178 1 6),(Qs 1 4 178),(Qi 5 207)]) (.ret)))))))))))))) (.seq (.reg [(Qe 308 1 2),(Qf 309 1 3),(Ql 310 309),(Qe 311 3 8),(Qa 312 (.call 34 [(.t 308),(.t 310),(.t 311)])),(Qs 1 4 312),(Qi 5 0)]) (.ret))))))))))
theorem ok11:FnOK Tryz.prog 11 Tryz.f11 e11 [.c 4 (some 1),.t 5] 2 311:=⟨by kernel_rfl,⟨_,rfl,by kernel_rfl⟩,by kernel_rfl,by kernel_rfl⟩
noncomputable def Zet (x1:Model) (x2:Event):Place→Option (Model×Int)
| x21=>
 (Zct x1 x2.Node x21).bind fun x22=>
 some (x22,0)
noncomputable def Zft (x1:Model) (x2:Event) (x10:Place):Bool→Option (Model×Int)
| x14=>
 ifb x14 (
 some ((Model.mk (([]:(List Place)))),206)) (
 (Zcr x10.Live ([x2.Peer])).bind fun x15=>
 (Zet x1 x2) ((Place.mk x10.Book x15)))
noncomputable def Zgt (x1:Model) (x2:Event) (x10:Place):Bool→Option (Model×Int)
| x16=>
 ifb x16 (
 some ((Model.mk (([]:(List Place)))),206)) (
 (Zhr x10.Live ([x2.Peer]) false).bind fun x17=>
 (Zet x1 x2) ((Place.mk x10.Book x17)))
noncomputable def Zht (x1:Model) (x2:Event) (x10:Place):Bool→Option (Model×Int)
| x20=>
 ifb x20 (
 some ((Model.mk (([]:(List Place)))),206)) (
 (Zet x1 x2) x10)
noncomputable def Zit (x1:Model) (x2:Event):Place→Option (Model×Int)
| x61=>
 (Zct x1 x2.Node x61).bind fun x62=>
 some (x62,0)
noncomputable def Zjt (x1:Model) (x2:Event) (x10:Place) (x23:(Book×Int)):Unit→Option (Model×Int)
| ()=>
 (Zit x1 x2) ((Place.mk x23.1 x10.Live))
noncomputable def Zkt (x1:Model) (x2:Event) (x10:Place) (x23:(Book×Int)):Int→Option (Int ⊕ (Model×Int))
| x27=>
 ifb (decide (x27<(ln Zb5 x2.Need))) (
 (at_ x2.Need x27).bind fun x28=>
 (Z7a x10.Live x28).bind fun x29=>
 ifb (!x29) (
 Option.map Sum.inr (some ((Model.mk (([]:(List Place)))),202))) (
 some (.inl (wr (x27+1))))) (
 Option.map Sum.inr ((Zjt x1 x2 x10 x23) ()))
noncomputable def Zlt (x1:Model) (x2:Event) (x10:Place) (x36:(Book×Int×Int)):Unit→Option (Model×Int)
| ()=>
 (Zit x1 x2) ((Place.mk x36.1 x10.Live))
noncomputable def Zmt (x1:Model) (x2:Event) (x10:Place) (x36:(Book×Int×Int)):Int→Option (Int ⊕ (Model×Int))
| x43=>
 (at_ x36.1.Sess 0).bind fun x44=>
 ifb (decide (x43<(ln Zb5 x44.Need))) (
 (at_ x36.1.Sess 0).bind fun x45=>
 (at_ x45.Need x43).bind fun x46=>
 (Z7t x1 x46 x2.Node).bind fun x47=>
 ifb x47 (
 Option.map Sum.inr (some ((Model.mk (([]:(List Place)))),203))) (
 some (.inl (wr (x43+1))))) (
 Option.map Sum.inr ((Zlt x1 x2 x10 x36) ()))
noncomputable def Znt (x1:Model) (x2:Event) (x10:Place) (x36:(Book×Int×Int)):Bool→Option (Model×Int)
| x37=>
 ifb x37 (
 some ((Model.mk (([]:(List Place)))),203)) (
 loop (Zmt x1 x2 x10 x36) 0)
noncomputable def Zot (x1:Model) (x2:Event) (x10:Place):Bool→Option (Model×Int)
| x54=>
 ifb x54 (
 (Zgs x10.Book x2.ID 1).bind fun x55=>
 ifb (!decide (x55.2=0)) (
 some ((Model.mk (([]:(List Place)))),204)) (
 (Zit x1 x2) ((Place.mk x55.1 x10.Live)))) (
 ifb (decide (x2.Kind=3)) (
 (Zgs x10.Book x2.ID 0).bind fun x56=>
 ifb (!decide (x56.2=0)) (
 some ((Model.mk (([]:(List Place)))),204)) (
 (Zit x1 x2) ((Place.mk x56.1 x10.Live)))) (
 ifb (decide (x2.Kind=5)) (
 (Z1t x1 x2.Node).bind fun x57=>
 (Z7a x57 x2.ID).bind fun x58=>
 ifb (!x58) (
 some ((Model.mk (([]:(List Place)))),205)) (
 (Zbs x10.Book x2.ID).bind fun x59=>
 (Zes x10.Book x59).bind fun x60=>
 (Zit x1 x2) ((Place.mk x60 x10.Live)))) (
 some ((Model.mk (([]:(List Place)))),207))))
noncomputable def Zpt (x1:Model) (x2:Event) (x4:Bool):Bool→Option (Model×Int)
| x9=>
 ifb x9 (
 some ((Model.mk (([]:(List Place)))),205)) (
 (at_ x1.Places x2.Node).bind fun x10=>
 ifb x4 (
 (Z7a x10.Live x2.Peer).bind fun x11=>
 (at_ x1.Places x2.Peer).bind fun x12=>
 (Z7a x12.Live x2.Node).bind fun x13=>
 ifb (decide (x2.Kind=6)) (
 ifb x11 (
 (Zft x1 x2 x10) true) (
 ifb (decide (x2.Node<x2.Peer)) (
 ifb (!x13) (
 (Zft x1 x2 x10) true) (
 ifb (!(decide (x2.Node<x2.Peer))) (
 (Zft x1 x2 x10) x13) (
 (Zft x1 x2 x10) false))) (
 ifb (!(decide (x2.Node<x2.Peer))) (
 (Zft x1 x2 x10) x13) (
 (Zft x1 x2 x10) false)))) (
 ifb (decide (x2.Kind=7)) (
 ifb (!x11) (
 (Zgt x1 x2 x10) true) (
 ifb (!(decide (x2.Node<x2.Peer))) (
 (Zgt x1 x2 x10) x13) (
 (Zgt x1 x2 x10) false))) (
 ifb (decide (x2.Kind=8)) (
 ifb (!(decide (x2.Node<x2.Peer))) (
 (Zht x1 x2 x10) true) (
 ifb x11 (
 (Zht x1 x2 x10) true) (
 ifb x13 (
 (Zht x1 x2 x10) true) (
 (Z7t x1 x2.Node x2.Peer).bind fun x18=>
 ifb x18 (
 (Zht x1 x2 x10) true) (
 (Z7t x1 x2.Peer x2.Node).bind fun x19=>
 (Zht x1 x2 x10) x19))))) (
 (Zet x1 x2) x10)))) (
 ifb (decide (x2.Kind=0)) (
 (Z1s x10.Book x2.ID x2.Need).bind fun x23=>
 ifb (!decide (x23.2=0)) (
 some ((Model.mk (([]:(List Place)))),x23.2)) (
 loop (Zkt x1 x2 x10 x23) 0)) (
 ifb (decide (x2.Kind=1)) (
 (Z7s x10.Book).bind fun x36=>
 ifb (!decide (x36.2.2=0)) (
 (Znt x1 x2 x10 x36) true) (
 (Znt x1 x2 x10 x36) (!decide (x36.2.1=x2.ID)))) (
 ifb (decide (x2.Kind=2)) (
 (Zot x1 x2 x10) (decide (x2.Kind=2))) (
 (Zot x1 x2 x10) (decide (x2.Kind=4)))))))
noncomputable def Zqt (x1:Model) (x2:Event) (x4:Bool):Bool→Option (Model×Int)
| x7=>
 ifb x7 (
 some ((Model.mk (([]:(List Place)))),201)) (
 ifb (!decide (x2.Kind=5)) (
 (Z1t x1 x2.Node).bind fun x8=>
 (Zpt x1 x2 x4) (decide (0<(ln Zb5 x8)))) (
 (Zpt x1 x2 x4) false))
noncomputable def Zrt (x1:Model) (x2:Event):Bool→Option (Model×Int)
| x4=>
 (Zls x1 x2.Node).bind fun x5=>
 ifb (!x5) (
 (Zqt x1 x2 x4) true) (
 ifb x4 (
 (Zls x1 x2.Peer).bind fun x6=>
 ifb (!x6) (
 (Zqt x1 x2 x4) true) (
 (Zqt x1 x2 x4) (decide (x2.Peer=x2.Node)))) (
 (Zqt x1 x2 x4) false))
noncomputable def Zst (x1:Model) (x2:Event):Option (Model×Int):=
 (Zss x1).bind fun x3=>
 ifb (!x3) (
 some ((Model.mk (([]:(List Place)))),200)) (
 ifb (decide (6≤x2.Kind)) (
 (Zrt x1 x2) (decide (x2.Kind≤8))) (
 (Zrt x1 x2) false))
theorem Ztt (x1:Model) (x2:Event) (r:(Model×Int)) (h:Zst x1 x2=some r):Zy2 Tryz.prog 11 [.agg (Model.row x1),.agg (Event.row x2)] (.tup [.agg (Model.row r.1),.iv r.2]):=by
 refine Z23 ok11 rfl rfl fun w0 H0=>?_
 rw [Zst] at h
 refine Zt2 17 ?_;dsimp only [go_sem];refine An ?_;obtain ⟨x3,ex3,h⟩:=Bs h;refine Z73 trivial (Zts x1 _ ex3) (h:=?_);refine Zt2 2 ?_;dsimp only [go_sem];refine An ?_;refine Zw4 h rfl (fun _ h=>?_) fun _ h=>?_
 ·refine Zt2 6 ?_;dsimp only [go_sem];refine An ?_;exact Z45 (res:=fun (r:(Model×Int))=>.tup [.agg (Model.row r.1),.iv r.2]) ok11 h
 ·refine Zt2 7 ?_;dsimp only [go_sem];refine An ?_;refine Zu4 (fun (x4:Bool)=>(⟨(.any :: .any :: .ptr 0 0 :: .ptr 1 0 :: .ptr 2 0 :: .any :: .ptr 3 0 :: .bv x4::an 305 []),[some ⟨35,[.sl 3 (List.map Place.row x1.Places)]⟩,some ⟨42,[.iv x2.Kind,.iv x2.Node,.iv x2.ID,.iv x2.Peer,.sl 1 (List.map Zb5 x2.Need)]⟩,some ⟨35,[.nl]⟩,some ⟨35,[.nl]⟩],[]⟩:St)) (Zrt x1 x2) r ?_ fun J1=>?_
  ·intro x4 h;rw [Zrt] at h;(try dsimp only);refine Zt2 6 ?_;dsimp only [go_sem];refine An ?_;obtain ⟨x5,ex5,h⟩:=Bs h;refine Z73 trivial (Zms x1 x2.Node _ ex5) (h:=?_);refine Zt2 2 ?_;dsimp only [go_sem];refine An ?_
   refine Zu4 (fun (x7:Bool)=>(⟨(.any :: .any :: .ptr 0 0 :: .ptr 1 0 :: .ptr 2 0 :: .any :: .ptr 3 0 :: .bv x4::an 49 (.bv x7::an 255 [])),[some ⟨35,[.sl 3 (List.map Place.row x1.Places)]⟩,some ⟨42,[.iv x2.Kind,.iv x2.Node,.iv x2.ID,.iv x2.Peer,.sl 1 (List.map Zb5 x2.Need)]⟩,some ⟨35,[.nl]⟩,some ⟨35,[.nl]⟩],[]⟩:St)) (Zqt x1 x2 x4) r ?_ fun J2=>?_
   ·intro x7 h;rw [Zqt] at h;(try dsimp only);refine Zw4 h rfl (fun _ h=>?_) fun _ h=>?_
    ·refine Zt2 6 ?_;dsimp only [go_sem];refine An ?_;exact Z45 (res:=fun (r:(Model×Int))=>.tup [.agg (Model.row r.1),.iv r.2]) ok11 h
    ·refine Zt2 8 ?_;dsimp only [go_sem];refine An ?_;refine Zu4 (fun (x9:Bool)=>(⟨(.any :: .any :: .ptr 0 0 :: .ptr 1 0 :: .ptr 2 0 :: .any :: .ptr 3 0 :: .bv x4::an 61 (.bv x9::an 243 [])),[some ⟨35,[.sl 3 (List.map Place.row x1.Places)]⟩,some ⟨42,[.iv x2.Kind,.iv x2.Node,.iv x2.ID,.iv x2.Peer,.sl 1 (List.map Zb5 x2.Need)]⟩,some ⟨35,[.nl]⟩,some ⟨35,[.nl]⟩],[]⟩:St)) (Zpt x1 x2 x4) r ?_ fun J3=>?_
     ·intro x9 h;rw [Zpt] at h;(try dsimp only);refine Zw4 h rfl (fun _ h=>?_) fun _ h=>?_
      ·refine Zt2 6 ?_;dsimp only [go_sem];refine An ?_;exact Z45 (res:=fun (r:(Model×Int))=>.tup [.agg (Model.row r.1),.iv r.2]) ok11 h
      ·refine Zt2 7 ?_;dsimp only [go_sem];refine An ?_;obtain ⟨x10,ex10,h⟩:=Bs h;refine Zz4 Place.row ex10 trivial rfl rfl rfl ?_;refine Zt2 9 ?_;dsimp only [go_sem];refine An ?_;refine Zw4 h rfl (fun _ h=>?_) fun _ h=>?_
       ·refine Zt2 6 ?_;dsimp only [go_sem];refine An ?_;obtain ⟨x11,ex11,h⟩:=Bs h;refine Z73 trivial (Z8a x10.Live x2.Peer _ ex11) (h:=?_);refine Zt2 3 ?_;dsimp only [go_sem];refine An ?_;refine Zs3 (by kernel_rfl) fun all hall hs hnap haf=>?_;dsimp only [go_sem];refine Zq5 hall hs haf hnap 6 5 [4,3,2,2] [(83,[.ptr 0 0,.sl 3 (List.map Place.row x1.Places),.ptr 1 3,.iv x2.Peer]),(3,[.ptr 1 1,.iv x2.Node])] (by kernel_rfl) ?_;dsimp only [go_sem];obtain ⟨x12,ex12,h⟩:=Bs h
        refine Z05 hall hs haf hnap 4 Place.row ex12 rfl rfl trivial rfl rfl rfl rfl ?_;refine Zp5 hall hs haf hnap 2 2 ?_;dsimp only [go_sem];refine An ?_;refine Z34 9 rfl ?_;obtain ⟨x13,ex13,h⟩:=Bs h;refine Z84 hall rfl trivial (Z8a x12.Live x2.Node _ ex13) (h:=?_);dsimp only [go_sem];refine Zp5 hall hs haf hnap 1 0 ?_;dsimp only [go_sem];refine An ?_;refine Z24 rfl ?_ _;refine Zt2 21 ?_;dsimp only [go_sem];refine An ?_
        refine Zu4 (fun (x21:Place)=>(⟨(.any :: .any :: .ptr 0 0 :: .ptr 1 0 :: .ptr 2 0::an 3 (.ptr 4 0::an 304 [])),[some ⟨35,[.sl 3 (List.map Place.row x1.Places)]⟩,some ⟨42,[.iv x2.Kind,.iv x2.Node,.iv x2.ID,.iv x2.Peer,.sl 1 (List.map Zb5 x2.Need)]⟩,some ⟨35,[.nl]⟩,none,some ⟨69,[.iv x21.Book.Last,.sl 4 (List.map Sess.row x21.Book.Sess),.sl 1 (List.map Zb5 x21.Live)]⟩],[]⟩:St)) (Zet x1 x2) r ?_ fun J4=>?_
        ·intro x21 h;rw [Zet] at h;(try dsimp only);refine Zt2 7 ?_;dsimp only [go_sem];refine An ?_;obtain ⟨x22,ex22,h⟩:=Bs h;refine Z73 trivial (Zdt x1 x2.Node x21 _ ex22) (h:=?_);refine Zt2 3 ?_;dsimp only [go_sem];refine An ?_;exact Z45 (res:=fun (r:(Model×Int))=>.tup [.agg (Model.row r.1),.iv r.2]) ok11 h
        ·refine Zw4 h rfl (fun _ h=>?_) fun _ h=>?_
         ·refine Zt2 5 ?_;dsimp only [go_sem];refine An ?_;refine Zu4 (fun (x14:Bool)=>(⟨(.any :: .any :: .ptr 0 0 :: .ptr 1 0 :: .ptr 2 0 :: .any :: .ptr 3 0 :: .any :: .ptr 4 0::an 107 (.bv x14::an 196 [])),[some ⟨35,[.sl 3 (List.map Place.row x1.Places)]⟩,some ⟨42,[.iv x2.Kind,.iv x2.Node,.iv x2.ID,.iv x2.Peer,.sl 1 (List.map Zb5 x2.Need)]⟩,some ⟨35,[.nl]⟩,some ⟨35,[.nl]⟩,some ⟨69,[.iv x10.Book.Last,.sl 4 (List.map Sess.row x10.Book.Sess),.sl 1 (List.map Zb5 x10.Live)]⟩],[]⟩:St)) (Zft x1 x2 x10) r ?_ fun J5=>?_
          ·intro x14 h;rw [Zft] at h;(try dsimp only);refine Zw4 h rfl (fun _ h=>?_) fun _ h=>?_
           ·refine Zt2 6 ?_;dsimp only [go_sem];refine An ?_;exact Z45 (res:=fun (r:(Model×Int))=>.tup [.agg (Model.row r.1),.iv r.2]) ok11 h
           ·refine Zt2 7 ?_;dsimp only [go_sem];refine An ?_;refine Zk3 0 rfl ?_;dsimp only [go_sem];obtain ⟨x15,ex15,h⟩:=Bs h;refine Z73 trivial (Zdr x10.Live ([x2.Peer]) _ ex15) (h:=?_);refine Zt2 3 ?_;dsimp only [go_sem];refine An ?_;exact Z65 J4 (s:=(Place.mk x10.Book x15)) h
          ·refine Z35 103 h rfl (fun _ h=>?_) fun _ h=>?_
           ·dsimp only [go_sem];refine Zt2 14 ?_;dsimp only [go_sem];refine An ?_;exact Z65 J5 (s:=true) h
           ·dsimp only [go_sem];refine Zt2 2 ?_;dsimp only [go_sem];refine An ?_;refine Z35 105 h rfl (fun _ h=>?_) fun _ h=>?_
            ·dsimp only [go_sem];refine Zt2 5 ?_;dsimp only [go_sem];refine An ?_;refine Z35 110 h rfl (fun _ h=>?_) fun _ h=>?_
             ·dsimp only [go_sem];refine Zt2 7 ?_;dsimp only [go_sem];refine An ?_;exact Z65 J5 (s:=true) h
             ·dsimp only [go_sem];refine Zt2 3 ?_;dsimp only [go_sem];refine An ?_;refine Z35 113 h rfl (fun _ h=>?_) fun _ h=>?_
              ·dsimp only [go_sem];refine Zt2 4 ?_;dsimp only [go_sem];refine An ?_;exact Z65 J5 (s:=x13) h
              ·dsimp only [go_sem];refine Zt2 4 ?_;dsimp only [go_sem];refine An ?_;exact Z65 J5 (s:=false) h
            ·dsimp only [go_sem];refine Zt2 8 ?_;dsimp only [go_sem];refine An ?_;refine Z35 113 h rfl (fun _ h=>?_) fun _ h=>?_
             ·dsimp only [go_sem];refine Zt2 4 ?_;dsimp only [go_sem];refine An ?_;exact Z65 J5 (s:=x13) h
             ·dsimp only [go_sem];refine Zt2 4 ?_;dsimp only [go_sem];refine An ?_;exact Z65 J5 (s:=false) h
         ·refine Zt2 5 ?_;dsimp only [go_sem];refine An ?_;refine Zw4 h rfl (fun _ h=>?_) fun _ h=>?_
          ·refine Zt2 6 ?_;dsimp only [go_sem];refine An ?_;refine Zu4 (fun (x16:Bool)=>(⟨(.any :: .any :: .ptr 0 0 :: .ptr 1 0 :: .ptr 2 0 :: .any :: .ptr 3 0 :: .any :: .ptr 4 0::an 126 (.bv x16::an 177 [])),[some ⟨35,[.sl 3 (List.map Place.row x1.Places)]⟩,some ⟨42,[.iv x2.Kind,.iv x2.Node,.iv x2.ID,.iv x2.Peer,.sl 1 (List.map Zb5 x2.Need)]⟩,some ⟨35,[.nl]⟩,some ⟨35,[.nl]⟩,some ⟨69,[.iv x10.Book.Last,.sl 4 (List.map Sess.row x10.Book.Sess),.sl 1 (List.map Zb5 x10.Live)]⟩],[]⟩:St)) (Zgt x1 x2 x10) r ?_ fun J6=>?_
           ·intro x16 h;rw [Zgt] at h;(try dsimp only);refine Zw4 h rfl (fun _ h=>?_) fun _ h=>?_
            ·refine Zt2 6 ?_;dsimp only [go_sem];refine An ?_;exact Z45 (res:=fun (r:(Model×Int))=>.tup [.agg (Model.row r.1),.iv r.2]) ok11 h
            ·refine Zt2 7 ?_;dsimp only [go_sem];refine An ?_;refine Zk3 0 rfl ?_;dsimp only [go_sem];obtain ⟨x17,ex17,h⟩:=Bs h;refine Z73 trivial (Zir x10.Live ([x2.Peer]) false _ ex17) (h:=?_);refine Zt2 3 ?_;dsimp only [go_sem];refine An ?_;exact Z65 J4 (s:=(Place.mk x10.Book x17)) h
           ·refine Z35 129 h rfl (fun _ h=>?_) fun _ h=>?_
            ·dsimp only [go_sem];refine Zt2 7 ?_;dsimp only [go_sem];refine An ?_;exact Z65 J6 (s:=true) h
            ·dsimp only [go_sem];refine Zt2 3 ?_;dsimp only [go_sem];refine An ?_;refine Z35 132 h rfl (fun _ h=>?_) fun _ h=>?_
             ·dsimp only [go_sem];refine Zt2 4 ?_;dsimp only [go_sem];refine An ?_;exact Z65 J6 (s:=x13) h
             ·dsimp only [go_sem];refine Zt2 4 ?_;dsimp only [go_sem];refine An ?_;exact Z65 J6 (s:=false) h
          ·refine Zt2 5 ?_;dsimp only [go_sem];refine An ?_;refine Zw4 h rfl (fun _ h=>?_) fun _ h=>?_
           ·refine Zt2 5 ?_;dsimp only [go_sem];refine An ?_;refine Zu4 (fun (x20:Bool)=>(⟨(.any :: .any :: .ptr 0 0 :: .ptr 1 0 :: .ptr 2 0 :: .any :: .ptr 3 0 :: .any :: .ptr 4 0::an 160 (.bv x20::an 143 [])),[some ⟨35,[.sl 3 (List.map Place.row x1.Places)]⟩,some ⟨42,[.iv x2.Kind,.iv x2.Node,.iv x2.ID,.iv x2.Peer,.sl 1 (List.map Zb5 x2.Need)]⟩,some ⟨35,[.nl]⟩,some ⟨35,[.nl]⟩,some ⟨69,[.iv x10.Book.Last,.sl 4 (List.map Sess.row x10.Book.Sess),.sl 1 (List.map Zb5 x10.Live)]⟩],[]⟩:St)) (Zht x1 x2 x10) r ?_ fun J7=>?_
            ·intro x20 h;rw [Zht] at h;(try dsimp only);refine Zw4 h rfl (fun _ h=>?_) fun _ h=>?_
             ·refine Zt2 6 ?_;dsimp only [go_sem];refine An ?_;exact Z45 (res:=fun (r:(Model×Int))=>.tup [.agg (Model.row r.1),.iv r.2]) ok11 h
             ·refine Zt2 1 ?_;dsimp only [go_sem];refine An ?_;exact Z65 J4 (s:=x10) h
            ·refine Z35 148 h rfl (fun _ h=>?_) fun _ h=>?_
             ·dsimp only [go_sem];refine Zt2 22 ?_;dsimp only [go_sem];refine An ?_;exact Z65 J7 (s:=true) h
             ·dsimp only [go_sem];refine Zt2 3 ?_;dsimp only [go_sem];refine An ?_;refine Z35 151 h rfl (fun _ h=>?_) fun _ h=>?_
              ·dsimp only [go_sem];refine Zt2 19 ?_;dsimp only [go_sem];refine An ?_;exact Z65 J7 (s:=true) h
              ·dsimp only [go_sem];refine Zt2 3 ?_;dsimp only [go_sem];refine An ?_;refine Z35 154 h rfl (fun _ h=>?_) fun _ h=>?_
               ·dsimp only [go_sem];refine Zt2 16 ?_;dsimp only [go_sem];refine An ?_;exact Z65 J7 (s:=true) h
               ·dsimp only [go_sem];refine Zt2 5 ?_;dsimp only [go_sem];refine An ?_;obtain ⟨x18,ex18,h⟩:=Bs h;refine Z73 trivial (Z8t x1 x2.Node x2.Peer _ ex18) (h:=?_);refine Zt2 2 ?_;dsimp only [go_sem];refine An ?_;refine Z35 162 h rfl (fun _ h=>?_) fun _ h=>?_
                ·dsimp only [go_sem];refine Zt2 8 ?_;dsimp only [go_sem];refine An ?_;exact Z65 J7 (s:=true) h
                ·dsimp only [go_sem];refine Zt2 5 ?_;dsimp only [go_sem];refine An ?_;obtain ⟨x19,ex19,h⟩:=Bs h;refine Z73 trivial (Z8t x1 x2.Peer x2.Node _ ex19) (h:=?_);refine Zt2 2 ?_;dsimp only [go_sem];refine An ?_;exact Z65 J7 (s:=x19) h
           ·refine Zt2 1 ?_;dsimp only [go_sem];refine An ?_;exact Z65 J4 (s:=x10) h
       ·refine Zt2 13 ?_;dsimp only [go_sem];refine An ?_;refine Zu4 (fun (x61:Place)=>(⟨(.any :: .any :: .ptr 0 0 :: .ptr 1 0 :: .ptr 2 0::an 3 (.ptr 4 0::an 304 [])),[some ⟨35,[.sl 3 (List.map Place.row x1.Places)]⟩,some ⟨42,[.iv x2.Kind,.iv x2.Node,.iv x2.ID,.iv x2.Peer,.sl 1 (List.map Zb5 x2.Need)]⟩,some ⟨35,[.nl]⟩,none,some ⟨69,[.iv x61.Book.Last,.sl 4 (List.map Sess.row x61.Book.Sess),.sl 1 (List.map Zb5 x61.Live)]⟩],[]⟩:St)) (Zit x1 x2) r ?_ fun J8=>?_
        ·intro x61 h;rw [Zit] at h;(try dsimp only);refine Zt2 7 ?_;dsimp only [go_sem];refine An ?_;obtain ⟨x62,ex62,h⟩:=Bs h;refine Z73 trivial (Zdt x1 x2.Node x61 _ ex62) (h:=?_);refine Zt2 3 ?_;dsimp only [go_sem];refine An ?_;exact Z45 (res:=fun (r:(Model×Int))=>.tup [.agg (Model.row r.1),.iv r.2]) ok11 h
        ·refine Zw4 h rfl (fun _ h=>?_) fun _ h=>?_
         ·refine Zt2 8 ?_;dsimp only [go_sem];refine An ?_;obtain ⟨x23,ex23,h⟩:=Bs h;refine Z73 trivial (Z2s x10.Book x2.ID x2.Need _ ex23) (h:=?_);refine Zt2 13 ?_;dsimp only [go_sem];refine An ?_;refine Zw4 h rfl (fun _ h=>?_) fun _ h=>?_
          ·refine Zt2 7 ?_;dsimp only [go_sem];refine An ?_;exact Z45 (res:=fun (r:(Model×Int))=>.tup [.agg (Model.row r.1),.iv r.2]) ok11 h
          ·refine Zt2 6 ?_;dsimp only [go_sem];refine An ?_
           refine Zu4 (fun (_:Unit)=>(⟨(.any :: .any :: .ptr 0 0 :: .ptr 1 0 :: .ptr 2 0::an 3 (.ptr 4 0::an 3 (.ptr 5 0::an 300 []))),[some ⟨35,[.sl 3 (List.map Place.row x1.Places)]⟩,some ⟨42,[.iv x2.Kind,.iv x2.Node,.iv x2.ID,.iv x2.Peer,.sl 1 (List.map Zb5 x2.Need)]⟩,some ⟨35,[.nl]⟩,none,some ⟨69,[.iv x10.Book.Last,.sl 4 (List.map Sess.row x10.Book.Sess),.sl 1 (List.map Zb5 x10.Live)]⟩,some ⟨64,[.iv x23.1.Last,.sl 4 (List.map Sess.row x23.1.Sess)]⟩],[]⟩:St)) (Zjt x1 x2 x10 x23) r ?_ fun J9=>?_
           ·rintro ⟨⟩ h;rw [Zjt] at h;(try dsimp only);refine Zt2 5 ?_;dsimp only [go_sem];refine An ?_;exact Z65 J8 (s:=(Place.mk x23.1 x10.Live)) h
           ·refine Zt2 1 ?_;dsimp only [go_sem];refine An ?_
            refine Zv4 h (fun (x27:Int)=>(⟨(.any :: .any :: .ptr 0 0 :: .ptr 1 0 :: .ptr 2 0 :: .any :: .ptr 3 0 :: .any :: .ptr 4 0::an 3 (.ptr 5 0 :: .any :: .iv x27::an 298 [])),[some ⟨35,[.sl 3 (List.map Place.row x1.Places)]⟩,some ⟨42,[.iv x2.Kind,.iv x2.Node,.iv x2.ID,.iv x2.Peer,.sl 1 (List.map Zb5 x2.Need)]⟩,some ⟨35,[.nl]⟩,some ⟨35,[.nl]⟩,some ⟨69,[.iv x10.Book.Last,.sl 4 (List.map Sess.row x10.Book.Sess),.sl 1 (List.map Zb5 x10.Live)]⟩,some ⟨64,[.iv x23.1.Last,.sl 4 (List.map Sess.row x23.1.Sess)]⟩],[]⟩:St)) (by simp [go_sem]) (by intro x27;first | rfl | simp [go_sem]) ?_
            rintro n1 x27 y1 h hin1 hout1;rw [Zkt] at h;(try dsimp only);refine Zt2 9 ?_;dsimp only [go_sem];refine An ?_;refine Zw4 h rfl (fun _ h=>?_) fun _ h=>?_
            ·refine Zt2 4 ?_;dsimp only [go_sem];refine An ?_;refine Zs3 (by kernel_rfl) fun all hall hs hnap haf=>?_;dsimp only [go_sem];refine Zp5 hall hs haf hnap 5 4 ?_;dsimp only [go_sem];refine An ?_;obtain ⟨x28,ex28,h⟩:=Bs h;refine Z05 hall hs haf hnap 5 Zb5 ex28 rfl rfl trivial rfl rfl rfl rfl ?_;refine Zp5 hall hs haf hnap 1 2 ?_;dsimp only [go_sem];refine An ?_;refine Z34 7 rfl ?_;obtain ⟨x29,ex29,h⟩:=Bs h;refine Z84 hall rfl trivial (Z8a x10.Live x28 _ ex29) (h:=?_);dsimp only [go_sem]
             refine Zp5 hall hs haf hnap 1 0 ?_;dsimp only [go_sem];refine An ?_;refine Z24 rfl ?_ _;refine Zw4 h rfl (fun _ h=>?_) fun _ h=>?_
             ·refine Zt2 6 ?_;dsimp only [go_sem];refine An ?_;exact Z45 (res:=fun (r:(Model×Int))=>.tup [.agg (Model.row r.1),.iv r.2]) ok11 (Zt4 h hout1)
             ·refine Zt2 7 ?_;dsimp only [go_sem];refine An ?_;exact Z55 h hin1
            ·refine Zt2 1 ?_;dsimp only [go_sem];refine An ?_;exact Z65 J9 (s:=()) (Zt4 h hout1)
         ·refine Zt2 5 ?_;dsimp only [go_sem];refine An ?_;refine Zw4 h rfl (fun _ h=>?_) fun _ h=>?_
          ·refine Zt2 4 ?_;dsimp only [go_sem];refine An ?_;obtain ⟨x36,ex36,h⟩:=Bs h;refine Z73 trivial (Z8s x10.Book _ ex36) (h:=?_);refine Zt2 15 ?_;dsimp only [go_sem];refine An ?_
           refine Zu4 (fun (x37:Bool)=>(⟨(.any :: .any :: .ptr 0 0 :: .ptr 1 0 :: .ptr 2 0 :: .any :: .ptr 3 0 :: .any :: .ptr 4 0::an 6 (.ptr 5 0::an 214 (.bv x37::an 82 []))),[some ⟨35,[.sl 3 (List.map Place.row x1.Places)]⟩,some ⟨42,[.iv x2.Kind,.iv x2.Node,.iv x2.ID,.iv x2.Peer,.sl 1 (List.map Zb5 x2.Need)]⟩,some ⟨35,[.nl]⟩,some ⟨35,[.nl]⟩,some ⟨69,[.iv x10.Book.Last,.sl 4 (List.map Sess.row x10.Book.Sess),.sl 1 (List.map Zb5 x10.Live)]⟩,some ⟨64,[.iv x36.1.Last,.sl 4 (List.map Sess.row x36.1.Sess)]⟩],[]⟩:St)) (Znt x1 x2 x10 x36) r ?_ fun J10=>?_
           ·intro x37 h;rw [Znt] at h;(try dsimp only);refine Zw4 h rfl (fun _ h=>?_) fun _ h=>?_
            ·refine Zt2 6 ?_;dsimp only [go_sem];refine An ?_;exact Z45 (res:=fun (r:(Model×Int))=>.tup [.agg (Model.row r.1),.iv r.2]) ok11 h
            ·refine Zt2 6 ?_;dsimp only [go_sem];refine An ?_
             refine Zu4 (fun (_:Unit)=>(⟨(.any :: .any :: .ptr 0 0 :: .ptr 1 0 :: .ptr 2 0::an 3 (.ptr 4 0::an 6 (.ptr 5 0::an 297 []))),[some ⟨35,[.sl 3 (List.map Place.row x1.Places)]⟩,some ⟨42,[.iv x2.Kind,.iv x2.Node,.iv x2.ID,.iv x2.Peer,.sl 1 (List.map Zb5 x2.Need)]⟩,some ⟨35,[.nl]⟩,none,some ⟨69,[.iv x10.Book.Last,.sl 4 (List.map Sess.row x10.Book.Sess),.sl 1 (List.map Zb5 x10.Live)]⟩,some ⟨64,[.iv x36.1.Last,.sl 4 (List.map Sess.row x36.1.Sess)]⟩],[]⟩:St)) (Zlt x1 x2 x10 x36) r ?_ fun J11=>?_
             ·rintro ⟨⟩ h;rw [Zlt] at h;(try dsimp only);refine Zt2 5 ?_;dsimp only [go_sem];refine An ?_;exact Z65 J8 (s:=(Place.mk x36.1 x10.Live)) h
             ·refine Zt2 1 ?_;dsimp only [go_sem];refine An ?_
              refine Zv4 h (fun (x43:Int)=>(⟨(.any :: .any :: .ptr 0 0 :: .ptr 1 0 :: .ptr 2 0 :: .any :: .ptr 3 0 :: .any :: .ptr 4 0::an 6 (.ptr 5 0 :: .any :: .any :: .iv x43::an 294 [])),[some ⟨35,[.sl 3 (List.map Place.row x1.Places)]⟩,some ⟨42,[.iv x2.Kind,.iv x2.Node,.iv x2.ID,.iv x2.Peer,.sl 1 (List.map Zb5 x2.Need)]⟩,some ⟨35,[.nl]⟩,some ⟨35,[.nl]⟩,some ⟨69,[.iv x10.Book.Last,.sl 4 (List.map Sess.row x10.Book.Sess),.sl 1 (List.map Zb5 x10.Live)]⟩,some ⟨64,[.iv x36.1.Last,.sl 4 (List.map Sess.row x36.1.Sess)]⟩],[]⟩:St)) (by simp [go_sem]) (by intro x43;first | rfl | simp [go_sem]) ?_
              rintro n1 x43 y1 h hin1 hout1;rw [Zmt] at h;(try dsimp only);refine Zt2 6 ?_;dsimp only [go_sem];refine An ?_;obtain ⟨x44,ex44,h⟩:=Bs h;refine Zz4 Sess.row ex44 trivial rfl rfl rfl ?_;refine Zt2 5 ?_;dsimp only [go_sem];refine An ?_;refine Zw4 h rfl (fun _ h=>?_) fun _ h=>?_
              ·refine Zt2 4 ?_;dsimp only [go_sem];refine An ?_;refine Zs3 (by kernel_rfl) fun all hall hs hnap haf=>?_;dsimp only [go_sem];refine Zq5 hall hs haf hnap 6 6 [3,3,1,2,2,1] [(242,[.agg [.sl 3 (List.map Place.row x1.Places)],.ptr 5 1,.sl 4 (List.map Sess.row x36.1.Sess)]),(3,[.iv x43]),(2,[.ptr 1 1,.iv x2.Node])] (by kernel_rfl) ?_;dsimp only [go_sem];obtain ⟨x45,ex45,h⟩:=Bs h;refine Z05 hall hs haf hnap 3 Sess.row ex45 rfl rfl trivial rfl rfl rfl rfl ?_;refine Zp5 hall hs haf hnap 2 3 ?_;dsimp only [go_sem];refine An ?_
               obtain ⟨x46,ex46,h⟩:=Bs h;refine Z05 hall hs haf hnap 7 Zb5 ex46 rfl rfl trivial rfl rfl rfl rfl ?_;refine Zp5 hall hs haf hnap 1 1 ?_;dsimp only [go_sem];refine An ?_;refine Z34 11 rfl ?_;obtain ⟨x47,ex47,h⟩:=Bs h;refine Z84 hall rfl trivial (Z8t x1 x46 x2.Node _ ex47) (h:=?_);dsimp only [go_sem];refine Z24 rfl ?_ _;refine Zw4 h rfl (fun _ h=>?_) fun _ h=>?_
               ·refine Zt2 6 ?_;dsimp only [go_sem];refine An ?_;exact Z45 (res:=fun (r:(Model×Int))=>.tup [.agg (Model.row r.1),.iv r.2]) ok11 (Zt4 h hout1)
               ·refine Zt2 7 ?_;dsimp only [go_sem];refine An ?_;exact Z55 h hin1
              ·refine Zt2 1 ?_;dsimp only [go_sem];refine An ?_;exact Z65 J11 (s:=()) (Zt4 h hout1)
           ·refine Z35 225 h rfl (fun _ h=>?_) fun _ h=>?_
            ·dsimp only [go_sem];refine Zt2 6 ?_;dsimp only [go_sem];refine An ?_;exact Z65 J10 (s:=true) h
            ·dsimp only [go_sem];refine Zt2 6 ?_;dsimp only [go_sem];refine An ?_;exact Z65 J10 (s:=!decide (x36.2.1=x2.ID)) h
          ·refine Zt2 6 ?_;dsimp only [go_sem];refine An ?_
           refine Zu4 (fun (x54:Bool)=>(⟨(.any :: .any :: .ptr 0 0 :: .ptr 1 0 :: .ptr 2 0 :: .any :: .ptr 3 0 :: .any :: .ptr 4 0::an 168 (.iv x2.Kind::an 79 (.bv x54::an 55 []))),[some ⟨35,[.sl 3 (List.map Place.row x1.Places)]⟩,some ⟨42,[.iv x2.Kind,.iv x2.Node,.iv x2.ID,.iv x2.Peer,.sl 1 (List.map Zb5 x2.Need)]⟩,some ⟨35,[.nl]⟩,some ⟨35,[.nl]⟩,some ⟨69,[.iv x10.Book.Last,.sl 4 (List.map Sess.row x10.Book.Sess),.sl 1 (List.map Zb5 x10.Live)]⟩],[]⟩:St)) (Zot x1 x2 x10) r ?_ fun J12=>?_
           ·intro x54 h;rw [Zot] at h;(try dsimp only);refine Zw4 h rfl (fun _ h=>?_) fun _ h=>?_
            ·refine Zt2 6 ?_;dsimp only [go_sem];refine An ?_;obtain ⟨x55,ex55,h⟩:=Bs h;refine Z73 trivial (Zhs x10.Book x2.ID 1 _ ex55) (h:=?_);refine Zt2 13 ?_;dsimp only [go_sem];refine An ?_;refine Zw4 h rfl (fun _ h=>?_) fun _ h=>?_
             ·refine Zt2 6 ?_;dsimp only [go_sem];refine An ?_;exact Z45 (res:=fun (r:(Model×Int))=>.tup [.agg (Model.row r.1),.iv r.2]) ok11 h
             ·refine Zt2 6 ?_;dsimp only [go_sem];refine An ?_;exact Z65 J8 (s:=(Place.mk x55.1 x10.Live)) h
            ·refine Zt2 5 ?_;dsimp only [go_sem];refine An ?_;refine Zw4 h rfl (fun _ h=>?_) fun _ h=>?_
             ·refine Zt2 6 ?_;dsimp only [go_sem];refine An ?_;obtain ⟨x56,ex56,h⟩:=Bs h;refine Z73 trivial (Zhs x10.Book x2.ID 0 _ ex56) (h:=?_);refine Zt2 13 ?_;dsimp only [go_sem];refine An ?_;refine Zw4 h rfl (fun _ h=>?_) fun _ h=>?_
              ·refine Zt2 6 ?_;dsimp only [go_sem];refine An ?_;exact Z45 (res:=fun (r:(Model×Int))=>.tup [.agg (Model.row r.1),.iv r.2]) ok11 h
              ·refine Zt2 6 ?_;dsimp only [go_sem];refine An ?_;exact Z65 J8 (s:=(Place.mk x56.1 x10.Live)) h
             ·refine Zt2 5 ?_;dsimp only [go_sem];refine An ?_;refine Zw4 h rfl (fun _ h=>?_) fun _ h=>?_
              ·refine Zt2 2 ?_;dsimp only [go_sem];refine An ?_;refine Zs3 (by kernel_rfl) fun all hall hs hnap haf=>?_;dsimp only [go_sem];refine Zp5 hall hs haf hnap 5 3 ?_;dsimp only [go_sem];refine An ?_;refine Z34 3 rfl ?_;obtain ⟨x57,ex57,h⟩:=Bs h;refine Z84 hall rfl trivial (Z3t x1 x2.Node _ ex57) (h:=?_);dsimp only [go_sem];refine Z34 6 rfl ?_;obtain ⟨x58,ex58,h⟩:=Bs h;refine Z84 hall rfl trivial (Z8a x57 x2.ID _ ex58) (h:=?_);dsimp only [go_sem];refine Zp5 hall hs haf hnap 1 0 ?_
               dsimp only [go_sem];refine An ?_;refine Z24 rfl ?_ _;refine Zw4 h rfl (fun _ h=>?_) fun _ h=>?_
               ·refine Zt2 6 ?_;dsimp only [go_sem];refine An ?_;exact Z45 (res:=fun (r:(Model×Int))=>.tup [.agg (Model.row r.1),.iv r.2]) ok11 h
               ·refine Zt2 1 ?_;dsimp only [go_sem];refine An ?_;refine Zs3 (by kernel_rfl) fun all hall hs hnap haf=>?_;dsimp only [go_sem];refine Zp5 hall hs haf hnap 6 4 ?_;dsimp only [go_sem];refine An ?_;refine Z34 6 rfl ?_;obtain ⟨x59,ex59,h⟩:=Bs h;refine Z84 hall rfl trivial (Zcs x10.Book x2.ID _ ex59) (h:=?_);dsimp only [go_sem];refine Z34 7 rfl ?_;obtain ⟨x60,ex60,h⟩:=Bs h;refine Z84 hall rfl trivial (Zfs x10.Book x59 _ ex60) (h:=?_);dsimp only [go_sem];refine Zp5 hall hs haf hnap 1 1 ?_
                dsimp only [go_sem];refine An ?_;refine Z34 9 rfl ?_;refine Z74 hall rfl trivial ?_;dsimp only [go_sem];refine Z24 rfl ?_ _;exact Z65 J8 (s:=(Place.mk x60 x10.Live)) h
              ·refine Zt2 6 ?_;dsimp only [go_sem];refine An ?_;exact Z45 (res:=fun (r:(Model×Int))=>.tup [.agg (Model.row r.1),.iv r.2]) ok11 h
           ·refine Zw4 h rfl (fun _ h=>?_) fun _ h=>?_
            ·refine Zt2 1 ?_;dsimp only [go_sem];refine An ?_;exact Z65 J12 (s:=decide (x2.Kind=2)) h
            ·refine Zt2 4 ?_;dsimp only [go_sem];refine An ?_;exact Z65 J12 (s:=decide (x2.Kind=4)) h
     ·refine Z35 62 h rfl (fun _ h=>?_) fun _ h=>?_
      ·dsimp only [go_sem];refine Zt2 3 ?_;dsimp only [go_sem];refine An ?_;obtain ⟨x8,ex8,h⟩:=Bs h;refine Z73 trivial (Z3t x1 x2.Node _ ex8) (h:=?_);refine Zt2 4 ?_;dsimp only [go_sem];refine An ?_;exact Z65 J3 (s:=decide (0<(ln Zb5 x8))) h
      ·dsimp only [go_sem];refine Zt2 8 ?_;dsimp only [go_sem];refine An ?_;exact Z65 J3 (s:=false) h
   ·refine Z35 41 h rfl (fun _ h=>?_) fun _ h=>?_
    ·dsimp only [go_sem];refine Zt2 17 ?_;dsimp only [go_sem];refine An ?_;exact Z65 J2 (s:=true) h
    ·dsimp only [go_sem];refine Zt2 2 ?_;dsimp only [go_sem];refine An ?_;refine Z35 43 h rfl (fun _ h=>?_) fun _ h=>?_
     ·dsimp only [go_sem];refine Zt2 3 ?_;dsimp only [go_sem];refine An ?_;obtain ⟨x6,ex6,h⟩:=Bs h;refine Z73 trivial (Zms x1 x2.Peer _ ex6) (h:=?_);refine Zt2 2 ?_;dsimp only [go_sem];refine An ?_;refine Z35 49 h rfl (fun _ h=>?_) fun _ h=>?_
      ·dsimp only [go_sem];refine Zt2 9 ?_;dsimp only [go_sem];refine An ?_;exact Z65 J2 (s:=true) h
      ·dsimp only [go_sem];refine Zt2 9 ?_;dsimp only [go_sem];refine An ?_;exact Z65 J2 (s:=decide (x2.Peer=x2.Node)) h
     ·dsimp only [go_sem];refine Zt2 15 ?_;dsimp only [go_sem];refine An ?_;exact Z65 J2 (s:=false) h
  ·refine Z35 31 h rfl (fun _ h=>?_) fun _ h=>?_
   ·dsimp only [go_sem];refine Zt2 6 ?_;dsimp only [go_sem];refine An ?_;exact Z65 J1 (s:=decide (x2.Kind≤8)) h
   ·dsimp only [go_sem];refine Zt2 6 ?_;dsimp only [go_sem];refine An ?_;exact Z65 J1 (s:=false) h
set_option maxRecDepth 100000
set_option maxHeartbeats 4000000
@[go_sem] def e10_L0:EC:=.seq (.seq (.reg [(Qm 6 4),(Qf 7 0 1),(Ql 8 7),(Qa 9 (.bin .lss (.t 6) (.t 8)))]) (.ite (.t 9) (.skip) (.exit 0))) (.seq (.blk 1 (.drw [(Qf 12 0 3),(Ql 13 12),(Qe 14 2 1),(Qm 15 4),(Qa 16 (.call 26 [(.t 14),(.t 15)])),(Qa 17 (.build [.iv 0,.nl,.nl] [(2,1,(.t 16))])),(Qa 18 (.bsl 69 3 1 [.iv 0,.nl,.nl] [(0,(.t 17))])),(Qa 19 (.app 69 3 56 (.t 13) (.t 18))),(Qf 20 0 3),(Qs 1 20 19)] [[],[0],[],[],[2,3],[4],[5],[1,6,4],[0,1,2,3,4,5,6,7],[8,7,7,0,1,2,3,4,5,6,7]] [[1],[0,7],[4],[4],[2,3,5],[4,6],[5,7],[1,6,9],[9],[7,8]])) (.reg [(Qm 10 4),(Qv 11 10 1),(Qm 4 11)]))
@[go_sem] def e10:EC:=.seq (.reg [(Qx 1 24 2 0),(Qa 2 (.alloc 35 [.nl]))]) (.seq (.reg [(Qa 5 (.build [.nl] [])),(Qa 3 (.alloc 35 [.nl])),(Qs 1 3 5)]) (.seq (.seq (.reg [(Qi 4 0)]) (.blk 0 (.loop e10_L0))) (.seq (.reg [(Qe 21 1 3),(Qs 1 2 21)]) (.ret))))
theorem ok10:FnOK Tryz.prog 10 Tryz.f10 e10 [.c 2 (some 1)] 1 21:=⟨by kernel_rfl,⟨_,rfl,by kernel_rfl⟩,by kernel_rfl,by kernel_rfl⟩
noncomputable def Zut:(List Place)→Option Model
| x25=>
 some (Model.mk x25)
noncomputable def Zvt (x1:Graph):(Int×(List Place))→Option ((Int×(List Place)) ⊕ Model)
| (x6,x7)=>
 ifb (decide (x6<x1.N)) (
 (Zxq x1 x6).bind fun x8=>
 (Zh4 56 x7 ([(Place.mk ((Book.mk 0 (([]:List Sess)))) x8)])).bind fun x10=>
 some (.inl (wr (x6+1),x10))) (
 Option.map Sum.inr (Zut x7))
noncomputable def Zwt (x1:Graph):Option Model:=
 loop (Zvt x1) (0,([]:List Place))
theorem Zxt (x1:Graph) (r:Model) (h:Zwt x1=some r):Zy2 Tryz.prog 10 [.agg (Graph.row x1)] (.agg (Model.row r)):=by
 refine Z23 ok10 rfl rfl fun w0 H0=>?_
 rw [Zwt] at h
 refine Zt2 16 ?_;dsimp only [go_sem];refine An ?_;refine Zu4 (fun (x25:(List Place))=>(⟨(.any :: .any :: .ptr 1 0 :: .ptr 2 0::an 18 []),[none,some ⟨35,[.nl]⟩,some ⟨35,[.osl 0]⟩],[some ⟨69,3,List.map Place.row x25⟩]⟩:St)) Zut r ?_ fun J1=>?_
 ·intro x25 h;rw [Zut] at h;(try dsimp only);refine Zt2 5 ?_;dsimp only [go_sem];refine An ?_;refine Zk3 0 rfl ?_;dsimp only [go_sem];exact Z45 (res:=fun (r:Model)=>.agg (Model.row r)) ok10 h
 ·refine Zt2 1 ?_;dsimp only [go_sem];refine An ?_;refine V_ownB 2 0 69 3 rfl rfl rfl ?_;dsimp only [go_sem];refine Zv4 h (fun ((x6,x7):(Int×(List Place)))=>(⟨(.any :: .ptr 0 0 :: .ptr 1 0 :: .ptr 2 0 :: .iv x6::an 17 []),[some ⟨24,[.iv x1.N,.sl 2 (List.map Edge.row x1.Edges)]⟩,some ⟨35,[.nl]⟩,some ⟨35,[.osl 0]⟩],[some ⟨69,3,List.map Place.row x7⟩]⟩:St)) (by simp [go_sem]) (by rintro ⟨x6,x7⟩;first | rfl | simp [go_sem]) ?_;rintro n1 ⟨x6,x7⟩ y1 h hin1 hout1;rw [Zvt] at h;(try dsimp only);refine Zt2 8 ?_;dsimp only [go_sem];refine An ?_
  refine Zw4 h rfl (fun _ h=>?_) fun _ h=>?_
  ·refine Zt2 3 ?_;dsimp only [go_sem];refine An ?_;refine Zs3 (by kernel_rfl) fun all hall hs hnap haf=>?_;dsimp only [go_sem];refine Zp5 hall hs haf hnap 3 7 ?_;dsimp only [go_sem];refine An ?_;obtain ⟨x8,ex8,h⟩:=Bs h;refine Z44 1 4 rfl ?_ ?_
   ·refine Z74 hall rfl trivial ?_;dsimp only [go_sem];refine Z34 4 rfl ?_;refine Z84 hall rfl trivial (Zzq x1 x6 _ ex8) (h:=?_);dsimp only [go_sem];refine Z34 5 rfl ?_;refine Zb6 (.agg [.iv 0,.sl 4 (List.map Sess.row (([]:List Sess))),.sl 1 (List.map Zb5 x8)]) hall rfl trivial (by simp [go_sem]) ?_;dsimp only [go_sem];refine Z34 6 rfl ?_;refine Z74 hall rfl trivial ?_;dsimp only [go_sem];refine Z34 7 rfl ?_;obtain ⟨x10,ex10,h⟩:=Bs h;refine Z25 Place.row ex10 hall rfl trivial rfl rfl rfl ?_;dsimp only [go_sem]
    refine Zp5 hall hs haf hnap 1 1 ?_;dsimp only [go_sem];refine An ?_;refine Z34 9 rfl ?_;refine Z74 hall rfl trivial ?_;dsimp only [go_sem];refine Z24 rfl ?_ _;refine Zt2 6 ?_;dsimp only [go_sem];refine An ?_;refine Zd4 2 0 rfl rfl rfl ?_;dsimp only [go_sem];exact Z55 h hin1
   ·refine Z84 hall rfl trivial (Zzq x1 x6 _ ex8) (h:=?_);dsimp only [go_sem];refine Z44 1 5 rfl ?_ ?_
    ·refine Z74 hall rfl trivial ?_;dsimp only [go_sem];refine Z34 5 rfl ?_;refine Zb6 (.agg [.iv 0,.sl 4 (List.map Sess.row (([]:List Sess))),.sl 1 (List.map Zb5 x8)]) hall rfl trivial (by simp [go_sem]) ?_;dsimp only [go_sem];refine Z34 6 rfl ?_;refine Z74 hall rfl trivial ?_;dsimp only [go_sem];refine Z34 7 rfl ?_;obtain ⟨x10,ex10,h⟩:=Bs h;refine Z25 Place.row ex10 hall rfl trivial rfl rfl rfl ?_;dsimp only [go_sem];refine Zp5 hall hs haf hnap 1 1 ?_;dsimp only [go_sem];refine An ?_;refine Z34 9 rfl ?_;refine Z74 hall rfl trivial ?_
     dsimp only [go_sem];refine Z24 rfl ?_ _;refine Zt2 6 ?_;dsimp only [go_sem];refine An ?_;refine Zd4 2 0 rfl rfl rfl ?_;dsimp only [go_sem];exact Z55 h hin1
    ·refine Zb6 (.agg [.iv 0,.sl 4 (List.map Sess.row (([]:List Sess))),.sl 1 (List.map Zb5 x8)]) hall rfl trivial (by simp [go_sem]) ?_;dsimp only [go_sem];refine Z44 1 6 rfl ?_ ?_
     ·refine Z74 hall rfl trivial ?_;dsimp only [go_sem];refine Z34 6 rfl ?_;refine Z74 hall rfl trivial ?_;dsimp only [go_sem];refine Z34 7 rfl ?_;obtain ⟨x10,ex10,h⟩:=Bs h;refine Z25 Place.row ex10 hall rfl trivial rfl rfl rfl ?_;dsimp only [go_sem];refine Zp5 hall hs haf hnap 1 1 ?_;dsimp only [go_sem];refine An ?_;refine Z34 9 rfl ?_;refine Z74 hall rfl trivial ?_;dsimp only [go_sem];refine Z24 rfl ?_ _;refine Zt2 6 ?_;dsimp only [go_sem];refine An ?_;refine Zd4 2 0 rfl rfl rfl ?_;dsimp only [go_sem];exact Z55 h hin1
     ·refine Z74 hall rfl trivial ?_;dsimp only [go_sem];refine Z34 1 rfl ?_;refine Z74 hall rfl trivial ?_;dsimp only [go_sem];refine Z34 7 rfl ?_;obtain ⟨x10,ex10,h⟩:=Bs h;refine Z25 Place.row ex10 hall rfl trivial rfl rfl rfl ?_;dsimp only [go_sem];refine Zp5 hall hs haf hnap 1 1 ?_;dsimp only [go_sem];refine An ?_;refine Z34 9 rfl ?_;refine Z74 hall rfl trivial ?_;dsimp only [go_sem];refine Z24 rfl ?_ _;refine Zt2 6 ?_;dsimp only [go_sem];refine An ?_;refine Zd4 2 0 rfl rfl rfl ?_;dsimp only [go_sem];exact Z55 h hin1
  ·refine Zt2 1 ?_;dsimp only [go_sem];refine An ?_;exact Z65 J1 (s:=x7) (Zt4 h hout1)
set_option maxRecDepth 100000
set_option maxHeartbeats 4000000
@[go_sem] def e3_L0:EC:=.seq (.seq (.reg [(Qm 50 8),(Qm 51 1),(Qa 52 (.len (.t 51))),(Qa 53 (.bin .lss (.t 50) (.t 52)))]) (.ite (.t 53) (.skip) (.exit 0))) (.seq (.blk 1 (.seq (.drw [(Qe 57 1 7),(Qm 58 1),(Qm 59 8),(Qk 60 5 58 59),(Qe 61 5 60),(Qa 62 (.call 11 [(.t 57),(.t 61)])),(Qm 56 62),(Qa 63 (.ext (.t 56) 0)),(Qa 64 (.ext (.t 56) 1)),(Qa 9 (.alloc 35 [.nl])),(Qs 1 9 63),(Qm 10 64)] [[],[],[],[1,2],[3],[0,4],[5],[6],[6],[],[9,7,5,0,1,2,3,4,5,6,7,9],[8,10,0,1,2,3,4,5,6,7,8,9,10]] [[5],[3],[3],[1,2,4],[3,5],[0,4,6],[5,7,8],[6,10],[6,11],[10],[7,9],[8]]) (.seq (.seq (.reg [(Qm 65 10),(Qa 66 (.bin .neq (.t 65) (.c (.iv 0))))]) (.ite (.t 66) (.seq (.reg [(Qm 67 5),(Qm 68 8),(Qa 69 (.bin .eql (.t 67) (.t 68))),(Qm 70 69),(Qg 71 70 true (.mv (.t 6))),(Qg 72 70 true (.mv (.t 10))),(Qg 73 70 true (.bin .eql (.t 71) (.t 72))),(Qp 74 70 73),(Qm 4 74)]) (.ret)) (.skip))) (.reg [(Qe 75 1 9),(Qs 1 7 75)])))) (.reg [(Qm 54 8),(Qv 55 54 1),(Qm 8 55)]))
@[go_sem] def e3:EC:=.seq (.reg [(Qx 2 24 2 0),(Qa 4 (.mv (.c .ff)))]) (.seq (.seq (.reg [(Qa 13 (.call 5 [])),(Qa 14 (.not (.t 13))),(Qm 15 14),(Qg 16 15 false (.mv (.t 1))),(Qg 17 15 false (.call 6 [(.t 16)])),(Qg 18 15 false (.not (.t 17))),(Qq 19 15 18),(Qm 20 19),(Qh 21 20 false 1 2),(Qn 22 20 false 21),(Qg 23 20 false (.len (.t 22))),(Qg 24 20 false (.bin .gtr (.t 23) (.c (.iv 60)))),(Qq 25 20 24),(Qm 26 25),(Qh 27 26 false 0 2),(Qn 28 26 false 27),(Qg 29 26 false (.bin .gtr (.t 28) (.c (.iv 12)))),(Qq 30 26 29)]) (.ite (.t 30) (.seq (.reg [(Qa 31 (.call 5 [])),(Qm 4 31)]) (.ret)) (.skip))) (.seq (.reg [(Qe 33 2 2),(Qa 34 (.call 8 [(.t 33)])),(Qm 35 1),(Qa 36 (.call 7 [(.t 34),(.t 35)])),(Qm 32 36),(Qa 37 (.ext (.t 32) 0)),(Qa 38 (.ext (.t 32) 1)),(Qm 5 37),(Qm 6 38)]) (.seq (.seq (.reg [(Qe 39 2 2),(Qa 40 (.call 9 [(.t 39)])),(Qa 41 (.not (.t 40)))]) (.ite (.t 41) (.seq (.reg [(Qm 42 5),(Qa 43 (.bin .eql (.t 42) (.c (.iv 0)))),(Qm 44 43),(Qg 45 44 true (.mv (.t 6))),(Qg 46 44 true (.bin .eql (.t 45) (.c (.iv 30)))),(Qp 47 44 46),(Qm 4 47)]) (.ret)) (.skip))) (.seq (.reg [(Qe 48 2 2),(Qa 49 (.call 10 [(.t 48)])),(Qa 7 (.alloc 35 [.nl])),(Qs 1 7 49)]) (.seq (.seq (.reg [(Qi 8 0)]) (.blk 0 (.loop e3_L0))) (.seq (.reg [(Qe 77 2 2),(Qa 78 (.call 8 [(.t 77)])),(Qa 79 (.call 12 [(.t 78)])),(Qm 76 79),(Qa 80 (.ext (.t 76) 0)),(Qa 81 (.ext (.t 76) 1)),(Qa 11 (.alloc 35 [.nl])),(Qs 1 11 80),(Qm 12 81)]) (.seq (.drw [(Qm 82 5),(Qm 83 1),(Qa 84 (.len (.t 83))),(Qa 85 (.bin .eql (.t 82) (.t 84))),(Qm 86 85),(Qg 87 86 true (.mv (.t 6))),(Qg 88 86 true (.bin .eql (.t 87) (.c (.iv 0)))),(Qp 89 86 88),(Qm 90 89),(Qg 91 90 true (.mv (.t 12))),(Qg 92 90 true (.bin .eql (.t 91) (.c (.iv 0)))),(Qp 93 90 92),(Qm 94 93),(Qg 95 94 true (.loadA 1 (.t 11))),(Qg 96 94 true (.loadA 2 (.t 2))),(Qg 97 94 true (.call 10 [(.t 96)])),(Qg 98 94 true (.call 13 [(.t 95),(.t 97)])),(Qp 99 94 98),(Qm 4 99)] [[],[],[1],[0,2],[3],[4],[5,4],[4,6],[7,4],[8],[9,8],[8,10],[11,8],[12],[12],[14,12,12],[13,15,15,12],[12,16],[17,16,0,1,2,3,4,5,6,7,8,9,10,11,12,13,14,15,16,17]] [[3],[2],[1,3],[0,2,4],[3,5,6,7],[4,6],[4,5,7],[4,6,8],[7,9,10,11],[8,10],[8,9,11],[8,10,12],[11,13,14,15,16,17],[12,16],[12,15],[12,14,16],[12,13,15,17],[12,16,18],[17]]) (.ret))))))))
theorem ok3:FnOK Tryz.prog 3 Tryz.f3 e3 [.t 4] 2 98:=⟨by kernel_rfl,⟨_,rfl,by kernel_rfl⟩,by kernel_rfl,by kernel_rfl⟩
noncomputable def Zyt:Bool→Option Bool
| x10=>
 some x10
noncomputable def Zzt:Bool→Option Bool
| x40=>
 some x40
noncomputable def Z0u (x1:Graph) (x2:(List Event)) (x8:(Int×Int)):Unit→Option Bool
| ()=>
 (Z3a x1).bind fun x36=>
 (Zmm x36).bind fun x37=>
 ifb (decide (x8.1=(ln Event.row x2))) (
 ifb (decide (x8.2=0)) (
 ifb (decide (x37.2=0)) (
 (Zwt x1).bind fun x38=>
 (Z6q x37.1 x38).bind fun x39=>
 Zzt x39) (
 Zzt false)) (
 Zzt false)) (
 Zzt false)
noncomputable def Z1u:Bool→Option ((Int×(List Place)) ⊕ Bool)
| x27=>
 Option.map Sum.inr (some x27)
noncomputable def Z2u (x8:(Int×Int)) (x20:Int):(Int×(List Place))→Option ((Int×(List Place)) ⊕ Bool)
| (x25,x26)=>
 ifb (!decide (x25=0)) (
 ifb (decide (x8.1=x20)) (
 Z1u (decide (x8.2=x25))) (
 Z1u false)) (
 some (.inl (wr (x20+1),x26)))
noncomputable def Z3u (x1:Graph) (x2:(List Event)) (x8:(Int×Int)):(Int×(List Place))→Option ((Int×(List Place)) ⊕ Bool)
| (x20,x21)=>
 ifb (decide (x20<(ln Event.row x2))) (
 (at_ x2 x20).bind fun x22=>
 (Zst ((Model.mk x21)) x22).bind fun x23=>
 (Z2u x8 x20) (x23.2,x23.1.Places)) (
 Option.map Sum.inr ((Z0u x1 x2 x8) ()))
noncomputable def Z4u (x1:Graph) (x2:(List Event)):Bool→Option Bool
| x5=>
 ifb x5 (
 (Zjp).bind fun x6=>
 some x6) (
 (Z3a x1).bind fun x7=>
 (Ztn x7 x2).bind fun x8=>
 (Zmq x1).bind fun x9=>
 ifb (!x9) (
 ifb (decide (x8.1=0)) (
 Zyt (decide (x8.2=30))) (
 Zyt false)) (
 (Zwt x1).bind fun x11=>
 loop (Z3u x1 x2 x8) (0,x11.Places)))
noncomputable def Z5u (x1:Graph) (x2:(List Event)):Option Bool:=
 (Zjp).bind fun x3=>
 ifb (!x3) (
 (Z4u x1 x2) true) (
 (Zup x2).bind fun x4=>
 ifb (!x4) (
 (Z4u x1 x2) true) (
 ifb (decide (60<(ln Edge.row x1.Edges))) (
 (Z4u x1 x2) true) (
 (Z4u x1 x2) (decide (12<x1.N)))))
theorem Z6u (x1:Graph) (x2:(List Event)) (r:Bool) (h:Z5u x1 x2=some r):Zy2 Tryz.prog 3 [.agg (Graph.row x1),.sl 5 (List.map Event.row x2)] (.bv r):=by
 refine Z23 ok3 rfl rfl fun w0 H0=>?_
 rw [Z5u] at h
 refine Zt2 8 ?_;dsimp only [go_sem];refine An ?_;obtain ⟨x3,ex3,h⟩:=Bs h;refine Z73 trivial (Zkp _ ex3) (h:=?_);refine Zt2 2 ?_;dsimp only [go_sem];refine An ?_;refine Zu4 (fun (x5:Bool)=>(⟨(.any :: .sl 5 (List.map Event.row x2) :: .ptr 0 0::an 27 (.bv x5::an 69 [])),[some ⟨24,[.iv x1.N,.sl 2 (List.map Edge.row x1.Edges)]⟩],[]⟩:St)) (Z4u x1 x2) r ?_ fun J1=>?_
 ·intro x5 h;rw [Z4u] at h;(try dsimp only);refine Zw4 h rfl (fun _ h=>?_) fun _ h=>?_
  ·refine Zt2 2 ?_;dsimp only [go_sem];refine An ?_;obtain ⟨x6,ex6,h⟩:=Bs h;refine Z73 trivial (Zkp _ ex6) (h:=?_);refine Zt2 2 ?_;dsimp only [go_sem];refine An ?_;exact Z45 (res:=fun (r:Bool)=>.bv r) ok3 h
  ·refine Zt2 4 ?_;dsimp only [go_sem];refine An ?_;obtain ⟨x7,ex7,h⟩:=Bs h;refine Z73 trivial (Z4a x1 _ ex7) (h:=?_);refine Zt2 1 ?_;dsimp only [go_sem];refine An ?_;obtain ⟨x8,ex8,h⟩:=Bs h;refine Z73 trivial (Zun x7 x2 _ ex8) (h:=?_);refine Zt2 10 ?_;dsimp only [go_sem];refine An ?_;obtain ⟨x9,ex9,h⟩:=Bs h;refine Z73 trivial (Znq x1 _ ex9) (h:=?_);refine Zt2 2 ?_;dsimp only [go_sem];refine An ?_;refine Zw4 h rfl (fun _ h=>?_) fun _ h=>?_
   ·refine Zt2 5 ?_;dsimp only [go_sem];refine An ?_;refine Zu4 (fun (x10:Bool)=>(⟨(an 4 (.bv x10::an 95 [])),[],[]⟩:St)) Zyt r ?_ fun J2=>?_
    ·intro x10 h;rw [Zyt] at h;(try dsimp only);exact Z45 (res:=fun (r:Bool)=>.bv r) ok3 h
    ·refine Z35 44 h rfl (fun _ h=>?_) fun _ h=>?_
     ·dsimp only [go_sem];refine Zt2 5 ?_;dsimp only [go_sem];refine An ?_;exact Z65 J2 (s:=decide (x8.2=30)) h
     ·dsimp only [go_sem];refine Zt2 5 ?_;dsimp only [go_sem];refine An ?_;exact Z65 J2 (s:=false) h
   ·refine Zt2 4 ?_;dsimp only [go_sem];refine An ?_;obtain ⟨x11,ex11,h⟩:=Bs h;refine Z73 trivial (Zxt x1 _ ex11) (h:=?_);refine Zt2 8 ?_;dsimp only [go_sem];refine An ?_;refine Zu4 (fun (_:Unit)=>(⟨(.any :: .sl 5 (List.map Event.row x2) :: .ptr 0 0 :: .any :: .any :: .iv x8.1 :: .iv x8.2::an 93 []),[some ⟨24,[.iv x1.N,.sl 2 (List.map Edge.row x1.Edges)]⟩],[]⟩:St)) (Z0u x1 x2 x8) r ?_ fun J3=>?_
    ·rintro ⟨⟩ h;rw [Z0u] at h;(try dsimp only);refine Zt2 3 ?_;dsimp only [go_sem];refine An ?_;obtain ⟨x36,ex36,h⟩:=Bs h;refine Z73 trivial (Z4a x1 _ ex36) (h:=?_);obtain ⟨x37,ex37,h⟩:=Bs h;refine Z73 trivial (Znm x36 _ ex37) (h:=?_);refine Zt2 8 ?_;dsimp only [go_sem];refine An ?_;refine Zu4 (fun (x40:Bool)=>(⟨(an 4 (.bv x40::an 95 [])),[],[]⟩:St)) Zzt r ?_ fun J6=>?_
     ·intro x40 h;rw [Zzt] at h;(try dsimp only);exact Z45 (res:=fun (r:Bool)=>.bv r) ok3 h
     ·refine Zs3 (by kernel_rfl) fun all hall hs hnap haf=>?_;dsimp only [go_sem];refine Zq5 hall hs haf hnap 5 14 [5,14] [(82,[.iv x8.1,.sl 5 (List.map Event.row x2),.iv (ln Event.row x2),.bv (decide (x8.1=(ln Event.row x2))),.bv (decide (x8.1=(ln Event.row x2)))])] (by kernel_rfl) ?_;dsimp only [go_sem];refine Ze5 86 h rfl (fun _ h=>?_) fun _ h=>?_
      ·dsimp only [go_sem];refine Zq5 hall hs haf hnap 4 10 [9,10] [(87,[.iv x8.2,.bv (decide (x8.2=0)),.bv (decide (x8.2=0)),.bv (decide (x8.2=0))])] (by kernel_rfl) ?_;dsimp only [go_sem];refine Ze5 90 h rfl (fun _ h=>?_) fun _ h=>?_
       ·dsimp only [go_sem];refine Zq5 hall hs haf hnap 4 6 [13,6] [(91,[.iv x37.2,.bv (decide (x37.2=0)),.bv (decide (x37.2=0)),.bv (decide (x37.2=0))])] (by kernel_rfl) ?_;dsimp only [go_sem];refine Ze5 94 h rfl (fun _ h=>?_) fun _ h=>?_
        ·dsimp only [go_sem];refine Zp5 hall hs haf hnap 2 4 ?_;dsimp only [go_sem];refine An ?_;refine Z34 15 rfl ?_;obtain ⟨x38,ex38,h⟩:=Bs h;refine Z84 hall rfl trivial (Zxt x1 _ ex38) (h:=?_);dsimp only [go_sem];refine Z34 16 rfl ?_;obtain ⟨x39,ex39,h⟩:=Bs h;refine Z84 hall rfl trivial (Z7q x37.1 x38 _ ex39) (h:=?_);dsimp only [go_sem];refine Zp5 hall hs haf hnap 2 0 ?_;dsimp only [go_sem];refine An ?_;refine Z24 rfl ?_ _;exact Z65 J6 (s:=x39) h
        ·dsimp only [go_sem];refine Zq5 hall hs haf hnap 6 0 [19] [(4,[.ff]),(90,[.un,.un,.un,.un,.ff])] (by kernel_rfl) ?_;dsimp only [go_sem];refine Z24 rfl ?_ _;exact Z65 J6 (s:=false) h
       ·dsimp only [go_sem];refine Zq5 hall hs haf hnap 10 0 [19] [(4,[.ff]),(86,[.un,.un,.ff,.ff,.un,.un,.un,.un,.ff])] (by kernel_rfl) ?_;dsimp only [go_sem];refine Z24 rfl ?_ _;exact Z65 J6 (s:=false) h
      ·dsimp only [go_sem];refine Zq5 hall hs haf hnap 14 0 [19] [(4,[.ff]),(82,[.un,.un,.ff,.ff,.un,.un,.ff,.ff,.un,.un,.un,.un,.ff])] (by kernel_rfl) ?_;dsimp only [go_sem];refine Z24 rfl ?_ _;exact Z65 J6 (s:=false) h
    ·refine Zt2 1 ?_;dsimp only [go_sem];refine An ?_;refine Zv4 h (fun ((x20,x21):(Int×(List Place)))=>(⟨(.any :: .sl 5 (List.map Event.row x2) :: .ptr 0 0 :: .any :: .any :: .iv x8.1 :: .iv x8.2 :: .ptr 1 0 :: .iv x20::an 91 []),[some ⟨24,[.iv x1.N,.sl 2 (List.map Edge.row x1.Edges)]⟩,some ⟨35,[.sl 3 (List.map Place.row x21)]⟩],[]⟩:St)) (by simp [go_sem]) (by rintro ⟨x20,x21⟩;first | rfl | simp [go_sem]) ?_;rintro n1 ⟨x20,x21⟩ y1 h hin1 hout1;rw [Z3u] at h;(try dsimp only);refine Zt2 8 ?_;dsimp only [go_sem];refine An ?_
     refine Zw4 h rfl (fun _ h=>?_) fun _ h=>?_
     ·refine Zt2 4 ?_;dsimp only [go_sem];refine An ?_;refine Zu4 (fun ((x25,x26):(Int×(List Place)))=>(⟨(.any :: .sl 5 (List.map Event.row x2) :: .ptr 0 0 :: .any :: .any :: .iv x8.1 :: .iv x8.2 :: .ptr 1 0 :: .iv x20 :: .ptr 2 0 :: .iv x25::an 89 []),[some ⟨24,[.iv x1.N,.sl 2 (List.map Edge.row x1.Edges)]⟩,some ⟨35,[.sl 3 (List.map Place.row x21)]⟩,some ⟨35,[.sl 3 (List.map Place.row x26)]⟩],[]⟩:St)) (Z2u x8 x20) y1 ?_ fun J4=>?_
      ·rintro ⟨x25,x26⟩ h;rw [Z2u] at h;(try dsimp only);refine Zt2 6 ?_;dsimp only [go_sem];refine An ?_;refine Zw4 h rfl (fun _ h=>?_) fun _ h=>?_
       ·refine Zt2 6 ?_;dsimp only [go_sem];refine An ?_;refine Zu4 (fun (x27:Bool)=>(⟨(an 4 (.bv x27::an 95 [])),[],[]⟩:St)) Z1u y1 ?_ fun J5=>?_
        ·intro x27 h;rw [Z1u] at h;(try dsimp only);exact Z45 (res:=fun (r:Bool)=>.bv r) ok3 (Zt4 h hout1)
        ·refine Z35 70 h rfl (fun _ h=>?_) fun _ h=>?_
         ·dsimp only [go_sem];refine Zt2 6 ?_;dsimp only [go_sem];refine An ?_;exact Z65 J5 (s:=decide (x8.2=x25)) h
         ·dsimp only [go_sem];refine Zt2 6 ?_;dsimp only [go_sem];refine An ?_;exact Z65 J5 (s:=false) h
       ·refine Zt2 11 ?_;dsimp only [go_sem];refine An ?_;exact Z55 h hin1
      ·refine Zs3 (by kernel_rfl) fun all hall hs hnap haf=>?_;dsimp only [go_sem];refine Zp5 hall hs haf hnap 3 9 ?_;dsimp only [go_sem];refine An ?_;obtain ⟨x22,ex22,h⟩:=Bs h;refine Z05 hall hs haf hnap 3 Event.row ex22 rfl rfl trivial rfl rfl rfl rfl ?_;refine Zp5 hall hs haf hnap 1 7 ?_;dsimp only [go_sem];refine An ?_;obtain ⟨x23,ex23,h⟩:=Bs h;refine Z44 5 9 rfl ?_ ?_
       ·refine Z84 hall rfl trivial (Ztt ((Model.mk x21)) x22 _ ex23) (h:=?_);dsimp only [go_sem];refine Zp5 hall hs haf hnap 3 3 ?_;dsimp only [go_sem];refine An ?_;refine Z34 9 rfl ?_;refine Z74 hall rfl trivial ?_;dsimp only [go_sem];refine Z34 10 rfl ?_;refine Z74 hall rfl trivial ?_;dsimp only [go_sem];refine Zp5 hall hs haf hnap 1 0 ?_;dsimp only [go_sem];refine An ?_;refine Z24 rfl ?_ _;exact Z65 J4 (s:=(x23.2,x23.1.Places)) h
       ·refine Z74 hall rfl trivial ?_;dsimp only [go_sem];refine Z34 5 rfl ?_;refine Z84 hall rfl trivial (Ztt ((Model.mk x21)) x22 _ ex23) (h:=?_);dsimp only [go_sem];refine Zp5 hall hs haf hnap 3 2 ?_;dsimp only [go_sem];refine An ?_;refine Z34 10 rfl ?_;refine Z74 hall rfl trivial ?_;dsimp only [go_sem];refine Zp5 hall hs haf hnap 1 0 ?_;dsimp only [go_sem];refine An ?_;refine Z24 rfl ?_ _;exact Z65 J4 (s:=(x23.2,x23.1.Places)) h
     ·refine Zt2 1 ?_;dsimp only [go_sem];refine An ?_;exact Z65 J3 (s:=()) (Zt4 h hout1)
 ·refine Z35 15 h rfl (fun _ h=>?_) fun _ h=>?_
  ·dsimp only [go_sem];refine Zt2 16 ?_;dsimp only [go_sem];refine An ?_;exact Z65 J1 (s:=true) h
  ·dsimp only [go_sem];refine Zt2 1 ?_;dsimp only [go_sem];refine An ?_;obtain ⟨x4,ex4,h⟩:=Bs h;refine Z73 trivial (Zvp x2 _ ex4) (h:=?_);refine Zt2 3 ?_;dsimp only [go_sem];refine An ?_;refine Z35 20 h rfl (fun _ h=>?_) fun _ h=>?_
   ·dsimp only [go_sem];refine Zt2 11 ?_;dsimp only [go_sem];refine An ?_;exact Z65 J1 (s:=true) h
   ·dsimp only [go_sem];refine Zt2 6 ?_;dsimp only [go_sem];refine An ?_;refine Z35 26 h rfl (fun _ h=>?_) fun _ h=>?_
    ·dsimp only [go_sem];refine Zt2 5 ?_;dsimp only [go_sem];refine An ?_;exact Z65 J1 (s:=true) h
    ·dsimp only [go_sem];refine Zt2 5 ?_;dsimp only [go_sem];refine An ?_;exact Z65 J1 (s:=decide (12<x1.N)) h
theorem Z7u (m:Model) (a:Int):Zls m a=some (at_ m.Places a).isSome:=by
 simp only [Zls,Zks,Zd5]
 cases h:at_ m.Places a with
 | none=>
   have:=at_none h
   by_cases h0:0≤a
   ·rw [decide_eq_true h0,Ze6,decide_eq_false (by omega)];rfl
   ·rw [decide_eq_false h0];rfl
 | some x=>
   obtain ⟨h0,h1,_⟩:=Zcn h
   rw [decide_eq_true h0,Ze6,decide_eq_true h1];rfl
theorem s_r20due (p:Place) (s:Sess) (hl:p.Live.length≤1000000) (hs:s.Need.length≤1000000):Zws p s=some (dueS p.Live s):=by
 simp only [Zws,dueS]
 have key:loop (Zvs p s) 0=some (if s.Need.any (fun z=>!decide (z∈p.Live)) then true else false):=by
  rw [Zs6 s.Need (Zvs p s) (fun z=>!decide (z∈p.Live)) true false (by omega) (fun k x hx=>by
   simp only [Zvs,Zj6 hx,Ze6,Zh6 hx,Option.bind_some,Z2b p.Live x hl,Zm6 hx (show s.Need.length≤4000000000000000000 by omega),Option.map_some]
   cases decide (x∈p.Live)<;>rfl) (by simp only [Zvs,Zk6,Zf6,Zus,Option.map_some])]
 rw [key]
 have e:s.Need.any (fun z=>!decide (z∈p.Live))=!s.Need.all (fun z=>decide (z∈p.Live)):=Z1b _ _ _ fun _=>rfl
 rw [e]
 by_cases h:s.State=0
 ·cases s.Need.all (fun z=>decide (z∈p.Live))<;>simp [h]
 ·simp [h]
theorem s_r20Due (m:Model) (hm:fewM m) (a:Int):Z1t m a=some (match at_ m.Places a with | some p=>Zgn p | none=>[]):=by
 simp only [Z1t,Z7u,Option.bind_some]
 cases h:at_ m.Places a with
 | none=>rfl
 | some p=>
   have hp:=hm.2 p (Zdn h)
   have h8:=hp.2.1
   simp only [Option.isSome_some,Bool.not_true,Zf6,Option.bind_some]
   refine Zla p.Book.Sess _ (fun pre=>((pre.length:Int),(pre.filter (dueS p.Live)).map (·.ID))) (Zgn p) (fun pre x post hx'=>?_) ?_
   ·have hx:=Zma hx'
    have hl:=Zna hx'
    have hd:=Zhn pre p.Live
    dsimp only [Z0t]
    rw [Zj6 hx,Ze6,Zh6 hx,Option.bind_some,s_r20due p x (by omega) (hp.2.2 x (Zoa hx')),Option.bind_some,Option.bind_some,Zpa,List.filter_append,List.map_append]
    simp only [Zzs,Zl6 (show pre.length≤4000000000000000000 by omega)]
    rw [Zi6 _ _ (by omega) (by simp only [List.length_singleton];omega),Option.bind_some]
    cases h2:dueS p.Live x<;>simp [h2]
   ·dsimp only [Z0t]
    rw [Zk6,Zf6];rfl
theorem s_r20Uses (m:Model) (hm:fewM m) (a b:Int):Z7t m a b=some (Zfn m.Places a b):=by
 simp only [Z7t,Z7u,Option.bind_some,Zfn]
 cases h:at_ m.Places a with
 | none=>rfl
 | some p=>
   have hp:=hm.2 p (Zdn h)
   have h8:=hp.2.1
   simp only [Option.isSome_some,Bool.not_true,Zf6]
   rw [Zs6 p.Book.Sess (Z6t m a b) (fun s=>decide (s.State=1)&&decide (b∈s.Need)) true false (by omega) (fun k x hx=>by
    simp only [Z6t,h,Option.bind_some,Zj6 hx,Ze6,Zh6 hx,Z2b x.Need b (hp.2.2 x (List.mem_iff_getElem?.2 ⟨_,hx⟩)),Z5t,Zm6 hx (show p.Book.Sess.length≤4000000000000000000 by omega),Option.map_some]
    cases decide (x.State=1)<;>cases decide (b∈x.Need)<;>rfl) (by simp only [Z6t,h,Option.bind_some,Zk6,Zf6,Z4t,Option.map_some])]
   cases p.Book.Sess.any (fun s=>decide (s.State=1)&&decide (b∈s.Need))<;>rfl
theorem s_r20with (m:Model) (hm:m.Places.length≤1000000) {a:Int} {p:Place} (hp:at_ m.Places a=some p) (p':Place):Zct m a p'=some ⟨m.Places.set a.toNat p'⟩:=by
 obtain ⟨a0,a1,a2⟩:=Zcn hp
 simp only [Zct]
 refine Zla m.Places _ (fun pre=>((pre.length:Int),(m.Places.set a.toNat p').take pre.length)) _ (fun pre x post h=>?_) ?_
 ·have hx:=Zma h
  have hl:=Zna h
  have hlen:(m.Places.set a.toNat p').length=m.Places.length:=by simp
  have hlt:pre.length<(m.Places.set a.toNat p').length:=by omega
  dsimp only [Zbt]
  rw [Zj6 hx,Ze6,Zh6 hx,Option.bind_some,Zi6 _ _ (by omega) (by simp;omega),Option.bind_some,Zi6 _ _ (by omega) (by simp;omega),Option.bind_some,Zpa,List.take_succ_eq_append_getElem hlt]
  simp only [Zat,Zl6 (show pre.length≤4000000000000000000 by omega)]
  by_cases he:(pre.length:Int)=a
  ·have e2:a.toNat=pre.length:=by omega
   rw [decide_eq_true he,Ze6]
   simp [e2]
  ·have e2:a.toNat≠pre.length:=by omega
   rw [decide_eq_false he,Zf6]
   have:=(List.getElem?_eq_some_iff.1 hx).2
   rw [List.getElem_set_ne e2,this]
 ·dsimp only [Zbt]
  rw [Zk6,Zf6]
  have:(m.Places.set a.toNat p').take m.Places.length=m.Places.set a.toNat p':=List.take_of_length_le (by simp)
  rw [this];rfl
theorem s_r20Check (m:Model) (hm:fewM m) (hk:okM m=true):Zss m=some true:=by
 obtain ⟨h64,hpl⟩:=(Zjn m).1 hk
 simp only [Zss]
 refine Zla m.Places _ (fun pre=>(pre.length:Int)) true (fun pre x post h=>?_) ?_
 ·have hx:=Zma h
  have hl:=Zna h
  have hp:=hm.2 x (Zoa h)
  have hB:=hpl pre.length x hx
  obtain ⟨b1,b2,b3⟩:=Zeq.1 hB
  dsimp only [Zrs]
  rw [Zj6 hx,Ze6,Zh6 hx,Option.bind_some,Zis x.Book hp.2,b1,Option.bind_some,Bool.not_true,Zf6]
  have j3:∀(k:Nat) z,k≤1000000→Zps (k:Int) z=if z then some (.inr (.inr false)) else some (.inl ((k+1:Nat):Int)):=fun k z hk=>by
   simp only [Zps,Zl6 (show k≤4000000000000000000 by omega)];cases z<;>rfl
  have good:∀q∈x.Live,(at_ m.Places q).isSome=true∧decide (q=(pre.length:Int))=false:=fun q hq=>by
   obtain ⟨q0,q1,q2⟩:=b3 q hq
   obtain ⟨y,hy,_⟩:=at_lt (l:=m.Places) q0 q1
   exact ⟨by rw [hy];rfl,decide_eq_false q2⟩
  rw [loop_rise x.Live (fun _=>true) (Zqs m (pre.length:Int) x) (.inl ((pre.length+1:Nat):Int)) (.inr false) (fun q hq=>by
      have hq':x.Live[(0:Nat)]?=some q:=hq
      obtain ⟨g1,g2⟩:=good q (List.mem_iff_getElem?.2 ⟨_,hq'⟩)
      dsimp only [Zqs]
      rw [show (0:Int)=((0:Nat):Int) from rfl,Zj6 hq',Ze6,Zh6 hq',Option.bind_some,Z7u,g1,Option.bind_some,Option.bind_some,Bool.not_true,Zf6,g2,Zf6]
      rw [show decide (((0:Nat):Int)<((0:Nat):Int))=false from rfl,Zf6,j3 0 _ (by omega)]
      rfl) (fun k q q' hq hq2=>by
      have hk:=(List.getElem?_eq_some_iff.1 hq2).1
      obtain ⟨g1,g2⟩:=good q' (List.mem_iff_getElem?.2 ⟨_,hq2⟩)
      dsimp only [Zqs]
      rw [Zj6 hq2,Ze6,Zh6 hq2,Option.bind_some,Z7u,g1,Option.bind_some,Option.bind_some,Bool.not_true,Zf6,g2,Zf6,decide_eq_true (show (0:Int)<((k+1:Nat):Int) by omega),Ze6,Zza (by omega),Zh6 hq,Option.bind_some,Option.bind_some,j3 (k+1) _ (by omega)]
      by_cases h2:q'≤q
      ·have:¬q<q':=by omega
       simp [h2,this]
      ·have:q<q':=by omega
       simp [h2,this]) (by
      dsimp only [Zqs]
      rw [Zk6,Zf6]
      simp only [Zos,Zl6 (show pre.length≤4000000000000000000 by omega)];rfl)]
  rw [decide_eq_true b2,Zpa]
  simp
 ·dsimp only [Zrs]
  rw [Zk6,Zf6]
  simp only [Zns,Zd5]
  rw [decide_eq_true (by omega)];rfl
theorem due_end {p:Place} (hk:Z8h p.Book=true) {id:Int} (hd:id∈Zgn p):∃i,Zjh p.Book id=some i∧i<p.Book.Sess.length∧Zmh p.Book id 0=(⟨p.Book.Last,p.Book.Sess.take i++p.Book.Sess.drop (i+1)⟩,0):=by
 obtain ⟨_,_,hS⟩:=Zdq.1 hk
 have hids:=sessL_ids hS
 simp only [Zgn,List.mem_map,List.mem_filter] at hd
 obtain ⟨s,⟨hs,hdue⟩,hid⟩:=hd
 have hst:s.State=0:=by simp only [dueS,Bool.and_eq_true,decide_eq_true_eq] at hdue;exact hdue.1
 cases hf:Zjh p.Book id with
 | none=>
   unfold Zjh at hf
   rw [List.findIdx?_eq_none_iff] at hf
   have:=hf s hs
   simp [hid] at this
 | some i=>
   obtain ⟨s',hs',hid'⟩:=Znh hf
   have hi:=(List.getElem?_eq_some_iff.1 hs').1
   obtain ⟨j,hj⟩:=List.mem_iff_getElem?.1 hs
   have hj1:=(List.getElem?_eq_some_iff.1 hj).1
   have e:s'=s:=by
    rcases Nat.lt_trichotomy i j with h | h | h
    ·have:=(List.pairwise_iff_getElem.1 hids) i j hi hj1 h
     rw [(List.getElem?_eq_some_iff.1 hs').2,(List.getElem?_eq_some_iff.1 hj).2] at this
     omega
    ·subst h;rw [hs'] at hj;exact Option.some.inj hj
    ·have:=(List.pairwise_iff_getElem.1 hids) j i hj1 hi h
     rw [(List.getElem?_eq_some_iff.1 hs').2,(List.getElem?_eq_some_iff.1 hj).2] at this
     omega
   refine ⟨i,rfl,hi,?_⟩
   unfold Zmh
   rw [if_pos hk,hf]
   dsimp only
   rw [hs']
   dsimp only
   rw [e,if_pos hst]
theorem s_r20Step (m:Model) (hk:okM m=true) (e:Event) (he:e.Need.length≤1000):Zst m e=some (Zqn m e):=by
 have hm:=okM_few hk
 have h1:=hm.1
 have j1:Zst m e=Zrt m e (ofE e):=by
  simp only [Zst,s_r20Check m hm hk,Option.bind_some,Bool.not_true,Zf6,ofE]
  by_cases h6:6≤e.Kind
  ·rw [decide_eq_true h6,Ze6]
   congr 1
   rw [Bool.eq_iff_iff];simp;omega
  ·rw [decide_eq_false h6,Zf6]
   congr 1
   rw [eq_comm,Bool.or_eq_false_iff,Bool.or_eq_false_iff]
   exact ⟨decide_eq_false (by omega),decide_eq_false (by omega),decide_eq_false (by omega)⟩
 rw [j1]
 unfold Zqn
 rw [if_pos hk]
 have j2t:∀z,Zqt m e z true=some (⟨[]⟩,201):=fun z=>by simp only [Zqt,Ze6]
 simp only [Zrt,Z7u,Option.bind_some]
 cases hp:at_ m.Places e.Node with
 | none=>simp only [Option.isSome_none,Bool.not_false,Ze6,j2t]
 | some p=>
   simp only [Option.isSome_some,Bool.not_true,Zf6]
   have hl:=hm.2 p (Zdn hp)
   obtain ⟨b1,b2,b3⟩:=Zeq.1 (okM_at hk hp)
   have hl64:p.Live.length≤64:=by
    have h64:=((Zjn m).1 hk).1
    rcases pw_len p.Live 0 m.Places.length b2 (fun x hx=>⟨(b3 x hx).1,(b3 x hx).2.1⟩) with e | e
    ·rw [e];simp
    ·omega
   have hd:(Zgn p).length≤1000000:=Nat.le_trans (Zhn _ _) hl.2.1
   have wth:∀p':Place,Zct m e.Node p'=some ⟨m.Places.set e.Node.toNat p'⟩:=s_r20with m h1 hp
   have j8:∀p':Place,Zit m e p'=some (⟨m.Places.set e.Node.toNat p'⟩,0):=fun p'=>by simp only [Zit,wth,Option.bind_some]
   have j4:∀p':Place,Zet m e p'=some (⟨m.Places.set e.Node.toNat p'⟩,0):=fun p'=>by simp only [Zet,wth,Option.bind_some]
   have rest:(ofE e=true→∃q,at_ m.Places e.Peer=some q)→Zqt m e (ofE e) false=some (if !decide (e.Kind=5)&&decide (Zgn p≠ []) then (⟨[]⟩,205) else if decide (e.Kind<0)||decide (8<e.Kind) then (⟨[]⟩,207) else doP m p e):=by
    intro hq
    have j3:Zpt m e (ofE e) false=some (if decide (e.Kind<0)||decide (8<e.Kind) then (⟨[]⟩,207) else doP m p e):=by
     simp only [Zpt,Zf6,hp,Option.bind_some]
     cases ho:ofE e
     ·
      rw [Zf6]
      have hne:e.Kind≠6∧e.Kind≠7∧e.Kind≠8:=by simpa [ofE,not_or] using ho
      have dop:∀r:Book×Int,Zpn m.Places p e=r→doP m p e=if r.2=0 then (⟨m.Places.set e.Node.toNat ⟨r.1,p.Live⟩⟩,0) else (⟨[]⟩,r.2):=fun r hr=>by
       unfold doP;rw [ho,hr];rfl
      by_cases h0:e.Kind=0
      ·rw [decide_eq_true h0,Ze6,s_r17Open p.Book e.ID e.Need hl.2 (by omega),Option.bind_some,if_neg (by rw [h0];simp)]
       have hs:Zpn m.Places p e=if (Zkh p.Book e.ID e.Need).2=0 then (if e.Need.all (fun z=>decide (z∈p.Live)) then Zkh p.Book e.ID e.Need else (Z4h,202)) else Zkh p.Book e.ID e.Need:=by unfold Zpn;rw [if_pos h0]
       rw [dop _ hs]
       generalize Zkh p.Book e.ID e.Need=r
       by_cases hr:r.2=0
       ·rw [decide_eq_true hr,Bool.not_true,Zf6,if_pos hr]
        have key:loop (Zkt m e p r) 0=some (if e.Need.any (fun z=>!decide (z∈p.Live)) then (⟨[]⟩,202) else (⟨m.Places.set e.Node.toNat ⟨r.1,p.Live⟩⟩,0)):=by
         rw [Zs6 e.Need (Zkt m e p r) (fun z=>!decide (z∈p.Live)) (⟨[]⟩,202) (⟨m.Places.set e.Node.toNat ⟨r.1,p.Live⟩⟩,0) (by omega) (fun k x hx=>by
          simp only [Zkt,Zj6 hx,Ze6,Zh6 hx,Option.bind_some,Z2b p.Live x (by omega),Zm6 hx (show e.Need.length≤4000000000000000000 by omega),Option.map_some]
          cases decide (x∈p.Live)<;>rfl) (by simp only [Zkt,Zk6,Zf6,Zjt,j8,Option.map_some])]
        rw [key]
        have e2:e.Need.any (fun z=>!decide (z∈p.Live))=!e.Need.all (fun z=>decide (z∈p.Live)):=Z1b _ _ _ fun _=>rfl
        rw [e2]
        cases e.Need.all (fun z=>decide (z∈p.Live))<;>simp [hr]
       ·rw [decide_eq_false hr,Bool.not_false,Ze6,if_neg hr,if_neg hr]
      rw [decide_eq_false h0,Zf6]
      by_cases hk1:e.Kind=1
      ·rw [decide_eq_true hk1,Ze6,s_r17Grant p.Book hl.2,Option.bind_some,if_neg (by rw [hk1];simp)]
       have hs:Zpn m.Places p e=Znn m.Places p e:=by unfold Zpn;rw [if_neg h0,if_pos hk1]
       rw [dop _ hs]
       unfold Znn
       by_cases g1:(Zlh p.Book).2.2=0
       ·by_cases g2:(Zlh p.Book).2.1=e.ID
        ·obtain ⟨_,s,l,hss,_,hg⟩:=Zon g1
         have hsm:s∈p.Book.Sess:=by rw [hss];simp
         rw [if_pos g1,if_pos g2,decide_eq_true g1,Bool.not_true,Zf6,decide_eq_true g2,Bool.not_true]
         rw [hg] at g2 ⊢
         simp only [Znt,Zf6]
         have hN:=hl.2.2 s hsm
         have key:loop (Zmt m e p (⟨p.Book.Last,⟨s.ID,s.Need,1,s.Age⟩::l⟩,s.ID,0)) 0=some (if s.Need.any (fun q=>Zfn m.Places q e.Node) then (⟨[]⟩,203) else (⟨m.Places.set e.Node.toNat ⟨⟨p.Book.Last,⟨s.ID,s.Need,1,s.Age⟩::l⟩,p.Live⟩⟩,0)):=by
          have a0:at_ ((⟨s.ID,s.Need,1,s.Age⟩:Sess)::l) 0=some ⟨s.ID,s.Need,1,s.Age⟩:=rfl
          rw [Zs6 s.Need _ (fun q=>Zfn m.Places q e.Node) (⟨[]⟩,203) (⟨m.Places.set e.Node.toNat ⟨⟨p.Book.Last,⟨s.ID,s.Need,1,s.Age⟩::l⟩,p.Live⟩⟩,0) (by omega) (fun k x hx=>by
           simp only [Zmt,a0,Option.bind_some,Zj6 hx,Ze6,Zh6 hx,s_r20Uses m hm,Zm6 hx (show s.Need.length≤4000000000000000000 by omega),Option.map_some]
           cases Zfn m.Places x e.Node<;>rfl) (by simp only [Zmt,a0,Option.bind_some,Zk6,Zf6,Zlt,j8,Option.map_some])]
         rw [key]
         cases s.Need.any (fun q=>Zfn m.Places q e.Node)<;>simp
        ·rw [if_pos g1,if_neg g2,decide_eq_true g1,Bool.not_true,Zf6,decide_eq_false g2,Bool.not_false]
         simp only [Znt,Ze6];rfl
       ·rw [if_neg g1,decide_eq_false g1,Bool.not_false,Ze6]
        simp only [Znt,Ze6];rfl
      rw [decide_eq_false hk1,Zf6]
      have endD:∀(w:Int),Zpn m.Places p e=endR (Zmh p.Book e.ID w)→doP m p e=if (Zmh p.Book e.ID w).2=0 then (⟨m.Places.set e.Node.toNat ⟨(Zmh p.Book e.ID w).1,p.Live⟩⟩,0) else (⟨[]⟩,204):=fun w hs=>by
       rw [dop _ hs];unfold endR
       by_cases hw:(Zmh p.Book e.ID w).2=0<;>simp [hw]
      have endM:∀(w:Int),((some (Zmh p.Book e.ID w)).bind fun x55=>ifb (!decide (x55.2=0)) (some ((Model.mk ([]:List Place)),204)) (Zit m e (Place.mk x55.1 p.Live)))=some (if (Zmh p.Book e.ID w).2=0 then (⟨m.Places.set e.Node.toNat ⟨(Zmh p.Book e.ID w).1,p.Live⟩⟩,0) else (⟨[]⟩,204)):=fun w=>by
       rw [Option.bind_some,j8]
       by_cases hw:(Zmh p.Book e.ID w).2=0<;>simp [hw]
      by_cases h24:e.Kind=2∨e.Kind=4
      ·have hs:Zpn m.Places p e=endR (Zmh p.Book e.ID 1):=by
        unfold Zpn;rw [if_neg h0,if_neg hk1]
        rcases h24 with h | h
        ·rw [if_pos h]
        ·rw [if_neg (by omega),if_pos h]
       have e12:ifb (decide (e.Kind=2)) (Zot m e p (decide (e.Kind=2))) (Zot m e p (decide (e.Kind=4)))=Zot m e p true:=by
        rcases h24 with h | h
        ·rw [decide_eq_true h];rfl
        ·rw [decide_eq_false (show ¬e.Kind=2 by omega),decide_eq_true h];rfl
       rw [e12,endD 1 hs,if_neg (by rcases h24 with h | h<;>rw [h]<;>simp)]
       simp only [Zot,Ze6,s_r17End p.Book e.ID 1 hl.2]
       exact endM 1
      have e12:ifb (decide (e.Kind=2)) (Zot m e p (decide (e.Kind=2))) (Zot m e p (decide (e.Kind=4)))=Zot m e p false:=by
       rw [decide_eq_false (show ¬e.Kind=2 by omega),decide_eq_false (show ¬e.Kind=4 by omega)];rfl
      rw [e12]
      simp only [Zot,Zf6]
      by_cases h3:e.Kind=3
      ·have hs:Zpn m.Places p e=endR (Zmh p.Book e.ID 0):=by
        unfold Zpn;rw [if_neg h0,if_neg hk1,if_neg (by omega),if_neg (by omega),if_neg (by omega),if_pos h3]
       rw [decide_eq_true h3,Ze6,s_r17End p.Book e.ID 0 hl.2,endD 0 hs,if_neg (by rw [h3];simp)]
       exact endM 0
      rw [decide_eq_false h3,Zf6]
      by_cases h5:e.Kind=5
      ·have hs:Zpn m.Places p e=if e.ID∈Zgn p then endR (Zmh p.Book e.ID 0) else (Z4h,205):=by
        unfold Zpn;rw [if_neg h0,if_neg hk1,if_neg (by omega),if_neg (by omega),if_pos h5]
       rw [decide_eq_true h5,Ze6,s_r20Due m hm,hp,Option.bind_some]
       dsimp only
       rw [Z2b (Zgn p) e.ID hd,Option.bind_some,if_neg (by rw [h5];simp)]
       by_cases hin:e.ID∈Zgn p
       ·obtain ⟨i,f1,f2,f3⟩:=due_end b1 hin
        rw [if_pos hin] at hs
        rw [decide_eq_true hin,Bool.not_true,Zf6,s_r17Find p.Book e.ID hl.2.1,f1,Option.bind_some,show plc (some i)=(i:Int) from rfl,Zjs p.Book i f2 hl.2.1,Option.bind_some,j8,endD 0 hs,f3]
        rfl
       ·rw [if_neg hin] at hs
        rw [decide_eq_false hin,Bool.not_false,Ze6,dop _ hs];rfl
      rw [decide_eq_false h5,Zf6]
      have:(decide (e.Kind<0)||decide (8<e.Kind))=true:=by
       rw [Bool.or_eq_true,decide_eq_true_eq,decide_eq_true_eq];omega
      rw [if_pos this]
     ·
      obtain ⟨q,hq⟩:=hq ho
      have hk68:e.Kind=6∨e.Kind=7∨e.Kind=8:=by simpa [ofE] using ho
      have hqm:=hm.2 q (Zdn hq)
      have hb:Zln m.Places e=decide (e.Node∈q.Live):=by unfold Zln;rw [hq]
      rw [Ze6,Z2b p.Live e.Peer (by omega),Option.bind_some,hq,Option.bind_some,Z2b q.Live e.Node (by omega),Option.bind_some,←hb,if_neg (by rw [Bool.not_eq_true,Bool.or_eq_false_iff];exact ⟨decide_eq_false (by omega),decide_eq_false (by omega)⟩)]
      have dop:doP m p e=if (Zmn m.Places p e).2=0 then (⟨m.Places.set e.Node.toNat ⟨p.Book,(Zmn m.Places p e).1⟩⟩,0) else (⟨[]⟩,(Zmn m.Places p e).2):=by unfold doP;rw [ho];rfl
      rw [dop]
      have e5:∀z,Zft m e p z=some (if z then (⟨[]⟩,206) else (⟨m.Places.set e.Node.toNat ⟨p.Book,Z7b (p.Live++[e.Peer])⟩⟩,0)):=fun z=>by
       simp only [Zft,s_r01Union p.Live [e.Peer] (by omega) (by simp),Option.bind_some,j4];cases z<;>rfl
      have ef:Z7b (p.Live.filter fun x=>decide (x∈ [e.Peer])==false)=(Z7b p.Live).filter (fun z=>!decide (z∈ [e.Peer])):=by
       rw [setL_pw b2,setL_pw (b2.filter _)]
       congr 1
       funext x
       cases decide (x∈ [e.Peer])<;>rfl
      have e6:∀z,Zgt m e p z=some (if z then (⟨[]⟩,206) else (⟨m.Places.set e.Node.toNat ⟨p.Book,(Z7b p.Live).filter (fun z=>!decide (z∈ [e.Peer]))⟩⟩,0)):=fun z=>by
       simp only [Zgt,s_r01Pick p.Live [e.Peer] false (by omega) (by simp),Option.bind_some,j4,ef];cases z<;>rfl
      have e7:∀z,Zht m e p z=some (if z then (⟨[]⟩,206) else (⟨m.Places.set e.Node.toNat p⟩,0)):=fun z=>by
       simp only [Zht,j4];cases z<;>rfl
      simp only [e5,e6,e7,s_r20Uses m hm,Option.bind_some]
      unfold Zmn
      rcases hk68 with h | h | h
      ·rw [decide_eq_true h,Ze6,if_pos h]
       cases decide (e.Peer∈p.Live)<;>cases Zln m.Places e<;>cases decide (e.Node<e.Peer)<;>rfl
      ·rw [decide_eq_false (show ¬e.Kind=6 by omega),Zf6,decide_eq_true h,Ze6,if_neg (show ¬e.Kind=6 by omega),if_pos h]
       cases decide (e.Peer∈p.Live)<;>cases Zln m.Places e<;>cases decide (e.Node<e.Peer)<;>rfl
      ·rw [decide_eq_false (show ¬e.Kind=6 by omega),Zf6,decide_eq_false (show ¬e.Kind=7 by omega),Zf6,decide_eq_true h,Ze6,if_neg (show ¬e.Kind=6 by omega),if_neg (show ¬e.Kind=7 by omega),if_pos h]
       cases decide (e.Peer∈p.Live)<;>cases Zln m.Places e<;>cases decide (e.Node<e.Peer)<;>cases Zfn m.Places e.Node e.Peer<;>cases Zfn m.Places e.Peer e.Node<;>rfl
    have j3t:∀z,Zpt m e z true=some (⟨[]⟩,205):=fun z=>by simp only [Zpt,Ze6]
    simp only [Zqt,Zf6,s_r20Due m hm,hp,Option.bind_some,Zd5]
    have e0:decide ((0:Int)<((Zgn p).length:Nat))=decide (Zgn p≠ []):=by
     rw [decide_eq_decide]
     cases Zgn p<;>simp<;>omega
    rw [e0]
    by_cases h5:e.Kind=5
    ·rw [decide_eq_true h5,Bool.not_true,Zf6,j3,Bool.false_and,if_neg Bool.false_ne_true]
    ·rw [decide_eq_false h5,Bool.not_false,Ze6,Bool.true_and]
     cases decide (Zgn p≠ [])
     ·rw [j3,if_neg Bool.false_ne_true]
     ·rw [j3t];rfl
   cases ho:ofE e
   ·rw [ho] at rest
    rw [Zf6,Bool.false_and,if_neg Bool.false_ne_true,rest (by simp)]
   ·rw [ho] at rest
    rw [Ze6,Bool.true_and]
    cases hq:at_ m.Places e.Peer with
    | none=>simp only [Option.isSome_none,Bool.not_false,Ze6,j2t,Bool.true_or,if_true]
    | some q=>
      simp only [Option.isSome_some,Bool.not_true,Zf6,Bool.false_or]
      by_cases hpn:e.Peer=e.Node
      ·simp only [hpn,decide_true,j2t,if_true]
      ·simp only [hpn,decide_false,Bool.false_eq_true,if_false]
       exact rest fun _=>⟨q,hq⟩
theorem s_r20New (g:Graph) (hg:okG g=true):Zwt g=some (Zkn g):=by
 obtain ⟨h0,h64,_⟩:=Z0b hg
 simp only [Zwt]
 refine loop_nat g.N.toNat _ (fun k=>((k:Int),(List.range k).map fun a=>(⟨Z4h,Z5b g (a:Nat)⟩:Place))) (Zkn g) (fun k hk=>?_) ?_
 ·dsimp only [Zvt]
  rw [decide_eq_true (by omega),Ze6,s_r03Near g hg,Option.bind_some,Zi6 _ _ (by omega) (by simp;omega),Option.bind_some,Zl6 (by omega),List.range_succ,List.map_append]
  rfl
 ·dsimp only [Zvt]
  rw [decide_eq_false (by omega),Zf6];rfl
def runR (P:List Place):Nat→List Event→Int×Int
 | k,[]=>(k,0)
 | k,e::l=>if (Zqn ⟨P⟩ e).2=0 then runR (Zqn ⟨P⟩ e).1.Places (k+1) l else (k,(Zqn ⟨P⟩ e).2)
def Z8u (P:List Place) (l:List Event):List Place:=l.foldl (fun P e=>(Zqn ⟨P⟩ e).1.Places) P
theorem runF_snoc (P:List Place) (l:List Event) (e:Event):Z8u P (l++[e])=(Zqn ⟨Z8u P l⟩ e).1.Places:=by
 unfold Z8u;rw [List.foldl_append];rfl
theorem s_Accept (g:Graph) (hg:okG g=true) (l:List Event) (hl:l.length≤1000000) (hn:∀e∈l,e.Need.length≤1000):Ztn g l=some (runR (Zkn g).Places 0 l):=by
 simp only [Ztn,s_mNew,hg,if_true,Option.bind_some,decide_true,Bool.not_true,Zf6]
 refine Zka l (Zsn l) (fun pre=>((pre.length:Int),Z8u (Zkn g).Places pre)) (fun pre post=>some (runR (Z8u (Zkn g).Places pre) pre.length post)) (fun pre=>okM ⟨Z8u (Zkn g).Places pre⟩=true) (fun pre e post h hI=>?_) (fun _=>?_) l [] rfl (newM_ok hg)
 ·have hx:=Zma h
  have hm:=Zna h
  have hN:=hn e (Zoa h)
  have hbody:Zsn l ((pre.length:Int),Z8u (Zkn g).Places pre)=if (Zqn ⟨Z8u (Zkn g).Places pre⟩ e).2=0 then some (.inl (((pre.length+1:Nat):Int),(Zqn ⟨Z8u (Zkn g).Places pre⟩ e).1.Places)) else some (.inr ((pre.length:Int),(Zqn ⟨Z8u (Zkn g).Places pre⟩ e).2)):=by
   dsimp only [Zsn]
   rw [Zj6 hx,Ze6,Zh6 hx,Option.bind_some,s_Step _ (okM_few hI) e (by omega),Option.bind_some,Zl6 (by omega)]
   by_cases h0:(Zqn ⟨Z8u (Zkn g).Places pre⟩ e).2=0
   ·rw [decide_eq_true h0,if_pos h0];rfl
   ·rw [decide_eq_false h0,if_neg h0];rfl
  rw [hbody]
  simp only [runR,runF_snoc,Zpa]
  by_cases h0:(Zqn ⟨Z8u (Zkn g).Places pre⟩ e).2=0
  ·left
   rw [if_pos h0,if_pos h0]
   exact ⟨rfl,stepP_okM h0,rfl⟩
  ·right
   rw [if_neg h0,if_neg h0]
   exact ⟨_,rfl,rfl⟩
 ·dsimp only [Zsn]
  rw [Zk6,Zf6]
  simp only [Zrn,Zd5,runR]
theorem Z9u (x1:Graph) (x2:List Event):Z5u x1 x2=some true:=by
 have jT:Z4u x1 x2 true=some true:=by
  simp only [Z4u,Ze6,s_awake20,Option.bind_some]
 simp only [Z5u,s_awake20,s_few,Option.bind_some,Bool.not_true,Zf6]
 cases hf:fewE x2
 ·rw [Bool.not_false,Ze6,jT]
 rw [Bool.not_true,Zf6,Zd5]
 by_cases h60:(60:Int)<x1.Edges.length
 ·rw [decide_eq_true h60,Ze6,jT]
 rw [decide_eq_false h60,Zf6]
 by_cases h12:12<x1.N
 ·rw [decide_eq_true h12,jT]
 rw [decide_eq_false h12]
 obtain ⟨hl,hn⟩:=fewE_need hf
 simp only [Z4u,Zf6,s_Own03 x1 (by omega),Zjr,Option.bind_some]
 cases hg:okG x1
 ·have:Ztn x1 x2=some (0,30):=by
   simp only [Ztn,s_mNew,hg,Option.bind_some,Bool.false_eq_true,if_false];rfl
  rw [this,Option.bind_some];rfl
 rw [s_Accept x1 hg x2 (by omega) (fun e he=>by have:=hn e he;omega),Option.bind_some,Bool.not_true,Zf6,s_r20New x1 hg,Option.bind_some]
 generalize hX:runR (Zkn x1).Places 0 x2=X
 refine Zka x2 (Z3u x1 x2 X) (fun pre=>((pre.length:Int),Z8u (Zkn x1).Places pre)) (fun _ _=>some true) (fun pre=>okM ⟨Z8u (Zkn x1).Places pre⟩=true∧X=runR (Z8u (Zkn x1).Places pre) pre.length (x2.drop pre.length)) (fun pre e post h hI=>?_) (fun hI=>?_) x2 [] rfl ⟨newM_ok hg,hX.symm⟩
 ·have hx:=Zma h
  have hm:=Zna h
  have hN:=hn e (Zoa h)
  have hd:x2.drop pre.length=e::x2.drop (pre.length+1):=by
   obtain ⟨h1,h2⟩:=List.getElem?_eq_some_iff.1 hx
   rw [←h2];exact List.drop_eq_getElem_cons h1
  obtain ⟨hok,hXe⟩:=hI
  rw [hd] at hXe
  simp only [runR] at hXe
  have hbody:Z3u x1 x2 X ((pre.length:Int),Z8u (Zkn x1).Places pre)=Z2u X (pre.length:Int) ((Zqn ⟨Z8u (Zkn x1).Places pre⟩ e).2,(Zqn ⟨Z8u (Zkn x1).Places pre⟩ e).1.Places):=by
   dsimp only [Z3u]
   rw [Zj6 hx,Ze6,Zh6 hx,Option.bind_some,s_r20Step ⟨Z8u (Zkn x1).Places pre⟩ hok e (by omega),Option.bind_some]
  rw [hbody]
  simp only [Z2u,Z1u,runF_snoc,Zpa,Zl6 (show pre.length≤4000000000000000000 by omega)]
  by_cases h0:(Zqn ⟨Z8u (Zkn x1).Places pre⟩ e).2=0
  ·left
   rw [if_pos h0] at hXe
   rw [decide_eq_true h0]
   exact ⟨rfl,⟨stepP_okM h0,hXe⟩,trivial⟩
  ·right
   rw [if_neg h0] at hXe
   rw [decide_eq_false h0,hXe]
   refine ⟨true,?_,rfl⟩
   simp
 ·obtain ⟨hok,hXe⟩:=hI
  rw [List.drop_of_length_le (Nat.le_refl _)] at hXe
  simp only [runR] at hXe
  dsimp only [Z3u]
  rw [Zk6,Zf6]
  simp only [Z0u,Zzt,s_Own03 x1 (show x1.Edges.length≤1000000 by omega),s_mNew,hg,if_true,Option.bind_some,s_r20New x1 hg,s_r20Same (Zkn x1) (Zkn x1) (okM_few (newM_ok hg)),hXe,Zd5,decide_true,Ze6,Option.map_some]
end NX
end Go.Proofs.YthlodgjekbidcaaGreat
