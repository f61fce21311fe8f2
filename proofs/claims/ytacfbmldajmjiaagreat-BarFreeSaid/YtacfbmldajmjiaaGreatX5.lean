/-
  The function narthex/narthexlaw16.run: its code compiled, a model, and that the code answers as the model. Written by a program of ours (lb.py). No statement of the seat is proved here.
-/
import Derived.KernelRfl
import Derived.Test.YtacfbmldajmjiaaGreatX2
import Derived.Test.YtacfbmldajmjiaaGreatX4
import Derived.Test.YtacfbmldajmjiaaGreatX1
import Derived.Test.YtacfbmldajmjiaaGreatX3
namespace Go.Proofs.YtacfbmldajmjiaaGreat
namespace NX
open Go
set_option maxRecDepth 100000
set_option maxHeartbeats 4000000
@[go_sem] def e29_L0:EC:=.seq (.seq (.reg [(Qm 28 10),(Qm 29 1),(Qa 30 (.len (.t 29))),(Qa 31 (.bin .lss (.t 28) (.t 30)))]) (.ite (.t 31) (.skip) (.exit 0))) (.seq (.blk 1 (.seq (.drw [(Qe 35 2 8),(Qa 36 (.call 14 [(.t 35)])),(Qm 37 1),(Qm 38 10),(Qk 39 4 37 38),(Qe 40 4 39),(Qa 41 (.call 13 [(.t 36),(.t 40)])),(Qm 34 41),(Qa 42 (.ext (.t 34) 0)),(Qa 43 (.ext (.t 34) 1)),(Qa 11 (.alloc 25 [.nl,.nl])),(Qs 2 11 42),(Qm 12 43)] [[],[0],[],[],[2,3],[4],[1,5,1],[6],[7],[7],[],[10,8,6,0,1,2,3,4,5,6,7,8,10],[9,11,0,1,2,3,4,5,6,7,8,9,10,11]] [[1],[0,6],[4],[4],[2,3,5],[4,6],[1,5,7],[6,8,9],[7,11],[7,12],[11],[8,10],[9]]) (.seq (.seq (.reg [(Qm 44 12),(Qa 45 (.bin .neq (.t 44) (.c (.iv 0)))),(Qm 46 45),(Qg 47 46 true (.mv (.t 12))),(Qg 48 46 true (.bin .neq (.t 47) (.c (.iv 152)))),(Qp 49 46 48),(Qm 50 49),(Qg 51 50 true (.mv (.t 12))),(Qg 52 50 true (.bin .neq (.t 51) (.c (.iv 151)))),(Qp 53 50 52),(Qm 54 53),(Qg 55 54 true (.mv (.t 12))),(Qg 56 54 true (.bin .neq (.t 55) (.c (.iv 162)))),(Qp 57 54 56),(Qm 58 57),(Qg 59 58 true (.mv (.t 12))),(Qg 60 58 true (.bin .neq (.t 59) (.c (.iv 161)))),(Qp 61 58 60)]) (.ite (.t 61) (.seq (.reg [(Qe 62 2 8),(Qs 2 6 62),(Qa 7 (.mv (.c .ff)))]) (.ret)) (.skip))) (.seq (.seq (.reg [(Qm 63 12),(Qa 64 (.bin .eql (.t 63) (.c (.iv 0))))]) (.ite (.t 64) (.reg [(Qe 65 2 11),(Qs 2 8 65)]) (.skip))) (.seq (.reg [(Qm 66 2),(Qe 67 2 8),(Qa 68 (.callv (.t 66) [(.t 67)])),(Qa 69 (.not (.t 68)))]) (.ite (.t 69) (.seq (.reg [(Qe 70 2 8),(Qs 2 6 70),(Qa 7 (.mv (.c .ff)))]) (.ret)) (.skip))))))) (.reg [(Qm 32 10),(Qv 33 32 1),(Qm 10 33)]))
@[go_sem] def e29:EC:=.seq (.reg [(Qx 3 53 2 0),(Qa 6 (.alloc 25 [.nl,.nl])),(Qa 7 (.mv (.c .ff)))]) (.seq (.reg [(Qe 14 2 3),(Qa 15 (.call 41 [(.t 14)])),(Qa 16 (.call 40 [(.t 15)])),(Qm 13 16),(Qa 17 (.ext (.t 13) 0)),(Qa 18 (.ext (.t 13) 1)),(Qa 8 (.alloc 25 [.nl,.nl])),(Qs 2 8 17),(Qm 9 18)]) (.seq (.seq (.reg [(Qm 19 9),(Qa 20 (.bin .neq (.t 19) (.c (.iv 0)))),(Qm 21 20),(Qg 22 21 false (.mv (.t 2))),(Qg 23 21 false (.loadA 2 (.t 8))),(Qg 24 21 false (.callv (.t 22) [(.t 23)])),(Qg 25 21 false (.not (.t 24))),(Qq 26 21 25)]) (.ite (.t 26) (.seq (.reg [(Qe 27 2 8),(Qs 2 6 27),(Qa 7 (.mv (.c .ff)))]) (.ret)) (.skip))) (.seq (.seq (.reg [(Qi 10 0)]) (.blk 0 (.loop e29_L0))) (.seq (.reg [(Qe 71 2 8),(Qs 2 6 71),(Qa 7 (.mv (.c .tt)))]) (.ret)))))
theorem ok29:FnOK Tryz.prog 29 Tryz.f29 e29 [.c 6 (some 2),.t 7] 3 69:=⟨by kernel_rfl,⟨_,rfl,by kernel_rfl⟩,by kernel_rfl,by kernel_rfl⟩
noncomputable def Z4l:Bar→Option (Bar×Bool)
| x36=>
 some (x36,true)
noncomputable def Z5l (p2:(Bar→Option Bool)) (x19:Int):Bar→Option ((Int×Bar) ⊕ (Bar×Bool))
| x29=>
 (p2 x29).bind fun x30=>
 ifb (!x30) (
 Option.map Sum.inr (some (x29,false))) (
 some (.inl (wr (x19+1),x29)))
noncomputable def Z6l (p2:(Bar→Option Bool)) (x19:Int) (x20:Bar) (x26:Int) (x27:Bar):Bool→Option ((Int×Bar) ⊕ (Bar×Bool))
| x28=>
 ifb x28 (
 Option.map Sum.inr (some (x20,false))) (
 ifb (decide (x26=0)) (
 (Z5l p2 x19) x27) (
 (Z5l p2 x19) x20))
noncomputable def Z7l (p2:(Bar→Option Bool)) (x19:Int) (x20:Bar):(Int×Bar)→Option ((Int×Bar) ⊕ (Bar×Bool))
| (x26,x27)=>
 ifb (!decide (x26=0)) (
 ifb (!decide (x26=152)) (
 ifb (!decide (x26=151)) (
 ifb (!decide (x26=162)) (
 (Z6l p2 x19 x20 x26 x27) (!decide (x26=161))) (
 (Z6l p2 x19 x20 x26 x27) false)) (
 (Z6l p2 x19 x20 x26 x27) false)) (
 (Z6l p2 x19 x20 x26 x27) false)) (
 (Z6l p2 x19 x20 x26 x27) false)
noncomputable def Z8l (x2:(List narthexlaw16_Act)) (p2:(Bar→Option Bool)):(Int×Bar)→Option ((Int×Bar) ⊕ (Bar×Bool))
| (x19,x20)=>
 ifb (decide (x19<(ln narthexlaw16_Act.row x2))) (
 (at_ x2 x19).bind fun x21=>
 (Z7j x20).bind fun x22=>
 (Zzi x22 x21).bind fun x24=>
 (Z7l p2 x19 x20) (x24.2,x24.1)) (
 Option.map Sum.inr (Z4l x20))
noncomputable def Z9l (x2:(List narthexlaw16_Act)) (p2:(Bar→Option Bool)) (x4:(Bar×Int)):Bool→Option (Bar×Bool)
| x6=>
 ifb x6 (
 some (x4.1,false)) (
 loop (Z8l x2 p2) (0,x4.1))
noncomputable def Zal (x1:Graph) (x2:(List narthexlaw16_Act)) (p2:(Bar→Option Bool)):Option (Bar×Bool):=
 (Zk7 x1).bind fun x3=>
 (Zuj x3).bind fun x4=>
 ifb (!decide (x4.2=0)) (
 (Z9l x2 p2 x4) true) (
 (p2 x4.1).bind fun x5=>
 (Z9l x2 p2 x4) (!x5))
theorem Zbl (x1:Graph) (x2:(List narthexlaw16_Act)) (g2:Nat) (caps2:List AV) (p2:(Bar→Option Bool)) (hc2:CloOK Tryz.prog g2 caps2 (fun z=>[.agg (Bar.row z)]) p2 (fun z=>.bv z)) (r:(Bar×Bool)) (h:Zal x1 x2 p2=some r):Zs2 Tryz.prog 29 [.agg (Graph.row x1),.sl 4 (List.map narthexlaw16_Act.row x2),.clo g2 caps2] (.tup [.agg (Bar.row r.1),.bv r.2]):=by
 refine Zw2 ok29 rfl rfl fun w0 H0=>?_
 rw [Zal] at h
 refine Zn2 9 ?_;dsimp only [go_sem];refine An ?_;obtain ⟨x3,ex3,h⟩:=Bs h;refine Z13 trivial (Zl7 x1 _ ex3) (hp:=(by first | rfl | simp [go_sem,hc2.pu])) (h:=?_);obtain ⟨x4,ex4,h⟩:=Bs h;refine Z13 trivial (k_bar_New x3 _ ex4) (hp:=(by first | rfl | simp [go_sem,hc2.pu])) (h:=?_);refine Zn2 13 ?_;dsimp only [go_sem];refine An ?_
 refine Zg4 (fun (x6:Bool)=>(⟨(.any :: .sl 4 (List.map narthexlaw16_Act.row x2) :: .clo g2 caps2::an 3 (.ptr 1 0 :: .any :: .ptr 2 0::an 17 (.bv x6::an 45 []))),[none,some ⟨25,[.nl,.nl]⟩,some ⟨25,[.sl 5 (List.map Drinker.row x4.1.Drinkers),.sl 5 (List.map Mail.row x4.1.Mail)]⟩],[]⟩:St)) (Z9l x2 p2 x4) r ?_ fun J1=>?_
 ·intro x6 h;rw [Z9l] at h;(try dsimp only);refine Zi4 h rfl (fun _ h=>?_) fun _ h=>?_
  ·refine Zn2 6 ?_;dsimp only [go_sem];refine An ?_;exact Zq4 (res:=fun (r:(Bar×Bool))=>.tup [.agg (Bar.row r.1),.bv r.2]) ok29 h
  ·refine Zn2 6 ?_;dsimp only [go_sem];refine An ?_;refine Zg4 (fun (x36:Bar)=>(⟨(an 6 (.ptr 1 0 :: .any :: .ptr 2 0::an 63 [])),[none,some ⟨25,[.nl,.nl]⟩,some ⟨25,[.sl 5 (List.map Drinker.row x36.Drinkers),.sl 5 (List.map Mail.row x36.Mail)]⟩],[]⟩:St)) Z4l r ?_ fun J2=>?_
   ·intro x36 h;rw [Z4l] at h;(try dsimp only);refine Zn2 6 ?_;dsimp only [go_sem];refine An ?_;exact Zq4 (res:=fun (r:(Bar×Bool))=>.tup [.agg (Bar.row r.1),.bv r.2]) ok29 h
   ·refine Zn2 1 ?_;dsimp only [go_sem];refine An ?_;refine Zh4 h (fun ((x19,x20):(Int×Bar))=>(⟨(.any :: .sl 4 (List.map narthexlaw16_Act.row x2) :: .clo g2 caps2::an 3 (.ptr 1 0 :: .any :: .ptr 2 0 :: .any :: .iv x19::an 61 [])),[none,some ⟨25,[.nl,.nl]⟩,some ⟨25,[.sl 5 (List.map Drinker.row x20.Drinkers),.sl 5 (List.map Mail.row x20.Mail)]⟩],[]⟩:St)) (by simp [go_sem]) (by rintro ⟨x19,x20⟩;first | rfl | simp [go_sem,Z94 _ hc2.pu]) ?_;rintro n1 ⟨x19,x20⟩ y1 h hin1 hout1;rw [Z8l] at h;(try dsimp only);refine Zn2 8 ?_
    dsimp only [go_sem];refine An ?_;refine Zi4 h rfl (fun _ h=>?_) fun _ h=>?_
    ·refine Zn2 4 ?_;dsimp only [go_sem];refine An ?_;refine Zg4 (fun ((x26,x27):(Int×Bar))=>(⟨(.any :: .sl 4 (List.map narthexlaw16_Act.row x2) :: .clo g2 caps2::an 3 (.ptr 1 0 :: .any :: .ptr 2 0 :: .any :: .iv x19 :: .ptr 3 0 :: .iv x26::an 59 [])),[none,some ⟨25,[.nl,.nl]⟩,some ⟨25,[.sl 5 (List.map Drinker.row x20.Drinkers),.sl 5 (List.map Mail.row x20.Mail)]⟩,some ⟨25,[.sl 5 (List.map Drinker.row x27.Drinkers),.sl 5 (List.map Mail.row x27.Mail)]⟩],[]⟩:St)) (Z7l p2 x19 x20) y1 ?_ fun J3=>?_
     ·rintro ⟨x26,x27⟩ h;rw [Z7l] at h;(try dsimp only);refine Zn2 6 ?_;dsimp only [go_sem];refine An ?_
      refine Zg4 (fun (x28:Bool)=>(⟨(.any :: .sl 4 (List.map narthexlaw16_Act.row x2) :: .clo g2 caps2::an 3 (.ptr 1 0 :: .any :: .ptr 2 0 :: .any :: .iv x19 :: .ptr 3 0 :: .iv x26::an 48 (.bv x28::an 10 []))),[none,some ⟨25,[.nl,.nl]⟩,some ⟨25,[.sl 5 (List.map Drinker.row x20.Drinkers),.sl 5 (List.map Mail.row x20.Mail)]⟩,some ⟨25,[.sl 5 (List.map Drinker.row x27.Drinkers),.sl 5 (List.map Mail.row x27.Mail)]⟩],[]⟩:St)) (Z6l p2 x19 x20 x26 x27) y1 ?_ fun J4=>?_
      ·intro x28 h;rw [Z6l] at h;(try dsimp only);refine Zi4 h rfl (fun _ h=>?_) fun _ h=>?_
       ·refine Zn2 6 ?_;dsimp only [go_sem];refine An ?_;exact Zq4 (res:=fun (r:(Bar×Bool))=>.tup [.agg (Bar.row r.1),.bv r.2]) ok29 (Zf4 h hout1)
       ·refine Zn2 7 ?_;dsimp only [go_sem];refine An ?_;refine Zg4 (fun (x29:Bar)=>(⟨(.any :: .sl 4 (List.map narthexlaw16_Act.row x2) :: .clo g2 caps2::an 3 (.ptr 1 0 :: .any :: .ptr 2 0 :: .any :: .iv x19::an 61 [])),[none,some ⟨25,[.nl,.nl]⟩,some ⟨25,[.sl 5 (List.map Drinker.row x29.Drinkers),.sl 5 (List.map Mail.row x29.Mail)]⟩],[]⟩:St)) (Z5l p2 x19) y1 ?_ fun J5=>?_
        ·intro x29 h;rw [Z5l] at h;(try dsimp only);refine Zn2 4 ?_;dsimp only [go_sem];refine An ?_;obtain ⟨x30,ex30,h⟩:=Bs h;refine Zv4 trivial rfl hc2 (x:=x29) ex30 (by first | exact Za4 _ | simp [go_sem]) (by first | rfl | simp [go_sem,hc2.pu]) ?_;refine Zn2 2 ?_;dsimp only [go_sem];refine An ?_;refine Zi4 h rfl (fun _ h=>?_) fun _ h=>?_
         ·refine Zn2 6 ?_;dsimp only [go_sem];refine An ?_;exact Zq4 (res:=fun (r:(Bar×Bool))=>.tup [.agg (Bar.row r.1),.bv r.2]) ok29 (Zf4 h hout1)
         ·refine Zn2 7 ?_;dsimp only [go_sem];refine An ?_;exact Zr4 h hin1 (hok:=by first | rfl | simp [go_sem,Z94 _ hc2.pu])
        ·refine Zi4 h rfl (fun _ h=>?_) fun _ h=>?_
         ·refine Zn2 4 ?_;dsimp only [go_sem];refine An ?_;exact Zs4 J5 (s:=x27) h (hok:=by first | rfl | simp [go_sem,Z94 _ hc2.pu])
         ·refine Zn2 1 ?_;dsimp only [go_sem];refine An ?_;exact Zs4 J5 (s:=x20) h (hok:=by first | rfl | simp [go_sem,Z94 _ hc2.pu])
      ·refine Zp4 46 h rfl (fun _ h=>?_) fun _ h=>?_
       ·dsimp only [go_sem];refine Zn2 4 ?_;dsimp only [go_sem];refine An ?_;refine Zp4 50 h rfl (fun _ h=>?_) fun _ h=>?_
        ·dsimp only [go_sem];refine Zn2 4 ?_;dsimp only [go_sem];refine An ?_;refine Zp4 54 h rfl (fun _ h=>?_) fun _ h=>?_
         ·dsimp only [go_sem];refine Zn2 4 ?_;dsimp only [go_sem];refine An ?_;refine Zp4 58 h rfl (fun _ h=>?_) fun _ h=>?_
          ·dsimp only [go_sem];refine Zn2 4 ?_;dsimp only [go_sem];refine An ?_;exact Zs4 J4 (s:=!decide (x26=161)) h (hok:=by first | rfl | simp [go_sem,Z94 _ hc2.pu])
          ·dsimp only [go_sem];refine Zn2 4 ?_;dsimp only [go_sem];refine An ?_;exact Zs4 J4 (s:=false) h (hok:=by first | rfl | simp [go_sem,Z94 _ hc2.pu])
         ·dsimp only [go_sem];refine Zn2 8 ?_;dsimp only [go_sem];refine An ?_;exact Zs4 J4 (s:=false) h (hok:=by first | rfl | simp [go_sem,Z94 _ hc2.pu])
        ·dsimp only [go_sem];refine Zn2 12 ?_;dsimp only [go_sem];refine An ?_;exact Zs4 J4 (s:=false) h (hok:=by first | rfl | simp [go_sem,Z94 _ hc2.pu])
       ·dsimp only [go_sem];refine Zn2 16 ?_;dsimp only [go_sem];refine An ?_;exact Zs4 J4 (s:=false) h (hok:=by first | rfl | simp [go_sem,Z94 _ hc2.pu])
     ·refine Zi3 (by kernel_rfl) fun all hall hs hnap haf=>?_;dsimp only [go_sem];refine Z65 hall hs haf hnap 3 10 ?_;dsimp only [go_sem];refine An ?_;obtain ⟨x21,ex21,h⟩:=Bs h;refine Zm4 hall hs haf hnap 4 narthexlaw16_Act.row ex21 rfl rfl trivial rfl rfl rfl rfl ?_;refine Z65 hall hs haf hnap 1 8 ?_;dsimp only [go_sem];refine An ?_;obtain ⟨x22,ex22,h⟩:=Bs h;refine Zu3 1 10 rfl ?_ ?_
      ·refine Zz3 hall rfl trivial (Z8j x20 _ ex22) (hp:=(by first | rfl | simp [go_sem,hc2.pu])) (h:=?_);dsimp only [go_sem];obtain ⟨x24,ex24,h⟩:=Bs h;refine Zu3 6 10 rfl ?_ ?_
       ·refine Zz3 hall rfl trivial (Z0j x22 x21 _ ex24) (hp:=(by first | rfl | simp [go_sem,hc2.pu])) (h:=?_);dsimp only [go_sem];refine Z65 hall hs haf hnap 3 3 ?_;dsimp only [go_sem];refine An ?_;refine Zt3 10 rfl ?_;refine Zy3 hall rfl trivial ?_;dsimp only [go_sem];refine Zt3 11 rfl ?_;refine Zy3 hall rfl trivial ?_;dsimp only [go_sem];refine Z65 hall hs haf hnap 1 0 ?_;dsimp only [go_sem];refine An ?_;refine Zs3 rfl ?_ _;exact Zs4 J3 (s:=(x24.2,x24.1)) h (hok:=by first | rfl | simp [go_sem,Z94 _ hc2.pu])
       ·refine Zy3 hall rfl trivial ?_;dsimp only [go_sem];refine Zt3 6 rfl ?_;refine Zz3 hall rfl trivial (Z0j x22 x21 _ ex24) (hp:=(by first | rfl | simp [go_sem,hc2.pu])) (h:=?_);dsimp only [go_sem];refine Z65 hall hs haf hnap 3 2 ?_;dsimp only [go_sem];refine An ?_;refine Zt3 11 rfl ?_;refine Zy3 hall rfl trivial ?_;dsimp only [go_sem];refine Z65 hall hs haf hnap 1 0 ?_;dsimp only [go_sem];refine An ?_;refine Zs3 rfl ?_ _;exact Zs4 J3 (s:=(x24.2,x24.1)) h (hok:=by first | rfl | simp [go_sem,Z94 _ hc2.pu])
      ·refine Zy3 hall rfl trivial ?_;dsimp only [go_sem];refine Zt3 1 rfl ?_;refine Zz3 hall rfl trivial (Z8j x20 _ ex22) (hp:=(by first | rfl | simp [go_sem,hc2.pu])) (h:=?_);dsimp only [go_sem];refine Zt3 6 rfl ?_;obtain ⟨x24,ex24,h⟩:=Bs h;refine Zz3 hall rfl trivial (Z0j x22 x21 _ ex24) (hp:=(by first | rfl | simp [go_sem,hc2.pu])) (h:=?_);dsimp only [go_sem];refine Z65 hall hs haf hnap 3 2 ?_;dsimp only [go_sem];refine An ?_;refine Zt3 11 rfl ?_;refine Zy3 hall rfl trivial ?_;dsimp only [go_sem]
       refine Z65 hall hs haf hnap 1 0 ?_;dsimp only [go_sem];refine An ?_;refine Zs3 rfl ?_ _;exact Zs4 J3 (s:=(x24.2,x24.1)) h (hok:=by first | rfl | simp [go_sem,Z94 _ hc2.pu])
    ·refine Zn2 1 ?_;dsimp only [go_sem];refine An ?_;exact Zs4 J2 (s:=x20) (Zf4 h hout1) (hok:=by first | rfl | simp [go_sem,Z94 _ hc2.pu])
 ·refine Zp4 21 h rfl (fun _ h=>?_) fun _ h=>?_
  ·dsimp only [go_sem];refine Zn2 6 ?_;dsimp only [go_sem];refine An ?_;exact Zs4 J1 (s:=true) h (hok:=by first | rfl | simp [go_sem,Z94 _ hc2.pu])
  ·dsimp only [go_sem];refine Zn2 2 ?_;dsimp only [go_sem];refine An ?_;obtain ⟨x5,ex5,h⟩:=Bs h;refine Zv4 trivial rfl hc2 (x:=x4.1) ex5 (by first | exact Za4 _ | simp [go_sem]) (by first | rfl | simp [go_sem,hc2.pu]) ?_;refine Zn2 3 ?_;dsimp only [go_sem];refine An ?_;exact Zs4 J1 (s:=!x5) h (hok:=by first | rfl | simp [go_sem,Z94 _ hc2.pu])
set_option maxRecDepth 100000
set_option maxHeartbeats 4000000
@[go_sem] def e28_L0:EC:=.seq (.seq (.reg [(Qm 6 5),(Qm 7 1),(Qa 8 (.len (.t 7))),(Qa 9 (.bin .lss (.t 6) (.t 8))),(Qm 10 9),(Qg 11 10 true (.mv (.t 5))),(Qg 12 10 true (.bin .lss (.t 11) (.c (.iv 81)))),(Qp 13 10 12)]) (.ite (.t 13) (.skip) (.exit 0))) (.seq (.blk 1 (.seq (.reg [(Qm 16 1),(Qm 17 5),(Qk 18 4 16 17),(Qf 19 3 18),(Ql 20 19),(Qa 21 (.len (.t 20))),(Qa 22 (.bin .gtr (.t 21) (.c (.iv 20))))]) (.ite (.t 22) (.seq (.reg [(Qa 4 (.mv (.c .ff)))]) (.ret)) (.skip)))) (.reg [(Qm 14 5),(Qv 15 14 1),(Qm 5 15)]))
@[go_sem] def e28:EC:=.seq (.reg [(Qx 2 53 2 0),(Qa 4 (.mv (.c .ff)))]) (.seq (.seq (.reg [(Qi 5 0)]) (.blk 0 (.loop e28_L0))) (.seq (.reg [(Qe 23 2 2),(Qa 24 (.call 73 [(.t 23)])),(Qm 25 24),(Qg 26 25 true (.mv (.t 1))),(Qg 27 25 true (.len (.t 26))),(Qg 28 25 true (.bin .leq (.t 27) (.c (.iv 80)))),(Qp 29 25 28),(Qm 4 29)]) (.ret)))
theorem ok28:FnOK Tryz.prog 28 Tryz.f28 e28 [.t 4] 2 28:=⟨by kernel_rfl,⟨_,rfl,by kernel_rfl⟩,by kernel_rfl,by kernel_rfl⟩
noncomputable def Zcl:Bool→Option Bool
| x14=>
 some x14
noncomputable def Zdl (x1:Graph) (x2:(List narthexlaw16_Act)):Unit→Option Bool
| ()=>
 (Zrh x1).bind fun x13=>
 ifb x13 (
 Zcl (decide ((ln narthexlaw16_Act.row x2)≤80))) (
 Zcl false)
noncomputable def Zel (x1:Graph) (x2:(List narthexlaw16_Act)) (x6:Int):Bool→Option (Int ⊕ Bool)
| x7=>
 ifb x7 (
 (at_ x2 x6).bind fun x8=>
 ifb (decide (20<(ln Zw4 x8.Need))) (
 Option.map Sum.inr (some false)) (
 some (.inl (wr (x6+1))))) (
 Option.map Sum.inr ((Zdl x1 x2) ()))
noncomputable def Zfl (x1:Graph) (x2:(List narthexlaw16_Act)):Int→Option (Int ⊕ Bool)
| x6=>
 ifb (decide (x6<(ln narthexlaw16_Act.row x2))) (
 (Zel x1 x2 x6) (decide (x6<81))) (
 (Zel x1 x2 x6) false)
noncomputable def Zgl (x1:Graph) (x2:(List narthexlaw16_Act)):Option Bool:=
 loop (Zfl x1 x2) 0
theorem Zhl (x1:Graph) (x2:(List narthexlaw16_Act)) (r:Bool) (h:Zgl x1 x2=some r):Zs2 Tryz.prog 28 [.agg (Graph.row x1),.sl 4 (List.map narthexlaw16_Act.row x2)] (.bv r):=by
 refine Zw2 ok28 rfl rfl fun w0 H0=>?_
 rw [Zgl] at h
 refine Zn2 10 ?_;dsimp only [go_sem];refine An ?_;refine Zg4 (fun (_:Unit)=>(⟨(.any :: .sl 4 (List.map narthexlaw16_Act.row x2) :: .ptr 0 0::an 27 []),[some ⟨53,[.iv x1.N,.sl 2 (List.map Edge.row x1.Edges)]⟩],[]⟩:St)) (Zdl x1 x2) r ?_ fun J1=>?_
 ·rintro ⟨⟩ h;rw [Zdl] at h;(try dsimp only);refine Zn2 3 ?_;dsimp only [go_sem];refine An ?_;obtain ⟨x13,ex13,h⟩:=Bs h;refine Z13 trivial (Zsh x1 _ ex13) (h:=?_);refine Zn2 1 ?_;dsimp only [go_sem];refine An ?_;refine Zg4 (fun (x14:Bool)=>(⟨(an 4 (.bv x14::an 25 [])),[],[]⟩:St)) Zcl r ?_ fun J3=>?_
  ·intro x14 h;rw [Zcl] at h;(try dsimp only);exact Zq4 (res:=fun (r:Bool)=>.bv r) ok28 h
  ·refine Zp4 25 h rfl (fun _ h=>?_) fun _ h=>?_
   ·dsimp only [go_sem];refine Zn2 6 ?_;dsimp only [go_sem];refine An ?_;exact Zs4 J3 (s:=decide ((ln narthexlaw16_Act.row x2)≤80)) h
   ·dsimp only [go_sem];refine Zn2 6 ?_;dsimp only [go_sem];refine An ?_;exact Zs4 J3 (s:=false) h
 ·refine Zn2 1 ?_;dsimp only [go_sem];refine An ?_;refine Zh4 h (fun (x6:Int)=>(⟨(.any :: .sl 4 (List.map narthexlaw16_Act.row x2) :: .ptr 0 0 :: .any :: .any :: .iv x6::an 24 []),[some ⟨53,[.iv x1.N,.sl 2 (List.map Edge.row x1.Edges)]⟩],[]⟩:St)) (by simp [go_sem]) (by intro x6;first | rfl | simp [go_sem]) ?_;rintro n1 x6 y1 h hin1 hout1;rw [Zfl] at h;(try dsimp only);refine Zn2 8 ?_;dsimp only [go_sem];refine An ?_
  refine Zg4 (fun (x7:Bool)=>(⟨(.any :: .sl 4 (List.map narthexlaw16_Act.row x2) :: .ptr 0 0 :: .any :: .any :: .iv x6::an 7 (.bv x7::an 16 [])),[some ⟨53,[.iv x1.N,.sl 2 (List.map Edge.row x1.Edges)]⟩],[]⟩:St)) (Zel x1 x2 x6) y1 ?_ fun J2=>?_
  ·intro x7 h;rw [Zel] at h;(try dsimp only);refine Zi4 h rfl (fun _ h=>?_) fun _ h=>?_
   ·refine Zn2 7 ?_;dsimp only [go_sem];refine An ?_;obtain ⟨x8,ex8,h⟩:=Bs h;refine Zl4 narthexlaw16_Act.row ex8 trivial rfl rfl rfl ?_;refine Zn2 5 ?_;dsimp only [go_sem];refine An ?_;refine Zi4 h rfl (fun _ h=>?_) fun _ h=>?_
    ·refine Zn2 4 ?_;dsimp only [go_sem];refine An ?_;exact Zq4 (res:=fun (r:Bool)=>.bv r) ok28 (Zf4 h hout1)
    ·refine Zn2 7 ?_;dsimp only [go_sem];refine An ?_;exact Zr4 h hin1
   ·refine Zn2 1 ?_;dsimp only [go_sem];refine An ?_;exact Zs4 J1 (s:=()) (Zf4 h hout1)
  ·refine Zp4 10 h rfl (fun _ h=>?_) fun _ h=>?_
   ·dsimp only [go_sem];refine Zn2 4 ?_;dsimp only [go_sem];refine An ?_;exact Zs4 J2 (s:=decide (x6<81)) h
   ·dsimp only [go_sem];refine Zn2 4 ?_;dsimp only [go_sem];refine An ?_;exact Zs4 J2 (s:=false) h
theorem Zil {l:List Drinker} {a:Nat} {d d':Drinker} (hd:l[a]?=some d):(l.set a d')[a]?=some d':=by
 have hlt:=(List.getElem?_eq_some_iff.1 hd).1
 rw [List.getElem?_set];simp [hlt]
theorem Zjl {g:Graph} {s:Bar} (hg:okG g=true) (hN:g.N≤60) {a:Int} {d d':Drinker} (hd:s.Drinkers[a.toNat]?=some d) (h:InvB g ⟨s.Drinkers.set a.toNat d',s.Mail⟩):Zhk s a (d',0)=(Zgk s a d',0)∧InvB g (Zgk s a d'):=by
 have h1:=Zil (d':=d') hd
 have hk:=h.okDr hg hN (List.mem_iff_getElem?.2 ⟨_,h1⟩)
 have h2:=h.fireDr hg h1
 dsimp only at h2
 rw [List.set_set] at h2
 refine ⟨?_,h2⟩
 unfold Zhk
 dsimp only
 rw [if_pos rfl,if_pos hk]
theorem InvB.drk {g:Graph} {s:Bar} (hg:okG g=true) (h:InvB g s) {a:Nat} {d:Drinker} (hd:s.Drinkers[a]?=some d) {t:Int} {n:List Int} (hl:LocT ⟨d.Diner,t,n⟩):InvB g ⟨s.Drinkers.set a ⟨d.Diner,t,n⟩,s.Mail⟩:=by
 refine h.upd (d':=⟨d.Diner,t,n⟩) hg hd ?_ h.mail hl (fun _ _ _ _ _ _=>rfl) (fun _ _ _ _=>rfl)
 rw [Z1l (Zxk hd)]
 exact h.tab
def fineR (e:Int):Bool:=decide (e=0)||(decide (e=152)||(decide (e=151)||(decide (e=162)||decide (e=161))))
theorem open_inv {g:Graph} {s:Bar} (hg:okG g=true) (hN:g.N≤60) (h:InvB g s) (a:Int) (need:List Int):fineR (Zik s a fun d=>Zdf d need).2=true∧((Zik s a fun d=>Zdf d need).2=0→InvB g (Zik s a fun d=>Zdf d need).1):=by
 unfold Zik
 rw [h.ok hg hN,if_pos rfl]
 cases ht:Z9k s a with
 | false=>exact ⟨rfl,fun e=>absurd e (by show ¬(161:Int)=0;omega)⟩
 | true=>
   obtain ⟨d,hd1,hd⟩:=Zck ht
   have hdm:d∈s.Drinkers:=List.mem_iff_getElem?.2 ⟨_,hd⟩
   rw [if_pos rfl,hd1]
   dsimp only
   unfold Zdf
   rw [h.okDr hg hN hdm,if_pos rfl]
   by_cases h0:d.Thirst=0
   ·rw [if_pos h0]
    cases ho:need.any (Zcf d.Diner) with
    | true=>exact ⟨rfl,fun e=>absurd e (by show ¬(151:Int)=0;omega)⟩
    | false=>
      rw [if_neg (by simp)]
      rw [List.any_eq_false] at ho
      obtain ⟨s1,s2⟩:=Z3l need
      have hl:LocT ⟨d.Diner,1,Ztc need⟩:=by
       refine ⟨by show (0:Int)≤1;omega,by show (1:Int)≤2;omega,s1,fun p hp=>?_,fun e=>absurd e (by show ¬(1:Int)=0;omega),fun e=>absurd e (by show ¬(1:Int)=2;omega)⟩
       have:=ho p ((s2 p).1 hp)
       unfold Zcf at this
       simp only [Bool.not_eq_true',Bool.not_eq_false,List.any_eq_true,Bool.and_eq_true,decide_eq_true_eq] at this
       obtain ⟨x,hx,e,_⟩:=this
       exact List.mem_map.2 ⟨x,hx,e⟩
      obtain ⟨k1,k2⟩:=Zjl hg hN hd (h.drk hg hd hl)
      rw [k1]
      exact ⟨rfl,fun _=>k2⟩
   ·rw [if_neg h0]
    exact ⟨rfl,fun e=>absurd e (by show ¬(152:Int)=0;omega)⟩
theorem close_inv {g:Graph} {s:Bar} (hg:okG g=true) (hN:g.N≤60) (h:InvB g s) (a:Int):fineR (Zik s a Zef).2=true∧((Zik s a Zef).2=0→InvB g (Zik s a Zef).1):=by
 unfold Zik
 rw [h.ok hg hN,if_pos rfl]
 cases ht:Z9k s a with
 | false=>exact ⟨rfl,fun e=>absurd e (by show ¬(161:Int)=0;omega)⟩
 | true=>
   obtain ⟨d,hd1,hd⟩:=Zck ht
   have hdm:d∈s.Drinkers:=List.mem_iff_getElem?.2 ⟨_,hd⟩
   rw [if_pos rfl,hd1]
   dsimp only
   unfold Zef
   rw [h.okDr hg hN hdm,if_pos rfl]
   by_cases h0:d.Thirst=0
   ·rw [if_pos h0]
    exact ⟨rfl,fun e=>absurd e (by show ¬(152:Int)=0;omega)⟩
   ·rw [if_neg h0]
    have hl:LocT ⟨d.Diner,0,[]⟩:=⟨Int.le_refl _,by show (0:Int)≤2;omega,by simp,by simp,fun _=>rfl,fun e=>absurd e (by show ¬(0:Int)=2;omega)⟩
    obtain ⟨k1,k2⟩:=Zjl hg hN hd (h.drk hg hd hl)
    rw [k1]
    exact ⟨rfl,fun _=>k2⟩
theorem Zkl {d:Diner} (hpw:d.Sides.Pairwise fun x y=>x.Peer<y.Peer) {j:Nat} {x y:Side} (hx:d.Sides[j]?=some x) (hp:y.Peer=x.Peer) (i p z:Int):Zw7 ⟨i,p,d.Sides.set j y⟩ z=if z=x.Peer then some y else Zw7 d z:=by
 have hjlt:=(List.getElem?_eq_some_iff.1 hx).1
 have hsplit:d.Sides=d.Sides.take j++x::d.Sides.drop (j+1):=by
  have h1:=List.take_append_drop j d.Sides
  rw [List.drop_eq_getElem_cons hjlt] at h1
  have h2:d.Sides[j]=x:=by rw [List.getElem?_eq_getElem hjlt] at hx;simpa using hx
  rw [h2] at h1;exact h1.symm
 have hjl:(d.Sides.take j).length=j:=by simp;omega
 have hset2:d.Sides.set j y=d.Sides.take j++y::d.Sides.drop (j+1):=by
  have:=Zs7 (d.Sides.take j) (d.Sides.drop (j+1)) x y
  rw [←hsplit,hjl,Int.toNat_natCast] at this
  exact this
 unfold Zw7
 dsimp only
 rw [hset2]
 have hpw2:=hpw
 rw [hsplit,List.pairwise_append,List.pairwise_cons] at hpw2
 have before:∀u∈d.Sides.take j,u.Peer≠x.Peer:=fun u hu=>by
  have:=hpw2.2.2 u hu x (by simp);omega
 rw [List.find?_append,List.find?_cons,hp]
 by_cases hz:z=x.Peer
 ·subst hz
  rw [decide_eq_true rfl,if_pos rfl]
  have:(d.Sides.take j).find? (fun u=>decide (u.Peer=x.Peer))=none:=by
   rw [List.find?_eq_none];intro u hu;simpa using before u hu
  rw [this];rfl
 ·rw [if_neg hz]
  have e3:d.Sides.find? (fun u=>decide (u.Peer=z))=(d.Sides.take j++x::d.Sides.drop (j+1)).find? (fun u=>decide (u.Peer=z)):=by rw [←hsplit]
  rw [e3,List.find?_append,List.find?_cons,decide_eq_false (show ¬x.Peer=z by omega)]
theorem Zll {d:Diner} (hpw:d.Sides.Pairwise fun x y=>x.Peer<y.Peer) {x:Side} (hx:x∈d.Sides):Zw7 d x.Peer=some x:=by
 obtain ⟨i,hi⟩:=List.mem_iff_getElem?.1 hx
 have:=Zkl hpw hi rfl d.ID d.Phase x.Peer
 rw [if_pos rfl,Z1l hi] at this
 exact this
theorem Zml {l:List Side} {j:Nat} {x y:Side} (hx:l[j]?=some x) (hp:y.Peer=x.Peer):(l.set j y).map (·.Peer)=l.map (·.Peer):=by
 refine List.ext_getElem? fun n=>?_
 rw [List.getElem?_map,List.getElem?_map,List.getElem?_set]
 split
 ·rename_i hn;subst hn
  have:=(List.getElem?_eq_some_iff.1 hx).1
  rw [hx,if_pos this];simp [hp]
 ·rfl
theorem Inv.side1 {g:Graph} {s:Scene} (hg:okG g=true) (h:Inv g s) {a:Nat} {d:Diner} (hd:s.Diners[a]?=some d) {j:Nat} {x y:Side} (hx:d.Sides[j]?=some x) (hy:y.Peer=x.Peer∧y.Epoch=x.Epoch∧y.State=x.State∧y.Fork=x.Fork∧y.Dirty=x.Dirty∧y.Token=x.Token):
  Inv g ⟨s.Diners.set a ⟨d.ID,d.Phase,d.Sides.set j y⟩,s.Mail⟩:=by
 have hl:=h.loc d (List.mem_iff_getElem?.2 ⟨_,hd⟩)
 have hpw:=h.pw hg hd
 obtain ⟨p1,p2,p3,p4,p5,p6⟩:=hy
 have hxm:x∈d.Sides:=List.mem_iff_getElem?.2 ⟨_,hx⟩
 refine h.set (d':=⟨d.ID,d.Phase,d.Sides.set j y⟩) hg hd rfl (Zml hx p1) ⟨hl.lo,hl.hi,fun z hz=>?_,fun e z hz=>?_⟩ h.mail (fun _ _ _ _ _=>rfl) (fun b _ k _=>?_)
 ·rcases List.mem_or_eq_of_mem_set hz with hz | rfl
  ·exact hl.side z hz
  ·rw [p2,p3,p4,p5];exact hl.side x hxm
 ·rcases List.mem_or_eq_of_mem_set hz with hz | rfl
  ·exact hl.eat e z hz
  ·rw [p4,p5];exact hl.eat e x hxm
 ·unfold hasD
  rw [Zkl hpw hx p1]
  by_cases hb:b=x.Peer
  ·subst hb
   rw [if_pos rfl,Zll hpw hxm]
   dsimp only
   unfold has
   rw [p4,p6]
  ·rw [if_neg hb]
def getT (x:Side) (k:Int):Side:=if k=4 then {x with Ask:=true} else {x with Bottle:=true}
theorem filter_skip {M:List Mail} {i:Nat} {m:Mail} (hm:M[i]?=some m) (hk:k12 m=false):(M.take i++M.drop (i+1)).filter k12=M.filter k12:=by
 have hlt:=(List.getElem?_eq_some_iff.1 hm).1
 have e:M=M.take i++m::M.drop (i+1):=by
  have h1:=List.take_append_drop i M
  rw [List.drop_eq_getElem_cons hlt] at h1
  have h2:M[i]=m:=by rw [List.getElem?_eq_getElem hlt] at hm;simpa using hm
  rw [h2] at h1
  exact h1.symm
 have e2:M.filter k12=(M.take i++m::M.drop (i+1)).filter k12:=by rw [←e]
 rw [e2,List.filter_append,List.filter_append,List.filter_cons,hk,if_neg (by simp)]
theorem filter_cnt {M:List Mail} {i:Nat} {m:Mail} (hm:M[i]?=some m) (hk:k12 m=true) (x:Mail):((M.take i++M.drop (i+1)).filter k12).count x+(if m=x then 1 else 0)=(M.filter k12).count x:=by
 have h:=Z1h hm x
 by_cases hx:k12 x=true
 ·rw [List.count_filter hx,List.count_filter hx];exact h
 ·have hx':k12 x=false:=by simpa using hx
  have z:∀L:List Mail,(L.filter k12).count x=0:=fun L=>Z0e fun hm=>by
   rw [List.mem_filter] at hm
   exact hx hm.2
  rw [z,z,if_neg (fun e:m=x=>hx (e ▸ hk))]
theorem Znl {g:Graph} {s:Bar} (hg:okG g=true) (hN:g.N≤60) (h:InvB g s) {a b:Int} (ht:Z9k s a=true) (ht':Z9k s b=true) {i:Nat} (hf:Zlk s a b=some i):
  ∃m db x j d1,s.Mail[i]?=some m∧m.From=a∧m.To=b∧s.Drinkers[b.toNat]?=some db∧db.Diner.Sides[j]?=some x∧x.Peer=a∧d1=(⟨⟨db.Diner.ID,db.Diner.Phase,db.Diner.Sides.set j (if m.Msg.Kind≤2 then Z2h x m.Msg.Kind else getT x m.Msg.Kind)⟩,db.Thirst,db.Need⟩:Drinker)∧
   InvB g ⟨s.Drinkers.set b.toNat d1,s.Mail.take i++s.Mail.drop (i+1)⟩∧Zmk s a b=(Zgk ⟨s.Drinkers,s.Mail.take i++s.Mail.drop (i+1)⟩ b d1,0)∧InvB g (Zgk ⟨s.Drinkers,s.Mail.take i++s.Mail.drop (i+1)⟩ b d1):=by
 obtain ⟨a0,a1⟩:=Zbk.1 ht
 obtain ⟨b0,b1⟩:=Zbk.1 ht'
 obtain ⟨db,hdb1,hdb⟩:=Zck ht'
 obtain ⟨da,_,hda⟩:=Zck ht
 have hf0:=hf
 unfold Zlk at hf
 have hfi:=Zx7 (fun m:Mail=>decide (m.From=a)&&decide (m.To=b)) s.Mail
 rw [hf] at hfi
 obtain ⟨m,hm,hq⟩:=hfi
 have hq':=List.find?_some hq
 simp only [Bool.and_eq_true,decide_eq_true_eq] at hq'
 obtain ⟨q1,q2⟩:=hq'
 have hmm:m∈s.Mail:=List.mem_iff_getElem?.2 ⟨_,hm⟩
 obtain ⟨m1,m2,m3,m4⟩:=h.mail m hmm
 rw [q1,q2] at m4
 have nab:=Ztd hg m4
 have hnab:a≠b:=fun e=>(Zwc hg m4).2.2.1 e.symm
 have hdbm:db∈s.Drinkers:=List.mem_iff_getElem?.2 ⟨_,hdb⟩
 have hT:=h.th db hdbm
 have hdbt:=Zxk hdb
 have hok:=h.okDr hg hN hdbm
 have hsub:∀y∈s.Mail.take i++s.Mail.drop (i+1),y∈s.Mail:=fun y hy=>by
  rcases List.mem_append.1 hy with hy | hy
  ·exact List.mem_of_mem_take hy
  ·exact List.mem_of_mem_drop hy
 have hpw:=h.tab.pw hg hdbt
 have hloc:=h.tab.loc _ (List.mem_iff_getElem?.2 ⟨_,hdbt⟩)
 obtain ⟨hid,hsh⟩:=h.tab.shp _ _ hdbt
 have eb:((b.toNat:Nat):Int)=b:=Int.toNat_of_nonneg b0
 have ea:((a.toNat:Nat):Int)=a:=Int.toNat_of_nonneg a0
 have fin:∀d1:Drinker,InvB g ⟨s.Drinkers.set b.toNat d1,s.Mail.take i++s.Mail.drop (i+1)⟩→Zgf db a m.Msg=(d1,0)→
   Zmk s a b=(Zgk ⟨s.Drinkers,s.Mail.take i++s.Mail.drop (i+1)⟩ b d1,0)∧InvB g (Zgk ⟨s.Drinkers,s.Mail.take i++s.Mail.drop (i+1)⟩ b d1):=fun d1 h1 h2=>by
  obtain ⟨k1,k2⟩:=Zjl (s:=⟨s.Drinkers,s.Mail.take i++s.Mail.drop (i+1)⟩) hg hN (a:=b) hdb h1
  refine ⟨?_,k2⟩
  unfold Zmk
  rw [h.ok hg hN,if_pos rfl,ht,ht',Bool.and_self,if_pos rfl,hf0]
  dsimp only
  rw [hm,hdb1]
  dsimp only
  rw [h2,k1]
 have locT:∀(j:Nat) (x y:Side),db.Diner.Sides[j]?=some x→y.Peer=x.Peer→(x.Bottle=true→y.Bottle=true)→LocT ⟨⟨db.Diner.ID,db.Diner.Phase,db.Diner.Sides.set j y⟩,db.Thirst,db.Need⟩:=fun j x y hx hp hb=>by
  refine ⟨hT.lo,hT.hi,hT.need,fun p hp'=>?_,hT.tr,fun e z hz hn=>?_⟩
  ·rw [Zml hx hp];exact hT.sub p hp'
  ·rcases List.mem_or_eq_of_mem_set hz with hz | rfl
   ·exact hT.dr e z hz hn
   ·rw [hp] at hn
    exact hb (hT.dr e x (List.mem_iff_getElem?.2 ⟨_,hx⟩) hn)
 by_cases hk2:m.Msg.Kind≤2
 ·
  have hk12:k12 m=true:=decide_eq_true hk2
  have hmf:m∈(Zwk s).Mail:=List.mem_filter.2 ⟨hmm,hk12⟩
  obtain ⟨x,j,hidx,hxj,hx,hk,es,hset,hgd⟩:=h.tab.recv hg hN hmf q1 q2 (M':=(s.Mail.take i++s.Mail.drop (i+1)).filter k12) (fun y hy=>by
   rw [List.mem_filter] at hy
   exact List.mem_filter.2 ⟨hsub y hy.1,hy.2⟩) (filter_cnt hm hk12) hdbt
  have hxp:x.Peer=a:=(Z9e hx).2
  have hgs:(Z2h x m.Msg.Kind).Peer=x.Peer∧(Z2h x m.Msg.Kind).Bottle=x.Bottle∧(Z2h x m.Msg.Kind).Ask=x.Ask:=by unfold Z2h;split<;>exact ⟨rfl,rfl,rfl⟩
  have hI:InvB g ⟨s.Drinkers.set b.toNat ⟨⟨db.Diner.ID,db.Diner.Phase,db.Diner.Sides.set j (Z2h x m.Msg.Kind)⟩,db.Thirst,db.Need⟩,s.Mail.take i++s.Mail.drop (i+1)⟩:=by
   have hcne:∀k p q:Int,(k=3∨k=4)→cnt (s.Mail.take i++s.Mail.drop (i+1)) k p q=cnt s.Mail k p q:=fun k p q hk'=>by
    have:=Z1h hm ⟨p,q,⟨k,1,0⟩⟩
    rw [if_neg (by intro e;rw [e] at hk2;dsimp only at hk2;omega)] at this
    exact this
   refine h.upd (d':=⟨⟨db.Diner.ID,db.Diner.Phase,db.Diner.Sides.set j (Z2h x m.Msg.Kind)⟩,db.Thirst,db.Need⟩) hg hdb hset (fun y hy=>h.mail y (hsub y hy)) (locT j x _ hxj hgs.1 fun e=>by rw [hgs.2.1];exact e) (fun k p q hk' _ _=>hcne k p q hk') (fun c _ k hk'=>?_)
   rw [hcne k _ _ hk',hcne k _ _ hk']
   have:hasT (⟨db.Diner.ID,db.Diner.Phase,db.Diner.Sides.set j (Z2h x m.Msg.Kind)⟩:Diner) k c=hasT db.Diner k c:=by
    unfold hasT
    rw [es]
    by_cases hc:c=a
    ·subst hc
     rw [if_pos rfl,hx]
     dsimp only
     unfold Zok
     rw [hgs.2.1,hgs.2.2]
    ·rw [if_neg hc]
   dsimp only
   rw [this]
  have hgr:Zgf db a m.Msg=(⟨⟨db.Diner.ID,db.Diner.Phase,db.Diner.Sides.set j (Z2h x m.Msg.Kind)⟩,db.Thirst,db.Need⟩,0):=by
   unfold Zgf
   rw [hok,if_pos rfl,hidx]
   dsimp only
   rw [hxj]
   dsimp only
   rw [decide_eq_false (show ¬m.Msg.Kind=3 by omega),decide_eq_false (show ¬m.Msg.Kind=4 by omega),if_neg (by simp)]
   unfold viaD
   rw [hgd,if_pos rfl]
  obtain ⟨f1,f2⟩:=fin _ hI hgr
  refine ⟨m,db,x,j,_,hm,q1,q2,hdb,hxj,hxp,rfl,?_⟩
  rw [if_pos hk2]
  exact ⟨hI,f1,f2⟩
 ·
  have hk:m.Msg.Kind=3∨m.Msg.Kind=4:=by omega
  have hk12:k12 m=false:=decide_eq_false hk2
  have hsome:(Zw7 db.Diner a).isSome=true:=by
   rw [Zud,hsh,eb];exact decide_eq_true nab
  obtain ⟨x,hx⟩:=Option.isSome_iff_exists.1 hsome
  obtain ⟨xm,xp⟩:=Z9e hx
  have hidx:=Zx7 (fun y:Side=>decide (y.Peer=a)&&decide (y.Epoch=m.Msg.Epoch)) db.Diner.Sides
  have efind:db.Diner.Sides.find? (fun y=>decide (y.Peer=a)&&decide (y.Epoch=m.Msg.Epoch))=some x:=by
   rw [←hx];unfold Zw7
   exact Z0h fun y hy=>by rw [m2,(hloc.side y hy).1];simp
  cases hj:db.Diner.Sides.findIdx? (fun y=>decide (y.Peer=a)&&decide (y.Epoch=m.Msg.Epoch)) with
  | none=>rw [hj] at hidx;rw [efind] at hidx;exact absurd hidx (by simp)
  | some j=>
    rw [hj] at hidx
    obtain ⟨x',hxj,hx2⟩:=hidx
    rw [efind] at hx2
    have:x'=x:=by simpa using hx2.symm
    subst this
    have hme:m=⟨a,b,⟨m.Msg.Kind,1,0⟩⟩:=by
     obtain ⟨f,t,⟨k,e,n⟩⟩:=m
     dsimp only at q1 q2 m2 m3 ⊢
     rw [q1,q2,m2,m3]
    have hcnt:1≤cnt s.Mail m.Msg.Kind a b:=by
     unfold cnt
     have:=List.count_pos_iff.2 hmm
     rw [←hme];omega
    have hone:=h.two b.toNat a.toNat db da hdb hda (by rw [eb,ea];exact nab) m.Msg.Kind hk
    rw [eb,ea] at hone
    have hno:Zok x' m.Msg.Kind=false:=by
     cases hh:Zok x' m.Msg.Kind with
     | false=>rfl
     | true=>
       have:hasT db.Diner m.Msg.Kind a=1:=by unfold hasT;rw [hx];simp only [hh,bn];rfl
       omega
    have hgt:(getT x' m.Msg.Kind).Peer=x'.Peer∧(getT x' m.Msg.Kind).Epoch=x'.Epoch∧(getT x' m.Msg.Kind).State=x'.State∧(getT x' m.Msg.Kind).Fork=x'.Fork∧(getT x' m.Msg.Kind).Dirty=x'.Dirty∧(getT x' m.Msg.Kind).Token=x'.Token:=by
     unfold getT;split<;>exact ⟨rfl,rfl,rfl,rfl,rfl,rfl⟩
    have hI:InvB g ⟨s.Drinkers.set b.toNat ⟨⟨db.Diner.ID,db.Diner.Phase,db.Diner.Sides.set j (getT x' m.Msg.Kind)⟩,db.Thirst,db.Need⟩,s.Mail.take i++s.Mail.drop (i+1)⟩:=by
     refine h.upd (d':=⟨⟨db.Diner.ID,db.Diner.Phase,db.Diner.Sides.set j (getT x' m.Msg.Kind)⟩,db.Thirst,db.Need⟩) hg hdb ?_ (fun y hy=>h.mail y (hsub y hy)) (locT j x' _ hxj hgt.1 fun e=>by unfold getT;split;exact e;rfl) (fun k p q hk' hp hq=>?_) (fun c hc k hk'=>?_)
     ·rw [filter_skip hm hk12]
      exact h.tab.side1 hg hdbt hxj hgt
     ·have:=Z1h hm ⟨p,q,⟨k,1,0⟩⟩
      rw [if_neg (by rw [hme];simp only [Mail.mk.injEq];omega)] at this
      exact this
     ·rw [eb] at hc ⊢
      have e1:=Z1h hm ⟨b,c,⟨k,1,0⟩⟩
      have e2:=Z1h hm ⟨c,b,⟨k,1,0⟩⟩
      rw [if_neg (by rw [hme];simp only [Mail.mk.injEq];omega)] at e1
      unfold hasT
      dsimp only
      rw [Zkl hpw hxj hgt.1,xp]
      by_cases hca:c=a
      ·subst hca
       rw [if_pos rfl,hx]
       dsimp only
       by_cases hkk:k=m.Msg.Kind
       ·subst hkk
        have h1:Zok (getT x' m.Msg.Kind) m.Msg.Kind=true:=by
         unfold Zok getT
         rcases hk with h1 | h1<;>rw [h1]<;>rfl
        rw [if_pos hme] at e2
        rw [h1,hno]
        unfold cnt
        simp only [bn,if_true,Bool.false_eq_true,if_false]
        omega
       ·have h1:Zok (getT x' m.Msg.Kind) k=Zok x' k:=by
         unfold Zok getT
         rcases hk with h2 | h2<;>rcases hk' with h3 | h3<;>rw [h2,h3]
         ·exact absurd (h3.trans h2.symm) hkk
         ·rfl
         ·rfl
         ·exact absurd (h3.trans h2.symm) hkk
        rw [if_neg (by rw [hme];simp only [Mail.mk.injEq,Msg.mk.injEq];omega)] at e2
        rw [h1]
        unfold cnt
        omega
      ·rw [if_neg hca]
       rw [if_neg (by rw [hme];simp only [Mail.mk.injEq];omega)] at e2
       unfold cnt
       omega
    have hgr:Zgf db a m.Msg=(⟨⟨db.Diner.ID,db.Diner.Phase,db.Diner.Sides.set j (getT x' m.Msg.Kind)⟩,db.Thirst,db.Need⟩,0):=by
     unfold Zgf
     rw [hok,if_pos rfl,hj]
     dsimp only
     rw [hxj]
     dsimp only
     unfold Zok at hno
     unfold getT
     rcases hk with h1 | h1
     ·rw [h1] at hno ⊢
      rw [m3]
      simp at hno
      simp [hno]
     ·rw [h1] at hno ⊢
      rw [m3]
      simp at hno
      simp [hno]
    obtain ⟨f1,f2⟩:=fin _ hI hgr
    refine ⟨m,db,x',j,_,hm,q1,q2,hdb,hxj,xp,rfl,?_⟩
    rw [if_neg hk2]
    exact ⟨hI,f1,f2⟩
theorem delivR_inv {g:Graph} {s:Bar} (hg:okG g=true) (hN:g.N≤60) (h:InvB g s) (a b:Int):fineR (Zmk s a b).2=true∧((Zmk s a b).2=0→InvB g (Zmk s a b).1):=by
 have none161:fineR 161=true∧((161:Int)=0→InvB g bar0):=⟨rfl,fun e=>absurd e (by omega)⟩
 cases ht:Z9k s a with
 | false=>
   unfold Zmk
   rw [h.ok hg hN,if_pos rfl,ht]
   exact none161
 | true=>
   cases ht':Z9k s b with
   | false=>
     unfold Zmk
     rw [h.ok hg hN,if_pos rfl,ht,ht']
     exact none161
   | true=>
     cases hf:Zlk s a b with
     | none=>
       unfold Zmk
       rw [h.ok hg hN,if_pos rfl,ht,ht',Bool.and_self,if_pos rfl,hf]
       exact ⟨rfl,fun e=>absurd e (by show ¬(162:Int)=0;omega)⟩
     | some i=>
       obtain ⟨m,db,x,j,d1,_,_,_,_,_,_,_,_,e,k⟩:=Znl hg hN h ht ht' hf
       rw [e]
       exact ⟨rfl,fun _=>k⟩
theorem actR_inv {g:Graph} {s:Bar} (hg:okG g=true) (hN:g.N≤60) (h:InvB g s) (k a b:Int) (need:List Int):fineR (actR s k a b need).2=true∧((actR s k a b need).2=0→InvB g (actR s k a b need).1):=by
 unfold actR
 split
 ·exact open_inv hg hN h a need
 ·split
  ·exact close_inv hg hN h a
  ·exact delivR_inv hg hN h a b
theorem Zol {s:Bar} {a:Int} {r:Drinker×Int} (h:(Zhk s a r).2=0):(Zhk s a r).1.Mail.length≤s.Mail.length+252:=by
 unfold Zhk at h ⊢
 split at h
 ·rename_i h1
  rw [if_pos h1]
  split at h
  ·rename_i h2
   rw [if_pos h2]
   have:=Zfk h2
   simp only [Zgk,List.length_append];omega
  ·simp at h
 ·exact absurd h (by assumption)
theorem Zpl {s:Bar} {a:Int} {q:Drinker→Drinker×Int} (h:(Zik s a q).2=0):(Zik s a q).1.Mail.length≤s.Mail.length+252:=by
 unfold Zik at h ⊢
 cases hk:Z8k s with
 | false=>rw [hk] at h;simp at h
 | true=>
   rw [hk] at h
   simp only [if_true] at h ⊢
   cases ht:Z9k s a with
   | false=>rw [ht] at h;simp at h
   | true=>
     rw [ht] at h
     simp only [if_true] at h ⊢
     obtain ⟨d,hd,_⟩:=Zck ht
     rw [hd] at h ⊢
     exact Zol h
theorem delivR_mail {s:Bar} {a b:Int} (h:(Zmk s a b).2=0):(Zmk s a b).1.Mail.length≤s.Mail.length+252:=by
 unfold Zmk at h ⊢
 cases hk:Z8k s with
 | false=>rw [hk] at h;simp at h
 | true=>
   rw [hk] at h
   simp only [if_true] at h ⊢
   cases ht:(Z9k s a&&Z9k s b) with
   | false=>rw [ht] at h;simp at h
   | true=>
     rw [ht] at h
     simp only [if_true] at h ⊢
     cases hi:Zlk s a b with
     | none=>rw [hi] at h;simp at h
     | some i=>
       rw [hi] at h
       simp only at h ⊢
       rw [Bool.and_eq_true] at ht
       obtain ⟨d,hd,_⟩:=Zck ht.2
       rw [hd] at h ⊢
       cases hm:s.Mail[i]? with
       | none=>rw [hm] at h;simp at h
       | some m=>
         rw [hm] at h
         have:=Zol (s:=⟨s.Drinkers,s.Mail.take i++s.Mail.drop (i+1)⟩) h
         simp only [List.length_append,List.length_take,List.length_drop] at this
         refine Nat.le_trans this ?_
         omega
theorem actR_mail {s:Bar} {k a b:Int} {need:List Int} (h:(actR s k a b need).2=0):(actR s k a b need).1.Mail.length≤s.Mail.length+252:=by
 unfold actR at h ⊢
 split at h
 ·rename_i h1;rw [if_pos h1];exact Zpl h
 ·rename_i h1
  rw [if_neg h1]
  split at h
  ·rename_i h2;rw [if_pos h2];exact Zpl h
  ·rename_i h2;rw [if_neg h2];exact delivR_mail h
def actU (s:Bar) (a:narthexlaw16_Act):Bar:=if (actR s a.K a.A a.B a.Need).2=0 then (actR s a.K a.A a.B a.Need).1 else s
def Zql (g:Graph) (l:List narthexlaw16_Act):Bar:=l.foldl actU (barT g)
theorem s_run16 {g:Graph} (hg:okG g=true) (hN:g.N≤60) {J:Bar→Prop} (hJ:∀s,J s→InvB g s) (h0:J (barT g)) (hs:∀s k a b n,J s→(actR s k a b n).2=0→J (actR s k a b n).1)
  (l:List narthexlaw16_Act) (hl:l.length≤80) (hn:∀a∈l,a.Need.length≤5000) (p:Bar→Option Bool) (hp:∀s,J s→s.Mail.length≤30000→p s=some true):
  Zal g l p=some (Zql g l,true)∧J (Zql g l)∧(Zql g l).Mail.length≤252*l.length:=by
 have inv:∀(l:List narthexlaw16_Act) s,J s→J (l.foldl actU s)∧(l.foldl actU s).Mail.length≤s.Mail.length+252*l.length:=fun l=>by
  induction l with
  | nil=>exact fun s h=>⟨h,by simp⟩
  | cons a l ih=>
    intro s h
    have h1:J (actU s a)∧(actU s a).Mail.length≤s.Mail.length+252:=by
     unfold actU
     split
     ·rename_i h2;exact ⟨hs _ _ _ _ _ h h2,actR_mail h2⟩
     ·exact ⟨h,by omega⟩
    have h3:=ih _ h1.1
    rw [List.foldl_cons,List.length_cons]
    exact ⟨h3.1,by omega⟩
 have e0:(barT g).Mail.length=0:=rfl
 have hrun:=inv l (barT g) h0
 refine ⟨?_,hrun.1,by have:=hrun.2;rw [e0] at this;unfold Zql;omega⟩
 obtain ⟨g1,g2,g3,_,_⟩:=Ze7 hg
 simp only [Zal,s_Own03 g (by omega),Option.bind_some,s_bNew,hg,if_true,decide_true,Bool.not_true,Zw5,hp _ h0 (by rw [e0];omega),Z9l]
 refine Zm7 l (Z8l l p) (fun pre=>((pre.length:Int),Zql g pre)) (fun _ _=>some (Zql g l,true)) (fun pre a post h=>.inl ⟨?_,rfl⟩) ?_
 ·have hx:=Zo7 h
  have hm:=Zp7 h
  have ham:=Zq7 h
  obtain ⟨k1,k2⟩:=inv pre (barT g) h0
  rw [e0] at k2
  have k1':J (Zql g pre):=k1
  have k2':(Zql g pre).Mail.length≤252*pre.length:=by unfold Zql;omega
  have hI:=hJ _ k1'
  have er:Zql g (pre++[a])=actU (Zql g pre) a:=by unfold Zql;rw [List.foldl_append];rfl
  obtain ⟨ak,aa,ab,an⟩:=a
  obtain ⟨f1,f2⟩:=actR_inv hg hN hI ak aa ab an
  have hT:=inv [⟨ak,aa,ab,an⟩] (Zql g pre) k1'
  simp only [List.foldl_cons,List.foldl_nil,List.length_singleton] at hT
  have pT:p (actU (Zql g pre) ⟨ak,aa,ab,an⟩)=some true:=hp _ hT.1 (by omega)
  dsimp only [Z8l]
  rw [Z16 hx,Zv5,Zz5 hx,Option.bind_some,s_own16 _ (hI.fewL hg) (by omega),Option.bind_some,s_act16 _ ak aa ab an (hI.fewL hg) (by omega) (hn _ ham),Option.bind_some,er,Zt7]
  have ej:∀z:Bar,p z=some true→Z5l p (pre.length:Int) z=some (.inl (((pre.length+1:Nat):Int),z)):=fun z hz=>by
   dsimp only [Z5l]
   rw [hz,Option.bind_some,Z36 (by omega)];rfl
  have e3:Z7l p (pre.length:Int) (Zql g pre) ((actR (Zql g pre) ak aa ab an).2,(actR (Zql g pre) ak aa ab an).1)=Z6l p (pre.length:Int) (Zql g pre) (actR (Zql g pre) ak aa ab an).2 (actR (Zql g pre) ak aa ab an).1 false:=by
   unfold fineR at f1
   dsimp only [Z7l]
   cases c1:decide ((actR (Zql g pre) ak aa ab an).2=0) with
   | true=>rfl
   | false=>
     cases c2:decide ((actR (Zql g pre) ak aa ab an).2=152) with
     | true=>rfl
     | false=>
       cases c3:decide ((actR (Zql g pre) ak aa ab an).2=151) with
       | true=>rfl
       | false=>
         cases c4:decide ((actR (Zql g pre) ak aa ab an).2=162) with
         | true=>rfl
         | false=>
           rw [c1,c2,c3,c4,Bool.false_or,Bool.false_or,Bool.false_or,Bool.false_or] at f1
           rw [f1];rfl
  rw [e3]
  dsimp only [Z6l]
  rw [Zw5]
  unfold actU at pT ⊢
  dsimp only at pT ⊢
  by_cases hz:(actR (Zql g pre) ak aa ab an).2=0
  ·rw [if_pos hz] at pT ⊢
   rw [decide_eq_true hz,Zv5,ej _ pT]
  ·rw [if_neg hz] at pT ⊢
   rw [decide_eq_false hz,Zw5,ej _ pT]
 ·dsimp only [Z8l]
  rw [Z26,Zw5];rfl
def fewA (g:Graph) (l:List narthexlaw16_Act):Bool:=(l.take 81).all (fun a=>decide (a.Need.length≤20))&&((decide (g.N≤10)&&okG g)&&decide (l.length≤80))
theorem s_few16 (g:Graph) (l:List narthexlaw16_Act):Zgl g l=some (fewA g l):=by
 have j1:Zdl g l ()=some ((decide (g.N≤10)&&okG g)&&decide (l.length≤80)):=by
  dsimp only [Zdl]
  rw [s_Small,Option.bind_some,Zy4]
  have:decide ((l.length:Int)≤80)=decide (l.length≤80):=by rw [decide_eq_decide];omega
  rw [this]
  cases (decide (g.N≤10)&&okG g)<;>rfl
 have hlen:(l.take 81).length≤81:=by rw [List.length_take];omega
 have:=Zm7 (l.take 81) (Zfl g l) (fun pre=>(pre.length:Int)) (fun _ post=>some (post.all (fun a=>decide (a.Need.length≤20))&&((decide (g.N≤10)&&okG g)&&decide (l.length≤80)))) (fun pre x post h=>by
  have hx:=Zo7 h
  have hm:=Zp7 h
  have hx':l[pre.length]?=some x:=by rw [List.getElem?_take_of_lt (by omega)] at hx;exact hx
  dsimp only [Zfl]
  rw [Z16 hx',Zv5,decide_eq_true (by omega)]
  dsimp only [Zel]
  rw [Zv5,Zz5 hx',Option.bind_some,Zy4,Z36 (by omega),List.all_cons,Zt7]
  by_cases hn:x.Need.length≤20
  ·left;rw [decide_eq_false (by omega),decide_eq_true hn];exact ⟨rfl,rfl⟩
  ·right;rw [decide_eq_true (by omega),decide_eq_false hn];exact ⟨false,rfl,rfl⟩) (by
  have e:Zel g l ((l.take 81).length:Int) false=some (.inr ((decide (g.N≤10)&&okG g)&&decide (l.length≤80))):=by
   dsimp only [Zel]
   rw [Zw5,j1];rfl
  dsimp only [Zfl]
  rw [Zy4]
  by_cases h1:(((l.take 81).length:Nat):Int)<l.length
  ·rw [decide_eq_true h1,Zv5,decide_eq_false (by rw [List.length_take] at h1 ⊢;omega),e];rfl
  ·rw [decide_eq_false h1,Zw5,e];rfl)
 exact this
theorem fewA_iff {g:Graph} {l:List narthexlaw16_Act} (h:fewA g l=true):g.N≤10∧okG g=true∧l.length≤80∧∀a∈l,a.Need.length≤20:=by
 unfold fewA at h
 simp only [Bool.and_eq_true,decide_eq_true_eq,List.all_eq_true] at h
 obtain ⟨h1,⟨h2,h3⟩,h4⟩:=h
 rw [List.take_of_length_le (by omega)] at h1
 exact ⟨h2,h3,h4,h1⟩
def Own (x y:Side) (pa pb:Int) (cab cba:List Int) (ra rb:Int):Prop:=
 cab=[]∧y.Fork=false∧(y.Token=false→pb=1)∧((x.Fork&&x.Dirty)=true→ra<rb)∧((x.Fork&&x.Dirty)=false→rb<ra)∧
 ((x.Fork=true∧(x.Dirty=false→pa=1)∧((x.Token=true∧y.Token=false∧cba=[])∨(x.Token=false∧y.Token=true∧cba=[])∨(x.Token=false∧y.Token=false∧cba=[2])))∨
  (x.Fork=false∧x.Token=false∧pa=1∧((y.Token=true∧cba=[1])∨(y.Token=false∧cba=[1,2]))))
def Zrl (x y:Side) (pa pb:Int) (cab cba:List Int) (ra rb:Int):Prop:=Own x y pa pb cab cba ra rb∨Own y x pb pa cba cab rb ra
theorem Zrl.symm {x y:Side} {pa pb:Int} {cab cba:List Int} {ra rb:Int} (h:Zrl x y pa pb cab cba ra rb):Zrl y x pb pa cba cab rb ra:=Or.symm h
theorem Zrl.phase {x y:Side} {pa pb:Int} {cab cba:List Int} {ra rb:Int} (h:Zrl x y pa pb cab cba ra rb) (hp:pa≠1) (p:Int):Zrl x y p pb cab cba ra rb:=by
 rcases h with ⟨h1,h2,h3,h4,h5,h6⟩ | ⟨h1,h2,h3,h4,h5,h6⟩
 ·left
  rcases h6 with ⟨k1,k2,k3⟩ | ⟨k1,k2,k3,k4⟩
  ·exact ⟨h1,h2,h3,h4,h5,.inl ⟨k1,fun e=>absurd (k2 e) hp,k3⟩⟩
  ·exact absurd k3 hp
 ·exact .inr ⟨h1,h2,fun e=>absurd (h3 e) hp,h4,h5,h6⟩
theorem Zrl.fire {x y:Side} {pa pb:Int} {cab cba:List Int} {ra rb:Int} (id:Int) (h:Zrl x y pa pb cab cba ra rb):Zrl (Zc9 pa x) y pa pb (cab++(Zd9 id pa x).map (·.Msg.Kind)) cba ra rb:=by
 obtain ⟨p,e,st,f,d,t,bo,ak⟩:=x
 obtain ⟨p',e',st',f',d',t',bo',ak'⟩:=y
 unfold Zrl Own at h ⊢
 unfold Zc9 Zd9 Zb9
 by_cases q1:pa=1
 ·subst q1
  cases f<;>cases d<;>cases t<;>simp_all
  all_goals rcases h.2.2.2 with h | h<;>simp_all
 ·by_cases q2:pa=2
  ·subst q2
   cases f<;>cases d<;>cases t<;>simp_all
  ·cases f<;>cases d<;>cases t<;>simp_all
theorem Zrl.eat {x y:Side} {pb:Int} {cab cba:List Int} {ra rb:Int} (h:Zrl x y 1 pb cab cba ra rb) (hf:x.Fork=true) {r:Int} (hr:r<rb):Zrl (Ze9 x) y 2 pb cab cba r rb:=by
 obtain ⟨p,e,st,f,d,t,bo,ak⟩:=x
 dsimp only at hf
 subst hf
 rcases h with ⟨h1,h2,h3,h4,h5,h6⟩ | ⟨h1,h2,h3,h4,h5,h6⟩
 ·refine .inl ⟨h1,h2,h3,fun _=>hr,fun e=>absurd e (by simp [Ze9]),?_⟩
  rcases h6 with ⟨k1,k2,k3⟩ | ⟨k1,k2,k3,k4⟩
  ·exact .inl ⟨rfl,fun e=>absurd e (by simp [Ze9]),k3⟩
  ·exact absurd k1 (by simp)
 ·exact absurd h2 (by simp)
theorem Zrl.getF {x y:Side} {pa pb:Int} {cab cba:List Int} {ra rb:Int} (h:Zrl x y pa pb cab (1::cba) ra rb) (hd:x.Dirty=true→x.Fork=true):Zrl {x with Fork:=true} y pa pb cab cba ra rb∧x.Fork=false∧x.Dirty=false:=by
 rcases h with ⟨h1,h2,h3,h4,h5,h6⟩ | ⟨h1,h2,h3,h4,h5,h6⟩
 ·rcases h6 with ⟨k1,k2,k3 | k3 | k3⟩ | ⟨k1,k2,k3,k4⟩
  ·exact absurd k3.2.2 (by simp)
  ·exact absurd k3.2.2 (by simp)
  ·exact absurd k3.2.2 (by simp)
  ·have hx:x.Dirty=false:=by
    cases hh:x.Dirty with
    | false=>rfl
    | true=>exact absurd (hd hh) (by simp [k1])
   refine ⟨.inl ⟨h1,h2,h3,fun e=>absurd e (by simp [hx]),fun _=>h5 (by simp [hx]),.inl ⟨rfl,fun _=>k3,?_⟩⟩,k1,hx⟩
   rcases k4 with ⟨k5,k6⟩ | ⟨k5,k6⟩
   ·exact .inr (.inl ⟨k2,k5,by simpa using k6⟩)
   ·exact .inr (.inr ⟨k2,k5,by simpa using k6⟩)
 ·exact absurd h1 (by simp)
theorem Zrl.getT {x y:Side} {pa pb:Int} {cab cba:List Int} {ra rb:Int} (h:Zrl x y pa pb cab (2::cba) ra rb):Zrl {x with Token:=true} y pa pb cab cba ra rb∧x.Fork=true:=by
 rcases h with ⟨h1,h2,h3,h4,h5,h6⟩ | ⟨h1,h2,h3,h4,h5,h6⟩
 ·rcases h6 with ⟨k1,k2,k3 | k3 | k3⟩ | ⟨k1,k2,k3,k4⟩
  ·exact absurd k3.2.2 (by simp)
  ·exact absurd k3.2.2 (by simp)
  ·refine ⟨.inl ⟨h1,h2,h3,h4,h5,.inl ⟨k1,k2,.inl ⟨rfl,k3.2.1,by simpa using k3.2.2⟩⟩⟩,k1⟩
  ·rcases k4 with ⟨k5,k6⟩ | ⟨k5,k6⟩<;>exact absurd k6 (by simp)
 ·exact absurd h1 (by simp)
theorem Zrl.few {x y:Side} {pa pb:Int} {cab cba:List Int} {ra rb:Int} (h:Zrl x y pa pb cab cba ra rb):cab.length+cba.length≤2:=by
 rcases h with ⟨h1,h2,h3,h4,h5,h6⟩ | ⟨h1,h2,h3,h4,h5,h6⟩<;>rcases h6 with ⟨k1,k2,k3 | k3 | k3⟩ | ⟨k1,k2,k3,k4 | k4⟩<;>simp_all
def ch (M:List Mail) (a b:Int):List Int:=(M.filter fun m=>decide (m.From=a)&&decide (m.To=b)).map (·.Msg.Kind)
theorem Zsl (M N:List Mail) (a b:Int):ch (M++N) a b=ch M a b++ch N a b:=by simp [ch]
theorem ch_nil {M:List Mail} {a b:Int} (h:∀m∈M,¬(m.From=a∧m.To=b)):ch M a b=[]:=by
 unfold ch
 rw [List.map_eq_nil_iff,List.filter_eq_nil_iff]
 intro m hm
 simpa using h m hm
theorem Ztl {d:Diner} {p q:Int} (hp:p≠d.ID):ch (Zg9 d) p q=[]:=by
 refine ch_nil fun m hm=>?_
 obtain ⟨x,_,hx⟩:=List.mem_flatMap.1 hm
 exact fun e=>hp (e.1.symm.trans (Zzd hx).1)
theorem ch_fires (id ph b:Int):∀(l:List Side),l.Pairwise (fun x y=>x.Peer<y.Peer)→ch (l.flatMap (Zd9 id ph)) id b=match l.find? (fun x=>decide (x.Peer=b)) with | some x=>(Zd9 id ph x).map (·.Msg.Kind) | none=>[]
 | [],_=>rfl
 | x::l,h=>by
   rw [List.pairwise_cons] at h
   rw [List.flatMap_cons,Zsl,ch_fires id ph b l h.2,List.find?_cons]
   by_cases hx:x.Peer=b
   ·have:l.find? (fun x=>decide (x.Peer=b))=none:=by
     rw [List.find?_eq_none]
     intro y hy
     have:=h.1 y hy
     simp;omega
    rw [this,decide_eq_true hx]
    have:(Zd9 id ph x).filter (fun m=>decide (m.From=id)&&decide (m.To=b))=Zd9 id ph x:=by
     rw [List.filter_eq_self]
     intro m hm
     have:=Zzd hm
     simp [this.1,this.2.1,hx]
    simp [ch,this]
   ·rw [decide_eq_false hx,ch_nil (M:=Zd9 id ph x) (fun m hm e=>hx ((Zzd hm).2.1.symm.trans e.2))];rfl
theorem ch_fire {d:Diner} {b:Int} {x:Side} (hp:d.Sides.Pairwise fun x y=>x.Peer<y.Peer) (hx:Zw7 d b=some x):ch (Zg9 d) d.ID b=(Zd9 d.ID d.Phase x).map (·.Msg.Kind):=by
 unfold Zg9
 rw [ch_fires d.ID d.Phase b d.Sides hp]
 unfold Zw7 at hx
 rw [hx]
theorem ch_take {M:List Mail} {a b:Int} {i:Nat} {m:Mail} (hi:M.findIdx? (fun m=>decide (m.From=a)&&decide (m.To=b))=some i) (hm:M[i]?=some m):
  ch M a b=m.Msg.Kind::ch (M.take i++M.drop (i+1)) a b∧∀p q:Int,¬(p=a∧q=b)→ch (M.take i++M.drop (i+1)) p q=ch M p q:=by
 have hlt:=(List.getElem?_eq_some_iff.1 hm).1
 have e:M=M.take i++m::M.drop (i+1):=by
  have h1:=List.take_append_drop i M
  rw [List.drop_eq_getElem_cons hlt] at h1
  have h2:M[i]=m:=by rw [List.getElem?_eq_getElem hlt] at hm;simpa using hm
  rw [h2] at h1
  exact h1.symm
 obtain ⟨hlt',h1,h2⟩:=List.findIdx?_eq_some_iff_getElem.1 hi
 have hmi:M[i]=m:=by rw [List.getElem?_eq_getElem hlt] at hm;simpa using hm
 rw [hmi] at h1
 simp only [Bool.and_eq_true,decide_eq_true_eq] at h1
 have h3:ch (M.take i) a b=[]:=ch_nil fun x hx=>by
  obtain ⟨k,hk⟩:=List.mem_iff_getElem?.1 hx
  have hki:k<i:=by
   have:=(List.getElem?_eq_some_iff.1 hk).1
   simp at this;omega
  have h4:=h2 k hki
  rw [List.getElem?_take_of_lt hki,List.getElem?_eq_getElem (by omega)] at hk
  have:M[k]=x:=by simpa using hk
  rw [this] at h4
  simpa using h4
 have cons:∀p q:Int,ch (m::M.drop (i+1)) p q=if m.From=p∧m.To=q then m.Msg.Kind::ch (M.drop (i+1)) p q else ch (M.drop (i+1)) p q:=fun p q=>by
  unfold ch
  rw [List.filter_cons]
  by_cases hh:m.From=p∧m.To=q
  ·simp [hh.1,hh.2]
  ·rw [if_neg hh,if_neg (by simpa using hh)]
 refine ⟨?_,fun p q hpq=>?_⟩
 ·have e2:ch M a b=ch (M.take i++m::M.drop (i+1)) a b:=by rw [←e]
  rw [e2,Zsl,Zsl,h3,cons,if_pos h1];rfl
 ·have e2:ch M p q=ch (M.take i++m::M.drop (i+1)) p q:=by rw [←e]
  rw [e2,Zsl,Zsl,cons,if_neg (by rw [h1.1,h1.2];exact fun e=>hpq ⟨e.1.symm,e.2.symm⟩)]
def Zul (r:Nat→Int) (s:Scene):Prop:=∀(a b:Nat) da db x y,s.Diners[a]?=some da→s.Diners[b]?=some db→Zw7 da b=some x→Zw7 db a=some y→Zrl x y da.Phase db.Phase (ch s.Mail a b) (ch s.Mail b a) (r a) (r b)
theorem Zul.set {r r':Nat→Int} {s:Scene} (h:Zul r s) {a:Nat} {d:Diner} (hs:Zw7 d a=none) {M:List Mail} (hr:∀k,k≠a→r' k=r k) (hc:∀p q:Nat,p≠a→q≠a→ch M p q=ch s.Mail p q)
  (hn:∀(b:Nat) db x y,b≠a→s.Diners[b]?=some db→Zw7 d b=some x→Zw7 db a=some y→Zrl x y d.Phase db.Phase (ch M a b) (ch M b a) (r' a) (r b)):Zul r' ⟨s.Diners.set a d,M⟩:=by
 have get:∀(k:Nat) e,(s.Diners.set a d)[k]?=some e→(k=a∧e=d)∨(k≠a∧s.Diners[k]?=some e):=fun k e he=>by
  rw [List.getElem?_set] at he
  split at he
  ·rename_i hk
   simp at he
   exact .inl ⟨hk.symm,he.2.symm⟩
  ·rename_i hk
   exact .inr ⟨fun e=>hk e.symm,he⟩
 intro p q dp dq x y hp hq hx hy
 dsimp only at hp hq ⊢
 rcases get p dp hp with ⟨rfl,rfl⟩ | ⟨p1,hp'⟩<;>rcases get q dq hq with ⟨rfl,rfl⟩ | ⟨q1,hq'⟩
 ·rw [hs] at hx;simp at hx
 ·rw [hr q q1];exact hn q dq x y q1 hq' hx hy
 ·rw [hr p p1];exact (hn p dp y x p1 hp' hy hx).symm
 ·rw [hr p p1,hr q q1,hc p q p1 q1,hc q p q1 p1];exact h p q dp dq x y hp' hq' hx hy
def SetS (ph:Int) (x:Side):Prop:=(x.Fork=true→x.Dirty=true→x.Token=true→ph=2)∧(ph=1→x.Token=true→x.Fork=true)
structure SetD (d:Diner):Prop where
 side:∀x∈d.Sides,SetS d.Phase x
 lack:d.Phase=1→∃x∈d.Sides,x.Fork=false
theorem fire2_set (ph:Int) (x:Side):SetS ph (Zc9 ph x):=by
 obtain ⟨p,e,st,f,d,t,bo,ak⟩:=x
 unfold SetS Zc9 Zb9
 by_cases q1:ph=1
 ·subst q1
  cases f<;>cases d<;>cases t<;>simp
 ·by_cases q2:ph=2
  ·subst q2
   cases f<;>cases d<;>cases t<;>simp
  ·cases f<;>cases d<;>cases t<;>simp_all
theorem SetS.fire {ph:Int} {x:Side} (h:SetS ph x) (id:Int):Zc9 ph x=x∧Zd9 id ph x=[]:=by
 obtain ⟨p,e,st,f,d,t,bo,ak⟩:=x
 obtain ⟨h1,h2⟩:=h
 unfold Zd9 Zc9 Zb9
 by_cases q1:ph=1
 ·subst q1
  cases f<;>cases d<;>cases t<;>simp_all
 ·by_cases q2:ph=2
  ·subst q2
   cases f<;>cases d<;>cases t<;>simp
  ·cases f<;>cases d<;>cases t<;>simp_all
theorem fireD_set (d:Diner):SetD (Zf9 d):=by
 unfold Zf9
 split
 ·exact ⟨fun x _=>⟨fun _ _ _=>rfl,fun e=>absurd e (by show ¬(2:Int)=1;omega)⟩,fun e=>absurd e (by show ¬(2:Int)=1;omega)⟩
 ·rename_i h
  refine ⟨fun x hx=>?_,fun e=>?_⟩
  ·obtain ⟨y,_,rfl⟩:=List.mem_map.1 hx
   exact fire2_set _ _
  ·dsimp only at e ⊢
   rw [decide_eq_true e,Bool.true_and,Bool.not_eq_true,List.all_eq_false] at h
   obtain ⟨x,hx,hf⟩:=h
   exact ⟨x,hx,by simpa using hf⟩
theorem low (r:Nat→Int):∀n:Nat,∃m:Int,∀k,k<n→m<r k
 | 0=>⟨0,fun k hk=>absurd hk (by omega)⟩
 | n+1=>by
   obtain ⟨m,hm⟩:=low r n
   refine ⟨min m (r n-1),fun k hk=>?_⟩
   by_cases h:k=n
   ·subst h;omega
   ·have:=hm k (by omega);omega
theorem Inv.self {g:Graph} {s:Scene} (hg:okG g=true) (h:Inv g s) {a:Nat} {d:Diner} (hd:s.Diners[a]?=some d):Zw7 d a=none:=by
 cases hx:Zw7 d (a:Int) with
 | none=>rfl
 | some x=>
   obtain ⟨x1,x2⟩:=Z9e hx
   have hm:x.Peer∈Zqc g a:=by rw [←(h.shp a d hd).2];exact List.mem_map_of_mem x1
   exact absurd x2 (Zwc hg hm).2.2.1
theorem edge_fireD {g:Graph} {s:Scene} (hg:okG g=true) (h:Inv g s) {a:Nat} {d:Diner} (hd:s.Diners[a]?=some d) {r:Nat→Int} (he:Zul r s):∃r',Zul r' ⟨s.Diners.set a (Zf9 d),s.Mail++Zg9 d⟩:=by
 obtain ⟨hid,hsh⟩:=h.shp a d hd
 have hpw:=h.pw hg hd
 have hself:Zw7 (Zf9 d) a=none:=by rw [Z8e,h.self hg hd];rfl
 have hc:∀p q:Nat,p≠a→q≠a→ch (s.Mail++Zg9 d) p q=ch s.Mail p q:=fun p q hp _=>by
  rw [Zsl,Ztl (by rw [hid];omega),List.append_nil]
 have hin:∀(b:Nat) db x y,b≠a→s.Diners[b]?=some db→Zw7 d b=some x→Zw7 db a=some y→Zrl (Zc9 d.Phase x) y d.Phase db.Phase (ch (s.Mail++Zg9 d) a b) (ch (s.Mail++Zg9 d) b a) (r a) (r b):=fun b db x y hb hdb hx hy=>by
  have h1:=(he a b d db x y hd hdb hx hy).fire d.ID
  rw [←ch_fire hpw hx,hid,←Zsl] at h1
  rw [Zsl _ _ (b:Int) (a:Int),Ztl (by rw [hid];omega),List.append_nil]
  exact h1
 cases hq:decide (d.Phase=1)&&(d.Sides.map (Zc9 d.Phase)).all (·.Fork) with
 | false=>
   refine ⟨r,he.set hself (fun _ _=>rfl) hc fun b db x y hb hdb hx hy=>?_⟩
   rw [Z8e,Option.map_eq_some_iff] at hx
   obtain ⟨x0,hx0,rfl⟩:=hx
   have e1:Z3e d x0=Zc9 d.Phase x0:=by unfold Z3e;rw [hq];rfl
   have e2:(Zf9 d).Phase=d.Phase:=by unfold Zf9;rw [hq];rfl
   rw [e1,e2]
   exact hin b db x0 y hb hdb hx0 hy
 | true=>
   obtain ⟨m,hm⟩:=low r s.Diners.length
   refine ⟨fun k=>if k=a then m else r k,he.set hself (fun k hk=>by rw [if_neg hk]) hc fun b db x y hb hdb hx hy=>?_⟩
   rw [Z8e,Option.map_eq_some_iff] at hx
   obtain ⟨x0,hx0,rfl⟩:=hx
   have e1:Z3e d x0=Ze9 (Zc9 d.Phase x0):=by unfold Z3e;rw [hq];rfl
   have e2:(Zf9 d).Phase=2:=by unfold Zf9;rw [hq];rfl
   rw [Bool.and_eq_true,decide_eq_true_eq,List.all_eq_true] at hq
   have h2:=hin b db x0 y hb hdb hx0 hy
   rw [e1,e2,if_pos rfl]
   rw [hq.1] at h2 ⊢
   refine h2.eat ?_ (hm b (List.getElem?_eq_some_iff.1 hdb).1)
   have:=hq.2 _ (List.mem_map_of_mem (Z9e hx0).1)
   rwa [hq.1] at this
structure Fair (g:Graph) (s:Scene):Prop where
 inv:Inv g s
 set:∀d∈s.Diners,SetD d
 edge:∃r:Nat→Int,Zul r s
theorem Fair.fire {g:Graph} {s:Scene} (hg:okG g=true) (hset:∀d∈s.Diners,SetD d) {a:Nat} {d:Diner} {M:List Mail} (hlt:a<s.Diners.length) (hi:Inv g ⟨s.Diners.set a d,M⟩) {r:Nat→Int} (he:Zul r ⟨s.Diners.set a d,M⟩):
  Fair g ⟨s.Diners.set a (Zf9 d),M++Zg9 d⟩:=by
 have hd:(s.Diners.set a d)[a]?=some d:=by rw [List.getElem?_set];simp [hlt]
 have h1:=hi.fire hg hd
 have h2:=edge_fireD hg hi hd he
 dsimp only at h1 h2
 rw [List.set_set] at h1 h2
 refine ⟨h1,fun e hm=>?_,h2⟩
 rcases List.mem_or_eq_of_mem_set hm with hm | rfl
 ·exact hset e hm
 ·exact fireD_set d
theorem Fair.first {g:Graph} (hg:okG g=true):Fair g (Zvg g):=by
 have hr:=(Zug hg).1
 have hI:=Inv.first hg
 have get:∀(k:Nat) d,(Zzc g (Ztg g))[k]?=some d→d=Zyc g (Ztg g) k:=fun k d hd=>by
  have hk:=(List.getElem?_eq_some_iff.1 hd).1
  have hl:=Zrd hg (Ztg g)
  have e:=Zqd (g:=g) (c:=Ztg g) (a:=(k:Int)) (by omega) (by omega)
  rw [Int.toNat_natCast,hd] at e
  simpa using e
 refine ⟨hI,fun d hd=>?_,fun k=> -cg (Ztg g) k,fun a b da db x y ha hb hx hy=>?_⟩
 ·obtain ⟨k,hk⟩:=List.mem_iff_getElem?.1 hd
  have:=get k d hk
  subst this
  refine ⟨fun x hx=>?_,fun e=>absurd e (by show ¬(0:Int)=1;omega)⟩
  obtain ⟨b,_,rfl⟩:=List.mem_map.1 hx
  refine ⟨fun e1 _ e3=>?_,fun e=>absurd e (by show ¬(0:Int)=1;omega)⟩
  simp only [Zxc] at e1 e3
  rw [e1] at e3
  exact absurd e3 (by simp)
 ·have:=get a da ha
  subst this
  have:=get b db hb
  subst this
  rw [Zsd] at hx hy
  split at hx
  ·rename_i hab
   rw [if_pos (Ztd hg hab)] at hy
   have hne:=Z1d hg hr hab
   simp only [Option.some.injEq] at hx hy
   subst hx;subst hy
   have hlt:decide (cg (Ztg g) a<cg (Ztg g) b)=!decide (cg (Ztg g) b<cg (Ztg g) a):=by
    rw [←decide_not,decide_eq_decide];omega
   have e0:∀p q:Int,ch (Zvg g).Mail p q=[]:=fun _ _=>rfl
   rw [e0,e0]
   unfold Zrl Own
   by_cases hh:cg (Ztg g) b<cg (Ztg g) a
   ·left
    simp [Zxc,hlt,hh]
   ·right
    simp [Zxc,hlt,hh]
    omega
  ·simp at hx
def f12 (c:List Int):List Int:=c.filter fun k=>decide (k≤2)
def f34 (c:List Int):List Int:=c.filter fun k=>!decide (k≤2)
theorem Zvl (c e:List Int):f12 (c++e)=f12 c++f12 e:=List.filter_append ..
theorem Zwl (c e:List Int):f34 (c++e)=f34 c++f34 e:=List.filter_append ..
def Zxl (l:List Mail):List Int:=l.map (·.Msg.Kind)
theorem f12_kinds {l:List Mail} (h:∀m∈l,m.Msg.Kind≤2):f12 (Zxl l)=Zxl l∧f34 (Zxl l)=[]:=by
 unfold f12 f34 Zxl
 rw [List.filter_eq_self,List.filter_eq_nil_iff]
 constructor
 ·intro k hk
  obtain ⟨m,hm,rfl⟩:=List.mem_map.1 hk
  exact decide_eq_true (h m hm)
 ·intro k hk
  obtain ⟨m,hm,rfl⟩:=List.mem_map.1 hk
  rw [decide_eq_true (h m hm)];simp
theorem f34_kinds {l:List Mail} (h:∀m∈l,3≤m.Msg.Kind):f34 (Zxl l)=Zxl l∧f12 (Zxl l)=[]:=by
 unfold f12 f34 Zxl
 rw [List.filter_eq_self,List.filter_eq_nil_iff]
 constructor
 ·intro k hk
  obtain ⟨m,hm,rfl⟩:=List.mem_map.1 hk
  have:=h m hm
  rw [decide_eq_false (by omega)];rfl
 ·intro k hk
  obtain ⟨m,hm,rfl⟩:=List.mem_map.1 hk
  have:=h m hm
  rw [decide_eq_false (by omega)];simp
theorem ch_k12 (M:List Mail) (p q:Int):ch (M.filter k12) p q=f12 (ch M p q):=by
 unfold ch f12
 rw [List.filter_map,List.filter_filter,List.filter_filter]
 congr 1
 refine List.filter_congr fun m _=>?_
 simp only [Function.comp,k12]
 cases decide (m.Msg.Kind≤2)<;>simp
theorem Zyl (id ph:Int) (x:Side):f12 (Zxl (Zd9 id ph x))=Zxl (Zd9 id ph x)∧f34 (Zxl (Zd9 id ph x))=[]:=f12_kinds fun m hm=>by have:=(Zzd hm).2.2.1;omega
theorem Zzl (id th:Int) (nd:Bool) (x:Side):f34 (Zxl (Zee id nd th x))=Zxl (Zee id nd th x)∧f12 (Zxl (Zee id nd th x))=[]:=f34_kinds fun m hm=>by have:=(Zyk hm).2.2.1;omega
def OwnB (x y:Side) (cab cba:List Int):Prop:=
 cab=[]∧y.Bottle=false∧
 ((x.Bottle=true∧((x.Ask=true∧y.Ask=false∧cba=[])∨(x.Ask=false∧y.Ask=true∧cba=[])∨(x.Ask=false∧y.Ask=false∧cba=[4])))∨
  (x.Bottle=false∧x.Ask=false∧((y.Ask=true∧cba=[3])∨(y.Ask=false∧cba=[3,4]))))
def Z0m (x y:Side) (cab cba:List Int):Prop:=OwnB x y cab cba∨OwnB y x cba cab
theorem Z0m.symm {x y:Side} {cab cba:List Int} (h:Z0m x y cab cba):Z0m y x cba cab:=Or.symm h
theorem Z0m.bot {x y:Side} {cab cba:List Int} (id th:Int) (nd:Bool) (h:Z0m x y cab cba):Z0m (Zde nd th x) y (cab++Zxl (Zee id nd th x)) cba:=by
 obtain ⟨p,e,st,f,d,t,bo,ak⟩:=x
 obtain ⟨p',e',st',f',d',t',bo',ak'⟩:=y
 unfold Z0m OwnB at h ⊢
 unfold Zde Zee Zce Zxl
 cases hk:Zbe nd th ⟨p,e,st,f,d,t,bo,ak⟩ with
 | true=>cases hc:(decide (th=1)&&nd)<;>cases bo<;>cases ak<;>cases nd<;>simp_all<;>(rcases h.2 with h | h<;>simp_all)
 | false=>cases hc:(decide (th=1)&&nd)<;>cases bo<;>cases ak<;>cases nd<;>simp_all<;>(rcases h.2 with h | h<;>simp_all)
theorem Z0m.same {x x' y:Side} {cab cba:List Int} (h1:x'.Bottle=x.Bottle) (h2:x'.Ask=x.Ask) (h:Z0m x y cab cba):Z0m x' y cab cba:=by
 unfold Z0m OwnB at h ⊢
 rw [h1,h2];exact h
theorem Zrl.same {x x' y:Side} {pa pb:Int} {cab cba:List Int} {ra rb:Int} (h1:x'.Fork=x.Fork) (h2:x'.Dirty=x.Dirty) (h3:x'.Token=x.Token) (h:Zrl x y pa pb cab cba ra rb):Zrl x' y pa pb cab cba ra rb:=by
 unfold Zrl NX.Own at h ⊢
 rw [h1,h2,h3];exact h
theorem Z0m.getB {x y:Side} {cab cba:List Int} (h:Z0m x y cab (3::cba)):Z0m {x with Bottle:=true} y cab cba∧x.Bottle=false:=by
 unfold Z0m OwnB at h ⊢
 rcases h with ⟨h1,h2,⟨h3,h4 | h4 | h4⟩ | ⟨h3,h4,h5 | h5⟩⟩ | ⟨h1,h2,_⟩
 ·exact absurd h4.2.2 (by simp)
 ·exact absurd h4.2.2 (by simp)
 ·exact absurd h4.2.2 (by simp)
 ·have:=h5.2;simp at this;subst this
  exact ⟨.inl ⟨h1,h2,.inl ⟨rfl,.inr (.inl ⟨h4,h5.1,rfl⟩)⟩⟩,h3⟩
 ·have:=h5.2;simp at this;subst this
  exact ⟨.inl ⟨h1,h2,.inl ⟨rfl,.inr (.inr ⟨h4,h5.1,rfl⟩)⟩⟩,h3⟩
 ·exact absurd h1 (by simp)
theorem Z0m.getA {x y:Side} {cab cba:List Int} (h:Z0m x y cab (4::cba)):Z0m {x with Ask:=true} y cab cba∧x.Bottle=true∧x.Ask=false:=by
 unfold Z0m OwnB at h ⊢
 rcases h with ⟨h1,h2,⟨h3,h4 | h4 | h4⟩ | ⟨h3,h4,h5 | h5⟩⟩ | ⟨h1,h2,_⟩
 ·exact absurd h4.2.2 (by simp)
 ·exact absurd h4.2.2 (by simp)
 ·have:=h4.2.2;simp at this;subst this
  exact ⟨.inl ⟨h1,h2,.inl ⟨h3,.inl ⟨rfl,h4.2.1,rfl⟩⟩⟩,h3,h4.1⟩
 ·exact absurd h5.2 (by simp)
 ·exact absurd h5.2 (by simp)
 ·exact absurd h1 (by simp)
theorem edge_once1 {x y:Side} {pa pb:Int} {cab cba:List Int} {ra rb:Int} {q:Int} (hq:q=pa∨pa≠1) (he:Zrl x y pa pb (f12 cab) (f12 cba) ra rb) (hb:Z0m x y (f34 cab) (f34 cba)) (id th:Int) (nd:Bool)
  {x2:Side} {p2 r2:Int} (h2:x2=Zc9 q x∧p2=q∧r2=ra∨x2=Ze9 (Zc9 q x)∧p2=2∧q=1∧(Zc9 q x).Fork=true∧r2<rb):
  Zrl (Zde nd th x2) y p2 pb (f12 (cab++(Zxl (Zd9 id q x)++Zxl (Zee id nd th x2)))) (f12 cba) r2 rb∧Z0m (Zde nd th x2) y (f34 (cab++(Zxl (Zd9 id q x)++Zxl (Zee id nd th x2)))) (f34 cba):=by
 obtain ⟨_,_,_,b4,b5,b6⟩:=Zfe nd th x2
 have e0:Zrl x y q pb (f12 cab) (f12 cba) ra rb:=by
  rcases hq with rfl | hq
  ·exact he
  ·exact he.phase hq q
 have e1:=e0.fire id
 have g1:(x2).Bottle=x.Bottle∧x2.Ask=x.Ask:=by
  have:(Zc9 q x).Bottle=x.Bottle∧(Zc9 q x).Ask=x.Ask:=by
   unfold Zc9 Zb9
   split<;>split<;>exact ⟨rfl,rfl⟩
  rcases h2 with ⟨rfl,_⟩ | ⟨rfl,_⟩
  ·exact this
  ·exact this
 obtain ⟨k1,k2⟩:=Zyl id q x
 obtain ⟨k3,k4⟩:=Zzl id th nd x2
 rw [Zvl,Zvl,Zwl,Zwl,k1,k2,k3,k4,List.append_nil,List.nil_append]
 refine ⟨Zrl.same b4 b5 b6 ?_,(hb.same g1.1 g1.2).bot id th nd⟩
 rcases h2 with ⟨rfl,rfl,rfl⟩ | ⟨rfl,rfl,q1,q2,q3⟩
 ·exact e1
 ·rw [q1] at e1 q2 ⊢
  exact e1.eat q2 q3
def Z1m (r:Nat→Int) (s:Bar):Prop:=∀(a b:Nat) da db x y,s.Drinkers[a]?=some da→s.Drinkers[b]?=some db→Zw7 da.Diner b=some x→Zw7 db.Diner a=some y→
 Zrl x y da.Diner.Phase db.Diner.Phase (f12 (ch s.Mail a b)) (f12 (ch s.Mail b a)) (r a) (r b)∧Z0m x y (f34 (ch s.Mail a b)) (f34 (ch s.Mail b a))
theorem Z1m.tab {r:Nat→Int} {s:Bar} (h:Z1m r s):Zul r (Zwk s):=by
 intro a b da db x y ha hb hx hy
 have get:∀(k:Nat) d,(Zwk s).Diners[k]?=some d→∃e,s.Drinkers[k]?=some e∧e.Diner=d:=fun k d hd=>by
  have h1:(s.Drinkers.map (·.Diner))[k]?=some d:=hd
  rw [List.getElem?_map,Option.map_eq_some_iff] at h1
  exact h1
 obtain ⟨ea,ha',rfl⟩:=get a da ha
 obtain ⟨eb,hb',rfl⟩:=get b db hb
 have:=(h a b ea eb x y ha' hb' hx hy).1
 show Zrl x y ea.Diner.Phase eb.Diner.Phase (ch (s.Mail.filter k12) a b) (ch (s.Mail.filter k12) b a) (r a) (r b)
 rw [ch_k12,ch_k12]
 exact this
theorem Z1m.set {r r':Nat→Int} {s:Bar} (h:Z1m r s) {a:Nat} {d:Drinker} (hs:Zw7 d.Diner a=none) {M:List Mail} (hr:∀k,k≠a→r' k=r k) (hc:∀p q:Nat,p≠a→q≠a→ch M p q=ch s.Mail p q)
  (hn:∀(b:Nat) db x y,b≠a→s.Drinkers[b]?=some db→Zw7 d.Diner b=some x→Zw7 db.Diner a=some y→Zrl x y d.Diner.Phase db.Diner.Phase (f12 (ch M a b)) (f12 (ch M b a)) (r' a) (r b)∧Z0m x y (f34 (ch M a b)) (f34 (ch M b a))):Z1m r' ⟨s.Drinkers.set a d,M⟩:=by
 have get:∀(k:Nat) e,(s.Drinkers.set a d)[k]?=some e→(k=a∧e=d)∨(k≠a∧s.Drinkers[k]?=some e):=fun k e he=>by
  rw [List.getElem?_set] at he
  split at he
  ·rename_i hk
   simp at he
   exact .inl ⟨hk.symm,he.2.symm⟩
  ·rename_i hk
   exact .inr ⟨fun e=>hk e.symm,he⟩
 intro p q dp dq x y hp hq hx hy
 dsimp only at hp hq ⊢
 rcases get p dp hp with ⟨rfl,rfl⟩ | ⟨p1,hp'⟩<;>rcases get q dq hq with ⟨rfl,rfl⟩ | ⟨q1,hq'⟩
 ·rw [hs] at hx;simp at hx
 ·rw [hr q q1];exact hn q dq x y q1 hq' hx hy
 ·rw [hr p p1]
  have:=hn p dp y x p1 hp' hy hx
  exact ⟨this.1.symm,this.2.symm⟩
 ·rw [hr p p1,hr q q1,hc p q p1 q1,hc q p q1 p1];exact h p q dp dq x y hp' hq' hx hy
theorem InvB.self {g:Graph} {s:Bar} (hg:okG g=true) (h:InvB g s) {a:Nat} {d:Drinker} (hd:s.Drinkers[a]?=some d):Zw7 d.Diner a=none:=h.tab.self hg (Zxk hd)
theorem Z2m (d:Drinker) (b:Int):Zw7 (Zke d).Diner b=(Zw7 d.Diner b).map fun x=>Zde (Zae d x) d.Thirst (Z3e (Zhe d) x):=by
 have es:Zw7 (Zke d).Diner b=(Zw7 (Zf9 (Zhe d)) b).map fun x=>Zde (Zae d x) d.Thirst x:=Z7e (Zf9 (Zhe d)) (fun x=>Zde (Zae d x) d.Thirst x) (fun x=>(Zfe _ _ x).1) _ _ b
 rw [es,Z8e,Option.map_map]
 have ep:Zw7 (Zhe d) b=Zw7 d.Diner b:=rfl
 rw [ep]
 congr 1
 funext x
 simp only [Function.comp,Zae,(Z6e (Zhe d) x).1]
theorem ch_bots (id th b:Int) (nd:Side→Bool):∀(l:List Side),l.Pairwise (fun x y=>x.Peer<y.Peer)→ch (l.flatMap fun x=>Zee id (nd x) th x) id b=match l.find? (fun x=>decide (x.Peer=b)) with | some x=>Zxl (Zee id (nd x) th x) | none=>[]
 | [],_=>rfl
 | x::l,h=>by
   rw [List.pairwise_cons] at h
   rw [List.flatMap_cons,Zsl,ch_bots id th b nd l h.2,List.find?_cons]
   by_cases hx:x.Peer=b
   ·have:l.find? (fun x=>decide (x.Peer=b))=none:=by
     rw [List.find?_eq_none]
     intro y hy
     have:=h.1 y hy
     simp;omega
    rw [this,decide_eq_true hx]
    have:(Zee id (nd x) th x).filter (fun m=>decide (m.From=id)&&decide (m.To=b))=Zee id (nd x) th x:=by
     rw [List.filter_eq_self]
     intro m hm
     have:=Zyk hm
     simp [this.1,this.2.1,hx]
    simp [ch,this,Zxl]
   ·rw [decide_eq_false hx,ch_nil (M:=Zee id (nd x) th x) (fun m hm e=>hx ((Zyk hm).2.1.symm.trans e.2))];rfl
theorem once_ch {d:Drinker} {b:Int} {x:Side} (hp:d.Diner.Sides.Pairwise fun x y=>x.Peer<y.Peer) (hx:Zw7 d.Diner b=some x):
  ch (Zle d) d.Diner.ID b=Zxl (Zd9 d.Diner.ID (Zge d) x)++Zxl (Zee d.Diner.ID (Zae d x) d.Thirst (Z3e (Zhe d) x)):=by
 unfold Zle
 have hp2:(Zf9 (Zhe d)).Sides.Pairwise fun x y=>x.Peer<y.Peer:=by
  rw [Z4e,List.pairwise_map]
  refine (show (Zhe d).Sides.Pairwise _ from hp).imp fun {u v} h=>?_
  rw [(Z6e _ u).1,(Z6e _ v).1];exact h
 rw [Zsl,ch_bots _ _ _ (Zae d) _ hp2]
 have ef:(Zf9 (Zhe d)).Sides.find? (fun x=>decide (x.Peer=b))=some (Z3e (Zhe d) x):=by
  have:=Z8e (Zhe d) b
  rw [show Zw7 (Zhe d) b=Zw7 d.Diner b from rfl,hx] at this
  exact this
 rw [ef]
 have e1:=ch_fire (d:=Zhe d) (b:=b) (x:=x) hp hx
 rw [show (Zhe d).ID=d.Diner.ID from rfl] at e1
 rw [e1]
 have:Zae d (Z3e (Zhe d) x)=Zae d x:=by unfold Zae;rw [(Z6e (Zhe d) x).1]
 dsimp only
 rw [this]
 rfl
theorem Z3m {d:Drinker} {p q:Int} (hp:p≠d.Diner.ID):ch (Zle d) p q=[]:=by
 refine ch_nil fun m hm e=>?_
 unfold Zle at hm
 rcases List.mem_append.1 hm with hm | hm
 ·obtain ⟨x,_,hx⟩:=List.mem_flatMap.1 hm
  exact hp (e.1.symm.trans (Zzd hx).1)
 ·obtain ⟨x,_,hx⟩:=List.mem_flatMap.1 hm
  exact hp (e.1.symm.trans (Zyk hx).1)
theorem Z4m (d:Diner):((Zf9 d).Phase=d.Phase∧∀x,Z3e d x=Zc9 d.Phase x)∨(d.Phase=1∧(Zf9 d).Phase=2∧(∀x,Z3e d x=Ze9 (Zc9 d.Phase x))∧∀x∈d.Sides,(Zc9 d.Phase x).Fork=true):=by
 unfold Zf9 Z3e
 cases hq:decide (d.Phase=1)&&(d.Sides.map (Zc9 d.Phase)).all (·.Fork) with
 | false=>exact .inl ⟨rfl,fun _=>rfl⟩
 | true=>
   rw [Bool.and_eq_true,decide_eq_true_eq,List.all_eq_true] at hq
   exact .inr ⟨hq.1,rfl,fun _=>rfl,fun x hx=>hq.2 _ (List.mem_map_of_mem hx)⟩
theorem phaseDr_ne (d:Drinker):Zge d=d.Diner.Phase∨d.Diner.Phase≠1:=by
 unfold Zge
 split
 ·rename_i h
  rw [Bool.and_eq_true,decide_eq_true_eq,decide_eq_true_eq] at h
  right;omega
 ·split
  ·rename_i h
   rw [Bool.and_eq_true,decide_eq_true_eq] at h
   right;omega
  ·exact .inl rfl
theorem Z1m.once {g:Graph} {s:Bar} (hg:okG g=true) (h:InvB g s) {a:Nat} {d:Drinker} (hd:s.Drinkers[a]?=some d) {r:Nat→Int} (he:Z1m r s):∃r',Z1m r' ⟨s.Drinkers.set a (Zke d),s.Mail++Zle d⟩:=by
 have hdt:=Zxk hd
 obtain ⟨hid,_⟩:=h.tab.shp a _ hdt
 have hpw:=h.tab.pw hg hdt
 have hself:Zw7 (Zke d).Diner a=none:=by rw [Z2m,h.self hg hd];rfl
 have hc:∀p q:Nat,p≠a→q≠a→ch (s.Mail++Zle d) p q=ch s.Mail p q:=fun p q hp _=>by
  rw [Zsl,Z3m (by rw [hid];omega),List.append_nil]
 obtain ⟨m,hm⟩:=low r s.Drinkers.length
 have hin:∀(r2:Int) (p2:Int),(∀x,Zw7 d.Diner x.Peer=some x→Z3e (Zhe d) x=Zc9 (Zge d) x∧p2=Zge d∧r2=r a∨Z3e (Zhe d) x=Ze9 (Zc9 (Zge d) x)∧p2=2∧Zge d=1∧(Zc9 (Zge d) x).Fork=true∧r2=m)→
   p2=(Zke d).Diner.Phase→∀(b:Nat) db x y,b≠a→s.Drinkers[b]?=some db→Zw7 (Zke d).Diner b=some x→Zw7 db.Diner a=some y→Zrl x y (Zke d).Diner.Phase db.Diner.Phase (f12 (ch (s.Mail++Zle d) a b)) (f12 (ch (s.Mail++Zle d) b a)) r2 (r b)∧Z0m x y (f34 (ch (s.Mail++Zle d) a b)) (f34 (ch (s.Mail++Zle d) b a)):=fun r2 p2 hx2 hp2 b db x y hb hdb hx hy=>by
  rw [Z2m,Option.map_eq_some_iff] at hx
  obtain ⟨x0,hx0,rfl⟩:=hx
  have e1:=he a b d db x0 y hd hdb hx0 hy
  have e2:=once_ch hpw hx0
  rw [hid] at e2
  have e3:ch (Zle d) b a=[]:=Z3m (by rw [hid];omega)
  rw [Zsl,Zsl,e2,e3,List.append_nil,←hp2]
  refine edge_once1 (q:=Zge d) (phaseDr_ne d) e1.1 e1.2 a d.Thirst (Zae d x0) ?_
  have hx0':Zw7 d.Diner x0.Peer=some x0:=by rw [(Z9e hx0).2];exact hx0
  rcases hx2 x0 hx0' with q | ⟨q1,q2,q3,q4,q5⟩
  ·exact .inl q
  ·exact .inr ⟨q1,q2,q3,q4,by rw [q5];exact hm b (List.getElem?_eq_some_iff.1 hdb).1⟩
 rcases Z4m (Zhe d) with ⟨f1,f2⟩ | ⟨f1,f2,f3,f4⟩
 ·exact ⟨r,he.set hself (fun _ _=>rfl) hc (hin (r a) (Zge d) (fun x _=>.inl ⟨f2 x,rfl,rfl⟩) f1.symm)⟩
 ·refine ⟨fun k=>if k=a then m else r k,he.set hself (fun k hk=>by rw [if_neg hk]) hc ?_⟩
  rw [if_pos rfl]
  exact hin m 2 (fun x hx=>.inr ⟨f3 x,rfl,f1,f4 x (Z9e hx).1,rfl⟩) f2.symm
structure Fork (g:Graph) (s:Bar):Prop where
 inv:InvB g s
 edge:∃r:Nat→Int,Z1m r s
theorem Fork.once {g:Graph} {s:Bar} (hg:okG g=true) (h:Fork g s) {a:Nat} {d:Drinker} (hd:s.Drinkers[a]?=some d):Fork g ⟨s.Drinkers.set a (Zke d),s.Mail++Zle d⟩:=by
 obtain ⟨r,he⟩:=h.edge
 exact ⟨h.inv.once hg hd,he.once hg h.inv hd⟩
theorem Fork.fireN {g:Graph} (hg:okG g=true) (L:List Drinker) (M:List Mail) {a:Nat} (ha:a<L.length):∀(n:Nat) (d:Drinker) (out:List Mail),Fork g ⟨L.set a d,M++out⟩→Fork g ⟨L.set a (NX.fireN n d out).1,M++(NX.fireN n d out).2⟩
 | 0,_,_,h=>h
 | n+1,d,out,h=>by
   unfold NX.fireN
   split
   ·exact h
   ·have hd:(L.set a d)[a]?=some d:=by rw [List.getElem?_set];simp [ha]
    have h1:=h.once hg hd
    dsimp only at h1
    rw [List.set_set,List.append_assoc] at h1
    exact Fork.fireN hg L M ha n _ _ h1
theorem Fork.fireDr {g:Graph} {s:Bar} (hg:okG g=true) (h:Fork g s) {a:Nat} {d:Drinker} (hd:s.Drinkers[a]?=some d):Fork g ⟨s.Drinkers.set a (NX.fireDr d).1,s.Mail++(NX.fireDr d).2⟩:=by
 refine Fork.fireN hg s.Drinkers s.Mail (List.getElem?_eq_some_iff.1 hd).1 300 d [] ?_
 rw [Z1l hd,List.append_nil];exact h
theorem Fork.act {g:Graph} {s:Bar} (hg:okG g=true) {a:Nat} (ha:a<s.Drinkers.length) {d':Drinker} {M:List Mail} (hI:InvB g ⟨s.Drinkers.set a d',M⟩) (hE:∃r,Z1m r ⟨s.Drinkers.set a d',M⟩):Fork g ⟨s.Drinkers.set a (NX.fireDr d').1,M++(NX.fireDr d').2⟩:=by
 have hd:(s.Drinkers.set a d')[a]?=some d':=by rw [List.getElem?_set];simp [ha]
 have h1:=Fork.fireDr hg ⟨hI,hE⟩ hd
 dsimp only at h1
 rw [List.set_set] at h1
 exact h1
theorem Z1m.drk {g:Graph} {s:Bar} (hg:okG g=true) (h:InvB g s) {r:Nat→Int} (he:Z1m r s) {a:Nat} {d:Drinker} (hd:s.Drinkers[a]?=some d) (t:Int) (n:List Int):Z1m r ⟨s.Drinkers.set a ⟨d.Diner,t,n⟩,s.Mail⟩:=
 he.set (d:=⟨d.Diner,t,n⟩) (show Zw7 d.Diner a=none from h.self hg hd) (fun _ _=>rfl) (fun _ _ _ _=>rfl) fun b db x y _ hdb hx hy=>he a b d db x y hd hdb hx hy
theorem open_eq {g:Graph} {s:Bar} (hg:okG g=true) (hN:g.N≤60) (h:InvB g s) {a:Int} {need:List Int} (he:(Zik s a fun d=>Zdf d need).2=0):
  ∃d,0≤a∧s.Drinkers[a.toNat]?=some d∧d.Thirst=0∧(∀p∈need,p∈Zqc g a)∧InvB g ⟨s.Drinkers.set a.toNat ⟨d.Diner,1,Ztc need⟩,s.Mail⟩∧(Zik s a fun d=>Zdf d need).1=Zgk s a ⟨d.Diner,1,Ztc need⟩:=by
 unfold Zik at he ⊢
 rw [h.ok hg hN,if_pos rfl] at he ⊢
 cases ht:Z9k s a with
 | false=>rw [ht] at he;exact absurd he (by show ¬(161:Int)=0;omega)
 | true=>
   obtain ⟨d,hd1,hd⟩:=Zck ht
   obtain ⟨a0,_⟩:=Zbk.1 ht
   have hdm:d∈s.Drinkers:=List.mem_iff_getElem?.2 ⟨_,hd⟩
   rw [ht,if_pos rfl,hd1] at he
   rw [if_pos rfl,hd1]
   dsimp only at he ⊢
   unfold Zdf at he ⊢
   rw [h.okDr hg hN hdm,if_pos rfl] at he ⊢
   by_cases h0:d.Thirst=0
   ·rw [if_pos h0] at he ⊢
    cases ho:need.any (Zcf d.Diner) with
    | true=>rw [ho] at he;exact absurd he (by show ¬(151:Int)=0;omega)
    | false=>
      rw [if_neg (by simp)]
      rw [List.any_eq_false] at ho
      obtain ⟨s1,s2⟩:=Z3l need
      have hp:∀p∈need,p∈d.Diner.Sides.map (·.Peer):=fun p hp=>by
       have:=ho p hp
       unfold Zcf at this
       simp only [Bool.not_eq_true',Bool.not_eq_false,List.any_eq_true,Bool.and_eq_true,decide_eq_true_eq] at this
       obtain ⟨x,hx,e,_⟩:=this
       exact List.mem_map.2 ⟨x,hx,e⟩
      have hl:LocT ⟨d.Diner,1,Ztc need⟩:=
       ⟨by show (0:Int)≤1;omega,by show (1:Int)≤2;omega,s1,fun p hp'=>hp p ((s2 p).1 hp'),fun e=>absurd e (by show ¬(1:Int)=0;omega),fun e=>absurd e (by show ¬(1:Int)=2;omega)⟩
      have hI:=h.drk hg hd hl
      obtain ⟨k1,k2⟩:=Zjl hg hN hd hI
      refine ⟨d,a0,hd,h0,fun p hp'=>?_,hI,by rw [k1]⟩
      have:=(h.tab.shp _ _ (Zxk hd)).2
      rw [Int.toNat_of_nonneg a0] at this
      rw [←this];exact hp p hp'
   ·rw [if_neg h0] at he
    exact absurd he (by show ¬(152:Int)=0;omega)
theorem close_ok {g:Graph} {s:Bar} (hg:okG g=true) (hN:g.N≤60) (h:InvB g s) {a:Int} (a0:0≤a) {d:Drinker} (hd:s.Drinkers[a.toNat]?=some d) (h0:d.Thirst≠0):
  InvB g ⟨s.Drinkers.set a.toNat ⟨d.Diner,0,[]⟩,s.Mail⟩∧Zik s a Zef=(Zgk s a ⟨d.Diner,0,[]⟩,0):=by
 have hlt:=(List.getElem?_eq_some_iff.1 hd).1
 have ht:Z9k s a=true:=Zbk.2 ⟨a0,by omega⟩
 obtain ⟨d',hd1,hd'⟩:=Zck ht
 have e:d'=d:=by rw [hd] at hd';simpa using hd'.symm
 subst e
 have hdm:d'∈s.Drinkers:=List.mem_iff_getElem?.2 ⟨_,hd⟩
 have hl:LocT ⟨d'.Diner,0,[]⟩:=⟨Int.le_refl _,by show (0:Int)≤2;omega,by simp,by simp,fun _=>rfl,fun e=>absurd e (by show ¬(0:Int)=2;omega)⟩
 have hI:=h.drk hg hd hl
 obtain ⟨k1,k2⟩:=Zjl hg hN hd hI
 refine ⟨hI,?_⟩
 unfold Zik Zef
 rw [h.ok hg hN,if_pos rfl,ht,if_pos rfl,hd1]
 dsimp only
 rw [h.okDr hg hN hdm,if_pos rfl,if_neg h0,k1]
theorem close_eq {g:Graph} {s:Bar} (hg:okG g=true) (hN:g.N≤60) (h:InvB g s) {a:Int} (he:(Zik s a Zef).2=0):∃d,0≤a∧s.Drinkers[a.toNat]?=some d∧d.Thirst≠0:=by
 unfold Zik at he
 rw [h.ok hg hN,if_pos rfl] at he
 cases ht:Z9k s a with
 | false=>rw [ht] at he;exact absurd he (by show ¬(161:Int)=0;omega)
 | true=>
   obtain ⟨d,hd1,hd⟩:=Zck ht
   obtain ⟨a0,_⟩:=Zbk.1 ht
   have hdm:d∈s.Drinkers:=List.mem_iff_getElem?.2 ⟨_,hd⟩
   rw [ht,if_pos rfl,hd1] at he
   dsimp only at he
   unfold Zef at he
   rw [h.okDr hg hN hdm,if_pos rfl] at he
   by_cases h0:d.Thirst=0
   ·rw [if_pos h0] at he
    exact absurd he (by show ¬(152:Int)=0;omega)
   ·exact ⟨d,a0,hd,h0⟩
theorem edge_get {x y:Side} {pa pb:Int} {cab cba:List Int} {ra rb k:Int} (hd:x.Dirty=true→x.Fork=true) (h1:1≤k) (h4:k≤4) (he:Zrl x y pa pb (f12 cab) (f12 (k::cba)) ra rb) (hb:Z0m x y (f34 cab) (f34 (k::cba))):
  Zrl (if k≤2 then Z2h x k else NX.getT x k) y pa pb (f12 cab) (f12 cba) ra rb∧Z0m (if k≤2 then Z2h x k else NX.getT x k) y (f34 cab) (f34 cba)∧(k=2→x.Fork=true):=by
 have hk:k=1∨k=2∨k=3∨k=4:=by omega
 rcases hk with rfl | rfl | rfl | rfl
 ·have h:=Zrl.getF (cba:=f12 cba) he hd
  exact ⟨h.1,hb,fun e=>absurd e (by omega)⟩
 ·have h:=Zrl.getT (cba:=f12 cba) he
  exact ⟨h.1,hb,fun _=>h.2⟩
 ·have h:=Z0m.getB (cba:=f34 cba) hb
  exact ⟨he,h.1,fun e=>absurd e (by omega)⟩
 ·have h:=Z0m.getA (cba:=f34 cba) hb
  exact ⟨he,h.1,fun e=>absurd e (by omega)⟩
theorem Z1m.get {g:Graph} {s:Bar} (hg:okG g=true) (h:InvB g s) {r:Nat→Int} (he:Z1m r s) {a b:Int} (a0:0≤a) (b0:0≤b) {da db:Drinker} (hda:s.Drinkers[a.toNat]?=some da) (hdb:s.Drinkers[b.toNat]?=some db) {i:Nat} {m:Mail} (hf:Zlk s a b=some i) (hm:s.Mail[i]?=some m) (m1:m.From=a) (m2:m.To=b)
  {x:Side} {j:Nat} (hx:db.Diner.Sides[j]?=some x) (hp:x.Peer=a) {d1:Drinker} (hd1:d1=⟨⟨db.Diner.ID,db.Diner.Phase,db.Diner.Sides.set j (if m.Msg.Kind≤2 then Z2h x m.Msg.Kind else NX.getT x m.Msg.Kind)⟩,db.Thirst,db.Need⟩):
  Z1m r ⟨s.Drinkers.set b.toNat d1,s.Mail.take i++s.Mail.drop (i+1)⟩∧(m.Msg.Kind=2→x.Fork=true):=by
 unfold Zlk at hf
 obtain ⟨c1,c2⟩:=ch_take hf hm
 have hmm:m∈s.Mail:=List.mem_iff_getElem?.2 ⟨_,hm⟩
 obtain ⟨k1,_,_,hnear⟩:=h.mail m hmm
 rw [m1,m2] at hnear
 have hne:a≠b:=fun e=>(Zwc hg hnear).2.2.1 e.symm
 have ea:((a.toNat:Nat):Int)=a:=Int.toNat_of_nonneg a0
 have eb:((b.toNat:Nat):Int)=b:=Int.toNat_of_nonneg b0
 have hdbt:=Zxk hdb
 have hpw:=h.tab.pw hg hdbt
 have hloc:=h.tab.loc _ (List.mem_iff_getElem?.2 ⟨_,hdbt⟩)
 have hxm:x∈db.Diner.Sides:=List.mem_iff_getElem?.2 ⟨_,hx⟩
 have hxo:Zw7 db.Diner a=some x:=by rw [←hp];exact Zll hpw hxm
 obtain ⟨y,hy,_⟩:=h.tab.sided a0 (Zxk hda) hnear
 have hE:=he b.toNat a.toNat db da x y hdb hda (by rw [ea];exact hxo) (by rw [eb];exact hy)
 rw [ea,eb,c1] at hE
 have hget:=edge_get (hloc.side x hxm).2.2 k1.1 k1.2 hE.1 hE.2
 refine ⟨?_,hget.2.2⟩
 have hgp:(if m.Msg.Kind≤2 then Z2h x m.Msg.Kind else NX.getT x m.Msg.Kind).Peer=x.Peer:=by
  split
  ·unfold Z2h;split<;>rfl
  ·unfold NX.getT;split<;>rfl
 have i3:∀z:Int,Zw7 d1.Diner z=if z=a then some (if m.Msg.Kind≤2 then Z2h x m.Msg.Kind else NX.getT x m.Msg.Kind) else Zw7 db.Diner z:=fun z=>by
  rw [hd1]
  dsimp only
  rw [Zkl hpw hx hgp,hp]
 have i2:d1.Diner.Phase=db.Diner.Phase:=by rw [hd1]
 have hcm:∀p q:Int,¬(p=a∧q=b)→ch (s.Mail.take i++s.Mail.drop (i+1)) p q=ch s.Mail p q:=c2
 have hself:Zw7 d1.Diner b.toNat=none:=by
  rw [i3,if_neg (by rw [eb];exact fun e=>hne e.symm)];exact h.self hg hdb
 refine he.set hself (fun _ _=>rfl) (fun p q hp hq=>hcm p q (by omega)) fun c dc x' y' hc hdc hx' hy'=>?_
 rw [i3] at hx'
 rw [eb,hcm b c (by omega)]
 by_cases hca:(c:Int)=a
 ·rw [if_pos hca] at hx'
  have hca':c=a.toNat:=by omega
  subst hca'
  have e1:dc=da:=by rw [hda] at hdc;simpa using hdc.symm
  subst e1
  rw [eb,hy] at hy'
  simp only [Option.some.injEq] at hx' hy'
  subst hx';subst hy'
  rw [ea,i2]
  exact ⟨hget.1,hget.2.1⟩
 ·rw [if_neg hca] at hx'
  rw [hcm c b (by omega),i2]
  have:=he b.toNat c db dc x' y' hdb hdc hx' hy'
  rwa [eb] at this
theorem Fork.first {g:Graph} (hg:okG g=true):Fork g (barT g):=by
 refine ⟨InvB.first hg,?_⟩
 obtain ⟨r,hr⟩:=(Fair.first hg).edge
 have hc:=(Zug hg).1
 refine ⟨r,fun a b da db x y ha hb hx hy=>?_⟩
 have e0:∀p q:Int,ch (barT g).Mail p q=[]:=fun _ _=>rfl
 have get:∀(k:Nat) d,(barT g).Drinkers[k]?=some d→(Zvg g).Diners[k]?=some d.Diner∧d.Diner=Zyc g (Ztg g) k:=fun k d hd=>by
  have h1:((Zvg g).Diners.map fun d=>(⟨d,0,[]⟩:Drinker))[k]?=some d:=hd
  rw [List.getElem?_map,Option.map_eq_some_iff] at h1
  obtain ⟨d0,h2,rfl⟩:=h1
  refine ⟨h2,?_⟩
  have hk:=(List.getElem?_eq_some_iff.1 h2).1
  have hl:=Zrd hg (Ztg g)
  have hk':k<(Zzc g (Ztg g)).length:=hk
  have e:=Zqd (g:=g) (c:=Ztg g) (a:=(k:Int)) (by omega) (by omega)
  have h2':(Zzc g (Ztg g))[k]?=some d0:=h2
  rw [Int.toNat_natCast,h2'] at e
  simpa using e
 obtain ⟨a1,a2⟩:=get a da ha
 obtain ⟨b1,b2⟩:=get b db hb
 refine ⟨hr a b da.Diner db.Diner x y a1 b1 hx hy,?_⟩
 rw [a2,Zsd] at hx
 rw [b2,Zsd] at hy
 split at hx
 ·rename_i hab
  rw [if_pos (Ztd hg hab)] at hy
  have hne:=Z1d hg hc hab
  simp only [Option.some.injEq] at hx hy
  subst hx;subst hy
  rw [e0,e0]
  have hlt:decide (cg (Ztg g) a<cg (Ztg g) b)=!decide (cg (Ztg g) b<cg (Ztg g) a):=by
   rw [←decide_not,decide_eq_decide];omega
  unfold Z0m OwnB
  by_cases hh:cg (Ztg g) b<cg (Ztg g) a
  ·simp [Zxc,hlt,hh,f34]
  ·simp [Zxc,hlt,hh,f34]
 ·simp at hx
theorem Fork.actR {g:Graph} {s:Bar} (hg:okG g=true) (hN:g.N≤60) (h:Fork g s) (k a b:Int) (need:List Int) (he:(NX.actR s k a b need).2=0):Fork g (NX.actR s k a b need).1:=by
 obtain ⟨r,hr⟩:=h.edge
 unfold NX.actR at he ⊢
 split at he
 ·rename_i h1
  rw [if_pos h1]
  obtain ⟨d,a0,hd,_,_,hI,e⟩:=open_eq hg hN h.inv he
  rw [e]
  exact Fork.act hg (List.getElem?_eq_some_iff.1 hd).1 hI ⟨r,hr.drk hg h.inv hd _ _⟩
 ·rename_i h1
  rw [if_neg h1]
  split at he
  ·rename_i h2
   rw [if_pos h2]
   obtain ⟨d,a0,hd,h0⟩:=close_eq hg hN h.inv he
   obtain ⟨hI,e⟩:=close_ok hg hN h.inv a0 hd h0
   rw [e]
   exact Fork.act hg (List.getElem?_eq_some_iff.1 hd).1 hI ⟨r,hr.drk hg h.inv hd _ _⟩
  ·rename_i h2
   rw [if_neg h2]
   cases ht:Z9k s a with
   | false=>
     unfold Zmk at he
     rw [h.inv.ok hg hN,if_pos rfl,ht] at he
     exact absurd he (by show ¬(161:Int)=0;omega)
   | true=>
     cases ht':Z9k s b with
     | false=>
       unfold Zmk at he
       rw [h.inv.ok hg hN,if_pos rfl,ht,ht'] at he
       exact absurd he (by show ¬(161:Int)=0;omega)
     | true=>
       cases hf:Zlk s a b with
       | none=>
         unfold Zmk at he
         rw [h.inv.ok hg hN,if_pos rfl,ht,ht',Bool.and_self,if_pos rfl,hf] at he
         exact absurd he (by show ¬(162:Int)=0;omega)
       | some i=>
         obtain ⟨m,db,x,j,d1,hm,m1,m2,hdb,hxj,hp,hd1,hI,e,_⟩:=Znl hg hN h.inv ht ht' hf
         obtain ⟨da,_,hda⟩:=Zck ht
         rw [e]
         exact Fork.act hg (List.getElem?_eq_some_iff.1 hdb).1 hI ⟨r,(hr.get hg h.inv (Zbk.1 ht).1 (Zbk.1 ht').1 hda hdb hf hm m1 m2 hxj hp hd1).1⟩
def Z5m:List Int→Bool
 | []=>false
 | k::l=>if k=4 then decide ((1:Int)∈l) else Z5m l
theorem late_cons (k:Int) (l:List Int):Z5m (k::l)=if k=4 then decide ((1:Int)∈l) else Z5m l:=rfl
theorem late_no1:∀ {c:List Int},(1:Int)∉c→Z5m c=false
 | [],_=>rfl
 | k::l,h=>by
   unfold Z5m
   split
   ·exact decide_eq_false fun hm=>h (by simp [hm])
   ·exact late_no1 fun hm=>h (by simp [hm])
theorem Z6m (e:List Int):∀c:List Int,Z5m (c++e)=if (4:Int)∈c then (Z5m c||decide ((1:Int)∈e)) else Z5m e
 | []=>by simp
 | k::l=>by
   rw [List.cons_append,late_cons,late_cons]
   by_cases hk:k=4
   ·subst hk
    simp
   ·rw [if_neg hk,if_neg hk,Z6m e l]
    have:((4:Int)∈k::l)↔(4:Int)∈l:=by simp;omega
    simp only [this]
theorem mem_f12 {c:List Int} {k:Int} (hk:k≤2):k∈f12 c↔k∈c:=by unfold f12;simp [hk]
theorem Z7m {c:List Int} {k:Int} (hk:¬k≤2):k∈f34 c↔k∈c:=by unfold f34;simp;omega
def Z8m (t:Int) (n:Bool):Bool:=decide (t=1)&&n
def kept (t:Int) (n:Bool):Bool:=decide (t=2)&&n
def Z9m (Aa Ab Ka Kb Fa lt:Bool) (s:Nat):Nat:=
 if Aa&&Ab then (if Fa then (if s=2 then (if lt then 4 else 0) else if s=1 then (if lt then 5 else 1) else 1) else if s=2 then 2 else 3)
 else if s=2 then (if Ka then 0 else if Aa then (if Kb then 2 else 3) else 1) else if s=1 then 1+(if Ka then 0 else if Aa then (if Kb then 2 else 3) else 1) else if Ab then 1+(if Ka then 0 else if Aa then (if Kb then 2 else 3) else 1) else 0
def stA (x:Side) (c:List Int):Nat:=if x.Ask then 2 else if (4:Int)∈c then 1 else 0
def Zam (x:Side) (c:List Int) (ta tb:Int) (na nb:Bool):Nat:=
 Z9m (Z8m ta na) (Z8m tb nb) (kept ta na) (kept tb nb) (x.Fork||decide ((1:Int)∈c)) (if x.Ask then decide ((1:Int)∈c) else Z5m c) (stA x c)
def owns (x:Side) (c:List Int):Bool:=x.Bottle||decide ((3:Int)∈c)
def Zbm (x y:Side) (ta tb:Int) (na nb:Bool) (cab cba:List Int):Nat:=
 (if decide ((3:Int)∈cab)||decide ((3:Int)∈cba) then 1 else 0)+(if owns x cba then Zam x cba ta tb na nb else Zam y cab tb ta nb na)
def pdx (x:Side) (p:Int):Nat:=if x.Fork&&(x.Dirty&&!decide (p=2)) then 3 else 0
def ph3 (p:Int):Nat:=if p=0 then 0 else 3
def Zcm (x y:Side) (pa pb:Int) (cab cba:List Int):Nat:=(f12 cab).length+(f12 cba).length+pdx x pa+pdx y pb+ph3 pa+ph3 pb
def pot (x y:Side) (pa pb ta tb:Int) (na nb:Bool) (cab cba:List Int):Nat:=2*Zcm x y pa pb cab cba+Zbm x y ta tb na nb cab cba
theorem rest_le (Aa Ab Ka Kb Fa lt:Bool) (s:Nat):Z9m Aa Ab Ka Kb Fa lt s≤5:=by
 unfold Z9m
 cases Aa<;>cases Ab<;>cases Ka<;>cases Kb<;>cases Fa<;>cases lt<;>by_cases h2:s=2<;>by_cases h1:s=1<;>simp [h1,h2]
theorem owns_symm {x y:Side} {cab cba:List Int} (h:Z0m x y (f34 cab) (f34 cba)):owns y cab=!owns x cba:=by
 unfold owns
 have e1:decide ((3:Int)∈cab)=decide ((3:Int)∈f34 cab):=by rw [decide_eq_decide];exact (Z7m (by omega)).symm
 have e2:decide ((3:Int)∈cba)=decide ((3:Int)∈f34 cba):=by rw [decide_eq_decide];exact (Z7m (by omega)).symm
 rw [e1,e2]
 rcases h with ⟨h1,h2,⟨h3,h4⟩ | ⟨h3,h4,h5 | h5⟩⟩ | ⟨h1,h2,⟨h3,h4⟩ | ⟨h3,h4,h5 | h5⟩⟩
 ·rw [h1,h2,h3];simp
 ·rw [h1,h2,h3,h5.2];simp
 ·rw [h1,h2,h3,h5.2];simp
 ·rw [h1,h2,h3];simp
 ·rw [h1,h2,h3,h5.2];simp
 ·rw [h1,h2,h3,h5.2];simp
theorem pot_symm {x y:Side} {cab cba:List Int} (h:Z0m x y (f34 cab) (f34 cba)) (pa pb ta tb:Int) (na nb:Bool):pot y x pb pa tb ta nb na cba cab=pot x y pa pb ta tb na nb cab cba:=by
 unfold pot Zcm Zbm
 rw [owns_symm h]
 have e:(decide ((3:Int)∈cba)||decide ((3:Int)∈cab))=(decide ((3:Int)∈cab)||decide ((3:Int)∈cba)):=Bool.or_comm _ _
 rw [e]
 cases owns x cba<;>simp<;>omega
theorem Zdm {x y:Side} {pa pb:Int} {cab cba:List Int} {ra rb:Int} (h:Zrl x y pa pb (f12 cab) (f12 cba) ra rb):
  (y.Fork=false∧(1:Int)∉cab∧(x.Fork=true∧(1:Int)∉cba∨x.Fork=false∧(1:Int)∈cba))∨(x.Fork=false∧(1:Int)∉cba∧(y.Fork=true∧(1:Int)∉cab∨y.Fork=false∧(1:Int)∈cab)):=by
 rw [←mem_f12 (k:=1) (c:=cab) (by omega),←mem_f12 (k:=1) (c:=cba) (by omega)]
 rcases h with ⟨h1,h2,h3,h4,h5,h6⟩ | ⟨h1,h2,h3,h4,h5,h6⟩
 ·left
  rw [h1]
  refine ⟨h2,by simp,?_⟩
  rcases h6 with ⟨k1,_,k3 | k3 | k3⟩ | ⟨k1,_,_,k4 | k4⟩
  ·left;rw [k3.2.2];simp [k1]
  ·left;rw [k3.2.2];simp [k1]
  ·left;rw [k3.2.2];simp [k1]
  ·right;rw [k4.2];simp [k1]
  ·right;rw [k4.2];simp [k1]
 ·right
  rw [h1]
  refine ⟨h2,by simp,?_⟩
  rcases h6 with ⟨k1,_,k3 | k3 | k3⟩ | ⟨k1,_,_,k4 | k4⟩
  ·left;rw [k3.2.2];simp [k1]
  ·left;rw [k3.2.2];simp [k1]
  ·left;rw [k3.2.2];simp [k1]
  ·right;rw [k4.2];simp [k1]
  ·right;rw [k4.2];simp [k1]
theorem potF_le {x y:Side} {pa pb:Int} {cab cba:List Int} {ra rb:Int} (h:Zrl x y pa pb (f12 cab) (f12 cba) ra rb):Zcm x y pa pb cab cba≤14:=by
 have h1:=h.few
 unfold Zcm pdx ph3
 split<;>split<;>split<;>split<;>omega
theorem pot_le {x y:Side} {pa pb ta tb:Int} {na nb:Bool} {cab cba:List Int} {ra rb:Int} (h:Zrl x y pa pb (f12 cab) (f12 cba) ra rb):pot x y pa pb ta tb na nb cab cba≤34:=by
 have h1:=potF_le h
 have h2:∀(z:Side) c t u n m,Zam z c t u n m≤5:=fun z c t u n m=>rest_le _ _ _ _ _ _ _
 have h3:=h2 x cba ta tb na nb
 have h4:=h2 y cab tb ta nb na
 unfold pot Zbm
 split<;>split<;>omega
theorem rest_out (Aa Ab Ka Kb lt:Bool) (s:Nat):Z9m Aa Ab Ka Kb false lt s≤Z9m Aa Ab Ka Kb true false s+2:=by
 unfold Z9m
 cases Aa<;>cases Ab<;>by_cases h2:s=2<;>by_cases h1:s=1<;>simp [h1,h2]
theorem rest_in (Aa Ab Ka Kb lt lt':Bool) (s:Nat):Z9m Aa Ab Ka Kb true lt' s≤Z9m Aa Ab Ka Kb false lt s+2:=by
 unfold Z9m
 cases Aa<;>cases Ab<;>cases lt'<;>by_cases h2:s=2<;>by_cases h1:s=1<;>simp [h1,h2]
theorem potB_fork {x y x':Side} {ta tb:Int} {na nb:Bool} {cab cba N:List Int} (hx:x.Fork=true) (hx':x'.Fork=false) (hb:x'.Bottle=x.Bottle) (ha:x'.Ask=x.Ask) (hy:y.Fork=false) (h1:(1:Int)∉cab) (h2:(1:Int)∉cba) (n1:(1:Int)∈N) (n3:(3:Int)∉N) (n4:(4:Int)∉N):
  Zbm x' y ta tb na nb (cab++N) cba≤Zbm x y ta tb na nb cab cba+2:=by
 unfold Zbm owns Zam
 have e3:decide ((3:Int)∈cab++N)=decide ((3:Int)∈cab):=by rw [decide_eq_decide,List.mem_append];exact ⟨fun h=>h.resolve_right n3,.inl⟩
 have e1:decide ((1:Int)∈cab++N)=true:=decide_eq_true (List.mem_append.2 (.inr n1))
 have e2:decide ((1:Int)∈cba)=false:=decide_eq_false h2
 have e4:stA y (cab++N)=stA y cab:=by
  unfold stA
  have:((4:Int)∈cab++N)↔(4:Int)∈cab:=by rw [List.mem_append];exact ⟨fun h=>h.resolve_right n4,.inl⟩
  simp only [this]
 have e5:stA x' cba=stA x cba:=by unfold stA;rw [ha]
 have e6:decide ((1:Int)∈cab)=false:=decide_eq_false h1
 rw [e3,e1,e2,e4,e5,e6,hb,ha,hx,hx',hy,late_no1 h2]
 simp only [Bool.or_false,Bool.or_true,ite_self]
 have k1:=rest_out (Z8m ta na) (Z8m tb nb) (kept ta na) (kept tb nb) false (stA x cba)
 cases (x.Bottle||decide ((3:Int)∈cba)) with
 | true=>
   simp only [if_true]
   omega
 | false=>
   simp only [Bool.false_eq_true,if_false]
   have k2:=rest_in (Z8m tb nb) (Z8m ta na) (kept tb nb) (kept ta na) (if y.Ask=true then false else Z5m cab) (if y.Ask=true then true else Z5m (cab++N)) (stA y cab)
   omega
theorem pot_fire {x y:Side} {pa pb ta tb:Int} {na nb:Bool} {cab cba:List Int} {ra rb:Int} (id:Int) (h:Zrl x y pa pb (f12 cab) (f12 cba) ra rb) (hs:pa=1→x.Token=true→x.Fork=true):
  pot (Zc9 pa x) y pa pb ta tb na nb (cab++Zxl (Zd9 id pa x)) cba≤pot x y pa pb ta tb na nb cab cba:=by
 by_cases hm:(x.Fork&&(x.Dirty&&(x.Token&&!decide (pa=2))))=true
 ·have hm':=hm
  simp only [Bool.and_eq_true,Bool.not_eq_true',decide_eq_false_iff_not] at hm'
  obtain ⟨m1,m2,m3,m4⟩:=hm'
  have hpos:=Zdm h
  rw [m1] at hpos
  rcases hpos with ⟨y1,y2,y3 | y3⟩ | ⟨y1,_⟩
  ·have e:Zb9 pa x={x with Fork:=false,Dirty:=false}:=by unfold Zb9;rw [if_pos hm]
   have hk:(Zxl (Zd9 id pa x)=[1,2]∨Zxl (Zd9 id pa x)=[1])∧(Zc9 pa x).Fork=false∧(Zc9 pa x).Bottle=x.Bottle∧(Zc9 pa x).Ask=x.Ask∧(Zc9 pa x).Dirty=false:=by
    unfold Zxl Zd9 Zc9
    rw [if_pos hm,e]
    dsimp only
    rw [m3]
    by_cases q:pa=1
    ·simp [q]
    ·simp [q]
   obtain ⟨k1,k2,k3,k4,k5⟩:=hk
   have hB:=potB_fork (ta:=ta) (tb:=tb) (na:=na) (nb:=nb) (N:=Zxl (Zd9 id pa x)) m1 k2 k3 k4 y1 y2 y3.2 (by rcases k1 with k | k<;>rw [k]<;>simp) (by rcases k1 with k | k<;>rw [k]<;>simp) (by rcases k1 with k | k<;>rw [k]<;>simp)
   have hF:Zcm (Zc9 pa x) y pa pb (cab++Zxl (Zd9 id pa x)) cba+1≤Zcm x y pa pb cab cba:=by
    unfold Zcm
    rw [Zvl,(Zyl id pa x).1,List.length_append]
    have p1:pdx x pa=3:=by unfold pdx;simp [m1,m2,m4]
    have p2:pdx (Zc9 pa x) pa=0:=by unfold pdx;simp [k2]
    have p3:(Zxl (Zd9 id pa x)).length≤2:=by rcases k1 with k | k<;>rw [k]<;>simp
    rw [p1,p2]
    omega
   unfold pot
   omega
  ·exact absurd y3.1 (by simp)
  ·exact absurd y1 (by simp)
 ·have e:Zb9 pa x=x:=by unfold Zb9;rw [if_neg hm]
  have hn:¬(decide (pa=1)&&((Zb9 pa x).Token&&!(Zb9 pa x).Fork))=true:=by
   rw [e]
   simp only [Bool.and_eq_true,decide_eq_true_eq,Bool.not_eq_true',not_and,Bool.not_eq_false]
   exact hs
  have e2:Zc9 pa x=x:=by unfold Zc9;rw [if_neg hn,e]
  have e3:Zd9 id pa x=[]:=by unfold Zd9;rw [if_neg hm,if_neg hn];rfl
  rw [e2,e3]
  simp [Zxl]
theorem pot_phase {x y:Side} {pa pb ta tb:Int} {na nb:Bool} {cab cba:List Int} (hp:pa=2):pot x y 0 pb ta tb na nb cab cba≤pot x y pa pb ta tb na nb cab cba:=by
 unfold pot Zcm pdx ph3
 subst hp
 simp only [decide_true,Bool.not_true,Bool.and_false,Bool.false_eq_true,if_false,if_true]
 have:(if (x.Fork&&(x.Dirty&&!decide ((0:Int)=2)))=true then 3 else 0)≤3:=by split<;>omega
 rw [if_neg (show ¬(2:Int)=0 by omega)]
 omega
theorem pot_eat {x y:Side} {pb ta tb:Int} {na nb:Bool} {cab cba:List Int}:pot (Ze9 x) y 2 pb ta tb na nb cab cba≤pot x y 1 pb ta tb na nb cab cba:=by
 have e1:Zbm (Ze9 x) y ta tb na nb cab cba=Zbm x y ta tb na nb cab cba:=rfl
 unfold pot
 rw [e1]
 unfold Zcm
 have p2:pdx (Ze9 x) 2=0:=by unfold pdx;simp
 have p3:ph3 2=ph3 1:=rfl
 rw [p2,p3]
 omega
theorem pot_bot {x y:Side} {pa pb ta tb:Int} {na nb:Bool} {cab cba:List Int} (id:Int) (h:Z0m x y (f34 cab) (f34 cba))
  (hf:(y.Fork=false∧(1:Int)∉cab∧(x.Fork=true∧(1:Int)∉cba∨x.Fork=false∧(1:Int)∈cba))∨(x.Fork=false∧(1:Int)∉cba∧(y.Fork=true∧(1:Int)∉cab∨y.Fork=false∧(1:Int)∈cab))):
  pot (Zde na ta x) y pa pb ta tb na nb (cab++Zxl (Zee id na ta x)) cba≤pot x y pa pb ta tb na nb cab cba:=by
 have hF:Zcm (Zde na ta x) y pa pb (cab++Zxl (Zee id na ta x)) cba=Zcm x y pa pb cab cba:=by
  obtain ⟨_,_,_,b4,b5,_⟩:=Zfe na ta x
  unfold Zcm pdx
  rw [Zvl,(Zzl id ta na x).2,List.append_nil,b4,b5]
 unfold pot
 rw [hF]
 suffices hB:Zbm (Zde na ta x) y ta tb na nb (cab++Zxl (Zee id na ta x)) cba≤Zbm x y ta tb na nb cab cba by omega
 have m34:∀(k:Int) (c:List Int),¬k≤2→(k∈c↔k∈f34 c):=fun k c hk=>(Z7m hk).symm
 by_cases hg:(x.Bottle&&(x.Ask&&!Zbe na ta x))=true
 ·have hg':=hg
  simp only [Bool.and_eq_true,Bool.not_eq_true'] at hg'
  obtain ⟨g1,g2,g3⟩:=hg'
  have hsh:f34 cab=[]∧y.Bottle=false∧y.Ask=false∧f34 cba=[]:=by
   rcases h with ⟨h1,h2,⟨h3,h4 | h4 | h4⟩ | ⟨h3,h4,h5⟩⟩ | ⟨h1,h2,_⟩
   ·exact ⟨h1,h2,h4.2.1,h4.2.2⟩
   ·rw [g2] at h4;exact absurd h4.1 (by simp)
   ·rw [g2] at h4;exact absurd h4.1 (by simp)
   ·rw [g1] at h3;exact absurd h3 (by simp)
   ·rw [g1] at h2;exact absurd h2 (by simp)
  obtain ⟨c1,c2,c3,c4⟩:=hsh
  have a3:(3:Int)∉cab:=by rw [m34 3 cab (by omega),c1];simp
  have a4:(4:Int)∉cab:=by rw [m34 4 cab (by omega),c1];simp
  have b3:(3:Int)∉cba:=by rw [m34 3 cba (by omega),c4];simp
  have e1:Zce na ta x={x with Bottle:=false}:=by unfold Zce;rw [if_pos hg]
  unfold Zbe at g3
  by_cases hA:Z8m ta na=true
  ·have hA':=hA
   unfold Z8m at hA'
   rw [Bool.and_eq_true,decide_eq_true_eq] at hA'
   obtain ⟨t1,n1⟩:=hA'
   have hfx:x.Fork=false:=by
    rw [t1,n1] at g3;simpa using g3
   have e2:Zde na ta x={x with Bottle:=false,Ask:=false}:=by
    unfold Zde
    rw [e1,t1,n1]
    simp [g2]
   have e3:Zxl (Zee id na ta x)=[3,4]:=by
    unfold Zxl Zee
    rw [if_pos hg,e1,t1,n1]
    simp [g2]
   have hK:kept ta na=false:=by unfold kept;rw [t1];rfl
   rw [e2,e3]
   unfold Zbm owns Zam stA
   simp only [g1,g2,c3,hA,hK,Z6m,List.mem_append,a3,b3,a4,hfx]
   simp only [Z5m,decide_false,Bool.or_false,Bool.false_or,List.mem_cons,List.not_mem_nil,Bool.false_eq_true,if_true,if_false,or_false,false_or]
   simp only [show ((3:Int)=4)=False from by simp,show ((4:Int)=3)=False from by simp,show ((1:Int)=3)=False from by simp,show ((1:Int)=4)=False from by simp,or_true,or_false,decide_true,decide_false,if_true,if_false]
   rcases hf with ⟨q1,q2,⟨q3,_⟩ | ⟨_,q4⟩⟩ | ⟨_,q2,⟨q3,q4⟩ | ⟨q3,q4⟩⟩
   ·rw [hfx] at q3;exact absurd q3 (by simp)
   ·unfold Z9m
    rw [q1]
    simp only [decide_eq_true q4,decide_eq_false q2]
    cases Z8m tb nb<;>cases kept tb nb<;>simp
   ·unfold Z9m
    rw [q3]
    simp only [decide_eq_false q4,decide_eq_false q2]
    cases Z8m tb nb<;>cases kept tb nb<;>simp
   ·unfold Z9m
    rw [q3]
    simp only [decide_eq_true q4,decide_eq_false q2]
    cases Z8m tb nb<;>cases kept tb nb<;>simp
  ·have hA0:Z8m ta na=false:=by simpa using hA
   have hc:(decide (ta=1)&&(na&&((Zce na ta x).Ask&&!(Zce na ta x).Bottle)))=false:=by
    rw [←Bool.and_assoc]
    unfold Z8m at hA0
    rw [hA0];rfl
   have e2:Zde na ta x={x with Bottle:=false}:=by
    unfold Zde
    rw [hc,e1];rfl
   have e3:Zxl (Zee id na ta x)=[3]:=by
    unfold Zxl Zee
    rw [if_pos hg,hc]
    rfl
   have hK:kept ta na=false:=by
    unfold kept
    rw [Bool.and_comm]
    cases na with
    | false=>rfl
    | true=>simp only [Bool.true_and,Bool.or_eq_false_iff] at g3;rw [g3.1];rfl
   rw [e2,e3]
   unfold Zbm owns Zam stA
   simp only [g1,g2,c3,hA0,hK,Z6m,List.mem_append,a3,b3,a4]
   simp only [Z5m,decide_false,Bool.or_false,List.mem_cons,List.not_mem_nil,Bool.false_eq_true,if_true,if_false,or_false,false_or]
   simp only [show ((3:Int)=4)=False from by simp,show ((4:Int)=3)=False from by simp,decide_true,if_true,if_false]
   unfold Z9m
   cases Z8m tb nb<;>cases kept tb nb<;>simp
 ·have e1:Zce na ta x=x:=by unfold Zce;rw [if_neg hg]
  by_cases hc:(decide (ta=1)&&(na&&(x.Ask&&!x.Bottle)))=true
  ·have hc':=hc
   simp only [Bool.and_eq_true,decide_eq_true_eq,Bool.not_eq_true'] at hc'
   obtain ⟨t1,n1,k1,k2⟩:=hc'
   have e2:Zde na ta x={x with Ask:=false}:=by
    unfold Zde
    rw [e1,if_pos hc]
   have e3:Zxl (Zee id na ta x)=[4]:=by
    unfold Zxl Zee
    rw [if_neg hg,e1,if_pos hc]
    rfl
   have hA:Z8m ta na=true:=by unfold Z8m;rw [t1,n1];rfl
   have hK:kept ta na=false:=by unfold kept;rw [t1];rfl
   have hsh:y.Ask=false∧f34 cba=[]∧(4:Int)∉f34 cab:=by
    rcases h with ⟨h1,h2,⟨h3,h4⟩ | ⟨h3,h4,h5⟩⟩ | ⟨h1,h2,⟨h3,h4 | h4 | h4⟩ | ⟨h3,h4,h5 | h5⟩⟩
    ·rw [k2] at h3;exact absurd h3 (by simp)
    ·rw [k1] at h4;exact absurd h4 (by simp)
    ·rw [k1] at h4;exact absurd h4.2.1 (by simp)
    ·exact ⟨h4.1,h1,by rw [h4.2.2];simp⟩
    ·rw [k1] at h4;exact absurd h4.2.1 (by simp)
    ·exact ⟨h4,h1,by rw [h5.2];simp⟩
    ·rw [k1] at h5;exact absurd h5.1 (by simp)
   obtain ⟨c1,c2,c3⟩:=hsh
   have a4:(4:Int)∉cab:=by rw [m34 4 cab (by omega)];exact c3
   have b3:(3:Int)∉cba:=by rw [m34 3 cba (by omega),c2];simp
   rw [e2,e3]
   unfold Zbm owns Zam stA
   simp only [k2,c1,hA,hK,Z6m,List.mem_append,b3,a4]
   simp only [Z5m,decide_false,Bool.or_false,List.mem_cons,List.not_mem_nil,Bool.false_eq_true,if_true,if_false,or_false,false_or]
   simp only [show ((3:Int)=4)=False from by simp,show ((1:Int)=4)=False from by simp,or_false]
   unfold Z9m
   cases Z8m tb nb<;>cases kept tb nb<;>cases (y.Fork||decide ((1:Int)∈cab))<;>simp
  ·have e2:Zde na ta x=x:=by
    unfold Zde
    rw [e1,if_neg hc]
   have e3:Zxl (Zee id na ta x)=[]:=by
    unfold Zxl Zee
    rw [if_neg hg,e1,if_neg hc]
    rfl
   rw [e2,e3,List.append_nil]
   exact Nat.le_refl _
theorem pot_drink {x y:Side} {pa pb ta tb:Int} {na nb:Bool} {cab cba:List Int} (ht:ta=1) (hn:na=true→x.Bottle=true):pot x y pa pb 2 tb na nb cab cba≤pot x y pa pb ta tb na nb cab cba:=by
 subst ht
 unfold pot
 suffices hB:Zbm x y 2 tb na nb cab cba≤Zbm x y 1 tb na nb cab cba by omega
 unfold Zbm Zam
 cases hna:na with
 | false=>
   have e1:Z8m 2 false=Z8m 1 false:=rfl
   have e2:kept 2 false=kept 1 false:=rfl
   rw [e1,e2]
   exact Nat.le_refl _
 | true=>
   have ho:owns x cba=true:=by unfold owns;rw [hn hna];rfl
   rw [ho]
   simp only [if_true]
   have e1:Z8m 2 true=false:=rfl
   have e2:kept 2 true=true:=rfl
   have e3:Z8m 1 true=true:=rfl
   have e4:kept 1 true=false:=rfl
   rw [e1,e2,e3,e4]
   have key:∀s:Nat,Z9m false (Z8m tb nb) true (kept tb nb) (x.Fork||decide ((1:Int)∈cba)) (if x.Ask=true then decide ((1:Int)∈cba) else Z5m cba) s≤Z9m true (Z8m tb nb) false (kept tb nb) (x.Fork||decide ((1:Int)∈cba)) (if x.Ask=true then decide ((1:Int)∈cba) else Z5m cba) s:=fun s=>by
    unfold Z9m
    cases Z8m tb nb<;>cases kept tb nb<;>cases (x.Fork||decide ((1:Int)∈cba))<;>cases (if x.Ask=true then decide ((1:Int)∈cba) else Z5m cba)<;>by_cases h2:s=2<;>by_cases h1:s=1<;>simp [h1,h2]
   have:=key (stA x cba)
   omega
theorem pot_get {x y:Side} {pa pb ta tb:Int} {na nb:Bool} {cab cba:List Int} {ra rb k:Int} (hd:x.Dirty=true→x.Fork=true) (h1:1≤k) (h4:k≤4) (he:Zrl x y pa pb (f12 cab) (f12 (k::cba)) ra rb) (hb:Z0m x y (f34 cab) (f34 (k::cba))):
  pot (if k≤2 then Z2h x k else NX.getT x k) y pa pb ta tb na nb cab cba+1≤pot x y pa pb ta tb na nb cab (k::cba):=by
 have hk:k=1∨k=2∨k=3∨k=4:=by omega
 have hpos:=Zdm he
 rcases hk with rfl | rfl | rfl | rfl
 ·
  have hg:=Zrl.getF (cba:=f12 cba) he hd
  have n1:(1:Int)∉cba:=by
   have h6:=Zdm (cba:=cba) hg.1
   rcases h6 with ⟨_,_,⟨_,h⟩ | ⟨h,_⟩⟩ | ⟨h,_⟩
   ·exact h
   ·exact absurd h (by simp)
   ·exact absurd h (by simp)
  have hF:Zcm {x with Fork:=true} y pa pb cab cba+1≤Zcm x y pa pb cab (1::cba):=by
   unfold Zcm
   have p1:pdx {x with Fork:=true} pa=0:=by unfold pdx;simp [hg.2.2]
   have p2:(f12 (1::cba)).length=(f12 cba).length+1:=rfl
   rw [p1,p2]
   omega
  have hB:Zbm {x with Fork:=true} y ta tb na nb cab cba≤Zbm x y ta tb na nb cab (1::cba):=by
   unfold Zbm owns Zam stA
   have e3:((3:Int)∈(1:Int)::cba)↔(3:Int)∈cba:=by simp
   have e4:((4:Int)∈(1:Int)::cba)↔(4:Int)∈cba:=by simp
   have e5:Z5m (1::cba)=Z5m cba:=rfl
   have e1:((1:Int)∈(1:Int)::cba)↔True:=by simp
   simp only [e3,e4,e5,e1,decide_true,decide_eq_false n1,late_no1 n1,Bool.or_true,Bool.true_or,ite_self]
   cases (x.Bottle||decide ((3:Int)∈cba)) with
   | false=>exact Nat.le_refl _
   | true=>
     simp only [if_true]
     have key:∀(lt:Bool) (s:Nat),Z9m (Z8m ta na) (Z8m tb nb) (kept ta na) (kept tb nb) true false s≤Z9m (Z8m ta na) (Z8m tb nb) (kept ta na) (kept tb nb) true lt s:=fun lt s=>by
      unfold Z9m
      cases Z8m ta na<;>cases Z8m tb nb<;>cases lt<;>by_cases h2:s=2<;>by_cases h1:s=1<;>simp [h1,h2]
     have:=key (if x.Ask=true then true else false) (if x.Ask=true then 2 else if (4:Int)∈cba then 1 else 0)
     omega
  have eg:(if (1:Int)≤2 then Z2h x 1 else NX.getT x 1)={x with Fork:=true}:=rfl
  rw [eg]
  unfold pot
  omega
 ·
  have hF:Zcm {x with Token:=true} y pa pb cab cba+1≤Zcm x y pa pb cab (2::cba):=by
   unfold Zcm
   have p1:pdx {x with Token:=true} pa=pdx x pa:=rfl
   have p2:(f12 (2::cba)).length=(f12 cba).length+1:=rfl
   rw [p1,p2]
   omega
  have hB:Zbm {x with Token:=true} y ta tb na nb cab cba=Zbm x y ta tb na nb cab (2::cba):=by
   unfold Zbm owns Zam stA
   have e3:((3:Int)∈(2:Int)::cba)↔(3:Int)∈cba:=by simp
   have e4:((4:Int)∈(2:Int)::cba)↔(4:Int)∈cba:=by simp
   have e5:Z5m (2::cba)=Z5m cba:=rfl
   have e1:((1:Int)∈(2:Int)::cba)↔(1:Int)∈cba:=by simp
   simp only [e3,e4,e5,e1]
  have eg:(if (2:Int)≤2 then Z2h x 2 else NX.getT x 2)={x with Token:=true}:=rfl
  rw [eg]
  unfold pot
  omega
 ·
  have hg:=Z0m.getB (cba:=f34 cba) hb
  have hsh:(3:Int)∉cba∧(3:Int)∉cab:=by
   rw [←Z7m (k:=3) (c:=cba) (by omega),←Z7m (k:=3) (c:=cab) (by omega)]
   rcases hg.1 with ⟨h1,h2,⟨_,h4 | h4 | h4⟩ | ⟨h3,_⟩⟩ | ⟨h1,h2,_⟩
   ·rw [h1,h4.2.2];simp
   ·rw [h1,h4.2.2];simp
   ·rw [h1,h4.2.2];simp
   ·exact absurd h3 (by simp)
   ·exact absurd h2 (by simp)
  have hF:Zcm {x with Bottle:=true} y pa pb cab cba=Zcm x y pa pb cab (3::cba):=rfl
  have hB:Zbm {x with Bottle:=true} y ta tb na nb cab cba+1=Zbm x y ta tb na nb cab (3::cba):=by
   unfold Zbm owns Zam stA
   have e3:((3:Int)∈(3:Int)::cba)↔True:=by simp
   have e4:((4:Int)∈(3:Int)::cba)↔(4:Int)∈cba:=by simp
   have e5:Z5m (3::cba)=Z5m cba:=rfl
   have e1:((1:Int)∈(3:Int)::cba)↔(1:Int)∈cba:=by simp
   simp only [e3,e4,e5,e1,decide_true,decide_eq_false hsh.1,decide_eq_false hsh.2,Bool.or_true,Bool.or_false,if_true,Bool.false_eq_true,if_false]
   omega
  have eg:(if (3:Int)≤2 then Z2h x 3 else NX.getT x 3)={x with Bottle:=true}:=rfl
  rw [eg]
  unfold pot
  omega
 ·
  obtain ⟨g1,g2,g3⟩:=Z0m.getA (cba:=f34 cba) hb
  have hF:Zcm {x with Ask:=true} y pa pb cab cba=Zcm x y pa pb cab (4::cba):=rfl
  have hB:Zbm {x with Ask:=true} y ta tb na nb cab cba+1=Zbm x y ta tb na nb cab (4::cba):=by
   unfold Zbm owns Zam stA
   have e3:((3:Int)∈(4:Int)::cba)↔(3:Int)∈cba:=by simp
   have e4:((4:Int)∈(4:Int)::cba)↔True:=by simp
   have e5:Z5m (4::cba)=decide ((1:Int)∈cba):=rfl
   have e1:((1:Int)∈(4:Int)::cba)↔(1:Int)∈cba:=by simp
   simp only [e3,e4,e5,e1,g2,g3,Bool.true_or,if_true,Bool.false_eq_true,if_false]
   have key:∀(F lt:Bool),Z9m (Z8m ta na) (Z8m tb nb) (kept ta na) (kept tb nb) F lt 2+1=Z9m (Z8m ta na) (Z8m tb nb) (kept ta na) (kept tb nb) F lt 1:=fun F lt=>by
    unfold Z9m
    cases Z8m ta na<;>cases Z8m tb nb<;>cases lt<;>cases F<;>simp<;>omega
   have:=key (x.Fork||decide ((1:Int)∈cba)) (decide ((1:Int)∈cba))
   omega
  have eg:(if (4:Int)≤2 then Z2h x 4 else NX.getT x 4)={x with Ask:=true}:=rfl
  rw [eg]
  unfold pot
  omega
set_option maxRecDepth 100000
set_option maxHeartbeats 4000000
set_option maxRecDepth 100000
set_option maxHeartbeats 4000000
@[go_sem] def e4:EC:=.seq (.reg [(Qx 2 53 2 0),(Qa 4 (.mv (.c .ff)))]) (.seq (.seq (.reg [(Qa 7 (.call 11 [])),(Qa 8 (.not (.t 7))),(Qm 9 8),(Qg 10 9 false (.loadA 2 (.t 2))),(Qg 11 9 false (.mv (.t 1))),(Qg 12 9 false (.call 28 [(.t 10),(.t 11)])),(Qg 13 9 false (.not (.t 12))),(Qq 14 9 13)]) (.ite (.t 14) (.seq (.reg [(Qa 15 (.call 11 [])),(Qm 4 15)]) (.ret)) (.skip))) (.seq (.reg [(Qe 17 2 2),(Qm 18 1),(Qa 19 (.mkf 30 [(.t 2)])),(Qa 20 (.call 29 [(.t 17),(.t 18),(.t 19)])),(Qm 16 20),(Qa 21 (.ext (.t 16) 0)),(Qa 22 (.ext (.t 16) 1)),(Qa 5 (.alloc 25 [.nl,.nl])),(Qs 2 5 21),(Qm 6 22)]) (.seq (.reg [(Qm 23 6),(Qm 4 23)]) (.ret))))
set_option maxRecDepth 100000
set_option maxHeartbeats 4000000
set_option maxRecDepth 100000
set_option maxHeartbeats 4000000
@[go_sem] def e5:EC:=.seq (.reg [(Qx 2 53 2 0),(Qa 4 (.mv (.c .ff)))]) (.seq (.seq (.reg [(Qa 7 (.call 11 [])),(Qa 8 (.not (.t 7))),(Qm 9 8),(Qg 10 9 false (.loadA 2 (.t 2))),(Qg 11 9 false (.mv (.t 1))),(Qg 12 9 false (.call 28 [(.t 10),(.t 11)])),(Qg 13 9 false (.not (.t 12))),(Qq 14 9 13)]) (.ite (.t 14) (.seq (.reg [(Qa 15 (.call 11 [])),(Qm 4 15)]) (.ret)) (.skip))) (.seq (.reg [(Qe 17 2 2),(Qm 18 1),(Qa 19 (.call 29 [(.t 17),(.t 18),(.c (.clo 31 []))])),(Qm 16 19),(Qa 20 (.ext (.t 16) 0)),(Qa 21 (.ext (.t 16) 1)),(Qa 5 (.alloc 25 [.nl,.nl])),(Qs 2 5 20),(Qm 6 21)]) (.seq (.reg [(Qm 22 6),(Qm 4 22)]) (.ret))))
theorem Zem {g:Graph} {e:Edge} (hlt:e.A<e.B) (k:Int):∀M:List Mail,(∀m∈M,mailR g m)→Zth M e k 1=cnt M k e.A e.B+cnt M k e.B e.A
 | [],_=>rfl
 | m::M,h=>by
   have ih:=Zem hlt k M fun x hx=>h x (by simp [hx])
   obtain ⟨h1,h2,h3,h4⟩:=h m (by simp)
   have hm:bn (mailB e k 1 m)=bn (decide (m=⟨e.A,e.B,⟨k,1,0⟩⟩))+bn (decide (m=⟨e.B,e.A,⟨k,1,0⟩⟩)):=by
    obtain ⟨f,t,⟨kk,ep,n⟩⟩:=m
    dsimp only at h2 h3
    subst h2;subst h3
    unfold mailB
    dsimp only
    simp only [Mail.mk.injEq,Msg.mk.injEq]
    by_cases hk:kk=k
    ·by_cases c1:f=e.A∧t=e.B
     ·have:¬(f=e.B∧t=e.A):=by omega
      have m1:min f t=min e.A e.B:=by omega
      have m2:max f t=max e.A e.B:=by omega
      obtain ⟨c1,c2⟩:=c1
      have d2:¬e.A=e.B:=by omega
      rw [m1,m2,hk]
      simp [c1,c2,bn,d2]
     ·by_cases c2:f=e.B∧t=e.A
      ·have m1:min f t=min e.A e.B:=by omega
       have m2:max f t=max e.A e.B:=by omega
       obtain ⟨c3,c4⟩:=c2
       have d2:¬e.B=e.A:=by omega
       rw [m1,m2,hk]
       simp [c3,c4,bn,d2]
      ·have:¬(min f t=min e.A e.B∧max f t=max e.A e.B):=by omega
       have e1:(decide (min f t=min e.A e.B)&&decide (max f t=max e.A e.B))=false:=by
        rw [←Bool.decide_and,decide_eq_false_iff_not];exact this
       rw [e1]
       simp [bn]
       rw [if_neg (by omega),if_neg (by omega)]
    ·simp [hk,bn]
   unfold Zth cnt at ih ⊢
   rw [List.countP_cons,List.count_cons,List.count_cons,ih]
   unfold bn at hm
   simp only [decide_eq_true_eq,beq_iff_eq] at hm ⊢
   omega
theorem InvB.get {g:Graph} {s:Bar} (h:InvB g s) {a:Int} (h0:0≤a) (h1:a<g.N):∃d,s.Drinkers[a.toNat]?=some d:=by
 have hl:=h.tab.len
 have e:(Zwk s).Diners.length=s.Drinkers.length:=by simp [Zwk]
 exact ⟨_,List.getElem?_eq_getElem (by omega)⟩
theorem cnt_k12 (M:List Mail) {k:Int} (hk:k≤2) (p q:Int):cnt (M.filter k12) k p q=cnt M k p q:=by
 unfold cnt
 exact List.count_filter (decide_eq_true hk)
theorem InvB.count {g:Graph} {s:Bar} (hg:okG g=true) (h:InvB g s) {e:Edge} (he:e∈g.Edges) {k:Int} (h1:1≤k) (h4:k≤4):Zpk s e k=1:=by
 obtain ⟨g1,g2,g3,g4,g5⟩:=Ze7 hg
 obtain ⟨e1,e2,e3⟩:=g4 e he
 have nB:e.B∈Zqc g e.A:=(Zvc hg).2 (.inl he)
 have nA:=Ztd hg nB
 obtain ⟨da,ha⟩:=h.get e1 (by omega)
 obtain ⟨db,hb⟩:=h.get (a:=e.B) (by omega) (by omega)
 have hat:=Zxk ha
 have hbt:=Zxk hb
 obtain ⟨x,hx,xm⟩:=h.tab.sided e1 hat nB
 obtain ⟨y,hy,ym⟩:=h.tab.sided (by omega) hbt nA
 have hxe:=((h.tab.loc _ (List.mem_iff_getElem?.2 ⟨_,hat⟩)).side x xm).1
 have hye:=((h.tab.loc _ (List.mem_iff_getElem?.2 ⟨_,hbt⟩)).side y ym).1
 have eA:=Int.toNat_of_nonneg e1
 have eB:=Int.toNat_of_nonneg (show 0≤e.B by omega)
 have la:=(List.getElem?_eq_some_iff.1 ha).1
 have lb:=(List.getElem?_eq_some_iff.1 hb).1
 have hcm:=Zem e2 k s.Mail h.mail
 unfold Zpk
 by_cases hk:k=3∨k=4
 ·have hone:=h.two e.A.toNat e.B.toNat da db ha hb (by rw [eA,eB];exact nB) k hk
  rw [eA,eB] at hone
  unfold hasT at hone
  rw [hx,hy] at hone
  dsimp only at hone
  rw [if_pos hk,show Z9k s e.A=true from Zbk.2 ⟨e1,by omega⟩,show Z9k s e.B=true from Zbk.2 ⟨by omega,by omega⟩,Bool.and_self,if_pos rfl,ha,hb]
  dsimp only
  rw [hx,hy]
  dsimp only
  rw [if_pos (hxe.trans hye.symm),hxe]
  omega
 ·have hk2:k=1∨k=2:=by omega
  rw [if_neg hk]
  have hone:=h.tab.one e.A.toNat e.B.toNat da.Diner db.Diner hat hbt (by rw [eA,eB];exact nB) k hk2
  rw [eA,eB] at hone
  unfold hasD at hone
  rw [hx,hy] at hone
  dsimp only at hone
  have c1:cnt (Zwk s).Mail k e.A e.B=cnt s.Mail k e.A e.B:=cnt_k12 s.Mail (by omega) _ _
  have c2:cnt (Zwk s).Mail k e.B e.A=cnt s.Mail k e.B e.A:=cnt_k12 s.Mail (by omega) _ _
  rw [c1,c2] at hone
  have hsl:(scB s).Diners.length=s.Drinkers.length:=by simp [scB]
  unfold countS
  rw [show Zkg (scB s) e.A=true from Zzg.2 ⟨e1,by omega⟩,show Zkg (scB s) e.B=true from Zzg.2 ⟨by omega,by omega⟩]
  have ga:(scB s).Diners[e.A.toNat]?=some da.Diner:=hat
  have gb:(scB s).Diners[e.B.toNat]?=some db.Diner:=hbt
  rw [ga,gb]
  dsimp only
  rw [hx,hy]
  dsimp only
  have hcond:(decide (x.Epoch=y.Epoch)&&(decide (k=1)||decide (k=2)))=true:=by
   rw [hxe,hye]
   rcases hk2 with rfl | rfl<;>rfl
  rw [hcond,if_pos rfl,if_pos (show (true&&true)=true from rfl),hxe]
  have hm:(scB s).Mail=s.Mail:=rfl
  rw [hm]
  omega
theorem mem_who {g:Graph} {s:Bar} (h:InvB g s) {t a:Int} (ha:a∈whoL s.Drinkers t):∃d,s.Drinkers[a.toNat]?=some d∧0≤a∧d.Diner.ID=a∧d.Thirst=t:=by
 unfold whoL at ha
 obtain ⟨d,hd,rfl⟩:=List.mem_map.1 ha
 rw [List.mem_filter,decide_eq_true_eq] at hd
 obtain ⟨k,hk⟩:=List.mem_iff_getElem?.1 hd.1
 have:=h.tab.ids k d.Diner (Zxk hk)
 refine ⟨d,?_,by omega,rfl,hd.2⟩
 rw [this,Int.toNat_natCast];exact hk
theorem actS_set {s:Scene} (hs:∀(k:Nat) x,s.Diners[k]?=some x→x.ID=k) {a:Int} (h0:0≤a) (d:Diner):actS s a d=⟨s.Diners.set a.toNat (Zf9 d),s.Mail++Zg9 d⟩:=by
 have:=Zxg hs a.toNat (Zf9 d)
 rw [Int.toNat_of_nonneg h0] at this
 unfold actS
 rw [this]
theorem turnS_ok {g:Graph} {s:Scene} (hg:okG g=true) (hN:g.N≤60) (h:Inv g s) {a p:Int} (q:Int) (h0:0≤a) {d:Diner} (hd:s.Diners[a.toNat]?=some d) (hp:d.Phase=p) (h1:0≤q) (h2:q<2):
  (turnS s a fun d=>turnD d p q)=(⟨s.Diners.set a.toNat (Zf9 ⟨d.ID,q,d.Sides⟩),s.Mail++Zg9 ⟨d.ID,q,d.Sides⟩⟩,0):=by
 have ht:Zkg s a=true:=Zzg.2 ⟨h0,by have:=(List.getElem?_eq_some_iff.1 hd).1;omega⟩
 obtain ⟨d',hd1,hd'⟩:=Zlg ht
 have e:d'=d:=by rw [hd] at hd';simpa using hd'.symm
 subst e
 have hok:=h.okd hg hN (List.mem_iff_getElem?.2 ⟨_,hd⟩)
 have h3:=h.phase hg hd (p:=q) h1 h2
 obtain ⟨k1,_⟩:=Inv.act (s:=s) hg hN h3 (Zyg hd) rfl rfl h.ids
 unfold turnS
 rw [h.ok hg hN,if_pos rfl,ht,if_pos rfl,hd1]
 dsimp only
 unfold turnD actP
 rw [hok,if_pos rfl,if_pos hp,if_pos rfl,if_pos k1,actS_set h.ids h0]
theorem turnS_eq {g:Graph} {s:Scene} (hg:okG g=true) (hN:g.N≤60) (h:Inv g s) {a p q:Int} (h1:0≤q) (h2:q<2) (he:(turnS s a fun d=>turnD d p q).2=0):
  ∃d,0≤a∧s.Diners[a.toNat]?=some d∧d.Phase=p∧(turnS s a fun d=>turnD d p q).1=⟨s.Diners.set a.toNat (Zf9 ⟨d.ID,q,d.Sides⟩),s.Mail++Zg9 ⟨d.ID,q,d.Sides⟩⟩:=by
 cases ht:Zkg s a with
 | false=>
   unfold turnS at he
   rw [h.ok hg hN,if_pos rfl,ht] at he
   exact absurd he (by show ¬(140:Int)=0;omega)
 | true=>
   obtain ⟨h0,_⟩:=Zzg.1 ht
   obtain ⟨d,hd1,hd⟩:=Zlg ht
   have hok:=h.okd hg hN (List.mem_iff_getElem?.2 ⟨_,hd⟩)
   by_cases hp:d.Phase=p
   ·exact ⟨d,h0,hd,hp,by rw [turnS_ok hg hN h q h0 hd hp h1 h2]⟩
   ·unfold turnS at he
    rw [h.ok hg hN,if_pos rfl,ht,if_pos rfl,hd1] at he
    dsimp only at he
    unfold turnD at he
    rw [hok,if_pos rfl,if_neg hp] at he
    exact absurd he (by show ¬(134:Int)=0;omega)
theorem sideO_none {d:Diner} {a:Int} (h:Zw7 d a=none) (p:Int):Zw7 ⟨d.ID,p,d.Sides⟩ a=none:=h
theorem Fair.turn {g:Graph} {s:Scene} (hg:okG g=true) (h:Fair g s) {a:Nat} {d:Diner} (hd:s.Diners[a]?=some d) (hp:d.Phase≠1) {q:Int} (h1:0≤q) (h2:q<2):Fair g ⟨s.Diners.set a (Zf9 ⟨d.ID,q,d.Sides⟩),s.Mail++Zg9 ⟨d.ID,q,d.Sides⟩⟩:=by
 obtain ⟨r,he⟩:=h.edge
 refine Fair.fire hg h.set (List.getElem?_eq_some_iff.1 hd).1 (h.inv.phase hg hd h1 h2) (r:=r) (he.set (sideO_none (h.inv.self hg hd) q) (fun _ _=>rfl) (fun _ _ _ _=>rfl) fun b db x y hb hdb hx hy=>?_)
 exact (he a b d db x y hd hdb hx hy).phase hp q
def pdD (d:Diner) (q:Int):Nat:=match Zw7 d q with | some x=>if x.Fork&&(x.Dirty&&!decide (d.Phase=2)) then 2 else 0 | none=>0
def pd (s:Scene) (p:Nat) (q:Int):Nat:=match s.Diners[p]? with | some d=>pdD d q | none=>0
def psi (s:Scene) (p q:Nat):Nat:=(ch s.Mail p q).length+(ch s.Mail q p).length+pd s p q+pd s q p
theorem Zfm (s:Scene) (p q:Nat):psi s p q=psi s q p:=by unfold psi;omega
theorem Zgm (d:Diner):(Zf9 d).Phase=d.Phase∧(∀y,Z3e d y=Zc9 d.Phase y)∨d.Phase=1∧(Zf9 d).Phase=2:=by
 unfold Zf9 Z3e
 cases hq:decide (d.Phase=1)&&(d.Sides.map (Zc9 d.Phase)).all (·.Fork) with
 | false=>exact .inl ⟨rfl,fun _=>rfl⟩
 | true=>
   rw [Bool.and_eq_true,decide_eq_true_eq] at hq
   exact .inr ⟨hq.1,rfl⟩
theorem deliv_pd {d d1:Diner} {a:Int} {x:Side} {k:Int} (hs:SetD d) (hpw:d1.Sides.Pairwise fun x y=>x.Peer<y.Peer) (hx:Zw7 d a=some x) (hd:x.Dirty=true→x.Fork=true) (hk:k=1∧x.Fork=false∨k=2∧x.Fork=true)
  (hph:d1.Phase=d.Phase) (h1:∀z:Int,Zw7 d1 z=if z=a then some (Z2h x k) else Zw7 d z):∀z:Int,pdD (Zf9 d1) z+(ch (Zg9 d1) d1.ID z).length≤pdD d z:=fun z=>by
 have hc:(ch (Zg9 d1) d1.ID z).length=match Zw7 d1 z with | some y=>(Zd9 d1.ID d1.Phase y).length | none=>0:=by
  unfold Zg9
  rw [ch_fires d1.ID d1.Phase z d1.Sides hpw]
  unfold Zw7
  cases d1.Sides.find? (fun x=>decide (x.Peer=z))<;>simp
 have hp:pdD (Zf9 d1) z=match Zw7 d1 z with | some y=>if (Z3e d1 y).Fork&&((Z3e d1 y).Dirty&&!decide ((Zf9 d1).Phase=2)) then 2 else 0 | none=>0:=by
  unfold pdD
  rw [Z8e]
  cases Zw7 d1 z<;>rfl
 rw [hc,hp,h1]
 by_cases hz:z=a
 ·subst hz
  rw [if_pos rfl]
  dsimp only
  unfold pdD
  rw [hx]
  dsimp only
  obtain ⟨p,e,st,f,dd,t,bo,ak⟩:=x
  dsimp only at hd hk ⊢
  rcases Zgm d1 with ⟨q1,q2⟩ | ⟨q1,q2⟩
  ·rw [q1,q2,hph]
   unfold Z2h Zd9 Zc9 Zb9
   rcases hk with ⟨rfl,hf⟩ | ⟨rfl,hf⟩
   ·subst hf
    cases dd<;>simp_all
   ·subst hf
    by_cases c2:d.Phase=2
    ·rw [c2];cases dd<;>cases t<;>simp
    ·by_cases c1:d.Phase=1
     ·rw [c1];cases dd<;>cases t<;>simp
     ·cases dd<;>cases t<;>simp [c1,c2]
  ·rw [q2,←hph,q1,show decide ((2:Int)=2)=true from rfl,Bool.not_true,Bool.and_false,Bool.and_false,if_neg (by simp),Nat.zero_add]
   unfold Z2h Zd9 Zb9
   rcases hk with ⟨rfl,hf⟩ | ⟨rfl,hf⟩
   ·subst hf
    cases dd<;>simp_all
   ·subst hf
    cases dd<;>cases t<;>simp
 ·rw [if_neg hz]
  cases hy:Zw7 d z with
  | none=>simp
  | some y=>
    dsimp only
    have hset:=(hs.side y (Z9e hy).1).fire d1.ID
    rw [←hph] at hset
    rw [hset.2]
    rcases Zgm d1 with ⟨q1,q2⟩ | ⟨q1,q2⟩
    ·unfold pdD
     rw [q1,q2,hset.1,hy,hph]
     simp
    ·rw [q2]
     simp
def tz (d:Diner):Bool:=decide (d.Phase=0)
theorem map_set_same {α β:Type} {f:α→β} {l:List α} {k:Nat} {x y:α} (hx:l[k]?=some x) (h:f y=f x):(l.set k y).map f=l.map f:=by
 refine List.ext_getElem? fun n=>?_
 rw [List.getElem?_map,List.getElem?_map,List.getElem?_set]
 split
 ·rename_i e
  subst e
  have:=(List.getElem?_eq_some_iff.1 hx).1
  rw [hx,if_pos this];simp [h]
 ·rfl
theorem fireD_tz (d:Diner):tz (Zf9 d)=tz d:=by
 unfold tz
 rcases Zgm d with ⟨h,_⟩ | ⟨h1,h2⟩
 ·rw [h]
 ·rw [h1,h2];rfl
theorem Fair.deliv {g:Graph} {s:Scene} (hg:okG g=true) (hN:g.N≤60) (h:Fair g s) {a b:Int} (ht:Zkg s a=true) (ht':Zkg s b=true) {i:Nat} (hf:Zmg s a b=some i):
  ∃t,Zng s a b=(t,0)∧Fair g t∧(∀p q:Nat,p≠q→psi t p q≤psi s p q)∧psi t a.toNat b.toNat+1≤psi s a.toNat b.toNat∧t.Diners.map tz=s.Diners.map tz:=by
 obtain ⟨a0,a1⟩:=Zzg.1 ht
 obtain ⟨b0,b1⟩:=Zzg.1 ht'
 obtain ⟨da,_,hda⟩:=Zlg ht
 obtain ⟨m,db,x,d1,hm,m1,m2,hdb,hx,hk,i1,i2,i3,hI,heq,_⟩:=delivS_eq hg hN h.inv ht ht' hf
 have hids:∀(k:Nat) x,s.Diners[k]?=some x→x.ID=k:=h.inv.ids
 rw [actS_set (s:=⟨s.Diners,s.Mail.take i++s.Mail.drop (i+1)⟩) hids b0] at heq
 dsimp only at heq
 obtain ⟨r,he⟩:=h.edge
 unfold Zmg at hf
 obtain ⟨c1,c2⟩:=ch_take hf hm
 have hmm:m∈s.Mail:=List.mem_iff_getElem?.2 ⟨_,hm⟩
 have hnear:=(h.inv.mail m hmm).2.2.2
 rw [m1,m2] at hnear
 have nab:=Ztd hg hnear
 have hne:a≠b:=fun e=>(Zwc hg hnear).2.2.1 e.symm
 obtain ⟨y,hy,_⟩:=h.inv.sided a0 hda hnear
 have ea:((a.toNat:Nat):Int)=a:=Int.toNat_of_nonneg a0
 have eb:((b.toNat:Nat):Int)=b:=Int.toNat_of_nonneg b0
 have hE:=he b.toNat a.toNat db da x y hdb hda (by rw [ea];exact hx) (by rw [eb];exact hy)
 rw [ea,eb,c1] at hE
 have hxd:=((h.inv.loc db (List.mem_iff_getElem?.2 ⟨_,hdb⟩)).side x (Z9e hx).1).2.2
 have hget:Zrl (Z2h x m.Msg.Kind) y db.Phase da.Phase (ch s.Mail b a) (ch (s.Mail.take i++s.Mail.drop (i+1)) a b) (r b.toNat) (r a.toNat)∧(m.Msg.Kind=1∧x.Fork=false∨m.Msg.Kind=2∧x.Fork=true):=by
  rcases hk with h1 | h1
  ·rw [h1] at hE ⊢
   obtain ⟨k1,k2,k3⟩:=hE.getF hxd
   exact ⟨k1,.inl ⟨rfl,k2⟩⟩
  ·rw [h1] at hE ⊢
   obtain ⟨k1,k2⟩:=hE.getT
   exact ⟨k1,.inr ⟨rfl,k2⟩⟩
 have hself:Zw7 d1 b.toNat=none:=by
  rw [i3,if_neg (by rw [eb];exact fun e=>hne e.symm)];exact h.inv.self hg hdb
 have hcm:∀p q:Int,¬(p=a∧q=b)→ch (s.Mail.take i++s.Mail.drop (i+1)) p q=ch s.Mail p q:=c2
 have he1:Zul r ⟨s.Diners.set b.toNat d1,s.Mail.take i++s.Mail.drop (i+1)⟩:=by
  refine he.set hself (fun _ _=>rfl) (fun p q hp hq=>hcm p q (by omega)) fun c dc x' y' hc hdc hx' hy'=>?_
  rw [i3] at hx'
  rw [eb,hcm b c (by omega)]
  by_cases hca:(c:Int)=a
  ·rw [if_pos hca] at hx'
   have hca':c=a.toNat:=by omega
   subst hca'
   have e1:dc=da:=by rw [hda] at hdc;simpa using hdc.symm
   subst e1
   rw [eb,hy] at hy'
   simp only [Option.some.injEq] at hx' hy'
   subst hx';subst hy'
   rw [ea,i2]
   exact hget.1
  ·rw [if_neg hca] at hx'
   rw [hcm c b (by omega),i2]
   have:=he b.toNat c db dc x' y' hdb hdc hx' hy'
   rwa [eb] at this
 have hlt:b.toNat<s.Diners.length:=by omega
 have hF:=Fair.fire hg h.set hlt hI he1
 have hd1:(s.Diners.set b.toNat d1)[b.toNat]?=some d1:=Zyg hdb
 have hpw:=hI.pw hg hd1
 have hid1:d1.ID=b:=by rw [i1,hids _ _ hdb,eb]
 have hpd:=deliv_pd (h.set db (List.mem_iff_getElem?.2 ⟨_,hdb⟩)) hpw hx hxd hget.2 i2 i3
 rw [hid1] at hpd
 refine ⟨_,heq,hF,?_,?_,?_⟩
 ·have hB:∀q:Nat,q≠b.toNat→psi ⟨s.Diners.set b.toNat (Zf9 d1),s.Mail.take i++s.Mail.drop (i+1)++Zg9 d1⟩ b.toNat q≤psi s b.toNat q:=fun q hq=>by
   have p1:=hpd q
   unfold psi pd
   dsimp only
   rw [Zyg hdb,List.getElem?_set,if_neg (fun e=>hq e.symm),hdb]
   dsimp only
   rw [eb,Zsl _ (Zg9 d1),Zsl _ (Zg9 d1),hcm b q (by omega),Ztl (p:=q) (by rw [hid1];omega),List.append_nil,List.length_append]
   by_cases hqa:(q:Int)=a
   ·rw [hqa] at p1 ⊢
    rw [c1,List.length_cons]
    omega
   ·rw [hcm q b (by omega)]
    omega
  intro p q hpq
  by_cases hp:p=b.toNat
  ·subst hp
   exact hB q fun e=>hpq e.symm
  ·by_cases hq:q=b.toNat
   ·subst hq
    rw [Zfm _ p,Zfm s p]
    exact hB p hp
   ·unfold psi pd
    dsimp only
    rw [List.getElem?_set,List.getElem?_set,if_neg (fun e=>hp e.symm),if_neg (fun e=>hq e.symm),Zsl _ (Zg9 d1),Zsl _ (Zg9 d1),hcm p q (by omega),hcm q p (by omega),Ztl (p:=p) (by rw [hid1];omega),Ztl (p:=q) (by rw [hid1];omega),List.append_nil,List.append_nil]
    exact Nat.le_refl _
 ·have p1:=hpd a
  rw [Zfm _ a.toNat,Zfm s a.toNat]
  unfold psi pd
  dsimp only
  rw [Zyg hdb,List.getElem?_set,if_neg (by omega),hdb]
  dsimp only
  rw [ea,eb,Zsl _ (Zg9 d1),Zsl _ (Zg9 d1),hcm b a (by omega),Ztl (p:=a) (by rw [hid1];exact hne),List.append_nil,List.length_append,c1,List.length_cons]
  omega
 ·dsimp only
  exact map_set_same hdb (by rw [fireD_tz];unfold tz;rw [i2])
theorem Fair.act {g:Graph} {s:Scene} (hg:okG g=true) (hN:g.N≤60) (h:Fair g s) (k a b:Int) (he:(actA s k a b).2=0):Fair g (actA s k a b).1:=by
 unfold actA at he ⊢
 split at he
 ·rename_i h1
  rw [if_pos h1]
  obtain ⟨d,d0,d1,d2,d3⟩:=turnS_eq hg hN h.inv (by omega) (by omega) he
  rw [d3]
  exact h.turn hg d1 (by omega) (by omega) (by omega)
 ·rename_i h1
  rw [if_neg h1]
  split at he
  ·rename_i h2
   rw [if_pos h2]
   obtain ⟨d,d0,d1,d2,d3⟩:=turnS_eq hg hN h.inv (by omega) (by omega) he
   rw [d3]
   exact h.turn hg d1 (by omega) (by omega) (by omega)
  ·rename_i h2
   rw [if_neg h2]
   cases ht:Zkg s a with
   | false=>
     unfold Zng at he
     rw [h.inv.ok hg hN,if_pos rfl,ht] at he
     exact absurd he (by show ¬(140:Int)=0;omega)
   | true=>
     cases ht':Zkg s b with
     | false=>
       unfold Zng at he
       rw [h.inv.ok hg hN,if_pos rfl,ht,ht'] at he
       exact absurd he (by show ¬(140:Int)=0;omega)
     | true=>
       cases hf:Zmg s a b with
       | none=>
         unfold Zng at he
         rw [h.inv.ok hg hN,if_pos rfl,ht,ht',Bool.true_and,if_pos rfl,hf] at he
         exact absurd he (by show ¬(141:Int)=0;omega)
       | some i=>
         obtain ⟨t,e,k,_⟩:=h.deliv hg hN ht ht' hf
         rw [e]
         exact k
theorem sum_le {α:Type} {f g:α→Nat}:∀ {l:List α},(∀x∈l,f x≤g x)→(l.map f).sum≤(l.map g).sum
 | [],_=>Nat.le_refl _
 | x::l,h=>by
   have h1:=h x (by simp)
   have h2:=sum_le (l:=l) fun y hy=>h y (by simp [hy])
   simp only [List.map_cons,List.sum_cons];omega
theorem sum_lt {α:Type} {f g:α→Nat}:∀ {l:List α},(∀x∈l,f x≤g x)→(∃x∈l,f x+1≤g x)→(l.map f).sum+1≤(l.map g).sum
 | [],_,h=>by obtain ⟨x,hx,_⟩:=h;simp at hx
 | x::l,h,h'=>by
   have h1:=h x (by simp)
   have h3:∀y∈l,f y≤g y:=fun y hy=>h y (by simp [hy])
   simp only [List.map_cons,List.sum_cons]
   obtain ⟨y,hy,hlt⟩:=h'
   rcases List.mem_cons.1 hy with rfl | hy
   ·have:=sum_le h3;omega
   ·have:=sum_lt h3 ⟨y,hy,hlt⟩;omega
theorem Zhm {α:Type} {f:α→Nat} {c:Nat}:∀ {l:List α},(∀x∈l,f x≤c)→(l.map f).sum≤c*l.length
 | [],_=>Nat.zero_le _
 | x::l,h=>by
   have h1:=h x (by simp)
   have h2:=Zhm (l:=l) fun y hy=>h y (by simp [hy])
   simp only [List.map_cons,List.sum_cons,List.length_cons,Nat.mul_add];omega
def phi (g:Graph) (s:Scene):Nat:=(g.Edges.map fun e=>psi s e.A.toNat e.B.toNat).sum
theorem Zim {g:Graph} (hg:okG g=true) {e:Edge} (he:e∈g.Edges):0≤e.A∧e.A<e.B∧e.B<g.N∧e.B∈Zqc g e.A:=by
 obtain ⟨g1,g2,g3,g4,g5⟩:=Ze7 hg
 obtain ⟨e1,e2,e3⟩:=g4 e he
 exact ⟨e1,e2,e3,(Zvc hg).2 (.inl he)⟩
theorem mail_phi {g:Graph} (hg:okG g=true):∀M:List Mail,(∀m∈M,mailG g m)→M.length≤(g.Edges.map fun e=>(ch M e.A e.B).length+(ch M e.B e.A).length).sum
 | [],_=>by simp
 | m::M,h=>by
   have ih:=mail_phi hg M fun x hx=>h x (by simp [hx])
   have hm:=(h m (by simp)).2.2.2
   have cons:∀p q:Int,(ch (m::M) p q).length=(if m.From=p∧m.To=q then 1 else 0)+(ch M p q).length:=fun p q=>by
    unfold ch
    rw [List.filter_cons]
    by_cases hh:m.From=p∧m.To=q
    ·simp [hh.1,hh.2];omega
    ·rw [if_neg hh,if_neg (by simpa using hh)];omega
   rw [List.length_cons]
   refine Nat.le_trans (Nat.succ_le_succ ih) (sum_lt (fun e _=>by rw [cons,cons];omega) ?_)
   rcases (Zvc hg).1 hm with h1 | h1
   ·exact ⟨_,h1,by rw [cons,cons,if_pos ⟨rfl,rfl⟩];dsimp only;omega⟩
   ·exact ⟨_,h1,by rw [cons m.To m.From,cons m.From m.To,if_pos (⟨rfl,rfl⟩:m.From=m.From∧m.To=m.To)];dsimp only;omega⟩
theorem Fair.mails {g:Graph} {s:Scene} (hg:okG g=true) (h:Fair g s):s.Mail.length≤phi g s:=by
 refine Nat.le_trans (mail_phi hg s.Mail h.inv.mail) (sum_le fun e he=>?_)
 obtain ⟨e1,e2,e3,_⟩:=Zim hg he
 unfold psi
 rw [Int.toNat_of_nonneg e1,Int.toNat_of_nonneg (show 0≤e.B by omega)]
 omega
theorem Fair.step {g:Graph} {s:Scene} (hg:okG g=true) (hN:g.N≤60) (h:Fair g s) {m:Mail} (hm:s.Mail[0]?=some m):
  ∃t,Zng s m.From m.To=(t,0)∧Fair g t∧phi g t+1≤phi g s∧t.Diners.map tz=s.Diners.map tz:=by
 have hmm:m∈s.Mail:=List.mem_iff_getElem?.2 ⟨_,hm⟩
 have hnear:=(h.inv.mail m hmm).2.2.2
 obtain ⟨n1,n2,n3,n4,n5⟩:=Zwc hg hnear
 have hl:=h.inv.len
 have ht:Zkg s m.From=true:=Zzg.2 ⟨n4,by omega⟩
 have ht':Zkg s m.To=true:=Zzg.2 ⟨n1,by omega⟩
 have hi:Zmg s m.From m.To=some 0:=by
  unfold Zmg
  obtain ⟨M,hM⟩:∃M,s.Mail=m::M:=by
   cases hs:s.Mail with
   | nil=>rw [hs] at hm;simp at hm
   | cons y M=>rw [hs] at hm;simp at hm;exact ⟨M,by rw [hm]⟩
  rw [hM,List.findIdx?_cons]
  simp
 obtain ⟨t,e1,e2,e3,e4,e5⟩:=h.deliv hg hN ht ht' hi
 refine ⟨t,e1,e2,sum_lt (fun e he=>?_) ?_,e5⟩
 ·obtain ⟨k1,k2,k3,_⟩:=Zim hg he
  exact e3 _ _ (by omega)
 ·rcases (Zvc hg).1 hnear with h1 | h1
  ·exact ⟨_,h1,e4⟩
  ·exact ⟨_,h1,by rw [Zfm t,Zfm s];exact e4⟩
def pe (s:Bar) (a b:Nat):Nat:=
 match s.Drinkers[a]?,s.Drinkers[b]? with
 | some da,some db=>match Zw7 da.Diner b,Zw7 db.Diner a with
   | some x,some y=>pot x y da.Diner.Phase db.Diner.Phase da.Thirst db.Thirst (Zae da x) (Zae db y) (ch s.Mail a b) (ch s.Mail b a)
   | _,_=>0
 | _,_=>0
theorem pe_eq {s:Bar} {a b:Nat} {da db:Drinker} {x y:Side} (ha:s.Drinkers[a]?=some da) (hb:s.Drinkers[b]?=some db) (hx:Zw7 da.Diner b=some x) (hy:Zw7 db.Diner a=some y):
  pe s a b=pot x y da.Diner.Phase db.Diner.Phase da.Thirst db.Thirst (Zae da x) (Zae db y) (ch s.Mail a b) (ch s.Mail b a):=by
 unfold pe
 rw [ha,hb]
 dsimp only
 rw [hx,hy]
theorem pe_none {s:Bar} {a b:Nat} (h:∀da db x y,s.Drinkers[a]?=some da→s.Drinkers[b]?=some db→Zw7 da.Diner b=some x→Zw7 db.Diner a=some y→False):pe s a b=0:=by
 unfold pe
 split
 ·rename_i da db ha hb
  split
  ·rename_i x y hx hy
   exact absurd (h da db x y ha hb hx hy) (by simp)
  ·rfl
 ·rfl
theorem Zjm {r:Nat→Int} {s:Bar} (he:Z1m r s) (a b:Nat):pe s a b=pe s b a:=by
 by_cases h:∃da db x y,s.Drinkers[a]?=some da∧s.Drinkers[b]?=some db∧Zw7 da.Diner b=some x∧Zw7 db.Diner a=some y
 ·obtain ⟨da,db,x,y,h1,h2,h3,h4⟩:=h
  rw [pe_eq h1 h2 h3 h4,pe_eq h2 h1 h4 h3]
  exact (pot_symm (he a b da db x y h1 h2 h3 h4).2 _ _ _ _ _ _).symm
 ·rw [pe_none fun da db x y h1 h2 h3 h4=>h ⟨da,db,x,y,h1,h2,h3,h4⟩,pe_none fun db da y x h2 h1 h4 h3=>h ⟨da,db,x,y,h1,h2,h3,h4⟩]
structure Goes (d:Drinker):Prop where
 th:d.Thirst=1→d.Diner.Phase≠0
 tok:d.Diner.Phase=1→∀x∈d.Diner.Sides,x.Token=true→x.Fork=true
theorem Zkm {d:Drinker} (h:Goes d):Zge d=d.Diner.Phase∨d.Diner.Phase=2∧Zge d=0∧d.Thirst≠1:=by
 unfold Zge
 by_cases h1:d.Thirst=1
 ·have:=h.th h1
  rw [decide_eq_true h1,decide_eq_false this,Bool.true_and,if_neg (by simp),Bool.not_true,Bool.false_and,Bool.and_false,if_neg (by simp)]
  exact .inl rfl
 ·rw [decide_eq_false h1,Bool.false_and,if_neg (by simp)]
  split
  ·rename_i hc
   rw [Bool.and_eq_true,decide_eq_true_eq] at hc
   exact .inr ⟨hc.1,rfl,h1⟩
  ·exact .inl rfl
theorem onceT_or (d:Drinker):Zje d=d.Thirst∨d.Thirst=1∧Zje d=2∧∀x∈Zie d,Zae d x=true→x.Bottle=true:=by
 unfold Zje
 cases hh:decide (d.Thirst=1)&&(Zie d).all (fun x=>!Zae d x||x.Bottle) with
 | false=>exact .inl rfl
 | true=>
   rw [Bool.and_eq_true,decide_eq_true_eq,List.all_eq_true] at hh
   exact .inr ⟨hh.1,rfl,fun x hx hn=>by have:=hh.2 x hx;rw [hn] at this;simpa using this⟩
theorem Zlm (d:Drinker):(Zke d).Diner.Phase=(Zf9 (Zhe d)).Phase:=rfl
theorem Goes.once {d:Drinker} (h:Goes d):Goes (Zke d):=by
 have hp:=Zkm h
 have hf:=Z4m (Zhe d)
 have hpp:(Zhe d).Phase=Zge d:=rfl
 rw [hpp] at hf
 refine ⟨fun e=>?_,fun e x hx=>?_⟩
 ·rw [Zlm]
  have e':Zje d=1:=e
  have ht:d.Thirst=1:=by
   rcases onceT_or d with q | ⟨q1,q2,_⟩
   ·rw [←q];exact e'
   ·omega
  have h0:=h.th ht
  have hpd:Zge d=d.Diner.Phase:=by
   rcases hp with q | ⟨_,_,q⟩
   ·exact q
   ·exact absurd ht q
  rcases hf with ⟨q,_⟩ | ⟨_,q,_⟩
  ·rw [q,hpd];exact h0
  ·rw [q];omega
 ·rw [Zlm] at e
  have hx':x∈Zie d:=hx
  unfold Zie at hx'
  obtain ⟨z,hz,rfl⟩:=List.mem_map.1 hx'
  rw [Z4e] at hz
  obtain ⟨w,hw,rfl⟩:=List.mem_map.1 hz
  obtain ⟨_,_,_,b4,b5,b6⟩:=Zfe (Zae d (Z3e (Zhe d) w)) d.Thirst (Z3e (Zhe d) w)
  rw [b6,b4]
  rcases hf with ⟨q,q'⟩ | ⟨_,q,_⟩
  ·rw [q] at e
   rw [q' w,e]
   have:=(fire2_set 1 w).2 rfl
   exact this
  ·rw [q] at e;omega
theorem pot_once {d:Drinker} (h:Goes d) {x y:Side} {pb tb:Int} {nb:Bool} {cab cba:List Int} {ra rb:Int} (hx:x∈d.Diner.Sides)
  (he:Zrl x y d.Diner.Phase pb (f12 cab) (f12 cba) ra rb) (hb:Z0m x y (f34 cab) (f34 cba)) (id:Int) {m:Int} (hm:m<rb):
  pot (Zde (Zae d x) d.Thirst (Z3e (Zhe d) x)) y (Zke d).Diner.Phase pb (Zje d) tb (Zae d x) nb (cab++(Zxl (Zd9 id (Zge d) x)++Zxl (Zee id (Zae d x) d.Thirst (Z3e (Zhe d) x)))) cba≤pot x y d.Diner.Phase pb d.Thirst tb (Zae d x) nb cab cba:=by
 have hp:=Zkm h
 have hf:=Z4m (Zhe d)
 have hpp:(Zhe d).Phase=Zge d:=rfl
 rw [hpp] at hf
 have q1:Zrl x y (Zge d) pb (f12 cab) (f12 cba) ra rb:=by
  rcases hp with q | ⟨q,_,_⟩
  ·rw [q];exact he
  ·exact he.phase (by omega) _
 have p1:pot x y (Zge d) pb d.Thirst tb (Zae d x) nb cab cba≤pot x y d.Diner.Phase pb d.Thirst tb (Zae d x) nb cab cba:=by
  rcases hp with q | ⟨q,q',_⟩
  ·rw [q];exact Nat.le_refl _
  ·rw [q'];exact pot_phase q
 have hs:Zge d=1→x.Token=true→x.Fork=true:=fun e ht=>by
  rcases hp with q | ⟨_,q,_⟩
  ·exact h.tok (q ▸ e) x hx ht
  ·omega
 have p2:=pot_fire (ta:=d.Thirst) (tb:=tb) (na:=Zae d x) (nb:=nb) id q1 hs
 have q2:=q1.fire id
 obtain ⟨k1,k2⟩:=Zyl id (Zge d) x
 have q2':Zrl (Zc9 (Zge d) x) y (Zge d) pb (f12 (cab++Zxl (Zd9 id (Zge d) x))) (f12 cba) ra rb:=by rw [Zvl,k1];exact q2
 have hsame:(Zc9 (Zge d) x).Bottle=x.Bottle∧(Zc9 (Zge d) x).Ask=x.Ask:=by
  unfold Zc9 Zb9
  split<;>split<;>exact ⟨rfl,rfl⟩
 have b2:Z0m (Zc9 (Zge d) x) y (f34 (cab++Zxl (Zd9 id (Zge d) x))) (f34 cba):=by
  rw [Zwl,k2,List.append_nil];exact hb.same hsame.1 hsame.2
 have p3:pot (Z3e (Zhe d) x) y (Zf9 (Zhe d)).Phase pb d.Thirst tb (Zae d x) nb (cab++Zxl (Zd9 id (Zge d) x)) cba≤pot (Zc9 (Zge d) x) y (Zge d) pb d.Thirst tb (Zae d x) nb (cab++Zxl (Zd9 id (Zge d) x)) cba:=by
  rcases hf with ⟨f1,f2⟩ | ⟨f1,f2,f3,_⟩
  ·rw [f1,f2 x];exact Nat.le_refl _
  ·rw [f2,f3 x,f1];exact pot_eat
 have q3:∃r3,Zrl (Z3e (Zhe d) x) y (Zf9 (Zhe d)).Phase pb (f12 (cab++Zxl (Zd9 id (Zge d) x))) (f12 cba) r3 rb:=by
  rcases hf with ⟨f1,f2⟩ | ⟨f1,f2,f3,f4⟩
  ·rw [f1,f2 x];exact ⟨_,q2'⟩
  ·rw [f2,f3 x]
   have hk:=f4 x hx
   rw [f1] at q2' hk ⊢
   exact ⟨m,q2'.eat hk hm⟩
 have b3:Z0m (Z3e (Zhe d) x) y (f34 (cab++Zxl (Zd9 id (Zge d) x))) (f34 cba):=by
  rcases hf with ⟨_,f2⟩ | ⟨_,_,f3,_⟩
  ·rw [f2 x];exact b2
  ·rw [f3 x];exact b2.same rfl rfl
 obtain ⟨r3,q3⟩:=q3
 have p4:=pot_bot (pa:=(Zf9 (Zhe d)).Phase) (pb:=pb) (ta:=d.Thirst) (tb:=tb) (na:=Zae d x) (nb:=nb) id b3 (Zdm q3)
 rw [List.append_assoc] at p4
 rw [Zlm]
 refine Nat.le_trans ?_ (Nat.le_trans p4 (Nat.le_trans p3 (Nat.le_trans p2 p1)))
 rcases onceT_or d with q | ⟨t1,t2,t3⟩
 ·rw [q];exact Nat.le_refl _
 ·rw [t2]
  refine pot_drink t1 fun hn=>?_
  refine t3 (Zde (Zae d x) d.Thirst (Z3e (Zhe d) x)) ?_ ?_
  ·unfold Zie
   refine List.mem_map.2 ⟨Z3e (Zhe d) x,?_,?_⟩
   ·rw [Z4e];exact List.mem_map_of_mem hx
   ·have:Zae d (Z3e (Zhe d) x)=Zae d x:=by unfold Zae;rw [(Z6e (Zhe d) x).1]
    rw [this]
  ·unfold Zae
   rw [(Zfe _ _ _).1,(Z6e (Zhe d) x).1]
   exact hn
theorem pe_once {g:Graph} {s:Bar} (hg:okG g=true) (h:Fork g s) {a:Nat} {d:Drinker} (hd:s.Drinkers[a]?=some d) (hG:Goes d) (p q:Nat) (hpq:p≠q):pe ⟨s.Drinkers.set a (Zke d),s.Mail++Zle d⟩ p q≤pe s p q:=by
 have h1:=h.once hg hd
 obtain ⟨r1,he1⟩:=h1.edge
 obtain ⟨r,he⟩:=h.edge
 have hdt:=Zxk hd
 obtain ⟨hid,_⟩:=h.inv.tab.shp a _ hdt
 have hpw:=h.inv.tab.pw hg hdt
 have hlt:=(List.getElem?_eq_some_iff.1 hd).1
 have key:∀b:Nat,b≠a→pe ⟨s.Drinkers.set a (Zke d),s.Mail++Zle d⟩ a b≤pe s a b:=fun b hb=>by
  by_cases hh:∃db x y,s.Drinkers[b]?=some db∧Zw7 d.Diner b=some x∧Zw7 db.Diner a=some y
  ·obtain ⟨db,x,y,hdb,hx,hy⟩:=hh
   have hb':(s.Drinkers.set a (Zke d))[b]?=some db:=by rw [List.getElem?_set,if_neg (fun e=>hb e.symm)];exact hdb
   have hx':Zw7 (Zke d).Diner b=some (Zde (Zae d x) d.Thirst (Z3e (Zhe d) x)):=by rw [Z2m,hx];rfl
   have hn:Zae (Zke d) (Zde (Zae d x) d.Thirst (Z3e (Zhe d) x))=Zae d x:=by
    unfold Zae
    rw [(Zfe _ _ _).1,(Z6e (Zhe d) x).1];rfl
   rw [pe_eq (s:=⟨s.Drinkers.set a (Zke d),s.Mail++Zle d⟩) (Zil hd) hb' hx' hy,pe_eq hd hdb hx hy,hn]
   dsimp only
   have e2:=once_ch hpw hx
   rw [hid] at e2
   have e3:ch (Zle d) b a=[]:=Z3m (by rw [hid];omega)
   rw [Zsl,Zsl,e2,e3,List.append_nil]
   obtain ⟨m,hm⟩:=low r s.Drinkers.length
   have hE:=he a b d db x y hd hdb hx hy
   exact pot_once hG (Z9e hx).1 hE.1 hE.2 a (hm b (List.getElem?_eq_some_iff.1 hdb).1)
  ·rw [pe_none (s:=⟨s.Drinkers.set a (Zke d),s.Mail++Zle d⟩) fun da db x y k1 k2 k3 k4=>?_]
   ·exact Nat.zero_le _
   ·dsimp only at k1 k2
    rw [Zil hd] at k1
    have:da=Zke d:=by simpa using k1.symm
    subst this
    rw [List.getElem?_set,if_neg (fun e=>hb e.symm)] at k2
    rw [Z2m,Option.map_eq_some_iff] at k3
    obtain ⟨x0,hx0,_⟩:=k3
    exact hh ⟨db,x0,y,k2,hx0,k4⟩
 by_cases hp:p=a
 ·subst hp
  exact key q fun e=>hpq e.symm
 ·by_cases hq:q=a
  ·subst hq
   rw [Zjm he1 p,Zjm he p]
   exact key p hp
  ·unfold pe
   dsimp only
   rw [List.getElem?_set,List.getElem?_set,if_neg (fun e=>hp e.symm),if_neg (fun e=>hq e.symm),Zsl,Zsl,Z3m (d:=d) (p:=(p:Int)) (by rw [hid];omega),Z3m (d:=d) (p:=(q:Int)) (by rw [hid];omega),List.append_nil,List.append_nil]
   exact Nat.le_refl _
def tq (d:Drinker):Bool:=decide (d.Thirst=0)
theorem once_tq (d:Drinker):tq (Zke d)=tq d:=by
 unfold tq
 have e:(Zke d).Thirst=Zje d:=rfl
 rw [e]
 rcases onceT_or d with q | ⟨q1,q2,_⟩
 ·rw [q]
 ·rw [q1,q2];rfl
theorem pe_fireN {g:Graph} (hg:okG g=true) (L:List Drinker) (M:List Mail) {a:Nat} (ha:a<L.length):∀(n:Nat) (d:Drinker) (out:List Mail),Fork g ⟨L.set a d,M++out⟩→Goes d→
  (∀p q:Nat,p≠q→pe ⟨L.set a (NX.fireN n d out).1,M++(NX.fireN n d out).2⟩ p q≤pe ⟨L.set a d,M++out⟩ p q)∧tq (NX.fireN n d out).1=tq d
 | 0,_,_,_,_=>⟨fun _ _ _=>Nat.le_refl _,rfl⟩
 | n+1,d,out,h,hG=>by
   unfold NX.fireN
   split
   ·exact ⟨fun _ _ _=>Nat.le_refl _,rfl⟩
   ·have hd:(L.set a d)[a]?=some d:=by rw [List.getElem?_set];simp [ha]
    have h1:=h.once hg hd
    have h2:=pe_once hg h hd hG
    dsimp only at h1 h2
    rw [List.set_set,List.append_assoc] at h1 h2
    obtain ⟨k1,k2⟩:=pe_fireN hg L M ha n _ _ h1 hG.once
    exact ⟨fun p q hpq=>Nat.le_trans (k1 p q hpq) (h2 p q hpq),k2.trans (once_tq d)⟩
theorem fireN_fix:∀(n:Nat) (d:Drinker) (out:List Mail),okD d.Diner=true→mu d<n→Zke (fireN n d out).1=(fireN n d out).1∧okD (fireN n d out).1.Diner=true
 | 0,_,_,_,h=>by omega
 | n+1,d,out,hk,h=>by
   have hp:=Z8f hk
   unfold fireN
   by_cases hq:Zke d=d
   ·rw [if_pos hq];exact ⟨hq,hk⟩
   ·rw [if_neg hq]
    rcases Zre hp.1 hp.2 with h1 | h1
    ·exact absurd h1.1 hq
    ·exact fireN_fix n (Zke d) _ (once_ok hk) (by omega)
def Calm (d:Drinker):Prop:=Zke d=d∧Zle d=[]
theorem fireDr_calm {d:Drinker} (h:okDr d=true):Calm (fireDr d).1:=by
 have hk:=Zff h
 have hm:=mu_le hk
 obtain ⟨h1,h2⟩:=fireN_fix 300 d [] hk (by omega)
 have h3:Zke (fireDr d).1=(fireDr d).1:=h1
 refine ⟨h3,?_⟩
 have hp:=Z8f h2
 rcases Zre (d:=(fireDr d).1) hp.1 hp.2 with k | k
 ·exact k.2
 ·rw [h3] at k;omega
structure CalmD (d:Drinker):Prop where
 goes:Goes d
 eat:d.Diner.Phase=2→d.Thirst=1
 set:SetD d.Diner
 give:∀x∈d.Diner.Sides,x.Bottle=true→x.Ask=true→Zbe (Zae d x) d.Thirst x=true
 ask:∀x∈d.Diner.Sides,d.Thirst=1→Zae d x=true→x.Ask=true→x.Bottle=true
 lack:d.Thirst=1→∃x∈d.Diner.Sides,Zae d x=true∧x.Bottle=false
theorem Calm.parts {d:Drinker} (h:Calm d) (hs:∀x∈d.Diner.Sides,x.State=0):CalmD d:=by
 obtain ⟨h1,h2⟩:=h
 have hp:(Zf9 (Zhe d)).Phase=d.Diner.Phase:=by rw [←Zlm,h1]
 have hS:Zie d=d.Diner.Sides:=congrArg (fun z:Drinker=>z.Diner.Sides) h1
 have hT:Zje d=d.Thirst:=congrArg (fun z:Drinker=>z.Thirst) h1
 unfold Zle at h2
 rw [List.append_eq_nil_iff] at h2
 obtain ⟨m1,m2⟩:=h2
 have hop:d.Diner.Sides.any (fun x=>decide (x.State=1))=false:=by
  rw [List.any_eq_false];intro x hx;rw [hs x hx];simp
 have hph:Zge d=d.Diner.Phase∧(d.Thirst=1→d.Diner.Phase≠0)∧(d.Diner.Phase=2→d.Thirst=1):=by
  have hf:=Z4m (Zhe d)
  have hpp:(Zhe d).Phase=Zge d:=rfl
  rw [hpp] at hf
  unfold Zge at hf ⊢
  rw [hop] at hf ⊢
  by_cases t1:d.Thirst=1
  ·by_cases p0:d.Diner.Phase=0
   ·simp only [t1,p0,decide_true,Bool.and_self,if_true] at hf
    rcases hf with ⟨q,_⟩ | ⟨_,q,_⟩<;>rw [hp,p0] at q<;>omega
   ·simp only [t1,p0,decide_true,decide_false,Bool.and_false,Bool.not_true,Bool.false_and,Bool.false_eq_true,if_false]
    exact ⟨trivial,fun _=>by first | exact p0 | simp,fun _=>trivial⟩
  ·by_cases p2:d.Diner.Phase=2
   ·simp only [t1,p2,decide_true,decide_false,Bool.false_and,Bool.false_eq_true,if_false,Bool.not_false,Bool.and_self,if_true] at hf
    rcases hf with ⟨q,_⟩ | ⟨q,_⟩
    ·rw [hp,p2] at q;omega
    ·omega
   ·simp only [t1,p2,decide_false,Bool.false_and,Bool.false_eq_true,if_false]
    exact ⟨trivial,fun e=>absurd e (by first | exact t1 | simp),fun e=>absurd e (by first | exact p2 | simp)⟩
 obtain ⟨e0,e1,e2⟩:=hph
 have hpre:Zhe d=d.Diner:=by unfold Zhe;rw [e0]
 rw [hpre] at m1 m2 hp
 have hnil:∀x∈d.Diner.Sides,Zd9 d.Diner.ID d.Diner.Phase x=[]:=fun x hx=>by
  have:∀y∈Zd9 d.Diner.ID d.Diner.Phase x,y∈Zg9 d.Diner:=fun y hy=>List.mem_flatMap.2 ⟨x,hx,hy⟩
  rw [m1] at this
  cases hc:Zd9 d.Diner.ID d.Diner.Phase x with
  | nil=>rfl
  | cons y l=>exact absurd (this y (by rw [hc];simp)) (by simp)
 have hsame:∀x∈d.Diner.Sides,Z3e d.Diner x=x:=fun x hx=>by
  rcases Z4m d.Diner with ⟨_,q⟩ | ⟨q1,q2,_⟩
  ·rw [q x];exact fireM_nil (hnil x hx)
  ·rw [hp] at q2;omega
 have hfS:(Zf9 d.Diner).Sides=d.Diner.Sides:=by rw [Z4e];exact Zqe hsame
 have hfD:Zf9 d.Diner=d.Diner:=by
  have i:=Z5e d.Diner
  generalize Zf9 d.Diner=z at hfS hp i
  obtain ⟨zi,zp,zs⟩:=z
  dsimp only at hfS hp i
  rw [hfS,hp,i]
 have hset:SetD d.Diner:=by have:=fireD_set d.Diner;rw [hfD] at this;exact this
 have hbn:∀x∈d.Diner.Sides,Zee d.Diner.ID (Zae d x) d.Thirst x=[]:=fun x hx=>by
  rw [hfS] at m2
  have:∀y∈Zee d.Diner.ID (Zae d x) d.Thirst x,y∈d.Diner.Sides.flatMap fun x=>Zee d.Diner.ID (Zae d x) d.Thirst x:=fun y hy=>List.mem_flatMap.2 ⟨x,hx,hy⟩
  rw [m2] at this
  cases hc:Zee d.Diner.ID (Zae d x) d.Thirst x with
  | nil=>rfl
  | cons y l=>exact absurd (this y (by rw [hc];simp)) (by simp)
 have hgive:∀x∈d.Diner.Sides,¬(x.Bottle&&(x.Ask&&!Zbe (Zae d x) d.Thirst x))=true:=fun x hx hc=>by
  have:=hbn x hx
  unfold Zee at this
  rw [if_pos hc] at this
  simp at this
 refine ⟨⟨e1,fun e x hx ht=>(hset.side x hx).2 e ht⟩,e2,hset,fun x hx b a=>?_,fun x hx t n a=>?_,fun t=>?_⟩
 ·have:=hgive x hx
  rw [b,a] at this
  simpa using this
 ·have:=hbn x hx
  have hb1:Zce (Zae d x) d.Thirst x=x:=by unfold Zce;rw [if_neg (hgive x hx)]
  unfold Zee at this
  rw [if_neg (hgive x hx),List.nil_append,hb1,t,n,a] at this
  cases hb:x.Bottle with
  | true=>rfl
  | false=>rw [hb] at this;simp at this
 ·unfold Zje at hT
  rw [t,decide_eq_true rfl,Bool.true_and,hS] at hT
  split at hT
  ·omega
  ·rename_i hc
   rw [Bool.not_eq_true,List.all_eq_false] at hc
   obtain ⟨x,hx,hc⟩:=hc
   refine ⟨x,hx,?_⟩
   cases hn:Zae d x<;>cases hb:x.Bottle<;>rw [hn,hb] at hc<;>simp at hc
   exact ⟨rfl,rfl⟩
structure Rest (g:Graph) (s:Bar):Prop where
 fork:Fork g s
 calm:∀d∈s.Drinkers,CalmD d
theorem Rest.inv {g:Graph} {s:Bar} (h:Rest g s):InvB g s:=h.fork.inv
theorem Rest.act {g:Graph} {s:Bar} (hg:okG g=true) (hN:g.N≤60) (hc:∀d∈s.Drinkers,CalmD d) {a:Nat} (ha:a<s.Drinkers.length) {d':Drinker} {M:List Mail} (h:Fork g ⟨s.Drinkers.set a d',M⟩):Rest g ⟨s.Drinkers.set a (NX.fireDr d').1,M++(NX.fireDr d').2⟩:=by
 have hd:(s.Drinkers.set a d')[a]?=some d':=by rw [List.getElem?_set];simp [ha]
 have h1:=Fork.fireDr hg h hd
 have hk:=h.inv.okDr hg hN (List.mem_iff_getElem?.2 ⟨_,hd⟩)
 dsimp only at h1
 rw [List.set_set] at h1
 refine ⟨h1,fun e he=>?_⟩
 dsimp only at he
 rcases List.mem_or_eq_of_mem_set he with he | rfl
 ·exact hc e he
 ·refine (fireDr_calm hk).parts fun x hx=>?_
  have hm:(NX.fireDr d').1∈(⟨s.Drinkers.set a (NX.fireDr d').1,M++(NX.fireDr d').2⟩:Bar).Drinkers:=List.mem_iff_getElem?.2 ⟨a,by dsimp only;rw [List.getElem?_set];simp [ha]⟩
  have hm2:(NX.fireDr d').1.Diner∈(Zwk ⟨s.Drinkers.set a (NX.fireDr d').1,M++(NX.fireDr d').2⟩).Diners:=List.mem_map_of_mem hm
  exact ((h1.inv.tab.loc _ hm2).side x hx).2.1
theorem Rest.first {g:Graph} (hg:okG g=true):Rest g (barT g):=by
 refine ⟨Fork.first hg,fun d hd=>?_⟩
 have hF:=(Fair.first hg).set
 have h1:d∈(Zvg g).Diners.map fun d=>(⟨d,0,[]⟩:Drinker):=hd
 obtain ⟨d0,hd0,rfl⟩:=List.mem_map.1 h1
 have hset:=hF d0 hd0
 obtain ⟨k,hk⟩:=List.mem_iff_getElem?.1 hd0
 have hkl:=(List.getElem?_eq_some_iff.1 hk).1
 have hl:=Zrd hg (Ztg g)
 have hk':k<(Zzc g (Ztg g)).length:=hkl
 have e:=Zqd (g:=g) (c:=Ztg g) (a:=(k:Int)) (by omega) (by omega)
 have h2':(Zzc g (Ztg g))[k]?=some d0:=hk
 rw [Int.toNat_natCast,h2'] at e
 have e':d0=Zyc g (Ztg g) k:=by simpa using e
 subst e'
 refine ⟨⟨fun e=>absurd e (by show ¬(0:Int)=1;omega),fun e=>absurd e (by show ¬(0:Int)=1;omega)⟩,fun e=>absurd e (by show ¬(0:Int)=2;omega),hset,fun x hx b a=>?_,fun x hx e=>absurd e (by show ¬(0:Int)=1;omega),fun e=>absurd e (by show ¬(0:Int)=1;omega)⟩
 obtain ⟨z,_,rfl⟩:=List.mem_map.1 hx
 simp only [Zxc] at b a
 have hlt:∀u v:Int,decide (u<v)=true→decide (v<u)=true→False:=fun u v h1 h2=>by simp at h1 h2;omega
 first | exact absurd (hlt _ _ b a) (by simp) | (rw [b] at a;exact absurd a (by simp)) | simp_all
theorem Rest.actR {g:Graph} {s:Bar} (hg:okG g=true) (hN:g.N≤60) (h:Rest g s) (k a b:Int) (need:List Int) (he:(NX.actR s k a b need).2=0):Rest g (NX.actR s k a b need).1:=by
 obtain ⟨r,hr⟩:=h.fork.edge
 unfold NX.actR at he ⊢
 split at he
 ·rename_i h1
  rw [if_pos h1]
  obtain ⟨d,a0,hd,_,_,hI,e⟩:=open_eq hg hN h.inv he
  rw [e]
  exact Rest.act hg hN h.calm (List.getElem?_eq_some_iff.1 hd).1 ⟨hI,r,hr.drk hg h.inv hd _ _⟩
 ·rename_i h1
  rw [if_neg h1]
  split at he
  ·rename_i h2
   rw [if_pos h2]
   obtain ⟨d,a0,hd,h0⟩:=close_eq hg hN h.inv he
   obtain ⟨hI,e⟩:=close_ok hg hN h.inv a0 hd h0
   rw [e]
   exact Rest.act hg hN h.calm (List.getElem?_eq_some_iff.1 hd).1 ⟨hI,r,hr.drk hg h.inv hd _ _⟩
  ·rename_i h2
   rw [if_neg h2]
   cases ht:Z9k s a with
   | false=>
     unfold Zmk at he
     rw [h.inv.ok hg hN,if_pos rfl,ht] at he
     exact absurd he (by show ¬(161:Int)=0;omega)
   | true=>
     cases ht':Z9k s b with
     | false=>
       unfold Zmk at he
       rw [h.inv.ok hg hN,if_pos rfl,ht,ht'] at he
       exact absurd he (by show ¬(161:Int)=0;omega)
     | true=>
       cases hf:Zlk s a b with
       | none=>
         unfold Zmk at he
         rw [h.inv.ok hg hN,if_pos rfl,ht,ht',Bool.and_self,if_pos rfl,hf] at he
         exact absurd he (by show ¬(162:Int)=0;omega)
       | some i=>
         obtain ⟨m,db,x,j,d1,hm,m1,m2,hdb,hxj,hp,hd1,hI,e,_⟩:=Znl hg hN h.inv ht ht' hf
         obtain ⟨da,_,hda⟩:=Zck ht
         rw [e]
         exact Rest.act hg hN h.calm (List.getElem?_eq_some_iff.1 hdb).1 ⟨hI,r,(hr.get hg h.inv (Zbk.1 ht).1 (Zbk.1 ht').1 hda hdb hf hm m1 m2 hxj hp hd1).1⟩
theorem Rest.deliv {g:Graph} {s:Bar} (hg:okG g=true) (hN:g.N≤60) (h:Rest g s) {a b:Int} (ht:Z9k s a=true) (ht':Z9k s b=true) {i:Nat} (hf:Zlk s a b=some i):
  ∃t,Zmk s a b=(t,0)∧Rest g t∧(∀p q:Nat,p≠q→pe t p q≤pe s p q)∧pe t a.toNat b.toNat+1≤pe s a.toNat b.toNat∧t.Drinkers.map tq=s.Drinkers.map tq∧t.Drinkers.map (·.Need)=s.Drinkers.map (·.Need):=by
 obtain ⟨r,hr⟩:=h.fork.edge
 have a0:=(Zbk.1 ht).1
 have b0:=(Zbk.1 ht').1
 obtain ⟨m,db,x,j,d1,hm,m1,m2,hdb,hxj,hp,hd1,hI,e,_⟩:=Znl hg hN h.inv ht ht' hf
 obtain ⟨da,_,hda⟩:=Zck ht
 obtain ⟨hE1,htok⟩:=hr.get hg h.inv a0 b0 hda hdb hf hm m1 m2 hxj hp hd1
 have hlt:=(List.getElem?_eq_some_iff.1 hdb).1
 have hF1:Fork g ⟨s.Drinkers.set b.toNat d1,s.Mail.take i++s.Mail.drop (i+1)⟩:=⟨hI,r,hE1⟩
 have hdbm:db∈s.Drinkers:=List.mem_iff_getElem?.2 ⟨_,hdb⟩
 have hC:=h.calm db hdbm
 have hxm:x∈db.Diner.Sides:=List.mem_iff_getElem?.2 ⟨_,hxj⟩
 have hmm:m∈s.Mail:=List.mem_iff_getElem?.2 ⟨_,hm⟩
 obtain ⟨k1,_,_,hnear⟩:=h.inv.mail m hmm
 rw [m1,m2] at hnear
 have hne:a≠b:=fun e=>(Zwc hg hnear).2.2.1 e.symm
 have hG1:Goes d1:=by
  rw [hd1]
  refine ⟨hC.goes.th,fun e z hz=>?_⟩
  dsimp only at e hz
  rcases List.mem_or_eq_of_mem_set hz with hz | rfl
  ·exact hC.goes.tok e z hz
  ·have h0:=hC.goes.tok e x hxm
   by_cases hk2:m.Msg.Kind≤2
   ·rw [if_pos hk2]
    unfold Z2h
    by_cases hk1:m.Msg.Kind=1
    ·rw [if_pos hk1];exact fun _=>rfl
    ·rw [if_neg hk1];exact fun _=>htok (by omega)
   ·rw [if_neg hk2]
    unfold NX.getT
    split
    ·exact h0
    ·exact h0
 have hRest:=Rest.act hg hN h.calm hlt hF1
 obtain ⟨p1,p2⟩:=pe_fireN hg s.Drinkers (s.Mail.take i++s.Mail.drop (i+1)) hlt 300 d1 [] (by rw [List.append_nil];exact hF1) hG1
 rw [List.append_nil] at p1
 have ea:((a.toNat:Nat):Int)=a:=Int.toNat_of_nonneg a0
 have eb:((b.toNat:Nat):Int)=b:=Int.toNat_of_nonneg b0
 have hf':=hf
 unfold Zlk at hf'
 obtain ⟨c1,c2⟩:=ch_take hf' hm
 have hdbt:=Zxk hdb
 have hpw:=h.inv.tab.pw hg hdbt
 have hloc:=h.inv.tab.loc _ (List.mem_iff_getElem?.2 ⟨_,hdbt⟩)
 have hxo:Zw7 db.Diner a=some x:=by rw [←hp];exact Zll hpw hxm
 obtain ⟨y,hy,_⟩:=h.inv.tab.sided a0 (Zxk hda) hnear
 have hgp:(if m.Msg.Kind≤2 then Z2h x m.Msg.Kind else NX.getT x m.Msg.Kind).Peer=x.Peer:=by
  split
  ·unfold Z2h;split<;>rfl
  ·unfold NX.getT;split<;>rfl
 have i3:∀z:Int,Zw7 d1.Diner z=if z=a then some (if m.Msg.Kind≤2 then Z2h x m.Msg.Kind else NX.getT x m.Msg.Kind) else Zw7 db.Diner z:=fun z=>by
  rw [hd1]
  dsimp only
  rw [Zkl hpw hxj hgp,hp]
 have hn1:∀z,Zae d1 z=Zae db z:=fun z=>by rw [hd1];rfl
 have hcm:∀p q:Int,¬(p=a∧q=b)→ch (s.Mail.take i++s.Mail.drop (i+1)) p q=ch s.Mail p q:=c2
 have hda1:(s.Drinkers.set b.toNat d1)[a.toNat]?=some da:=by rw [List.getElem?_set,if_neg (by omega)];exact hda
 have hmain:pe ⟨s.Drinkers.set b.toNat d1,s.Mail.take i++s.Mail.drop (i+1)⟩ b.toNat a.toNat+1≤pe s b.toNat a.toNat:=by
  rw [pe_eq (s:=⟨s.Drinkers.set b.toNat d1,s.Mail.take i++s.Mail.drop (i+1)⟩) (Zil hdb) hda1 (by rw [i3,ea,if_pos rfl]) (by rw [eb];exact hy),pe_eq hdb hda (by rw [ea];exact hxo) (by rw [eb];exact hy)]
  dsimp only
  rw [ea,eb,c1,hcm b a (by omega),hn1]
  have hE:=hr b.toNat a.toNat db da x y hdb hda (by rw [ea];exact hxo) (by rw [eb];exact hy)
  rw [ea,eb,c1] at hE
  have hn2:Zae db (if m.Msg.Kind≤2 then Z2h x m.Msg.Kind else NX.getT x m.Msg.Kind)=Zae db x:=by unfold Zae;rw [hgp]
  have e1:d1.Diner.Phase=db.Diner.Phase:=by rw [hd1]
  have e2:d1.Thirst=db.Thirst:=by rw [hd1]
  rw [hn2,e1,e2]
  exact pot_get (hloc.side x hxm).2.2 k1.1 k1.2 hE.1 hE.2
 have hother:∀p q:Nat,p≠q→pe ⟨s.Drinkers.set b.toNat d1,s.Mail.take i++s.Mail.drop (i+1)⟩ p q≤pe s p q:=by
  have key:∀q:Nat,q≠b.toNat→pe ⟨s.Drinkers.set b.toNat d1,s.Mail.take i++s.Mail.drop (i+1)⟩ b.toNat q≤pe s b.toNat q:=fun q hq=>by
   by_cases hqa:(q:Int)=a
   ·have:q=a.toNat:=by omega
    subst this
    omega
   ·unfold pe
    dsimp only
    rw [Zil hdb,hdb,List.getElem?_set,if_neg (fun e=>hq e.symm)]
    have hn1':Zae d1=Zae db:=by funext z;exact hn1 z
    have e1:d1.Diner.Phase=db.Diner.Phase:=by rw [hd1]
    have e2:d1.Thirst=db.Thirst:=by rw [hd1]
    cases s.Drinkers[q]? with
    | none=>exact Nat.le_refl _
    | some dq=>
      dsimp only
      rw [i3,if_neg hqa,eb,hcm b q (by omega),hcm q b (by omega),hn1',e1,e2]
      exact Nat.le_refl _
  intro p q hpq
  by_cases hp':p=b.toNat
  ·subst hp'
   exact key q fun e=>hpq e.symm
  ·by_cases hq':q=b.toNat
   ·subst hq'
    rw [Zjm hE1 p,Zjm hr p]
    exact key p hp'
   ·unfold pe
    dsimp only
    rw [List.getElem?_set,List.getElem?_set,if_neg (fun e=>hp' e.symm),if_neg (fun e=>hq' e.symm),hcm p q (by omega),hcm q p (by omega)]
    exact Nat.le_refl _
 refine ⟨_,e,hRest,fun p q hpq=>Nat.le_trans (p1 p q hpq) (hother p q hpq),?_,?_,?_⟩
 ·obtain ⟨r2,hr2⟩:=hRest.fork.edge
  have q1:=p1 b.toNat a.toNat (by omega)
  have q2:pe (Zgk ⟨s.Drinkers,s.Mail.take i++s.Mail.drop (i+1)⟩ b d1) a.toNat b.toNat=pe (Zgk ⟨s.Drinkers,s.Mail.take i++s.Mail.drop (i+1)⟩ b d1) b.toNat a.toNat:=Zjm hr2 _ _
  have q3:pe (Zgk ⟨s.Drinkers,s.Mail.take i++s.Mail.drop (i+1)⟩ b d1) b.toNat a.toNat≤pe ⟨s.Drinkers.set b.toNat d1,s.Mail.take i++s.Mail.drop (i+1)⟩ b.toNat a.toNat:=q1
  rw [q2,Zjm hr a.toNat]
  omega
 ·have hq:tq (NX.fireDr d1).1=tq db:=p2.trans (by rw [hd1];rfl)
  show (s.Drinkers.set b.toNat (NX.fireDr d1).1).map tq=s.Drinkers.map tq
  refine List.ext_getElem? fun n=>?_
  rw [List.getElem?_map,List.getElem?_map,List.getElem?_set]
  split
  ·rename_i e
   subst e
   rw [hdb];simp [hq]
  ·rfl
 ·have hq:(NX.fireDr d1).1.Need=db.Need:=(Zek d1).2.trans (by rw [hd1])
  show (s.Drinkers.set b.toNat (NX.fireDr d1).1).map (·.Need)=s.Drinkers.map (·.Need)
  refine List.ext_getElem? fun n=>?_
  rw [List.getElem?_map,List.getElem?_map,List.getElem?_set]
  split
  ·rename_i e
   subst e
   rw [hdb];simp [hq]
  ·rfl
def phiB (g:Graph) (s:Bar):Nat:=(g.Edges.map fun e=>pe s e.A.toNat e.B.toNat).sum
theorem phiB_le {g:Graph} {s:Bar} (h:Fork g s):phiB g s≤34*g.Edges.length:=by
 obtain ⟨r,hr⟩:=h.edge
 refine Zhm fun e _=>?_
 by_cases hh:∃da db x y,s.Drinkers[e.A.toNat]?=some da∧s.Drinkers[e.B.toNat]?=some db∧Zw7 da.Diner e.B.toNat=some x∧Zw7 db.Diner e.A.toNat=some y
 ·obtain ⟨da,db,x,y,h1,h2,h3,h4⟩:=hh
  rw [pe_eq h1 h2 h3 h4]
  exact pot_le (hr _ _ da db x y h1 h2 h3 h4).1
 ·rw [pe_none fun da db x y h1 h2 h3 h4=>hh ⟨da,db,x,y,h1,h2,h3,h4⟩]
  omega
theorem mail_sum {g:Graph} (hg:okG g=true):∀M:List Mail,(∀m∈M,mailR g m)→M.length≤(g.Edges.map fun e=>(ch M e.A e.B).length+(ch M e.B e.A).length).sum
 | [],_=>by simp
 | m::M,h=>by
   have ih:=mail_sum hg M fun x hx=>h x (by simp [hx])
   have hm:=(h m (by simp)).2.2.2
   have cons:∀p q:Int,(ch (m::M) p q).length=(if m.From=p∧m.To=q then 1 else 0)+(ch M p q).length:=fun p q=>by
    unfold ch
    rw [List.filter_cons]
    by_cases hh:m.From=p∧m.To=q
    ·simp [hh.1,hh.2];omega
    ·rw [if_neg hh,if_neg (by simpa using hh)];omega
   rw [List.length_cons]
   refine Nat.le_trans (Nat.succ_le_succ ih) (sum_lt (fun e _=>by rw [cons,cons];omega) ?_)
   rcases (Zvc hg).1 hm with h1 | h1
   ·exact ⟨_,h1,by rw [cons,cons,if_pos ⟨rfl,rfl⟩];dsimp only;omega⟩
   ·exact ⟨_,h1,by rw [cons m.To m.From,cons m.From m.To,if_pos (⟨rfl,rfl⟩:m.From=m.From∧m.To=m.To)];dsimp only;omega⟩
theorem len_split (c:List Int):c.length=(f12 c).length+(f34 c).length:=by
 unfold f12 f34
 induction c with
 | nil=>rfl
 | cons k c ih=>
   rw [List.filter_cons,List.filter_cons,List.length_cons,ih]
   cases decide (k≤2)<;>simp<;>omega
theorem Z0m.few {x y:Side} {cab cba:List Int} (h:Z0m x y cab cba):cab.length+cba.length≤2:=by
 rcases h with ⟨h1,h2,⟨h3,h4 | h4 | h4⟩ | ⟨h3,h4,h5 | h5⟩⟩ | ⟨h1,h2,⟨h3,h4 | h4 | h4⟩ | ⟨h3,h4,h5 | h5⟩⟩<;>simp_all
theorem Fork.mails {g:Graph} {s:Bar} (hg:okG g=true) (h:Fork g s):s.Mail.length≤4*g.Edges.length:=by
 obtain ⟨r,hr⟩:=h.edge
 refine Nat.le_trans (mail_sum hg s.Mail h.inv.mail) (Zhm fun e he=>?_)
 obtain ⟨e1,e2,e3,e4⟩:=Zim hg he
 obtain ⟨da,hda⟩:=h.inv.get (a:=e.A) e1 (by omega)
 obtain ⟨db,hdb⟩:=h.inv.get (a:=e.B) (by omega) e3
 obtain ⟨x,hx,_⟩:=h.inv.tab.sided e1 (Zxk hda) e4
 obtain ⟨y,hy,_⟩:=h.inv.tab.sided (show 0≤e.B by omega) (Zxk hdb) (Ztd hg e4)
 have ea:((e.A.toNat:Nat):Int)=e.A:=Int.toNat_of_nonneg e1
 have eb:((e.B.toNat:Nat):Int)=e.B:=Int.toNat_of_nonneg (by omega)
 have hE:=hr _ _ da db x y hda hdb (by rw [eb];exact hx) (by rw [ea];exact hy)
 rw [ea,eb] at hE
 have h1:=hE.1.few
 have h2:=hE.2.few
 rw [len_split (ch s.Mail e.A e.B),len_split (ch s.Mail e.B e.A)]
 omega
theorem Rest.step {g:Graph} {s:Bar} (hg:okG g=true) (hN:g.N≤60) (h:Rest g s) {m:Mail} (hm:s.Mail[0]?=some m):
  ∃t,Zmk s m.From m.To=(t,0)∧Rest g t∧phiB g t+1≤phiB g s∧t.Drinkers.map tq=s.Drinkers.map tq∧t.Drinkers.map (·.Need)=s.Drinkers.map (·.Need):=by
 obtain ⟨r,hr⟩:=h.fork.edge
 have hmm:m∈s.Mail:=List.mem_iff_getElem?.2 ⟨_,hm⟩
 have hnear:=(h.inv.mail m hmm).2.2.2
 obtain ⟨n1,n2,n3,n4,n5⟩:=Zwc hg hnear
 have hl:=h.inv.tab.len
 have el:(Zwk s).Diners.length=s.Drinkers.length:=by simp [Zwk]
 have ht:Z9k s m.From=true:=Zbk.2 ⟨n4,by omega⟩
 have ht':Z9k s m.To=true:=Zbk.2 ⟨n1,by omega⟩
 have hi:Zlk s m.From m.To=some 0:=by
  unfold Zlk
  obtain ⟨M,hM⟩:∃M,s.Mail=m::M:=by
   cases hs:s.Mail with
   | nil=>rw [hs] at hm;simp at hm
   | cons y M=>rw [hs] at hm;simp at hm;exact ⟨M,by rw [hm]⟩
  rw [hM,List.findIdx?_cons]
  simp
 obtain ⟨t,e1,e2,e3,e4,e5,e6⟩:=h.deliv hg hN ht ht' hi
 obtain ⟨r2,hr2⟩:=e2.fork.edge
 refine ⟨t,e1,e2,sum_lt (fun e he=>?_) ?_,e5,e6⟩
 ·obtain ⟨k1,k2,k3,_⟩:=Zim hg he
  exact e3 _ _ (by omega)
 ·rcases (Zvc hg).1 hnear with h1 | h1
  ·exact ⟨_,h1,e4⟩
  ·exact ⟨_,h1,by rw [Zjm hr2,Zjm hr];exact e4⟩
theorem Rest.lack {g:Graph} {s:Bar} (hg:okG g=true) (h:Rest g s) (hM:s.Mail=[]) {a:Nat} {d:Drinker} (hd:s.Drinkers[a]?=some d) (ht:d.Thirst=1) {x:Side} (hx:x∈d.Diner.Sides) (hn:Zae d x=true) (hb:x.Bottle=false):
  ∃(b:Nat) (e:Drinker),x.Peer=(b:Int)∧s.Drinkers[b]?=some e∧(a:Int)∈e.Need∧(e.Thirst=2∨e.Thirst=1∧x.Fork=false):=by
 obtain ⟨r,hr⟩:=h.fork.edge
 have hdt:=Zxk hd
 have hpw:=h.inv.tab.pw hg hdt
 obtain ⟨_,hsh⟩:=h.inv.tab.shp a _ hdt
 have hnear:x.Peer∈Zqc g a:=by rw [←hsh];exact List.mem_map_of_mem hx
 obtain ⟨n1,n2,_,_,_⟩:=Zwc hg hnear
 obtain ⟨e,he⟩:=h.inv.get n1 n2
 obtain ⟨y,hy,ym⟩:=h.inv.tab.sided n1 (Zxk he) (Ztd hg hnear)
 have ep:((x.Peer.toNat:Nat):Int)=x.Peer:=Int.toNat_of_nonneg n1
 have hE:=hr a x.Peer.toNat d e x y hd he (by rw [ep];exact Zll hpw hx) hy
 have e0:∀p q:Int,ch s.Mail p q=[]:=fun p q=>by rw [hM];rfl
 rw [e0,e0] at hE
 have hC:=h.calm d (List.mem_iff_getElem?.2 ⟨_,hd⟩)
 have hCe:=h.calm e (List.mem_iff_getElem?.2 ⟨_,he⟩)
 have hak:x.Ask=false:=by
  cases hh:x.Ask with
  | false=>rfl
  | true=>have:=hC.ask x hx ht hn hh;rw [hb] at this;simp at this
 have hyb:y.Bottle=true∧y.Ask=true:=by
  rcases hE.2 with ⟨h1,h2,⟨h3,h4⟩ | ⟨h3,h4,h5 | h5⟩⟩ | ⟨h1,h2,⟨h3,h4 | h4 | h4⟩ | ⟨h3,h4,h5 | h5⟩⟩
  ·rw [hb] at h3;exact absurd h3 (by simp)
  ·exact absurd h5.2 (by simp [f34])
  ·exact absurd h5.2 (by simp [f34])
  ·exact ⟨h3,h4.1⟩
  ·rw [hak] at h4;exact absurd h4.2.1 (by simp)
  ·exact absurd h4.2.2 (by simp [f34])
  ·exact absurd h5.2 (by simp [f34])
  ·exact absurd h5.2 (by simp [f34])
 have hk:=hCe.give y ym hyb.1 hyb.2
 unfold Zbe at hk
 rw [Bool.and_eq_true,Bool.or_eq_true,Bool.and_eq_true,decide_eq_true_eq,decide_eq_true_eq] at hk
 refine ⟨x.Peer.toNat,e,ep.symm,he,?_,?_⟩
 ·have h1:=hk.1
  unfold Zae at h1
  rw [(Z9e hy).2] at h1
  simpa using h1
 ·rcases hk.2 with q | ⟨q1,q2⟩
  ·exact .inl q
  ·refine .inr ⟨q1,?_⟩
   rcases Zdm hE.1 with ⟨w,_⟩ | ⟨w,_⟩
   ·rw [q2] at w;exact absurd w (by simp)
   ·exact w
set_option maxRecDepth 100000
set_option maxHeartbeats 4000000
set_option maxRecDepth 100000
set_option maxHeartbeats 4000000
@[go_sem] def e35_L0:EC:=.seq (.seq (.reg [(Qm 9 6),(Qm 10 1),(Qa 11 (.bin .lss (.t 9) (.t 10))),(Qm 12 11),(Qh 13 12 true 1 2),(Qn 14 12 true 13),(Qg 15 12 true (.len (.t 14))),(Qg 16 12 true (.bin .gtr (.t 15) (.c (.iv 0)))),(Qp 17 12 16)]) (.ite (.t 17) (.skip) (.exit 0))) (.seq (.blk 1 (.seq (.drw [(Qe 21 2 2),(Qa 22 (.call 14 [(.t 21)])),(Qf 23 1 2),(Ql 24 23),(Qa 25 (.idx 5 (.t 24) (.c (.iv 0)))),(Qf 26 0 25),(Ql 27 26),(Qf 28 1 2),(Ql 29 28),(Qa 30 (.idx 5 (.t 29) (.c (.iv 0)))),(Qf 31 1 30),(Ql 32 31),(Qa 33 (.call 48 [(.t 22),(.t 27),(.t 32)])),(Qm 20 33),(Qa 34 (.ext (.t 20) 0)),(Qa 35 (.ext (.t 20) 1)),(Qa 7 (.alloc 25 [.nl,.nl])),(Qs 2 7 34),(Qm 8 35)] [[],[0],[],[2],[3],[4],[5],[],[7],[8],[9],[10],[1,6,11,1],[12],[13],[13],[],[16,14,12,0,1,2,3,4,5,6,7,8,9,10,11,12,13,14,16],[15,17,0,1,2,3,4,5,6,7,8,9,10,11,12,13,14,15,16,17]] [[1],[0,12],[3],[2,4],[3,5],[4,6],[5,12],[8],[7,9],[8,10],[9,11],[10,12],[1,6,11,13],[12,14,15],[13,17],[13,18],[17],[14,16],[15]]) (.seq (.seq (.reg [(Qm 36 8),(Qa 37 (.bin .neq (.t 36) (.c (.iv 0))))]) (.ite (.t 37) (.seq (.reg [(Qe 38 2 2),(Qs 2 4 38),(Qa 5 (.mv (.c .ff)))]) (.ret)) (.skip))) (.reg [(Qe 39 2 7),(Qs 2 2 39)])))) (.reg [(Qm 18 6),(Qv 19 18 1),(Qm 6 19)]))
@[go_sem] def e35:EC:=.seq (.reg [(Qx 2 25 2 0),(Qa 4 (.alloc 25 [.nl,.nl])),(Qa 5 (.mv (.c .ff)))]) (.seq (.seq (.reg [(Qi 6 0)]) (.blk 0 (.loop e35_L0))) (.seq (.drw [(Qe 40 2 2),(Qf 41 1 2),(Ql 42 41),(Qa 43 (.len (.t 42))),(Qa 44 (.bin .eql (.t 43) (.c (.iv 0)))),(Qs 2 4 40),(Qm 5 44)] [[],[],[1],[2],[3],[0,0],[4,5,0,1,2,3,4,5]] [[5],[2],[1,3],[2,4],[3,6],[0],[4]]) (.ret)))
theorem ok35:FnOK Tryz.prog 35 Tryz.f35 e35 [.c 4 (some 2),.t 5] 2 43:=⟨by kernel_rfl,⟨_,rfl,by kernel_rfl⟩,by kernel_rfl,by kernel_rfl⟩
noncomputable def Zmm:Bar→Option (Bar×Bool)
| x30=>
 some (x30,decide ((ln Mail.row x30.Mail)=0))
noncomputable def Znm (x14:Int) (x15:Bar):(Int×Bar)→Option ((Int×Bar) ⊕ (Bar×Bool))
| (x23,x24)=>
 ifb (!decide (x23=0)) (
 Option.map Sum.inr (some (x15,false))) (
 some (.inl (wr (x14+1),x24)))
noncomputable def Zom (x14:Int) (x15:Bar):Bool→Option ((Int×Bar) ⊕ (Bar×Bool))
| x16=>
 ifb x16 (
 (at_ x15.Mail 0).bind fun x17=>
 (at_ x15.Mail 0).bind fun x18=>
 (Z7j x15).bind fun x19=>
 (Zxi x19 x17.From x18.To).bind fun x21=>
 (Znm x14 x15) (x21.2,x21.1)) (
 Option.map Sum.inr (Zmm x15))
noncomputable def Zpm (x2:Int):(Int×Bar)→Option ((Int×Bar) ⊕ (Bar×Bool))
| (x14,x15)=>
 ifb (decide (x14<x2)) (
 (Zom x14 x15) (decide (0<(ln Mail.row x15.Mail)))) (
 (Zom x14 x15) false)
noncomputable def Zqm (x1:Bar) (x2:Int):Option (Bar×Bool):=
 loop (Zpm x2) (0,x1)
theorem Zrm (x1:Bar) (x2:Int) (r:(Bar×Bool)) (h:Zqm x1 x2=some r):Zs2 Tryz.prog 35 [.agg (Bar.row x1),.iv x2] (.tup [.agg (Bar.row r.1),.bv r.2]):=by
 refine Zw2 ok35 rfl rfl fun w0 H0=>?_
 rw [Zqm] at h
 refine Zn2 11 ?_;dsimp only [go_sem];refine An ?_;refine Zg4 (fun (x30:Bar)=>(⟨(.any :: .any :: .ptr 0 0 :: .any :: .ptr 1 0::an 40 []),[some ⟨25,[.sl 5 (List.map Drinker.row x30.Drinkers),.sl 5 (List.map Mail.row x30.Mail)]⟩,some ⟨25,[.nl,.nl]⟩],[]⟩:St)) Zmm r ?_ fun J1=>?_
 ·intro x30 h;rw [Zmm] at h;(try dsimp only);refine Zn2 1 ?_;dsimp only [go_sem];refine An ?_;refine Zi3 (by kernel_rfl) fun all hall hs hnap haf=>?_;dsimp only [go_sem];refine Z65 hall hs haf hnap 2 5 ?_;dsimp only [go_sem];refine An ?_;refine Zu3 2 5 rfl ?_ ?_
  ·refine Zy3 hall rfl trivial ?_;dsimp only [go_sem];refine Z65 hall hs haf hnap 2 2 ?_;dsimp only [go_sem];refine An ?_;refine Zt3 5 rfl ?_;refine Zy3 hall rfl trivial ?_;dsimp only [go_sem];refine Z65 hall hs haf hnap 1 0 ?_;dsimp only [go_sem];refine An ?_;refine Zs3 rfl ?_ _;exact Zq4 (res:=fun (r:(Bar×Bool))=>.tup [.agg (Bar.row r.1),.bv r.2]) ok35 h
  ·refine Zy3 hall rfl trivial ?_;dsimp only [go_sem];refine Z65 hall hs haf hnap 4 0 ?_;dsimp only [go_sem];refine An ?_;refine Zs3 rfl ?_ _;exact Zq4 (res:=fun (r:(Bar×Bool))=>.tup [.agg (Bar.row r.1),.bv r.2]) ok35 h
 ·refine Zn2 1 ?_;dsimp only [go_sem];refine An ?_;refine Zh4 h (fun ((x14,x15):(Int×Bar))=>(⟨(.any :: .iv x2 :: .ptr 0 0 :: .any :: .ptr 1 0 :: .any :: .iv x14::an 38 []),[some ⟨25,[.sl 5 (List.map Drinker.row x15.Drinkers),.sl 5 (List.map Mail.row x15.Mail)]⟩,some ⟨25,[.nl,.nl]⟩],[]⟩:St)) (by simp [go_sem]) (by rintro ⟨x14,x15⟩;first | rfl | simp [go_sem]) ?_;rintro n1 ⟨x14,x15⟩ y1 h hin1 hout1;rw [Zpm] at h;(try dsimp only);refine Zn2 7 ?_;dsimp only [go_sem];refine An ?_
  refine Zg4 (fun (x16:Bool)=>(⟨(.any :: .iv x2 :: .ptr 0 0 :: .any :: .ptr 1 0 :: .any :: .iv x14::an 10 (.bv x16::an 27 [])),[some ⟨25,[.sl 5 (List.map Drinker.row x15.Drinkers),.sl 5 (List.map Mail.row x15.Mail)]⟩,some ⟨25,[.nl,.nl]⟩],[]⟩:St)) (Zom x14 x15) y1 ?_ fun J2=>?_
  ·intro x16 h;rw [Zom] at h;(try dsimp only);refine Zi4 h rfl (fun _ h=>?_) fun _ h=>?_
   ·refine Zn2 4 ?_;dsimp only [go_sem];refine An ?_;refine Zg4 (fun ((x23,x24):(Int×Bar))=>(⟨(.any :: .iv x2 :: .ptr 0 0 :: .any :: .ptr 1 0 :: .any :: .iv x14 :: .ptr 2 0 :: .iv x23::an 36 []),[some ⟨25,[.sl 5 (List.map Drinker.row x15.Drinkers),.sl 5 (List.map Mail.row x15.Mail)]⟩,some ⟨25,[.nl,.nl]⟩,some ⟨25,[.sl 5 (List.map Drinker.row x24.Drinkers),.sl 5 (List.map Mail.row x24.Mail)]⟩],[]⟩:St)) (Znm x14 x15) y1 ?_ fun J3=>?_
    ·rintro ⟨x23,x24⟩ h;rw [Znm] at h;(try dsimp only);refine Zn2 6 ?_;dsimp only [go_sem];refine An ?_;refine Zi4 h rfl (fun _ h=>?_) fun _ h=>?_
     ·refine Zn2 6 ?_;dsimp only [go_sem];refine An ?_;exact Zq4 (res:=fun (r:(Bar×Bool))=>.tup [.agg (Bar.row r.1),.bv r.2]) ok35 (Zf4 h hout1)
     ·refine Zn2 11 ?_;dsimp only [go_sem];refine An ?_;exact Zr4 h hin1
    ·refine Zi3 (by kernel_rfl) fun all hall hs hnap haf=>?_;dsimp only [go_sem];refine Z75 hall hs haf hnap 5 14 [1,1,2,3,2,10] [(21,[.agg [.sl 5 (List.map Drinker.row x15.Drinkers),.sl 5 (List.map Mail.row x15.Mail)]]),(1,[.ptr 0 1,.sl 5 (List.map Mail.row x15.Mail)]),(3,[.ptr 0 1,.sl 5 (List.map Mail.row x15.Mail)])] (by kernel_rfl) ?_;dsimp only [go_sem];obtain ⟨x17,ex17,h⟩:=Bs h;refine Zm4 hall hs haf hnap 4 Mail.row ex17 rfl rfl trivial rfl rfl rfl rfl ?_;refine Z65 hall hs haf hnap 2 11 ?_;dsimp only [go_sem];refine An ?_
     obtain ⟨x18,ex18,h⟩:=Bs h;refine Zm4 hall hs haf hnap 9 Mail.row ex18 rfl rfl trivial rfl rfl rfl rfl ?_;refine Z65 hall hs haf hnap 2 8 ?_;dsimp only [go_sem];refine An ?_;obtain ⟨x19,ex19,h⟩:=Bs h;refine Zu3 1 16 rfl ?_ ?_
     ·refine Zz3 hall rfl trivial (Z8j x15 _ ex19) (h:=?_);dsimp only [go_sem];obtain ⟨x21,ex21,h⟩:=Bs h;refine Zu3 12 16 rfl ?_ ?_
      ·refine Zz3 hall rfl trivial (Zyi x19 x17.From x18.To _ ex21) (h:=?_);dsimp only [go_sem];refine Z65 hall hs haf hnap 3 3 ?_;dsimp only [go_sem];refine An ?_;refine Zt3 16 rfl ?_;refine Zy3 hall rfl trivial ?_;dsimp only [go_sem];refine Zt3 17 rfl ?_;refine Zy3 hall rfl trivial ?_;dsimp only [go_sem];refine Z65 hall hs haf hnap 1 0 ?_;dsimp only [go_sem];refine An ?_;refine Zs3 rfl ?_ _;exact Zs4 J3 (s:=(x21.2,x21.1)) h
      ·refine Zy3 hall rfl trivial ?_;dsimp only [go_sem];refine Zt3 12 rfl ?_;refine Zz3 hall rfl trivial (Zyi x19 x17.From x18.To _ ex21) (h:=?_);dsimp only [go_sem];refine Z65 hall hs haf hnap 3 2 ?_;dsimp only [go_sem];refine An ?_;refine Zt3 17 rfl ?_;refine Zy3 hall rfl trivial ?_;dsimp only [go_sem];refine Z65 hall hs haf hnap 1 0 ?_;dsimp only [go_sem];refine An ?_;refine Zs3 rfl ?_ _;exact Zs4 J3 (s:=(x21.2,x21.1)) h
     ·refine Zy3 hall rfl trivial ?_;dsimp only [go_sem];refine Zt3 1 rfl ?_;refine Zz3 hall rfl trivial (Z8j x15 _ ex19) (h:=?_);dsimp only [go_sem];refine Zt3 12 rfl ?_;obtain ⟨x21,ex21,h⟩:=Bs h;refine Zz3 hall rfl trivial (Zyi x19 x17.From x18.To _ ex21) (h:=?_);dsimp only [go_sem];refine Z65 hall hs haf hnap 3 2 ?_;dsimp only [go_sem];refine An ?_;refine Zt3 17 rfl ?_;refine Zy3 hall rfl trivial ?_;dsimp only [go_sem];refine Z65 hall hs haf hnap 1 0 ?_;dsimp only [go_sem];refine An ?_;refine Zs3 rfl ?_ _
      exact Zs4 J3 (s:=(x21.2,x21.1)) h
   ·refine Zn2 1 ?_;dsimp only [go_sem];refine An ?_;exact Zs4 J1 (s:=x15) (Zf4 h hout1)
  ·refine Zp4 12 h rfl (fun _ h=>?_) fun _ h=>?_
   ·dsimp only [go_sem];refine Zn2 6 ?_;dsimp only [go_sem];refine An ?_;exact Zs4 J2 (s:=decide (0<(ln Mail.row x15.Mail))) h
   ·dsimp only [go_sem];refine Zn2 6 ?_;dsimp only [go_sem];refine An ?_;exact Zs4 J2 (s:=false) h
set_option maxRecDepth 100000
set_option maxHeartbeats 4000000
@[go_sem] def e6_L1:EC:=.seq (.seq (.reg [(Qm 63 11),(Qm 64 10),(Qa 65 (.len (.t 64))),(Qa 66 (.bin .lss (.t 63) (.t 65)))]) (.ite (.t 66) (.skip) (.exit 2))) (.seq (.blk 3 (.seq (.drw [(Qe 70 2 5),(Qa 71 (.call 14 [(.t 70)])),(Qm 72 10),(Qm 73 11),(Qk 74 1 72 73),(Ql 75 74),(Qa 76 (.call 36 [(.t 71),(.t 75)])),(Qm 69 76),(Qa 77 (.ext (.t 69) 0)),(Qa 78 (.ext (.t 69) 1)),(Qa 12 (.alloc 25 [.nl,.nl])),(Qs 2 12 77),(Qm 13 78)] [[],[0],[],[],[2,3],[4],[1,5,1],[6],[7],[7],[],[10,8,6,0,1,2,3,4,5,6,7,8,10],[9,11,0,1,2,3,4,5,6,7,8,9,10,11]] [[1],[0,6],[4],[4],[2,3,5],[4,6],[1,5,7],[6,8,9],[7,11],[7,12],[11],[8,10],[9]]) (.seq (.seq (.reg [(Qm 79 13),(Qa 80 (.bin .neq (.t 79) (.c (.iv 0))))]) (.ite (.t 80) (.seq (.reg [(Qa 4 (.mv (.c .ff)))]) (.ret)) (.skip))) (.reg [(Qe 81 2 12),(Qs 2 5 81)])))) (.reg [(Qm 67 11),(Qv 68 67 1),(Qm 11 68)]))
@[go_sem] def e6_L0:EC:=.seq (.seq (.reg [(Qm 31 7),(Qf 32 0 2),(Ql 33 32),(Qa 34 (.bin .leq (.t 31) (.t 33)))]) (.ite (.t 34) (.skip) (.exit 0))) (.seq (.blk 1 (.seq (.reg [(Qe 38 2 5),(Qf 39 1 2),(Ql 40 39),(Qa 41 (.len (.t 40))),(Qa 42 (.bin .mul (.c (.iv 60)) (.t 41))),(Qv 43 42 60),(Qa 44 (.call 35 [(.t 38),(.t 43)])),(Qm 37 44),(Qa 45 (.ext (.t 37) 0)),(Qa 46 (.ext (.t 37) 1)),(Qa 8 (.alloc 25 [.nl,.nl])),(Qs 2 8 45),(Qm 9 46)]) (.seq (.reg [(Qe 47 2 8),(Qs 2 5 47)]) (.seq (.reg [(Qe 48 2 5),(Qa 49 (.call 22 [(.t 48),(.c (.iv 2))])),(Qm 10 49)]) (.seq (.seq (.reg [(Qm 50 9),(Qa 51 (.not (.t 50))),(Qm 52 51),(Qg 53 52 false (.mv (.t 10))),(Qg 54 52 false (.len (.t 53))),(Qg 55 52 false (.bin .eql (.t 54) (.c (.iv 0)))),(Qg 56 52 false (.mv (.t 55))),(Qg 57 56 true (.loadA 2 (.t 5))),(Qg 58 56 true (.call 22 [(.t 57),(.c (.iv 1))])),(Qg 59 56 true (.len (.t 58))),(Qg 60 56 true (.bin .gtr (.t 59) (.c (.iv 0)))),(Qg 61 52 false (.pick (.t 56) (.t 60) (.c .ff))),(Qq 62 52 61)]) (.ite (.t 62) (.seq (.reg [(Qa 4 (.mv (.c .ff)))]) (.ret)) (.skip))) (.seq (.reg [(Qi 11 0)]) (.blk 2 (.loop e6_L1)))))))) (.reg [(Qm 35 7),(Qv 36 35 1),(Qm 7 36)]))
@[go_sem] def e6:EC:=.seq (.reg [(Qx 2 53 2 0),(Qa 4 (.mv (.c .ff)))]) (.seq (.seq (.reg [(Qa 14 (.call 11 [])),(Qa 15 (.not (.t 14))),(Qm 16 15),(Qg 17 16 false (.loadA 2 (.t 2))),(Qg 18 16 false (.mv (.t 1))),(Qg 19 16 false (.call 28 [(.t 17),(.t 18)])),(Qg 20 16 false (.not (.t 19))),(Qq 21 16 20)]) (.ite (.t 21) (.seq (.reg [(Qa 22 (.call 11 [])),(Qm 4 22)]) (.ret)) (.skip))) (.seq (.reg [(Qe 24 2 2),(Qm 25 1),(Qa 26 (.call 29 [(.t 24),(.t 25),(.c (.clo 34 []))])),(Qm 23 26),(Qa 27 (.ext (.t 23) 0)),(Qa 28 (.ext (.t 23) 1)),(Qa 5 (.alloc 25 [.nl,.nl])),(Qs 2 5 27),(Qm 6 28)]) (.seq (.seq (.reg [(Qm 29 6),(Qa 30 (.not (.t 29)))]) (.ite (.t 30) (.seq (.reg [(Qa 4 (.mv (.c .ff)))]) (.ret)) (.skip))) (.seq (.seq (.reg [(Qi 7 0)]) (.blk 0 (.loop e6_L0))) (.seq (.drw [(Qe 82 2 5),(Qa 83 (.call 22 [(.t 82),(.c (.iv 0))])),(Qa 84 (.len (.t 83))),(Qf 85 0 2),(Ql 86 85),(Qa 87 (.bin .eql (.t 84) (.t 86))),(Qm 4 87)] [[],[0],[1],[],[3],[2,4],[5,1,0,1,2,3,4,5]] [[1],[0,2],[1,5],[4],[3,5],[2,4,6],[5]]) (.ret))))))
set_option maxRecDepth 100000
set_option maxHeartbeats 4000000
@[go_sem] def e37:EC:=.seq (.reg [(Qx 1 25 2 0),(Qa 2 (.mv (.c .ff)))]) (.seq (.reg [(Qa 2 (.mv (.c .tt)))]) (.ret))
theorem ok37:FnOK Tryz.prog 37 Tryz.f37 e37 [.t 2] 1 2:=⟨by kernel_rfl,⟨_,rfl,by kernel_rfl⟩,by kernel_rfl,by kernel_rfl⟩
noncomputable def Zsm (_x1:Bar):Option Bool:=
 some true
theorem Ztm (x1:Bar) (r:Bool) (h:Zsm x1=some r):Zs2 Tryz.prog 37 [.agg (Bar.row x1)] (.bv r):=by
 refine Zw2 ok37 rfl rfl fun w0 H0=>?_
 rw [Zsm] at h
 refine Zn2 9 ?_;dsimp only [go_sem];refine An ?_;exact Zq4 (res:=fun (r:Bool)=>.bv r) ok37 h
set_option maxRecDepth 100000
set_option maxHeartbeats 4000000
@[go_sem] def e7_L0:EC:=.seq (.seq (.reg [(Qm 80 13),(Qm 81 3),(Qa 82 (.len (.t 81))),(Qa 83 (.bin .lss (.t 80) (.t 82)))]) (.ite (.t 83) (.skip) (.exit 0))) (.seq (.blk 1 (.seq (.drw [(Qf 86 0 9),(Ql 87 86),(Qm 88 3),(Qm 89 13),(Qk 90 1 88 89),(Ql 91 90),(Qk 92 5 87 91),(Qe 93 5 92),(Qa 14 (.alloc 63 [.iv 0,.iv 0,.nl,.iv 0,.nl])),(Qs 5 14 93)] [[],[0],[],[],[2,3],[4],[1,5],[6],[],[8,7,0,1,2,3,4,5,6,7,8]] [[1],[0,6],[4],[4],[2,3,5],[4,6],[1,5,7],[6,9],[9],[7,8]]) (.seq (.drw [(Qf 94 4 14),(Ql 95 94),(Qm 96 2),(Qa 97 (.call 33 [(.t 95),(.t 96)])),(Qm 98 97),(Qg 99 98 false (.loadA 2 (.t 4))),(Qg 100 98 false (.mv (.t 2))),(Qg 101 98 false (.mv (.t 3))),(Qg 102 98 false (.mv (.t 13))),(Qg 103 98 false (.idx 1 (.t 101) (.t 102))),(Qn 104 98 false 103),(Qg 105 98 false (.call 39 [(.t 99),(.t 100),(.t 104)])),(Qg 106 98 false (.not (.t 105))),(Qq 107 98 106)] [[],[0],[],[1,2],[3,3],[4],[4],[4],[4],[7,8,4],[9,4],[5,6,10,4,4],[11,4],[4,12]] [[1],[0,3],[3],[1,2,4],[3,5,6,7,8,9,10,11,12,13],[4,11],[4,11],[4,9],[4,9],[4,7,8,10],[4,9,11],[4,5,6,10,12],[4,11,13],[4,12]]) (.ite (.t 107) (.seq (.drw [(Qe 108 2 4),(Qm 109 2),(Qm 110 3),(Qm 111 13),(Qk 112 1 110 111),(Ql 113 112),(Qa 114 (.call 39 [(.t 108),(.t 109),(.t 113)])),(Qm 8 114)] [[],[],[],[],[2,3],[4],[0,1,5],[6,6,0,1,2,3,4,5,6]] [[6],[6],[4],[4],[2,3,5],[4,6],[0,1,5,7],[6]]) (.ret)) (.skip))))) (.reg [(Qm 84 13),(Qv 85 84 1),(Qm 13 85)]))
@[go_sem] def e7:EC:=.seq (.reg [(Qx 4 53 2 0),(Qa 8 (.mv (.c .ff)))]) (.seq (.seq (.reg [(Qa 17 (.call 11 [])),(Qa 18 (.not (.t 17))),(Qm 19 18),(Qg 20 19 false (.loadA 2 (.t 4))),(Qg 21 19 false (.mv (.t 1))),(Qg 22 19 false (.call 28 [(.t 20),(.t 21)])),(Qg 23 19 false (.not (.t 22))),(Qq 24 19 23),(Qm 25 24),(Qg 26 25 false (.mv (.t 3))),(Qg 27 25 false (.len (.t 26))),(Qg 28 25 false (.bin .gtr (.t 27) (.c (.iv 20)))),(Qq 29 25 28)]) (.ite (.t 29) (.seq (.reg [(Qa 30 (.call 11 [])),(Qm 8 30)]) (.ret)) (.skip))) (.seq (.reg [(Qe 32 2 4),(Qm 33 1),(Qa 34 (.call 29 [(.t 32),(.t 33),(.c (.clo 37 []))])),(Qm 31 34),(Qa 35 (.ext (.t 31) 0)),(Qa 36 (.ext (.t 31) 1)),(Qa 9 (.alloc 25 [.nl,.nl])),(Qs 2 9 35),(Qm 10 36)]) (.seq (.seq (.reg [(Qm 37 10),(Qa 38 (.not (.t 37))),(Qm 39 38),(Qg 40 39 false (.mv (.t 2))),(Qg 41 39 false (.bin .lss (.t 40) (.c (.iv 0)))),(Qq 42 39 41),(Qm 43 42),(Qg 44 43 false (.mv (.t 2))),(Qh 45 43 false 0 4),(Qn 46 43 false 45),(Qg 47 43 false (.bin .geq (.t 44) (.t 46))),(Qq 48 43 47),(Qm 49 48),(Qh 50 49 false 0 9),(Qn 51 49 false 50),(Qg 52 49 false (.mv (.t 2))),(Qg 53 49 false (.idx 5 (.t 51) (.t 52))),(Qh 54 49 false 3 53),(Qn 55 49 false 54),(Qg 56 49 false (.bin .neq (.t 55) (.c (.iv 0)))),(Qq 57 49 56)]) (.ite (.t 57) (.seq (.reg [(Qm 58 10),(Qm 8 58)]) (.ret)) (.skip))) (.seq (.reg [(Qe 60 2 9),(Qa 61 (.call 14 [(.t 60)])),(Qm 62 2),(Qa 63 (.bsl 3 1 0 [.iv 0] [])),(Qm 64 3),(Qa 65 (.app 3 1 8 (.t 63) (.t 64))),(Qa 66 (.call 38 [(.t 61),(.t 62),(.t 65)])),(Qm 59 66),(Qa 67 (.ext (.t 59) 0)),(Qa 68 (.ext (.t 59) 1)),(Qa 11 (.alloc 25 [.nl,.nl])),(Qs 2 11 67),(Qm 12 68)]) (.seq (.seq (.reg [(Qm 69 12),(Qa 70 (.bin .neq (.t 69) (.c (.iv 0))))]) (.ite (.t 70) (.seq (.reg [(Qm 71 12),(Qa 72 (.bin .eql (.t 71) (.c (.iv 151)))),(Qm 8 72)]) (.ret)) (.skip))) (.seq (.seq (.reg [(Qm 73 3),(Qa 74 (.len (.t 73))),(Qa 75 (.bin .eql (.t 74) (.c (.iv 0))))]) (.ite (.t 75) (.seq (.reg [(Qe 76 2 11),(Qa 77 (.call 22 [(.t 76),(.c (.iv 2))])),(Qm 78 2),(Qa 79 (.call 33 [(.t 77),(.t 78)])),(Qm 8 79)]) (.ret)) (.skip))) (.seq (.seq (.reg [(Qi 13 0)]) (.blk 0 (.loop e7_L0))) (.seq (.reg [(Qe 116 2 11),(Qf 117 1 4),(Ql 118 117),(Qa 119 (.len (.t 118))),(Qa 120 (.bin .mul (.c (.iv 60)) (.t 119))),(Qv 121 120 60),(Qa 122 (.call 35 [(.t 116),(.t 121)])),(Qm 115 122),(Qa 123 (.ext (.t 115) 0)),(Qa 124 (.ext (.t 115) 1)),(Qa 15 (.alloc 25 [.nl,.nl])),(Qs 2 15 123),(Qm 16 124)]) (.seq (.reg [(Qm 125 16),(Qm 126 125),(Qg 127 126 true (.loadA 2 (.t 15))),(Qg 128 126 true (.call 22 [(.t 127),(.c (.iv 2))])),(Qg 129 126 true (.mv (.t 2))),(Qg 130 126 true (.call 33 [(.t 128),(.t 129)])),(Qp 131 126 130),(Qm 8 131)]) (.ret))))))))))
theorem ok7:FnOK Tryz.prog 7 Tryz.f7 e7 [.t 8] 4 128:=⟨by kernel_rfl,⟨_,rfl,by kernel_rfl⟩,by kernel_rfl,by kernel_rfl⟩
noncomputable def Zum:Bool→Option Bool
| x45=>
 some x45
noncomputable def Zvm (x1:Graph) (x3:Int) (x14:(Bar×Int)):Unit→Option Bool
| ()=>
 (Zqm x14.1 (wr ((wr (60*(ln Edge.row x1.Edges)))+60))).bind fun x42=>
 ifb x42.2 (
 (Zcj x42.1 2).bind fun x43=>
 (Z8c x43 x3).bind fun x44=>
 Zum x44) (
 Zum false)
noncomputable def Zwm (x1:Graph) (x3:Int) (x4:(List Int)) (x26:Int):Bool→Option (Int ⊕ Bool)
| x32=>
 ifb x32 (
 (at_ x4 x26).bind fun x33=>
 (Z4c x1 x3 x33).bind fun x34=>
 Option.map Sum.inr (some x34)) (
 some (.inl (wr (x26+1))))
noncomputable def Zxm (x1:Graph) (x3:Int) (x4:(List Int)) (x9:(Bar×Bool)) (x14:(Bar×Int)):Int→Option (Int ⊕ Bool)
| x26=>
 ifb (decide (x26<(ln Zw4 x4))) (
 (at_ x4 x26).bind fun x27=>
 (at_ x9.1.Drinkers x27).bind fun x28=>
 (Z8c x28.Need x3).bind fun x29=>
 ifb x29 (
 (Zwm x1 x3 x4 x26) true) (
 (at_ x4 x26).bind fun x30=>
 (Z4c x1 x3 x30).bind fun x31=>
 (Zwm x1 x3 x4 x26) (!x31))) (
 Option.map Sum.inr ((Zvm x1 x3 x14) ()))
noncomputable def Zym (x1:Graph) (x3:Int) (x4:(List Int)) (x9:(Bar×Bool)):Bool→Option Bool
| x11=>
 ifb x11 (
 some x9.2) (
 (Z7j x9.1).bind fun x12=>
 (Zb4 8 (([]:List Int)) x4).bind fun x13=>
 (Zmi x12 x3 x13).bind fun x14=>
 ifb (!decide (x14.2=0)) (
 some (decide (x14.2=151))) (
 ifb (decide ((ln Zw4 x4)=0)) (
 (Zcj x14.1 2).bind fun x15=>
 (Z8c x15 x3).bind fun x16=>
 some x16) (
 loop (Zxm x1 x3 x4 x9 x14) 0)))
noncomputable def Zzm (x1:Graph) (x2:(List narthexlaw16_Act)) (x3:Int) (x4:(List Int)):Bool→Option Bool
| x7=>
 ifb x7 (
 (Zsk).bind fun x8=>
 some x8) (
 (Zal x1 x2 ((fun z=>Zsm z))).bind fun x9=>
 ifb (!x9.2) (
 (Zym x1 x3 x4 x9) true) (
 ifb (decide (x3<0)) (
 (Zym x1 x3 x4 x9) true) (
 ifb (decide (x1.N≤x3)) (
 (Zym x1 x3 x4 x9) true) (
 (at_ x9.1.Drinkers x3).bind fun x10=>
 (Zym x1 x3 x4 x9) (!decide (x10.Thirst=0))))))
noncomputable def Z0n (x1:Graph) (x2:(List narthexlaw16_Act)) (x3:Int) (x4:(List Int)):Option Bool:=
 (Zsk).bind fun x5=>
 ifb (!x5) (
 (Zzm x1 x2 x3 x4) true) (
 (Zgl x1 x2).bind fun x6=>
 ifb (!x6) (
 (Zzm x1 x2 x3 x4) true) (
 (Zzm x1 x2 x3 x4) (decide (20<(ln Zw4 x4)))))
theorem k_narthexlaw16_BarFree (x1:Graph) (x2:(List narthexlaw16_Act)) (x3:Int) (x4:(List Int)) (r:Bool) (h:Z0n x1 x2 x3 x4=some r):Zs2 Tryz.prog 7 [.agg (Graph.row x1),.sl 4 (List.map narthexlaw16_Act.row x2),.iv x3,.sl 1 (List.map Zw4 x4)] (.bv r):=by
 refine Zw2 ok7 rfl rfl fun w0 H0=>?_
 rw [Z0n] at h
 refine Zn2 8 ?_;dsimp only [go_sem];refine An ?_;obtain ⟨x5,ex5,h⟩:=Bs h;refine Z13 trivial (Ztk _ ex5) (h:=?_);refine Zn2 2 ?_;dsimp only [go_sem];refine An ?_;refine Zg4 (fun (x7:Bool)=>(⟨(.any :: .sl 4 (List.map narthexlaw16_Act.row x2) :: .iv x3 :: .sl 1 (List.map Zw4 x4) :: .ptr 0 0::an 24 (.bv x7::an 102 [])),[some ⟨53,[.iv x1.N,.sl 2 (List.map Edge.row x1.Edges)]⟩],[]⟩:St)) (Zzm x1 x2 x3 x4) r ?_ fun J1=>?_
 ·intro x7 h;rw [Zzm] at h;(try dsimp only);refine Zi4 h rfl (fun _ h=>?_) fun _ h=>?_
  ·refine Zn2 2 ?_;dsimp only [go_sem];refine An ?_;obtain ⟨x8,ex8,h⟩:=Bs h;refine Z13 trivial (Ztk _ ex8) (h:=?_);refine Zn2 2 ?_;dsimp only [go_sem];refine An ?_;exact Zq4 (res:=fun (r:Bool)=>.bv r) ok7 h
  ·refine Zn2 5 ?_;dsimp only [go_sem];refine An ?_;obtain ⟨x9,ex9,h⟩:=Bs h;refine Z13 trivial (Zbl x1 x2 _ _ ((fun z=>Zsm z)) ⟨by kernel_rfl,rfl,fun z r hz=>Ztm z r hz⟩ _ ex9) (h:=?_);refine Zn2 13 ?_;dsimp only [go_sem];refine An ?_
   refine Zg4 (fun (x11:Bool)=>(⟨(.any :: .any :: .iv x3 :: .sl 1 (List.map Zw4 x4) :: .ptr 0 0::an 4 (.ptr 1 0 :: .bv x9.2::an 46 (.bv x11::an 74 []))),[some ⟨53,[.iv x1.N,.sl 2 (List.map Edge.row x1.Edges)]⟩,some ⟨25,[.sl 5 (List.map Drinker.row x9.1.Drinkers),.sl 5 (List.map Mail.row x9.1.Mail)]⟩],[]⟩:St)) (Zym x1 x3 x4 x9) r ?_ fun J2=>?_
   ·intro x11 h;rw [Zym] at h;(try dsimp only);refine Zi4 h rfl (fun _ h=>?_) fun _ h=>?_
    ·refine Zn2 5 ?_;dsimp only [go_sem];refine An ?_;exact Zq4 (res:=fun (r:Bool)=>.bv r) ok7 h
    ·refine Zn2 4 ?_;dsimp only [go_sem];refine An ?_;obtain ⟨x12,ex12,h⟩:=Bs h;refine Z13 trivial (Z8j x9.1 _ ex12) (h:=?_);refine Zn2 3 ?_;dsimp only [go_sem];refine An ?_;obtain ⟨x13,ex13,h⟩:=Bs h;refine Zn4 Zw4 ex13 trivial rfl rfl rfl ?_;refine Za3 1 rfl ?_;dsimp only [go_sem];obtain ⟨x14,ex14,h⟩:=Bs h;refine Z13 trivial (Zni x12 x3 x13 _ ex14) (h:=?_);refine Zn2 13 ?_;dsimp only [go_sem];refine An ?_;refine Zi4 h rfl (fun _ h=>?_) fun _ h=>?_
     ·refine Zn2 6 ?_;dsimp only [go_sem];refine An ?_;exact Zq4 (res:=fun (r:Bool)=>.bv r) ok7 h
     ·refine Zn2 8 ?_;dsimp only [go_sem];refine An ?_;refine Zi4 h rfl (fun _ h=>?_) fun _ h=>?_
      ·refine Zn2 3 ?_;dsimp only [go_sem];refine An ?_;obtain ⟨x15,ex15,h⟩:=Bs h;refine Z13 trivial (Zdj x14.1 2 _ ex15) (h:=?_);refine Zn2 1 ?_;dsimp only [go_sem];refine An ?_;obtain ⟨x16,ex16,h⟩:=Bs h;refine Z13 trivial (Z9c x15 x3 _ ex16) (h:=?_);refine Zn2 2 ?_;dsimp only [go_sem];refine An ?_;exact Zq4 (res:=fun (r:Bool)=>.bv r) ok7 h
      ·refine Zn2 6 ?_;dsimp only [go_sem];refine An ?_;refine Zg4 (fun (_:Unit)=>(⟨(.any :: .any :: .iv x3 :: .any :: .ptr 0 0::an 6 (.ptr 2 0::an 120 [])),[some ⟨53,[.iv x1.N,.sl 2 (List.map Edge.row x1.Edges)]⟩,none,some ⟨25,[.sl 5 (List.map Drinker.row x14.1.Drinkers),.sl 5 (List.map Mail.row x14.1.Mail)]⟩],[]⟩:St)) (Zvm x1 x3 x14) r ?_ fun J3=>?_
       ·rintro ⟨⟩ h;rw [Zvm] at h;(try dsimp only);refine Zn2 8 ?_;dsimp only [go_sem];refine An ?_;obtain ⟨x42,ex42,h⟩:=Bs h;refine Z13 trivial (Zrm x14.1 (wr ((wr (60*(ln Edge.row x1.Edges)))+60)) _ ex42) (h:=?_);refine Zn2 11 ?_;dsimp only [go_sem];refine An ?_;refine Zg4 (fun (x45:Bool)=>(⟨(an 8 (.bv x45::an 123 [])),[],[]⟩:St)) Zum r ?_ fun J5=>?_
        ·intro x45 h;rw [Zum] at h;(try dsimp only);exact Zq4 (res:=fun (r:Bool)=>.bv r) ok7 h
        ·refine Zp4 126 h rfl (fun _ h=>?_) fun _ h=>?_
         ·dsimp only [go_sem];refine Zn2 1 ?_;dsimp only [go_sem];refine An ?_;obtain ⟨x43,ex43,h⟩:=Bs h;refine Z13 trivial (Zdj x42.1 2 _ ex43) (h:=?_);refine Zn2 1 ?_;dsimp only [go_sem];refine An ?_;obtain ⟨x44,ex44,h⟩:=Bs h;refine Z13 trivial (Z9c x43 x3 _ ex44) (h:=?_);refine Zn2 3 ?_;dsimp only [go_sem];refine An ?_;exact Zs4 J5 (s:=x44) h
         ·dsimp only [go_sem];refine Zn2 7 ?_;dsimp only [go_sem];refine An ?_;exact Zs4 J5 (s:=false) h
       ·refine Zn2 1 ?_;dsimp only [go_sem];refine An ?_;refine Zh4 h (fun (x26:Int)=>(⟨(.any :: .any :: .iv x3 :: .sl 1 (List.map Zw4 x4) :: .ptr 0 0::an 4 (.ptr 1 0 :: .any :: .ptr 2 0 :: .any :: .iv x26::an 118 [])),[some ⟨53,[.iv x1.N,.sl 2 (List.map Edge.row x1.Edges)]⟩,some ⟨25,[.sl 5 (List.map Drinker.row x9.1.Drinkers),.sl 5 (List.map Mail.row x9.1.Mail)]⟩,some ⟨25,[.sl 5 (List.map Drinker.row x14.1.Drinkers),.sl 5 (List.map Mail.row x14.1.Mail)]⟩],[]⟩:St)) (by simp [go_sem]) (by intro x26;first | rfl | simp [go_sem]) ?_
        rintro n1 x26 y1 h hin1 hout1;rw [Zxm] at h;(try dsimp only);refine Zn2 8 ?_;dsimp only [go_sem];refine An ?_;refine Zi4 h rfl (fun _ h=>?_) fun _ h=>?_
        ·refine Zn2 4 ?_;dsimp only [go_sem];refine An ?_;refine Zi3 (by kernel_rfl) fun all hall hs hnap haf=>?_;dsimp only [go_sem];refine Z65 hall hs haf hnap 4 6 ?_;dsimp only [go_sem];refine An ?_;obtain ⟨x27,ex27,h⟩:=Bs h;refine Zm4 hall hs haf hnap 4 Zw4 ex27 rfl rfl trivial rfl rfl rfl rfl ?_;refine Z65 hall hs haf hnap 1 4 ?_;dsimp only [go_sem];refine An ?_;obtain ⟨x28,ex28,h⟩:=Bs h;refine Zm4 hall hs haf hnap 6 Drinker.row ex28 rfl rfl trivial rfl rfl rfl rfl ?_;refine Z65 hall hs haf hnap 1 2 ?_;dsimp only [go_sem];refine An ?_
         refine Zt3 8 rfl ?_;refine Zy3 hall rfl trivial ?_;dsimp only [go_sem];refine Zt3 9 rfl ?_;refine Zy3 hall rfl trivial ?_;dsimp only [go_sem];refine Zs3 rfl ?_ _;refine Zn2 1 ?_;dsimp only [go_sem];refine An ?_
         refine Zg4 (fun (x32:Bool)=>(⟨(.any :: .any :: .iv x3 :: .sl 1 (List.map Zw4 x4) :: .ptr 0 0::an 4 (.ptr 1 0 :: .any :: .ptr 2 0 :: .any :: .iv x26::an 93 (.bv x32::an 24 []))),[some ⟨53,[.iv x1.N,.sl 2 (List.map Edge.row x1.Edges)]⟩,some ⟨25,[.sl 5 (List.map Drinker.row x9.1.Drinkers),.sl 5 (List.map Mail.row x9.1.Mail)]⟩,some ⟨25,[.sl 5 (List.map Drinker.row x14.1.Drinkers),.sl 5 (List.map Mail.row x14.1.Mail)]⟩],[]⟩:St)) (Zwm x1 x3 x4 x26) y1 ?_ fun J4=>?_
         ·intro x32 h;rw [Zwm] at h;(try dsimp only);refine Zi4 h rfl (fun _ h=>?_) fun _ h=>?_
          ·refine Zn2 1 ?_;dsimp only [go_sem];refine An ?_;refine Zi3 (by kernel_rfl) fun all hall hs hnap haf=>?_;dsimp only [go_sem];refine Z65 hall hs haf hnap 4 4 ?_;dsimp only [go_sem];refine An ?_;obtain ⟨x33,ex33,h⟩:=Bs h;refine Zm4 hall hs haf hnap 4 Zw4 ex33 rfl rfl trivial rfl rfl rfl rfl ?_;refine Z65 hall hs haf hnap 1 2 ?_;dsimp only [go_sem];refine An ?_;refine Zt3 6 rfl ?_;obtain ⟨x34,ex34,h⟩:=Bs h;refine Zz3 hall rfl trivial (Z5c x1 x3 x33 _ ex34) (h:=?_);dsimp only [go_sem]
           refine Z65 hall hs haf hnap 1 0 ?_;dsimp only [go_sem];refine An ?_;refine Zs3 rfl ?_ _;exact Zq4 (res:=fun (r:Bool)=>.bv r) ok7 (Zf4 h hout1)
          ·refine Zn2 7 ?_;dsimp only [go_sem];refine An ?_;exact Zr4 h hin1
         ·refine Zi3 (by kernel_rfl) fun all hall hs hnap haf=>?_;dsimp only [go_sem];refine Z65 hall hs haf hnap 3 11 ?_;dsimp only [go_sem];refine An ?_;refine Zt3 3 rfl ?_;obtain ⟨x29,ex29,h⟩:=Bs h;refine Zz3 hall rfl trivial (Z9c x28.Need x3 _ ex29) (h:=?_);dsimp only [go_sem];refine Z65 hall hs haf hnap 1 9 ?_;dsimp only [go_sem];refine An ?_;refine Zz4 98 h rfl (fun _ h=>?_) fun _ h=>?_
          ·dsimp only [go_sem];refine Z75 hall hs haf hnap 9 0 [14] [(99,[.un,.un,.un,.un,.un,.un,.un,.un,.tt])] (by kernel_rfl) ?_;dsimp only [go_sem];refine Zs3 rfl ?_ _;exact Zs4 J4 (s:=true) h
          ·dsimp only [go_sem];refine Z65 hall hs haf hnap 4 5 ?_;dsimp only [go_sem];refine An ?_;obtain ⟨x30,ex30,h⟩:=Bs h;refine Zm4 hall hs haf hnap 9 Zw4 ex30 rfl rfl trivial rfl rfl rfl rfl ?_;refine Z65 hall hs haf hnap 1 3 ?_;dsimp only [go_sem];refine An ?_;refine Zt3 11 rfl ?_;obtain ⟨x31,ex31,h⟩:=Bs h;refine Zz3 hall rfl trivial (Z5c x1 x3 x30 _ ex31) (h:=?_);dsimp only [go_sem];refine Z65 hall hs haf hnap 2 0 ?_;dsimp only [go_sem];refine An ?_;refine Zs3 rfl ?_ _;exact Zs4 J4 (s:=!x31) h
        ·refine Zn2 1 ?_;dsimp only [go_sem];refine An ?_;exact Zs4 J3 (s:=()) (Zf4 h hout1)
   ·refine Zp4 39 h rfl (fun _ h=>?_) fun _ h=>?_
    ·dsimp only [go_sem];refine Zn2 19 ?_;dsimp only [go_sem];refine An ?_;exact Zs4 J2 (s:=true) h
    ·dsimp only [go_sem];refine Zn2 4 ?_;dsimp only [go_sem];refine An ?_;refine Zp4 43 h rfl (fun _ h=>?_) fun _ h=>?_
     ·dsimp only [go_sem];refine Zn2 15 ?_;dsimp only [go_sem];refine An ?_;exact Zs4 J2 (s:=true) h
     ·dsimp only [go_sem];refine Zn2 6 ?_;dsimp only [go_sem];refine An ?_;refine Zp4 49 h rfl (fun _ h=>?_) fun _ h=>?_
      ·dsimp only [go_sem];refine Zn2 9 ?_;dsimp only [go_sem];refine An ?_;exact Zs4 J2 (s:=true) h
      ·dsimp only [go_sem];refine Zn2 3 ?_;dsimp only [go_sem];refine An ?_;obtain ⟨x10,ex10,h⟩:=Bs h;refine Zl4 Drinker.row ex10 trivial rfl rfl rfl ?_;refine Zn2 5 ?_;dsimp only [go_sem];refine An ?_;exact Zs4 J2 (s:=!decide (x10.Thirst=0)) h
 ·refine Zp4 19 h rfl (fun _ h=>?_) fun _ h=>?_
  ·dsimp only [go_sem];refine Zn2 11 ?_;dsimp only [go_sem];refine An ?_;exact Zs4 J1 (s:=true) h
  ·dsimp only [go_sem];refine Zn2 2 ?_;dsimp only [go_sem];refine An ?_;obtain ⟨x6,ex6,h⟩:=Bs h;refine Z13 trivial (Zhl x1 x2 _ ex6) (h:=?_);refine Zn2 3 ?_;dsimp only [go_sem];refine An ?_;refine Zp4 25 h rfl (fun _ h=>?_) fun _ h=>?_
   ·dsimp only [go_sem];refine Zn2 5 ?_;dsimp only [go_sem];refine An ?_;exact Zs4 J1 (s:=true) h
   ·dsimp only [go_sem];refine Zn2 5 ?_;dsimp only [go_sem];refine An ?_;exact Zs4 J1 (s:=decide (20<(ln Zw4 x4))) h
theorem Rest.small {g:Graph} {s:Bar} (hg:okG g=true) (h:Rest g s):s.Mail.length≤1600∧phiB g s≤34*g.Edges.length:=by
 have h1:=h.fork.mails hg
 have h2:=phiB_le h.fork
 have h3:=(Ze7 hg).2.2.1
 exact ⟨by omega,h2⟩
def needs (s:Bar):List (List Int):=s.Drinkers.map (·.Need)
theorem s_quietB {g:Graph} (hg:okG g=true) (hN:g.N≤60) (most:Int) (hm:most≤1000000):∀(n i:Nat) (s:Bar),Rest g s→phiB g s≤n→(i:Int)+n≤most→
  ∃t,loop (Zpm most) ((i:Int),s)=some (t,true)∧t.Mail=[]∧Rest g t∧t.Drinkers.map tq=s.Drinkers.map tq∧needs t=needs s:=fun n=>by
 have done:∀(i:Nat) (s:Bar),s.Mail=[]→loop (Zpm most) ((i:Int),s)=some (s,true):=fun i s he=>by
  rw [Ze4]
  dsimp only [Zpm]
  have e1:decide (0<ln Mail.row s.Mail)=false:=by rw [Zy4,he];rfl
  have e2:decide (ln Mail.row s.Mail=0)=true:=by rw [Zy4,he];rfl
  have e3:Zom i s false=some (.inr (s,true)):=by
   dsimp only [Zom,Zmm]
   rw [Zw5,e2];rfl
  rw [e1,e3]
  cases decide ((i:Int)<most)<;>rfl
 have go:∀(i:Nat) (s:Bar) (m:Mail) (M:List Mail),Rest g s→s.Mail=m::M→(i:Int)<most→∃t,Rest g t∧phiB g t+1≤phiB g s∧t.Drinkers.map tq=s.Drinkers.map tq∧needs t=needs s∧
   loop (Zpm most) ((i:Int),s)=loop (Zpm most) (((i+1:Nat):Int),t):=fun i s m M h hM hi=>by
  have h0:s.Mail[0]?=some m:=by rw [hM];rfl
  obtain ⟨t,e1,e2,e3,e4,e5⟩:=h.step hg hN h0
  refine ⟨t,e2,e3,e4,e5,?_⟩
  have hs:=(h.small hg).1
  have hF:=h.inv.fewL hg
  rw [Ze4]
  dsimp only [Zpm]
  have a0:at_ s.Mail 0=some m:=Zz5 (k:=0) h0
  have l0:decide (0<ln Mail.row s.Mail)=true:=by rw [Zy4];exact decide_eq_true (by rw [hM,List.length_cons];omega)
  rw [decide_eq_true hi,Zv5,l0]
  dsimp only [Zom]
  rw [Zv5,a0,Option.bind_some,Option.bind_some,s_own16 s hF (by omega),Option.bind_some,Znk s m.From m.To hF (by omega),Option.bind_some,e1]
  dsimp only [Znm]
  rw [show decide ((0:Int)=0)=true from rfl,Bool.not_true,Zw5,Z36 (by omega)]
 induction n with
 | zero=>
   intro i s h hp hi
   cases hM:s.Mail with
   | nil=>exact ⟨s,done i s hM,hM,h,rfl,rfl⟩
   | cons m M=>
     obtain ⟨t,_,_,e3,_,_⟩:=h.step hg hN (m:=m) (by rw [hM];rfl)
     omega
 | succ n ih=>
   intro i s h hp hi
   cases hM:s.Mail with
   | nil=>exact ⟨s,done i s hM,hM,h,rfl,rfl⟩
   | cons m M=>
     obtain ⟨t,e2,e3,e4,e5,e6⟩:=go i s m M h hM (by omega)
     obtain ⟨u,u1,u2,u3,u4,u5⟩:=ih (i+1) t e2 (by omega) (by omega)
     exact ⟨u,e6.trans u1,u2,u3,u4.trans e4,u5.trans e5⟩
theorem s_bQuiet {g:Graph} (hg:okG g=true) (hN:g.N≤60) {s:Bar} (h:Rest g s):∃t,Zqm s (wr (wr (60*ln Edge.row g.Edges)+60))=some (t,true)∧t.Mail=[]∧Rest g t∧t.Drinkers.map tq=s.Drinkers.map tq∧needs t=needs s:=by
 have h3:=(Ze7 hg).2.2.1
 have hp:=(h.small hg).2
 rw [Zy4,Zy5 (n:=60*(g.Edges.length:Int)) (by omega) (by omega),Zy5 (by omega) (by omega)]
 exact s_quietB hg hN (60*(g.Edges.length:Int)+60) (by omega) (phiB g s) 0 s h (Nat.le_refl _) (by omega)
theorem fireN_tq:∀(n:Nat) (d:Drinker) (out:List Mail),tq (fireN n d out).1=tq d
 | 0,_,_=>rfl
 | n+1,d,out=>by
   unfold fireN
   split
   ·rfl
   ·rw [fireN_tq n,once_tq]
theorem fireDr_tq (d:Drinker):tq (fireDr d).1=tq d:=fireN_tq 300 d []
def sz (d:Drinker):Bool:=decide (d.Thirst=1)
theorem InvB.ids {g:Graph} {s:Bar} (h:InvB g s) (k:Nat) (d:Drinker) (hd:s.Drinkers[k]?=some d):d.Diner.ID=k:=(h.tab.shp k _ (Zxk hd)).1
theorem who_iff {g:Graph} {s:Bar} (h:InvB g s) (t:Int) (k:Nat) (d:Drinker) (hd:s.Drinkers[k]?=some d):d.Thirst=t↔(k:Int)∈whoL s.Drinkers t:=by
 refine ⟨fun e=>?_,fun hm=>?_⟩
 ·unfold whoL
  refine List.mem_map.2 ⟨d,?_,h.ids k d hd⟩
  rw [List.mem_filter]
  exact ⟨List.mem_iff_getElem?.2 ⟨k,hd⟩,decide_eq_true e⟩
 ·obtain ⟨d',h1,h2,h3,h4⟩:=mem_who h hm
  rw [Int.toNat_natCast,hd] at h1
  have:d=d':=by simpa using h1
  rw [this];exact h4
def nq (s:Bar):Nat:=(s.Drinkers.map tq).count false
theorem open_or {g:Graph} {s:Bar} (hg:okG g=true) (hN:g.N≤60) (h:InvB g s) {a:Int} (need:List Int) {d:Drinker} (a0:0≤a) (hd:s.Drinkers[a.toNat]?=some d) (h0:d.Thirst=0):
  (Zik s a fun d=>Zdf d need).2=151∨(Zik s a fun d=>Zdf d need).2=0:=by
 have hlt:=(List.getElem?_eq_some_iff.1 hd).1
 have ht:Z9k s a=true:=Zbk.2 ⟨a0,by omega⟩
 obtain ⟨d',hd1,hd'⟩:=Zck ht
 have e:d'=d:=by rw [hd] at hd';simpa using hd'.symm
 subst e
 cases ho:need.any (Zcf d'.Diner) with
 | true=>
   left
   unfold Zik
   rw [h.ok hg hN,if_pos rfl,ht,if_pos rfl,hd1]
   dsimp only
   unfold Zdf
   rw [h.okDr hg hN (List.mem_iff_getElem?.2 ⟨_,hd⟩),if_pos rfl,if_pos h0,ho,if_pos rfl]
   rfl
 | false=>
   right
   have:=(open_inv hg hN h a need).1
   unfold Zik at this ⊢
   rw [h.ok hg hN,if_pos rfl,ht,if_pos rfl,hd1] at this ⊢
   dsimp only at this ⊢
   unfold Zdf at this ⊢
   rw [h.okDr hg hN (List.mem_iff_getElem?.2 ⟨_,hd⟩),if_pos rfl,if_pos h0,ho,if_neg (by simp)] at this ⊢
   unfold Zhk at this ⊢
   dsimp only at this ⊢
   rw [if_pos rfl] at this ⊢
   split
   ·rfl
   ·rename_i hc
    rw [if_neg hc] at this
    exact absurd this (by decide)
theorem p_narthexlaw16_BarFree (g:Graph) (l:List narthexlaw16_Act) (a:Int) (need:List Int):Z0n g l a need=some true:=by
 have yes:Zzm g l a need true=some true:=by
  simp only [Zzm,Zv5,s_awake16,Option.bind_some]
 simp only [Z0n,s_awake16,Option.bind_some,Bool.not_true,Zw5,s_few16]
 cases hf:fewA g l with
 | false=>rw [Bool.not_false,Zv5];exact yes
 | true=>
   obtain ⟨hN,hg,hl,hn⟩:=fewA_iff hf
   rw [Bool.not_true,Zw5,Zy4]
   by_cases hnl:(20:Int)<need.length
   ·rw [decide_eq_true hnl];exact yes
   rw [decide_eq_false hnl]
   simp only [Zzm,Zw5]
   obtain ⟨h1,h2,h3⟩:=s_run16 hg (by omega) (J:=Rest g) (fun _ h=>h.inv) (Rest.first hg) (fun s k a b n h he=>h.actR hg (by omega) k a b n he) l hl (fun a ha=>by have:=hn a ha;omega) (fun z=>Zsm z) (fun s h hM=>rfl)
   rw [h1,Option.bind_some]
   dsimp only
   rw [Bool.not_true,Zw5]
   generalize Zql g l=s at h2 h3 ⊢
   have yes2:Zym g a need (s,true) true=some true:=rfl
   by_cases ha0:a<0
   ·rw [decide_eq_true ha0,Zv5];exact yes2
   rw [decide_eq_false ha0,Zw5]
   by_cases ha1:g.N≤a
   ·rw [decide_eq_true ha1,Zv5];exact yes2
   rw [decide_eq_false ha1,Zw5]
   obtain ⟨d,hd⟩:=h2.inv.get (a:=a) (by omega) (by omega)
   have had:at_ s.Drinkers a=some d:=by
    have:=Zz5 hd
    rwa [Int.toNat_of_nonneg (by omega)] at this
   rw [had,Option.bind_some]
   by_cases ht0:d.Thirst=0
   ·rw [decide_eq_true ht0,Bool.not_true]
    have hF:=h2.inv.fewL hg
    simp only [Zym,Zw5,s_own16 s hF (show s.Mail.length≤900000 by omega),Option.bind_some]
    rw [Z06 _ _ (by omega) (by simp only [List.length_nil];omega),Option.bind_some,List.nil_append,Zkk s a need hF (by omega) (by omega),Option.bind_some]
    rcases open_or hg (by omega) h2.inv need (by omega) hd ht0 with ho | ho
    ·rw [ho];rfl
    ·obtain ⟨d',a0,hd',_,hnear,hI,hx⟩:=open_eq hg (by omega) h2.inv ho
     have e:d'=d:=by rw [hd] at hd';simpa using hd'.symm
     subst e
     obtain ⟨r,hr0⟩:=h2.fork.edge
     have hlt:=(List.getElem?_eq_some_iff.1 hd).1
     have hRx:Rest g (Zgk s a ⟨d'.Diner,1,Ztc need⟩):=Rest.act hg (by omega) h2.calm hlt ⟨hI,r,hr0.drk hg h2.inv hd _ _⟩
     have hpair:(Zik s a fun d=>Zdf d need)=(Zgk s a ⟨d'.Diner,1,Ztc need⟩,0):=Prod.ext hx ho
     rw [hpair]
     dsimp only
     rw [show decide ((0:Int)=0)=true from rfl,Bool.not_true,Zw5,Zy4]
     have hdx:(Zgk s a ⟨d'.Diner,1,Ztc need⟩).Drinkers[a.toNat]?=some (NX.fireDr ⟨d'.Diner,1,Ztc need⟩).1:=Zil hd
     have hneed:(NX.fireDr ⟨d'.Diner,1,Ztc need⟩).1.Need=Ztc need:=(Zek _).2
     have htq:tq (NX.fireDr ⟨d'.Diner,1,Ztc need⟩).1=false:=(fireDr_tq _).trans rfl
     by_cases hn0:need.length=0
     ·rw [decide_eq_true (show (need.length:Int)=0 by omega),Zv5,s_Who _ 2 (hRx.inv.fewL hg),Option.bind_some]
      have hnil:need=[]:=List.eq_nil_of_length_eq_zero hn0
      have hT:(NX.fireDr ⟨d'.Diner,1,Ztc need⟩).1.Thirst=2:=by
       have hm:=List.mem_iff_getElem?.2 ⟨_,hdx⟩
       have hC:=hRx.calm _ hm
       have hL:=hRx.inv.th _ hm
       have l1:=hL.lo
       have l2:=hL.hi
       have n1:(NX.fireDr ⟨d'.Diner,1,Ztc need⟩).1.Thirst≠1:=fun e=>by
        obtain ⟨x,_,hx2,_⟩:=hC.lack e
        unfold Zae at hx2
        rw [hneed] at hx2
        have h5:=((Z3l need).2 x.Peer).1 (by simpa using hx2)
        rw [hnil] at h5;simp at h5
       have n0:(NX.fireDr ⟨d'.Diner,1,Ztc need⟩).1.Thirst≠0:=fun e=>by unfold tq at htq;rw [e] at htq;simp at htq
       omega
      have hm:=(who_iff hRx.inv 2 _ _ hdx).1 hT
      rw [Int.toNat_of_nonneg a0] at hm
      have hwl:=whoL_len (Zgk s a ⟨d'.Diner,1,Ztc need⟩).Drinkers 2
      have:=(hRx.inv.few hg).1
      rw [s_r01Has _ _ (by omega),Option.bind_some,decide_eq_true hm]
     ·rw [decide_eq_false (show ¬(need.length:Int)=0 by omega),Zw5]
      obtain ⟨g1,g2,g3,g4,g5⟩:=Ze7 hg
      refine loop_ppI need (Zxm g a need (s,true) (Zgk s a ⟨d'.Diner,1,Ztc need⟩,0)) (fun pre=>(pre.length:Int)) (fun _ _=>some true) (fun pre=>∀b∈pre,∀o,s.Drinkers[b.toNat]?=some o→a∉o.Need) (fun pre b post h hP=>?_) (fun hP=>?_) need [] rfl (by simp)
      ·have hx:=Zo7 h
       have hm:=Zp7 h
       have hbn:=hnear b (Zq7 h)
       obtain ⟨b0,b1,_⟩:=Zwc hg hbn
       obtain ⟨o,hob⟩:=h2.inv.get b0 b1
       have hao:at_ s.Drinkers b=some o:=by
        have:=Zz5 hob
        rwa [Int.toNat_of_nonneg b0] at this
       have hon:=(hF.2 o (List.mem_iff_getElem?.2 ⟨_,hob⟩)).2
       have hhas:hasB g a b=true:=(hasB_iff hg).2 hbn
       dsimp only [Zxm]
       rw [Z16 hx,Zv5,Zz5 hx,Option.bind_some,hao,Option.bind_some,s_r01Has _ _ (by omega),Option.bind_some,Option.bind_some,s_r03Has g a b (by omega),Option.bind_some,hhas]
       by_cases hn1:a∈o.Need
       ·right
        refine ⟨true,?_,rfl⟩
        rw [decide_eq_true hn1,Zv5]
        dsimp only [Zwm]
        rw [Zv5,Zz5 hx,Option.bind_some,s_r03Has g a b (by omega),Option.bind_some,hhas]
        rfl
       ·left
        refine ⟨?_,fun c hc o' ho'=>?_,rfl⟩
        ·rw [decide_eq_false hn1,Zw5,Bool.not_true]
         dsimp only [Zwm]
         rw [Zw5,Zt7,Z36 (by omega)]
        ·rcases List.mem_append.1 hc with hc | hc
         ·exact hP c hc o' ho'
         ·rw [List.mem_singleton] at hc
          subst hc
          rw [hob] at ho'
          have:o=o':=by simpa using ho'
          rw [←this];exact hn1
      ·obtain ⟨t,t1,t2,t3,t4,t5⟩:=s_bQuiet hg (by omega) hRx
       have hall:a∈whoL t.Drinkers 2:=by
        obtain ⟨e,he⟩:=t3.inv.get (a:=a) a0 (by omega)
        have eTq:tq e=false:=by
         have:=congrArg (fun q:List Bool=>q[a.toNat]?) t4
         rw [List.getElem?_map,List.getElem?_map,he,hdx] at this
         simp only [Option.map_some,Option.some.injEq] at this
         rw [this];exact htq
        have nd:∀(k:Nat) u v,t.Drinkers[k]?=some u→(Zgk s a ⟨d'.Diner,1,Ztc need⟩).Drinkers[k]?=some v→u.Need=v.Need:=fun k u v hu hv=>by
         have:=congrArg (fun q:List (List Int)=>q[k]?) t5
         unfold needs at this
         rw [List.getElem?_map,List.getElem?_map,hu,hv] at this
         simpa using this
        have hem:=List.mem_iff_getElem?.2 ⟨_,he⟩
        have hL:=t3.inv.th e hem
        have l1:=hL.lo
        have l2:=hL.hi
        have n0:e.Thirst≠0:=fun q=>by unfold tq at eTq;rw [q] at eTq;simp at eTq
        have n1:e.Thirst≠1:=fun q=>by
         obtain ⟨x,hx1,hx2,hx3⟩:=(t3.calm e hem).lack q
         obtain ⟨b,o,hb1,hb2,hb3,_⟩:=t3.lack hg t2 he q hx1 hx2 hx3
         unfold Zae at hx2
         rw [nd _ _ _ he hdx,hneed] at hx2
         have hxn:x.Peer∈need:=((Z3l need).2 x.Peer).1 (by simpa using hx2)
         have hne:=(Zwc hg (hnear _ hxn)).2.2.1
         have hba:a.toNat≠b:=by omega
         obtain ⟨o0,ho0⟩:=h2.inv.get (Zwc hg (hnear _ hxn)).1 (Zwc hg (hnear _ hxn)).2.1
         have eb:x.Peer.toNat=b:=by omega
         have hox:(Zgk s a ⟨d'.Diner,1,Ztc need⟩).Drinkers[b]?=some o0:=by
          show (s.Drinkers.set a.toNat _)[b]?=some o0
          rw [List.getElem?_set,if_neg hba,←eb];exact ho0
         rw [nd b o o0 hb2 hox,Int.toNat_of_nonneg a0] at hb3
         exact hP _ hxn o0 ho0 hb3
        have:=(who_iff t3.inv 2 _ _ he).1 (by omega)
        rwa [Int.toNat_of_nonneg a0] at this
       have hwl:=whoL_len t.Drinkers 2
       have:=(t3.inv.few hg).1
       dsimp only [Zxm]
       rw [Z26,Zw5]
       dsimp only [Zvm]
       rw [t1,Option.bind_some]
       dsimp only
       rw [Zv5,s_Who t 2 (t3.inv.fewL hg),Option.bind_some,s_r01Has _ _ (by omega),Option.bind_some,decide_eq_true hall]
       rfl
   ·rw [decide_eq_false ht0,Bool.not_false];exact yes2
end NX
end Go.Proofs.YtacfbmldajmjiaaGreat
