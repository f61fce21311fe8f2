/-
  The function narthex/bar.Check$1: its code compiled, a model, and that the code answers as the model. Written by a program of ours (lb.py). No statement of the seat is proved here.
-/
import Derived.KernelRfl
import Derived.Test.YtacfbmldajmjiaaGreatV2
import Derived.Test.YtacfbmldajmjiaaGreatV1
import Derived.Test.YtacfbmldajmjiaaGreatV3
namespace Go.Proofs.YtacfbmldajmjiaaGreat
namespace NX
open Go
set_option maxRecDepth 100000
set_option maxHeartbeats 4000000
@[go_sem] def e57:EC:=.seq (.reg [(Qx 1 63 5 0),(Qa 2 (.mv (.c .ff)))]) (.seq (.reg [(Qe 3 5 1),(Qa 4 (.call 58 [(.t 3)])),(Qa 5 (.bin .neq (.t 4) (.c (.iv 0)))),(Qm 2 5)]) (.ret))
theorem ok57:FnOK Tryz.prog 57 Tryz.f57 e57 [.t 2] 1 5:=⟨by kernel_rfl,⟨_,rfl,by kernel_rfl⟩,by kernel_rfl,by kernel_rfl⟩
noncomputable def Z8i (x1:Drinker):Option Bool:=
 (Zla x1).bind fun x2=>
 some (!decide (x2=0))
theorem k_bar_Check_1 (x1:Drinker) (r:Bool) (h:Z8i x1=some r):Zp2 Tryz.prog 57 [.agg (Drinker.row x1)] (.bv r):=by
 refine Zt2 ok57 rfl rfl fun w0 H0=>?_
 rw [Z8i] at h
 refine Zk2 8 ?_;dsimp only [go_sem];refine An ?_;obtain ⟨x2,ex2,h⟩:=Bs h;refine Zy2 trivial (Zma x1 _ ex2) (h:=?_);refine Zk2 3 ?_;dsimp only [go_sem];refine An ?_;exact Zo4 (res:=fun (r:Bool)=>.bv r) ok57 h
set_option maxRecDepth 100000
set_option maxHeartbeats 4000000
@[go_sem] def e71:EC:=.seq (.reg [(Qa 2 (.mv (.c .nl)))]) (.seq (.seq (.reg [(Qm 3 0),(Qa 4 (.isnil false (.t 3)))]) (.ite (.t 4) (.seq (.reg [(Qa 2 (.mv (.c .nl)))]) (.ret)) (.skip))) (.seq (.reg [(Qa 5 (.bsl 95 5 0 [.iv 0,.iv 0,.iv 0,.iv 0,.iv 0] [])),(Qm 6 0),(Qa 7 (.app 95 5 40 (.t 5) (.t 6))),(Qm 2 7)]) (.ret)))
theorem ok71:FnOK Tryz.prog 71 Tryz.f71 e71 [.t 2] 1 7:=⟨by kernel_rfl,⟨_,rfl,by kernel_rfl⟩,by kernel_rfl,by kernel_rfl⟩
noncomputable def Z9i (x1:(List Mail)):Option (List Mail):=Z84 40 [] x1
theorem Zai (x1:(List Mail)) (r:(List Mail)) (h:Z9i x1=some r):FunO Tryz.prog 71 [.sl 5 (List.map Mail.row x1)] 95 5 (List.map Mail.row r):=by
 refine Z25 ok71 rfl fun w0 H0=>?_
 rw [Z9i] at h
 refine Zk2 100 ?_
 dsimp only [e71,go_sem]
 refine ⟨by simp,?_⟩
 refine V_isnil trivial rfl (fun hn=>?_) ?_
 ·refine Zk2 100 ?_
  dsimp only [go_sem]
  refine ⟨by simp,?_⟩
  refine V_own 2 95 5 rfl rfl ?_
  dsimp only [go_sem]
  have hn:x1=[]:=by simpa using hn
  subst hn
  exact Z75 Mail.row (e:=[]) ok71 (by simpa [Z84] using h) rfl rfl
 ·refine Zk2 100 ?_
  dsimp only [go_sem]
  refine ⟨by simp,?_⟩
  refine Zl4 Mail.row h trivial rfl rfl rfl ?_
  refine Zk2 100 ?_
  dsimp only [go_sem]
  refine ⟨by simp,?_⟩
  exact Z75 Mail.row ok71 (rfl:some r=some r) rfl rfl
set_option maxRecDepth 100000
set_option maxHeartbeats 4000000
@[go_sem] def e26_L0:EC:=.seq (.reg [(Qa 15 (.bin .lss (.t 14) (.t 13)))]) (.seq (.ite (.t 15) (.skip) (.exit 0)) (.seq (.blk 1 (.seq (.reg [(Qk 16 5 12 14),(Qe 17 5 16),(Qa 5 (.alloc 63 [.iv 0,.iv 0,.nl,.iv 0,.nl])),(Qs 5 5 17)]) (.seq (.reg [(Qf 18 0 5),(Qe 19 3 18),(Qa 6 (.alloc 61 [.iv 0,.iv 0,.nl])),(Qs 3 6 19)]) (.seq (.reg [(Qf 20 2 6),(Ql 21 20),(Qa 22 (.call 72 [(.t 21)])),(Qf 23 2 6),(Qs 1 23 22)]) (.reg [(Qf 24 0 3),(Ql 25 24),(Qe 26 3 6),(Qa 27 (.bsl 61 3 1 [.iv 0,.iv 0,.nl] [(0,(.t 26))])),(Qa 28 (.app 61 3 40 (.t 25) (.t 27))),(Qf 29 0 3),(Qs 1 29 28)]))))) (.reg [(Qv 30 14 1),(Qm 14 30)])))
@[go_sem] def e26:EC:=.seq (.reg [(Qx 1 25 2 0),(Qa 2 (.alloc 48 [.nl,.nl]))]) (.seq (.reg [(Qf 7 1 1),(Ql 8 7),(Qa 9 (.call 71 [(.t 8)])),(Qa 10 (.build [.nl,.nl] [(1,1,(.t 9))])),(Qa 3 (.alloc 48 [.nl,.nl])),(Qs 2 3 10)]) (.seq (.seq (.reg [(Qf 11 0 1),(Ql 12 11),(Qa 13 (.len (.t 12))),(Qi 14 0)]) (.blk 0 (.loop e26_L0))) (.seq (.reg [(Qe 31 2 3),(Qs 2 2 31)]) (.ret))))
theorem ok26:FnOK Tryz.prog 26 Tryz.f26 e26 [.c 2 (some 2)] 1 31:=⟨by kernel_rfl,⟨_,rfl,by kernel_rfl⟩,by kernel_rfl,by kernel_rfl⟩
noncomputable def Zbi (x2:(List Mail)):(List Diner)→Option Scene
| x20=>
 some (Scene.mk x20 x2)
noncomputable def Zci (x1:Bar) (x2:(List Mail)):(Int×(List Diner))→Option ((Int×(List Diner)) ⊕ Scene)
| (x8,x9)=>
 ifb (decide (x8<(ln Drinker.row x1.Drinkers))) (
 (at_ x1.Drinkers x8).bind fun x10=>
 (Zn9 x10.Diner.Sides).bind fun x11=>
 (Z84 40 x9 ([(Diner.mk x10.Diner.ID x10.Diner.Phase x11)])).bind fun x12=>
 some (.inl (wr (x8+1),x12))) (
 Option.map Sum.inr ((Zbi x2) x9))
noncomputable def Zdi (x1:Bar):Option Scene:=
 (Z9i x1.Mail).bind fun x2=>
 loop (Zci x1 x2) (0,([]:List Diner))
theorem Zei (x1:Bar) (r:Scene) (h:Zdi x1=some r):Zp2 Tryz.prog 26 [.agg (Bar.row x1)] (.agg (Scene.row r)):=by
 refine Zt2 ok26 rfl rfl fun w0 H0=>?_
 rw [Zdi] at h
 refine Zk2 9 ?_;dsimp only [go_sem];refine An ?_;obtain ⟨x2,ex2,h⟩:=Bs h;refine Z35 trivial (Zai x1.Mail _ ex2) (h:=?_);refine Zk2 12 ?_;dsimp only [go_sem];refine An ?_;refine Ze4 (fun (x20:(List Diner))=>(⟨(.any :: .any :: .ptr 1 0 :: .ptr 2 0::an 28 []),[none,some ⟨48,[.nl,.nl]⟩,some ⟨48,[.osl 1,.osl 0]⟩],[some ⟨95,5,List.map Mail.row x2⟩,some ⟨61,3,List.map Diner.row x20⟩]⟩:St)) (Zbi x2) r ?_ fun J1=>?_
 ·intro x20 h;rw [Zbi] at h;(try dsimp only);refine Zk2 5 ?_;dsimp only [go_sem];refine An ?_;refine Z73 1 rfl ?_;dsimp only [go_sem];refine Z73 0 rfl ?_;dsimp only [go_sem];exact Zo4 (res:=fun (r:Scene)=>.agg (Scene.row r)) ok26 h
 ·refine Zk2 1 ?_;dsimp only [go_sem];refine An ?_;refine Z24 2 0 61 3 rfl rfl rfl ?_;dsimp only [go_sem];refine Zf4 h (fun ((x8,x9):(Int×(List Diner)))=>(⟨(.any :: .any :: .ptr 1 0 :: .ptr 2 0::an 8 (.sl 5 (List.map Drinker.row x1.Drinkers) :: .iv (ln Drinker.row x1.Drinkers) :: .iv x8::an 17 [])),[none,some ⟨48,[.nl,.nl]⟩,some ⟨48,[.osl 1,.osl 0]⟩],[some ⟨95,5,List.map Mail.row x2⟩,some ⟨61,3,List.map Diner.row x9⟩]⟩:St)) (by simp [go_sem]) (by rintro ⟨x8,x9⟩;first | rfl | simp [go_sem]) ?_;rintro n1 ⟨x8,x9⟩ y1 h hin1 hout1;rw [Zci] at h
  (try dsimp only);refine Zk2 5 ?_;dsimp only [go_sem];refine An ?_;refine Zg4 h rfl (fun _ h=>?_) fun _ h=>?_
  ·refine Zk2 5 ?_;dsimp only [go_sem];refine An ?_;obtain ⟨x10,ex10,h⟩:=Bs h;refine Zj4 Drinker.row ex10 trivial rfl rfl rfl ?_;refine Zk2 15 ?_;dsimp only [go_sem];refine An ?_;obtain ⟨x11,ex11,h⟩:=Bs h;refine Z35 trivial (Zo9 x10.Diner.Sides _ ex11) (h:=?_);refine Zk2 7 ?_;dsimp only [go_sem];refine An ?_;refine Z73 2 rfl ?_;dsimp only [go_sem];refine Zk2 1 ?_;dsimp only [go_sem];refine An ?_;obtain ⟨x12,ex12,h⟩:=Bs h;refine Zl4 Diner.row ex12 trivial rfl rfl rfl ?_;refine Zk2 8 ?_;dsimp only [go_sem];refine An ?_
   refine Z14 4 1 rfl rfl rfl ?_;dsimp only [go_sem];exact Zp4 h hin1
  ·refine Zk2 1 ?_;dsimp only [go_sem];refine An ?_;exact Zq4 J1 (s:=x9) (Zd4 h hout1)
set_option maxRecDepth 100000
set_option maxHeartbeats 4000000
@[go_sem] def e109_L0:EC:=.seq (.reg [(Qa 9 (.bin .lss (.t 8) (.t 7)))]) (.seq (.ite (.t 9) (.skip) (.exit 0)) (.seq (.blk 1 (.seq (.reg [(Qm 10 8),(Qm 5 10)]) (.seq (.reg [(Qm 11 1),(Qm 12 0),(Qm 13 5),(Qk 14 5 12 13),(Qe 15 5 14),(Qa 16 (.callv (.t 11) [(.t 15)]))]) (.ite (.t 16) (.seq (.reg [(Qm 17 5),(Qm 4 17)]) (.ret)) (.skip))))) (.reg [(Qv 18 8 1),(Qm 8 18)])))
@[go_sem] def e109:EC:=.seq (.reg [(Qi 4 0)]) (.seq (.seq (.reg [(Qm 6 0),(Qa 7 (.len (.t 6))),(Qi 8 0)]) (.blk 0 (.loop e109_L0))) (.seq (.reg [(Qa 4 (.mv (.c (.iv (-1)))))]) (.ret)))
theorem ok109:FnOK Tryz.prog 109 Tryz.f109 e109 [.t 4] 2 17:=⟨by kernel_rfl,⟨_,rfl,by kernel_rfl⟩,by kernel_rfl,by kernel_rfl⟩
noncomputable def Zfi:Unit→Option Int
| ()=>
 some (-1)
noncomputable def Zgi (x1:(List Drinker)) (p1:(Drinker→Option Bool)):Int→Option (Int ⊕ Int)
| x5=>
 ifb (decide (x5<(ln Drinker.row x1))) (
 (at_ x1 x5).bind fun x6=>
 (p1 x6).bind fun x7=>
 ifb x7 (
 Option.map Sum.inr (some x5)) (
 some (.inl (wr (x5+1))))) (
 Option.map Sum.inr (Zfi ()))
noncomputable def Zhi (x1:(List Drinker)) (p1:(Drinker→Option Bool)):Option Int:=
 loop (Zgi x1 p1) 0
theorem Zii (x1:(List Drinker)) (g1:Nat) (caps1:List AV) (p1:(Drinker→Option Bool)) (hc1:CloOK Tryz.prog g1 caps1 (fun z=>[.agg (Drinker.row z)]) p1 (fun z=>.bv z)) (r:Int) (h:Zhi x1 p1=some r):Zp2 Tryz.prog 109 [.sl 5 (List.map Drinker.row x1),.clo g1 caps1] (.iv r):=by
 refine Zt2 ok109 rfl rfl fun w0 H0=>?_
 rw [Zhi] at h
 refine Zk2 11 ?_;dsimp only [go_sem];refine An ?_;refine Ze4 (fun (_:Unit)=>(⟨(an 19 []),[],[]⟩:St)) Zfi r ?_ fun J1=>?_
 ·rintro ⟨⟩ h;rw [Zfi] at h;(try dsimp only);refine Zk2 4 ?_;dsimp only [go_sem];refine An ?_;exact Zo4 (res:=fun (r:Int)=>.iv r) ok109 h
 ·refine Zk2 1 ?_;dsimp only [go_sem];refine An ?_;refine Zf4 h (fun (x5:Int)=>(⟨(.sl 5 (List.map Drinker.row x1) :: .clo g1 caps1::an 5 (.iv (ln Drinker.row x1) :: .iv x5::an 10 [])),[],[]⟩:St)) (by simp [go_sem]) (by intro x5;first | rfl | simp [go_sem,Z64 _ hc1.pu]) ?_;rintro n1 x5 y1 h hin1 hout1;rw [Zgi] at h;(try dsimp only);refine Zk2 5 ?_;dsimp only [go_sem];refine An ?_;refine Zg4 h rfl (fun _ h=>?_) fun _ h=>?_
  ·refine Zk2 13 ?_;dsimp only [go_sem];refine An ?_;obtain ⟨x6,ex6,h⟩:=Bs h;refine Zj4 Drinker.row ex6 trivial rfl rfl rfl ?_;refine Zk2 1 ?_;dsimp only [go_sem];refine An ?_;obtain ⟨x7,ex7,h⟩:=Bs h;refine Zt4 trivial rfl hc1 (x:=x6) ex7 (by first | exact Z74 _ | simp [go_sem]) (by first | rfl | simp [go_sem,hc1.pu]) ?_;refine Zk2 1 ?_;dsimp only [go_sem];refine An ?_;refine Zg4 h rfl (fun _ h=>?_) fun _ h=>?_
   ·refine Zk2 5 ?_;dsimp only [go_sem];refine An ?_;exact Zo4 (res:=fun (r:Int)=>.iv r) ok109 (Zd4 h hout1)
   ·refine Zk2 6 ?_;dsimp only [go_sem];refine An ?_;exact Zp4 h hin1 (hok:=by first | rfl | simp [go_sem,Z64 _ hc1.pu])
  ·refine Zk2 1 ?_;dsimp only [go_sem];refine An ?_;exact Zq4 J1 (s:=()) (Zd4 h hout1) (hok:=by first | rfl | simp [go_sem,Z64 _ hc1.pu])
set_option maxRecDepth 100000
set_option maxHeartbeats 4000000
@[go_sem] def e60:EC:=.seq (.reg [(Qa 4 (.mv (.c .ff)))]) (.seq (.reg [(Qm 5 0),(Qm 6 1),(Qa 7 (.call 109 [(.t 5),(.t 6)])),(Qa 8 (.bin .geq (.t 7) (.c (.iv 0)))),(Qm 4 8)]) (.ret))
theorem ok60:FnOK Tryz.prog 60 Tryz.f60 e60 [.t 4] 2 7:=⟨by kernel_rfl,⟨_,rfl,by kernel_rfl⟩,by kernel_rfl,by kernel_rfl⟩
noncomputable def Zji (x1:(List Drinker)) (p1:(Drinker→Option Bool)):Option Bool:=
 (Zhi x1 p1).bind fun x2=>
 some (decide (0≤x2))
theorem Zki (x1:(List Drinker)) (g1:Nat) (caps1:List AV) (p1:(Drinker→Option Bool)) (hc1:CloOK Tryz.prog g1 caps1 (fun z=>[.agg (Drinker.row z)]) p1 (fun z=>.bv z)) (r:Bool) (h:Zji x1 p1=some r):Zp2 Tryz.prog 60 [.sl 5 (List.map Drinker.row x1),.clo g1 caps1] (.bv r):=by
 refine Zt2 ok60 rfl rfl fun w0 H0=>?_
 rw [Zji] at h
 refine Zk2 8 ?_;dsimp only [go_sem];refine An ?_;obtain ⟨x2,ex2,h⟩:=Bs h;refine Zy2 trivial (Zii x1 _ _ p1 hc1 _ ex2) (hp:=(by first | rfl | simp [go_sem,hc1.pu])) (h:=?_);refine Zk2 3 ?_;dsimp only [go_sem];refine An ?_;exact Zo4 (res:=fun (r:Bool)=>.bv r) ok60 h
set_option maxRecDepth 100000
set_option maxHeartbeats 4000000
@[go_sem] def e17:EC:=.seq (.reg [(Qx 1 25 2 0),(Qi 2 0)]) (.seq (.reg [(Qa 3 (.mv (.c (.clo 57 []))))]) (.seq (.seq (.reg [(Qe 4 2 1),(Qa 5 (.call 26 [(.t 4)])),(Qa 6 (.call 59 [(.t 5)])),(Qa 7 (.bin .neq (.t 6) (.c (.iv 0)))),(Qm 8 7),(Qh 9 8 false 0 1),(Qn 10 8 false 9),(Qg 11 8 false (.mv (.t 3))),(Qg 12 8 false (.call 60 [(.t 10),(.t 11)])),(Qq 13 8 12)]) (.ite (.t 13) (.seq (.reg [(Qi 2 160)]) (.ret)) (.skip))) (.seq (.reg [(Qi 2 0)]) (.ret))))
theorem ok17:FnOK Tryz.prog 17 Tryz.f17 e17 [.t 2] 1 13:=⟨by kernel_rfl,⟨_,rfl,by kernel_rfl⟩,by kernel_rfl,by kernel_rfl⟩
noncomputable def Zli:Bool→Option Int
| x5=>
 ifb x5 (
 some 160) (
 some 0)
noncomputable def Zmi (x1:Bar):Option Int:=
 (Zdi x1).bind fun x2=>
 (Zig x2).bind fun x3=>
 ifb (!decide (x3=0)) (
 Zli true) (
 (Zji x1.Drinkers ((fun z=>Z8i z))).bind fun x4=>
 Zli x4)
theorem Zni (x1:Bar) (r:Int) (h:Zmi x1=some r):Zp2 Tryz.prog 17 [.agg (Bar.row x1)] (.iv r):=by
 refine Zt2 ok17 rfl rfl fun w0 H0=>?_
 rw [Zmi] at h
 refine Zk2 13 ?_;dsimp only [go_sem];refine An ?_;obtain ⟨x2,ex2,h⟩:=Bs h;refine Zy2 trivial (Zei x1 _ ex2) (h:=?_);obtain ⟨x3,ex3,h⟩:=Bs h;refine Zy2 trivial (k_table_Check x2 _ ex3) (h:=?_);refine Zk2 2 ?_;dsimp only [go_sem];refine An ?_;refine Ze4 (fun (x5:Bool)=>(⟨(an 13 [.bv x5]),[],[]⟩:St)) Zli r ?_ fun J1=>?_
 ·intro x5 h;rw [Zli] at h;(try dsimp only);refine Zg4 h rfl (fun _ h=>?_) fun _ h=>?_
  ·refine Zk2 4 ?_;dsimp only [go_sem];refine An ?_;exact Zo4 (res:=fun (r:Int)=>.iv r) ok17 h
  ·refine Zk2 5 ?_;dsimp only [go_sem];refine An ?_;exact Zo4 (res:=fun (r:Int)=>.iv r) ok17 h
 ·refine Zn4 8 h rfl (fun _ h=>?_) fun _ h=>?_
  ·dsimp only [go_sem];refine Zk2 6 ?_;dsimp only [go_sem];refine An ?_;exact Zq4 J1 (s:=true) h
  ·dsimp only [go_sem];refine Zk2 3 ?_;dsimp only [go_sem];refine An ?_;obtain ⟨x4,ex4,h⟩:=Bs h;refine Zy2 trivial (Zki x1.Drinkers _ _ ((fun z=>Z8i z)) ⟨by kernel_rfl,rfl,fun z r hz=>k_bar_Check_1 z r hz⟩ _ ex4) (h:=?_);refine Zk2 2 ?_;dsimp only [go_sem];refine An ?_;exact Zq4 J1 (s:=x4) h
set_option maxRecDepth 100000
set_option maxHeartbeats 4000000
@[go_sem] def e64:EC:=.seq (.reg [(Qx 2 25 2 0),(Qa 4 (.mv (.c .ff)))]) (.seq (.reg [(Qm 5 1),(Qa 6 (.bin .geq (.t 5) (.c (.iv 0)))),(Qm 7 6),(Qg 8 7 true (.mv (.t 1))),(Qh 9 7 true 0 2),(Qn 10 7 true 9),(Qg 11 7 true (.len (.t 10))),(Qg 12 7 true (.bin .lss (.t 8) (.t 11))),(Qp 13 7 12),(Qm 4 13)]) (.ret))
theorem ok64:FnOK Tryz.prog 64 Tryz.f64 e64 [.t 4] 2 12:=⟨by kernel_rfl,⟨_,rfl,by kernel_rfl⟩,by kernel_rfl,by kernel_rfl⟩
noncomputable def Zoi:Bool→Option Bool
| x3=>
 some x3
noncomputable def Zpi (x1:Bar) (x2:Int):Option Bool:=
 ifb (decide (0≤x2)) (
 Zoi (decide (x2<(ln Drinker.row x1.Drinkers)))) (
 Zoi false)
theorem Zqi (x1:Bar) (x2:Int) (r:Bool) (h:Zpi x1 x2=some r):Zp2 Tryz.prog 64 [.agg (Bar.row x1),.iv x2] (.bv r):=by
 refine Zt2 ok64 rfl rfl fun w0 H0=>?_
 rw [Zpi] at h
 refine Zk2 10 ?_;dsimp only [go_sem];refine An ?_;refine Ze4 (fun (x3:Bool)=>(⟨(an 4 (.bv x3::an 9 [])),[],[]⟩:St)) Zoi r ?_ fun J1=>?_
 ·intro x3 h;rw [Zoi] at h;(try dsimp only);exact Zo4 (res:=fun (r:Bool)=>.bv r) ok64 h
 ·refine Zn4 7 h rfl (fun _ h=>?_) fun _ h=>?_
  ·dsimp only [go_sem];refine Zk2 8 ?_;dsimp only [go_sem];refine An ?_;exact Zq4 J1 (s:=decide (x2<(ln Drinker.row x1.Drinkers))) h
  ·dsimp only [go_sem];refine Zk2 8 ?_;dsimp only [go_sem];refine An ?_;exact Zq4 J1 (s:=false) h
set_option maxRecDepth 100000
set_option maxHeartbeats 4000000
@[go_sem] def e89_L0:EC:=.seq (.reg [(Qa 48 (.bin .lss (.t 47) (.t 46)))]) (.seq (.ite (.t 48) (.skip) (.exit 0)) (.seq (.blk 1 (.seq (.reg [(Qm 49 47),(Qk 50 5 45 47),(Qe 51 5 50),(Qa 13 (.alloc 63 [.iv 0,.iv 0,.nl,.iv 0,.nl])),(Qm 12 49),(Qs 5 13 51)]) (.seq (.seq (.reg [(Qm 52 12),(Qm 53 1),(Qa 54 (.bin .eql (.t 52) (.t 53)))]) (.ite (.t 54) (.reg [(Qe 55 5 8),(Qs 5 13 55)]) (.skip))) (.seq (.drw [(Qf 56 0 13),(Qf 57 2 56),(Ql 58 57),(Qa 59 (.call 72 [(.t 58)])),(Qf 60 4 13),(Ql 61 60),(Qa 62 (.call 136 [(.t 61)])),(Qf 63 0 13),(Qf 64 2 63),(Qs 1 64 59),(Qf 65 4 13),(Qs 1 65 62)] [[],[0],[1],[2],[],[4],[5,3],[0,1,2,3,4,5],[7,0,1,2,3,4,5],[8,3,6,0,1,2,3,4,5],[0,1,2,3,4,5,6,7,8,9],[10,6,9,0,1,2,3,4,5,6,7,8,9]] [[1],[0,2],[1,3],[2,9],[5],[4,6],[5,11],[8],[7,9],[3,8],[11],[6,10]]) (.reg [(Qf 66 0 11),(Ql 67 66),(Qe 68 5 13),(Qa 69 (.bsl 63 5 1 [.iv 0,.iv 0,.nl,.iv 0,.nl] [(0,(.t 68))])),(Qa 70 (.app 63 5 72 (.t 67) (.t 69))),(Qf 71 0 11),(Qs 1 71 70)]))))) (.reg [(Qv 72 47 1),(Qm 47 72)])))
@[go_sem] def e89:EC:=.seq (.reg [(Qx 3 25 2 0),(Qa 6 (.alloc 25 [.nl,.nl])),(Qi 7 0)]) (.seq (.reg [(Qm 15 2),(Qf 16 0 3),(Ql 17 16),(Qm 18 1),(Qk 19 5 17 18),(Qe 20 5 19),(Qa 21 (.callv (.t 15) [(.t 20)])),(Qm 14 21),(Qa 22 (.ext (.t 14) 0)),(Qa 23 (.ext (.t 14) 1)),(Qa 8 (.alloc 63 [.iv 0,.iv 0,.nl,.iv 0,.nl])),(Qs 5 8 22),(Qm 9 23)]) (.seq (.seq (.reg [(Qm 24 9),(Qa 25 (.bin .neq (.t 24) (.c (.iv 0))))]) (.ite (.t 25) (.seq (.reg [(Qa 26 (.build [.nl,.nl] [])),(Qm 27 9),(Qs 2 6 26),(Qm 7 27)]) (.ret)) (.skip))) (.seq (.reg [(Qe 29 5 8),(Qa 30 (.call 135 [(.t 29)])),(Qm 28 30),(Qa 31 (.ext (.t 28) 0)),(Qa 32 (.ext (.t 28) 1)),(Qa 33 (.ext (.t 28) 2)),(Qs 5 8 31),(Qm 10 32),(Qm 9 33)]) (.seq (.seq (.reg [(Qm 34 9),(Qa 35 (.bin .neq (.t 34) (.c (.iv 0))))]) (.ite (.t 35) (.seq (.reg [(Qa 36 (.build [.nl,.nl] [])),(Qm 37 9),(Qs 2 6 36),(Qm 7 37)]) (.ret)) (.skip))) (.seq (.reg [(Qf 38 1 3),(Ql 39 38),(Qm 40 10),(Qa 41 (.bsl 23 1 2 [.nl] [(0,(.t 39)),(1,(.t 40))])),(Qa 42 (.call 88 [(.t 41)])),(Qa 43 (.build [.nl,.nl] [(1,1,(.t 42))])),(Qa 11 (.alloc 25 [.nl,.nl])),(Qs 2 11 43)]) (.seq (.seq (.reg [(Qf 44 0 3),(Ql 45 44),(Qa 46 (.len (.t 45))),(Qi 47 0)]) (.blk 0 (.loop e89_L0))) (.seq (.reg [(Qe 73 2 11),(Qs 2 6 73),(Qi 7 0)]) (.ret))))))))
theorem ok89:FnOK Tryz.prog 89 Tryz.f89 e89 [.c 6 (some 2),.t 7] 3 71:=⟨by kernel_rfl,⟨_,rfl,by kernel_rfl⟩,by kernel_rfl,by kernel_rfl⟩
noncomputable def Zri (x6:(List Mail)):(List Drinker)→Option (Bar×Int)
| x30=>
 some ((Bar.mk x30 x6),0)
noncomputable def Zsi (x14:Int) (x15:(List Drinker)):Drinker→Option ((Int×(List Drinker)) ⊕ (Bar×Int))
| x17=>
 (Zn9 x17.Diner.Sides).bind fun x18=>
 (Zna x17.Need).bind fun x19=>
 (Z84 72 x15 ([(Drinker.mk ((Diner.mk x17.Diner.ID x17.Diner.Phase x18)) x17.Thirst x19)])).bind fun x20=>
 some (.inl (wr (x14+1),x20))
noncomputable def Zti (x1:Bar) (x2:Int) (x5:(Drinker×(List Mail)×Int)) (x6:(List Mail)):(Int×(List Drinker))→Option ((Int×(List Drinker)) ⊕ (Bar×Int))
| (x14,x15)=>
 ifb (decide (x14<(ln Drinker.row x1.Drinkers))) (
 (at_ x1.Drinkers x14).bind fun x16=>
 ifb (decide (x14=x2)) (
 (Zsi x14 x15) x5.1) (
 (Zsi x14 x15) x16)) (
 Option.map Sum.inr ((Zri x6) x15))
noncomputable def Zui (x1:Bar) (x2:Int) (p2:(Drinker→Option (Drinker×Int))):Option (Bar×Int):=
 (at_ x1.Drinkers x2).bind fun x3=>
 (p2 x3).bind fun x4=>
 ifb (!decide (x4.2=0)) (
 some ((Bar.mk (([]:(List Drinker))) (([]:(List Mail)))),x4.2)) (
 (Z8c x4.1).bind fun x5=>
 ifb (!decide (x5.2.2=0)) (
 some ((Bar.mk (([]:(List Drinker))) (([]:(List Mail)))),x5.2.2)) (
 (Zsg ([x1.Mail,x5.2.1])).bind fun x6=>
 loop (Zti x1 x2 x5 x6) (0,([]:List Drinker))))
theorem k_bar_act (x1:Bar) (x2:Int) (g2:Nat) (caps2:List AV) (p2:(Drinker→Option (Drinker×Int))) (hc2:CloOK Tryz.prog g2 caps2 (fun z=>[.agg (Drinker.row z)]) p2 (fun z=>.tup [.agg (Drinker.row z.1),.iv z.2])) (r:(Bar×Int)) (h:Zui x1 x2 p2=some r):Zp2 Tryz.prog 89 [.agg (Bar.row x1),.iv x2,.clo g2 caps2] (.tup [.agg (Bar.row r.1),.iv r.2]):=by
 refine Zt2 ok89 rfl rfl fun w0 H0=>?_
 rw [Zui] at h
 refine Zk2 12 ?_;dsimp only [go_sem];refine An ?_;obtain ⟨x3,ex3,h⟩:=Bs h;refine Zj4 Drinker.row ex3 trivial rfl rfl rfl ?_;refine Zk2 1 ?_;dsimp only [go_sem];refine An ?_;obtain ⟨x4,ex4,h⟩:=Bs h;refine Zt4 trivial rfl hc2 (x:=x3) ex4 (by first | exact Z74 _ | simp [go_sem]) (by first | rfl | simp [go_sem,hc2.pu]) ?_;refine Zk2 13 ?_;dsimp only [go_sem];refine An ?_;refine Zg4 h rfl (fun _ h=>?_) fun _ h=>?_
 ·refine Zk2 7 ?_;dsimp only [go_sem];refine An ?_;exact Zo4 (res:=fun (r:(Bar×Int))=>.tup [.agg (Bar.row r.1),.iv r.2]) ok89 h
 ·refine Zk2 4 ?_;dsimp only [go_sem];refine An ?_;obtain ⟨x5,ex5,h⟩:=Bs h;refine Zy2 trivial (k_drink_Fire x4.1 _ ex5) (hp:=(by first | rfl | simp [go_sem,hc2.pu])) (h:=?_);refine Zk2 14 ?_;dsimp only [go_sem];refine An ?_;refine Zg4 h rfl (fun _ h=>?_) fun _ h=>?_
  ·refine Zk2 7 ?_;dsimp only [go_sem];refine An ?_;exact Zo4 (res:=fun (r:(Bar×Int))=>.tup [.agg (Bar.row r.1),.iv r.2]) ok89 h
  ·refine Zk2 7 ?_;dsimp only [go_sem];refine An ?_;refine Z73 0 rfl ?_;dsimp only [go_sem];obtain ⟨x6,ex6,h⟩:=Bs h;refine Z35 trivial (Ztg ([x1.Mail,x5.2.1]) _ ex6) (hp:=(by first | rfl | simp [go_sem,hc2.pu])) (h:=?_);refine Zk2 12 ?_;dsimp only [go_sem];refine An ?_
   refine Ze4 (fun (x30:(List Drinker))=>(⟨(an 6 (.ptr 1 0::an 4 (.ptr 3 0::an 62 []))),[none,some ⟨25,[.nl,.nl]⟩,none,some ⟨25,[.osl 2,.osl 1]⟩],[none,some ⟨95,5,List.map Mail.row x6⟩,some ⟨63,5,List.map Drinker.row x30⟩]⟩:St)) (Zri x6) r ?_ fun J1=>?_
   ·intro x30 h;rw [Zri] at h;(try dsimp only);refine Zk2 6 ?_;dsimp only [go_sem];refine An ?_;refine Z73 2 rfl ?_;dsimp only [go_sem];refine Z73 1 rfl ?_;dsimp only [go_sem];exact Zo4 (res:=fun (r:(Bar×Int))=>.tup [.agg (Bar.row r.1),.iv r.2]) ok89 h
   ·refine Zk2 1 ?_;dsimp only [go_sem];refine An ?_;refine Z24 3 0 63 5 rfl rfl rfl ?_;dsimp only [go_sem]
    refine Zf4 h (fun ((x14,x15):(Int×(List Drinker)))=>(⟨(.any :: .iv x2::an 4 (.ptr 1 0 :: .any :: .ptr 2 0 :: .any :: .any :: .ptr 3 0::an 33 (.sl 5 (List.map Drinker.row x1.Drinkers) :: .iv (ln Drinker.row x1.Drinkers) :: .iv x14::an 26 []))),[none,some ⟨25,[.nl,.nl]⟩,some ⟨63,[.iv x5.1.Diner.ID,.iv x5.1.Diner.Phase,.sl 8 (List.map Side.row x5.1.Diner.Sides),.iv x5.1.Thirst,.sl 1 (List.map Zu4 x5.1.Need)]⟩,some ⟨25,[.osl 2,.osl 1]⟩],[none,some ⟨95,5,List.map Mail.row x6⟩,some ⟨63,5,List.map Drinker.row x15⟩]⟩:St)) (by simp [go_sem]) (by rintro ⟨x14,x15⟩;first | rfl | simp [go_sem,Z64 _ hc2.pu]) ?_
    rintro n1 ⟨x14,x15⟩ y1 h hin1 hout1;rw [Zti] at h;(try dsimp only);refine Zk2 5 ?_;dsimp only [go_sem];refine An ?_;refine Zg4 h rfl (fun _ h=>?_) fun _ h=>?_
    ·refine Zk2 6 ?_;dsimp only [go_sem];refine An ?_;obtain ⟨x16,ex16,h⟩:=Bs h;refine Zj4 Drinker.row ex16 trivial rfl rfl rfl ?_;refine Zk2 12 ?_;dsimp only [go_sem];refine An ?_
     refine Ze4 (fun (x17:Drinker)=>(⟨(.any :: .iv x2::an 4 (.ptr 1 0 :: .any :: .ptr 2 0 :: .any :: .any :: .ptr 3 0 :: .any :: .ptr 4 0::an 31 (.sl 5 (List.map Drinker.row x1.Drinkers) :: .iv (ln Drinker.row x1.Drinkers) :: .iv x14::an 26 []))),[none,some ⟨25,[.nl,.nl]⟩,some ⟨63,[.iv x5.1.Diner.ID,.iv x5.1.Diner.Phase,.sl 8 (List.map Side.row x5.1.Diner.Sides),.iv x5.1.Thirst,.sl 1 (List.map Zu4 x5.1.Need)]⟩,some ⟨25,[.osl 2,.osl 1]⟩,some ⟨63,[.iv x17.Diner.ID,.iv x17.Diner.Phase,.sl 8 (List.map Side.row x17.Diner.Sides),.iv x17.Thirst,.sl 1 (List.map Zu4 x17.Need)]⟩],[none,some ⟨95,5,List.map Mail.row x6⟩,some ⟨63,5,List.map Drinker.row x15⟩]⟩:St)) (Zsi x14 x15) y1 ?_ fun J2=>?_
     ·intro x17 h;rw [Zsi] at h;(try dsimp only);refine Zk2 1 ?_;dsimp only [go_sem];refine An ?_;refine Zf3 (by kernel_rfl) fun all hall hs hnap haf=>?_;dsimp only [go_sem];refine Z55 hall hs haf hnap 5 7 ?_;dsimp only [go_sem];refine An ?_;refine Zq3 3 rfl ?_;obtain ⟨x18,ex18,h⟩:=Bs h;refine Z45 hall rfl trivial (Zo9 x17.Diner.Sides _ ex18) (hp:=(by first | rfl | simp [go_sem,hc2.pu])) (h:=?_);dsimp only [go_sem];refine Z55 hall hs haf hnap 2 4 ?_;dsimp only [go_sem];refine An ?_;refine Zq3 6 rfl ?_
      obtain ⟨x19,ex19,h⟩:=Bs h;refine Z45 hall rfl trivial (Zoa x17.Need _ ex19) (hp:=(by first | rfl | simp [go_sem,hc2.pu])) (h:=?_);dsimp only [go_sem];refine Zq3 9 rfl ?_;refine Zv3 hall rfl trivial ?_;dsimp only [go_sem];refine Z55 hall hs haf hnap 1 1 ?_;dsimp only [go_sem];refine An ?_;refine Zq3 11 rfl ?_;refine Zv3 hall rfl trivial ?_;dsimp only [go_sem];refine Zp3 rfl ?_ _;refine Zk2 4 ?_;dsimp only [go_sem];refine An ?_;refine Z73 3 rfl ?_;dsimp only [go_sem];refine Z73 4 rfl ?_;dsimp only [go_sem]
      refine Zk2 1 ?_;dsimp only [go_sem];refine An ?_;obtain ⟨x20,ex20,h⟩:=Bs h;refine Zl4 Drinker.row ex20 trivial rfl rfl rfl ?_;refine Zk2 8 ?_;dsimp only [go_sem];refine An ?_;refine Z14 6 2 rfl rfl rfl ?_;dsimp only [go_sem];exact Zp4 h hin1 (hok:=by first | rfl | simp [go_sem,Z64 _ hc2.pu])
     ·refine Zg4 h rfl (fun _ h=>?_) fun _ h=>?_
      ·refine Zk2 4 ?_;dsimp only [go_sem];refine An ?_;exact Zq4 J2 (s:=x5.1) h (hok:=by first | rfl | simp [go_sem,Z64 _ hc2.pu])
      ·refine Zk2 1 ?_;dsimp only [go_sem];refine An ?_;exact Zq4 J2 (s:=x16) h (hok:=by first | rfl | simp [go_sem,Z64 _ hc2.pu])
    ·refine Zk2 1 ?_;dsimp only [go_sem];refine An ?_;exact Zq4 J1 (s:=x15) (Zd4 h hout1) (hok:=by first | rfl | simp [go_sem,Z64 _ hc2.pu])
set_option maxRecDepth 100000
set_option maxHeartbeats 4000000
@[go_sem] def e74:EC:=.seq (.reg [(Qx 3 25 2 0),(Qa 6 (.alloc 25 [.nl,.nl])),(Qi 7 0)]) (.seq (.seq (.reg [(Qe 9 2 3),(Qa 10 (.call 17 [(.t 9)])),(Qm 8 10)]) (.seq (.reg [(Qm 11 8),(Qa 12 (.bin .neq (.t 11) (.c (.iv 0))))]) (.ite (.t 12) (.seq (.reg [(Qa 13 (.build [.nl,.nl] [])),(Qm 14 8),(Qs 2 6 13),(Qm 7 14)]) (.ret)) (.skip)))) (.seq (.seq (.reg [(Qe 15 2 3),(Qm 16 1),(Qa 17 (.call 64 [(.t 15),(.t 16)])),(Qa 18 (.not (.t 17)))]) (.ite (.t 18) (.seq (.reg [(Qa 19 (.build [.nl,.nl] [])),(Qs 2 6 19),(Qi 7 161)]) (.ret)) (.skip))) (.seq (.reg [(Qe 20 2 3),(Qm 21 1),(Qm 22 2),(Qa 23 (.call 89 [(.t 20),(.t 21),(.t 22)])),(Qa 24 (.ext (.t 23) 0)),(Qa 25 (.ext (.t 23) 1)),(Qs 2 6 24),(Qm 7 25)]) (.ret))))
theorem ok74:FnOK Tryz.prog 74 Tryz.f74 e74 [.c 6 (some 2),.t 7] 3 23:=⟨by kernel_rfl,⟨_,rfl,by kernel_rfl⟩,by kernel_rfl,by kernel_rfl⟩
noncomputable def Zvi (x1:Bar) (x2:Int) (p2:(Drinker→Option (Drinker×Int))):Option (Bar×Int):=
 (Zmi x1).bind fun x3=>
 ifb (!decide (x3=0)) (
 some ((Bar.mk (([]:(List Drinker))) (([]:(List Mail)))),x3)) (
 (Zpi x1 x2).bind fun x4=>
 ifb (!x4) (
 some ((Bar.mk (([]:(List Drinker))) (([]:(List Mail)))),161)) (
 (Zui x1 x2 p2).bind fun x5=>
 some (x5.1,x5.2)))
theorem Zwi (x1:Bar) (x2:Int) (g2:Nat) (caps2:List AV) (p2:(Drinker→Option (Drinker×Int))) (hc2:CloOK Tryz.prog g2 caps2 (fun z=>[.agg (Drinker.row z)]) p2 (fun z=>.tup [.agg (Drinker.row z.1),.iv z.2])) (r:(Bar×Int)) (h:Zvi x1 x2 p2=some r):Zp2 Tryz.prog 74 [.agg (Bar.row x1),.iv x2,.clo g2 caps2] (.tup [.agg (Bar.row r.1),.iv r.2]):=by
 refine Zt2 ok74 rfl rfl fun w0 H0=>?_
 rw [Zvi] at h
 refine Zk2 10 ?_;dsimp only [go_sem];refine An ?_;obtain ⟨x3,ex3,h⟩:=Bs h;refine Zy2 trivial (Zni x1 _ ex3) (hp:=(by first | rfl | simp [go_sem,hc2.pu])) (h:=?_);refine Zk2 7 ?_;dsimp only [go_sem];refine An ?_;refine Zg4 h rfl (fun _ h=>?_) fun _ h=>?_
 ·refine Zk2 7 ?_;dsimp only [go_sem];refine An ?_;exact Zo4 (res:=fun (r:(Bar×Int))=>.tup [.agg (Bar.row r.1),.iv r.2]) ok74 h
 ·refine Zk2 6 ?_;dsimp only [go_sem];refine An ?_;obtain ⟨x4,ex4,h⟩:=Bs h;refine Zy2 trivial (Zqi x1 x2 _ ex4) (hp:=(by first | rfl | simp [go_sem,hc2.pu])) (h:=?_);refine Zk2 2 ?_;dsimp only [go_sem];refine An ?_;refine Zg4 h rfl (fun _ h=>?_) fun _ h=>?_
  ·refine Zk2 6 ?_;dsimp only [go_sem];refine An ?_;exact Zo4 (res:=fun (r:(Bar×Int))=>.tup [.agg (Bar.row r.1),.iv r.2]) ok74 h
  ·refine Zk2 6 ?_;dsimp only [go_sem];refine An ?_;obtain ⟨x5,ex5,h⟩:=Bs h;refine Zy2 trivial (k_bar_act x1 x2 _ _ p2 hc2 _ ex5) (hp:=(by first | rfl | simp [go_sem,hc2.pu])) (h:=?_);refine Zk2 5 ?_;dsimp only [go_sem];refine An ?_;exact Zo4 (res:=fun (r:(Bar×Int))=>.tup [.agg (Bar.row r.1),.iv r.2]) ok74 h
set_option maxRecDepth 100000
set_option maxHeartbeats 4000000
@[go_sem] def e38:EC:=.seq (.reg [(Qx 3 25 2 0),(Qx 5 26 1 2),(Qa 6 (.alloc 25 [.nl,.nl])),(Qi 7 0)]) (.seq (.reg [(Qe 8 2 3),(Qm 9 1),(Qa 10 (.mkf 76 [(.t 5)])),(Qa 11 (.call 74 [(.t 8),(.t 9),(.t 10)])),(Qa 12 (.ext (.t 11) 0)),(Qa 13 (.ext (.t 11) 1)),(Qs 2 6 12),(Qm 7 13)]) (.ret))
theorem ok38:FnOK Tryz.prog 38 Tryz.f38 e38 [.c 6 (some 2),.t 7] 3 11:=⟨by kernel_rfl,⟨_,rfl,by kernel_rfl⟩,by kernel_rfl,by kernel_rfl⟩
noncomputable def Zxi (x1:Bar) (x2:Int) (x3:(List Int)):Option (Bar×Int):=
 (Zvi x1 x2 ((fun z=>Z7i z x3))).bind fun x4=>
 some (x4.1,x4.2)
theorem Zyi (x1:Bar) (x2:Int) (x3:(List Int)) (r:(Bar×Int)) (h:Zxi x1 x2 x3=some r):Zp2 Tryz.prog 38 [.agg (Bar.row x1),.iv x2,.sl 1 (List.map Zu4 x3)] (.tup [.agg (Bar.row r.1),.iv r.2]):=by
 refine Zt2 ok38 rfl rfl fun w0 H0=>?_
 rw [Zxi] at h
 refine Zk2 12 ?_;dsimp only [go_sem];refine An ?_;refine V_sealB 1 rfl rfl ?_;dsimp only [go_sem];obtain ⟨x4,ex4,h⟩:=Bs h;refine Zy2 trivial (Zwi x1 x2 _ _ ((fun z=>Z7i z x3)) ⟨by kernel_rfl,rfl,fun z r hz=>k_bar_Open_1 z x3 r hz⟩ _ ex4) (h:=?_);refine Zk2 5 ?_;dsimp only [go_sem];refine An ?_;exact Zo4 (res:=fun (r:(Bar×Int))=>.tup [.agg (Bar.row r.1),.iv r.2]) ok38 h
set_option maxRecDepth 100000
set_option maxHeartbeats 4000000
@[go_sem] def e36:EC:=.seq (.reg [(Qx 2 25 2 0),(Qa 4 (.alloc 25 [.nl,.nl])),(Qi 5 0)]) (.seq (.reg [(Qe 6 2 2),(Qm 7 1),(Qa 8 (.call 74 [(.t 6),(.t 7),(.c (.clo 75 []))])),(Qa 9 (.ext (.t 8) 0)),(Qa 10 (.ext (.t 8) 1)),(Qs 2 4 9),(Qm 5 10)]) (.ret))
theorem ok36:FnOK Tryz.prog 36 Tryz.f36 e36 [.c 4 (some 2),.t 5] 2 9:=⟨by kernel_rfl,⟨_,rfl,by kernel_rfl⟩,by kernel_rfl,by kernel_rfl⟩
noncomputable def Zzi (x1:Bar) (x2:Int):Option (Bar×Int):=
 (Zvi x1 x2 ((fun z=>Zff z))).bind fun x3=>
 some (x3.1,x3.2)
theorem Z0j (x1:Bar) (x2:Int) (r:(Bar×Int)) (h:Zzi x1 x2=some r):Zp2 Tryz.prog 36 [.agg (Bar.row x1),.iv x2] (.tup [.agg (Bar.row r.1),.iv r.2]):=by
 refine Zt2 ok36 rfl rfl fun w0 H0=>?_
 rw [Zzi] at h
 refine Zk2 10 ?_;dsimp only [go_sem];refine An ?_;obtain ⟨x3,ex3,h⟩:=Bs h;refine Zy2 trivial (Zwi x1 x2 _ _ ((fun z=>Zff z)) ⟨by kernel_rfl,rfl,fun z r hz=>k_drink_Close z r hz⟩ _ ex3) (h:=?_);refine Zk2 5 ?_;dsimp only [go_sem];refine An ?_;exact Zo4 (res:=fun (r:(Bar×Int))=>.tup [.agg (Bar.row r.1),.iv r.2]) ok36 h
set_option maxRecDepth 100000
set_option maxHeartbeats 4000000
@[go_sem] def e87:EC:=.seq (.reg [(Qx 3 95 5 0),(Qa 4 (.mv (.c .ff)))]) (.seq (.reg [(Qf 5 0 3),(Ql 6 5),(Ql 7 1),(Qa 8 (.bin .eql (.t 6) (.t 7))),(Qm 9 8),(Qh 10 9 true 1 3),(Qn 11 9 true 10),(Qn 12 9 true 2),(Qg 13 9 true (.bin .eql (.t 11) (.t 12))),(Qp 14 9 13),(Qm 4 14)]) (.ret))
theorem ok87:FnOK Tryz.prog 87 Tryz.f87 e87 [.t 4] 3 12:=⟨by kernel_rfl,⟨_,rfl,by kernel_rfl⟩,by kernel_rfl,by kernel_rfl⟩
noncomputable def Z1j:Bool→Option Bool
| x4=>
 some x4
noncomputable def Z2j (x1:Mail) (x2:Int) (x3:Int):Option Bool:=
 ifb (decide (x1.From=x2)) (
 Z1j (decide (x1.To=x3))) (
 Z1j false)
theorem Z3j (x1:Mail) (x2:Int) (x3:Int) (r:Bool) (h:Z2j x1 x2 x3=some r):Zp2 Tryz.prog 87 [.agg (Mail.row x1),.elt (Zu4 x2) 0,.elt (Zu4 x3) 0] (.bv r):=by
 refine Zt2 ok87 rfl rfl fun w0 H0=>?_
 rw [Z2j] at h
 refine Zk2 12 ?_;dsimp only [go_sem];refine An ?_;refine Ze4 (fun (x4:Bool)=>(⟨(an 4 (.bv x4::an 10 [])),[],[]⟩:St)) Z1j r ?_ fun J1=>?_
 ·intro x4 h;rw [Z1j] at h;(try dsimp only);exact Zo4 (res:=fun (r:Bool)=>.bv r) ok87 h
 ·refine Zn4 9 h rfl (fun _ h=>?_) fun _ h=>?_
  ·dsimp only [go_sem];refine Zk2 7 ?_;dsimp only [go_sem];refine An ?_;exact Zq4 J1 (s:=decide (x1.To=x3)) h
  ·dsimp only [go_sem];refine Zk2 7 ?_;dsimp only [go_sem];refine An ?_;exact Zq4 J1 (s:=false) h
set_option maxRecDepth 100000
set_option maxHeartbeats 4000000
@[go_sem] def e90:EC:=.seq (.reg [(Qx 3 63 5 0),(Qa 4 (.alloc 63 [.iv 0,.iv 0,.nl,.iv 0,.nl])),(Qi 5 0)]) (.seq (.reg [(Qe 6 5 3),(Ql 7 1),(Qe 8 3 2),(Qa 9 (.call 91 [(.t 6),(.t 7),(.t 8)])),(Qa 10 (.ext (.t 9) 0)),(Qa 11 (.ext (.t 9) 1)),(Qs 5 4 10),(Qm 5 11)]) (.ret))
theorem ok90:FnOK Tryz.prog 90 Tryz.f90 e90 [.c 4 (some 5),.t 5] 3 9:=⟨by kernel_rfl,⟨_,rfl,by kernel_rfl⟩,by kernel_rfl,by kernel_rfl⟩
noncomputable def Z4j (x1:Drinker) (x2:Int) (x3:Msg):Option (Drinker×Int):=
 (Zlf x1 x2 x3).bind fun x4=>
 some (x4.1,x4.2)
theorem Z5j (x1:Drinker) (x2:Int) (x3:Msg) (r:(Drinker×Int)) (h:Z4j x1 x2 x3=some r):Zp2 Tryz.prog 90 [.agg (Drinker.row x1),.elt (Zu4 x2) 0,.elt (Msg.row x3) 0] (.tup [.agg (Drinker.row r.1),.iv r.2]):=by
 refine Zt2 ok90 rfl rfl fun w0 H0=>?_
 rw [Z4j] at h
 refine Zk2 11 ?_;dsimp only [go_sem];refine An ?_;obtain ⟨x4,ex4,h⟩:=Bs h;refine Zy2 trivial (k_drink_Get x1 x2 x3 _ ex4) (h:=?_);refine Zk2 5 ?_;dsimp only [go_sem];refine An ?_;exact Zo4 (res:=fun (r:(Drinker×Int))=>.tup [.agg (Drinker.row r.1),.iv r.2]) ok90 h
set_option maxRecDepth 100000
set_option maxHeartbeats 4000000
@[go_sem] def e48:EC:=.seq (.reg [(Qx 3 25 2 0),(Qx 4 3 1 1),(Qx 5 3 1 2),(Qa 6 (.alloc 25 [.nl,.nl])),(Qi 7 0)]) (.seq (.seq (.reg [(Qe 11 2 3),(Qa 12 (.call 17 [(.t 11)])),(Qm 8 12)]) (.seq (.reg [(Qm 13 8),(Qa 14 (.bin .neq (.t 13) (.c (.iv 0))))]) (.ite (.t 14) (.seq (.reg [(Qa 15 (.build [.nl,.nl] [])),(Qm 16 8),(Qs 2 6 15),(Qm 7 16)]) (.ret)) (.skip)))) (.seq (.seq (.reg [(Qe 17 2 3),(Ql 18 4),(Qa 19 (.call 64 [(.t 17),(.t 18)])),(Qa 20 (.not (.t 19))),(Qm 21 20),(Qg 22 21 false (.loadA 2 (.t 3))),(Qn 23 21 false 5),(Qg 24 21 false (.call 64 [(.t 22),(.t 23)])),(Qg 25 21 false (.not (.t 24))),(Qq 26 21 25)]) (.ite (.t 26) (.seq (.reg [(Qa 27 (.build [.nl,.nl] [])),(Qs 2 6 27),(Qi 7 161)]) (.ret)) (.skip))) (.seq (.reg [(Qf 28 1 3),(Ql 29 28),(Qa 30 (.mkf 87 [(.t 4),(.t 5)])),(Qa 31 (.call 86 [(.t 29),(.t 30)])),(Qm 9 31)]) (.seq (.seq (.reg [(Qm 32 9),(Qa 33 (.bin .lss (.t 32) (.c (.iv 0))))]) (.ite (.t 33) (.seq (.reg [(Qa 34 (.build [.nl,.nl] [])),(Qs 2 6 34),(Qi 7 162)]) (.ret)) (.skip))) (.seq (.reg [(Qf 35 1 3),(Ql 36 35),(Qm 37 9),(Qk 38 5 36 37),(Qf 39 2 38),(Qe 40 3 39),(Qa 10 (.alloc 93 [.iv 0,.iv 0,.iv 0])),(Qs 3 10 40)]) (.seq (.drw [(Qf 41 1 3),(Ql 42 41),(Qm 43 9),(Qa 44 (.slice 5 (.t 42) none (some (.t 43)))),(Qf 45 1 3),(Ql 46 45),(Qm 47 9),(Qv 48 47 1),(Qa 49 (.slice 5 (.t 46) (some (.t 48)) none)),(Qa 50 (.bsl 23 1 2 [.nl] [(0,(.t 44)),(1,(.t 49))])),(Qa 51 (.call 88 [(.t 50)])),(Qf 52 1 3),(Qs 1 52 51)] [[],[0],[],[1,2],[],[4],[],[6],[5,7],[3,8],[9],[0,1,2,3,4,5,6,7,8,9,10],[11,10,10,0,1,2,3,4,5,6,7,8,9,10]] [[1],[0,3],[3],[1,2,9],[5],[4,8],[7],[6,8],[5,7,9],[3,8,10],[9,12],[12],[10,11]]) (.seq (.reg [(Qe 53 2 3),(Ql 54 5),(Qa 55 (.mkf 90 [(.t 4),(.t 10)])),(Qa 56 (.call 89 [(.t 53),(.t 54),(.t 55)])),(Qa 57 (.ext (.t 56) 0)),(Qa 58 (.ext (.t 56) 1)),(Qs 2 6 57),(Qm 7 58)]) (.ret))))))))
theorem ok48:FnOK Tryz.prog 48 Tryz.f48 e48 [.c 6 (some 2),.t 7] 3 56:=⟨by kernel_rfl,⟨_,rfl,by kernel_rfl⟩,by kernel_rfl,by kernel_rfl⟩
noncomputable def Z6j (x1:Bar) (x2:Int) (x3:Int) (x9:Mail):(List Mail)→Option (Bar×Int)
| x13=>
 (Zui ((Bar.mk x1.Drinkers x13)) x3 ((fun z=>Z4j z x2 x9.Msg))).bind fun x14=>
 some (x14.1,x14.2)
noncomputable def Z7j (x1:Bar) (x2:Int) (x3:Int):Bool→Option (Bar×Int)
| x7=>
 ifb x7 (
 some ((Bar.mk (([]:(List Drinker))) (([]:(List Mail)))),161)) (
 (Zdg x1.Mail ((fun z=>Z2j z x2 x3))).bind fun x8=>
 ifb (decide (x8<0)) (
 some ((Bar.mk (([]:(List Drinker))) (([]:(List Mail)))),162)) (
 (at_ x1.Mail x8).bind fun x9=>
 (Z94 x1.Mail 0 x8).bind fun x10=>
 (Z94 x1.Mail (wr (x8+1)) (ln Mail.row x1.Mail)).bind fun x11=>
 (Zsg ([x10,x11])).bind fun x12=>
 (Z6j x1 x2 x3 x9) x12))
noncomputable def Z8j (x1:Bar) (x2:Int) (x3:Int):Option (Bar×Int):=
 (Zmi x1).bind fun x4=>
 ifb (!decide (x4=0)) (
 some ((Bar.mk (([]:(List Drinker))) (([]:(List Mail)))),x4)) (
 (Zpi x1 x2).bind fun x5=>
 ifb (!x5) (
 (Z7j x1 x2 x3) true) (
 (Zpi x1 x3).bind fun x6=>
 (Z7j x1 x2 x3) (!x6)))
theorem Z9j (x1:Bar) (x2:Int) (x3:Int) (r:(Bar×Int)) (h:Z8j x1 x2 x3=some r):Zp2 Tryz.prog 48 [.agg (Bar.row x1),.iv x2,.iv x3] (.tup [.agg (Bar.row r.1),.iv r.2]):=by
 refine Zt2 ok48 rfl rfl fun w0 H0=>?_
 rw [Z8j] at h
 refine Zk2 12 ?_;dsimp only [go_sem];refine An ?_;obtain ⟨x4,ex4,h⟩:=Bs h;refine Zy2 trivial (Zni x1 _ ex4) (h:=?_);refine Zk2 7 ?_;dsimp only [go_sem];refine An ?_;refine Zg4 h rfl (fun _ h=>?_) fun _ h=>?_
 ·refine Zk2 7 ?_;dsimp only [go_sem];refine An ?_;exact Zo4 (res:=fun (r:(Bar×Int))=>.tup [.agg (Bar.row r.1),.iv r.2]) ok48 h
 ·refine Zk2 6 ?_;dsimp only [go_sem];refine An ?_;obtain ⟨x5,ex5,h⟩:=Bs h;refine Zy2 trivial (Zqi x1 x2 _ ex5) (h:=?_);refine Zk2 2 ?_;dsimp only [go_sem];refine An ?_;refine Ze4 (fun (x7:Bool)=>(⟨(an 3 (.ptr 0 0 :: .ptr 1 0 :: .ptr 2 0 :: .ptr 3 0::an 19 (.bv x7::an 32 []))),[some ⟨25,[.sl 5 (List.map Drinker.row x1.Drinkers),.sl 5 (List.map Mail.row x1.Mail)]⟩,some ⟨3,[.iv x2]⟩,some ⟨3,[.iv x3]⟩,some ⟨25,[.nl,.nl]⟩],[]⟩:St)) (Z7j x1 x2 x3) r ?_ fun J1=>?_
  ·intro x7 h;rw [Z7j] at h;(try dsimp only);refine Zg4 h rfl (fun _ h=>?_) fun _ h=>?_
   ·refine Zk2 6 ?_;dsimp only [go_sem];refine An ?_;exact Zo4 (res:=fun (r:(Bar×Int))=>.tup [.agg (Bar.row r.1),.iv r.2]) ok48 h
   ·refine Zk2 6 ?_;dsimp only [go_sem];refine An ?_;obtain ⟨x8,ex8,h⟩:=Bs h;refine Zs4 trivial (((Zr4.refl _).block 1 rfl rfl).block 2 rfl rfl) (Zeg x1.Mail _ _ ((fun z=>Z2j z x2 x3)) ⟨by kernel_rfl,rfl,fun z r hz=>Z3j z x2 x3 r hz⟩ _ ex8) (h:=?_);refine Zk2 8 ?_;dsimp only [go_sem];refine An ?_;refine Zg4 h rfl (fun _ h=>?_) fun _ h=>?_
    ·refine Zk2 6 ?_;dsimp only [go_sem];refine An ?_;exact Zo4 (res:=fun (r:(Bar×Int))=>.tup [.agg (Bar.row r.1),.iv r.2]) ok48 h
    ·refine Zk2 6 ?_;dsimp only [go_sem];refine An ?_;obtain ⟨x9,ex9,h⟩:=Bs h;refine Zj4 Mail.row ex9 trivial rfl rfl rfl ?_;refine Zk2 6 ?_;dsimp only [go_sem];refine An ?_
     refine Ze4 (fun (x13:(List Mail))=>(⟨(an 3 (.ptr 0 0 :: .ptr 1 0 :: .ptr 2 0 :: .ptr 3 0::an 3 (.ptr 4 0::an 48 []))),[some ⟨25,[.sl 5 (List.map Drinker.row x1.Drinkers),.osl 1]⟩,some ⟨3,[.iv x2]⟩,some ⟨3,[.iv x3]⟩,some ⟨25,[.nl,.nl]⟩,some ⟨93,[.iv x9.Msg.Kind,.iv x9.Msg.Epoch,.iv x9.Msg.Num]⟩],[none,some ⟨95,5,List.map Mail.row x13⟩]⟩:St)) (Z6j x1 x2 x3 x9) r ?_ fun J2=>?_
     ·intro x13 h;rw [Z6j] at h;(try dsimp only);refine Zk2 5 ?_;dsimp only [go_sem];refine An ?_;refine Z73 1 rfl ?_;dsimp only [go_sem];refine V_sealB 1 rfl rfl ?_;dsimp only [go_sem];refine V_sealB 4 rfl rfl ?_;dsimp only [go_sem];obtain ⟨x14,ex14,h⟩:=Bs h;refine Zy2 trivial (k_bar_act ((Bar.mk x1.Drinkers x13)) x3 _ _ ((fun z=>Z4j z x2 x9.Msg)) ⟨by kernel_rfl,rfl,fun z r hz=>Z5j z x2 x9.Msg r hz⟩ _ ex14) (h:=?_);refine Zk2 5 ?_;dsimp only [go_sem];refine An ?_
      exact Zo4 (res:=fun (r:(Bar×Int))=>.tup [.agg (Bar.row r.1),.iv r.2]) ok48 h
     ·refine Zf3 (by kernel_rfl) fun all hall hs hnap haf=>?_;dsimp only [go_sem];refine Z65 hall hs haf hnap 7 6 [3,1,4,5] [(41,[.ptr 0 1,.sl 5 (List.map Mail.row x1.Mail),.iv x8]),(1,[.ptr 0 1,.sl 5 (List.map Mail.row x1.Mail),.iv x8,.iv (wr (x8+1))])] (by kernel_rfl) ?_;dsimp only [go_sem];obtain ⟨x10,ex10,h⟩:=Bs h;refine Z15 hall hs haf hnap 3 Mail.row ex10 rfl rfl trivial rfl rfl rfl rfl rfl ?_;dsimp only [go_sem];obtain ⟨x11,ex11,h⟩:=Bs h;refine Z15 hall hs haf hnap 8 Mail.row ex11 rfl rfl trivial rfl rfl rfl rfl rfl ?_;dsimp only [go_sem]
      refine Zq3 9 rfl ?_;refine GO_bslS hall rfl trivial rfl trivial ?_;dsimp only [go_sem];refine Zq3 10 rfl ?_;obtain ⟨x12,ex12,h⟩:=Bs h;refine Z45 hall rfl trivial (Ztg ([x10,x11]) _ ex12) (h:=?_);dsimp only [go_sem];refine Z55 hall hs haf hnap 1 1 ?_;dsimp only [go_sem];refine An ?_;refine Zq3 12 rfl ?_;refine Zv3 hall rfl trivial ?_;dsimp only [go_sem];refine Zp3 rfl ?_ _;exact Zq4 J2 (s:=x12) h
  ·refine Zn4 21 h rfl (fun _ h=>?_) fun _ h=>?_
   ·dsimp only [go_sem];refine Zk2 6 ?_;dsimp only [go_sem];refine An ?_;exact Zq4 J1 (s:=true) h
   ·dsimp only [go_sem];refine Zk2 2 ?_;dsimp only [go_sem];refine An ?_;obtain ⟨x6,ex6,h⟩:=Bs h;refine Zy2 trivial (Zqi x1 x3 _ ex6) (h:=?_);refine Zk2 3 ?_;dsimp only [go_sem];refine An ?_;exact Zq4 J1 (s:=!x6) h
set_option maxRecDepth 100000
set_option maxHeartbeats 4000000
@[go_sem] def e13:EC:=.seq (.reg [(Qx 2 25 2 0),(Qx 3 28 4 1),(Qa 4 (.alloc 25 [.nl,.nl])),(Qi 5 0)]) (.seq (.seq (.reg [(Qf 6 0 3),(Ql 7 6)]) (.blk 0 (.seq (.reg [(Qa 9 (.bin .eql (.t 7) (.c (.iv 0)))),(Qm 8 9)]) (.ite (.t 8) (.seq (.drw [(Qe 10 2 2),(Qf 11 1 3),(Ql 12 11),(Qa 13 (.bsl 3 1 0 [.iv 0] [])),(Qf 14 3 3),(Ql 15 14),(Qa 16 (.app 3 1 8 (.t 13) (.t 15))),(Qa 17 (.call 38 [(.t 10),(.t 12),(.t 16)])),(Qa 18 (.ext (.t 17) 0)),(Qa 19 (.ext (.t 17) 1)),(Qs 2 4 18),(Qm 5 19)] [[],[],[1],[],[],[4],[3,5],[0,2,6,6],[7],[7],[8,7,0,1,2,3,4,5,6,7,8,9],[9,10,0,1,2,3,4,5,6,7,8,9,10]] [[7],[2],[1,7],[6],[5],[4,6],[3,5,7],[0,2,6,8,9],[7,10],[7,11],[8],[9]]) (.ret)) (.seq (.reg [(Qa 21 (.bin .eql (.t 7) (.c (.iv 1)))),(Qm 20 21)]) (.ite (.t 20) (.seq (.reg [(Qe 22 2 2),(Qf 23 1 3),(Ql 24 23),(Qa 25 (.call 36 [(.t 22),(.t 24)])),(Qa 26 (.ext (.t 25) 0)),(Qa 27 (.ext (.t 25) 1)),(Qs 2 4 26),(Qm 5 27)]) (.ret)) (.skip))))))) (.seq (.reg [(Qe 28 2 2),(Qf 29 1 3),(Ql 30 29),(Qf 31 2 3),(Ql 32 31),(Qa 33 (.call 48 [(.t 28),(.t 30),(.t 32)])),(Qa 34 (.ext (.t 33) 0)),(Qa 35 (.ext (.t 33) 1)),(Qs 2 4 34),(Qm 5 35)]) (.ret)))
theorem ok13:FnOK Tryz.prog 13 Tryz.f13 e13 [.c 4 (some 2),.t 5] 2 34:=⟨by kernel_rfl,⟨_,rfl,by kernel_rfl⟩,by kernel_rfl,by kernel_rfl⟩
noncomputable def Zaj (x1:Bar) (x2:narthexlaw16_Act):Option (Bar×Int):=
 ifb (decide (x2.K=0)) (
 (Z84 8 (([]:List Int)) x2.Need).bind fun x3=>
 (Zxi x1 x2.A x3).bind fun x4=>
 some (x4.1,x4.2)) (
 ifb (decide (x2.K=1)) (
 (Zzi x1 x2.A).bind fun x5=>
 some (x5.1,x5.2)) (
 (Z8j x1 x2.A x2.B).bind fun x6=>
 some (x6.1,x6.2)))
theorem Zbj (x1:Bar) (x2:narthexlaw16_Act) (r:(Bar×Int)) (h:Zaj x1 x2=some r):Zp2 Tryz.prog 13 [.agg (Bar.row x1),.agg (narthexlaw16_Act.row x2)] (.tup [.agg (Bar.row r.1),.iv r.2]):=by
 refine Zt2 ok13 rfl rfl fun w0 H0=>?_
 rw [Zaj] at h
 refine Zk2 19 ?_;dsimp only [go_sem];refine An ?_;refine Zg4 h rfl (fun _ h=>?_) fun _ h=>?_
 ·refine Zk2 1 ?_;dsimp only [go_sem];refine An ?_;refine Zf3 (by kernel_rfl) fun all hall hs hnap haf=>?_;dsimp only [go_sem];refine Z55 hall hs haf hnap 5 7 ?_;dsimp only [go_sem];refine An ?_;refine Zq3 3 rfl ?_;refine Zv3 hall rfl trivial ?_;dsimp only [go_sem];refine Zq3 6 rfl ?_;obtain ⟨x3,ex3,h⟩:=Bs h;refine GO_appSM Zu4 ex3 hall rfl trivial rfl rfl rfl ?_;dsimp only [go_sem];refine Zq3 7 rfl ?_;obtain ⟨x4,ex4,h⟩:=Bs h;refine Zw3 hall rfl trivial (Zyi x1 x2.A x3 _ ex4) (h:=?_);dsimp only [go_sem]
  refine Z55 hall hs haf hnap 2 2 ?_;dsimp only [go_sem];refine An ?_;refine Zq3 10 rfl ?_;refine Zv3 hall rfl trivial ?_;dsimp only [go_sem];refine Z55 hall hs haf hnap 1 0 ?_;dsimp only [go_sem];refine An ?_;refine Zp3 rfl ?_ _;exact Zo4 (res:=fun (r:(Bar×Int))=>.tup [.agg (Bar.row r.1),.iv r.2]) ok13 h
 ·refine Zk2 5 ?_;dsimp only [go_sem];refine An ?_;refine Zg4 h rfl (fun _ h=>?_) fun _ h=>?_
  ·refine Zk2 5 ?_;dsimp only [go_sem];refine An ?_;obtain ⟨x5,ex5,h⟩:=Bs h;refine Zy2 trivial (Z0j x1 x2.A _ ex5) (h:=?_);refine Zk2 5 ?_;dsimp only [go_sem];refine An ?_;exact Zo4 (res:=fun (r:(Bar×Int))=>.tup [.agg (Bar.row r.1),.iv r.2]) ok13 h
  ·refine Zk2 9 ?_;dsimp only [go_sem];refine An ?_;obtain ⟨x6,ex6,h⟩:=Bs h;refine Zy2 trivial (Z9j x1 x2.A x2.B _ ex6) (h:=?_);refine Zk2 5 ?_;dsimp only [go_sem];refine An ?_;exact Zo4 (res:=fun (r:(Bar×Int))=>.tup [.agg (Bar.row r.1),.iv r.2]) ok13 h
set_option maxRecDepth 100000
set_option maxHeartbeats 4000000
@[go_sem] def e92:EC:=.seq (.reg [(Qx 1 61 3 0),(Qa 2 (.alloc 61 [.iv 0,.iv 0,.nl]))]) (.seq (.reg [(Qa 3 (.bsl 66 8 0 [.iv 0,.iv 0,.iv 0,.ff,.ff,.ff,.ff,.ff] [])),(Qf 4 2 1),(Ql 5 4),(Qa 6 (.app 66 8 32 (.t 3) (.t 5))),(Qf 7 2 1),(Qs 1 7 6)]) (.seq (.reg [(Qe 8 3 1),(Qs 3 2 8)]) (.ret)))
theorem ok92:FnOK Tryz.prog 92 Tryz.f92 e92 [.c 2 (some 3)] 1 8:=⟨by kernel_rfl,⟨_,rfl,by kernel_rfl⟩,by kernel_rfl,by kernel_rfl⟩
noncomputable def Zcj (x1:Diner):Option Diner:=
 (Z84 32 (([]:List Side)) x1.Sides).bind fun x2=>
 some (Diner.mk x1.ID x1.Phase x2)
theorem Zdj (x1:Diner) (r:Diner) (h:Zcj x1=some r):Zp2 Tryz.prog 92 [.agg (Diner.row x1)] (.agg (Diner.row r)):=by
 refine Zt2 ok92 rfl rfl fun w0 H0=>?_
 rw [Zcj] at h
 refine Zk2 10 ?_;dsimp only [go_sem];refine An ?_;obtain ⟨x2,ex2,h⟩:=Bs h;refine Zl4 Side.row ex2 trivial rfl rfl rfl ?_;refine Zk2 8 ?_;dsimp only [go_sem];refine An ?_;refine Z73 1 rfl ?_;dsimp only [go_sem];exact Zo4 (res:=fun (r:Diner)=>.agg (Diner.row r)) ok92 h
set_option maxRecDepth 100000
set_option maxHeartbeats 4000000
@[go_sem] def e50:EC:=.seq (.reg [(Qx 1 63 5 0),(Qa 2 (.alloc 63 [.iv 0,.iv 0,.nl,.iv 0,.nl]))]) (.seq (.reg [(Qf 3 0 1),(Qe 4 3 3),(Qa 5 (.call 92 [(.t 4)])),(Qf 6 0 1),(Qs 3 6 5)]) (.seq (.reg [(Qa 7 (.bsl 3 1 0 [.iv 0] [])),(Qf 8 4 1),(Ql 9 8),(Qa 10 (.app 3 1 8 (.t 7) (.t 9))),(Qf 11 4 1),(Qs 1 11 10)]) (.seq (.reg [(Qe 12 5 1),(Qs 5 2 12)]) (.ret))))
theorem ok50:FnOK Tryz.prog 50 Tryz.f50 e50 [.c 2 (some 5)] 1 12:=⟨by kernel_rfl,⟨_,rfl,by kernel_rfl⟩,by kernel_rfl,by kernel_rfl⟩
noncomputable def Zej (x1:Drinker):Option Drinker:=
 (Zcj x1.Diner).bind fun x2=>
 (Z84 8 (([]:List Int)) x1.Need).bind fun x3=>
 some (Drinker.mk x2 x1.Thirst x3)
theorem Zfj (x1:Drinker) (r:Drinker) (h:Zej x1=some r):Zp2 Tryz.prog 50 [.agg (Drinker.row x1)] (.agg (Drinker.row r)):=by
 refine Zt2 ok50 rfl rfl fun w0 H0=>?_
 rw [Zej] at h
 refine Zk2 9 ?_;dsimp only [go_sem];refine An ?_;obtain ⟨x2,ex2,h⟩:=Bs h;refine Zy2 trivial (Zdj x1.Diner _ ex2) (h:=?_);refine Zk2 8 ?_;dsimp only [go_sem];refine An ?_;obtain ⟨x3,ex3,h⟩:=Bs h;refine Zl4 Zu4 ex3 trivial rfl rfl rfl ?_;refine Zk2 8 ?_;dsimp only [go_sem];refine An ?_;refine Z73 1 rfl ?_;dsimp only [go_sem];exact Zo4 (res:=fun (r:Drinker)=>.agg (Drinker.row r)) ok50 h
set_option maxRecDepth 100000
set_option maxHeartbeats 4000000
@[go_sem] def e14_L0:EC:=.seq (.seq (.reg [(Qm 10 4),(Qf 11 0 1),(Ql 12 11),(Qa 13 (.len (.t 12))),(Qa 14 (.bin .lss (.t 10) (.t 13)))]) (.ite (.t 14) (.skip) (.exit 0))) (.seq (.blk 1 (.drw [(Qf 17 0 3),(Ql 18 17),(Qf 19 0 1),(Ql 20 19),(Qm 21 4),(Qk 22 5 20 21),(Qe 23 5 22),(Qa 24 (.call 50 [(.t 23)])),(Qa 25 (.bsl 63 5 1 [.iv 0,.iv 0,.nl,.iv 0,.nl] [(0,(.t 24))])),(Qa 26 (.app 63 5 72 (.t 18) (.t 25))),(Qf 27 0 3),(Qs 1 27 26)] [[],[0],[],[2],[],[3,4],[5],[6],[7],[1,8,7],[0,1,2,3,4,5,6,7,8,9],[10,9,9,0,1,2,3,4,5,6,7,8,9]] [[1],[0,9],[3],[2,5],[5],[3,4,6],[5,7],[6,8],[7,9],[1,8,11],[11],[9,10]])) (.reg [(Qm 15 4),(Qv 16 15 1),(Qm 4 16)]))
@[go_sem] def e14:EC:=.seq (.reg [(Qx 1 25 2 0),(Qa 2 (.alloc 25 [.nl,.nl]))]) (.seq (.reg [(Qa 5 (.bsl 95 5 0 [.iv 0,.iv 0,.iv 0,.iv 0,.iv 0] [])),(Qf 6 1 1),(Ql 7 6),(Qa 8 (.app 95 5 40 (.t 5) (.t 7))),(Qa 9 (.build [.nl,.nl] [(1,1,(.t 8))])),(Qa 3 (.alloc 25 [.nl,.nl])),(Qs 2 3 9)]) (.seq (.seq (.reg [(Qi 4 0)]) (.blk 0 (.loop e14_L0))) (.seq (.reg [(Qe 28 2 3),(Qs 2 2 28)]) (.ret))))
theorem ok14:FnOK Tryz.prog 14 Tryz.f14 e14 [.c 2 (some 2)] 1 28:=⟨by kernel_rfl,⟨_,rfl,by kernel_rfl⟩,by kernel_rfl,by kernel_rfl⟩
noncomputable def Zgj (x2:(List Mail)):(List Drinker)→Option Bar
| x28=>
 some (Bar.mk x28 x2)
noncomputable def Zhj (x1:Bar) (x2:(List Mail)):(Int×(List Drinker))→Option ((Int×(List Drinker)) ⊕ Bar)
| (x8,x9)=>
 ifb (decide (x8<(ln Drinker.row x1.Drinkers))) (
 (at_ x1.Drinkers x8).bind fun x10=>
 (Zej x10).bind fun x11=>
 (Z84 72 x9 ([x11])).bind fun x13=>
 some (.inl (wr (x8+1),x13))) (
 Option.map Sum.inr ((Zgj x2) x9))
noncomputable def Zij (x1:Bar):Option Bar:=
 (Z84 40 (([]:List Mail)) x1.Mail).bind fun x2=>
 loop (Zhj x1 x2) (0,([]:List Drinker))
theorem Zjj (x1:Bar) (r:Bar) (h:Zij x1=some r):Zp2 Tryz.prog 14 [.agg (Bar.row x1)] (.agg (Bar.row r)):=by
 refine Zt2 ok14 rfl rfl fun w0 H0=>?_
 rw [Zij] at h
 refine Zk2 10 ?_;dsimp only [go_sem];refine An ?_;obtain ⟨x2,ex2,h⟩:=Bs h;refine Zl4 Mail.row ex2 trivial rfl rfl rfl ?_;refine Zk2 9 ?_;dsimp only [go_sem];refine An ?_;refine Ze4 (fun (x28:(List Drinker))=>(⟨(.any :: .any :: .ptr 1 0 :: .ptr 2 0::an 25 []),[none,some ⟨25,[.nl,.nl]⟩,some ⟨25,[.osl 2,.osl 1]⟩],[none,some ⟨95,5,List.map Mail.row x2⟩,some ⟨63,5,List.map Drinker.row x28⟩]⟩:St)) (Zgj x2) r ?_ fun J1=>?_
 ·intro x28 h;rw [Zgj] at h;(try dsimp only);refine Zk2 5 ?_;dsimp only [go_sem];refine An ?_;refine Z73 2 rfl ?_;dsimp only [go_sem];refine Z73 1 rfl ?_;dsimp only [go_sem];exact Zo4 (res:=fun (r:Bar)=>.agg (Bar.row r)) ok14 h
 ·refine Zk2 1 ?_;dsimp only [go_sem];refine An ?_;refine Z24 2 0 63 5 rfl rfl rfl ?_;dsimp only [go_sem];refine Zf4 h (fun ((x8,x9):(Int×(List Drinker)))=>(⟨(.any :: .ptr 0 0 :: .ptr 1 0 :: .ptr 2 0 :: .iv x8::an 24 []),[some ⟨25,[.sl 5 (List.map Drinker.row x1.Drinkers),.sl 5 (List.map Mail.row x1.Mail)]⟩,some ⟨25,[.nl,.nl]⟩,some ⟨25,[.osl 2,.osl 1]⟩],[none,some ⟨95,5,List.map Mail.row x2⟩,some ⟨63,5,List.map Drinker.row x9⟩]⟩:St)) (by simp [go_sem]) (by rintro ⟨x8,x9⟩;first | rfl | simp [go_sem]) ?_;rintro n1 ⟨x8,x9⟩ y1 h hin1 hout1
  rw [Zhj] at h;(try dsimp only);refine Zk2 9 ?_;dsimp only [go_sem];refine An ?_;refine Zg4 h rfl (fun _ h=>?_) fun _ h=>?_
  ·refine Zk2 3 ?_;dsimp only [go_sem];refine An ?_;refine Zf3 (by kernel_rfl) fun all hall hs hnap haf=>?_;dsimp only [go_sem];refine Z55 hall hs haf hnap 4 8 ?_;dsimp only [go_sem];refine An ?_;obtain ⟨x10,ex10,h⟩:=Bs h;refine Zk4 hall hs haf hnap 5 Drinker.row ex10 rfl rfl trivial rfl rfl rfl rfl ?_;refine Z55 hall hs haf hnap 1 6 ?_;dsimp only [go_sem];refine An ?_;obtain ⟨x11,ex11,h⟩:=Bs h;refine Zr3 1 7 rfl ?_ ?_
   ·refine Zv3 hall rfl trivial ?_;dsimp only [go_sem];refine Zq3 7 rfl ?_;refine Zw3 hall rfl trivial (Zfj x10 _ ex11) (h:=?_);dsimp only [go_sem];refine Zq3 8 rfl ?_;refine Zv3 hall rfl trivial ?_;dsimp only [go_sem];refine Zq3 9 rfl ?_;obtain ⟨x13,ex13,h⟩:=Bs h;refine Zm4 Drinker.row ex13 hall rfl trivial rfl rfl rfl ?_;dsimp only [go_sem];refine Z55 hall hs haf hnap 1 1 ?_;dsimp only [go_sem];refine An ?_;refine Zq3 11 rfl ?_;refine Zv3 hall rfl trivial ?_;dsimp only [go_sem];refine Zp3 rfl ?_ _;refine Zk2 6 ?_
    dsimp only [go_sem];refine An ?_;refine Z14 4 2 rfl rfl rfl ?_;dsimp only [go_sem];exact Zp4 h hin1
   ·refine Zw3 hall rfl trivial (Zfj x10 _ ex11) (h:=?_);dsimp only [go_sem];refine Zr3 1 8 rfl ?_ ?_
    ·refine Zv3 hall rfl trivial ?_;dsimp only [go_sem];refine Zq3 8 rfl ?_;refine Zv3 hall rfl trivial ?_;dsimp only [go_sem];refine Zq3 9 rfl ?_;obtain ⟨x13,ex13,h⟩:=Bs h;refine Zm4 Drinker.row ex13 hall rfl trivial rfl rfl rfl ?_;dsimp only [go_sem];refine Z55 hall hs haf hnap 1 1 ?_;dsimp only [go_sem];refine An ?_;refine Zq3 11 rfl ?_;refine Zv3 hall rfl trivial ?_;dsimp only [go_sem];refine Zp3 rfl ?_ _;refine Zk2 6 ?_;dsimp only [go_sem];refine An ?_;refine Z14 4 2 rfl rfl rfl ?_;dsimp only [go_sem];exact Zp4 h hin1
    ·refine Zv3 hall rfl trivial ?_;dsimp only [go_sem];refine Zq3 1 rfl ?_;refine Zv3 hall rfl trivial ?_;dsimp only [go_sem];refine Zq3 9 rfl ?_;obtain ⟨x13,ex13,h⟩:=Bs h;refine Zm4 Drinker.row ex13 hall rfl trivial rfl rfl rfl ?_;dsimp only [go_sem];refine Z55 hall hs haf hnap 1 1 ?_;dsimp only [go_sem];refine An ?_;refine Zq3 11 rfl ?_;refine Zv3 hall rfl trivial ?_;dsimp only [go_sem];refine Zp3 rfl ?_ _;refine Zk2 6 ?_;dsimp only [go_sem];refine An ?_;refine Z14 4 2 rfl rfl rfl ?_;dsimp only [go_sem];exact Zp4 h hin1
  ·refine Zk2 1 ?_;dsimp only [go_sem];refine An ?_;exact Zq4 J1 (s:=x9) (Zd4 h hout1)
set_option maxRecDepth 100000
set_option maxHeartbeats 4000000
@[go_sem] def e22_L0:EC:=.seq (.reg [(Qa 12 (.bin .lss (.t 11) (.t 10)))]) (.seq (.ite (.t 12) (.skip) (.exit 0)) (.seq (.blk 1 (.seq (.reg [(Qk 13 5 9 11),(Qe 14 5 13),(Qa 7 (.alloc 63 [.iv 0,.iv 0,.nl,.iv 0,.nl])),(Qs 5 7 14)]) (.seq (.reg [(Qf 15 3 7),(Ql 16 15),(Qm 17 1),(Qa 18 (.bin .eql (.t 16) (.t 17)))]) (.ite (.t 18) (.reg [(Qm 19 5),(Qf 20 0 7),(Qf 21 0 20),(Ql 22 21),(Qa 23 (.bsl 3 1 1 [.iv 0] [(0,(.t 22))])),(Qa 24 (.app 3 1 8 (.t 19) (.t 23))),(Qm 5 24)]) (.skip))))) (.reg [(Qv 25 11 1),(Qm 11 25)])))
@[go_sem] def e22:EC:=.seq (.reg [(Qx 2 25 2 0),(Qa 4 (.mv (.c .nl)))]) (.seq (.reg [(Qa 5 (.mv (.c .nl)))]) (.seq (.seq (.reg [(Qf 8 0 2),(Ql 9 8),(Qa 10 (.len (.t 9))),(Qi 11 0)]) (.blk 0 (.loop e22_L0))) (.seq (.reg [(Qm 26 5),(Qm 4 26)]) (.ret))))
theorem ok22:FnOK Tryz.prog 22 Tryz.f22 e22 [.t 4] 2 25:=⟨by kernel_rfl,⟨_,rfl,by kernel_rfl⟩,by kernel_rfl,by kernel_rfl⟩
noncomputable def Zkj:(List Int)→Option (List Int)
| x20=>
 some x20
noncomputable def Zlj (x8:Int):(List Int)→Option ((Int×(List Int)) ⊕ (List Int))
| x12=>
 some (.inl (wr (x8+1),x12))
noncomputable def Zmj (x1:Bar) (x2:Int):(Int×(List Int))→Option ((Int×(List Int)) ⊕ (List Int))
| (x8,x9)=>
 ifb (decide (x8<(ln Drinker.row x1.Drinkers))) (
 (at_ x1.Drinkers x8).bind fun x10=>
 ifb (decide (x10.Thirst=x2)) (
 (Z84 8 x9 ([x10.Diner.ID])).bind fun x11=>
 (Zlj x8) x11) (
 (Zlj x8) x9)) (
 Option.map Sum.inr (Zkj x9))
noncomputable def Znj (x1:Bar) (x2:Int):Option (List Int):=
 loop (Zmj x1 x2) (0,([]:List Int))
theorem o_bar_Who (x1:Bar) (x2:Int) (r:(List Int)) (h:Znj x1 x2=some r):FunO Tryz.prog 22 [.agg (Bar.row x1),.iv x2] 3 1 (List.map Zu4 r):=by
 refine Z25 ok22 rfl fun w0 H0=>?_
 rw [Znj] at h
 refine Zk2 17 ?_;dsimp only [go_sem];refine An ?_;refine Ze4 (fun (x20:(List Int))=>(⟨(an 5 (.osl 0::an 21 [])),[],[some ⟨3,1,List.map Zu4 x20⟩]⟩:St)) Zkj r ?_ fun J1=>?_
 ·intro x20 h;rw [Zkj] at h;(try dsimp only);refine Zk2 5 ?_;dsimp only [go_sem];refine An ?_;exact Z75 Zu4 ok22 h rfl rfl
 ·refine Zk2 1 ?_;dsimp only [go_sem];refine An ?_;refine V_own 5 3 1 rfl rfl ?_;dsimp only [go_sem];refine Zf4 h (fun ((x8,x9):(Int×(List Int)))=>(⟨(.any :: .iv x2::an 3 (.osl 0::an 3 (.sl 5 (List.map Drinker.row x1.Drinkers) :: .iv (ln Drinker.row x1.Drinkers) :: .iv x8::an 15 []))),[],[some ⟨3,1,List.map Zu4 x9⟩]⟩:St)) (by simp [go_sem]) (by rintro ⟨x8,x9⟩;first | rfl | simp [go_sem]) ?_;rintro n1 ⟨x8,x9⟩ y1 h hin1 hout1;rw [Zmj] at h;(try dsimp only);refine Zk2 5 ?_;dsimp only [go_sem];refine An ?_
  refine Zg4 h rfl (fun _ h=>?_) fun _ h=>?_
  ·refine Zk2 5 ?_;dsimp only [go_sem];refine An ?_;obtain ⟨x10,ex10,h⟩:=Bs h;refine Zj4 Drinker.row ex10 trivial rfl rfl rfl ?_;refine Zk2 11 ?_;dsimp only [go_sem];refine An ?_;refine Ze4 (fun (x12:(List Int))=>(⟨(.any :: .iv x2::an 3 (.osl 0::an 3 (.sl 5 (List.map Drinker.row x1.Drinkers) :: .iv (ln Drinker.row x1.Drinkers) :: .iv x8::an 15 []))),[],[some ⟨3,1,List.map Zu4 x12⟩]⟩:St)) (Zlj x8) y1 ?_ fun J2=>?_
   ·intro x12 h;rw [Zlj] at h;(try dsimp only);refine Zk2 5 ?_;dsimp only [go_sem];refine An ?_;exact Zp4 h hin1
   ·refine Zg4 h rfl (fun _ h=>?_) fun _ h=>?_
    ·refine Zk2 6 ?_;dsimp only [go_sem];refine An ?_;obtain ⟨x11,ex11,h⟩:=Bs h;refine Zl4 Zu4 ex11 trivial rfl rfl rfl ?_;refine Zk2 2 ?_;dsimp only [go_sem];refine An ?_;refine Z14 2 0 rfl rfl rfl ?_;dsimp only [go_sem];exact Zq4 J2 (s:=x11) h
    ·refine Zk2 1 ?_;dsimp only [go_sem];refine An ?_;exact Zq4 J2 (s:=x9) h
  ·refine Zk2 1 ?_;dsimp only [go_sem];refine An ?_;exact Zq4 J1 (s:=x9) (Zd4 h hout1)
theorem Zoj (x1:Bar) (x2:Int) (r:(List Int)) (h:Znj x1 x2=some r):Zp2 Tryz.prog 22 [.agg (Bar.row x1),.iv x2] (.sl 1 (List.map Zu4 r)):=(o_bar_Who x1 x2 r h).sealed
set_option maxRecDepth 100000
set_option maxHeartbeats 4000000
@[go_sem] def e19_L1:EC:=.seq (.reg [(Qa 103 (.bin .lss (.t 102) (.t 101)))]) (.seq (.ite (.t 103) (.skip) (.exit 2)) (.seq (.blk 3 (.seq (.reg [(Qk 104 5 100 102),(Qe 105 5 104),(Qa 16 (.alloc 95 [.iv 0,.iv 0,.iv 0,.iv 0,.iv 0])),(Qs 5 16 105)]) (.seq (.reg [(Qf 106 2 16),(Qf 107 0 106),(Ql 108 107),(Qm 109 2),(Qa 110 (.bin .eql (.t 108) (.t 109))),(Qm 111 110),(Qh 112 111 true 2 16),(Qh 113 111 true 1 112),(Qn 114 111 true 113),(Qh 115 111 true 1 7),(Qn 116 111 true 115),(Qg 117 111 true (.bin .eql (.t 114) (.t 116))),(Qp 118 111 117),(Qm 119 118),(Qh 120 119 true 0 16),(Qn 121 119 true 120),(Qh 122 119 true 1 16),(Qn 123 119 true 122),(Qg 124 119 true (.mm false [(.t 121),(.t 123)])),(Qh 125 119 true 0 4),(Qn 126 119 true 125),(Qh 127 119 true 1 4),(Qn 128 119 true 127),(Qg 129 119 true (.mm false [(.t 126),(.t 128)])),(Qg 130 119 true (.bin .eql (.t 124) (.t 129))),(Qp 131 119 130),(Qm 132 131),(Qh 133 132 true 0 16),(Qn 134 132 true 133),(Qh 135 132 true 1 16),(Qn 136 132 true 135),(Qg 137 132 true (.mm true [(.t 134),(.t 136)])),(Qh 138 132 true 0 4),(Qn 139 132 true 138),(Qh 140 132 true 1 4),(Qn 141 132 true 140),(Qg 142 132 true (.mm true [(.t 139),(.t 141)])),(Qg 143 132 true (.bin .eql (.t 137) (.t 142))),(Qp 144 132 143)]) (.ite (.t 144) (.reg [(Qm 145 12),(Qv 146 145 1),(Qm 12 146)]) (.skip))))) (.reg [(Qv 147 102 1),(Qm 102 147)])))
@[go_sem] def e19_L0:EC:=.seq (.reg [(Qa 93 (.bin .lss (.t 92) (.c (.iv 2))))]) (.seq (.ite (.t 93) (.skip) (.exit 0)) (.seq (.blk 1 (.seq (.reg [(Qa 94 (.ai 2 (.t 91) (.t 92))),(Qm 14 94)]) (.seq (.reg [(Qm 95 14)]) (.ite (.t 95) (.reg [(Qm 96 12),(Qv 97 96 1),(Qm 12 97)]) (.skip))))) (.reg [(Qv 98 92 1),(Qm 92 98)])))
@[go_sem] def e19:EC:=.seq (.reg [(Qx 3 25 2 0),(Qx 4 30 2 1),(Qi 6 0)]) (.seq (.seq (.reg [(Qm 17 2),(Qa 18 (.bin .neq (.t 17) (.c (.iv 3)))),(Qm 19 18),(Qg 20 19 true (.mv (.t 2))),(Qg 21 19 true (.bin .neq (.t 20) (.c (.iv 4)))),(Qp 22 19 21)]) (.ite (.t 22) (.seq (.drw [(Qe 23 2 3),(Qa 24 (.call 26 [(.t 23)])),(Qe 25 2 4),(Qm 26 2),(Qa 27 (.call 63 [(.t 24),(.t 25),(.t 26)])),(Qm 6 27)] [[],[0],[],[],[1,2,3,1],[4,4,0,1,2,3,4]] [[1],[0,4],[4],[4],[1,2,3,5],[4]]) (.ret)) (.skip))) (.seq (.seq (.reg [(Qe 28 2 3),(Qf 29 0 4),(Ql 30 29),(Qa 31 (.call 64 [(.t 28),(.t 30)])),(Qa 32 (.not (.t 31))),(Qm 33 32),(Qg 34 33 false (.loadA 2 (.t 3))),(Qh 35 33 false 1 4),(Qn 36 33 false 35),(Qg 37 33 false (.call 64 [(.t 34),(.t 36)])),(Qg 38 33 false (.not (.t 37))),(Qq 39 33 38)]) (.ite (.t 39) (.seq (.reg [(Qi 6 0)]) (.ret)) (.skip))) (.seq (.drw [(Qf 41 0 3),(Ql 42 41),(Qf 43 0 4),(Ql 44 43),(Qk 45 5 42 44),(Qf 46 0 45),(Qe 47 3 46),(Qf 48 1 4),(Ql 49 48),(Qa 50 (.call 65 [(.t 47),(.t 49)])),(Qm 40 50),(Qa 51 (.ext (.t 40) 0)),(Qa 52 (.ext (.t 40) 1)),(Qa 7 (.alloc 66 [.iv 0,.iv 0,.iv 0,.ff,.ff,.ff,.ff,.ff])),(Qs 8 7 51),(Qm 8 52)] [[],[0],[],[2],[1,3],[4],[5],[],[7],[6,8],[9],[10],[10],[],[13,11,9,0,1,2,3,4,5,6,7,8,9,10,11,13],[12,14,0,1,2,3,4,5,6,7,8,9,10,11,12,13,14]] [[1],[0,4],[3],[2,4],[1,3,5],[4,6],[5,9],[8],[7,9],[6,8,10],[9,11,12],[10,14],[10,15],[14],[11,13],[12]]) (.seq (.drw [(Qf 54 0 3),(Ql 55 54),(Qf 56 1 4),(Ql 57 56),(Qk 58 5 55 57),(Qf 59 0 58),(Qe 60 3 59),(Qf 61 0 4),(Ql 62 61),(Qa 63 (.call 65 [(.t 60),(.t 62)])),(Qm 53 63),(Qa 64 (.ext (.t 53) 0)),(Qa 65 (.ext (.t 53) 1)),(Qa 9 (.alloc 66 [.iv 0,.iv 0,.iv 0,.ff,.ff,.ff,.ff,.ff])),(Qs 8 9 64),(Qm 10 65)] [[],[0],[],[2],[1,3],[4],[5],[],[7],[6,8],[9],[10],[10],[],[13,11,9,0,1,2,3,4,5,6,7,8,9,10,11,13],[12,14,0,1,2,3,4,5,6,7,8,9,10,11,12,13,14]] [[1],[0,4],[3],[2,4],[1,3,5],[4,6],[5,9],[8],[7,9],[6,8,10],[9,11,12],[10,14],[10,15],[14],[11,13],[12]]) (.seq (.seq (.reg [(Qm 66 8),(Qa 67 (.not (.t 66))),(Qm 68 67),(Qg 69 68 false (.mv (.t 10))),(Qg 70 68 false (.not (.t 69))),(Qq 71 68 70),(Qm 72 71),(Qh 73 72 false 1 7),(Qn 74 72 false 73),(Qh 75 72 false 1 9),(Qn 76 72 false 75),(Qg 77 72 false (.bin .neq (.t 74) (.t 76))),(Qq 78 72 77)]) (.ite (.t 78) (.seq (.reg [(Qi 6 0)]) (.ret)) (.skip))) (.seq (.reg [(Qf 79 6 7),(Ql 80 79),(Qf 81 6 9),(Ql 82 81),(Qa 83 (.build [.ff,.ff] [(0,1,(.t 80)),(1,1,(.t 82))])),(Qa 11 (.alloc 105 [.ff,.ff])),(Qs 2 11 83)]) (.seq (.seq (.reg [(Qm 84 2),(Qa 85 (.bin .eql (.t 84) (.c (.iv 4))))]) (.ite (.t 85) (.reg [(Qf 86 7 7),(Ql 87 86),(Qf 88 7 9),(Ql 89 88),(Qa 90 (.build [.ff,.ff] [(0,1,(.t 87)),(1,1,(.t 89))])),(Qs 2 11 90)]) (.skip))) (.seq (.reg [(Qi 12 0)]) (.seq (.seq (.reg [(Qe 91 2 11),(Qi 92 0)]) (.blk 0 (.loop e19_L0))) (.seq (.seq (.reg [(Qf 99 1 3),(Ql 100 99),(Qa 101 (.len (.t 100))),(Qi 102 0)]) (.blk 2 (.loop e19_L1))) (.seq (.reg [(Qm 148 12),(Qm 6 148)]) (.ret))))))))))))
theorem ok19:FnOK Tryz.prog 19 Tryz.f19 e19 [.t 6] 3 146:=⟨by kernel_rfl,⟨_,rfl,by kernel_rfl⟩,by kernel_rfl,by kernel_rfl⟩
noncomputable def Zpj:Int→Option Int
| x61=>
 some x61
noncomputable def Zqj (x48:Int):Int→Option ((Int×Int) ⊕ Int)
| x51=>
 some (.inl (x51,wr (x48+1)))
noncomputable def Zrj (x47:Int) (x48:Int):Bool→Option ((Int×Int) ⊕ Int)
| x50=>
 ifb x50 (
 (Zqj x48) (wr (x47+1))) (
 (Zqj x48) x47)
noncomputable def Zsj (x1:Bar) (x2:Edge) (x3:Int) (x14:Side):(Int×Int)→Option ((Int×Int) ⊕ Int)
| (x47,x48)=>
 ifb (decide (x48<(ln Mail.row x1.Mail))) (
 (at_ x1.Mail x48).bind fun x49=>
 ifb (decide (x49.Msg.Kind=x3)) (
 ifb (decide (x49.Msg.Epoch=x14.Epoch)) (
 ifb (decide (((min x49.From x49.To))=((min x2.A x2.B)))) (
 (Zrj x47 x48) (decide (((max x49.From x49.To))=((max x2.A x2.B))))) (
 (Zrj x47 x48) false)) (
 (Zrj x47 x48) false)) (
 (Zrj x47 x48) false)) (
 Option.map Sum.inr (Zpj x47))
noncomputable def Ztj (x1:Bar) (x2:Edge) (x3:Int) (x14:Side):Int→Option Int
| x41=>
 loop (Zsj x1 x2 x3 x14) (x41,0)
noncomputable def Zuj (x28:Int):Int→Option ((Int×Int) ⊕ Int)
| x30=>
 some (.inl (x30,wr (x28+1)))
noncomputable def Zvj (x1:Bar) (x2:Edge) (x3:Int) (x14:Side) (x21:Bool) (x22:Bool):(Int×Int)→Option ((Int×Int) ⊕ Int)
| (x27,x28)=>
 ifb (decide (x28<2)) (
 (at_ [x21,x22] x28).bind fun x29=>
 ifb x29 (
 (Zuj x28) (wr (x27+1))) (
 (Zuj x28) x27)) (
 Option.map Sum.inr ((Ztj x1 x2 x3 x14) x27))
noncomputable def Zwj (x1:Bar) (x2:Edge) (x3:Int) (x14:Side):(Bool×Bool)→Option Int
| (x21,x22)=>
 loop (Zvj x1 x2 x3 x14 x21 x22) (0,0)
noncomputable def Zxj (x1:Bar) (x2:Edge) (x3:Int) (x14:Side) (x19:Side):Bool→Option Int
| x20=>
 ifb x20 (
 some 0) (
 ifb (decide (x3=4)) (
 (Zwj x1 x2 x3 x14) (x14.Ask,x19.Ask)) (
 (Zwj x1 x2 x3 x14) (x14.Bottle,x19.Bottle)))
noncomputable def Zyj (x1:Bar) (x2:Edge) (x3:Int) (x13:Bool) (x14:Side):(Bool×Side)→Option Int
| (x18,x19)=>
 ifb (!x13) (
 (Zxj x1 x2 x3 x14 x19) true) (
 ifb (!x18) (
 (Zxj x1 x2 x3 x14 x19) true) (
 (Zxj x1 x2 x3 x14 x19) (!decide (x14.Epoch=x19.Epoch))))
noncomputable def Zzj (x1:Bar) (x2:Edge) (x3:Int):(Bool×Side)→Option Int
| (x13,x14)=>
 (at_ x1.Drinkers x2.B).bind fun x15=>
 (Zt7 x15.Diner x2.A).bind fun x16=>
 (Zyj x1 x2 x3 x13 x14) (x16.2,x16.1)
noncomputable def Z0k (x1:Bar) (x2:Edge) (x3:Int):Bool→Option Int
| x9=>
 ifb x9 (
 some 0) (
 (at_ x1.Drinkers x2.A).bind fun x10=>
 (Zt7 x10.Diner x2.B).bind fun x11=>
 (Zzj x1 x2 x3) (x11.2,x11.1))
noncomputable def Z1k (x1:Bar) (x2:Edge) (x3:Int):Bool→Option Int
| x4=>
 ifb x4 (
 (Zdi x1).bind fun x5=>
 (Z3i x5 x2 x3).bind fun x6=>
 some x6) (
 (Zpi x1 x2.A).bind fun x7=>
 ifb (!x7) (
 (Z0k x1 x2 x3) true) (
 (Zpi x1 x2.B).bind fun x8=>
 (Z0k x1 x2 x3) (!x8)))
noncomputable def Z2k (x1:Bar) (x2:Edge) (x3:Int):Option Int:=
 ifb (!decide (x3=3)) (
 (Z1k x1 x2 x3) (!decide (x3=4))) (
 (Z1k x1 x2 x3) false)
theorem Z3k (x1:Bar) (x2:Edge) (x3:Int) (r:Int) (h:Z2k x1 x2 x3=some r):Zp2 Tryz.prog 19 [.agg (Bar.row x1),.agg (Edge.row x2),.iv x3] (.iv r):=by
 refine Zt2 ok19 rfl rfl fun w0 H0=>?_
 rw [Z2k] at h
 refine Zk2 12 ?_;dsimp only [go_sem];refine An ?_;refine Ze4 (fun (x4:Bool)=>(⟨(.any :: .any :: .iv x3 :: .ptr 0 0 :: .ptr 1 0::an 17 (.bv x4::an 126 [])),[some ⟨25,[.sl 5 (List.map Drinker.row x1.Drinkers),.sl 5 (List.map Mail.row x1.Mail)]⟩,some ⟨30,[.iv x2.A,.iv x2.B]⟩],[]⟩:St)) (Z1k x1 x2 x3) r ?_ fun J1=>?_
 ·intro x4 h;rw [Z1k] at h;(try dsimp only);refine Zg4 h rfl (fun _ h=>?_) fun _ h=>?_
  ·refine Zk2 1 ?_;dsimp only [go_sem];refine An ?_;refine Zf3 (by kernel_rfl) fun all hall hs hnap haf=>?_;dsimp only [go_sem];refine Z55 hall hs haf hnap 3 3 ?_;dsimp only [go_sem];refine An ?_;refine Zq3 1 rfl ?_;obtain ⟨x5,ex5,h⟩:=Bs h;refine Zw3 hall rfl trivial (Zei x1 _ ex5) (h:=?_);dsimp only [go_sem];refine Zq3 4 rfl ?_;obtain ⟨x6,ex6,h⟩:=Bs h;refine Zw3 hall rfl trivial (k_table_Count x5 x2 x3 _ ex6) (h:=?_);dsimp only [go_sem];refine Z55 hall hs haf hnap 1 0 ?_;dsimp only [go_sem];refine An ?_;refine Zp3 rfl ?_ _
   exact Zo4 (res:=fun (r:Int)=>.iv r) ok19 h
  ·refine Zk2 7 ?_;dsimp only [go_sem];refine An ?_;obtain ⟨x7,ex7,h⟩:=Bs h;refine Zy2 trivial (Zqi x1 x2.A _ ex7) (h:=?_);refine Zk2 2 ?_;dsimp only [go_sem];refine An ?_;refine Ze4 (fun (x9:Bool)=>(⟨(.any :: .any :: .iv x3 :: .ptr 0 0 :: .ptr 1 0::an 34 (.bv x9::an 109 [])),[some ⟨25,[.sl 5 (List.map Drinker.row x1.Drinkers),.sl 5 (List.map Mail.row x1.Mail)]⟩,some ⟨30,[.iv x2.A,.iv x2.B]⟩],[]⟩:St)) (Z0k x1 x2 x3) r ?_ fun J2=>?_
   ·intro x9 h;rw [Z0k] at h;(try dsimp only);refine Zg4 h rfl (fun _ h=>?_) fun _ h=>?_
    ·refine Zk2 4 ?_;dsimp only [go_sem];refine An ?_;exact Zo4 (res:=fun (r:Int)=>.iv r) ok19 h
    ·refine Zk2 2 ?_;dsimp only [go_sem];refine An ?_;refine Ze4 (fun ((x13,x14):(Bool×Side))=>(⟨(.any :: .any :: .iv x3 :: .ptr 0 0 :: .ptr 1 0 :: .any :: .any :: .ptr 2 0 :: .bv x13::an 140 []),[some ⟨25,[.sl 5 (List.map Drinker.row x1.Drinkers),.sl 5 (List.map Mail.row x1.Mail)]⟩,some ⟨30,[.iv x2.A,.iv x2.B]⟩,some ⟨66,[.iv x14.Peer,.iv x14.Epoch,.iv x14.State,.bv x14.Fork,.bv x14.Dirty,.bv x14.Token,.bv x14.Bottle,.bv x14.Ask]⟩],[]⟩:St)) (Zzj x1 x2 x3) r ?_ fun J3=>?_
     ·rintro ⟨x13,x14⟩ h;rw [Zzj] at h;(try dsimp only);refine Zk2 1 ?_;dsimp only [go_sem];refine An ?_
      refine Ze4 (fun ((x18,x19):(Bool×Side))=>(⟨(.any :: .any :: .iv x3 :: .ptr 0 0 :: .ptr 1 0 :: .any :: .any :: .ptr 2 0 :: .bv x13 :: .ptr 3 0 :: .bv x18::an 138 []),[some ⟨25,[.sl 5 (List.map Drinker.row x1.Drinkers),.sl 5 (List.map Mail.row x1.Mail)]⟩,some ⟨30,[.iv x2.A,.iv x2.B]⟩,some ⟨66,[.iv x14.Peer,.iv x14.Epoch,.iv x14.State,.bv x14.Fork,.bv x14.Dirty,.bv x14.Token,.bv x14.Bottle,.bv x14.Ask]⟩,some ⟨66,[.iv x19.Peer,.iv x19.Epoch,.iv x19.State,.bv x19.Fork,.bv x19.Dirty,.bv x19.Token,.bv x19.Bottle,.bv x19.Ask]⟩],[]⟩:St)) (Zyj x1 x2 x3 x13 x14) r ?_ fun J4=>?_
      ·rintro ⟨x18,x19⟩ h;rw [Zyj] at h;(try dsimp only);refine Zk2 6 ?_;dsimp only [go_sem];refine An ?_
       refine Ze4 (fun (x20:Bool)=>(⟨(.any :: .any :: .iv x3 :: .ptr 0 0 :: .ptr 1 0 :: .any :: .any :: .ptr 2 0 :: .any :: .ptr 3 0::an 68 (.bv x20::an 70 [])),[some ⟨25,[.sl 5 (List.map Drinker.row x1.Drinkers),.sl 5 (List.map Mail.row x1.Mail)]⟩,some ⟨30,[.iv x2.A,.iv x2.B]⟩,some ⟨66,[.iv x14.Peer,.iv x14.Epoch,.iv x14.State,.bv x14.Fork,.bv x14.Dirty,.bv x14.Token,.bv x14.Bottle,.bv x14.Ask]⟩,some ⟨66,[.iv x19.Peer,.iv x19.Epoch,.iv x19.State,.bv x19.Fork,.bv x19.Dirty,.bv x19.Token,.bv x19.Bottle,.bv x19.Ask]⟩],[]⟩:St)) (Zxj x1 x2 x3 x14 x19) r ?_ fun J5=>?_
       ·intro x20 h;rw [Zxj] at h;(try dsimp only);refine Zg4 h rfl (fun _ h=>?_) fun _ h=>?_
        ·refine Zk2 4 ?_;dsimp only [go_sem];refine An ?_;exact Zo4 (res:=fun (r:Int)=>.iv r) ok19 h
        ·refine Zk2 17 ?_;dsimp only [go_sem];refine An ?_;refine Ze4 (fun ((x21,x22):(Bool×Bool))=>(⟨(.any :: .any :: .iv x3 :: .ptr 0 0 :: .ptr 1 0 :: .any :: .any :: .ptr 2 0::an 3 (.ptr 4 0::an 137 [])),[some ⟨25,[.sl 5 (List.map Drinker.row x1.Drinkers),.sl 5 (List.map Mail.row x1.Mail)]⟩,some ⟨30,[.iv x2.A,.iv x2.B]⟩,some ⟨66,[.iv x14.Peer,.iv x14.Epoch,.iv x14.State,.bv x14.Fork,.bv x14.Dirty,.bv x14.Token,.bv x14.Bottle,.bv x14.Ask]⟩,none,some ⟨105,[.bv x21,.bv x22]⟩],[]⟩:St)) (Zwj x1 x2 x3 x14) r ?_ fun J6=>?_
         ·rintro ⟨x21,x22⟩ h;rw [Zwj] at h;(try dsimp only);refine Zk2 10 ?_;dsimp only [go_sem];refine An ?_;refine Ze4 (fun (x41:Int)=>(⟨(.any :: .any :: .iv x3 :: .ptr 0 0 :: .ptr 1 0 :: .any :: .any :: .ptr 2 0::an 4 (.iv x41::an 136 [])),[some ⟨25,[.sl 5 (List.map Drinker.row x1.Drinkers),.sl 5 (List.map Mail.row x1.Mail)]⟩,some ⟨30,[.iv x2.A,.iv x2.B]⟩,some ⟨66,[.iv x14.Peer,.iv x14.Epoch,.iv x14.State,.bv x14.Fork,.bv x14.Dirty,.bv x14.Token,.bv x14.Bottle,.bv x14.Ask]⟩],[]⟩:St)) (Ztj x1 x2 x3 x14) r ?_ fun J7=>?_
          ·intro x41 h;rw [Ztj] at h;(try dsimp only);refine Zk2 8 ?_;dsimp only [go_sem];refine An ?_;refine Ze4 (fun (x61:Int)=>(⟨(an 12 (.iv x61::an 136 [])),[],[]⟩:St)) Zpj r ?_ fun J9=>?_
           ·intro x61 h;rw [Zpj] at h;(try dsimp only);refine Zk2 5 ?_;dsimp only [go_sem];refine An ?_;exact Zo4 (res:=fun (r:Int)=>.iv r) ok19 h
           ·refine Zk2 1 ?_;dsimp only [go_sem];refine An ?_;refine Zf4 h (fun ((x47,x48):(Int×Int))=>(⟨(.any :: .any :: .iv x3 :: .any :: .ptr 1 0 :: .any :: .any :: .ptr 2 0::an 4 (.iv x47::an 87 (.sl 5 (List.map Mail.row x1.Mail) :: .iv (ln Mail.row x1.Mail) :: .iv x48::an 46 []))),[none,some ⟨30,[.iv x2.A,.iv x2.B]⟩,some ⟨66,[.iv x14.Peer,.iv x14.Epoch,.iv x14.State,.bv x14.Fork,.bv x14.Dirty,.bv x14.Token,.bv x14.Bottle,.bv x14.Ask]⟩],[]⟩:St)) (by simp [go_sem]) (by rintro ⟨x47,x48⟩;first | rfl | simp [go_sem]) ?_
            rintro n1 ⟨x47,x48⟩ y1 h hin1 hout1;rw [Zsj] at h;(try dsimp only);refine Zk2 5 ?_;dsimp only [go_sem];refine An ?_;refine Zg4 h rfl (fun _ h=>?_) fun _ h=>?_
            ·refine Zk2 5 ?_;dsimp only [go_sem];refine An ?_;obtain ⟨x49,ex49,h⟩:=Bs h;refine Zj4 Mail.row ex49 trivial rfl rfl rfl ?_;refine Zk2 12 ?_;dsimp only [go_sem];refine An ?_
             refine Ze4 (fun (x50:Bool)=>(⟨(.any :: .any :: .iv x3 :: .any :: .ptr 1 0 :: .any :: .any :: .ptr 2 0::an 4 (.iv x47::an 87 (.sl 5 (List.map Mail.row x1.Mail) :: .iv (ln Mail.row x1.Mail) :: .iv x48::an 41 (.bv x50::an 4 [])))),[none,some ⟨30,[.iv x2.A,.iv x2.B]⟩,some ⟨66,[.iv x14.Peer,.iv x14.Epoch,.iv x14.State,.bv x14.Fork,.bv x14.Dirty,.bv x14.Token,.bv x14.Bottle,.bv x14.Ask]⟩],[]⟩:St)) (Zrj x47 x48) y1 ?_ fun J10=>?_
             ·intro x50 h;rw [Zrj] at h;(try dsimp only);refine Ze4 (fun (x51:Int)=>(⟨(.any :: .any :: .iv x3 :: .any :: .ptr 1 0 :: .any :: .any :: .ptr 2 0::an 4 (.iv x51::an 87 (.sl 5 (List.map Mail.row x1.Mail) :: .iv (ln Mail.row x1.Mail) :: .iv x48::an 46 []))),[none,some ⟨30,[.iv x2.A,.iv x2.B]⟩,some ⟨66,[.iv x14.Peer,.iv x14.Epoch,.iv x14.State,.bv x14.Fork,.bv x14.Dirty,.bv x14.Token,.bv x14.Bottle,.bv x14.Ask]⟩],[]⟩:St)) (Zqj x48) y1 ?_ fun J11=>?_
              ·intro x51 h;rw [Zqj] at h;(try dsimp only);refine Zk2 5 ?_;dsimp only [go_sem];refine An ?_;exact Zp4 h hin1
              ·refine Zg4 h rfl (fun _ h=>?_) fun _ h=>?_
               ·refine Zk2 5 ?_;dsimp only [go_sem];refine An ?_;exact Zq4 J11 (s:=wr (x47+1)) h
               ·refine Zk2 1 ?_;dsimp only [go_sem];refine An ?_;exact Zq4 J11 (s:=x47) h
             ·refine Zn4 111 h rfl (fun _ h=>?_) fun _ h=>?_
              ·dsimp only [go_sem];refine Zk2 8 ?_;dsimp only [go_sem];refine An ?_;refine Zn4 119 h rfl (fun _ h=>?_) fun _ h=>?_
               ·dsimp only [go_sem];refine Zk2 13 ?_;dsimp only [go_sem];refine An ?_;refine Zn4 132 h rfl (fun _ h=>?_) fun _ h=>?_
                ·dsimp only [go_sem];refine Zk2 13 ?_;dsimp only [go_sem];refine An ?_;exact Zq4 J10 (s:=decide (((max x49.From x49.To))=((max x2.A x2.B)))) h
                ·dsimp only [go_sem];refine Zk2 13 ?_;dsimp only [go_sem];refine An ?_;exact Zq4 J10 (s:=false) h
               ·dsimp only [go_sem];refine Zk2 26 ?_;dsimp only [go_sem];refine An ?_;exact Zq4 J10 (s:=false) h
              ·dsimp only [go_sem];refine Zk2 34 ?_;dsimp only [go_sem];refine An ?_;exact Zq4 J10 (s:=false) h
            ·refine Zk2 1 ?_;dsimp only [go_sem];refine An ?_;exact Zq4 J9 (s:=x47) (Zd4 h hout1)
          ·refine Zk2 1 ?_;dsimp only [go_sem];refine An ?_
           refine Zf4 h (fun ((x27,x28):(Int×Int))=>(⟨(.any :: .any :: .iv x3 :: .ptr 0 0 :: .ptr 1 0 :: .any :: .any :: .ptr 2 0::an 4 (.iv x27::an 78 (.agg [.bv x21,.bv x22] :: .iv x28::an 56 []))),[some ⟨25,[.sl 5 (List.map Drinker.row x1.Drinkers),.sl 5 (List.map Mail.row x1.Mail)]⟩,some ⟨30,[.iv x2.A,.iv x2.B]⟩,some ⟨66,[.iv x14.Peer,.iv x14.Epoch,.iv x14.State,.bv x14.Fork,.bv x14.Dirty,.bv x14.Token,.bv x14.Bottle,.bv x14.Ask]⟩],[]⟩:St)) (by simp [go_sem]) (by rintro ⟨x27,x28⟩;first | rfl | simp [go_sem]) ?_
           rintro n1 ⟨x27,x28⟩ y1 h hin1 hout1;rw [Zvj] at h;(try dsimp only);refine Zk2 5 ?_;dsimp only [go_sem];refine An ?_;refine Zg4 h rfl (fun _ h=>?_) fun _ h=>?_
           ·refine Zk2 5 ?_;dsimp only [go_sem];refine An ?_;obtain ⟨x29,ex29,h⟩:=Bs h;refine V_aiM AV.bv ex29 trivial (by rfl) rfl rfl ?_;refine Zk2 6 ?_;dsimp only [go_sem];refine An ?_
            refine Ze4 (fun (x30:Int)=>(⟨(.any :: .any :: .iv x3 :: .ptr 0 0 :: .ptr 1 0 :: .any :: .any :: .ptr 2 0::an 4 (.iv x30::an 78 (.agg [.bv x21,.bv x22] :: .iv x28::an 56 []))),[some ⟨25,[.sl 5 (List.map Drinker.row x1.Drinkers),.sl 5 (List.map Mail.row x1.Mail)]⟩,some ⟨30,[.iv x2.A,.iv x2.B]⟩,some ⟨66,[.iv x14.Peer,.iv x14.Epoch,.iv x14.State,.bv x14.Fork,.bv x14.Dirty,.bv x14.Token,.bv x14.Bottle,.bv x14.Ask]⟩],[]⟩:St)) (Zuj x28) y1 ?_ fun J8=>?_
            ·intro x30 h;rw [Zuj] at h;(try dsimp only);refine Zk2 5 ?_;dsimp only [go_sem];refine An ?_;exact Zp4 h hin1
            ·refine Zg4 h rfl (fun _ h=>?_) fun _ h=>?_
             ·refine Zk2 5 ?_;dsimp only [go_sem];refine An ?_;exact Zq4 J8 (s:=wr (x27+1)) h
             ·refine Zk2 1 ?_;dsimp only [go_sem];refine An ?_;exact Zq4 J8 (s:=x27) h
           ·refine Zk2 1 ?_;dsimp only [go_sem];refine An ?_;exact Zq4 J7 (s:=x27) (Zd4 h hout1)
         ·refine Zg4 h rfl (fun _ h=>?_) fun _ h=>?_
          ·refine Zk2 8 ?_;dsimp only [go_sem];refine An ?_;exact Zq4 J6 (s:=(x14.Ask,x19.Ask)) h
          ·refine Zk2 1 ?_;dsimp only [go_sem];refine An ?_;exact Zq4 J6 (s:=(x14.Bottle,x19.Bottle)) h
       ·refine Zn4 68 h rfl (fun _ h=>?_) fun _ h=>?_
        ·dsimp only [go_sem];refine Zk2 11 ?_;dsimp only [go_sem];refine An ?_;exact Zq4 J5 (s:=true) h
        ·dsimp only [go_sem];refine Zk2 4 ?_;dsimp only [go_sem];refine An ?_;refine Zn4 72 h rfl (fun _ h=>?_) fun _ h=>?_
         ·dsimp only [go_sem];refine Zk2 7 ?_;dsimp only [go_sem];refine An ?_;exact Zq4 J5 (s:=true) h
         ·dsimp only [go_sem];refine Zk2 7 ?_;dsimp only [go_sem];refine An ?_;exact Zq4 J5 (s:=!decide (x14.Epoch=x19.Epoch)) h
      ·refine Zf3 (by kernel_rfl) fun all hall hs hnap haf=>?_;dsimp only [go_sem];refine Z65 hall hs haf hnap 6 10 [4,3,2,7] [(54,[.ptr 0 0,.sl 5 (List.map Drinker.row x1.Drinkers),.ptr 1 1,.iv x2.B]),(3,[.ptr 1 0,.iv x2.A])] (by kernel_rfl) ?_;dsimp only [go_sem];obtain ⟨x15,ex15,h⟩:=Bs h;refine Zk4 hall hs haf hnap 4 Drinker.row ex15 rfl rfl trivial rfl rfl rfl rfl ?_;refine Z55 hall hs haf hnap 2 7 ?_;dsimp only [go_sem];refine An ?_;obtain ⟨x16,ex16,h⟩:=Bs h;refine Zr3 9 13 rfl ?_ ?_
       ·refine Zw3 hall rfl trivial (Zu7 x15.Diner x2.A _ ex16) (h:=?_);dsimp only [go_sem];refine Z55 hall hs haf hnap 3 3 ?_;dsimp only [go_sem];refine An ?_;refine Zq3 13 rfl ?_;refine Zv3 hall rfl trivial ?_;dsimp only [go_sem];refine Zq3 14 rfl ?_;refine Zv3 hall rfl trivial ?_;dsimp only [go_sem];refine Z55 hall hs haf hnap 1 0 ?_;dsimp only [go_sem];refine An ?_;refine Zp3 rfl ?_ _;exact Zq4 J4 (s:=(x16.2,x16.1)) h
       ·refine Zv3 hall rfl trivial ?_;dsimp only [go_sem];refine Zq3 9 rfl ?_;refine Zw3 hall rfl trivial (Zu7 x15.Diner x2.A _ ex16) (h:=?_);dsimp only [go_sem];refine Z55 hall hs haf hnap 3 2 ?_;dsimp only [go_sem];refine An ?_;refine Zq3 14 rfl ?_;refine Zv3 hall rfl trivial ?_;dsimp only [go_sem];refine Z55 hall hs haf hnap 1 0 ?_;dsimp only [go_sem];refine An ?_;refine Zp3 rfl ?_ _;exact Zq4 J4 (s:=(x16.2,x16.1)) h
     ·refine Zf3 (by kernel_rfl) fun all hall hs hnap haf=>?_;dsimp only [go_sem];refine Z65 hall hs haf hnap 6 10 [4,3,2,7] [(41,[.ptr 0 0,.sl 5 (List.map Drinker.row x1.Drinkers),.ptr 1 0,.iv x2.A]),(3,[.ptr 1 1,.iv x2.B])] (by kernel_rfl) ?_;dsimp only [go_sem];obtain ⟨x10,ex10,h⟩:=Bs h;refine Zk4 hall hs haf hnap 4 Drinker.row ex10 rfl rfl trivial rfl rfl rfl rfl ?_;refine Z55 hall hs haf hnap 2 7 ?_;dsimp only [go_sem];refine An ?_;obtain ⟨x11,ex11,h⟩:=Bs h;refine Zr3 9 13 rfl ?_ ?_
      ·refine Zw3 hall rfl trivial (Zu7 x10.Diner x2.B _ ex11) (h:=?_);dsimp only [go_sem];refine Z55 hall hs haf hnap 3 3 ?_;dsimp only [go_sem];refine An ?_;refine Zq3 13 rfl ?_;refine Zv3 hall rfl trivial ?_;dsimp only [go_sem];refine Zq3 14 rfl ?_;refine Zv3 hall rfl trivial ?_;dsimp only [go_sem];refine Z55 hall hs haf hnap 1 0 ?_;dsimp only [go_sem];refine An ?_;refine Zp3 rfl ?_ _;exact Zq4 J3 (s:=(x11.2,x11.1)) h
      ·refine Zv3 hall rfl trivial ?_;dsimp only [go_sem];refine Zq3 9 rfl ?_;refine Zw3 hall rfl trivial (Zu7 x10.Diner x2.B _ ex11) (h:=?_);dsimp only [go_sem];refine Z55 hall hs haf hnap 3 2 ?_;dsimp only [go_sem];refine An ?_;refine Zq3 14 rfl ?_;refine Zv3 hall rfl trivial ?_;dsimp only [go_sem];refine Z55 hall hs haf hnap 1 0 ?_;dsimp only [go_sem];refine An ?_;refine Zp3 rfl ?_ _;exact Zq4 J3 (s:=(x11.2,x11.1)) h
   ·refine Zn4 33 h rfl (fun _ h=>?_) fun _ h=>?_
    ·dsimp only [go_sem];refine Zk2 7 ?_;dsimp only [go_sem];refine An ?_;exact Zq4 J2 (s:=true) h
    ·dsimp only [go_sem];refine Zk2 3 ?_;dsimp only [go_sem];refine An ?_;obtain ⟨x8,ex8,h⟩:=Bs h;refine Zy2 trivial (Zqi x1 x2.B _ ex8) (h:=?_);refine Zk2 3 ?_;dsimp only [go_sem];refine An ?_;exact Zq4 J2 (s:=!x8) h
 ·refine Zn4 19 h rfl (fun _ h=>?_) fun _ h=>?_
  ·dsimp only [go_sem];refine Zk2 4 ?_;dsimp only [go_sem];refine An ?_;exact Zq4 J1 (s:=!decide (x3=4)) h
  ·dsimp only [go_sem];refine Zk2 4 ?_;dsimp only [go_sem];refine An ?_;exact Zq4 J1 (s:=false) h
set_option maxRecDepth 100000
set_option maxHeartbeats 4000000
@[go_sem] def e40_L0:EC:=.seq (.reg [(Qa 22 (.bin .lss (.t 21) (.t 20)))]) (.seq (.ite (.t 22) (.skip) (.exit 0)) (.seq (.blk 1 (.seq (.reg [(Qk 23 3 19 21),(Qe 24 3 23),(Qa 8 (.alloc 61 [.iv 0,.iv 0,.nl])),(Qs 3 8 24)]) (.reg [(Qf 25 0 6),(Ql 26 25),(Qe 27 3 8),(Qa 28 (.build [.iv 0,.iv 0,.nl,.iv 0,.nl] [(0,3,(.t 27))])),(Qa 29 (.bsl 63 5 1 [.iv 0,.iv 0,.nl,.iv 0,.nl] [(0,(.t 28))])),(Qa 30 (.app 63 5 72 (.t 26) (.t 29))),(Qf 31 0 6),(Qs 1 31 30)]))) (.reg [(Qv 32 21 1),(Qm 21 32)])))
@[go_sem] def e40:EC:=.seq (.reg [(Qx 1 53 2 0),(Qa 2 (.alloc 25 [.nl,.nl])),(Qi 3 0)]) (.seq (.reg [(Qe 10 2 1),(Qa 11 (.call 78 [(.t 10)])),(Qm 9 11),(Qa 12 (.ext (.t 9) 0)),(Qa 13 (.ext (.t 9) 1)),(Qa 4 (.alloc 48 [.nl,.nl])),(Qs 2 4 12),(Qm 5 13)]) (.seq (.seq (.reg [(Qm 14 5),(Qa 15 (.bin .neq (.t 14) (.c (.iv 0))))]) (.ite (.t 15) (.seq (.reg [(Qa 16 (.build [.nl,.nl] [])),(Qm 17 5),(Qs 2 2 16),(Qm 3 17)]) (.ret)) (.skip))) (.seq (.reg [(Qa 6 (.alloc 25 [.nl,.nl]))]) (.seq (.seq (.reg [(Qf 18 0 4),(Ql 19 18),(Qa 20 (.len (.t 19))),(Qi 21 0)]) (.blk 0 (.loop e40_L0))) (.seq (.reg [(Qe 33 2 6),(Qs 2 2 33),(Qi 3 0)]) (.ret))))))
theorem ok40:FnOK Tryz.prog 40 Tryz.f40 e40 [.c 2 (some 2),.t 3] 1 33:=⟨by kernel_rfl,⟨_,rfl,by kernel_rfl⟩,by kernel_rfl,by kernel_rfl⟩
noncomputable def Z4k:(List Drinker)→Option (Bar×Int)
| x17=>
 some ((Bar.mk x17 (([]:(List Mail)))),0)
noncomputable def Z5k (x2:(Scene×Int)):(Int×(List Drinker))→Option ((Int×(List Drinker)) ⊕ (Bar×Int))
| (x7,x8)=>
 ifb (decide (x7<(ln Diner.row x2.1.Diners))) (
 (at_ x2.1.Diners x7).bind fun x9=>
 (Z84 72 x8 ([(Drinker.mk x9 0 (([]:List Int)))])).bind fun x10=>
 some (.inl (wr (x7+1),x10))) (
 Option.map Sum.inr (Z4k x8))
noncomputable def Z6k (x1:Graph):Option (Bar×Int):=
 (Z8h x1).bind fun x2=>
 ifb (!decide (x2.2=0)) (
 some ((Bar.mk (([]:(List Drinker))) (([]:(List Mail)))),x2.2)) (
 loop (Z5k x2) (0,([]:List Drinker)))
theorem k_bar_New (x1:Graph) (r:(Bar×Int)) (h:Z6k x1=some r):Zp2 Tryz.prog 40 [.agg (Graph.row x1)] (.tup [.agg (Bar.row r.1),.iv r.2]):=by
 refine Zt2 ok40 rfl rfl fun w0 H0=>?_
 rw [Z6k] at h
 refine Zk2 9 ?_;dsimp only [go_sem];refine An ?_;obtain ⟨x2,ex2,h⟩:=Bs h;refine Zy2 trivial (k_table_New x1 _ ex2) (h:=?_);refine Zk2 13 ?_;dsimp only [go_sem];refine An ?_;refine Zg4 h rfl (fun _ h=>?_) fun _ h=>?_
 ·refine Zk2 7 ?_;dsimp only [go_sem];refine An ?_;exact Zo4 (res:=fun (r:(Bar×Int))=>.tup [.agg (Bar.row r.1),.iv r.2]) ok40 h
 ·refine Zk2 13 ?_;dsimp only [go_sem];refine An ?_;refine Ze4 (fun (x17:(List Drinker))=>(⟨(.any :: .any :: .ptr 1 0::an 3 (.ptr 3 0::an 27 [])),[none,some ⟨25,[.nl,.nl]⟩,none,some ⟨25,[.osl 0,.nl]⟩],[some ⟨63,5,List.map Drinker.row x17⟩]⟩:St)) Z4k r ?_ fun J1=>?_
  ·intro x17 h;rw [Z4k] at h;(try dsimp only);refine Zk2 6 ?_;dsimp only [go_sem];refine An ?_;refine Z73 0 rfl ?_;dsimp only [go_sem];exact Zo4 (res:=fun (r:(Bar×Int))=>.tup [.agg (Bar.row r.1),.iv r.2]) ok40 h
  ·refine Zk2 1 ?_;dsimp only [go_sem];refine An ?_;refine Z24 3 0 63 5 rfl rfl rfl ?_;dsimp only [go_sem];refine Zf4 h (fun ((x7,x8):(Int×(List Drinker)))=>(⟨(.any :: .any :: .ptr 1 0::an 3 (.ptr 3 0::an 12 (.sl 3 (List.map Diner.row x2.1.Diners) :: .iv (ln Diner.row x2.1.Diners) :: .iv x7::an 12 []))),[none,some ⟨25,[.nl,.nl]⟩,none,some ⟨25,[.osl 0,.nl]⟩],[some ⟨63,5,List.map Drinker.row x8⟩]⟩:St)) (by simp [go_sem]) (by rintro ⟨x7,x8⟩;first | rfl | simp [go_sem]) ?_;rintro n1 ⟨x7,x8⟩ y1 h hin1 hout1;rw [Z5k] at h;(try dsimp only)
   refine Zk2 5 ?_;dsimp only [go_sem];refine An ?_;refine Zg4 h rfl (fun _ h=>?_) fun _ h=>?_
   ·refine Zk2 5 ?_;dsimp only [go_sem];refine An ?_;obtain ⟨x9,ex9,h⟩:=Bs h;refine Zj4 Diner.row ex9 trivial rfl rfl rfl ?_;refine Zk2 9 ?_;dsimp only [go_sem];refine An ?_;refine V_put1 28 (.agg [.iv x9.ID,.iv x9.Phase,.sl 8 (List.map Side.row x9.Sides),.iv 0,.sl 1 (List.map Zu4 (([]:List Int)))]) (by simp [go_sem]) ?_;dsimp only [go_sem];refine Zk2 1 ?_;dsimp only [go_sem];refine An ?_;obtain ⟨x10,ex10,h⟩:=Bs h;refine Zl4 Drinker.row ex10 trivial rfl rfl rfl ?_;refine Zk2 8 ?_;dsimp only [go_sem];refine An ?_;refine Z14 2 0 rfl rfl rfl ?_
    dsimp only [go_sem];exact Zp4 h hin1
   ·refine Zk2 1 ?_;dsimp only [go_sem];refine An ?_;exact Zq4 J1 (s:=x8) (Zd4 h hout1)
set_option maxRecDepth 100000
set_option maxHeartbeats 4000000
@[go_sem] def e67_L0:EC:=.seq (.reg [(Qa 18 (.bin .lss (.t 17) (.t 16)))]) (.seq (.ite (.t 18) (.skip) (.exit 0)) (.seq (.blk 1 (.seq (.reg [(Qm 19 17),(Qk 20 5 15 17),(Qe 21 5 20),(Qa 8 (.alloc 63 [.iv 0,.iv 0,.nl,.iv 0,.nl])),(Qm 7 19),(Qs 5 8 21)]) (.seq (.reg [(Qm 22 1),(Qm 23 7),(Qk 24 5 22 23),(Qe 25 5 24),(Qa 9 (.alloc 63 [.iv 0,.iv 0,.nl,.iv 0,.nl])),(Qs 5 9 25)]) (.seq (.reg [(Qm 26 2),(Qe 27 5 8),(Qe 28 5 9),(Qa 29 (.callv (.t 26) [(.t 27),(.t 28)])),(Qa 30 (.not (.t 29)))]) (.ite (.t 30) (.seq (.reg [(Qa 6 (.mv (.c .ff)))]) (.ret)) (.skip)))))) (.reg [(Qv 31 17 1),(Qm 17 31)])))
@[go_sem] def e67:EC:=.seq (.reg [(Qa 6 (.mv (.c .ff)))]) (.seq (.seq (.reg [(Qm 10 0),(Qa 11 (.len (.t 10))),(Qm 12 1),(Qa 13 (.len (.t 12))),(Qa 14 (.bin .neq (.t 11) (.t 13)))]) (.ite (.t 14) (.seq (.reg [(Qa 6 (.mv (.c .ff)))]) (.ret)) (.skip))) (.seq (.seq (.reg [(Qm 15 0),(Qa 16 (.len (.t 15))),(Qi 17 0)]) (.blk 0 (.loop e67_L0))) (.seq (.reg [(Qa 6 (.mv (.c .tt)))]) (.ret))))
theorem ok67:FnOK Tryz.prog 67 Tryz.f67 e67 [.t 6] 3 29:=⟨by kernel_rfl,⟨_,rfl,by kernel_rfl⟩,by kernel_rfl,by kernel_rfl⟩
noncomputable def Z7k:Unit→Option Bool
| ()=>
 some true
noncomputable def Z8k (x1:(List Drinker)) (x2:(List Drinker)) (p2:((Drinker×Drinker)→Option Bool)):Int→Option (Int ⊕ Bool)
| x7=>
 ifb (decide (x7<(ln Drinker.row x1))) (
 (at_ x1 x7).bind fun x8=>
 (at_ x2 x7).bind fun x9=>
 (p2 (x8,x9)).bind fun x10=>
 ifb (!x10) (
 Option.map Sum.inr (some false)) (
 some (.inl (wr (x7+1))))) (
 Option.map Sum.inr (Z7k ()))
noncomputable def Z9k (x1:(List Drinker)) (x2:(List Drinker)) (p2:((Drinker×Drinker)→Option Bool)):Option Bool:=
 ifb (!decide ((ln Drinker.row x1)=(ln Drinker.row x2))) (
 some false) (
 loop (Z8k x1 x2 p2) 0)
theorem Zak (x1:(List Drinker)) (x2:(List Drinker)) (g2:Nat) (caps2:List AV) (p2:((Drinker×Drinker)→Option Bool)) (hc2:CloOK Tryz.prog g2 caps2 (fun z=>[.agg (Drinker.row z.1),.agg (Drinker.row z.2)]) p2 (fun z=>.bv z)) (r:Bool) (h:Z9k x1 x2 p2=some r):Zp2 Tryz.prog 67 [.sl 5 (List.map Drinker.row x1),.sl 5 (List.map Drinker.row x2),.clo g2 caps2] (.bv r):=by
 refine Zt2 ok67 rfl rfl fun w0 H0=>?_
 rw [Z9k] at h
 refine Zk2 13 ?_;dsimp only [go_sem];refine An ?_;refine Zg4 h rfl (fun _ h=>?_) fun _ h=>?_
 ·refine Zk2 4 ?_;dsimp only [go_sem];refine An ?_;exact Zo4 (res:=fun (r:Bool)=>.bv r) ok67 h
 ·refine Zk2 8 ?_;dsimp only [go_sem];refine An ?_;refine Ze4 (fun (_:Unit)=>(⟨(an 32 []),[],[]⟩:St)) Z7k r ?_ fun J1=>?_
  ·rintro ⟨⟩ h;rw [Z7k] at h;(try dsimp only);refine Zk2 4 ?_;dsimp only [go_sem];refine An ?_;exact Zo4 (res:=fun (r:Bool)=>.bv r) ok67 h
  ·refine Zk2 1 ?_;dsimp only [go_sem];refine An ?_;refine Zf4 h (fun (x7:Int)=>(⟨(.any :: .sl 5 (List.map Drinker.row x2) :: .clo g2 caps2::an 12 (.sl 5 (List.map Drinker.row x1) :: .iv (ln Drinker.row x1) :: .iv x7::an 14 [])),[],[]⟩:St)) (by simp [go_sem]) (by intro x7;first | rfl | simp [go_sem,Z64 _ hc2.pu]) ?_;rintro n1 x7 y1 h hin1 hout1;rw [Z8k] at h;(try dsimp only);refine Zk2 5 ?_;dsimp only [go_sem];refine An ?_;refine Zg4 h rfl (fun _ h=>?_) fun _ h=>?_
   ·refine Zk2 6 ?_;dsimp only [go_sem];refine An ?_;obtain ⟨x8,ex8,h⟩:=Bs h;refine Zj4 Drinker.row ex8 trivial rfl rfl rfl ?_;refine Zk2 9 ?_;dsimp only [go_sem];refine An ?_;obtain ⟨x9,ex9,h⟩:=Bs h;refine Zj4 Drinker.row ex9 trivial rfl rfl rfl ?_;refine Zk2 9 ?_;dsimp only [go_sem];refine An ?_;obtain ⟨x10,ex10,h⟩:=Bs h;refine Zt4 trivial rfl hc2 (x:=(x8,x9)) ex10 (by first | exact Z74 _ | simp [go_sem]) (by first | rfl | simp [go_sem,hc2.pu]) ?_;refine Zk2 2 ?_;dsimp only [go_sem];refine An ?_
    refine Zg4 h rfl (fun _ h=>?_) fun _ h=>?_
    ·refine Zk2 4 ?_;dsimp only [go_sem];refine An ?_;exact Zo4 (res:=fun (r:Bool)=>.bv r) ok67 (Zd4 h hout1)
    ·refine Zk2 6 ?_;dsimp only [go_sem];refine An ?_;exact Zp4 h hin1 (hok:=by first | rfl | simp [go_sem,Z64 _ hc2.pu])
   ·refine Zk2 1 ?_;dsimp only [go_sem];refine An ?_;exact Zq4 J1 (s:=()) (Zd4 h hout1) (hok:=by first | rfl | simp [go_sem,Z64 _ hc2.pu])
set_option maxRecDepth 100000
set_option maxHeartbeats 4000000
@[go_sem] def e69_L0:EC:=.seq (.reg [(Qa 14 (.bin .lss (.t 13) (.t 12)))]) (.seq (.ite (.t 14) (.skip) (.exit 0)) (.seq (.blk 1 (.seq (.reg [(Qm 15 13),(Qm 5 15)]) (.seq (.drw [(Qm 16 0),(Qm 17 5),(Qk 18 5 16 17),(Qe 19 5 18),(Qm 20 1),(Qm 21 5),(Qk 22 5 20 21),(Qe 23 5 22),(Qa 24 (.eqs true [true,true,true,true,true] (.t 19) (.t 23)))] [[],[],[0,1],[2],[],[],[4,5],[6],[3,7]] [[2],[2],[0,1,3],[2,8],[6],[6],[4,5,7],[6,8],[3,7]]) (.ite (.t 24) (.seq (.reg [(Qa 4 (.mv (.c .ff)))]) (.ret)) (.skip))))) (.reg [(Qv 25 13 1),(Qm 13 25)])))
@[go_sem] def e69:EC:=.seq (.reg [(Qa 4 (.mv (.c .ff)))]) (.seq (.seq (.reg [(Qm 6 0),(Qa 7 (.len (.t 6))),(Qm 8 1),(Qa 9 (.len (.t 8))),(Qa 10 (.bin .neq (.t 7) (.t 9)))]) (.ite (.t 10) (.seq (.reg [(Qa 4 (.mv (.c .ff)))]) (.ret)) (.skip))) (.seq (.seq (.reg [(Qm 11 0),(Qa 12 (.len (.t 11))),(Qi 13 0)]) (.blk 0 (.loop e69_L0))) (.seq (.reg [(Qa 4 (.mv (.c .tt)))]) (.ret))))
theorem ok69:FnOK Tryz.prog 69 Tryz.f69 e69 [.t 4] 2 24:=⟨by kernel_rfl,⟨_,rfl,by kernel_rfl⟩,by kernel_rfl,by kernel_rfl⟩
noncomputable def Zbk:Unit→Option Bool
| ()=>
 some true
noncomputable def Zck (x1:(List Mail)) (x2:(List Mail)):Int→Option (Int ⊕ Bool)
| x6=>
 ifb (decide (x6<(ln Mail.row x1))) (
 (at_ x1 x6).bind fun x7=>
 (at_ x2 x6).bind fun x8=>
 ifb (!(decide (x7.From=x8.From)&&(decide (x7.To=x8.To)&&(decide (x7.Msg.Kind=x8.Msg.Kind)&&(decide (x7.Msg.Epoch=x8.Msg.Epoch)&&(decide (x7.Msg.Num=x8.Msg.Num)&&true)))))) (
 Option.map Sum.inr (some false)) (
 some (.inl (wr (x6+1))))) (
 Option.map Sum.inr (Zbk ()))
noncomputable def Zdk (x1:(List Mail)) (x2:(List Mail)):Option Bool:=
 ifb (!decide ((ln Mail.row x1)=(ln Mail.row x2))) (
 some false) (
 loop (Zck x1 x2) 0)
theorem Zek (x1:(List Mail)) (x2:(List Mail)) (r:Bool) (h:Zdk x1 x2=some r):Zp2 Tryz.prog 69 [.sl 5 (List.map Mail.row x1),.sl 5 (List.map Mail.row x2)] (.bv r):=by
 refine Zt2 ok69 rfl rfl fun w0 H0=>?_
 rw [Zdk] at h
 refine Zk2 13 ?_;dsimp only [go_sem];refine An ?_;refine Zg4 h rfl (fun _ h=>?_) fun _ h=>?_
 ·refine Zk2 4 ?_;dsimp only [go_sem];refine An ?_;exact Zo4 (res:=fun (r:Bool)=>.bv r) ok69 h
 ·refine Zk2 8 ?_;dsimp only [go_sem];refine An ?_;refine Ze4 (fun (_:Unit)=>(⟨(an 26 []),[],[]⟩:St)) Zbk r ?_ fun J1=>?_
  ·rintro ⟨⟩ h;rw [Zbk] at h;(try dsimp only);refine Zk2 4 ?_;dsimp only [go_sem];refine An ?_;exact Zo4 (res:=fun (r:Bool)=>.bv r) ok69 h
  ·refine Zk2 1 ?_;dsimp only [go_sem];refine An ?_;refine Zf4 h (fun (x6:Int)=>(⟨(.sl 5 (List.map Mail.row x1) :: .sl 5 (List.map Mail.row x2)::an 10 (.iv (ln Mail.row x1) :: .iv x6::an 12 [])),[],[]⟩:St)) (by simp [go_sem]) (by intro x6;first | rfl | simp [go_sem]) ?_;rintro n1 x6 y1 h hin1 hout1;rw [Zck] at h;(try dsimp only);refine Zk2 5 ?_;dsimp only [go_sem];refine An ?_;refine Zg4 h rfl (fun _ h=>?_) fun _ h=>?_
   ·refine Zk2 9 ?_;dsimp only [go_sem];refine An ?_;refine Zf3 (by kernel_rfl) fun all hall hs hnap haf=>?_;dsimp only [go_sem];refine Z55 hall hs haf hnap 4 5 ?_;dsimp only [go_sem];refine An ?_;obtain ⟨x7,ex7,h⟩:=Bs h;refine Zk4 hall hs haf hnap 2 Mail.row ex7 rfl rfl trivial rfl rfl rfl rfl ?_;refine Z55 hall hs haf hnap 1 3 ?_;dsimp only [go_sem];refine An ?_;obtain ⟨x8,ex8,h⟩:=Bs h;refine Zk4 hall hs haf hnap 6 Mail.row ex8 rfl rfl trivial rfl rfl rfl rfl ?_;refine Z55 hall hs haf hnap 2 0 ?_;dsimp only [go_sem];refine An ?_
    refine Zp3 rfl ?_ _;refine Zg4 h rfl (fun _ h=>?_) fun _ h=>?_
    ·refine Zk2 4 ?_;dsimp only [go_sem];refine An ?_;exact Zo4 (res:=fun (r:Bool)=>.bv r) ok69 (Zd4 h hout1)
    ·refine Zk2 6 ?_;dsimp only [go_sem];refine An ?_;exact Zp4 h hin1
   ·refine Zk2 1 ?_;dsimp only [go_sem];refine An ?_;exact Zq4 J1 (s:=()) (Zd4 h hout1)
set_option maxRecDepth 100000
set_option maxHeartbeats 4000000
@[go_sem] def e24:EC:=.seq (.reg [(Qx 2 25 2 0),(Qx 3 25 2 1),(Qa 4 (.mv (.c .ff)))]) (.seq (.reg [(Qf 5 0 2),(Ql 6 5),(Qf 7 0 3),(Ql 8 7),(Qa 9 (.call 67 [(.t 6),(.t 8),(.c (.clo 68 []))])),(Qm 10 9),(Qh 11 10 true 1 2),(Qn 12 10 true 11),(Qh 13 10 true 1 3),(Qn 14 10 true 13),(Qg 15 10 true (.call 69 [(.t 12),(.t 14)])),(Qp 16 10 15),(Qm 4 16)]) (.ret))
theorem ok24:FnOK Tryz.prog 24 Tryz.f24 e24 [.t 4] 2 15:=⟨by kernel_rfl,⟨_,rfl,by kernel_rfl⟩,by kernel_rfl,by kernel_rfl⟩
noncomputable def Zfk:Bool→Option Bool
| x5=>
 some x5
noncomputable def Zgk (x1:Bar) (x2:Bar):Option Bool:=
 (Z9k x1.Drinkers x2.Drinkers ((fun z=>Z8b z.1 z.2))).bind fun x3=>
 ifb x3 (
 (Zdk x1.Mail x2.Mail).bind fun x4=>
 Zfk x4) (
 Zfk false)
theorem Zhk (x1:Bar) (x2:Bar) (r:Bool) (h:Zgk x1 x2=some r):Zp2 Tryz.prog 24 [.agg (Bar.row x1),.agg (Bar.row x2)] (.bv r):=by
 refine Zt2 ok24 rfl rfl fun w0 H0=>?_
 rw [Zgk] at h
 refine Zk2 12 ?_;dsimp only [go_sem];refine An ?_;obtain ⟨x3,ex3,h⟩:=Bs h;refine Zy2 trivial (Zak x1.Drinkers x2.Drinkers _ _ ((fun z=>Z8b z.1 z.2)) ⟨by kernel_rfl,rfl,fun z r hz=>Z9b z.1 z.2 r hz⟩ _ ex3) (h:=?_);refine Zk2 1 ?_;dsimp only [go_sem];refine An ?_;refine Ze4 (fun (x5:Bool)=>(⟨(an 4 (.bv x5::an 12 [])),[],[]⟩:St)) Zfk r ?_ fun J1=>?_
 ·intro x5 h;rw [Zfk] at h;(try dsimp only);exact Zo4 (res:=fun (r:Bool)=>.bv r) ok24 h
 ·refine Zn4 10 h rfl (fun _ h=>?_) fun _ h=>?_
  ·dsimp only [go_sem];refine Zk2 4 ?_;dsimp only [go_sem];refine An ?_;obtain ⟨x4,ex4,h⟩:=Bs h;refine Zy2 trivial (Zek x1.Mail x2.Mail _ ex4) (h:=?_);refine Zk2 3 ?_;dsimp only [go_sem];refine An ?_;exact Zq4 J1 (s:=x4) h
  ·dsimp only [go_sem];refine Zk2 8 ?_;dsimp only [go_sem];refine An ?_;exact Zq4 J1 (s:=false) h
theorem Zik (l:List Drinker) (p:Drinker→Option Bool) (q:Drinker→Bool) (hl:l.length≤4000000000000000000) (hp:∀x∈l,p x=some (q x)):Zhi l p=some (plc (l.findIdx? q)):=by
 unfold Zhi
 refine Ze6 l _ q hl (fun k x hx=>?_) ?_
 ·simp only [Zgi,Z66 hx,Z06,Z46 hx,Option.bind_some,hp x (List.mem_iff_getElem?.2 ⟨k,hx⟩),Z96 hx hl]
  cases q x<;>rfl
 ·simp only [Zgi,Z76,Z16,Zfi,Option.map_some]
theorem Zjk (l:List Drinker) (p:Drinker→Option Bool) (q:Drinker→Bool) (hl:l.length≤4000000000000000000) (hp:∀x∈l,p x=some (q x)):Zji l p=some (l.any q):=by
 unfold Zji
 rw [Zik l p q hl hp,Option.bind_some,Zb6,Zf6]
def fewL (l:List Drinker):Prop:=l.length≤5000∧∀d∈l,d.Diner.Sides.length≤5000∧d.Need.length≤5000
def scB (s:Bar):Scene:=⟨s.Drinkers.map (·.Diner),s.Mail⟩
def Zkk:Bar:=⟨[],[]⟩
theorem fewL_D {s:Bar} (h:fewL s.Drinkers):fewD (scB s).Diners:=by
 refine ⟨by simpa [scB] using h.1,fun d hd=>?_⟩
 obtain ⟨e,he,rfl⟩:=List.mem_map.1 hd
 exact (h.2 e he).1
theorem s_CloneMail (l:List Mail) (hl:l.length≤1000000):Z9i l=some l:=by
 simp only [Z9i]
 rw [Z56 _ _ (by omega) (by simp;omega)];rfl
theorem s_Scene (s:Bar) (hD:fewL s.Drinkers) (hM:s.Mail.length≤1000000):Zdi s=some (scB s):=by
 simp only [Zdi,s_CloneMail _ hM,Option.bind_some]
 refine Z68 s.Drinkers (Zci s s.Mail) (fun pre=>((pre.length:Int),pre.map (·.Diner))) _ (fun pre x post h=>?_) ?_
 ·have hx:=Z78 h
  have hm:=Z88 h
  have h1:=hD.1
  have h2:=(hD.2 x (Z98 h)).1
  dsimp only [Zci]
  rw [Z66 hx,Z06,Z46 hx,Option.bind_some,Zz9 _ (by omega),Option.bind_some,Z56 _ _ (by omega) (by simp;omega),Option.bind_some,Z86 (by omega),Zc8]
  simp
 ·dsimp only [Zci]
  rw [Z76,Z16];rfl
def Zlk (s:Bar):Bool:=okS (scB s)&&s.Drinkers.all okDr
theorem Zmk (s:Bar) (hD:fewL s.Drinkers) (hM:s.Mail.length≤1000000):Zmi s=some (if Zlk s then 0 else 160):=by
 simp only [Zmi,s_Scene s hD hM,Option.bind_some,s_tCheck (scB s) (fewL_D hD) hM]
 unfold Zlk
 cases okS (scB s) with
 | false=>rfl
 | true=>
   rw [if_pos rfl,show decide ((0:Int)=0)=true from rfl,Bool.not_true,Z16,Zjk s.Drinkers (fun z=>Z8i z) (fun d=>!okDr d) (by have:=hD.1;omega) (fun d hd=>by
    simp only [Z8i,Zrf d (by have:=(hD.2 d hd).2;omega),Option.bind_some]
    cases okDr d<;>rfl),Option.bind_some]
   have e1:s.Drinkers.any (fun d=>!okDr d)=!s.Drinkers.all okDr:=Zm7 _ _ _ fun _=>rfl
   rw [e1]
   cases s.Drinkers.all okDr<;>rfl
def Znk (s:Bar) (a:Int):Bool:=decide (0≤a)&&decide (a<s.Drinkers.length)
theorem Zok (s:Bar) (a:Int):Zpi s a=some (Znk s a):=by
 simp only [Zpi,Zoi,Znk,Zw4]
 cases decide (0≤a)<;>rfl
theorem Zpk {s:Bar} {a:Int}:Znk s a=true↔0≤a∧a<s.Drinkers.length:=by simp [Znk]
theorem Zqk {s:Bar} {a:Int} (h:Znk s a=true):∃d,at_ s.Drinkers a=some d∧s.Drinkers[a.toNat]?=some d:=by
 rw [Zpk] at h
 exact at_lt h.1 h.2
theorem Zrk (d:Drinker):(Z1f d).Need=d.Need∧(Z1f d).Diner.ID=d.Diner.ID∧(Z1f d).Diner.Sides.map (·.Peer)=d.Diner.Sides.map (·.Peer):=by
 refine ⟨rfl,rfl,?_⟩
 show (Zze d).map (·.Peer)=_
 unfold Zze
 rw [Zne,List.map_map,List.map_map]
 refine List.map_congr_left fun x _=>?_
 show (Zue _ _ (Zme (Zye d) x)).Peer=x.Peer
 rw [(Zwe _ _ _).1,(Zpe (Zye d) x).1]
theorem Zsk:∀(n:Nat) (d:Drinker) (out:List Mail),(fireN n d out).1.Need=d.Need∧(fireN n d out).1.Diner.ID=d.Diner.ID∧(fireN n d out).1.Diner.Sides.map (·.Peer)=d.Diner.Sides.map (·.Peer)∧(fireN n d out).2.length+bits (fireN n d out).1.Diner.Sides=out.length+bits d.Diner.Sides
 | 0,_,_=>⟨rfl,rfl,rfl,rfl⟩
 | n+1,d,out=>by
   unfold fireN
   split
   ·exact ⟨rfl,rfl,rfl,rfl⟩
   ·obtain ⟨h1,h2,h3,h4⟩:=Zsk n (Z1f d) (out++Z2f d)
    obtain ⟨k1,k2,k3⟩:=Zrk d
    have hb:=Z5f d
    exact ⟨h1.trans k1,h2.trans k2,h3.trans k3,by rw [h4,List.length_append];omega⟩
theorem Ztk (d:Drinker):(fireDr d).1.Diner.Sides.length=d.Diner.Sides.length∧(fireDr d).1.Need=d.Need:=by
 obtain ⟨h1,_,h3,_⟩:=Zsk 300 d []
 have:=congrArg List.length h3
 simp only [List.length_map] at this
 exact ⟨this,h1⟩
theorem Zuk {d:Drinker} (h:okDr d=true):(fireDr d).2.length≤252:=by
 have h1:=(Zsk 300 d []).2.2.2
 have h2:=bits_le d.Diner.Sides
 have h3:=Z0a (Zvf h)
 unfold fireDr
 simp only [List.length_nil] at h1
 omega
def actBS (s:Bar) (a:Int) (d:Drinker):Bar:=⟨s.Drinkers.set a.toNat (fireDr d).1,s.Mail++(fireDr d).2⟩
def Zvk (s:Bar) (a:Int) (r:Drinker×Int):Bar×Int:=if r.2=0 then (if okDr r.1 then (actBS s a r.1,0) else (Zkk,150)) else (Zkk,r.2)
theorem s_bAct (s:Bar) (a:Int) (p:Drinker→Option (Drinker×Int)) (q:Drinker→Drinker×Int) (d:Drinker) (hp:p d=some (q d)) (hq:(q d).1.Need.length≤5000) (hD:fewL s.Drinkers) (hM:s.Mail.length≤900000) (hd:at_ s.Drinkers a=some d) (ha:0≤a):
  Zui s a p=some (Zvk s a (q d)):=by
 simp only [Zui,hd,Option.bind_some,hp,Zvk]
 by_cases h0:(q d).2=0
 ·simp only [h0,decide_true,Bool.not_true,Z16,s_drFire _ (show (q d).1.Need.length≤1000000 by omega),Option.bind_some,if_true]
  cases hk:okDr (q d).1 with
  | false=>rfl
  | true=>
    have hl:=Z0a (Zvf hk)
    obtain ⟨f1,f2⟩:=Ztk (q d).1
    have hms:=Zuk hk
    have h5:=hD.1
    have hc:=s_Concat s.Mail (fireDr (q d).1).2 (by omega) (by omega)
    simp only [if_true,decide_true,Bool.not_true,Z16,hc,Option.bind_some]
    have:=Z68 s.Drinkers (Zti s a ((fireDr (q d).1).1,(fireDr (q d).1).2,0) (s.Mail++(fireDr (q d).1).2)) (fun pre=>((pre.length:Int),(s.Drinkers.set a.toNat (fireDr (q d).1).1).take pre.length)) (actBS s a (q d).1,0) (fun pre x post h=>by
     have hx:=Z78 h
     have hm:=Z88 h
     have h2:=hD.2 x (Z98 h)
     have snoc:(s.Drinkers.set a.toNat (fireDr (q d).1).1).take (pre.length+1)=(s.Drinkers.set a.toNat (fireDr (q d).1).1).take pre.length++[if (pre.length:Int)=a then (fireDr (q d).1).1 else x]:=by
      rw [List.take_add_one,List.getElem?_set]
      by_cases hq:(pre.length:Int)=a
      ·rw [if_pos (by omega),if_pos (by omega),if_pos hq];rfl
      ·rw [if_neg (by omega),hx,if_neg hq];rfl
     have lt:((s.Drinkers.set a.toNat (fireDr (q d).1).1).take pre.length).length≤5000:=by rw [List.length_take,List.length_set];omega
     have step:∀z:Drinker,z.Diner.Sides.length≤5000→z.Need.length≤5000→Zsi (pre.length:Int) ((s.Drinkers.set a.toNat (fireDr (q d).1).1).take pre.length) z=some (.inl (((pre.length+1:Nat):Int),(s.Drinkers.set a.toNat (fireDr (q d).1).1).take pre.length++[z])):=fun z h1 h2=>by
      dsimp only [Zsi]
      rw [Zz9 _ (by omega),Option.bind_some,Znf _ (by omega),Option.bind_some,Z56 _ _ (by omega) (by simp only [List.length_singleton];omega),Option.bind_some,Z86 (by omega)]
     dsimp only [Zti]
     rw [Z66 hx,Z06,Z46 hx,Option.bind_some,Zc8,snoc]
     by_cases hq:(pre.length:Int)=a
     ·rw [decide_eq_true hq,Z06,step _ (by omega) (by rw [f2];omega),if_pos hq]
     ·rw [decide_eq_false hq,Z16,step _ h2.1 h2.2,if_neg hq]) (by
     dsimp only [Zti]
     rw [Z76,Z16]
     dsimp only [Zri]
     rw [List.take_of_length_le (by simp)];rfl)
    exact this
 ·simp only [h0,decide_false,Bool.not_false,Z06,if_false]
  rfl
def Zwk (s:Bar) (a:Int) (q:Drinker→Drinker×Int):Bar×Int:=
 if Zlk s then (if Znk s a then (match at_ s.Drinkers a with | some d=>Zvk s a (q d) | none=>(Zkk,161)) else (Zkk,161)) else (Zkk,160)
theorem s_bTurn (s:Bar) (a:Int) (p:Drinker→Option (Drinker×Int)) (q:Drinker→Drinker×Int) (hp:∀d∈s.Drinkers,p d=some (q d)∧(q d).1.Need.length≤5000) (hD:fewL s.Drinkers) (hM:s.Mail.length≤900000):Zvi s a p=some (Zwk s a q):=by
 simp only [Zvi,Zmk s hD (by omega),Option.bind_some]
 unfold Zwk
 cases Zlk s with
 | false=>rfl
 | true=>
   rw [if_pos rfl,show decide ((0:Int)=0)=true from rfl,Bool.not_true,Z16,Zok,Option.bind_some,if_pos rfl]
   cases h:Znk s a with
   | false=>rfl
   | true=>
     obtain ⟨d,hd,hd'⟩:=Zqk h
     obtain ⟨p1,p2⟩:=hp d (List.mem_iff_getElem?.2 ⟨_,hd'⟩)
     rw [Bool.not_true,Z16,if_pos rfl,s_bAct s a p q d p1 p2 hD hM hd (Zpk.1 h).1,Option.bind_some,hd]
theorem compact_len (l:List Int):(setL l).length≤l.length:=by
 unfold setL
 have:=Lib.compact_length_le (l.mergeSort fun x y=>decide (x≤y))
 rw [List.length_mergeSort] at this
 exact this
theorem Zxk {d:Drinker} {need:List Int} (hm:need.length≤5000):(Ztf d need).1.Need.length≤5000:=by
 unfold Ztf
 have:=compact_len need
 split
 ·split
  ·split
   ·simp [Zqf]
   ·show (setL need).length≤5000;omega
  ·simp [Zqf]
 ·simp [Zqf]
theorem Zyk (d:Drinker):(Zuf d).1.Need.length≤5000:=by
 unfold Zuf
 split
 ·split<;>simp [Zqf]
 ·simp [Zqf]
theorem Zzk {d:Drinker} {p:Int} {m:Msg} (hn:d.Need.length≤5000):(viaD d p m).1.Need.length≤5000:=by
 unfold viaD
 split
 ·exact hn
 ·simp [Zqf]
theorem Z0l {d:Drinker} {p:Int} {m:Msg} (hn:d.Need.length≤5000):(Zwf d p m).1.Need.length≤5000:=by
 unfold Zwf
 split
 ·split
  ·exact Zzk hn
  ·split
   ·exact Zzk hn
   ·split
    ·split
     ·split
      ·simp [Zqf]
      ·exact hn
     ·split
      ·simp [Zqf]
      ·exact hn
    ·exact Zzk hn
 ·simp [Zqf]
theorem s_bOpen (s:Bar) (a:Int) (need:List Int) (hD:fewL s.Drinkers) (hM:s.Mail.length≤900000) (hn:need.length≤5000):Zxi s a need=some (Zwk s a fun d=>Ztf d need):=by
 simp only [Zxi]
 rw [s_bTurn s a _ (fun d=>Ztf d need) (fun d hd=>⟨by simp only [Z7i,s_drOpen d need (show d.Need.length≤1000000 by have:=(hD.2 d hd).2;omega) (by omega),Option.bind_some],Zxk hn⟩) hD hM,Option.bind_some]
theorem s_bClose (s:Bar) (a:Int) (hD:fewL s.Drinkers) (hM:s.Mail.length≤900000):Zzi s a=some (Zwk s a Zuf):=by
 simp only [Zzi]
 rw [s_bTurn s a _ Zuf (fun d hd=>⟨s_drClose d (show d.Need.length≤1000000 by have:=(hD.2 d hd).2;omega),Zyk d⟩) hD hM,Option.bind_some]
def delivJ (s:Bar) (a b:Int):Option Nat:=s.Mail.findIdx? fun m=>decide (m.From=a)&&decide (m.To=b)
def Z1l (s:Bar) (a b:Int):Bar×Int:=
 if Zlk s then (if Znk s a&&Znk s b then (match delivJ s a b with
  | none=>(Zkk,162)
  | some i=>match s.Mail[i]?,at_ s.Drinkers b with
    | some m,some d=>Zvk ⟨s.Drinkers,s.Mail.take i++s.Mail.drop (i+1)⟩ b (Zwf d a m.Msg)
    | _,_=>(Zkk,161)) else (Zkk,161)) else (Zkk,160)
theorem Z2l (s:Bar) (a b:Int) (hD:fewL s.Drinkers) (hM:s.Mail.length≤900000):Z8j s a b=some (Z1l s a b):=by
 simp only [Z8j,Zmk s hD (by omega),Option.bind_some]
 unfold Z1l
 cases Zlk s with
 | false=>rfl
 | true=>
   rw [if_pos rfl,show decide ((0:Int)=0)=true from rfl,Bool.not_true,Z16,Zok,Option.bind_some,if_pos rfl]
   cases h:Znk s a with
   | false=>rfl
   | true=>
     rw [Bool.not_true,Z16,Zok,Option.bind_some]
     cases h':Znk s b with
     | false=>rfl
     | true=>
       obtain ⟨d,hd,hd'⟩:=Zqk h'
       have hdn:=(hD.2 d (List.mem_iff_getElem?.2 ⟨_,hd'⟩)).2
       dsimp only [Z7j]
       rw [Bool.not_true,Z16,Bool.and_self,if_pos rfl,Z1h s.Mail (fun z=>Z2j z a b) (fun m=>decide (m.From=a)&&decide (m.To=b)) (by omega) (fun m _=>by
        simp only [Z2j,Z1j]
        cases decide (m.From=a)<;>rfl),Option.bind_some,Zc6]
       have hfi:=Zj8 (fun m:Mail=>decide (m.From=a)&&decide (m.To=b)) s.Mail
       unfold delivJ
       cases hf:s.Mail.findIdx? (fun m=>decide (m.From=a)&&decide (m.To=b)) with
       | none=>rfl
       | some i=>
         rw [hf] at hfi
         obtain ⟨m,hm,_⟩:=hfi
         have hlt:=(List.getElem?_eq_some_iff.1 hm).1
         have e1:Z94 s.Mail 0 (i:Int)=some (s.Mail.take i):=by
          unfold Z94
          rw [if_pos ⟨by omega,by omega,by omega⟩];simp
         have e2:Z94 s.Mail (wr ((i:Int)+1)) (ln Mail.row s.Mail)=some (s.Mail.drop (i+1)):=by
          rw [Z86 (by omega),Zw4]
          unfold Z94
          rw [if_pos ⟨by omega,by omega,by omega⟩];simp
         simp only [Option.isNone_some,Z16,plc,Z46 hm,Option.bind_some,e1,e2,hm,hd]
         rw [s_Concat _ _ (by simp;omega) (by simp;omega),Option.bind_some]
         dsimp only [Z6j]
         rw [s_bAct ⟨s.Drinkers,s.Mail.take i++s.Mail.drop (i+1)⟩ b _ (fun d=>Zwf d a m.Msg) d (by simp only [Z4j,s_drGet d a m.Msg (show d.Need.length≤1000000 by omega),Option.bind_some]) (Z0l hdn) hD (by simp;omega) hd (Zpk.1 h').1]
         rfl
def Z3l (s:Bar) (k a b:Int) (need:List Int):Bar×Int:=if k=0 then Zwk s a (fun d=>Ztf d need) else if k=1 then Zwk s a Zuf else Z1l s a b
theorem s_act16 (s:Bar) (k a b:Int) (need:List Int) (hD:fewL s.Drinkers) (hM:s.Mail.length≤900000) (hn:need.length≤5000):Zaj s ⟨k,a,b,need⟩=some (Z3l s k a b need):=by
 have e:Z84 8 ([]:List Int) need=some need:=by rw [Z56 _ _ (by omega) (by simp;omega)];rfl
 simp only [Zaj,Z3l,e,Option.bind_some,s_bOpen s a need hD hM hn,s_bClose s a hD hM,Z2l s a b hD hM]
 by_cases h0:k=0
 ·simp [h0]
 ·by_cases h1:k=1
  ·simp [h1]
  ·simp [h0,h1]
theorem s_own13 (d:Diner) (h:d.Sides.length≤1000000):Zcj d=some d:=by
 simp only [Zcj]
 rw [Z56 _ _ (by omega) (by simp;omega)];rfl
theorem s_own16 (s:Bar) (hD:fewL s.Drinkers) (hM:s.Mail.length≤900000):Zij s=some s:=by
 simp only [Zij]
 rw [Z56 _ _ (by omega) (by simp;omega),Option.bind_some,List.nil_append]
 refine Z68 s.Drinkers (Zhj s s.Mail) (fun pre=>((pre.length:Int),pre)) s (fun pre x post h=>?_) ?_
 ·have hx:=Z78 h
  have hm:=Z88 h
  have h1:=hD.1
  obtain ⟨h2,h3⟩:=hD.2 x (Z98 h)
  have e:Zej x=some x:=by
   simp only [Zej,s_own13 _ (show x.Diner.Sides.length≤1000000 by omega),Option.bind_some]
   rw [Z56 _ _ (by omega) (by simp;omega)];rfl
  dsimp only [Zhj]
  rw [Z66 hx,Z06,Z46 hx,Option.bind_some,e,Option.bind_some,Z56 _ _ (by omega) (by simp;omega),Option.bind_some,Z86 (by omega),Zc8]
 ·dsimp only [Zhj]
  rw [Z76,Z16];rfl
def whoL (l:List Drinker) (t:Int):List Int:=(l.filter fun d=>decide (d.Thirst=t)).map (·.Diner.ID)
theorem whoL_len (l:List Drinker) (t:Int):(whoL l t).length≤l.length:=by
 unfold whoL;rw [List.length_map];exact List.length_filter_le _ _
theorem s_Who (s:Bar) (t:Int) (hD:fewL s.Drinkers):Znj s t=some (whoL s.Drinkers t):=by
 unfold Znj
 refine Z68 s.Drinkers (Zmj s t) (fun pre=>((pre.length:Int),whoL pre t)) _ (fun pre d post h=>?_) ?_
 ·have hx:=Z78 h
  have hm:=Z88 h
  have:=hD.1
  have hl:=whoL_len pre t
  have e:whoL (pre++[d]) t=if d.Thirst=t then whoL pre t++[d.Diner.ID] else whoL pre t:=by
   unfold whoL
   by_cases hp:d.Thirst=t<;>simp [hp]
  dsimp only [Zmj]
  rw [Z66 hx,Z06,Z46 hx,Option.bind_some,e,Zc8]
  by_cases hp:d.Thirst=t
  ·rw [decide_eq_true hp,Z06,Z56 _ _ (by omega) (by simp only [List.length_singleton];omega),Option.bind_some,if_pos hp]
   dsimp only [Zlj];rw [Z86 (by omega)]
  ·rw [decide_eq_false hp,Z16,if_neg hp]
   dsimp only [Zlj];rw [Z86 (by omega)]
 ·dsimp only [Zmj]
  rw [Z76,Z16];rfl
def lies (x:Side) (k:Int):Bool:=if k=4 then x.Ask else x.Bottle
def Z4l (s:Bar) (e:Edge) (k:Int):Nat:=
 if k=3∨k=4 then
  (if Znk s e.A&&Znk s e.B then
    match s.Drinkers[e.A.toNat]?,s.Drinkers[e.B.toNat]? with
    | some da,some db=>match Zi8 da.Diner e.B,Zi8 db.Diner e.A with
      | some x,some y=>if x.Epoch=y.Epoch then bn (lies x k)+bn (lies y k)+Z4i s.Mail e k x.Epoch else 0
      | _,_=>0
    | _,_=>0
  else 0)
 else countS (scB s) e k
theorem s_bCount (s:Bar) (e:Edge) (k:Int) (hD:fewL s.Drinkers) (hM:s.Mail.length≤900000):Z2k s e k=some (Z4l s e k:Int):=by
 have j1:(k=3∨k=4)→Z1k s e k false=some (Z4l s e k:Int):=fun hk=>by
  unfold Z4l
  rw [if_pos hk]
  dsimp only [Z1k]
  rw [Z16,Zok,Option.bind_some]
  cases ha:Znk s e.A with
  | false=>rfl
  | true=>
    rw [Bool.not_true,Z16,Zok,Option.bind_some]
    cases hb:Znk s e.B with
    | false=>rfl
    | true=>
      obtain ⟨da,a1,a2⟩:=Zqk ha
      obtain ⟨db,b1,b2⟩:=Zqk hb
      have la:=(hD.2 da (List.mem_iff_getElem?.2 ⟨_,a2⟩)).1
      have lb:=(hD.2 db (List.mem_iff_getElem?.2 ⟨_,b2⟩)).1
      dsimp only [Z0k,Zzj]
      rw [Bool.not_true,Z16,a1,Option.bind_some,s_Side da.Diner e.B (by omega),Option.bind_some,b1,Option.bind_some,s_Side db.Diner e.A (by omega),Option.bind_some,Bool.and_self,if_pos rfl,a2,b2]
      dsimp only
      cases hx:Zi8 da.Diner e.B with
      | none=>rfl
      | some x=>
        cases hy:Zi8 db.Diner e.A with
        | none=>rfl
        | some y=>
          show Zyj s e k true x (true,y)=some ((if x.Epoch=y.Epoch then bn (lies x k)+bn (lies y k)+Z4i s.Mail e k x.Epoch else 0:Nat):Int)
          dsimp only [Zyj]
          rw [Bool.not_true,Z16,Z16]
          by_cases he:x.Epoch=y.Epoch
          ·rw [decide_eq_true he,Bool.not_true,if_pos he]
           dsimp only [Zxj]
           rw [Z16]
           have j7:∀n:Nat,n≤2→Ztj s e k x (n:Int)=some ((n+Z4i s.Mail e k x.Epoch:Nat):Int):=fun n hn=>by
            dsimp only [Ztj]
            refine Z68 s.Mail (Zsj s e k x) (fun pre=>(((n+Z4i pre e k x.Epoch:Nat):Int),(pre.length:Int))) ((n+Z4i s.Mail e k x.Epoch:Nat):Int) (fun pre m post h=>?_) ?_
            ·have hx:=Z78 h
             have hm:=Z88 h
             have hc:=Z6i pre e k x.Epoch
             dsimp only [Zsj]
             rw [Z66 hx,Z06,Z46 hx,Option.bind_some,Z5i,Zc8]
             have step:∀z,Zrj ((n+Z4i pre e k x.Epoch:Nat):Int) (pre.length:Int) z=some (.inl (((n+(Z4i pre e k x.Epoch+bn z):Nat):Int),((pre.length+1:Nat):Int))):=fun z=>by
              cases z with
              | true=>dsimp only [Zrj,Zqj];rw [Z06,Z86 (by omega),Z86 (by omega)];rfl
              | false=>dsimp only [Zrj,Zqj];rw [Z16,Z86 (by omega)];rfl
             unfold mailB
             simp only [step]
             cases decide (m.Msg.Kind=k)<;>cases decide (m.Msg.Epoch=x.Epoch)<;>cases decide (min m.From m.To=min e.A e.B)<;>rfl
            ·dsimp only [Zsj]
             rw [Z76,Z16];rfl
           have j6:∀p q:Bool,Zwj s e k x (p,q)=some ((bn p+bn q+Z4i s.Mail e k x.Epoch:Nat):Int):=fun p q=>by
            have ef:(([p,q].countP id:Nat):Int)=((bn p+bn q:Nat):Int):=by cases p<;>cases q<;>rfl
            dsimp only [Zwj]
            have n2:bn p+bn q≤2:=by cases p<;>cases q<;>decide
            have hj:=j7 (bn p+bn q) n2
            have:=Z58 [p,q] (Zvj s e k x p q) (fun pre=>(((pre.countP id:Nat):Int),(pre.length:Int))) (fun _ _=>Ztj s e k x (([p,q].countP id:Nat):Int)) (fun pre z post h=>.inl ⟨by
             have hx:=Z78 h
             have hm:=Z88 h
             have h2:pre.length<2:=hm
             have hc:pre.countP id≤pre.length:=List.countP_le_length
             dsimp only [Zvj]
             rw [decide_eq_true (by omega),Z06,Z46 hx,Option.bind_some,Zc8,List.countP_append,List.countP_cons,List.countP_nil]
             cases z with
             | true=>dsimp only [Zuj];rw [Z06,Z86 (by omega),Z86 (by omega)];rfl
             | false=>dsimp only [Zuj];rw [Z16,Z86 (by omega)];rfl,rfl⟩) (by
             dsimp only [Zvj]
             rw [show decide ((([p,q]:List Bool).length:Int)<2)=false from rfl,Z16])
            rw [ef,hj] at this
            exact this
           unfold lies
           by_cases k4:k=4
           ·rw [decide_eq_true k4,Z06,j6,if_pos k4,if_pos k4]
           ·rw [decide_eq_false k4,Z16,j6,if_neg k4,if_neg k4]
          ·rw [decide_eq_false he,Bool.not_false,if_neg he];rfl
 simp only [Z2k]
 by_cases k3:k=3
 ·rw [decide_eq_true k3,Bool.not_true,Z16];exact j1 (.inl k3)
 ·rw [decide_eq_false k3,Bool.not_false,Z06]
  by_cases k4:k=4
  ·rw [decide_eq_true k4,Bool.not_true];exact j1 (.inr k4)
  ·rw [decide_eq_false k4,Bool.not_false]
   dsimp only [Z1k]
   rw [Z06,s_Scene s hD (by omega),Option.bind_some,s_Count (scB s) e k (fewL_D hD) hM,Option.bind_some]
   unfold Z4l
   rw [if_neg (by omega)]
theorem s_EqualMail (l m:List Mail) (hl:l.length≤1000000):Zdk l m=some (decide (l=m)):=by
 simp only [Zdk,Zg8]
 by_cases h:l.length=m.length
 ·simp only [h,decide_true,Bool.not_true,Z16]
  rw [Zd8 l m _ (fun x y=>decide (x=y)) h (by omega) (fun k x y hx hy=>by
   simp only [Zck,Z66 hx,Z06,Z46 hx,Z46 hy,Option.bind_some,Mail_eqB,Z96 hx (show l.length≤4000000000000000000 by omega),Z26]
   cases decide (x=y)<;>rfl) (by simp only [Zck,Z76,Z16,Zbk,Option.map_some]),Ze8 l m h]
 ·simp [h,Zf8 h]
theorem s_bSame (s t:Bar) (hD:fewL s.Drinkers) (hM:s.Mail.length≤900000):Zgk s t=some (decide (s=t)):=by
 obtain ⟨l,m⟩:=s
 obtain ⟨l',m'⟩:=t
 simp only at hD hM
 have h5:=hD.1
 have e1:Z9k l l' (fun z=>Z8b z.1 z.2)=some (decide (l=l')):=by
  simp only [Z9k,Zg8]
  by_cases h:l.length=l'.length
  ·simp only [h,decide_true,Bool.not_true,Z16]
   rw [Zd8 l l' _ (fun x y=>decide (x=y)) h (by omega) (fun k x y hx hy=>by
    have hxm:=hD.2 x (List.mem_iff_getElem?.2 ⟨_,hx⟩)
    simp only [Z8k,Z66 hx,Z06,Z46 hx,Z46 hy,Option.bind_some,s_drSame x y (show x.Diner.Sides.length≤1000000 by omega) (show x.Need.length≤1000000 by omega),Z96 hx (show l.length≤4000000000000000000 by omega),Z26,Option.map_some]
    cases decide (x=y)<;>rfl) (by simp only [Z8k,Z76,Z16,Z7k,Option.map_some]),Ze8 l l' h]
  ·simp [h,Zf8 h]
 simp only [Zgk,Zfk,e1,s_EqualMail m m' (show m.length≤1000000 by omega),Option.bind_some,Bar.mk.injEq]
 by_cases h1:l=l'<;>by_cases h2:m=m'<;>simp [h1,h2]
def barT (g:Graph):Bar:=⟨(Zfh g).Diners.map fun d=>⟨d,0,[]⟩,[]⟩
theorem s_bNew (g:Graph):Z6k g=some (if okG g then (barT g,0) else (Zkk,30)):=by
 simp only [Z6k,s_New,Option.bind_some]
 cases hg:okG g with
 | false=>rfl
 | true=>
   have hl:(Zfh g).Diners.length≤64:=by
    have:=Zbe hg (Zdh g)
    have:=(Zl7 hg).2.1
    show (Zkd g (Zdh g)).length≤64
    omega
   rw [if_pos rfl,show decide ((0:Int)=0)=true from rfl,Bool.not_true,Z16,if_pos rfl]
   refine Z68 (Zfh g).Diners (Z5k (Zfh g,0)) (fun pre=>((pre.length:Int),pre.map fun d=>(⟨d,0,[]⟩:Drinker))) (barT g,0) (fun pre x post h=>?_) ?_
   ·have hx:=Z78 h
    have hm:=Z88 h
    dsimp only [Z5k]
    rw [Z66 hx,Z06,Z46 hx,Option.bind_some,Z56 _ _ (by omega) (by simp;omega),Option.bind_some,Z86 (by omega),Zc8]
    simp
   ·dsimp only [Z5k]
    rw [Z76,Z16];rfl
set_option maxRecDepth 100000
set_option maxHeartbeats 4000000
@[go_sem] def e11:EC:=.seq (.reg [(Qa 0 (.mv (.c .ff)))]) (.seq (.reg [(Qa 13 (.build [.iv 0,.iv 0] [(0,1,(.c (.iv 0))),(1,1,(.c (.iv 1)))])),(Qa 14 (.bsl 30 2 1 [.iv 0,.iv 0] [(0,(.t 13))])),(Qa 15 (.build [.iv 0,.nl] [(0,1,(.c (.iv 2))),(1,1,(.t 14))])),(Qa 16 (.call 40 [(.t 15)])),(Qm 12 16),(Qa 17 (.ext (.t 12) 0)),(Qa 18 (.ext (.t 12) 1)),(Qa 1 (.alloc 25 [.nl,.nl])),(Qs 2 1 17),(Qm 2 18)]) (.seq (.reg [(Qe 20 2 1),(Qa 21 (.call 38 [(.t 20),(.c (.iv 0)),(.c .nl)])),(Qm 19 21),(Qa 22 (.ext (.t 19) 0)),(Qa 23 (.ext (.t 19) 1)),(Qa 3 (.alloc 25 [.nl,.nl])),(Qs 2 3 22),(Qm 4 23)]) (.seq (.reg [(Qe 25 2 3),(Qa 26 (.call 38 [(.t 25),(.c (.iv 1)),(.c .nl)])),(Qm 24 26),(Qa 27 (.ext (.t 24) 0)),(Qa 28 (.ext (.t 24) 1)),(Qs 2 3 27),(Qm 5 28)]) (.seq (.seq (.reg [(Qm 29 2),(Qa 30 (.bin .neq (.t 29) (.c (.iv 0)))),(Qm 31 30),(Qg 32 31 false (.mv (.t 4))),(Qg 33 31 false (.bin .neq (.t 32) (.c (.iv 0)))),(Qq 34 31 33),(Qm 35 34),(Qg 36 35 false (.mv (.t 5))),(Qg 37 35 false (.bin .neq (.t 36) (.c (.iv 0)))),(Qq 38 35 37)]) (.ite (.t 38) (.seq (.reg [(Qa 0 (.mv (.c .ff)))]) (.ret)) (.skip))) (.seq (.reg [(Qe 40 2 1),(Qa 41 (.bsl 3 1 1 [.iv 0] [(0,(.c (.iv 1)))])),(Qa 42 (.call 38 [(.t 40),(.c (.iv 0)),(.t 41)])),(Qm 39 42),(Qa 43 (.ext (.t 39) 0)),(Qa 44 (.ext (.t 39) 1)),(Qa 6 (.alloc 25 [.nl,.nl])),(Qs 2 6 43),(Qm 7 44)]) (.seq (.reg [(Qe 46 2 3),(Qa 47 (.call 36 [(.t 46),(.c (.iv 0))])),(Qm 45 47),(Qa 48 (.ext (.t 45) 0)),(Qa 49 (.ext (.t 45) 1)),(Qa 8 (.alloc 25 [.nl,.nl])),(Qs 2 8 48),(Qm 9 49)]) (.seq (.reg [(Qe 51 2 1),(Qa 52 (.call 48 [(.t 51),(.c (.iv 0)),(.c (.iv 1))])),(Qm 50 52),(Qa 53 (.ext (.t 50) 0)),(Qa 54 (.ext (.t 50) 1)),(Qa 10 (.alloc 25 [.nl,.nl])),(Qs 2 10 53),(Qm 11 54)]) (.seq (.reg [(Qe 55 2 3),(Qa 56 (.call 22 [(.t 55),(.c (.iv 2))])),(Qa 57 (.len (.t 56))),(Qa 58 (.bin .eql (.t 57) (.c (.iv 2)))),(Qm 59 58),(Qg 60 59 true (.mv (.t 7))),(Qg 61 59 true (.bin .eql (.t 60) (.c (.iv 0)))),(Qp 62 59 61),(Qm 63 62),(Qg 64 63 true (.loadA 2 (.t 6))),(Qg 65 63 true (.call 22 [(.t 64),(.c (.iv 0))])),(Qg 66 63 true (.len (.t 65))),(Qg 67 63 true (.bin .eql (.t 66) (.c (.iv 1)))),(Qp 68 63 67),(Qm 69 68),(Qg 70 69 true (.mv (.t 9))),(Qg 71 69 true (.bin .eql (.t 70) (.c (.iv 0)))),(Qp 72 69 71),(Qm 73 72),(Qg 74 73 true (.loadA 2 (.t 8))),(Qg 75 73 true (.call 22 [(.t 74),(.c (.iv 2))])),(Qg 76 73 true (.len (.t 75))),(Qg 77 73 true (.bin .eql (.t 76) (.c (.iv 1)))),(Qp 78 73 77),(Qm 79 78),(Qg 80 79 true (.mv (.t 11))),(Qg 81 79 true (.bin .eql (.t 80) (.c (.iv 162)))),(Qp 82 79 81),(Qm 83 82),(Qg 84 83 true (.loadA 2 (.t 1))),(Qg 85 83 true (.call 17 [(.t 84)])),(Qg 86 83 true (.bin .eql (.t 85) (.c (.iv 0)))),(Qp 87 83 86),(Qm 88 87),(Qg 89 88 true (.loadA 2 (.t 1))),(Qg 90 88 true (.build [.iv 0,.iv 0] [(0,1,(.c (.iv 0))),(1,1,(.c (.iv 1)))])),(Qg 91 88 true (.call 19 [(.t 89),(.t 90),(.c (.iv 3))])),(Qg 92 88 true (.bin .eql (.t 91) (.c (.iv 1)))),(Qp 93 88 92),(Qm 94 93),(Qg 95 94 true (.loadA 2 (.t 1))),(Qg 96 94 true (.loadA 2 (.t 1))),(Qg 97 94 true (.call 24 [(.t 95),(.t 96)])),(Qp 98 94 97),(Qm 99 98),(Qg 100 99 true (.loadA 2 (.t 1))),(Qg 101 99 true (.loadA 2 (.t 3))),(Qg 102 99 true (.call 24 [(.t 100),(.t 101)])),(Qg 103 99 true (.not (.t 102))),(Qp 104 99 103),(Qm 105 104),(Qg 106 105 true (.loadA 2 (.t 1))),(Qg 107 105 true (.call 26 [(.t 106)])),(Qg 108 105 true (.field 0 none (.t 107))),(Qg 109 105 true (.len (.t 108))),(Qg 110 105 true (.bin .eql (.t 109) (.c (.iv 2)))),(Qp 111 105 110),(Qm 0 111)]) (.ret)))))))))
theorem ok11:FnOK Tryz.prog 11 Tryz.f11 e11 [.t 0] 0 112:=⟨by kernel_rfl,⟨_,rfl,by kernel_rfl⟩,by kernel_rfl,by kernel_rfl⟩
noncomputable def Z5l:Bool→Option Bool
| x16=>
 some x16
noncomputable def Z6l (x1:(Bar×Int)) (x3:(Bar×Int)):Bool→Option Bool
| x4=>
 ifb x4 (
 some false) (
 (Zxi x1.1 0 ([1])).bind fun x5=>
 (Zzi x3.1 0).bind fun x6=>
 (Z8j x1.1 0 1).bind fun x7=>
 (Znj x3.1 2).bind fun x8=>
 ifb (decide ((ln Zu4 x8)=2)) (
 ifb (decide (x5.2=0)) (
 (Znj x5.1 0).bind fun x9=>
 ifb (decide ((ln Zu4 x9)=1)) (
 ifb (decide (x6.2=0)) (
 (Znj x6.1 2).bind fun x10=>
 ifb (decide ((ln Zu4 x10)=1)) (
 ifb (decide (x7.2=162)) (
 (Zmi x1.1).bind fun x11=>
 ifb (decide (x11=0)) (
 (Z2k x1.1 ((Edge.mk 0 1)) 3).bind fun x12=>
 ifb (decide (x12=1)) (
 (Zgk x1.1 x1.1).bind fun x13=>
 ifb x13 (
 (Zgk x1.1 x3.1).bind fun x14=>
 ifb (!x14) (
 (Zdi x1.1).bind fun x15=>
 Z5l (decide ((ln Diner.row x15.Diners)=2))) (
 Z5l false)) (
 Z5l false)) (
 Z5l false)) (
 Z5l false)) (
 Z5l false)) (
 Z5l false)) (
 Z5l false)) (
 Z5l false)) (
 Z5l false)) (
 Z5l false))
noncomputable def Z7l:Option Bool:=
 (Z6k ((Graph.mk 2 ([(Edge.mk 0 1)])))).bind fun x1=>
 (Zxi x1.1 0 (([]:(List Int)))).bind fun x2=>
 (Zxi x2.1 1 (([]:(List Int)))).bind fun x3=>
 ifb (!decide (x1.2=0)) (
 (Z6l x1 x3) true) (
 ifb (!decide (x2.2=0)) (
 (Z6l x1 x3) true) (
 (Z6l x1 x3) (!decide (x3.2=0))))
theorem Z8l (r:Bool) (h:Z7l=some r):Zp2 Tryz.prog 11 [] (.bv r):=by
 refine Zt2 ok11 rfl rfl fun w0 H0=>?_
 rw [Z7l] at h
 refine Zk2 9 ?_;dsimp only [go_sem];refine An ?_;refine Z73 0 rfl ?_;dsimp only [go_sem];obtain ⟨x1,ex1,h⟩:=Bs h;refine Zy2 trivial (k_bar_New ((Graph.mk 2 ([(Edge.mk 0 1)]))) _ ex1) (h:=?_);refine Zk2 10 ?_;dsimp only [go_sem];refine An ?_;obtain ⟨x2,ex2,h⟩:=Bs h;refine Zy2 trivial (Zyi x1.1 0 (([]:(List Int))) _ ex2) (h:=?_);refine Zk2 10 ?_;dsimp only [go_sem];refine An ?_;obtain ⟨x3,ex3,h⟩:=Bs h;refine Zy2 trivial (Zyi x2.1 1 (([]:(List Int))) _ ex3) (h:=?_);refine Zk2 12 ?_;dsimp only [go_sem];refine An ?_
 refine Ze4 (fun (x4:Bool)=>(⟨(.any :: .ptr 0 0 :: .any :: .ptr 1 0::an 34 (.bv x4::an 73 [])),[some ⟨25,[.sl 5 (List.map Drinker.row x1.1.Drinkers),.sl 5 (List.map Mail.row x1.1.Mail)]⟩,some ⟨25,[.sl 5 (List.map Drinker.row x3.1.Drinkers),.sl 5 (List.map Mail.row x3.1.Mail)]⟩],[]⟩:St)) (Z6l x1 x3) r ?_ fun J1=>?_
 ·intro x4 h;rw [Z6l] at h;(try dsimp only);refine Zg4 h rfl (fun _ h=>?_) fun _ h=>?_
  ·refine Zk2 4 ?_;dsimp only [go_sem];refine An ?_;exact Zo4 (res:=fun (r:Bool)=>.bv r) ok11 h
  ·refine Zk2 5 ?_;dsimp only [go_sem];refine An ?_;refine Z73 0 rfl ?_;dsimp only [go_sem];obtain ⟨x5,ex5,h⟩:=Bs h;refine Zy2 trivial (Zyi x1.1 0 ([1]) _ ex5) (h:=?_);refine Zk2 10 ?_;dsimp only [go_sem];refine An ?_;obtain ⟨x6,ex6,h⟩:=Bs h;refine Zy2 trivial (Z0j x3.1 0 _ ex6) (h:=?_);refine Zk2 10 ?_;dsimp only [go_sem];refine An ?_;obtain ⟨x7,ex7,h⟩:=Bs h;refine Zy2 trivial (Z9j x1.1 0 1 _ ex7) (h:=?_);refine Zk2 10 ?_;dsimp only [go_sem];refine An ?_;obtain ⟨x8,ex8,h⟩:=Bs h
   refine Zy2 trivial (Zoj x3.1 2 _ ex8) (h:=?_);refine Zk2 3 ?_;dsimp only [go_sem];refine An ?_;refine Ze4 (fun (x16:Bool)=>(⟨(.bv x16::an 111 []),[],[]⟩:St)) Z5l r ?_ fun J2=>?_
   ·intro x16 h;rw [Z5l] at h;(try dsimp only);exact Zo4 (res:=fun (r:Bool)=>.bv r) ok11 h
   ·refine Zn4 59 h rfl (fun _ h=>?_) fun _ h=>?_
    ·dsimp only [go_sem];refine Zk2 4 ?_;dsimp only [go_sem];refine An ?_;refine Zn4 63 h rfl (fun _ h=>?_) fun _ h=>?_
     ·dsimp only [go_sem];refine Zk2 1 ?_;dsimp only [go_sem];refine An ?_;obtain ⟨x9,ex9,h⟩:=Bs h;refine Zy2 trivial (Zoj x5.1 0 _ ex9) (h:=?_);refine Zk2 4 ?_;dsimp only [go_sem];refine An ?_;refine Zn4 69 h rfl (fun _ h=>?_) fun _ h=>?_
      ·dsimp only [go_sem];refine Zk2 4 ?_;dsimp only [go_sem];refine An ?_;refine Zn4 73 h rfl (fun _ h=>?_) fun _ h=>?_
       ·dsimp only [go_sem];refine Zk2 1 ?_;dsimp only [go_sem];refine An ?_;obtain ⟨x10,ex10,h⟩:=Bs h;refine Zy2 trivial (Zoj x6.1 2 _ ex10) (h:=?_);refine Zk2 4 ?_;dsimp only [go_sem];refine An ?_;refine Zn4 79 h rfl (fun _ h=>?_) fun _ h=>?_
        ·dsimp only [go_sem];refine Zk2 4 ?_;dsimp only [go_sem];refine An ?_;refine Zn4 83 h rfl (fun _ h=>?_) fun _ h=>?_
         ·dsimp only [go_sem];refine Zk2 1 ?_;dsimp only [go_sem];refine An ?_;obtain ⟨x11,ex11,h⟩:=Bs h;refine Zy2 trivial (Zni x1.1 _ ex11) (h:=?_);refine Zk2 3 ?_;dsimp only [go_sem];refine An ?_;refine Zn4 88 h rfl (fun _ h=>?_) fun _ h=>?_
          ·dsimp only [go_sem];refine Zk2 2 ?_;dsimp only [go_sem];refine An ?_;obtain ⟨x12,ex12,h⟩:=Bs h;refine Zy2 trivial (Z3k x1.1 ((Edge.mk 0 1)) 3 _ ex12) (h:=?_);refine Zk2 3 ?_;dsimp only [go_sem];refine An ?_;refine Zn4 94 h rfl (fun _ h=>?_) fun _ h=>?_
           ·dsimp only [go_sem];refine Zk2 2 ?_;dsimp only [go_sem];refine An ?_;obtain ⟨x13,ex13,h⟩:=Bs h;refine Zy2 trivial (Zhk x1.1 x1.1 _ ex13) (h:=?_);refine Zk2 2 ?_;dsimp only [go_sem];refine An ?_;refine Zn4 99 h rfl (fun _ h=>?_) fun _ h=>?_
            ·dsimp only [go_sem];refine Zk2 2 ?_;dsimp only [go_sem];refine An ?_;obtain ⟨x14,ex14,h⟩:=Bs h;refine Zy2 trivial (Zhk x1.1 x3.1 _ ex14) (h:=?_);refine Zk2 3 ?_;dsimp only [go_sem];refine An ?_;refine Zn4 105 h rfl (fun _ h=>?_) fun _ h=>?_
             ·dsimp only [go_sem];refine Zk2 1 ?_;dsimp only [go_sem];refine An ?_;obtain ⟨x15,ex15,h⟩:=Bs h;refine Zy2 trivial (Zei x1.1 _ ex15) (h:=?_);refine Zk2 6 ?_;dsimp only [go_sem];refine An ?_;exact Zq4 J2 (s:=decide ((ln Diner.row x15.Diners)=2)) h
             ·dsimp only [go_sem];refine Zk2 8 ?_;dsimp only [go_sem];refine An ?_;exact Zq4 J2 (s:=false) h
            ·dsimp only [go_sem];refine Zk2 14 ?_;dsimp only [go_sem];refine An ?_;exact Zq4 J2 (s:=false) h
           ·dsimp only [go_sem];refine Zk2 19 ?_;dsimp only [go_sem];refine An ?_;exact Zq4 J2 (s:=false) h
          ·dsimp only [go_sem];refine Zk2 25 ?_;dsimp only [go_sem];refine An ?_;exact Zq4 J2 (s:=false) h
         ·dsimp only [go_sem];refine Zk2 30 ?_;dsimp only [go_sem];refine An ?_;exact Zq4 J2 (s:=false) h
        ·dsimp only [go_sem];refine Zk2 34 ?_;dsimp only [go_sem];refine An ?_;exact Zq4 J2 (s:=false) h
       ·dsimp only [go_sem];refine Zk2 40 ?_;dsimp only [go_sem];refine An ?_;exact Zq4 J2 (s:=false) h
      ·dsimp only [go_sem];refine Zk2 44 ?_;dsimp only [go_sem];refine An ?_;exact Zq4 J2 (s:=false) h
     ·dsimp only [go_sem];refine Zk2 50 ?_;dsimp only [go_sem];refine An ?_;exact Zq4 J2 (s:=false) h
    ·dsimp only [go_sem];refine Zk2 54 ?_;dsimp only [go_sem];refine An ?_;exact Zq4 J2 (s:=false) h
 ·refine Zn4 31 h rfl (fun _ h=>?_) fun _ h=>?_
  ·dsimp only [go_sem];refine Zk2 8 ?_;dsimp only [go_sem];refine An ?_;exact Zq4 J1 (s:=true) h
  ·dsimp only [go_sem];refine Zk2 4 ?_;dsimp only [go_sem];refine An ?_;refine Zn4 35 h rfl (fun _ h=>?_) fun _ h=>?_
   ·dsimp only [go_sem];refine Zk2 4 ?_;dsimp only [go_sem];refine An ?_;exact Zq4 J1 (s:=true) h
   ·dsimp only [go_sem];refine Zk2 4 ?_;dsimp only [go_sem];refine An ?_;exact Zq4 J1 (s:=!decide (x3.2=0)) h
set_option maxRecDepth 100000
set_option maxHeartbeats 4000000
@[go_sem] def e21_L0:EC:=.seq (.seq (.reg [(Qm 11 5),(Qm 12 0),(Qa 13 (.len (.t 12))),(Qa 14 (.bin .lss (.t 11) (.t 13)))]) (.ite (.t 14) (.skip) (.exit 0))) (.seq (.blk 1 (.seq (.drw [(Qm 17 0),(Qm 18 5),(Qk 19 1 17 18),(Ql 20 19),(Qm 21 1),(Qm 22 5),(Qk 23 1 21 22),(Ql 24 23),(Qa 25 (.bin .neq (.t 20) (.t 24)))] [[],[],[0,1],[2],[],[],[4,5],[6],[3,7]] [[2],[2],[0,1,3],[2,8],[6],[6],[4,5,7],[6,8],[3,7]]) (.ite (.t 25) (.seq (.reg [(Qa 4 (.mv (.c .ff)))]) (.ret)) (.skip)))) (.reg [(Qm 15 5),(Qv 16 15 1),(Qm 5 16)]))
@[go_sem] def e21:EC:=.seq (.reg [(Qa 4 (.mv (.c .ff)))]) (.seq (.seq (.reg [(Qm 6 0),(Qa 7 (.len (.t 6))),(Qm 8 1),(Qa 9 (.len (.t 8))),(Qa 10 (.bin .neq (.t 7) (.t 9)))]) (.ite (.t 10) (.seq (.reg [(Qa 4 (.mv (.c .ff)))]) (.ret)) (.skip))) (.seq (.seq (.reg [(Qi 5 0)]) (.blk 0 (.loop e21_L0))) (.seq (.reg [(Qa 4 (.mv (.c .tt)))]) (.ret))))
theorem ok21:FnOK Tryz.prog 21 Tryz.f21 e21 [.t 4] 2 24:=⟨by kernel_rfl,⟨_,rfl,by kernel_rfl⟩,by kernel_rfl,by kernel_rfl⟩
noncomputable def Z9l:Unit→Option Bool
| ()=>
 some true
noncomputable def Zal (x1:(List Int)) (x2:(List Int)):Int→Option (Int ⊕ Bool)
| x6=>
 ifb (decide (x6<(ln Zu4 x1))) (
 (at_ x1 x6).bind fun x7=>
 (at_ x2 x6).bind fun x8=>
 ifb (!decide (x7=x8)) (
 Option.map Sum.inr (some false)) (
 some (.inl (wr (x6+1))))) (
 Option.map Sum.inr (Z9l ()))
noncomputable def Zbl (x1:(List Int)) (x2:(List Int)):Option Bool:=
 ifb (!decide ((ln Zu4 x1)=(ln Zu4 x2))) (
 some false) (
 loop (Zal x1 x2) 0)
theorem Zcl (x1:(List Int)) (x2:(List Int)) (r:Bool) (h:Zbl x1 x2=some r):Zp2 Tryz.prog 21 [.sl 1 (List.map Zu4 x1),.sl 1 (List.map Zu4 x2)] (.bv r):=by
 refine Zt2 ok21 rfl rfl fun w0 H0=>?_
 rw [Zbl] at h
 refine Zk2 13 ?_;dsimp only [go_sem];refine An ?_;refine Zg4 h rfl (fun _ h=>?_) fun _ h=>?_
 ·refine Zk2 4 ?_;dsimp only [go_sem];refine An ?_;exact Zo4 (res:=fun (r:Bool)=>.bv r) ok21 h
 ·refine Zk2 6 ?_;dsimp only [go_sem];refine An ?_;refine Ze4 (fun (_:Unit)=>(⟨(an 26 []),[],[]⟩:St)) Z9l r ?_ fun J1=>?_
  ·rintro ⟨⟩ h;rw [Z9l] at h;(try dsimp only);refine Zk2 4 ?_;dsimp only [go_sem];refine An ?_;exact Zo4 (res:=fun (r:Bool)=>.bv r) ok21 h
  ·refine Zk2 1 ?_;dsimp only [go_sem];refine An ?_;refine Zf4 h (fun (x6:Int)=>(⟨(.sl 1 (List.map Zu4 x1) :: .sl 1 (List.map Zu4 x2)::an 3 (.iv x6::an 20 [])),[],[]⟩:St)) (by simp [go_sem]) (by intro x6;first | rfl | simp [go_sem]) ?_;rintro n1 x6 y1 h hin1 hout1;rw [Zal] at h;(try dsimp only);refine Zk2 8 ?_;dsimp only [go_sem];refine An ?_;refine Zg4 h rfl (fun _ h=>?_) fun _ h=>?_
   ·refine Zk2 4 ?_;dsimp only [go_sem];refine An ?_;refine Zf3 (by kernel_rfl) fun all hall hs hnap haf=>?_;dsimp only [go_sem];refine Z55 hall hs haf hnap 4 5 ?_;dsimp only [go_sem];refine An ?_;obtain ⟨x7,ex7,h⟩:=Bs h;refine Zk4 hall hs haf hnap 2 Zu4 ex7 rfl rfl trivial rfl rfl rfl rfl ?_;refine Z55 hall hs haf hnap 1 3 ?_;dsimp only [go_sem];refine An ?_;obtain ⟨x8,ex8,h⟩:=Bs h;refine Zk4 hall hs haf hnap 6 Zu4 ex8 rfl rfl trivial rfl rfl rfl rfl ?_;refine Z55 hall hs haf hnap 2 0 ?_;dsimp only [go_sem];refine An ?_;refine Zp3 rfl ?_ _
    refine Zg4 h rfl (fun _ h=>?_) fun _ h=>?_
    ·refine Zk2 4 ?_;dsimp only [go_sem];refine An ?_;exact Zo4 (res:=fun (r:Bool)=>.bv r) ok21 (Zd4 h hout1)
    ·refine Zk2 7 ?_;dsimp only [go_sem];refine An ?_;exact Zp4 h hin1
   ·refine Zk2 1 ?_;dsimp only [go_sem];refine An ?_;exact Zq4 J1 (s:=()) (Zd4 h hout1)
set_option maxRecDepth 100000
set_option maxHeartbeats 4000000
@[go_sem] def e44:EC:=.seq (.reg [(Qx 2 63 5 0),(Qx 3 63 5 1),(Qa 4 (.mv (.c .ff)))]) (.seq (.reg [(Qf 5 0 2),(Qe 6 3 5),(Qf 7 0 3),(Qe 8 3 7),(Qa 9 (.call 81 [(.t 6),(.t 8)])),(Qm 10 9),(Qh 11 10 true 3 2),(Qn 12 10 true 11),(Qh 13 10 true 3 3),(Qn 14 10 true 13),(Qg 15 10 true (.bin .eql (.t 12) (.t 14))),(Qp 16 10 15),(Qm 17 16),(Qh 18 17 true 4 2),(Qn 19 17 true 18),(Qh 20 17 true 4 3),(Qn 21 17 true 20),(Qg 22 17 true (.call 21 [(.t 19),(.t 21)])),(Qp 23 17 22),(Qm 4 23)]) (.ret))
theorem ok44:FnOK Tryz.prog 44 Tryz.f44 e44 [.t 4] 2 22:=⟨by kernel_rfl,⟨_,rfl,by kernel_rfl⟩,by kernel_rfl,by kernel_rfl⟩
noncomputable def Zdl:Bool→Option Bool
| x5=>
 some x5
noncomputable def Zel (x1:Drinker) (x2:Drinker):Option Bool:=
 (Zy5 x1.Diner x2.Diner).bind fun x3=>
 ifb x3 (
 ifb (decide (x1.Thirst=x2.Thirst)) (
 (Zbl x1.Need x2.Need).bind fun x4=>
 Zdl x4) (
 Zdl false)) (
 Zdl false)
theorem Zfl (x1:Drinker) (x2:Drinker) (r:Bool) (h:Zel x1 x2=some r):Zp2 Tryz.prog 44 [.agg (Drinker.row x1),.agg (Drinker.row x2)] (.bv r):=by
 refine Zt2 ok44 rfl rfl fun w0 H0=>?_
 rw [Zel] at h
 refine Zk2 12 ?_;dsimp only [go_sem];refine An ?_;obtain ⟨x3,ex3,h⟩:=Bs h;refine Zy2 trivial (Zz5 x1.Diner x2.Diner _ ex3) (h:=?_);refine Zk2 1 ?_;dsimp only [go_sem];refine An ?_;refine Ze4 (fun (x5:Bool)=>(⟨(an 4 (.bv x5::an 19 [])),[],[]⟩:St)) Zdl r ?_ fun J1=>?_
 ·intro x5 h;rw [Zdl] at h;(try dsimp only);exact Zo4 (res:=fun (r:Bool)=>.bv r) ok44 h
 ·refine Zn4 10 h rfl (fun _ h=>?_) fun _ h=>?_
  ·dsimp only [go_sem];refine Zk2 7 ?_;dsimp only [go_sem];refine An ?_;refine Zn4 17 h rfl (fun _ h=>?_) fun _ h=>?_
   ·dsimp only [go_sem];refine Zk2 4 ?_;dsimp only [go_sem];refine An ?_;obtain ⟨x4,ex4,h⟩:=Bs h;refine Zy2 trivial (Zcl x1.Need x2.Need _ ex4) (h:=?_);refine Zk2 3 ?_;dsimp only [go_sem];refine An ?_;exact Zq4 J1 (s:=x4) h
   ·dsimp only [go_sem];refine Zk2 8 ?_;dsimp only [go_sem];refine An ?_;exact Zq4 J1 (s:=false) h
  ·dsimp only [go_sem];refine Zk2 15 ?_;dsimp only [go_sem];refine An ?_;exact Zq4 J1 (s:=false) h
set_option maxRecDepth 100000
set_option maxHeartbeats 4000000
@[go_sem] def e16_L0:EC:=.seq (.seq (.reg [(Qm 13 5),(Qf 14 0 2),(Ql 15 14),(Qa 16 (.len (.t 15))),(Qa 17 (.bin .lss (.t 13) (.t 16)))]) (.ite (.t 17) (.skip) (.exit 0))) (.seq (.blk 1 (.seq (.drw [(Qf 20 0 2),(Ql 21 20),(Qm 22 5),(Qk 23 5 21 22),(Qe 24 5 23),(Qf 25 0 3),(Ql 26 25),(Qm 27 5),(Qk 28 5 26 27),(Qe 29 5 28),(Qa 30 (.call 44 [(.t 24),(.t 29)])),(Qa 31 (.not (.t 30)))] [[],[0],[],[1,2],[3],[],[5],[],[6,7],[8],[4,9],[10]] [[1],[0,3],[3],[1,2,4],[3,10],[6],[5,8],[8],[6,7,9],[8,10],[4,9,11],[10]]) (.ite (.t 31) (.seq (.reg [(Qa 4 (.mv (.c .ff)))]) (.ret)) (.skip)))) (.reg [(Qm 18 5),(Qv 19 18 1),(Qm 5 19)]))
@[go_sem] def e16:EC:=.seq (.reg [(Qx 2 25 2 0),(Qx 3 25 2 1),(Qa 4 (.mv (.c .ff)))]) (.seq (.seq (.reg [(Qf 6 0 2),(Ql 7 6),(Qa 8 (.len (.t 7))),(Qf 9 0 3),(Ql 10 9),(Qa 11 (.len (.t 10))),(Qa 12 (.bin .neq (.t 8) (.t 11)))]) (.ite (.t 12) (.seq (.reg [(Qa 4 (.mv (.c .ff)))]) (.ret)) (.skip))) (.seq (.seq (.reg [(Qi 5 0)]) (.blk 0 (.loop e16_L0))) (.seq (.reg [(Qf 32 1 2),(Ql 33 32),(Qf 34 1 3),(Ql 35 34),(Qa 36 (.call 56 [(.t 33),(.t 35)])),(Qm 4 36)]) (.ret))))
theorem ok16:FnOK Tryz.prog 16 Tryz.f16 e16 [.t 4] 2 35:=⟨by kernel_rfl,⟨_,rfl,by kernel_rfl⟩,by kernel_rfl,by kernel_rfl⟩
noncomputable def Zgl (x1:Bar) (x2:Bar):Unit→Option Bool
| ()=>
 (Zwg x1.Mail x2.Mail).bind fun x15=>
 some x15
noncomputable def Zhl (x1:Bar) (x2:Bar):Int→Option (Int ⊕ Bool)
| x7=>
 ifb (decide (x7<(ln Drinker.row x1.Drinkers))) (
 (at_ x1.Drinkers x7).bind fun x8=>
 (at_ x2.Drinkers x7).bind fun x9=>
 (Zel x8 x9).bind fun x10=>
 ifb (!x10) (
 Option.map Sum.inr (some false)) (
 some (.inl (wr (x7+1))))) (
 Option.map Sum.inr ((Zgl x1 x2) ()))
noncomputable def Zil (x1:Bar) (x2:Bar):Option Bool:=
 ifb (!decide ((ln Drinker.row x1.Drinkers)=(ln Drinker.row x2.Drinkers))) (
 some false) (
 loop (Zhl x1 x2) 0)
theorem Zjl (x1:Bar) (x2:Bar) (r:Bool) (h:Zil x1 x2=some r):Zp2 Tryz.prog 16 [.agg (Bar.row x1),.agg (Bar.row x2)] (.bv r):=by
 refine Zt2 ok16 rfl rfl fun w0 H0=>?_
 rw [Zil] at h
 refine Zk2 17 ?_;dsimp only [go_sem];refine An ?_;refine Zg4 h rfl (fun _ h=>?_) fun _ h=>?_
 ·refine Zk2 4 ?_;dsimp only [go_sem];refine An ?_;exact Zo4 (res:=fun (r:Bool)=>.bv r) ok16 h
 ·refine Zk2 6 ?_;dsimp only [go_sem];refine An ?_;refine Ze4 (fun (_:Unit)=>(⟨(.any :: .any :: .ptr 0 0 :: .ptr 1 0::an 33 []),[some ⟨25,[.sl 5 (List.map Drinker.row x1.Drinkers),.sl 5 (List.map Mail.row x1.Mail)]⟩,some ⟨25,[.sl 5 (List.map Drinker.row x2.Drinkers),.sl 5 (List.map Mail.row x2.Mail)]⟩],[]⟩:St)) (Zgl x1 x2) r ?_ fun J1=>?_
  ·rintro ⟨⟩ h;rw [Zgl] at h;(try dsimp only);refine Zk2 6 ?_;dsimp only [go_sem];refine An ?_;obtain ⟨x15,ex15,h⟩:=Bs h;refine Zy2 trivial (Zxg x1.Mail x2.Mail _ ex15) (h:=?_);refine Zk2 2 ?_;dsimp only [go_sem];refine An ?_;exact Zo4 (res:=fun (r:Bool)=>.bv r) ok16 h
  ·refine Zk2 1 ?_;dsimp only [go_sem];refine An ?_;refine Zf4 h (fun (x7:Int)=>(⟨(.any :: .any :: .ptr 0 0 :: .ptr 1 0 :: .any :: .iv x7::an 31 []),[some ⟨25,[.sl 5 (List.map Drinker.row x1.Drinkers),.sl 5 (List.map Mail.row x1.Mail)]⟩,some ⟨25,[.sl 5 (List.map Drinker.row x2.Drinkers),.sl 5 (List.map Mail.row x2.Mail)]⟩],[]⟩:St)) (by simp [go_sem]) (by intro x7;first | rfl | simp [go_sem]) ?_;rintro n1 x7 y1 h hin1 hout1;rw [Zhl] at h;(try dsimp only);refine Zk2 9 ?_;dsimp only [go_sem];refine An ?_
   refine Zg4 h rfl (fun _ h=>?_) fun _ h=>?_
   ·refine Zk2 4 ?_;dsimp only [go_sem];refine An ?_;refine Zf3 (by kernel_rfl) fun all hall hs hnap haf=>?_;dsimp only [go_sem];refine Z65 hall hs haf hnap 6 6 [3,2,3,4] [(20,[.ptr 0 0,.sl 5 (List.map Drinker.row x1.Drinkers),.iv x7]),(2,[.ptr 1 0,.sl 5 (List.map Drinker.row x2.Drinkers),.iv x7])] (by kernel_rfl) ?_;dsimp only [go_sem];obtain ⟨x8,ex8,h⟩:=Bs h;refine Zk4 hall hs haf hnap 3 Drinker.row ex8 rfl rfl trivial rfl rfl rfl rfl ?_;refine Z55 hall hs haf hnap 1 4 ?_;dsimp only [go_sem];refine An ?_;obtain ⟨x9,ex9,h⟩:=Bs h
    refine Zk4 hall hs haf hnap 8 Drinker.row ex9 rfl rfl trivial rfl rfl rfl rfl ?_;refine Z55 hall hs haf hnap 1 2 ?_;dsimp only [go_sem];refine An ?_;refine Zq3 10 rfl ?_;obtain ⟨x10,ex10,h⟩:=Bs h;refine Zw3 hall rfl trivial (Zfl x8 x9 _ ex10) (h:=?_);dsimp only [go_sem];refine Z55 hall hs haf hnap 1 0 ?_;dsimp only [go_sem];refine An ?_;refine Zp3 rfl ?_ _;refine Zg4 h rfl (fun _ h=>?_) fun _ h=>?_
    ·refine Zk2 4 ?_;dsimp only [go_sem];refine An ?_;exact Zo4 (res:=fun (r:Bool)=>.bv r) ok16 (Zd4 h hout1)
    ·refine Zk2 7 ?_;dsimp only [go_sem];refine An ?_;exact Zp4 h hin1
   ·refine Zk2 1 ?_;dsimp only [go_sem];refine An ?_;exact Zq4 J1 (s:=()) (Zd4 h hout1)
set_option maxRecDepth 100000
set_option maxHeartbeats 4000000
@[go_sem] def e27_L0:EC:=.seq (.seq (.reg [(Qm 8 4),(Qf 9 0 1),(Ql 10 9),(Qa 11 (.len (.t 10))),(Qa 12 (.bin .lss (.t 8) (.t 11)))]) (.ite (.t 12) (.skip) (.exit 0))) (.seq (.blk 1 (.drw [(Qf 15 0 3),(Ql 16 15),(Qf 17 0 1),(Ql 18 17),(Qm 19 4),(Qk 20 5 18 19),(Qf 21 0 20),(Qe 22 3 21),(Qa 23 (.bsl 61 3 1 [.iv 0,.iv 0,.nl] [(0,(.t 22))])),(Qa 24 (.app 61 3 40 (.t 16) (.t 23))),(Qf 25 0 3),(Qs 1 25 24)] [[],[0],[],[2],[],[3,4],[5],[6],[7],[1,8],[0,1,2,3,4,5,6,7,8,9],[10,9,9,0,1,2,3,4,5,6,7,8,9]] [[1],[0,9],[3],[2,5],[5],[3,4,6],[5,7],[6,8],[7,9],[1,8,11],[11],[9,10]])) (.reg [(Qm 13 4),(Qv 14 13 1),(Qm 4 14)]))
@[go_sem] def e27:EC:=.seq (.reg [(Qx 1 25 2 0),(Qa 2 (.alloc 48 [.nl,.nl]))]) (.seq (.reg [(Qf 5 1 1),(Ql 6 5),(Qa 7 (.build [.nl,.nl] [(1,1,(.t 6))])),(Qa 3 (.alloc 48 [.nl,.nl])),(Qs 2 3 7)]) (.seq (.seq (.reg [(Qi 4 0)]) (.blk 0 (.loop e27_L0))) (.seq (.reg [(Qe 26 2 3),(Qs 2 2 26)]) (.ret))))
theorem ok27:FnOK Tryz.prog 27 Tryz.f27 e27 [.c 2 (some 2)] 1 26:=⟨by kernel_rfl,⟨_,rfl,by kernel_rfl⟩,by kernel_rfl,by kernel_rfl⟩
noncomputable def Zkl (x1:Bar):(List Diner)→Option Scene
| x20=>
 some (Scene.mk x20 x1.Mail)
noncomputable def Zll (x1:Bar):(Int×(List Diner))→Option ((Int×(List Diner)) ⊕ Scene)
| (x6,x7)=>
 ifb (decide (x6<(ln Drinker.row x1.Drinkers))) (
 (at_ x1.Drinkers x6).bind fun x8=>
 (Z84 40 x7 ([x8.Diner])).bind fun x9=>
 some (.inl (wr (x6+1),x9))) (
 Option.map Sum.inr ((Zkl x1) x7))
noncomputable def Zml (x1:Bar):Option Scene:=
 loop (Zll x1) (0,([]:List Diner))
theorem Znl (x1:Bar) (r:Scene) (h:Zml x1=some r):Zp2 Tryz.prog 27 [.agg (Bar.row x1)] (.agg (Scene.row r)):=by
 refine Zt2 ok27 rfl rfl fun w0 H0=>?_
 rw [Zml] at h
 refine Zk2 18 ?_;dsimp only [go_sem];refine An ?_;refine Ze4 (fun (x20:(List Diner))=>(⟨(.any :: .any :: .ptr 1 0 :: .ptr 2 0::an 23 []),[none,some ⟨48,[.nl,.nl]⟩,some ⟨48,[.osl 0,.sl 5 (List.map Mail.row x1.Mail)]⟩],[some ⟨61,3,List.map Diner.row x20⟩]⟩:St)) (Zkl x1) r ?_ fun J1=>?_
 ·intro x20 h;rw [Zkl] at h;(try dsimp only);refine Zk2 5 ?_;dsimp only [go_sem];refine An ?_;refine Z73 0 rfl ?_;dsimp only [go_sem];exact Zo4 (res:=fun (r:Scene)=>.agg (Scene.row r)) ok27 h
 ·refine Zk2 1 ?_;dsimp only [go_sem];refine An ?_;refine Z24 2 0 61 3 rfl rfl rfl ?_;dsimp only [go_sem];refine Zf4 h (fun ((x6,x7):(Int×(List Diner)))=>(⟨(.any :: .ptr 0 0 :: .ptr 1 0 :: .ptr 2 0 :: .iv x6::an 22 []),[some ⟨25,[.sl 5 (List.map Drinker.row x1.Drinkers),.sl 5 (List.map Mail.row x1.Mail)]⟩,some ⟨48,[.nl,.nl]⟩,some ⟨48,[.osl 0,.sl 5 (List.map Mail.row x1.Mail)]⟩],[some ⟨61,3,List.map Diner.row x7⟩]⟩:St)) (by simp [go_sem]) (by rintro ⟨x6,x7⟩;first | rfl | simp [go_sem]) ?_;rintro n1 ⟨x6,x7⟩ y1 h hin1 hout1;rw [Zll] at h
  (try dsimp only);refine Zk2 9 ?_;dsimp only [go_sem];refine An ?_;refine Zg4 h rfl (fun _ h=>?_) fun _ h=>?_
  ·refine Zk2 3 ?_;dsimp only [go_sem];refine An ?_;refine Zf3 (by kernel_rfl) fun all hall hs hnap haf=>?_;dsimp only [go_sem];refine Z55 hall hs haf hnap 4 8 ?_;dsimp only [go_sem];refine An ?_;obtain ⟨x8,ex8,h⟩:=Bs h;refine Zk4 hall hs haf hnap 5 Drinker.row ex8 rfl rfl trivial rfl rfl rfl rfl ?_;refine Z55 hall hs haf hnap 2 5 ?_;dsimp only [go_sem];refine An ?_;refine Zr3 1 8 rfl ?_ ?_
   ·refine Zv3 hall rfl trivial ?_;dsimp only [go_sem];refine Zq3 8 rfl ?_;refine Zv3 hall rfl trivial ?_;dsimp only [go_sem];refine Zq3 9 rfl ?_;obtain ⟨x9,ex9,h⟩:=Bs h;refine Zm4 Diner.row ex9 hall rfl trivial rfl rfl rfl ?_;dsimp only [go_sem];refine Z55 hall hs haf hnap 1 1 ?_;dsimp only [go_sem];refine An ?_;refine Zq3 11 rfl ?_;refine Zv3 hall rfl trivial ?_;dsimp only [go_sem];refine Zp3 rfl ?_ _;refine Zk2 6 ?_;dsimp only [go_sem];refine An ?_;refine Z14 2 0 rfl rfl rfl ?_;dsimp only [go_sem];exact Zp4 h hin1
   ·refine Zv3 hall rfl trivial ?_;dsimp only [go_sem];refine Zq3 1 rfl ?_;refine Zv3 hall rfl trivial ?_;dsimp only [go_sem];refine Zq3 9 rfl ?_;obtain ⟨x9,ex9,h⟩:=Bs h;refine Zm4 Diner.row ex9 hall rfl trivial rfl rfl rfl ?_;dsimp only [go_sem];refine Z55 hall hs haf hnap 1 1 ?_;dsimp only [go_sem];refine An ?_;refine Zq3 11 rfl ?_;refine Zv3 hall rfl trivial ?_;dsimp only [go_sem];refine Zp3 rfl ?_ _;refine Zk2 6 ?_;dsimp only [go_sem];refine An ?_;refine Z14 2 0 rfl rfl rfl ?_;dsimp only [go_sem];exact Zp4 h hin1
  ·refine Zk2 1 ?_;dsimp only [go_sem];refine An ?_;exact Zq4 J1 (s:=x7) (Zd4 h hout1)
set_option maxRecDepth 100000
set_option maxHeartbeats 4000000
@[go_sem] def e12_L0:EC:=.seq (.seq (.reg [(Qm 4 3),(Qf 5 0 1),(Ql 6 5),(Qa 7 (.len (.t 6))),(Qa 8 (.bin .lss (.t 4) (.t 7))),(Qm 9 8),(Qg 10 9 true (.mv (.t 3))),(Qg 11 9 true (.bin .lss (.t 10) (.c (.iv 25)))),(Qp 12 9 11)]) (.ite (.t 12) (.skip) (.exit 0))) (.seq (.blk 1 (.seq (.reg [(Qf 15 0 1),(Ql 16 15),(Qm 17 3),(Qk 18 5 16 17),(Qf 19 4 18),(Ql 20 19),(Qa 21 (.len (.t 20))),(Qa 22 (.bin .gtr (.t 21) (.c (.iv 24))))]) (.ite (.t 22) (.seq (.reg [(Qa 2 (.mv (.c .ff)))]) (.ret)) (.skip)))) (.reg [(Qm 13 3),(Qv 14 13 1),(Qm 3 14)]))
@[go_sem] def e12:EC:=.seq (.reg [(Qx 1 25 2 0),(Qa 2 (.mv (.c .ff)))]) (.seq (.seq (.reg [(Qi 3 0)]) (.blk 0 (.loop e12_L0))) (.seq (.reg [(Qf 23 0 1),(Ql 24 23),(Qa 25 (.len (.t 24))),(Qa 26 (.bin .leq (.t 25) (.c (.iv 24)))),(Qm 27 26),(Qg 28 27 true (.loadA 2 (.t 1))),(Qg 29 27 true (.call 27 [(.t 28)])),(Qg 30 27 true (.call 49 [(.t 29)])),(Qp 31 27 30),(Qm 2 31)]) (.ret)))
theorem ok12:FnOK Tryz.prog 12 Tryz.f12 e12 [.t 2] 1 31:=⟨by kernel_rfl,⟨_,rfl,by kernel_rfl⟩,by kernel_rfl,by kernel_rfl⟩
noncomputable def Zol:Bool→Option Bool
| x13=>
 some x13
noncomputable def Zpl (x1:Bar):Unit→Option Bool
| ()=>
 ifb (decide ((ln Drinker.row x1.Drinkers)≤24)) (
 (Zml x1).bind fun x11=>
 (Z38 x11).bind fun x12=>
 Zol x12) (
 Zol false)
noncomputable def Zql (x1:Bar) (x5:Int):Bool→Option (Int ⊕ Bool)
| x6=>
 ifb x6 (
 (at_ x1.Drinkers x5).bind fun x7=>
 ifb (decide (24<(ln Zu4 x7.Need))) (
 Option.map Sum.inr (some false)) (
 some (.inl (wr (x5+1))))) (
 Option.map Sum.inr ((Zpl x1) ()))
noncomputable def Zrl (x1:Bar):Int→Option (Int ⊕ Bool)
| x5=>
 ifb (decide (x5<(ln Drinker.row x1.Drinkers))) (
 (Zql x1 x5) (decide (x5<25))) (
 (Zql x1 x5) false)
noncomputable def Zsl (x1:Bar):Option Bool:=
 loop (Zrl x1) 0
theorem Ztl (x1:Bar) (r:Bool) (h:Zsl x1=some r):Zp2 Tryz.prog 12 [.agg (Bar.row x1)] (.bv r):=by
 refine Zt2 ok12 rfl rfl fun w0 H0=>?_
 rw [Zsl] at h
 refine Zk2 10 ?_;dsimp only [go_sem];refine An ?_;refine Ze4 (fun (_:Unit)=>(⟨(.any :: .ptr 0 0::an 30 []),[some ⟨25,[.sl 5 (List.map Drinker.row x1.Drinkers),.sl 5 (List.map Mail.row x1.Mail)]⟩],[]⟩:St)) (Zpl x1) r ?_ fun J1=>?_
 ·rintro ⟨⟩ h;rw [Zpl] at h;(try dsimp only);refine Zk2 7 ?_;dsimp only [go_sem];refine An ?_;refine Ze4 (fun (x13:Bool)=>(⟨(.any :: .any :: .bv x13::an 29 []),[],[]⟩:St)) Zol r ?_ fun J3=>?_
  ·intro x13 h;rw [Zol] at h;(try dsimp only);exact Zo4 (res:=fun (r:Bool)=>.bv r) ok12 h
  ·refine Zn4 27 h rfl (fun _ h=>?_) fun _ h=>?_
   ·dsimp only [go_sem];refine Zk2 1 ?_;dsimp only [go_sem];refine An ?_;obtain ⟨x11,ex11,h⟩:=Bs h;refine Zy2 trivial (Znl x1 _ ex11) (h:=?_);obtain ⟨x12,ex12,h⟩:=Bs h;refine Zy2 trivial (Z48 x11 _ ex12) (h:=?_);refine Zk2 3 ?_;dsimp only [go_sem];refine An ?_;exact Zq4 J3 (s:=x12) h
   ·dsimp only [go_sem];refine Zk2 6 ?_;dsimp only [go_sem];refine An ?_;exact Zq4 J3 (s:=false) h
 ·refine Zk2 1 ?_;dsimp only [go_sem];refine An ?_;refine Zf4 h (fun (x5:Int)=>(⟨(.any :: .ptr 0 0 :: .any :: .iv x5::an 28 []),[some ⟨25,[.sl 5 (List.map Drinker.row x1.Drinkers),.sl 5 (List.map Mail.row x1.Mail)]⟩],[]⟩:St)) (by simp [go_sem]) (by intro x5;first | rfl | simp [go_sem]) ?_;rintro n1 x5 y1 h hin1 hout1;rw [Zrl] at h;(try dsimp only);refine Zk2 9 ?_;dsimp only [go_sem];refine An ?_
  refine Ze4 (fun (x6:Bool)=>(⟨(.any :: .ptr 0 0 :: .any :: .iv x5::an 8 (.bv x6::an 19 [])),[some ⟨25,[.sl 5 (List.map Drinker.row x1.Drinkers),.sl 5 (List.map Mail.row x1.Mail)]⟩],[]⟩:St)) (Zql x1 x5) y1 ?_ fun J2=>?_
  ·intro x6 h;rw [Zql] at h;(try dsimp only);refine Zg4 h rfl (fun _ h=>?_) fun _ h=>?_
   ·refine Zk2 8 ?_;dsimp only [go_sem];refine An ?_;obtain ⟨x7,ex7,h⟩:=Bs h;refine Zj4 Drinker.row ex7 trivial rfl rfl rfl ?_;refine Zk2 5 ?_;dsimp only [go_sem];refine An ?_;refine Zg4 h rfl (fun _ h=>?_) fun _ h=>?_
    ·refine Zk2 4 ?_;dsimp only [go_sem];refine An ?_;exact Zo4 (res:=fun (r:Bool)=>.bv r) ok12 (Zd4 h hout1)
    ·refine Zk2 7 ?_;dsimp only [go_sem];refine An ?_;exact Zp4 h hin1
   ·refine Zk2 1 ?_;dsimp only [go_sem];refine An ?_;exact Zq4 J1 (s:=()) (Zd4 h hout1)
  ·refine Zn4 9 h rfl (fun _ h=>?_) fun _ h=>?_
   ·dsimp only [go_sem];refine Zk2 4 ?_;dsimp only [go_sem];refine An ?_;exact Zq4 J2 (s:=decide (x5<25)) h
   ·dsimp only [go_sem];refine Zk2 4 ?_;dsimp only [go_sem];refine An ?_;exact Zq4 J2 (s:=false) h
theorem Zul (l m:List Int) (hl:l.length≤1000000):Zbl l m=some (decide (l=m)):=by
 simp only [Zbl,Zg8]
 by_cases h:l.length=m.length
 ·simp only [h,decide_true,Bool.not_true,Z16]
  rw [Zd8 l m _ (fun x y=>decide (x=y)) h (by omega) (fun k x y hx hy=>by
   simp only [Zal,Z66 hx,Z06,Z46 hx,Z46 hy,Option.bind_some,Z96 hx (show l.length≤4000000000000000000 by omega),Z26,Option.map_some]
   cases decide (x=y)<;>rfl) (by simp only [Zal,Z76,Z16,Z9l,Option.map_some]),Ze8 l m h]
 ·simp [h,Zf8 h]
theorem s_r15Same (a b:Drinker) (hs:a.Diner.Sides.length≤1000000) (hn:a.Need.length≤1000000):Zel a b=some (decide (a=b)):=by
 obtain ⟨x,t,n⟩:=a
 obtain ⟨x',t',n'⟩:=b
 simp only at hs hn
 simp only [Zel,Zdl,Zh8 x x' hs,Zul n n' hn,Option.bind_some,Drinker.mk.injEq]
 by_cases h1:x=x'<;>by_cases h4:t=t'<;>by_cases h5:n=n'<;>simp [h1,h4,h5]
theorem s_r16Same (s t:Bar) (hD:fewL s.Drinkers) (hM:s.Mail.length≤900000):Zil s t=some (decide (s=t)):=by
 have h5:=hD.1
 simp only [Zil,Zg8]
 have es:decide (s=t)=(decide (s.Drinkers=t.Drinkers)&&decide (s.Mail=t.Mail)):=by
  obtain ⟨l,m⟩:=s
  obtain ⟨l',m'⟩:=t
  rw [Bool.eq_iff_iff];simp
 by_cases h:s.Drinkers.length=t.Drinkers.length
 ·simp only [h,decide_true,Bool.not_true,Z16]
  have h2:decide (s.Drinkers=t.Drinkers)=(s.Drinkers.zip t.Drinkers).all fun p=>decide (p.1=p.2):=(Ze8 _ _ h).symm
  have:=Zg6 (s.Drinkers.zip t.Drinkers) (Zhl s t) (fun p=>!decide (p.1=p.2)) false (decide (s.Mail=t.Mail)) (by simp;omega) (fun k x hx=>by
   obtain ⟨x,y⟩:=x
   rw [List.getElem?_zip_eq_some] at hx
   obtain ⟨hx,hy⟩:=hx
   have hxm:=hD.2 x (List.mem_iff_getElem?.2 ⟨_,hx⟩)
   dsimp only at hx hy ⊢
   dsimp only [Zhl]
   rw [Z66 hx,Z06,Z46 hx,Option.bind_some,Z46 hy,Option.bind_some,s_r15Same x y (by omega) (by omega),Option.bind_some,Z96 hx (by omega)]
   cases decide (x=y)<;>rfl) (by
   rw [show (s.Drinkers.zip t.Drinkers).length=s.Drinkers.length by simp [h]]
   dsimp only [Zhl]
   rw [Z76,Z16]
   dsimp only [Zgl]
   rw [Z7h s.Mail t.Mail (by omega),Option.bind_some];rfl)
  rw [this,es,h2]
  have e3:(s.Drinkers.zip t.Drinkers).any (fun p=>!decide (p.1=p.2))=!(s.Drinkers.zip t.Drinkers).all (fun p=>decide (p.1=p.2)):=Zm7 _ _ _ fun _=>rfl
  rw [e3]
  cases (s.Drinkers.zip t.Drinkers).all (fun p=>decide (p.1=p.2))<;>rfl
 ·rw [es,Zf8 h]
  simp [h]
def fewR (s:Bar):Bool:=decide (s.Drinkers.length≤24)&&(s.Drinkers.all (fun d=>decide (d.Need.length≤24))&&fewB (scB s))
theorem s_Few16 (s:Bar):Zsl s=some (fewR s):=by
 have j1:s.Drinkers.length≤24→Zpl s ()=some (fewB (scB s)):=fun h=>by
  have hsc:Zml s=some (scB s):=by
   unfold Zml
   refine Z68 s.Drinkers (Zll s) (fun pre=>((pre.length:Int),pre.map (·.Diner))) _ (fun pre x post h=>?_) ?_
   ·have hx:=Z78 h
    have hm:=Z88 h
    dsimp only [Zll]
    rw [Z66 hx,Z06,Z46 hx,Option.bind_some,Z56 _ _ (by omega) (by simp;omega),Option.bind_some,Z86 (by omega),Zc8]
    simp
   ·dsimp only [Zll]
    rw [Z76,Z16];rfl
  dsimp only [Zpl]
  rw [Zw4,decide_eq_true (by omega),Z06,hsc,Option.bind_some,s_Few,Option.bind_some];rfl
 have body:∀(k:Nat) d,s.Drinkers[k]?=some d→k<25→Zrl s k=if d.Need.length≤24 then some (.inl ((k+1:Nat):Int)) else some (.inr false):=fun k d hd hk=>by
  dsimp only [Zrl]
  rw [Z66 hd,Z06,decide_eq_true (by omega)]
  dsimp only [Zql]
  rw [Z06,Z46 hd,Option.bind_some,Zw4,Z86 (by omega)]
  by_cases h:d.Need.length≤24
  ·rw [decide_eq_false (by omega),if_pos h];rfl
  ·rw [decide_eq_true (by omega),if_neg h];rfl
 unfold fewR
 by_cases h:s.Drinkers.length≤24
 ·rw [decide_eq_true h,Bool.true_and]
  refine Z58 s.Drinkers (Zrl s) (fun pre=>(pre.length:Int)) (fun _ post=>some (post.all (fun d=>decide (d.Need.length≤24))&&fewB (scB s))) (fun pre x post hp=>?_) ?_
  ·have hx:=Z78 hp
   have hm:=Z88 hp
   rw [body _ x hx (by omega),List.all_cons,Zc8]
   by_cases hn:x.Need.length≤24
   ·left;rw [if_pos hn,decide_eq_true hn];exact ⟨rfl,rfl⟩
   ·right;rw [if_neg hn,decide_eq_false hn];exact ⟨false,rfl,rfl⟩
  ·dsimp only [Zrl]
   rw [Z76,Z16]
   dsimp only [Zql]
   rw [Z16,j1 h];rfl
 ·rw [decide_eq_false h,Bool.false_and]
  refine loop_natI 25 (Zrl s) (fun k=>(k:Int)) (fun _=>some false) (fun k hk=>?_) ?_
  ·have hd:s.Drinkers[k]?=some s.Drinkers[k]:=List.getElem?_eq_getElem (by omega)
   rw [body k _ hd hk]
   by_cases hn:s.Drinkers[k].Need.length≤24
   ·left;rw [if_pos hn];exact ⟨rfl,rfl⟩
   ·right;rw [if_neg hn];exact ⟨false,rfl,rfl⟩
  ·dsimp only [Zrl]
   rw [show decide (((25:Nat):Int)<25)=false from rfl]
   have e:Zql s ((25:Nat):Int) false=some (.inr false):=by
    dsimp only [Zql,Zpl]
    rw [Z16,Zw4,decide_eq_false (by omega),Z16];rfl
   rw [e]
   cases decide (((25:Nat):Int)<ln Drinker.row s.Drinkers)<;>rfl
theorem fewR_iff {s:Bar} (h:fewR s=true):s.Drinkers.length≤24∧s.Mail.length≤40∧∀d∈s.Drinkers,d.Diner.Sides.length≤24∧d.Need.length≤24:=by
 unfold fewR at h
 simp only [Bool.and_eq_true,decide_eq_true_eq,List.all_eq_true] at h
 obtain ⟨h1,h2,h3⟩:=h
 obtain ⟨_,k2,k3⟩:=fewB_iff h3
 exact ⟨h1,k2,fun d hd=>⟨k3 _ (List.mem_map_of_mem hd),h2 d hd⟩⟩
theorem Zvl {s:Bar} (h:fewR s=true):fewL s.Drinkers:=by
 obtain ⟨h1,_,h3⟩:=fewR_iff h
 exact ⟨by omega,fun d hd=>by have:=h3 d hd;omega⟩
theorem setL_pw {l:List Int} (h:l.Pairwise (· < ·)):setL l=l:=by
 unfold setL
 rw [List.mergeSort_of_pairwise (h.imp fun hxy=>decide_eq_true (by omega)),Zfd h]
def Zwl (d:Drinker) (need set:List Int):Drinker×Int:=if okDr d then (if d.Thirst=0 then (if need.any (Zsf d.Diner) then (Zqf,151) else (⟨d.Diner,1,set⟩,0)) else (Zqf,152)) else (Zqf,150)
theorem openDr_S {need:List Int} (h:need.Pairwise (· < ·)):(fun d=>Ztf d need)=fun d=>Zwl d need need:=by
 funext d
 unfold Ztf Zwl
 rw [setL_pw h]
def g16:Graph:=⟨2,[⟨0,1⟩]⟩
def v0:Bar:=barT g16
def v2:Bar×Int:=Zwk v0 0 fun d=>Zwl d [] []
def v3:Bar×Int:=Zwk v2.1 1 fun d=>Zwl d [] []
def v5:Bar×Int:=Zwk v0 0 fun d=>Zwl d [1] [1]
def v6:Bar×Int:=Zwk v3.1 0 Zuf
def v7:Bar×Int:=Z1l v0 0 1
theorem s_awake16:Z7l=some true:=by
 have f0:fewR v0=true:=by kernel_rfl
 have f2:fewR v2.1=true:=by kernel_rfl
 have f3:fewR v3.1=true:=by kernel_rfl
 have f5:fewR v5.1=true:=by kernel_rfl
 have f6:fewR v6.1=true:=by kernel_rfl
 have m:∀ {s:Bar},fewR s=true→s.Mail.length≤900000:=fun h=>by have:=(fewR_iff h).2.1;omega
 have hN:Z6k ⟨2,[⟨0,1⟩]⟩=some (v0,0):=by
  rw [s_bNew,show okG ⟨2,[⟨0,1⟩]⟩=true from by kernel_rfl];rfl
 simp only [Z7l,hN,Option.bind_some,decide_true,Bool.not_true,Z16]
 rw [s_bOpen v0 0 [] (Zvl f0) (m f0) (by simp),Option.bind_some,openDr_S (need:=[]) (by simp),show (Zwk v0 0 fun d=>Zwl d [] [])=v2 from rfl]
 rw [s_bOpen v2.1 1 [] (Zvl f2) (m f2) (by simp),Option.bind_some,openDr_S (need:=[]) (by simp),show (Zwk v2.1 1 fun d=>Zwl d [] [])=v3 from rfl]
 rw [show decide (v2.2=0)=true from by kernel_rfl,Bool.not_true,Z16,show decide (v3.2=0)=true from by kernel_rfl,Bool.not_true]
 dsimp only [Z6l]
 rw [Z16,s_bOpen v0 0 [1] (Zvl f0) (m f0) (by simp),Option.bind_some,openDr_S (need:=[1]) (by simp),show (Zwk v0 0 fun d=>Zwl d [1] [1])=v5 from rfl]
 rw [s_bClose v3.1 0 (Zvl f3) (m f3),Option.bind_some,show Zwk v3.1 0 Zuf=v6 from rfl,Z2l v0 0 1 (Zvl f0) (m f0),Option.bind_some,show Z1l v0 0 1=v7 from rfl]
 rw [s_Who v3.1 2 (Zvl f3),Option.bind_some,show decide (ln Zu4 (whoL v3.1.Drinkers 2)=2)=true from by rw [Zw4];kernel_rfl,Z06,show decide (v5.2=0)=true from by kernel_rfl,Z06]
 rw [s_Who v5.1 0 (Zvl f5),Option.bind_some,show decide (ln Zu4 (whoL v5.1.Drinkers 0)=1)=true from by rw [Zw4];kernel_rfl,Z06,show decide (v6.2=0)=true from by kernel_rfl,Z06]
 rw [s_Who v6.1 2 (Zvl f6),Option.bind_some,show decide (ln Zu4 (whoL v6.1.Drinkers 2)=1)=true from by rw [Zw4];kernel_rfl,Z06,show decide (v7.2=162)=true from by kernel_rfl,Z06]
 rw [Zmk v0 (Zvl f0) (by have:=m f0;omega),Option.bind_some,show Zlk v0=true from by kernel_rfl,show decide ((if true=true then (0:Int) else 160)=0)=true from rfl,Z06]
 rw [s_bCount v0 ⟨0,1⟩ 3 (Zvl f0) (m f0),Option.bind_some,show decide ((Z4l v0 ⟨0,1⟩ 3:Int)=1)=true from by kernel_rfl,Z06]
 rw [s_bSame v0 v0 (Zvl f0) (m f0),Option.bind_some,decide_eq_true rfl,Z06,s_bSame v0 v3.1 (Zvl f0) (m f0),Option.bind_some,show decide (v0=v3.1)=false from by kernel_rfl,Bool.not_false,Z06]
 rw [s_Scene v0 (Zvl f0) (by have:=m f0;omega),Option.bind_some,Zw4,show decide (((scB v0).Diners.length:Int)=2)=true from by kernel_rfl]
 rfl
def k12 (m:Mail):Bool:=decide (m.Msg.Kind≤2)
def sc12 (s:Bar):Scene:=⟨s.Drinkers.map (·.Diner),s.Mail.filter k12⟩
def hasT (d:Diner) (k b:Int):Nat:=match Zi8 d b with | some x=>bn (lies x k) | none=>0
structure LocT (d:Drinker):Prop where
 lo:0≤d.Thirst
 hi:d.Thirst≤2
 need:d.Need.Pairwise (· < ·)
 sub:∀p∈d.Need,p∈d.Diner.Sides.map (·.Peer)
 tr:d.Thirst=0→d.Need=[]
 dr:d.Thirst=2→∀x∈d.Diner.Sides,x.Peer∈d.Need→x.Bottle=true
def mailR (g:Graph) (m:Mail):Prop:=(1≤m.Msg.Kind∧m.Msg.Kind≤4)∧m.Msg.Epoch=1∧m.Msg.Num=0∧m.To∈Zdd g m.From
structure InvB (g:Graph) (s:Bar):Prop where
 tab:Inv g (sc12 s)
 mail:∀m∈s.Mail,mailR g m
 th:∀d∈s.Drinkers,LocT d
 two:∀(a b:Nat) da db,s.Drinkers[a]?=some da→s.Drinkers[b]?=some db→(b:Int)∈Zdd g a→∀k,(k=3∨k=4)→hasT da.Diner k b+hasT db.Diner k a+cnt s.Mail k a b+cnt s.Mail k b a=1
theorem map_get {s:Bar} {a:Nat} {d:Drinker} (h:s.Drinkers[a]?=some d):(sc12 s).Diners[a]?=some d.Diner:=by
 show (s.Drinkers.map (·.Diner))[a]?=_
 rw [List.getElem?_map,h];rfl
theorem InvB.upd {g:Graph} {s:Bar} (hg:okG g=true) (h:InvB g s) {a:Nat} {d d':Drinker} (hd:s.Drinkers[a]?=some d) {M:List Mail} (ht:Inv g ⟨(sc12 s).Diners.set a d'.Diner,M.filter k12⟩) (hm:∀m∈M,mailR g m) (hl:LocT d')
  (ho:∀k p q:Int,(k=3∨k=4)→p≠a→q≠a→cnt M k p q=cnt s.Mail k p q) (hc:∀b∈Zdd g a,∀k,(k=3∨k=4)→hasT d'.Diner k b+cnt M k a b+cnt M k b a=hasT d.Diner k b+cnt s.Mail k a b+cnt s.Mail k b a):InvB g ⟨s.Drinkers.set a d',M⟩:=by
 have hlt:=(List.getElem?_eq_some_iff.1 hd).1
 have get:∀(k:Nat) e,(s.Drinkers.set a d')[k]?=some e→(k=a∧e=d')∨(k≠a∧s.Drinkers[k]?=some e):=fun k e he=>by
  rw [List.getElem?_set] at he
  split at he
  ·rename_i hk
   simp at he
   exact .inl ⟨hk.symm,he.symm⟩
  ·rename_i hk
   exact .inr ⟨fun e=>hk e.symm,he⟩
 refine ⟨?_,hm,fun e he=>?_,fun x y dx dy hx hy hxy k hk=>?_⟩
 ·have e:sc12 ⟨s.Drinkers.set a d',M⟩=⟨(sc12 s).Diners.set a d'.Diner,M.filter k12⟩:=by
   unfold sc12
   simp only [List.map_set]
  rw [e];exact ht
 ·obtain ⟨k,hk⟩:=List.mem_iff_getElem?.1 he
  rcases get k e hk with ⟨_,rfl⟩ | ⟨_,he⟩
  ·exact hl
  ·exact h.th e (List.mem_iff_getElem?.2 ⟨_,he⟩)
 ·dsimp only at hx hy ⊢
  have hne:=(Zid hg hxy).2.2.1
  have hyx:=Zde hg hxy
  rcases get x dx hx with ⟨rfl,rfl⟩ | ⟨x1,hx'⟩<;>rcases get y dy hy with ⟨rfl,rfl⟩ | ⟨y1,hy'⟩
  ·exact absurd rfl hne
  ·have:=hc y hxy k hk
   have:=h.two x y d dy hd hy' hxy k hk
   omega
  ·have:=hc x hyx k hk
   have:=h.two x y dx d hx' hd hxy k hk
   omega
  ·rw [ho k x y hk (by omega) (by omega),ho k y x hk (by omega) (by omega)]
   exact h.two x y dx dy hx' hy' hxy k hk
theorem Zxl {id th:Int} {nd:Bool} {x:Side} {m:Mail} (h:m∈Zve id nd th x):m.From=id∧m.To=x.Peer∧(m.Msg.Kind=3∨m.Msg.Kind=4)∧m.Msg.Epoch=x.Epoch∧m.Msg.Num=0:=by
 unfold Zve at h
 rw [List.mem_append] at h
 rcases h with h | h
 ·split at h
  ·simp at h;subst h;exact ⟨rfl,rfl,.inl rfl,rfl,rfl⟩
  ·simp at h
 ·split at h
  ·simp at h;subst h;exact ⟨rfl,rfl,.inr rfl,rfl,rfl⟩
  ·simp at h
theorem bot_side (id th k:Int) (nd:Bool) (x:Side) (hk:k=3∨k=4) (he:x.Epoch=1):bn (lies (Zue nd th x) k)+(Zve id nd th x).count ⟨id,x.Peer,⟨k,1,0⟩⟩=bn (lies x k):=by
 obtain ⟨p,e,st,f,d,t,bo,ask⟩:=x
 dsimp only at he
 subst he
 unfold Zve Zue bot1 Zte lies bn
 generalize h1:decide (th=1)=q1
 generalize h2:decide (th=2)=q2
 rcases hk with rfl | rfl<;>cases bo<;>cases ask<;>cases nd<;>cases q1<;>cases q2<;>cases f<;>simp
theorem Zyl (id th k b:Int) (nd:Side→Bool):∀(l:List Side),l.Pairwise (fun x y=>x.Peer<y.Peer)→(l.flatMap fun x=>Zve id (nd x) th x).count ⟨id,b,⟨k,1,0⟩⟩=match l.find? (fun x=>decide (x.Peer=b)) with | some x=>(Zve id (nd x) th x).count ⟨id,x.Peer,⟨k,1,0⟩⟩ | none=>0
 | [],_=>rfl
 | x::l,h=>by
   rw [List.pairwise_cons] at h
   rw [List.flatMap_cons,List.count_append,Zyl id th k b nd l h.2,List.find?_cons]
   by_cases hx:x.Peer=b
   ·have:l.find? (fun x=>decide (x.Peer=b))=none:=by
     rw [List.find?_eq_none]
     intro y hy
     have:=h.1 y hy
     simp;omega
    rw [this,decide_eq_true hx,←hx];simp
   ·rw [decide_eq_false hx,Zje (fun hm=>hx (Zxl hm).2.1.symm)];simp
theorem Zzl (d:Diner) (x:Side) (k:Int):lies (Zme d x) k=lies x k:=by
 have h2:(Z3a d.Phase x).Bottle=x.Bottle∧(Z3a d.Phase x).Ask=x.Ask:=by
  unfold Z3a Z2a
  split<;>split<;>exact ⟨rfl,rfl⟩
 have h3:(Zme d x).Bottle=x.Bottle∧(Zme d x).Ask=x.Ask:=by
  unfold Zme
  split
  ·exact h2
  ·exact h2
 unfold lies
 rw [h3.1,h3.2]
theorem hasD_bot {d:Diner} {p:Int} {f:Side→Side} (hf:∀x,(f x).Peer=x.Peer∧(f x).Fork=x.Fork∧(f x).Token=x.Token) (k b:Int):hasD ⟨d.ID,p,d.Sides.map f⟩ k b=hasD d k b:=by
 unfold hasD
 rw [Zqe d f (fun x=>(hf x).1)]
 cases Zi8 d b with
 | none=>rfl
 | some x=>
   simp only [Option.map_some]
   unfold has
   rw [(hf x).2.1,(hf x).2.2]
theorem set_self {α:Type} {l:List α} {a:Nat} {x:α} (h:l[a]?=some x):l.set a x=l:=by
 refine List.ext_getElem? fun k=>?_
 rw [List.getElem?_set]
 split
 ·rename_i e;subst e
  have:=(List.getElem?_eq_some_iff.1 h).1
  rw [if_pos this,h]
 ·rfl
theorem Inv.map {g:Graph} {s:Scene} (hg:okG g=true) (h:Inv g s) {a:Nat} {d:Diner} (hd:s.Diners[a]?=some d) {f:Side→Side} (hf:∀x,(f x).Peer=x.Peer∧(f x).Epoch=x.Epoch∧(f x).State=x.State∧(f x).Fork=x.Fork∧(f x).Dirty=x.Dirty∧(f x).Token=x.Token):
  Inv g ⟨s.Diners.set a ⟨d.ID,d.Phase,d.Sides.map f⟩,s.Mail⟩:=by
 have hl:=h.loc d (List.mem_iff_getElem?.2 ⟨_,hd⟩)
 refine h.set (d':=⟨d.ID,d.Phase,d.Sides.map f⟩) hg hd rfl ?_ ⟨hl.lo,hl.hi,fun y hy=>?_,fun e y hy=>?_⟩ h.mail (fun _ _ _ _ _=>rfl) (fun b _ k _=>?_)
 ·rw [List.map_map]
  exact List.map_congr_left fun x _=>(hf x).1
 ·obtain ⟨x,hx,rfl⟩:=List.mem_map.1 hy
  obtain ⟨p1,p2,p3,p4,p5,p6⟩:=hf x
  rw [p2,p3,p4,p5]
  exact hl.side x hx
 ·obtain ⟨x,hx,rfl⟩:=List.mem_map.1 hy
  obtain ⟨p1,p2,p3,p4,p5,p6⟩:=hf x
  rw [p4,p5]
  exact hl.eat e x hx
 ·rw [hasD_bot fun x=>⟨(hf x).1,(hf x).2.2.2.1,(hf x).2.2.2.2.2⟩]
theorem phaseDr_or (d:Drinker):Zxe d=d.Diner.Phase∨Zxe d=0∨Zxe d=1:=by
 unfold Zxe
 split
 ·exact .inr (.inr rfl)
 ·split
  ·exact .inr (.inl rfl)
  ·exact .inl rfl
theorem onceM_k12 (d:Drinker) (M:List Mail):(M++Z2f d).filter k12=M.filter k12++Z7a (Zye d):=by
 unfold Z2f
 rw [List.filter_append,List.filter_append]
 have h1:(Z7a (Zye d)).filter k12=Z7a (Zye d):=by
  rw [List.filter_eq_self]
  intro m hm
  obtain ⟨x,_,hx⟩:=List.mem_flatMap.1 hm
  have:=(Zie hx).2.2.1
  unfold k12
  exact decide_eq_true (by omega)
 have h2:((Z6a (Zye d)).Sides.flatMap fun x=>Zve d.Diner.ID (Zse d x) d.Thirst x).filter k12=[]:=by
  rw [List.filter_eq_nil_iff]
  intro m hm
  obtain ⟨x,_,hx⟩:=List.mem_flatMap.1 hm
  have:=(Zxl hx).2.2.1
  unfold k12
  simp;omega
 rw [h1,h2,List.append_nil]
theorem InvB.once {g:Graph} {s:Bar} (hg:okG g=true) (h:InvB g s) {a:Nat} {d:Drinker} (hd:s.Drinkers[a]?=some d):InvB g ⟨s.Drinkers.set a (Z1f d),s.Mail++Z2f d⟩:=by
 have hdt:=map_get hd
 obtain ⟨hid,hsh⟩:=h.tab.shp a _ hdt
 have hdm:d∈s.Drinkers:=List.mem_iff_getElem?.2 ⟨_,hd⟩
 have hT:=h.th d hdm
 have hloc:=h.tab.loc _ (List.mem_iff_getElem?.2 ⟨_,hdt⟩)
 have h1:Inv g ⟨(sc12 s).Diners.set a (Zye d),(sc12 s).Mail⟩:=by
  rcases phaseDr_or d with e | e | e
  ·have:Zye d=d.Diner:=by unfold Zye;rw [e]
   rw [this,set_self hdt];exact h.tab
  ·exact h.tab.phase hg hdt (p:=Zxe d) (by omega) (by omega)
  ·exact h.tab.phase hg hdt (p:=Zxe d) (by omega) (by omega)
 have hd1:((sc12 s).Diners.set a (Zye d))[a]?=some (Zye d):=set_get hdt
 have hpw1:=h1.pw hg hd1
 have h2:=h1.fire hg hd1
 dsimp only at h2
 rw [List.set_set] at h2
 have hd2:((sc12 s).Diners.set a (Z6a (Zye d)))[a]?=some (Z6a (Zye d)):=set_get hdt
 have hpw2:=h2.pw hg hd2
 have h3:=h2.map hg hd2 (f:=fun x=>Zue (Zse d x) d.Thirst x) (fun x=>Zwe _ _ x)
 dsimp only at h3
 rw [List.set_set,Zoe] at h3
 have hsm:∀m∈Z2f d,m.From=a∧m.To∈Zdd g a∧(1≤m.Msg.Kind∧m.Msg.Kind≤4)∧m.Msg.Epoch=1∧m.Msg.Num=0:=fun m hm=>by
  unfold Z2f at hm
  rcases List.mem_append.1 hm with hm | hm
  ·obtain ⟨x,hx,hxm⟩:=List.mem_flatMap.1 hm
   obtain ⟨m1,m2,m3,m4,m5⟩:=Zie hxm
   refine ⟨m1.trans hid,?_,by omega,by rw [m4];exact (hloc.side x hx).1,m5⟩
   rw [m2,←hsh]
   exact List.mem_map_of_mem hx
  ·obtain ⟨x,hx,hxm⟩:=List.mem_flatMap.1 hm
   obtain ⟨m1,m2,m3,m4,m5⟩:=Zxl hxm
   rw [Zne] at hx
   obtain ⟨y,hy,rfl⟩:=List.mem_map.1 hx
   obtain ⟨p1,p2,_⟩:=Zpe (Zye d) y
   refine ⟨m1.trans hid,?_,by omega,by rw [m4,p2];exact (hloc.side y hy).1,m5⟩
   rw [m2,p1,←hsh]
   exact List.mem_map_of_mem hy
 have other:∀(k p q:Int),p≠a→(Z2f d).count ⟨p,q,⟨k,1,0⟩⟩=0:=fun k p q hp=>Zje fun hm=>hp (hsm _ hm).1
 refine h.upd (d':=Z1f d) hg hd ?_ (fun m hm=>?_) ?_ (fun k p q _ hp _=>?_) (fun b hb k hk=>?_)
 ·rw [onceM_k12]
  exact h3
 ·rcases List.mem_append.1 hm with hm | hm
  ·exact h.mail m hm
  ·obtain ⟨q1,q2,q3,q4,q5⟩:=hsm m hm
   exact ⟨q3,q4,q5,by rw [q1];exact q2⟩
 ·refine ⟨?_,?_,hT.need,?_,?_,?_⟩
  ·show 0≤Z0f d
   unfold Z0f;split
   ·omega
   ·exact hT.lo
  ·show Z0f d≤2
   unfold Z0f;split
   ·omega
   ·exact hT.hi
  ·intro p hp
   show p∈(Z1f d).Diner.Sides.map (·.Peer)
   rw [(Zrk d).2.2]
   exact hT.sub p hp
  ·intro e
   refine hT.tr ?_
   have e':Z0f d=0:=e
   unfold Z0f at e'
   split at e'
   ·omega
   ·exact e'
  ·intro e x hx hn
   have e':Z0f d=2:=e
   have hx':x∈Zze d:=hx
   unfold Z0f at e'
   split at e'
   ·rename_i hc
    rw [Bool.and_eq_true,List.all_eq_true] at hc
    have:=hc.2 x hx'
    unfold Zse at this
    rw [decide_eq_true (show x.Peer∈d.Need from hn)] at this
    simpa using this
   ·unfold Zze at hx'
    obtain ⟨y,hy,rfl⟩:=List.mem_map.1 hx'
    rw [Zne] at hy
    obtain ⟨z,hz,rfl⟩:=List.mem_map.1 hy
    have p1:=(Zpe (Zye d) z).1
    rw [(Zwe _ _ _).1,p1] at hn
    have hb:=hT.dr e' z hz hn
    have hl:=Zzl (Zye d) z 3
    unfold lies at hl
    simp at hl
    have hnd:Zse d (Zme (Zye d) z)=true:=by unfold Zse;rw [p1];exact decide_eq_true hn
    rw [hnd,e']
    unfold Zue bot1 Zte
    simp [hl,hb]
 ·unfold cnt
  rw [List.count_append,other k p q hp];rfl
 ·have hne:=(Zid hg hb).2.2.1
  unfold cnt
  rw [List.count_append,List.count_append,other k b a hne]
  have e:=Zyl d.Diner.ID d.Thirst k b (Zse d) (Z6a (Zye d)).Sides hpw2
  have e0:(Z7a (Zye d)).count ⟨(a:Int),b,⟨k,1,0⟩⟩=0:=Zje fun hm=>by
   obtain ⟨x,_,hx⟩:=List.mem_flatMap.1 hm
   have:=(Zie hx).2.2.1
   dsimp only at this
   omega
  rw [hid] at e
  unfold Z2f
  rw [List.count_append,e0,hid,e]
  unfold hasT
  have es:Zi8 (Z1f d).Diner b=(Zi8 (Z6a (Zye d)) b).map fun x=>Zue (Zse d x) d.Thirst x:=Zqe (Z6a (Zye d)) (fun x=>Zue (Zse d x) d.Thirst x) (fun x=>(Zwe _ _ x).1) _ _ b
  rw [es,Zre]
  have ef:(Z6a (Zye d)).Sides.find? (fun x=>decide (x.Peer=b))=(Zi8 (Zye d) b).map (Zme (Zye d)):=Zre (Zye d) b
  rw [ef]
  have ep:Zi8 (Zye d) b=Zi8 d.Diner b:=rfl
  rw [ep]
  cases hf:Zi8 d.Diner b with
  | none=>simp
  | some x=>
    have hx:=(sideO_some hf).1
    obtain ⟨p1,p2,_⟩:=Zpe (Zye d) x
    have hbs:=bot_side (a:Int) d.Thirst k (Zse d (Zme (Zye d) x)) (Zme (Zye d) x) hk (by rw [p2];exact (hloc.side x hx).1)
    rw [Zzl] at hbs
    simp only [Option.map_some]
    omega
theorem InvB.fireN {g:Graph} (hg:okG g=true) (L:List Drinker) (M:List Mail) {a:Nat} (ha:a<L.length):∀(n:Nat) (d:Drinker) (out:List Mail),InvB g ⟨L.set a d,M++out⟩→InvB g ⟨L.set a (NX.fireN n d out).1,M++(NX.fireN n d out).2⟩
 | 0,_,_,h=>h
 | n+1,d,out,h=>by
   unfold NX.fireN
   split
   ·exact h
   ·have hd:(L.set a d)[a]?=some d:=by rw [List.getElem?_set];simp [ha]
    have h1:=h.once hg hd
    dsimp only at h1
    rw [List.set_set,List.append_assoc] at h1
    exact InvB.fireN hg L M ha n _ _ h1
theorem InvB.fireDr {g:Graph} {s:Bar} (hg:okG g=true) (h:InvB g s) {a:Nat} {d:Drinker} (hd:s.Drinkers[a]?=some d):InvB g ⟨s.Drinkers.set a (NX.fireDr d).1,s.Mail++(NX.fireDr d).2⟩:=by
 refine InvB.fireN hg s.Drinkers s.Mail (List.getElem?_eq_some_iff.1 hd).1 300 d [] ?_
 rw [set_self hd,List.append_nil];exact h
theorem Z0m {zs:List Int} (h:zs.Pairwise (· ≤ ·)):(Lib.compact zs).Pairwise (· < ·)∧∀x,x∈Lib.compact zs↔x∈zs:=by
 have get:∀j,j<zs.length→∃hj:j<zs.length,zs.toArray[j]! = zs[j]:=fun j hj=>⟨hj,by rw [getElem!_pos _ _ (by simpa using hj)];simp⟩
 have mono:∀i j,i≤j→j<zs.length→zs.toArray[i]!≤zs.toArray[j]!:=fun i j hij hj=>by
  obtain ⟨_,e1⟩:=get i (by omega)
  obtain ⟨_,e2⟩:=get j hj
  rw [e1,e2]
  by_cases e:i=j
  ·subst e;exact Int.le_refl _
  ·rw [List.pairwise_iff_getElem] at h
   exact h i j (by omega) hj (by omega)
 have key:∀m,m≤zs.length→(Lib.compactUpTo zs.toArray m).Pairwise (· < ·)∧(∀x,x∈Lib.compactUpTo zs.toArray m↔∃j,j<m∧x=zs.toArray[j]!):=by
  intro m
  induction m with
  | zero=>intro _;exact ⟨by simp [Lib.compactUpTo],fun x=>by simp [Lib.compactUpTo]⟩
  | succ m ih=>
    intro hm
    obtain ⟨h1,h2⟩:=ih (by omega)
    rw [Lib.compactUpTo_succ]
    cases hk:Lib.keeps zs.toArray m with
    | true=>
      rw [if_pos rfl]
      refine ⟨?_,fun x=>?_⟩
      ·rw [List.pairwise_append]
       refine ⟨h1,by simp,fun x hx y hy=>?_⟩
       rw [List.mem_singleton] at hy
       subst hy
       obtain ⟨j,hj,rfl⟩:=(h2 x).1 hx
       unfold Lib.keeps at hk
       simp only [decide_eq_true_eq] at hk
       have a1:=mono j (m-1) (by omega) (by omega)
       have a2:=mono (m-1) m (by omega) (by omega)
       rcases hk with e | e
       ·omega
       ·have:zs.toArray[m]!≠zs.toArray[m-1]!:=e
        omega
      ·rw [List.mem_append,h2]
       constructor
       ·rintro (⟨j,hj,e⟩ | e)
        ·exact ⟨j,by omega,e⟩
        ·simp at e;exact ⟨m,by omega,by simpa using e⟩
       ·rintro ⟨j,hj,e⟩
        by_cases hjm:j=m
        ·subst hjm;right;simp [e]
        ·exact .inl ⟨j,by omega,e⟩
    | false=>
      rw [if_neg (by simp),List.append_nil]
      refine ⟨h1,fun x=>?_⟩
      rw [h2]
      constructor
      ·rintro ⟨j,hj,e⟩;exact ⟨j,by omega,e⟩
      ·rintro ⟨j,hj,e⟩
       by_cases hjm:j=m
       ·subst hjm
        unfold Lib.keeps at hk
        simp only [decide_eq_false_iff_not,not_or,Classical.not_not] at hk
        exact ⟨j-1,by omega,by rw [e,hk.2]⟩
       ·exact ⟨j,by omega,e⟩
 obtain ⟨k1,k2⟩:=key zs.length (Nat.le_refl _)
 refine ⟨k1,fun x=>?_⟩
 have:=k2 x
 unfold Lib.compact
 rw [this]
 constructor
 ·rintro ⟨j,hj,e⟩
  obtain ⟨_,e1⟩:=get j hj
  rw [e,e1];exact List.getElem_mem hj
 ·intro hx
  obtain ⟨j,hj,e⟩:=List.mem_iff_getElem.1 hx
  obtain ⟨_,e1⟩:=get j hj
  exact ⟨j,hj,by rw [e1,e]⟩
theorem setL_spec (l:List Int):(setL l).Pairwise (· < ·)∧∀x,x∈setL l↔x∈l:=by
 have hs:(l.mergeSort fun x y=>decide (x≤y)).Pairwise (· ≤ ·):=by
  have:=List.pairwise_mergeSort (le:=fun x y:Int=>decide (x≤y)) (by intro a b c;simp;omega) (by intro a b;simp;omega) l
  exact this.imp fun h=>by simpa using h
 obtain ⟨h1,h2⟩:=Z0m hs
 refine ⟨h1,fun x=>?_⟩
 unfold setL
 rw [h2]
 exact (List.mergeSort_perm l _).mem_iff
theorem okI_of:∀(l:List Int) (p:Option Int),l.Pairwise (· < ·)→(∀q,p=some q→∀x∈l,q<x)→okI p l=true
 | [],_,_,_=>rfl
 | x::l,p,h,hp=>by
   rw [List.pairwise_cons] at h
   have ih:=okI_of l (some x) h.2 fun q hq y hy=>by simp at hq;subst hq;exact h.1 y hy
   unfold okI
   rw [ih,Bool.and_true]
   cases p with
   | none=>rfl
   | some q=>exact decide_eq_true (hp q rfl x (by simp))
theorem InvB.few {g:Graph} {s:Bar} (hg:okG g=true) (h:InvB g s):s.Drinkers.length≤64∧∀d∈s.Drinkers,d.Diner.Sides.length≤64∧d.Need.length≤64:=by
 have hl:=h.tab.len
 have h2:=(Zl7 hg).2.1
 have e:(sc12 s).Diners.length=s.Drinkers.length:=by simp [sc12]
 refine ⟨by omega,fun d hd=>?_⟩
 obtain ⟨k,hk⟩:=List.mem_iff_getElem?.1 hd
 obtain ⟨_,hsh⟩:=h.tab.shp k _ (map_get hk)
 have hfew:=near_few hg (k:Int)
 have hT:=h.th d hd
 have hsl:d.Diner.Sides.length=(Zdd g k).length:=by rw [←hsh];simp
 refine ⟨by omega,?_⟩
 have hb:∀p∈d.Need,0≤p∧p<g.N:=fun p hp=>by
  have:=hT.sub p hp
  rw [hsh] at this
  have:=Zid hg this
  omega
 rcases pw_len d.Need 0 g.N hT.need hb with e | e
 ·rw [e];simp
 ·omega
theorem InvB.fewL {g:Graph} {s:Bar} (hg:okG g=true) (h:InvB g s):NX.fewL s.Drinkers:=by
 obtain ⟨h1,h2⟩:=h.few hg
 exact ⟨by omega,fun d hd=>by have:=h2 d hd;omega⟩
theorem InvB.okDr {g:Graph} {s:Bar} (hg:okG g=true) (hN:g.N≤60) (h:InvB g s) {d:Drinker} (hd:d∈s.Drinkers):NX.okDr d=true:=by
 obtain ⟨k,hk⟩:=List.mem_iff_getElem?.1 hd
 have hT:=h.th d hd
 have hD:=h.tab.okd hg hN (List.mem_iff_getElem?.2 ⟨_,map_get hk⟩)
 unfold NX.okDr
 rw [hD,decide_eq_true hT.lo,decide_eq_true hT.hi,okI_of d.Need none hT.need (fun q hq=>by simp at hq),Bool.true_and,Bool.true_and,Bool.true_and,Bool.true_and,Bool.and_eq_true,List.all_eq_true]
 refine ⟨?_,fun p hp=>?_⟩
 ·by_cases h0:d.Thirst=0
  ·rw [hT.tr h0];simp
  ·rw [decide_eq_false h0];rfl
 ·unfold Zpf
  rw [List.any_eq_true]
  obtain ⟨x,hx,e⟩:=List.mem_map.1 (hT.sub p hp)
  exact ⟨x,hx,decide_eq_true e⟩
theorem InvB.ok {g:Graph} {s:Bar} (hg:okG g=true) (hN:g.N≤60) (h:InvB g s):Zlk s=true:=by
 unfold Zlk okS
 have e1:Z09 (scB s).Diners=(g,true):=show Z09 (sc12 s).Diners=(g,true) from h.tab.graph hg
 have hl:((scB s).Diners.length:Int)=g.N:=show ((sc12 s).Diners.length:Int)=g.N from h.tab.len
 rw [e1,Bool.true_and,Bool.and_eq_true,Bool.and_eq_true,List.all_eq_true,List.all_eq_true,List.all_eq_true]
 refine ⟨⟨fun d hd=>h.tab.okd hg hN hd,fun m hm=>?_⟩,fun d hd=>h.okDr hg hN hd⟩
 obtain ⟨n1,n2,n3,n4,n5⟩:=Zid hg (h.mail m hm).2.2.2
 unfold Z5h
 rw [decide_eq_false (by omega),decide_eq_false (by omega),decide_eq_false (by omega)];rfl
theorem InvB.first {g:Graph} (hg:okG g=true):InvB g (barT g):=by
 have hr:=(Zeh hg).1
 have e0:sc12 (barT g)=Zfh g:=by
  unfold sc12 barT
  rw [List.map_map]
  have:((fun d:Drinker=>d.Diner)∘fun d:Diner=>(⟨d,0,[]⟩:Drinker))=id:=rfl
  rw [this,List.map_id]
  rfl
 refine ⟨by rw [e0];exact Inv.first hg,by intro m hm;exact absurd hm (by simp [barT]),fun d hd=>?_,fun a b da db ha hb hab k hk=>?_⟩
 ·obtain ⟨e,he,rfl⟩:=List.mem_map.1 hd
  exact ⟨Int.le_refl _,by show (0:Int)≤2;omega,by simp,by simp,fun _=>rfl,fun e=>absurd e (by show ¬(0:Int)=2;omega)⟩
 ·have get:∀(k:Nat) d,(barT g).Drinkers[k]?=some d→d=⟨Zjd g (Zdh g) k,0,[]⟩:=fun k d hd=>by
   have h1:=map_get hd
   rw [e0] at h1
   have hk:=(List.getElem?_eq_some_iff.1 h1).1
   have hl:=Zbe hg (Zdh g)
   have hk':k<(Zkd g (Zdh g)).length:=hk
   have e:=Zae (g:=g) (c:=Zdh g) (a:=(k:Int)) (by omega) (by omega)
   rw [Int.toNat_natCast] at e
   have hd2:(Zfh g).Diners[k]?=some (Zjd g (Zdh g) k):=e
   have h3:(barT g).Drinkers[k]?=((Zfh g).Diners.map fun d=>(⟨d,0,[]⟩:Drinker))[k]?:=rfl
   rw [h3,List.getElem?_map,hd2] at hd
   simpa using hd.symm
  have:=get a da ha
  subst this
  have:=get b db hb
  subst this
  have hne:=rightB_ne hg hr hab
  have hba:=Zde hg hab
  unfold hasT
  rw [Zce,if_pos hab,Zce,if_pos hba]
  have hlt:decide (cg (Zdh g) a<cg (Zdh g) b)=!decide (cg (Zdh g) b<cg (Zdh g) a):=by
   rw [←decide_not,decide_eq_decide];omega
  have e1:∀p q:Int,cnt (barT g).Mail k p q=0:=fun _ _=>rfl
  rw [e1,e1]
  simp only [sideT,lies,hlt,bn]
  by_cases hh:cg (Zdh g) b<cg (Zdh g) a<;>rcases hk with rfl | rfl<;>simp [hh]
set_option maxRecDepth 100000
set_option maxHeartbeats 4000000
set_option maxRecDepth 100000
set_option maxHeartbeats 4000000
theorem map_set_peer {l:List Side} {j:Nat} {x y:Side} (hx:l[j]?=some x) (hp:y.Peer=x.Peer):(l.set j y).map (·.Peer)=l.map (·.Peer):=by
 refine List.ext_getElem? fun n=>?_
 rw [List.getElem?_map,List.getElem?_map,List.getElem?_set]
 split
 ·rename_i hn;subst hn
  have:=(List.getElem?_eq_some_iff.1 hx).1
  rw [hx,if_pos this];simp [hp]
 ·rfl
theorem Z1m {s:Bar} {a:Int} {r:Drinker×Int} (h:(Zvk s a r).2=0):(Zvk s a r).1.Mail.length≤s.Mail.length+252:=by
 unfold Zvk at h ⊢
 split at h
 ·rename_i h1
  rw [if_pos h1]
  split at h
  ·rename_i h2
   rw [if_pos h2]
   have:=Zuk h2
   simp only [actBS,List.length_append];omega
  ·simp at h
 ·exact absurd h (by assumption)
theorem Z2m {s:Bar} {a:Int} {q:Drinker→Drinker×Int} (h:(Zwk s a q).2=0):(Zwk s a q).1.Mail.length≤s.Mail.length+252:=by
 unfold Zwk at h ⊢
 cases hk:Zlk s with
 | false=>rw [hk] at h;simp at h
 | true=>
   rw [hk] at h
   simp only [if_true] at h ⊢
   cases ht:Znk s a with
   | false=>rw [ht] at h;simp at h
   | true=>
     rw [ht] at h
     simp only [if_true] at h ⊢
     obtain ⟨d,hd,_⟩:=Zqk ht
     rw [hd] at h ⊢
     exact Z1m h
theorem delivR_mail {s:Bar} {a b:Int} (h:(Z1l s a b).2=0):(Z1l s a b).1.Mail.length≤s.Mail.length+252:=by
 unfold Z1l at h ⊢
 cases hk:Zlk s with
 | false=>rw [hk] at h;simp at h
 | true=>
   rw [hk] at h
   simp only [if_true] at h ⊢
   cases ht:(Znk s a&&Znk s b) with
   | false=>rw [ht] at h;simp at h
   | true=>
     rw [ht] at h
     simp only [if_true] at h ⊢
     cases hi:delivJ s a b with
     | none=>rw [hi] at h;simp at h
     | some i=>
       rw [hi] at h
       simp only at h ⊢
       rw [Bool.and_eq_true] at ht
       obtain ⟨d,hd,_⟩:=Zqk ht.2
       rw [hd] at h ⊢
       cases hm:s.Mail[i]? with
       | none=>rw [hm] at h;simp at h
       | some m=>
         rw [hm] at h
         have:=Z1m (s:=⟨s.Drinkers,s.Mail.take i++s.Mail.drop (i+1)⟩) h
         simp only [List.length_append,List.length_take,List.length_drop] at this
         refine Nat.le_trans this ?_
         omega
theorem actR_mail {s:Bar} {k a b:Int} {need:List Int} (h:(Z3l s k a b need).2=0):(Z3l s k a b need).1.Mail.length≤s.Mail.length+252:=by
 unfold Z3l at h ⊢
 split at h
 ·rename_i h1;rw [if_pos h1];exact Z2m h
 ·rename_i h1
  rw [if_neg h1]
  split at h
  ·rename_i h2;rw [if_pos h2];exact Z2m h
  ·rename_i h2;rw [if_neg h2];exact delivR_mail h
set_option maxRecDepth 100000
set_option maxHeartbeats 4000000
@[go_sem] def e111_L1:EC:=.seq (.seq (.reg [(Qm 28 7),(Qm 29 0),(Qm 30 5),(Qk 31 3 29 30),(Qf 32 2 31),(Ql 33 32),(Qa 34 (.len (.t 33))),(Qa 35 (.bin .lss (.t 28) (.t 34)))]) (.ite (.t 35) (.skip) (.exit 2))) (.seq (.blk 3 (.seq (.reg [(Qm 38 0),(Qm 39 5),(Qk 40 3 38 39),(Qf 41 2 40),(Ql 42 41),(Qm 43 7),(Qk 44 8 42 43),(Qf 45 0 44),(Ql 46 45),(Qm 8 46)]) (.seq (.seq (.reg [(Qm 47 8),(Qm 48 6),(Qa 49 (.bin .leq (.t 47) (.t 48))),(Qm 50 49),(Qg 51 50 false (.mv (.t 8))),(Qg 52 50 false (.mv (.t 0))),(Qg 53 50 false (.len (.t 52))),(Qg 54 50 false (.bin .geq (.t 51) (.t 53))),(Qq 55 50 54),(Qm 56 55),(Qg 57 56 false (.mv (.t 8))),(Qg 58 56 false (.mv (.t 5))),(Qg 59 56 false (.bin .eql (.t 57) (.t 58))),(Qq 60 56 59)]) (.ite (.t 60) (.seq (.reg [(Qa 61 (.build [.iv 0,.nl] [])),(Qs 2 2 61),(Qa 3 (.mv (.c .ff)))]) (.ret)) (.skip))) (.seq (.reg [(Qm 63 0),(Qm 64 8),(Qk 65 3 63 64),(Qe 66 3 65),(Qm 67 5),(Qa 68 (.call 32 [(.t 66),(.t 67)])),(Qm 62 68),(Qa 69 (.ext (.t 62) 0)),(Qa 70 (.ext (.t 62) 1)),(Qa 9 (.alloc 66 [.iv 0,.iv 0,.iv 0,.ff,.ff,.ff,.ff,.ff])),(Qs 8 9 69),(Qm 10 70)]) (.seq (.seq (.reg [(Qm 71 10),(Qa 72 (.not (.t 71)))]) (.ite (.t 72) (.seq (.reg [(Qa 73 (.build [.iv 0,.nl] [])),(Qs 2 2 73),(Qa 3 (.mv (.c .ff)))]) (.ret)) (.skip))) (.seq (.reg [(Qm 74 8),(Qm 6 74)]) (.seq (.reg [(Qm 75 8),(Qm 76 5),(Qa 77 (.bin .gtr (.t 75) (.t 76)))]) (.ite (.t 77) (.reg [(Qf 78 1 4),(Ql 79 78),(Qm 80 5),(Qm 81 8),(Qa 82 (.build [.iv 0,.iv 0] [(0,1,(.t 80)),(1,1,(.t 81))])),(Qa 83 (.bsl 30 2 1 [.iv 0,.iv 0] [(0,(.t 82))])),(Qa 84 (.app 30 2 16 (.t 79) (.t 83))),(Qf 85 1 4),(Qs 1 85 84)]) (.skip))))))))) (.reg [(Qm 36 7),(Qv 37 36 1),(Qm 7 37)]))
@[go_sem] def e111_L0:EC:=.seq (.seq (.reg [(Qm 14 5),(Qm 15 0),(Qa 16 (.len (.t 15))),(Qa 17 (.bin .lss (.t 14) (.t 16)))]) (.ite (.t 17) (.skip) (.exit 0))) (.seq (.blk 1 (.seq (.seq (.reg [(Qm 20 0),(Qm 21 5),(Qk 22 3 20 21),(Qf 23 0 22),(Ql 24 23),(Qm 25 5),(Qa 26 (.bin .neq (.t 24) (.t 25)))]) (.ite (.t 26) (.seq (.reg [(Qa 27 (.build [.iv 0,.nl] [])),(Qs 2 2 27),(Qa 3 (.mv (.c .ff)))]) (.ret)) (.skip))) (.seq (.reg [(Qa 6 (.mv (.c (.iv (-1)))))]) (.seq (.reg [(Qi 7 0)]) (.blk 2 (.loop e111_L1)))))) (.reg [(Qm 18 5),(Qv 19 18 1),(Qm 5 19)]))
@[go_sem] def e111:EC:=.seq (.reg [(Qa 2 (.alloc 53 [.iv 0,.nl])),(Qa 3 (.mv (.c .ff)))]) (.seq (.reg [(Qm 11 0),(Qa 12 (.len (.t 11))),(Qa 13 (.build [.iv 0,.nl] [(0,1,(.t 12))])),(Qa 4 (.alloc 53 [.iv 0,.nl])),(Qs 2 4 13)]) (.seq (.seq (.reg [(Qi 5 0)]) (.blk 0 (.loop e111_L0))) (.seq (.seq (.reg [(Qe 86 2 4),(Qa 87 (.call 42 [(.t 86)])),(Qa 88 (.not (.t 87)))]) (.ite (.t 88) (.seq (.reg [(Qa 89 (.build [.iv 0,.nl] [])),(Qs 2 2 89),(Qa 3 (.mv (.c .ff)))]) (.ret)) (.skip))) (.seq (.reg [(Qe 90 2 4),(Qs 2 2 90),(Qa 3 (.mv (.c .tt)))]) (.ret)))))
theorem ok111:FnOK Tryz.prog 111 Tryz.f111 e111 [.c 2 (some 2),.t 3] 1 90:=⟨by kernel_rfl,⟨_,rfl,by kernel_rfl⟩,by kernel_rfl,by kernel_rfl⟩
noncomputable def Z3m (x1:(List Diner)):(List Edge)→Option (Graph×Bool)
| x77=>
 (Zqc ((Graph.mk (ln Diner.row x1) x77))).bind fun x78=>
 ifb (!x78) (
 some ((Graph.mk 0 (([]:(List Edge)))),false)) (
 some ((Graph.mk (ln Diner.row x1) x77),true))
noncomputable def Z4m (x36:Int):(List Edge)→Option ((Int×(List Edge)) ⊕ (Graph×Bool))
| x70=>
 some (.inl (wr (x36+1),x70))
noncomputable def Z5m (x51:Int) (x55:Side):(List Edge)→Option ((Int×Int×(List Edge)) ⊕ ((Int×(List Edge)) ⊕ (Graph×Bool)))
| x60=>
 some (.inl (x55.Peer,wr (x51+1),x60))
noncomputable def Z6m (x1:(List Diner)) (x36:Int) (x51:Int) (x52:(List Edge)) (x55:Side):Bool→Option ((Int×Int×(List Edge)) ⊕ ((Int×(List Edge)) ⊕ (Graph×Bool)))
| x56=>
 ifb x56 (
 Option.map Sum.inr (Option.map Sum.inr (some ((Graph.mk 0 (([]:(List Edge)))),false)))) (
 (at_ x1 x55.Peer).bind fun x57=>
 (Zx7 x57 x36).bind fun x58=>
 ifb (!x58.2) (
 Option.map Sum.inr (Option.map Sum.inr (some ((Graph.mk 0 (([]:(List Edge)))),false)))) (
 ifb (decide (x36<x55.Peer)) (
 (Z84 16 x52 ([(Edge.mk x36 x55.Peer)])).bind fun x59=>
 (Z5m x51 x55) x59) (
 (Z5m x51 x55) x52)))
noncomputable def Z7m (x1:(List Diner)) (x36:Int):(Int×Int×(List Edge))→Option ((Int×Int×(List Edge)) ⊕ ((Int×(List Edge)) ⊕ (Graph×Bool)))
| (x50,x51,x52)=>
 (at_ x1 x36).bind fun x53=>
 ifb (decide (x51<(ln Side.row x53.Sides))) (
 (at_ x1 x36).bind fun x54=>
 (at_ x54.Sides x51).bind fun x55=>
 ifb (decide (x55.Peer≤x50)) (
 (Z6m x1 x36 x51 x52 x55) true) (
 ifb (decide ((ln Diner.row x1)≤x55.Peer)) (
 (Z6m x1 x36 x51 x52 x55) true) (
 (Z6m x1 x36 x51 x52 x55) (decide (x55.Peer=x36))))) (
 Option.map Sum.inr ((Z4m x36) x52))
noncomputable def Z8m (x1:(List Diner)):(Int×(List Edge))→Option ((Int×(List Edge)) ⊕ (Graph×Bool))
| (x36,x37)=>
 ifb (decide (x36<(ln Diner.row x1))) (
 (at_ x1 x36).bind fun x38=>
 ifb (!decide (x38.ID=x36)) (
 Option.map Sum.inr (some ((Graph.mk 0 (([]:(List Edge)))),false))) (
 loop (Z7m x1 x36) ((-1),0,x37))) (
 Option.map Sum.inr ((Z3m x1) x37))
noncomputable def Z9m (x1:(List Diner)):Option (Graph×Bool):=
 loop (Z8m x1) (0,([]:List Edge))
theorem Zam (x1:(List Diner)) (r:(Graph×Bool)) (h:Z9m x1=some r):Zp2 Tryz.prog 111 [.sl 3 (List.map Diner.row x1)] (.tup [.agg (Graph.row r.1),.bv r.2]):=by
 refine Zt2 ok111 rfl rfl fun w0 H0=>?_
 rw [Z9m] at h
 refine Zk2 18 ?_;dsimp only [go_sem];refine An ?_;refine Ze4 (fun (x77:(List Edge))=>(⟨(.any :: .any :: .ptr 0 0 :: .any :: .ptr 1 0::an 86 []),[some ⟨53,[.iv 0,.nl]⟩,some ⟨53,[.iv (ln Diner.row x1),.osl 0]⟩],[some ⟨30,2,List.map Edge.row x77⟩]⟩:St)) (Z3m x1) r ?_ fun J1=>?_
 ·intro x77 h;rw [Z3m] at h;(try dsimp only);refine Zk2 4 ?_;dsimp only [go_sem];refine An ?_;obtain ⟨x78,ex78,h⟩:=Bs h;refine Zs4 trivial ((Zr4.refl _).slice 0 rfl) (Zrc ((Graph.mk (ln Diner.row x1) x77)) _ ex78) (h:=?_);refine Zk2 2 ?_;dsimp only [go_sem];refine An ?_;refine Zg4 h rfl (fun _ h=>?_) fun _ h=>?_
  ·refine Zk2 6 ?_;dsimp only [go_sem];refine An ?_;exact Zo4 (res:=fun (r:(Graph×Bool))=>.tup [.agg (Graph.row r.1),.bv r.2]) ok111 h
  ·refine Zk2 7 ?_;dsimp only [go_sem];refine An ?_;refine Z73 0 rfl ?_;dsimp only [go_sem];exact Zo4 (res:=fun (r:(Graph×Bool))=>.tup [.agg (Graph.row r.1),.bv r.2]) ok111 h
 ·refine Zk2 1 ?_;dsimp only [go_sem];refine An ?_;refine Z24 1 1 30 2 rfl rfl rfl ?_;dsimp only [go_sem];refine Zf4 h (fun ((x36,x37):(Int×(List Edge)))=>(⟨(.sl 3 (List.map Diner.row x1) :: .any :: .ptr 0 0 :: .any :: .ptr 1 0 :: .iv x36::an 85 []),[some ⟨53,[.iv 0,.nl]⟩,some ⟨53,[.iv (ln Diner.row x1),.osl 0]⟩],[some ⟨30,2,List.map Edge.row x37⟩]⟩:St)) (by simp [go_sem]) (by rintro ⟨x36,x37⟩;first | rfl | simp [go_sem]) ?_;rintro n1 ⟨x36,x37⟩ y1 h hin1 hout1;rw [Z8m] at h;(try dsimp only);refine Zk2 8 ?_;dsimp only [go_sem]
  refine An ?_;refine Zg4 h rfl (fun _ h=>?_) fun _ h=>?_
  ·refine Zk2 8 ?_;dsimp only [go_sem];refine An ?_;obtain ⟨x38,ex38,h⟩:=Bs h;refine Zj4 Diner.row ex38 trivial rfl rfl rfl ?_;refine Zk2 5 ?_;dsimp only [go_sem];refine An ?_;refine Zg4 h rfl (fun _ h=>?_) fun _ h=>?_
   ·refine Zk2 6 ?_;dsimp only [go_sem];refine An ?_;exact Zo4 (res:=fun (r:(Graph×Bool))=>.tup [.agg (Graph.row r.1),.bv r.2]) ok111 (Zd4 h hout1)
   ·refine Zk2 9 ?_;dsimp only [go_sem];refine An ?_;refine Ze4 (fun (x70:(List Edge))=>(⟨(.sl 3 (List.map Diner.row x1) :: .any :: .ptr 0 0 :: .any :: .ptr 1 0 :: .iv x36::an 85 []),[some ⟨53,[.iv 0,.nl]⟩,some ⟨53,[.iv (ln Diner.row x1),.osl 0]⟩],[some ⟨30,2,List.map Edge.row x70⟩]⟩:St)) (Z4m x36) y1 ?_ fun J2=>?_
    ·intro x70 h;rw [Z4m] at h;(try dsimp only);refine Zk2 6 ?_;dsimp only [go_sem];refine An ?_;exact Zp4 h hin1
    ·refine Zk2 1 ?_;dsimp only [go_sem];refine An ?_;refine Zf4 h (fun ((x50,x51,x52):(Int×Int×(List Edge)))=>(⟨(.sl 3 (List.map Diner.row x1) :: .any :: .ptr 0 0 :: .any :: .ptr 1 0 :: .iv x36 :: .iv x50 :: .iv x51::an 83 []),[some ⟨53,[.iv 0,.nl]⟩,some ⟨53,[.iv (ln Diner.row x1),.osl 0]⟩],[some ⟨30,2,List.map Edge.row x52⟩]⟩:St)) (by simp [go_sem]) (by rintro ⟨x50,x51,x52⟩;first | rfl | simp [go_sem]) ?_;rintro n2 ⟨x50,x51,x52⟩ y2 h hin2 hout2;rw [Z7m] at h;(try dsimp only);refine Zk2 6 ?_;dsimp only [go_sem];refine An ?_
     obtain ⟨x53,ex53,h⟩:=Bs h;refine Zj4 Diner.row ex53 trivial rfl rfl rfl ?_;refine Zk2 5 ?_;dsimp only [go_sem];refine An ?_;refine Zg4 h rfl (fun _ h=>?_) fun _ h=>?_
     ·refine Zk2 7 ?_;dsimp only [go_sem];refine An ?_;obtain ⟨x54,ex54,h⟩:=Bs h;refine Zj4 Diner.row ex54 trivial rfl rfl rfl ?_;refine Zk2 3 ?_;dsimp only [go_sem];refine An ?_;obtain ⟨x55,ex55,h⟩:=Bs h;refine Zj4 Side.row ex55 trivial rfl rfl rfl ?_;refine Zk2 11 ?_;dsimp only [go_sem];refine An ?_
      refine Ze4 (fun (x56:Bool)=>(⟨(.sl 3 (List.map Diner.row x1) :: .any :: .ptr 0 0 :: .any :: .ptr 1 0 :: .iv x36 :: .any :: .iv x51 :: .iv x55.Peer::an 51 (.bv x56::an 30 [])),[some ⟨53,[.iv 0,.nl]⟩,some ⟨53,[.iv (ln Diner.row x1),.osl 0]⟩],[some ⟨30,2,List.map Edge.row x52⟩]⟩:St)) (Z6m x1 x36 x51 x52 x55) y2 ?_ fun J3=>?_
      ·intro x56 h;rw [Z6m] at h;(try dsimp only);refine Zg4 h rfl (fun _ h=>?_) fun _ h=>?_
       ·refine Zk2 6 ?_;dsimp only [go_sem];refine An ?_;exact Zo4 (res:=fun (r:(Graph×Bool))=>.tup [.agg (Graph.row r.1),.bv r.2]) ok111 (Zd4 (Zd4 h hout2) hout1)
       ·refine Zk2 5 ?_;dsimp only [go_sem];refine An ?_;obtain ⟨x57,ex57,h⟩:=Bs h;refine Zj4 Diner.row ex57 trivial rfl rfl rfl ?_;refine Zk2 2 ?_;dsimp only [go_sem];refine An ?_;obtain ⟨x58,ex58,h⟩:=Bs h;refine Zy2 trivial (Zy7 x57 x36 _ ex58) (h:=?_);refine Zk2 13 ?_;dsimp only [go_sem];refine An ?_;refine Zg4 h rfl (fun _ h=>?_) fun _ h=>?_
        ·refine Zk2 6 ?_;dsimp only [go_sem];refine An ?_;exact Zo4 (res:=fun (r:(Graph×Bool))=>.tup [.agg (Graph.row r.1),.bv r.2]) ok111 (Zd4 (Zd4 h hout2) hout1)
        ·refine Zk2 12 ?_;dsimp only [go_sem];refine An ?_;refine Ze4 (fun (x60:(List Edge))=>(⟨(.sl 3 (List.map Diner.row x1) :: .any :: .ptr 0 0 :: .any :: .ptr 1 0 :: .iv x36 :: .iv x55.Peer :: .iv x51::an 83 []),[some ⟨53,[.iv 0,.nl]⟩,some ⟨53,[.iv (ln Diner.row x1),.osl 0]⟩],[some ⟨30,2,List.map Edge.row x60⟩]⟩:St)) (Z5m x51 x55) y2 ?_ fun J4=>?_
         ·intro x60 h;rw [Z5m] at h;(try dsimp only);refine Zk2 6 ?_;dsimp only [go_sem];refine An ?_;exact Zp4 h hin2
         ·refine Zg4 h rfl (fun _ h=>?_) fun _ h=>?_
          ·refine Zk2 7 ?_;dsimp only [go_sem];refine An ?_;obtain ⟨x59,ex59,h⟩:=Bs h;refine Zl4 Edge.row ex59 trivial rfl rfl rfl ?_;refine Zk2 3 ?_;dsimp only [go_sem];refine An ?_;refine Z14 2 0 rfl rfl rfl ?_;dsimp only [go_sem];exact Zq4 J4 (s:=x59) h
          ·refine Zk2 1 ?_;dsimp only [go_sem];refine An ?_;exact Zq4 J4 (s:=x52) h
      ·refine Zn4 50 h rfl (fun _ h=>?_) fun _ h=>?_
       ·dsimp only [go_sem];refine Zk2 11 ?_;dsimp only [go_sem];refine An ?_;exact Zq4 J3 (s:=true) h
       ·dsimp only [go_sem];refine Zk2 6 ?_;dsimp only [go_sem];refine An ?_;refine Zn4 56 h rfl (fun _ h=>?_) fun _ h=>?_
        ·dsimp only [go_sem];refine Zk2 5 ?_;dsimp only [go_sem];refine An ?_;exact Zq4 J3 (s:=true) h
        ·dsimp only [go_sem];refine Zk2 5 ?_;dsimp only [go_sem];refine An ?_;exact Zq4 J3 (s:=decide (x55.Peer=x36)) h
     ·refine Zk2 1 ?_;dsimp only [go_sem];refine An ?_;exact Zq4 J2 (s:=x52) (Zd4 h hout2)
  ·refine Zk2 1 ?_;dsimp only [go_sem];refine An ?_;exact Zq4 J1 (s:=x37) (Zd4 h hout1)
theorem s_r12Graph2 (l:List Diner) (hl:fewD l) (i:Nat) (d:Diner) (hd:l[i]?=some d) (hi:i≤5000) (E:List Edge) (hE:E.length≤25000000):
  loop (Z7m l i) (-1,0,E)=some (if Zv8 l i none d.Sides then .inl (((i+1:Nat):Int),E++Zw8 i d.Sides) else .inr (Zz8,false)):=by
 have hdm:=List.mem_iff_getElem?.2 ⟨_,hd⟩
 have hdl:=hl.2 d hdm
 have key:=(loop_ppI d.Sides (Z7m l i) (fun pre=>((Zt8 pre).getD (-1),(pre.length:Int),E++Zw8 i pre)) (fun pre post=>some (if Zv8 l i (Zt8 pre) post then .inl (((i+1:Nat):Int),E++Zw8 i (pre++post)) else .inr (Zz8,false))) (fun pre=>∀q,Zt8 pre=some q→0≤q) ?_ ?_ d.Sides [] rfl (by simp [Zt8]))
 ·rw [show Zw8 i []=[] from rfl,List.append_nil] at key;exact key
 ·intro pre x post h hI
  have hx:=Z78 h
  have hm:=Z88 h
  dsimp only [Z7m]
  rw [Z46 hd,Option.bind_some,Z66 hx,Z06,Option.bind_some,Z46 hx,Option.bind_some]
  have bad:Z6m l (i:Int) pre.length (E++Zw8 i pre) x true=some (.inr (.inr (Zz8,false))):=rfl
  by_cases h1:x.Peer≤(Zt8 pre).getD (-1)
  ·right
   refine ⟨_,by rw [decide_eq_true h1,Z06,bad],?_⟩
   cases hp:Zt8 pre with
   | none=>
     rw [hp] at h1
     have:Zs8 l i x=false:=by simp [Zs8];simp at h1;omega
     simp [Zv8,this]
   | some q=>
     rw [hp] at h1
     have:Zu8 (some q) x=false:=by simp [Zu8];simpa using h1
     simp [Zv8,this]
  have hr:Zu8 (Zt8 pre) x=true:=by
   cases hp:Zt8 pre with
   | none=>rfl
   | some q=>rw [hp] at h1;simp [Zu8];simpa using h1
  have h0:0≤x.Peer:=by
   cases hp:Zt8 pre with
   | none=>rw [hp] at h1;simp at h1;omega
   | some q=>have:=hI q hp;rw [hp] at h1;simp at h1;omega
  by_cases h2:(l.length:Int)≤x.Peer
  ·right
   refine ⟨_,by rw [decide_eq_false h1,Z16,Zw4,decide_eq_true h2,Z06,bad],?_⟩
   have:Zs8 l i x=false:=by simp [Zs8];omega
   simp [Zv8,this]
  rw [decide_eq_false h1,Z16,Zw4,decide_eq_false h2,Z16]
  by_cases h3:x.Peer=i
  ·right
   refine ⟨_,by rw [decide_eq_true h3,bad],?_⟩
   have:Zs8 l i x=false:=by simp [Zs8,h3]
   simp [Zv8,this]
  rw [decide_eq_false h3]
  obtain ⟨e,he1,he2⟩:=at_lt (l:=l) (i:=x.Peer) (by omega) (by omega)
  have hes:=hl.2 e (List.mem_iff_getElem?.2 ⟨_,he2⟩)
  have hsb:Zs8 l i x=(Zi8 e i).isSome:=by
   rw [Zs8,decide_eq_true (show 0≤x.Peer by omega),decide_eq_true (show x.Peer<l.length by omega),decide_eq_false h3,he2];simp
  dsimp only [Z6m]
  rw [Z16,he1,Option.bind_some,Zk8 e i (by omega),Option.bind_some]
  cases ho:Zi8 e i with
  | none=>
    right
    exact ⟨(.inr (Zz8,false)),rfl,by rw [ho] at hsb;simp [Zv8,hsb]⟩
  | some y=>
    left
    rw [ho] at hsb
    refine ⟨?_,fun q hq=>by rw [Z19] at hq;simp at hq;omega,by simp [Zv8,hsb,hr,Z19]⟩
    simp only [sideP,Bool.not_true,Z16,Z5m]
    rw [Z29,Zc8,Z86 (by omega),Z19]
    have:=Z39 i pre
    by_cases h5:(i:Int)<x.Peer
    ·rw [decide_eq_true h5,Z06,Z56 _ _ (by omega) (by simp;omega),Option.bind_some]
     simp
    ·rw [decide_eq_false h5,Z16];simp
 ·intro _
  dsimp only [Z7m]
  rw [Z46 hd,Option.bind_some,Z76,Z16,Z4m,Z86 (by omega)]
  simp [Zv8]
theorem s_r12Graph (l:List Diner) (hl:fewD l):Z9m l=some (Z09 l):=by
 unfold Z9m
 have hll:=hl.1
 refine (Z58 l (Z8m l) (fun pre=>((pre.length:Int),Zy8 0 pre)) (fun pre post=>some (if Zx8 l pre.length post&&okG ⟨l.length,Zy8 0 (pre++post)⟩ then (⟨l.length,Zy8 0 (pre++post)⟩,true) else (Zz8,false))) ?_ ?_).trans rfl
 ·intro pre d post h
  have hx:=Z78 h
  have hm:=Z88 h
  have hd:=Z98 h
  dsimp only [Z8m]
  rw [Z66 hx,Z06,Z46 hx,Option.bind_some,Z26]
  by_cases h1:d.ID=pre.length
  ·rw [decide_eq_true h1,Z06,s_r12Graph2 l hl pre.length d hx (by omega) _ (inner_len hl h)]
   cases h2:Zv8 l pre.length none d.Sides with
   | true=>left;exact ⟨by rw [if_pos rfl,Zc8,Z49];simp [Zy8],by simp [Zx8,h1,h2]⟩
   | false=>right;exact ⟨_,rfl,by simp [Zx8,h2]⟩
  ·right
   exact ⟨_,by rw [decide_eq_false h1,Z16];rfl,by simp [Zx8,h1,Zz8]⟩
 ·dsimp only [Z8m]
  rw [Z76,Z16,Z3m,Zw4,s_r03Check,Option.bind_some]
  simp only [Zx8,List.append_nil,Bool.true_and]
  cases okG ⟨l.length,Zy8 0 l⟩<;>rfl
set_option maxRecDepth 100000
set_option maxHeartbeats 4000000
@[go_sem] def e95:EC:=.seq (.reg [(Qx 3 61 3 0),(Qx 5 66 8 2),(Qa 6 (.alloc 61 [.iv 0,.iv 0,.nl]))]) (.seq (.reg [(Qa 7 (.bsl 66 8 0 [.iv 0,.iv 0,.iv 0,.ff,.ff,.ff,.ff,.ff] [])),(Qf 8 2 3),(Ql 9 8),(Qa 10 (.app 66 8 32 (.t 7) (.t 9))),(Qf 11 2 3),(Qs 1 11 10)]) (.seq (.reg [(Qf 12 2 3),(Ql 13 12),(Qm 14 1),(Qe 15 8 5),(Qk 16 8 13 14),(Qs 8 16 15)]) (.seq (.reg [(Qe 17 3 3),(Qs 3 6 17)]) (.ret))))
theorem ok95:FnOK Tryz.prog 95 Tryz.f95 e95 [.c 6 (some 3)] 3 15:=⟨by kernel_rfl,⟨_,rfl,by kernel_rfl⟩,by kernel_rfl,by kernel_rfl⟩
noncomputable def Zbm (x1:Diner) (x2:Int) (x3:Side):Option Diner:=
 (Z84 32 (([]:List Side)) x1.Sides).bind fun x4=>
 (at_ x4 x2).bind fun _=>
 some (Diner.mk x1.ID x1.Phase (x4.set (x2).toNat x3))
theorem Zcm (x1:Diner) (x2:Int) (x3:Side) (r:Diner) (h:Zbm x1 x2 x3=some r):Zp2 Tryz.prog 95 [.agg (Diner.row x1),.iv x2,.agg (Side.row x3)] (.agg (Diner.row r)):=by
 refine Zt2 ok95 rfl rfl fun w0 H0=>?_
 rw [Zbm] at h
 refine Zk2 11 ?_;dsimp only [go_sem];refine An ?_;obtain ⟨x4,ex4,h⟩:=Bs h;refine Zl4 Side.row ex4 trivial rfl rfl rfl ?_;refine Zk2 9 ?_;dsimp only [go_sem];refine An ?_;obtain ⟨x5,ex5,h⟩:=Bs h;refine Z85 Side.row ex5 trivial rfl rfl rfl ?_;refine Ze5 [.iv x3.Peer,.iv x3.Epoch,.iv x3.State,.bv x3.Fork,.bv x3.Dirty,.bv x3.Token,.bv x3.Bottle,.bv x3.Ask] Side.row (y':=x3) ex5 trivial rfl rfl rfl (by first | exact Z74 _ | simp [go_sem]) rfl rfl rfl rfl ?_;refine Zk2 6 ?_;dsimp only [go_sem];refine An ?_;refine Z73 1 rfl ?_;dsimp only [go_sem]
 exact Zo4 (res:=fun (r:Diner)=>.agg (Diner.row r)) ok95 h
set_option maxRecDepth 100000
set_option maxHeartbeats 4000000
@[go_sem] def e179:EC:=.seq (.reg [(Qx 3 61 3 0),(Qx 4 66 8 1),(Qa 6 (.alloc 95 [.iv 0,.iv 0,.iv 0,.iv 0,.iv 0]))]) (.seq (.reg [(Qf 7 0 3),(Ql 8 7),(Qf 9 0 4),(Ql 10 9),(Qm 11 2),(Qf 12 1 4),(Ql 13 12),(Qa 14 (.build [.iv 0,.iv 0,.iv 0] [(0,1,(.t 11)),(1,1,(.t 13))])),(Qa 15 (.build [.iv 0,.iv 0,.iv 0,.iv 0,.iv 0] [(0,1,(.t 8)),(1,1,(.t 10)),(2,3,(.t 14))])),(Qs 5 6 15)]) (.ret))
theorem ok179:FnOK Tryz.prog 179 Tryz.f179 e179 [.c 6 (some 5)] 3 13:=⟨by kernel_rfl,⟨_,rfl,by kernel_rfl⟩,by kernel_rfl,by kernel_rfl⟩
noncomputable def Zdm (x1:Diner) (x2:Side) (x3:Int):Option Mail:=
 some (Mail.mk x1.ID x2.Peer ((Msg.mk x3 x2.Epoch 0)))
theorem Zem (x1:Diner) (x2:Side) (x3:Int) (r:Mail) (h:Zdm x1 x2 x3=some r):Zp2 Tryz.prog 179 [.agg (Diner.row x1),.agg (Side.row x2),.iv x3] (.agg (Mail.row r)):=by
 refine Zt2 ok179 rfl rfl fun w0 H0=>?_
 rw [Zdm] at h
 refine Zk2 19 ?_;dsimp only [go_sem];refine An ?_;exact Zo4 (res:=fun (r:Mail)=>.agg (Mail.row r)) ok179 h
end NX
end Go.Proofs.YtacfbmldajmjiaaGreat
