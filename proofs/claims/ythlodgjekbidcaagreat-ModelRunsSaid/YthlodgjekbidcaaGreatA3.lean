/-
  The function narthex/sess.Grant: its code compiled, a model, and that the code answers as the model. Written by a program of ours (lb.py). No statement of the seat is proved here.
-/
import Derived.KernelRfl
import Derived.Test.YthlodgjekbidcaaGreatA2
namespace Go.Proofs.YthlodgjekbidcaaGreat
namespace NX
open Go
set_option maxRecDepth 100000
set_option maxHeartbeats 4000000
@[go_sem] def e118:EC:=.seq (.reg [(Qx 1 64 2 0),(Qa 2 (.alloc 64 [.iv 0,.nl])),(Qi 3 0),(Qi 4 0)]) (.seq (.seq (.reg [(Qe 6 2 1),(Qa 7 (.call 55 [(.t 6)])),(Qm 5 7)]) (.seq (.reg [(Qm 8 5),(Qa 9 (.bin .neq (.t 8) (.c (.iv 0))))]) (.ite (.t 9) (.seq (.reg [(Qa 10 (.build [.iv 0,.nl] [])),(Qm 11 5),(Qs 2 2 10),(Qi 3 0),(Qm 4 11)]) (.ret)) (.skip)))) (.seq (.seq (.reg [(Qf 12 1 1),(Ql 13 12),(Qa 14 (.len (.t 13))),(Qa 15 (.bin .eql (.t 14) (.c (.iv 0)))),(Qm 16 15),(Qh 17 16 false 1 1),(Qn 18 16 false 17),(Qg 19 16 false (.idx 4 (.t 18) (.c (.iv 0)))),(Qh 20 16 false 2 19),(Qn 21 16 false 20),(Qg 22 16 false (.bin .eql (.t 21) (.c (.iv 1)))),(Qq 23 16 22)]) (.ite (.t 23) (.seq (.reg [(Qa 24 (.build [.iv 0,.nl] [])),(Qs 2 2 24),(Qi 3 0),(Qi 4 175)]) (.ret)) (.skip))) (.seq (.reg [(Qe 25 2 1),(Qa 26 (.call 117 [(.t 25)])),(Qs 2 1 26)]) (.seq (.reg [(Qf 27 1 1),(Ql 28 27),(Qa 29 (.idx 4 (.t 28) (.c (.iv 0)))),(Qf 30 2 29),(Qb (.store 1 (.t 30) (.c (.iv 1))))]) (.seq (.drw [(Qe 31 2 1),(Qf 32 1 1),(Ql 33 32),(Qa 34 (.idx 4 (.t 33) (.c (.iv 0)))),(Qf 35 0 34),(Ql 36 35),(Qs 2 2 31),(Qm 3 36),(Qi 4 0)] [[],[],[1],[2],[3],[4],[0,0],[5,6,0,1,2,3,4,5,6],[7,0,1,2,3,4,5,6,7]] [[6],[2],[1,3],[2,4],[3,5],[4,7],[0],[5],[]]) (.ret))))))
theorem Zgf:FnOK Tryz.prog 118 Tryz.f118 e118 [.c 2 (some 2),.t 3,.t 4] 1 36:=⟨by kernel_rfl,⟨_,rfl,by kernel_rfl⟩,by kernel_rfl,by kernel_rfl⟩
noncomputable def Zhf:(List Sess)→Option (List Sess)
| x35=>
 some x35
noncomputable def Zif (x2:(List Sess)):(Int×(List Sess))→Option ((Int×(List Sess)) ⊕ (List Sess))
| (x8,x9)=>
 ifb (decide (x8<(ln Sess.row x2))) (
 (at_ x9 x8).bind fun x10=>
 (Zg9 x10.Need).bind fun x11=>
 some (.inl (wr (x8+1),x9.set (Int.toNat (x8)) ((Sess.mk x10.ID x11 x10.State x10.Age))))) (
 Option.map Sum.inr (Zhf x9))
noncomputable def Zjf (x1:Book):Option (List Sess):=
 (Zwe x1.Sess).bind fun x2=>
 loop (Zif x2) (0,x2)
theorem Zkf (x1:Book) (r:(List Sess)) (h:Zjf x1=some r):FunT Tryz.prog 117 [.agg [.iv x1.Last,.sl 4 (List.map Sess.row x1.Sess)]] [none,none] [] (.agg [.iv x1.Last,.osl 0]) [none,none] [some ⟨74,4,List.map Sess.row r⟩]:=by
 refine Z46 ok117 rfl rfl rfl (by first | rfl | simp [go_sem]) fun w0 M0=>?_
 rw [Zjf] at h
 dsimp only [lun,List.cons_append,List.nil_append]
 refine Zt2 9 ?_;dsimp only [go_sem];refine An ?_;obtain ⟨x2,ex2,h⟩:=Bs h;refine Zk5 trivial (Zxe x1.Sess _ ex2) (h:=?_);refine Zt2 11 ?_;dsimp only [go_sem];refine An ?_;refine Zu4 (fun (x35:(List Sess))=>(⟨(.any :: .ptr 2 0 :: .ptr 3 0::an 25 []),[none,none,some ⟨64,[.iv x1.Last,.osl 0]⟩,some ⟨64,[.iv 0,.nl]⟩],[some ⟨74,4,List.map Sess.row x35⟩]⟩:St)) Zhf r ?_ fun J1=>?_
 ·intro x35 h;rw [Zhf] at h;(try dsimp only);refine Zt2 5 ?_;dsimp only [go_sem];refine An ?_;obtain rfl:=Option.some.inj h;exact Z56 ok117 rfl (by simp [go_sem])
 ·refine Zt2 1 ?_;dsimp only [go_sem];refine An ?_;refine Zv4 h (fun ((x8,x9):(Int×(List Sess)))=>(⟨(.any :: .ptr 2 0 :: .ptr 3 0::an 7 (.iv (ln Sess.row x2) :: .iv x8::an 16 [])),[none,none,some ⟨64,[.iv x1.Last,.osl 0]⟩,some ⟨64,[.iv 0,.nl]⟩],[some ⟨74,4,List.map Sess.row x9⟩]⟩:St)) (by simp [go_sem]) (by rintro ⟨x8,x9⟩;first | rfl | simp [go_sem]) ?_;rintro n1 ⟨x8,x9⟩ y1 h hin1 hout1;rw [Zif] at h;(try dsimp only);refine Zt2 5 ?_;dsimp only [go_sem];refine An ?_;refine Zw4 h rfl (fun _ h=>?_) fun _ h=>?_
  ·refine Zt2 8 ?_;dsimp only [go_sem];refine An ?_;refine Zs3 (by kernel_rfl) fun all hall hs hnap haf=>?_;dsimp only [go_sem];refine Zp5 hall hs haf hnap 4 9 ?_;dsimp only [go_sem];refine An ?_;refine Z44 1 4 rfl ?_ ?_
   ·refine Z74 hall rfl trivial ?_;dsimp only [go_sem];refine Z34 4 rfl ?_;refine Z74 hall rfl trivial ?_;dsimp only [go_sem];obtain ⟨x10,ex10,h⟩:=Bs h;refine Z34 6 rfl ?_;refine Z76 hall Sess.row ex10 rfl trivial rfl rfl rfl ?_;dsimp only [go_sem];refine Zp5 hall hs haf hnap 1 5 ?_;dsimp only [go_sem];refine An ?_;refine Z34 8 rfl ?_;refine Z86 hall Sess.row ex10 rfl trivial rfl rfl rfl ?_;dsimp only [go_sem];refine Z34 9 rfl ?_;obtain ⟨x11,ex11,h⟩:=Bs h;refine Z84 hall rfl trivial (Zi9 x10.Need _ ex11) (h:=?_)
    dsimp only [go_sem];refine Z34 10 rfl ?_;refine Z76 hall Sess.row ex10 rfl trivial rfl rfl rfl ?_;dsimp only [go_sem];refine Zp5 hall hs haf hnap 1 1 ?_;dsimp only [go_sem];refine An ?_;refine Z34 12 rfl ?_;refine Za6 hall [.sl 1 (List.map Zb5 x11)] Sess.row (y':=(Sess.mk x10.ID x11 x10.State x10.Age)) ex10 rfl trivial rfl rfl rfl (by first | exact Zg4 _ | simp [go_sem]) rfl rfl rfl rfl ?_;dsimp only [go_sem];refine Z24 rfl ?_ _;refine Zt2 5 ?_;dsimp only [go_sem];refine An ?_;exact Z55 h hin1
   ·refine Z74 hall rfl trivial ?_;dsimp only [go_sem];obtain ⟨x10,ex10,h⟩:=Bs h;refine Z44 1 6 rfl ?_ ?_
    ·refine Z74 hall rfl trivial ?_;dsimp only [go_sem];refine Z34 6 rfl ?_;refine Z76 hall Sess.row ex10 rfl trivial rfl rfl rfl ?_;dsimp only [go_sem];refine Zp5 hall hs haf hnap 1 5 ?_;dsimp only [go_sem];refine An ?_;refine Z34 8 rfl ?_;refine Z86 hall Sess.row ex10 rfl trivial rfl rfl rfl ?_;dsimp only [go_sem];refine Z34 9 rfl ?_;obtain ⟨x11,ex11,h⟩:=Bs h;refine Z84 hall rfl trivial (Zi9 x10.Need _ ex11) (h:=?_);dsimp only [go_sem];refine Z34 10 rfl ?_;refine Z76 hall Sess.row ex10 rfl trivial rfl rfl rfl ?_
     dsimp only [go_sem];refine Zp5 hall hs haf hnap 1 1 ?_;dsimp only [go_sem];refine An ?_;refine Z34 12 rfl ?_;refine Za6 hall [.sl 1 (List.map Zb5 x11)] Sess.row (y':=(Sess.mk x10.ID x11 x10.State x10.Age)) ex10 rfl trivial rfl rfl rfl (by first | exact Zg4 _ | simp [go_sem]) rfl rfl rfl rfl ?_;dsimp only [go_sem];refine Z24 rfl ?_ _;refine Zt2 5 ?_;dsimp only [go_sem];refine An ?_;exact Z55 h hin1
    ·refine Z76 hall Sess.row ex10 rfl trivial rfl rfl rfl ?_;dsimp only [go_sem];refine Zp5 hall hs haf hnap 1 6 ?_;dsimp only [go_sem];refine An ?_;refine Z44 1 8 rfl ?_ ?_
     ·refine Z74 hall rfl trivial ?_;dsimp only [go_sem];refine Z34 8 rfl ?_;refine Z86 hall Sess.row ex10 rfl trivial rfl rfl rfl ?_;dsimp only [go_sem];refine Z34 9 rfl ?_;obtain ⟨x11,ex11,h⟩:=Bs h;refine Z84 hall rfl trivial (Zi9 x10.Need _ ex11) (h:=?_);dsimp only [go_sem];refine Z34 10 rfl ?_;refine Z76 hall Sess.row ex10 rfl trivial rfl rfl rfl ?_;dsimp only [go_sem];refine Zp5 hall hs haf hnap 1 1 ?_;dsimp only [go_sem];refine An ?_;refine Z34 12 rfl ?_
      refine Za6 hall [.sl 1 (List.map Zb5 x11)] Sess.row (y':=(Sess.mk x10.ID x11 x10.State x10.Age)) ex10 rfl trivial rfl rfl rfl (by first | exact Zg4 _ | simp [go_sem]) rfl rfl rfl rfl ?_;dsimp only [go_sem];refine Z24 rfl ?_ _;refine Zt2 5 ?_;dsimp only [go_sem];refine An ?_;exact Z55 h hin1
     ·refine Z86 hall Sess.row ex10 rfl trivial rfl rfl rfl ?_;dsimp only [go_sem];obtain ⟨x11,ex11,h⟩:=Bs h;refine Z44 1 9 rfl ?_ ?_
      ·refine Z74 hall rfl trivial ?_;dsimp only [go_sem];refine Z34 9 rfl ?_;refine Z84 hall rfl trivial (Zi9 x10.Need _ ex11) (h:=?_);dsimp only [go_sem];refine Z34 10 rfl ?_;refine Z76 hall Sess.row ex10 rfl trivial rfl rfl rfl ?_;dsimp only [go_sem];refine Zp5 hall hs haf hnap 1 1 ?_;dsimp only [go_sem];refine An ?_;refine Z34 12 rfl ?_;refine Za6 hall [.sl 1 (List.map Zb5 x11)] Sess.row (y':=(Sess.mk x10.ID x11 x10.State x10.Age)) ex10 rfl trivial rfl rfl rfl (by first | exact Zg4 _ | simp [go_sem]) rfl rfl rfl rfl ?_
       dsimp only [go_sem];refine Z24 rfl ?_ _;refine Zt2 5 ?_;dsimp only [go_sem];refine An ?_;exact Z55 h hin1
      ·refine Z84 hall rfl trivial (Zi9 x10.Need _ ex11) (h:=?_);dsimp only [go_sem];refine Z34 1 rfl ?_;refine Z74 hall rfl trivial ?_;dsimp only [go_sem];refine Z34 10 rfl ?_;refine Z76 hall Sess.row ex10 rfl trivial rfl rfl rfl ?_;dsimp only [go_sem];refine Zp5 hall hs haf hnap 1 1 ?_;dsimp only [go_sem];refine An ?_;refine Z34 12 rfl ?_;refine Za6 hall [.sl 1 (List.map Zb5 x11)] Sess.row (y':=(Sess.mk x10.ID x11 x10.State x10.Age)) ex10 rfl trivial rfl rfl rfl (by first | exact Zg4 _ | simp [go_sem]) rfl rfl rfl rfl ?_
       dsimp only [go_sem];refine Z24 rfl ?_ _;refine Zt2 5 ?_;dsimp only [go_sem];refine An ?_;exact Z55 h hin1
  ·refine Zt2 1 ?_;dsimp only [go_sem];refine An ?_;exact Z65 J1 (s:=x9) (Zt4 h hout1)
def Zlf (_F:Nat):(List Sess)→Option (List Sess)
| x35=>
 some x35
theorem Zmf {F:Nat}:∀s,ole (Zlf F s) (Zhf s):=by
 intro x35
 unfold Zlf Zhf
 try dsimp only
 with_reducible repeat' first | exact Zn4 _ | assumption | intro _ | refine Zo4 ?_ ?_ | refine Zp4 ?_ ?_ | refine Zq4 ?_ | refine Zs4 ?_
def Znf (F:Nat) (x2:(List Sess)):(Int×(List Sess))→Option ((Int×(List Sess)) ⊕ (List Sess))
| (x8,x9)=>
 ifb (decide (x8<(ln Sess.row x2))) (
 (at_ x9 x8).bind fun x10=>
 (Zj9 F x10.Need).bind fun x11=>
 some (.inl (wr (x8+1),x9.set (Int.toNat (x8)) ((Sess.mk x10.ID x11 x10.State x10.Age))))) (
 Option.map Sum.inr (Zlf F x9))
theorem Zof {F:Nat} {x2:(List Sess)}:∀s,ole (Znf F x2 s) (Zif x2 s):=by
 rintro ⟨x8,x9⟩
 unfold Znf Zif
 try dsimp only
 with_reducible repeat' first | exact Zn4 _ | assumption | intro _ | refine Zo4 ?_ ?_ | refine Zp4 ?_ ?_ | refine Zq4 ?_ | refine Zs4 ?_ | apply Zmf | apply Zk9
def Zpf (F:Nat) (x1:Book):Option (List Sess):=
 (Zye F x1.Sess).bind fun x2=>
 Zr4 F (Znf F x2) (0,x2)
theorem Zqf {F:Nat} {x1:Book}:ole (Zpf F x1) (Zjf x1):=by
 unfold Zpf Zjf
 with_reducible repeat' first | exact Zn4 _ | assumption | intro _ | refine Zo4 ?_ ?_ | refine Zp4 ?_ ?_ | refine Zq4 ?_ | refine Zs4 ?_ | apply Zmf | apply Zk9 | apply Zof | apply Zze
noncomputable def Zrf (x1:Book):Bool→Option (Book×Int×Int)
| x4=>
 ifb x4 (
 some ((Book.mk 0 (([]:(List Sess)))),0,175)) (
 (Zjf x1).bind fun x5=>
 (at_ x5 0).bind fun x6=>
 some ((Book.mk x1.Last (x5.set (Int.toNat (0)) ((Sess.mk x6.ID x6.Need 1 x6.Age)))),x6.ID,0))
noncomputable def Zsf (x1:Book):Option (Book×Int×Int):=
 (Zge x1).bind fun x2=>
 ifb (!decide (x2=0)) (
 some ((Book.mk 0 (([]:(List Sess)))),0,x2)) (
 ifb (decide ((ln Sess.row x1.Sess)=0)) (
 (Zrf x1) true) (
 (at_ x1.Sess 0).bind fun x3=>
 (Zrf x1) (decide (x3.State=1))))
theorem k_sess_Grant (x1:Book) (r:(Book×Int×Int)) (h:Zsf x1=some r):Zy2 Tryz.prog 118 [.agg (Book.row x1)] (.tup [.agg (Book.row r.1),.iv r.2.1,.iv r.2.2]):=by
 refine Z23 Zgf rfl rfl fun w0 H0=>?_
 rw [Zsf] at h
 refine Zt2 11 ?_;dsimp only [go_sem];refine An ?_;obtain ⟨x2,ex2,h⟩:=Bs h;refine Z73 trivial (Zhe x1 _ ex2) (h:=?_);refine Zt2 7 ?_;dsimp only [go_sem];refine An ?_;refine Zw4 h rfl (fun _ h=>?_) fun _ h=>?_
 ·refine Zt2 8 ?_;dsimp only [go_sem];refine An ?_;exact Z45 (res:=fun (r:(Book×Int×Int))=>.tup [.agg (Book.row r.1),.iv r.2.1,.iv r.2.2]) Zgf h
 ·refine Zt2 9 ?_;dsimp only [go_sem];refine An ?_;refine Zu4 (fun (x4:Bool)=>(⟨(.any :: .ptr 0 0 :: .ptr 1 0::an 20 (.bv x4::an 13 [])),[some ⟨64,[.iv x1.Last,.sl 4 (List.map Sess.row x1.Sess)]⟩,some ⟨64,[.iv 0,.nl]⟩],[]⟩:St)) (Zrf x1) r ?_ fun J1=>?_
  ·intro x4 h;rw [Zrf] at h;(try dsimp only);refine Zw4 h rfl (fun _ h=>?_) fun _ h=>?_
   ·refine Zt2 7 ?_;dsimp only [go_sem];refine An ?_;exact Z45 (res:=fun (r:(Book×Int×Int))=>.tup [.agg (Book.row r.1),.iv r.2.1,.iv r.2.2]) Zgf h
   ·refine Zt2 4 ?_;dsimp only [go_sem];refine An ?_;obtain ⟨x5,ex5,h⟩:=Bs h;refine Z66 [false,false] [] trivial (Zkf x1 _ ex5) (h:=?_);dsimp only [go_sem];refine Zt2 6 ?_;dsimp only [go_sem];refine An ?_;obtain ⟨x6,ex6,h⟩:=Bs h;refine Zs5 Sess.row ex6 trivial rfl rfl rfl ?_;refine Zt2 1 ?_;dsimp only [go_sem];refine An ?_;refine Zz5 [.iv 1] Sess.row (y':=(Sess.mk x6.ID x6.Need 1 x6.Age)) ex6 trivial rfl rfl rfl (by first | exact Zg4 _ | simp [go_sem]) rfl rfl rfl rfl ?_;refine Zt2 2 ?_;dsimp only [go_sem];refine An ?_
    refine Zs3 (by kernel_rfl) fun all hall hs hnap haf=>?_;dsimp only [go_sem];refine Zp5 hall hs haf hnap 1 8 ?_;dsimp only [go_sem];refine An ?_;refine Z44 0 2 rfl ?_ ?_
    ·refine Z74 hall rfl trivial ?_;dsimp only [go_sem];refine Z44 2 6 rfl ?_ ?_
     ·refine Z74 hall rfl trivial ?_;dsimp only [go_sem];refine Z44 3 6 rfl ?_ ?_
      ·refine Z76 hall Sess.row (Zt5 ex6) rfl trivial rfl rfl rfl ?_;dsimp only [go_sem];refine Zp5 hall hs haf hnap 1 4 ?_;dsimp only [go_sem];refine An ?_;refine Z44 5 6 rfl ?_ ?_
       ·refine Z86 hall Sess.row (Zt5 ex6) rfl trivial rfl rfl rfl ?_;dsimp only [go_sem];refine Z34 6 rfl ?_;refine Z74 hall rfl trivial ?_;dsimp only [go_sem];refine Zp5 hall hs haf hnap 2 0 ?_;dsimp only [go_sem];refine An ?_;refine Z24 rfl ?_ _;refine Zk3 0 rfl ?_;dsimp only [go_sem];exact Z45 (res:=fun (r:(Book×Int×Int))=>.tup [.agg (Book.row r.1),.iv r.2.1,.iv r.2.2]) Zgf h
       ·refine Z74 hall rfl trivial ?_;dsimp only [go_sem];refine Z34 5 rfl ?_;refine Z86 hall Sess.row (Zt5 ex6) rfl trivial rfl rfl rfl ?_;dsimp only [go_sem];refine Zp5 hall hs haf hnap 2 0 ?_;dsimp only [go_sem];refine An ?_;refine Z24 rfl ?_ _;refine Zk3 0 rfl ?_;dsimp only [go_sem];exact Z45 (res:=fun (r:(Book×Int×Int))=>.tup [.agg (Book.row r.1),.iv r.2.1,.iv r.2.2]) Zgf h
      ·refine Z74 hall rfl trivial ?_;dsimp only [go_sem];refine Z34 3 rfl ?_;refine Z76 hall Sess.row (Zt5 ex6) rfl trivial rfl rfl rfl ?_;dsimp only [go_sem];refine Zp5 hall hs haf hnap 1 3 ?_;dsimp only [go_sem];refine An ?_;refine Z34 5 rfl ?_;refine Z86 hall Sess.row (Zt5 ex6) rfl trivial rfl rfl rfl ?_;dsimp only [go_sem];refine Zp5 hall hs haf hnap 2 0 ?_;dsimp only [go_sem];refine An ?_;refine Z24 rfl ?_ _;refine Zk3 0 rfl ?_;dsimp only [go_sem]
       exact Z45 (res:=fun (r:(Book×Int×Int))=>.tup [.agg (Book.row r.1),.iv r.2.1,.iv r.2.2]) Zgf h
     ·refine Z74 hall rfl trivial ?_;dsimp only [go_sem];refine Z34 2 rfl ?_;refine Z74 hall rfl trivial ?_;dsimp only [go_sem];refine Z34 3 rfl ?_;refine Z76 hall Sess.row (Zt5 ex6) rfl trivial rfl rfl rfl ?_;dsimp only [go_sem];refine Zp5 hall hs haf hnap 1 3 ?_;dsimp only [go_sem];refine An ?_;refine Z34 5 rfl ?_;refine Z86 hall Sess.row (Zt5 ex6) rfl trivial rfl rfl rfl ?_;dsimp only [go_sem];refine Zp5 hall hs haf hnap 2 0 ?_;dsimp only [go_sem];refine An ?_;refine Z24 rfl ?_ _;refine Zk3 0 rfl ?_;dsimp only [go_sem]
      exact Z45 (res:=fun (r:(Book×Int×Int))=>.tup [.agg (Book.row r.1),.iv r.2.1,.iv r.2.2]) Zgf h
    ·refine Z74 hall rfl trivial ?_;dsimp only [go_sem];refine Z44 0 3 rfl ?_ ?_
     ·refine Z74 hall rfl trivial ?_;dsimp only [go_sem];refine Z44 3 6 rfl ?_ ?_
      ·refine Z76 hall Sess.row (Zt5 ex6) rfl trivial rfl rfl rfl ?_;dsimp only [go_sem];refine Zp5 hall hs haf hnap 1 4 ?_;dsimp only [go_sem];refine An ?_;refine Z44 5 6 rfl ?_ ?_
       ·refine Z86 hall Sess.row (Zt5 ex6) rfl trivial rfl rfl rfl ?_;dsimp only [go_sem];refine Z34 6 rfl ?_;refine Z74 hall rfl trivial ?_;dsimp only [go_sem];refine Zp5 hall hs haf hnap 2 0 ?_;dsimp only [go_sem];refine An ?_;refine Z24 rfl ?_ _;refine Zk3 0 rfl ?_;dsimp only [go_sem];exact Z45 (res:=fun (r:(Book×Int×Int))=>.tup [.agg (Book.row r.1),.iv r.2.1,.iv r.2.2]) Zgf h
       ·refine Z74 hall rfl trivial ?_;dsimp only [go_sem];refine Z34 5 rfl ?_;refine Z86 hall Sess.row (Zt5 ex6) rfl trivial rfl rfl rfl ?_;dsimp only [go_sem];refine Zp5 hall hs haf hnap 2 0 ?_;dsimp only [go_sem];refine An ?_;refine Z24 rfl ?_ _;refine Zk3 0 rfl ?_;dsimp only [go_sem];exact Z45 (res:=fun (r:(Book×Int×Int))=>.tup [.agg (Book.row r.1),.iv r.2.1,.iv r.2.2]) Zgf h
      ·refine Z74 hall rfl trivial ?_;dsimp only [go_sem];refine Z34 3 rfl ?_;refine Z76 hall Sess.row (Zt5 ex6) rfl trivial rfl rfl rfl ?_;dsimp only [go_sem];refine Zp5 hall hs haf hnap 1 3 ?_;dsimp only [go_sem];refine An ?_;refine Z34 5 rfl ?_;refine Z86 hall Sess.row (Zt5 ex6) rfl trivial rfl rfl rfl ?_;dsimp only [go_sem];refine Zp5 hall hs haf hnap 2 0 ?_;dsimp only [go_sem];refine An ?_;refine Z24 rfl ?_ _;refine Zk3 0 rfl ?_;dsimp only [go_sem]
       exact Z45 (res:=fun (r:(Book×Int×Int))=>.tup [.agg (Book.row r.1),.iv r.2.1,.iv r.2.2]) Zgf h
     ·refine Z76 hall Sess.row (Zt5 ex6) rfl trivial rfl rfl rfl ?_;dsimp only [go_sem];refine Zp5 hall hs haf hnap 1 5 ?_;dsimp only [go_sem];refine An ?_;refine Z44 0 5 rfl ?_ ?_
      ·refine Z74 hall rfl trivial ?_;dsimp only [go_sem];refine Z44 5 6 rfl ?_ ?_
       ·refine Z86 hall Sess.row (Zt5 ex6) rfl trivial rfl rfl rfl ?_;dsimp only [go_sem];refine Z34 6 rfl ?_;refine Z74 hall rfl trivial ?_;dsimp only [go_sem];refine Zp5 hall hs haf hnap 2 0 ?_;dsimp only [go_sem];refine An ?_;refine Z24 rfl ?_ _;refine Zk3 0 rfl ?_;dsimp only [go_sem];exact Z45 (res:=fun (r:(Book×Int×Int))=>.tup [.agg (Book.row r.1),.iv r.2.1,.iv r.2.2]) Zgf h
       ·refine Z74 hall rfl trivial ?_;dsimp only [go_sem];refine Z34 5 rfl ?_;refine Z86 hall Sess.row (Zt5 ex6) rfl trivial rfl rfl rfl ?_;dsimp only [go_sem];refine Zp5 hall hs haf hnap 2 0 ?_;dsimp only [go_sem];refine An ?_;refine Z24 rfl ?_ _;refine Zk3 0 rfl ?_;dsimp only [go_sem];exact Z45 (res:=fun (r:(Book×Int×Int))=>.tup [.agg (Book.row r.1),.iv r.2.1,.iv r.2.2]) Zgf h
      ·refine Z86 hall Sess.row (Zt5 ex6) rfl trivial rfl rfl rfl ?_;dsimp only [go_sem];refine Z34 0 rfl ?_;refine Z74 hall rfl trivial ?_;dsimp only [go_sem];refine Z34 6 rfl ?_;refine Z74 hall rfl trivial ?_;dsimp only [go_sem];refine Zp5 hall hs haf hnap 2 0 ?_;dsimp only [go_sem];refine An ?_;refine Z24 rfl ?_ _;refine Zk3 0 rfl ?_;dsimp only [go_sem];exact Z45 (res:=fun (r:(Book×Int×Int))=>.tup [.agg (Book.row r.1),.iv r.2.1,.iv r.2.2]) Zgf h
  ·refine Z35 16 h rfl (fun _ h=>?_) fun _ h=>?_
   ·dsimp only [go_sem];refine Zt2 8 ?_;dsimp only [go_sem];refine An ?_;exact Z65 J1 (s:=true) h
   ·dsimp only [go_sem];refine Zt2 2 ?_;dsimp only [go_sem];refine An ?_;obtain ⟨x3,ex3,h⟩:=Bs h;refine Zz4 Sess.row ex3 trivial rfl rfl rfl ?_;refine Zt2 5 ?_;dsimp only [go_sem];refine An ?_;exact Z65 J1 (s:=decide (x3.State=1)) h
def Ztf (F:Nat) (x1:Book):Bool→Option (Book×Int×Int)
| x4=>
 ifb x4 (
 some ((Book.mk 0 (([]:(List Sess)))),0,175)) (
 (Zpf F x1).bind fun x5=>
 (at_ x5 0).bind fun x6=>
 some ((Book.mk x1.Last (x5.set (Int.toNat (0)) ((Sess.mk x6.ID x6.Need 1 x6.Age)))),x6.ID,0))
theorem Zuf {F:Nat} {x1:Book}:∀s,ole (Ztf F x1 s) (Zrf x1 s):=by
 intro x4
 unfold Ztf Zrf
 try dsimp only
 with_reducible repeat' first | exact Zn4 _ | assumption | intro _ | refine Zo4 ?_ ?_ | refine Zp4 ?_ ?_ | refine Zq4 ?_ | refine Zs4 ?_ | apply Zqf
def Zvf (F:Nat) (x1:Book):Option (Book×Int×Int):=
 (Zue F x1).bind fun x2=>
 ifb (!decide (x2=0)) (
 some ((Book.mk 0 (([]:(List Sess)))),0,x2)) (
 ifb (decide ((ln Sess.row x1.Sess)=0)) (
 (Ztf F x1) true) (
 (at_ x1.Sess 0).bind fun x3=>
 (Ztf F x1) (decide (x3.State=1))))
theorem le_sess_Grant {F:Nat} {x1:Book}:ole (Zvf F x1) (Zsf x1):=by
 unfold Zvf Zsf
 with_reducible repeat' first | exact Zn4 _ | assumption | intro _ | refine Zo4 ?_ ?_ | refine Zp4 ?_ ?_ | refine Zq4 ?_ | refine Zs4 ?_ | apply Zqf | apply Zuf | apply Zve
set_option maxRecDepth 100000
set_option maxHeartbeats 4000000
@[go_sem] def e210:EC:=.seq (.reg [(Qx 2 74 4 0),(Qa 3 (.mv (.c .ff)))]) (.seq (.reg [(Qf 4 0 2),(Ql 5 4),(Ql 6 1),(Qa 7 (.bin .eql (.t 5) (.t 6))),(Qm 3 7)]) (.ret))
theorem ok210:FnOK Tryz.prog 210 Tryz.f210 e210 [.t 3] 2 6:=⟨by kernel_rfl,⟨_,rfl,by kernel_rfl⟩,by kernel_rfl,by kernel_rfl⟩
noncomputable def Zwf (x1:Sess) (x2:Int):Option Bool:=
 some (decide (x1.ID=x2))
theorem k_sess_find_1 (x1:Sess) (x2:Int) (r:Bool) (h:Zwf x1 x2=some r):Zy2 Tryz.prog 210 [.agg (Sess.row x1),.elt (Zb5 x2) 0] (.bv r):=by
 refine Z23 ok210 rfl rfl fun w0 H0=>?_
 rw [Zwf] at h
 refine Zt2 13 ?_;dsimp only [go_sem];refine An ?_;exact Z45 (res:=fun (r:Bool)=>.bv r) ok210 h
def Zxf (_F:Nat) (x1:Sess) (x2:Int):Option Bool:=
 some (decide (x1.ID=x2))
theorem Zyf {F:Nat} {x1:Sess} {x2:Int}:ole (Zxf F x1 x2) (Zwf x1 x2):=by
 unfold Zxf Zwf
 with_reducible repeat' first | exact Zn4 _ | assumption | intro _ | refine Zo4 ?_ ?_ | refine Zp4 ?_ ?_ | refine Zq4 ?_ | refine Zs4 ?_
set_option maxRecDepth 100000
set_option maxHeartbeats 4000000
@[go_sem] def e159:EC:=.seq (.reg [(Qx 2 64 2 0),(Qx 3 3 1 1),(Qi 4 0)]) (.seq (.reg [(Qf 5 1 2),(Ql 6 5),(Qa 7 (.mkf 210 [(.t 3)])),(Qa 8 (.call 124 [(.t 6),(.t 7)])),(Qm 4 8)]) (.ret))
theorem ok159:FnOK Tryz.prog 159 Tryz.f159 e159 [.t 4] 2 7:=⟨by kernel_rfl,⟨_,rfl,by kernel_rfl⟩,by kernel_rfl,by kernel_rfl⟩
noncomputable def Zzf (x1:Book) (x2:Int):Option Int:=
 (Zj7 x1.Sess ((fun z=>Zwf z x2))).bind fun x3=>
 some x3
theorem Z0g (x1:Book) (x2:Int) (r:Int) (h:Zzf x1 x2=some r):Zy2 Tryz.prog 159 [.agg (Book.row x1),.iv x2] (.iv r):=by
 refine Z23 ok159 rfl rfl fun w0 H0=>?_
 rw [Zzf] at h
 refine Zt2 11 ?_;dsimp only [go_sem];refine An ?_;obtain ⟨x3,ex3,h⟩:=Bs h;refine Z85 trivial ((Z75.refl _).block 1 rfl rfl) (Zk7 x1.Sess _ _ ((fun z=>Zwf z x2)) ⟨by kernel_rfl,rfl,fun z r hz=>k_sess_find_1 z x2 r hz⟩ _ ex3) (h:=?_);refine Zt2 2 ?_;dsimp only [go_sem];refine An ?_;exact Z45 (res:=fun (r:Int)=>.iv r) ok159 h
def Z1g (F:Nat) (x1:Book) (x2:Int):Option Int:=
 (Zp7 F x1.Sess ((fun z=>Zxf F z x2))).bind fun x3=>
 some x3
theorem Z2g {F:Nat} {x1:Book} {x2:Int}:ole (Z1g F x1 x2) (Zzf x1 x2):=by
 unfold Z1g Zzf
 with_reducible repeat' first | exact Zn4 _ | assumption | intro _ | refine Zo4 ?_ ?_ | refine Zp4 ?_ ?_ | refine Zq4 ?_ | refine Zs4 ?_ | apply Zq7 | apply Zyf
set_option maxRecDepth 100000
set_option maxHeartbeats 4000000
@[go_sem] def e157:EC:=.seq (.reg [(Qx 2 64 2 0),(Qi 4 0),(Qi 5 0)]) (.seq (.seq (.reg [(Qe 8 2 2),(Qa 9 (.call 55 [(.t 8)])),(Qm 6 9)]) (.seq (.reg [(Qm 10 6),(Qa 11 (.bin .neq (.t 10) (.c (.iv 0))))]) (.ite (.t 11) (.seq (.reg [(Qm 12 6),(Qi 4 0),(Qm 5 12)]) (.ret)) (.skip)))) (.seq (.reg [(Qe 13 2 2),(Qm 14 1),(Qa 15 (.call 159 [(.t 13),(.t 14)])),(Qm 7 15)]) (.seq (.seq (.reg [(Qm 16 7),(Qa 17 (.bin .lss (.t 16) (.c (.iv 0))))]) (.ite (.t 17) (.seq (.reg [(Qi 4 0),(Qi 5 174)]) (.ret)) (.skip))) (.seq (.reg [(Qf 18 1 2),(Ql 19 18),(Qm 20 7),(Qk 21 4 19 20),(Qf 22 2 21),(Ql 23 22),(Qm 4 23),(Qi 5 0)]) (.ret)))))
theorem ok157:FnOK Tryz.prog 157 Tryz.f157 e157 [.t 4,.t 5] 2 22:=⟨by kernel_rfl,⟨_,rfl,by kernel_rfl⟩,by kernel_rfl,by kernel_rfl⟩
noncomputable def Z3g (x1:Book) (x2:Int):Option (Int×Int):=
 (Zge x1).bind fun x3=>
 ifb (!decide (x3=0)) (
 some (0,x3)) (
 (Zzf x1 x2).bind fun x4=>
 ifb (decide (x4<0)) (
 some (0,174)) (
 (at_ x1.Sess x4).bind fun x5=>
 some (x5.State,0)))
theorem k_sess_Poll (x1:Book) (x2:Int) (r:(Int×Int)) (h:Z3g x1 x2=some r):Zy2 Tryz.prog 157 [.agg (Book.row x1),.iv x2] (.tup [.iv r.1,.iv r.2]):=by
 refine Z23 ok157 rfl rfl fun w0 H0=>?_
 rw [Z3g] at h
 refine Zt2 10 ?_;dsimp only [go_sem];refine An ?_;obtain ⟨x3,ex3,h⟩:=Bs h;refine Z73 trivial (Zhe x1 _ ex3) (h:=?_);refine Zt2 7 ?_;dsimp only [go_sem];refine An ?_;refine Zw4 h rfl (fun _ h=>?_) fun _ h=>?_
 ·refine Zt2 6 ?_;dsimp only [go_sem];refine An ?_;exact Z45 (res:=fun (r:(Int×Int))=>.tup [.iv r.1,.iv r.2]) ok157 h
 ·refine Zt2 5 ?_;dsimp only [go_sem];refine An ?_;obtain ⟨x4,ex4,h⟩:=Bs h;refine Z73 trivial (Z0g x1 x2 _ ex4) (h:=?_);refine Zt2 8 ?_;dsimp only [go_sem];refine An ?_;refine Zw4 h rfl (fun _ h=>?_) fun _ h=>?_
  ·refine Zt2 5 ?_;dsimp only [go_sem];refine An ?_;exact Z45 (res:=fun (r:(Int×Int))=>.tup [.iv r.1,.iv r.2]) ok157 h
  ·refine Zt2 6 ?_;dsimp only [go_sem];refine An ?_;obtain ⟨x5,ex5,h⟩:=Bs h;refine Zz4 Sess.row ex5 trivial rfl rfl rfl ?_;refine Zt2 5 ?_;dsimp only [go_sem];refine An ?_;exact Z45 (res:=fun (r:(Int×Int))=>.tup [.iv r.1,.iv r.2]) ok157 h
def Z4g (F:Nat) (x1:Book) (x2:Int):Option (Int×Int):=
 (Zue F x1).bind fun x3=>
 ifb (!decide (x3=0)) (
 some (0,x3)) (
 (Z1g F x1 x2).bind fun x4=>
 ifb (decide (x4<0)) (
 some (0,174)) (
 (at_ x1.Sess x4).bind fun x5=>
 some (x5.State,0)))
theorem le_sess_Poll {F:Nat} {x1:Book} {x2:Int}:ole (Z4g F x1 x2) (Z3g x1 x2):=by
 unfold Z4g Z3g
 with_reducible repeat' first | exact Zn4 _ | assumption | intro _ | refine Zo4 ?_ ?_ | refine Zp4 ?_ ?_ | refine Zq4 ?_ | refine Zs4 ?_ | apply Zve | apply Z2g
set_option maxRecDepth 100000
set_option maxHeartbeats 4000000
@[go_sem] def e158:EC:=.seq (.reg [(Qa 6 (.mv (.c .nl)))]) (.seq (.reg [(Qm 8 0),(Qm 9 1),(Qm 10 2),(Qm 11 0),(Qa 12 (.len (.t 11))),(Qa 13 (.sl3 4 (.t 8) (some (.t 9)) (some (.t 10)) (some (.t 12))))]) (.seq (.seq (.reg [(Qm 14 1),(Qm 15 2),(Qa 16 (.bin .eql (.t 14) (.t 15)))]) (.ite (.t 16) (.seq (.reg [(Qm 17 0),(Qm 6 17)]) (.ret)) (.skip))) (.seq (.reg [(Qm 18 0),(Qa 19 (.len (.t 18))),(Qm 7 19)]) (.seq (.drw [(Qm 20 0),(Qm 21 1),(Qa 22 (.slice 4 (.t 20) none (some (.t 21)))),(Qm 23 0),(Qm 24 2),(Qa 25 (.slice 4 (.t 23) (some (.t 24)) none)),(Qa 26 (.app 74 4 48 (.t 22) (.t 25))),(Qm 0 26)] [[],[],[0,1],[],[],[3,4],[2,5],[6,6,0,1,2,3,4,5,6]] [[2,7],[2],[0,1,6],[5,7],[5],[3,4,6],[2,5,7],[0,3,6]]) (.seq (.reg [(Qm 27 0),(Qm 28 0),(Qa 29 (.len (.t 28))),(Qm 30 7),(Qa 31 (.slice 4 (.t 27) (some (.t 29)) (some (.t 30)))),(Qb (.clr [.iv 0,.nl,.iv 0,.iv 0] (.t 31)))]) (.seq (.reg [(Qm 32 0),(Qm 6 32)]) (.ret)))))))
theorem ok158:FnOK Tryz.prog 158 Tryz.f158 e158 [.t 6] 3 30:=⟨by kernel_rfl,⟨_,rfl,by kernel_rfl⟩,by kernel_rfl,by kernel_rfl⟩
set_option maxRecDepth 100000
set_option maxHeartbeats 4000000
@[go_sem] def e120:EC:=.seq (.reg [(Qx 3 64 2 0),(Qa 6 (.alloc 64 [.iv 0,.nl])),(Qi 7 0)]) (.seq (.reg [(Qe 11 2 3),(Qm 12 1),(Qa 13 (.call 157 [(.t 11),(.t 12)])),(Qm 10 13),(Qa 14 (.ext (.t 10) 0)),(Qa 15 (.ext (.t 10) 1)),(Qm 8 14),(Qm 9 15)]) (.seq (.seq (.reg [(Qm 16 9),(Qa 17 (.bin .eql (.t 16) (.c (.iv 0)))),(Qm 18 17),(Qg 19 18 true (.mv (.t 8))),(Qg 20 18 true (.mv (.t 2))),(Qg 21 18 true (.bin .neq (.t 19) (.t 20))),(Qp 22 18 21)]) (.ite (.t 22) (.reg [(Qi 9 175)]) (.skip))) (.seq (.seq (.reg [(Qm 23 9),(Qa 24 (.bin .neq (.t 23) (.c (.iv 0))))]) (.ite (.t 24) (.seq (.reg [(Qa 25 (.build [.iv 0,.nl] [])),(Qm 26 9),(Qs 2 6 25),(Qm 7 26)]) (.ret)) (.skip))) (.seq (.reg [(Qe 27 2 3),(Qa 28 (.call 117 [(.t 27)])),(Qs 2 3 28)]) (.seq (.drw [(Qf 29 1 3),(Ql 30 29),(Qe 31 2 3),(Qm 32 1),(Qa 33 (.call 159 [(.t 31),(.t 32)])),(Qe 34 2 3),(Qm 35 1),(Qa 36 (.call 159 [(.t 34),(.t 35)])),(Qv 37 36 1),(Qa 38 (.call 158 [(.t 30),(.t 33),(.t 37)])),(Qf 39 1 3),(Qs 1 39 38)] [[],[0],[],[],[2,3],[],[],[5,6,4],[7],[1,4,8,7],[0,1,2,3,4,5,6,7,8,9],[10,9,9,0,1,2,3,4,5,6,7,8,9]] [[1],[0,9],[4],[4],[2,3,9],[7],[7],[5,6,8],[7,9],[1,4,8,11],[11],[9,10]]) (.seq (.reg [(Qe 40 2 3),(Qs 2 6 40),(Qi 7 0)]) (.ret)))))))
theorem Z5g:FnOK Tryz.prog 120 Tryz.f120 e120 [.c 6 (some 2),.t 7] 3 38:=⟨by kernel_rfl,⟨_,rfl,by kernel_rfl⟩,by kernel_rfl,by kernel_rfl⟩
noncomputable def Z6g:(List Sess)→Option (List Sess)
| x35=>
 some x35
noncomputable def Z7g (x2:(List Sess)):(Int×(List Sess))→Option ((Int×(List Sess)) ⊕ (List Sess))
| (x8,x9)=>
 ifb (decide (x8<(ln Sess.row x2))) (
 (at_ x9 x8).bind fun x10=>
 (Zg9 x10.Need).bind fun x11=>
 some (.inl (wr (x8+1),x9.set (Int.toNat (x8)) ((Sess.mk x10.ID x11 x10.State x10.Age))))) (
 Option.map Sum.inr (Z6g x9))
noncomputable def Z8g (x1:Book):Option (List Sess):=
 (Zwe x1.Sess).bind fun x2=>
 loop (Z7g x2) (0,x2)
theorem Z9g (x1:Book) (r:(List Sess)) (h:Z8g x1=some r):FunT Tryz.prog 117 [.agg [.iv x1.Last,.sl 4 (List.map Sess.row x1.Sess)]] [none,none] [] (.agg [.iv x1.Last,.osl 0]) [none,none] [some ⟨74,4,List.map Sess.row r⟩]:=by
 refine Z46 ok117 rfl rfl rfl (by first | rfl | simp [go_sem]) fun w0 M0=>?_
 rw [Z8g] at h
 dsimp only [lun,List.cons_append,List.nil_append]
 refine Zt2 9 ?_;dsimp only [go_sem];refine An ?_;obtain ⟨x2,ex2,h⟩:=Bs h;refine Zk5 trivial (Zxe x1.Sess _ ex2) (h:=?_);refine Zt2 11 ?_;dsimp only [go_sem];refine An ?_;refine Zu4 (fun (x35:(List Sess))=>(⟨(.any :: .ptr 2 0 :: .ptr 3 0::an 25 []),[none,none,some ⟨64,[.iv x1.Last,.osl 0]⟩,some ⟨64,[.iv 0,.nl]⟩],[some ⟨74,4,List.map Sess.row x35⟩]⟩:St)) Z6g r ?_ fun J1=>?_
 ·intro x35 h;rw [Z6g] at h;(try dsimp only);refine Zt2 5 ?_;dsimp only [go_sem];refine An ?_;obtain rfl:=Option.some.inj h;exact Z56 ok117 rfl (by simp [go_sem])
 ·refine Zt2 1 ?_;dsimp only [go_sem];refine An ?_;refine Zv4 h (fun ((x8,x9):(Int×(List Sess)))=>(⟨(.any :: .ptr 2 0 :: .ptr 3 0::an 7 (.iv (ln Sess.row x2) :: .iv x8::an 16 [])),[none,none,some ⟨64,[.iv x1.Last,.osl 0]⟩,some ⟨64,[.iv 0,.nl]⟩],[some ⟨74,4,List.map Sess.row x9⟩]⟩:St)) (by simp [go_sem]) (by rintro ⟨x8,x9⟩;first | rfl | simp [go_sem]) ?_;rintro n1 ⟨x8,x9⟩ y1 h hin1 hout1;rw [Z7g] at h;(try dsimp only);refine Zt2 5 ?_;dsimp only [go_sem];refine An ?_;refine Zw4 h rfl (fun _ h=>?_) fun _ h=>?_
  ·refine Zt2 8 ?_;dsimp only [go_sem];refine An ?_;refine Zs3 (by kernel_rfl) fun all hall hs hnap haf=>?_;dsimp only [go_sem];refine Zp5 hall hs haf hnap 4 9 ?_;dsimp only [go_sem];refine An ?_;refine Z44 1 4 rfl ?_ ?_
   ·refine Z74 hall rfl trivial ?_;dsimp only [go_sem];refine Z34 4 rfl ?_;refine Z74 hall rfl trivial ?_;dsimp only [go_sem];obtain ⟨x10,ex10,h⟩:=Bs h;refine Z34 6 rfl ?_;refine Z76 hall Sess.row ex10 rfl trivial rfl rfl rfl ?_;dsimp only [go_sem];refine Zp5 hall hs haf hnap 1 5 ?_;dsimp only [go_sem];refine An ?_;refine Z34 8 rfl ?_;refine Z86 hall Sess.row ex10 rfl trivial rfl rfl rfl ?_;dsimp only [go_sem];refine Z34 9 rfl ?_;obtain ⟨x11,ex11,h⟩:=Bs h;refine Z84 hall rfl trivial (Zi9 x10.Need _ ex11) (h:=?_)
    dsimp only [go_sem];refine Z34 10 rfl ?_;refine Z76 hall Sess.row ex10 rfl trivial rfl rfl rfl ?_;dsimp only [go_sem];refine Zp5 hall hs haf hnap 1 1 ?_;dsimp only [go_sem];refine An ?_;refine Z34 12 rfl ?_;refine Za6 hall [.sl 1 (List.map Zb5 x11)] Sess.row (y':=(Sess.mk x10.ID x11 x10.State x10.Age)) ex10 rfl trivial rfl rfl rfl (by first | exact Zg4 _ | simp [go_sem]) rfl rfl rfl rfl ?_;dsimp only [go_sem];refine Z24 rfl ?_ _;refine Zt2 5 ?_;dsimp only [go_sem];refine An ?_;exact Z55 h hin1
   ·refine Z74 hall rfl trivial ?_;dsimp only [go_sem];obtain ⟨x10,ex10,h⟩:=Bs h;refine Z44 1 6 rfl ?_ ?_
    ·refine Z74 hall rfl trivial ?_;dsimp only [go_sem];refine Z34 6 rfl ?_;refine Z76 hall Sess.row ex10 rfl trivial rfl rfl rfl ?_;dsimp only [go_sem];refine Zp5 hall hs haf hnap 1 5 ?_;dsimp only [go_sem];refine An ?_;refine Z34 8 rfl ?_;refine Z86 hall Sess.row ex10 rfl trivial rfl rfl rfl ?_;dsimp only [go_sem];refine Z34 9 rfl ?_;obtain ⟨x11,ex11,h⟩:=Bs h;refine Z84 hall rfl trivial (Zi9 x10.Need _ ex11) (h:=?_);dsimp only [go_sem];refine Z34 10 rfl ?_;refine Z76 hall Sess.row ex10 rfl trivial rfl rfl rfl ?_
     dsimp only [go_sem];refine Zp5 hall hs haf hnap 1 1 ?_;dsimp only [go_sem];refine An ?_;refine Z34 12 rfl ?_;refine Za6 hall [.sl 1 (List.map Zb5 x11)] Sess.row (y':=(Sess.mk x10.ID x11 x10.State x10.Age)) ex10 rfl trivial rfl rfl rfl (by first | exact Zg4 _ | simp [go_sem]) rfl rfl rfl rfl ?_;dsimp only [go_sem];refine Z24 rfl ?_ _;refine Zt2 5 ?_;dsimp only [go_sem];refine An ?_;exact Z55 h hin1
    ·refine Z76 hall Sess.row ex10 rfl trivial rfl rfl rfl ?_;dsimp only [go_sem];refine Zp5 hall hs haf hnap 1 6 ?_;dsimp only [go_sem];refine An ?_;refine Z44 1 8 rfl ?_ ?_
     ·refine Z74 hall rfl trivial ?_;dsimp only [go_sem];refine Z34 8 rfl ?_;refine Z86 hall Sess.row ex10 rfl trivial rfl rfl rfl ?_;dsimp only [go_sem];refine Z34 9 rfl ?_;obtain ⟨x11,ex11,h⟩:=Bs h;refine Z84 hall rfl trivial (Zi9 x10.Need _ ex11) (h:=?_);dsimp only [go_sem];refine Z34 10 rfl ?_;refine Z76 hall Sess.row ex10 rfl trivial rfl rfl rfl ?_;dsimp only [go_sem];refine Zp5 hall hs haf hnap 1 1 ?_;dsimp only [go_sem];refine An ?_;refine Z34 12 rfl ?_
      refine Za6 hall [.sl 1 (List.map Zb5 x11)] Sess.row (y':=(Sess.mk x10.ID x11 x10.State x10.Age)) ex10 rfl trivial rfl rfl rfl (by first | exact Zg4 _ | simp [go_sem]) rfl rfl rfl rfl ?_;dsimp only [go_sem];refine Z24 rfl ?_ _;refine Zt2 5 ?_;dsimp only [go_sem];refine An ?_;exact Z55 h hin1
     ·refine Z86 hall Sess.row ex10 rfl trivial rfl rfl rfl ?_;dsimp only [go_sem];obtain ⟨x11,ex11,h⟩:=Bs h;refine Z44 1 9 rfl ?_ ?_
      ·refine Z74 hall rfl trivial ?_;dsimp only [go_sem];refine Z34 9 rfl ?_;refine Z84 hall rfl trivial (Zi9 x10.Need _ ex11) (h:=?_);dsimp only [go_sem];refine Z34 10 rfl ?_;refine Z76 hall Sess.row ex10 rfl trivial rfl rfl rfl ?_;dsimp only [go_sem];refine Zp5 hall hs haf hnap 1 1 ?_;dsimp only [go_sem];refine An ?_;refine Z34 12 rfl ?_;refine Za6 hall [.sl 1 (List.map Zb5 x11)] Sess.row (y':=(Sess.mk x10.ID x11 x10.State x10.Age)) ex10 rfl trivial rfl rfl rfl (by first | exact Zg4 _ | simp [go_sem]) rfl rfl rfl rfl ?_
       dsimp only [go_sem];refine Z24 rfl ?_ _;refine Zt2 5 ?_;dsimp only [go_sem];refine An ?_;exact Z55 h hin1
      ·refine Z84 hall rfl trivial (Zi9 x10.Need _ ex11) (h:=?_);dsimp only [go_sem];refine Z34 1 rfl ?_;refine Z74 hall rfl trivial ?_;dsimp only [go_sem];refine Z34 10 rfl ?_;refine Z76 hall Sess.row ex10 rfl trivial rfl rfl rfl ?_;dsimp only [go_sem];refine Zp5 hall hs haf hnap 1 1 ?_;dsimp only [go_sem];refine An ?_;refine Z34 12 rfl ?_;refine Za6 hall [.sl 1 (List.map Zb5 x11)] Sess.row (y':=(Sess.mk x10.ID x11 x10.State x10.Age)) ex10 rfl trivial rfl rfl rfl (by first | exact Zg4 _ | simp [go_sem]) rfl rfl rfl rfl ?_
       dsimp only [go_sem];refine Z24 rfl ?_ _;refine Zt2 5 ?_;dsimp only [go_sem];refine An ?_;exact Z55 h hin1
  ·refine Zt2 1 ?_;dsimp only [go_sem];refine An ?_;exact Z65 J1 (s:=x9) (Zt4 h hout1)
def Zag (_F:Nat):(List Sess)→Option (List Sess)
| x35=>
 some x35
theorem Zbg {F:Nat}:∀s,ole (Zag F s) (Z6g s):=by
 intro x35
 unfold Zag Z6g
 try dsimp only
 with_reducible repeat' first | exact Zn4 _ | assumption | intro _ | refine Zo4 ?_ ?_ | refine Zp4 ?_ ?_ | refine Zq4 ?_ | refine Zs4 ?_
def Zcg (F:Nat) (x2:(List Sess)):(Int×(List Sess))→Option ((Int×(List Sess)) ⊕ (List Sess))
| (x8,x9)=>
 ifb (decide (x8<(ln Sess.row x2))) (
 (at_ x9 x8).bind fun x10=>
 (Zj9 F x10.Need).bind fun x11=>
 some (.inl (wr (x8+1),x9.set (Int.toNat (x8)) ((Sess.mk x10.ID x11 x10.State x10.Age))))) (
 Option.map Sum.inr (Zag F x9))
theorem Zdg {F:Nat} {x2:(List Sess)}:∀s,ole (Zcg F x2 s) (Z7g x2 s):=by
 rintro ⟨x8,x9⟩
 unfold Zcg Z7g
 try dsimp only
 with_reducible repeat' first | exact Zn4 _ | assumption | intro _ | refine Zo4 ?_ ?_ | refine Zp4 ?_ ?_ | refine Zq4 ?_ | refine Zs4 ?_ | apply Zbg | apply Zk9
def Zeg (F:Nat) (x1:Book):Option (List Sess):=
 (Zye F x1.Sess).bind fun x2=>
 Zr4 F (Zcg F x2) (0,x2)
theorem Zfg {F:Nat} {x1:Book}:ole (Zeg F x1) (Z8g x1):=by
 unfold Zeg Z8g
 with_reducible repeat' first | exact Zn4 _ | assumption | intro _ | refine Zo4 ?_ ?_ | refine Zp4 ?_ ?_ | refine Zq4 ?_ | refine Zs4 ?_ | apply Zbg | apply Zk9 | apply Zdg | apply Zze
noncomputable def Zgg (x1:Int) (x2:Int) (x3:(List Sess)):(List Sess)→Option (List Sess)
| x11=>
 (vw_ (ln Sess.row x11) ((((Int.toNat (x1)-Int.toNat (0))+(Int.toNat (ln Sess.row x3)-Int.toNat (x2)):Nat):Int)) (ln Sess.row x3)).bind fun _=>
 (clr_ x11 ((Int.toNat ((((Int.toNat (x1)-Int.toNat (0))+(Int.toNat (ln Sess.row x3)-Int.toNat (x2)):Nat):Int)))) (Int.toNat (ln Sess.row x3)-Int.toNat ((((Int.toNat (x1)-Int.toNat (0))+(Int.toNat (ln Sess.row x3)-Int.toNat (x2)):Nat):Int))) ((Sess.mk 0 (([]:(List Int))) 0 0))).bind fun x13=>
 (cut_ x13 ((Int.toNat (x1)-Int.toNat (0))+(Int.toNat (ln Sess.row x3)-Int.toNat (x2)))).bind fun x14=>
 some x14
noncomputable def Zhg (x1:Int) (x2:Int) (x3:(List Sess)):Option (List Sess):=
 (vw_ (ln Sess.row x3) x1 x2).bind fun _=>
 (vw_ (ln Sess.row x3) x2 (ln Sess.row x3)).bind fun _=>
 ifb (decide (x1=x2)) (
 some x3) (
 (vw_ (ln Sess.row x3) 0 x1).bind fun _=>
 (vw_ (ln Sess.row x3) x2 (ln Sess.row x3)).bind fun _=>
 (mvv_ x3 (Int.toNat (x1)-Int.toNat (0)) ((Int.toNat (x2))) (Int.toNat (ln Sess.row x3)-Int.toNat (x2))).bind fun x10=>
 (Zgg x1 x2 x3) x10)
theorem Zig (x1:Int) (x2:Int) (x3:(List Sess)) (r:(List Sess)) (h:Zhg x1 x2 x3=some r):FunT Tryz.prog 158 [.osl 0,.iv x1,.iv x2] [none,none] [some ⟨74,4,List.map Sess.row x3⟩] (.osl 1) [none,none] [none,some ⟨74,4,List.map Sess.row r⟩]:=by
 refine Z46 ok158 rfl rfl rfl (by first | rfl | simp [go_sem]) fun w0 M0=>?_
 rw [Zhg] at h
 dsimp only [lun,List.cons_append,List.nil_append]
 refine Zt2 11 ?_;dsimp only [go_sem];refine An ?_;obtain ⟨x4,ex4,h⟩:=Bs h;obtain ⟨x5,ex5,h⟩:=Bs h;refine V_sl3M Sess.row ex4 ex5 trivial rfl rfl rfl rfl rfl ?_;refine Zt2 8 ?_;dsimp only [go_sem];refine An ?_;refine Zw4 h rfl (fun _ h=>?_) fun _ h=>?_
 ·refine Zt2 5 ?_;dsimp only [go_sem];refine An ?_;refine V_new 74 4 rfl ?_;dsimp only [go_sem];refine Zd4 0 1 rfl rfl rfl ?_;dsimp only [go_sem];obtain rfl:=Option.some.inj h;exact Z56 ok158 rfl (by simp [go_sem])
 ·refine Zt2 8 ?_;dsimp only [go_sem];refine An ?_;refine Zu4 (fun (x11:(List Sess))=>(⟨(.ocs 0 0 4 ((Int.toNat (x1)-Int.toNat (0))+(Int.toNat (ln Sess.row x3)-Int.toNat (x2)))::an 6 (.iv (ln Sess.row x3)::an 25 [])),[none,none],[some ⟨74,4,List.map Sess.row x11⟩]⟩:St)) (Zgg x1 x2 x3) r ?_ fun J1=>?_
  ·intro x11 h;rw [Zgg] at h;(try dsimp only);refine Zt2 6 ?_;dsimp only [go_sem];refine An ?_;obtain ⟨x12,ex12,h⟩:=Bs h;refine V_viewVM Sess.row ex12 trivial rfl rfl rfl rfl ?_;obtain ⟨x13,ex13,h⟩:=Bs h;refine V_clrM Sess.row ex13 trivial rfl rfl (by first | exact Zg4 _ | simp [go_sem]) (by first | rfl | simp [go_sem]) rfl rfl ?_;refine Zt2 6 ?_;dsimp only [go_sem];refine An ?_;obtain ⟨x14,ex14,h⟩:=Bs h
   refine V_cutVM 6 0 4 ((Int.toNat (x1)-Int.toNat (0))+(Int.toNat (ln Sess.row x3)-Int.toNat (x2))) Sess.row ex14 rfl rfl ?_;dsimp only [go_sem];obtain rfl:=Option.some.inj h;exact Z56 ok158 rfl (by simp [go_sem])
  ·refine Zs3 (by kernel_rfl) fun all hall hs hnap haf=>?_;dsimp only [go_sem];refine Zp5 hall hs haf hnap 4 4 ?_;dsimp only [go_sem];refine An ?_;obtain ⟨x6,ex6,h⟩:=Bs h;obtain ⟨x7,ex7,h⟩:=Bs h;refine Z44 2 5 rfl ?_ ?_
   ·refine Zy6 Sess.row ex6 hall rfl trivial rfl rfl rfl rfl ?_;dsimp only [go_sem];refine Z34 5 rfl ?_;refine Zy6 Sess.row ex7 hall rfl trivial rfl rfl rfl rfl ?_;dsimp only [go_sem];refine Z34 6 rfl ?_;obtain ⟨x10,ex10,h⟩:=Bs h;refine GO_appVM Sess.row ex10 hall rfl trivial rfl rfl rfl ?_;dsimp only [go_sem];refine Zp5 hall hs haf hnap 1 0 ?_;dsimp only [go_sem];refine An ?_;refine Z24 rfl ?_ _;exact Z65 J1 (s:=x10) h
   ·refine Zy6 Sess.row ex7 hall rfl trivial rfl rfl rfl rfl ?_;dsimp only [go_sem];refine Z34 2 rfl ?_;refine Zy6 Sess.row ex6 hall rfl trivial rfl rfl rfl rfl ?_;dsimp only [go_sem];refine Z34 6 rfl ?_;obtain ⟨x10,ex10,h⟩:=Bs h;refine GO_appVM Sess.row ex10 hall rfl trivial rfl rfl rfl ?_;dsimp only [go_sem];refine Zp5 hall hs haf hnap 1 0 ?_;dsimp only [go_sem];refine An ?_;refine Z24 rfl ?_ _;exact Z65 J1 (s:=x10) h
def Zjg (_F:Nat) (x1:Int) (x2:Int) (x3:(List Sess)):(List Sess)→Option (List Sess)
| x11=>
 (vw_ (ln Sess.row x11) ((((Int.toNat (x1)-Int.toNat (0))+(Int.toNat (ln Sess.row x3)-Int.toNat (x2)):Nat):Int)) (ln Sess.row x3)).bind fun _=>
 (clr_ x11 ((Int.toNat ((((Int.toNat (x1)-Int.toNat (0))+(Int.toNat (ln Sess.row x3)-Int.toNat (x2)):Nat):Int)))) (Int.toNat (ln Sess.row x3)-Int.toNat ((((Int.toNat (x1)-Int.toNat (0))+(Int.toNat (ln Sess.row x3)-Int.toNat (x2)):Nat):Int))) ((Sess.mk 0 (([]:(List Int))) 0 0))).bind fun x13=>
 (cut_ x13 ((Int.toNat (x1)-Int.toNat (0))+(Int.toNat (ln Sess.row x3)-Int.toNat (x2)))).bind fun x14=>
 some x14
theorem Zkg {F:Nat} {x1:Int} {x2:Int} {x3:(List Sess)}:∀s,ole (Zjg F x1 x2 x3 s) (Zgg x1 x2 x3 s):=by
 intro x11
 unfold Zjg Zgg
 try dsimp only
 with_reducible repeat' first | exact Zn4 _ | assumption | intro _ | refine Zo4 ?_ ?_ | refine Zp4 ?_ ?_ | refine Zq4 ?_ | refine Zs4 ?_
def Zlg (F:Nat) (x1:Int) (x2:Int) (x3:(List Sess)):Option (List Sess):=
 (vw_ (ln Sess.row x3) x1 x2).bind fun _=>
 (vw_ (ln Sess.row x3) x2 (ln Sess.row x3)).bind fun _=>
 ifb (decide (x1=x2)) (
 some x3) (
 (vw_ (ln Sess.row x3) 0 x1).bind fun _=>
 (vw_ (ln Sess.row x3) x2 (ln Sess.row x3)).bind fun _=>
 (mvv_ x3 (Int.toNat (x1)-Int.toNat (0)) ((Int.toNat (x2))) (Int.toNat (ln Sess.row x3)-Int.toNat (x2))).bind fun x10=>
 (Zjg F x1 x2 x3) x10)
theorem Zmg {F:Nat} {x1:Int} {x2:Int} {x3:(List Sess)}:ole (Zlg F x1 x2 x3) (Zhg x1 x2 x3):=by
 unfold Zlg Zhg
 with_reducible repeat' first | exact Zn4 _ | assumption | intro _ | refine Zo4 ?_ ?_ | refine Zp4 ?_ ?_ | refine Zq4 ?_ | refine Zs4 ?_ | apply Zkg
noncomputable def Zng (x1:Book) (x2:Int):Int→Option (Book×Int)
| x6=>
 ifb (!decide (x6=0)) (
 some ((Book.mk 0 (([]:(List Sess)))),x6)) (
 (Z8g x1).bind fun x7=>
 (Zzf ((Book.mk x1.Last x7)) x2).bind fun x8=>
 (Zhg x8 (wr (x8+1)) x7).bind fun x11=>
 some ((Book.mk x1.Last x11),0))
noncomputable def Zog (x1:Book) (x2:Int) (x4:(Int×Int)):Bool→Option (Book×Int)
| x5=>
 ifb x5 (
 (Zng x1 x2) 175) (
 (Zng x1 x2) x4.2)
noncomputable def Zpg (x1:Book) (x2:Int) (x3:Int):Option (Book×Int):=
 (Z3g x1 x2).bind fun x4=>
 ifb (decide (x4.2=0)) (
 (Zog x1 x2 x4) (!decide (x4.1=x3))) (
 (Zog x1 x2 x4) false)
theorem Zqg (x1:Book) (x2:Int) (x3:Int) (r:(Book×Int)) (h:Zpg x1 x2 x3=some r):Zy2 Tryz.prog 120 [.agg (Book.row x1),.iv x2,.iv x3] (.tup [.agg (Book.row r.1),.iv r.2]):=by
 refine Z23 Z5g rfl rfl fun w0 H0=>?_
 rw [Zpg] at h
 refine Zt2 10 ?_;dsimp only [go_sem];refine An ?_;obtain ⟨x4,ex4,h⟩:=Bs h;refine Z73 trivial (k_sess_Poll x1 x2 _ ex4) (h:=?_);refine Zt2 12 ?_;dsimp only [go_sem];refine An ?_;refine Zu4 (fun (x5:Bool)=>(⟨(.any :: .iv x2 :: .any :: .ptr 0 0 :: .any :: .any :: .ptr 1 0 :: .any :: .any :: .iv x4.2::an 12 (.bv x5::an 18 [])),[some ⟨64,[.iv x1.Last,.sl 4 (List.map Sess.row x1.Sess)]⟩,some ⟨64,[.iv 0,.nl]⟩],[]⟩:St)) (Zog x1 x2 x4) r ?_ fun J1=>?_
 ·intro x5 h;rw [Zog] at h;(try dsimp only);refine Zu4 (fun (x6:Int)=>(⟨(.any :: .iv x2 :: .any :: .ptr 0 0 :: .any :: .any :: .ptr 1 0 :: .any :: .any :: .iv x6::an 31 []),[some ⟨64,[.iv x1.Last,.sl 4 (List.map Sess.row x1.Sess)]⟩,some ⟨64,[.iv 0,.nl]⟩],[]⟩:St)) (Zng x1 x2) r ?_ fun J2=>?_
  ·intro x6 h;rw [Zng] at h;(try dsimp only);refine Zt2 6 ?_;dsimp only [go_sem];refine An ?_;refine Zw4 h rfl (fun _ h=>?_) fun _ h=>?_
   ·refine Zt2 7 ?_;dsimp only [go_sem];refine An ?_;exact Z45 (res:=fun (r:(Book×Int))=>.tup [.agg (Book.row r.1),.iv r.2]) Z5g h
   ·refine Zt2 4 ?_;dsimp only [go_sem];refine An ?_;obtain ⟨x7,ex7,h⟩:=Bs h;refine Z66 [false,false] [] trivial (Z9g x1 _ ex7) (h:=?_);dsimp only [go_sem];refine Zt2 3 ?_;dsimp only [go_sem];refine An ?_;refine Zs3 (by kernel_rfl) fun all hall hs hnap haf=>?_;dsimp only [go_sem];refine Zp5 hall hs haf hnap 3 9 ?_;dsimp only [go_sem];refine An ?_;refine G_three 1 2 5 rfl ?_ ?_ ?_
    ·refine Z74 hall rfl trivial ?_;dsimp only [go_sem];refine Z44 2 5 rfl ?_ ?_
     ·refine Z74 hall rfl trivial ?_;dsimp only [go_sem];obtain ⟨x8,ex8,h⟩:=Bs h;refine Z44 4 5 rfl ?_ ?_
      ·refine Z95 hall rfl trivial ((Z75.refl _).slice 0 rfl) (Z0g ((Book.mk x1.Last x7)) x2 _ ex8) (h:=?_);dsimp only [go_sem];refine Z34 5 rfl ?_;refine Z74 hall rfl trivial ?_;dsimp only [go_sem];refine Z34 7 rfl ?_;refine Z95 hall rfl trivial ((Z75.refl _).slice 0 rfl) (Z0g ((Book.mk x1.Last x7)) x2 _ ex8) (h:=?_);dsimp only [go_sem];refine Zp5 hall hs haf hnap 1 3 ?_;dsimp only [go_sem];refine An ?_;refine Z34 9 rfl ?_;obtain ⟨x11,ex11,h⟩:=Bs h
       refine Zw6 hall [false,false] [true] rfl trivial (Zig x8 (wr (x8+1)) x7 _ ex11) (h:=?_);dsimp only [go_sem];refine Zp5 hall hs haf hnap 1 1 ?_;dsimp only [go_sem];refine An ?_;refine Z34 11 rfl ?_;refine Z74 hall rfl trivial ?_;dsimp only [go_sem];refine Z24 rfl ?_ _;refine Zt2 6 ?_;dsimp only [go_sem];refine An ?_;refine Zk3 1 rfl ?_;dsimp only [go_sem];exact Z45 (res:=fun (r:(Book×Int))=>.tup [.agg (Book.row r.1),.iv r.2]) Z5g h
      ·refine Z74 hall rfl trivial ?_;dsimp only [go_sem];refine Z34 4 rfl ?_;refine Z95 hall rfl trivial ((Z75.refl _).slice 0 rfl) (Z0g ((Book.mk x1.Last x7)) x2 _ ex8) (h:=?_);dsimp only [go_sem];refine Z34 7 rfl ?_;refine Z95 hall rfl trivial ((Z75.refl _).slice 0 rfl) (Z0g ((Book.mk x1.Last x7)) x2 _ ex8) (h:=?_);dsimp only [go_sem];refine Zp5 hall hs haf hnap 1 3 ?_;dsimp only [go_sem];refine An ?_;refine Z34 9 rfl ?_;obtain ⟨x11,ex11,h⟩:=Bs h
       refine Zw6 hall [false,false] [true] rfl trivial (Zig x8 (wr (x8+1)) x7 _ ex11) (h:=?_);dsimp only [go_sem];refine Zp5 hall hs haf hnap 1 1 ?_;dsimp only [go_sem];refine An ?_;refine Z34 11 rfl ?_;refine Z74 hall rfl trivial ?_;dsimp only [go_sem];refine Z24 rfl ?_ _;refine Zt2 6 ?_;dsimp only [go_sem];refine An ?_;refine Zk3 1 rfl ?_;dsimp only [go_sem];exact Z45 (res:=fun (r:(Book×Int))=>.tup [.agg (Book.row r.1),.iv r.2]) Z5g h
     ·refine Z74 hall rfl trivial ?_;dsimp only [go_sem];refine Z34 2 rfl ?_;refine Z74 hall rfl trivial ?_;dsimp only [go_sem];refine Z34 4 rfl ?_;obtain ⟨x8,ex8,h⟩:=Bs h;refine Z95 hall rfl trivial ((Z75.refl _).slice 0 rfl) (Z0g ((Book.mk x1.Last x7)) x2 _ ex8) (h:=?_);dsimp only [go_sem];refine Z34 7 rfl ?_;refine Z95 hall rfl trivial ((Z75.refl _).slice 0 rfl) (Z0g ((Book.mk x1.Last x7)) x2 _ ex8) (h:=?_);dsimp only [go_sem];refine Zp5 hall hs haf hnap 1 3 ?_;dsimp only [go_sem];refine An ?_;refine Z34 9 rfl ?_
      obtain ⟨x10,ex10,h⟩:=Bs h;refine Zw6 hall [false,false] [true] rfl trivial (Zig x8 (wr (x8+1)) x7 _ ex10) (h:=?_);dsimp only [go_sem];refine Zp5 hall hs haf hnap 1 1 ?_;dsimp only [go_sem];refine An ?_;refine Z34 11 rfl ?_;refine Z74 hall rfl trivial ?_;dsimp only [go_sem];refine Z24 rfl ?_ _;refine Zt2 6 ?_;dsimp only [go_sem];refine An ?_;refine Zk3 1 rfl ?_;dsimp only [go_sem];exact Z45 (res:=fun (r:(Book×Int))=>.tup [.agg (Book.row r.1),.iv r.2]) Z5g h
    ·refine Z74 hall rfl trivial ?_;dsimp only [go_sem];obtain ⟨x8,ex8,h⟩:=Bs h;refine G_three 1 4 5 rfl ?_ ?_ ?_
     ·refine Z74 hall rfl trivial ?_;dsimp only [go_sem];refine Z44 4 5 rfl ?_ ?_
      ·refine Z95 hall rfl trivial ((Z75.refl _).slice 0 rfl) (Z0g ((Book.mk x1.Last x7)) x2 _ ex8) (h:=?_);dsimp only [go_sem];refine Z34 5 rfl ?_;refine Z74 hall rfl trivial ?_;dsimp only [go_sem];refine Z34 7 rfl ?_;refine Z95 hall rfl trivial ((Z75.refl _).slice 0 rfl) (Z0g ((Book.mk x1.Last x7)) x2 _ ex8) (h:=?_);dsimp only [go_sem];refine Zp5 hall hs haf hnap 1 3 ?_;dsimp only [go_sem];refine An ?_;refine Z34 9 rfl ?_;obtain ⟨x11,ex11,h⟩:=Bs h
       refine Zw6 hall [false,false] [true] rfl trivial (Zig x8 (wr (x8+1)) x7 _ ex11) (h:=?_);dsimp only [go_sem];refine Zp5 hall hs haf hnap 1 1 ?_;dsimp only [go_sem];refine An ?_;refine Z34 11 rfl ?_;refine Z74 hall rfl trivial ?_;dsimp only [go_sem];refine Z24 rfl ?_ _;refine Zt2 6 ?_;dsimp only [go_sem];refine An ?_;refine Zk3 1 rfl ?_;dsimp only [go_sem];exact Z45 (res:=fun (r:(Book×Int))=>.tup [.agg (Book.row r.1),.iv r.2]) Z5g h
      ·refine Z74 hall rfl trivial ?_;dsimp only [go_sem];refine Z34 4 rfl ?_;refine Z95 hall rfl trivial ((Z75.refl _).slice 0 rfl) (Z0g ((Book.mk x1.Last x7)) x2 _ ex8) (h:=?_);dsimp only [go_sem];refine Z34 7 rfl ?_;refine Z95 hall rfl trivial ((Z75.refl _).slice 0 rfl) (Z0g ((Book.mk x1.Last x7)) x2 _ ex8) (h:=?_);dsimp only [go_sem];refine Zp5 hall hs haf hnap 1 3 ?_;dsimp only [go_sem];refine An ?_;refine Z34 9 rfl ?_;obtain ⟨x11,ex11,h⟩:=Bs h
       refine Zw6 hall [false,false] [true] rfl trivial (Zig x8 (wr (x8+1)) x7 _ ex11) (h:=?_);dsimp only [go_sem];refine Zp5 hall hs haf hnap 1 1 ?_;dsimp only [go_sem];refine An ?_;refine Z34 11 rfl ?_;refine Z74 hall rfl trivial ?_;dsimp only [go_sem];refine Z24 rfl ?_ _;refine Zt2 6 ?_;dsimp only [go_sem];refine An ?_;refine Zk3 1 rfl ?_;dsimp only [go_sem];exact Z45 (res:=fun (r:(Book×Int))=>.tup [.agg (Book.row r.1),.iv r.2]) Z5g h
     ·refine Z95 hall rfl trivial ((Z75.refl _).slice 0 rfl) (Z0g ((Book.mk x1.Last x7)) x2 _ ex8) (h:=?_);dsimp only [go_sem];refine Z44 1 5 rfl ?_ ?_
      ·refine Z74 hall rfl trivial ?_;dsimp only [go_sem];refine Z34 5 rfl ?_;refine Z74 hall rfl trivial ?_;dsimp only [go_sem];refine Z34 7 rfl ?_;refine Z95 hall rfl trivial ((Z75.refl _).slice 0 rfl) (Z0g ((Book.mk x1.Last x7)) x2 _ ex8) (h:=?_);dsimp only [go_sem];refine Zp5 hall hs haf hnap 1 3 ?_;dsimp only [go_sem];refine An ?_;refine Z34 9 rfl ?_;obtain ⟨x11,ex11,h⟩:=Bs h;refine Zw6 hall [false,false] [true] rfl trivial (Zig x8 (wr (x8+1)) x7 _ ex11) (h:=?_);dsimp only [go_sem]
       refine Zp5 hall hs haf hnap 1 1 ?_;dsimp only [go_sem];refine An ?_;refine Z34 11 rfl ?_;refine Z74 hall rfl trivial ?_;dsimp only [go_sem];refine Z24 rfl ?_ _;refine Zt2 6 ?_;dsimp only [go_sem];refine An ?_;refine Zk3 1 rfl ?_;dsimp only [go_sem];exact Z45 (res:=fun (r:(Book×Int))=>.tup [.agg (Book.row r.1),.iv r.2]) Z5g h
      ·refine Z74 hall rfl trivial ?_;dsimp only [go_sem];refine Z44 1 7 rfl ?_ ?_
       ·refine Z74 hall rfl trivial ?_;dsimp only [go_sem];refine Z34 7 rfl ?_;refine Z95 hall rfl trivial ((Z75.refl _).slice 0 rfl) (Z0g ((Book.mk x1.Last x7)) x2 _ ex8) (h:=?_);dsimp only [go_sem];refine Zp5 hall hs haf hnap 1 3 ?_;dsimp only [go_sem];refine An ?_;refine Z34 9 rfl ?_;obtain ⟨x11,ex11,h⟩:=Bs h;refine Zw6 hall [false,false] [true] rfl trivial (Zig x8 (wr (x8+1)) x7 _ ex11) (h:=?_);dsimp only [go_sem];refine Zp5 hall hs haf hnap 1 1 ?_;dsimp only [go_sem];refine An ?_
        refine Z34 11 rfl ?_;refine Z74 hall rfl trivial ?_;dsimp only [go_sem];refine Z24 rfl ?_ _;refine Zt2 6 ?_;dsimp only [go_sem];refine An ?_;refine Zk3 1 rfl ?_;dsimp only [go_sem];exact Z45 (res:=fun (r:(Book×Int))=>.tup [.agg (Book.row r.1),.iv r.2]) Z5g h
       ·refine Z95 hall rfl trivial ((Z75.refl _).slice 0 rfl) (Z0g ((Book.mk x1.Last x7)) x2 _ ex8) (h:=?_);dsimp only [go_sem];refine Zp5 hall hs haf hnap 1 4 ?_;dsimp only [go_sem];refine An ?_;refine Z34 1 rfl ?_;refine Z74 hall rfl trivial ?_;dsimp only [go_sem];refine Z34 9 rfl ?_;obtain ⟨x11,ex11,h⟩:=Bs h;refine Zw6 hall [false,false] [true] rfl trivial (Zig x8 (wr (x8+1)) x7 _ ex11) (h:=?_);dsimp only [go_sem];refine Zp5 hall hs haf hnap 1 1 ?_;dsimp only [go_sem];refine An ?_
        refine Z34 11 rfl ?_;refine Z74 hall rfl trivial ?_;dsimp only [go_sem];refine Z24 rfl ?_ _;refine Zt2 6 ?_;dsimp only [go_sem];refine An ?_;refine Zk3 1 rfl ?_;dsimp only [go_sem];exact Z45 (res:=fun (r:(Book×Int))=>.tup [.agg (Book.row r.1),.iv r.2]) Z5g h
     ·refine Z74 hall rfl trivial ?_;dsimp only [go_sem];refine Z44 1 4 rfl ?_ ?_
      ·refine Z74 hall rfl trivial ?_;dsimp only [go_sem];refine Z34 4 rfl ?_;refine Z95 hall rfl trivial ((Z75.refl _).slice 0 rfl) (Z0g ((Book.mk x1.Last x7)) x2 _ ex8) (h:=?_);dsimp only [go_sem];refine Z34 7 rfl ?_;refine Z95 hall rfl trivial ((Z75.refl _).slice 0 rfl) (Z0g ((Book.mk x1.Last x7)) x2 _ ex8) (h:=?_);dsimp only [go_sem];refine Zp5 hall hs haf hnap 1 3 ?_;dsimp only [go_sem];refine An ?_;refine Z34 9 rfl ?_;obtain ⟨x11,ex11,h⟩:=Bs h
       refine Zw6 hall [false,false] [true] rfl trivial (Zig x8 (wr (x8+1)) x7 _ ex11) (h:=?_);dsimp only [go_sem];refine Zp5 hall hs haf hnap 1 1 ?_;dsimp only [go_sem];refine An ?_;refine Z34 11 rfl ?_;refine Z74 hall rfl trivial ?_;dsimp only [go_sem];refine Z24 rfl ?_ _;refine Zt2 6 ?_;dsimp only [go_sem];refine An ?_;refine Zk3 1 rfl ?_;dsimp only [go_sem];exact Z45 (res:=fun (r:(Book×Int))=>.tup [.agg (Book.row r.1),.iv r.2]) Z5g h
      ·refine Z95 hall rfl trivial ((Z75.refl _).slice 0 rfl) (Z0g ((Book.mk x1.Last x7)) x2 _ ex8) (h:=?_);dsimp only [go_sem];refine Z44 1 7 rfl ?_ ?_
       ·refine Z74 hall rfl trivial ?_;dsimp only [go_sem];refine Z34 7 rfl ?_;refine Z95 hall rfl trivial ((Z75.refl _).slice 0 rfl) (Z0g ((Book.mk x1.Last x7)) x2 _ ex8) (h:=?_);dsimp only [go_sem];refine Zp5 hall hs haf hnap 1 3 ?_;dsimp only [go_sem];refine An ?_;refine Z34 9 rfl ?_;obtain ⟨x11,ex11,h⟩:=Bs h;refine Zw6 hall [false,false] [true] rfl trivial (Zig x8 (wr (x8+1)) x7 _ ex11) (h:=?_);dsimp only [go_sem];refine Zp5 hall hs haf hnap 1 1 ?_;dsimp only [go_sem];refine An ?_
        refine Z34 11 rfl ?_;refine Z74 hall rfl trivial ?_;dsimp only [go_sem];refine Z24 rfl ?_ _;refine Zt2 6 ?_;dsimp only [go_sem];refine An ?_;refine Zk3 1 rfl ?_;dsimp only [go_sem];exact Z45 (res:=fun (r:(Book×Int))=>.tup [.agg (Book.row r.1),.iv r.2]) Z5g h
       ·refine Z95 hall rfl trivial ((Z75.refl _).slice 0 rfl) (Z0g ((Book.mk x1.Last x7)) x2 _ ex8) (h:=?_);dsimp only [go_sem];refine Zp5 hall hs haf hnap 1 4 ?_;dsimp only [go_sem];refine An ?_;refine Z34 1 rfl ?_;refine Z74 hall rfl trivial ?_;dsimp only [go_sem];refine Z34 9 rfl ?_;obtain ⟨x11,ex11,h⟩:=Bs h;refine Zw6 hall [false,false] [true] rfl trivial (Zig x8 (wr (x8+1)) x7 _ ex11) (h:=?_);dsimp only [go_sem];refine Zp5 hall hs haf hnap 1 1 ?_;dsimp only [go_sem];refine An ?_
        refine Z34 11 rfl ?_;refine Z74 hall rfl trivial ?_;dsimp only [go_sem];refine Z24 rfl ?_ _;refine Zt2 6 ?_;dsimp only [go_sem];refine An ?_;refine Zk3 1 rfl ?_;dsimp only [go_sem];exact Z45 (res:=fun (r:(Book×Int))=>.tup [.agg (Book.row r.1),.iv r.2]) Z5g h
    ·refine Z74 hall rfl trivial ?_;dsimp only [go_sem];refine Z44 1 2 rfl ?_ ?_
     ·refine Z74 hall rfl trivial ?_;dsimp only [go_sem];refine Z34 2 rfl ?_;refine Z74 hall rfl trivial ?_;dsimp only [go_sem];refine Z34 4 rfl ?_;obtain ⟨x8,ex8,h⟩:=Bs h;refine Z95 hall rfl trivial ((Z75.refl _).slice 0 rfl) (Z0g ((Book.mk x1.Last x7)) x2 _ ex8) (h:=?_);dsimp only [go_sem];refine Z34 7 rfl ?_;refine Z95 hall rfl trivial ((Z75.refl _).slice 0 rfl) (Z0g ((Book.mk x1.Last x7)) x2 _ ex8) (h:=?_);dsimp only [go_sem];refine Zp5 hall hs haf hnap 1 3 ?_;dsimp only [go_sem];refine An ?_;refine Z34 9 rfl ?_
      obtain ⟨x10,ex10,h⟩:=Bs h;refine Zw6 hall [false,false] [true] rfl trivial (Zig x8 (wr (x8+1)) x7 _ ex10) (h:=?_);dsimp only [go_sem];refine Zp5 hall hs haf hnap 1 1 ?_;dsimp only [go_sem];refine An ?_;refine Z34 11 rfl ?_;refine Z74 hall rfl trivial ?_;dsimp only [go_sem];refine Z24 rfl ?_ _;refine Zt2 6 ?_;dsimp only [go_sem];refine An ?_;refine Zk3 1 rfl ?_;dsimp only [go_sem];exact Z45 (res:=fun (r:(Book×Int))=>.tup [.agg (Book.row r.1),.iv r.2]) Z5g h
     ·refine Z74 hall rfl trivial ?_;dsimp only [go_sem];obtain ⟨x8,ex8,h⟩:=Bs h;refine Z44 1 4 rfl ?_ ?_
      ·refine Z74 hall rfl trivial ?_;dsimp only [go_sem];refine Z34 4 rfl ?_;refine Z95 hall rfl trivial ((Z75.refl _).slice 0 rfl) (Z0g ((Book.mk x1.Last x7)) x2 _ ex8) (h:=?_);dsimp only [go_sem];refine Z34 7 rfl ?_;refine Z95 hall rfl trivial ((Z75.refl _).slice 0 rfl) (Z0g ((Book.mk x1.Last x7)) x2 _ ex8) (h:=?_);dsimp only [go_sem];refine Zp5 hall hs haf hnap 1 3 ?_;dsimp only [go_sem];refine An ?_;refine Z34 9 rfl ?_;obtain ⟨x11,ex11,h⟩:=Bs h
       refine Zw6 hall [false,false] [true] rfl trivial (Zig x8 (wr (x8+1)) x7 _ ex11) (h:=?_);dsimp only [go_sem];refine Zp5 hall hs haf hnap 1 1 ?_;dsimp only [go_sem];refine An ?_;refine Z34 11 rfl ?_;refine Z74 hall rfl trivial ?_;dsimp only [go_sem];refine Z24 rfl ?_ _;refine Zt2 6 ?_;dsimp only [go_sem];refine An ?_;refine Zk3 1 rfl ?_;dsimp only [go_sem];exact Z45 (res:=fun (r:(Book×Int))=>.tup [.agg (Book.row r.1),.iv r.2]) Z5g h
      ·refine Z95 hall rfl trivial ((Z75.refl _).slice 0 rfl) (Z0g ((Book.mk x1.Last x7)) x2 _ ex8) (h:=?_);dsimp only [go_sem];refine Z44 1 7 rfl ?_ ?_
       ·refine Z74 hall rfl trivial ?_;dsimp only [go_sem];refine Z34 7 rfl ?_;refine Z95 hall rfl trivial ((Z75.refl _).slice 0 rfl) (Z0g ((Book.mk x1.Last x7)) x2 _ ex8) (h:=?_);dsimp only [go_sem];refine Zp5 hall hs haf hnap 1 3 ?_;dsimp only [go_sem];refine An ?_;refine Z34 9 rfl ?_;obtain ⟨x11,ex11,h⟩:=Bs h;refine Zw6 hall [false,false] [true] rfl trivial (Zig x8 (wr (x8+1)) x7 _ ex11) (h:=?_);dsimp only [go_sem];refine Zp5 hall hs haf hnap 1 1 ?_;dsimp only [go_sem];refine An ?_
        refine Z34 11 rfl ?_;refine Z74 hall rfl trivial ?_;dsimp only [go_sem];refine Z24 rfl ?_ _;refine Zt2 6 ?_;dsimp only [go_sem];refine An ?_;refine Zk3 1 rfl ?_;dsimp only [go_sem];exact Z45 (res:=fun (r:(Book×Int))=>.tup [.agg (Book.row r.1),.iv r.2]) Z5g h
       ·refine Z95 hall rfl trivial ((Z75.refl _).slice 0 rfl) (Z0g ((Book.mk x1.Last x7)) x2 _ ex8) (h:=?_);dsimp only [go_sem];refine Zp5 hall hs haf hnap 1 4 ?_;dsimp only [go_sem];refine An ?_;refine Z34 1 rfl ?_;refine Z74 hall rfl trivial ?_;dsimp only [go_sem];refine Z34 9 rfl ?_;obtain ⟨x11,ex11,h⟩:=Bs h;refine Zw6 hall [false,false] [true] rfl trivial (Zig x8 (wr (x8+1)) x7 _ ex11) (h:=?_);dsimp only [go_sem];refine Zp5 hall hs haf hnap 1 1 ?_;dsimp only [go_sem];refine An ?_
        refine Z34 11 rfl ?_;refine Z74 hall rfl trivial ?_;dsimp only [go_sem];refine Z24 rfl ?_ _;refine Zt2 6 ?_;dsimp only [go_sem];refine An ?_;refine Zk3 1 rfl ?_;dsimp only [go_sem];exact Z45 (res:=fun (r:(Book×Int))=>.tup [.agg (Book.row r.1),.iv r.2]) Z5g h
  ·refine Zw4 h rfl (fun _ h=>?_) fun _ h=>?_
   ·refine Zt2 3 ?_;dsimp only [go_sem];refine An ?_;exact Z65 J2 (s:=175) h
   ·refine Zt2 1 ?_;dsimp only [go_sem];refine An ?_;exact Z65 J2 (s:=x4.2) h
 ·refine Z35 18 h rfl (fun _ h=>?_) fun _ h=>?_
  ·dsimp only [go_sem];refine Zt2 5 ?_;dsimp only [go_sem];refine An ?_;exact Z65 J1 (s:=!decide (x4.1=x3)) h
  ·dsimp only [go_sem];refine Zt2 5 ?_;dsimp only [go_sem];refine An ?_;exact Z65 J1 (s:=false) h
def Zrg (F:Nat) (x1:Book) (x2:Int):Int→Option (Book×Int)
| x6=>
 ifb (!decide (x6=0)) (
 some ((Book.mk 0 (([]:(List Sess)))),x6)) (
 (Zeg F x1).bind fun x7=>
 (Z1g F ((Book.mk x1.Last x7)) x2).bind fun x8=>
 (Zlg F x8 (wr (x8+1)) x7).bind fun x11=>
 some ((Book.mk x1.Last x11),0))
theorem Zsg {F:Nat} {x1:Book} {x2:Int}:∀s,ole (Zrg F x1 x2 s) (Zng x1 x2 s):=by
 intro x6
 unfold Zrg Zng
 try dsimp only
 with_reducible repeat' first | exact Zn4 _ | assumption | intro _ | refine Zo4 ?_ ?_ | refine Zp4 ?_ ?_ | refine Zq4 ?_ | refine Zs4 ?_ | apply Zfg | apply Z2g | apply Zmg
def Ztg (F:Nat) (x1:Book) (x2:Int) (x4:(Int×Int)):Bool→Option (Book×Int)
| x5=>
 ifb x5 (
 (Zrg F x1 x2) 175) (
 (Zrg F x1 x2) x4.2)
theorem Zug {F:Nat} {x1:Book} {x2:Int} {x4:(Int×Int)}:∀s,ole (Ztg F x1 x2 x4 s) (Zog x1 x2 x4 s):=by
 intro x5
 unfold Ztg Zog
 try dsimp only
 with_reducible repeat' first | exact Zn4 _ | assumption | intro _ | refine Zo4 ?_ ?_ | refine Zp4 ?_ ?_ | refine Zq4 ?_ | refine Zs4 ?_ | apply Zfg | apply Z2g | apply Zmg | apply Zsg
def Zvg (F:Nat) (x1:Book) (x2:Int) (x3:Int):Option (Book×Int):=
 (Z4g F x1 x2).bind fun x4=>
 ifb (decide (x4.2=0)) (
 (Ztg F x1 x2 x4) (!decide (x4.1=x3))) (
 (Ztg F x1 x2 x4) false)
theorem Zwg {F:Nat} {x1:Book} {x2:Int} {x3:Int}:ole (Zvg F x1 x2 x3) (Zpg x1 x2 x3):=by
 unfold Zvg Zpg
 with_reducible repeat' first | exact Zn4 _ | assumption | intro _ | refine Zo4 ?_ ?_ | refine Zp4 ?_ ?_ | refine Zq4 ?_ | refine Zs4 ?_ | apply Zfg | apply Z2g | apply Zmg | apply Zsg | apply Zug | apply le_sess_Poll
set_option maxRecDepth 100000
set_option maxHeartbeats 4000000
@[go_sem] def e85:EC:=.seq (.reg [(Qx 2 64 2 0),(Qa 4 (.alloc 64 [.iv 0,.nl])),(Qi 5 0)]) (.seq (.reg [(Qe 6 2 2),(Qm 7 1),(Qa 8 (.call 120 [(.t 6),(.t 7),(.c (.iv 1))])),(Qa 9 (.ext (.t 8) 0)),(Qa 10 (.ext (.t 8) 1)),(Qs 2 4 9),(Qm 5 10)]) (.ret))
theorem ok85:FnOK Tryz.prog 85 Tryz.f85 e85 [.c 4 (some 2),.t 5] 2 9:=⟨by kernel_rfl,⟨_,rfl,by kernel_rfl⟩,by kernel_rfl,by kernel_rfl⟩
noncomputable def Zxg (x1:Book) (x2:Int):Option (Book×Int):=
 (Zpg x1 x2 1).bind fun x3=>
 some (x3.1,x3.2)
theorem Zyg (x1:Book) (x2:Int) (r:(Book×Int)) (h:Zxg x1 x2=some r):Zy2 Tryz.prog 85 [.agg (Book.row x1),.iv x2] (.tup [.agg (Book.row r.1),.iv r.2]):=by
 refine Z23 ok85 rfl rfl fun w0 H0=>?_
 rw [Zxg] at h
 refine Zt2 10 ?_;dsimp only [go_sem];refine An ?_;obtain ⟨x3,ex3,h⟩:=Bs h;refine Z73 trivial (Zqg x1 x2 1 _ ex3) (h:=?_);refine Zt2 5 ?_;dsimp only [go_sem];refine An ?_;exact Z45 (res:=fun (r:(Book×Int))=>.tup [.agg (Book.row r.1),.iv r.2]) ok85 h
def Zzg (F:Nat) (x1:Book) (x2:Int):Option (Book×Int):=
 (Zvg F x1 x2 1).bind fun x3=>
 some (x3.1,x3.2)
theorem Z0h {F:Nat} {x1:Book} {x2:Int}:ole (Zzg F x1 x2) (Zxg x1 x2):=by
 unfold Zzg Zxg
 with_reducible repeat' first | exact Zn4 _ | assumption | intro _ | refine Zo4 ?_ ?_ | refine Zp4 ?_ ?_ | refine Zq4 ?_ | refine Zs4 ?_ | apply Zwg
set_option maxRecDepth 100000
set_option maxHeartbeats 4000000
@[go_sem] def e87:EC:=.seq (.reg [(Qx 2 64 2 0),(Qa 4 (.alloc 64 [.iv 0,.nl])),(Qi 5 0)]) (.seq (.reg [(Qe 6 2 2),(Qm 7 1),(Qa 8 (.call 120 [(.t 6),(.t 7),(.c (.iv 0))])),(Qa 9 (.ext (.t 8) 0)),(Qa 10 (.ext (.t 8) 1)),(Qs 2 4 9),(Qm 5 10)]) (.ret))
theorem ok87:FnOK Tryz.prog 87 Tryz.f87 e87 [.c 4 (some 2),.t 5] 2 9:=⟨by kernel_rfl,⟨_,rfl,by kernel_rfl⟩,by kernel_rfl,by kernel_rfl⟩
noncomputable def Z1h (x1:Book) (x2:Int):Option (Book×Int):=
 (Zpg x1 x2 0).bind fun x3=>
 some (x3.1,x3.2)
theorem k_sess_Cancel (x1:Book) (x2:Int) (r:(Book×Int)) (h:Z1h x1 x2=some r):Zy2 Tryz.prog 87 [.agg (Book.row x1),.iv x2] (.tup [.agg (Book.row r.1),.iv r.2]):=by
 refine Z23 ok87 rfl rfl fun w0 H0=>?_
 rw [Z1h] at h
 refine Zt2 10 ?_;dsimp only [go_sem];refine An ?_;obtain ⟨x3,ex3,h⟩:=Bs h;refine Z73 trivial (Zqg x1 x2 0 _ ex3) (h:=?_);refine Zt2 5 ?_;dsimp only [go_sem];refine An ?_;exact Z45 (res:=fun (r:(Book×Int))=>.tup [.agg (Book.row r.1),.iv r.2]) ok87 h
def Z2h (F:Nat) (x1:Book) (x2:Int):Option (Book×Int):=
 (Zvg F x1 x2 0).bind fun x3=>
 some (x3.1,x3.2)
theorem Z3h {F:Nat} {x1:Book} {x2:Int}:ole (Z2h F x1 x2) (Z1h x1 x2):=by
 unfold Z2h Z1h
 with_reducible repeat' first | exact Zn4 _ | assumption | intro _ | refine Zo4 ?_ ?_ | refine Zp4 ?_ ?_ | refine Zq4 ?_ | refine Zs4 ?_ | apply Zwg
def Z4h:Book:=⟨0,[]⟩
def Z5h (n:List Int):Bool:=decide (n.length≤64)&&n.all (fun p=>decide (0≤p))
def Z6h (last top:Int) (first:Bool) (s:Sess):Bool:=
 decide (last<s.ID)&&(decide (s.ID≤top)&&(Z5h s.Need&&(decide (s.Need.Pairwise (· < ·))&&(decide (0≤s.Age)&&((decide (s.State=1)&&first)||(decide (s.State=0)&&decide (s.Age=0)))))))
def Z7h (top:Int):Int→Bool→List Sess→Bool
 | _,_,[]=>true
 | last,first,s::l=>Z6h last top first s&&Z7h top s.ID false l
def Z8h (b:Book):Bool:=decide (0≤b.Last)&&(decide (b.Sess.length≤8)&&Z7h b.Last 0 true b.Sess)
def Z9h (b:Book):Prop:=b.Sess.length≤1000000∧∀s∈b.Sess,s.Need.length≤1000000
theorem s_odd (n:List Int) (hn:n.length≤1000000):Z4e n=some (!Z5h n):=by
 simp only [Z4e,Z3e,Zd5,Z5h]
 rw [Zwa n _ (fun z=>decide (z<0)) (by omega) (fun x _=>by simp only [Z1e])]
 have:n.any (fun z=>decide (z<0))=!n.all (fun p=>decide (0≤p)):=Z1b _ _ _ fun x=>by
  rw [Bool.eq_iff_iff];simp
 rw [this]
 by_cases h:n.length≤64
 ·rw [decide_eq_false (by omega),decide_eq_true h];rfl
 ·rw [decide_eq_true (by omega),decide_eq_false h];rfl
def Zah (pre:List Sess):Int:=match pre.getLast? with | some s=>s.ID | none=>0
theorem Zbh (pre:List Sess) (s:Sess):Zah (pre++[s])=s.ID:=by simp [Zah]
theorem s_Check3 (b:Book) (last i:Int) (s:Sess) (g:Bool) (hn:s.Need.length≤1000000):Zde b last i s g =
  if decide (last<s.ID)&&(decide (s.ID≤b.Last)&&(Z5h s.Need&&(decide (s.Need.Pairwise (· < ·))&&(decide (0≤s.Age)&&(g||(decide (s.State=0)&&decide (s.Age=0))))))) then some (.inl (s.ID,wr (i+1))) else some (.inr 170):=by
 have e4:∀z,Zce i s g z=if !z&&(g||(decide (s.State=0)&&decide (s.Age=0))) then some (.inl (s.ID,wr (i+1))) else some (.inr 170):=fun z=>by
  simp only [Zce,Zbe]
  cases z
  ·cases g
   ·by_cases h1:s.State=0
    ·by_cases h2:s.Age=0<;>simp [h1,h2]
    ·simp [h1]
   ·simp
  ·simp
 simp only [Zde,s_odd s.Need hn,s_Valid s.Need hn,Option.bind_some,e4]
 by_cases h1:s.ID≤last
 ·rw [decide_eq_true h1,Ze6,decide_eq_false (show ¬last<s.ID by omega)];simp
 ·rw [decide_eq_false h1,Zf6,decide_eq_true (show last<s.ID by omega),Bool.true_and]
  by_cases h2:b.Last<s.ID
  ·rw [decide_eq_true h2,Ze6,decide_eq_false (show ¬s.ID≤b.Last by omega)];simp
  ·rw [decide_eq_false h2,Zf6,decide_eq_true (show s.ID≤b.Last by omega),Bool.true_and]
   cases Z5h s.Need
   ·simp
   ·by_cases h3:s.Need.Pairwise (· < ·)
    ·by_cases h4:s.Age<0
     ·have:¬0≤s.Age:=by omega
      simp [h3,h4,this]
     ·have:0≤s.Age:=by omega
      simp [h3,h4,this]
    ·simp [h3]
theorem Zch (b:Book) (hb:Z9h b):Zge b=some (if Z8h b then 0 else 170):=by
 have hl:loop (Zee b) (0,0)=some (if Z7h b.Last 0 true b.Sess then 0 else 170):=by
  refine Zja b.Sess (Zee b) (fun pre=>(Zah pre,(pre.length:Int))) (fun pre post=>some (if Z7h b.Last (Zah pre) pre.isEmpty post then 0 else 170)) (fun pre x post h=>?_) ?_
  ·have hx:=Zma h
   have hm:=Zna h
   have h1:=hb.1
   dsimp only [Zee]
   rw [Zj6 hx,Ze6,Zh6 hx,Option.bind_some]
   have e:∀u v:Bool,ifb (decide (x.State=1)) (Zde b (Zah pre) (pre.length:Int) x u) (Zde b (Zah pre) (pre.length:Int) x v)=Zde b (Zah pre) (pre.length:Int) x (if decide (x.State=1) then u else v):=fun u v=>by
    cases decide (x.State=1)<;>rfl
   rw [e,s_Check3 _ _ _ _ _ (hb.2 x (Zoa h)),Zl6 (by omega),Zbh,Zpa]
   have e2:(if decide (x.State=1)=true then decide ((pre.length:Int)=0) else false)=(decide (x.State=1)&&pre.isEmpty):=by
    cases pre with
    | nil=>cases decide (x.State=1)<;>rfl
    | cons a r=>cases decide (x.State=1)<;>simp<;>omega
   rw [e2]
   show (_∧some (if (Z6h (Zah pre) b.Last pre.isEmpty x&&Z7h b.Last x.ID false post) then (0:Int) else 170)=some (if Z7h b.Last x.ID (pre++[x]).isEmpty post then 0 else 170))∨∃r,_∧some (if (Z6h (Zah pre) b.Last pre.isEmpty x&&Z7h b.Last x.ID false post) then (0:Int) else 170)=some r
   have e3:(pre++[x]).isEmpty=false:=by simp
   rw [e3]
   show ((if Z6h (Zah pre) b.Last pre.isEmpty x then some (Sum.inl (x.ID,((pre.length+1:Nat):Int))) else some (.inr (170:Int)))=_∧_)∨∃r,(if Z6h (Zah pre) b.Last pre.isEmpty x then some (Sum.inl (x.ID,((pre.length+1:Nat):Int))) else some (.inr (170:Int)))=_∧_
   cases Z6h (Zah pre) b.Last pre.isEmpty x
   ·right;exact ⟨170,rfl,rfl⟩
   ·left;exact ⟨rfl,by rw [Bool.true_and]⟩
  ·dsimp only [Zee]
   rw [Zk6,Zf6];rfl
 simp only [Zge,Zfe,hl,Z8h,Zd5]
 by_cases h1:b.Last<0
 ·have:¬0≤b.Last:=by omega
  simp [h1,this]
 ·have:0≤b.Last:=by omega
  by_cases h2:b.Sess.length≤8
  ·have h3:¬(8:Int)<b.Sess.length:=by omega
   simp [h1,this,h2,h3]
  ·have h3:(8:Int)<b.Sess.length:=by omega
   simp [h1,this,h2,h3]
theorem Zdh {α:Type} {l:List α} {k:Nat} {x:α} (h:l[k]?=some x):l.set k x=l:=by
 obtain ⟨h1,rfl⟩:=List.getElem?_eq_some_iff.1 h
 exact List.set_getElem_self h1
theorem Zeh (l:List Int) (h:l.length≤1000000):Zg9 l=some l:=by
 simp only [Zg9]
 rw [Zi6 _ _ (by omega) (by simp;omega),List.nil_append]
theorem Zfh (l:List Sess) (h:l.length≤1000000):Zwe l=some l:=by
 simp only [Zwe]
 rw [Zi6 _ _ (by omega) (by simp;omega),List.nil_append]
theorem Zgh (b:Book) (hb:Z9h b):Z2f b=some b.Sess:=by
 have h1:=hb.1
 simp only [Z2f,Zfh b.Sess hb.1,Option.bind_some]
 refine Zla b.Sess _ (fun pre=>((pre.length:Int),b.Sess)) b.Sess (fun pre x post h=>?_) ?_
 ·have hx:=Zma h
  have hm:=Zna h
  dsimp only [Z1f]
  rw [Zj6 hx,Ze6,Zh6 hx,Option.bind_some,Zeh _ (hb.2 x (Zoa h)),Option.bind_some,Zl6 (by omega),Int.toNat_natCast,Zdh hx,Zpa]
 ·dsimp only [Z1f]
  rw [Zk6,Zf6];rfl
theorem Zhh (b:Book) (hb:Z9h b):Zjf b=some b.Sess:=by
 have h1:=hb.1
 simp only [Zjf,Zfh b.Sess hb.1,Option.bind_some]
 refine Zla b.Sess _ (fun pre=>((pre.length:Int),b.Sess)) b.Sess (fun pre x post h=>?_) ?_
 ·have hx:=Zma h
  have hm:=Zna h
  dsimp only [Zif]
  rw [Zj6 hx,Ze6,Zh6 hx,Option.bind_some,Zeh _ (hb.2 x (Zoa h)),Option.bind_some,Zl6 (by omega),Int.toNat_natCast,Zdh hx,Zpa]
 ·dsimp only [Zif]
  rw [Zk6,Zf6];rfl
theorem Zih (b:Book) (hb:Z9h b):Z8g b=some b.Sess:=by
 have h1:=hb.1
 simp only [Z8g,Zfh b.Sess hb.1,Option.bind_some]
 refine Zla b.Sess _ (fun pre=>((pre.length:Int),b.Sess)) b.Sess (fun pre x post h=>?_) ?_
 ·have hx:=Zma h
  have hm:=Zna h
  dsimp only [Z7g]
  rw [Zj6 hx,Ze6,Zh6 hx,Option.bind_some,Zeh _ (hb.2 x (Zoa h)),Option.bind_some,Zl6 (by omega),Int.toNat_natCast,Zdh hx,Zpa]
 ·dsimp only [Z7g]
  rw [Zk6,Zf6];rfl
def Zjh (b:Book) (id:Int):Option Nat:=b.Sess.findIdx? fun s=>decide (s.ID=id)
theorem s_find (b:Book) (id:Int) (hb:b.Sess.length≤1000000):Zzf b id=some (plc (Zjh b id)):=by
 simp only [Zzf]
 rw [Zua b.Sess _ (fun s=>decide (s.ID=id)) (by omega) (fun x _=>by simp only [Zwf]),Option.bind_some]
 rfl
theorem s_DeleteSess (l:List Sess) (i:Nat) (hi:i<l.length) (hl:l.length≤1000000):Zhg (i:Int) ((i+1:Nat):Int) l=some (l.take i++l.drop (i+1)):=by
 simp only [Zhg,Zd5]
 unfold vw_
 rw [if_pos ⟨by omega,by omega,by omega,by omega⟩,Option.bind_some,if_pos ⟨by omega,by omega,by omega,by omega⟩,Option.bind_some,decide_eq_false (by omega),Zf6,if_pos ⟨by omega,by omega,by omega,by omega⟩,Option.bind_some]
 have t1:Int.toNat (i:Int)-Int.toNat 0=i:=by omega
 have t2:Int.toNat ((l.length:Nat):Int)-Int.toNat ((i+1:Nat):Int)=l.length-(i+1):=by omega
 have t3:Int.toNat ((i+1:Nat):Int)=i+1:=by omega
 rw [t1,t2,t3]
 unfold mvv_
 rw [if_pos ⟨by omega,by omega,by omega⟩,Option.bind_some]
 have e1:(l.take (i+1+(l.length-(i+1)))).drop (i+1)=l.drop (i+1):=by
  rw [List.take_of_length_le (by omega)]
 have e2:(l.take i++l.drop (i+1)).length=l.length-1:=by simp;omega
 rw [e1]
 have e3:i+(l.length-(i+1))=l.length-1:=by omega
 simp only [Zgg,Zd5,t1,t2,e3]
 have hlen:(l.take i++l.drop (i+1)++l.drop (l.length-1)).length=l.length:=by rw [List.length_append,e2,List.length_drop];omega
 rw [Option.bind_some,hlen]
 unfold vw_
 rw [if_pos ⟨by omega,by omega,by omega,by omega⟩,Option.bind_some]
 have t4:Int.toNat ((l.length-1:Nat):Int)=l.length-1:=by omega
 have t5:Int.toNat ((l.length:Nat):Int)-(l.length-1)=1:=by omega
 rw [t4,t5]
 unfold clr_
 rw [hlen,if_pos ⟨by omega,by omega⟩,Option.bind_some]
 unfold cut_
 have e4:(l.take i++l.drop (i+1)++l.drop (l.length-1)).take (l.length-1)=l.take i++l.drop (i+1):=by
  rw [List.take_left' e2]
 rw [e4]
 have hlen2:(l.take i++l.drop (i+1)++List.replicate 1 (Sess.mk 0 [] 0 0)++(l.take i++l.drop (i+1)++l.drop (l.length-1)).drop (l.length-1+1)).length=l.length:=by
  rw [List.length_append,List.length_append,e2,List.length_drop,hlen];simp;omega
 rw [hlen2,if_pos ⟨by omega,by omega⟩,Option.bind_some]
 congr 1
 rw [List.append_assoc (l.take i++l.drop (i+1))]
 rw [List.take_left' e2]
def Zkh (b:Book) (id:Int) (need:List Int):Book×Int:=
 if Z8h b then (if id≤b.Last then (Z4h,171) else if Z5h (Z7b need) then (if b.Sess.length=8 then (Z4h,173) else (⟨id,b.Sess++[⟨id,Z7b need,0,0⟩]⟩,0)) else (Z4h,172)) else (Z4h,170)
theorem s_Open (b:Book) (id:Int) (need:List Int) (hb:Z9h b) (hn:need.length≤1000000):Zbf b id need=some (Zkh b id need):=by
 have hs:=setL_len need
 have h1:=hb.1
 simp only [Zbf,s_setL need hn,Zch b hb,s_odd (Z7b need) (by omega),Option.bind_some,Zaf,Zgh b hb,Zkh,Zd5]
 rw [Zi6 _ _ (by omega) (by simp;omega),Option.bind_some]
 cases hk:Z8h b
 ·rfl
 ·simp only [if_true]
  simp only [decide_true,Bool.not_true,Zf6]
  by_cases h2:id≤b.Last
  ·simp [h2,Z4h]
  ·cases h3:Z5h (Z7b need)
   ·simp [h2,Z4h]
   ·by_cases h4:b.Sess.length=8
    ·simp [h2,h4,Z4h]
    ·have:¬(b.Sess.length:Int)=8:=by omega
     simp [h2,h4,this]
def Zlh (b:Book):Book×Int×Int:=
 if Z8h b then (match b.Sess with | []=>(Z4h,0,175) | s::l=>if s.State=1 then (Z4h,0,175) else (⟨b.Last,⟨s.ID,s.Need,1,s.Age⟩::l⟩,s.ID,0)) else (Z4h,0,170)
theorem s_Grant (b:Book) (hb:Z9h b):Zsf b=some (Zlh b):=by
 simp only [Zsf,Zch b hb,Option.bind_some,Zrf,Zhh b hb,Zlh,Zd5]
 cases hk:Z8h b
 ·rfl
 ·simp only [if_true]
  simp only [decide_true,Bool.not_true,Zf6]
  cases hs:b.Sess with
  | nil=>simp [Z4h]
  | cons s l=>
    have h0:at_ (s::l) 0=some s:=rfl
    have:¬(((s::l).length:Nat):Int)=0:=by simp;omega
    rw [decide_eq_false this,Zf6,h0,Option.bind_some]
    by_cases h1:s.State=1
    ·simp [h1,Z4h]
    ·simp [h1]
def Zmh (b:Book) (id want:Int):Book×Int:=
 if Z8h b then (match Zjh b id with
  | none=>(Z4h,174)
  | some i=>match b.Sess[i]? with
    | none=>(Z4h,174)
    | some s=>if s.State=want then (⟨b.Last,b.Sess.take i++b.Sess.drop (i+1)⟩,0) else (Z4h,175)) else (Z4h,170)
theorem Znh {b:Book} {id:Int} {i:Nat} (h:Zjh b id=some i):∃s,b.Sess[i]?=some s∧s.ID=id:=by
 obtain ⟨hi,hq,_⟩:=List.findIdx?_eq_some_iff_getElem.1 h
 exact ⟨_,List.getElem?_eq_getElem hi,by simpa using hq⟩
theorem s_end (b:Book) (id want:Int) (hb:Z9h b):Zpg b id want=some (Zmh b id want):=by
 have h1:=hb.1
 simp only [Zpg,Z3g,Zch b hb,s_find b id hb.1,Option.bind_some,Zmh]
 cases hk:Z8h b
 ·simp [Zog,Zng,Z4h]
 ·simp only [if_true]
  simp only [decide_true,Bool.not_true,Zf6]
  cases hf:Zjh b id with
  | none=>simp [plc,Zog,Zng,Z4h]
  | some i=>
    obtain ⟨s,hs,_⟩:=Znh hf
    have hi:=(List.getElem?_eq_some_iff.1 hs).1
    rw [show plc (some i)=(i:Int) from rfl,decide_eq_false (by omega),Zf6,Zh6 hs,Option.bind_some,Option.bind_some]
    simp only [hs,decide_true,Ze6,Zog,Zng]
    by_cases h2:s.State=want
    ·have hf':Zjh ⟨b.Last,b.Sess⟩ id=some i:=hf
     simp only [h2,decide_true,Bool.not_true,Zf6,Zih b hb,Option.bind_some,s_find ⟨b.Last,b.Sess⟩ id hb.1,hf',if_true]
     rw [show plc (some i)=(i:Int) from rfl,Zl6 (by omega),s_DeleteSess b.Sess i hi hb.1,Option.bind_some]
    ·simp [h2,Z4h]
theorem s_Release (b:Book) (id:Int) (hb:Z9h b):Zxg b id=some (Zmh b id 1):=by
 simp only [Zxg,s_end b id 1 hb,Option.bind_some]
theorem s_Cancel (b:Book) (id:Int) (hb:Z9h b):Z1h b id=some (Zmh b id 0):=by
 simp only [Z1h,s_end b id 0 hb,Option.bind_some]
set_option maxRecDepth 100000
set_option maxHeartbeats 4000000
@[go_sem] def e47:EC:=.seq (.reg [(Qx 2 35 1 0),(Qa 4 (.mv (.c .ff)))]) (.seq (.reg [(Qm 5 1),(Qa 6 (.bin .geq (.t 5) (.c (.iv 0)))),(Qm 7 6),(Qg 8 7 true (.mv (.t 1))),(Qh 9 7 true 0 2),(Qn 10 7 true 9),(Qg 11 7 true (.len (.t 10))),(Qg 12 7 true (.bin .lss (.t 8) (.t 11))),(Qp 13 7 12),(Qm 4 13)]) (.ret))
theorem ok47:FnOK Tryz.prog 47 Tryz.f47 e47 [.t 4] 2 12:=⟨by kernel_rfl,⟨_,rfl,by kernel_rfl⟩,by kernel_rfl,by kernel_rfl⟩
noncomputable def Zoh:Bool→Option Bool
| x3=>
 some x3
noncomputable def Zph (x1:Model) (x2:Int):Option Bool:=
 ifb (decide (0≤x2)) (
 Zoh (decide (x2<(ln Place.row x1.Places)))) (
 Zoh false)
theorem Zqh (x1:Model) (x2:Int) (r:Bool) (h:Zph x1 x2=some r):Zy2 Tryz.prog 47 [.agg (Model.row x1),.iv x2] (.bv r):=by
 refine Z23 ok47 rfl rfl fun w0 H0=>?_
 rw [Zph] at h
 refine Zt2 10 ?_;dsimp only [go_sem];refine An ?_;refine Zu4 (fun (x3:Bool)=>(⟨(an 4 (.bv x3::an 9 [])),[],[]⟩:St)) Zoh r ?_ fun J1=>?_
 ·intro x3 h;rw [Zoh] at h;(try dsimp only);exact Z45 (res:=fun (r:Bool)=>.bv r) ok47 h
 ·refine Z35 7 h rfl (fun _ h=>?_) fun _ h=>?_
  ·dsimp only [go_sem];refine Zt2 8 ?_;dsimp only [go_sem];refine An ?_;exact Z65 J1 (s:=decide (x2<(ln Place.row x1.Places))) h
  ·dsimp only [go_sem];refine Zt2 8 ?_;dsimp only [go_sem];refine An ?_;exact Z65 J1 (s:=false) h
def Zrh (_F:Nat):Bool→Option Bool
| x3=>
 some x3
theorem Zsh {F:Nat}:∀s,ole (Zrh F s) (Zoh s):=by
 intro x3
 unfold Zrh Zoh
 try dsimp only
 with_reducible repeat' first | exact Zn4 _ | assumption | intro _ | refine Zo4 ?_ ?_ | refine Zp4 ?_ ?_ | refine Zq4 ?_ | refine Zs4 ?_
def Zth (F:Nat) (x1:Model) (x2:Int):Option Bool:=
 ifb (decide (0≤x2)) (
 Zrh F (decide (x2<(ln Place.row x1.Places)))) (
 Zrh F false)
theorem Zuh {F:Nat} {x1:Model} {x2:Int}:ole (Zth F x1 x2) (Zph x1 x2):=by
 unfold Zth Zph
 with_reducible repeat' first | exact Zn4 _ | assumption | intro _ | refine Zo4 ?_ ?_ | refine Zp4 ?_ ?_ | refine Zq4 ?_ | refine Zs4 ?_ | apply Zsh
set_option maxRecDepth 100000
set_option maxHeartbeats 4000000
@[go_sem] def e54:EC:=.seq (.reg [(Qa 4 (.mv (.c .ff)))]) (.seq (.reg [(Qe 5 1 1),(Qm 6 0),(Qa 7 (.call 47 [(.t 5),(.t 6)])),(Qa 8 (.not (.t 7))),(Qm 9 8),(Qg 10 9 false (.mv (.t 0))),(Qn 11 9 false 2),(Qg 12 9 false (.bin .eql (.t 10) (.t 11))),(Qq 13 9 12),(Qm 4 13)]) (.ret))
theorem ok54:FnOK Tryz.prog 54 Tryz.f54 e54 [.t 4] 3 11:=⟨by kernel_rfl,⟨_,rfl,by kernel_rfl⟩,by kernel_rfl,by kernel_rfl⟩
noncomputable def Zvh:Bool→Option Bool
| x5=>
 some x5
noncomputable def Zwh (x1:Int) (x2:Model) (x3:Int):Option Bool:=
 (Zph x2 x1).bind fun x4=>
 ifb (!x4) (
 Zvh true) (
 Zvh (decide (x1=x3)))
theorem Zxh (x1:Int) (x2:Model) (x3:Int) (r:Bool) (h:Zwh x1 x2 x3=some r):Zy2 Tryz.prog 54 [.iv x1,.elt (Model.row x2) 0,.elt (Zb5 x3) 0] (.bv r):=by
 refine Z23 ok54 rfl rfl fun w0 H0=>?_
 rw [Zwh] at h
 refine Zt2 8 ?_;dsimp only [go_sem];refine An ?_;obtain ⟨x4,ex4,h⟩:=Bs h;refine Z73 trivial (Zqh x2 x1 _ ex4) (h:=?_);refine Zt2 2 ?_;dsimp only [go_sem];refine An ?_;refine Zu4 (fun (x5:Bool)=>(⟨(an 4 (.bv x5::an 9 [])),[],[]⟩:St)) Zvh r ?_ fun J1=>?_
 ·intro x5 h;rw [Zvh] at h;(try dsimp only);exact Z45 (res:=fun (r:Bool)=>.bv r) ok54 h
 ·refine Z35 9 h rfl (fun _ h=>?_) fun _ h=>?_
  ·dsimp only [go_sem];refine Zt2 6 ?_;dsimp only [go_sem];refine An ?_;exact Z65 J1 (s:=true) h
  ·dsimp only [go_sem];refine Zt2 6 ?_;dsimp only [go_sem];refine An ?_;exact Z65 J1 (s:=decide (x1=x3)) h
def Zyh (_F:Nat):Bool→Option Bool
| x5=>
 some x5
theorem Zzh {F:Nat}:∀s,ole (Zyh F s) (Zvh s):=by
 intro x5
 unfold Zyh Zvh
 try dsimp only
 with_reducible repeat' first | exact Zn4 _ | assumption | intro _ | refine Zo4 ?_ ?_ | refine Zp4 ?_ ?_ | refine Zq4 ?_ | refine Zs4 ?_
def Z0i (F:Nat) (x1:Int) (x2:Model) (x3:Int):Option Bool:=
 (Zth F x2 x1).bind fun x4=>
 ifb (!x4) (
 Zyh F true) (
 Zyh F (decide (x1=x3)))
theorem Z1i {F:Nat} {x1:Int} {x2:Model} {x3:Int}:ole (Z0i F x1 x2 x3) (Zwh x1 x2 x3):=by
 unfold Z0i Zwh
 with_reducible repeat' first | exact Zn4 _ | assumption | intro _ | refine Zo4 ?_ ?_ | refine Zp4 ?_ ?_ | refine Zq4 ?_ | refine Zs4 ?_ | apply Zzh | apply Zuh
set_option maxRecDepth 100000
set_option maxHeartbeats 4000000
@[go_sem] def e23_L0:EC:=.seq (.reg [(Qa 14 (.bin .lss (.t 13) (.t 12)))]) (.seq (.ite (.t 14) (.skip) (.exit 0)) (.seq (.blk 1 (.seq (.reg [(Qm 15 13),(Qk 16 3 11 13),(Qe 17 3 16),(Qa 3 (.alloc 3 [.iv 0])),(Qa 4 (.alloc 69 [.iv 0,.nl,.nl])),(Qs 1 3 15),(Qs 3 4 17)]) (.seq (.reg [(Qa 18 (.mkf 54 [(.t 1),(.t 3)])),(Qm 5 18)]) (.seq (.reg [(Qf 19 0 4),(Qe 20 2 19),(Qa 21 (.call 55 [(.t 20)])),(Qa 22 (.bin .neq (.t 21) (.c (.iv 0)))),(Qm 23 22),(Qh 24 23 false 2 4),(Qn 25 23 false 24),(Qg 26 23 false (.call 56 [(.t 25)])),(Qg 27 23 false (.not (.t 26))),(Qq 28 23 27),(Qm 29 28),(Qh 30 29 false 2 4),(Qn 31 29 false 30),(Qg 32 29 false (.mv (.t 5))),(Qg 33 29 false (.call 57 [(.t 31),(.t 32)])),(Qq 34 29 33)]) (.ite (.t 34) (.seq (.reg [(Qi 2 200)]) (.ret)) (.skip)))))) (.reg [(Qv 35 13 1),(Qm 13 35)])))
@[go_sem] def e23:EC:=.seq (.reg [(Qx 1 35 1 0),(Qi 2 0)]) (.seq (.seq (.reg [(Qf 6 0 1),(Ql 7 6),(Qa 8 (.len (.t 7))),(Qa 9 (.bin .gtr (.t 8) (.c (.iv 64))))]) (.ite (.t 9) (.seq (.reg [(Qi 2 200)]) (.ret)) (.skip))) (.seq (.seq (.reg [(Qf 10 0 1),(Ql 11 10),(Qa 12 (.len (.t 11))),(Qi 13 0)]) (.blk 0 (.loop e23_L0))) (.seq (.reg [(Qi 2 0)]) (.ret))))
theorem ok23:FnOK Tryz.prog 23 Tryz.f23 e23 [.t 2] 1 35:=⟨by kernel_rfl,⟨_,rfl,by kernel_rfl⟩,by kernel_rfl,by kernel_rfl⟩
noncomputable def Z2i:Unit→Option Int
| ()=>
 some 0
noncomputable def Z3i (x8:Int):Bool→Option (Int ⊕ Int)
| x13=>
 ifb x13 (
 Option.map Sum.inr (some 200)) (
 some (.inl (wr (x8+1))))
noncomputable def Z4i (x1:Model):Int→Option (Int ⊕ Int)
| x8=>
 ifb (decide (x8<(ln Place.row x1.Places))) (
 (at_ x1.Places x8).bind fun x9=>
 (Zge x9.Book).bind fun x10=>
 ifb (!decide (x10=0)) (
 (Z3i x8) true) (
 (Zod x9.Live).bind fun x11=>
 ifb (!x11) (
 (Z3i x8) true) (
 (Z58 x9.Live ((fun z=>Zwh z x1 x8))).bind fun x12=>
 (Z3i x8) x12))) (
 Option.map Sum.inr (Z2i ()))
noncomputable def Z5i (x1:Model):Option Int:=
 ifb (decide (64<(ln Place.row x1.Places))) (
 some 200) (
 loop (Z4i x1) 0)
theorem Z6i (x1:Model) (r:Int) (h:Z5i x1=some r):Zy2 Tryz.prog 23 [.agg (Model.row x1)] (.iv r):=by
 refine Z23 ok23 rfl rfl fun w0 H0=>?_
 rw [Z5i] at h
 refine Zt2 13 ?_;dsimp only [go_sem];refine An ?_;refine Zw4 h rfl (fun _ h=>?_) fun _ h=>?_
 ·refine Zt2 4 ?_;dsimp only [go_sem];refine An ?_;exact Z45 (res:=fun (r:Int)=>.iv r) ok23 h
 ·refine Zt2 9 ?_;dsimp only [go_sem];refine An ?_;refine Zu4 (fun (_:Unit)=>(⟨(an 36 []),[],[]⟩:St)) Z2i r ?_ fun J1=>?_
  ·rintro ⟨⟩ h;rw [Z2i] at h;(try dsimp only);refine Zt2 4 ?_;dsimp only [go_sem];refine An ?_;exact Z45 (res:=fun (r:Int)=>.iv r) ok23 h
  ·refine Zt2 1 ?_;dsimp only [go_sem];refine An ?_;refine Zv4 h (fun (x8:Int)=>(⟨(.any :: .ptr 0 0::an 9 (.sl 3 (List.map Place.row x1.Places) :: .iv (ln Place.row x1.Places) :: .iv x8::an 22 [])),[some ⟨35,[.sl 3 (List.map Place.row x1.Places)]⟩],[]⟩:St)) (by simp [go_sem]) (by intro x8;first | rfl | simp [go_sem]) ?_;rintro n1 x8 y1 h hin1 hout1;rw [Z4i] at h;(try dsimp only);refine Zt2 5 ?_;dsimp only [go_sem];refine An ?_;refine Zw4 h rfl (fun _ h=>?_) fun _ h=>?_
   ·refine Zt2 6 ?_;dsimp only [go_sem];refine An ?_;obtain ⟨x9,ex9,h⟩:=Bs h;refine Zz4 Place.row ex9 trivial rfl rfl rfl ?_;refine Zt2 15 ?_;dsimp only [go_sem];refine An ?_;obtain ⟨x10,ex10,h⟩:=Bs h;refine Z73 trivial (Zhe x9.Book _ ex10) (h:=?_);refine Zt2 2 ?_;dsimp only [go_sem];refine An ?_
    refine Zu4 (fun (x13:Bool)=>(⟨(.any :: .ptr 0 0::an 9 (.sl 3 (List.map Place.row x1.Places) :: .iv (ln Place.row x1.Places) :: .iv x8::an 20 [.bv x13,.any])),[some ⟨35,[.sl 3 (List.map Place.row x1.Places)]⟩],[]⟩:St)) (Z3i x8) y1 ?_ fun J2=>?_
    ·intro x13 h;rw [Z3i] at h;(try dsimp only);refine Zw4 h rfl (fun _ h=>?_) fun _ h=>?_
     ·refine Zt2 4 ?_;dsimp only [go_sem];refine An ?_;exact Z45 (res:=fun (r:Int)=>.iv r) ok23 (Zt4 h hout1)
     ·refine Zt2 6 ?_;dsimp only [go_sem];refine An ?_;exact Z55 h hin1
    ·refine Z35 23 h rfl (fun _ h=>?_) fun _ h=>?_
     ·dsimp only [go_sem];refine Zt2 12 ?_;dsimp only [go_sem];refine An ?_;exact Z65 J2 (s:=true) h
     ·dsimp only [go_sem];refine Zt2 2 ?_;dsimp only [go_sem];refine An ?_;obtain ⟨x11,ex11,h⟩:=Bs h;refine Z73 trivial (Zpd x9.Live _ ex11) (h:=?_);refine Zt2 3 ?_;dsimp only [go_sem];refine An ?_;refine Z35 29 h rfl (fun _ h=>?_) fun _ h=>?_
      ·dsimp only [go_sem];refine Zt2 6 ?_;dsimp only [go_sem];refine An ?_;exact Z65 J2 (s:=true) h
      ·dsimp only [go_sem];refine Zt2 3 ?_;dsimp only [go_sem];refine An ?_;obtain ⟨x12,ex12,h⟩:=Bs h;refine Z85 trivial (((Z75.refl _).block 0 rfl rfl).block 1 rfl rfl) (Z68 x9.Live _ _ ((fun z=>Zwh z x1 x8)) ⟨by kernel_rfl,rfl,fun z r hz=>Zxh z x1 x8 r hz⟩ _ ex12) (h:=?_);refine Zt2 2 ?_;dsimp only [go_sem];refine An ?_;exact Z65 J2 (s:=x12) h
   ·refine Zt2 1 ?_;dsimp only [go_sem];refine An ?_;exact Z65 J1 (s:=()) (Zt4 h hout1)
def Z7i (_F:Nat):Unit→Option Int
| ()=>
 some 0
theorem Z8i {F:Nat}:∀s,ole (Z7i F s) (Z2i s):=by
 rintro ⟨⟩
 unfold Z7i Z2i
 try dsimp only
 with_reducible repeat' first | exact Zn4 _ | assumption | intro _ | refine Zo4 ?_ ?_ | refine Zp4 ?_ ?_ | refine Zq4 ?_ | refine Zs4 ?_
def Z9i (_F:Nat) (x8:Int):Bool→Option (Int ⊕ Int)
| x13=>
 ifb x13 (
 Option.map Sum.inr (some 200)) (
 some (.inl (wr (x8+1))))
theorem Zai {F:Nat} {x8:Int}:∀s,ole (Z9i F x8 s) (Z3i x8 s):=by
 intro x13
 unfold Z9i Z3i
 try dsimp only
 with_reducible repeat' first | exact Zn4 _ | assumption | intro _ | refine Zo4 ?_ ?_ | refine Zp4 ?_ ?_ | refine Zq4 ?_ | refine Zs4 ?_ | apply Z8i
def Zbi (F:Nat) (x1:Model):Int→Option (Int ⊕ Int)
| x8=>
 ifb (decide (x8<(ln Place.row x1.Places))) (
 (at_ x1.Places x8).bind fun x9=>
 (Zue F x9.Book).bind fun x10=>
 ifb (!decide (x10=0)) (
 (Z9i F x8) true) (
 (Zwd F x9.Live).bind fun x11=>
 ifb (!x11) (
 (Z9i F x8) true) (
 (Z78 F x9.Live ((fun z=>Z0i F z x1 x8))).bind fun x12=>
 (Z9i F x8) x12))) (
 Option.map Sum.inr (Z7i F ()))
theorem Zci {F:Nat} {x1:Model}:∀s,ole (Zbi F x1 s) (Z4i x1 s):=by
 intro x8
 unfold Zbi Z4i
 try dsimp only
 with_reducible repeat' first | exact Zn4 _ | assumption | intro _ | refine Zo4 ?_ ?_ | refine Zp4 ?_ ?_ | refine Zq4 ?_ | refine Zs4 ?_ | apply Z8i | apply Zai | apply Zve | apply Zxd | apply Z88 | apply Z1i
def Zdi (F:Nat) (x1:Model):Option Int:=
 ifb (decide (64<(ln Place.row x1.Places))) (
 some 200) (
 Zr4 F (Zbi F x1) 0)
theorem Zei {F:Nat} {x1:Model}:ole (Zdi F x1) (Z5i x1):=by
 unfold Zdi Z5i
 with_reducible repeat' first | exact Zn4 _ | assumption | intro _ | refine Zo4 ?_ ?_ | refine Zp4 ?_ ?_ | refine Zq4 ?_ | refine Zs4 ?_ | apply Z8i | apply Zai | apply Zve | apply Zxd | apply Z88 | apply Z1i | apply Zci
set_option maxRecDepth 100000
set_option maxHeartbeats 4000000
@[go_sem] def e21_L0:EC:=.seq (.reg [(Qa 21 (.bin .lss (.t 20) (.t 19)))]) (.seq (.ite (.t 21) (.skip) (.exit 0)) (.seq (.blk 1 (.seq (.reg [(Qk 22 4 18 20),(Qe 23 4 22),(Qa 7 (.alloc 74 [.iv 0,.nl,.iv 0,.iv 0])),(Qs 4 7 23)]) (.seq (.drw [(Qf 24 2 7),(Ql 25 24),(Qa 26 (.bin .eql (.t 25) (.c (.iv 0)))),(Qm 27 26),(Qh 28 27 true 1 7),(Qn 29 27 true 28),(Qh 30 27 true 0 2),(Qn 31 27 true 30),(Qg 32 27 true (.mv (.t 1))),(Qg 33 27 true (.idx 3 (.t 31) (.t 32))),(Qh 34 27 true 2 33),(Qn 35 27 true 34),(Qg 36 27 true (.call 52 [(.t 29),(.t 35)])),(Qg 37 27 true (.not (.t 36))),(Qp 38 27 37)] [[],[0],[1],[2],[3],[4,3],[3],[6,3],[3],[7,8,3],[9,3],[10,3],[5,11,3,3],[12,3],[3,13]] [[1],[0,2],[1,3],[2,4,5,6,7,8,9,10,11,12,13,14],[3,5],[3,4,12],[3,7],[3,6,9],[3,9],[3,7,8,10],[3,9,11],[3,10,12],[3,5,11,13],[3,12,14],[3,13]]) (.ite (.t 38) (.reg [(Qm 39 5),(Qf 40 0 7),(Ql 41 40),(Qa 42 (.bsl 3 1 1 [.iv 0] [(0,(.t 41))])),(Qa 43 (.app 3 1 8 (.t 39) (.t 42))),(Qm 5 43)]) (.skip))))) (.reg [(Qv 44 20 1),(Qm 20 44)])))
@[go_sem] def e21:EC:=.seq (.reg [(Qx 2 35 1 0),(Qa 4 (.mv (.c .nl)))]) (.seq (.reg [(Qa 5 (.mv (.c .nl)))]) (.seq (.seq (.reg [(Qe 8 1 2),(Qm 9 1),(Qa 10 (.call 47 [(.t 8),(.t 9)])),(Qa 11 (.not (.t 10)))]) (.ite (.t 11) (.seq (.reg [(Qa 4 (.mv (.c .nl)))]) (.ret)) (.skip))) (.seq (.seq (.reg [(Qf 12 0 2),(Ql 13 12),(Qm 14 1),(Qk 15 3 13 14),(Qf 16 0 15),(Qf 17 1 16),(Ql 18 17),(Qa 19 (.len (.t 18))),(Qi 20 0)]) (.blk 0 (.loop e21_L0))) (.seq (.reg [(Qm 45 5),(Qm 4 45)]) (.ret)))))
theorem ok21:FnOK Tryz.prog 21 Tryz.f21 e21 [.t 4] 2 44:=⟨by kernel_rfl,⟨_,rfl,by kernel_rfl⟩,by kernel_rfl,by kernel_rfl⟩
noncomputable def Zfi:(List Int)→Option (List Int)
| x29=>
 some x29
noncomputable def Zgi (x13:Int):(List Int)→Option ((Int×(List Int)) ⊕ (List Int))
| x20=>
 some (.inl (wr (x13+1),x20))
noncomputable def Zhi (x13:Int) (x14:(List Int)) (x15:Sess):Bool→Option ((Int×(List Int)) ⊕ (List Int))
| x18=>
 ifb x18 (
 (Zh4 8 x14 ([x15.ID])).bind fun x19=>
 (Zgi x13) x19) (
 (Zgi x13) x14)
noncomputable def Zii (x1:Model) (x2:Int) (x4:Place):(Int×(List Int))→Option ((Int×(List Int)) ⊕ (List Int))
| (x13,x14)=>
 ifb (decide (x13<(ln Sess.row x4.Book.Sess))) (
 (at_ x4.Book.Sess x13).bind fun x15=>
 ifb (decide (x15.State=0)) (
 (at_ x1.Places x2).bind fun x16=>
 (Zhd x15.Need x16.Live).bind fun x17=>
 (Zhi x13 x14 x15) (!x17)) (
 (Zhi x13 x14 x15) false)) (
 Option.map Sum.inr (Zfi x14))
noncomputable def Zji (x1:Model) (x2:Int):Option (List Int):=
 (Zph x1 x2).bind fun x3=>
 ifb (!x3) (
 some (([]:List Int))) (
 (at_ x1.Places x2).bind fun x4=>
 loop (Zii x1 x2 x4) (0,([]:List Int)))
theorem o_model_Due (x1:Model) (x2:Int) (r:(List Int)) (h:Zji x1 x2=some r):FunO Tryz.prog 21 [.agg (Model.row x1),.iv x2] 3 1 (List.map Zb5 r):=by
 refine Zj5 ok21 rfl fun w0 H0=>?_
 rw [Zji] at h
 refine Zt2 14 ?_;dsimp only [go_sem];refine An ?_;obtain ⟨x3,ex3,h⟩:=Bs h;refine Z73 trivial (Zqh x1 x2 _ ex3) (h:=?_);refine Zt2 2 ?_;dsimp only [go_sem];refine An ?_;refine Zw4 h rfl (fun _ h=>?_) fun _ h=>?_
 ·refine Zt2 4 ?_;dsimp only [go_sem];refine An ?_;refine Ze4 4 3 1 rfl rfl ?_;dsimp only [go_sem];exact Zr5 Zb5 ok21 h rfl rfl
 ·refine Zt2 7 ?_;dsimp only [go_sem];refine An ?_;obtain ⟨x4,ex4,h⟩:=Bs h;refine Zz4 Place.row ex4 trivial rfl rfl rfl ?_;refine Zt2 6 ?_;dsimp only [go_sem];refine An ?_;refine Zu4 (fun (x29:(List Int))=>(⟨(an 5 (.osl 0::an 40 [])),[],[some ⟨3,1,List.map Zb5 x29⟩]⟩:St)) Zfi r ?_ fun J1=>?_
  ·intro x29 h;rw [Zfi] at h;(try dsimp only);refine Zt2 5 ?_;dsimp only [go_sem];refine An ?_;exact Zr5 Zb5 ok21 h rfl rfl
  ·refine Zt2 1 ?_;dsimp only [go_sem];refine An ?_;refine Ze4 5 3 1 rfl rfl ?_;dsimp only [go_sem];refine Zv4 h (fun ((x13,x14):(Int×(List Int)))=>(⟨(.any :: .iv x2 :: .ptr 0 0 :: .any :: .any :: .osl 0::an 12 (.sl 4 (List.map Sess.row x4.Book.Sess) :: .iv (ln Sess.row x4.Book.Sess) :: .iv x13::an 25 [])),[some ⟨35,[.sl 3 (List.map Place.row x1.Places)]⟩],[some ⟨3,1,List.map Zb5 x14⟩]⟩:St)) (by simp [go_sem]) (by rintro ⟨x13,x14⟩;first | rfl | simp [go_sem]) ?_;rintro n1 ⟨x13,x14⟩ y1 h hin1 hout1;rw [Zii] at h;(try dsimp only);refine Zt2 5 ?_
   dsimp only [go_sem];refine An ?_;refine Zw4 h rfl (fun _ h=>?_) fun _ h=>?_
   ·refine Zt2 5 ?_;dsimp only [go_sem];refine An ?_;obtain ⟨x15,ex15,h⟩:=Bs h;refine Zz4 Sess.row ex15 trivial rfl rfl rfl ?_;refine Zt2 5 ?_;dsimp only [go_sem];refine An ?_
    refine Zu4 (fun (x18:Bool)=>(⟨(.any :: .iv x2 :: .ptr 0 0 :: .any :: .any :: .osl 0 :: .any :: .ptr 1 0::an 10 (.sl 4 (List.map Sess.row x4.Book.Sess) :: .iv (ln Sess.row x4.Book.Sess) :: .iv x13::an 17 (.bv x18::an 7 []))),[some ⟨35,[.sl 3 (List.map Place.row x1.Places)]⟩,some ⟨74,[.iv x15.ID,.sl 1 (List.map Zb5 x15.Need),.iv x15.State,.iv x15.Age]⟩],[some ⟨3,1,List.map Zb5 x14⟩]⟩:St)) (Zhi x13 x14 x15) y1 ?_ fun J2=>?_
    ·intro x18 h;rw [Zhi] at h;(try dsimp only);refine Zu4 (fun (x20:(List Int))=>(⟨(.any :: .iv x2 :: .ptr 0 0 :: .any :: .any :: .osl 0::an 12 (.sl 4 (List.map Sess.row x4.Book.Sess) :: .iv (ln Sess.row x4.Book.Sess) :: .iv x13::an 25 [])),[some ⟨35,[.sl 3 (List.map Place.row x1.Places)]⟩],[some ⟨3,1,List.map Zb5 x20⟩]⟩:St)) (Zgi x13) y1 ?_ fun J3=>?_
     ·intro x20 h;rw [Zgi] at h;(try dsimp only);refine Zt2 5 ?_;dsimp only [go_sem];refine An ?_;exact Z55 h hin1
     ·refine Zw4 h rfl (fun _ h=>?_) fun _ h=>?_
      ·refine Zt2 5 ?_;dsimp only [go_sem];refine An ?_;obtain ⟨x19,ex19,h⟩:=Bs h;refine Z15 Zb5 ex19 trivial rfl rfl rfl ?_;refine Zt2 2 ?_;dsimp only [go_sem];refine An ?_;refine Zd4 2 0 rfl rfl rfl ?_;dsimp only [go_sem];exact Z65 J3 (s:=x19) h
      ·refine Zt2 1 ?_;dsimp only [go_sem];refine An ?_;exact Z65 J3 (s:=x14) h
    ·refine Zs3 (by kernel_rfl) fun all hall hs hnap haf=>?_;dsimp only [go_sem];refine Zp5 hall hs haf hnap 4 11 ?_;dsimp only [go_sem];refine An ?_;refine Ze5 27 h rfl (fun _ h=>?_) fun _ h=>?_
     ·dsimp only [go_sem];refine Zq5 hall hs haf hnap 5 6 [9,6] [(28,[.ptr 1 1,.sl 1 (List.map Zb5 x15.Need),.ptr 0 0,.sl 3 (List.map Place.row x1.Places),.iv x2])] (by kernel_rfl) ?_;dsimp only [go_sem];obtain ⟨x16,ex16,h⟩:=Bs h;refine Z05 hall hs haf hnap 9 Place.row ex16 rfl rfl trivial rfl rfl rfl rfl ?_;refine Zp5 hall hs haf hnap 2 3 ?_;dsimp only [go_sem];refine An ?_;refine Z34 12 rfl ?_;obtain ⟨x17,ex17,h⟩:=Bs h;refine Z84 hall rfl trivial (Zid x15.Need x16.Live _ ex17) (h:=?_);dsimp only [go_sem]
      refine Zp5 hall hs haf hnap 2 0 ?_;dsimp only [go_sem];refine An ?_;refine Z24 rfl ?_ _;exact Z65 J2 (s:=!x17) h
     ·dsimp only [go_sem];refine Zq5 hall hs haf hnap 11 0 [15] [(28,[.un,.un,.un,.un,.un,.un,.un,.un,.un,.un,.ff])] (by kernel_rfl) ?_;dsimp only [go_sem];refine Z24 rfl ?_ _;exact Z65 J2 (s:=false) h
   ·refine Zt2 1 ?_;dsimp only [go_sem];refine An ?_;exact Z65 J1 (s:=x14) (Zt4 h hout1)
theorem Zki (x1:Model) (x2:Int) (r:(List Int)) (h:Zji x1 x2=some r):Zy2 Tryz.prog 21 [.agg (Model.row x1),.iv x2] (.sl 1 (List.map Zb5 r)):=(o_model_Due x1 x2 r h).sealed
def Zli (_F:Nat):(List Int)→Option (List Int)
| x29=>
 some x29
theorem Zmi {F:Nat}:∀s,ole (Zli F s) (Zfi s):=by
 intro x29
 unfold Zli Zfi
 try dsimp only
 with_reducible repeat' first | exact Zn4 _ | assumption | intro _ | refine Zo4 ?_ ?_ | refine Zp4 ?_ ?_ | refine Zq4 ?_ | refine Zs4 ?_
def Zni (_F:Nat) (x13:Int):(List Int)→Option ((Int×(List Int)) ⊕ (List Int))
| x20=>
 some (.inl (wr (x13+1),x20))
theorem Zoi {F:Nat} {x13:Int}:∀s,ole (Zni F x13 s) (Zgi x13 s):=by
 intro x20
 unfold Zni Zgi
 try dsimp only
 with_reducible repeat' first | exact Zn4 _ | assumption | intro _ | refine Zo4 ?_ ?_ | refine Zp4 ?_ ?_ | refine Zq4 ?_ | refine Zs4 ?_ | apply Zmi
def Zpi (F:Nat) (x13:Int) (x14:(List Int)) (x15:Sess):Bool→Option ((Int×(List Int)) ⊕ (List Int))
| x18=>
 ifb x18 (
 (Zh4 8 x14 ([x15.ID])).bind fun x19=>
 (Zni F x13) x19) (
 (Zni F x13) x14)
theorem Zqi {F:Nat} {x13:Int} {x14:(List Int)} {x15:Sess}:∀s,ole (Zpi F x13 x14 x15 s) (Zhi x13 x14 x15 s):=by
 intro x18
 unfold Zpi Zhi
 try dsimp only
 with_reducible repeat' first | exact Zn4 _ | assumption | intro _ | refine Zo4 ?_ ?_ | refine Zp4 ?_ ?_ | refine Zq4 ?_ | refine Zs4 ?_ | apply Zmi | apply Zoi
def Zri (F:Nat) (x1:Model) (x2:Int) (x4:Place):(Int×(List Int))→Option ((Int×(List Int)) ⊕ (List Int))
| (x13,x14)=>
 ifb (decide (x13<(ln Sess.row x4.Book.Sess))) (
 (at_ x4.Book.Sess x13).bind fun x15=>
 ifb (decide (x15.State=0)) (
 (at_ x1.Places x2).bind fun x16=>
 (Zjd F x15.Need x16.Live).bind fun x17=>
 (Zpi F x13 x14 x15) (!x17)) (
 (Zpi F x13 x14 x15) false)) (
 Option.map Sum.inr (Zli F x14))
theorem Zsi {F:Nat} {x1:Model} {x2:Int} {x4:Place}:∀s,ole (Zri F x1 x2 x4 s) (Zii x1 x2 x4 s):=by
 rintro ⟨x13,x14⟩
 unfold Zri Zii
 try dsimp only
 with_reducible repeat' first | exact Zn4 _ | assumption | intro _ | refine Zo4 ?_ ?_ | refine Zp4 ?_ ?_ | refine Zq4 ?_ | refine Zs4 ?_ | apply Zmi | apply Zoi | apply Zqi | apply Zkd
def Zti (F:Nat) (x1:Model) (x2:Int):Option (List Int):=
 (Zth F x1 x2).bind fun x3=>
 ifb (!x3) (
 some (([]:List Int))) (
 (at_ x1.Places x2).bind fun x4=>
 Zr4 F (Zri F x1 x2 x4) (0,([]:List Int)))
theorem Zui {F:Nat} {x1:Model} {x2:Int}:ole (Zti F x1 x2) (Zji x1 x2):=by
 unfold Zti Zji
 with_reducible repeat' first | exact Zn4 _ | assumption | intro _ | refine Zo4 ?_ ?_ | refine Zp4 ?_ ?_ | refine Zq4 ?_ | refine Zs4 ?_ | apply Zmi | apply Zoi | apply Zqi | apply Zkd | apply Zsi | apply Zuh
set_option maxRecDepth 100000
set_option maxHeartbeats 4000000
@[go_sem] def e77:EC:=.seq (.reg [(Qa 2 (.mv (.c .nl)))]) (.seq (.seq (.reg [(Qm 3 0),(Qa 4 (.isnil false (.t 3)))]) (.ite (.t 4) (.seq (.reg [(Qa 2 (.mv (.c .nl)))]) (.ret)) (.skip))) (.seq (.reg [(Qa 5 (.bsl 69 3 0 [.iv 0,.nl,.nl] [])),(Qm 6 0),(Qa 7 (.app 69 3 56 (.t 5) (.t 6))),(Qm 2 7)]) (.ret)))
theorem ok77:FnOK Tryz.prog 77 Tryz.f77 e77 [.t 2] 1 7:=⟨by kernel_rfl,⟨_,rfl,by kernel_rfl⟩,by kernel_rfl,by kernel_rfl⟩
noncomputable def Zvi (x1:(List Place)):Option (List Place):=Zh4 56 [] x1
theorem Zwi (x1:(List Place)) (r:(List Place)) (h:Zvi x1=some r):FunO Tryz.prog 77 [.sl 3 (List.map Place.row x1)] 69 3 (List.map Place.row r):=by
 refine Zj5 ok77 rfl fun w0 H0=>?_
 rw [Zvi] at h
 refine Zt2 100 ?_
 dsimp only [e77,go_sem]
 refine ⟨by simp,?_⟩
 refine V_isnil trivial rfl (fun hn=>?_) ?_
 ·refine Zt2 100 ?_
  dsimp only [go_sem]
  refine ⟨by simp,?_⟩
  refine Ze4 2 69 3 rfl rfl ?_
  dsimp only [go_sem]
  have hn:x1=[]:=by simpa using hn
  subst hn
  exact Zr5 Place.row (e:=[]) ok77 (by simpa [Zh4] using h) rfl rfl
 ·refine Zt2 100 ?_
  dsimp only [go_sem]
  refine ⟨by simp,?_⟩
  refine Z15 Place.row h trivial rfl rfl rfl ?_
  refine Zt2 100 ?_
  dsimp only [go_sem]
  refine ⟨by simp,?_⟩
  exact Zr5 Place.row ok77 (rfl:some r=some r) rfl rfl
def Zxi (_F:Nat) (x1:(List Place)):Option (List Place):=Zh4 56 [] x1
theorem Zyi {F:Nat} {x1:(List Place)}:ole (Zxi F x1) (Zvi x1):=Zn4 _
set_option maxRecDepth 100000
set_option maxHeartbeats 4000000
@[go_sem] def e48_L1:EC:=.seq (.reg [(Qa 45 (.bin .lss (.t 44) (.t 43)))]) (.seq (.ite (.t 45) (.skip) (.exit 2)) (.seq (.blk 3 (.seq (.reg [(Qm 46 44),(Qm 5 46)]) (.drw [(Qm 47 4),(Qa 48 (.nilchk (.t 47))),(Qf 49 0 48),(Qf 50 1 49),(Ql 51 50),(Qm 52 5),(Qm 53 4),(Qa 54 (.nilchk (.t 53))),(Qf 55 0 54),(Qf 56 1 55),(Ql 57 56),(Qm 58 5),(Qk 59 4 57 58),(Qf 60 1 59),(Ql 61 60),(Qa 62 (.call 78 [(.t 61)])),(Qk 63 4 51 52),(Qf 64 1 63),(Qs 1 64 62)] [[],[0],[1],[2],[3],[],[],[6],[7],[8],[9],[],[10,11],[12],[13],[14],[4,5,0,1,2,3,4,5,6,7,8,9,10,11,12,13,14,15],[16,0,1,2,3,4,5,6,7,8,9,10,11,12,13,14,15],[17,15,15,0,1,2,3,4,5,6,7,8,9,10,11,12,13,14,15]] [[1],[0,2],[1,3],[2,4],[3,16],[16],[7],[6,8],[7,9],[8,10],[9,12],[12],[10,11,13],[12,14],[13,15],[14,18],[4,5,17],[16,18],[15,17]]))) (.reg [(Qv 65 44 1),(Qm 44 65)])))
@[go_sem] def e48_L0:EC:=.seq (.reg [(Qa 14 (.bin .lss (.t 13) (.t 12)))]) (.seq (.ite (.t 14) (.skip) (.exit 0)) (.seq (.blk 1 (.seq (.reg [(Qm 15 13),(Qm 3 15)]) (.seq (.reg [(Qf 16 0 1),(Ql 17 16),(Qm 18 3),(Qk 19 3 17 18),(Qm 4 19)]) (.seq (.drw [(Qm 20 4),(Qm 21 4),(Qm 22 4),(Qa 23 (.nilchk (.t 22))),(Qf 24 2 23),(Ql 25 24),(Qa 26 (.call 78 [(.t 25)])),(Qm 27 4),(Qa 28 (.nilchk (.t 27))),(Qf 29 0 28),(Qf 30 1 29),(Ql 31 30),(Qa 32 (.call 79 [(.t 31)])),(Qa 33 (.nilchk (.t 20))),(Qf 34 2 33),(Qs 1 34 26),(Qa 35 (.nilchk (.t 21))),(Qf 36 0 35),(Qf 37 1 36),(Qs 1 37 32)] [[],[],[],[2],[3],[4],[5],[],[7],[8],[9],[10],[11,6],[0,0,2,3,4,5,6,11,12],[13,0,2,3,4,5,6,11,12],[14,6,12,0,2,3,4,5,6,11,12],[1,0,1,2,3,4,5,6,7,8,9,10,11,12,13,14,15],[16,0,1,2,3,4,5,6,7,8,9,10,11,12,13,14,15],[17,0,1,2,3,4,5,6,7,8,9,10,11,12,13,14,15],[18,12,15,0,1,2,3,4,5,6,7,8,9,10,11,12,13,14,15]] [[13],[16],[3],[2,4],[3,5],[4,6],[5,15],[8],[7,9],[8,10],[9,11],[10,12],[11,19],[0,14],[13,15],[6,14],[1,17],[16,18],[17,19],[12,18]]) (.seq (.reg [(Qm 38 4),(Qa 39 (.nilchk (.t 38))),(Qf 40 0 39),(Qf 41 1 40),(Ql 42 41),(Qa 43 (.len (.t 42))),(Qi 44 0)]) (.blk 2 (.loop e48_L1))))))) (.reg [(Qv 66 13 1),(Qm 13 66)])))
@[go_sem] def e48:EC:=.seq (.reg [(Qx 1 35 1 0),(Qa 2 (.alloc 35 [.nl]))]) (.seq (.reg [(Qf 6 0 1),(Ql 7 6),(Qa 8 (.call 77 [(.t 7)])),(Qf 9 0 1),(Qs 1 9 8)]) (.seq (.seq (.reg [(Qf 10 0 1),(Ql 11 10),(Qa 12 (.len (.t 11))),(Qi 13 0)]) (.blk 0 (.loop e48_L0))) (.seq (.reg [(Qe 67 1 1),(Qs 1 2 67)]) (.ret))))
theorem ok48:FnOK Tryz.prog 48 Tryz.f48 e48 [.c 2 (some 1)] 1 67:=⟨by kernel_rfl,⟨_,rfl,by kernel_rfl⟩,by kernel_rfl,by kernel_rfl⟩
set_option maxRecDepth 100000
set_option maxHeartbeats 4000000
@[go_sem] def e80:EC:=.seq (.reg [(Qx 3 35 1 0),(Qa 6 (.mv (.c .ff)))]) (.seq (.reg [(Qf 7 0 3),(Ql 8 7),(Qm 9 1),(Qk 10 3 8 9),(Qf 11 2 10),(Ql 12 11),(Qm 13 2),(Qa 14 (.call 86 [(.t 12),(.t 13)])),(Qm 6 14)]) (.ret))
theorem ok80:FnOK Tryz.prog 80 Tryz.f80 e80 [.t 6] 3 12:=⟨by kernel_rfl,⟨_,rfl,by kernel_rfl⟩,by kernel_rfl,by kernel_rfl⟩
noncomputable def Zzi (x1:Model) (x2:Int) (x3:Int):Option Bool:=
 (at_ x1.Places x2).bind fun x4=>
 (Zmc x4.Live x3).bind fun x5=>
 some x5
theorem Z0j (x1:Model) (x2:Int) (x3:Int) (r:Bool) (h:Zzi x1 x2 x3=some r):Zy2 Tryz.prog 80 [.agg (Model.row x1),.iv x2,.iv x3] (.bv r):=by
 refine Z23 ok80 rfl rfl fun w0 H0=>?_
 rw [Zzi] at h
 refine Zt2 10 ?_;dsimp only [go_sem];refine An ?_;obtain ⟨x4,ex4,h⟩:=Bs h;refine Zz4 Place.row ex4 trivial rfl rfl rfl ?_;refine Zt2 3 ?_;dsimp only [go_sem];refine An ?_;obtain ⟨x5,ex5,h⟩:=Bs h;refine Z73 trivial (Znc x4.Live x3 _ ex5) (h:=?_);refine Zt2 2 ?_;dsimp only [go_sem];refine An ?_;exact Z45 (res:=fun (r:Bool)=>.bv r) ok80 h
def Z1j (F:Nat) (x1:Model) (x2:Int) (x3:Int):Option Bool:=
 (at_ x1.Places x2).bind fun x4=>
 (Zoc F x4.Live x3).bind fun x5=>
 some x5
theorem le_model_live {F:Nat} {x1:Model} {x2:Int} {x3:Int}:ole (Z1j F x1 x2 x3) (Zzi x1 x2 x3):=by
 unfold Z1j Zzi
 with_reducible repeat' first | exact Zn4 _ | assumption | intro _ | refine Zo4 ?_ ?_ | refine Zp4 ?_ ?_ | refine Zq4 ?_ | refine Zs4 ?_ | apply Zpc
set_option maxRecDepth 100000
set_option maxHeartbeats 4000000
@[go_sem] def e90:EC:=.seq (.reg [(Qx 2 74 4 0),(Qa 3 (.mv (.c .ff)))]) (.seq (.reg [(Qf 4 2 2),(Ql 5 4),(Qa 6 (.bin .eql (.t 5) (.c (.iv 1)))),(Qm 7 6),(Qh 8 7 true 1 2),(Qn 9 7 true 8),(Qn 10 7 true 1),(Qg 11 7 true (.call 86 [(.t 9),(.t 10)])),(Qp 12 7 11),(Qm 3 12)]) (.ret))
theorem ok90:FnOK Tryz.prog 90 Tryz.f90 e90 [.t 3] 2 11:=⟨by kernel_rfl,⟨_,rfl,by kernel_rfl⟩,by kernel_rfl,by kernel_rfl⟩
noncomputable def Z2j:Bool→Option Bool
| x4=>
 some x4
noncomputable def Z3j (x1:Sess) (x2:Int):Option Bool:=
 ifb (decide (x1.State=1)) (
 (Zmc x1.Need x2).bind fun x3=>
 Z2j x3) (
 Z2j false)
theorem Z4j (x1:Sess) (x2:Int) (r:Bool) (h:Z3j x1 x2=some r):Zy2 Tryz.prog 90 [.agg (Sess.row x1),.elt (Zb5 x2) 0] (.bv r):=by
 refine Z23 ok90 rfl rfl fun w0 H0=>?_
 rw [Z3j] at h
 refine Zt2 11 ?_;dsimp only [go_sem];refine An ?_;refine Zu4 (fun (x4:Bool)=>(⟨(an 3 (.bv x4::an 9 [])),[],[]⟩:St)) Z2j r ?_ fun J1=>?_
 ·intro x4 h;rw [Z2j] at h;(try dsimp only);exact Z45 (res:=fun (r:Bool)=>.bv r) ok90 h
 ·refine Z35 7 h rfl (fun _ h=>?_) fun _ h=>?_
  ·dsimp only [go_sem];refine Zt2 3 ?_;dsimp only [go_sem];refine An ?_;obtain ⟨x3,ex3,h⟩:=Bs h;refine Z73 trivial (Znc x1.Need x2 _ ex3) (h:=?_);refine Zt2 3 ?_;dsimp only [go_sem];refine An ?_;exact Z65 J1 (s:=x3) h
  ·dsimp only [go_sem];refine Zt2 7 ?_;dsimp only [go_sem];refine An ?_;exact Z65 J1 (s:=false) h
def Z5j (_F:Nat):Bool→Option Bool
| x4=>
 some x4
theorem Z6j {F:Nat}:∀s,ole (Z5j F s) (Z2j s):=by
 intro x4
 unfold Z5j Z2j
 try dsimp only
 with_reducible repeat' first | exact Zn4 _ | assumption | intro _ | refine Zo4 ?_ ?_ | refine Zp4 ?_ ?_ | refine Zq4 ?_ | refine Zs4 ?_
def Z7j (F:Nat) (x1:Sess) (x2:Int):Option Bool:=
 ifb (decide (x1.State=1)) (
 (Zoc F x1.Need x2).bind fun x3=>
 Z5j F x3) (
 Z5j F false)
theorem Z8j {F:Nat} {x1:Sess} {x2:Int}:ole (Z7j F x1 x2) (Z3j x1 x2):=by
 unfold Z7j Z3j
 with_reducible repeat' first | exact Zn4 _ | assumption | intro _ | refine Zo4 ?_ ?_ | refine Zp4 ?_ ?_ | refine Zq4 ?_ | refine Zs4 ?_ | apply Z6j | apply Zpc
set_option maxRecDepth 100000
set_option maxHeartbeats 4000000
@[go_sem] def e53:EC:=.seq (.reg [(Qx 3 35 1 0),(Qx 5 3 1 2),(Qa 6 (.mv (.c .ff)))]) (.seq (.reg [(Qe 7 1 3),(Qm 8 1),(Qa 9 (.call 47 [(.t 7),(.t 8)])),(Qm 10 9),(Qh 11 10 true 0 3),(Qn 12 10 true 11),(Qg 13 10 true (.mv (.t 1))),(Qg 14 10 true (.idx 3 (.t 12) (.t 13))),(Qh 15 10 true 0 14),(Qh 16 10 true 1 15),(Qn 17 10 true 16),(Qg 18 10 true (.mkf 90 [(.t 5)])),(Qg 19 10 true (.call 89 [(.t 17),(.t 18)])),(Qp 20 10 19),(Qm 6 20)]) (.ret))
theorem ok53:FnOK Tryz.prog 53 Tryz.f53 e53 [.t 6] 3 18:=⟨by kernel_rfl,⟨_,rfl,by kernel_rfl⟩,by kernel_rfl,by kernel_rfl⟩
noncomputable def Z9j:Bool→Option Bool
| x7=>
 some x7
noncomputable def Zaj (x1:Model) (x2:Int) (x3:Int):Option Bool:=
 (Zph x1 x2).bind fun x4=>
 ifb x4 (
 (at_ x1.Places x2).bind fun x5=>
 (Zr7 x5.Book.Sess ((fun z=>Z3j z x3))).bind fun x6=>
 Z9j x6) (
 Z9j false)
theorem Zbj (x1:Model) (x2:Int) (x3:Int) (r:Bool) (h:Zaj x1 x2 x3=some r):Zy2 Tryz.prog 53 [.agg (Model.row x1),.iv x2,.iv x3] (.bv r):=by
 refine Z23 ok53 rfl rfl fun w0 H0=>?_
 rw [Zaj] at h
 refine Zt2 10 ?_;dsimp only [go_sem];refine An ?_;obtain ⟨x4,ex4,h⟩:=Bs h;refine Z73 trivial (Zqh x1 x2 _ ex4) (h:=?_);refine Zt2 1 ?_;dsimp only [go_sem];refine An ?_;refine Zu4 (fun (x7:Bool)=>(⟨(an 6 (.bv x7::an 14 [])),[],[]⟩:St)) Z9j r ?_ fun J1=>?_
 ·intro x7 h;rw [Z9j] at h;(try dsimp only);exact Z45 (res:=fun (r:Bool)=>.bv r) ok53 h
 ·refine Z35 10 h rfl (fun _ h=>?_) fun _ h=>?_
  ·dsimp only [go_sem];refine Zt2 3 ?_;dsimp only [go_sem];refine An ?_;obtain ⟨x5,ex5,h⟩:=Bs h;refine Zz4 Place.row ex5 trivial rfl rfl rfl ?_;refine Zt2 4 ?_;dsimp only [go_sem];refine An ?_;obtain ⟨x6,ex6,h⟩:=Bs h;refine Z85 trivial ((Z75.refl _).block 1 rfl rfl) (Zs7 x5.Book.Sess _ _ ((fun z=>Z3j z x3)) ⟨by kernel_rfl,rfl,fun z r hz=>Z4j z x3 r hz⟩ _ ex6) (h:=?_);refine Zt2 3 ?_;dsimp only [go_sem];refine An ?_;exact Z65 J1 (s:=x6) h
  ·dsimp only [go_sem];refine Zt2 12 ?_;dsimp only [go_sem];refine An ?_;exact Z65 J1 (s:=false) h
def Zcj (_F:Nat):Bool→Option Bool
| x7=>
 some x7
theorem Zdj {F:Nat}:∀s,ole (Zcj F s) (Z9j s):=by
 intro x7
 unfold Zcj Z9j
 try dsimp only
 with_reducible repeat' first | exact Zn4 _ | assumption | intro _ | refine Zo4 ?_ ?_ | refine Zp4 ?_ ?_ | refine Zq4 ?_ | refine Zs4 ?_
def Zej (F:Nat) (x1:Model) (x2:Int) (x3:Int):Option Bool:=
 (Zth F x1 x2).bind fun x4=>
 ifb x4 (
 (at_ x1.Places x2).bind fun x5=>
 (Zt7 F x5.Book.Sess ((fun z=>Z7j F z x3))).bind fun x6=>
 Zcj F x6) (
 Zcj F false)
theorem Zfj {F:Nat} {x1:Model} {x2:Int} {x3:Int}:ole (Zej F x1 x2 x3) (Zaj x1 x2 x3):=by
 unfold Zej Zaj
 with_reducible repeat' first | exact Zn4 _ | assumption | intro _ | refine Zo4 ?_ ?_ | refine Zp4 ?_ ?_ | refine Zq4 ?_ | refine Zs4 ?_ | apply Zdj | apply Zuh | apply Zu7 | apply Z8j
set_option maxRecDepth 100000
set_option maxHeartbeats 4000000
@[go_sem] def e49:EC:=.seq (.reg [(Qx 2 35 1 0),(Qx 3 42 5 1),(Qa 4 (.mv (.c .nl))),(Qi 5 0)]) (.seq (.reg [(Qf 10 0 2),(Ql 11 10),(Qf 12 1 3),(Ql 13 12),(Qk 14 3 11 13),(Qf 15 2 14),(Ql 16 15),(Qm 6 16)]) (.seq (.drw [(Qe 17 1 2),(Qf 18 1 3),(Ql 19 18),(Qf 20 3 3),(Ql 21 20),(Qa 22 (.call 80 [(.t 17),(.t 19),(.t 21)])),(Qe 23 1 2),(Qf 24 3 3),(Ql 25 24),(Qf 26 1 3),(Ql 27 26),(Qa 28 (.call 80 [(.t 23),(.t 25),(.t 27)])),(Qm 7 22),(Qm 8 28)] [[],[],[1],[],[3],[0,2,4],[],[],[7],[],[9],[6,8,10,5],[5,11,0,1,2,3,4,5],[11,12,0,1,2,3,4,5,6,7,8,9,10,11,12]] [[5],[2],[1,5],[4],[3,5],[0,2,4,12],[11],[8],[7,11],[10],[9,11],[6,8,10,13],[5],[11]]) (.seq (.reg [(Qa 9 (.mv (.c .ff)))]) (.seq (.seq (.reg [(Qf 29 0 3),(Ql 30 29)]) (.blk 0 (.seq (.reg [(Qa 32 (.bin .eql (.t 30) (.c (.iv 6)))),(Qm 31 32)]) (.ite (.t 31) (.seq (.reg [(Qm 33 7),(Qa 34 (.not (.t 33))),(Qm 35 34),(Qg 36 35 true (.mv (.t 8))),(Qh 37 35 true 3 3),(Qn 38 35 true 37),(Qh 39 35 true 1 3),(Qn 40 35 true 39),(Qg 41 35 true (.bin .gtr (.t 38) (.t 40))),(Qg 42 35 true (.bq false (.t 36) (.t 41))),(Qp 43 35 42),(Qm 9 43)]) (.reg [(Qm 44 6),(Qf 45 3 3),(Ql 46 45),(Qa 47 (.call 81 [(.t 44),(.t 46)])),(Qm 6 47)])) (.seq (.reg [(Qa 49 (.bin .eql (.t 30) (.c (.iv 7)))),(Qm 48 49)]) (.ite (.t 48) (.seq (.reg [(Qm 50 7),(Qm 51 50),(Qh 52 51 true 3 3),(Qn 53 51 true 52),(Qh 54 51 true 1 3),(Qn 55 51 true 54),(Qg 56 51 true (.bin .gtr (.t 53) (.t 55))),(Qg 57 51 true (.mv (.t 56))),(Qg 58 57 false (.mv (.t 8))),(Qg 59 57 false (.not (.t 58))),(Qg 60 51 true (.pick (.t 57) (.c .tt) (.t 59))),(Qp 61 51 60),(Qm 9 61)]) (.reg [(Qm 62 6),(Qf 63 3 3),(Ql 64 63),(Qa 65 (.call 82 [(.t 62),(.t 64)])),(Qm 6 65)])) (.seq (.reg [(Qa 67 (.bin .eql (.t 30) (.c (.iv 8)))),(Qm 66 67)]) (.ite (.t 66) (.reg [(Qf 68 3 3),(Ql 69 68),(Qf 70 1 3),(Ql 71 70),(Qa 72 (.bin .gtr (.t 69) (.t 71))),(Qm 73 72),(Qg 74 73 true (.mv (.t 7))),(Qg 75 73 true (.not (.t 74))),(Qp 76 73 75),(Qm 77 76),(Qg 78 77 true (.mv (.t 8))),(Qg 79 77 true (.not (.t 78))),(Qp 80 77 79),(Qm 81 80),(Qg 82 81 true (.loadA 1 (.t 2))),(Qh 83 81 true 1 3),(Qn 84 81 true 83),(Qh 85 81 true 3 3),(Qn 86 81 true 85),(Qg 87 81 true (.call 53 [(.t 82),(.t 84),(.t 86)])),(Qg 88 81 true (.not (.t 87))),(Qp 89 81 88),(Qm 90 89),(Qg 91 90 true (.loadA 1 (.t 2))),(Qh 92 90 true 3 3),(Qn 93 90 true 92),(Qh 94 90 true 1 3),(Qn 95 90 true 94),(Qg 96 90 true (.call 53 [(.t 91),(.t 93),(.t 95)])),(Qg 97 90 true (.not (.t 96))),(Qp 98 90 97),(Qm 9 98)]) (.skip))))))))) (.seq (.seq (.reg [(Qm 99 9),(Qa 100 (.not (.t 99)))]) (.ite (.t 100) (.seq (.reg [(Qa 4 (.mv (.c .nl))),(Qi 5 206)]) (.ret)) (.skip))) (.seq (.reg [(Qm 101 6),(Qm 4 101),(Qi 5 0)]) (.ret)))))))
theorem ok49:FnOK Tryz.prog 49 Tryz.f49 e49 [.t 4,.t 5] 2 100:=⟨by kernel_rfl,⟨_,rfl,by kernel_rfl⟩,by kernel_rfl,by kernel_rfl⟩
set_option maxRecDepth 100000
set_option maxHeartbeats 4000000
@[go_sem] def e119:EC:=.seq (.reg [(Qa 4 (.mv (.c .ff)))]) (.seq (.reg [(Qe 5 1 1),(Qm 6 0),(Qf 7 1 2),(Ql 8 7),(Qa 9 (.call 53 [(.t 5),(.t 6),(.t 8)])),(Qm 4 9)]) (.ret))
theorem ok119:FnOK Tryz.prog 119 Tryz.f119 e119 [.t 4] 3 7:=⟨by kernel_rfl,⟨_,rfl,by kernel_rfl⟩,by kernel_rfl,by kernel_rfl⟩
noncomputable def Zgj (x1:Int) (x2:Model) (x3:Event):Option Bool:=
 (Zaj x2 x1 x3.Node).bind fun x4=>
 some x4
theorem Zhj (x1:Int) (x2:Model) (x3:Event) (r:Bool) (h:Zgj x1 x2 x3=some r):Zy2 Tryz.prog 119 [.iv x1,.elt (Model.row x2) 0,.elt (Event.row x3) 0] (.bv r):=by
 refine Z23 ok119 rfl rfl fun w0 H0=>?_
 rw [Zgj] at h
 refine Zt2 10 ?_;dsimp only [go_sem];refine An ?_;obtain ⟨x4,ex4,h⟩:=Bs h;refine Z73 trivial (Zbj x2 x1 x3.Node _ ex4) (h:=?_);refine Zt2 2 ?_;dsimp only [go_sem];refine An ?_;exact Z45 (res:=fun (r:Bool)=>.bv r) ok119 h
def Zij (F:Nat) (x1:Int) (x2:Model) (x3:Event):Option Bool:=
 (Zej F x2 x1 x3.Node).bind fun x4=>
 some x4
theorem Zjj {F:Nat} {x1:Int} {x2:Model} {x3:Event}:ole (Zij F x1 x2 x3) (Zgj x1 x2 x3):=by
 unfold Zij Zgj
 with_reducible repeat' first | exact Zn4 _ | assumption | intro _ | refine Zo4 ?_ ?_ | refine Zp4 ?_ ?_ | refine Zq4 ?_ | refine Zs4 ?_ | apply Zfj
set_option maxRecDepth 100000
set_option maxHeartbeats 4000000
@[go_sem] def e84:EC:=.seq (.reg [(Qx 2 35 1 0),(Qx 3 42 5 1),(Qa 4 (.alloc 64 [.iv 0,.nl])),(Qi 5 0)]) (.seq (.reg [(Qf 10 0 2),(Ql 11 10),(Qf 12 1 3),(Ql 13 12),(Qk 14 3 11 13),(Qf 15 0 14),(Qe 16 2 15),(Qa 17 (.call 118 [(.t 16)])),(Qm 9 17),(Qa 18 (.ext (.t 9) 0)),(Qa 19 (.ext (.t 9) 1)),(Qa 20 (.ext (.t 9) 2)),(Qa 6 (.alloc 64 [.iv 0,.nl])),(Qs 2 6 18),(Qm 7 19),(Qm 8 20)]) (.seq (.seq (.reg [(Qm 21 8),(Qa 22 (.bin .neq (.t 21) (.c (.iv 0)))),(Qm 23 22),(Qg 24 23 false (.mv (.t 7))),(Qh 25 23 false 2 3),(Qn 26 23 false 25),(Qg 27 23 false (.bin .neq (.t 24) (.t 26))),(Qq 28 23 27),(Qm 29 28),(Qh 30 29 false 1 6),(Qn 31 29 false 30),(Qg 32 29 false (.idx 4 (.t 31) (.c (.iv 0)))),(Qh 33 29 false 1 32),(Qn 34 29 false 33),(Qg 35 29 false (.mkf 119 [(.t 2),(.t 3)])),(Qg 36 29 false (.call 57 [(.t 34),(.t 35)])),(Qq 37 29 36)]) (.ite (.t 37) (.seq (.reg [(Qa 38 (.build [.iv 0,.nl] [])),(Qs 2 4 38),(Qi 5 203)]) (.ret)) (.skip))) (.seq (.reg [(Qe 39 2 6),(Qs 2 4 39),(Qi 5 0)]) (.ret))))
theorem ok84:FnOK Tryz.prog 84 Tryz.f84 e84 [.c 4 (some 2),.t 5] 2 38:=⟨by kernel_rfl,⟨_,rfl,by kernel_rfl⟩,by kernel_rfl,by kernel_rfl⟩
set_option maxRecDepth 100000
set_option maxHeartbeats 4000000
@[go_sem] def e50:EC:=.seq (.reg [(Qx 2 35 1 0),(Qx 3 42 5 1),(Qa 4 (.alloc 64 [.iv 0,.nl])),(Qi 5 0)]) (.seq (.reg [(Qf 7 0 2),(Ql 8 7),(Qf 9 1 3),(Ql 10 9),(Qk 11 3 8 10),(Qf 12 0 11),(Qe 13 2 12),(Qs 2 4 13)]) (.seq (.reg [(Qe 14 1 2),(Qf 15 1 3),(Ql 16 15),(Qa 17 (.call 21 [(.t 14),(.t 16)])),(Qm 6 17)]) (.seq (.seq (.reg [(Qf 18 0 3),(Ql 19 18)]) (.blk 0 (.seq (.blk 6 (.seq (.blk 5 (.seq (.blk 4 (.blk 3 (.seq (.blk 2 (.seq (.blk 1 (.seq (.seq (.seq (.reg [(Qa 21 (.bin .eql (.t 19) (.c (.iv 0)))),(Qm 20 21)]) (.ite (.t 20) (.exit 1) (.skip))) (.seq (.seq (.reg [(Qa 23 (.bin .eql (.t 19) (.c (.iv 1)))),(Qm 22 23)]) (.ite (.t 22) (.exit 2) (.skip))) (.seq (.seq (.reg [(Qa 25 (.bin .eql (.t 19) (.c (.iv 2)))),(Qm 24 25)]) (.ite (.t 24) (.exit 3) (.skip))) (.seq (.seq (.reg [(Qa 27 (.bin .eql (.t 19) (.c (.iv 4)))),(Qm 26 27)]) (.ite (.t 26) (.exit 4) (.skip))) (.seq (.seq (.reg [(Qa 29 (.bin .eql (.t 19) (.c (.iv 5)))),(Qm 28 29)]) (.ite (.t 28) (.exit 5) (.skip))) (.seq (.reg [(Qa 31 (.bin .eql (.t 19) (.c (.iv 3)))),(Qm 30 31)]) (.ite (.t 30) (.exit 6) (.skip)))))))) (.exit 0))) (.seq (.seq (.reg [(Qe 33 2 4),(Qf 34 2 3),(Ql 35 34),(Qf 36 4 3),(Ql 37 36),(Qa 38 (.call 83 [(.t 33),(.t 35),(.t 37)])),(Qm 32 38),(Qa 39 (.ext (.t 32) 0)),(Qa 40 (.ext (.t 32) 1)),(Qs 2 4 39),(Qm 5 40)]) (.seq (.seq (.drw [(Qm 41 5),(Qa 42 (.bin .eql (.t 41) (.c (.iv 0)))),(Qm 43 42),(Qh 44 43 true 4 3),(Qn 45 43 true 44),(Qh 46 43 true 0 2),(Qn 47 43 true 46),(Qh 48 43 true 1 3),(Qn 49 43 true 48),(Qg 50 43 true (.idx 3 (.t 47) (.t 49))),(Qh 51 43 true 2 50),(Qn 52 43 true 51),(Qg 53 43 true (.call 52 [(.t 45),(.t 52)])),(Qg 54 43 true (.not (.t 53))),(Qp 55 43 54)] [[],[0],[1],[2],[3,2],[2],[5,2],[2],[7,2],[6,8,2],[9,2],[10,2],[4,11,2,2],[12,2],[2,13]] [[1],[0,2],[1,3,4,5,6,7,8,9,10,11,12,13,14],[2,4],[2,3,12],[2,6],[2,5,9],[2,8],[2,7,9],[2,6,8,10],[2,9,11],[2,10,12],[2,4,11,13],[2,12,14],[2,13]]) (.ite (.t 55) (.seq (.reg [(Qa 56 (.build [.iv 0,.nl] [])),(Qs 2 4 56),(Qi 5 202)]) (.ret)) (.skip))) (.seq (.reg [(Qe 57 2 4),(Qm 58 5),(Qs 2 4 57),(Qm 5 58)]) (.ret)))) (.exit 0)))) (.seq (.seq (.reg [(Qe 59 1 2),(Qe 60 5 3),(Qa 61 (.call 84 [(.t 59),(.t 60)])),(Qa 62 (.ext (.t 61) 0)),(Qa 63 (.ext (.t 61) 1)),(Qs 2 4 62),(Qm 5 63)]) (.ret)) (.exit 0))))) (.seq (.reg [(Qe 65 2 4),(Qf 66 2 3),(Ql 67 66),(Qa 68 (.call 85 [(.t 65),(.t 67)])),(Qm 64 68),(Qa 69 (.ext (.t 64) 0)),(Qa 70 (.ext (.t 64) 1)),(Qs 2 4 69),(Qm 5 70)]) (.exit 0)))) (.seq (.reg [(Qm 71 6),(Qf 72 2 3),(Ql 73 72),(Qa 74 (.call 86 [(.t 71),(.t 73)])),(Qa 75 (.not (.t 74)))]) (.ite (.t 75) (.seq (.reg [(Qa 76 (.build [.iv 0,.nl] [])),(Qs 2 4 76),(Qi 5 205)]) (.ret)) (.skip))))) (.seq (.reg [(Qe 78 2 4),(Qf 79 2 3),(Ql 80 79),(Qa 81 (.call 87 [(.t 78),(.t 80)])),(Qm 77 81),(Qa 82 (.ext (.t 77) 0)),(Qa 83 (.ext (.t 77) 1)),(Qs 2 4 82),(Qm 5 83)]) (.exit 0))))) (.seq (.seq (.reg [(Qm 84 5),(Qa 85 (.bin .neq (.t 84) (.c (.iv 0))))]) (.ite (.t 85) (.seq (.reg [(Qa 86 (.build [.iv 0,.nl] [])),(Qs 2 4 86),(Qi 5 204)]) (.ret)) (.skip))) (.seq (.reg [(Qe 87 2 4),(Qs 2 4 87),(Qi 5 0)]) (.ret))))))
theorem ok50:FnOK Tryz.prog 50 Tryz.f50 e50 [.c 4 (some 2),.t 5] 2 86:=⟨by kernel_rfl,⟨_,rfl,by kernel_rfl⟩,by kernel_rfl,by kernel_rfl⟩
set_option maxRecDepth 100000
set_option maxHeartbeats 4000000
@[go_sem] def e17:EC:=.seq (.reg [(Qx 2 35 1 0),(Qx 3 42 5 1),(Qa 4 (.alloc 35 [.nl])),(Qi 5 0)]) (.seq (.reg [(Qe 9 1 2),(Qa 10 (.call 23 [(.t 9)])),(Qm 6 10)]) (.seq (.reg [(Qf 11 0 3),(Ql 12 11),(Qa 13 (.bin .eql (.t 12) (.c (.iv 6)))),(Qm 14 13),(Qh 15 14 false 0 3),(Qn 16 14 false 15),(Qg 17 14 false (.bin .eql (.t 16) (.c (.iv 7)))),(Qq 18 14 17),(Qm 19 18),(Qh 20 19 false 0 3),(Qn 21 19 false 20),(Qg 22 19 false (.bin .eql (.t 21) (.c (.iv 8)))),(Qq 23 19 22),(Qm 7 23)]) (.seq (.blk 0 (.seq (.reg [(Qm 25 6),(Qa 26 (.bin .neq (.t 25) (.c (.iv 0)))),(Qm 24 26)]) (.ite (.t 24) (.skip) (.seq (.reg [(Qe 28 1 2),(Qf 29 1 3),(Ql 30 29),(Qa 31 (.call 47 [(.t 28),(.t 30)])),(Qa 32 (.not (.t 31))),(Qm 33 32),(Qg 34 33 false (.mv (.t 7))),(Qg 35 33 false (.mv (.t 34))),(Qg 36 35 true (.loadA 1 (.t 2))),(Qh 37 35 true 3 3),(Qn 38 35 true 37),(Qg 39 35 true (.call 47 [(.t 36),(.t 38)])),(Qg 40 35 true (.not (.t 39))),(Qg 41 35 true (.mv (.t 40))),(Qh 42 41 false 3 3),(Qn 43 41 false 42),(Qh 44 41 false 1 3),(Qn 45 41 false 44),(Qg 46 41 false (.bin .eql (.t 43) (.t 45))),(Qg 47 35 true (.pick (.t 41) (.c .tt) (.t 46))),(Qg 48 33 false (.pick (.t 35) (.t 47) (.c .ff))),(Qq 49 33 48),(Qm 27 49)]) (.ite (.t 27) (.reg [(Qi 6 201)]) (.seq (.reg [(Qf 51 0 3),(Ql 52 51),(Qa 53 (.bin .neq (.t 52) (.c (.iv 5)))),(Qm 54 53),(Qg 55 54 true (.loadA 1 (.t 2))),(Qh 56 54 true 1 3),(Qn 57 54 true 56),(Qg 58 54 true (.call 21 [(.t 55),(.t 57)])),(Qg 59 54 true (.len (.t 58))),(Qg 60 54 true (.bin .gtr (.t 59) (.c (.iv 0)))),(Qp 61 54 60),(Qm 50 61)]) (.ite (.t 50) (.reg [(Qi 6 205)]) (.seq (.reg [(Qf 63 0 3),(Ql 64 63),(Qa 65 (.bin .lss (.t 64) (.c (.iv 0)))),(Qm 66 65),(Qh 67 66 false 0 3),(Qn 68 66 false 67),(Qg 69 66 false (.bin .gtr (.t 68) (.c (.iv 8)))),(Qq 70 66 69),(Qm 62 70)]) (.ite (.t 62) (.reg [(Qi 6 207)]) (.skip)))))))))) (.seq (.seq (.reg [(Qm 71 6),(Qa 72 (.bin .neq (.t 71) (.c (.iv 0))))]) (.ite (.t 72) (.seq (.reg [(Qa 73 (.build [.nl] [])),(Qm 74 6),(Qs 1 4 73),(Qm 5 74)]) (.ret)) (.skip))) (.seq (.reg [(Qe 75 1 2),(Qa 76 (.call 48 [(.t 75)])),(Qs 1 2 76)]) (.seq (.reg [(Qf 77 0 2),(Ql 78 77),(Qf 79 1 3),(Ql 80 79),(Qk 81 3 78 80),(Qm 8 81)]) (.seq (.seq (.reg [(Qm 82 7)]) (.ite (.t 82) (.reg [(Qm 84 8),(Qe 85 1 2),(Qe 86 5 3),(Qa 87 (.call 49 [(.t 85),(.t 86)])),(Qm 83 87),(Qa 88 (.ext (.t 83) 0)),(Qa 89 (.ext (.t 83) 1)),(Qa 90 (.nilchk (.t 84))),(Qf 91 2 90),(Qs 1 91 88),(Qm 6 89)]) (.reg [(Qm 93 8),(Qe 94 1 2),(Qe 95 5 3),(Qa 96 (.call 50 [(.t 94),(.t 95)])),(Qm 92 96),(Qa 97 (.ext (.t 92) 0)),(Qa 98 (.ext (.t 92) 1)),(Qa 99 (.nilchk (.t 93))),(Qf 100 0 99),(Qs 2 100 97),(Qm 6 98)]))) (.seq (.seq (.reg [(Qm 101 6),(Qa 102 (.bin .neq (.t 101) (.c (.iv 0))))]) (.ite (.t 102) (.seq (.reg [(Qa 103 (.build [.nl] [])),(Qm 104 6),(Qs 1 4 103),(Qm 5 104)]) (.ret)) (.skip))) (.seq (.reg [(Qe 105 1 2),(Qs 1 4 105),(Qi 5 0)]) (.ret))))))))))
theorem ok17:FnOK Tryz.prog 17 Tryz.f17 e17 [.c 4 (some 1),.t 5] 2 104:=⟨by kernel_rfl,⟨_,rfl,by kernel_rfl⟩,by kernel_rfl,by kernel_rfl⟩
noncomputable def Zkj:(List Place)→Option (List Place)
| x68=>
 some x68
noncomputable def Zlj (x32:Int) (x38:(List Place)) (x40:Place):(List Sess)→Option ((Int×(List Place)) ⊕ (List Place))
| x62=>
 some (.inl (wr (x32+1),x38.set (Int.toNat (x32)) ((Place.mk ((Book.mk x40.Book.Last x62)) x40.Live))))
noncomputable def Zmj (x47:Int):(List Sess)→Option ((Int×(List Sess)) ⊕ ((Int×(List Place)) ⊕ (List Place)))
| x52=>
 some (.inl (wr (x47+1),x52))
noncomputable def Znj (x32:Int) (x38:(List Place)) (x39:(List Sess)) (x40:Place):(Int×(List Sess))→Option ((Int×(List Sess)) ⊕ ((Int×(List Place)) ⊕ (List Place)))
| (x47,x48)=>
 ifb (decide (x47<(ln Sess.row x39))) (
 (at_ x48 x47).bind fun x49=>
 (Zg9 x49.Need).bind fun x50=>
 (Zmj x47) (x48.set (Int.toNat (x47)) ((Sess.mk x49.ID x50 x49.State x49.Age)))) (
 Option.map Sum.inr ((Zlj x32 x38 x40) x48))
noncomputable def Zoj (x32:Int):((List Place)×(List Sess))→Option ((Int×(List Place)) ⊕ (List Place))
| (x38,x39)=>
 (at_ x38 x32).bind fun x40=>
 loop (Znj x32 x38 x39 x40) (0,x39)
noncomputable def Zpj (x2:(List Place)):(Int×(List Place))→Option ((Int×(List Place)) ⊕ (List Place))
| (x32,x33)=>
 ifb (decide (x32<(ln Place.row x2))) (
 (at_ x33 x32).bind fun x34=>
 (Zg9 x34.Live).bind fun x35=>
 (Zwe x34.Book.Sess).bind fun x37=>
 (Zoj x32) (x33.set (Int.toNat (x32)) ((Place.mk x34.Book x35)),x37)) (
 Option.map Sum.inr (Zkj x33))
noncomputable def Zqj (x1:Model):Option (List Place):=
 (Zvi x1.Places).bind fun x2=>
 loop (Zpj x2) (0,x2)
theorem Zrj (x1:Model) (r:(List Place)) (h:Zqj x1=some r):FunT Tryz.prog 48 [.agg [.sl 3 (List.map Place.row x1.Places)]] [none,none,none] [] (.agg [.osl 0]) [none,none,none] [some ⟨69,3,List.map Place.row r⟩]:=by
 refine Z46 ok48 rfl rfl rfl (by first | rfl | simp [go_sem]) fun w0 M0=>?_
 rw [Zqj] at h
 dsimp only [lun,List.cons_append,List.nil_append]
 refine Zt2 9 ?_;dsimp only [go_sem];refine An ?_;obtain ⟨x2,ex2,h⟩:=Bs h;refine Zk5 trivial (Zwi x1.Places _ ex2) (h:=?_);refine Zt2 11 ?_;dsimp only [go_sem];refine An ?_;refine Zu4 (fun (x68:(List Place))=>(⟨(.any :: .ptr 3 0 :: .ptr 4 0::an 65 []),[none,none,none,some ⟨35,[.osl 0]⟩,some ⟨35,[.nl]⟩],[some ⟨69,3,List.map Place.row x68⟩]⟩:St)) Zkj r ?_ fun J1=>?_
 ·intro x68 h;rw [Zkj] at h;(try dsimp only);refine Zt2 5 ?_;dsimp only [go_sem];refine An ?_;obtain rfl:=Option.some.inj h;exact Z56 ok48 rfl (by simp [go_sem])
 ·refine Zt2 1 ?_;dsimp only [go_sem];refine An ?_;refine Zv4 h (fun ((x32,x33):(Int×(List Place)))=>(⟨(.any :: .ptr 3 0 :: .ptr 4 0::an 9 (.iv (ln Place.row x2) :: .iv x32::an 54 [])),[none,none,none,some ⟨35,[.osl 0]⟩,some ⟨35,[.nl]⟩],[some ⟨69,3,List.map Place.row x33⟩]⟩:St)) (by simp [go_sem]) (by rintro ⟨x32,x33⟩;first | rfl | simp [go_sem]) ?_;rintro n1 ⟨x32,x33⟩ y1 h hin1 hout1;rw [Zpj] at h;(try dsimp only);refine Zt2 5 ?_;dsimp only [go_sem];refine An ?_;refine Zw4 h rfl (fun _ h=>?_) fun _ h=>?_
  ·refine Zt2 13 ?_;dsimp only [go_sem];refine An ?_;obtain ⟨x34,ex34,h⟩:=Bs h;refine Zs5 Place.row ex34 trivial rfl rfl rfl ?_;refine Zt2 3 ?_;dsimp only [go_sem];refine An ?_
   refine Zu4 (fun ((x38,x39):((List Place)×(List Sess)))=>(⟨(.any :: .ptr 3 0 :: .ptr 4 0 :: .any :: .oel 0 (Int.toNat (x32)*3) 0::an 7 (.iv (ln Place.row x2) :: .iv x32::an 54 [])),[none,none,none,some ⟨35,[.osl 0]⟩,some ⟨35,[.nl]⟩],[some ⟨69,3,fixR (List.map Place.row x38) (Int.toNat (x32)) 1 1⟩,some ⟨74,4,List.map Sess.row x39⟩]⟩:St)) (Zoj x32) y1 ?_ fun J2=>?_
   ·rintro ⟨x38,x39⟩ h;rw [Zoj] at h;(try dsimp only);refine Zt2 6 ?_;dsimp only [go_sem];refine An ?_;obtain ⟨x40,ex40,h⟩:=Bs h;refine V_loadN Place.row ex40 trivial rfl rfl rfl ?_;refine Zt2 3 ?_;dsimp only [go_sem];refine An ?_
    refine Zu4 (fun (x62:(List Sess))=>(⟨(.any :: .ptr 3 0 :: .ptr 4 0::an 9 (.iv (ln Place.row x2) :: .iv x32::an 54 [])),[none,none,none,some ⟨35,[.osl 0]⟩,some ⟨35,[.nl]⟩],[some ⟨69,3,fixR (List.map Place.row x38) (Int.toNat (x32)) 1 1⟩,some ⟨74,4,List.map Sess.row x62⟩]⟩:St)) (Zlj x32 x38 x40) y1 ?_ fun J3=>?_
    ·intro x62 h;rw [Zlj] at h;(try dsimp only);refine Zt2 5 ?_;dsimp only [go_sem];refine An ?_;refine V_sealN 0 1 (f:=Place.row) ((Place.mk ((Book.mk x40.Book.Last x62)) x40.Live)) ex40 rfl rfl rfl rfl rfl ?_;dsimp only [go_sem];exact Z55 h hin1
    ·refine Zt2 1 ?_;dsimp only [go_sem];refine An ?_;refine Zv4 h (fun ((x47,x48):(Int×(List Sess)))=>(⟨(.any :: .ptr 3 0 :: .ptr 4 0 :: .any :: .oel 0 (Int.toNat (x32)*3) 0::an 7 (.iv (ln Place.row x2) :: .iv x32::an 29 (.iv (ln Sess.row x39) :: .iv x47::an 23 []))),[none,none,none,some ⟨35,[.osl 0]⟩,some ⟨35,[.nl]⟩],[some ⟨69,3,fixR (List.map Place.row x38) (Int.toNat (x32)) 1 1⟩,some ⟨74,4,List.map Sess.row x48⟩]⟩:St)) (by simp [go_sem]) (by rintro ⟨x47,x48⟩;first | rfl | simp [go_sem]) ?_;rintro n2 ⟨x47,x48⟩ y2 h hin2 hout2
     rw [Znj] at h;(try dsimp only);refine Zt2 5 ?_;dsimp only [go_sem];refine An ?_;refine Zw4 h rfl (fun _ h=>?_) fun _ h=>?_
     ·refine Zt2 8 ?_;dsimp only [go_sem];refine An ?_;refine Zu4 (fun (x52:(List Sess))=>(⟨(.any :: .ptr 3 0 :: .ptr 4 0 :: .any :: .oel 0 (Int.toNat (x32)*3) 0::an 7 (.iv (ln Place.row x2) :: .iv x32::an 29 (.iv (ln Sess.row x39) :: .iv x47::an 23 []))),[none,none,none,some ⟨35,[.osl 0]⟩,some ⟨35,[.nl]⟩],[some ⟨69,3,fixR (List.map Place.row x38) (Int.toNat (x32)) 1 1⟩,some ⟨74,4,List.map Sess.row x52⟩]⟩:St)) (Zmj x47) y2 ?_ fun J4=>?_
      ·intro x52 h;rw [Zmj] at h;(try dsimp only);refine Zt2 5 ?_;dsimp only [go_sem];refine An ?_;exact Z55 h hin2
      ·refine Zs3 (by kernel_rfl) fun all hall hs hnap haf=>?_;dsimp only [go_sem];refine Zq5 hall hs haf hnap 10 9 [4,1,5,1,1,7] [(47,[.oel 0 (Int.toNat (x32)*3) 0,.oel 0 (Int.toNat (x32)*3) 0,.oel 0 (Int.toNat (x32)*3) 0,.oel 0 (Int.toNat (x32)*3) 1]),(1,[.iv x47,.oel 0 (Int.toNat (x32)*3) 0,.oel 0 (Int.toNat (x32)*3) 0,.oel 0 (Int.toNat (x32)*3) 0,.oel 0 (Int.toNat (x32)*3) 1]),(1,[.iv x47])] (by kernel_rfl) ?_;dsimp only [go_sem];refine Z44 4 10 rfl ?_ ?_
       ·refine Z27 hall Place.row ex40 rfl trivial rfl rfl rfl ?_;dsimp only [go_sem];refine Z34 10 rfl ?_;refine Z27 hall Place.row ex40 rfl trivial rfl rfl rfl ?_;dsimp only [go_sem];obtain ⟨x49,ex49,h⟩:=Bs h;refine Z34 12 rfl ?_;refine Z76 hall Sess.row ex49 rfl trivial rfl rfl rfl ?_;dsimp only [go_sem];refine Zp5 hall hs haf hnap 1 5 ?_;dsimp only [go_sem];refine An ?_;refine Z34 14 rfl ?_;refine Z86 hall Sess.row ex49 rfl trivial rfl rfl rfl ?_;dsimp only [go_sem];refine Z34 15 rfl ?_;obtain ⟨x50,ex50,h⟩:=Bs h
        refine Z84 hall rfl trivial (Zi9 x49.Need _ ex50) (h:=?_);dsimp only [go_sem];refine Z34 16 rfl ?_;refine Z76 hall Sess.row ex49 rfl trivial rfl rfl rfl ?_;dsimp only [go_sem];refine Zp5 hall hs haf hnap 1 1 ?_;dsimp only [go_sem];refine An ?_;refine Z34 18 rfl ?_;refine Za6 hall [.sl 1 (List.map Zb5 x50)] Sess.row (y':=(Sess.mk x49.ID x50 x49.State x49.Age)) ex49 rfl trivial rfl rfl rfl (by first | exact Zg4 _ | simp [go_sem]) rfl rfl rfl rfl ?_;dsimp only [go_sem];refine Z24 rfl ?_ _
        exact Z65 J4 (s:=x48.set (Int.toNat (x47)) ((Sess.mk x49.ID x50 x49.State x49.Age))) h
       ·refine Z27 hall Place.row ex40 rfl trivial rfl rfl rfl ?_;dsimp only [go_sem];obtain ⟨x49,ex49,h⟩:=Bs h;refine Z44 4 12 rfl ?_ ?_
        ·refine Z27 hall Place.row ex40 rfl trivial rfl rfl rfl ?_;dsimp only [go_sem];refine Z34 12 rfl ?_;refine Z76 hall Sess.row ex49 rfl trivial rfl rfl rfl ?_;dsimp only [go_sem];refine Zp5 hall hs haf hnap 1 5 ?_;dsimp only [go_sem];refine An ?_;refine Z34 14 rfl ?_;refine Z86 hall Sess.row ex49 rfl trivial rfl rfl rfl ?_;dsimp only [go_sem];refine Z34 15 rfl ?_;obtain ⟨x50,ex50,h⟩:=Bs h;refine Z84 hall rfl trivial (Zi9 x49.Need _ ex50) (h:=?_);dsimp only [go_sem];refine Z34 16 rfl ?_
         refine Z76 hall Sess.row ex49 rfl trivial rfl rfl rfl ?_;dsimp only [go_sem];refine Zp5 hall hs haf hnap 1 1 ?_;dsimp only [go_sem];refine An ?_;refine Z34 18 rfl ?_;refine Za6 hall [.sl 1 (List.map Zb5 x50)] Sess.row (y':=(Sess.mk x49.ID x50 x49.State x49.Age)) ex49 rfl trivial rfl rfl rfl (by first | exact Zg4 _ | simp [go_sem]) rfl rfl rfl rfl ?_;dsimp only [go_sem];refine Z24 rfl ?_ _;exact Z65 J4 (s:=x48.set (Int.toNat (x47)) ((Sess.mk x49.ID x50 x49.State x49.Age))) h
        ·refine Z76 hall Sess.row ex49 rfl trivial rfl rfl rfl ?_;dsimp only [go_sem];refine Zp5 hall hs haf hnap 1 6 ?_;dsimp only [go_sem];refine An ?_;refine Z44 4 14 rfl ?_ ?_
         ·refine Z27 hall Place.row ex40 rfl trivial rfl rfl rfl ?_;dsimp only [go_sem];refine Z34 14 rfl ?_;refine Z86 hall Sess.row ex49 rfl trivial rfl rfl rfl ?_;dsimp only [go_sem];refine Z34 15 rfl ?_;obtain ⟨x50,ex50,h⟩:=Bs h;refine Z84 hall rfl trivial (Zi9 x49.Need _ ex50) (h:=?_);dsimp only [go_sem];refine Z34 16 rfl ?_;refine Z76 hall Sess.row ex49 rfl trivial rfl rfl rfl ?_;dsimp only [go_sem];refine Zp5 hall hs haf hnap 1 1 ?_;dsimp only [go_sem];refine An ?_;refine Z34 18 rfl ?_
          refine Za6 hall [.sl 1 (List.map Zb5 x50)] Sess.row (y':=(Sess.mk x49.ID x50 x49.State x49.Age)) ex49 rfl trivial rfl rfl rfl (by first | exact Zg4 _ | simp [go_sem]) rfl rfl rfl rfl ?_;dsimp only [go_sem];refine Z24 rfl ?_ _;exact Z65 J4 (s:=x48.set (Int.toNat (x47)) ((Sess.mk x49.ID x50 x49.State x49.Age))) h
         ·refine Z86 hall Sess.row ex49 rfl trivial rfl rfl rfl ?_;dsimp only [go_sem];obtain ⟨x50,ex50,h⟩:=Bs h;refine Z44 4 15 rfl ?_ ?_
          ·refine Z27 hall Place.row ex40 rfl trivial rfl rfl rfl ?_;dsimp only [go_sem];refine Z34 15 rfl ?_;refine Z84 hall rfl trivial (Zi9 x49.Need _ ex50) (h:=?_);dsimp only [go_sem];refine Z34 16 rfl ?_;refine Z76 hall Sess.row ex49 rfl trivial rfl rfl rfl ?_;dsimp only [go_sem];refine Zp5 hall hs haf hnap 1 1 ?_;dsimp only [go_sem];refine An ?_;refine Z34 18 rfl ?_
           refine Za6 hall [.sl 1 (List.map Zb5 x50)] Sess.row (y':=(Sess.mk x49.ID x50 x49.State x49.Age)) ex49 rfl trivial rfl rfl rfl (by first | exact Zg4 _ | simp [go_sem]) rfl rfl rfl rfl ?_;dsimp only [go_sem];refine Z24 rfl ?_ _;exact Z65 J4 (s:=x48.set (Int.toNat (x47)) ((Sess.mk x49.ID x50 x49.State x49.Age))) h
          ·refine Z84 hall rfl trivial (Zi9 x49.Need _ ex50) (h:=?_);dsimp only [go_sem];refine Z34 4 rfl ?_;refine Z27 hall Place.row ex40 rfl trivial rfl rfl rfl ?_;dsimp only [go_sem];refine Z34 16 rfl ?_;refine Z76 hall Sess.row ex49 rfl trivial rfl rfl rfl ?_;dsimp only [go_sem];refine Zp5 hall hs haf hnap 1 1 ?_;dsimp only [go_sem];refine An ?_;refine Z34 18 rfl ?_
           refine Za6 hall [.sl 1 (List.map Zb5 x50)] Sess.row (y':=(Sess.mk x49.ID x50 x49.State x49.Age)) ex49 rfl trivial rfl rfl rfl (by first | exact Zg4 _ | simp [go_sem]) rfl rfl rfl rfl ?_;dsimp only [go_sem];refine Z24 rfl ?_ _;exact Z65 J4 (s:=x48.set (Int.toNat (x47)) ((Sess.mk x49.ID x50 x49.State x49.Age))) h
     ·refine Zt2 1 ?_;dsimp only [go_sem];refine An ?_;exact Z65 J3 (s:=x48) (Zt4 h hout2)
   ·refine Zs3 (by kernel_rfl) fun all hall hs hnap haf=>?_;dsimp only [go_sem];refine Zq5 hall hs haf hnap 9 11 [5,2,4,9] [(20,[.oel 0 (Int.toNat (x32)*3) 0,.oel 0 (Int.toNat (x32)*3) 0,.oel 0 (Int.toNat (x32)*3) 0,.oel 0 (Int.toNat (x32)*3) 0,.oel 0 (Int.toNat (x32)*3) 2]),(2,[.oel 0 (Int.toNat (x32)*3) 0,.oel 0 (Int.toNat (x32)*3) 0,.oel 0 (Int.toNat (x32)*3) 0,.oel 0 (Int.toNat (x32)*3) 1])] (by kernel_rfl) ?_;dsimp only [go_sem];refine Z44 5 11 rfl ?_ ?_
    ·refine Z86 hall Place.row ex34 rfl trivial rfl rfl rfl ?_;dsimp only [go_sem];obtain ⟨x35,ex35,h⟩:=Bs h;refine Z44 6 11 rfl ?_ ?_
     ·refine Z84 hall rfl trivial (Zi9 x34.Live _ ex35) (h:=?_);dsimp only [go_sem];refine Z34 11 rfl ?_;refine Z86 hall Place.row ex34 rfl trivial rfl rfl rfl ?_;dsimp only [go_sem];refine Z34 12 rfl ?_;obtain ⟨x37,ex37,h⟩:=Bs h;refine GO_callO hall rfl trivial (Zxe x34.Book.Sess _ ex37) (h:=?_);dsimp only [go_sem];refine Zp5 hall hs haf hnap 2 5 ?_;dsimp only [go_sem];refine An ?_;refine Z34 15 rfl ?_
      refine Za6 hall [.sl 1 (List.map Zb5 x35)] Place.row (y':=(Place.mk x34.Book x35)) ex34 rfl trivial rfl rfl rfl (by first | exact Zg4 _ | simp [go_sem]) rfl rfl rfl rfl ?_;dsimp only [go_sem];refine Zp5 hall hs haf hnap 3 1 ?_;dsimp only [go_sem];refine An ?_;refine Z34 19 rfl ?_;refine Z17 hall Place.row (Zt5 ex34) rfl trivial rfl rfl rfl rfl ?_;dsimp only [go_sem];refine Z24 rfl ?_ _;exact Z65 J2 (s:=(x33.set (Int.toNat (x32)) ((Place.mk x34.Book x35)),x37)) h
     ·refine Z86 hall Place.row ex34 rfl trivial rfl rfl rfl ?_;dsimp only [go_sem];refine Z34 6 rfl ?_;refine Z84 hall rfl trivial (Zi9 x34.Live _ ex35) (h:=?_);dsimp only [go_sem];refine Z34 12 rfl ?_;obtain ⟨x37,ex37,h⟩:=Bs h;refine GO_callO hall rfl trivial (Zxe x34.Book.Sess _ ex37) (h:=?_);dsimp only [go_sem];refine Zp5 hall hs haf hnap 2 5 ?_;dsimp only [go_sem];refine An ?_;refine Z34 15 rfl ?_
      refine Za6 hall [.sl 1 (List.map Zb5 x35)] Place.row (y':=(Place.mk x34.Book x35)) ex34 rfl trivial rfl rfl rfl (by first | exact Zg4 _ | simp [go_sem]) rfl rfl rfl rfl ?_;dsimp only [go_sem];refine Zp5 hall hs haf hnap 3 1 ?_;dsimp only [go_sem];refine An ?_;refine Z34 19 rfl ?_;refine Z17 hall Place.row (Zt5 ex34) rfl trivial rfl rfl rfl rfl ?_;dsimp only [go_sem];refine Z24 rfl ?_ _;exact Z65 J2 (s:=(x33.set (Int.toNat (x32)) ((Place.mk x34.Book x35)),x37)) h
    ·refine Z86 hall Place.row ex34 rfl trivial rfl rfl rfl ?_;dsimp only [go_sem];refine Z34 5 rfl ?_;refine Z86 hall Place.row ex34 rfl trivial rfl rfl rfl ?_;dsimp only [go_sem];refine Z34 6 rfl ?_;obtain ⟨x35,ex35,h⟩:=Bs h;refine Z84 hall rfl trivial (Zi9 x34.Live _ ex35) (h:=?_);dsimp only [go_sem];refine Z34 12 rfl ?_;obtain ⟨x36,ex36,h⟩:=Bs h;refine GO_callO hall rfl trivial (Zxe x34.Book.Sess _ ex36) (h:=?_);dsimp only [go_sem];refine Zp5 hall hs haf hnap 2 5 ?_;dsimp only [go_sem];refine An ?_
     refine Z34 15 rfl ?_;refine Za6 hall [.sl 1 (List.map Zb5 x35)] Place.row (y':=(Place.mk x34.Book x35)) ex34 rfl trivial rfl rfl rfl (by first | exact Zg4 _ | simp [go_sem]) rfl rfl rfl rfl ?_;dsimp only [go_sem];refine Zp5 hall hs haf hnap 3 1 ?_;dsimp only [go_sem];refine An ?_;refine Z34 19 rfl ?_;refine Z17 hall Place.row (Zt5 ex34) rfl trivial rfl rfl rfl rfl ?_;dsimp only [go_sem];refine Z24 rfl ?_ _;exact Z65 J2 (s:=(x33.set (Int.toNat (x32)) ((Place.mk x34.Book x35)),x36)) h
  ·refine Zt2 1 ?_;dsimp only [go_sem];refine An ?_;exact Z65 J1 (s:=x33) (Zt4 h hout1)
def Zsj (_F:Nat):(List Place)→Option (List Place)
| x68=>
 some x68
theorem Ztj {F:Nat}:∀s,ole (Zsj F s) (Zkj s):=by
 intro x68
 unfold Zsj Zkj
 try dsimp only
 with_reducible repeat' first | exact Zn4 _ | assumption | intro _ | refine Zo4 ?_ ?_ | refine Zp4 ?_ ?_ | refine Zq4 ?_ | refine Zs4 ?_
def Zuj (_F:Nat) (x32:Int) (x38:(List Place)) (x40:Place):(List Sess)→Option ((Int×(List Place)) ⊕ (List Place))
| x62=>
 some (.inl (wr (x32+1),x38.set (Int.toNat (x32)) ((Place.mk ((Book.mk x40.Book.Last x62)) x40.Live))))
theorem Zvj {F:Nat} {x32:Int} {x38:(List Place)} {x40:Place}:∀s,ole (Zuj F x32 x38 x40 s) (Zlj x32 x38 x40 s):=by
 intro x62
 unfold Zuj Zlj
 try dsimp only
 with_reducible repeat' first | exact Zn4 _ | assumption | intro _ | refine Zo4 ?_ ?_ | refine Zp4 ?_ ?_ | refine Zq4 ?_ | refine Zs4 ?_ | apply Ztj
def Zwj (_F:Nat) (x47:Int):(List Sess)→Option ((Int×(List Sess)) ⊕ ((Int×(List Place)) ⊕ (List Place)))
| x52=>
 some (.inl (wr (x47+1),x52))
theorem Zxj {F:Nat} {x47:Int}:∀s,ole (Zwj F x47 s) (Zmj x47 s):=by
 intro x52
 unfold Zwj Zmj
 try dsimp only
 with_reducible repeat' first | exact Zn4 _ | assumption | intro _ | refine Zo4 ?_ ?_ | refine Zp4 ?_ ?_ | refine Zq4 ?_ | refine Zs4 ?_ | apply Ztj | apply Zvj
def Zyj (F:Nat) (x32:Int) (x38:(List Place)) (x39:(List Sess)) (x40:Place):(Int×(List Sess))→Option ((Int×(List Sess)) ⊕ ((Int×(List Place)) ⊕ (List Place)))
| (x47,x48)=>
 ifb (decide (x47<(ln Sess.row x39))) (
 (at_ x48 x47).bind fun x49=>
 (Zj9 F x49.Need).bind fun x50=>
 (Zwj F x47) (x48.set (Int.toNat (x47)) ((Sess.mk x49.ID x50 x49.State x49.Age)))) (
 Option.map Sum.inr ((Zuj F x32 x38 x40) x48))
theorem Zzj {F:Nat} {x32:Int} {x38:(List Place)} {x39:(List Sess)} {x40:Place}:∀s,ole (Zyj F x32 x38 x39 x40 s) (Znj x32 x38 x39 x40 s):=by
 rintro ⟨x47,x48⟩
 unfold Zyj Znj
 try dsimp only
 with_reducible repeat' first | exact Zn4 _ | assumption | intro _ | refine Zo4 ?_ ?_ | refine Zp4 ?_ ?_ | refine Zq4 ?_ | refine Zs4 ?_ | apply Ztj | apply Zvj | apply Zxj | apply Zk9
def Z0k (F:Nat) (x32:Int):((List Place)×(List Sess))→Option ((Int×(List Place)) ⊕ (List Place))
| (x38,x39)=>
 (at_ x38 x32).bind fun x40=>
 Zr4 F (Zyj F x32 x38 x39 x40) (0,x39)
theorem Z1k {F:Nat} {x32:Int}:∀s,ole (Z0k F x32 s) (Zoj x32 s):=by
 rintro ⟨x38,x39⟩
 unfold Z0k Zoj
 try dsimp only
 with_reducible repeat' first | exact Zn4 _ | assumption | intro _ | refine Zo4 ?_ ?_ | refine Zp4 ?_ ?_ | refine Zq4 ?_ | refine Zs4 ?_ | apply Ztj | apply Zvj | apply Zxj | apply Zk9 | apply Zzj
def Z2k (F:Nat) (x2:(List Place)):(Int×(List Place))→Option ((Int×(List Place)) ⊕ (List Place))
| (x32,x33)=>
 ifb (decide (x32<(ln Place.row x2))) (
 (at_ x33 x32).bind fun x34=>
 (Zj9 F x34.Live).bind fun x35=>
 (Zye F x34.Book.Sess).bind fun x37=>
 (Z0k F x32) (x33.set (Int.toNat (x32)) ((Place.mk x34.Book x35)),x37)) (
 Option.map Sum.inr (Zsj F x33))
theorem Z3k {F:Nat} {x2:(List Place)}:∀s,ole (Z2k F x2 s) (Zpj x2 s):=by
 rintro ⟨x32,x33⟩
 unfold Z2k Zpj
 try dsimp only
 with_reducible repeat' first | exact Zn4 _ | assumption | intro _ | refine Zo4 ?_ ?_ | refine Zp4 ?_ ?_ | refine Zq4 ?_ | refine Zs4 ?_ | apply Ztj | apply Zvj | apply Zxj | apply Zk9 | apply Zzj | apply Z1k | apply Zze
def Z4k (F:Nat) (x1:Model):Option (List Place):=
 (Zxi F x1.Places).bind fun x2=>
 Zr4 F (Z2k F x2) (0,x2)
theorem Z5k {F:Nat} {x1:Model}:ole (Z4k F x1) (Zqj x1):=by
 unfold Z4k Zqj
 with_reducible repeat' first | exact Zn4 _ | assumption | intro _ | refine Zo4 ?_ ?_ | refine Zp4 ?_ ?_ | refine Zq4 ?_ | refine Zs4 ?_ | apply Ztj | apply Zvj | apply Zxj | apply Zk9 | apply Zzj | apply Z1k | apply Zze | apply Z3k | apply Zyi
noncomputable def Z6k:((List Int)×Bool)→Option ((List Int)×Int)
| (x15,x16)=>
 ifb (!x16) (
 some (([]:List Int),206)) (
 some (x15,0))
noncomputable def Z7k (x1:Event) (x3:Place):Bool→Option ((List Int)×Int)
| x9=>
 (Z5c x3.Live x1.Peer).bind fun x10=>
 Z6k (x10,x9)
noncomputable def Z8k (x1:Event) (x3:Place):Bool→Option ((List Int)×Int)
| x11=>
 (Zed x3.Live x1.Peer).bind fun x12=>
 Z6k (x12,x11)
noncomputable def Z9k (x1:Event) (x2:(List Place)) (x3:Place):(Bool×Bool)→Option ((List Int)×Int)
| (x7,x8)=>
 ifb (decide (x1.Kind=6)) (
 ifb (!x7) (
 (Z7k x1 x3) (x8==(decide (x1.Node<x1.Peer)))) (
 (Z7k x1 x3) false)) (
 ifb (decide (x1.Kind=7)) (
 ifb x7 (
 ifb (decide (x1.Node<x1.Peer)) (
 (Z8k x1 x3) true) (
 (Z8k x1 x3) (!x8))) (
 (Z8k x1 x3) false)) (
 ifb (decide (x1.Kind=8)) (
 ifb (decide (x1.Node<x1.Peer)) (
 ifb (!x7) (
 ifb (!x8) (
 (Zaj ((Model.mk x2)) x1.Node x1.Peer).bind fun x13=>
 ifb (!x13) (
 (Zaj ((Model.mk x2)) x1.Peer x1.Node).bind fun x14=>
 Z6k (x3.Live,!x14)) (
 Z6k (x3.Live,false))) (
 Z6k (x3.Live,false))) (
 Z6k (x3.Live,false))) (
 Z6k (x3.Live,false))) (
 Z6k (x3.Live,false))))
noncomputable def Zak (x1:Event) (x2:(List Place)):Option ((List Int)×Int):=
 (at_ x2 x1.Node).bind fun x3=>
 (Zzi ((Model.mk x2)) x1.Node x1.Peer).bind fun x4=>
 (Zzi ((Model.mk x2)) x1.Peer x1.Node).bind fun x6=>
 (Z9k x1 x2 x3) (x4,x6)
theorem Zbk (x1:Event) (x2:(List Place)) (r:((List Int)×Int)) (h:Zak x1 x2=some r):FunT Tryz.prog 49 [.agg [.osl 0],.agg [.iv x1.Kind,.iv x1.Node,.iv x1.ID,.iv x1.Peer,.sl 1 (List.map Zb5 x1.Need)]] [none,none,none] [some ⟨69,3,List.map Place.row x2⟩] (.tup [.sl 1 (List.map Zb5 r.1),.iv r.2]) [none,none,none] [some ⟨69,3,List.map Place.row x2⟩]:=by
 refine Z46 ok49 rfl rfl rfl (by first | rfl | simp [go_sem]) fun w0 M0=>?_
 rw [Zak] at h
 dsimp only [lun,List.cons_append,List.nil_append]
 refine Zt2 13 ?_;dsimp only [go_sem];refine An ?_;obtain ⟨x3,ex3,h⟩:=Bs h;refine Zs5 Place.row ex3 trivial rfl rfl rfl ?_;refine Zt2 1 ?_;dsimp only [go_sem];refine An ?_;refine V_loadO Place.row ex3 trivial rfl rfl rfl ?_;refine Zt2 3 ?_;dsimp only [go_sem];refine An ?_
 refine Zu4 (fun ((x7,x8):(Bool×Bool))=>(⟨(.any :: .any :: .ptr 3 0 :: .ptr 4 0 :: .any :: .any :: .sl 1 (List.map Zb5 x3.Live) :: .bv x7 :: .bv x8::an 93 []),[none,none,none,some ⟨35,[.osl 0]⟩,some ⟨42,[.iv x1.Kind,.iv x1.Node,.iv x1.ID,.iv x1.Peer,.sl 1 (List.map Zb5 x1.Need)]⟩],[some ⟨69,3,List.map Place.row x2⟩]⟩:St)) (Z9k x1 x2 x3) r ?_ fun J1=>?_
 ·rintro ⟨x7,x8⟩ h;rw [Z9k] at h;(try dsimp only);refine Zt2 16 ?_;dsimp only [go_sem];refine An ?_;refine Zu4 (fun ((x15,x16):((List Int)×Bool))=>(⟨(an 6 (.sl 1 (List.map Zb5 x15) :: .any :: .any :: .bv x16::an 92 [])),[none,none,none],[some ⟨69,3,List.map Place.row x2⟩]⟩:St)) Z6k r ?_ fun J2=>?_
  ·rintro ⟨x15,x16⟩ h;rw [Z6k] at h;(try dsimp only);refine Zt2 7 ?_;dsimp only [go_sem];refine An ?_;refine Zw4 h rfl (fun _ h=>?_) fun _ h=>?_
   ·refine Zt2 5 ?_;dsimp only [go_sem];refine An ?_;obtain rfl:=Option.some.inj h;exact Z56 ok49 rfl (by simp [go_sem])
   ·refine Zt2 7 ?_;dsimp only [go_sem];refine An ?_;obtain rfl:=Option.some.inj h;exact Z56 ok49 rfl (by simp [go_sem])
  ·refine Zw4 h rfl (fun _ h=>?_) fun _ h=>?_
   ·refine Zt2 5 ?_;dsimp only [go_sem];refine An ?_;refine Zu4 (fun (x9:Bool)=>(⟨(an 3 (.ptr 4 0 :: .any :: .any :: .sl 1 (List.map Zb5 x3.Live) :: .any :: .any :: .bv x9::an 92 [])),[none,none,none,none,some ⟨42,[.iv x1.Kind,.iv x1.Node,.iv x1.ID,.iv x1.Peer,.sl 1 (List.map Zb5 x1.Need)]⟩],[some ⟨69,3,List.map Place.row x2⟩]⟩:St)) (Z7k x1 x3) r ?_ fun J3=>?_
    ·intro x9 h;rw [Z7k] at h;(try dsimp only);refine Zt2 4 ?_;dsimp only [go_sem];refine An ?_;obtain ⟨x10,ex10,h⟩:=Bs h;refine Z73 trivial (k_set_Add x3.Live x1.Peer _ ex10) (h:=?_);refine Zt2 2 ?_;dsimp only [go_sem];refine An ?_;exact Z65 J2 (s:=(x10,x9)) h
    ·refine Z35 35 h rfl (fun _ h=>?_) fun _ h=>?_
     ·dsimp only [go_sem];refine Zt2 10 ?_;dsimp only [go_sem];refine An ?_;exact Z65 J3 (s:=x8==(decide (x1.Node<x1.Peer))) h
     ·dsimp only [go_sem];refine Zt2 10 ?_;dsimp only [go_sem];refine An ?_;exact Z65 J3 (s:=false) h
   ·refine Zt2 5 ?_;dsimp only [go_sem];refine An ?_;refine Zw4 h rfl (fun _ h=>?_) fun _ h=>?_
    ·refine Zt2 4 ?_;dsimp only [go_sem];refine An ?_;refine Zu4 (fun (x11:Bool)=>(⟨(an 3 (.ptr 4 0 :: .any :: .any :: .sl 1 (List.map Zb5 x3.Live) :: .any :: .any :: .bv x11::an 92 [])),[none,none,none,none,some ⟨42,[.iv x1.Kind,.iv x1.Node,.iv x1.ID,.iv x1.Peer,.sl 1 (List.map Zb5 x1.Need)]⟩],[some ⟨69,3,List.map Place.row x2⟩]⟩:St)) (Z8k x1 x3) r ?_ fun J4=>?_
     ·intro x11 h;rw [Z8k] at h;(try dsimp only);refine Zt2 4 ?_;dsimp only [go_sem];refine An ?_;obtain ⟨x12,ex12,h⟩:=Bs h;refine Z73 trivial (k_set_Del x3.Live x1.Peer _ ex12) (h:=?_);refine Zt2 2 ?_;dsimp only [go_sem];refine An ?_;exact Z65 J2 (s:=(x12,x11)) h
     ·refine Z35 51 h rfl (fun _ h=>?_) fun _ h=>?_
      ·dsimp only [go_sem];refine Zt2 6 ?_;dsimp only [go_sem];refine An ?_;refine Z35 57 h rfl (fun _ h=>?_) fun _ h=>?_
       ·dsimp only [go_sem];refine Zt2 6 ?_;dsimp only [go_sem];refine An ?_;exact Z65 J4 (s:=true) h
       ·dsimp only [go_sem];refine Zt2 6 ?_;dsimp only [go_sem];refine An ?_;exact Z65 J4 (s:=!x8) h
      ·dsimp only [go_sem];refine Zt2 12 ?_;dsimp only [go_sem];refine An ?_;exact Z65 J4 (s:=false) h
    ·refine Zt2 5 ?_;dsimp only [go_sem];refine An ?_;refine Zw4 h rfl (fun _ h=>?_) fun _ h=>?_
     ·refine Zt2 7 ?_;dsimp only [go_sem];refine An ?_;refine Z35 73 h rfl (fun _ h=>?_) fun _ h=>?_
      ·dsimp only [go_sem];refine Zt2 4 ?_;dsimp only [go_sem];refine An ?_;refine Z35 77 h rfl (fun _ h=>?_) fun _ h=>?_
       ·dsimp only [go_sem];refine Zt2 4 ?_;dsimp only [go_sem];refine An ?_;refine Z35 81 h rfl (fun _ h=>?_) fun _ h=>?_
        ·dsimp only [go_sem];refine Zt2 5 ?_;dsimp only [go_sem];refine An ?_;obtain ⟨x13,ex13,h⟩:=Bs h;refine Z85 trivial ((Z75.refl _).slice 0 rfl) (Zbj ((Model.mk x2)) x1.Node x1.Peer _ ex13) (h:=?_);refine Zt2 3 ?_;dsimp only [go_sem];refine An ?_;refine Z35 90 h rfl (fun _ h=>?_) fun _ h=>?_
         ·dsimp only [go_sem];refine Zt2 5 ?_;dsimp only [go_sem];refine An ?_;obtain ⟨x14,ex14,h⟩:=Bs h;refine Z85 trivial ((Z75.refl _).slice 0 rfl) (Zbj ((Model.mk x2)) x1.Peer x1.Node _ ex14) (h:=?_);refine Zt2 4 ?_;dsimp only [go_sem];refine An ?_;exact Z65 J2 (s:=(x3.Live,!x14)) h
         ·dsimp only [go_sem];refine Zt2 10 ?_;dsimp only [go_sem];refine An ?_;exact Z65 J2 (s:=(x3.Live,false)) h
        ·dsimp only [go_sem];refine Zt2 19 ?_;dsimp only [go_sem];refine An ?_;exact Z65 J2 (s:=(x3.Live,false)) h
       ·dsimp only [go_sem];refine Zt2 23 ?_;dsimp only [go_sem];refine An ?_;exact Z65 J2 (s:=(x3.Live,false)) h
      ·dsimp only [go_sem];refine Zt2 27 ?_;dsimp only [go_sem];refine An ?_;exact Z65 J2 (s:=(x3.Live,false)) h
     ·refine Zt2 1 ?_;dsimp only [go_sem];refine An ?_;exact Z65 J2 (s:=(x3.Live,false)) h
 ·refine Zs3 (by kernel_rfl) fun all hall hs hnap haf=>?_;dsimp only [go_sem];refine Zq5 hall hs haf hnap 8 6 [0,1,4,2,4,3] [(18,[.ptr 4 1,.iv x1.Node,.ptr 4 3,.iv x1.Peer]),(2,[.ptr 4 3,.iv x1.Peer,.ptr 4 1,.iv x1.Node])] (by kernel_rfl) ?_;dsimp only [go_sem];refine Z44 0 6 rfl ?_ ?_
  ·refine Z74 hall rfl trivial ?_;dsimp only [go_sem];obtain ⟨x4,ex4,h⟩:=Bs h;refine Z44 5 6 rfl ?_ ?_
   ·refine Z95 hall rfl trivial ((Z75.refl _).slice 0 rfl) (Z0j ((Model.mk x2)) x1.Node x1.Peer _ ex4) (h:=?_);dsimp only [go_sem];refine Z34 6 rfl ?_;refine Z74 hall rfl trivial ?_;dsimp only [go_sem];refine Z34 11 rfl ?_;obtain ⟨x6,ex6,h⟩:=Bs h;refine Z95 hall rfl trivial ((Z75.refl _).slice 0 rfl) (Z0j ((Model.mk x2)) x1.Peer x1.Node _ ex6) (h:=?_);dsimp only [go_sem];refine Zp5 hall hs haf hnap 2 0 ?_;dsimp only [go_sem];refine An ?_;refine Z24 rfl ?_ _;exact Z65 J1 (s:=(x4,x6)) h
   ·refine Z74 hall rfl trivial ?_;dsimp only [go_sem];refine Z34 5 rfl ?_;refine Z95 hall rfl trivial ((Z75.refl _).slice 0 rfl) (Z0j ((Model.mk x2)) x1.Node x1.Peer _ ex4) (h:=?_);dsimp only [go_sem];refine Z34 11 rfl ?_;obtain ⟨x6,ex6,h⟩:=Bs h;refine Z95 hall rfl trivial ((Z75.refl _).slice 0 rfl) (Z0j ((Model.mk x2)) x1.Peer x1.Node _ ex6) (h:=?_);dsimp only [go_sem];refine Zp5 hall hs haf hnap 2 0 ?_;dsimp only [go_sem];refine An ?_;refine Z24 rfl ?_ _;exact Z65 J1 (s:=(x4,x6)) h
  ·refine Z74 hall rfl trivial ?_;dsimp only [go_sem];refine Z34 0 rfl ?_;refine Z74 hall rfl trivial ?_;dsimp only [go_sem];refine Z34 5 rfl ?_;obtain ⟨x4,ex4,h⟩:=Bs h;refine Z95 hall rfl trivial ((Z75.refl _).slice 0 rfl) (Z0j ((Model.mk x2)) x1.Node x1.Peer _ ex4) (h:=?_);dsimp only [go_sem];refine Z34 11 rfl ?_;obtain ⟨x5,ex5,h⟩:=Bs h;refine Z95 hall rfl trivial ((Z75.refl _).slice 0 rfl) (Z0j ((Model.mk x2)) x1.Peer x1.Node _ ex5) (h:=?_);dsimp only [go_sem];refine Zp5 hall hs haf hnap 2 0 ?_;dsimp only [go_sem]
   refine An ?_;refine Z24 rfl ?_ _;exact Z65 J1 (s:=(x4,x5)) h
def Zck (_F:Nat):((List Int)×Bool)→Option ((List Int)×Int)
| (x15,x16)=>
 ifb (!x16) (
 some (([]:List Int),206)) (
 some (x15,0))
theorem Zdk {F:Nat}:∀s,ole (Zck F s) (Z6k s):=by
 rintro ⟨x15,x16⟩
 unfold Zck Z6k
 try dsimp only
 with_reducible repeat' first | exact Zn4 _ | assumption | intro _ | refine Zo4 ?_ ?_ | refine Zp4 ?_ ?_ | refine Zq4 ?_ | refine Zs4 ?_
def Zek (F:Nat) (x1:Event) (x3:Place):Bool→Option ((List Int)×Int)
| x9=>
 (Z6c F x3.Live x1.Peer).bind fun x10=>
 Zck F (x10,x9)
theorem Zfk {F:Nat} {x1:Event} {x3:Place}:∀s,ole (Zek F x1 x3 s) (Z7k x1 x3 s):=by
 intro x9
 unfold Zek Z7k
 try dsimp only
 with_reducible repeat' first | exact Zn4 _ | assumption | intro _ | refine Zo4 ?_ ?_ | refine Zp4 ?_ ?_ | refine Zq4 ?_ | refine Zs4 ?_ | apply Zdk | apply Z7c
def Zgk (F:Nat) (x1:Event) (x3:Place):Bool→Option ((List Int)×Int)
| x11=>
 (Zfd F x3.Live x1.Peer).bind fun x12=>
 Zck F (x12,x11)
theorem Zhk {F:Nat} {x1:Event} {x3:Place}:∀s,ole (Zgk F x1 x3 s) (Z8k x1 x3 s):=by
 intro x11
 unfold Zgk Z8k
 try dsimp only
 with_reducible repeat' first | exact Zn4 _ | assumption | intro _ | refine Zo4 ?_ ?_ | refine Zp4 ?_ ?_ | refine Zq4 ?_ | refine Zs4 ?_ | apply Zdk | apply Z7c | apply Zfk | apply Zgd
def Zik (F:Nat) (x1:Event) (x2:(List Place)) (x3:Place):(Bool×Bool)→Option ((List Int)×Int)
| (x7,x8)=>
 ifb (decide (x1.Kind=6)) (
 ifb (!x7) (
 (Zek F x1 x3) (x8==(decide (x1.Node<x1.Peer)))) (
 (Zek F x1 x3) false)) (
 ifb (decide (x1.Kind=7)) (
 ifb x7 (
 ifb (decide (x1.Node<x1.Peer)) (
 (Zgk F x1 x3) true) (
 (Zgk F x1 x3) (!x8))) (
 (Zgk F x1 x3) false)) (
 ifb (decide (x1.Kind=8)) (
 ifb (decide (x1.Node<x1.Peer)) (
 ifb (!x7) (
 ifb (!x8) (
 (Zej F ((Model.mk x2)) x1.Node x1.Peer).bind fun x13=>
 ifb (!x13) (
 (Zej F ((Model.mk x2)) x1.Peer x1.Node).bind fun x14=>
 Zck F (x3.Live,!x14)) (
 Zck F (x3.Live,false))) (
 Zck F (x3.Live,false))) (
 Zck F (x3.Live,false))) (
 Zck F (x3.Live,false))) (
 Zck F (x3.Live,false))))
theorem Zjk {F:Nat} {x1:Event} {x2:(List Place)} {x3:Place}:∀s,ole (Zik F x1 x2 x3 s) (Z9k x1 x2 x3 s):=by
 rintro ⟨x7,x8⟩
 unfold Zik Z9k
 try dsimp only
 with_reducible repeat' first | exact Zn4 _ | assumption | intro _ | refine Zo4 ?_ ?_ | refine Zp4 ?_ ?_ | refine Zq4 ?_ | refine Zs4 ?_ | apply Zdk | apply Z7c | apply Zfk | apply Zgd | apply Zhk | apply Zfj
def Zkk (F:Nat) (x1:Event) (x2:(List Place)):Option ((List Int)×Int):=
 (at_ x2 x1.Node).bind fun x3=>
 (Z1j F ((Model.mk x2)) x1.Node x1.Peer).bind fun x4=>
 (Z1j F ((Model.mk x2)) x1.Peer x1.Node).bind fun x6=>
 (Zik F x1 x2 x3) (x4,x6)
theorem Zlk {F:Nat} {x1:Event} {x2:(List Place)}:ole (Zkk F x1 x2) (Zak x1 x2):=by
 unfold Zkk Zak
 with_reducible repeat' first | exact Zn4 _ | assumption | intro _ | refine Zo4 ?_ ?_ | refine Zp4 ?_ ?_ | refine Zq4 ?_ | refine Zs4 ?_ | apply Zdk | apply Z7c | apply Zfk | apply Zgd | apply Zhk | apply Zfj | apply Zjk | apply le_model_live
noncomputable def Zmk:(List Int)→Option (List Int)
| x27=>
 some x27
noncomputable def Znk (x12:Int):(List Int)→Option ((Int×(List Int)) ⊕ (List Int))
| x18=>
 some (.inl (wr (x12+1),x18))
noncomputable def Zok (x12:Int) (x13:(List Int)) (x14:Sess):Bool→Option ((Int×(List Int)) ⊕ (List Int))
| x16=>
 ifb x16 (
 (Zh4 8 x13 ([x14.ID])).bind fun x17=>
 (Znk x12) x17) (
 (Znk x12) x13)
noncomputable def Zpk (x4:Place):(Int×(List Int))→Option ((Int×(List Int)) ⊕ (List Int))
| (x12,x13)=>
 ifb (decide (x12<(ln Sess.row x4.Book.Sess))) (
 (at_ x4.Book.Sess x12).bind fun x14=>
 ifb (decide (x14.State=0)) (
 (Zhd x14.Need x4.Live).bind fun x15=>
 (Zok x12 x13 x14) (!x15)) (
 (Zok x12 x13 x14) false)) (
 Option.map Sum.inr (Zmk x13))
noncomputable def Zqk (x1:Int) (x2:(List Place)):Option (List Int):=
 (Zph ((Model.mk x2)) x1).bind fun x3=>
 ifb (!x3) (
 some (([]:List Int))) (
 (at_ x2 x1).bind fun x4=>
 loop (Zpk x4) (0,([]:List Int)))
theorem Zrk (x1:Int) (x2:(List Place)) (r:(List Int)) (h:Zqk x1 x2=some r):FunT Tryz.prog 21 [.agg [.osl 0],.iv x1] [none,none,none,none,none,none] [some ⟨69,3,List.map Place.row x2⟩] (.osl 1) [none,none,none,none,none,none] [some ⟨69,3,List.map Place.row x2⟩,some ⟨3,1,List.map Zb5 r⟩]:=by
 refine Z46 ok21 rfl rfl rfl (by first | rfl | simp [go_sem]) fun w0 M0=>?_
 rw [Zqk] at h
 dsimp only [lun,List.cons_append,List.nil_append]
 refine Zt2 14 ?_;dsimp only [go_sem];refine An ?_;obtain ⟨x3,ex3,h⟩:=Bs h;refine Z85 trivial ((Z75.refl _).slice 0 rfl) (Zqh ((Model.mk x2)) x1 _ ex3) (h:=?_);refine Zt2 2 ?_;dsimp only [go_sem];refine An ?_;refine Zw4 h rfl (fun _ h=>?_) fun _ h=>?_
 ·refine Zt2 4 ?_;dsimp only [go_sem];refine An ?_;refine Ze4 4 3 1 rfl rfl ?_;dsimp only [go_sem];obtain rfl:=Option.some.inj h;exact Z56 ok21 rfl (by simp [go_sem])
 ·refine Zt2 7 ?_;dsimp only [go_sem];refine An ?_;obtain ⟨x4,ex4,h⟩:=Bs h;refine Zs5 Place.row ex4 trivial rfl rfl rfl ?_;refine Zt2 2 ?_;dsimp only [go_sem];refine An ?_;refine V_loadO Place.row ex4 trivial rfl rfl rfl ?_;refine Zt2 3 ?_;dsimp only [go_sem];refine An ?_;refine Zu4 (fun (x27:(List Int))=>(⟨(an 5 (.osl 1::an 40 [])),[none,none,none,none,none,none],[some ⟨69,3,List.map Place.row x2⟩,some ⟨3,1,List.map Zb5 x27⟩]⟩:St)) Zmk r ?_ fun J1=>?_
  ·intro x27 h;rw [Zmk] at h;(try dsimp only);refine Zt2 5 ?_;dsimp only [go_sem];refine An ?_;obtain rfl:=Option.some.inj h;exact Z56 ok21 rfl (by simp [go_sem])
  ·refine Zt2 1 ?_;dsimp only [go_sem];refine An ?_;refine Ze4 5 3 1 rfl rfl ?_;dsimp only [go_sem];refine Zv4 h (fun ((x12,x13):(Int×(List Int)))=>(⟨(.any :: .iv x1 :: .ptr 6 0 :: .any :: .any :: .osl 1::an 12 (.sl 4 (List.map Sess.row x4.Book.Sess) :: .iv (ln Sess.row x4.Book.Sess) :: .iv x12::an 25 [])),[none,none,none,none,none,none,some ⟨35,[.osl 0]⟩],[some ⟨69,3,List.map Place.row x2⟩,some ⟨3,1,List.map Zb5 x13⟩]⟩:St)) (by simp [go_sem]) (by rintro ⟨x12,x13⟩;first | rfl | simp [go_sem]) ?_;rintro n1 ⟨x12,x13⟩ y1 h hin1 hout1
   rw [Zpk] at h;(try dsimp only);refine Zt2 5 ?_;dsimp only [go_sem];refine An ?_;refine Zw4 h rfl (fun _ h=>?_) fun _ h=>?_
   ·refine Zt2 5 ?_;dsimp only [go_sem];refine An ?_;obtain ⟨x14,ex14,h⟩:=Bs h;refine Zz4 Sess.row ex14 trivial rfl rfl rfl ?_;refine Zt2 5 ?_;dsimp only [go_sem];refine An ?_
    refine Zu4 (fun (x16:Bool)=>(⟨(.any :: .iv x1 :: .ptr 6 0 :: .any :: .any :: .osl 1 :: .any :: .ptr 7 0::an 10 (.sl 4 (List.map Sess.row x4.Book.Sess) :: .iv (ln Sess.row x4.Book.Sess) :: .iv x12::an 17 (.bv x16::an 7 []))),[none,none,none,none,none,none,some ⟨35,[.osl 0]⟩,some ⟨74,[.iv x14.ID,.sl 1 (List.map Zb5 x14.Need),.iv x14.State,.iv x14.Age]⟩],[some ⟨69,3,List.map Place.row x2⟩,some ⟨3,1,List.map Zb5 x13⟩]⟩:St)) (Zok x12 x13 x14) y1 ?_ fun J2=>?_
    ·intro x16 h;rw [Zok] at h;(try dsimp only);refine Zu4 (fun (x18:(List Int))=>(⟨(.any :: .iv x1 :: .ptr 6 0 :: .any :: .any :: .osl 1::an 12 (.sl 4 (List.map Sess.row x4.Book.Sess) :: .iv (ln Sess.row x4.Book.Sess) :: .iv x12::an 25 [])),[none,none,none,none,none,none,some ⟨35,[.osl 0]⟩],[some ⟨69,3,List.map Place.row x2⟩,some ⟨3,1,List.map Zb5 x18⟩]⟩:St)) (Znk x12) y1 ?_ fun J3=>?_
     ·intro x18 h;rw [Znk] at h;(try dsimp only);refine Zt2 5 ?_;dsimp only [go_sem];refine An ?_;exact Z55 h hin1
     ·refine Zw4 h rfl (fun _ h=>?_) fun _ h=>?_
      ·refine Zt2 5 ?_;dsimp only [go_sem];refine An ?_;obtain ⟨x17,ex17,h⟩:=Bs h;refine Z15 Zb5 ex17 trivial rfl rfl rfl ?_;refine Zt2 2 ?_;dsimp only [go_sem];refine An ?_;refine Zd4 3 1 rfl rfl rfl ?_;dsimp only [go_sem];exact Z65 J3 (s:=x17) h
      ·refine Zt2 1 ?_;dsimp only [go_sem];refine An ?_;exact Z65 J3 (s:=x13) h
    ·refine Zs3 (by kernel_rfl) fun all hall hs hnap haf=>?_;dsimp only [go_sem];refine Zp5 hall hs haf hnap 4 11 ?_;dsimp only [go_sem];refine An ?_;refine Ze5 27 h rfl (fun _ h=>?_) fun _ h=>?_
     ·dsimp only [go_sem];refine Zp5 hall hs haf hnap 4 7 ?_;dsimp only [go_sem];refine An ?_;refine Z34 7 rfl ?_;refine Z74 hall rfl trivial ?_;dsimp only [go_sem];refine Z34 9 rfl ?_;refine Z76 hall Place.row ex4 rfl trivial rfl rfl rfl ?_;dsimp only [go_sem];refine Zp5 hall hs haf hnap 1 4 ?_;dsimp only [go_sem];refine An ?_;refine Z34 11 rfl ?_;refine Z86 hall Place.row ex4 rfl trivial rfl rfl rfl ?_;dsimp only [go_sem];refine Z34 12 rfl ?_;obtain ⟨x15,ex15,h⟩:=Bs h
      refine Z84 hall rfl trivial (Zid x14.Need x4.Live _ ex15) (h:=?_);dsimp only [go_sem];refine Zp5 hall hs haf hnap 2 0 ?_;dsimp only [go_sem];refine An ?_;refine Z24 rfl ?_ _;exact Z65 J2 (s:=!x15) h
     ·dsimp only [go_sem];refine Zq5 hall hs haf hnap 11 0 [15] [(28,[.un,.un,.un,.un,.un,.un,.un,.un,.un,.un,.ff])] (by kernel_rfl) ?_;dsimp only [go_sem];refine Z24 rfl ?_ _;exact Z65 J2 (s:=false) h
   ·refine Zt2 1 ?_;dsimp only [go_sem];refine An ?_;exact Z65 J1 (s:=x13) (Zt4 h hout1)
def Zsk (_F:Nat):(List Int)→Option (List Int)
| x27=>
 some x27
theorem Ztk {F:Nat}:∀s,ole (Zsk F s) (Zmk s):=by
 intro x27
 unfold Zsk Zmk
 try dsimp only
 with_reducible repeat' first | exact Zn4 _ | assumption | intro _ | refine Zo4 ?_ ?_ | refine Zp4 ?_ ?_ | refine Zq4 ?_ | refine Zs4 ?_
def Zuk (_F:Nat) (x12:Int):(List Int)→Option ((Int×(List Int)) ⊕ (List Int))
| x18=>
 some (.inl (wr (x12+1),x18))
theorem Zvk {F:Nat} {x12:Int}:∀s,ole (Zuk F x12 s) (Znk x12 s):=by
 intro x18
 unfold Zuk Znk
 try dsimp only
 with_reducible repeat' first | exact Zn4 _ | assumption | intro _ | refine Zo4 ?_ ?_ | refine Zp4 ?_ ?_ | refine Zq4 ?_ | refine Zs4 ?_ | apply Ztk
def Zwk (F:Nat) (x12:Int) (x13:(List Int)) (x14:Sess):Bool→Option ((Int×(List Int)) ⊕ (List Int))
| x16=>
 ifb x16 (
 (Zh4 8 x13 ([x14.ID])).bind fun x17=>
 (Zuk F x12) x17) (
 (Zuk F x12) x13)
theorem Zxk {F:Nat} {x12:Int} {x13:(List Int)} {x14:Sess}:∀s,ole (Zwk F x12 x13 x14 s) (Zok x12 x13 x14 s):=by
 intro x16
 unfold Zwk Zok
 try dsimp only
 with_reducible repeat' first | exact Zn4 _ | assumption | intro _ | refine Zo4 ?_ ?_ | refine Zp4 ?_ ?_ | refine Zq4 ?_ | refine Zs4 ?_ | apply Ztk | apply Zvk
def Zyk (F:Nat) (x4:Place):(Int×(List Int))→Option ((Int×(List Int)) ⊕ (List Int))
| (x12,x13)=>
 ifb (decide (x12<(ln Sess.row x4.Book.Sess))) (
 (at_ x4.Book.Sess x12).bind fun x14=>
 ifb (decide (x14.State=0)) (
 (Zjd F x14.Need x4.Live).bind fun x15=>
 (Zwk F x12 x13 x14) (!x15)) (
 (Zwk F x12 x13 x14) false)) (
 Option.map Sum.inr (Zsk F x13))
theorem Zzk {F:Nat} {x4:Place}:∀s,ole (Zyk F x4 s) (Zpk x4 s):=by
 rintro ⟨x12,x13⟩
 unfold Zyk Zpk
 try dsimp only
 with_reducible repeat' first | exact Zn4 _ | assumption | intro _ | refine Zo4 ?_ ?_ | refine Zp4 ?_ ?_ | refine Zq4 ?_ | refine Zs4 ?_ | apply Ztk | apply Zvk | apply Zxk | apply Zkd
def Z0l (F:Nat) (x1:Int) (x2:(List Place)):Option (List Int):=
 (Zth F ((Model.mk x2)) x1).bind fun x3=>
 ifb (!x3) (
 some (([]:List Int))) (
 (at_ x2 x1).bind fun x4=>
 Zr4 F (Zyk F x4) (0,([]:List Int)))
theorem Z1l {F:Nat} {x1:Int} {x2:(List Place)}:ole (Z0l F x1 x2) (Zqk x1 x2):=by
 unfold Z0l Zqk
 with_reducible repeat' first | exact Zn4 _ | assumption | intro _ | refine Zo4 ?_ ?_ | refine Zp4 ?_ ?_ | refine Zq4 ?_ | refine Zs4 ?_ | apply Ztk | apply Zvk | apply Zxk | apply Zkd | apply Zzk | apply Zuh
noncomputable def Z2l (x4:(Book×Int×Int)):Bool→Option (Book×Int)
| x7=>
 ifb x7 (
 some ((Book.mk 0 (([]:(List Sess)))),203)) (
 some (x4.1,0))
noncomputable def Z3l (x1:Event) (x2:(List Place)):Option (Book×Int):=
 (at_ x2 x1.Node).bind fun x3=>
 (Zsf x3.Book).bind fun x4=>
 ifb (!decide (x4.2.2=0)) (
 (Z2l x4) true) (
 ifb (!decide (x4.2.1=x1.ID)) (
 (Z2l x4) true) (
 (at_ x4.1.Sess 0).bind fun x5=>
 (Z58 x5.Need ((fun z=>Zgj z ((Model.mk x2)) x1))).bind fun x6=>
 (Z2l x4) x6))
theorem Z4l (x1:Event) (x2:(List Place)) (r:(Book×Int)) (h:Z3l x1 x2=some r):FunT Tryz.prog 84 [.agg [.osl 0],.agg [.iv x1.Kind,.iv x1.Node,.iv x1.ID,.iv x1.Peer,.sl 1 (List.map Zb5 x1.Need)]] [none,none,none,none,none,none] [some ⟨69,3,List.map Place.row x2⟩] (.tup [.agg [.iv r.1.Last,.sl 4 (List.map Sess.row r.1.Sess)],.iv r.2]) [none,none,none,none,none,none] [some ⟨69,3,List.map Place.row x2⟩]:=by
 refine Z46 ok84 rfl rfl rfl (by first | rfl | simp [go_sem]) fun w0 M0=>?_
 rw [Z3l] at h
 dsimp only [lun,List.cons_append,List.nil_append]
 refine Zt2 13 ?_;dsimp only [go_sem];refine An ?_;obtain ⟨x3,ex3,h⟩:=Bs h;refine Zs5 Place.row ex3 trivial rfl rfl rfl ?_;refine Zt2 1 ?_;dsimp only [go_sem];refine An ?_;refine V_loadAO Place.row ex3 trivial rfl rfl rfl ?_;obtain ⟨x4,ex4,h⟩:=Bs h;refine Z73 trivial (k_sess_Grant x3.Book _ ex4) (h:=?_);refine Zt2 15 ?_;dsimp only [go_sem];refine An ?_
 refine Zu4 (fun (x7:Bool)=>(⟨(an 4 (.ptr 8 0 :: .any :: .ptr 9 0::an 30 [.bv x7,.any,.any])),[none,none,none,none,none,none,none,none,some ⟨64,[.iv 0,.nl]⟩,some ⟨64,[.iv x4.1.Last,.sl 4 (List.map Sess.row x4.1.Sess)]⟩],[some ⟨69,3,List.map Place.row x2⟩]⟩:St)) (Z2l x4) r ?_ fun J1=>?_
 ·intro x7 h;rw [Z2l] at h;(try dsimp only);refine Zw4 h rfl (fun _ h=>?_) fun _ h=>?_
  ·refine Zt2 6 ?_;dsimp only [go_sem];refine An ?_;obtain rfl:=Option.some.inj h;exact Z56 ok84 rfl (by simp [go_sem])
  ·refine Zt2 7 ?_;dsimp only [go_sem];refine An ?_;obtain rfl:=Option.some.inj h;exact Z56 ok84 rfl (by simp [go_sem])
 ·refine Z35 23 h rfl (fun _ h=>?_) fun _ h=>?_
  ·dsimp only [go_sem];refine Zt2 15 ?_;dsimp only [go_sem];refine An ?_;exact Z65 J1 (s:=true) h
  ·dsimp only [go_sem];refine Zt2 6 ?_;dsimp only [go_sem];refine An ?_;refine Z35 29 h rfl (fun _ h=>?_) fun _ h=>?_
   ·dsimp only [go_sem];refine Zt2 9 ?_;dsimp only [go_sem];refine An ?_;exact Z65 J1 (s:=true) h
   ·dsimp only [go_sem];refine Zt2 2 ?_;dsimp only [go_sem];refine An ?_;obtain ⟨x5,ex5,h⟩:=Bs h;refine Zz4 Sess.row ex5 trivial rfl rfl rfl ?_;refine Zt2 3 ?_;dsimp only [go_sem];refine An ?_;obtain ⟨x6,ex6,h⟩:=Bs h;refine Z85 trivial ((((Z75.refl _).slice 0 rfl).block 6 rfl rfl).block 7 rfl rfl) (Z68 x5.Need _ _ ((fun z=>Zgj z ((Model.mk x2)) x1)) ⟨by kernel_rfl,rfl,fun z r hz=>Zhj z ((Model.mk x2)) x1 r hz⟩ _ ex6) (h:=?_);refine Zt2 2 ?_;dsimp only [go_sem];refine An ?_;exact Z65 J1 (s:=x6) h
def Z5l (_F:Nat) (x4:(Book×Int×Int)):Bool→Option (Book×Int)
| x7=>
 ifb x7 (
 some ((Book.mk 0 (([]:(List Sess)))),203)) (
 some (x4.1,0))
theorem Z6l {F:Nat} {x4:(Book×Int×Int)}:∀s,ole (Z5l F x4 s) (Z2l x4 s):=by
 intro x7
 unfold Z5l Z2l
 try dsimp only
 with_reducible repeat' first | exact Zn4 _ | assumption | intro _ | refine Zo4 ?_ ?_ | refine Zp4 ?_ ?_ | refine Zq4 ?_ | refine Zs4 ?_
def Z7l (F:Nat) (x1:Event) (x2:(List Place)):Option (Book×Int):=
 (at_ x2 x1.Node).bind fun x3=>
 (Zvf F x3.Book).bind fun x4=>
 ifb (!decide (x4.2.2=0)) (
 (Z5l F x4) true) (
 ifb (!decide (x4.2.1=x1.ID)) (
 (Z5l F x4) true) (
 (at_ x4.1.Sess 0).bind fun x5=>
 (Z78 F x5.Need ((fun z=>Zij F z ((Model.mk x2)) x1))).bind fun x6=>
 (Z5l F x4) x6))
theorem Z8l {F:Nat} {x1:Event} {x2:(List Place)}:ole (Z7l F x1 x2) (Z3l x1 x2):=by
 unfold Z7l Z3l
 with_reducible repeat' first | exact Zn4 _ | assumption | intro _ | refine Zo4 ?_ ?_ | refine Zp4 ?_ ?_ | refine Zq4 ?_ | refine Zs4 ?_ | apply Z6l | apply le_sess_Grant | apply Z88 | apply Zjj
noncomputable def Z9l:(Int×Book)→Option (Book×Int)
| (x12,x13)=>
 ifb (!decide (x12=0)) (
 some ((Book.mk 0 (([]:(List Sess)))),204)) (
 some (x13,0))
noncomputable def Zal (x1:Event) (x3:Place):Unit→Option (Book×Int)
| ()=>
 (Z1h x3.Book x1.ID).bind fun x11=>
 Z9l (x11.2,x11.1)
noncomputable def Zbl (x1:Event) (x3:Place) (x4:(List Int)):Unit→Option (Book×Int)
| ()=>
 (Zmc x4 x1.ID).bind fun x10=>
 ifb (!x10) (
 some ((Book.mk 0 (([]:(List Sess)))),205)) (
 (Zal x1 x3) ())
noncomputable def Zcl (x1:Event) (x3:Place):Unit→Option (Book×Int)
| ()=>
 (Zxg x3.Book x1.ID).bind fun x9=>
 Z9l (x9.2,x9.1)
noncomputable def Zdl (x1:Event) (x2:(List Place)):Unit→Option (Book×Int)
| ()=>
 (Z3l x1 x2).bind fun x8=>
 some (x8.1,x8.2)
noncomputable def Zel (x5:(Book×Int)):Bool→Option (Book×Int)
| x7=>
 ifb x7 (
 some ((Book.mk 0 (([]:(List Sess)))),202)) (
 some (x5.1,x5.2))
noncomputable def Zfl (x1:Event) (x3:Place):Unit→Option (Book×Int)
| ()=>
 (Zbf x3.Book x1.ID x1.Need).bind fun x5=>
 ifb (decide (x5.2=0)) (
 (Zhd x1.Need x3.Live).bind fun x6=>
 (Zel x5) (!x6)) (
 (Zel x5) false)
noncomputable def Zgl (x1:Event) (x2:(List Place)):Option (Book×Int):=
 (at_ x2 x1.Node).bind fun x3=>
 (Zqk x1.Node x2).bind fun x4=>
 ifb (decide (x1.Kind=0)) (
 (Zfl x1 x3) ()) (
 ifb (decide (x1.Kind=1)) (
 (Zdl x1 x2) ()) (
 ifb (decide (x1.Kind=2)) (
 (Zcl x1 x3) ()) (
 ifb (decide (x1.Kind=4)) (
 (Zcl x1 x3) ()) (
 ifb (decide (x1.Kind=5)) (
 (Zbl x1 x3 x4) ()) (
 ifb (decide (x1.Kind=3)) (
 (Zal x1 x3) ()) (
 Z9l (0,x3.Book)))))))
theorem Zhl (x1:Event) (x2:(List Place)) (r:(Book×Int)) (h:Zgl x1 x2=some r):FunT Tryz.prog 50 [.agg [.osl 0],.agg [.iv x1.Kind,.iv x1.Node,.iv x1.ID,.iv x1.Peer,.sl 1 (List.map Zb5 x1.Need)]] [none,none,none] [some ⟨69,3,List.map Place.row x2⟩] (.tup [.agg [.iv r.1.Last,.sl 4 (List.map Sess.row r.1.Sess)],.iv r.2]) [none,none,none] [some ⟨69,3,List.map Place.row x2⟩]:=by
 refine Z46 ok50 rfl rfl rfl (by first | rfl | simp [go_sem]) fun w0 M0=>?_
 rw [Zgl] at h
 dsimp only [lun,List.cons_append,List.nil_append]
 refine Zt2 13 ?_;dsimp only [go_sem];refine An ?_;obtain ⟨x3,ex3,h⟩:=Bs h;refine Zs5 Place.row ex3 trivial rfl rfl rfl ?_;refine Zt2 1 ?_;dsimp only [go_sem];refine An ?_;refine V_loadAO Place.row ex3 trivial rfl rfl rfl ?_;refine Zt2 7 ?_;dsimp only [go_sem];refine An ?_;obtain ⟨x4,ex4,h⟩:=Bs h;refine Z66 [false,false,false,false,false,false] [true] trivial (Zrk x1.Node x2 _ ex4) (h:=?_);dsimp only [go_sem];refine Zt2 8 ?_;dsimp only [go_sem];refine An ?_
 refine Zu4 (fun ((x12,x13):(Int×Book))=>(⟨(an 4 (.ptr 5 0 :: .iv x12::an 82 [])),[none,none,none,none,none,some ⟨64,[.iv x13.Last,.sl 4 (List.map Sess.row x13.Sess)]⟩],[some ⟨69,3,List.map Place.row x2⟩]⟩:St)) Z9l r ?_ fun J1=>?_
 ·rintro ⟨x12,x13⟩ h;rw [Z9l] at h;(try dsimp only);refine Zt2 6 ?_;dsimp only [go_sem];refine An ?_;refine Zw4 h rfl (fun _ h=>?_) fun _ h=>?_
  ·refine Zt2 6 ?_;dsimp only [go_sem];refine An ?_;obtain rfl:=Option.some.inj h;exact Z56 ok50 rfl (by simp [go_sem])
  ·refine Zt2 7 ?_;dsimp only [go_sem];refine An ?_;obtain rfl:=Option.some.inj h;exact Z56 ok50 rfl (by simp [go_sem])
 ·refine Zt2 2 ?_;dsimp only [go_sem];refine An ?_;refine Zu4 (fun (_:Unit)=>(⟨(an 3 (.ptr 4 0 :: .ptr 5 0::an 83 [])),[none,none,none,none,some ⟨42,[.iv x1.Kind,.iv x1.Node,.iv x1.ID,.iv x1.Peer,.sl 1 (List.map Zb5 x1.Need)]⟩,some ⟨64,[.iv x3.Book.Last,.sl 4 (List.map Sess.row x3.Book.Sess)]⟩],[some ⟨69,3,List.map Place.row x2⟩]⟩:St)) (Zal x1 x3) r ?_ fun J2=>?_
  ·rintro ⟨⟩ h;rw [Zal] at h;(try dsimp only);refine Zt2 5 ?_;dsimp only [go_sem];refine An ?_;obtain ⟨x11,ex11,h⟩:=Bs h;refine Z73 trivial (k_sess_Cancel x3.Book x1.ID _ ex11) (h:=?_);refine Zt2 7 ?_;dsimp only [go_sem];refine An ?_;exact Z65 J1 (s:=(x11.2,x11.1)) h
  ·refine Zt2 2 ?_;dsimp only [go_sem];refine An ?_;refine Zu4 (fun (_:Unit)=>(⟨(an 3 (.ptr 4 0 :: .ptr 5 0 :: .any :: .osl 1::an 81 [])),[none,none,none,none,some ⟨42,[.iv x1.Kind,.iv x1.Node,.iv x1.ID,.iv x1.Peer,.sl 1 (List.map Zb5 x1.Need)]⟩,some ⟨64,[.iv x3.Book.Last,.sl 4 (List.map Sess.row x3.Book.Sess)]⟩],[some ⟨69,3,List.map Place.row x2⟩,some ⟨3,1,List.map Zb5 x4⟩]⟩:St)) (Zbl x1 x3 x4) r ?_ fun J3=>?_
   ·rintro ⟨⟩ h;rw [Zbl] at h;(try dsimp only);refine Zt2 5 ?_;dsimp only [go_sem];refine An ?_;obtain ⟨x10,ex10,h⟩:=Bs h;refine Z85 trivial ((Z75.refl _).slice 1 rfl) (Znc x4 x1.ID _ ex10) (h:=?_);refine Zt2 2 ?_;dsimp only [go_sem];refine An ?_;refine Zw4 h rfl (fun _ h=>?_) fun _ h=>?_
    ·refine Zt2 6 ?_;dsimp only [go_sem];refine An ?_;obtain rfl:=Option.some.inj h;exact Z56 ok50 rfl (by simp [go_sem])
    ·refine Zt2 2 ?_;dsimp only [go_sem];refine An ?_;exact Z65 J2 (s:=()) h
   ·refine Zt2 2 ?_;dsimp only [go_sem];refine An ?_;refine Zu4 (fun (_:Unit)=>(⟨(an 3 (.ptr 4 0 :: .ptr 5 0::an 83 [])),[none,none,none,none,some ⟨42,[.iv x1.Kind,.iv x1.Node,.iv x1.ID,.iv x1.Peer,.sl 1 (List.map Zb5 x1.Need)]⟩,some ⟨64,[.iv x3.Book.Last,.sl 4 (List.map Sess.row x3.Book.Sess)]⟩],[some ⟨69,3,List.map Place.row x2⟩]⟩:St)) (Zcl x1 x3) r ?_ fun J4=>?_
    ·rintro ⟨⟩ h;rw [Zcl] at h;(try dsimp only);refine Zt2 5 ?_;dsimp only [go_sem];refine An ?_;obtain ⟨x9,ex9,h⟩:=Bs h;refine Z73 trivial (Zyg x3.Book x1.ID _ ex9) (h:=?_);refine Zt2 7 ?_;dsimp only [go_sem];refine An ?_;exact Z65 J1 (s:=(x9.2,x9.1)) h
    ·refine Zt2 3 ?_;dsimp only [go_sem];refine An ?_;refine Zu4 (fun (_:Unit)=>(⟨(.any :: .any :: .ptr 3 0 :: .ptr 4 0 :: .ptr 5 0::an 83 []),[none,none,none,some ⟨35,[.osl 0]⟩,some ⟨42,[.iv x1.Kind,.iv x1.Node,.iv x1.ID,.iv x1.Peer,.sl 1 (List.map Zb5 x1.Need)]⟩,some ⟨64,[.iv x3.Book.Last,.sl 4 (List.map Sess.row x3.Book.Sess)]⟩],[some ⟨69,3,List.map Place.row x2⟩]⟩:St)) (Zdl x1 x2) r ?_ fun J5=>?_
     ·rintro ⟨⟩ h;rw [Zdl] at h;(try dsimp only);refine Zt2 5 ?_;dsimp only [go_sem];refine An ?_;obtain ⟨x8,ex8,h⟩:=Bs h;refine Z66 [false,false,false,false,false,false] [true] trivial (Z4l x1 x2 _ ex8) (h:=?_);dsimp only [go_sem];refine Zt2 5 ?_;dsimp only [go_sem];refine An ?_;obtain rfl:=Option.some.inj h;exact Z56 ok50 rfl (by simp [go_sem])
     ·refine Zt2 2 ?_;dsimp only [go_sem];refine An ?_;refine Zu4 (fun (_:Unit)=>(⟨(.any :: .any :: .ptr 3 0 :: .ptr 4 0 :: .ptr 5 0::an 83 []),[none,none,none,some ⟨35,[.osl 0]⟩,some ⟨42,[.iv x1.Kind,.iv x1.Node,.iv x1.ID,.iv x1.Peer,.sl 1 (List.map Zb5 x1.Need)]⟩,some ⟨64,[.iv x3.Book.Last,.sl 4 (List.map Sess.row x3.Book.Sess)]⟩],[some ⟨69,3,List.map Place.row x2⟩]⟩:St)) (Zfl x1 x3) r ?_ fun J6=>?_
      ·rintro ⟨⟩ h;rw [Zfl] at h;(try dsimp only);refine Zt2 8 ?_;dsimp only [go_sem];refine An ?_;obtain ⟨x5,ex5,h⟩:=Bs h;refine Z73 trivial (k_sess_Open x3.Book x1.ID x1.Need _ ex5) (h:=?_);refine Zt2 8 ?_;dsimp only [go_sem];refine An ?_;refine Zu4 (fun (x7:Bool)=>(⟨(an 4 (.ptr 5 0 :: .iv x5.2::an 49 (.bv x7::an 32 []))),[none,none,none,none,none,some ⟨64,[.iv x5.1.Last,.sl 4 (List.map Sess.row x5.1.Sess)]⟩],[some ⟨69,3,List.map Place.row x2⟩]⟩:St)) (Zel x5) r ?_ fun J7=>?_
       ·intro x7 h;rw [Zel] at h;(try dsimp only);refine Zw4 h rfl (fun _ h=>?_) fun _ h=>?_
        ·refine Zt2 6 ?_;dsimp only [go_sem];refine An ?_;obtain rfl:=Option.some.inj h;exact Z56 ok50 rfl (by simp [go_sem])
        ·refine Zt2 8 ?_;dsimp only [go_sem];refine An ?_;obtain rfl:=Option.some.inj h;exact Z56 ok50 rfl (by simp [go_sem])
       ·refine Zs3 (by kernel_rfl) fun all hall hs hnap haf=>?_;dsimp only [go_sem];refine Zp5 hall hs haf hnap 3 12 ?_;dsimp only [go_sem];refine An ?_;refine Ze5 43 h rfl (fun _ h=>?_) fun _ h=>?_
        ·dsimp only [go_sem];refine Zq5 hall hs haf hnap 5 7 [6,1,2,6] [(44,[.ptr 4 4,.sl 1 (List.map Zb5 x1.Need),.ptr 3 0]),(1,[.ptr 4 1,.iv x1.Node])] (by kernel_rfl) ?_;dsimp only [go_sem];refine Z34 6 rfl ?_;refine Z74 hall rfl trivial ?_;dsimp only [go_sem];refine Z34 9 rfl ?_;refine Z76 hall Place.row ex3 rfl trivial rfl rfl rfl ?_;dsimp only [go_sem];refine Zp5 hall hs haf hnap 1 4 ?_;dsimp only [go_sem];refine An ?_;refine Z34 11 rfl ?_;refine Z86 hall Place.row ex3 rfl trivial rfl rfl rfl ?_;dsimp only [go_sem]
         refine Z34 12 rfl ?_;obtain ⟨x6,ex6,h⟩:=Bs h;refine Z84 hall rfl trivial (Zid x1.Need x3.Live _ ex6) (h:=?_);dsimp only [go_sem];refine Zp5 hall hs haf hnap 2 0 ?_;dsimp only [go_sem];refine An ?_;refine Z24 rfl ?_ _;exact Z65 J7 (s:=!x6) h
        ·dsimp only [go_sem];refine Zq5 hall hs haf hnap 12 0 [15] [(44,[.un,.un,.un,.un,.un,.un,.un,.un,.un,.un,.un,.ff])] (by kernel_rfl) ?_;dsimp only [go_sem];refine Z24 rfl ?_ _;exact Z65 J7 (s:=false) h
      ·refine Zt2 8 ?_;dsimp only [go_sem];refine An ?_;refine Zw4 h rfl (fun _ h=>?_) fun _ h=>?_
       ·refine Zt2 1 ?_;dsimp only [go_sem];refine An ?_;exact Z65 J6 (s:=()) h
       ·refine Zt2 7 ?_;dsimp only [go_sem];refine An ?_;refine Zw4 h rfl (fun _ h=>?_) fun _ h=>?_
        ·refine Zt2 1 ?_;dsimp only [go_sem];refine An ?_;exact Z65 J5 (s:=()) h
        ·refine Zt2 7 ?_;dsimp only [go_sem];refine An ?_;refine Zw4 h rfl (fun _ h=>?_) fun _ h=>?_
         ·refine Zt2 2 ?_;dsimp only [go_sem];refine An ?_;exact Z65 J4 (s:=()) h
         ·refine Zt2 7 ?_;dsimp only [go_sem];refine An ?_;refine Zw4 h rfl (fun _ h=>?_) fun _ h=>?_
          ·refine Zt2 1 ?_;dsimp only [go_sem];refine An ?_;exact Z65 J4 (s:=()) h
          ·refine Zt2 7 ?_;dsimp only [go_sem];refine An ?_;refine Zw4 h rfl (fun _ h=>?_) fun _ h=>?_
           ·refine Zt2 1 ?_;dsimp only [go_sem];refine An ?_;exact Z65 J3 (s:=()) h
           ·refine Zt2 6 ?_;dsimp only [go_sem];refine An ?_;refine Zw4 h rfl (fun _ h=>?_) fun _ h=>?_
            ·refine Zt2 1 ?_;dsimp only [go_sem];refine An ?_;exact Z65 J2 (s:=()) h
            ·refine Zt2 2 ?_;dsimp only [go_sem];refine An ?_;exact Z65 J1 (s:=(0,x3.Book)) h
def Zil (_F:Nat):(Int×Book)→Option (Book×Int)
| (x12,x13)=>
 ifb (!decide (x12=0)) (
 some ((Book.mk 0 (([]:(List Sess)))),204)) (
 some (x13,0))
theorem Zjl {F:Nat}:∀s,ole (Zil F s) (Z9l s):=by
 rintro ⟨x12,x13⟩
 unfold Zil Z9l
 try dsimp only
 with_reducible repeat' first | exact Zn4 _ | assumption | intro _ | refine Zo4 ?_ ?_ | refine Zp4 ?_ ?_ | refine Zq4 ?_ | refine Zs4 ?_
def Zkl (F:Nat) (x1:Event) (x3:Place):Unit→Option (Book×Int)
| ()=>
 (Z2h F x3.Book x1.ID).bind fun x11=>
 Zil F (x11.2,x11.1)
theorem Zll {F:Nat} {x1:Event} {x3:Place}:∀s,ole (Zkl F x1 x3 s) (Zal x1 x3 s):=by
 rintro ⟨⟩
 unfold Zkl Zal
 try dsimp only
 with_reducible repeat' first | exact Zn4 _ | assumption | intro _ | refine Zo4 ?_ ?_ | refine Zp4 ?_ ?_ | refine Zq4 ?_ | refine Zs4 ?_ | apply Zjl | apply Z3h
def Zml (F:Nat) (x1:Event) (x3:Place) (x4:(List Int)):Unit→Option (Book×Int)
| ()=>
 (Zoc F x4 x1.ID).bind fun x10=>
 ifb (!x10) (
 some ((Book.mk 0 (([]:(List Sess)))),205)) (
 (Zkl F x1 x3) ())
theorem Znl {F:Nat} {x1:Event} {x3:Place} {x4:(List Int)}:∀s,ole (Zml F x1 x3 x4 s) (Zbl x1 x3 x4 s):=by
 rintro ⟨⟩
 unfold Zml Zbl
 try dsimp only
 with_reducible repeat' first | exact Zn4 _ | assumption | intro _ | refine Zo4 ?_ ?_ | refine Zp4 ?_ ?_ | refine Zq4 ?_ | refine Zs4 ?_ | apply Zjl | apply Z3h | apply Zll | apply Zpc
def Zol (F:Nat) (x1:Event) (x3:Place):Unit→Option (Book×Int)
| ()=>
 (Zzg F x3.Book x1.ID).bind fun x9=>
 Zil F (x9.2,x9.1)
theorem Zpl {F:Nat} {x1:Event} {x3:Place}:∀s,ole (Zol F x1 x3 s) (Zcl x1 x3 s):=by
 rintro ⟨⟩
 unfold Zol Zcl
 try dsimp only
 with_reducible repeat' first | exact Zn4 _ | assumption | intro _ | refine Zo4 ?_ ?_ | refine Zp4 ?_ ?_ | refine Zq4 ?_ | refine Zs4 ?_ | apply Zjl | apply Z3h | apply Zll | apply Zpc | apply Znl | apply Z0h
def Zql (F:Nat) (x1:Event) (x2:(List Place)):Unit→Option (Book×Int)
| ()=>
 (Z7l F x1 x2).bind fun x8=>
 some (x8.1,x8.2)
theorem Zrl {F:Nat} {x1:Event} {x2:(List Place)}:∀s,ole (Zql F x1 x2 s) (Zdl x1 x2 s):=by
 rintro ⟨⟩
 unfold Zql Zdl
 try dsimp only
 with_reducible repeat' first | exact Zn4 _ | assumption | intro _ | refine Zo4 ?_ ?_ | refine Zp4 ?_ ?_ | refine Zq4 ?_ | refine Zs4 ?_ | apply Zjl | apply Z3h | apply Zll | apply Zpc | apply Znl | apply Z0h | apply Zpl | apply Z8l
def Zsl (_F:Nat) (x5:(Book×Int)):Bool→Option (Book×Int)
| x7=>
 ifb x7 (
 some ((Book.mk 0 (([]:(List Sess)))),202)) (
 some (x5.1,x5.2))
theorem Ztl {F:Nat} {x5:(Book×Int)}:∀s,ole (Zsl F x5 s) (Zel x5 s):=by
 intro x7
 unfold Zsl Zel
 try dsimp only
 with_reducible repeat' first | exact Zn4 _ | assumption | intro _ | refine Zo4 ?_ ?_ | refine Zp4 ?_ ?_ | refine Zq4 ?_ | refine Zs4 ?_ | apply Zjl | apply Z3h | apply Zll | apply Zpc | apply Znl | apply Z0h | apply Zpl | apply Z8l | apply Zrl
def Zul (F:Nat) (x1:Event) (x3:Place):Unit→Option (Book×Int)
| ()=>
 (Zef F x3.Book x1.ID x1.Need).bind fun x5=>
 ifb (decide (x5.2=0)) (
 (Zjd F x1.Need x3.Live).bind fun x6=>
 (Zsl F x5) (!x6)) (
 (Zsl F x5) false)
theorem Zvl {F:Nat} {x1:Event} {x3:Place}:∀s,ole (Zul F x1 x3 s) (Zfl x1 x3 s):=by
 rintro ⟨⟩
 unfold Zul Zfl
 try dsimp only
 with_reducible repeat' first | exact Zn4 _ | assumption | intro _ | refine Zo4 ?_ ?_ | refine Zp4 ?_ ?_ | refine Zq4 ?_ | refine Zs4 ?_ | apply Zjl | apply Z3h | apply Zll | apply Zpc | apply Znl | apply Z0h | apply Zpl | apply Z8l | apply Zrl | apply Ztl | apply Zff | apply Zkd
def Zwl (F:Nat) (x1:Event) (x2:(List Place)):Option (Book×Int):=
 (at_ x2 x1.Node).bind fun x3=>
 (Z0l F x1.Node x2).bind fun x4=>
 ifb (decide (x1.Kind=0)) (
 (Zul F x1 x3) ()) (
 ifb (decide (x1.Kind=1)) (
 (Zql F x1 x2) ()) (
 ifb (decide (x1.Kind=2)) (
 (Zol F x1 x3) ()) (
 ifb (decide (x1.Kind=4)) (
 (Zol F x1 x3) ()) (
 ifb (decide (x1.Kind=5)) (
 (Zml F x1 x3 x4) ()) (
 ifb (decide (x1.Kind=3)) (
 (Zkl F x1 x3) ()) (
 Zil F (0,x3.Book)))))))
theorem Zxl {F:Nat} {x1:Event} {x2:(List Place)}:ole (Zwl F x1 x2) (Zgl x1 x2):=by
 unfold Zwl Zgl
 with_reducible repeat' first | exact Zn4 _ | assumption | intro _ | refine Zo4 ?_ ?_ | refine Zp4 ?_ ?_ | refine Zq4 ?_ | refine Zs4 ?_ | apply Zjl | apply Z3h | apply Zll | apply Zpc | apply Znl | apply Z0h | apply Zpl | apply Z8l | apply Zrl | apply Ztl | apply Zff | apply Zkd | apply Zvl | apply Z1l
noncomputable def Zyl:(Int×(List Place))→Option (Model×Int)
| (x16,x17)=>
 ifb (!decide (x16=0)) (
 some ((Model.mk (([]:(List Place)))),x16)) (
 some ((Model.mk x17),0))
noncomputable def Zzl (x1:Model) (x2:Event) (x4:Bool):Int→Option (Model×Int)
| x11=>
 ifb (!decide (x11=0)) (
 some ((Model.mk (([]:(List Place)))),x11)) (
 (Zqj x1).bind fun x12=>
 (at_ x12 x2.Node).bind fun x13=>
 ifb x4 (
 (Zak x2 x12).bind fun x14=>
 Zyl (x14.2,x12.set (Int.toNat (x2.Node)) ((Place.mk x13.Book x14.1)))) (
 (Zgl x2 x12).bind fun x15=>
 Zyl (x15.2,x12.set (Int.toNat (x2.Node)) ((Place.mk x15.1 x13.Live)))))
noncomputable def Z0m (x1:Model) (x2:Event) (x3:Int) (x4:Bool):Bool→Option (Model×Int)
| x10=>
 ifb x10 (
 (Zzl x1 x2 x4) 207) (
 (Zzl x1 x2 x4) x3)
noncomputable def Z1m (x1:Model) (x2:Event) (x3:Int) (x4:Bool):Bool→Option (Model×Int)
| x9=>
 ifb x9 (
 (Zzl x1 x2 x4) 205) (
 ifb (decide (x2.Kind<0)) (
 (Z0m x1 x2 x3 x4) true) (
 (Z0m x1 x2 x3 x4) (decide (8<x2.Kind))))
noncomputable def Z2m (x1:Model) (x2:Event) (x3:Int) (x4:Bool):Bool→Option (Model×Int)
| x7=>
 ifb x7 (
 (Zzl x1 x2 x4) 201) (
 ifb (!decide (x2.Kind=5)) (
 (Zji x1 x2.Node).bind fun x8=>
 (Z1m x1 x2 x3 x4) (decide (0<(ln Zb5 x8)))) (
 (Z1m x1 x2 x3 x4) false))
noncomputable def Z3m (x1:Model) (x2:Event) (x3:Int):Bool→Option (Model×Int)
| x4=>
 ifb (!decide (x3=0)) (
 (Zzl x1 x2 x4) x3) (
 (Zph x1 x2.Node).bind fun x5=>
 ifb (!x5) (
 (Z2m x1 x2 x3 x4) true) (
 ifb x4 (
 (Zph x1 x2.Peer).bind fun x6=>
 ifb (!x6) (
 (Z2m x1 x2 x3 x4) true) (
 (Z2m x1 x2 x3 x4) (decide (x2.Peer=x2.Node)))) (
 (Z2m x1 x2 x3 x4) false)))
noncomputable def Z4m (x1:Model) (x2:Event):Option (Model×Int):=
 (Z5i x1).bind fun x3=>
 ifb (decide (x2.Kind=6)) (
 (Z3m x1 x2 x3) true) (
 ifb (decide (x2.Kind=7)) (
 (Z3m x1 x2 x3) true) (
 (Z3m x1 x2 x3) (decide (x2.Kind=8))))
theorem Z5m (x1:Model) (x2:Event) (r:(Model×Int)) (h:Z4m x1 x2=some r):Zy2 Tryz.prog 17 [.agg (Model.row x1),.agg (Event.row x2)] (.tup [.agg (Model.row r.1),.iv r.2]):=by
 refine Z23 ok17 rfl rfl fun w0 H0=>?_
 rw [Z4m] at h
 refine Zt2 10 ?_;dsimp only [go_sem];refine An ?_;obtain ⟨x3,ex3,h⟩:=Bs h;refine Z73 trivial (Z6i x1 _ ex3) (h:=?_);refine Zt2 8 ?_;dsimp only [go_sem];refine An ?_;refine Zu4 (fun (x4:Bool)=>(⟨(.any :: .any :: .ptr 0 0 :: .ptr 1 0 :: .ptr 2 0 :: .any :: .iv x3 :: .bv x4::an 98 []),[some ⟨35,[.sl 3 (List.map Place.row x1.Places)]⟩,some ⟨42,[.iv x2.Kind,.iv x2.Node,.iv x2.ID,.iv x2.Peer,.sl 1 (List.map Zb5 x2.Need)]⟩,some ⟨35,[.nl]⟩],[]⟩:St)) (Z3m x1 x2 x3) r ?_ fun J1=>?_
 ·intro x4 h;rw [Z3m] at h;(try dsimp only);refine Zt2 8 ?_;dsimp only [go_sem];refine An ?_;refine Zu4 (fun (x11:Int)=>(⟨(.any :: .any :: .ptr 0 0 :: .ptr 1 0 :: .ptr 2 0 :: .any :: .iv x11 :: .bv x4::an 98 []),[some ⟨35,[.sl 3 (List.map Place.row x1.Places)]⟩,some ⟨42,[.iv x2.Kind,.iv x2.Node,.iv x2.ID,.iv x2.Peer,.sl 1 (List.map Zb5 x2.Need)]⟩,some ⟨35,[.nl]⟩],[]⟩:St)) (Zzl x1 x2 x4) r ?_ fun J2=>?_
  ·intro x11 h;rw [Zzl] at h;(try dsimp only);refine Zt2 7 ?_;dsimp only [go_sem];refine An ?_;refine Zw4 h rfl (fun _ h=>?_) fun _ h=>?_
   ·refine Zt2 7 ?_;dsimp only [go_sem];refine An ?_;exact Z45 (res:=fun (r:(Model×Int))=>.tup [.agg (Model.row r.1),.iv r.2]) ok17 h
   ·refine Zt2 4 ?_;dsimp only [go_sem];refine An ?_;obtain ⟨x12,ex12,h⟩:=Bs h;refine Z66 [false,false,false] [] trivial (Zrj x1 _ ex12) (h:=?_);dsimp only [go_sem];refine Zt2 8 ?_;dsimp only [go_sem];refine An ?_;obtain ⟨x13,ex13,h⟩:=Bs h;refine Zs5 Place.row ex13 trivial rfl rfl rfl ?_;refine Zt2 7 ?_;dsimp only [go_sem];refine An ?_
    refine Zu4 (fun ((x16,x17):(Int×(List Place)))=>(⟨(.any :: .any :: .ptr 0 0 :: .any :: .ptr 2 0 :: .any :: .iv x16::an 99 []),[some ⟨35,[.osl 0]⟩,none,some ⟨35,[.nl]⟩],[some ⟨69,3,List.map Place.row x17⟩]⟩:St)) Zyl r ?_ fun J6=>?_
    ·rintro ⟨x16,x17⟩ h;rw [Zyl] at h;(try dsimp only);refine Zt2 6 ?_;dsimp only [go_sem];refine An ?_;refine Zw4 h rfl (fun _ h=>?_) fun _ h=>?_
     ·refine Zt2 7 ?_;dsimp only [go_sem];refine An ?_;exact Z45 (res:=fun (r:(Model×Int))=>.tup [.agg (Model.row r.1),.iv r.2]) ok17 h
     ·refine Zt2 7 ?_;dsimp only [go_sem];refine An ?_;refine Zk3 0 rfl ?_;dsimp only [go_sem];exact Z45 (res:=fun (r:(Model×Int))=>.tup [.agg (Model.row r.1),.iv r.2]) ok17 h
    ·refine Zw4 h rfl (fun _ h=>?_) fun _ h=>?_
     ·refine Zt2 4 ?_;dsimp only [go_sem];refine An ?_;obtain ⟨x14,ex14,h⟩:=Bs h;refine Z66 [false,false,false] [true] trivial (Zbk x2 x12 _ ex14) (h:=?_);dsimp only [go_sem];refine Zt2 5 ?_;dsimp only [go_sem];refine An ?_;refine Zz5 [.sl 1 (List.map Zb5 x14.1)] Place.row (y':=(Place.mk x13.Book x14.1)) ex13 trivial rfl rfl rfl (by first | exact Zg4 _ | simp [go_sem]) rfl rfl rfl rfl ?_;refine Zt2 2 ?_;dsimp only [go_sem];refine An ?_;exact Z65 J6 (s:=(x14.2,x12.set (Int.toNat (x2.Node)) ((Place.mk x13.Book x14.1)))) h
     ·refine Zt2 4 ?_;dsimp only [go_sem];refine An ?_;obtain ⟨x15,ex15,h⟩:=Bs h;refine Z66 [false,false,false] [true] trivial (Zhl x2 x12 _ ex15) (h:=?_);dsimp only [go_sem];refine Zt2 5 ?_;dsimp only [go_sem];refine An ?_;refine Zz5 [.iv x15.1.Last,.sl 4 (List.map Sess.row x15.1.Sess)] Place.row (y':=(Place.mk x15.1 x13.Live)) ex13 trivial rfl rfl rfl (by first | exact Zg4 _ | simp [go_sem]) rfl rfl rfl rfl ?_;refine Zt2 2 ?_;dsimp only [go_sem];refine An ?_
      exact Z65 J6 (s:=(x15.2,x12.set (Int.toNat (x2.Node)) ((Place.mk x15.1 x13.Live)))) h
  ·refine Zw4 h rfl (fun _ h=>?_) fun _ h=>?_
   ·refine Zt2 1 ?_;dsimp only [go_sem];refine An ?_;exact Z65 J2 (s:=x3) h
   ·refine Zt2 5 ?_;dsimp only [go_sem];refine An ?_;obtain ⟨x5,ex5,h⟩:=Bs h;refine Z73 trivial (Zqh x1 x2.Node _ ex5) (h:=?_);refine Zt2 2 ?_;dsimp only [go_sem];refine An ?_;refine Zu4 (fun (x7:Bool)=>(⟨(.any :: .any :: .ptr 0 0 :: .ptr 1 0 :: .ptr 2 0 :: .any :: .iv x3 :: .bv x4::an 19 (.bv x7::an 78 [])),[some ⟨35,[.sl 3 (List.map Place.row x1.Places)]⟩,some ⟨42,[.iv x2.Kind,.iv x2.Node,.iv x2.ID,.iv x2.Peer,.sl 1 (List.map Zb5 x2.Need)]⟩,some ⟨35,[.nl]⟩],[]⟩:St)) (Z2m x1 x2 x3 x4) r ?_ fun J3=>?_
    ·intro x7 h;rw [Z2m] at h;(try dsimp only);refine Zw4 h rfl (fun _ h=>?_) fun _ h=>?_
     ·refine Zt2 3 ?_;dsimp only [go_sem];refine An ?_;exact Z65 J2 (s:=201) h
     ·refine Zt2 6 ?_;dsimp only [go_sem];refine An ?_;refine Zu4 (fun (x9:Bool)=>(⟨(.any :: .any :: .ptr 0 0 :: .ptr 1 0 :: .ptr 2 0 :: .any :: .iv x3 :: .bv x4::an 42 (.bv x9::an 55 [])),[some ⟨35,[.sl 3 (List.map Place.row x1.Places)]⟩,some ⟨42,[.iv x2.Kind,.iv x2.Node,.iv x2.ID,.iv x2.Peer,.sl 1 (List.map Zb5 x2.Need)]⟩,some ⟨35,[.nl]⟩],[]⟩:St)) (Z1m x1 x2 x3 x4) r ?_ fun J4=>?_
      ·intro x9 h;rw [Z1m] at h;(try dsimp only);refine Zw4 h rfl (fun _ h=>?_) fun _ h=>?_
       ·refine Zt2 3 ?_;dsimp only [go_sem];refine An ?_;exact Z65 J2 (s:=205) h
       ·refine Zt2 6 ?_;dsimp only [go_sem];refine An ?_;refine Zu4 (fun (x10:Bool)=>(⟨(.any :: .any :: .ptr 0 0 :: .ptr 1 0 :: .ptr 2 0 :: .any :: .iv x3 :: .bv x4::an 54 (.bv x10::an 43 [])),[some ⟨35,[.sl 3 (List.map Place.row x1.Places)]⟩,some ⟨42,[.iv x2.Kind,.iv x2.Node,.iv x2.ID,.iv x2.Peer,.sl 1 (List.map Zb5 x2.Need)]⟩,some ⟨35,[.nl]⟩],[]⟩:St)) (Z0m x1 x2 x3 x4) r ?_ fun J5=>?_
        ·intro x10 h;rw [Z0m] at h;(try dsimp only);refine Zw4 h rfl (fun _ h=>?_) fun _ h=>?_
         ·refine Zt2 3 ?_;dsimp only [go_sem];refine An ?_;exact Z65 J2 (s:=207) h
         ·refine Zt2 1 ?_;dsimp only [go_sem];refine An ?_;exact Z65 J2 (s:=x3) h
        ·refine Z35 66 h rfl (fun _ h=>?_) fun _ h=>?_
         ·dsimp only [go_sem];refine Zt2 6 ?_;dsimp only [go_sem];refine An ?_;exact Z65 J5 (s:=true) h
         ·dsimp only [go_sem];refine Zt2 6 ?_;dsimp only [go_sem];refine An ?_;exact Z65 J5 (s:=decide (8<x2.Kind)) h
      ·refine Z35 54 h rfl (fun _ h=>?_) fun _ h=>?_
       ·dsimp only [go_sem];refine Zt2 3 ?_;dsimp only [go_sem];refine An ?_;obtain ⟨x8,ex8,h⟩:=Bs h;refine Z73 trivial (Zki x1 x2.Node _ ex8) (h:=?_);refine Zt2 5 ?_;dsimp only [go_sem];refine An ?_;exact Z65 J4 (s:=decide (0<(ln Zb5 x8))) h
       ·dsimp only [go_sem];refine Zt2 9 ?_;dsimp only [go_sem];refine An ?_;exact Z65 J4 (s:=false) h
    ·refine Z35 33 h rfl (fun _ h=>?_) fun _ h=>?_
     ·dsimp only [go_sem];refine Zt2 18 ?_;dsimp only [go_sem];refine An ?_;exact Z65 J3 (s:=true) h
     ·dsimp only [go_sem];refine Zt2 2 ?_;dsimp only [go_sem];refine An ?_;refine Z35 35 h rfl (fun _ h=>?_) fun _ h=>?_
      ·dsimp only [go_sem];refine Zt2 3 ?_;dsimp only [go_sem];refine An ?_;obtain ⟨x6,ex6,h⟩:=Bs h;refine Z73 trivial (Zqh x1 x2.Peer _ ex6) (h:=?_);refine Zt2 2 ?_;dsimp only [go_sem];refine An ?_;refine Z35 41 h rfl (fun _ h=>?_) fun _ h=>?_
       ·dsimp only [go_sem];refine Zt2 10 ?_;dsimp only [go_sem];refine An ?_;exact Z65 J3 (s:=true) h
       ·dsimp only [go_sem];refine Zt2 10 ?_;dsimp only [go_sem];refine An ?_;exact Z65 J3 (s:=decide (x2.Peer=x2.Node)) h
      ·dsimp only [go_sem];refine Zt2 16 ?_;dsimp only [go_sem];refine An ?_;exact Z65 J3 (s:=false) h
 ·refine Z35 14 h rfl (fun _ h=>?_) fun _ h=>?_
  ·dsimp only [go_sem];refine Zt2 11 ?_;dsimp only [go_sem];refine An ?_;exact Z65 J1 (s:=true) h
  ·dsimp only [go_sem];refine Zt2 5 ?_;dsimp only [go_sem];refine An ?_;refine Z35 19 h rfl (fun _ h=>?_) fun _ h=>?_
   ·dsimp only [go_sem];refine Zt2 6 ?_;dsimp only [go_sem];refine An ?_;exact Z65 J1 (s:=true) h
   ·dsimp only [go_sem];refine Zt2 6 ?_;dsimp only [go_sem];refine An ?_;exact Z65 J1 (s:=decide (x2.Kind=8)) h
def Z6m (_F:Nat):(Int×(List Place))→Option (Model×Int)
| (x16,x17)=>
 ifb (!decide (x16=0)) (
 some ((Model.mk (([]:(List Place)))),x16)) (
 some ((Model.mk x17),0))
theorem Z7m {F:Nat}:∀s,ole (Z6m F s) (Zyl s):=by
 rintro ⟨x16,x17⟩
 unfold Z6m Zyl
 try dsimp only
 with_reducible repeat' first | exact Zn4 _ | assumption | intro _ | refine Zo4 ?_ ?_ | refine Zp4 ?_ ?_ | refine Zq4 ?_ | refine Zs4 ?_
def Z8m (F:Nat) (x1:Model) (x2:Event) (x4:Bool):Int→Option (Model×Int)
| x11=>
 ifb (!decide (x11=0)) (
 some ((Model.mk (([]:(List Place)))),x11)) (
 (Z4k F x1).bind fun x12=>
 (at_ x12 x2.Node).bind fun x13=>
 ifb x4 (
 (Zkk F x2 x12).bind fun x14=>
 Z6m F (x14.2,x12.set (Int.toNat (x2.Node)) ((Place.mk x13.Book x14.1)))) (
 (Zwl F x2 x12).bind fun x15=>
 Z6m F (x15.2,x12.set (Int.toNat (x2.Node)) ((Place.mk x15.1 x13.Live)))))
theorem Z9m {F:Nat} {x1:Model} {x2:Event} {x4:Bool}:∀s,ole (Z8m F x1 x2 x4 s) (Zzl x1 x2 x4 s):=by
 intro x11
 unfold Z8m Zzl
 try dsimp only
 with_reducible repeat' first | exact Zn4 _ | assumption | intro _ | refine Zo4 ?_ ?_ | refine Zp4 ?_ ?_ | refine Zq4 ?_ | refine Zs4 ?_ | apply Z7m | apply Z5k | apply Zlk | apply Zxl
def Zam (F:Nat) (x1:Model) (x2:Event) (x3:Int) (x4:Bool):Bool→Option (Model×Int)
| x10=>
 ifb x10 (
 (Z8m F x1 x2 x4) 207) (
 (Z8m F x1 x2 x4) x3)
theorem Zbm {F:Nat} {x1:Model} {x2:Event} {x3:Int} {x4:Bool}:∀s,ole (Zam F x1 x2 x3 x4 s) (Z0m x1 x2 x3 x4 s):=by
 intro x10
 unfold Zam Z0m
 try dsimp only
 with_reducible repeat' first | exact Zn4 _ | assumption | intro _ | refine Zo4 ?_ ?_ | refine Zp4 ?_ ?_ | refine Zq4 ?_ | refine Zs4 ?_ | apply Z7m | apply Z5k | apply Zlk | apply Zxl | apply Z9m
def Zcm (F:Nat) (x1:Model) (x2:Event) (x3:Int) (x4:Bool):Bool→Option (Model×Int)
| x9=>
 ifb x9 (
 (Z8m F x1 x2 x4) 205) (
 ifb (decide (x2.Kind<0)) (
 (Zam F x1 x2 x3 x4) true) (
 (Zam F x1 x2 x3 x4) (decide (8<x2.Kind))))
theorem Zdm {F:Nat} {x1:Model} {x2:Event} {x3:Int} {x4:Bool}:∀s,ole (Zcm F x1 x2 x3 x4 s) (Z1m x1 x2 x3 x4 s):=by
 intro x9
 unfold Zcm Z1m
 try dsimp only
 with_reducible repeat' first | exact Zn4 _ | assumption | intro _ | refine Zo4 ?_ ?_ | refine Zp4 ?_ ?_ | refine Zq4 ?_ | refine Zs4 ?_ | apply Z7m | apply Z5k | apply Zlk | apply Zxl | apply Z9m | apply Zbm
def Zem (F:Nat) (x1:Model) (x2:Event) (x3:Int) (x4:Bool):Bool→Option (Model×Int)
| x7=>
 ifb x7 (
 (Z8m F x1 x2 x4) 201) (
 ifb (!decide (x2.Kind=5)) (
 (Zti F x1 x2.Node).bind fun x8=>
 (Zcm F x1 x2 x3 x4) (decide (0<(ln Zb5 x8)))) (
 (Zcm F x1 x2 x3 x4) false))
theorem Zfm {F:Nat} {x1:Model} {x2:Event} {x3:Int} {x4:Bool}:∀s,ole (Zem F x1 x2 x3 x4 s) (Z2m x1 x2 x3 x4 s):=by
 intro x7
 unfold Zem Z2m
 try dsimp only
 with_reducible repeat' first | exact Zn4 _ | assumption | intro _ | refine Zo4 ?_ ?_ | refine Zp4 ?_ ?_ | refine Zq4 ?_ | refine Zs4 ?_ | apply Z7m | apply Z5k | apply Zlk | apply Zxl | apply Z9m | apply Zbm | apply Zdm | apply Zui
def Zgm (F:Nat) (x1:Model) (x2:Event) (x3:Int):Bool→Option (Model×Int)
| x4=>
 ifb (!decide (x3=0)) (
 (Z8m F x1 x2 x4) x3) (
 (Zth F x1 x2.Node).bind fun x5=>
 ifb (!x5) (
 (Zem F x1 x2 x3 x4) true) (
 ifb x4 (
 (Zth F x1 x2.Peer).bind fun x6=>
 ifb (!x6) (
 (Zem F x1 x2 x3 x4) true) (
 (Zem F x1 x2 x3 x4) (decide (x2.Peer=x2.Node)))) (
 (Zem F x1 x2 x3 x4) false)))
theorem Zhm {F:Nat} {x1:Model} {x2:Event} {x3:Int}:∀s,ole (Zgm F x1 x2 x3 s) (Z3m x1 x2 x3 s):=by
 intro x4
 unfold Zgm Z3m
 try dsimp only
 with_reducible repeat' first | exact Zn4 _ | assumption | intro _ | refine Zo4 ?_ ?_ | refine Zp4 ?_ ?_ | refine Zq4 ?_ | refine Zs4 ?_ | apply Z7m | apply Z5k | apply Zlk | apply Zxl | apply Z9m | apply Zbm | apply Zdm | apply Zui | apply Zfm | apply Zuh
def Zim (F:Nat) (x1:Model) (x2:Event):Option (Model×Int):=
 (Zdi F x1).bind fun x3=>
 ifb (decide (x2.Kind=6)) (
 (Zgm F x1 x2 x3) true) (
 ifb (decide (x2.Kind=7)) (
 (Zgm F x1 x2 x3) true) (
 (Zgm F x1 x2 x3) (decide (x2.Kind=8))))
theorem Zjm {F:Nat} {x1:Model} {x2:Event}:ole (Zim F x1 x2) (Z4m x1 x2):=by
 unfold Zim Z4m
 with_reducible repeat' first | exact Zn4 _ | assumption | intro _ | refine Zo4 ?_ ?_ | refine Zp4 ?_ ?_ | refine Zq4 ?_ | refine Zs4 ?_ | apply Z7m | apply Z5k | apply Zlk | apply Zxl | apply Z9m | apply Zbm | apply Zdm | apply Zui | apply Zfm | apply Zuh | apply Zhm | apply Zei
set_option maxRecDepth 100000
set_option maxHeartbeats 4000000
@[go_sem] def e12_L0:EC:=.seq (.reg [(Qa 16 (.bin .lss (.t 15) (.t 14)))]) (.seq (.ite (.t 16) (.skip) (.exit 0)) (.seq (.blk 1 (.seq (.reg [(Qm 17 15),(Qm 6 17)]) (.drw [(Qf 18 0 5),(Ql 19 18),(Qe 20 2 1),(Qm 21 6),(Qa 22 (.call 41 [(.t 20),(.t 21)])),(Qa 23 (.build [.iv 0,.nl,.nl] [(2,1,(.t 22))])),(Qa 24 (.bsl 69 3 1 [.iv 0,.nl,.nl] [(0,(.t 23))])),(Qa 25 (.app 69 3 56 (.t 19) (.t 24))),(Qf 26 0 5),(Qs 1 26 25)] [[],[0],[],[],[2,3],[4],[5],[1,6,4],[0,1,2,3,4,5,6,7],[8,7,7,0,1,2,3,4,5,6,7]] [[1],[0,7],[4],[4],[2,3,5],[4,6],[5,7],[1,6,9],[9],[7,8]]))) (.reg [(Qv 27 15 1),(Qm 15 27)])))
@[go_sem] def e12:EC:=.seq (.reg [(Qx 1 24 2 0),(Qa 2 (.alloc 35 [.nl])),(Qi 3 0)]) (.seq (.seq (.reg [(Qe 7 2 1),(Qa 8 (.call 40 [(.t 7)])),(Qm 4 8)]) (.seq (.reg [(Qm 9 4),(Qa 10 (.bin .neq (.t 9) (.c (.iv 0))))]) (.ite (.t 10) (.seq (.reg [(Qa 11 (.build [.nl] [])),(Qm 12 4),(Qs 1 2 11),(Qm 3 12)]) (.ret)) (.skip)))) (.seq (.reg [(Qa 5 (.alloc 35 [.nl]))]) (.seq (.seq (.reg [(Qf 13 0 1),(Ql 14 13),(Qi 15 0)]) (.blk 0 (.loop e12_L0))) (.seq (.reg [(Qe 28 1 5),(Qs 1 2 28),(Qi 3 0)]) (.ret)))))
theorem ok12:FnOK Tryz.prog 12 Tryz.f12 e12 [.c 2 (some 1),.t 3] 1 28:=⟨by kernel_rfl,⟨_,rfl,by kernel_rfl⟩,by kernel_rfl,by kernel_rfl⟩
noncomputable def Zkm:(List Place)→Option (Model×Int)
| x30=>
 some ((Model.mk x30),0)
noncomputable def Zlm (x1:Graph):(Int×(List Place))→Option ((Int×(List Place)) ⊕ (Model×Int))
| (x7,x8)=>
 ifb (decide (x7<x1.N)) (
 (Zt9 x1 x7).bind fun x9=>
 (Zh4 56 x8 ([(Place.mk ((Book.mk 0 (([]:List Sess)))) x9)])).bind fun x11=>
 some (.inl (wr (x7+1),x11))) (
 Option.map Sum.inr (Zkm x8))
noncomputable def Zmm (x1:Graph):Option (Model×Int):=
 (Z39 x1).bind fun x2=>
 ifb (!decide (x2=0)) (
 some ((Model.mk (([]:(List Place)))),x2)) (
 loop (Zlm x1) (0,([]:List Place)))
theorem Znm (x1:Graph) (r:(Model×Int)) (h:Zmm x1=some r):Zy2 Tryz.prog 12 [.agg (Graph.row x1)] (.tup [.agg (Model.row r.1),.iv r.2]):=by
 refine Z23 ok12 rfl rfl fun w0 H0=>?_
 rw [Zmm] at h
 refine Zt2 10 ?_;dsimp only [go_sem];refine An ?_;obtain ⟨x2,ex2,h⟩:=Bs h;refine Z73 trivial (Z49 x1 _ ex2) (h:=?_);refine Zt2 7 ?_;dsimp only [go_sem];refine An ?_;refine Zw4 h rfl (fun _ h=>?_) fun _ h=>?_
 ·refine Zt2 7 ?_;dsimp only [go_sem];refine An ?_;exact Z45 (res:=fun (r:(Model×Int))=>.tup [.agg (Model.row r.1),.iv r.2]) ok12 h
 ·refine Zt2 12 ?_;dsimp only [go_sem];refine An ?_;refine Zu4 (fun (x30:(List Place))=>(⟨(.any :: .any :: .ptr 1 0 :: .any :: .any :: .ptr 2 0::an 23 []),[none,some ⟨35,[.nl]⟩,some ⟨35,[.osl 0]⟩],[some ⟨69,3,List.map Place.row x30⟩]⟩:St)) Zkm r ?_ fun J1=>?_
  ·intro x30 h;rw [Zkm] at h;(try dsimp only);refine Zt2 6 ?_;dsimp only [go_sem];refine An ?_;refine Zk3 0 rfl ?_;dsimp only [go_sem];exact Z45 (res:=fun (r:(Model×Int))=>.tup [.agg (Model.row r.1),.iv r.2]) ok12 h
  ·refine Zt2 1 ?_;dsimp only [go_sem];refine An ?_;refine V_ownB 2 0 69 3 rfl rfl rfl ?_;dsimp only [go_sem];refine Zv4 h (fun ((x7,x8):(Int×(List Place)))=>(⟨(.any :: .ptr 0 0 :: .ptr 1 0 :: .any :: .any :: .ptr 2 0::an 8 (.iv x1.N :: .iv x7::an 13 [])),[some ⟨24,[.iv x1.N,.sl 2 (List.map Edge.row x1.Edges)]⟩,some ⟨35,[.nl]⟩,some ⟨35,[.osl 0]⟩],[some ⟨69,3,List.map Place.row x8⟩]⟩:St)) (by simp [go_sem]) (by rintro ⟨x7,x8⟩;first | rfl | simp [go_sem]) ?_;rintro n1 ⟨x7,x8⟩ y1 h hin1 hout1;rw [Zlm] at h;(try dsimp only);refine Zt2 5 ?_
   dsimp only [go_sem];refine An ?_;refine Zw4 h rfl (fun _ h=>?_) fun _ h=>?_
   ·refine Zt2 8 ?_;dsimp only [go_sem];refine An ?_;refine Zs3 (by kernel_rfl) fun all hall hs hnap haf=>?_;dsimp only [go_sem];refine Zp5 hall hs haf hnap 3 7 ?_;dsimp only [go_sem];refine An ?_;obtain ⟨x9,ex9,h⟩:=Bs h;refine Z44 1 4 rfl ?_ ?_
    ·refine Z74 hall rfl trivial ?_;dsimp only [go_sem];refine Z34 4 rfl ?_;refine Z84 hall rfl trivial (Zu9 x1 x7 _ ex9) (h:=?_);dsimp only [go_sem];refine Z34 5 rfl ?_;refine Zb6 (.agg [.iv 0,.sl 4 (List.map Sess.row (([]:List Sess))),.sl 1 (List.map Zb5 x9)]) hall rfl trivial (by simp [go_sem]) ?_;dsimp only [go_sem];refine Z34 6 rfl ?_;refine Z74 hall rfl trivial ?_;dsimp only [go_sem];refine Z34 7 rfl ?_;obtain ⟨x11,ex11,h⟩:=Bs h;refine Z25 Place.row ex11 hall rfl trivial rfl rfl rfl ?_;dsimp only [go_sem]
     refine Zp5 hall hs haf hnap 1 1 ?_;dsimp only [go_sem];refine An ?_;refine Z34 9 rfl ?_;refine Z74 hall rfl trivial ?_;dsimp only [go_sem];refine Z24 rfl ?_ _;refine Zt2 5 ?_;dsimp only [go_sem];refine An ?_;refine Zd4 2 0 rfl rfl rfl ?_;dsimp only [go_sem];exact Z55 h hin1
    ·refine Z84 hall rfl trivial (Zu9 x1 x7 _ ex9) (h:=?_);dsimp only [go_sem];refine Z44 1 5 rfl ?_ ?_
     ·refine Z74 hall rfl trivial ?_;dsimp only [go_sem];refine Z34 5 rfl ?_;refine Zb6 (.agg [.iv 0,.sl 4 (List.map Sess.row (([]:List Sess))),.sl 1 (List.map Zb5 x9)]) hall rfl trivial (by simp [go_sem]) ?_;dsimp only [go_sem];refine Z34 6 rfl ?_;refine Z74 hall rfl trivial ?_;dsimp only [go_sem];refine Z34 7 rfl ?_;obtain ⟨x11,ex11,h⟩:=Bs h;refine Z25 Place.row ex11 hall rfl trivial rfl rfl rfl ?_;dsimp only [go_sem];refine Zp5 hall hs haf hnap 1 1 ?_;dsimp only [go_sem];refine An ?_;refine Z34 9 rfl ?_;refine Z74 hall rfl trivial ?_
      dsimp only [go_sem];refine Z24 rfl ?_ _;refine Zt2 5 ?_;dsimp only [go_sem];refine An ?_;refine Zd4 2 0 rfl rfl rfl ?_;dsimp only [go_sem];exact Z55 h hin1
     ·refine Zb6 (.agg [.iv 0,.sl 4 (List.map Sess.row (([]:List Sess))),.sl 1 (List.map Zb5 x9)]) hall rfl trivial (by simp [go_sem]) ?_;dsimp only [go_sem];refine Z44 1 6 rfl ?_ ?_
      ·refine Z74 hall rfl trivial ?_;dsimp only [go_sem];refine Z34 6 rfl ?_;refine Z74 hall rfl trivial ?_;dsimp only [go_sem];refine Z34 7 rfl ?_;obtain ⟨x11,ex11,h⟩:=Bs h;refine Z25 Place.row ex11 hall rfl trivial rfl rfl rfl ?_;dsimp only [go_sem];refine Zp5 hall hs haf hnap 1 1 ?_;dsimp only [go_sem];refine An ?_;refine Z34 9 rfl ?_;refine Z74 hall rfl trivial ?_;dsimp only [go_sem];refine Z24 rfl ?_ _;refine Zt2 5 ?_;dsimp only [go_sem];refine An ?_;refine Zd4 2 0 rfl rfl rfl ?_;dsimp only [go_sem];exact Z55 h hin1
      ·refine Z74 hall rfl trivial ?_;dsimp only [go_sem];refine Z34 1 rfl ?_;refine Z74 hall rfl trivial ?_;dsimp only [go_sem];refine Z34 7 rfl ?_;obtain ⟨x11,ex11,h⟩:=Bs h;refine Z25 Place.row ex11 hall rfl trivial rfl rfl rfl ?_;dsimp only [go_sem];refine Zp5 hall hs haf hnap 1 1 ?_;dsimp only [go_sem];refine An ?_;refine Z34 9 rfl ?_;refine Z74 hall rfl trivial ?_;dsimp only [go_sem];refine Z24 rfl ?_ _;refine Zt2 5 ?_;dsimp only [go_sem];refine An ?_;refine Zd4 2 0 rfl rfl rfl ?_;dsimp only [go_sem];exact Z55 h hin1
   ·refine Zt2 1 ?_;dsimp only [go_sem];refine An ?_;exact Z65 J1 (s:=x8) (Zt4 h hout1)
def Zom (_F:Nat):(List Place)→Option (Model×Int)
| x30=>
 some ((Model.mk x30),0)
theorem Zpm {F:Nat}:∀s,ole (Zom F s) (Zkm s):=by
 intro x30
 unfold Zom Zkm
 try dsimp only
 with_reducible repeat' first | exact Zn4 _ | assumption | intro _ | refine Zo4 ?_ ?_ | refine Zp4 ?_ ?_ | refine Zq4 ?_ | refine Zs4 ?_
def Zqm (F:Nat) (x1:Graph):(Int×(List Place))→Option ((Int×(List Place)) ⊕ (Model×Int))
| (x7,x8)=>
 ifb (decide (x7<x1.N)) (
 (Z1a F x1 x7).bind fun x9=>
 (Zh4 56 x8 ([(Place.mk ((Book.mk 0 (([]:List Sess)))) x9)])).bind fun x11=>
 some (.inl (wr (x7+1),x11))) (
 Option.map Sum.inr (Zom F x8))
theorem Zrm {F:Nat} {x1:Graph}:∀s,ole (Zqm F x1 s) (Zlm x1 s):=by
 rintro ⟨x7,x8⟩
 unfold Zqm Zlm
 try dsimp only
 with_reducible repeat' first | exact Zn4 _ | assumption | intro _ | refine Zo4 ?_ ?_ | refine Zp4 ?_ ?_ | refine Zq4 ?_ | refine Zs4 ?_ | apply Zpm | apply Z2a
def Zsm (F:Nat) (x1:Graph):Option (Model×Int):=
 (Zd9 F x1).bind fun x2=>
 ifb (!decide (x2=0)) (
 some ((Model.mk (([]:(List Place)))),x2)) (
 Zr4 F (Zqm F x1) (0,([]:List Place)))
theorem Ztm {F:Nat} {x1:Graph}:ole (Zsm F x1) (Zmm x1):=by
 unfold Zsm Zmm
 with_reducible repeat' first | exact Zn4 _ | assumption | intro _ | refine Zo4 ?_ ?_ | refine Zp4 ?_ ?_ | refine Zq4 ?_ | refine Zs4 ?_ | apply Zpm | apply Z2a | apply Zrm | apply Ze9
set_option maxRecDepth 100000
set_option maxHeartbeats 4000000
@[go_sem] def e22_L1:EC:=.seq (.reg [(Qa 13 (.bin .lss (.t 12) (.t 11)))]) (.seq (.ite (.t 13) (.skip) (.exit 2)) (.seq (.blk 3 (.seq (.reg [(Qm 14 12),(Qm 4 14)]) (.seq (.reg [(Qe 15 1 1),(Qm 16 3),(Qm 17 4),(Qa 18 (.call 53 [(.t 15),(.t 16),(.t 17)])),(Qm 19 18),(Qg 20 19 true (.loadA 1 (.t 1))),(Qg 21 19 true (.mv (.t 4))),(Qg 22 19 true (.mv (.t 3))),(Qg 23 19 true (.call 53 [(.t 20),(.t 21),(.t 22)])),(Qp 24 19 23)]) (.ite (.t 24) (.seq (.reg [(Qa 2 (.mv (.c .ff)))]) (.ret)) (.skip))))) (.reg [(Qv 25 12 1),(Qm 12 25)])))
@[go_sem] def e22_L0:EC:=.seq (.reg [(Qa 9 (.bin .lss (.t 8) (.t 7)))]) (.seq (.ite (.t 9) (.skip) (.exit 0)) (.seq (.blk 1 (.seq (.reg [(Qm 10 8),(Qm 3 10)]) (.seq (.reg [(Qm 11 3),(Qi 12 0)]) (.blk 2 (.loop e22_L1))))) (.reg [(Qv 26 8 1),(Qm 8 26)])))
@[go_sem] def e22:EC:=.seq (.reg [(Qx 1 35 1 0),(Qa 2 (.mv (.c .ff)))]) (.seq (.seq (.reg [(Qf 5 0 1),(Ql 6 5),(Qa 7 (.len (.t 6))),(Qi 8 0)]) (.blk 0 (.loop e22_L0))) (.seq (.reg [(Qa 2 (.mv (.c .tt)))]) (.ret)))
theorem ok22:FnOK Tryz.prog 22 Tryz.f22 e22 [.t 2] 1 26:=⟨by kernel_rfl,⟨_,rfl,by kernel_rfl⟩,by kernel_rfl,by kernel_rfl⟩
noncomputable def Zum:Unit→Option Bool
| ()=>
 some true
noncomputable def Zvm (x15:Int):Unit→Option (Int ⊕ Bool)
| ()=>
 some (.inl (wr (x15+1)))
noncomputable def Zwm (x20:Int):Bool→Option (Int ⊕ (Int ⊕ Bool))
| x23=>
 ifb x23 (
 Option.map Sum.inr (Option.map Sum.inr (some false))) (
 some (.inl (wr (x20+1))))
noncomputable def Zxm (x1:Model) (x15:Int):Int→Option (Int ⊕ (Int ⊕ Bool))
| x20=>
 ifb (decide (x20<x15)) (
 (Zaj x1 x15 x20).bind fun x21=>
 ifb x21 (
 (Zaj x1 x20 x15).bind fun x22=>
 (Zwm x20) x22) (
 (Zwm x20) false)) (
 Option.map Sum.inr ((Zvm x15) ()))
noncomputable def Zym (x1:Model):Int→Option (Int ⊕ Bool)
| x15=>
 ifb (decide (x15<(ln Place.row x1.Places))) (
 loop (Zxm x1 x15) 0) (
 Option.map Sum.inr (Zum ()))
noncomputable def Zzm (x1:Model):Option Bool:=
 loop (Zym x1) 0
theorem k_model_Apart (x1:Model) (r:Bool) (h:Zzm x1=some r):Zy2 Tryz.prog 22 [.agg (Model.row x1)] (.bv r):=by
 refine Z23 ok22 rfl rfl fun w0 H0=>?_
 rw [Zzm] at h
 refine Zt2 13 ?_;dsimp only [go_sem];refine An ?_;refine Zu4 (fun (_:Unit)=>(⟨(an 27 []),[],[]⟩:St)) Zum r ?_ fun J1=>?_
 ·rintro ⟨⟩ h;rw [Zum] at h;(try dsimp only);refine Zt2 4 ?_;dsimp only [go_sem];refine An ?_;exact Z45 (res:=fun (r:Bool)=>.bv r) ok22 h
 ·refine Zt2 1 ?_;dsimp only [go_sem];refine An ?_;refine Zv4 h (fun (x15:Int)=>(⟨(.any :: .ptr 0 0::an 5 (.iv (ln Place.row x1.Places) :: .iv x15::an 18 [])),[some ⟨35,[.sl 3 (List.map Place.row x1.Places)]⟩],[]⟩:St)) (by simp [go_sem]) (by intro x15;first | rfl | simp [go_sem]) ?_;rintro n1 x15 y1 h hin1 hout1;rw [Zym] at h;(try dsimp only);refine Zt2 5 ?_;dsimp only [go_sem];refine An ?_;refine Zw4 h rfl (fun _ h=>?_) fun _ h=>?_
  ·refine Zt2 13 ?_;dsimp only [go_sem];refine An ?_;refine Zu4 (fun (_:Unit)=>(⟨(.any :: .ptr 0 0::an 5 (.iv (ln Place.row x1.Places) :: .iv x15::an 18 [])),[some ⟨35,[.sl 3 (List.map Place.row x1.Places)]⟩],[]⟩:St)) (Zvm x15) y1 ?_ fun J2=>?_
   ·rintro ⟨⟩ h;rw [Zvm] at h;(try dsimp only);refine Zt2 5 ?_;dsimp only [go_sem];refine An ?_;exact Z55 h hin1
   ·refine Zt2 1 ?_;dsimp only [go_sem];refine An ?_;refine Zv4 h (fun (x20:Int)=>(⟨(.any :: .ptr 0 0 :: .any :: .iv x15::an 3 (.iv (ln Place.row x1.Places) :: .iv x15 :: .any :: .any :: .iv x15 :: .iv x20::an 14 [])),[some ⟨35,[.sl 3 (List.map Place.row x1.Places)]⟩],[]⟩:St)) (by simp [go_sem]) (by intro x20;first | rfl | simp [go_sem]) ?_;rintro n2 x20 y2 h hin2 hout2;rw [Zxm] at h;(try dsimp only);refine Zt2 5 ?_;dsimp only [go_sem];refine An ?_;refine Zw4 h rfl (fun _ h=>?_) fun _ h=>?_
    ·refine Zt2 13 ?_;dsimp only [go_sem];refine An ?_;obtain ⟨x21,ex21,h⟩:=Bs h;refine Z73 trivial (Zbj x1 x15 x20 _ ex21) (h:=?_);refine Zt2 1 ?_;dsimp only [go_sem];refine An ?_;refine Zu4 (fun (x23:Bool)=>(⟨(.any :: .ptr 0 0 :: .any :: .iv x15::an 3 (.iv (ln Place.row x1.Places) :: .iv x15 :: .any :: .any :: .iv x15 :: .iv x20::an 11 [.bv x23,.any,.any])),[some ⟨35,[.sl 3 (List.map Place.row x1.Places)]⟩],[]⟩:St)) (Zwm x20) y2 ?_ fun J3=>?_
     ·intro x23 h;rw [Zwm] at h;(try dsimp only);refine Zw4 h rfl (fun _ h=>?_) fun _ h=>?_
      ·refine Zt2 4 ?_;dsimp only [go_sem];refine An ?_;exact Z45 (res:=fun (r:Bool)=>.bv r) ok22 (Zt4 (Zt4 h hout2) hout1)
      ·refine Zt2 6 ?_;dsimp only [go_sem];refine An ?_;exact Z55 h hin2
     ·refine Z35 19 h rfl (fun _ h=>?_) fun _ h=>?_
      ·dsimp only [go_sem];refine Zt2 3 ?_;dsimp only [go_sem];refine An ?_;obtain ⟨x22,ex22,h⟩:=Bs h;refine Z73 trivial (Zbj x1 x20 x15 _ ex22) (h:=?_);refine Zt2 2 ?_;dsimp only [go_sem];refine An ?_;exact Z65 J3 (s:=x22) h
      ·dsimp only [go_sem];refine Zt2 6 ?_;dsimp only [go_sem];refine An ?_;exact Z65 J3 (s:=false) h
    ·refine Zt2 1 ?_;dsimp only [go_sem];refine An ?_;exact Z65 J2 (s:=()) (Zt4 h hout2)
  ·refine Zt2 1 ?_;dsimp only [go_sem];refine An ?_;exact Z65 J1 (s:=()) (Zt4 h hout1)
def Z0n (_F:Nat):Unit→Option Bool
| ()=>
 some true
theorem Z1n {F:Nat}:∀s,ole (Z0n F s) (Zum s):=by
 rintro ⟨⟩
 unfold Z0n Zum
 try dsimp only
 with_reducible repeat' first | exact Zn4 _ | assumption | intro _ | refine Zo4 ?_ ?_ | refine Zp4 ?_ ?_ | refine Zq4 ?_ | refine Zs4 ?_
def Z2n (_F:Nat) (x15:Int):Unit→Option (Int ⊕ Bool)
| ()=>
 some (.inl (wr (x15+1)))
theorem Z3n {F:Nat} {x15:Int}:∀s,ole (Z2n F x15 s) (Zvm x15 s):=by
 rintro ⟨⟩
 unfold Z2n Zvm
 try dsimp only
 with_reducible repeat' first | exact Zn4 _ | assumption | intro _ | refine Zo4 ?_ ?_ | refine Zp4 ?_ ?_ | refine Zq4 ?_ | refine Zs4 ?_ | apply Z1n
def Z4n (_F:Nat) (x20:Int):Bool→Option (Int ⊕ (Int ⊕ Bool))
| x23=>
 ifb x23 (
 Option.map Sum.inr (Option.map Sum.inr (some false))) (
 some (.inl (wr (x20+1))))
theorem Z5n {F:Nat} {x20:Int}:∀s,ole (Z4n F x20 s) (Zwm x20 s):=by
 intro x23
 unfold Z4n Zwm
 try dsimp only
 with_reducible repeat' first | exact Zn4 _ | assumption | intro _ | refine Zo4 ?_ ?_ | refine Zp4 ?_ ?_ | refine Zq4 ?_ | refine Zs4 ?_ | apply Z1n | apply Z3n
def Z6n (F:Nat) (x1:Model) (x15:Int):Int→Option (Int ⊕ (Int ⊕ Bool))
| x20=>
 ifb (decide (x20<x15)) (
 (Zej F x1 x15 x20).bind fun x21=>
 ifb x21 (
 (Zej F x1 x20 x15).bind fun x22=>
 (Z4n F x20) x22) (
 (Z4n F x20) false)) (
 Option.map Sum.inr ((Z2n F x15) ()))
theorem Z7n {F:Nat} {x1:Model} {x15:Int}:∀s,ole (Z6n F x1 x15 s) (Zxm x1 x15 s):=by
 intro x20
 unfold Z6n Zxm
 try dsimp only
 with_reducible repeat' first | exact Zn4 _ | assumption | intro _ | refine Zo4 ?_ ?_ | refine Zp4 ?_ ?_ | refine Zq4 ?_ | refine Zs4 ?_ | apply Z1n | apply Z3n | apply Z5n | apply Zfj
def Z8n (F:Nat) (x1:Model):Int→Option (Int ⊕ Bool)
| x15=>
 ifb (decide (x15<(ln Place.row x1.Places))) (
 Zr4 F (Z6n F x1 x15) 0) (
 Option.map Sum.inr (Z0n F ()))
theorem Z9n {F:Nat} {x1:Model}:∀s,ole (Z8n F x1 s) (Zym x1 s):=by
 intro x15
 unfold Z8n Zym
 try dsimp only
 with_reducible repeat' first | exact Zn4 _ | assumption | intro _ | refine Zo4 ?_ ?_ | refine Zp4 ?_ ?_ | refine Zq4 ?_ | refine Zs4 ?_ | apply Z1n | apply Z3n | apply Z5n | apply Zfj | apply Z7n
def Zan (F:Nat) (x1:Model):Option Bool:=
 Zr4 F (Z8n F x1) 0
theorem Zbn {F:Nat} {x1:Model}:ole (Zan F x1) (Zzm x1):=by
 unfold Zan Zzm
 with_reducible repeat' first | exact Zn4 _ | assumption | intro _ | refine Zo4 ?_ ?_ | refine Zp4 ?_ ?_ | refine Zq4 ?_ | refine Zs4 ?_ | apply Z1n | apply Z3n | apply Z5n | apply Zfj | apply Z7n | apply Z9n
def fewM (m:Model):Prop:=m.Places.length≤1000000∧∀p∈m.Places,p.Live.length≤800000∧Z9h p.Book
theorem at_none {α:Type} {l:List α} {i:Int} (h:at_ l i=none):¬(0≤i∧i<l.length):=fun ⟨h0,h1⟩=>by
 obtain ⟨x,hx,_⟩:=at_lt h0 h1
 rw [h] at hx;simp at hx
theorem Zcn {α:Type} {l:List α} {i:Int} {x:α} (h:at_ l i=some x):0≤i∧i<l.length∧l[i.toNat]?=some x:=by
 obtain ⟨h0,h1⟩:=Zx4 h
 have:=(List.getElem?_eq_some_iff.1 h1).1
 exact ⟨h0,by omega,h1⟩
theorem Zdn {α:Type} {l:List α} {i:Int} {x:α} (h:at_ l i=some x):x∈l:=List.mem_iff_getElem?.2 ⟨_,(Zcn h).2.2⟩
theorem Zen (m:Model) (a:Int):Zph m a=some (at_ m.Places a).isSome:=by
 simp only [Zph,Zoh,Zd5]
 cases h:at_ m.Places a with
 | none=>
   have:=at_none h
   by_cases h0:0≤a
   ·rw [decide_eq_true h0,Ze6,decide_eq_false (by omega)];rfl
   ·rw [decide_eq_false h0];rfl
 | some x=>
   obtain ⟨h0,h1,_⟩:=Zcn h
   rw [decide_eq_true h0,Ze6,decide_eq_true h1];rfl
def Zfn (P:List Place) (a b:Int):Bool:=match at_ P a with
 | some p=>p.Book.Sess.any fun s=>decide (s.State=1)&&decide (b∈s.Need)
 | none=>false
theorem s_uses (m:Model) (hm:fewM m) (a b:Int):Zaj m a b=some (Zfn m.Places a b):=by
 simp only [Zaj,Z9j,Zen,Option.bind_some,Zfn]
 cases h:at_ m.Places a with
 | none=>rfl
 | some p=>
   have hp:=hm.2 p (Zdn h)
   simp only [Option.isSome_some,Ze6,Option.bind_some]
   rw [Zxa p.Book.Sess _ (fun s=>decide (s.State=1)&&decide (b∈s.Need)) (by have:=hp.2.1;omega) (fun s hs=>by
    simp only [Z3j,Z2j,Zyd s.Need b (hp.2.2 s hs),Option.bind_some]
    cases decide (s.State=1)<;>rfl),Option.bind_some]
theorem s_mlive (m:Model) (hm:fewM m) (a b:Int) {p:Place} (h:at_ m.Places a=some p):Zzi m a b=some (decide (b∈p.Live)):=by
 simp only [Zzi,h,Option.bind_some,Zyd p.Live b (by have:=(hm.2 p (Zdn h)).1;omega)]
def dueS (live:List Int) (s:Sess):Bool:=decide (s.State=0)&&!s.Need.all fun z=>decide (z∈live)
def Zgn (p:Place):List Int:=(p.Book.Sess.filter (dueS p.Live)).map (·.ID)
theorem Zhn (q:List Sess) (live:List Int):((q.filter (dueS live)).map (·.ID)).length≤q.length:=by
 rw [List.length_map];exact List.length_filter_le _ _
theorem s_Due (m:Model) (hm:fewM m) (a:Int):Zji m a=some (match at_ m.Places a with | some p=>Zgn p | none=>[]):=by
 simp only [Zji,Zen,Option.bind_some]
 cases h:at_ m.Places a with
 | none=>rfl
 | some p=>
   have hp:=hm.2 p (Zdn h)
   have h8:=hp.2.1
   simp only [Option.isSome_some,Bool.not_true,Zf6,Option.bind_some]
   refine Zla p.Book.Sess _ (fun pre=>((pre.length:Int),(pre.filter (dueS p.Live)).map (·.ID))) (Zgn p) (fun pre x post hx'=>?_) ?_
   ·have hx:=Zma hx'
    have hl:=Zna hx'
    have hd:=Zhn pre p.Live
    dsimp only [Zii]
    rw [Zj6 hx,Ze6,Zh6 hx,Option.bind_some,h,Option.bind_some,s_Within x.Need p.Live (hp.2.2 x (Zoa hx')) (by omega),Option.bind_some,Zpa,List.filter_append,List.map_append]
    simp only [Zhi,Zgi,Zl6 (show pre.length≤4000000000000000000 by omega)]
    rw [Zi6 _ _ (by omega) (by simp only [List.length_singleton];omega),Option.bind_some]
    have e:([x].filter (dueS p.Live)).map (·.ID)=if dueS p.Live x then [x.ID] else []:=by cases h2:dueS p.Live x<;>simp [h2]
    rw [e]
    unfold dueS
    by_cases h1:x.State=0
    ·cases h2:x.Need.all fun z=>decide (z∈p.Live)<;>simp [h1]
    ·simp [h1]
   ·dsimp only [Zii]
    rw [Zk6,Zf6];rfl
theorem s_Due4 (m:Model) (hm:fewM m) (a:Int):Zqk a m.Places=some (match at_ m.Places a with | some p=>Zgn p | none=>[]):=by
 simp only [Zqk,Zen,Option.bind_some]
 cases h:at_ m.Places a with
 | none=>rfl
 | some p=>
   have hp:=hm.2 p (Zdn h)
   have h8:=hp.2.1
   simp only [Option.isSome_some,Bool.not_true,Zf6,Option.bind_some]
   refine Zla p.Book.Sess _ (fun pre=>((pre.length:Int),(pre.filter (dueS p.Live)).map (·.ID))) (Zgn p) (fun pre x post hx'=>?_) ?_
   ·have hx:=Zma hx'
    have hl:=Zna hx'
    have hd:=Zhn pre p.Live
    dsimp only [Zpk]
    rw [Zj6 hx,Ze6,Zh6 hx,Option.bind_some,s_Within x.Need p.Live (hp.2.2 x (Zoa hx')) (by omega),Option.bind_some,Zpa,List.filter_append,List.map_append]
    simp only [Zok,Znk,Zl6 (show pre.length≤4000000000000000000 by omega)]
    rw [Zi6 _ _ (by omega) (by simp only [List.length_singleton];omega),Option.bind_some]
    have e:([x].filter (dueS p.Live)).map (·.ID)=if dueS p.Live x then [x.ID] else []:=by cases h2:dueS p.Live x<;>simp [h2]
    rw [e]
    unfold dueS
    by_cases h1:x.State=0
    ·cases h2:x.Need.all fun z=>decide (z∈p.Live)<;>simp [h1]
    ·simp [h1]
   ·dsimp only [Zpk]
    rw [Zk6,Zf6];rfl
def Zin (n:Nat) (i:Nat) (p:Place):Bool:=Z8h p.Book&&(decide (p.Live.Pairwise (· < ·))&&p.Live.all fun q=>decide (0≤q)&&(decide (q<(n:Int))&&!decide (q=(i:Int))))
def okPl (n:Nat):Nat→List Place→Bool
 | _,[]=>true
 | i,p::l=>Zin n i p&&okPl n (i+1) l
theorem okPl_iff (n:Nat):∀(l:List Place) (i:Nat),okPl n i l=true↔∀k p,l[k]?=some p→Zin n (i+k) p=true
 | [],_=>by simp [okPl]
 | p::l,i=>by
   simp only [okPl,Bool.and_eq_true,okPl_iff n l (i+1)]
   constructor
   ·rintro ⟨h1,h2⟩ k q hk
    cases k with
    | zero=>simp at hk;subst hk;exact h1
    | succ k=>have:=h2 k q (by simpa using hk);rw [show i+(k+1)=i+1+k by omega];exact this
   ·intro h
    refine ⟨h 0 p (by simp),fun k q hk=>?_⟩
    have:=h (k+1) q (by simpa using hk)
    rw [show i+1+k=i+(k+1) by omega];exact this
def okM (m:Model):Bool:=decide (m.Places.length≤64)&&okPl m.Places.length 0 m.Places
theorem Zjn (m:Model):okM m=true↔m.Places.length≤64∧∀k p,m.Places[k]?=some p→Zin m.Places.length k p=true:=by
 simp only [okM,Bool.and_eq_true,decide_eq_true_eq,okPl_iff,Nat.zero_add]
theorem s_mCheck (m:Model) (hm:fewM m):Z5i m=some (if okM m then 0 else 200):=by
 have h1:=hm.1
 simp only [Z5i,Zd5]
 by_cases h64:m.Places.length≤64
 ·rw [decide_eq_false (by omega),Zf6,show okM m=okPl m.Places.length 0 m.Places by unfold okM;rw [decide_eq_true h64,Bool.true_and]]
  refine Zja m.Places _ (fun pre=>(pre.length:Int)) (fun pre post=>some (if okPl m.Places.length pre.length post then 0 else 200)) (fun pre x post h=>?_) ?_
  ·have hx:=Zma h
   have hl:=Zna h
   have hp:=hm.2 x (Zoa h)
   have e2:∀z,Z3i (pre.length:Int) z=if z then some (.inr 200) else some (.inl ((pre.length+1:Nat):Int)):=fun z=>by
     simp only [Z3i,Zl6 (show pre.length≤4000000000000000000 by omega)]
     cases z<;>rfl
   have e3:x.Live.any (fun q=>!((decide (0≤q)&&(decide (q<(m.Places.length:Int))&&!decide (q=(pre.length:Int))))))=!x.Live.all (fun q=>decide (0≤q)&&(decide (q<(m.Places.length:Int))&&!decide (q=(pre.length:Int)))):=Z1b _ _ _ fun _=>rfl
   have hb:Z4i m (pre.length:Int)=if Zin m.Places.length pre.length x then some (.inl ((pre.length+1:Nat):Int)) else some (.inr 200):=by
    dsimp only [Z4i]
    rw [Zj6 hx,Ze6,Zh6 hx,Option.bind_some,Zch x.Book hp.2,Option.bind_some,s_Valid x.Live (by omega),Option.bind_some,
     Zwa x.Live _ (fun q=>!((decide (0≤q)&&(decide (q<(m.Places.length:Int))&&!decide (q=(pre.length:Int)))))) (by omega) (fun q _=>by
       simp only [Zwh,Zvh,Zen,Option.bind_some]
       cases hq:at_ m.Places q with
       | none=>
         have:=at_none hq
         by_cases h0:0≤q
         ·have:¬q<m.Places.length:=by omega
          simp [this]
         ·simp [h0]
       | some y=>
         obtain ⟨q0,q1,_⟩:=Zcn hq
         simp [q0,q1]),Option.bind_some,e3]
    have e5:Zin m.Places.length pre.length x=(Z8h x.Book&&(decide (x.Live.Pairwise (· < ·))&&x.Live.all fun q=>decide (0≤q)&&(decide (q<(m.Places.length:Int))&&!decide (q=(pre.length:Int))))):=rfl
    rw [e5]
    simp only [e2]
    cases hk:Z8h x.Book
    ·simp
    ·by_cases h2:x.Live.Pairwise (· < ·)
     ·cases h3:x.Live.all (fun q=>decide (0≤q)&&(decide (q<(m.Places.length:Int))&&!decide (q=(pre.length:Int))))<;>simp [h2]
     ·simp [h2]
   rw [hb,Zpa]
   show (_∧some (if (Zin m.Places.length pre.length x&&okPl m.Places.length (pre.length+1) post) then (0:Int) else 200)=_)∨∃r,_∧some (if (Zin m.Places.length pre.length x&&okPl m.Places.length (pre.length+1) post) then (0:Int) else 200)=some r
   cases Zin m.Places.length pre.length x
   ·right;exact ⟨200,rfl,rfl⟩
   ·left;exact ⟨rfl,by rw [Bool.true_and]⟩
  ·dsimp only [Z4i]
   rw [Zk6,Zf6];rfl
 ·rw [decide_eq_true (by omega),show okM m=false by unfold okM;rw [decide_eq_false h64,Bool.false_and]];rfl
theorem s_mown (m:Model) (hm:fewM m):Zqj m=some m.Places:=by
 have h1:=hm.1
 have hc:Zvi m.Places=some m.Places:=by
  simp only [Zvi]
  rw [Zi6 _ _ (by omega) (by simp;omega),List.nil_append]
 simp only [Zqj,hc,Option.bind_some]
 refine Zla m.Places _ (fun pre=>((pre.length:Int),m.Places)) m.Places (fun pre x post h=>?_) ?_
 ·have hx:=Zma h
  have hl:=Zna h
  have hp:=hm.2 x (Zoa h)
  have h8:=hp.2.1
  dsimp only [Zpj]
  rw [Zj6 hx,Ze6,Zh6 hx,Option.bind_some,Zeh x.Live (by omega),Option.bind_some,Zfh x.Book.Sess hp.2.1,Option.bind_some,Int.toNat_natCast,Zdh hx]
  dsimp only [Zoj]
  rw [Zh6 hx,Option.bind_some]
  refine Zla x.Book.Sess _ (fun q=>((q.length:Int),x.Book.Sess)) _ (fun q y r hq=>?_) ?_
  ·have hy:=Zma hq
   have hl2:=Zna hq
   dsimp only [Znj]
   rw [Zj6 hy,Ze6,Zh6 hy,Option.bind_some,Zeh y.Need (hp.2.2 y (Zoa hq)),Option.bind_some]
   dsimp only [Zmj]
   rw [Int.toNat_natCast,Zdh hy,Zl6 (by omega),Zpa]
  ·dsimp only [Znj]
   rw [Zk6,Zf6]
   dsimp only [Zlj]
   rw [Int.toNat_natCast,Zdh hx,Zl6 (by omega),Zpa]
   rfl
 ·dsimp only [Zpj]
  rw [Zk6,Zf6];rfl
def Zkn (g:Graph):Model:=⟨(List.range g.N.toNat).map fun a=>⟨Z4h,Z5b g (a:Nat)⟩⟩
theorem s_mNew (g:Graph):Zmm g=some (if okG g then (Zkn g,0) else (⟨[]⟩,30)):=by
 simp only [Zmm,s_Check,Option.bind_some]
 cases hg:okG g with
 | false=>rfl
 | true=>
   obtain ⟨h0,h64,_⟩:=Z0b hg
   simp only [if_true,decide_true,Bool.not_true,Zf6]
   refine loop_nat g.N.toNat _ (fun k=>((k:Int),(List.range k).map fun a=>(⟨Z4h,Z5b g (a:Nat)⟩:Place))) (Zkn g,0) (fun k hk=>?_) ?_
   ·dsimp only [Zlm]
    rw [decide_eq_true (by omega),Ze6,s_Near,hg,Option.bind_some]
    simp only [if_true]
    rw [Zi6 _ _ (by omega) (by simp;omega),Option.bind_some,Zl6 (by omega),List.range_succ,List.map_append]
    rfl
   ·dsimp only [Zlm]
    rw [decide_eq_false (by omega),Zf6];rfl
end NX
end Go.Proofs.YthlodgjekbidcaaGreat
