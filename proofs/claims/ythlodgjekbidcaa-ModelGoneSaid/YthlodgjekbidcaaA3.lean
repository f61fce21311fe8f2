/-
  The function narthex/sess.Grant: its code compiled, a model, and that the code answers as the model. Written by a program of ours (lb.py). No statement of the seat is proved here.
-/
import Derived.KernelRfl
import Derived.Test.YthlodgjekbidcaaA2
namespace Go.Proofs.Ythlodgjekbidcaa
namespace NX
open Go
set_option maxRecDepth 100000
set_option maxHeartbeats 4000000
@[go_sem] def e69:EC:=.seq (.reg [(Qx 1 49 2 0),(Qa 2 (.alloc 49 [.iv 0,.nl])),(Qi 3 0),(Qi 4 0)]) (.seq (.seq (.reg [(Qe 6 2 1),(Qa 7 (.call 31 [(.t 6)])),(Qm 5 7)]) (.seq (.reg [(Qm 8 5),(Qa 9 (.bin .neq (.t 8) (.c (.iv 0))))]) (.ite (.t 9) (.seq (.reg [(Qa 10 (.build [.iv 0,.nl] [])),(Qm 11 5),(Qs 2 2 10),(Qi 3 0),(Qm 4 11)]) (.ret)) (.skip)))) (.seq (.seq (.reg [(Qf 12 1 1),(Ql 13 12),(Qa 14 (.len (.t 13))),(Qa 15 (.bin .eql (.t 14) (.c (.iv 0)))),(Qm 16 15),(Qh 17 16 false 1 1),(Qn 18 16 false 17),(Qg 19 16 false (.idx 4 (.t 18) (.c (.iv 0)))),(Qh 20 16 false 2 19),(Qn 21 16 false 20),(Qg 22 16 false (.bin .eql (.t 21) (.c (.iv 1)))),(Qq 23 16 22)]) (.ite (.t 23) (.seq (.reg [(Qa 24 (.build [.iv 0,.nl] [])),(Qs 2 2 24),(Qi 3 0),(Qi 4 175)]) (.ret)) (.skip))) (.seq (.reg [(Qe 25 2 1),(Qa 26 (.call 68 [(.t 25)])),(Qs 2 1 26)]) (.seq (.reg [(Qf 27 1 1),(Ql 28 27),(Qa 29 (.idx 4 (.t 28) (.c (.iv 0)))),(Qf 30 2 29),(Qb (.store 1 (.t 30) (.c (.iv 1))))]) (.seq (.drw [(Qe 31 2 1),(Qf 32 1 1),(Ql 33 32),(Qa 34 (.idx 4 (.t 33) (.c (.iv 0)))),(Qf 35 0 34),(Ql 36 35),(Qs 2 2 31),(Qm 3 36),(Qi 4 0)] [[],[],[1],[2],[3],[4],[0,0],[5,6,0,1,2,3,4,5,6],[7,0,1,2,3,4,5,6,7]] [[6],[2],[1,3],[2,4],[3,5],[4,7],[0],[5],[]]) (.ret))))))
theorem ok69:FnOK Try.prog 69 Try.f69 e69 [.c 2 (some 2),.t 3,.t 4] 1 36:=⟨by kernel_rfl,⟨_,rfl,by kernel_rfl⟩,by kernel_rfl,by kernel_rfl⟩
noncomputable def Zdf:(List Sess)→Option (List Sess)
| x35=>
 some x35
noncomputable def Zef (x2:(List Sess)):(Int×(List Sess))→Option ((Int×(List Sess)) ⊕ (List Sess))
| (x8,x9)=>
 ifb (decide (x8<(ln Sess.row x2))) (
 (at_ x9 x8).bind fun x10=>
 (Zi9 x10.Need).bind fun x11=>
 some (.inl (wr (x8+1),x9.set (Int.toNat (x8)) ((Sess.mk x10.ID x11 x10.State x10.Age))))) (
 Option.map Sum.inr (Zdf x9))
noncomputable def Zff (x1:Book):Option (List Sess):=
 (Zte x1.Sess).bind fun x2=>
 loop (Zef x2) (0,x2)
theorem Zgf (x1:Book) (r:(List Sess)) (h:Zff x1=some r):FunT Try.prog 68 [.agg [.iv x1.Last,.sl 4 (List.map Sess.row x1.Sess)]] [none,none] [] (.agg [.iv x1.Last,.osl 0]) [none,none] [some ⟨76,4,List.map Sess.row r⟩]:=by
 refine Z86 ok68 rfl rfl rfl (by first | rfl | simp [go_sem]) fun w0 M0=>?_
 rw [Zff] at h
 dsimp only [lun,List.cons_append,List.nil_append]
 refine Zu2 9 ?_;dsimp only [go_sem];refine An ?_;obtain ⟨x2,ex2,h⟩:=Bs h;refine Zn5 trivial (Zue x1.Sess _ ex2) (h:=?_);refine Zu2 11 ?_;dsimp only [go_sem];refine An ?_;refine Zy4 (fun (x35:(List Sess))=>(⟨(.any :: .ptr 2 0 :: .ptr 3 0::an 25 []),[none,none,some ⟨49,[.iv x1.Last,.osl 0]⟩,some ⟨49,[.iv 0,.nl]⟩],[some ⟨76,4,List.map Sess.row x35⟩]⟩:St)) Zdf r ?_ fun J1=>?_
 ·intro x35 h;rw [Zdf] at h;(try dsimp only);refine Zu2 5 ?_;dsimp only [go_sem];refine An ?_;obtain rfl:=Option.some.inj h;exact Z96 ok68 rfl (by simp [go_sem])
 ·refine Zu2 1 ?_;dsimp only [go_sem];refine An ?_;refine Zz4 h (fun ((x8,x9):(Int×(List Sess)))=>(⟨(.any :: .ptr 2 0 :: .ptr 3 0::an 7 (.iv (ln Sess.row x2) :: .iv x8::an 16 [])),[none,none,some ⟨49,[.iv x1.Last,.osl 0]⟩,some ⟨49,[.iv 0,.nl]⟩],[some ⟨76,4,List.map Sess.row x9⟩]⟩:St)) (by simp [go_sem]) (by rintro ⟨x8,x9⟩;first | rfl | simp [go_sem]) ?_;rintro n1 ⟨x8,x9⟩ y1 h hin1 hout1;rw [Zef] at h;(try dsimp only);refine Zu2 5 ?_;dsimp only [go_sem];refine An ?_;refine Z05 h rfl (fun _ h=>?_) fun _ h=>?_
  ·refine Zu2 8 ?_;dsimp only [go_sem];refine An ?_;refine Zu3 (by kernel_rfl) fun all hall hs hnap haf=>?_;dsimp only [go_sem];refine Zt5 hall hs haf hnap 4 9 ?_;dsimp only [go_sem];refine An ?_;refine Z64 1 4 rfl ?_ ?_
   ·refine Za4 hall rfl trivial ?_;dsimp only [go_sem];refine Z54 4 rfl ?_;refine Za4 hall rfl trivial ?_;dsimp only [go_sem];obtain ⟨x10,ex10,h⟩:=Bs h;refine Z54 6 rfl ?_;refine Zb6 hall Sess.row ex10 rfl trivial rfl rfl rfl ?_;dsimp only [go_sem];refine Zt5 hall hs haf hnap 1 5 ?_;dsimp only [go_sem];refine An ?_;refine Z54 8 rfl ?_;refine Zc6 hall Sess.row ex10 rfl trivial rfl rfl rfl ?_;dsimp only [go_sem];refine Z54 9 rfl ?_;obtain ⟨x11,ex11,h⟩:=Bs h;refine Zb4 hall rfl trivial (Zk9 x10.Need _ ex11) (h:=?_)
    dsimp only [go_sem];refine Z54 10 rfl ?_;refine Zb6 hall Sess.row ex10 rfl trivial rfl rfl rfl ?_;dsimp only [go_sem];refine Zt5 hall hs haf hnap 1 1 ?_;dsimp only [go_sem];refine An ?_;refine Z54 12 rfl ?_;refine Ze6 hall [.sl 1 (List.map Zf5 x11)] Sess.row (y':=(Sess.mk x10.ID x11 x10.State x10.Age)) ex10 rfl trivial rfl rfl rfl (by first | exact Zl4 _ | simp [go_sem]) rfl rfl rfl rfl ?_;dsimp only [go_sem];refine Z44 rfl ?_ _;refine Zu2 5 ?_;dsimp only [go_sem];refine An ?_;exact Z95 h hin1
   ·refine Za4 hall rfl trivial ?_;dsimp only [go_sem];obtain ⟨x10,ex10,h⟩:=Bs h;refine Z64 1 6 rfl ?_ ?_
    ·refine Za4 hall rfl trivial ?_;dsimp only [go_sem];refine Z54 6 rfl ?_;refine Zb6 hall Sess.row ex10 rfl trivial rfl rfl rfl ?_;dsimp only [go_sem];refine Zt5 hall hs haf hnap 1 5 ?_;dsimp only [go_sem];refine An ?_;refine Z54 8 rfl ?_;refine Zc6 hall Sess.row ex10 rfl trivial rfl rfl rfl ?_;dsimp only [go_sem];refine Z54 9 rfl ?_;obtain ⟨x11,ex11,h⟩:=Bs h;refine Zb4 hall rfl trivial (Zk9 x10.Need _ ex11) (h:=?_);dsimp only [go_sem];refine Z54 10 rfl ?_;refine Zb6 hall Sess.row ex10 rfl trivial rfl rfl rfl ?_
     dsimp only [go_sem];refine Zt5 hall hs haf hnap 1 1 ?_;dsimp only [go_sem];refine An ?_;refine Z54 12 rfl ?_;refine Ze6 hall [.sl 1 (List.map Zf5 x11)] Sess.row (y':=(Sess.mk x10.ID x11 x10.State x10.Age)) ex10 rfl trivial rfl rfl rfl (by first | exact Zl4 _ | simp [go_sem]) rfl rfl rfl rfl ?_;dsimp only [go_sem];refine Z44 rfl ?_ _;refine Zu2 5 ?_;dsimp only [go_sem];refine An ?_;exact Z95 h hin1
    ·refine Zb6 hall Sess.row ex10 rfl trivial rfl rfl rfl ?_;dsimp only [go_sem];refine Zt5 hall hs haf hnap 1 6 ?_;dsimp only [go_sem];refine An ?_;refine Z64 1 8 rfl ?_ ?_
     ·refine Za4 hall rfl trivial ?_;dsimp only [go_sem];refine Z54 8 rfl ?_;refine Zc6 hall Sess.row ex10 rfl trivial rfl rfl rfl ?_;dsimp only [go_sem];refine Z54 9 rfl ?_;obtain ⟨x11,ex11,h⟩:=Bs h;refine Zb4 hall rfl trivial (Zk9 x10.Need _ ex11) (h:=?_);dsimp only [go_sem];refine Z54 10 rfl ?_;refine Zb6 hall Sess.row ex10 rfl trivial rfl rfl rfl ?_;dsimp only [go_sem];refine Zt5 hall hs haf hnap 1 1 ?_;dsimp only [go_sem];refine An ?_;refine Z54 12 rfl ?_
      refine Ze6 hall [.sl 1 (List.map Zf5 x11)] Sess.row (y':=(Sess.mk x10.ID x11 x10.State x10.Age)) ex10 rfl trivial rfl rfl rfl (by first | exact Zl4 _ | simp [go_sem]) rfl rfl rfl rfl ?_;dsimp only [go_sem];refine Z44 rfl ?_ _;refine Zu2 5 ?_;dsimp only [go_sem];refine An ?_;exact Z95 h hin1
     ·refine Zc6 hall Sess.row ex10 rfl trivial rfl rfl rfl ?_;dsimp only [go_sem];obtain ⟨x11,ex11,h⟩:=Bs h;refine Z64 1 9 rfl ?_ ?_
      ·refine Za4 hall rfl trivial ?_;dsimp only [go_sem];refine Z54 9 rfl ?_;refine Zb4 hall rfl trivial (Zk9 x10.Need _ ex11) (h:=?_);dsimp only [go_sem];refine Z54 10 rfl ?_;refine Zb6 hall Sess.row ex10 rfl trivial rfl rfl rfl ?_;dsimp only [go_sem];refine Zt5 hall hs haf hnap 1 1 ?_;dsimp only [go_sem];refine An ?_;refine Z54 12 rfl ?_;refine Ze6 hall [.sl 1 (List.map Zf5 x11)] Sess.row (y':=(Sess.mk x10.ID x11 x10.State x10.Age)) ex10 rfl trivial rfl rfl rfl (by first | exact Zl4 _ | simp [go_sem]) rfl rfl rfl rfl ?_
       dsimp only [go_sem];refine Z44 rfl ?_ _;refine Zu2 5 ?_;dsimp only [go_sem];refine An ?_;exact Z95 h hin1
      ·refine Zb4 hall rfl trivial (Zk9 x10.Need _ ex11) (h:=?_);dsimp only [go_sem];refine Z54 1 rfl ?_;refine Za4 hall rfl trivial ?_;dsimp only [go_sem];refine Z54 10 rfl ?_;refine Zb6 hall Sess.row ex10 rfl trivial rfl rfl rfl ?_;dsimp only [go_sem];refine Zt5 hall hs haf hnap 1 1 ?_;dsimp only [go_sem];refine An ?_;refine Z54 12 rfl ?_;refine Ze6 hall [.sl 1 (List.map Zf5 x11)] Sess.row (y':=(Sess.mk x10.ID x11 x10.State x10.Age)) ex10 rfl trivial rfl rfl rfl (by first | exact Zl4 _ | simp [go_sem]) rfl rfl rfl rfl ?_
       dsimp only [go_sem];refine Z44 rfl ?_ _;refine Zu2 5 ?_;dsimp only [go_sem];refine An ?_;exact Z95 h hin1
  ·refine Zu2 1 ?_;dsimp only [go_sem];refine An ?_;exact Za5 J1 (s:=x9) (Zx4 h hout1)
def Zhf (_F:Nat):(List Sess)→Option (List Sess)
| x35=>
 some x35
theorem Zif {F:Nat}:∀s,ole (Zhf F s) (Zdf s):=by
 intro x35
 unfold Zhf Zdf
 try dsimp only
 with_reducible repeat' first | exact Zr4 _ | assumption | intro _ | refine Zs4 ?_ ?_ | refine Zt4 ?_ ?_ | refine Zu4 ?_ | refine Zw4 ?_
def Zjf (F:Nat) (x2:(List Sess)):(Int×(List Sess))→Option ((Int×(List Sess)) ⊕ (List Sess))
| (x8,x9)=>
 ifb (decide (x8<(ln Sess.row x2))) (
 (at_ x9 x8).bind fun x10=>
 (Zl9 F x10.Need).bind fun x11=>
 some (.inl (wr (x8+1),x9.set (Int.toNat (x8)) ((Sess.mk x10.ID x11 x10.State x10.Age))))) (
 Option.map Sum.inr (Zhf F x9))
theorem Zkf {F:Nat} {x2:(List Sess)}:∀s,ole (Zjf F x2 s) (Zef x2 s):=by
 rintro ⟨x8,x9⟩
 unfold Zjf Zef
 try dsimp only
 with_reducible repeat' first | exact Zr4 _ | assumption | intro _ | refine Zs4 ?_ ?_ | refine Zt4 ?_ ?_ | refine Zu4 ?_ | refine Zw4 ?_ | apply Zif | apply Zm9
def Zlf (F:Nat) (x1:Book):Option (List Sess):=
 (Zve F x1.Sess).bind fun x2=>
 Zv4 F (Zjf F x2) (0,x2)
theorem Zmf {F:Nat} {x1:Book}:ole (Zlf F x1) (Zff x1):=by
 unfold Zlf Zff
 with_reducible repeat' first | exact Zr4 _ | assumption | intro _ | refine Zs4 ?_ ?_ | refine Zt4 ?_ ?_ | refine Zu4 ?_ | refine Zw4 ?_ | apply Zif | apply Zm9 | apply Zkf | apply Zwe
noncomputable def Znf (x1:Book):Bool→Option (Book×Int×Int)
| x4=>
 ifb x4 (
 some ((Book.mk 0 (([]:(List Sess)))),0,175)) (
 (Zff x1).bind fun x5=>
 (at_ x5 0).bind fun x6=>
 some ((Book.mk x1.Last (x5.set (Int.toNat (0)) ((Sess.mk x6.ID x6.Need 1 x6.Age)))),x6.ID,0))
noncomputable def Zof (x1:Book):Option (Book×Int×Int):=
 (Zde x1).bind fun x2=>
 ifb (!decide (x2=0)) (
 some ((Book.mk 0 (([]:(List Sess)))),0,x2)) (
 ifb (decide ((ln Sess.row x1.Sess)=0)) (
 (Znf x1) true) (
 (at_ x1.Sess 0).bind fun x3=>
 (Znf x1) (decide (x3.State=1))))
theorem k_sess_Grant (x1:Book) (r:(Book×Int×Int)) (h:Zof x1=some r):Zz2 Try.prog 69 [.agg (Book.row x1)] (.tup [.agg (Book.row r.1),.iv r.2.1,.iv r.2.2]):=by
 refine Z33 ok69 rfl rfl fun w0 H0=>?_
 rw [Zof] at h
 refine Zu2 11 ?_;dsimp only [go_sem];refine An ?_;obtain ⟨x2,ex2,h⟩:=Bs h;refine Z83 trivial (Zee x1 _ ex2) (h:=?_);refine Zu2 7 ?_;dsimp only [go_sem];refine An ?_;refine Z05 h rfl (fun _ h=>?_) fun _ h=>?_
 ·refine Zu2 8 ?_;dsimp only [go_sem];refine An ?_;exact Z85 (res:=fun (r:(Book×Int×Int))=>.tup [.agg (Book.row r.1),.iv r.2.1,.iv r.2.2]) ok69 h
 ·refine Zu2 9 ?_;dsimp only [go_sem];refine An ?_;refine Zy4 (fun (x4:Bool)=>(⟨(.any :: .ptr 0 0 :: .ptr 1 0::an 20 (.bv x4::an 13 [])),[some ⟨49,[.iv x1.Last,.sl 4 (List.map Sess.row x1.Sess)]⟩,some ⟨49,[.iv 0,.nl]⟩],[]⟩:St)) (Znf x1) r ?_ fun J1=>?_
  ·intro x4 h;rw [Znf] at h;(try dsimp only);refine Z05 h rfl (fun _ h=>?_) fun _ h=>?_
   ·refine Zu2 7 ?_;dsimp only [go_sem];refine An ?_;exact Z85 (res:=fun (r:(Book×Int×Int))=>.tup [.agg (Book.row r.1),.iv r.2.1,.iv r.2.2]) ok69 h
   ·refine Zu2 4 ?_;dsimp only [go_sem];refine An ?_;obtain ⟨x5,ex5,h⟩:=Bs h;refine Za6 [false,false] [] trivial (Zgf x1 _ ex5) (h:=?_);dsimp only [go_sem];refine Zu2 6 ?_;dsimp only [go_sem];refine An ?_;obtain ⟨x6,ex6,h⟩:=Bs h;refine Zw5 Sess.row ex6 trivial rfl rfl rfl ?_;refine Zu2 1 ?_;dsimp only [go_sem];refine An ?_;refine Z36 [.iv 1] Sess.row (y':=(Sess.mk x6.ID x6.Need 1 x6.Age)) ex6 trivial rfl rfl rfl (by first | exact Zl4 _ | simp [go_sem]) rfl rfl rfl rfl ?_;refine Zu2 2 ?_;dsimp only [go_sem];refine An ?_
    refine Zu3 (by kernel_rfl) fun all hall hs hnap haf=>?_;dsimp only [go_sem];refine Zt5 hall hs haf hnap 1 8 ?_;dsimp only [go_sem];refine An ?_;refine Z64 0 2 rfl ?_ ?_
    ·refine Za4 hall rfl trivial ?_;dsimp only [go_sem];refine Z64 2 6 rfl ?_ ?_
     ·refine Za4 hall rfl trivial ?_;dsimp only [go_sem];refine Z64 3 6 rfl ?_ ?_
      ·refine Zb6 hall Sess.row (Zx5 ex6) rfl trivial rfl rfl rfl ?_;dsimp only [go_sem];refine Zt5 hall hs haf hnap 1 4 ?_;dsimp only [go_sem];refine An ?_;refine Z64 5 6 rfl ?_ ?_
       ·refine Zc6 hall Sess.row (Zx5 ex6) rfl trivial rfl rfl rfl ?_;dsimp only [go_sem];refine Z54 6 rfl ?_;refine Za4 hall rfl trivial ?_;dsimp only [go_sem];refine Zt5 hall hs haf hnap 2 0 ?_;dsimp only [go_sem];refine An ?_;refine Z44 rfl ?_ _;refine Zm3 0 rfl ?_;dsimp only [go_sem];exact Z85 (res:=fun (r:(Book×Int×Int))=>.tup [.agg (Book.row r.1),.iv r.2.1,.iv r.2.2]) ok69 h
       ·refine Za4 hall rfl trivial ?_;dsimp only [go_sem];refine Z54 5 rfl ?_;refine Zc6 hall Sess.row (Zx5 ex6) rfl trivial rfl rfl rfl ?_;dsimp only [go_sem];refine Zt5 hall hs haf hnap 2 0 ?_;dsimp only [go_sem];refine An ?_;refine Z44 rfl ?_ _;refine Zm3 0 rfl ?_;dsimp only [go_sem];exact Z85 (res:=fun (r:(Book×Int×Int))=>.tup [.agg (Book.row r.1),.iv r.2.1,.iv r.2.2]) ok69 h
      ·refine Za4 hall rfl trivial ?_;dsimp only [go_sem];refine Z54 3 rfl ?_;refine Zb6 hall Sess.row (Zx5 ex6) rfl trivial rfl rfl rfl ?_;dsimp only [go_sem];refine Zt5 hall hs haf hnap 1 3 ?_;dsimp only [go_sem];refine An ?_;refine Z54 5 rfl ?_;refine Zc6 hall Sess.row (Zx5 ex6) rfl trivial rfl rfl rfl ?_;dsimp only [go_sem];refine Zt5 hall hs haf hnap 2 0 ?_;dsimp only [go_sem];refine An ?_;refine Z44 rfl ?_ _;refine Zm3 0 rfl ?_;dsimp only [go_sem]
       exact Z85 (res:=fun (r:(Book×Int×Int))=>.tup [.agg (Book.row r.1),.iv r.2.1,.iv r.2.2]) ok69 h
     ·refine Za4 hall rfl trivial ?_;dsimp only [go_sem];refine Z54 2 rfl ?_;refine Za4 hall rfl trivial ?_;dsimp only [go_sem];refine Z54 3 rfl ?_;refine Zb6 hall Sess.row (Zx5 ex6) rfl trivial rfl rfl rfl ?_;dsimp only [go_sem];refine Zt5 hall hs haf hnap 1 3 ?_;dsimp only [go_sem];refine An ?_;refine Z54 5 rfl ?_;refine Zc6 hall Sess.row (Zx5 ex6) rfl trivial rfl rfl rfl ?_;dsimp only [go_sem];refine Zt5 hall hs haf hnap 2 0 ?_;dsimp only [go_sem];refine An ?_;refine Z44 rfl ?_ _;refine Zm3 0 rfl ?_;dsimp only [go_sem]
      exact Z85 (res:=fun (r:(Book×Int×Int))=>.tup [.agg (Book.row r.1),.iv r.2.1,.iv r.2.2]) ok69 h
    ·refine Za4 hall rfl trivial ?_;dsimp only [go_sem];refine Z64 0 3 rfl ?_ ?_
     ·refine Za4 hall rfl trivial ?_;dsimp only [go_sem];refine Z64 3 6 rfl ?_ ?_
      ·refine Zb6 hall Sess.row (Zx5 ex6) rfl trivial rfl rfl rfl ?_;dsimp only [go_sem];refine Zt5 hall hs haf hnap 1 4 ?_;dsimp only [go_sem];refine An ?_;refine Z64 5 6 rfl ?_ ?_
       ·refine Zc6 hall Sess.row (Zx5 ex6) rfl trivial rfl rfl rfl ?_;dsimp only [go_sem];refine Z54 6 rfl ?_;refine Za4 hall rfl trivial ?_;dsimp only [go_sem];refine Zt5 hall hs haf hnap 2 0 ?_;dsimp only [go_sem];refine An ?_;refine Z44 rfl ?_ _;refine Zm3 0 rfl ?_;dsimp only [go_sem];exact Z85 (res:=fun (r:(Book×Int×Int))=>.tup [.agg (Book.row r.1),.iv r.2.1,.iv r.2.2]) ok69 h
       ·refine Za4 hall rfl trivial ?_;dsimp only [go_sem];refine Z54 5 rfl ?_;refine Zc6 hall Sess.row (Zx5 ex6) rfl trivial rfl rfl rfl ?_;dsimp only [go_sem];refine Zt5 hall hs haf hnap 2 0 ?_;dsimp only [go_sem];refine An ?_;refine Z44 rfl ?_ _;refine Zm3 0 rfl ?_;dsimp only [go_sem];exact Z85 (res:=fun (r:(Book×Int×Int))=>.tup [.agg (Book.row r.1),.iv r.2.1,.iv r.2.2]) ok69 h
      ·refine Za4 hall rfl trivial ?_;dsimp only [go_sem];refine Z54 3 rfl ?_;refine Zb6 hall Sess.row (Zx5 ex6) rfl trivial rfl rfl rfl ?_;dsimp only [go_sem];refine Zt5 hall hs haf hnap 1 3 ?_;dsimp only [go_sem];refine An ?_;refine Z54 5 rfl ?_;refine Zc6 hall Sess.row (Zx5 ex6) rfl trivial rfl rfl rfl ?_;dsimp only [go_sem];refine Zt5 hall hs haf hnap 2 0 ?_;dsimp only [go_sem];refine An ?_;refine Z44 rfl ?_ _;refine Zm3 0 rfl ?_;dsimp only [go_sem]
       exact Z85 (res:=fun (r:(Book×Int×Int))=>.tup [.agg (Book.row r.1),.iv r.2.1,.iv r.2.2]) ok69 h
     ·refine Zb6 hall Sess.row (Zx5 ex6) rfl trivial rfl rfl rfl ?_;dsimp only [go_sem];refine Zt5 hall hs haf hnap 1 5 ?_;dsimp only [go_sem];refine An ?_;refine Z64 0 5 rfl ?_ ?_
      ·refine Za4 hall rfl trivial ?_;dsimp only [go_sem];refine Z64 5 6 rfl ?_ ?_
       ·refine Zc6 hall Sess.row (Zx5 ex6) rfl trivial rfl rfl rfl ?_;dsimp only [go_sem];refine Z54 6 rfl ?_;refine Za4 hall rfl trivial ?_;dsimp only [go_sem];refine Zt5 hall hs haf hnap 2 0 ?_;dsimp only [go_sem];refine An ?_;refine Z44 rfl ?_ _;refine Zm3 0 rfl ?_;dsimp only [go_sem];exact Z85 (res:=fun (r:(Book×Int×Int))=>.tup [.agg (Book.row r.1),.iv r.2.1,.iv r.2.2]) ok69 h
       ·refine Za4 hall rfl trivial ?_;dsimp only [go_sem];refine Z54 5 rfl ?_;refine Zc6 hall Sess.row (Zx5 ex6) rfl trivial rfl rfl rfl ?_;dsimp only [go_sem];refine Zt5 hall hs haf hnap 2 0 ?_;dsimp only [go_sem];refine An ?_;refine Z44 rfl ?_ _;refine Zm3 0 rfl ?_;dsimp only [go_sem];exact Z85 (res:=fun (r:(Book×Int×Int))=>.tup [.agg (Book.row r.1),.iv r.2.1,.iv r.2.2]) ok69 h
      ·refine Zc6 hall Sess.row (Zx5 ex6) rfl trivial rfl rfl rfl ?_;dsimp only [go_sem];refine Z54 0 rfl ?_;refine Za4 hall rfl trivial ?_;dsimp only [go_sem];refine Z54 6 rfl ?_;refine Za4 hall rfl trivial ?_;dsimp only [go_sem];refine Zt5 hall hs haf hnap 2 0 ?_;dsimp only [go_sem];refine An ?_;refine Z44 rfl ?_ _;refine Zm3 0 rfl ?_;dsimp only [go_sem];exact Z85 (res:=fun (r:(Book×Int×Int))=>.tup [.agg (Book.row r.1),.iv r.2.1,.iv r.2.2]) ok69 h
  ·refine Z75 16 h rfl (fun _ h=>?_) fun _ h=>?_
   ·dsimp only [go_sem];refine Zu2 8 ?_;dsimp only [go_sem];refine An ?_;exact Za5 J1 (s:=true) h
   ·dsimp only [go_sem];refine Zu2 2 ?_;dsimp only [go_sem];refine An ?_;obtain ⟨x3,ex3,h⟩:=Bs h;refine Z35 Sess.row ex3 trivial rfl rfl rfl ?_;refine Zu2 5 ?_;dsimp only [go_sem];refine An ?_;exact Za5 J1 (s:=decide (x3.State=1)) h
def Zpf (F:Nat) (x1:Book):Bool→Option (Book×Int×Int)
| x4=>
 ifb x4 (
 some ((Book.mk 0 (([]:(List Sess)))),0,175)) (
 (Zlf F x1).bind fun x5=>
 (at_ x5 0).bind fun x6=>
 some ((Book.mk x1.Last (x5.set (Int.toNat (0)) ((Sess.mk x6.ID x6.Need 1 x6.Age)))),x6.ID,0))
theorem Zqf {F:Nat} {x1:Book}:∀s,ole (Zpf F x1 s) (Znf x1 s):=by
 intro x4
 unfold Zpf Znf
 try dsimp only
 with_reducible repeat' first | exact Zr4 _ | assumption | intro _ | refine Zs4 ?_ ?_ | refine Zt4 ?_ ?_ | refine Zu4 ?_ | refine Zw4 ?_ | apply Zmf
def Zrf (F:Nat) (x1:Book):Option (Book×Int×Int):=
 (Zre F x1).bind fun x2=>
 ifb (!decide (x2=0)) (
 some ((Book.mk 0 (([]:(List Sess)))),0,x2)) (
 ifb (decide ((ln Sess.row x1.Sess)=0)) (
 (Zpf F x1) true) (
 (at_ x1.Sess 0).bind fun x3=>
 (Zpf F x1) (decide (x3.State=1))))
theorem le_sess_Grant {F:Nat} {x1:Book}:ole (Zrf F x1) (Zof x1):=by
 unfold Zrf Zof
 with_reducible repeat' first | exact Zr4 _ | assumption | intro _ | refine Zs4 ?_ ?_ | refine Zt4 ?_ ?_ | refine Zu4 ?_ | refine Zw4 ?_ | apply Zmf | apply Zqf | apply Zse
set_option maxRecDepth 100000
set_option maxHeartbeats 4000000
@[go_sem] def e99:EC:=.seq (.reg [(Qx 2 76 4 0),(Qa 3 (.mv (.c .ff)))]) (.seq (.reg [(Qf 4 0 2),(Ql 5 4),(Ql 6 1),(Qa 7 (.bin .eql (.t 5) (.t 6))),(Qm 3 7)]) (.ret))
theorem ok99:FnOK Try.prog 99 Try.f99 e99 [.t 3] 2 6:=⟨by kernel_rfl,⟨_,rfl,by kernel_rfl⟩,by kernel_rfl,by kernel_rfl⟩
noncomputable def Zsf (x1:Sess) (x2:Int):Option Bool:=
 some (decide (x1.ID=x2))
theorem k_sess_find_1 (x1:Sess) (x2:Int) (r:Bool) (h:Zsf x1 x2=some r):Zz2 Try.prog 99 [.agg (Sess.row x1),.elt (Zf5 x2) 0] (.bv r):=by
 refine Z33 ok99 rfl rfl fun w0 H0=>?_
 rw [Zsf] at h
 refine Zu2 13 ?_;dsimp only [go_sem];refine An ?_;exact Z85 (res:=fun (r:Bool)=>.bv r) ok99 h
def Ztf (_F:Nat) (x1:Sess) (x2:Int):Option Bool:=
 some (decide (x1.ID=x2))
theorem Zuf {F:Nat} {x1:Sess} {x2:Int}:ole (Ztf F x1 x2) (Zsf x1 x2):=by
 unfold Ztf Zsf
 with_reducible repeat' first | exact Zr4 _ | assumption | intro _ | refine Zs4 ?_ ?_ | refine Zt4 ?_ ?_ | refine Zu4 ?_ | refine Zw4 ?_
set_option maxRecDepth 100000
set_option maxHeartbeats 4000000
@[go_sem] def e83:EC:=.seq (.reg [(Qx 2 49 2 0),(Qx 3 3 1 1),(Qi 4 0)]) (.seq (.reg [(Qf 5 1 2),(Ql 6 5),(Qa 7 (.mkf 99 [(.t 3)])),(Qa 8 (.call 73 [(.t 6),(.t 7)])),(Qm 4 8)]) (.ret))
theorem ok83:FnOK Try.prog 83 Try.f83 e83 [.t 4] 2 7:=⟨by kernel_rfl,⟨_,rfl,by kernel_rfl⟩,by kernel_rfl,by kernel_rfl⟩
noncomputable def Zvf (x1:Book) (x2:Int):Option Int:=
 (Zl7 x1.Sess ((fun z=>Zsf z x2))).bind fun x3=>
 some x3
theorem Zwf (x1:Book) (x2:Int) (r:Int) (h:Zvf x1 x2=some r):Zz2 Try.prog 83 [.agg (Book.row x1),.iv x2] (.iv r):=by
 refine Z33 ok83 rfl rfl fun w0 H0=>?_
 rw [Zvf] at h
 refine Zu2 11 ?_;dsimp only [go_sem];refine An ?_;obtain ⟨x3,ex3,h⟩:=Bs h;refine Zc5 trivial ((Zb5.refl _).block 1 rfl rfl) (Zm7 x1.Sess _ _ ((fun z=>Zsf z x2)) ⟨by kernel_rfl,rfl,fun z r hz=>k_sess_find_1 z x2 r hz⟩ _ ex3) (h:=?_);refine Zu2 2 ?_;dsimp only [go_sem];refine An ?_;exact Z85 (res:=fun (r:Int)=>.iv r) ok83 h
def Zxf (F:Nat) (x1:Book) (x2:Int):Option Int:=
 (Zr7 F x1.Sess ((fun z=>Ztf F z x2))).bind fun x3=>
 some x3
theorem Zyf {F:Nat} {x1:Book} {x2:Int}:ole (Zxf F x1 x2) (Zvf x1 x2):=by
 unfold Zxf Zvf
 with_reducible repeat' first | exact Zr4 _ | assumption | intro _ | refine Zs4 ?_ ?_ | refine Zt4 ?_ ?_ | refine Zu4 ?_ | refine Zw4 ?_ | apply Zs7 | apply Zuf
set_option maxRecDepth 100000
set_option maxHeartbeats 4000000
@[go_sem] def e81:EC:=.seq (.reg [(Qx 2 49 2 0),(Qi 4 0),(Qi 5 0)]) (.seq (.seq (.reg [(Qe 8 2 2),(Qa 9 (.call 31 [(.t 8)])),(Qm 6 9)]) (.seq (.reg [(Qm 10 6),(Qa 11 (.bin .neq (.t 10) (.c (.iv 0))))]) (.ite (.t 11) (.seq (.reg [(Qm 12 6),(Qi 4 0),(Qm 5 12)]) (.ret)) (.skip)))) (.seq (.reg [(Qe 13 2 2),(Qm 14 1),(Qa 15 (.call 83 [(.t 13),(.t 14)])),(Qm 7 15)]) (.seq (.seq (.reg [(Qm 16 7),(Qa 17 (.bin .lss (.t 16) (.c (.iv 0))))]) (.ite (.t 17) (.seq (.reg [(Qi 4 0),(Qi 5 174)]) (.ret)) (.skip))) (.seq (.reg [(Qf 18 1 2),(Ql 19 18),(Qm 20 7),(Qk 21 4 19 20),(Qf 22 2 21),(Ql 23 22),(Qm 4 23),(Qi 5 0)]) (.ret)))))
theorem ok81:FnOK Try.prog 81 Try.f81 e81 [.t 4,.t 5] 2 22:=⟨by kernel_rfl,⟨_,rfl,by kernel_rfl⟩,by kernel_rfl,by kernel_rfl⟩
noncomputable def Zzf (x1:Book) (x2:Int):Option (Int×Int):=
 (Zde x1).bind fun x3=>
 ifb (!decide (x3=0)) (
 some (0,x3)) (
 (Zvf x1 x2).bind fun x4=>
 ifb (decide (x4<0)) (
 some (0,174)) (
 (at_ x1.Sess x4).bind fun x5=>
 some (x5.State,0)))
theorem k_sess_Poll (x1:Book) (x2:Int) (r:(Int×Int)) (h:Zzf x1 x2=some r):Zz2 Try.prog 81 [.agg (Book.row x1),.iv x2] (.tup [.iv r.1,.iv r.2]):=by
 refine Z33 ok81 rfl rfl fun w0 H0=>?_
 rw [Zzf] at h
 refine Zu2 10 ?_;dsimp only [go_sem];refine An ?_;obtain ⟨x3,ex3,h⟩:=Bs h;refine Z83 trivial (Zee x1 _ ex3) (h:=?_);refine Zu2 7 ?_;dsimp only [go_sem];refine An ?_;refine Z05 h rfl (fun _ h=>?_) fun _ h=>?_
 ·refine Zu2 6 ?_;dsimp only [go_sem];refine An ?_;exact Z85 (res:=fun (r:(Int×Int))=>.tup [.iv r.1,.iv r.2]) ok81 h
 ·refine Zu2 5 ?_;dsimp only [go_sem];refine An ?_;obtain ⟨x4,ex4,h⟩:=Bs h;refine Z83 trivial (Zwf x1 x2 _ ex4) (h:=?_);refine Zu2 8 ?_;dsimp only [go_sem];refine An ?_;refine Z05 h rfl (fun _ h=>?_) fun _ h=>?_
  ·refine Zu2 5 ?_;dsimp only [go_sem];refine An ?_;exact Z85 (res:=fun (r:(Int×Int))=>.tup [.iv r.1,.iv r.2]) ok81 h
  ·refine Zu2 6 ?_;dsimp only [go_sem];refine An ?_;obtain ⟨x5,ex5,h⟩:=Bs h;refine Z35 Sess.row ex5 trivial rfl rfl rfl ?_;refine Zu2 5 ?_;dsimp only [go_sem];refine An ?_;exact Z85 (res:=fun (r:(Int×Int))=>.tup [.iv r.1,.iv r.2]) ok81 h
def Z0g (F:Nat) (x1:Book) (x2:Int):Option (Int×Int):=
 (Zre F x1).bind fun x3=>
 ifb (!decide (x3=0)) (
 some (0,x3)) (
 (Zxf F x1 x2).bind fun x4=>
 ifb (decide (x4<0)) (
 some (0,174)) (
 (at_ x1.Sess x4).bind fun x5=>
 some (x5.State,0)))
theorem le_sess_Poll {F:Nat} {x1:Book} {x2:Int}:ole (Z0g F x1 x2) (Zzf x1 x2):=by
 unfold Z0g Zzf
 with_reducible repeat' first | exact Zr4 _ | assumption | intro _ | refine Zs4 ?_ ?_ | refine Zt4 ?_ ?_ | refine Zu4 ?_ | refine Zw4 ?_ | apply Zse | apply Zyf
set_option maxRecDepth 100000
set_option maxHeartbeats 4000000
@[go_sem] def e82:EC:=.seq (.reg [(Qa 6 (.mv (.c .nl)))]) (.seq (.reg [(Qm 8 0),(Qm 9 1),(Qm 10 2),(Qm 11 0),(Qa 12 (.len (.t 11))),(Qa 13 (.sl3 4 (.t 8) (some (.t 9)) (some (.t 10)) (some (.t 12))))]) (.seq (.seq (.reg [(Qm 14 1),(Qm 15 2),(Qa 16 (.bin .eql (.t 14) (.t 15)))]) (.ite (.t 16) (.seq (.reg [(Qm 17 0),(Qm 6 17)]) (.ret)) (.skip))) (.seq (.reg [(Qm 18 0),(Qa 19 (.len (.t 18))),(Qm 7 19)]) (.seq (.drw [(Qm 20 0),(Qm 21 1),(Qa 22 (.slice 4 (.t 20) none (some (.t 21)))),(Qm 23 0),(Qm 24 2),(Qa 25 (.slice 4 (.t 23) (some (.t 24)) none)),(Qa 26 (.app 76 4 48 (.t 22) (.t 25))),(Qm 0 26)] [[],[],[0,1],[],[],[3,4],[2,5],[6,6,0,1,2,3,4,5,6]] [[2,7],[2],[0,1,6],[5,7],[5],[3,4,6],[2,5,7],[0,3,6]]) (.seq (.reg [(Qm 27 0),(Qm 28 0),(Qa 29 (.len (.t 28))),(Qm 30 7),(Qa 31 (.slice 4 (.t 27) (some (.t 29)) (some (.t 30)))),(Qb (.clr [.iv 0,.nl,.iv 0,.iv 0] (.t 31)))]) (.seq (.reg [(Qm 32 0),(Qm 6 32)]) (.ret)))))))
theorem ok82:FnOK Try.prog 82 Try.f82 e82 [.t 6] 3 30:=⟨by kernel_rfl,⟨_,rfl,by kernel_rfl⟩,by kernel_rfl,by kernel_rfl⟩
set_option maxRecDepth 100000
set_option maxHeartbeats 4000000
@[go_sem] def e71:EC:=.seq (.reg [(Qx 3 49 2 0),(Qa 6 (.alloc 49 [.iv 0,.nl])),(Qi 7 0)]) (.seq (.reg [(Qe 11 2 3),(Qm 12 1),(Qa 13 (.call 81 [(.t 11),(.t 12)])),(Qm 10 13),(Qa 14 (.ext (.t 10) 0)),(Qa 15 (.ext (.t 10) 1)),(Qm 8 14),(Qm 9 15)]) (.seq (.seq (.reg [(Qm 16 9),(Qa 17 (.bin .eql (.t 16) (.c (.iv 0)))),(Qm 18 17),(Qg 19 18 true (.mv (.t 8))),(Qg 20 18 true (.mv (.t 2))),(Qg 21 18 true (.bin .neq (.t 19) (.t 20))),(Qp 22 18 21)]) (.ite (.t 22) (.reg [(Qi 9 175)]) (.skip))) (.seq (.seq (.reg [(Qm 23 9),(Qa 24 (.bin .neq (.t 23) (.c (.iv 0))))]) (.ite (.t 24) (.seq (.reg [(Qa 25 (.build [.iv 0,.nl] [])),(Qm 26 9),(Qs 2 6 25),(Qm 7 26)]) (.ret)) (.skip))) (.seq (.reg [(Qe 27 2 3),(Qa 28 (.call 68 [(.t 27)])),(Qs 2 3 28)]) (.seq (.drw [(Qf 29 1 3),(Ql 30 29),(Qe 31 2 3),(Qm 32 1),(Qa 33 (.call 83 [(.t 31),(.t 32)])),(Qe 34 2 3),(Qm 35 1),(Qa 36 (.call 83 [(.t 34),(.t 35)])),(Qv 37 36 1),(Qa 38 (.call 82 [(.t 30),(.t 33),(.t 37)])),(Qf 39 1 3),(Qs 1 39 38)] [[],[0],[],[],[2,3],[],[],[5,6,4],[7],[1,4,8,7],[0,1,2,3,4,5,6,7,8,9],[10,9,9,0,1,2,3,4,5,6,7,8,9]] [[1],[0,9],[4],[4],[2,3,9],[7],[7],[5,6,8],[7,9],[1,4,8,11],[11],[9,10]]) (.seq (.reg [(Qe 40 2 3),(Qs 2 6 40),(Qi 7 0)]) (.ret)))))))
theorem ok71:FnOK Try.prog 71 Try.f71 e71 [.c 6 (some 2),.t 7] 3 38:=⟨by kernel_rfl,⟨_,rfl,by kernel_rfl⟩,by kernel_rfl,by kernel_rfl⟩
noncomputable def Z1g:(List Sess)→Option (List Sess)
| x35=>
 some x35
noncomputable def Z2g (x2:(List Sess)):(Int×(List Sess))→Option ((Int×(List Sess)) ⊕ (List Sess))
| (x8,x9)=>
 ifb (decide (x8<(ln Sess.row x2))) (
 (at_ x9 x8).bind fun x10=>
 (Zi9 x10.Need).bind fun x11=>
 some (.inl (wr (x8+1),x9.set (Int.toNat (x8)) ((Sess.mk x10.ID x11 x10.State x10.Age))))) (
 Option.map Sum.inr (Z1g x9))
noncomputable def Z3g (x1:Book):Option (List Sess):=
 (Zte x1.Sess).bind fun x2=>
 loop (Z2g x2) (0,x2)
theorem Z4g (x1:Book) (r:(List Sess)) (h:Z3g x1=some r):FunT Try.prog 68 [.agg [.iv x1.Last,.sl 4 (List.map Sess.row x1.Sess)]] [none,none] [] (.agg [.iv x1.Last,.osl 0]) [none,none] [some ⟨76,4,List.map Sess.row r⟩]:=by
 refine Z86 ok68 rfl rfl rfl (by first | rfl | simp [go_sem]) fun w0 M0=>?_
 rw [Z3g] at h
 dsimp only [lun,List.cons_append,List.nil_append]
 refine Zu2 9 ?_;dsimp only [go_sem];refine An ?_;obtain ⟨x2,ex2,h⟩:=Bs h;refine Zn5 trivial (Zue x1.Sess _ ex2) (h:=?_);refine Zu2 11 ?_;dsimp only [go_sem];refine An ?_;refine Zy4 (fun (x35:(List Sess))=>(⟨(.any :: .ptr 2 0 :: .ptr 3 0::an 25 []),[none,none,some ⟨49,[.iv x1.Last,.osl 0]⟩,some ⟨49,[.iv 0,.nl]⟩],[some ⟨76,4,List.map Sess.row x35⟩]⟩:St)) Z1g r ?_ fun J1=>?_
 ·intro x35 h;rw [Z1g] at h;(try dsimp only);refine Zu2 5 ?_;dsimp only [go_sem];refine An ?_;obtain rfl:=Option.some.inj h;exact Z96 ok68 rfl (by simp [go_sem])
 ·refine Zu2 1 ?_;dsimp only [go_sem];refine An ?_;refine Zz4 h (fun ((x8,x9):(Int×(List Sess)))=>(⟨(.any :: .ptr 2 0 :: .ptr 3 0::an 7 (.iv (ln Sess.row x2) :: .iv x8::an 16 [])),[none,none,some ⟨49,[.iv x1.Last,.osl 0]⟩,some ⟨49,[.iv 0,.nl]⟩],[some ⟨76,4,List.map Sess.row x9⟩]⟩:St)) (by simp [go_sem]) (by rintro ⟨x8,x9⟩;first | rfl | simp [go_sem]) ?_;rintro n1 ⟨x8,x9⟩ y1 h hin1 hout1;rw [Z2g] at h;(try dsimp only);refine Zu2 5 ?_;dsimp only [go_sem];refine An ?_;refine Z05 h rfl (fun _ h=>?_) fun _ h=>?_
  ·refine Zu2 8 ?_;dsimp only [go_sem];refine An ?_;refine Zu3 (by kernel_rfl) fun all hall hs hnap haf=>?_;dsimp only [go_sem];refine Zt5 hall hs haf hnap 4 9 ?_;dsimp only [go_sem];refine An ?_;refine Z64 1 4 rfl ?_ ?_
   ·refine Za4 hall rfl trivial ?_;dsimp only [go_sem];refine Z54 4 rfl ?_;refine Za4 hall rfl trivial ?_;dsimp only [go_sem];obtain ⟨x10,ex10,h⟩:=Bs h;refine Z54 6 rfl ?_;refine Zb6 hall Sess.row ex10 rfl trivial rfl rfl rfl ?_;dsimp only [go_sem];refine Zt5 hall hs haf hnap 1 5 ?_;dsimp only [go_sem];refine An ?_;refine Z54 8 rfl ?_;refine Zc6 hall Sess.row ex10 rfl trivial rfl rfl rfl ?_;dsimp only [go_sem];refine Z54 9 rfl ?_;obtain ⟨x11,ex11,h⟩:=Bs h;refine Zb4 hall rfl trivial (Zk9 x10.Need _ ex11) (h:=?_)
    dsimp only [go_sem];refine Z54 10 rfl ?_;refine Zb6 hall Sess.row ex10 rfl trivial rfl rfl rfl ?_;dsimp only [go_sem];refine Zt5 hall hs haf hnap 1 1 ?_;dsimp only [go_sem];refine An ?_;refine Z54 12 rfl ?_;refine Ze6 hall [.sl 1 (List.map Zf5 x11)] Sess.row (y':=(Sess.mk x10.ID x11 x10.State x10.Age)) ex10 rfl trivial rfl rfl rfl (by first | exact Zl4 _ | simp [go_sem]) rfl rfl rfl rfl ?_;dsimp only [go_sem];refine Z44 rfl ?_ _;refine Zu2 5 ?_;dsimp only [go_sem];refine An ?_;exact Z95 h hin1
   ·refine Za4 hall rfl trivial ?_;dsimp only [go_sem];obtain ⟨x10,ex10,h⟩:=Bs h;refine Z64 1 6 rfl ?_ ?_
    ·refine Za4 hall rfl trivial ?_;dsimp only [go_sem];refine Z54 6 rfl ?_;refine Zb6 hall Sess.row ex10 rfl trivial rfl rfl rfl ?_;dsimp only [go_sem];refine Zt5 hall hs haf hnap 1 5 ?_;dsimp only [go_sem];refine An ?_;refine Z54 8 rfl ?_;refine Zc6 hall Sess.row ex10 rfl trivial rfl rfl rfl ?_;dsimp only [go_sem];refine Z54 9 rfl ?_;obtain ⟨x11,ex11,h⟩:=Bs h;refine Zb4 hall rfl trivial (Zk9 x10.Need _ ex11) (h:=?_);dsimp only [go_sem];refine Z54 10 rfl ?_;refine Zb6 hall Sess.row ex10 rfl trivial rfl rfl rfl ?_
     dsimp only [go_sem];refine Zt5 hall hs haf hnap 1 1 ?_;dsimp only [go_sem];refine An ?_;refine Z54 12 rfl ?_;refine Ze6 hall [.sl 1 (List.map Zf5 x11)] Sess.row (y':=(Sess.mk x10.ID x11 x10.State x10.Age)) ex10 rfl trivial rfl rfl rfl (by first | exact Zl4 _ | simp [go_sem]) rfl rfl rfl rfl ?_;dsimp only [go_sem];refine Z44 rfl ?_ _;refine Zu2 5 ?_;dsimp only [go_sem];refine An ?_;exact Z95 h hin1
    ·refine Zb6 hall Sess.row ex10 rfl trivial rfl rfl rfl ?_;dsimp only [go_sem];refine Zt5 hall hs haf hnap 1 6 ?_;dsimp only [go_sem];refine An ?_;refine Z64 1 8 rfl ?_ ?_
     ·refine Za4 hall rfl trivial ?_;dsimp only [go_sem];refine Z54 8 rfl ?_;refine Zc6 hall Sess.row ex10 rfl trivial rfl rfl rfl ?_;dsimp only [go_sem];refine Z54 9 rfl ?_;obtain ⟨x11,ex11,h⟩:=Bs h;refine Zb4 hall rfl trivial (Zk9 x10.Need _ ex11) (h:=?_);dsimp only [go_sem];refine Z54 10 rfl ?_;refine Zb6 hall Sess.row ex10 rfl trivial rfl rfl rfl ?_;dsimp only [go_sem];refine Zt5 hall hs haf hnap 1 1 ?_;dsimp only [go_sem];refine An ?_;refine Z54 12 rfl ?_
      refine Ze6 hall [.sl 1 (List.map Zf5 x11)] Sess.row (y':=(Sess.mk x10.ID x11 x10.State x10.Age)) ex10 rfl trivial rfl rfl rfl (by first | exact Zl4 _ | simp [go_sem]) rfl rfl rfl rfl ?_;dsimp only [go_sem];refine Z44 rfl ?_ _;refine Zu2 5 ?_;dsimp only [go_sem];refine An ?_;exact Z95 h hin1
     ·refine Zc6 hall Sess.row ex10 rfl trivial rfl rfl rfl ?_;dsimp only [go_sem];obtain ⟨x11,ex11,h⟩:=Bs h;refine Z64 1 9 rfl ?_ ?_
      ·refine Za4 hall rfl trivial ?_;dsimp only [go_sem];refine Z54 9 rfl ?_;refine Zb4 hall rfl trivial (Zk9 x10.Need _ ex11) (h:=?_);dsimp only [go_sem];refine Z54 10 rfl ?_;refine Zb6 hall Sess.row ex10 rfl trivial rfl rfl rfl ?_;dsimp only [go_sem];refine Zt5 hall hs haf hnap 1 1 ?_;dsimp only [go_sem];refine An ?_;refine Z54 12 rfl ?_;refine Ze6 hall [.sl 1 (List.map Zf5 x11)] Sess.row (y':=(Sess.mk x10.ID x11 x10.State x10.Age)) ex10 rfl trivial rfl rfl rfl (by first | exact Zl4 _ | simp [go_sem]) rfl rfl rfl rfl ?_
       dsimp only [go_sem];refine Z44 rfl ?_ _;refine Zu2 5 ?_;dsimp only [go_sem];refine An ?_;exact Z95 h hin1
      ·refine Zb4 hall rfl trivial (Zk9 x10.Need _ ex11) (h:=?_);dsimp only [go_sem];refine Z54 1 rfl ?_;refine Za4 hall rfl trivial ?_;dsimp only [go_sem];refine Z54 10 rfl ?_;refine Zb6 hall Sess.row ex10 rfl trivial rfl rfl rfl ?_;dsimp only [go_sem];refine Zt5 hall hs haf hnap 1 1 ?_;dsimp only [go_sem];refine An ?_;refine Z54 12 rfl ?_;refine Ze6 hall [.sl 1 (List.map Zf5 x11)] Sess.row (y':=(Sess.mk x10.ID x11 x10.State x10.Age)) ex10 rfl trivial rfl rfl rfl (by first | exact Zl4 _ | simp [go_sem]) rfl rfl rfl rfl ?_
       dsimp only [go_sem];refine Z44 rfl ?_ _;refine Zu2 5 ?_;dsimp only [go_sem];refine An ?_;exact Z95 h hin1
  ·refine Zu2 1 ?_;dsimp only [go_sem];refine An ?_;exact Za5 J1 (s:=x9) (Zx4 h hout1)
def Z5g (_F:Nat):(List Sess)→Option (List Sess)
| x35=>
 some x35
theorem Z6g {F:Nat}:∀s,ole (Z5g F s) (Z1g s):=by
 intro x35
 unfold Z5g Z1g
 try dsimp only
 with_reducible repeat' first | exact Zr4 _ | assumption | intro _ | refine Zs4 ?_ ?_ | refine Zt4 ?_ ?_ | refine Zu4 ?_ | refine Zw4 ?_
def Z7g (F:Nat) (x2:(List Sess)):(Int×(List Sess))→Option ((Int×(List Sess)) ⊕ (List Sess))
| (x8,x9)=>
 ifb (decide (x8<(ln Sess.row x2))) (
 (at_ x9 x8).bind fun x10=>
 (Zl9 F x10.Need).bind fun x11=>
 some (.inl (wr (x8+1),x9.set (Int.toNat (x8)) ((Sess.mk x10.ID x11 x10.State x10.Age))))) (
 Option.map Sum.inr (Z5g F x9))
theorem Z8g {F:Nat} {x2:(List Sess)}:∀s,ole (Z7g F x2 s) (Z2g x2 s):=by
 rintro ⟨x8,x9⟩
 unfold Z7g Z2g
 try dsimp only
 with_reducible repeat' first | exact Zr4 _ | assumption | intro _ | refine Zs4 ?_ ?_ | refine Zt4 ?_ ?_ | refine Zu4 ?_ | refine Zw4 ?_ | apply Z6g | apply Zm9
def Z9g (F:Nat) (x1:Book):Option (List Sess):=
 (Zve F x1.Sess).bind fun x2=>
 Zv4 F (Z7g F x2) (0,x2)
theorem Zag {F:Nat} {x1:Book}:ole (Z9g F x1) (Z3g x1):=by
 unfold Z9g Z3g
 with_reducible repeat' first | exact Zr4 _ | assumption | intro _ | refine Zs4 ?_ ?_ | refine Zt4 ?_ ?_ | refine Zu4 ?_ | refine Zw4 ?_ | apply Z6g | apply Zm9 | apply Z8g | apply Zwe
noncomputable def Zbg (x1:Int) (x2:Int) (x3:(List Sess)):(List Sess)→Option (List Sess)
| x11=>
 (vw_ (ln Sess.row x11) ((((Int.toNat (x1)-Int.toNat (0))+(Int.toNat (ln Sess.row x3)-Int.toNat (x2)):Nat):Int)) (ln Sess.row x3)).bind fun _=>
 (clr_ x11 ((Int.toNat ((((Int.toNat (x1)-Int.toNat (0))+(Int.toNat (ln Sess.row x3)-Int.toNat (x2)):Nat):Int)))) (Int.toNat (ln Sess.row x3)-Int.toNat ((((Int.toNat (x1)-Int.toNat (0))+(Int.toNat (ln Sess.row x3)-Int.toNat (x2)):Nat):Int))) ((Sess.mk 0 (([]:(List Int))) 0 0))).bind fun x13=>
 (cut_ x13 ((Int.toNat (x1)-Int.toNat (0))+(Int.toNat (ln Sess.row x3)-Int.toNat (x2)))).bind fun x14=>
 some x14
noncomputable def Zcg (x1:Int) (x2:Int) (x3:(List Sess)):Option (List Sess):=
 (vw_ (ln Sess.row x3) x1 x2).bind fun _=>
 (vw_ (ln Sess.row x3) x2 (ln Sess.row x3)).bind fun _=>
 ifb (decide (x1=x2)) (
 some x3) (
 (vw_ (ln Sess.row x3) 0 x1).bind fun _=>
 (vw_ (ln Sess.row x3) x2 (ln Sess.row x3)).bind fun _=>
 (mvv_ x3 (Int.toNat (x1)-Int.toNat (0)) ((Int.toNat (x2))) (Int.toNat (ln Sess.row x3)-Int.toNat (x2))).bind fun x10=>
 (Zbg x1 x2 x3) x10)
theorem Zdg (x1:Int) (x2:Int) (x3:(List Sess)) (r:(List Sess)) (h:Zcg x1 x2 x3=some r):FunT Try.prog 82 [.osl 0,.iv x1,.iv x2] [none,none] [some ⟨76,4,List.map Sess.row x3⟩] (.osl 1) [none,none] [none,some ⟨76,4,List.map Sess.row r⟩]:=by
 refine Z86 ok82 rfl rfl rfl (by first | rfl | simp [go_sem]) fun w0 M0=>?_
 rw [Zcg] at h
 dsimp only [lun,List.cons_append,List.nil_append]
 refine Zu2 11 ?_;dsimp only [go_sem];refine An ?_;obtain ⟨x4,ex4,h⟩:=Bs h;obtain ⟨x5,ex5,h⟩:=Bs h;refine V_sl3M Sess.row ex4 ex5 trivial rfl rfl rfl rfl rfl ?_;refine Zu2 8 ?_;dsimp only [go_sem];refine An ?_;refine Z05 h rfl (fun _ h=>?_) fun _ h=>?_
 ·refine Zu2 5 ?_;dsimp only [go_sem];refine An ?_;refine V_new 76 4 rfl ?_;dsimp only [go_sem];refine Zg4 0 1 rfl rfl rfl ?_;dsimp only [go_sem];obtain rfl:=Option.some.inj h;exact Z96 ok82 rfl (by simp [go_sem])
 ·refine Zu2 8 ?_;dsimp only [go_sem];refine An ?_;refine Zy4 (fun (x11:(List Sess))=>(⟨(.ocs 0 0 4 ((Int.toNat (x1)-Int.toNat (0))+(Int.toNat (ln Sess.row x3)-Int.toNat (x2)))::an 6 (.iv (ln Sess.row x3)::an 25 [])),[none,none],[some ⟨76,4,List.map Sess.row x11⟩]⟩:St)) (Zbg x1 x2 x3) r ?_ fun J1=>?_
  ·intro x11 h;rw [Zbg] at h;(try dsimp only);refine Zu2 6 ?_;dsimp only [go_sem];refine An ?_;obtain ⟨x12,ex12,h⟩:=Bs h;refine V_viewVM Sess.row ex12 trivial rfl rfl rfl rfl ?_;obtain ⟨x13,ex13,h⟩:=Bs h;refine V_clrM Sess.row ex13 trivial rfl rfl (by first | exact Zl4 _ | simp [go_sem]) (by first | rfl | simp [go_sem]) rfl rfl ?_;refine Zu2 6 ?_;dsimp only [go_sem];refine An ?_;obtain ⟨x14,ex14,h⟩:=Bs h
   refine V_cutVM 6 0 4 ((Int.toNat (x1)-Int.toNat (0))+(Int.toNat (ln Sess.row x3)-Int.toNat (x2))) Sess.row ex14 rfl rfl ?_;dsimp only [go_sem];obtain rfl:=Option.some.inj h;exact Z96 ok82 rfl (by simp [go_sem])
  ·refine Zu3 (by kernel_rfl) fun all hall hs hnap haf=>?_;dsimp only [go_sem];refine Zt5 hall hs haf hnap 4 4 ?_;dsimp only [go_sem];refine An ?_;obtain ⟨x6,ex6,h⟩:=Bs h;obtain ⟨x7,ex7,h⟩:=Bs h;refine Z64 2 5 rfl ?_ ?_
   ·refine Z07 Sess.row ex6 hall rfl trivial rfl rfl rfl rfl ?_;dsimp only [go_sem];refine Z54 5 rfl ?_;refine Z07 Sess.row ex7 hall rfl trivial rfl rfl rfl rfl ?_;dsimp only [go_sem];refine Z54 6 rfl ?_;obtain ⟨x10,ex10,h⟩:=Bs h;refine GO_appVM Sess.row ex10 hall rfl trivial rfl rfl rfl ?_;dsimp only [go_sem];refine Zt5 hall hs haf hnap 1 0 ?_;dsimp only [go_sem];refine An ?_;refine Z44 rfl ?_ _;exact Za5 J1 (s:=x10) h
   ·refine Z07 Sess.row ex7 hall rfl trivial rfl rfl rfl rfl ?_;dsimp only [go_sem];refine Z54 2 rfl ?_;refine Z07 Sess.row ex6 hall rfl trivial rfl rfl rfl rfl ?_;dsimp only [go_sem];refine Z54 6 rfl ?_;obtain ⟨x10,ex10,h⟩:=Bs h;refine GO_appVM Sess.row ex10 hall rfl trivial rfl rfl rfl ?_;dsimp only [go_sem];refine Zt5 hall hs haf hnap 1 0 ?_;dsimp only [go_sem];refine An ?_;refine Z44 rfl ?_ _;exact Za5 J1 (s:=x10) h
def Zeg (_F:Nat) (x1:Int) (x2:Int) (x3:(List Sess)):(List Sess)→Option (List Sess)
| x11=>
 (vw_ (ln Sess.row x11) ((((Int.toNat (x1)-Int.toNat (0))+(Int.toNat (ln Sess.row x3)-Int.toNat (x2)):Nat):Int)) (ln Sess.row x3)).bind fun _=>
 (clr_ x11 ((Int.toNat ((((Int.toNat (x1)-Int.toNat (0))+(Int.toNat (ln Sess.row x3)-Int.toNat (x2)):Nat):Int)))) (Int.toNat (ln Sess.row x3)-Int.toNat ((((Int.toNat (x1)-Int.toNat (0))+(Int.toNat (ln Sess.row x3)-Int.toNat (x2)):Nat):Int))) ((Sess.mk 0 (([]:(List Int))) 0 0))).bind fun x13=>
 (cut_ x13 ((Int.toNat (x1)-Int.toNat (0))+(Int.toNat (ln Sess.row x3)-Int.toNat (x2)))).bind fun x14=>
 some x14
theorem Zfg {F:Nat} {x1:Int} {x2:Int} {x3:(List Sess)}:∀s,ole (Zeg F x1 x2 x3 s) (Zbg x1 x2 x3 s):=by
 intro x11
 unfold Zeg Zbg
 try dsimp only
 with_reducible repeat' first | exact Zr4 _ | assumption | intro _ | refine Zs4 ?_ ?_ | refine Zt4 ?_ ?_ | refine Zu4 ?_ | refine Zw4 ?_
def Zgg (F:Nat) (x1:Int) (x2:Int) (x3:(List Sess)):Option (List Sess):=
 (vw_ (ln Sess.row x3) x1 x2).bind fun _=>
 (vw_ (ln Sess.row x3) x2 (ln Sess.row x3)).bind fun _=>
 ifb (decide (x1=x2)) (
 some x3) (
 (vw_ (ln Sess.row x3) 0 x1).bind fun _=>
 (vw_ (ln Sess.row x3) x2 (ln Sess.row x3)).bind fun _=>
 (mvv_ x3 (Int.toNat (x1)-Int.toNat (0)) ((Int.toNat (x2))) (Int.toNat (ln Sess.row x3)-Int.toNat (x2))).bind fun x10=>
 (Zeg F x1 x2 x3) x10)
theorem Zhg {F:Nat} {x1:Int} {x2:Int} {x3:(List Sess)}:ole (Zgg F x1 x2 x3) (Zcg x1 x2 x3):=by
 unfold Zgg Zcg
 with_reducible repeat' first | exact Zr4 _ | assumption | intro _ | refine Zs4 ?_ ?_ | refine Zt4 ?_ ?_ | refine Zu4 ?_ | refine Zw4 ?_ | apply Zfg
noncomputable def Zig (x1:Book) (x2:Int):Int→Option (Book×Int)
| x6=>
 ifb (!decide (x6=0)) (
 some ((Book.mk 0 (([]:(List Sess)))),x6)) (
 (Z3g x1).bind fun x7=>
 (Zvf ((Book.mk x1.Last x7)) x2).bind fun x8=>
 (Zcg x8 (wr (x8+1)) x7).bind fun x11=>
 some ((Book.mk x1.Last x11),0))
noncomputable def Zjg (x1:Book) (x2:Int) (x4:(Int×Int)):Bool→Option (Book×Int)
| x5=>
 ifb x5 (
 (Zig x1 x2) 175) (
 (Zig x1 x2) x4.2)
noncomputable def Zkg (x1:Book) (x2:Int) (x3:Int):Option (Book×Int):=
 (Zzf x1 x2).bind fun x4=>
 ifb (decide (x4.2=0)) (
 (Zjg x1 x2 x4) (!decide (x4.1=x3))) (
 (Zjg x1 x2 x4) false)
theorem Zlg (x1:Book) (x2:Int) (x3:Int) (r:(Book×Int)) (h:Zkg x1 x2 x3=some r):Zz2 Try.prog 71 [.agg (Book.row x1),.iv x2,.iv x3] (.tup [.agg (Book.row r.1),.iv r.2]):=by
 refine Z33 ok71 rfl rfl fun w0 H0=>?_
 rw [Zkg] at h
 refine Zu2 10 ?_;dsimp only [go_sem];refine An ?_;obtain ⟨x4,ex4,h⟩:=Bs h;refine Z83 trivial (k_sess_Poll x1 x2 _ ex4) (h:=?_);refine Zu2 12 ?_;dsimp only [go_sem];refine An ?_;refine Zy4 (fun (x5:Bool)=>(⟨(.any :: .iv x2 :: .any :: .ptr 0 0 :: .any :: .any :: .ptr 1 0 :: .any :: .any :: .iv x4.2::an 12 (.bv x5::an 18 [])),[some ⟨49,[.iv x1.Last,.sl 4 (List.map Sess.row x1.Sess)]⟩,some ⟨49,[.iv 0,.nl]⟩],[]⟩:St)) (Zjg x1 x2 x4) r ?_ fun J1=>?_
 ·intro x5 h;rw [Zjg] at h;(try dsimp only);refine Zy4 (fun (x6:Int)=>(⟨(.any :: .iv x2 :: .any :: .ptr 0 0 :: .any :: .any :: .ptr 1 0 :: .any :: .any :: .iv x6::an 31 []),[some ⟨49,[.iv x1.Last,.sl 4 (List.map Sess.row x1.Sess)]⟩,some ⟨49,[.iv 0,.nl]⟩],[]⟩:St)) (Zig x1 x2) r ?_ fun J2=>?_
  ·intro x6 h;rw [Zig] at h;(try dsimp only);refine Zu2 6 ?_;dsimp only [go_sem];refine An ?_;refine Z05 h rfl (fun _ h=>?_) fun _ h=>?_
   ·refine Zu2 7 ?_;dsimp only [go_sem];refine An ?_;exact Z85 (res:=fun (r:(Book×Int))=>.tup [.agg (Book.row r.1),.iv r.2]) ok71 h
   ·refine Zu2 4 ?_;dsimp only [go_sem];refine An ?_;obtain ⟨x7,ex7,h⟩:=Bs h;refine Za6 [false,false] [] trivial (Z4g x1 _ ex7) (h:=?_);dsimp only [go_sem];refine Zu2 3 ?_;dsimp only [go_sem];refine An ?_;refine Zu3 (by kernel_rfl) fun all hall hs hnap haf=>?_;dsimp only [go_sem];refine Zt5 hall hs haf hnap 3 9 ?_;dsimp only [go_sem];refine An ?_;refine Z74 1 2 5 rfl ?_ ?_ ?_
    ·refine Za4 hall rfl trivial ?_;dsimp only [go_sem];refine Z64 2 5 rfl ?_ ?_
     ·refine Za4 hall rfl trivial ?_;dsimp only [go_sem];obtain ⟨x8,ex8,h⟩:=Bs h;refine Z64 4 5 rfl ?_ ?_
      ·refine Zd5 hall rfl trivial ((Zb5.refl _).slice 0 rfl) (Zwf ((Book.mk x1.Last x7)) x2 _ ex8) (h:=?_);dsimp only [go_sem];refine Z54 5 rfl ?_;refine Za4 hall rfl trivial ?_;dsimp only [go_sem];refine Z54 7 rfl ?_;refine Zd5 hall rfl trivial ((Zb5.refl _).slice 0 rfl) (Zwf ((Book.mk x1.Last x7)) x2 _ ex8) (h:=?_);dsimp only [go_sem];refine Zt5 hall hs haf hnap 1 3 ?_;dsimp only [go_sem];refine An ?_;refine Z54 9 rfl ?_;obtain ⟨x11,ex11,h⟩:=Bs h
       refine Zy6 hall [false,false] [true] rfl trivial (Zdg x8 (wr (x8+1)) x7 _ ex11) (h:=?_);dsimp only [go_sem];refine Zt5 hall hs haf hnap 1 1 ?_;dsimp only [go_sem];refine An ?_;refine Z54 11 rfl ?_;refine Za4 hall rfl trivial ?_;dsimp only [go_sem];refine Z44 rfl ?_ _;refine Zu2 6 ?_;dsimp only [go_sem];refine An ?_;refine Zm3 1 rfl ?_;dsimp only [go_sem];exact Z85 (res:=fun (r:(Book×Int))=>.tup [.agg (Book.row r.1),.iv r.2]) ok71 h
      ·refine Za4 hall rfl trivial ?_;dsimp only [go_sem];refine Z54 4 rfl ?_;refine Zd5 hall rfl trivial ((Zb5.refl _).slice 0 rfl) (Zwf ((Book.mk x1.Last x7)) x2 _ ex8) (h:=?_);dsimp only [go_sem];refine Z54 7 rfl ?_;refine Zd5 hall rfl trivial ((Zb5.refl _).slice 0 rfl) (Zwf ((Book.mk x1.Last x7)) x2 _ ex8) (h:=?_);dsimp only [go_sem];refine Zt5 hall hs haf hnap 1 3 ?_;dsimp only [go_sem];refine An ?_;refine Z54 9 rfl ?_;obtain ⟨x11,ex11,h⟩:=Bs h
       refine Zy6 hall [false,false] [true] rfl trivial (Zdg x8 (wr (x8+1)) x7 _ ex11) (h:=?_);dsimp only [go_sem];refine Zt5 hall hs haf hnap 1 1 ?_;dsimp only [go_sem];refine An ?_;refine Z54 11 rfl ?_;refine Za4 hall rfl trivial ?_;dsimp only [go_sem];refine Z44 rfl ?_ _;refine Zu2 6 ?_;dsimp only [go_sem];refine An ?_;refine Zm3 1 rfl ?_;dsimp only [go_sem];exact Z85 (res:=fun (r:(Book×Int))=>.tup [.agg (Book.row r.1),.iv r.2]) ok71 h
     ·refine Za4 hall rfl trivial ?_;dsimp only [go_sem];refine Z54 2 rfl ?_;refine Za4 hall rfl trivial ?_;dsimp only [go_sem];refine Z54 4 rfl ?_;obtain ⟨x8,ex8,h⟩:=Bs h;refine Zd5 hall rfl trivial ((Zb5.refl _).slice 0 rfl) (Zwf ((Book.mk x1.Last x7)) x2 _ ex8) (h:=?_);dsimp only [go_sem];refine Z54 7 rfl ?_;refine Zd5 hall rfl trivial ((Zb5.refl _).slice 0 rfl) (Zwf ((Book.mk x1.Last x7)) x2 _ ex8) (h:=?_);dsimp only [go_sem];refine Zt5 hall hs haf hnap 1 3 ?_;dsimp only [go_sem];refine An ?_;refine Z54 9 rfl ?_
      obtain ⟨x10,ex10,h⟩:=Bs h;refine Zy6 hall [false,false] [true] rfl trivial (Zdg x8 (wr (x8+1)) x7 _ ex10) (h:=?_);dsimp only [go_sem];refine Zt5 hall hs haf hnap 1 1 ?_;dsimp only [go_sem];refine An ?_;refine Z54 11 rfl ?_;refine Za4 hall rfl trivial ?_;dsimp only [go_sem];refine Z44 rfl ?_ _;refine Zu2 6 ?_;dsimp only [go_sem];refine An ?_;refine Zm3 1 rfl ?_;dsimp only [go_sem];exact Z85 (res:=fun (r:(Book×Int))=>.tup [.agg (Book.row r.1),.iv r.2]) ok71 h
    ·refine Za4 hall rfl trivial ?_;dsimp only [go_sem];obtain ⟨x8,ex8,h⟩:=Bs h;refine Z74 1 4 5 rfl ?_ ?_ ?_
     ·refine Za4 hall rfl trivial ?_;dsimp only [go_sem];refine Z64 4 5 rfl ?_ ?_
      ·refine Zd5 hall rfl trivial ((Zb5.refl _).slice 0 rfl) (Zwf ((Book.mk x1.Last x7)) x2 _ ex8) (h:=?_);dsimp only [go_sem];refine Z54 5 rfl ?_;refine Za4 hall rfl trivial ?_;dsimp only [go_sem];refine Z54 7 rfl ?_;refine Zd5 hall rfl trivial ((Zb5.refl _).slice 0 rfl) (Zwf ((Book.mk x1.Last x7)) x2 _ ex8) (h:=?_);dsimp only [go_sem];refine Zt5 hall hs haf hnap 1 3 ?_;dsimp only [go_sem];refine An ?_;refine Z54 9 rfl ?_;obtain ⟨x11,ex11,h⟩:=Bs h
       refine Zy6 hall [false,false] [true] rfl trivial (Zdg x8 (wr (x8+1)) x7 _ ex11) (h:=?_);dsimp only [go_sem];refine Zt5 hall hs haf hnap 1 1 ?_;dsimp only [go_sem];refine An ?_;refine Z54 11 rfl ?_;refine Za4 hall rfl trivial ?_;dsimp only [go_sem];refine Z44 rfl ?_ _;refine Zu2 6 ?_;dsimp only [go_sem];refine An ?_;refine Zm3 1 rfl ?_;dsimp only [go_sem];exact Z85 (res:=fun (r:(Book×Int))=>.tup [.agg (Book.row r.1),.iv r.2]) ok71 h
      ·refine Za4 hall rfl trivial ?_;dsimp only [go_sem];refine Z54 4 rfl ?_;refine Zd5 hall rfl trivial ((Zb5.refl _).slice 0 rfl) (Zwf ((Book.mk x1.Last x7)) x2 _ ex8) (h:=?_);dsimp only [go_sem];refine Z54 7 rfl ?_;refine Zd5 hall rfl trivial ((Zb5.refl _).slice 0 rfl) (Zwf ((Book.mk x1.Last x7)) x2 _ ex8) (h:=?_);dsimp only [go_sem];refine Zt5 hall hs haf hnap 1 3 ?_;dsimp only [go_sem];refine An ?_;refine Z54 9 rfl ?_;obtain ⟨x11,ex11,h⟩:=Bs h
       refine Zy6 hall [false,false] [true] rfl trivial (Zdg x8 (wr (x8+1)) x7 _ ex11) (h:=?_);dsimp only [go_sem];refine Zt5 hall hs haf hnap 1 1 ?_;dsimp only [go_sem];refine An ?_;refine Z54 11 rfl ?_;refine Za4 hall rfl trivial ?_;dsimp only [go_sem];refine Z44 rfl ?_ _;refine Zu2 6 ?_;dsimp only [go_sem];refine An ?_;refine Zm3 1 rfl ?_;dsimp only [go_sem];exact Z85 (res:=fun (r:(Book×Int))=>.tup [.agg (Book.row r.1),.iv r.2]) ok71 h
     ·refine Zd5 hall rfl trivial ((Zb5.refl _).slice 0 rfl) (Zwf ((Book.mk x1.Last x7)) x2 _ ex8) (h:=?_);dsimp only [go_sem];refine Z64 1 5 rfl ?_ ?_
      ·refine Za4 hall rfl trivial ?_;dsimp only [go_sem];refine Z54 5 rfl ?_;refine Za4 hall rfl trivial ?_;dsimp only [go_sem];refine Z54 7 rfl ?_;refine Zd5 hall rfl trivial ((Zb5.refl _).slice 0 rfl) (Zwf ((Book.mk x1.Last x7)) x2 _ ex8) (h:=?_);dsimp only [go_sem];refine Zt5 hall hs haf hnap 1 3 ?_;dsimp only [go_sem];refine An ?_;refine Z54 9 rfl ?_;obtain ⟨x11,ex11,h⟩:=Bs h;refine Zy6 hall [false,false] [true] rfl trivial (Zdg x8 (wr (x8+1)) x7 _ ex11) (h:=?_);dsimp only [go_sem]
       refine Zt5 hall hs haf hnap 1 1 ?_;dsimp only [go_sem];refine An ?_;refine Z54 11 rfl ?_;refine Za4 hall rfl trivial ?_;dsimp only [go_sem];refine Z44 rfl ?_ _;refine Zu2 6 ?_;dsimp only [go_sem];refine An ?_;refine Zm3 1 rfl ?_;dsimp only [go_sem];exact Z85 (res:=fun (r:(Book×Int))=>.tup [.agg (Book.row r.1),.iv r.2]) ok71 h
      ·refine Za4 hall rfl trivial ?_;dsimp only [go_sem];refine Z64 1 7 rfl ?_ ?_
       ·refine Za4 hall rfl trivial ?_;dsimp only [go_sem];refine Z54 7 rfl ?_;refine Zd5 hall rfl trivial ((Zb5.refl _).slice 0 rfl) (Zwf ((Book.mk x1.Last x7)) x2 _ ex8) (h:=?_);dsimp only [go_sem];refine Zt5 hall hs haf hnap 1 3 ?_;dsimp only [go_sem];refine An ?_;refine Z54 9 rfl ?_;obtain ⟨x11,ex11,h⟩:=Bs h;refine Zy6 hall [false,false] [true] rfl trivial (Zdg x8 (wr (x8+1)) x7 _ ex11) (h:=?_);dsimp only [go_sem];refine Zt5 hall hs haf hnap 1 1 ?_;dsimp only [go_sem];refine An ?_
        refine Z54 11 rfl ?_;refine Za4 hall rfl trivial ?_;dsimp only [go_sem];refine Z44 rfl ?_ _;refine Zu2 6 ?_;dsimp only [go_sem];refine An ?_;refine Zm3 1 rfl ?_;dsimp only [go_sem];exact Z85 (res:=fun (r:(Book×Int))=>.tup [.agg (Book.row r.1),.iv r.2]) ok71 h
       ·refine Zd5 hall rfl trivial ((Zb5.refl _).slice 0 rfl) (Zwf ((Book.mk x1.Last x7)) x2 _ ex8) (h:=?_);dsimp only [go_sem];refine Zt5 hall hs haf hnap 1 4 ?_;dsimp only [go_sem];refine An ?_;refine Z54 1 rfl ?_;refine Za4 hall rfl trivial ?_;dsimp only [go_sem];refine Z54 9 rfl ?_;obtain ⟨x11,ex11,h⟩:=Bs h;refine Zy6 hall [false,false] [true] rfl trivial (Zdg x8 (wr (x8+1)) x7 _ ex11) (h:=?_);dsimp only [go_sem];refine Zt5 hall hs haf hnap 1 1 ?_;dsimp only [go_sem];refine An ?_
        refine Z54 11 rfl ?_;refine Za4 hall rfl trivial ?_;dsimp only [go_sem];refine Z44 rfl ?_ _;refine Zu2 6 ?_;dsimp only [go_sem];refine An ?_;refine Zm3 1 rfl ?_;dsimp only [go_sem];exact Z85 (res:=fun (r:(Book×Int))=>.tup [.agg (Book.row r.1),.iv r.2]) ok71 h
     ·refine Za4 hall rfl trivial ?_;dsimp only [go_sem];refine Z64 1 4 rfl ?_ ?_
      ·refine Za4 hall rfl trivial ?_;dsimp only [go_sem];refine Z54 4 rfl ?_;refine Zd5 hall rfl trivial ((Zb5.refl _).slice 0 rfl) (Zwf ((Book.mk x1.Last x7)) x2 _ ex8) (h:=?_);dsimp only [go_sem];refine Z54 7 rfl ?_;refine Zd5 hall rfl trivial ((Zb5.refl _).slice 0 rfl) (Zwf ((Book.mk x1.Last x7)) x2 _ ex8) (h:=?_);dsimp only [go_sem];refine Zt5 hall hs haf hnap 1 3 ?_;dsimp only [go_sem];refine An ?_;refine Z54 9 rfl ?_;obtain ⟨x11,ex11,h⟩:=Bs h
       refine Zy6 hall [false,false] [true] rfl trivial (Zdg x8 (wr (x8+1)) x7 _ ex11) (h:=?_);dsimp only [go_sem];refine Zt5 hall hs haf hnap 1 1 ?_;dsimp only [go_sem];refine An ?_;refine Z54 11 rfl ?_;refine Za4 hall rfl trivial ?_;dsimp only [go_sem];refine Z44 rfl ?_ _;refine Zu2 6 ?_;dsimp only [go_sem];refine An ?_;refine Zm3 1 rfl ?_;dsimp only [go_sem];exact Z85 (res:=fun (r:(Book×Int))=>.tup [.agg (Book.row r.1),.iv r.2]) ok71 h
      ·refine Zd5 hall rfl trivial ((Zb5.refl _).slice 0 rfl) (Zwf ((Book.mk x1.Last x7)) x2 _ ex8) (h:=?_);dsimp only [go_sem];refine Z64 1 7 rfl ?_ ?_
       ·refine Za4 hall rfl trivial ?_;dsimp only [go_sem];refine Z54 7 rfl ?_;refine Zd5 hall rfl trivial ((Zb5.refl _).slice 0 rfl) (Zwf ((Book.mk x1.Last x7)) x2 _ ex8) (h:=?_);dsimp only [go_sem];refine Zt5 hall hs haf hnap 1 3 ?_;dsimp only [go_sem];refine An ?_;refine Z54 9 rfl ?_;obtain ⟨x11,ex11,h⟩:=Bs h;refine Zy6 hall [false,false] [true] rfl trivial (Zdg x8 (wr (x8+1)) x7 _ ex11) (h:=?_);dsimp only [go_sem];refine Zt5 hall hs haf hnap 1 1 ?_;dsimp only [go_sem];refine An ?_
        refine Z54 11 rfl ?_;refine Za4 hall rfl trivial ?_;dsimp only [go_sem];refine Z44 rfl ?_ _;refine Zu2 6 ?_;dsimp only [go_sem];refine An ?_;refine Zm3 1 rfl ?_;dsimp only [go_sem];exact Z85 (res:=fun (r:(Book×Int))=>.tup [.agg (Book.row r.1),.iv r.2]) ok71 h
       ·refine Zd5 hall rfl trivial ((Zb5.refl _).slice 0 rfl) (Zwf ((Book.mk x1.Last x7)) x2 _ ex8) (h:=?_);dsimp only [go_sem];refine Zt5 hall hs haf hnap 1 4 ?_;dsimp only [go_sem];refine An ?_;refine Z54 1 rfl ?_;refine Za4 hall rfl trivial ?_;dsimp only [go_sem];refine Z54 9 rfl ?_;obtain ⟨x11,ex11,h⟩:=Bs h;refine Zy6 hall [false,false] [true] rfl trivial (Zdg x8 (wr (x8+1)) x7 _ ex11) (h:=?_);dsimp only [go_sem];refine Zt5 hall hs haf hnap 1 1 ?_;dsimp only [go_sem];refine An ?_
        refine Z54 11 rfl ?_;refine Za4 hall rfl trivial ?_;dsimp only [go_sem];refine Z44 rfl ?_ _;refine Zu2 6 ?_;dsimp only [go_sem];refine An ?_;refine Zm3 1 rfl ?_;dsimp only [go_sem];exact Z85 (res:=fun (r:(Book×Int))=>.tup [.agg (Book.row r.1),.iv r.2]) ok71 h
    ·refine Za4 hall rfl trivial ?_;dsimp only [go_sem];refine Z64 1 2 rfl ?_ ?_
     ·refine Za4 hall rfl trivial ?_;dsimp only [go_sem];refine Z54 2 rfl ?_;refine Za4 hall rfl trivial ?_;dsimp only [go_sem];refine Z54 4 rfl ?_;obtain ⟨x8,ex8,h⟩:=Bs h;refine Zd5 hall rfl trivial ((Zb5.refl _).slice 0 rfl) (Zwf ((Book.mk x1.Last x7)) x2 _ ex8) (h:=?_);dsimp only [go_sem];refine Z54 7 rfl ?_;refine Zd5 hall rfl trivial ((Zb5.refl _).slice 0 rfl) (Zwf ((Book.mk x1.Last x7)) x2 _ ex8) (h:=?_);dsimp only [go_sem];refine Zt5 hall hs haf hnap 1 3 ?_;dsimp only [go_sem];refine An ?_;refine Z54 9 rfl ?_
      obtain ⟨x10,ex10,h⟩:=Bs h;refine Zy6 hall [false,false] [true] rfl trivial (Zdg x8 (wr (x8+1)) x7 _ ex10) (h:=?_);dsimp only [go_sem];refine Zt5 hall hs haf hnap 1 1 ?_;dsimp only [go_sem];refine An ?_;refine Z54 11 rfl ?_;refine Za4 hall rfl trivial ?_;dsimp only [go_sem];refine Z44 rfl ?_ _;refine Zu2 6 ?_;dsimp only [go_sem];refine An ?_;refine Zm3 1 rfl ?_;dsimp only [go_sem];exact Z85 (res:=fun (r:(Book×Int))=>.tup [.agg (Book.row r.1),.iv r.2]) ok71 h
     ·refine Za4 hall rfl trivial ?_;dsimp only [go_sem];obtain ⟨x8,ex8,h⟩:=Bs h;refine Z64 1 4 rfl ?_ ?_
      ·refine Za4 hall rfl trivial ?_;dsimp only [go_sem];refine Z54 4 rfl ?_;refine Zd5 hall rfl trivial ((Zb5.refl _).slice 0 rfl) (Zwf ((Book.mk x1.Last x7)) x2 _ ex8) (h:=?_);dsimp only [go_sem];refine Z54 7 rfl ?_;refine Zd5 hall rfl trivial ((Zb5.refl _).slice 0 rfl) (Zwf ((Book.mk x1.Last x7)) x2 _ ex8) (h:=?_);dsimp only [go_sem];refine Zt5 hall hs haf hnap 1 3 ?_;dsimp only [go_sem];refine An ?_;refine Z54 9 rfl ?_;obtain ⟨x11,ex11,h⟩:=Bs h
       refine Zy6 hall [false,false] [true] rfl trivial (Zdg x8 (wr (x8+1)) x7 _ ex11) (h:=?_);dsimp only [go_sem];refine Zt5 hall hs haf hnap 1 1 ?_;dsimp only [go_sem];refine An ?_;refine Z54 11 rfl ?_;refine Za4 hall rfl trivial ?_;dsimp only [go_sem];refine Z44 rfl ?_ _;refine Zu2 6 ?_;dsimp only [go_sem];refine An ?_;refine Zm3 1 rfl ?_;dsimp only [go_sem];exact Z85 (res:=fun (r:(Book×Int))=>.tup [.agg (Book.row r.1),.iv r.2]) ok71 h
      ·refine Zd5 hall rfl trivial ((Zb5.refl _).slice 0 rfl) (Zwf ((Book.mk x1.Last x7)) x2 _ ex8) (h:=?_);dsimp only [go_sem];refine Z64 1 7 rfl ?_ ?_
       ·refine Za4 hall rfl trivial ?_;dsimp only [go_sem];refine Z54 7 rfl ?_;refine Zd5 hall rfl trivial ((Zb5.refl _).slice 0 rfl) (Zwf ((Book.mk x1.Last x7)) x2 _ ex8) (h:=?_);dsimp only [go_sem];refine Zt5 hall hs haf hnap 1 3 ?_;dsimp only [go_sem];refine An ?_;refine Z54 9 rfl ?_;obtain ⟨x11,ex11,h⟩:=Bs h;refine Zy6 hall [false,false] [true] rfl trivial (Zdg x8 (wr (x8+1)) x7 _ ex11) (h:=?_);dsimp only [go_sem];refine Zt5 hall hs haf hnap 1 1 ?_;dsimp only [go_sem];refine An ?_
        refine Z54 11 rfl ?_;refine Za4 hall rfl trivial ?_;dsimp only [go_sem];refine Z44 rfl ?_ _;refine Zu2 6 ?_;dsimp only [go_sem];refine An ?_;refine Zm3 1 rfl ?_;dsimp only [go_sem];exact Z85 (res:=fun (r:(Book×Int))=>.tup [.agg (Book.row r.1),.iv r.2]) ok71 h
       ·refine Zd5 hall rfl trivial ((Zb5.refl _).slice 0 rfl) (Zwf ((Book.mk x1.Last x7)) x2 _ ex8) (h:=?_);dsimp only [go_sem];refine Zt5 hall hs haf hnap 1 4 ?_;dsimp only [go_sem];refine An ?_;refine Z54 1 rfl ?_;refine Za4 hall rfl trivial ?_;dsimp only [go_sem];refine Z54 9 rfl ?_;obtain ⟨x11,ex11,h⟩:=Bs h;refine Zy6 hall [false,false] [true] rfl trivial (Zdg x8 (wr (x8+1)) x7 _ ex11) (h:=?_);dsimp only [go_sem];refine Zt5 hall hs haf hnap 1 1 ?_;dsimp only [go_sem];refine An ?_
        refine Z54 11 rfl ?_;refine Za4 hall rfl trivial ?_;dsimp only [go_sem];refine Z44 rfl ?_ _;refine Zu2 6 ?_;dsimp only [go_sem];refine An ?_;refine Zm3 1 rfl ?_;dsimp only [go_sem];exact Z85 (res:=fun (r:(Book×Int))=>.tup [.agg (Book.row r.1),.iv r.2]) ok71 h
  ·refine Z05 h rfl (fun _ h=>?_) fun _ h=>?_
   ·refine Zu2 3 ?_;dsimp only [go_sem];refine An ?_;exact Za5 J2 (s:=175) h
   ·refine Zu2 1 ?_;dsimp only [go_sem];refine An ?_;exact Za5 J2 (s:=x4.2) h
 ·refine Z75 18 h rfl (fun _ h=>?_) fun _ h=>?_
  ·dsimp only [go_sem];refine Zu2 5 ?_;dsimp only [go_sem];refine An ?_;exact Za5 J1 (s:=!decide (x4.1=x3)) h
  ·dsimp only [go_sem];refine Zu2 5 ?_;dsimp only [go_sem];refine An ?_;exact Za5 J1 (s:=false) h
def Zmg (F:Nat) (x1:Book) (x2:Int):Int→Option (Book×Int)
| x6=>
 ifb (!decide (x6=0)) (
 some ((Book.mk 0 (([]:(List Sess)))),x6)) (
 (Z9g F x1).bind fun x7=>
 (Zxf F ((Book.mk x1.Last x7)) x2).bind fun x8=>
 (Zgg F x8 (wr (x8+1)) x7).bind fun x11=>
 some ((Book.mk x1.Last x11),0))
theorem Zng {F:Nat} {x1:Book} {x2:Int}:∀s,ole (Zmg F x1 x2 s) (Zig x1 x2 s):=by
 intro x6
 unfold Zmg Zig
 try dsimp only
 with_reducible repeat' first | exact Zr4 _ | assumption | intro _ | refine Zs4 ?_ ?_ | refine Zt4 ?_ ?_ | refine Zu4 ?_ | refine Zw4 ?_ | apply Zag | apply Zyf | apply Zhg
def Zog (F:Nat) (x1:Book) (x2:Int) (x4:(Int×Int)):Bool→Option (Book×Int)
| x5=>
 ifb x5 (
 (Zmg F x1 x2) 175) (
 (Zmg F x1 x2) x4.2)
theorem Zpg {F:Nat} {x1:Book} {x2:Int} {x4:(Int×Int)}:∀s,ole (Zog F x1 x2 x4 s) (Zjg x1 x2 x4 s):=by
 intro x5
 unfold Zog Zjg
 try dsimp only
 with_reducible repeat' first | exact Zr4 _ | assumption | intro _ | refine Zs4 ?_ ?_ | refine Zt4 ?_ ?_ | refine Zu4 ?_ | refine Zw4 ?_ | apply Zag | apply Zyf | apply Zhg | apply Zng
def Zqg (F:Nat) (x1:Book) (x2:Int) (x3:Int):Option (Book×Int):=
 (Z0g F x1 x2).bind fun x4=>
 ifb (decide (x4.2=0)) (
 (Zog F x1 x2 x4) (!decide (x4.1=x3))) (
 (Zog F x1 x2 x4) false)
theorem Zrg {F:Nat} {x1:Book} {x2:Int} {x3:Int}:ole (Zqg F x1 x2 x3) (Zkg x1 x2 x3):=by
 unfold Zqg Zkg
 with_reducible repeat' first | exact Zr4 _ | assumption | intro _ | refine Zs4 ?_ ?_ | refine Zt4 ?_ ?_ | refine Zu4 ?_ | refine Zw4 ?_ | apply Zag | apply Zyf | apply Zhg | apply Zng | apply Zpg | apply le_sess_Poll
set_option maxRecDepth 100000
set_option maxHeartbeats 4000000
@[go_sem] def e52:EC:=.seq (.reg [(Qx 2 49 2 0),(Qa 4 (.alloc 49 [.iv 0,.nl])),(Qi 5 0)]) (.seq (.reg [(Qe 6 2 2),(Qm 7 1),(Qa 8 (.call 71 [(.t 6),(.t 7),(.c (.iv 1))])),(Qa 9 (.ext (.t 8) 0)),(Qa 10 (.ext (.t 8) 1)),(Qs 2 4 9),(Qm 5 10)]) (.ret))
theorem ok52:FnOK Try.prog 52 Try.f52 e52 [.c 4 (some 2),.t 5] 2 9:=⟨by kernel_rfl,⟨_,rfl,by kernel_rfl⟩,by kernel_rfl,by kernel_rfl⟩
noncomputable def Zsg (x1:Book) (x2:Int):Option (Book×Int):=
 (Zkg x1 x2 1).bind fun x3=>
 some (x3.1,x3.2)
theorem Ztg (x1:Book) (x2:Int) (r:(Book×Int)) (h:Zsg x1 x2=some r):Zz2 Try.prog 52 [.agg (Book.row x1),.iv x2] (.tup [.agg (Book.row r.1),.iv r.2]):=by
 refine Z33 ok52 rfl rfl fun w0 H0=>?_
 rw [Zsg] at h
 refine Zu2 10 ?_;dsimp only [go_sem];refine An ?_;obtain ⟨x3,ex3,h⟩:=Bs h;refine Z83 trivial (Zlg x1 x2 1 _ ex3) (h:=?_);refine Zu2 5 ?_;dsimp only [go_sem];refine An ?_;exact Z85 (res:=fun (r:(Book×Int))=>.tup [.agg (Book.row r.1),.iv r.2]) ok52 h
def Zug (F:Nat) (x1:Book) (x2:Int):Option (Book×Int):=
 (Zqg F x1 x2 1).bind fun x3=>
 some (x3.1,x3.2)
theorem Zvg {F:Nat} {x1:Book} {x2:Int}:ole (Zug F x1 x2) (Zsg x1 x2):=by
 unfold Zug Zsg
 with_reducible repeat' first | exact Zr4 _ | assumption | intro _ | refine Zs4 ?_ ?_ | refine Zt4 ?_ ?_ | refine Zu4 ?_ | refine Zw4 ?_ | apply Zrg
set_option maxRecDepth 100000
set_option maxHeartbeats 4000000
@[go_sem] def e54:EC:=.seq (.reg [(Qx 2 49 2 0),(Qa 4 (.alloc 49 [.iv 0,.nl])),(Qi 5 0)]) (.seq (.reg [(Qe 6 2 2),(Qm 7 1),(Qa 8 (.call 71 [(.t 6),(.t 7),(.c (.iv 0))])),(Qa 9 (.ext (.t 8) 0)),(Qa 10 (.ext (.t 8) 1)),(Qs 2 4 9),(Qm 5 10)]) (.ret))
theorem ok54:FnOK Try.prog 54 Try.f54 e54 [.c 4 (some 2),.t 5] 2 9:=⟨by kernel_rfl,⟨_,rfl,by kernel_rfl⟩,by kernel_rfl,by kernel_rfl⟩
noncomputable def Zwg (x1:Book) (x2:Int):Option (Book×Int):=
 (Zkg x1 x2 0).bind fun x3=>
 some (x3.1,x3.2)
theorem k_sess_Cancel (x1:Book) (x2:Int) (r:(Book×Int)) (h:Zwg x1 x2=some r):Zz2 Try.prog 54 [.agg (Book.row x1),.iv x2] (.tup [.agg (Book.row r.1),.iv r.2]):=by
 refine Z33 ok54 rfl rfl fun w0 H0=>?_
 rw [Zwg] at h
 refine Zu2 10 ?_;dsimp only [go_sem];refine An ?_;obtain ⟨x3,ex3,h⟩:=Bs h;refine Z83 trivial (Zlg x1 x2 0 _ ex3) (h:=?_);refine Zu2 5 ?_;dsimp only [go_sem];refine An ?_;exact Z85 (res:=fun (r:(Book×Int))=>.tup [.agg (Book.row r.1),.iv r.2]) ok54 h
def Zxg (F:Nat) (x1:Book) (x2:Int):Option (Book×Int):=
 (Zqg F x1 x2 0).bind fun x3=>
 some (x3.1,x3.2)
theorem Zyg {F:Nat} {x1:Book} {x2:Int}:ole (Zxg F x1 x2) (Zwg x1 x2):=by
 unfold Zxg Zwg
 with_reducible repeat' first | exact Zr4 _ | assumption | intro _ | refine Zs4 ?_ ?_ | refine Zt4 ?_ ?_ | refine Zu4 ?_ | refine Zw4 ?_ | apply Zrg
def Zzg:Book:=⟨0,[]⟩
def Z0h (n:List Int):Bool:=decide (n.length≤64)&&n.all (fun p=>decide (0≤p))
def Z1h (last top:Int) (first:Bool) (s:Sess):Bool:=
 decide (last<s.ID)&&(decide (s.ID≤top)&&(Z0h s.Need&&(decide (s.Need.Pairwise (· < ·))&&(decide (0≤s.Age)&&((decide (s.State=1)&&first)||(decide (s.State=0)&&decide (s.Age=0)))))))
def Z2h (top:Int):Int→Bool→List Sess→Bool
 | _,_,[]=>true
 | last,first,s::l=>Z1h last top first s&&Z2h top s.ID false l
def Z3h (b:Book):Bool:=decide (0≤b.Last)&&(decide (b.Sess.length≤8)&&Z2h b.Last 0 true b.Sess)
def Z4h (b:Book):Prop:=b.Sess.length≤1000000∧∀s∈b.Sess,s.Need.length≤1000000
theorem s_odd (n:List Int) (hn:n.length≤1000000):Z1e n=some (!Z0h n):=by
 simp only [Z1e,Z0e,Zh5,Z0h]
 rw [Zya n _ (fun z=>decide (z<0)) (by omega) (fun x _=>by simp only [Zyd])]
 have:n.any (fun z=>decide (z<0))=!n.all (fun p=>decide (0≤p)):=Z1b _ _ _ fun x=>by
  rw [Bool.eq_iff_iff];simp
 rw [this]
 by_cases h:n.length≤64
 ·rw [decide_eq_false (by omega),decide_eq_true h];rfl
 ·rw [decide_eq_true (by omega),decide_eq_false h];rfl
def Z5h (pre:List Sess):Int:=match pre.getLast? with | some s=>s.ID | none=>0
theorem lastID_snoc (pre:List Sess) (s:Sess):Z5h (pre++[s])=s.ID:=by simp [Z5h]
theorem s_Check3 (b:Book) (last i:Int) (s:Sess) (g:Bool) (hn:s.Need.length≤1000000):Zae b last i s g =
  if decide (last<s.ID)&&(decide (s.ID≤b.Last)&&(Z0h s.Need&&(decide (s.Need.Pairwise (· < ·))&&(decide (0≤s.Age)&&(g||(decide (s.State=0)&&decide (s.Age=0))))))) then some (.inl (s.ID,wr (i+1))) else some (.inr 170):=by
 have e4:∀z,Z9e i s g z=if !z&&(g||(decide (s.State=0)&&decide (s.Age=0))) then some (.inl (s.ID,wr (i+1))) else some (.inr 170):=fun z=>by
  simp only [Z9e,Z8e]
  cases z
  ·cases g
   ·by_cases h1:s.State=0
    ·by_cases h2:s.Age=0<;>simp [h1,h2]
    ·simp [h1]
   ·simp
  ·simp
 simp only [Zae,s_odd s.Need hn,s_Valid s.Need hn,Option.bind_some,e4]
 by_cases h1:s.ID≤last
 ·rw [decide_eq_true h1,Zh6,decide_eq_false (show ¬last<s.ID by omega)];simp
 ·rw [decide_eq_false h1,Zi6,decide_eq_true (show last<s.ID by omega),Bool.true_and]
  by_cases h2:b.Last<s.ID
  ·rw [decide_eq_true h2,Zh6,decide_eq_false (show ¬s.ID≤b.Last by omega)];simp
  ·rw [decide_eq_false h2,Zi6,decide_eq_true (show s.ID≤b.Last by omega),Bool.true_and]
   cases Z0h s.Need
   ·simp
   ·by_cases h3:s.Need.Pairwise (· < ·)
    ·by_cases h4:s.Age<0
     ·have:¬0≤s.Age:=by omega
      simp [h3,h4,this]
     ·have:0≤s.Age:=by omega
      simp [h3,h4,this]
    ·simp [h3]
theorem Z6h (b:Book) (hb:Z4h b):Zde b=some (if Z3h b then 0 else 170):=by
 have hl:loop (Zbe b) (0,0)=some (if Z2h b.Last 0 true b.Sess then 0 else 170):=by
  refine Zla b.Sess (Zbe b) (fun pre=>(Z5h pre,(pre.length:Int))) (fun pre post=>some (if Z2h b.Last (Z5h pre) pre.isEmpty post then 0 else 170)) (fun pre x post h=>?_) ?_
  ·have hx:=Zna h
   have hm:=Zoa h
   have h1:=hb.1
   dsimp only [Zbe]
   rw [Zm6 hx,Zh6,Zk6 hx,Option.bind_some]
   have e:∀u v:Bool,ifb (decide (x.State=1)) (Zae b (Z5h pre) (pre.length:Int) x u) (Zae b (Z5h pre) (pre.length:Int) x v)=Zae b (Z5h pre) (pre.length:Int) x (if decide (x.State=1) then u else v):=fun u v=>by
    cases decide (x.State=1)<;>rfl
   rw [e,s_Check3 _ _ _ _ _ (hb.2 x (Zpa h)),Zo6 (by omega),lastID_snoc,Zqa]
   have e2:(if decide (x.State=1)=true then decide ((pre.length:Int)=0) else false)=(decide (x.State=1)&&pre.isEmpty):=by
    cases pre with
    | nil=>cases decide (x.State=1)<;>rfl
    | cons a r=>cases decide (x.State=1)<;>simp<;>omega
   rw [e2]
   show (_∧some (if (Z1h (Z5h pre) b.Last pre.isEmpty x&&Z2h b.Last x.ID false post) then (0:Int) else 170)=some (if Z2h b.Last x.ID (pre++[x]).isEmpty post then 0 else 170))∨∃r,_∧some (if (Z1h (Z5h pre) b.Last pre.isEmpty x&&Z2h b.Last x.ID false post) then (0:Int) else 170)=some r
   have e3:(pre++[x]).isEmpty=false:=by simp
   rw [e3]
   show ((if Z1h (Z5h pre) b.Last pre.isEmpty x then some (Sum.inl (x.ID,((pre.length+1:Nat):Int))) else some (.inr (170:Int)))=_∧_)∨∃r,(if Z1h (Z5h pre) b.Last pre.isEmpty x then some (Sum.inl (x.ID,((pre.length+1:Nat):Int))) else some (.inr (170:Int)))=_∧_
   cases Z1h (Z5h pre) b.Last pre.isEmpty x
   ·right;exact ⟨170,rfl,rfl⟩
   ·left;exact ⟨rfl,by rw [Bool.true_and]⟩
  ·dsimp only [Zbe]
   rw [Zn6,Zi6];rfl
 simp only [Zde,Zce,hl,Z3h,Zh5]
 by_cases h1:b.Last<0
 ·have:¬0≤b.Last:=by omega
  simp [h1,this]
 ·have:0≤b.Last:=by omega
  by_cases h2:b.Sess.length≤8
  ·have h3:¬(8:Int)<b.Sess.length:=by omega
   simp [h1,this,h2,h3]
  ·have h3:(8:Int)<b.Sess.length:=by omega
   simp [h1,this,h2,h3]
theorem Z7h {α:Type} {l:List α} {k:Nat} {x:α} (h:l[k]?=some x):l.set k x=l:=by
 obtain ⟨h1,rfl⟩:=List.getElem?_eq_some_iff.1 h
 exact List.set_getElem_self h1
theorem Z8h (l:List Int) (h:l.length≤1000000):Zi9 l=some l:=by
 simp only [Zi9]
 rw [Zl6 _ _ (by omega) (by simp;omega),List.nil_append]
theorem Z9h (l:List Sess) (h:l.length≤1000000):Zte l=some l:=by
 simp only [Zte]
 rw [Zl6 _ _ (by omega) (by simp;omega),List.nil_append]
theorem Zah (b:Book) (hb:Z4h b):Zze b=some b.Sess:=by
 have h1:=hb.1
 simp only [Zze,Z9h b.Sess hb.1,Option.bind_some]
 refine Zma b.Sess _ (fun pre=>((pre.length:Int),b.Sess)) b.Sess (fun pre x post h=>?_) ?_
 ·have hx:=Zna h
  have hm:=Zoa h
  dsimp only [Zye]
  rw [Zm6 hx,Zh6,Zk6 hx,Option.bind_some,Z8h _ (hb.2 x (Zpa h)),Option.bind_some,Zo6 (by omega),Int.toNat_natCast,Z7h hx,Zqa]
 ·dsimp only [Zye]
  rw [Zn6,Zi6];rfl
theorem Zbh (b:Book) (hb:Z4h b):Zff b=some b.Sess:=by
 have h1:=hb.1
 simp only [Zff,Z9h b.Sess hb.1,Option.bind_some]
 refine Zma b.Sess _ (fun pre=>((pre.length:Int),b.Sess)) b.Sess (fun pre x post h=>?_) ?_
 ·have hx:=Zna h
  have hm:=Zoa h
  dsimp only [Zef]
  rw [Zm6 hx,Zh6,Zk6 hx,Option.bind_some,Z8h _ (hb.2 x (Zpa h)),Option.bind_some,Zo6 (by omega),Int.toNat_natCast,Z7h hx,Zqa]
 ·dsimp only [Zef]
  rw [Zn6,Zi6];rfl
theorem Zch (b:Book) (hb:Z4h b):Z3g b=some b.Sess:=by
 have h1:=hb.1
 simp only [Z3g,Z9h b.Sess hb.1,Option.bind_some]
 refine Zma b.Sess _ (fun pre=>((pre.length:Int),b.Sess)) b.Sess (fun pre x post h=>?_) ?_
 ·have hx:=Zna h
  have hm:=Zoa h
  dsimp only [Z2g]
  rw [Zm6 hx,Zh6,Zk6 hx,Option.bind_some,Z8h _ (hb.2 x (Zpa h)),Option.bind_some,Zo6 (by omega),Int.toNat_natCast,Z7h hx,Zqa]
 ·dsimp only [Z2g]
  rw [Zn6,Zi6];rfl
def findB (b:Book) (id:Int):Option Nat:=b.Sess.findIdx? fun s=>decide (s.ID=id)
theorem s_find (b:Book) (id:Int) (hb:b.Sess.length≤1000000):Zvf b id=some (plc (findB b id)):=by
 simp only [Zvf]
 rw [Zwa b.Sess _ (fun s=>decide (s.ID=id)) (by omega) (fun x _=>by simp only [Zsf]),Option.bind_some]
 rfl
theorem s_DeleteSess (l:List Sess) (i:Nat) (hi:i<l.length) (hl:l.length≤1000000):Zcg (i:Int) ((i+1:Nat):Int) l=some (l.take i++l.drop (i+1)):=by
 simp only [Zcg,Zh5]
 unfold vw_
 rw [if_pos ⟨by omega,by omega,by omega,by omega⟩,Option.bind_some,if_pos ⟨by omega,by omega,by omega,by omega⟩,Option.bind_some,decide_eq_false (by omega),Zi6,if_pos ⟨by omega,by omega,by omega,by omega⟩,Option.bind_some]
 have t1:Int.toNat (i:Int)-Int.toNat 0=i:=by omega
 have t2:Int.toNat ((l.length:Nat):Int)-Int.toNat ((i+1:Nat):Int)=l.length-(i+1):=by omega
 have t3:Int.toNat ((i+1:Nat):Int)=i+1:=by omega
 rw [t1,t2,t3]
 unfold mvv_
 rw [if_pos ⟨by omega,by omega,by omega⟩,Option.bind_some]
 have e1:(l.take (i+1+(l.length-(i+1)))).drop (i+1)=l.drop (i+1):=by
  rw [List.take_of_length_le (by omega)]
 have e2:(l.take i++l.drop (i+1)).length=l.length-1:=by simp;omega
 rw [e1]
 have e3:i+(l.length-(i+1))=l.length-1:=by omega
 simp only [Zbg,Zh5,t1,t2,e3]
 have hlen:(l.take i++l.drop (i+1)++l.drop (l.length-1)).length=l.length:=by rw [List.length_append,e2,List.length_drop];omega
 rw [Option.bind_some,hlen]
 unfold vw_
 rw [if_pos ⟨by omega,by omega,by omega,by omega⟩,Option.bind_some]
 have t4:Int.toNat ((l.length-1:Nat):Int)=l.length-1:=by omega
 have t5:Int.toNat ((l.length:Nat):Int)-(l.length-1)=1:=by omega
 rw [t4,t5]
 unfold clr_
 rw [hlen,if_pos ⟨by omega,by omega⟩,Option.bind_some]
 unfold cut_
 have e4:(l.take i++l.drop (i+1)++l.drop (l.length-1)).take (l.length-1)=l.take i++l.drop (i+1):=by
  rw [List.take_left' e2]
 rw [e4]
 have hlen2:(l.take i++l.drop (i+1)++List.replicate 1 (Sess.mk 0 [] 0 0)++(l.take i++l.drop (i+1)++l.drop (l.length-1)).drop (l.length-1+1)).length=l.length:=by
  rw [List.length_append,List.length_append,e2,List.length_drop,hlen];simp;omega
 rw [hlen2,if_pos ⟨by omega,by omega⟩,Option.bind_some]
 congr 1
 rw [List.append_assoc (l.take i++l.drop (i+1))]
 rw [List.take_left' e2]
def Zdh (b:Book) (id:Int) (need:List Int):Book×Int:=
 if Z3h b then (if id≤b.Last then (Zzg,171) else if Z0h (Z5b need) then (if b.Sess.length=8 then (Zzg,173) else (⟨id,b.Sess++[⟨id,Z5b need,0,0⟩]⟩,0)) else (Zzg,172)) else (Zzg,170)
theorem s_Open (b:Book) (id:Int) (need:List Int) (hb:Z4h b) (hn:need.length≤1000000):Z8f b id need=some (Zdh b id need):=by
 have hs:=setL_len need
 have h1:=hb.1
 simp only [Z8f,s_setL need hn,Z6h b hb,s_odd (Z5b need) (by omega),Option.bind_some,Z7f,Zah b hb,Zdh,Zh5]
 rw [Zl6 _ _ (by omega) (by simp;omega),Option.bind_some]
 cases hk:Z3h b
 ·rfl
 ·simp only [if_true]
  simp only [decide_true,Bool.not_true,Zi6]
  by_cases h2:id≤b.Last
  ·simp [h2,Zzg]
  ·cases h3:Z0h (Z5b need)
   ·simp [h2,Zzg]
   ·by_cases h4:b.Sess.length=8
    ·simp [h2,h4,Zzg]
    ·have:¬(b.Sess.length:Int)=8:=by omega
     simp [h2,h4,this]
def Zeh (b:Book):Book×Int×Int:=
 if Z3h b then (match b.Sess with | []=>(Zzg,0,175) | s::l=>if s.State=1 then (Zzg,0,175) else (⟨b.Last,⟨s.ID,s.Need,1,s.Age⟩::l⟩,s.ID,0)) else (Zzg,0,170)
theorem s_Grant (b:Book) (hb:Z4h b):Zof b=some (Zeh b):=by
 simp only [Zof,Z6h b hb,Option.bind_some,Znf,Zbh b hb,Zeh,Zh5]
 cases hk:Z3h b
 ·rfl
 ·simp only [if_true]
  simp only [decide_true,Bool.not_true,Zi6]
  cases hs:b.Sess with
  | nil=>simp [Zzg]
  | cons s l=>
    have h0:at_ (s::l) 0=some s:=rfl
    have:¬(((s::l).length:Nat):Int)=0:=by simp;omega
    rw [decide_eq_false this,Zi6,h0,Option.bind_some]
    by_cases h1:s.State=1
    ·simp [h1,Zzg]
    ·simp [h1]
def endP (b:Book) (id want:Int):Book×Int:=
 if Z3h b then (match findB b id with
  | none=>(Zzg,174)
  | some i=>match b.Sess[i]? with
    | none=>(Zzg,174)
    | some s=>if s.State=want then (⟨b.Last,b.Sess.take i++b.Sess.drop (i+1)⟩,0) else (Zzg,175)) else (Zzg,170)
theorem findB_lt {b:Book} {id:Int} {i:Nat} (h:findB b id=some i):∃s,b.Sess[i]?=some s∧s.ID=id:=by
 obtain ⟨hi,hq,_⟩:=List.findIdx?_eq_some_iff_getElem.1 h
 exact ⟨_,List.getElem?_eq_getElem hi,by simpa using hq⟩
theorem s_end (b:Book) (id want:Int) (hb:Z4h b):Zkg b id want=some (endP b id want):=by
 have h1:=hb.1
 simp only [Zkg,Zzf,Z6h b hb,s_find b id hb.1,Option.bind_some,endP]
 cases hk:Z3h b
 ·simp [Zjg,Zig,Zzg]
 ·simp only [if_true]
  simp only [decide_true,Bool.not_true,Zi6]
  cases hf:findB b id with
  | none=>simp [plc,Zjg,Zig,Zzg]
  | some i=>
    obtain ⟨s,hs,_⟩:=findB_lt hf
    have hi:=(List.getElem?_eq_some_iff.1 hs).1
    rw [show plc (some i)=(i:Int) from rfl,decide_eq_false (by omega),Zi6,Zk6 hs,Option.bind_some,Option.bind_some]
    simp only [hs,decide_true,Zh6,Zjg,Zig]
    by_cases h2:s.State=want
    ·have hf':findB ⟨b.Last,b.Sess⟩ id=some i:=hf
     simp only [h2,decide_true,Bool.not_true,Zi6,Zch b hb,Option.bind_some,s_find ⟨b.Last,b.Sess⟩ id hb.1,hf',if_true]
     rw [show plc (some i)=(i:Int) from rfl,Zo6 (by omega),s_DeleteSess b.Sess i hi hb.1,Option.bind_some]
    ·simp [h2,Zzg]
theorem s_Release (b:Book) (id:Int) (hb:Z4h b):Zsg b id=some (endP b id 1):=by
 simp only [Zsg,s_end b id 1 hb,Option.bind_some]
theorem s_Cancel (b:Book) (id:Int) (hb:Z4h b):Zwg b id=some (endP b id 0):=by
 simp only [Zwg,s_end b id 0 hb,Option.bind_some]
set_option maxRecDepth 100000
set_option maxHeartbeats 4000000
@[go_sem] def e24:EC:=.seq (.reg [(Qx 2 30 1 0),(Qa 4 (.mv (.c .ff)))]) (.seq (.reg [(Qm 5 1),(Qa 6 (.bin .geq (.t 5) (.c (.iv 0)))),(Qm 7 6),(Qg 8 7 true (.mv (.t 1))),(Qh 9 7 true 0 2),(Qn 10 7 true 9),(Qg 11 7 true (.len (.t 10))),(Qg 12 7 true (.bin .lss (.t 8) (.t 11))),(Qp 13 7 12),(Qm 4 13)]) (.ret))
theorem ok24:FnOK Try.prog 24 Try.f24 e24 [.t 4] 2 12:=⟨by kernel_rfl,⟨_,rfl,by kernel_rfl⟩,by kernel_rfl,by kernel_rfl⟩
noncomputable def Zfh:Bool→Option Bool
| x3=>
 some x3
noncomputable def Zgh (x1:Model) (x2:Int):Option Bool:=
 ifb (decide (0≤x2)) (
 Zfh (decide (x2<(ln Place.row x1.Places)))) (
 Zfh false)
theorem Zhh (x1:Model) (x2:Int) (r:Bool) (h:Zgh x1 x2=some r):Zz2 Try.prog 24 [.agg (Model.row x1),.iv x2] (.bv r):=by
 refine Z33 ok24 rfl rfl fun w0 H0=>?_
 rw [Zgh] at h
 refine Zu2 10 ?_;dsimp only [go_sem];refine An ?_;refine Zy4 (fun (x3:Bool)=>(⟨(an 4 (.bv x3::an 9 [])),[],[]⟩:St)) Zfh r ?_ fun J1=>?_
 ·intro x3 h;rw [Zfh] at h;(try dsimp only);exact Z85 (res:=fun (r:Bool)=>.bv r) ok24 h
 ·refine Z75 7 h rfl (fun _ h=>?_) fun _ h=>?_
  ·dsimp only [go_sem];refine Zu2 8 ?_;dsimp only [go_sem];refine An ?_;exact Za5 J1 (s:=decide (x2<(ln Place.row x1.Places))) h
  ·dsimp only [go_sem];refine Zu2 8 ?_;dsimp only [go_sem];refine An ?_;exact Za5 J1 (s:=false) h
def Zih (_F:Nat):Bool→Option Bool
| x3=>
 some x3
theorem Zjh {F:Nat}:∀s,ole (Zih F s) (Zfh s):=by
 intro x3
 unfold Zih Zfh
 try dsimp only
 with_reducible repeat' first | exact Zr4 _ | assumption | intro _ | refine Zs4 ?_ ?_ | refine Zt4 ?_ ?_ | refine Zu4 ?_ | refine Zw4 ?_
def Zkh (F:Nat) (x1:Model) (x2:Int):Option Bool:=
 ifb (decide (0≤x2)) (
 Zih F (decide (x2<(ln Place.row x1.Places)))) (
 Zih F false)
theorem Zlh {F:Nat} {x1:Model} {x2:Int}:ole (Zkh F x1 x2) (Zgh x1 x2):=by
 unfold Zkh Zgh
 with_reducible repeat' first | exact Zr4 _ | assumption | intro _ | refine Zs4 ?_ ?_ | refine Zt4 ?_ ?_ | refine Zu4 ?_ | refine Zw4 ?_ | apply Zjh
set_option maxRecDepth 100000
set_option maxHeartbeats 4000000
@[go_sem] def e30:EC:=.seq (.reg [(Qa 4 (.mv (.c .ff)))]) (.seq (.reg [(Qe 5 1 1),(Qm 6 0),(Qa 7 (.call 24 [(.t 5),(.t 6)])),(Qa 8 (.not (.t 7))),(Qm 9 8),(Qg 10 9 false (.mv (.t 0))),(Qn 11 9 false 2),(Qg 12 9 false (.bin .eql (.t 10) (.t 11))),(Qq 13 9 12),(Qm 4 13)]) (.ret))
theorem ok30:FnOK Try.prog 30 Try.f30 e30 [.t 4] 3 11:=⟨by kernel_rfl,⟨_,rfl,by kernel_rfl⟩,by kernel_rfl,by kernel_rfl⟩
noncomputable def Zmh:Bool→Option Bool
| x5=>
 some x5
noncomputable def Znh (x1:Int) (x2:Model) (x3:Int):Option Bool:=
 (Zgh x2 x1).bind fun x4=>
 ifb (!x4) (
 Zmh true) (
 Zmh (decide (x1=x3)))
theorem Zoh (x1:Int) (x2:Model) (x3:Int) (r:Bool) (h:Znh x1 x2 x3=some r):Zz2 Try.prog 30 [.iv x1,.elt (Model.row x2) 0,.elt (Zf5 x3) 0] (.bv r):=by
 refine Z33 ok30 rfl rfl fun w0 H0=>?_
 rw [Znh] at h
 refine Zu2 8 ?_;dsimp only [go_sem];refine An ?_;obtain ⟨x4,ex4,h⟩:=Bs h;refine Z83 trivial (Zhh x2 x1 _ ex4) (h:=?_);refine Zu2 2 ?_;dsimp only [go_sem];refine An ?_;refine Zy4 (fun (x5:Bool)=>(⟨(an 4 (.bv x5::an 9 [])),[],[]⟩:St)) Zmh r ?_ fun J1=>?_
 ·intro x5 h;rw [Zmh] at h;(try dsimp only);exact Z85 (res:=fun (r:Bool)=>.bv r) ok30 h
 ·refine Z75 9 h rfl (fun _ h=>?_) fun _ h=>?_
  ·dsimp only [go_sem];refine Zu2 6 ?_;dsimp only [go_sem];refine An ?_;exact Za5 J1 (s:=true) h
  ·dsimp only [go_sem];refine Zu2 6 ?_;dsimp only [go_sem];refine An ?_;exact Za5 J1 (s:=decide (x1=x3)) h
def Zph (_F:Nat):Bool→Option Bool
| x5=>
 some x5
theorem Zqh {F:Nat}:∀s,ole (Zph F s) (Zmh s):=by
 intro x5
 unfold Zph Zmh
 try dsimp only
 with_reducible repeat' first | exact Zr4 _ | assumption | intro _ | refine Zs4 ?_ ?_ | refine Zt4 ?_ ?_ | refine Zu4 ?_ | refine Zw4 ?_
def Zrh (F:Nat) (x1:Int) (x2:Model) (x3:Int):Option Bool:=
 (Zkh F x2 x1).bind fun x4=>
 ifb (!x4) (
 Zph F true) (
 Zph F (decide (x1=x3)))
theorem Zsh {F:Nat} {x1:Int} {x2:Model} {x3:Int}:ole (Zrh F x1 x2 x3) (Znh x1 x2 x3):=by
 unfold Zrh Znh
 with_reducible repeat' first | exact Zr4 _ | assumption | intro _ | refine Zs4 ?_ ?_ | refine Zt4 ?_ ?_ | refine Zu4 ?_ | refine Zw4 ?_ | apply Zqh | apply Zlh
set_option maxRecDepth 100000
set_option maxHeartbeats 4000000
@[go_sem] def e14_L0:EC:=.seq (.reg [(Qa 14 (.bin .lss (.t 13) (.t 12)))]) (.seq (.ite (.t 14) (.skip) (.exit 0)) (.seq (.blk 1 (.seq (.reg [(Qm 15 13),(Qk 16 3 11 13),(Qe 17 3 16),(Qa 3 (.alloc 3 [.iv 0])),(Qa 4 (.alloc 51 [.iv 0,.nl,.nl])),(Qs 1 3 15),(Qs 3 4 17)]) (.seq (.reg [(Qa 18 (.mkf 30 [(.t 1),(.t 3)])),(Qm 5 18)]) (.seq (.reg [(Qf 19 0 4),(Qe 20 2 19),(Qa 21 (.call 31 [(.t 20)])),(Qa 22 (.bin .neq (.t 21) (.c (.iv 0)))),(Qm 23 22),(Qh 24 23 false 2 4),(Qn 25 23 false 24),(Qg 26 23 false (.call 32 [(.t 25)])),(Qg 27 23 false (.not (.t 26))),(Qq 28 23 27),(Qm 29 28),(Qh 30 29 false 2 4),(Qn 31 29 false 30),(Qg 32 29 false (.mv (.t 5))),(Qg 33 29 false (.call 33 [(.t 31),(.t 32)])),(Qq 34 29 33)]) (.ite (.t 34) (.seq (.reg [(Qi 2 200)]) (.ret)) (.skip)))))) (.reg [(Qv 35 13 1),(Qm 13 35)])))
@[go_sem] def e14:EC:=.seq (.reg [(Qx 1 30 1 0),(Qi 2 0)]) (.seq (.seq (.reg [(Qf 6 0 1),(Ql 7 6),(Qa 8 (.len (.t 7))),(Qa 9 (.bin .gtr (.t 8) (.c (.iv 64))))]) (.ite (.t 9) (.seq (.reg [(Qi 2 200)]) (.ret)) (.skip))) (.seq (.seq (.reg [(Qf 10 0 1),(Ql 11 10),(Qa 12 (.len (.t 11))),(Qi 13 0)]) (.blk 0 (.loop e14_L0))) (.seq (.reg [(Qi 2 0)]) (.ret))))
theorem ok14:FnOK Try.prog 14 Try.f14 e14 [.t 2] 1 35:=⟨by kernel_rfl,⟨_,rfl,by kernel_rfl⟩,by kernel_rfl,by kernel_rfl⟩
noncomputable def Zth:Unit→Option Int
| ()=>
 some 0
noncomputable def Zuh (x8:Int):Bool→Option (Int ⊕ Int)
| x13=>
 ifb x13 (
 Option.map Sum.inr (some 200)) (
 some (.inl (wr (x8+1))))
noncomputable def Zvh (x1:Model):Int→Option (Int ⊕ Int)
| x8=>
 ifb (decide (x8<(ln Place.row x1.Places))) (
 (at_ x1.Places x8).bind fun x9=>
 (Zde x9.Book).bind fun x10=>
 ifb (!decide (x10=0)) (
 (Zuh x8) true) (
 (Zld x9.Live).bind fun x11=>
 ifb (!x11) (
 (Zuh x8) true) (
 (Z78 x9.Live ((fun z=>Znh z x1 x8))).bind fun x12=>
 (Zuh x8) x12))) (
 Option.map Sum.inr (Zth ()))
noncomputable def Zwh (x1:Model):Option Int:=
 ifb (decide (64<(ln Place.row x1.Places))) (
 some 200) (
 loop (Zvh x1) 0)
theorem Zxh (x1:Model) (r:Int) (h:Zwh x1=some r):Zz2 Try.prog 14 [.agg (Model.row x1)] (.iv r):=by
 refine Z33 ok14 rfl rfl fun w0 H0=>?_
 rw [Zwh] at h
 refine Zu2 13 ?_;dsimp only [go_sem];refine An ?_;refine Z05 h rfl (fun _ h=>?_) fun _ h=>?_
 ·refine Zu2 4 ?_;dsimp only [go_sem];refine An ?_;exact Z85 (res:=fun (r:Int)=>.iv r) ok14 h
 ·refine Zu2 9 ?_;dsimp only [go_sem];refine An ?_;refine Zy4 (fun (_:Unit)=>(⟨(an 36 []),[],[]⟩:St)) Zth r ?_ fun J1=>?_
  ·rintro ⟨⟩ h;rw [Zth] at h;(try dsimp only);refine Zu2 4 ?_;dsimp only [go_sem];refine An ?_;exact Z85 (res:=fun (r:Int)=>.iv r) ok14 h
  ·refine Zu2 1 ?_;dsimp only [go_sem];refine An ?_;refine Zz4 h (fun (x8:Int)=>(⟨(.any :: .ptr 0 0::an 9 (.sl 3 (List.map Place.row x1.Places) :: .iv (ln Place.row x1.Places) :: .iv x8::an 22 [])),[some ⟨30,[.sl 3 (List.map Place.row x1.Places)]⟩],[]⟩:St)) (by simp [go_sem]) (by intro x8;first | rfl | simp [go_sem]) ?_;rintro n1 x8 y1 h hin1 hout1;rw [Zvh] at h;(try dsimp only);refine Zu2 5 ?_;dsimp only [go_sem];refine An ?_;refine Z05 h rfl (fun _ h=>?_) fun _ h=>?_
   ·refine Zu2 6 ?_;dsimp only [go_sem];refine An ?_;obtain ⟨x9,ex9,h⟩:=Bs h;refine Z35 Place.row ex9 trivial rfl rfl rfl ?_;refine Zu2 15 ?_;dsimp only [go_sem];refine An ?_;obtain ⟨x10,ex10,h⟩:=Bs h;refine Z83 trivial (Zee x9.Book _ ex10) (h:=?_);refine Zu2 2 ?_;dsimp only [go_sem];refine An ?_
    refine Zy4 (fun (x13:Bool)=>(⟨(.any :: .ptr 0 0::an 9 (.sl 3 (List.map Place.row x1.Places) :: .iv (ln Place.row x1.Places) :: .iv x8::an 20 [.bv x13,.any])),[some ⟨30,[.sl 3 (List.map Place.row x1.Places)]⟩],[]⟩:St)) (Zuh x8) y1 ?_ fun J2=>?_
    ·intro x13 h;rw [Zuh] at h;(try dsimp only);refine Z05 h rfl (fun _ h=>?_) fun _ h=>?_
     ·refine Zu2 4 ?_;dsimp only [go_sem];refine An ?_;exact Z85 (res:=fun (r:Int)=>.iv r) ok14 (Zx4 h hout1)
     ·refine Zu2 6 ?_;dsimp only [go_sem];refine An ?_;exact Z95 h hin1
    ·refine Z75 23 h rfl (fun _ h=>?_) fun _ h=>?_
     ·dsimp only [go_sem];refine Zu2 12 ?_;dsimp only [go_sem];refine An ?_;exact Za5 J2 (s:=true) h
     ·dsimp only [go_sem];refine Zu2 2 ?_;dsimp only [go_sem];refine An ?_;obtain ⟨x11,ex11,h⟩:=Bs h;refine Z83 trivial (Zmd x9.Live _ ex11) (h:=?_);refine Zu2 3 ?_;dsimp only [go_sem];refine An ?_;refine Z75 29 h rfl (fun _ h=>?_) fun _ h=>?_
      ·dsimp only [go_sem];refine Zu2 6 ?_;dsimp only [go_sem];refine An ?_;exact Za5 J2 (s:=true) h
      ·dsimp only [go_sem];refine Zu2 3 ?_;dsimp only [go_sem];refine An ?_;obtain ⟨x12,ex12,h⟩:=Bs h;refine Zc5 trivial (((Zb5.refl _).block 0 rfl rfl).block 1 rfl rfl) (Z88 x9.Live _ _ ((fun z=>Znh z x1 x8)) ⟨by kernel_rfl,rfl,fun z r hz=>Zoh z x1 x8 r hz⟩ _ ex12) (h:=?_);refine Zu2 2 ?_;dsimp only [go_sem];refine An ?_;exact Za5 J2 (s:=x12) h
   ·refine Zu2 1 ?_;dsimp only [go_sem];refine An ?_;exact Za5 J1 (s:=()) (Zx4 h hout1)
def Zyh (_F:Nat):Unit→Option Int
| ()=>
 some 0
theorem Zzh {F:Nat}:∀s,ole (Zyh F s) (Zth s):=by
 rintro ⟨⟩
 unfold Zyh Zth
 try dsimp only
 with_reducible repeat' first | exact Zr4 _ | assumption | intro _ | refine Zs4 ?_ ?_ | refine Zt4 ?_ ?_ | refine Zu4 ?_ | refine Zw4 ?_
def Z0i (_F:Nat) (x8:Int):Bool→Option (Int ⊕ Int)
| x13=>
 ifb x13 (
 Option.map Sum.inr (some 200)) (
 some (.inl (wr (x8+1))))
theorem Z1i {F:Nat} {x8:Int}:∀s,ole (Z0i F x8 s) (Zuh x8 s):=by
 intro x13
 unfold Z0i Zuh
 try dsimp only
 with_reducible repeat' first | exact Zr4 _ | assumption | intro _ | refine Zs4 ?_ ?_ | refine Zt4 ?_ ?_ | refine Zu4 ?_ | refine Zw4 ?_ | apply Zzh
def Z2i (F:Nat) (x1:Model):Int→Option (Int ⊕ Int)
| x8=>
 ifb (decide (x8<(ln Place.row x1.Places))) (
 (at_ x1.Places x8).bind fun x9=>
 (Zre F x9.Book).bind fun x10=>
 ifb (!decide (x10=0)) (
 (Z0i F x8) true) (
 (Ztd F x9.Live).bind fun x11=>
 ifb (!x11) (
 (Z0i F x8) true) (
 (Z98 F x9.Live ((fun z=>Zrh F z x1 x8))).bind fun x12=>
 (Z0i F x8) x12))) (
 Option.map Sum.inr (Zyh F ()))
theorem Z3i {F:Nat} {x1:Model}:∀s,ole (Z2i F x1 s) (Zvh x1 s):=by
 intro x8
 unfold Z2i Zvh
 try dsimp only
 with_reducible repeat' first | exact Zr4 _ | assumption | intro _ | refine Zs4 ?_ ?_ | refine Zt4 ?_ ?_ | refine Zu4 ?_ | refine Zw4 ?_ | apply Zzh | apply Z1i | apply Zse | apply Zud | apply Za8 | apply Zsh
def Z4i (F:Nat) (x1:Model):Option Int:=
 ifb (decide (64<(ln Place.row x1.Places))) (
 some 200) (
 Zv4 F (Z2i F x1) 0)
theorem Z5i {F:Nat} {x1:Model}:ole (Z4i F x1) (Zwh x1):=by
 unfold Z4i Zwh
 with_reducible repeat' first | exact Zr4 _ | assumption | intro _ | refine Zs4 ?_ ?_ | refine Zt4 ?_ ?_ | refine Zu4 ?_ | refine Zw4 ?_ | apply Zzh | apply Z1i | apply Zse | apply Zud | apply Za8 | apply Zsh | apply Z3i
set_option maxRecDepth 100000
set_option maxHeartbeats 4000000
@[go_sem] def e16_L0:EC:=.seq (.reg [(Qa 21 (.bin .lss (.t 20) (.t 19)))]) (.seq (.ite (.t 21) (.skip) (.exit 0)) (.seq (.blk 1 (.seq (.reg [(Qk 22 4 18 20),(Qe 23 4 22),(Qa 7 (.alloc 76 [.iv 0,.nl,.iv 0,.iv 0])),(Qs 4 7 23)]) (.seq (.drw [(Qf 24 2 7),(Ql 25 24),(Qa 26 (.bin .eql (.t 25) (.c (.iv 0)))),(Qm 27 26),(Qh 28 27 true 1 7),(Qn 29 27 true 28),(Qh 30 27 true 0 2),(Qn 31 27 true 30),(Qg 32 27 true (.mv (.t 1))),(Qg 33 27 true (.idx 3 (.t 31) (.t 32))),(Qh 34 27 true 2 33),(Qn 35 27 true 34),(Qg 36 27 true (.call 35 [(.t 29),(.t 35)])),(Qg 37 27 true (.not (.t 36))),(Qp 38 27 37)] [[],[0],[1],[2],[3],[4,3],[3],[6,3],[3],[7,8,3],[9,3],[10,3],[5,11,3,3],[12,3],[3,13]] [[1],[0,2],[1,3],[2,4,5,6,7,8,9,10,11,12,13,14],[3,5],[3,4,12],[3,7],[3,6,9],[3,9],[3,7,8,10],[3,9,11],[3,10,12],[3,5,11,13],[3,12,14],[3,13]]) (.ite (.t 38) (.reg [(Qm 39 5),(Qf 40 0 7),(Ql 41 40),(Qa 42 (.bsl 3 1 1 [.iv 0] [(0,(.t 41))])),(Qa 43 (.app 3 1 8 (.t 39) (.t 42))),(Qm 5 43)]) (.skip))))) (.reg [(Qv 44 20 1),(Qm 20 44)])))
@[go_sem] def e16:EC:=.seq (.reg [(Qx 2 30 1 0),(Qa 4 (.mv (.c .nl)))]) (.seq (.reg [(Qa 5 (.mv (.c .nl)))]) (.seq (.seq (.reg [(Qe 8 1 2),(Qm 9 1),(Qa 10 (.call 24 [(.t 8),(.t 9)])),(Qa 11 (.not (.t 10)))]) (.ite (.t 11) (.seq (.reg [(Qa 4 (.mv (.c .nl)))]) (.ret)) (.skip))) (.seq (.seq (.reg [(Qf 12 0 2),(Ql 13 12),(Qm 14 1),(Qk 15 3 13 14),(Qf 16 0 15),(Qf 17 1 16),(Ql 18 17),(Qa 19 (.len (.t 18))),(Qi 20 0)]) (.blk 0 (.loop e16_L0))) (.seq (.reg [(Qm 45 5),(Qm 4 45)]) (.ret)))))
theorem ok16:FnOK Try.prog 16 Try.f16 e16 [.t 4] 2 44:=⟨by kernel_rfl,⟨_,rfl,by kernel_rfl⟩,by kernel_rfl,by kernel_rfl⟩
noncomputable def Z6i:(List Int)→Option (List Int)
| x29=>
 some x29
noncomputable def Z7i (x13:Int):(List Int)→Option ((Int×(List Int)) ⊕ (List Int))
| x20=>
 some (.inl (wr (x13+1),x20))
noncomputable def Z8i (x13:Int) (x14:(List Int)) (x15:Sess):Bool→Option ((Int×(List Int)) ⊕ (List Int))
| x18=>
 ifb x18 (
 (Zm4 8 x14 ([x15.ID])).bind fun x19=>
 (Z7i x13) x19) (
 (Z7i x13) x14)
noncomputable def Z9i (x1:Model) (x2:Int) (x4:Place):(Int×(List Int))→Option ((Int×(List Int)) ⊕ (List Int))
| (x13,x14)=>
 ifb (decide (x13<(ln Sess.row x4.Book.Sess))) (
 (at_ x4.Book.Sess x13).bind fun x15=>
 ifb (decide (x15.State=0)) (
 (at_ x1.Places x2).bind fun x16=>
 (Zed x15.Need x16.Live).bind fun x17=>
 (Z8i x13 x14 x15) (!x17)) (
 (Z8i x13 x14 x15) false)) (
 Option.map Sum.inr (Z6i x14))
noncomputable def Zai (x1:Model) (x2:Int):Option (List Int):=
 (Zgh x1 x2).bind fun x3=>
 ifb (!x3) (
 some (([]:List Int))) (
 (at_ x1.Places x2).bind fun x4=>
 loop (Z9i x1 x2 x4) (0,([]:List Int)))
theorem o_model_Due (x1:Model) (x2:Int) (r:(List Int)) (h:Zai x1 x2=some r):FunO Try.prog 16 [.agg (Model.row x1),.iv x2] 3 1 (List.map Zf5 r):=by
 refine Zm5 ok16 rfl fun w0 H0=>?_
 rw [Zai] at h
 refine Zu2 14 ?_;dsimp only [go_sem];refine An ?_;obtain ⟨x3,ex3,h⟩:=Bs h;refine Z83 trivial (Zhh x1 x2 _ ex3) (h:=?_);refine Zu2 2 ?_;dsimp only [go_sem];refine An ?_;refine Z05 h rfl (fun _ h=>?_) fun _ h=>?_
 ·refine Zu2 4 ?_;dsimp only [go_sem];refine An ?_;refine Zh4 4 3 1 rfl rfl ?_;dsimp only [go_sem];exact Zv5 Zf5 ok16 h rfl rfl
 ·refine Zu2 7 ?_;dsimp only [go_sem];refine An ?_;obtain ⟨x4,ex4,h⟩:=Bs h;refine Z35 Place.row ex4 trivial rfl rfl rfl ?_;refine Zu2 6 ?_;dsimp only [go_sem];refine An ?_;refine Zy4 (fun (x29:(List Int))=>(⟨(an 5 (.osl 0::an 40 [])),[],[some ⟨3,1,List.map Zf5 x29⟩]⟩:St)) Z6i r ?_ fun J1=>?_
  ·intro x29 h;rw [Z6i] at h;(try dsimp only);refine Zu2 5 ?_;dsimp only [go_sem];refine An ?_;exact Zv5 Zf5 ok16 h rfl rfl
  ·refine Zu2 1 ?_;dsimp only [go_sem];refine An ?_;refine Zh4 5 3 1 rfl rfl ?_;dsimp only [go_sem];refine Zz4 h (fun ((x13,x14):(Int×(List Int)))=>(⟨(.any :: .iv x2 :: .ptr 0 0 :: .any :: .any :: .osl 0::an 12 (.sl 4 (List.map Sess.row x4.Book.Sess) :: .iv (ln Sess.row x4.Book.Sess) :: .iv x13::an 25 [])),[some ⟨30,[.sl 3 (List.map Place.row x1.Places)]⟩],[some ⟨3,1,List.map Zf5 x14⟩]⟩:St)) (by simp [go_sem]) (by rintro ⟨x13,x14⟩;first | rfl | simp [go_sem]) ?_;rintro n1 ⟨x13,x14⟩ y1 h hin1 hout1;rw [Z9i] at h;(try dsimp only);refine Zu2 5 ?_
   dsimp only [go_sem];refine An ?_;refine Z05 h rfl (fun _ h=>?_) fun _ h=>?_
   ·refine Zu2 5 ?_;dsimp only [go_sem];refine An ?_;obtain ⟨x15,ex15,h⟩:=Bs h;refine Z35 Sess.row ex15 trivial rfl rfl rfl ?_;refine Zu2 5 ?_;dsimp only [go_sem];refine An ?_
    refine Zy4 (fun (x18:Bool)=>(⟨(.any :: .iv x2 :: .ptr 0 0 :: .any :: .any :: .osl 0 :: .any :: .ptr 1 0::an 10 (.sl 4 (List.map Sess.row x4.Book.Sess) :: .iv (ln Sess.row x4.Book.Sess) :: .iv x13::an 17 (.bv x18::an 7 []))),[some ⟨30,[.sl 3 (List.map Place.row x1.Places)]⟩,some ⟨76,[.iv x15.ID,.sl 1 (List.map Zf5 x15.Need),.iv x15.State,.iv x15.Age]⟩],[some ⟨3,1,List.map Zf5 x14⟩]⟩:St)) (Z8i x13 x14 x15) y1 ?_ fun J2=>?_
    ·intro x18 h;rw [Z8i] at h;(try dsimp only);refine Zy4 (fun (x20:(List Int))=>(⟨(.any :: .iv x2 :: .ptr 0 0 :: .any :: .any :: .osl 0::an 12 (.sl 4 (List.map Sess.row x4.Book.Sess) :: .iv (ln Sess.row x4.Book.Sess) :: .iv x13::an 25 [])),[some ⟨30,[.sl 3 (List.map Place.row x1.Places)]⟩],[some ⟨3,1,List.map Zf5 x20⟩]⟩:St)) (Z7i x13) y1 ?_ fun J3=>?_
     ·intro x20 h;rw [Z7i] at h;(try dsimp only);refine Zu2 5 ?_;dsimp only [go_sem];refine An ?_;exact Z95 h hin1
     ·refine Z05 h rfl (fun _ h=>?_) fun _ h=>?_
      ·refine Zu2 5 ?_;dsimp only [go_sem];refine An ?_;obtain ⟨x19,ex19,h⟩:=Bs h;refine Z55 Zf5 ex19 trivial rfl rfl rfl ?_;refine Zu2 2 ?_;dsimp only [go_sem];refine An ?_;refine Zg4 2 0 rfl rfl rfl ?_;dsimp only [go_sem];exact Za5 J3 (s:=x19) h
      ·refine Zu2 1 ?_;dsimp only [go_sem];refine An ?_;exact Za5 J3 (s:=x14) h
    ·refine Zu3 (by kernel_rfl) fun all hall hs hnap haf=>?_;dsimp only [go_sem];refine Zt5 hall hs haf hnap 4 11 ?_;dsimp only [go_sem];refine An ?_;refine Zi5 27 h rfl (fun _ h=>?_) fun _ h=>?_
     ·dsimp only [go_sem];refine Zu5 hall hs haf hnap 5 6 [9,6] [(28,[.ptr 1 1,.sl 1 (List.map Zf5 x15.Need),.ptr 0 0,.sl 3 (List.map Place.row x1.Places),.iv x2])] (by kernel_rfl) ?_;dsimp only [go_sem];obtain ⟨x16,ex16,h⟩:=Bs h;refine Z45 hall hs haf hnap 9 Place.row ex16 rfl rfl trivial rfl rfl rfl rfl ?_;refine Zt5 hall hs haf hnap 2 3 ?_;dsimp only [go_sem];refine An ?_;refine Z54 12 rfl ?_;obtain ⟨x17,ex17,h⟩:=Bs h;refine Zb4 hall rfl trivial (Zfd x15.Need x16.Live _ ex17) (h:=?_);dsimp only [go_sem]
      refine Zt5 hall hs haf hnap 2 0 ?_;dsimp only [go_sem];refine An ?_;refine Z44 rfl ?_ _;exact Za5 J2 (s:=!x17) h
     ·dsimp only [go_sem];refine Zu5 hall hs haf hnap 11 0 [15] [(28,[.un,.un,.un,.un,.un,.un,.un,.un,.un,.un,.ff])] (by kernel_rfl) ?_;dsimp only [go_sem];refine Z44 rfl ?_ _;exact Za5 J2 (s:=false) h
   ·refine Zu2 1 ?_;dsimp only [go_sem];refine An ?_;exact Za5 J1 (s:=x14) (Zx4 h hout1)
theorem Zbi (x1:Model) (x2:Int) (r:(List Int)) (h:Zai x1 x2=some r):Zz2 Try.prog 16 [.agg (Model.row x1),.iv x2] (.sl 1 (List.map Zf5 r)):=(o_model_Due x1 x2 r h).sealed
def Zci (_F:Nat):(List Int)→Option (List Int)
| x29=>
 some x29
theorem Zdi {F:Nat}:∀s,ole (Zci F s) (Z6i s):=by
 intro x29
 unfold Zci Z6i
 try dsimp only
 with_reducible repeat' first | exact Zr4 _ | assumption | intro _ | refine Zs4 ?_ ?_ | refine Zt4 ?_ ?_ | refine Zu4 ?_ | refine Zw4 ?_
def Zei (_F:Nat) (x13:Int):(List Int)→Option ((Int×(List Int)) ⊕ (List Int))
| x20=>
 some (.inl (wr (x13+1),x20))
theorem Zfi {F:Nat} {x13:Int}:∀s,ole (Zei F x13 s) (Z7i x13 s):=by
 intro x20
 unfold Zei Z7i
 try dsimp only
 with_reducible repeat' first | exact Zr4 _ | assumption | intro _ | refine Zs4 ?_ ?_ | refine Zt4 ?_ ?_ | refine Zu4 ?_ | refine Zw4 ?_ | apply Zdi
def Zgi (F:Nat) (x13:Int) (x14:(List Int)) (x15:Sess):Bool→Option ((Int×(List Int)) ⊕ (List Int))
| x18=>
 ifb x18 (
 (Zm4 8 x14 ([x15.ID])).bind fun x19=>
 (Zei F x13) x19) (
 (Zei F x13) x14)
theorem Zhi {F:Nat} {x13:Int} {x14:(List Int)} {x15:Sess}:∀s,ole (Zgi F x13 x14 x15 s) (Z8i x13 x14 x15 s):=by
 intro x18
 unfold Zgi Z8i
 try dsimp only
 with_reducible repeat' first | exact Zr4 _ | assumption | intro _ | refine Zs4 ?_ ?_ | refine Zt4 ?_ ?_ | refine Zu4 ?_ | refine Zw4 ?_ | apply Zdi | apply Zfi
def Zii (F:Nat) (x1:Model) (x2:Int) (x4:Place):(Int×(List Int))→Option ((Int×(List Int)) ⊕ (List Int))
| (x13,x14)=>
 ifb (decide (x13<(ln Sess.row x4.Book.Sess))) (
 (at_ x4.Book.Sess x13).bind fun x15=>
 ifb (decide (x15.State=0)) (
 (at_ x1.Places x2).bind fun x16=>
 (Zgd F x15.Need x16.Live).bind fun x17=>
 (Zgi F x13 x14 x15) (!x17)) (
 (Zgi F x13 x14 x15) false)) (
 Option.map Sum.inr (Zci F x14))
theorem Zji {F:Nat} {x1:Model} {x2:Int} {x4:Place}:∀s,ole (Zii F x1 x2 x4 s) (Z9i x1 x2 x4 s):=by
 rintro ⟨x13,x14⟩
 unfold Zii Z9i
 try dsimp only
 with_reducible repeat' first | exact Zr4 _ | assumption | intro _ | refine Zs4 ?_ ?_ | refine Zt4 ?_ ?_ | refine Zu4 ?_ | refine Zw4 ?_ | apply Zdi | apply Zfi | apply Zhi | apply Zhd
def Zki (F:Nat) (x1:Model) (x2:Int):Option (List Int):=
 (Zkh F x1 x2).bind fun x3=>
 ifb (!x3) (
 some (([]:List Int))) (
 (at_ x1.Places x2).bind fun x4=>
 Zv4 F (Zii F x1 x2 x4) (0,([]:List Int)))
theorem Zli {F:Nat} {x1:Model} {x2:Int}:ole (Zki F x1 x2) (Zai x1 x2):=by
 unfold Zki Zai
 with_reducible repeat' first | exact Zr4 _ | assumption | intro _ | refine Zs4 ?_ ?_ | refine Zt4 ?_ ?_ | refine Zu4 ?_ | refine Zw4 ?_ | apply Zdi | apply Zfi | apply Zhi | apply Zhd | apply Zji | apply Zlh
set_option maxRecDepth 100000
set_option maxHeartbeats 4000000
@[go_sem] def e44:EC:=.seq (.reg [(Qa 2 (.mv (.c .nl)))]) (.seq (.seq (.reg [(Qm 3 0),(Qa 4 (.isnil false (.t 3)))]) (.ite (.t 4) (.seq (.reg [(Qa 2 (.mv (.c .nl)))]) (.ret)) (.skip))) (.seq (.reg [(Qa 5 (.bsl 51 3 0 [.iv 0,.nl,.nl] [])),(Qm 6 0),(Qa 7 (.app 51 3 56 (.t 5) (.t 6))),(Qm 2 7)]) (.ret)))
theorem ok44:FnOK Try.prog 44 Try.f44 e44 [.t 2] 1 7:=⟨by kernel_rfl,⟨_,rfl,by kernel_rfl⟩,by kernel_rfl,by kernel_rfl⟩
noncomputable def Zmi (x1:(List Place)):Option (List Place):=Zm4 56 [] x1
theorem Zni (x1:(List Place)) (r:(List Place)) (h:Zmi x1=some r):FunO Try.prog 44 [.sl 3 (List.map Place.row x1)] 51 3 (List.map Place.row r):=by
 refine Zm5 ok44 rfl fun w0 H0=>?_
 rw [Zmi] at h
 refine Zu2 100 ?_
 dsimp only [e44,go_sem]
 refine ⟨by simp,?_⟩
 refine V_isnil trivial rfl (fun hn=>?_) ?_
 ·refine Zu2 100 ?_
  dsimp only [go_sem]
  refine ⟨by simp,?_⟩
  refine Zh4 2 51 3 rfl rfl ?_
  dsimp only [go_sem]
  have hn:x1=[]:=by simpa using hn
  subst hn
  exact Zv5 Place.row (e:=[]) ok44 (by simpa [Zm4] using h) rfl rfl
 ·refine Zu2 100 ?_
  dsimp only [go_sem]
  refine ⟨by simp,?_⟩
  refine Z55 Place.row h trivial rfl rfl rfl ?_
  refine Zu2 100 ?_
  dsimp only [go_sem]
  refine ⟨by simp,?_⟩
  exact Zv5 Place.row ok44 (rfl:some r=some r) rfl rfl
def Zoi (_F:Nat) (x1:(List Place)):Option (List Place):=Zm4 56 [] x1
theorem Zpi {F:Nat} {x1:(List Place)}:ole (Zoi F x1) (Zmi x1):=Zr4 _
set_option maxRecDepth 100000
set_option maxHeartbeats 4000000
@[go_sem] def e25_L1:EC:=.seq (.reg [(Qa 45 (.bin .lss (.t 44) (.t 43)))]) (.seq (.ite (.t 45) (.skip) (.exit 2)) (.seq (.blk 3 (.seq (.reg [(Qm 46 44),(Qm 5 46)]) (.drw [(Qm 47 4),(Qa 48 (.nilchk (.t 47))),(Qf 49 0 48),(Qf 50 1 49),(Ql 51 50),(Qm 52 5),(Qm 53 4),(Qa 54 (.nilchk (.t 53))),(Qf 55 0 54),(Qf 56 1 55),(Ql 57 56),(Qm 58 5),(Qk 59 4 57 58),(Qf 60 1 59),(Ql 61 60),(Qa 62 (.call 45 [(.t 61)])),(Qk 63 4 51 52),(Qf 64 1 63),(Qs 1 64 62)] [[],[0],[1],[2],[3],[],[],[6],[7],[8],[9],[],[10,11],[12],[13],[14],[4,5,0,1,2,3,4,5,6,7,8,9,10,11,12,13,14,15],[16,0,1,2,3,4,5,6,7,8,9,10,11,12,13,14,15],[17,15,15,0,1,2,3,4,5,6,7,8,9,10,11,12,13,14,15]] [[1],[0,2],[1,3],[2,4],[3,16],[16],[7],[6,8],[7,9],[8,10],[9,12],[12],[10,11,13],[12,14],[13,15],[14,18],[4,5,17],[16,18],[15,17]]))) (.reg [(Qv 65 44 1),(Qm 44 65)])))
@[go_sem] def e25_L0:EC:=.seq (.reg [(Qa 14 (.bin .lss (.t 13) (.t 12)))]) (.seq (.ite (.t 14) (.skip) (.exit 0)) (.seq (.blk 1 (.seq (.reg [(Qm 15 13),(Qm 3 15)]) (.seq (.reg [(Qf 16 0 1),(Ql 17 16),(Qm 18 3),(Qk 19 3 17 18),(Qm 4 19)]) (.seq (.drw [(Qm 20 4),(Qm 21 4),(Qm 22 4),(Qa 23 (.nilchk (.t 22))),(Qf 24 2 23),(Ql 25 24),(Qa 26 (.call 45 [(.t 25)])),(Qm 27 4),(Qa 28 (.nilchk (.t 27))),(Qf 29 0 28),(Qf 30 1 29),(Ql 31 30),(Qa 32 (.call 46 [(.t 31)])),(Qa 33 (.nilchk (.t 20))),(Qf 34 2 33),(Qs 1 34 26),(Qa 35 (.nilchk (.t 21))),(Qf 36 0 35),(Qf 37 1 36),(Qs 1 37 32)] [[],[],[],[2],[3],[4],[5],[],[7],[8],[9],[10],[11,6],[0,0,2,3,4,5,6,11,12],[13,0,2,3,4,5,6,11,12],[14,6,12,0,2,3,4,5,6,11,12],[1,0,1,2,3,4,5,6,7,8,9,10,11,12,13,14,15],[16,0,1,2,3,4,5,6,7,8,9,10,11,12,13,14,15],[17,0,1,2,3,4,5,6,7,8,9,10,11,12,13,14,15],[18,12,15,0,1,2,3,4,5,6,7,8,9,10,11,12,13,14,15]] [[13],[16],[3],[2,4],[3,5],[4,6],[5,15],[8],[7,9],[8,10],[9,11],[10,12],[11,19],[0,14],[13,15],[6,14],[1,17],[16,18],[17,19],[12,18]]) (.seq (.reg [(Qm 38 4),(Qa 39 (.nilchk (.t 38))),(Qf 40 0 39),(Qf 41 1 40),(Ql 42 41),(Qa 43 (.len (.t 42))),(Qi 44 0)]) (.blk 2 (.loop e25_L1))))))) (.reg [(Qv 66 13 1),(Qm 13 66)])))
@[go_sem] def e25:EC:=.seq (.reg [(Qx 1 30 1 0),(Qa 2 (.alloc 30 [.nl]))]) (.seq (.reg [(Qf 6 0 1),(Ql 7 6),(Qa 8 (.call 44 [(.t 7)])),(Qf 9 0 1),(Qs 1 9 8)]) (.seq (.seq (.reg [(Qf 10 0 1),(Ql 11 10),(Qa 12 (.len (.t 11))),(Qi 13 0)]) (.blk 0 (.loop e25_L0))) (.seq (.reg [(Qe 67 1 1),(Qs 1 2 67)]) (.ret))))
theorem ok25:FnOK Try.prog 25 Try.f25 e25 [.c 2 (some 1)] 1 67:=⟨by kernel_rfl,⟨_,rfl,by kernel_rfl⟩,by kernel_rfl,by kernel_rfl⟩
set_option maxRecDepth 100000
set_option maxHeartbeats 4000000
@[go_sem] def e47:EC:=.seq (.reg [(Qx 3 30 1 0),(Qa 6 (.mv (.c .ff)))]) (.seq (.reg [(Qf 7 0 3),(Ql 8 7),(Qm 9 1),(Qk 10 3 8 9),(Qf 11 2 10),(Ql 12 11),(Qm 13 2),(Qa 14 (.call 53 [(.t 12),(.t 13)])),(Qm 6 14)]) (.ret))
theorem ok47:FnOK Try.prog 47 Try.f47 e47 [.t 6] 3 12:=⟨by kernel_rfl,⟨_,rfl,by kernel_rfl⟩,by kernel_rfl,by kernel_rfl⟩
noncomputable def Zqi (x1:Model) (x2:Int) (x3:Int):Option Bool:=
 (at_ x1.Places x2).bind fun x4=>
 (Zjc x4.Live x3).bind fun x5=>
 some x5
theorem Zri (x1:Model) (x2:Int) (x3:Int) (r:Bool) (h:Zqi x1 x2 x3=some r):Zz2 Try.prog 47 [.agg (Model.row x1),.iv x2,.iv x3] (.bv r):=by
 refine Z33 ok47 rfl rfl fun w0 H0=>?_
 rw [Zqi] at h
 refine Zu2 10 ?_;dsimp only [go_sem];refine An ?_;obtain ⟨x4,ex4,h⟩:=Bs h;refine Z35 Place.row ex4 trivial rfl rfl rfl ?_;refine Zu2 3 ?_;dsimp only [go_sem];refine An ?_;obtain ⟨x5,ex5,h⟩:=Bs h;refine Z83 trivial (Zkc x4.Live x3 _ ex5) (h:=?_);refine Zu2 2 ?_;dsimp only [go_sem];refine An ?_;exact Z85 (res:=fun (r:Bool)=>.bv r) ok47 h
def Zsi (F:Nat) (x1:Model) (x2:Int) (x3:Int):Option Bool:=
 (at_ x1.Places x2).bind fun x4=>
 (Zlc F x4.Live x3).bind fun x5=>
 some x5
theorem le_model_live {F:Nat} {x1:Model} {x2:Int} {x3:Int}:ole (Zsi F x1 x2 x3) (Zqi x1 x2 x3):=by
 unfold Zsi Zqi
 with_reducible repeat' first | exact Zr4 _ | assumption | intro _ | refine Zs4 ?_ ?_ | refine Zt4 ?_ ?_ | refine Zu4 ?_ | refine Zw4 ?_ | apply Zmc
set_option maxRecDepth 100000
set_option maxHeartbeats 4000000
@[go_sem] def e56:EC:=.seq (.reg [(Qx 2 76 4 0),(Qa 3 (.mv (.c .ff)))]) (.seq (.reg [(Qf 4 2 2),(Ql 5 4),(Qa 6 (.bin .eql (.t 5) (.c (.iv 1)))),(Qm 7 6),(Qh 8 7 true 1 2),(Qn 9 7 true 8),(Qn 10 7 true 1),(Qg 11 7 true (.call 53 [(.t 9),(.t 10)])),(Qp 12 7 11),(Qm 3 12)]) (.ret))
theorem ok56:FnOK Try.prog 56 Try.f56 e56 [.t 3] 2 11:=⟨by kernel_rfl,⟨_,rfl,by kernel_rfl⟩,by kernel_rfl,by kernel_rfl⟩
noncomputable def Zti:Bool→Option Bool
| x4=>
 some x4
noncomputable def Zui (x1:Sess) (x2:Int):Option Bool:=
 ifb (decide (x1.State=1)) (
 (Zjc x1.Need x2).bind fun x3=>
 Zti x3) (
 Zti false)
theorem Zvi (x1:Sess) (x2:Int) (r:Bool) (h:Zui x1 x2=some r):Zz2 Try.prog 56 [.agg (Sess.row x1),.elt (Zf5 x2) 0] (.bv r):=by
 refine Z33 ok56 rfl rfl fun w0 H0=>?_
 rw [Zui] at h
 refine Zu2 11 ?_;dsimp only [go_sem];refine An ?_;refine Zy4 (fun (x4:Bool)=>(⟨(an 3 (.bv x4::an 9 [])),[],[]⟩:St)) Zti r ?_ fun J1=>?_
 ·intro x4 h;rw [Zti] at h;(try dsimp only);exact Z85 (res:=fun (r:Bool)=>.bv r) ok56 h
 ·refine Z75 7 h rfl (fun _ h=>?_) fun _ h=>?_
  ·dsimp only [go_sem];refine Zu2 3 ?_;dsimp only [go_sem];refine An ?_;obtain ⟨x3,ex3,h⟩:=Bs h;refine Z83 trivial (Zkc x1.Need x2 _ ex3) (h:=?_);refine Zu2 3 ?_;dsimp only [go_sem];refine An ?_;exact Za5 J1 (s:=x3) h
  ·dsimp only [go_sem];refine Zu2 7 ?_;dsimp only [go_sem];refine An ?_;exact Za5 J1 (s:=false) h
def Zwi (_F:Nat):Bool→Option Bool
| x4=>
 some x4
theorem Zxi {F:Nat}:∀s,ole (Zwi F s) (Zti s):=by
 intro x4
 unfold Zwi Zti
 try dsimp only
 with_reducible repeat' first | exact Zr4 _ | assumption | intro _ | refine Zs4 ?_ ?_ | refine Zt4 ?_ ?_ | refine Zu4 ?_ | refine Zw4 ?_
def Zyi (F:Nat) (x1:Sess) (x2:Int):Option Bool:=
 ifb (decide (x1.State=1)) (
 (Zlc F x1.Need x2).bind fun x3=>
 Zwi F x3) (
 Zwi F false)
theorem Zzi {F:Nat} {x1:Sess} {x2:Int}:ole (Zyi F x1 x2) (Zui x1 x2):=by
 unfold Zyi Zui
 with_reducible repeat' first | exact Zr4 _ | assumption | intro _ | refine Zs4 ?_ ?_ | refine Zt4 ?_ ?_ | refine Zu4 ?_ | refine Zw4 ?_ | apply Zxi | apply Zmc
set_option maxRecDepth 100000
set_option maxHeartbeats 4000000
@[go_sem] def e29:EC:=.seq (.reg [(Qx 3 30 1 0),(Qx 5 3 1 2),(Qa 6 (.mv (.c .ff)))]) (.seq (.reg [(Qe 7 1 3),(Qm 8 1),(Qa 9 (.call 24 [(.t 7),(.t 8)])),(Qm 10 9),(Qh 11 10 true 0 3),(Qn 12 10 true 11),(Qg 13 10 true (.mv (.t 1))),(Qg 14 10 true (.idx 3 (.t 12) (.t 13))),(Qh 15 10 true 0 14),(Qh 16 10 true 1 15),(Qn 17 10 true 16),(Qg 18 10 true (.mkf 56 [(.t 5)])),(Qg 19 10 true (.call 55 [(.t 17),(.t 18)])),(Qp 20 10 19),(Qm 6 20)]) (.ret))
theorem ok29:FnOK Try.prog 29 Try.f29 e29 [.t 6] 3 18:=⟨by kernel_rfl,⟨_,rfl,by kernel_rfl⟩,by kernel_rfl,by kernel_rfl⟩
noncomputable def Z0j:Bool→Option Bool
| x7=>
 some x7
noncomputable def Z1j (x1:Model) (x2:Int) (x3:Int):Option Bool:=
 (Zgh x1 x2).bind fun x4=>
 ifb x4 (
 (at_ x1.Places x2).bind fun x5=>
 (Zt7 x5.Book.Sess ((fun z=>Zui z x3))).bind fun x6=>
 Z0j x6) (
 Z0j false)
theorem Z2j (x1:Model) (x2:Int) (x3:Int) (r:Bool) (h:Z1j x1 x2 x3=some r):Zz2 Try.prog 29 [.agg (Model.row x1),.iv x2,.iv x3] (.bv r):=by
 refine Z33 ok29 rfl rfl fun w0 H0=>?_
 rw [Z1j] at h
 refine Zu2 10 ?_;dsimp only [go_sem];refine An ?_;obtain ⟨x4,ex4,h⟩:=Bs h;refine Z83 trivial (Zhh x1 x2 _ ex4) (h:=?_);refine Zu2 1 ?_;dsimp only [go_sem];refine An ?_;refine Zy4 (fun (x7:Bool)=>(⟨(an 6 (.bv x7::an 14 [])),[],[]⟩:St)) Z0j r ?_ fun J1=>?_
 ·intro x7 h;rw [Z0j] at h;(try dsimp only);exact Z85 (res:=fun (r:Bool)=>.bv r) ok29 h
 ·refine Z75 10 h rfl (fun _ h=>?_) fun _ h=>?_
  ·dsimp only [go_sem];refine Zu2 3 ?_;dsimp only [go_sem];refine An ?_;obtain ⟨x5,ex5,h⟩:=Bs h;refine Z35 Place.row ex5 trivial rfl rfl rfl ?_;refine Zu2 4 ?_;dsimp only [go_sem];refine An ?_;obtain ⟨x6,ex6,h⟩:=Bs h;refine Zc5 trivial ((Zb5.refl _).block 1 rfl rfl) (Zu7 x5.Book.Sess _ _ ((fun z=>Zui z x3)) ⟨by kernel_rfl,rfl,fun z r hz=>Zvi z x3 r hz⟩ _ ex6) (h:=?_);refine Zu2 3 ?_;dsimp only [go_sem];refine An ?_;exact Za5 J1 (s:=x6) h
  ·dsimp only [go_sem];refine Zu2 12 ?_;dsimp only [go_sem];refine An ?_;exact Za5 J1 (s:=false) h
def Z3j (_F:Nat):Bool→Option Bool
| x7=>
 some x7
theorem Z4j {F:Nat}:∀s,ole (Z3j F s) (Z0j s):=by
 intro x7
 unfold Z3j Z0j
 try dsimp only
 with_reducible repeat' first | exact Zr4 _ | assumption | intro _ | refine Zs4 ?_ ?_ | refine Zt4 ?_ ?_ | refine Zu4 ?_ | refine Zw4 ?_
def Z5j (F:Nat) (x1:Model) (x2:Int) (x3:Int):Option Bool:=
 (Zkh F x1 x2).bind fun x4=>
 ifb x4 (
 (at_ x1.Places x2).bind fun x5=>
 (Zv7 F x5.Book.Sess ((fun z=>Zyi F z x3))).bind fun x6=>
 Z3j F x6) (
 Z3j F false)
theorem Z6j {F:Nat} {x1:Model} {x2:Int} {x3:Int}:ole (Z5j F x1 x2 x3) (Z1j x1 x2 x3):=by
 unfold Z5j Z1j
 with_reducible repeat' first | exact Zr4 _ | assumption | intro _ | refine Zs4 ?_ ?_ | refine Zt4 ?_ ?_ | refine Zu4 ?_ | refine Zw4 ?_ | apply Z4j | apply Zlh | apply Zw7 | apply Zzi
set_option maxRecDepth 100000
set_option maxHeartbeats 4000000
@[go_sem] def e26:EC:=.seq (.reg [(Qx 2 30 1 0),(Qx 3 41 5 1),(Qa 4 (.mv (.c .nl))),(Qi 5 0)]) (.seq (.reg [(Qf 10 0 2),(Ql 11 10),(Qf 12 1 3),(Ql 13 12),(Qk 14 3 11 13),(Qf 15 2 14),(Ql 16 15),(Qm 6 16)]) (.seq (.drw [(Qe 17 1 2),(Qf 18 1 3),(Ql 19 18),(Qf 20 3 3),(Ql 21 20),(Qa 22 (.call 47 [(.t 17),(.t 19),(.t 21)])),(Qe 23 1 2),(Qf 24 3 3),(Ql 25 24),(Qf 26 1 3),(Ql 27 26),(Qa 28 (.call 47 [(.t 23),(.t 25),(.t 27)])),(Qm 7 22),(Qm 8 28)] [[],[],[1],[],[3],[0,2,4],[],[],[7],[],[9],[6,8,10,5],[5,11,0,1,2,3,4,5],[11,12,0,1,2,3,4,5,6,7,8,9,10,11,12]] [[5],[2],[1,5],[4],[3,5],[0,2,4,12],[11],[8],[7,11],[10],[9,11],[6,8,10,13],[5],[11]]) (.seq (.reg [(Qa 9 (.mv (.c .ff)))]) (.seq (.seq (.reg [(Qf 29 0 3),(Ql 30 29)]) (.blk 0 (.seq (.reg [(Qa 32 (.bin .eql (.t 30) (.c (.iv 6)))),(Qm 31 32)]) (.ite (.t 31) (.seq (.reg [(Qm 33 7),(Qa 34 (.not (.t 33))),(Qm 35 34),(Qg 36 35 true (.mv (.t 8))),(Qh 37 35 true 3 3),(Qn 38 35 true 37),(Qh 39 35 true 1 3),(Qn 40 35 true 39),(Qg 41 35 true (.bin .gtr (.t 38) (.t 40))),(Qg 42 35 true (.bq false (.t 36) (.t 41))),(Qp 43 35 42),(Qm 9 43)]) (.reg [(Qm 44 6),(Qf 45 3 3),(Ql 46 45),(Qa 47 (.call 48 [(.t 44),(.t 46)])),(Qm 6 47)])) (.seq (.reg [(Qa 49 (.bin .eql (.t 30) (.c (.iv 7)))),(Qm 48 49)]) (.ite (.t 48) (.seq (.reg [(Qm 50 7),(Qm 51 50),(Qh 52 51 true 3 3),(Qn 53 51 true 52),(Qh 54 51 true 1 3),(Qn 55 51 true 54),(Qg 56 51 true (.bin .gtr (.t 53) (.t 55))),(Qg 57 51 true (.mv (.t 56))),(Qg 58 57 false (.mv (.t 8))),(Qg 59 57 false (.not (.t 58))),(Qg 60 51 true (.pick (.t 57) (.c .tt) (.t 59))),(Qp 61 51 60),(Qm 9 61)]) (.reg [(Qm 62 6),(Qf 63 3 3),(Ql 64 63),(Qa 65 (.call 49 [(.t 62),(.t 64)])),(Qm 6 65)])) (.seq (.reg [(Qa 67 (.bin .eql (.t 30) (.c (.iv 8)))),(Qm 66 67)]) (.ite (.t 66) (.reg [(Qf 68 3 3),(Ql 69 68),(Qf 70 1 3),(Ql 71 70),(Qa 72 (.bin .gtr (.t 69) (.t 71))),(Qm 73 72),(Qg 74 73 true (.mv (.t 7))),(Qg 75 73 true (.not (.t 74))),(Qp 76 73 75),(Qm 77 76),(Qg 78 77 true (.mv (.t 8))),(Qg 79 77 true (.not (.t 78))),(Qp 80 77 79),(Qm 81 80),(Qg 82 81 true (.loadA 1 (.t 2))),(Qh 83 81 true 1 3),(Qn 84 81 true 83),(Qh 85 81 true 3 3),(Qn 86 81 true 85),(Qg 87 81 true (.call 29 [(.t 82),(.t 84),(.t 86)])),(Qg 88 81 true (.not (.t 87))),(Qp 89 81 88),(Qm 90 89),(Qg 91 90 true (.loadA 1 (.t 2))),(Qh 92 90 true 3 3),(Qn 93 90 true 92),(Qh 94 90 true 1 3),(Qn 95 90 true 94),(Qg 96 90 true (.call 29 [(.t 91),(.t 93),(.t 95)])),(Qg 97 90 true (.not (.t 96))),(Qp 98 90 97),(Qm 9 98)]) (.skip))))))))) (.seq (.seq (.reg [(Qm 99 9),(Qa 100 (.not (.t 99)))]) (.ite (.t 100) (.seq (.reg [(Qa 4 (.mv (.c .nl))),(Qi 5 206)]) (.ret)) (.skip))) (.seq (.reg [(Qm 101 6),(Qm 4 101),(Qi 5 0)]) (.ret)))))))
theorem ok26:FnOK Try.prog 26 Try.f26 e26 [.t 4,.t 5] 2 100:=⟨by kernel_rfl,⟨_,rfl,by kernel_rfl⟩,by kernel_rfl,by kernel_rfl⟩
set_option maxRecDepth 100000
set_option maxHeartbeats 4000000
@[go_sem] def e70:EC:=.seq (.reg [(Qa 4 (.mv (.c .ff)))]) (.seq (.reg [(Qe 5 1 1),(Qm 6 0),(Qf 7 1 2),(Ql 8 7),(Qa 9 (.call 29 [(.t 5),(.t 6),(.t 8)])),(Qm 4 9)]) (.ret))
theorem ok70:FnOK Try.prog 70 Try.f70 e70 [.t 4] 3 7:=⟨by kernel_rfl,⟨_,rfl,by kernel_rfl⟩,by kernel_rfl,by kernel_rfl⟩
noncomputable def Z7j (x1:Int) (x2:Model) (x3:Event):Option Bool:=
 (Z1j x2 x1 x3.Node).bind fun x4=>
 some x4
theorem Z8j (x1:Int) (x2:Model) (x3:Event) (r:Bool) (h:Z7j x1 x2 x3=some r):Zz2 Try.prog 70 [.iv x1,.elt (Model.row x2) 0,.elt (Event.row x3) 0] (.bv r):=by
 refine Z33 ok70 rfl rfl fun w0 H0=>?_
 rw [Z7j] at h
 refine Zu2 10 ?_;dsimp only [go_sem];refine An ?_;obtain ⟨x4,ex4,h⟩:=Bs h;refine Z83 trivial (Z2j x2 x1 x3.Node _ ex4) (h:=?_);refine Zu2 2 ?_;dsimp only [go_sem];refine An ?_;exact Z85 (res:=fun (r:Bool)=>.bv r) ok70 h
def Z9j (F:Nat) (x1:Int) (x2:Model) (x3:Event):Option Bool:=
 (Z5j F x2 x1 x3.Node).bind fun x4=>
 some x4
theorem Zaj {F:Nat} {x1:Int} {x2:Model} {x3:Event}:ole (Z9j F x1 x2 x3) (Z7j x1 x2 x3):=by
 unfold Z9j Z7j
 with_reducible repeat' first | exact Zr4 _ | assumption | intro _ | refine Zs4 ?_ ?_ | refine Zt4 ?_ ?_ | refine Zu4 ?_ | refine Zw4 ?_ | apply Z6j
set_option maxRecDepth 100000
set_option maxHeartbeats 4000000
@[go_sem] def e51:EC:=.seq (.reg [(Qx 2 30 1 0),(Qx 3 41 5 1),(Qa 4 (.alloc 49 [.iv 0,.nl])),(Qi 5 0)]) (.seq (.reg [(Qf 10 0 2),(Ql 11 10),(Qf 12 1 3),(Ql 13 12),(Qk 14 3 11 13),(Qf 15 0 14),(Qe 16 2 15),(Qa 17 (.call 69 [(.t 16)])),(Qm 9 17),(Qa 18 (.ext (.t 9) 0)),(Qa 19 (.ext (.t 9) 1)),(Qa 20 (.ext (.t 9) 2)),(Qa 6 (.alloc 49 [.iv 0,.nl])),(Qs 2 6 18),(Qm 7 19),(Qm 8 20)]) (.seq (.seq (.reg [(Qm 21 8),(Qa 22 (.bin .neq (.t 21) (.c (.iv 0)))),(Qm 23 22),(Qg 24 23 false (.mv (.t 7))),(Qh 25 23 false 2 3),(Qn 26 23 false 25),(Qg 27 23 false (.bin .neq (.t 24) (.t 26))),(Qq 28 23 27),(Qm 29 28),(Qh 30 29 false 1 6),(Qn 31 29 false 30),(Qg 32 29 false (.idx 4 (.t 31) (.c (.iv 0)))),(Qh 33 29 false 1 32),(Qn 34 29 false 33),(Qg 35 29 false (.mkf 70 [(.t 2),(.t 3)])),(Qg 36 29 false (.call 33 [(.t 34),(.t 35)])),(Qq 37 29 36)]) (.ite (.t 37) (.seq (.reg [(Qa 38 (.build [.iv 0,.nl] [])),(Qs 2 4 38),(Qi 5 203)]) (.ret)) (.skip))) (.seq (.reg [(Qe 39 2 6),(Qs 2 4 39),(Qi 5 0)]) (.ret))))
theorem ok51:FnOK Try.prog 51 Try.f51 e51 [.c 4 (some 2),.t 5] 2 38:=⟨by kernel_rfl,⟨_,rfl,by kernel_rfl⟩,by kernel_rfl,by kernel_rfl⟩
set_option maxRecDepth 100000
set_option maxHeartbeats 4000000
@[go_sem] def e27:EC:=.seq (.reg [(Qx 2 30 1 0),(Qx 3 41 5 1),(Qa 4 (.alloc 49 [.iv 0,.nl])),(Qi 5 0)]) (.seq (.reg [(Qf 7 0 2),(Ql 8 7),(Qf 9 1 3),(Ql 10 9),(Qk 11 3 8 10),(Qf 12 0 11),(Qe 13 2 12),(Qs 2 4 13)]) (.seq (.reg [(Qe 14 1 2),(Qf 15 1 3),(Ql 16 15),(Qa 17 (.call 16 [(.t 14),(.t 16)])),(Qm 6 17)]) (.seq (.seq (.reg [(Qf 18 0 3),(Ql 19 18)]) (.blk 0 (.seq (.blk 6 (.seq (.blk 5 (.seq (.blk 4 (.blk 3 (.seq (.blk 2 (.seq (.blk 1 (.seq (.seq (.seq (.reg [(Qa 21 (.bin .eql (.t 19) (.c (.iv 0)))),(Qm 20 21)]) (.ite (.t 20) (.exit 1) (.skip))) (.seq (.seq (.reg [(Qa 23 (.bin .eql (.t 19) (.c (.iv 1)))),(Qm 22 23)]) (.ite (.t 22) (.exit 2) (.skip))) (.seq (.seq (.reg [(Qa 25 (.bin .eql (.t 19) (.c (.iv 2)))),(Qm 24 25)]) (.ite (.t 24) (.exit 3) (.skip))) (.seq (.seq (.reg [(Qa 27 (.bin .eql (.t 19) (.c (.iv 4)))),(Qm 26 27)]) (.ite (.t 26) (.exit 4) (.skip))) (.seq (.seq (.reg [(Qa 29 (.bin .eql (.t 19) (.c (.iv 5)))),(Qm 28 29)]) (.ite (.t 28) (.exit 5) (.skip))) (.seq (.reg [(Qa 31 (.bin .eql (.t 19) (.c (.iv 3)))),(Qm 30 31)]) (.ite (.t 30) (.exit 6) (.skip)))))))) (.exit 0))) (.seq (.seq (.reg [(Qe 33 2 4),(Qf 34 2 3),(Ql 35 34),(Qf 36 4 3),(Ql 37 36),(Qa 38 (.call 50 [(.t 33),(.t 35),(.t 37)])),(Qm 32 38),(Qa 39 (.ext (.t 32) 0)),(Qa 40 (.ext (.t 32) 1)),(Qs 2 4 39),(Qm 5 40)]) (.seq (.seq (.drw [(Qm 41 5),(Qa 42 (.bin .eql (.t 41) (.c (.iv 0)))),(Qm 43 42),(Qh 44 43 true 4 3),(Qn 45 43 true 44),(Qh 46 43 true 0 2),(Qn 47 43 true 46),(Qh 48 43 true 1 3),(Qn 49 43 true 48),(Qg 50 43 true (.idx 3 (.t 47) (.t 49))),(Qh 51 43 true 2 50),(Qn 52 43 true 51),(Qg 53 43 true (.call 35 [(.t 45),(.t 52)])),(Qg 54 43 true (.not (.t 53))),(Qp 55 43 54)] [[],[0],[1],[2],[3,2],[2],[5,2],[2],[7,2],[6,8,2],[9,2],[10,2],[4,11,2,2],[12,2],[2,13]] [[1],[0,2],[1,3,4,5,6,7,8,9,10,11,12,13,14],[2,4],[2,3,12],[2,6],[2,5,9],[2,8],[2,7,9],[2,6,8,10],[2,9,11],[2,10,12],[2,4,11,13],[2,12,14],[2,13]]) (.ite (.t 55) (.seq (.reg [(Qa 56 (.build [.iv 0,.nl] [])),(Qs 2 4 56),(Qi 5 202)]) (.ret)) (.skip))) (.seq (.reg [(Qe 57 2 4),(Qm 58 5),(Qs 2 4 57),(Qm 5 58)]) (.ret)))) (.exit 0)))) (.seq (.seq (.reg [(Qe 59 1 2),(Qe 60 5 3),(Qa 61 (.call 51 [(.t 59),(.t 60)])),(Qa 62 (.ext (.t 61) 0)),(Qa 63 (.ext (.t 61) 1)),(Qs 2 4 62),(Qm 5 63)]) (.ret)) (.exit 0))))) (.seq (.reg [(Qe 65 2 4),(Qf 66 2 3),(Ql 67 66),(Qa 68 (.call 52 [(.t 65),(.t 67)])),(Qm 64 68),(Qa 69 (.ext (.t 64) 0)),(Qa 70 (.ext (.t 64) 1)),(Qs 2 4 69),(Qm 5 70)]) (.exit 0)))) (.seq (.reg [(Qm 71 6),(Qf 72 2 3),(Ql 73 72),(Qa 74 (.call 53 [(.t 71),(.t 73)])),(Qa 75 (.not (.t 74)))]) (.ite (.t 75) (.seq (.reg [(Qa 76 (.build [.iv 0,.nl] [])),(Qs 2 4 76),(Qi 5 205)]) (.ret)) (.skip))))) (.seq (.reg [(Qe 78 2 4),(Qf 79 2 3),(Ql 80 79),(Qa 81 (.call 54 [(.t 78),(.t 80)])),(Qm 77 81),(Qa 82 (.ext (.t 77) 0)),(Qa 83 (.ext (.t 77) 1)),(Qs 2 4 82),(Qm 5 83)]) (.exit 0))))) (.seq (.seq (.reg [(Qm 84 5),(Qa 85 (.bin .neq (.t 84) (.c (.iv 0))))]) (.ite (.t 85) (.seq (.reg [(Qa 86 (.build [.iv 0,.nl] [])),(Qs 2 4 86),(Qi 5 204)]) (.ret)) (.skip))) (.seq (.reg [(Qe 87 2 4),(Qs 2 4 87),(Qi 5 0)]) (.ret))))))
theorem ok27:FnOK Try.prog 27 Try.f27 e27 [.c 4 (some 2),.t 5] 2 86:=⟨by kernel_rfl,⟨_,rfl,by kernel_rfl⟩,by kernel_rfl,by kernel_rfl⟩
set_option maxRecDepth 100000
set_option maxHeartbeats 4000000
@[go_sem] def e11:EC:=.seq (.reg [(Qx 2 30 1 0),(Qx 3 41 5 1),(Qa 4 (.alloc 30 [.nl])),(Qi 5 0)]) (.seq (.reg [(Qe 9 1 2),(Qa 10 (.call 14 [(.t 9)])),(Qm 6 10)]) (.seq (.reg [(Qf 11 0 3),(Ql 12 11),(Qa 13 (.bin .eql (.t 12) (.c (.iv 6)))),(Qm 14 13),(Qh 15 14 false 0 3),(Qn 16 14 false 15),(Qg 17 14 false (.bin .eql (.t 16) (.c (.iv 7)))),(Qq 18 14 17),(Qm 19 18),(Qh 20 19 false 0 3),(Qn 21 19 false 20),(Qg 22 19 false (.bin .eql (.t 21) (.c (.iv 8)))),(Qq 23 19 22),(Qm 7 23)]) (.seq (.blk 0 (.seq (.reg [(Qm 25 6),(Qa 26 (.bin .neq (.t 25) (.c (.iv 0)))),(Qm 24 26)]) (.ite (.t 24) (.skip) (.seq (.reg [(Qe 28 1 2),(Qf 29 1 3),(Ql 30 29),(Qa 31 (.call 24 [(.t 28),(.t 30)])),(Qa 32 (.not (.t 31))),(Qm 33 32),(Qg 34 33 false (.mv (.t 7))),(Qg 35 33 false (.mv (.t 34))),(Qg 36 35 true (.loadA 1 (.t 2))),(Qh 37 35 true 3 3),(Qn 38 35 true 37),(Qg 39 35 true (.call 24 [(.t 36),(.t 38)])),(Qg 40 35 true (.not (.t 39))),(Qg 41 35 true (.mv (.t 40))),(Qh 42 41 false 3 3),(Qn 43 41 false 42),(Qh 44 41 false 1 3),(Qn 45 41 false 44),(Qg 46 41 false (.bin .eql (.t 43) (.t 45))),(Qg 47 35 true (.pick (.t 41) (.c .tt) (.t 46))),(Qg 48 33 false (.pick (.t 35) (.t 47) (.c .ff))),(Qq 49 33 48),(Qm 27 49)]) (.ite (.t 27) (.reg [(Qi 6 201)]) (.seq (.reg [(Qf 51 0 3),(Ql 52 51),(Qa 53 (.bin .neq (.t 52) (.c (.iv 5)))),(Qm 54 53),(Qg 55 54 true (.loadA 1 (.t 2))),(Qh 56 54 true 1 3),(Qn 57 54 true 56),(Qg 58 54 true (.call 16 [(.t 55),(.t 57)])),(Qg 59 54 true (.len (.t 58))),(Qg 60 54 true (.bin .gtr (.t 59) (.c (.iv 0)))),(Qp 61 54 60),(Qm 50 61)]) (.ite (.t 50) (.reg [(Qi 6 205)]) (.seq (.reg [(Qf 63 0 3),(Ql 64 63),(Qa 65 (.bin .lss (.t 64) (.c (.iv 0)))),(Qm 66 65),(Qh 67 66 false 0 3),(Qn 68 66 false 67),(Qg 69 66 false (.bin .gtr (.t 68) (.c (.iv 8)))),(Qq 70 66 69),(Qm 62 70)]) (.ite (.t 62) (.reg [(Qi 6 207)]) (.skip)))))))))) (.seq (.seq (.reg [(Qm 71 6),(Qa 72 (.bin .neq (.t 71) (.c (.iv 0))))]) (.ite (.t 72) (.seq (.reg [(Qa 73 (.build [.nl] [])),(Qm 74 6),(Qs 1 4 73),(Qm 5 74)]) (.ret)) (.skip))) (.seq (.reg [(Qe 75 1 2),(Qa 76 (.call 25 [(.t 75)])),(Qs 1 2 76)]) (.seq (.reg [(Qf 77 0 2),(Ql 78 77),(Qf 79 1 3),(Ql 80 79),(Qk 81 3 78 80),(Qm 8 81)]) (.seq (.seq (.reg [(Qm 82 7)]) (.ite (.t 82) (.reg [(Qm 84 8),(Qe 85 1 2),(Qe 86 5 3),(Qa 87 (.call 26 [(.t 85),(.t 86)])),(Qm 83 87),(Qa 88 (.ext (.t 83) 0)),(Qa 89 (.ext (.t 83) 1)),(Qa 90 (.nilchk (.t 84))),(Qf 91 2 90),(Qs 1 91 88),(Qm 6 89)]) (.reg [(Qm 93 8),(Qe 94 1 2),(Qe 95 5 3),(Qa 96 (.call 27 [(.t 94),(.t 95)])),(Qm 92 96),(Qa 97 (.ext (.t 92) 0)),(Qa 98 (.ext (.t 92) 1)),(Qa 99 (.nilchk (.t 93))),(Qf 100 0 99),(Qs 2 100 97),(Qm 6 98)]))) (.seq (.seq (.reg [(Qm 101 6),(Qa 102 (.bin .neq (.t 101) (.c (.iv 0))))]) (.ite (.t 102) (.seq (.reg [(Qa 103 (.build [.nl] [])),(Qm 104 6),(Qs 1 4 103),(Qm 5 104)]) (.ret)) (.skip))) (.seq (.reg [(Qe 105 1 2),(Qs 1 4 105),(Qi 5 0)]) (.ret))))))))))
theorem ok11:FnOK Try.prog 11 Try.f11 e11 [.c 4 (some 1),.t 5] 2 104:=⟨by kernel_rfl,⟨_,rfl,by kernel_rfl⟩,by kernel_rfl,by kernel_rfl⟩
noncomputable def Zbj:(List Place)→Option (List Place)
| x68=>
 some x68
noncomputable def Zcj (x32:Int) (x38:(List Place)) (x40:Place):(List Sess)→Option ((Int×(List Place)) ⊕ (List Place))
| x62=>
 some (.inl (wr (x32+1),x38.set (Int.toNat (x32)) ((Place.mk ((Book.mk x40.Book.Last x62)) x40.Live))))
noncomputable def Zdj (x47:Int):(List Sess)→Option ((Int×(List Sess)) ⊕ ((Int×(List Place)) ⊕ (List Place)))
| x52=>
 some (.inl (wr (x47+1),x52))
noncomputable def Zej (x32:Int) (x38:(List Place)) (x39:(List Sess)) (x40:Place):(Int×(List Sess))→Option ((Int×(List Sess)) ⊕ ((Int×(List Place)) ⊕ (List Place)))
| (x47,x48)=>
 ifb (decide (x47<(ln Sess.row x39))) (
 (at_ x48 x47).bind fun x49=>
 (Zi9 x49.Need).bind fun x50=>
 (Zdj x47) (x48.set (Int.toNat (x47)) ((Sess.mk x49.ID x50 x49.State x49.Age)))) (
 Option.map Sum.inr ((Zcj x32 x38 x40) x48))
noncomputable def Zfj (x32:Int):((List Place)×(List Sess))→Option ((Int×(List Place)) ⊕ (List Place))
| (x38,x39)=>
 (at_ x38 x32).bind fun x40=>
 loop (Zej x32 x38 x39 x40) (0,x39)
noncomputable def Zgj (x2:(List Place)):(Int×(List Place))→Option ((Int×(List Place)) ⊕ (List Place))
| (x32,x33)=>
 ifb (decide (x32<(ln Place.row x2))) (
 (at_ x33 x32).bind fun x34=>
 (Zi9 x34.Live).bind fun x35=>
 (Zte x34.Book.Sess).bind fun x37=>
 (Zfj x32) (x33.set (Int.toNat (x32)) ((Place.mk x34.Book x35)),x37)) (
 Option.map Sum.inr (Zbj x33))
noncomputable def Zhj (x1:Model):Option (List Place):=
 (Zmi x1.Places).bind fun x2=>
 loop (Zgj x2) (0,x2)
theorem Zij (x1:Model) (r:(List Place)) (h:Zhj x1=some r):FunT Try.prog 25 [.agg [.sl 3 (List.map Place.row x1.Places)]] [none,none,none] [] (.agg [.osl 0]) [none,none,none] [some ⟨51,3,List.map Place.row r⟩]:=by
 refine Z86 ok25 rfl rfl rfl (by first | rfl | simp [go_sem]) fun w0 M0=>?_
 rw [Zhj] at h
 dsimp only [lun,List.cons_append,List.nil_append]
 refine Zu2 9 ?_;dsimp only [go_sem];refine An ?_;obtain ⟨x2,ex2,h⟩:=Bs h;refine Zn5 trivial (Zni x1.Places _ ex2) (h:=?_);refine Zu2 11 ?_;dsimp only [go_sem];refine An ?_;refine Zy4 (fun (x68:(List Place))=>(⟨(.any :: .ptr 3 0 :: .ptr 4 0::an 65 []),[none,none,none,some ⟨30,[.osl 0]⟩,some ⟨30,[.nl]⟩],[some ⟨51,3,List.map Place.row x68⟩]⟩:St)) Zbj r ?_ fun J1=>?_
 ·intro x68 h;rw [Zbj] at h;(try dsimp only);refine Zu2 5 ?_;dsimp only [go_sem];refine An ?_;obtain rfl:=Option.some.inj h;exact Z96 ok25 rfl (by simp [go_sem])
 ·refine Zu2 1 ?_;dsimp only [go_sem];refine An ?_;refine Zz4 h (fun ((x32,x33):(Int×(List Place)))=>(⟨(.any :: .ptr 3 0 :: .ptr 4 0::an 9 (.iv (ln Place.row x2) :: .iv x32::an 54 [])),[none,none,none,some ⟨30,[.osl 0]⟩,some ⟨30,[.nl]⟩],[some ⟨51,3,List.map Place.row x33⟩]⟩:St)) (by simp [go_sem]) (by rintro ⟨x32,x33⟩;first | rfl | simp [go_sem]) ?_;rintro n1 ⟨x32,x33⟩ y1 h hin1 hout1;rw [Zgj] at h;(try dsimp only);refine Zu2 5 ?_;dsimp only [go_sem];refine An ?_;refine Z05 h rfl (fun _ h=>?_) fun _ h=>?_
  ·refine Zu2 13 ?_;dsimp only [go_sem];refine An ?_;obtain ⟨x34,ex34,h⟩:=Bs h;refine Zw5 Place.row ex34 trivial rfl rfl rfl ?_;refine Zu2 3 ?_;dsimp only [go_sem];refine An ?_
   refine Zy4 (fun ((x38,x39):((List Place)×(List Sess)))=>(⟨(.any :: .ptr 3 0 :: .ptr 4 0 :: .any :: .oel 0 (Int.toNat (x32)*3) 0::an 7 (.iv (ln Place.row x2) :: .iv x32::an 54 [])),[none,none,none,some ⟨30,[.osl 0]⟩,some ⟨30,[.nl]⟩],[some ⟨51,3,fixR (List.map Place.row x38) (Int.toNat (x32)) 1 1⟩,some ⟨76,4,List.map Sess.row x39⟩]⟩:St)) (Zfj x32) y1 ?_ fun J2=>?_
   ·rintro ⟨x38,x39⟩ h;rw [Zfj] at h;(try dsimp only);refine Zu2 6 ?_;dsimp only [go_sem];refine An ?_;obtain ⟨x40,ex40,h⟩:=Bs h;refine V_loadN Place.row ex40 trivial rfl rfl rfl ?_;refine Zu2 3 ?_;dsimp only [go_sem];refine An ?_
    refine Zy4 (fun (x62:(List Sess))=>(⟨(.any :: .ptr 3 0 :: .ptr 4 0::an 9 (.iv (ln Place.row x2) :: .iv x32::an 54 [])),[none,none,none,some ⟨30,[.osl 0]⟩,some ⟨30,[.nl]⟩],[some ⟨51,3,fixR (List.map Place.row x38) (Int.toNat (x32)) 1 1⟩,some ⟨76,4,List.map Sess.row x62⟩]⟩:St)) (Zcj x32 x38 x40) y1 ?_ fun J3=>?_
    ·intro x62 h;rw [Zcj] at h;(try dsimp only);refine Zu2 5 ?_;dsimp only [go_sem];refine An ?_;refine V_sealN 0 1 (f:=Place.row) ((Place.mk ((Book.mk x40.Book.Last x62)) x40.Live)) ex40 rfl rfl rfl rfl rfl ?_;dsimp only [go_sem];exact Z95 h hin1
    ·refine Zu2 1 ?_;dsimp only [go_sem];refine An ?_;refine Zz4 h (fun ((x47,x48):(Int×(List Sess)))=>(⟨(.any :: .ptr 3 0 :: .ptr 4 0 :: .any :: .oel 0 (Int.toNat (x32)*3) 0::an 7 (.iv (ln Place.row x2) :: .iv x32::an 29 (.iv (ln Sess.row x39) :: .iv x47::an 23 []))),[none,none,none,some ⟨30,[.osl 0]⟩,some ⟨30,[.nl]⟩],[some ⟨51,3,fixR (List.map Place.row x38) (Int.toNat (x32)) 1 1⟩,some ⟨76,4,List.map Sess.row x48⟩]⟩:St)) (by simp [go_sem]) (by rintro ⟨x47,x48⟩;first | rfl | simp [go_sem]) ?_;rintro n2 ⟨x47,x48⟩ y2 h hin2 hout2
     rw [Zej] at h;(try dsimp only);refine Zu2 5 ?_;dsimp only [go_sem];refine An ?_;refine Z05 h rfl (fun _ h=>?_) fun _ h=>?_
     ·refine Zu2 8 ?_;dsimp only [go_sem];refine An ?_;refine Zy4 (fun (x52:(List Sess))=>(⟨(.any :: .ptr 3 0 :: .ptr 4 0 :: .any :: .oel 0 (Int.toNat (x32)*3) 0::an 7 (.iv (ln Place.row x2) :: .iv x32::an 29 (.iv (ln Sess.row x39) :: .iv x47::an 23 []))),[none,none,none,some ⟨30,[.osl 0]⟩,some ⟨30,[.nl]⟩],[some ⟨51,3,fixR (List.map Place.row x38) (Int.toNat (x32)) 1 1⟩,some ⟨76,4,List.map Sess.row x52⟩]⟩:St)) (Zdj x47) y2 ?_ fun J4=>?_
      ·intro x52 h;rw [Zdj] at h;(try dsimp only);refine Zu2 5 ?_;dsimp only [go_sem];refine An ?_;exact Z95 h hin2
      ·refine Zu3 (by kernel_rfl) fun all hall hs hnap haf=>?_;dsimp only [go_sem];refine Zu5 hall hs haf hnap 10 9 [4,1,5,1,1,7] [(47,[.oel 0 (Int.toNat (x32)*3) 0,.oel 0 (Int.toNat (x32)*3) 0,.oel 0 (Int.toNat (x32)*3) 0,.oel 0 (Int.toNat (x32)*3) 1]),(1,[.iv x47,.oel 0 (Int.toNat (x32)*3) 0,.oel 0 (Int.toNat (x32)*3) 0,.oel 0 (Int.toNat (x32)*3) 0,.oel 0 (Int.toNat (x32)*3) 1]),(1,[.iv x47])] (by kernel_rfl) ?_;dsimp only [go_sem];refine Z64 4 10 rfl ?_ ?_
       ·refine Z47 hall Place.row ex40 rfl trivial rfl rfl rfl ?_;dsimp only [go_sem];refine Z54 10 rfl ?_;refine Z47 hall Place.row ex40 rfl trivial rfl rfl rfl ?_;dsimp only [go_sem];obtain ⟨x49,ex49,h⟩:=Bs h;refine Z54 12 rfl ?_;refine Zb6 hall Sess.row ex49 rfl trivial rfl rfl rfl ?_;dsimp only [go_sem];refine Zt5 hall hs haf hnap 1 5 ?_;dsimp only [go_sem];refine An ?_;refine Z54 14 rfl ?_;refine Zc6 hall Sess.row ex49 rfl trivial rfl rfl rfl ?_;dsimp only [go_sem];refine Z54 15 rfl ?_;obtain ⟨x50,ex50,h⟩:=Bs h
        refine Zb4 hall rfl trivial (Zk9 x49.Need _ ex50) (h:=?_);dsimp only [go_sem];refine Z54 16 rfl ?_;refine Zb6 hall Sess.row ex49 rfl trivial rfl rfl rfl ?_;dsimp only [go_sem];refine Zt5 hall hs haf hnap 1 1 ?_;dsimp only [go_sem];refine An ?_;refine Z54 18 rfl ?_;refine Ze6 hall [.sl 1 (List.map Zf5 x50)] Sess.row (y':=(Sess.mk x49.ID x50 x49.State x49.Age)) ex49 rfl trivial rfl rfl rfl (by first | exact Zl4 _ | simp [go_sem]) rfl rfl rfl rfl ?_;dsimp only [go_sem];refine Z44 rfl ?_ _
        exact Za5 J4 (s:=x48.set (Int.toNat (x47)) ((Sess.mk x49.ID x50 x49.State x49.Age))) h
       ·refine Z47 hall Place.row ex40 rfl trivial rfl rfl rfl ?_;dsimp only [go_sem];obtain ⟨x49,ex49,h⟩:=Bs h;refine Z64 4 12 rfl ?_ ?_
        ·refine Z47 hall Place.row ex40 rfl trivial rfl rfl rfl ?_;dsimp only [go_sem];refine Z54 12 rfl ?_;refine Zb6 hall Sess.row ex49 rfl trivial rfl rfl rfl ?_;dsimp only [go_sem];refine Zt5 hall hs haf hnap 1 5 ?_;dsimp only [go_sem];refine An ?_;refine Z54 14 rfl ?_;refine Zc6 hall Sess.row ex49 rfl trivial rfl rfl rfl ?_;dsimp only [go_sem];refine Z54 15 rfl ?_;obtain ⟨x50,ex50,h⟩:=Bs h;refine Zb4 hall rfl trivial (Zk9 x49.Need _ ex50) (h:=?_);dsimp only [go_sem];refine Z54 16 rfl ?_
         refine Zb6 hall Sess.row ex49 rfl trivial rfl rfl rfl ?_;dsimp only [go_sem];refine Zt5 hall hs haf hnap 1 1 ?_;dsimp only [go_sem];refine An ?_;refine Z54 18 rfl ?_;refine Ze6 hall [.sl 1 (List.map Zf5 x50)] Sess.row (y':=(Sess.mk x49.ID x50 x49.State x49.Age)) ex49 rfl trivial rfl rfl rfl (by first | exact Zl4 _ | simp [go_sem]) rfl rfl rfl rfl ?_;dsimp only [go_sem];refine Z44 rfl ?_ _;exact Za5 J4 (s:=x48.set (Int.toNat (x47)) ((Sess.mk x49.ID x50 x49.State x49.Age))) h
        ·refine Zb6 hall Sess.row ex49 rfl trivial rfl rfl rfl ?_;dsimp only [go_sem];refine Zt5 hall hs haf hnap 1 6 ?_;dsimp only [go_sem];refine An ?_;refine Z64 4 14 rfl ?_ ?_
         ·refine Z47 hall Place.row ex40 rfl trivial rfl rfl rfl ?_;dsimp only [go_sem];refine Z54 14 rfl ?_;refine Zc6 hall Sess.row ex49 rfl trivial rfl rfl rfl ?_;dsimp only [go_sem];refine Z54 15 rfl ?_;obtain ⟨x50,ex50,h⟩:=Bs h;refine Zb4 hall rfl trivial (Zk9 x49.Need _ ex50) (h:=?_);dsimp only [go_sem];refine Z54 16 rfl ?_;refine Zb6 hall Sess.row ex49 rfl trivial rfl rfl rfl ?_;dsimp only [go_sem];refine Zt5 hall hs haf hnap 1 1 ?_;dsimp only [go_sem];refine An ?_;refine Z54 18 rfl ?_
          refine Ze6 hall [.sl 1 (List.map Zf5 x50)] Sess.row (y':=(Sess.mk x49.ID x50 x49.State x49.Age)) ex49 rfl trivial rfl rfl rfl (by first | exact Zl4 _ | simp [go_sem]) rfl rfl rfl rfl ?_;dsimp only [go_sem];refine Z44 rfl ?_ _;exact Za5 J4 (s:=x48.set (Int.toNat (x47)) ((Sess.mk x49.ID x50 x49.State x49.Age))) h
         ·refine Zc6 hall Sess.row ex49 rfl trivial rfl rfl rfl ?_;dsimp only [go_sem];obtain ⟨x50,ex50,h⟩:=Bs h;refine Z64 4 15 rfl ?_ ?_
          ·refine Z47 hall Place.row ex40 rfl trivial rfl rfl rfl ?_;dsimp only [go_sem];refine Z54 15 rfl ?_;refine Zb4 hall rfl trivial (Zk9 x49.Need _ ex50) (h:=?_);dsimp only [go_sem];refine Z54 16 rfl ?_;refine Zb6 hall Sess.row ex49 rfl trivial rfl rfl rfl ?_;dsimp only [go_sem];refine Zt5 hall hs haf hnap 1 1 ?_;dsimp only [go_sem];refine An ?_;refine Z54 18 rfl ?_
           refine Ze6 hall [.sl 1 (List.map Zf5 x50)] Sess.row (y':=(Sess.mk x49.ID x50 x49.State x49.Age)) ex49 rfl trivial rfl rfl rfl (by first | exact Zl4 _ | simp [go_sem]) rfl rfl rfl rfl ?_;dsimp only [go_sem];refine Z44 rfl ?_ _;exact Za5 J4 (s:=x48.set (Int.toNat (x47)) ((Sess.mk x49.ID x50 x49.State x49.Age))) h
          ·refine Zb4 hall rfl trivial (Zk9 x49.Need _ ex50) (h:=?_);dsimp only [go_sem];refine Z54 4 rfl ?_;refine Z47 hall Place.row ex40 rfl trivial rfl rfl rfl ?_;dsimp only [go_sem];refine Z54 16 rfl ?_;refine Zb6 hall Sess.row ex49 rfl trivial rfl rfl rfl ?_;dsimp only [go_sem];refine Zt5 hall hs haf hnap 1 1 ?_;dsimp only [go_sem];refine An ?_;refine Z54 18 rfl ?_
           refine Ze6 hall [.sl 1 (List.map Zf5 x50)] Sess.row (y':=(Sess.mk x49.ID x50 x49.State x49.Age)) ex49 rfl trivial rfl rfl rfl (by first | exact Zl4 _ | simp [go_sem]) rfl rfl rfl rfl ?_;dsimp only [go_sem];refine Z44 rfl ?_ _;exact Za5 J4 (s:=x48.set (Int.toNat (x47)) ((Sess.mk x49.ID x50 x49.State x49.Age))) h
     ·refine Zu2 1 ?_;dsimp only [go_sem];refine An ?_;exact Za5 J3 (s:=x48) (Zx4 h hout2)
   ·refine Zu3 (by kernel_rfl) fun all hall hs hnap haf=>?_;dsimp only [go_sem];refine Zu5 hall hs haf hnap 9 11 [5,2,4,9] [(20,[.oel 0 (Int.toNat (x32)*3) 0,.oel 0 (Int.toNat (x32)*3) 0,.oel 0 (Int.toNat (x32)*3) 0,.oel 0 (Int.toNat (x32)*3) 0,.oel 0 (Int.toNat (x32)*3) 2]),(2,[.oel 0 (Int.toNat (x32)*3) 0,.oel 0 (Int.toNat (x32)*3) 0,.oel 0 (Int.toNat (x32)*3) 0,.oel 0 (Int.toNat (x32)*3) 1])] (by kernel_rfl) ?_;dsimp only [go_sem];refine Z64 5 11 rfl ?_ ?_
    ·refine Zc6 hall Place.row ex34 rfl trivial rfl rfl rfl ?_;dsimp only [go_sem];obtain ⟨x35,ex35,h⟩:=Bs h;refine Z64 6 11 rfl ?_ ?_
     ·refine Zb4 hall rfl trivial (Zk9 x34.Live _ ex35) (h:=?_);dsimp only [go_sem];refine Z54 11 rfl ?_;refine Zc6 hall Place.row ex34 rfl trivial rfl rfl rfl ?_;dsimp only [go_sem];refine Z54 12 rfl ?_;obtain ⟨x37,ex37,h⟩:=Bs h;refine GO_callO hall rfl trivial (Zue x34.Book.Sess _ ex37) (h:=?_);dsimp only [go_sem];refine Zt5 hall hs haf hnap 2 5 ?_;dsimp only [go_sem];refine An ?_;refine Z54 15 rfl ?_
      refine Ze6 hall [.sl 1 (List.map Zf5 x35)] Place.row (y':=(Place.mk x34.Book x35)) ex34 rfl trivial rfl rfl rfl (by first | exact Zl4 _ | simp [go_sem]) rfl rfl rfl rfl ?_;dsimp only [go_sem];refine Zt5 hall hs haf hnap 3 1 ?_;dsimp only [go_sem];refine An ?_;refine Z54 19 rfl ?_;refine Z37 hall Place.row (Zx5 ex34) rfl trivial rfl rfl rfl rfl ?_;dsimp only [go_sem];refine Z44 rfl ?_ _;exact Za5 J2 (s:=(x33.set (Int.toNat (x32)) ((Place.mk x34.Book x35)),x37)) h
     ·refine Zc6 hall Place.row ex34 rfl trivial rfl rfl rfl ?_;dsimp only [go_sem];refine Z54 6 rfl ?_;refine Zb4 hall rfl trivial (Zk9 x34.Live _ ex35) (h:=?_);dsimp only [go_sem];refine Z54 12 rfl ?_;obtain ⟨x37,ex37,h⟩:=Bs h;refine GO_callO hall rfl trivial (Zue x34.Book.Sess _ ex37) (h:=?_);dsimp only [go_sem];refine Zt5 hall hs haf hnap 2 5 ?_;dsimp only [go_sem];refine An ?_;refine Z54 15 rfl ?_
      refine Ze6 hall [.sl 1 (List.map Zf5 x35)] Place.row (y':=(Place.mk x34.Book x35)) ex34 rfl trivial rfl rfl rfl (by first | exact Zl4 _ | simp [go_sem]) rfl rfl rfl rfl ?_;dsimp only [go_sem];refine Zt5 hall hs haf hnap 3 1 ?_;dsimp only [go_sem];refine An ?_;refine Z54 19 rfl ?_;refine Z37 hall Place.row (Zx5 ex34) rfl trivial rfl rfl rfl rfl ?_;dsimp only [go_sem];refine Z44 rfl ?_ _;exact Za5 J2 (s:=(x33.set (Int.toNat (x32)) ((Place.mk x34.Book x35)),x37)) h
    ·refine Zc6 hall Place.row ex34 rfl trivial rfl rfl rfl ?_;dsimp only [go_sem];refine Z54 5 rfl ?_;refine Zc6 hall Place.row ex34 rfl trivial rfl rfl rfl ?_;dsimp only [go_sem];refine Z54 6 rfl ?_;obtain ⟨x35,ex35,h⟩:=Bs h;refine Zb4 hall rfl trivial (Zk9 x34.Live _ ex35) (h:=?_);dsimp only [go_sem];refine Z54 12 rfl ?_;obtain ⟨x36,ex36,h⟩:=Bs h;refine GO_callO hall rfl trivial (Zue x34.Book.Sess _ ex36) (h:=?_);dsimp only [go_sem];refine Zt5 hall hs haf hnap 2 5 ?_;dsimp only [go_sem];refine An ?_
     refine Z54 15 rfl ?_;refine Ze6 hall [.sl 1 (List.map Zf5 x35)] Place.row (y':=(Place.mk x34.Book x35)) ex34 rfl trivial rfl rfl rfl (by first | exact Zl4 _ | simp [go_sem]) rfl rfl rfl rfl ?_;dsimp only [go_sem];refine Zt5 hall hs haf hnap 3 1 ?_;dsimp only [go_sem];refine An ?_;refine Z54 19 rfl ?_;refine Z37 hall Place.row (Zx5 ex34) rfl trivial rfl rfl rfl rfl ?_;dsimp only [go_sem];refine Z44 rfl ?_ _;exact Za5 J2 (s:=(x33.set (Int.toNat (x32)) ((Place.mk x34.Book x35)),x36)) h
  ·refine Zu2 1 ?_;dsimp only [go_sem];refine An ?_;exact Za5 J1 (s:=x33) (Zx4 h hout1)
def Zjj (_F:Nat):(List Place)→Option (List Place)
| x68=>
 some x68
theorem Zkj {F:Nat}:∀s,ole (Zjj F s) (Zbj s):=by
 intro x68
 unfold Zjj Zbj
 try dsimp only
 with_reducible repeat' first | exact Zr4 _ | assumption | intro _ | refine Zs4 ?_ ?_ | refine Zt4 ?_ ?_ | refine Zu4 ?_ | refine Zw4 ?_
def Zlj (_F:Nat) (x32:Int) (x38:(List Place)) (x40:Place):(List Sess)→Option ((Int×(List Place)) ⊕ (List Place))
| x62=>
 some (.inl (wr (x32+1),x38.set (Int.toNat (x32)) ((Place.mk ((Book.mk x40.Book.Last x62)) x40.Live))))
theorem Zmj {F:Nat} {x32:Int} {x38:(List Place)} {x40:Place}:∀s,ole (Zlj F x32 x38 x40 s) (Zcj x32 x38 x40 s):=by
 intro x62
 unfold Zlj Zcj
 try dsimp only
 with_reducible repeat' first | exact Zr4 _ | assumption | intro _ | refine Zs4 ?_ ?_ | refine Zt4 ?_ ?_ | refine Zu4 ?_ | refine Zw4 ?_ | apply Zkj
def Znj (_F:Nat) (x47:Int):(List Sess)→Option ((Int×(List Sess)) ⊕ ((Int×(List Place)) ⊕ (List Place)))
| x52=>
 some (.inl (wr (x47+1),x52))
theorem Zoj {F:Nat} {x47:Int}:∀s,ole (Znj F x47 s) (Zdj x47 s):=by
 intro x52
 unfold Znj Zdj
 try dsimp only
 with_reducible repeat' first | exact Zr4 _ | assumption | intro _ | refine Zs4 ?_ ?_ | refine Zt4 ?_ ?_ | refine Zu4 ?_ | refine Zw4 ?_ | apply Zkj | apply Zmj
def Zpj (F:Nat) (x32:Int) (x38:(List Place)) (x39:(List Sess)) (x40:Place):(Int×(List Sess))→Option ((Int×(List Sess)) ⊕ ((Int×(List Place)) ⊕ (List Place)))
| (x47,x48)=>
 ifb (decide (x47<(ln Sess.row x39))) (
 (at_ x48 x47).bind fun x49=>
 (Zl9 F x49.Need).bind fun x50=>
 (Znj F x47) (x48.set (Int.toNat (x47)) ((Sess.mk x49.ID x50 x49.State x49.Age)))) (
 Option.map Sum.inr ((Zlj F x32 x38 x40) x48))
theorem Zqj {F:Nat} {x32:Int} {x38:(List Place)} {x39:(List Sess)} {x40:Place}:∀s,ole (Zpj F x32 x38 x39 x40 s) (Zej x32 x38 x39 x40 s):=by
 rintro ⟨x47,x48⟩
 unfold Zpj Zej
 try dsimp only
 with_reducible repeat' first | exact Zr4 _ | assumption | intro _ | refine Zs4 ?_ ?_ | refine Zt4 ?_ ?_ | refine Zu4 ?_ | refine Zw4 ?_ | apply Zkj | apply Zmj | apply Zoj | apply Zm9
def Zrj (F:Nat) (x32:Int):((List Place)×(List Sess))→Option ((Int×(List Place)) ⊕ (List Place))
| (x38,x39)=>
 (at_ x38 x32).bind fun x40=>
 Zv4 F (Zpj F x32 x38 x39 x40) (0,x39)
theorem Zsj {F:Nat} {x32:Int}:∀s,ole (Zrj F x32 s) (Zfj x32 s):=by
 rintro ⟨x38,x39⟩
 unfold Zrj Zfj
 try dsimp only
 with_reducible repeat' first | exact Zr4 _ | assumption | intro _ | refine Zs4 ?_ ?_ | refine Zt4 ?_ ?_ | refine Zu4 ?_ | refine Zw4 ?_ | apply Zkj | apply Zmj | apply Zoj | apply Zm9 | apply Zqj
def Ztj (F:Nat) (x2:(List Place)):(Int×(List Place))→Option ((Int×(List Place)) ⊕ (List Place))
| (x32,x33)=>
 ifb (decide (x32<(ln Place.row x2))) (
 (at_ x33 x32).bind fun x34=>
 (Zl9 F x34.Live).bind fun x35=>
 (Zve F x34.Book.Sess).bind fun x37=>
 (Zrj F x32) (x33.set (Int.toNat (x32)) ((Place.mk x34.Book x35)),x37)) (
 Option.map Sum.inr (Zjj F x33))
theorem Zuj {F:Nat} {x2:(List Place)}:∀s,ole (Ztj F x2 s) (Zgj x2 s):=by
 rintro ⟨x32,x33⟩
 unfold Ztj Zgj
 try dsimp only
 with_reducible repeat' first | exact Zr4 _ | assumption | intro _ | refine Zs4 ?_ ?_ | refine Zt4 ?_ ?_ | refine Zu4 ?_ | refine Zw4 ?_ | apply Zkj | apply Zmj | apply Zoj | apply Zm9 | apply Zqj | apply Zsj | apply Zwe
def Zvj (F:Nat) (x1:Model):Option (List Place):=
 (Zoi F x1.Places).bind fun x2=>
 Zv4 F (Ztj F x2) (0,x2)
theorem Zwj {F:Nat} {x1:Model}:ole (Zvj F x1) (Zhj x1):=by
 unfold Zvj Zhj
 with_reducible repeat' first | exact Zr4 _ | assumption | intro _ | refine Zs4 ?_ ?_ | refine Zt4 ?_ ?_ | refine Zu4 ?_ | refine Zw4 ?_ | apply Zkj | apply Zmj | apply Zoj | apply Zm9 | apply Zqj | apply Zsj | apply Zwe | apply Zuj | apply Zpi
noncomputable def Zxj:((List Int)×Bool)→Option ((List Int)×Int)
| (x15,x16)=>
 ifb (!x16) (
 some (([]:List Int),206)) (
 some (x15,0))
noncomputable def Zyj (x1:Event) (x3:Place):Bool→Option ((List Int)×Int)
| x9=>
 (Z2c x3.Live x1.Peer).bind fun x10=>
 Zxj (x10,x9)
noncomputable def Zzj (x1:Event) (x3:Place):Bool→Option ((List Int)×Int)
| x11=>
 (Zbd x3.Live x1.Peer).bind fun x12=>
 Zxj (x12,x11)
noncomputable def Z0k (x1:Event) (x2:(List Place)) (x3:Place):(Bool×Bool)→Option ((List Int)×Int)
| (x7,x8)=>
 ifb (decide (x1.Kind=6)) (
 ifb (!x7) (
 (Zyj x1 x3) (x8==(decide (x1.Node<x1.Peer)))) (
 (Zyj x1 x3) false)) (
 ifb (decide (x1.Kind=7)) (
 ifb x7 (
 ifb (decide (x1.Node<x1.Peer)) (
 (Zzj x1 x3) true) (
 (Zzj x1 x3) (!x8))) (
 (Zzj x1 x3) false)) (
 ifb (decide (x1.Kind=8)) (
 ifb (decide (x1.Node<x1.Peer)) (
 ifb (!x7) (
 ifb (!x8) (
 (Z1j ((Model.mk x2)) x1.Node x1.Peer).bind fun x13=>
 ifb (!x13) (
 (Z1j ((Model.mk x2)) x1.Peer x1.Node).bind fun x14=>
 Zxj (x3.Live,!x14)) (
 Zxj (x3.Live,false))) (
 Zxj (x3.Live,false))) (
 Zxj (x3.Live,false))) (
 Zxj (x3.Live,false))) (
 Zxj (x3.Live,false))))
noncomputable def Z1k (x1:Event) (x2:(List Place)):Option ((List Int)×Int):=
 (at_ x2 x1.Node).bind fun x3=>
 (Zqi ((Model.mk x2)) x1.Node x1.Peer).bind fun x4=>
 (Zqi ((Model.mk x2)) x1.Peer x1.Node).bind fun x6=>
 (Z0k x1 x2 x3) (x4,x6)
theorem Z2k (x1:Event) (x2:(List Place)) (r:((List Int)×Int)) (h:Z1k x1 x2=some r):FunT Try.prog 26 [.agg [.osl 0],.agg [.iv x1.Kind,.iv x1.Node,.iv x1.ID,.iv x1.Peer,.sl 1 (List.map Zf5 x1.Need)]] [none,none,none] [some ⟨51,3,List.map Place.row x2⟩] (.tup [.sl 1 (List.map Zf5 r.1),.iv r.2]) [none,none,none] [some ⟨51,3,List.map Place.row x2⟩]:=by
 refine Z86 ok26 rfl rfl rfl (by first | rfl | simp [go_sem]) fun w0 M0=>?_
 rw [Z1k] at h
 dsimp only [lun,List.cons_append,List.nil_append]
 refine Zu2 13 ?_;dsimp only [go_sem];refine An ?_;obtain ⟨x3,ex3,h⟩:=Bs h;refine Zw5 Place.row ex3 trivial rfl rfl rfl ?_;refine Zu2 1 ?_;dsimp only [go_sem];refine An ?_;refine V_loadO Place.row ex3 trivial rfl rfl rfl ?_;refine Zu2 3 ?_;dsimp only [go_sem];refine An ?_
 refine Zy4 (fun ((x7,x8):(Bool×Bool))=>(⟨(.any :: .any :: .ptr 3 0 :: .ptr 4 0 :: .any :: .any :: .sl 1 (List.map Zf5 x3.Live) :: .bv x7 :: .bv x8::an 93 []),[none,none,none,some ⟨30,[.osl 0]⟩,some ⟨41,[.iv x1.Kind,.iv x1.Node,.iv x1.ID,.iv x1.Peer,.sl 1 (List.map Zf5 x1.Need)]⟩],[some ⟨51,3,List.map Place.row x2⟩]⟩:St)) (Z0k x1 x2 x3) r ?_ fun J1=>?_
 ·rintro ⟨x7,x8⟩ h;rw [Z0k] at h;(try dsimp only);refine Zu2 16 ?_;dsimp only [go_sem];refine An ?_;refine Zy4 (fun ((x15,x16):((List Int)×Bool))=>(⟨(an 6 (.sl 1 (List.map Zf5 x15) :: .any :: .any :: .bv x16::an 92 [])),[none,none,none],[some ⟨51,3,List.map Place.row x2⟩]⟩:St)) Zxj r ?_ fun J2=>?_
  ·rintro ⟨x15,x16⟩ h;rw [Zxj] at h;(try dsimp only);refine Zu2 7 ?_;dsimp only [go_sem];refine An ?_;refine Z05 h rfl (fun _ h=>?_) fun _ h=>?_
   ·refine Zu2 5 ?_;dsimp only [go_sem];refine An ?_;obtain rfl:=Option.some.inj h;exact Z96 ok26 rfl (by simp [go_sem])
   ·refine Zu2 7 ?_;dsimp only [go_sem];refine An ?_;obtain rfl:=Option.some.inj h;exact Z96 ok26 rfl (by simp [go_sem])
  ·refine Z05 h rfl (fun _ h=>?_) fun _ h=>?_
   ·refine Zu2 5 ?_;dsimp only [go_sem];refine An ?_;refine Zy4 (fun (x9:Bool)=>(⟨(an 3 (.ptr 4 0 :: .any :: .any :: .sl 1 (List.map Zf5 x3.Live) :: .any :: .any :: .bv x9::an 92 [])),[none,none,none,none,some ⟨41,[.iv x1.Kind,.iv x1.Node,.iv x1.ID,.iv x1.Peer,.sl 1 (List.map Zf5 x1.Need)]⟩],[some ⟨51,3,List.map Place.row x2⟩]⟩:St)) (Zyj x1 x3) r ?_ fun J3=>?_
    ·intro x9 h;rw [Zyj] at h;(try dsimp only);refine Zu2 4 ?_;dsimp only [go_sem];refine An ?_;obtain ⟨x10,ex10,h⟩:=Bs h;refine Z83 trivial (k_set_Add x3.Live x1.Peer _ ex10) (h:=?_);refine Zu2 2 ?_;dsimp only [go_sem];refine An ?_;exact Za5 J2 (s:=(x10,x9)) h
    ·refine Z75 35 h rfl (fun _ h=>?_) fun _ h=>?_
     ·dsimp only [go_sem];refine Zu2 10 ?_;dsimp only [go_sem];refine An ?_;exact Za5 J3 (s:=x8==(decide (x1.Node<x1.Peer))) h
     ·dsimp only [go_sem];refine Zu2 10 ?_;dsimp only [go_sem];refine An ?_;exact Za5 J3 (s:=false) h
   ·refine Zu2 5 ?_;dsimp only [go_sem];refine An ?_;refine Z05 h rfl (fun _ h=>?_) fun _ h=>?_
    ·refine Zu2 4 ?_;dsimp only [go_sem];refine An ?_;refine Zy4 (fun (x11:Bool)=>(⟨(an 3 (.ptr 4 0 :: .any :: .any :: .sl 1 (List.map Zf5 x3.Live) :: .any :: .any :: .bv x11::an 92 [])),[none,none,none,none,some ⟨41,[.iv x1.Kind,.iv x1.Node,.iv x1.ID,.iv x1.Peer,.sl 1 (List.map Zf5 x1.Need)]⟩],[some ⟨51,3,List.map Place.row x2⟩]⟩:St)) (Zzj x1 x3) r ?_ fun J4=>?_
     ·intro x11 h;rw [Zzj] at h;(try dsimp only);refine Zu2 4 ?_;dsimp only [go_sem];refine An ?_;obtain ⟨x12,ex12,h⟩:=Bs h;refine Z83 trivial (k_set_Del x3.Live x1.Peer _ ex12) (h:=?_);refine Zu2 2 ?_;dsimp only [go_sem];refine An ?_;exact Za5 J2 (s:=(x12,x11)) h
     ·refine Z75 51 h rfl (fun _ h=>?_) fun _ h=>?_
      ·dsimp only [go_sem];refine Zu2 6 ?_;dsimp only [go_sem];refine An ?_;refine Z75 57 h rfl (fun _ h=>?_) fun _ h=>?_
       ·dsimp only [go_sem];refine Zu2 6 ?_;dsimp only [go_sem];refine An ?_;exact Za5 J4 (s:=true) h
       ·dsimp only [go_sem];refine Zu2 6 ?_;dsimp only [go_sem];refine An ?_;exact Za5 J4 (s:=!x8) h
      ·dsimp only [go_sem];refine Zu2 12 ?_;dsimp only [go_sem];refine An ?_;exact Za5 J4 (s:=false) h
    ·refine Zu2 5 ?_;dsimp only [go_sem];refine An ?_;refine Z05 h rfl (fun _ h=>?_) fun _ h=>?_
     ·refine Zu2 7 ?_;dsimp only [go_sem];refine An ?_;refine Z75 73 h rfl (fun _ h=>?_) fun _ h=>?_
      ·dsimp only [go_sem];refine Zu2 4 ?_;dsimp only [go_sem];refine An ?_;refine Z75 77 h rfl (fun _ h=>?_) fun _ h=>?_
       ·dsimp only [go_sem];refine Zu2 4 ?_;dsimp only [go_sem];refine An ?_;refine Z75 81 h rfl (fun _ h=>?_) fun _ h=>?_
        ·dsimp only [go_sem];refine Zu2 5 ?_;dsimp only [go_sem];refine An ?_;obtain ⟨x13,ex13,h⟩:=Bs h;refine Zc5 trivial ((Zb5.refl _).slice 0 rfl) (Z2j ((Model.mk x2)) x1.Node x1.Peer _ ex13) (h:=?_);refine Zu2 3 ?_;dsimp only [go_sem];refine An ?_;refine Z75 90 h rfl (fun _ h=>?_) fun _ h=>?_
         ·dsimp only [go_sem];refine Zu2 5 ?_;dsimp only [go_sem];refine An ?_;obtain ⟨x14,ex14,h⟩:=Bs h;refine Zc5 trivial ((Zb5.refl _).slice 0 rfl) (Z2j ((Model.mk x2)) x1.Peer x1.Node _ ex14) (h:=?_);refine Zu2 4 ?_;dsimp only [go_sem];refine An ?_;exact Za5 J2 (s:=(x3.Live,!x14)) h
         ·dsimp only [go_sem];refine Zu2 10 ?_;dsimp only [go_sem];refine An ?_;exact Za5 J2 (s:=(x3.Live,false)) h
        ·dsimp only [go_sem];refine Zu2 19 ?_;dsimp only [go_sem];refine An ?_;exact Za5 J2 (s:=(x3.Live,false)) h
       ·dsimp only [go_sem];refine Zu2 23 ?_;dsimp only [go_sem];refine An ?_;exact Za5 J2 (s:=(x3.Live,false)) h
      ·dsimp only [go_sem];refine Zu2 27 ?_;dsimp only [go_sem];refine An ?_;exact Za5 J2 (s:=(x3.Live,false)) h
     ·refine Zu2 1 ?_;dsimp only [go_sem];refine An ?_;exact Za5 J2 (s:=(x3.Live,false)) h
 ·refine Zu3 (by kernel_rfl) fun all hall hs hnap haf=>?_;dsimp only [go_sem];refine Zu5 hall hs haf hnap 8 6 [0,1,4,2,4,3] [(18,[.ptr 4 1,.iv x1.Node,.ptr 4 3,.iv x1.Peer]),(2,[.ptr 4 3,.iv x1.Peer,.ptr 4 1,.iv x1.Node])] (by kernel_rfl) ?_;dsimp only [go_sem];refine Z64 0 6 rfl ?_ ?_
  ·refine Za4 hall rfl trivial ?_;dsimp only [go_sem];obtain ⟨x4,ex4,h⟩:=Bs h;refine Z64 5 6 rfl ?_ ?_
   ·refine Zd5 hall rfl trivial ((Zb5.refl _).slice 0 rfl) (Zri ((Model.mk x2)) x1.Node x1.Peer _ ex4) (h:=?_);dsimp only [go_sem];refine Z54 6 rfl ?_;refine Za4 hall rfl trivial ?_;dsimp only [go_sem];refine Z54 11 rfl ?_;obtain ⟨x6,ex6,h⟩:=Bs h;refine Zd5 hall rfl trivial ((Zb5.refl _).slice 0 rfl) (Zri ((Model.mk x2)) x1.Peer x1.Node _ ex6) (h:=?_);dsimp only [go_sem];refine Zt5 hall hs haf hnap 2 0 ?_;dsimp only [go_sem];refine An ?_;refine Z44 rfl ?_ _;exact Za5 J1 (s:=(x4,x6)) h
   ·refine Za4 hall rfl trivial ?_;dsimp only [go_sem];refine Z54 5 rfl ?_;refine Zd5 hall rfl trivial ((Zb5.refl _).slice 0 rfl) (Zri ((Model.mk x2)) x1.Node x1.Peer _ ex4) (h:=?_);dsimp only [go_sem];refine Z54 11 rfl ?_;obtain ⟨x6,ex6,h⟩:=Bs h;refine Zd5 hall rfl trivial ((Zb5.refl _).slice 0 rfl) (Zri ((Model.mk x2)) x1.Peer x1.Node _ ex6) (h:=?_);dsimp only [go_sem];refine Zt5 hall hs haf hnap 2 0 ?_;dsimp only [go_sem];refine An ?_;refine Z44 rfl ?_ _;exact Za5 J1 (s:=(x4,x6)) h
  ·refine Za4 hall rfl trivial ?_;dsimp only [go_sem];refine Z54 0 rfl ?_;refine Za4 hall rfl trivial ?_;dsimp only [go_sem];refine Z54 5 rfl ?_;obtain ⟨x4,ex4,h⟩:=Bs h;refine Zd5 hall rfl trivial ((Zb5.refl _).slice 0 rfl) (Zri ((Model.mk x2)) x1.Node x1.Peer _ ex4) (h:=?_);dsimp only [go_sem];refine Z54 11 rfl ?_;obtain ⟨x5,ex5,h⟩:=Bs h;refine Zd5 hall rfl trivial ((Zb5.refl _).slice 0 rfl) (Zri ((Model.mk x2)) x1.Peer x1.Node _ ex5) (h:=?_);dsimp only [go_sem];refine Zt5 hall hs haf hnap 2 0 ?_;dsimp only [go_sem]
   refine An ?_;refine Z44 rfl ?_ _;exact Za5 J1 (s:=(x4,x5)) h
def Z3k (_F:Nat):((List Int)×Bool)→Option ((List Int)×Int)
| (x15,x16)=>
 ifb (!x16) (
 some (([]:List Int),206)) (
 some (x15,0))
theorem Z4k {F:Nat}:∀s,ole (Z3k F s) (Zxj s):=by
 rintro ⟨x15,x16⟩
 unfold Z3k Zxj
 try dsimp only
 with_reducible repeat' first | exact Zr4 _ | assumption | intro _ | refine Zs4 ?_ ?_ | refine Zt4 ?_ ?_ | refine Zu4 ?_ | refine Zw4 ?_
def Z5k (F:Nat) (x1:Event) (x3:Place):Bool→Option ((List Int)×Int)
| x9=>
 (Z3c F x3.Live x1.Peer).bind fun x10=>
 Z3k F (x10,x9)
theorem Z6k {F:Nat} {x1:Event} {x3:Place}:∀s,ole (Z5k F x1 x3 s) (Zyj x1 x3 s):=by
 intro x9
 unfold Z5k Zyj
 try dsimp only
 with_reducible repeat' first | exact Zr4 _ | assumption | intro _ | refine Zs4 ?_ ?_ | refine Zt4 ?_ ?_ | refine Zu4 ?_ | refine Zw4 ?_ | apply Z4k | apply Z4c
def Z7k (F:Nat) (x1:Event) (x3:Place):Bool→Option ((List Int)×Int)
| x11=>
 (Zcd F x3.Live x1.Peer).bind fun x12=>
 Z3k F (x12,x11)
theorem Z8k {F:Nat} {x1:Event} {x3:Place}:∀s,ole (Z7k F x1 x3 s) (Zzj x1 x3 s):=by
 intro x11
 unfold Z7k Zzj
 try dsimp only
 with_reducible repeat' first | exact Zr4 _ | assumption | intro _ | refine Zs4 ?_ ?_ | refine Zt4 ?_ ?_ | refine Zu4 ?_ | refine Zw4 ?_ | apply Z4k | apply Z4c | apply Z6k | apply Zdd
def Z9k (F:Nat) (x1:Event) (x2:(List Place)) (x3:Place):(Bool×Bool)→Option ((List Int)×Int)
| (x7,x8)=>
 ifb (decide (x1.Kind=6)) (
 ifb (!x7) (
 (Z5k F x1 x3) (x8==(decide (x1.Node<x1.Peer)))) (
 (Z5k F x1 x3) false)) (
 ifb (decide (x1.Kind=7)) (
 ifb x7 (
 ifb (decide (x1.Node<x1.Peer)) (
 (Z7k F x1 x3) true) (
 (Z7k F x1 x3) (!x8))) (
 (Z7k F x1 x3) false)) (
 ifb (decide (x1.Kind=8)) (
 ifb (decide (x1.Node<x1.Peer)) (
 ifb (!x7) (
 ifb (!x8) (
 (Z5j F ((Model.mk x2)) x1.Node x1.Peer).bind fun x13=>
 ifb (!x13) (
 (Z5j F ((Model.mk x2)) x1.Peer x1.Node).bind fun x14=>
 Z3k F (x3.Live,!x14)) (
 Z3k F (x3.Live,false))) (
 Z3k F (x3.Live,false))) (
 Z3k F (x3.Live,false))) (
 Z3k F (x3.Live,false))) (
 Z3k F (x3.Live,false))))
theorem Zak {F:Nat} {x1:Event} {x2:(List Place)} {x3:Place}:∀s,ole (Z9k F x1 x2 x3 s) (Z0k x1 x2 x3 s):=by
 rintro ⟨x7,x8⟩
 unfold Z9k Z0k
 try dsimp only
 with_reducible repeat' first | exact Zr4 _ | assumption | intro _ | refine Zs4 ?_ ?_ | refine Zt4 ?_ ?_ | refine Zu4 ?_ | refine Zw4 ?_ | apply Z4k | apply Z4c | apply Z6k | apply Zdd | apply Z8k | apply Z6j
def Zbk (F:Nat) (x1:Event) (x2:(List Place)):Option ((List Int)×Int):=
 (at_ x2 x1.Node).bind fun x3=>
 (Zsi F ((Model.mk x2)) x1.Node x1.Peer).bind fun x4=>
 (Zsi F ((Model.mk x2)) x1.Peer x1.Node).bind fun x6=>
 (Z9k F x1 x2 x3) (x4,x6)
theorem Zck {F:Nat} {x1:Event} {x2:(List Place)}:ole (Zbk F x1 x2) (Z1k x1 x2):=by
 unfold Zbk Z1k
 with_reducible repeat' first | exact Zr4 _ | assumption | intro _ | refine Zs4 ?_ ?_ | refine Zt4 ?_ ?_ | refine Zu4 ?_ | refine Zw4 ?_ | apply Z4k | apply Z4c | apply Z6k | apply Zdd | apply Z8k | apply Z6j | apply Zak | apply le_model_live
noncomputable def Zdk:(List Int)→Option (List Int)
| x27=>
 some x27
noncomputable def Zek (x12:Int):(List Int)→Option ((Int×(List Int)) ⊕ (List Int))
| x18=>
 some (.inl (wr (x12+1),x18))
noncomputable def Zfk (x12:Int) (x13:(List Int)) (x14:Sess):Bool→Option ((Int×(List Int)) ⊕ (List Int))
| x16=>
 ifb x16 (
 (Zm4 8 x13 ([x14.ID])).bind fun x17=>
 (Zek x12) x17) (
 (Zek x12) x13)
noncomputable def Zgk (x4:Place):(Int×(List Int))→Option ((Int×(List Int)) ⊕ (List Int))
| (x12,x13)=>
 ifb (decide (x12<(ln Sess.row x4.Book.Sess))) (
 (at_ x4.Book.Sess x12).bind fun x14=>
 ifb (decide (x14.State=0)) (
 (Zed x14.Need x4.Live).bind fun x15=>
 (Zfk x12 x13 x14) (!x15)) (
 (Zfk x12 x13 x14) false)) (
 Option.map Sum.inr (Zdk x13))
noncomputable def Zhk (x1:Int) (x2:(List Place)):Option (List Int):=
 (Zgh ((Model.mk x2)) x1).bind fun x3=>
 ifb (!x3) (
 some (([]:List Int))) (
 (at_ x2 x1).bind fun x4=>
 loop (Zgk x4) (0,([]:List Int)))
theorem Zik (x1:Int) (x2:(List Place)) (r:(List Int)) (h:Zhk x1 x2=some r):FunT Try.prog 16 [.agg [.osl 0],.iv x1] [none,none,none,none,none,none] [some ⟨51,3,List.map Place.row x2⟩] (.osl 1) [none,none,none,none,none,none] [some ⟨51,3,List.map Place.row x2⟩,some ⟨3,1,List.map Zf5 r⟩]:=by
 refine Z86 ok16 rfl rfl rfl (by first | rfl | simp [go_sem]) fun w0 M0=>?_
 rw [Zhk] at h
 dsimp only [lun,List.cons_append,List.nil_append]
 refine Zu2 14 ?_;dsimp only [go_sem];refine An ?_;obtain ⟨x3,ex3,h⟩:=Bs h;refine Zc5 trivial ((Zb5.refl _).slice 0 rfl) (Zhh ((Model.mk x2)) x1 _ ex3) (h:=?_);refine Zu2 2 ?_;dsimp only [go_sem];refine An ?_;refine Z05 h rfl (fun _ h=>?_) fun _ h=>?_
 ·refine Zu2 4 ?_;dsimp only [go_sem];refine An ?_;refine Zh4 4 3 1 rfl rfl ?_;dsimp only [go_sem];obtain rfl:=Option.some.inj h;exact Z96 ok16 rfl (by simp [go_sem])
 ·refine Zu2 7 ?_;dsimp only [go_sem];refine An ?_;obtain ⟨x4,ex4,h⟩:=Bs h;refine Zw5 Place.row ex4 trivial rfl rfl rfl ?_;refine Zu2 2 ?_;dsimp only [go_sem];refine An ?_;refine V_loadO Place.row ex4 trivial rfl rfl rfl ?_;refine Zu2 3 ?_;dsimp only [go_sem];refine An ?_;refine Zy4 (fun (x27:(List Int))=>(⟨(an 5 (.osl 1::an 40 [])),[none,none,none,none,none,none],[some ⟨51,3,List.map Place.row x2⟩,some ⟨3,1,List.map Zf5 x27⟩]⟩:St)) Zdk r ?_ fun J1=>?_
  ·intro x27 h;rw [Zdk] at h;(try dsimp only);refine Zu2 5 ?_;dsimp only [go_sem];refine An ?_;obtain rfl:=Option.some.inj h;exact Z96 ok16 rfl (by simp [go_sem])
  ·refine Zu2 1 ?_;dsimp only [go_sem];refine An ?_;refine Zh4 5 3 1 rfl rfl ?_;dsimp only [go_sem];refine Zz4 h (fun ((x12,x13):(Int×(List Int)))=>(⟨(.any :: .iv x1 :: .ptr 6 0 :: .any :: .any :: .osl 1::an 12 (.sl 4 (List.map Sess.row x4.Book.Sess) :: .iv (ln Sess.row x4.Book.Sess) :: .iv x12::an 25 [])),[none,none,none,none,none,none,some ⟨30,[.osl 0]⟩],[some ⟨51,3,List.map Place.row x2⟩,some ⟨3,1,List.map Zf5 x13⟩]⟩:St)) (by simp [go_sem]) (by rintro ⟨x12,x13⟩;first | rfl | simp [go_sem]) ?_;rintro n1 ⟨x12,x13⟩ y1 h hin1 hout1
   rw [Zgk] at h;(try dsimp only);refine Zu2 5 ?_;dsimp only [go_sem];refine An ?_;refine Z05 h rfl (fun _ h=>?_) fun _ h=>?_
   ·refine Zu2 5 ?_;dsimp only [go_sem];refine An ?_;obtain ⟨x14,ex14,h⟩:=Bs h;refine Z35 Sess.row ex14 trivial rfl rfl rfl ?_;refine Zu2 5 ?_;dsimp only [go_sem];refine An ?_
    refine Zy4 (fun (x16:Bool)=>(⟨(.any :: .iv x1 :: .ptr 6 0 :: .any :: .any :: .osl 1 :: .any :: .ptr 7 0::an 10 (.sl 4 (List.map Sess.row x4.Book.Sess) :: .iv (ln Sess.row x4.Book.Sess) :: .iv x12::an 17 (.bv x16::an 7 []))),[none,none,none,none,none,none,some ⟨30,[.osl 0]⟩,some ⟨76,[.iv x14.ID,.sl 1 (List.map Zf5 x14.Need),.iv x14.State,.iv x14.Age]⟩],[some ⟨51,3,List.map Place.row x2⟩,some ⟨3,1,List.map Zf5 x13⟩]⟩:St)) (Zfk x12 x13 x14) y1 ?_ fun J2=>?_
    ·intro x16 h;rw [Zfk] at h;(try dsimp only);refine Zy4 (fun (x18:(List Int))=>(⟨(.any :: .iv x1 :: .ptr 6 0 :: .any :: .any :: .osl 1::an 12 (.sl 4 (List.map Sess.row x4.Book.Sess) :: .iv (ln Sess.row x4.Book.Sess) :: .iv x12::an 25 [])),[none,none,none,none,none,none,some ⟨30,[.osl 0]⟩],[some ⟨51,3,List.map Place.row x2⟩,some ⟨3,1,List.map Zf5 x18⟩]⟩:St)) (Zek x12) y1 ?_ fun J3=>?_
     ·intro x18 h;rw [Zek] at h;(try dsimp only);refine Zu2 5 ?_;dsimp only [go_sem];refine An ?_;exact Z95 h hin1
     ·refine Z05 h rfl (fun _ h=>?_) fun _ h=>?_
      ·refine Zu2 5 ?_;dsimp only [go_sem];refine An ?_;obtain ⟨x17,ex17,h⟩:=Bs h;refine Z55 Zf5 ex17 trivial rfl rfl rfl ?_;refine Zu2 2 ?_;dsimp only [go_sem];refine An ?_;refine Zg4 3 1 rfl rfl rfl ?_;dsimp only [go_sem];exact Za5 J3 (s:=x17) h
      ·refine Zu2 1 ?_;dsimp only [go_sem];refine An ?_;exact Za5 J3 (s:=x13) h
    ·refine Zu3 (by kernel_rfl) fun all hall hs hnap haf=>?_;dsimp only [go_sem];refine Zt5 hall hs haf hnap 4 11 ?_;dsimp only [go_sem];refine An ?_;refine Zi5 27 h rfl (fun _ h=>?_) fun _ h=>?_
     ·dsimp only [go_sem];refine Zt5 hall hs haf hnap 4 7 ?_;dsimp only [go_sem];refine An ?_;refine Z54 7 rfl ?_;refine Za4 hall rfl trivial ?_;dsimp only [go_sem];refine Z54 9 rfl ?_;refine Zb6 hall Place.row ex4 rfl trivial rfl rfl rfl ?_;dsimp only [go_sem];refine Zt5 hall hs haf hnap 1 4 ?_;dsimp only [go_sem];refine An ?_;refine Z54 11 rfl ?_;refine Zc6 hall Place.row ex4 rfl trivial rfl rfl rfl ?_;dsimp only [go_sem];refine Z54 12 rfl ?_;obtain ⟨x15,ex15,h⟩:=Bs h
      refine Zb4 hall rfl trivial (Zfd x14.Need x4.Live _ ex15) (h:=?_);dsimp only [go_sem];refine Zt5 hall hs haf hnap 2 0 ?_;dsimp only [go_sem];refine An ?_;refine Z44 rfl ?_ _;exact Za5 J2 (s:=!x15) h
     ·dsimp only [go_sem];refine Zu5 hall hs haf hnap 11 0 [15] [(28,[.un,.un,.un,.un,.un,.un,.un,.un,.un,.un,.ff])] (by kernel_rfl) ?_;dsimp only [go_sem];refine Z44 rfl ?_ _;exact Za5 J2 (s:=false) h
   ·refine Zu2 1 ?_;dsimp only [go_sem];refine An ?_;exact Za5 J1 (s:=x13) (Zx4 h hout1)
def Zjk (_F:Nat):(List Int)→Option (List Int)
| x27=>
 some x27
theorem Zkk {F:Nat}:∀s,ole (Zjk F s) (Zdk s):=by
 intro x27
 unfold Zjk Zdk
 try dsimp only
 with_reducible repeat' first | exact Zr4 _ | assumption | intro _ | refine Zs4 ?_ ?_ | refine Zt4 ?_ ?_ | refine Zu4 ?_ | refine Zw4 ?_
def Zlk (_F:Nat) (x12:Int):(List Int)→Option ((Int×(List Int)) ⊕ (List Int))
| x18=>
 some (.inl (wr (x12+1),x18))
theorem Zmk {F:Nat} {x12:Int}:∀s,ole (Zlk F x12 s) (Zek x12 s):=by
 intro x18
 unfold Zlk Zek
 try dsimp only
 with_reducible repeat' first | exact Zr4 _ | assumption | intro _ | refine Zs4 ?_ ?_ | refine Zt4 ?_ ?_ | refine Zu4 ?_ | refine Zw4 ?_ | apply Zkk
def Znk (F:Nat) (x12:Int) (x13:(List Int)) (x14:Sess):Bool→Option ((Int×(List Int)) ⊕ (List Int))
| x16=>
 ifb x16 (
 (Zm4 8 x13 ([x14.ID])).bind fun x17=>
 (Zlk F x12) x17) (
 (Zlk F x12) x13)
theorem Zok {F:Nat} {x12:Int} {x13:(List Int)} {x14:Sess}:∀s,ole (Znk F x12 x13 x14 s) (Zfk x12 x13 x14 s):=by
 intro x16
 unfold Znk Zfk
 try dsimp only
 with_reducible repeat' first | exact Zr4 _ | assumption | intro _ | refine Zs4 ?_ ?_ | refine Zt4 ?_ ?_ | refine Zu4 ?_ | refine Zw4 ?_ | apply Zkk | apply Zmk
def Zpk (F:Nat) (x4:Place):(Int×(List Int))→Option ((Int×(List Int)) ⊕ (List Int))
| (x12,x13)=>
 ifb (decide (x12<(ln Sess.row x4.Book.Sess))) (
 (at_ x4.Book.Sess x12).bind fun x14=>
 ifb (decide (x14.State=0)) (
 (Zgd F x14.Need x4.Live).bind fun x15=>
 (Znk F x12 x13 x14) (!x15)) (
 (Znk F x12 x13 x14) false)) (
 Option.map Sum.inr (Zjk F x13))
theorem Zqk {F:Nat} {x4:Place}:∀s,ole (Zpk F x4 s) (Zgk x4 s):=by
 rintro ⟨x12,x13⟩
 unfold Zpk Zgk
 try dsimp only
 with_reducible repeat' first | exact Zr4 _ | assumption | intro _ | refine Zs4 ?_ ?_ | refine Zt4 ?_ ?_ | refine Zu4 ?_ | refine Zw4 ?_ | apply Zkk | apply Zmk | apply Zok | apply Zhd
def Zrk (F:Nat) (x1:Int) (x2:(List Place)):Option (List Int):=
 (Zkh F ((Model.mk x2)) x1).bind fun x3=>
 ifb (!x3) (
 some (([]:List Int))) (
 (at_ x2 x1).bind fun x4=>
 Zv4 F (Zpk F x4) (0,([]:List Int)))
theorem Zsk {F:Nat} {x1:Int} {x2:(List Place)}:ole (Zrk F x1 x2) (Zhk x1 x2):=by
 unfold Zrk Zhk
 with_reducible repeat' first | exact Zr4 _ | assumption | intro _ | refine Zs4 ?_ ?_ | refine Zt4 ?_ ?_ | refine Zu4 ?_ | refine Zw4 ?_ | apply Zkk | apply Zmk | apply Zok | apply Zhd | apply Zqk | apply Zlh
noncomputable def Ztk (x4:(Book×Int×Int)):Bool→Option (Book×Int)
| x7=>
 ifb x7 (
 some ((Book.mk 0 (([]:(List Sess)))),203)) (
 some (x4.1,0))
noncomputable def Zuk (x1:Event) (x2:(List Place)):Option (Book×Int):=
 (at_ x2 x1.Node).bind fun x3=>
 (Zof x3.Book).bind fun x4=>
 ifb (!decide (x4.2.2=0)) (
 (Ztk x4) true) (
 ifb (!decide (x4.2.1=x1.ID)) (
 (Ztk x4) true) (
 (at_ x4.1.Sess 0).bind fun x5=>
 (Z78 x5.Need ((fun z=>Z7j z ((Model.mk x2)) x1))).bind fun x6=>
 (Ztk x4) x6))
theorem Zvk (x1:Event) (x2:(List Place)) (r:(Book×Int)) (h:Zuk x1 x2=some r):FunT Try.prog 51 [.agg [.osl 0],.agg [.iv x1.Kind,.iv x1.Node,.iv x1.ID,.iv x1.Peer,.sl 1 (List.map Zf5 x1.Need)]] [none,none,none,none,none,none] [some ⟨51,3,List.map Place.row x2⟩] (.tup [.agg [.iv r.1.Last,.sl 4 (List.map Sess.row r.1.Sess)],.iv r.2]) [none,none,none,none,none,none] [some ⟨51,3,List.map Place.row x2⟩]:=by
 refine Z86 ok51 rfl rfl rfl (by first | rfl | simp [go_sem]) fun w0 M0=>?_
 rw [Zuk] at h
 dsimp only [lun,List.cons_append,List.nil_append]
 refine Zu2 13 ?_;dsimp only [go_sem];refine An ?_;obtain ⟨x3,ex3,h⟩:=Bs h;refine Zw5 Place.row ex3 trivial rfl rfl rfl ?_;refine Zu2 1 ?_;dsimp only [go_sem];refine An ?_;refine V_loadAO Place.row ex3 trivial rfl rfl rfl ?_;obtain ⟨x4,ex4,h⟩:=Bs h;refine Z83 trivial (k_sess_Grant x3.Book _ ex4) (h:=?_);refine Zu2 15 ?_;dsimp only [go_sem];refine An ?_
 refine Zy4 (fun (x7:Bool)=>(⟨(an 4 (.ptr 8 0 :: .any :: .ptr 9 0::an 30 [.bv x7,.any,.any])),[none,none,none,none,none,none,none,none,some ⟨49,[.iv 0,.nl]⟩,some ⟨49,[.iv x4.1.Last,.sl 4 (List.map Sess.row x4.1.Sess)]⟩],[some ⟨51,3,List.map Place.row x2⟩]⟩:St)) (Ztk x4) r ?_ fun J1=>?_
 ·intro x7 h;rw [Ztk] at h;(try dsimp only);refine Z05 h rfl (fun _ h=>?_) fun _ h=>?_
  ·refine Zu2 6 ?_;dsimp only [go_sem];refine An ?_;obtain rfl:=Option.some.inj h;exact Z96 ok51 rfl (by simp [go_sem])
  ·refine Zu2 7 ?_;dsimp only [go_sem];refine An ?_;obtain rfl:=Option.some.inj h;exact Z96 ok51 rfl (by simp [go_sem])
 ·refine Z75 23 h rfl (fun _ h=>?_) fun _ h=>?_
  ·dsimp only [go_sem];refine Zu2 15 ?_;dsimp only [go_sem];refine An ?_;exact Za5 J1 (s:=true) h
  ·dsimp only [go_sem];refine Zu2 6 ?_;dsimp only [go_sem];refine An ?_;refine Z75 29 h rfl (fun _ h=>?_) fun _ h=>?_
   ·dsimp only [go_sem];refine Zu2 9 ?_;dsimp only [go_sem];refine An ?_;exact Za5 J1 (s:=true) h
   ·dsimp only [go_sem];refine Zu2 2 ?_;dsimp only [go_sem];refine An ?_;obtain ⟨x5,ex5,h⟩:=Bs h;refine Z35 Sess.row ex5 trivial rfl rfl rfl ?_;refine Zu2 3 ?_;dsimp only [go_sem];refine An ?_;obtain ⟨x6,ex6,h⟩:=Bs h;refine Zc5 trivial ((((Zb5.refl _).slice 0 rfl).block 6 rfl rfl).block 7 rfl rfl) (Z88 x5.Need _ _ ((fun z=>Z7j z ((Model.mk x2)) x1)) ⟨by kernel_rfl,rfl,fun z r hz=>Z8j z ((Model.mk x2)) x1 r hz⟩ _ ex6) (h:=?_);refine Zu2 2 ?_;dsimp only [go_sem];refine An ?_;exact Za5 J1 (s:=x6) h
def Zwk (_F:Nat) (x4:(Book×Int×Int)):Bool→Option (Book×Int)
| x7=>
 ifb x7 (
 some ((Book.mk 0 (([]:(List Sess)))),203)) (
 some (x4.1,0))
theorem Zxk {F:Nat} {x4:(Book×Int×Int)}:∀s,ole (Zwk F x4 s) (Ztk x4 s):=by
 intro x7
 unfold Zwk Ztk
 try dsimp only
 with_reducible repeat' first | exact Zr4 _ | assumption | intro _ | refine Zs4 ?_ ?_ | refine Zt4 ?_ ?_ | refine Zu4 ?_ | refine Zw4 ?_
def Zyk (F:Nat) (x1:Event) (x2:(List Place)):Option (Book×Int):=
 (at_ x2 x1.Node).bind fun x3=>
 (Zrf F x3.Book).bind fun x4=>
 ifb (!decide (x4.2.2=0)) (
 (Zwk F x4) true) (
 ifb (!decide (x4.2.1=x1.ID)) (
 (Zwk F x4) true) (
 (at_ x4.1.Sess 0).bind fun x5=>
 (Z98 F x5.Need ((fun z=>Z9j F z ((Model.mk x2)) x1))).bind fun x6=>
 (Zwk F x4) x6))
theorem Zzk {F:Nat} {x1:Event} {x2:(List Place)}:ole (Zyk F x1 x2) (Zuk x1 x2):=by
 unfold Zyk Zuk
 with_reducible repeat' first | exact Zr4 _ | assumption | intro _ | refine Zs4 ?_ ?_ | refine Zt4 ?_ ?_ | refine Zu4 ?_ | refine Zw4 ?_ | apply Zxk | apply le_sess_Grant | apply Za8 | apply Zaj
noncomputable def Z0l:(Int×Book)→Option (Book×Int)
| (x12,x13)=>
 ifb (!decide (x12=0)) (
 some ((Book.mk 0 (([]:(List Sess)))),204)) (
 some (x13,0))
noncomputable def Z1l (x1:Event) (x3:Place):Unit→Option (Book×Int)
| ()=>
 (Zwg x3.Book x1.ID).bind fun x11=>
 Z0l (x11.2,x11.1)
noncomputable def Z2l (x1:Event) (x3:Place) (x4:(List Int)):Unit→Option (Book×Int)
| ()=>
 (Zjc x4 x1.ID).bind fun x10=>
 ifb (!x10) (
 some ((Book.mk 0 (([]:(List Sess)))),205)) (
 (Z1l x1 x3) ())
noncomputable def Z3l (x1:Event) (x3:Place):Unit→Option (Book×Int)
| ()=>
 (Zsg x3.Book x1.ID).bind fun x9=>
 Z0l (x9.2,x9.1)
noncomputable def Z4l (x1:Event) (x2:(List Place)):Unit→Option (Book×Int)
| ()=>
 (Zuk x1 x2).bind fun x8=>
 some (x8.1,x8.2)
noncomputable def Z5l (x5:(Book×Int)):Bool→Option (Book×Int)
| x7=>
 ifb x7 (
 some ((Book.mk 0 (([]:(List Sess)))),202)) (
 some (x5.1,x5.2))
noncomputable def Z6l (x1:Event) (x3:Place):Unit→Option (Book×Int)
| ()=>
 (Z8f x3.Book x1.ID x1.Need).bind fun x5=>
 ifb (decide (x5.2=0)) (
 (Zed x1.Need x3.Live).bind fun x6=>
 (Z5l x5) (!x6)) (
 (Z5l x5) false)
noncomputable def Z7l (x1:Event) (x2:(List Place)):Option (Book×Int):=
 (at_ x2 x1.Node).bind fun x3=>
 (Zhk x1.Node x2).bind fun x4=>
 ifb (decide (x1.Kind=0)) (
 (Z6l x1 x3) ()) (
 ifb (decide (x1.Kind=1)) (
 (Z4l x1 x2) ()) (
 ifb (decide (x1.Kind=2)) (
 (Z3l x1 x3) ()) (
 ifb (decide (x1.Kind=4)) (
 (Z3l x1 x3) ()) (
 ifb (decide (x1.Kind=5)) (
 (Z2l x1 x3 x4) ()) (
 ifb (decide (x1.Kind=3)) (
 (Z1l x1 x3) ()) (
 Z0l (0,x3.Book)))))))
theorem Z8l (x1:Event) (x2:(List Place)) (r:(Book×Int)) (h:Z7l x1 x2=some r):FunT Try.prog 27 [.agg [.osl 0],.agg [.iv x1.Kind,.iv x1.Node,.iv x1.ID,.iv x1.Peer,.sl 1 (List.map Zf5 x1.Need)]] [none,none,none] [some ⟨51,3,List.map Place.row x2⟩] (.tup [.agg [.iv r.1.Last,.sl 4 (List.map Sess.row r.1.Sess)],.iv r.2]) [none,none,none] [some ⟨51,3,List.map Place.row x2⟩]:=by
 refine Z86 ok27 rfl rfl rfl (by first | rfl | simp [go_sem]) fun w0 M0=>?_
 rw [Z7l] at h
 dsimp only [lun,List.cons_append,List.nil_append]
 refine Zu2 13 ?_;dsimp only [go_sem];refine An ?_;obtain ⟨x3,ex3,h⟩:=Bs h;refine Zw5 Place.row ex3 trivial rfl rfl rfl ?_;refine Zu2 1 ?_;dsimp only [go_sem];refine An ?_;refine V_loadAO Place.row ex3 trivial rfl rfl rfl ?_;refine Zu2 7 ?_;dsimp only [go_sem];refine An ?_;obtain ⟨x4,ex4,h⟩:=Bs h;refine Za6 [false,false,false,false,false,false] [true] trivial (Zik x1.Node x2 _ ex4) (h:=?_);dsimp only [go_sem];refine Zu2 8 ?_;dsimp only [go_sem];refine An ?_
 refine Zy4 (fun ((x12,x13):(Int×Book))=>(⟨(an 4 (.ptr 5 0 :: .iv x12::an 82 [])),[none,none,none,none,none,some ⟨49,[.iv x13.Last,.sl 4 (List.map Sess.row x13.Sess)]⟩],[some ⟨51,3,List.map Place.row x2⟩]⟩:St)) Z0l r ?_ fun J1=>?_
 ·rintro ⟨x12,x13⟩ h;rw [Z0l] at h;(try dsimp only);refine Zu2 6 ?_;dsimp only [go_sem];refine An ?_;refine Z05 h rfl (fun _ h=>?_) fun _ h=>?_
  ·refine Zu2 6 ?_;dsimp only [go_sem];refine An ?_;obtain rfl:=Option.some.inj h;exact Z96 ok27 rfl (by simp [go_sem])
  ·refine Zu2 7 ?_;dsimp only [go_sem];refine An ?_;obtain rfl:=Option.some.inj h;exact Z96 ok27 rfl (by simp [go_sem])
 ·refine Zu2 2 ?_;dsimp only [go_sem];refine An ?_;refine Zy4 (fun (_:Unit)=>(⟨(an 3 (.ptr 4 0 :: .ptr 5 0::an 83 [])),[none,none,none,none,some ⟨41,[.iv x1.Kind,.iv x1.Node,.iv x1.ID,.iv x1.Peer,.sl 1 (List.map Zf5 x1.Need)]⟩,some ⟨49,[.iv x3.Book.Last,.sl 4 (List.map Sess.row x3.Book.Sess)]⟩],[some ⟨51,3,List.map Place.row x2⟩]⟩:St)) (Z1l x1 x3) r ?_ fun J2=>?_
  ·rintro ⟨⟩ h;rw [Z1l] at h;(try dsimp only);refine Zu2 5 ?_;dsimp only [go_sem];refine An ?_;obtain ⟨x11,ex11,h⟩:=Bs h;refine Z83 trivial (k_sess_Cancel x3.Book x1.ID _ ex11) (h:=?_);refine Zu2 7 ?_;dsimp only [go_sem];refine An ?_;exact Za5 J1 (s:=(x11.2,x11.1)) h
  ·refine Zu2 2 ?_;dsimp only [go_sem];refine An ?_;refine Zy4 (fun (_:Unit)=>(⟨(an 3 (.ptr 4 0 :: .ptr 5 0 :: .any :: .osl 1::an 81 [])),[none,none,none,none,some ⟨41,[.iv x1.Kind,.iv x1.Node,.iv x1.ID,.iv x1.Peer,.sl 1 (List.map Zf5 x1.Need)]⟩,some ⟨49,[.iv x3.Book.Last,.sl 4 (List.map Sess.row x3.Book.Sess)]⟩],[some ⟨51,3,List.map Place.row x2⟩,some ⟨3,1,List.map Zf5 x4⟩]⟩:St)) (Z2l x1 x3 x4) r ?_ fun J3=>?_
   ·rintro ⟨⟩ h;rw [Z2l] at h;(try dsimp only);refine Zu2 5 ?_;dsimp only [go_sem];refine An ?_;obtain ⟨x10,ex10,h⟩:=Bs h;refine Zc5 trivial ((Zb5.refl _).slice 1 rfl) (Zkc x4 x1.ID _ ex10) (h:=?_);refine Zu2 2 ?_;dsimp only [go_sem];refine An ?_;refine Z05 h rfl (fun _ h=>?_) fun _ h=>?_
    ·refine Zu2 6 ?_;dsimp only [go_sem];refine An ?_;obtain rfl:=Option.some.inj h;exact Z96 ok27 rfl (by simp [go_sem])
    ·refine Zu2 2 ?_;dsimp only [go_sem];refine An ?_;exact Za5 J2 (s:=()) h
   ·refine Zu2 2 ?_;dsimp only [go_sem];refine An ?_;refine Zy4 (fun (_:Unit)=>(⟨(an 3 (.ptr 4 0 :: .ptr 5 0::an 83 [])),[none,none,none,none,some ⟨41,[.iv x1.Kind,.iv x1.Node,.iv x1.ID,.iv x1.Peer,.sl 1 (List.map Zf5 x1.Need)]⟩,some ⟨49,[.iv x3.Book.Last,.sl 4 (List.map Sess.row x3.Book.Sess)]⟩],[some ⟨51,3,List.map Place.row x2⟩]⟩:St)) (Z3l x1 x3) r ?_ fun J4=>?_
    ·rintro ⟨⟩ h;rw [Z3l] at h;(try dsimp only);refine Zu2 5 ?_;dsimp only [go_sem];refine An ?_;obtain ⟨x9,ex9,h⟩:=Bs h;refine Z83 trivial (Ztg x3.Book x1.ID _ ex9) (h:=?_);refine Zu2 7 ?_;dsimp only [go_sem];refine An ?_;exact Za5 J1 (s:=(x9.2,x9.1)) h
    ·refine Zu2 3 ?_;dsimp only [go_sem];refine An ?_;refine Zy4 (fun (_:Unit)=>(⟨(.any :: .any :: .ptr 3 0 :: .ptr 4 0 :: .ptr 5 0::an 83 []),[none,none,none,some ⟨30,[.osl 0]⟩,some ⟨41,[.iv x1.Kind,.iv x1.Node,.iv x1.ID,.iv x1.Peer,.sl 1 (List.map Zf5 x1.Need)]⟩,some ⟨49,[.iv x3.Book.Last,.sl 4 (List.map Sess.row x3.Book.Sess)]⟩],[some ⟨51,3,List.map Place.row x2⟩]⟩:St)) (Z4l x1 x2) r ?_ fun J5=>?_
     ·rintro ⟨⟩ h;rw [Z4l] at h;(try dsimp only);refine Zu2 5 ?_;dsimp only [go_sem];refine An ?_;obtain ⟨x8,ex8,h⟩:=Bs h;refine Za6 [false,false,false,false,false,false] [true] trivial (Zvk x1 x2 _ ex8) (h:=?_);dsimp only [go_sem];refine Zu2 5 ?_;dsimp only [go_sem];refine An ?_;obtain rfl:=Option.some.inj h;exact Z96 ok27 rfl (by simp [go_sem])
     ·refine Zu2 2 ?_;dsimp only [go_sem];refine An ?_;refine Zy4 (fun (_:Unit)=>(⟨(.any :: .any :: .ptr 3 0 :: .ptr 4 0 :: .ptr 5 0::an 83 []),[none,none,none,some ⟨30,[.osl 0]⟩,some ⟨41,[.iv x1.Kind,.iv x1.Node,.iv x1.ID,.iv x1.Peer,.sl 1 (List.map Zf5 x1.Need)]⟩,some ⟨49,[.iv x3.Book.Last,.sl 4 (List.map Sess.row x3.Book.Sess)]⟩],[some ⟨51,3,List.map Place.row x2⟩]⟩:St)) (Z6l x1 x3) r ?_ fun J6=>?_
      ·rintro ⟨⟩ h;rw [Z6l] at h;(try dsimp only);refine Zu2 8 ?_;dsimp only [go_sem];refine An ?_;obtain ⟨x5,ex5,h⟩:=Bs h;refine Z83 trivial (k_sess_Open x3.Book x1.ID x1.Need _ ex5) (h:=?_);refine Zu2 8 ?_;dsimp only [go_sem];refine An ?_;refine Zy4 (fun (x7:Bool)=>(⟨(an 4 (.ptr 5 0 :: .iv x5.2::an 49 (.bv x7::an 32 []))),[none,none,none,none,none,some ⟨49,[.iv x5.1.Last,.sl 4 (List.map Sess.row x5.1.Sess)]⟩],[some ⟨51,3,List.map Place.row x2⟩]⟩:St)) (Z5l x5) r ?_ fun J7=>?_
       ·intro x7 h;rw [Z5l] at h;(try dsimp only);refine Z05 h rfl (fun _ h=>?_) fun _ h=>?_
        ·refine Zu2 6 ?_;dsimp only [go_sem];refine An ?_;obtain rfl:=Option.some.inj h;exact Z96 ok27 rfl (by simp [go_sem])
        ·refine Zu2 8 ?_;dsimp only [go_sem];refine An ?_;obtain rfl:=Option.some.inj h;exact Z96 ok27 rfl (by simp [go_sem])
       ·refine Zu3 (by kernel_rfl) fun all hall hs hnap haf=>?_;dsimp only [go_sem];refine Zt5 hall hs haf hnap 3 12 ?_;dsimp only [go_sem];refine An ?_;refine Zi5 43 h rfl (fun _ h=>?_) fun _ h=>?_
        ·dsimp only [go_sem];refine Zu5 hall hs haf hnap 5 7 [6,1,2,6] [(44,[.ptr 4 4,.sl 1 (List.map Zf5 x1.Need),.ptr 3 0]),(1,[.ptr 4 1,.iv x1.Node])] (by kernel_rfl) ?_;dsimp only [go_sem];refine Z54 6 rfl ?_;refine Za4 hall rfl trivial ?_;dsimp only [go_sem];refine Z54 9 rfl ?_;refine Zb6 hall Place.row ex3 rfl trivial rfl rfl rfl ?_;dsimp only [go_sem];refine Zt5 hall hs haf hnap 1 4 ?_;dsimp only [go_sem];refine An ?_;refine Z54 11 rfl ?_;refine Zc6 hall Place.row ex3 rfl trivial rfl rfl rfl ?_;dsimp only [go_sem]
         refine Z54 12 rfl ?_;obtain ⟨x6,ex6,h⟩:=Bs h;refine Zb4 hall rfl trivial (Zfd x1.Need x3.Live _ ex6) (h:=?_);dsimp only [go_sem];refine Zt5 hall hs haf hnap 2 0 ?_;dsimp only [go_sem];refine An ?_;refine Z44 rfl ?_ _;exact Za5 J7 (s:=!x6) h
        ·dsimp only [go_sem];refine Zu5 hall hs haf hnap 12 0 [15] [(44,[.un,.un,.un,.un,.un,.un,.un,.un,.un,.un,.un,.ff])] (by kernel_rfl) ?_;dsimp only [go_sem];refine Z44 rfl ?_ _;exact Za5 J7 (s:=false) h
      ·refine Zu2 8 ?_;dsimp only [go_sem];refine An ?_;refine Z05 h rfl (fun _ h=>?_) fun _ h=>?_
       ·refine Zu2 1 ?_;dsimp only [go_sem];refine An ?_;exact Za5 J6 (s:=()) h
       ·refine Zu2 7 ?_;dsimp only [go_sem];refine An ?_;refine Z05 h rfl (fun _ h=>?_) fun _ h=>?_
        ·refine Zu2 1 ?_;dsimp only [go_sem];refine An ?_;exact Za5 J5 (s:=()) h
        ·refine Zu2 7 ?_;dsimp only [go_sem];refine An ?_;refine Z05 h rfl (fun _ h=>?_) fun _ h=>?_
         ·refine Zu2 2 ?_;dsimp only [go_sem];refine An ?_;exact Za5 J4 (s:=()) h
         ·refine Zu2 7 ?_;dsimp only [go_sem];refine An ?_;refine Z05 h rfl (fun _ h=>?_) fun _ h=>?_
          ·refine Zu2 1 ?_;dsimp only [go_sem];refine An ?_;exact Za5 J4 (s:=()) h
          ·refine Zu2 7 ?_;dsimp only [go_sem];refine An ?_;refine Z05 h rfl (fun _ h=>?_) fun _ h=>?_
           ·refine Zu2 1 ?_;dsimp only [go_sem];refine An ?_;exact Za5 J3 (s:=()) h
           ·refine Zu2 6 ?_;dsimp only [go_sem];refine An ?_;refine Z05 h rfl (fun _ h=>?_) fun _ h=>?_
            ·refine Zu2 1 ?_;dsimp only [go_sem];refine An ?_;exact Za5 J2 (s:=()) h
            ·refine Zu2 2 ?_;dsimp only [go_sem];refine An ?_;exact Za5 J1 (s:=(0,x3.Book)) h
def Z9l (_F:Nat):(Int×Book)→Option (Book×Int)
| (x12,x13)=>
 ifb (!decide (x12=0)) (
 some ((Book.mk 0 (([]:(List Sess)))),204)) (
 some (x13,0))
theorem Zal {F:Nat}:∀s,ole (Z9l F s) (Z0l s):=by
 rintro ⟨x12,x13⟩
 unfold Z9l Z0l
 try dsimp only
 with_reducible repeat' first | exact Zr4 _ | assumption | intro _ | refine Zs4 ?_ ?_ | refine Zt4 ?_ ?_ | refine Zu4 ?_ | refine Zw4 ?_
def Zbl (F:Nat) (x1:Event) (x3:Place):Unit→Option (Book×Int)
| ()=>
 (Zxg F x3.Book x1.ID).bind fun x11=>
 Z9l F (x11.2,x11.1)
theorem Zcl {F:Nat} {x1:Event} {x3:Place}:∀s,ole (Zbl F x1 x3 s) (Z1l x1 x3 s):=by
 rintro ⟨⟩
 unfold Zbl Z1l
 try dsimp only
 with_reducible repeat' first | exact Zr4 _ | assumption | intro _ | refine Zs4 ?_ ?_ | refine Zt4 ?_ ?_ | refine Zu4 ?_ | refine Zw4 ?_ | apply Zal | apply Zyg
def Zdl (F:Nat) (x1:Event) (x3:Place) (x4:(List Int)):Unit→Option (Book×Int)
| ()=>
 (Zlc F x4 x1.ID).bind fun x10=>
 ifb (!x10) (
 some ((Book.mk 0 (([]:(List Sess)))),205)) (
 (Zbl F x1 x3) ())
theorem Zel {F:Nat} {x1:Event} {x3:Place} {x4:(List Int)}:∀s,ole (Zdl F x1 x3 x4 s) (Z2l x1 x3 x4 s):=by
 rintro ⟨⟩
 unfold Zdl Z2l
 try dsimp only
 with_reducible repeat' first | exact Zr4 _ | assumption | intro _ | refine Zs4 ?_ ?_ | refine Zt4 ?_ ?_ | refine Zu4 ?_ | refine Zw4 ?_ | apply Zal | apply Zyg | apply Zcl | apply Zmc
def Zfl (F:Nat) (x1:Event) (x3:Place):Unit→Option (Book×Int)
| ()=>
 (Zug F x3.Book x1.ID).bind fun x9=>
 Z9l F (x9.2,x9.1)
theorem Zgl {F:Nat} {x1:Event} {x3:Place}:∀s,ole (Zfl F x1 x3 s) (Z3l x1 x3 s):=by
 rintro ⟨⟩
 unfold Zfl Z3l
 try dsimp only
 with_reducible repeat' first | exact Zr4 _ | assumption | intro _ | refine Zs4 ?_ ?_ | refine Zt4 ?_ ?_ | refine Zu4 ?_ | refine Zw4 ?_ | apply Zal | apply Zyg | apply Zcl | apply Zmc | apply Zel | apply Zvg
def Zhl (F:Nat) (x1:Event) (x2:(List Place)):Unit→Option (Book×Int)
| ()=>
 (Zyk F x1 x2).bind fun x8=>
 some (x8.1,x8.2)
theorem Zil {F:Nat} {x1:Event} {x2:(List Place)}:∀s,ole (Zhl F x1 x2 s) (Z4l x1 x2 s):=by
 rintro ⟨⟩
 unfold Zhl Z4l
 try dsimp only
 with_reducible repeat' first | exact Zr4 _ | assumption | intro _ | refine Zs4 ?_ ?_ | refine Zt4 ?_ ?_ | refine Zu4 ?_ | refine Zw4 ?_ | apply Zal | apply Zyg | apply Zcl | apply Zmc | apply Zel | apply Zvg | apply Zgl | apply Zzk
def Zjl (_F:Nat) (x5:(Book×Int)):Bool→Option (Book×Int)
| x7=>
 ifb x7 (
 some ((Book.mk 0 (([]:(List Sess)))),202)) (
 some (x5.1,x5.2))
theorem Zkl {F:Nat} {x5:(Book×Int)}:∀s,ole (Zjl F x5 s) (Z5l x5 s):=by
 intro x7
 unfold Zjl Z5l
 try dsimp only
 with_reducible repeat' first | exact Zr4 _ | assumption | intro _ | refine Zs4 ?_ ?_ | refine Zt4 ?_ ?_ | refine Zu4 ?_ | refine Zw4 ?_ | apply Zal | apply Zyg | apply Zcl | apply Zmc | apply Zel | apply Zvg | apply Zgl | apply Zzk | apply Zil
def Zll (F:Nat) (x1:Event) (x3:Place):Unit→Option (Book×Int)
| ()=>
 (Zbf F x3.Book x1.ID x1.Need).bind fun x5=>
 ifb (decide (x5.2=0)) (
 (Zgd F x1.Need x3.Live).bind fun x6=>
 (Zjl F x5) (!x6)) (
 (Zjl F x5) false)
theorem Zml {F:Nat} {x1:Event} {x3:Place}:∀s,ole (Zll F x1 x3 s) (Z6l x1 x3 s):=by
 rintro ⟨⟩
 unfold Zll Z6l
 try dsimp only
 with_reducible repeat' first | exact Zr4 _ | assumption | intro _ | refine Zs4 ?_ ?_ | refine Zt4 ?_ ?_ | refine Zu4 ?_ | refine Zw4 ?_ | apply Zal | apply Zyg | apply Zcl | apply Zmc | apply Zel | apply Zvg | apply Zgl | apply Zzk | apply Zil | apply Zkl | apply Zcf | apply Zhd
def Znl (F:Nat) (x1:Event) (x2:(List Place)):Option (Book×Int):=
 (at_ x2 x1.Node).bind fun x3=>
 (Zrk F x1.Node x2).bind fun x4=>
 ifb (decide (x1.Kind=0)) (
 (Zll F x1 x3) ()) (
 ifb (decide (x1.Kind=1)) (
 (Zhl F x1 x2) ()) (
 ifb (decide (x1.Kind=2)) (
 (Zfl F x1 x3) ()) (
 ifb (decide (x1.Kind=4)) (
 (Zfl F x1 x3) ()) (
 ifb (decide (x1.Kind=5)) (
 (Zdl F x1 x3 x4) ()) (
 ifb (decide (x1.Kind=3)) (
 (Zbl F x1 x3) ()) (
 Z9l F (0,x3.Book)))))))
theorem Zol {F:Nat} {x1:Event} {x2:(List Place)}:ole (Znl F x1 x2) (Z7l x1 x2):=by
 unfold Znl Z7l
 with_reducible repeat' first | exact Zr4 _ | assumption | intro _ | refine Zs4 ?_ ?_ | refine Zt4 ?_ ?_ | refine Zu4 ?_ | refine Zw4 ?_ | apply Zal | apply Zyg | apply Zcl | apply Zmc | apply Zel | apply Zvg | apply Zgl | apply Zzk | apply Zil | apply Zkl | apply Zcf | apply Zhd | apply Zml | apply Zsk
noncomputable def Zpl:(Int×(List Place))→Option (Model×Int)
| (x16,x17)=>
 ifb (!decide (x16=0)) (
 some ((Model.mk (([]:(List Place)))),x16)) (
 some ((Model.mk x17),0))
noncomputable def Zql (x1:Model) (x2:Event) (x4:Bool):Int→Option (Model×Int)
| x11=>
 ifb (!decide (x11=0)) (
 some ((Model.mk (([]:(List Place)))),x11)) (
 (Zhj x1).bind fun x12=>
 (at_ x12 x2.Node).bind fun x13=>
 ifb x4 (
 (Z1k x2 x12).bind fun x14=>
 Zpl (x14.2,x12.set (Int.toNat (x2.Node)) ((Place.mk x13.Book x14.1)))) (
 (Z7l x2 x12).bind fun x15=>
 Zpl (x15.2,x12.set (Int.toNat (x2.Node)) ((Place.mk x15.1 x13.Live)))))
noncomputable def Zrl (x1:Model) (x2:Event) (x3:Int) (x4:Bool):Bool→Option (Model×Int)
| x10=>
 ifb x10 (
 (Zql x1 x2 x4) 207) (
 (Zql x1 x2 x4) x3)
noncomputable def Zsl (x1:Model) (x2:Event) (x3:Int) (x4:Bool):Bool→Option (Model×Int)
| x9=>
 ifb x9 (
 (Zql x1 x2 x4) 205) (
 ifb (decide (x2.Kind<0)) (
 (Zrl x1 x2 x3 x4) true) (
 (Zrl x1 x2 x3 x4) (decide (8<x2.Kind))))
noncomputable def Ztl (x1:Model) (x2:Event) (x3:Int) (x4:Bool):Bool→Option (Model×Int)
| x7=>
 ifb x7 (
 (Zql x1 x2 x4) 201) (
 ifb (!decide (x2.Kind=5)) (
 (Zai x1 x2.Node).bind fun x8=>
 (Zsl x1 x2 x3 x4) (decide (0<(ln Zf5 x8)))) (
 (Zsl x1 x2 x3 x4) false))
noncomputable def Zul (x1:Model) (x2:Event) (x3:Int):Bool→Option (Model×Int)
| x4=>
 ifb (!decide (x3=0)) (
 (Zql x1 x2 x4) x3) (
 (Zgh x1 x2.Node).bind fun x5=>
 ifb (!x5) (
 (Ztl x1 x2 x3 x4) true) (
 ifb x4 (
 (Zgh x1 x2.Peer).bind fun x6=>
 ifb (!x6) (
 (Ztl x1 x2 x3 x4) true) (
 (Ztl x1 x2 x3 x4) (decide (x2.Peer=x2.Node)))) (
 (Ztl x1 x2 x3 x4) false)))
noncomputable def Zvl (x1:Model) (x2:Event):Option (Model×Int):=
 (Zwh x1).bind fun x3=>
 ifb (decide (x2.Kind=6)) (
 (Zul x1 x2 x3) true) (
 ifb (decide (x2.Kind=7)) (
 (Zul x1 x2 x3) true) (
 (Zul x1 x2 x3) (decide (x2.Kind=8))))
theorem Zwl (x1:Model) (x2:Event) (r:(Model×Int)) (h:Zvl x1 x2=some r):Zz2 Try.prog 11 [.agg (Model.row x1),.agg (Event.row x2)] (.tup [.agg (Model.row r.1),.iv r.2]):=by
 refine Z33 ok11 rfl rfl fun w0 H0=>?_
 rw [Zvl] at h
 refine Zu2 10 ?_;dsimp only [go_sem];refine An ?_;obtain ⟨x3,ex3,h⟩:=Bs h;refine Z83 trivial (Zxh x1 _ ex3) (h:=?_);refine Zu2 8 ?_;dsimp only [go_sem];refine An ?_;refine Zy4 (fun (x4:Bool)=>(⟨(.any :: .any :: .ptr 0 0 :: .ptr 1 0 :: .ptr 2 0 :: .any :: .iv x3 :: .bv x4::an 98 []),[some ⟨30,[.sl 3 (List.map Place.row x1.Places)]⟩,some ⟨41,[.iv x2.Kind,.iv x2.Node,.iv x2.ID,.iv x2.Peer,.sl 1 (List.map Zf5 x2.Need)]⟩,some ⟨30,[.nl]⟩],[]⟩:St)) (Zul x1 x2 x3) r ?_ fun J1=>?_
 ·intro x4 h;rw [Zul] at h;(try dsimp only);refine Zu2 8 ?_;dsimp only [go_sem];refine An ?_;refine Zy4 (fun (x11:Int)=>(⟨(.any :: .any :: .ptr 0 0 :: .ptr 1 0 :: .ptr 2 0 :: .any :: .iv x11 :: .bv x4::an 98 []),[some ⟨30,[.sl 3 (List.map Place.row x1.Places)]⟩,some ⟨41,[.iv x2.Kind,.iv x2.Node,.iv x2.ID,.iv x2.Peer,.sl 1 (List.map Zf5 x2.Need)]⟩,some ⟨30,[.nl]⟩],[]⟩:St)) (Zql x1 x2 x4) r ?_ fun J2=>?_
  ·intro x11 h;rw [Zql] at h;(try dsimp only);refine Zu2 7 ?_;dsimp only [go_sem];refine An ?_;refine Z05 h rfl (fun _ h=>?_) fun _ h=>?_
   ·refine Zu2 7 ?_;dsimp only [go_sem];refine An ?_;exact Z85 (res:=fun (r:(Model×Int))=>.tup [.agg (Model.row r.1),.iv r.2]) ok11 h
   ·refine Zu2 4 ?_;dsimp only [go_sem];refine An ?_;obtain ⟨x12,ex12,h⟩:=Bs h;refine Za6 [false,false,false] [] trivial (Zij x1 _ ex12) (h:=?_);dsimp only [go_sem];refine Zu2 8 ?_;dsimp only [go_sem];refine An ?_;obtain ⟨x13,ex13,h⟩:=Bs h;refine Zw5 Place.row ex13 trivial rfl rfl rfl ?_;refine Zu2 7 ?_;dsimp only [go_sem];refine An ?_
    refine Zy4 (fun ((x16,x17):(Int×(List Place)))=>(⟨(.any :: .any :: .ptr 0 0 :: .any :: .ptr 2 0 :: .any :: .iv x16::an 99 []),[some ⟨30,[.osl 0]⟩,none,some ⟨30,[.nl]⟩],[some ⟨51,3,List.map Place.row x17⟩]⟩:St)) Zpl r ?_ fun J6=>?_
    ·rintro ⟨x16,x17⟩ h;rw [Zpl] at h;(try dsimp only);refine Zu2 6 ?_;dsimp only [go_sem];refine An ?_;refine Z05 h rfl (fun _ h=>?_) fun _ h=>?_
     ·refine Zu2 7 ?_;dsimp only [go_sem];refine An ?_;exact Z85 (res:=fun (r:(Model×Int))=>.tup [.agg (Model.row r.1),.iv r.2]) ok11 h
     ·refine Zu2 7 ?_;dsimp only [go_sem];refine An ?_;refine Zm3 0 rfl ?_;dsimp only [go_sem];exact Z85 (res:=fun (r:(Model×Int))=>.tup [.agg (Model.row r.1),.iv r.2]) ok11 h
    ·refine Z05 h rfl (fun _ h=>?_) fun _ h=>?_
     ·refine Zu2 4 ?_;dsimp only [go_sem];refine An ?_;obtain ⟨x14,ex14,h⟩:=Bs h;refine Za6 [false,false,false] [true] trivial (Z2k x2 x12 _ ex14) (h:=?_);dsimp only [go_sem];refine Zu2 5 ?_;dsimp only [go_sem];refine An ?_;refine Z36 [.sl 1 (List.map Zf5 x14.1)] Place.row (y':=(Place.mk x13.Book x14.1)) ex13 trivial rfl rfl rfl (by first | exact Zl4 _ | simp [go_sem]) rfl rfl rfl rfl ?_;refine Zu2 2 ?_;dsimp only [go_sem];refine An ?_;exact Za5 J6 (s:=(x14.2,x12.set (Int.toNat (x2.Node)) ((Place.mk x13.Book x14.1)))) h
     ·refine Zu2 4 ?_;dsimp only [go_sem];refine An ?_;obtain ⟨x15,ex15,h⟩:=Bs h;refine Za6 [false,false,false] [true] trivial (Z8l x2 x12 _ ex15) (h:=?_);dsimp only [go_sem];refine Zu2 5 ?_;dsimp only [go_sem];refine An ?_;refine Z36 [.iv x15.1.Last,.sl 4 (List.map Sess.row x15.1.Sess)] Place.row (y':=(Place.mk x15.1 x13.Live)) ex13 trivial rfl rfl rfl (by first | exact Zl4 _ | simp [go_sem]) rfl rfl rfl rfl ?_;refine Zu2 2 ?_;dsimp only [go_sem];refine An ?_
      exact Za5 J6 (s:=(x15.2,x12.set (Int.toNat (x2.Node)) ((Place.mk x15.1 x13.Live)))) h
  ·refine Z05 h rfl (fun _ h=>?_) fun _ h=>?_
   ·refine Zu2 1 ?_;dsimp only [go_sem];refine An ?_;exact Za5 J2 (s:=x3) h
   ·refine Zu2 5 ?_;dsimp only [go_sem];refine An ?_;obtain ⟨x5,ex5,h⟩:=Bs h;refine Z83 trivial (Zhh x1 x2.Node _ ex5) (h:=?_);refine Zu2 2 ?_;dsimp only [go_sem];refine An ?_;refine Zy4 (fun (x7:Bool)=>(⟨(.any :: .any :: .ptr 0 0 :: .ptr 1 0 :: .ptr 2 0 :: .any :: .iv x3 :: .bv x4::an 19 (.bv x7::an 78 [])),[some ⟨30,[.sl 3 (List.map Place.row x1.Places)]⟩,some ⟨41,[.iv x2.Kind,.iv x2.Node,.iv x2.ID,.iv x2.Peer,.sl 1 (List.map Zf5 x2.Need)]⟩,some ⟨30,[.nl]⟩],[]⟩:St)) (Ztl x1 x2 x3 x4) r ?_ fun J3=>?_
    ·intro x7 h;rw [Ztl] at h;(try dsimp only);refine Z05 h rfl (fun _ h=>?_) fun _ h=>?_
     ·refine Zu2 3 ?_;dsimp only [go_sem];refine An ?_;exact Za5 J2 (s:=201) h
     ·refine Zu2 6 ?_;dsimp only [go_sem];refine An ?_;refine Zy4 (fun (x9:Bool)=>(⟨(.any :: .any :: .ptr 0 0 :: .ptr 1 0 :: .ptr 2 0 :: .any :: .iv x3 :: .bv x4::an 42 (.bv x9::an 55 [])),[some ⟨30,[.sl 3 (List.map Place.row x1.Places)]⟩,some ⟨41,[.iv x2.Kind,.iv x2.Node,.iv x2.ID,.iv x2.Peer,.sl 1 (List.map Zf5 x2.Need)]⟩,some ⟨30,[.nl]⟩],[]⟩:St)) (Zsl x1 x2 x3 x4) r ?_ fun J4=>?_
      ·intro x9 h;rw [Zsl] at h;(try dsimp only);refine Z05 h rfl (fun _ h=>?_) fun _ h=>?_
       ·refine Zu2 3 ?_;dsimp only [go_sem];refine An ?_;exact Za5 J2 (s:=205) h
       ·refine Zu2 6 ?_;dsimp only [go_sem];refine An ?_;refine Zy4 (fun (x10:Bool)=>(⟨(.any :: .any :: .ptr 0 0 :: .ptr 1 0 :: .ptr 2 0 :: .any :: .iv x3 :: .bv x4::an 54 (.bv x10::an 43 [])),[some ⟨30,[.sl 3 (List.map Place.row x1.Places)]⟩,some ⟨41,[.iv x2.Kind,.iv x2.Node,.iv x2.ID,.iv x2.Peer,.sl 1 (List.map Zf5 x2.Need)]⟩,some ⟨30,[.nl]⟩],[]⟩:St)) (Zrl x1 x2 x3 x4) r ?_ fun J5=>?_
        ·intro x10 h;rw [Zrl] at h;(try dsimp only);refine Z05 h rfl (fun _ h=>?_) fun _ h=>?_
         ·refine Zu2 3 ?_;dsimp only [go_sem];refine An ?_;exact Za5 J2 (s:=207) h
         ·refine Zu2 1 ?_;dsimp only [go_sem];refine An ?_;exact Za5 J2 (s:=x3) h
        ·refine Z75 66 h rfl (fun _ h=>?_) fun _ h=>?_
         ·dsimp only [go_sem];refine Zu2 6 ?_;dsimp only [go_sem];refine An ?_;exact Za5 J5 (s:=true) h
         ·dsimp only [go_sem];refine Zu2 6 ?_;dsimp only [go_sem];refine An ?_;exact Za5 J5 (s:=decide (8<x2.Kind)) h
      ·refine Z75 54 h rfl (fun _ h=>?_) fun _ h=>?_
       ·dsimp only [go_sem];refine Zu2 3 ?_;dsimp only [go_sem];refine An ?_;obtain ⟨x8,ex8,h⟩:=Bs h;refine Z83 trivial (Zbi x1 x2.Node _ ex8) (h:=?_);refine Zu2 5 ?_;dsimp only [go_sem];refine An ?_;exact Za5 J4 (s:=decide (0<(ln Zf5 x8))) h
       ·dsimp only [go_sem];refine Zu2 9 ?_;dsimp only [go_sem];refine An ?_;exact Za5 J4 (s:=false) h
    ·refine Z75 33 h rfl (fun _ h=>?_) fun _ h=>?_
     ·dsimp only [go_sem];refine Zu2 18 ?_;dsimp only [go_sem];refine An ?_;exact Za5 J3 (s:=true) h
     ·dsimp only [go_sem];refine Zu2 2 ?_;dsimp only [go_sem];refine An ?_;refine Z75 35 h rfl (fun _ h=>?_) fun _ h=>?_
      ·dsimp only [go_sem];refine Zu2 3 ?_;dsimp only [go_sem];refine An ?_;obtain ⟨x6,ex6,h⟩:=Bs h;refine Z83 trivial (Zhh x1 x2.Peer _ ex6) (h:=?_);refine Zu2 2 ?_;dsimp only [go_sem];refine An ?_;refine Z75 41 h rfl (fun _ h=>?_) fun _ h=>?_
       ·dsimp only [go_sem];refine Zu2 10 ?_;dsimp only [go_sem];refine An ?_;exact Za5 J3 (s:=true) h
       ·dsimp only [go_sem];refine Zu2 10 ?_;dsimp only [go_sem];refine An ?_;exact Za5 J3 (s:=decide (x2.Peer=x2.Node)) h
      ·dsimp only [go_sem];refine Zu2 16 ?_;dsimp only [go_sem];refine An ?_;exact Za5 J3 (s:=false) h
 ·refine Z75 14 h rfl (fun _ h=>?_) fun _ h=>?_
  ·dsimp only [go_sem];refine Zu2 11 ?_;dsimp only [go_sem];refine An ?_;exact Za5 J1 (s:=true) h
  ·dsimp only [go_sem];refine Zu2 5 ?_;dsimp only [go_sem];refine An ?_;refine Z75 19 h rfl (fun _ h=>?_) fun _ h=>?_
   ·dsimp only [go_sem];refine Zu2 6 ?_;dsimp only [go_sem];refine An ?_;exact Za5 J1 (s:=true) h
   ·dsimp only [go_sem];refine Zu2 6 ?_;dsimp only [go_sem];refine An ?_;exact Za5 J1 (s:=decide (x2.Kind=8)) h
def Zxl (_F:Nat):(Int×(List Place))→Option (Model×Int)
| (x16,x17)=>
 ifb (!decide (x16=0)) (
 some ((Model.mk (([]:(List Place)))),x16)) (
 some ((Model.mk x17),0))
theorem Zyl {F:Nat}:∀s,ole (Zxl F s) (Zpl s):=by
 rintro ⟨x16,x17⟩
 unfold Zxl Zpl
 try dsimp only
 with_reducible repeat' first | exact Zr4 _ | assumption | intro _ | refine Zs4 ?_ ?_ | refine Zt4 ?_ ?_ | refine Zu4 ?_ | refine Zw4 ?_
def Zzl (F:Nat) (x1:Model) (x2:Event) (x4:Bool):Int→Option (Model×Int)
| x11=>
 ifb (!decide (x11=0)) (
 some ((Model.mk (([]:(List Place)))),x11)) (
 (Zvj F x1).bind fun x12=>
 (at_ x12 x2.Node).bind fun x13=>
 ifb x4 (
 (Zbk F x2 x12).bind fun x14=>
 Zxl F (x14.2,x12.set (Int.toNat (x2.Node)) ((Place.mk x13.Book x14.1)))) (
 (Znl F x2 x12).bind fun x15=>
 Zxl F (x15.2,x12.set (Int.toNat (x2.Node)) ((Place.mk x15.1 x13.Live)))))
theorem Z0m {F:Nat} {x1:Model} {x2:Event} {x4:Bool}:∀s,ole (Zzl F x1 x2 x4 s) (Zql x1 x2 x4 s):=by
 intro x11
 unfold Zzl Zql
 try dsimp only
 with_reducible repeat' first | exact Zr4 _ | assumption | intro _ | refine Zs4 ?_ ?_ | refine Zt4 ?_ ?_ | refine Zu4 ?_ | refine Zw4 ?_ | apply Zyl | apply Zwj | apply Zck | apply Zol
def Z1m (F:Nat) (x1:Model) (x2:Event) (x3:Int) (x4:Bool):Bool→Option (Model×Int)
| x10=>
 ifb x10 (
 (Zzl F x1 x2 x4) 207) (
 (Zzl F x1 x2 x4) x3)
theorem Z2m {F:Nat} {x1:Model} {x2:Event} {x3:Int} {x4:Bool}:∀s,ole (Z1m F x1 x2 x3 x4 s) (Zrl x1 x2 x3 x4 s):=by
 intro x10
 unfold Z1m Zrl
 try dsimp only
 with_reducible repeat' first | exact Zr4 _ | assumption | intro _ | refine Zs4 ?_ ?_ | refine Zt4 ?_ ?_ | refine Zu4 ?_ | refine Zw4 ?_ | apply Zyl | apply Zwj | apply Zck | apply Zol | apply Z0m
def Z3m (F:Nat) (x1:Model) (x2:Event) (x3:Int) (x4:Bool):Bool→Option (Model×Int)
| x9=>
 ifb x9 (
 (Zzl F x1 x2 x4) 205) (
 ifb (decide (x2.Kind<0)) (
 (Z1m F x1 x2 x3 x4) true) (
 (Z1m F x1 x2 x3 x4) (decide (8<x2.Kind))))
theorem Z4m {F:Nat} {x1:Model} {x2:Event} {x3:Int} {x4:Bool}:∀s,ole (Z3m F x1 x2 x3 x4 s) (Zsl x1 x2 x3 x4 s):=by
 intro x9
 unfold Z3m Zsl
 try dsimp only
 with_reducible repeat' first | exact Zr4 _ | assumption | intro _ | refine Zs4 ?_ ?_ | refine Zt4 ?_ ?_ | refine Zu4 ?_ | refine Zw4 ?_ | apply Zyl | apply Zwj | apply Zck | apply Zol | apply Z0m | apply Z2m
def Z5m (F:Nat) (x1:Model) (x2:Event) (x3:Int) (x4:Bool):Bool→Option (Model×Int)
| x7=>
 ifb x7 (
 (Zzl F x1 x2 x4) 201) (
 ifb (!decide (x2.Kind=5)) (
 (Zki F x1 x2.Node).bind fun x8=>
 (Z3m F x1 x2 x3 x4) (decide (0<(ln Zf5 x8)))) (
 (Z3m F x1 x2 x3 x4) false))
theorem Z6m {F:Nat} {x1:Model} {x2:Event} {x3:Int} {x4:Bool}:∀s,ole (Z5m F x1 x2 x3 x4 s) (Ztl x1 x2 x3 x4 s):=by
 intro x7
 unfold Z5m Ztl
 try dsimp only
 with_reducible repeat' first | exact Zr4 _ | assumption | intro _ | refine Zs4 ?_ ?_ | refine Zt4 ?_ ?_ | refine Zu4 ?_ | refine Zw4 ?_ | apply Zyl | apply Zwj | apply Zck | apply Zol | apply Z0m | apply Z2m | apply Z4m | apply Zli
def Z7m (F:Nat) (x1:Model) (x2:Event) (x3:Int):Bool→Option (Model×Int)
| x4=>
 ifb (!decide (x3=0)) (
 (Zzl F x1 x2 x4) x3) (
 (Zkh F x1 x2.Node).bind fun x5=>
 ifb (!x5) (
 (Z5m F x1 x2 x3 x4) true) (
 ifb x4 (
 (Zkh F x1 x2.Peer).bind fun x6=>
 ifb (!x6) (
 (Z5m F x1 x2 x3 x4) true) (
 (Z5m F x1 x2 x3 x4) (decide (x2.Peer=x2.Node)))) (
 (Z5m F x1 x2 x3 x4) false)))
theorem Z8m {F:Nat} {x1:Model} {x2:Event} {x3:Int}:∀s,ole (Z7m F x1 x2 x3 s) (Zul x1 x2 x3 s):=by
 intro x4
 unfold Z7m Zul
 try dsimp only
 with_reducible repeat' first | exact Zr4 _ | assumption | intro _ | refine Zs4 ?_ ?_ | refine Zt4 ?_ ?_ | refine Zu4 ?_ | refine Zw4 ?_ | apply Zyl | apply Zwj | apply Zck | apply Zol | apply Z0m | apply Z2m | apply Z4m | apply Zli | apply Z6m | apply Zlh
def Z9m (F:Nat) (x1:Model) (x2:Event):Option (Model×Int):=
 (Z4i F x1).bind fun x3=>
 ifb (decide (x2.Kind=6)) (
 (Z7m F x1 x2 x3) true) (
 ifb (decide (x2.Kind=7)) (
 (Z7m F x1 x2 x3) true) (
 (Z7m F x1 x2 x3) (decide (x2.Kind=8))))
theorem Zam {F:Nat} {x1:Model} {x2:Event}:ole (Z9m F x1 x2) (Zvl x1 x2):=by
 unfold Z9m Zvl
 with_reducible repeat' first | exact Zr4 _ | assumption | intro _ | refine Zs4 ?_ ?_ | refine Zt4 ?_ ?_ | refine Zu4 ?_ | refine Zw4 ?_ | apply Zyl | apply Zwj | apply Zck | apply Zol | apply Z0m | apply Z2m | apply Z4m | apply Zli | apply Z6m | apply Zlh | apply Z8m | apply Z5i
set_option maxRecDepth 100000
set_option maxHeartbeats 4000000
@[go_sem] def e8_L0:EC:=.seq (.reg [(Qa 16 (.bin .lss (.t 15) (.t 14)))]) (.seq (.ite (.t 16) (.skip) (.exit 0)) (.seq (.blk 1 (.seq (.reg [(Qm 17 15),(Qm 6 17)]) (.drw [(Qf 18 0 5),(Ql 19 18),(Qe 20 2 1),(Qm 21 6),(Qa 22 (.call 22 [(.t 20),(.t 21)])),(Qa 23 (.build [.iv 0,.nl,.nl] [(2,1,(.t 22))])),(Qa 24 (.bsl 51 3 1 [.iv 0,.nl,.nl] [(0,(.t 23))])),(Qa 25 (.app 51 3 56 (.t 19) (.t 24))),(Qf 26 0 5),(Qs 1 26 25)] [[],[0],[],[],[2,3],[4],[5],[1,6,4],[0,1,2,3,4,5,6,7],[8,7,7,0,1,2,3,4,5,6,7]] [[1],[0,7],[4],[4],[2,3,5],[4,6],[5,7],[1,6,9],[9],[7,8]]))) (.reg [(Qv 27 15 1),(Qm 15 27)])))
@[go_sem] def e8:EC:=.seq (.reg [(Qx 1 24 2 0),(Qa 2 (.alloc 30 [.nl])),(Qi 3 0)]) (.seq (.seq (.reg [(Qe 7 2 1),(Qa 8 (.call 21 [(.t 7)])),(Qm 4 8)]) (.seq (.reg [(Qm 9 4),(Qa 10 (.bin .neq (.t 9) (.c (.iv 0))))]) (.ite (.t 10) (.seq (.reg [(Qa 11 (.build [.nl] [])),(Qm 12 4),(Qs 1 2 11),(Qm 3 12)]) (.ret)) (.skip)))) (.seq (.reg [(Qa 5 (.alloc 30 [.nl]))]) (.seq (.seq (.reg [(Qf 13 0 1),(Ql 14 13),(Qi 15 0)]) (.blk 0 (.loop e8_L0))) (.seq (.reg [(Qe 28 1 5),(Qs 1 2 28),(Qi 3 0)]) (.ret)))))
theorem ok8:FnOK Try.prog 8 Try.f8 e8 [.c 2 (some 1),.t 3] 1 28:=⟨by kernel_rfl,⟨_,rfl,by kernel_rfl⟩,by kernel_rfl,by kernel_rfl⟩
noncomputable def Zbm:(List Place)→Option (Model×Int)
| x30=>
 some ((Model.mk x30),0)
noncomputable def Zcm (x1:Graph):(Int×(List Place))→Option ((Int×(List Place)) ⊕ (Model×Int))
| (x7,x8)=>
 ifb (decide (x7<x1.N)) (
 (Zv9 x1 x7).bind fun x9=>
 (Zm4 56 x8 ([(Place.mk ((Book.mk 0 (([]:List Sess)))) x9)])).bind fun x11=>
 some (.inl (wr (x7+1),x11))) (
 Option.map Sum.inr (Zbm x8))
noncomputable def Zdm (x1:Graph):Option (Model×Int):=
 (Z59 x1).bind fun x2=>
 ifb (!decide (x2=0)) (
 some ((Model.mk (([]:(List Place)))),x2)) (
 loop (Zcm x1) (0,([]:List Place)))
theorem Zem (x1:Graph) (r:(Model×Int)) (h:Zdm x1=some r):Zz2 Try.prog 8 [.agg (Graph.row x1)] (.tup [.agg (Model.row r.1),.iv r.2]):=by
 refine Z33 ok8 rfl rfl fun w0 H0=>?_
 rw [Zdm] at h
 refine Zu2 10 ?_;dsimp only [go_sem];refine An ?_;obtain ⟨x2,ex2,h⟩:=Bs h;refine Z83 trivial (Z69 x1 _ ex2) (h:=?_);refine Zu2 7 ?_;dsimp only [go_sem];refine An ?_;refine Z05 h rfl (fun _ h=>?_) fun _ h=>?_
 ·refine Zu2 7 ?_;dsimp only [go_sem];refine An ?_;exact Z85 (res:=fun (r:(Model×Int))=>.tup [.agg (Model.row r.1),.iv r.2]) ok8 h
 ·refine Zu2 12 ?_;dsimp only [go_sem];refine An ?_;refine Zy4 (fun (x30:(List Place))=>(⟨(.any :: .any :: .ptr 1 0 :: .any :: .any :: .ptr 2 0::an 23 []),[none,some ⟨30,[.nl]⟩,some ⟨30,[.osl 0]⟩],[some ⟨51,3,List.map Place.row x30⟩]⟩:St)) Zbm r ?_ fun J1=>?_
  ·intro x30 h;rw [Zbm] at h;(try dsimp only);refine Zu2 6 ?_;dsimp only [go_sem];refine An ?_;refine Zm3 0 rfl ?_;dsimp only [go_sem];exact Z85 (res:=fun (r:(Model×Int))=>.tup [.agg (Model.row r.1),.iv r.2]) ok8 h
  ·refine Zu2 1 ?_;dsimp only [go_sem];refine An ?_;refine V_ownB 2 0 51 3 rfl rfl rfl ?_;dsimp only [go_sem];refine Zz4 h (fun ((x7,x8):(Int×(List Place)))=>(⟨(.any :: .ptr 0 0 :: .ptr 1 0 :: .any :: .any :: .ptr 2 0::an 8 (.iv x1.N :: .iv x7::an 13 [])),[some ⟨24,[.iv x1.N,.sl 2 (List.map Edge.row x1.Edges)]⟩,some ⟨30,[.nl]⟩,some ⟨30,[.osl 0]⟩],[some ⟨51,3,List.map Place.row x8⟩]⟩:St)) (by simp [go_sem]) (by rintro ⟨x7,x8⟩;first | rfl | simp [go_sem]) ?_;rintro n1 ⟨x7,x8⟩ y1 h hin1 hout1;rw [Zcm] at h;(try dsimp only);refine Zu2 5 ?_
   dsimp only [go_sem];refine An ?_;refine Z05 h rfl (fun _ h=>?_) fun _ h=>?_
   ·refine Zu2 8 ?_;dsimp only [go_sem];refine An ?_;refine Zu3 (by kernel_rfl) fun all hall hs hnap haf=>?_;dsimp only [go_sem];refine Zt5 hall hs haf hnap 3 7 ?_;dsimp only [go_sem];refine An ?_;obtain ⟨x9,ex9,h⟩:=Bs h;refine Z64 1 4 rfl ?_ ?_
    ·refine Za4 hall rfl trivial ?_;dsimp only [go_sem];refine Z54 4 rfl ?_;refine Zb4 hall rfl trivial (Zw9 x1 x7 _ ex9) (h:=?_);dsimp only [go_sem];refine Z54 5 rfl ?_;refine GO_evW (.agg [.iv 0,.sl 4 (List.map Sess.row (([]:List Sess))),.sl 1 (List.map Zf5 x9)]) hall rfl trivial (by simp [go_sem]) ?_;dsimp only [go_sem];refine Z54 6 rfl ?_;refine Za4 hall rfl trivial ?_;dsimp only [go_sem];refine Z54 7 rfl ?_;obtain ⟨x11,ex11,h⟩:=Bs h;refine Z65 Place.row ex11 hall rfl trivial rfl rfl rfl ?_;dsimp only [go_sem]
     refine Zt5 hall hs haf hnap 1 1 ?_;dsimp only [go_sem];refine An ?_;refine Z54 9 rfl ?_;refine Za4 hall rfl trivial ?_;dsimp only [go_sem];refine Z44 rfl ?_ _;refine Zu2 5 ?_;dsimp only [go_sem];refine An ?_;refine Zg4 2 0 rfl rfl rfl ?_;dsimp only [go_sem];exact Z95 h hin1
    ·refine Zb4 hall rfl trivial (Zw9 x1 x7 _ ex9) (h:=?_);dsimp only [go_sem];refine Z64 1 5 rfl ?_ ?_
     ·refine Za4 hall rfl trivial ?_;dsimp only [go_sem];refine Z54 5 rfl ?_;refine GO_evW (.agg [.iv 0,.sl 4 (List.map Sess.row (([]:List Sess))),.sl 1 (List.map Zf5 x9)]) hall rfl trivial (by simp [go_sem]) ?_;dsimp only [go_sem];refine Z54 6 rfl ?_;refine Za4 hall rfl trivial ?_;dsimp only [go_sem];refine Z54 7 rfl ?_;obtain ⟨x11,ex11,h⟩:=Bs h;refine Z65 Place.row ex11 hall rfl trivial rfl rfl rfl ?_;dsimp only [go_sem];refine Zt5 hall hs haf hnap 1 1 ?_;dsimp only [go_sem];refine An ?_;refine Z54 9 rfl ?_;refine Za4 hall rfl trivial ?_
      dsimp only [go_sem];refine Z44 rfl ?_ _;refine Zu2 5 ?_;dsimp only [go_sem];refine An ?_;refine Zg4 2 0 rfl rfl rfl ?_;dsimp only [go_sem];exact Z95 h hin1
     ·refine GO_evW (.agg [.iv 0,.sl 4 (List.map Sess.row (([]:List Sess))),.sl 1 (List.map Zf5 x9)]) hall rfl trivial (by simp [go_sem]) ?_;dsimp only [go_sem];refine Z64 1 6 rfl ?_ ?_
      ·refine Za4 hall rfl trivial ?_;dsimp only [go_sem];refine Z54 6 rfl ?_;refine Za4 hall rfl trivial ?_;dsimp only [go_sem];refine Z54 7 rfl ?_;obtain ⟨x11,ex11,h⟩:=Bs h;refine Z65 Place.row ex11 hall rfl trivial rfl rfl rfl ?_;dsimp only [go_sem];refine Zt5 hall hs haf hnap 1 1 ?_;dsimp only [go_sem];refine An ?_;refine Z54 9 rfl ?_;refine Za4 hall rfl trivial ?_;dsimp only [go_sem];refine Z44 rfl ?_ _;refine Zu2 5 ?_;dsimp only [go_sem];refine An ?_;refine Zg4 2 0 rfl rfl rfl ?_;dsimp only [go_sem];exact Z95 h hin1
      ·refine Za4 hall rfl trivial ?_;dsimp only [go_sem];refine Z54 1 rfl ?_;refine Za4 hall rfl trivial ?_;dsimp only [go_sem];refine Z54 7 rfl ?_;obtain ⟨x11,ex11,h⟩:=Bs h;refine Z65 Place.row ex11 hall rfl trivial rfl rfl rfl ?_;dsimp only [go_sem];refine Zt5 hall hs haf hnap 1 1 ?_;dsimp only [go_sem];refine An ?_;refine Z54 9 rfl ?_;refine Za4 hall rfl trivial ?_;dsimp only [go_sem];refine Z44 rfl ?_ _;refine Zu2 5 ?_;dsimp only [go_sem];refine An ?_;refine Zg4 2 0 rfl rfl rfl ?_;dsimp only [go_sem];exact Z95 h hin1
   ·refine Zu2 1 ?_;dsimp only [go_sem];refine An ?_;exact Za5 J1 (s:=x8) (Zx4 h hout1)
def Zfm (_F:Nat):(List Place)→Option (Model×Int)
| x30=>
 some ((Model.mk x30),0)
theorem Zgm {F:Nat}:∀s,ole (Zfm F s) (Zbm s):=by
 intro x30
 unfold Zfm Zbm
 try dsimp only
 with_reducible repeat' first | exact Zr4 _ | assumption | intro _ | refine Zs4 ?_ ?_ | refine Zt4 ?_ ?_ | refine Zu4 ?_ | refine Zw4 ?_
def Zhm (F:Nat) (x1:Graph):(Int×(List Place))→Option ((Int×(List Place)) ⊕ (Model×Int))
| (x7,x8)=>
 ifb (decide (x7<x1.N)) (
 (Z3a F x1 x7).bind fun x9=>
 (Zm4 56 x8 ([(Place.mk ((Book.mk 0 (([]:List Sess)))) x9)])).bind fun x11=>
 some (.inl (wr (x7+1),x11))) (
 Option.map Sum.inr (Zfm F x8))
theorem Zim {F:Nat} {x1:Graph}:∀s,ole (Zhm F x1 s) (Zcm x1 s):=by
 rintro ⟨x7,x8⟩
 unfold Zhm Zcm
 try dsimp only
 with_reducible repeat' first | exact Zr4 _ | assumption | intro _ | refine Zs4 ?_ ?_ | refine Zt4 ?_ ?_ | refine Zu4 ?_ | refine Zw4 ?_ | apply Zgm | apply Z4a
def Zjm (F:Nat) (x1:Graph):Option (Model×Int):=
 (Zf9 F x1).bind fun x2=>
 ifb (!decide (x2=0)) (
 some ((Model.mk (([]:(List Place)))),x2)) (
 Zv4 F (Zhm F x1) (0,([]:List Place)))
theorem Zkm {F:Nat} {x1:Graph}:ole (Zjm F x1) (Zdm x1):=by
 unfold Zjm Zdm
 with_reducible repeat' first | exact Zr4 _ | assumption | intro _ | refine Zs4 ?_ ?_ | refine Zt4 ?_ ?_ | refine Zu4 ?_ | refine Zw4 ?_ | apply Zgm | apply Z4a | apply Zim | apply Zg9
set_option maxRecDepth 100000
set_option maxHeartbeats 4000000
@[go_sem] def e13_L1:EC:=.seq (.reg [(Qa 13 (.bin .lss (.t 12) (.t 11)))]) (.seq (.ite (.t 13) (.skip) (.exit 2)) (.seq (.blk 3 (.seq (.reg [(Qm 14 12),(Qm 4 14)]) (.seq (.reg [(Qe 15 1 1),(Qm 16 3),(Qm 17 4),(Qa 18 (.call 29 [(.t 15),(.t 16),(.t 17)])),(Qm 19 18),(Qg 20 19 true (.loadA 1 (.t 1))),(Qg 21 19 true (.mv (.t 4))),(Qg 22 19 true (.mv (.t 3))),(Qg 23 19 true (.call 29 [(.t 20),(.t 21),(.t 22)])),(Qp 24 19 23)]) (.ite (.t 24) (.seq (.reg [(Qa 2 (.mv (.c .ff)))]) (.ret)) (.skip))))) (.reg [(Qv 25 12 1),(Qm 12 25)])))
@[go_sem] def e13_L0:EC:=.seq (.reg [(Qa 9 (.bin .lss (.t 8) (.t 7)))]) (.seq (.ite (.t 9) (.skip) (.exit 0)) (.seq (.blk 1 (.seq (.reg [(Qm 10 8),(Qm 3 10)]) (.seq (.reg [(Qm 11 3),(Qi 12 0)]) (.blk 2 (.loop e13_L1))))) (.reg [(Qv 26 8 1),(Qm 8 26)])))
@[go_sem] def e13:EC:=.seq (.reg [(Qx 1 30 1 0),(Qa 2 (.mv (.c .ff)))]) (.seq (.seq (.reg [(Qf 5 0 1),(Ql 6 5),(Qa 7 (.len (.t 6))),(Qi 8 0)]) (.blk 0 (.loop e13_L0))) (.seq (.reg [(Qa 2 (.mv (.c .tt)))]) (.ret)))
theorem ok13:FnOK Try.prog 13 Try.f13 e13 [.t 2] 1 26:=⟨by kernel_rfl,⟨_,rfl,by kernel_rfl⟩,by kernel_rfl,by kernel_rfl⟩
noncomputable def Zlm:Unit→Option Bool
| ()=>
 some true
noncomputable def Zmm (x15:Int):Unit→Option (Int ⊕ Bool)
| ()=>
 some (.inl (wr (x15+1)))
noncomputable def Znm (x20:Int):Bool→Option (Int ⊕ (Int ⊕ Bool))
| x23=>
 ifb x23 (
 Option.map Sum.inr (Option.map Sum.inr (some false))) (
 some (.inl (wr (x20+1))))
noncomputable def Zom (x1:Model) (x15:Int):Int→Option (Int ⊕ (Int ⊕ Bool))
| x20=>
 ifb (decide (x20<x15)) (
 (Z1j x1 x15 x20).bind fun x21=>
 ifb x21 (
 (Z1j x1 x20 x15).bind fun x22=>
 (Znm x20) x22) (
 (Znm x20) false)) (
 Option.map Sum.inr ((Zmm x15) ()))
noncomputable def Zpm (x1:Model):Int→Option (Int ⊕ Bool)
| x15=>
 ifb (decide (x15<(ln Place.row x1.Places))) (
 loop (Zom x1 x15) 0) (
 Option.map Sum.inr (Zlm ()))
noncomputable def Zqm (x1:Model):Option Bool:=
 loop (Zpm x1) 0
theorem Zrm (x1:Model) (r:Bool) (h:Zqm x1=some r):Zz2 Try.prog 13 [.agg (Model.row x1)] (.bv r):=by
 refine Z33 ok13 rfl rfl fun w0 H0=>?_
 rw [Zqm] at h
 refine Zu2 13 ?_;dsimp only [go_sem];refine An ?_;refine Zy4 (fun (_:Unit)=>(⟨(an 27 []),[],[]⟩:St)) Zlm r ?_ fun J1=>?_
 ·rintro ⟨⟩ h;rw [Zlm] at h;(try dsimp only);refine Zu2 4 ?_;dsimp only [go_sem];refine An ?_;exact Z85 (res:=fun (r:Bool)=>.bv r) ok13 h
 ·refine Zu2 1 ?_;dsimp only [go_sem];refine An ?_;refine Zz4 h (fun (x15:Int)=>(⟨(.any :: .ptr 0 0::an 5 (.iv (ln Place.row x1.Places) :: .iv x15::an 18 [])),[some ⟨30,[.sl 3 (List.map Place.row x1.Places)]⟩],[]⟩:St)) (by simp [go_sem]) (by intro x15;first | rfl | simp [go_sem]) ?_;rintro n1 x15 y1 h hin1 hout1;rw [Zpm] at h;(try dsimp only);refine Zu2 5 ?_;dsimp only [go_sem];refine An ?_;refine Z05 h rfl (fun _ h=>?_) fun _ h=>?_
  ·refine Zu2 13 ?_;dsimp only [go_sem];refine An ?_;refine Zy4 (fun (_:Unit)=>(⟨(.any :: .ptr 0 0::an 5 (.iv (ln Place.row x1.Places) :: .iv x15::an 18 [])),[some ⟨30,[.sl 3 (List.map Place.row x1.Places)]⟩],[]⟩:St)) (Zmm x15) y1 ?_ fun J2=>?_
   ·rintro ⟨⟩ h;rw [Zmm] at h;(try dsimp only);refine Zu2 5 ?_;dsimp only [go_sem];refine An ?_;exact Z95 h hin1
   ·refine Zu2 1 ?_;dsimp only [go_sem];refine An ?_;refine Zz4 h (fun (x20:Int)=>(⟨(.any :: .ptr 0 0 :: .any :: .iv x15::an 3 (.iv (ln Place.row x1.Places) :: .iv x15 :: .any :: .any :: .iv x15 :: .iv x20::an 14 [])),[some ⟨30,[.sl 3 (List.map Place.row x1.Places)]⟩],[]⟩:St)) (by simp [go_sem]) (by intro x20;first | rfl | simp [go_sem]) ?_;rintro n2 x20 y2 h hin2 hout2;rw [Zom] at h;(try dsimp only);refine Zu2 5 ?_;dsimp only [go_sem];refine An ?_;refine Z05 h rfl (fun _ h=>?_) fun _ h=>?_
    ·refine Zu2 13 ?_;dsimp only [go_sem];refine An ?_;obtain ⟨x21,ex21,h⟩:=Bs h;refine Z83 trivial (Z2j x1 x15 x20 _ ex21) (h:=?_);refine Zu2 1 ?_;dsimp only [go_sem];refine An ?_;refine Zy4 (fun (x23:Bool)=>(⟨(.any :: .ptr 0 0 :: .any :: .iv x15::an 3 (.iv (ln Place.row x1.Places) :: .iv x15 :: .any :: .any :: .iv x15 :: .iv x20::an 11 [.bv x23,.any,.any])),[some ⟨30,[.sl 3 (List.map Place.row x1.Places)]⟩],[]⟩:St)) (Znm x20) y2 ?_ fun J3=>?_
     ·intro x23 h;rw [Znm] at h;(try dsimp only);refine Z05 h rfl (fun _ h=>?_) fun _ h=>?_
      ·refine Zu2 4 ?_;dsimp only [go_sem];refine An ?_;exact Z85 (res:=fun (r:Bool)=>.bv r) ok13 (Zx4 (Zx4 h hout2) hout1)
      ·refine Zu2 6 ?_;dsimp only [go_sem];refine An ?_;exact Z95 h hin2
     ·refine Z75 19 h rfl (fun _ h=>?_) fun _ h=>?_
      ·dsimp only [go_sem];refine Zu2 3 ?_;dsimp only [go_sem];refine An ?_;obtain ⟨x22,ex22,h⟩:=Bs h;refine Z83 trivial (Z2j x1 x20 x15 _ ex22) (h:=?_);refine Zu2 2 ?_;dsimp only [go_sem];refine An ?_;exact Za5 J3 (s:=x22) h
      ·dsimp only [go_sem];refine Zu2 6 ?_;dsimp only [go_sem];refine An ?_;exact Za5 J3 (s:=false) h
    ·refine Zu2 1 ?_;dsimp only [go_sem];refine An ?_;exact Za5 J2 (s:=()) (Zx4 h hout2)
  ·refine Zu2 1 ?_;dsimp only [go_sem];refine An ?_;exact Za5 J1 (s:=()) (Zx4 h hout1)
def Zsm (_F:Nat):Unit→Option Bool
| ()=>
 some true
theorem Ztm {F:Nat}:∀s,ole (Zsm F s) (Zlm s):=by
 rintro ⟨⟩
 unfold Zsm Zlm
 try dsimp only
 with_reducible repeat' first | exact Zr4 _ | assumption | intro _ | refine Zs4 ?_ ?_ | refine Zt4 ?_ ?_ | refine Zu4 ?_ | refine Zw4 ?_
def Zum (_F:Nat) (x15:Int):Unit→Option (Int ⊕ Bool)
| ()=>
 some (.inl (wr (x15+1)))
theorem Zvm {F:Nat} {x15:Int}:∀s,ole (Zum F x15 s) (Zmm x15 s):=by
 rintro ⟨⟩
 unfold Zum Zmm
 try dsimp only
 with_reducible repeat' first | exact Zr4 _ | assumption | intro _ | refine Zs4 ?_ ?_ | refine Zt4 ?_ ?_ | refine Zu4 ?_ | refine Zw4 ?_ | apply Ztm
def Zwm (_F:Nat) (x20:Int):Bool→Option (Int ⊕ (Int ⊕ Bool))
| x23=>
 ifb x23 (
 Option.map Sum.inr (Option.map Sum.inr (some false))) (
 some (.inl (wr (x20+1))))
theorem Zxm {F:Nat} {x20:Int}:∀s,ole (Zwm F x20 s) (Znm x20 s):=by
 intro x23
 unfold Zwm Znm
 try dsimp only
 with_reducible repeat' first | exact Zr4 _ | assumption | intro _ | refine Zs4 ?_ ?_ | refine Zt4 ?_ ?_ | refine Zu4 ?_ | refine Zw4 ?_ | apply Ztm | apply Zvm
def Zym (F:Nat) (x1:Model) (x15:Int):Int→Option (Int ⊕ (Int ⊕ Bool))
| x20=>
 ifb (decide (x20<x15)) (
 (Z5j F x1 x15 x20).bind fun x21=>
 ifb x21 (
 (Z5j F x1 x20 x15).bind fun x22=>
 (Zwm F x20) x22) (
 (Zwm F x20) false)) (
 Option.map Sum.inr ((Zum F x15) ()))
theorem Zzm {F:Nat} {x1:Model} {x15:Int}:∀s,ole (Zym F x1 x15 s) (Zom x1 x15 s):=by
 intro x20
 unfold Zym Zom
 try dsimp only
 with_reducible repeat' first | exact Zr4 _ | assumption | intro _ | refine Zs4 ?_ ?_ | refine Zt4 ?_ ?_ | refine Zu4 ?_ | refine Zw4 ?_ | apply Ztm | apply Zvm | apply Zxm | apply Z6j
def Z0n (F:Nat) (x1:Model):Int→Option (Int ⊕ Bool)
| x15=>
 ifb (decide (x15<(ln Place.row x1.Places))) (
 Zv4 F (Zym F x1 x15) 0) (
 Option.map Sum.inr (Zsm F ()))
theorem Z1n {F:Nat} {x1:Model}:∀s,ole (Z0n F x1 s) (Zpm x1 s):=by
 intro x15
 unfold Z0n Zpm
 try dsimp only
 with_reducible repeat' first | exact Zr4 _ | assumption | intro _ | refine Zs4 ?_ ?_ | refine Zt4 ?_ ?_ | refine Zu4 ?_ | refine Zw4 ?_ | apply Ztm | apply Zvm | apply Zxm | apply Z6j | apply Zzm
def Z2n (F:Nat) (x1:Model):Option Bool:=
 Zv4 F (Z0n F x1) 0
theorem Z3n {F:Nat} {x1:Model}:ole (Z2n F x1) (Zqm x1):=by
 unfold Z2n Zqm
 with_reducible repeat' first | exact Zr4 _ | assumption | intro _ | refine Zs4 ?_ ?_ | refine Zt4 ?_ ?_ | refine Zu4 ?_ | refine Zw4 ?_ | apply Ztm | apply Zvm | apply Zxm | apply Z6j | apply Zzm | apply Z1n
def fewM (m:Model):Prop:=m.Places.length≤1000000∧∀p∈m.Places,p.Live.length≤800000∧Z4h p.Book
theorem at_none {α:Type} {l:List α} {i:Int} (h:at_ l i=none):¬(0≤i∧i<l.length):=fun ⟨h0,h1⟩=>by
 obtain ⟨x,hx,_⟩:=at_lt h0 h1
 rw [h] at hx;simp at hx
theorem Z4n {α:Type} {l:List α} {i:Int} {x:α} (h:at_ l i=some x):0≤i∧i<l.length∧l[i.toNat]?=some x:=by
 obtain ⟨h0,h1⟩:=Z15 h
 have:=(List.getElem?_eq_some_iff.1 h1).1
 exact ⟨h0,by omega,h1⟩
theorem Z5n {α:Type} {l:List α} {i:Int} {x:α} (h:at_ l i=some x):x∈l:=List.mem_iff_getElem?.2 ⟨_,(Z4n h).2.2⟩
theorem Z6n (m:Model) (a:Int):Zgh m a=some (at_ m.Places a).isSome:=by
 simp only [Zgh,Zfh,Zh5]
 cases h:at_ m.Places a with
 | none=>
   have:=at_none h
   by_cases h0:0≤a
   ·rw [decide_eq_true h0,Zh6,decide_eq_false (by omega)];rfl
   ·rw [decide_eq_false h0];rfl
 | some x=>
   obtain ⟨h0,h1,_⟩:=Z4n h
   rw [decide_eq_true h0,Zh6,decide_eq_true h1];rfl
def Z7n (P:List Place) (a b:Int):Bool:=match at_ P a with
 | some p=>p.Book.Sess.any fun s=>decide (s.State=1)&&decide (b∈s.Need)
 | none=>false
theorem s_uses (m:Model) (hm:fewM m) (a b:Int):Z1j m a b=some (Z7n m.Places a b):=by
 simp only [Z1j,Z0j,Z6n,Option.bind_some,Z7n]
 cases h:at_ m.Places a with
 | none=>rfl
 | some p=>
   have hp:=hm.2 p (Z5n h)
   simp only [Option.isSome_some,Zh6,Option.bind_some]
   rw [Zza p.Book.Sess _ (fun s=>decide (s.State=1)&&decide (b∈s.Need)) (by have:=hp.2.1;omega) (fun s hs=>by
    simp only [Zui,Zti,Zvd s.Need b (hp.2.2 s hs),Option.bind_some]
    cases decide (s.State=1)<;>rfl),Option.bind_some]
theorem s_mlive (m:Model) (hm:fewM m) (a b:Int) {p:Place} (h:at_ m.Places a=some p):Zqi m a b=some (decide (b∈p.Live)):=by
 simp only [Zqi,h,Option.bind_some,Zvd p.Live b (by have:=(hm.2 p (Z5n h)).1;omega)]
def dueS (live:List Int) (s:Sess):Bool:=decide (s.State=0)&&!s.Need.all fun z=>decide (z∈live)
def Z8n (p:Place):List Int:=(p.Book.Sess.filter (dueS p.Live)).map (·.ID)
theorem due_len (q:List Sess) (live:List Int):((q.filter (dueS live)).map (·.ID)).length≤q.length:=by
 rw [List.length_map];exact List.length_filter_le _ _
theorem s_Due (m:Model) (hm:fewM m) (a:Int):Zai m a=some (match at_ m.Places a with | some p=>Z8n p | none=>[]):=by
 simp only [Zai,Z6n,Option.bind_some]
 cases h:at_ m.Places a with
 | none=>rfl
 | some p=>
   have hp:=hm.2 p (Z5n h)
   have h8:=hp.2.1
   simp only [Option.isSome_some,Bool.not_true,Zi6,Option.bind_some]
   refine Zma p.Book.Sess _ (fun pre=>((pre.length:Int),(pre.filter (dueS p.Live)).map (·.ID))) (Z8n p) (fun pre x post hx'=>?_) ?_
   ·have hx:=Zna hx'
    have hl:=Zoa hx'
    have hd:=due_len pre p.Live
    dsimp only [Z9i]
    rw [Zm6 hx,Zh6,Zk6 hx,Option.bind_some,h,Option.bind_some,s_Within x.Need p.Live (hp.2.2 x (Zpa hx')) (by omega),Option.bind_some,Zqa,List.filter_append,List.map_append]
    simp only [Z8i,Z7i,Zo6 (show pre.length≤4000000000000000000 by omega)]
    rw [Zl6 _ _ (by omega) (by simp only [List.length_singleton];omega),Option.bind_some]
    have e:([x].filter (dueS p.Live)).map (·.ID)=if dueS p.Live x then [x.ID] else []:=by cases h2:dueS p.Live x<;>simp [h2]
    rw [e]
    unfold dueS
    by_cases h1:x.State=0
    ·cases h2:x.Need.all fun z=>decide (z∈p.Live)<;>simp [h1]
    ·simp [h1]
   ·dsimp only [Z9i]
    rw [Zn6,Zi6];rfl
theorem s_Due4 (m:Model) (hm:fewM m) (a:Int):Zhk a m.Places=some (match at_ m.Places a with | some p=>Z8n p | none=>[]):=by
 simp only [Zhk,Z6n,Option.bind_some]
 cases h:at_ m.Places a with
 | none=>rfl
 | some p=>
   have hp:=hm.2 p (Z5n h)
   have h8:=hp.2.1
   simp only [Option.isSome_some,Bool.not_true,Zi6,Option.bind_some]
   refine Zma p.Book.Sess _ (fun pre=>((pre.length:Int),(pre.filter (dueS p.Live)).map (·.ID))) (Z8n p) (fun pre x post hx'=>?_) ?_
   ·have hx:=Zna hx'
    have hl:=Zoa hx'
    have hd:=due_len pre p.Live
    dsimp only [Zgk]
    rw [Zm6 hx,Zh6,Zk6 hx,Option.bind_some,s_Within x.Need p.Live (hp.2.2 x (Zpa hx')) (by omega),Option.bind_some,Zqa,List.filter_append,List.map_append]
    simp only [Zfk,Zek,Zo6 (show pre.length≤4000000000000000000 by omega)]
    rw [Zl6 _ _ (by omega) (by simp only [List.length_singleton];omega),Option.bind_some]
    have e:([x].filter (dueS p.Live)).map (·.ID)=if dueS p.Live x then [x.ID] else []:=by cases h2:dueS p.Live x<;>simp [h2]
    rw [e]
    unfold dueS
    by_cases h1:x.State=0
    ·cases h2:x.Need.all fun z=>decide (z∈p.Live)<;>simp [h1]
    ·simp [h1]
   ·dsimp only [Zgk]
    rw [Zn6,Zi6];rfl
def Z9n (n:Nat) (i:Nat) (p:Place):Bool:=Z3h p.Book&&(decide (p.Live.Pairwise (· < ·))&&p.Live.all fun q=>decide (0≤q)&&(decide (q<(n:Int))&&!decide (q=(i:Int))))
def okPl (n:Nat):Nat→List Place→Bool
 | _,[]=>true
 | i,p::l=>Z9n n i p&&okPl n (i+1) l
theorem okPl_iff (n:Nat):∀(l:List Place) (i:Nat),okPl n i l=true↔∀k p,l[k]?=some p→Z9n n (i+k) p=true
 | [],_=>by simp [okPl]
 | p::l,i=>by
   simp only [okPl,Bool.and_eq_true,okPl_iff n l (i+1)]
   constructor
   ·rintro ⟨h1,h2⟩ k q hk
    cases k with
    | zero=>simp at hk;subst hk;exact h1
    | succ k=>have:=h2 k q (by simpa using hk);rw [show i+(k+1)=i+1+k by omega];exact this
   ·intro h
    refine ⟨h 0 p (by simp),fun k q hk=>?_⟩
    have:=h (k+1) q (by simpa using hk)
    rw [show i+1+k=i+(k+1) by omega];exact this
def okM (m:Model):Bool:=decide (m.Places.length≤64)&&okPl m.Places.length 0 m.Places
theorem Zan (m:Model):okM m=true↔m.Places.length≤64∧∀k p,m.Places[k]?=some p→Z9n m.Places.length k p=true:=by
 simp only [okM,Bool.and_eq_true,decide_eq_true_eq,okPl_iff,Nat.zero_add]
theorem s_mCheck (m:Model) (hm:fewM m):Zwh m=some (if okM m then 0 else 200):=by
 have h1:=hm.1
 simp only [Zwh,Zh5]
 by_cases h64:m.Places.length≤64
 ·rw [decide_eq_false (by omega),Zi6,show okM m=okPl m.Places.length 0 m.Places by unfold okM;rw [decide_eq_true h64,Bool.true_and]]
  refine Zla m.Places _ (fun pre=>(pre.length:Int)) (fun pre post=>some (if okPl m.Places.length pre.length post then 0 else 200)) (fun pre x post h=>?_) ?_
  ·have hx:=Zna h
   have hl:=Zoa h
   have hp:=hm.2 x (Zpa h)
   have e2:∀z,Zuh (pre.length:Int) z=if z then some (.inr 200) else some (.inl ((pre.length+1:Nat):Int)):=fun z=>by
     simp only [Zuh,Zo6 (show pre.length≤4000000000000000000 by omega)]
     cases z<;>rfl
   have e3:x.Live.any (fun q=>!((decide (0≤q)&&(decide (q<(m.Places.length:Int))&&!decide (q=(pre.length:Int))))))=!x.Live.all (fun q=>decide (0≤q)&&(decide (q<(m.Places.length:Int))&&!decide (q=(pre.length:Int)))):=Z1b _ _ _ fun _=>rfl
   have hb:Zvh m (pre.length:Int)=if Z9n m.Places.length pre.length x then some (.inl ((pre.length+1:Nat):Int)) else some (.inr 200):=by
    dsimp only [Zvh]
    rw [Zm6 hx,Zh6,Zk6 hx,Option.bind_some,Z6h x.Book hp.2,Option.bind_some,s_Valid x.Live (by omega),Option.bind_some,
     Zya x.Live _ (fun q=>!((decide (0≤q)&&(decide (q<(m.Places.length:Int))&&!decide (q=(pre.length:Int)))))) (by omega) (fun q _=>by
       simp only [Znh,Zmh,Z6n,Option.bind_some]
       cases hq:at_ m.Places q with
       | none=>
         have:=at_none hq
         by_cases h0:0≤q
         ·have:¬q<m.Places.length:=by omega
          simp [this]
         ·simp [h0]
       | some y=>
         obtain ⟨q0,q1,_⟩:=Z4n hq
         simp [q0,q1]),Option.bind_some,e3]
    have e5:Z9n m.Places.length pre.length x=(Z3h x.Book&&(decide (x.Live.Pairwise (· < ·))&&x.Live.all fun q=>decide (0≤q)&&(decide (q<(m.Places.length:Int))&&!decide (q=(pre.length:Int))))):=rfl
    rw [e5]
    simp only [e2]
    cases hk:Z3h x.Book
    ·simp
    ·by_cases h2:x.Live.Pairwise (· < ·)
     ·cases h3:x.Live.all (fun q=>decide (0≤q)&&(decide (q<(m.Places.length:Int))&&!decide (q=(pre.length:Int))))<;>simp [h2]
     ·simp [h2]
   rw [hb,Zqa]
   show (_∧some (if (Z9n m.Places.length pre.length x&&okPl m.Places.length (pre.length+1) post) then (0:Int) else 200)=_)∨∃r,_∧some (if (Z9n m.Places.length pre.length x&&okPl m.Places.length (pre.length+1) post) then (0:Int) else 200)=some r
   cases Z9n m.Places.length pre.length x
   ·right;exact ⟨200,rfl,rfl⟩
   ·left;exact ⟨rfl,by rw [Bool.true_and]⟩
  ·dsimp only [Zvh]
   rw [Zn6,Zi6];rfl
 ·rw [decide_eq_true (by omega),show okM m=false by unfold okM;rw [decide_eq_false h64,Bool.false_and]];rfl
theorem s_mown (m:Model) (hm:fewM m):Zhj m=some m.Places:=by
 have h1:=hm.1
 have hc:Zmi m.Places=some m.Places:=by
  simp only [Zmi]
  rw [Zl6 _ _ (by omega) (by simp;omega),List.nil_append]
 simp only [Zhj,hc,Option.bind_some]
 refine Zma m.Places _ (fun pre=>((pre.length:Int),m.Places)) m.Places (fun pre x post h=>?_) ?_
 ·have hx:=Zna h
  have hl:=Zoa h
  have hp:=hm.2 x (Zpa h)
  have h8:=hp.2.1
  dsimp only [Zgj]
  rw [Zm6 hx,Zh6,Zk6 hx,Option.bind_some,Z8h x.Live (by omega),Option.bind_some,Z9h x.Book.Sess hp.2.1,Option.bind_some,Int.toNat_natCast,Z7h hx]
  dsimp only [Zfj]
  rw [Zk6 hx,Option.bind_some]
  refine Zma x.Book.Sess _ (fun q=>((q.length:Int),x.Book.Sess)) _ (fun q y r hq=>?_) ?_
  ·have hy:=Zna hq
   have hl2:=Zoa hq
   dsimp only [Zej]
   rw [Zm6 hy,Zh6,Zk6 hy,Option.bind_some,Z8h y.Need (hp.2.2 y (Zpa hq)),Option.bind_some]
   dsimp only [Zdj]
   rw [Int.toNat_natCast,Z7h hy,Zo6 (by omega),Zqa]
  ·dsimp only [Zej]
   rw [Zn6,Zi6]
   dsimp only [Zcj]
   rw [Int.toNat_natCast,Z7h hx,Zo6 (by omega),Zqa]
   rfl
 ·dsimp only [Zgj]
  rw [Zn6,Zi6];rfl
def Zbn (P:List Place):Bool:=(List.range P.length).all fun a=>(List.range a).all fun b=>!(Z7n P a b&&Z7n P b a)
theorem s_Apart (m:Model) (hm:fewM m):Zqm m=some (Zbn m.Places):=by
 have h1:=hm.1
 simp only [Zqm]
 have inner:∀k,k<m.Places.length→loop (Zom m (k:Int)) 0=if (List.range k).all (fun b=>!(Z7n m.Places k b&&Z7n m.Places b k)) then some (.inl ((k+1:Nat):Int)) else some (.inr false):=by
  intro k hk
  have key:=Zra k (Zom m (k:Int)) (fun j=>(j:Int)) (fun j=>if ((List.range k).drop j).all (fun b=>!(Z7n m.Places k b&&Z7n m.Places b k)) then some (.inl ((k+1:Nat):Int)) else some (.inr false)) (fun j hj=>?_) ?_
  ·simpa using key
  ·have e:(List.range k).drop j=j::(List.range k).drop (j+1):=by
    have:=List.drop_eq_getElem_cons (l:=List.range k) (i:=j) (by simpa using hj)
    simpa using this
   dsimp only [Zom]
   rw [decide_eq_true (by omega),Zh6,s_uses m hm,s_uses m hm,Option.bind_some,Option.bind_some,e,List.all_cons]
   simp only [Znm,Zo6 (show j≤4000000000000000000 by omega)]
   cases Z7n m.Places k j<;>cases Z7n m.Places j k<;>simp
  ·dsimp only [Zom]
   rw [decide_eq_false (by omega),Zi6,List.drop_of_length_le (by simp)]
   dsimp only [Zmm]
   rw [Zo6 (by omega)];rfl
 have key:=Zra m.Places.length (Zpm m) (fun k=>(k:Int)) (fun k=>some (((List.range m.Places.length).drop k).all fun a=>(List.range a).all fun b=>!(Z7n m.Places a b&&Z7n m.Places b a))) (fun k hk=>?_) ?_
 ·simpa [Zbn] using key
 ·have e:(List.range m.Places.length).drop k=k::(List.range m.Places.length).drop (k+1):=by
   have:=List.drop_eq_getElem_cons (l:=List.range m.Places.length) (i:=k) (by simpa using hk)
   simpa using this
  have hx:∃x,m.Places[k]?=some x:=⟨_,List.getElem?_eq_getElem hk⟩
  obtain ⟨x,hx⟩:=hx
  dsimp only [Zpm]
  rw [Zm6 hx,Zh6,inner k hk,e,List.all_cons]
  cases (List.range k).all (fun b=>!(Z7n m.Places k b&&Z7n m.Places b k))<;>simp
 ·dsimp only [Zpm]
  rw [Zn6,Zi6,List.drop_of_length_le (by simp)];rfl
def newM (g:Graph):Model:=⟨(List.range g.N.toNat).map fun a=>⟨Zzg,Z4b g (a:Nat)⟩⟩
theorem s_mNew (g:Graph):Zdm g=some (if okG g then (newM g,0) else (⟨[]⟩,30)):=by
 simp only [Zdm,s_Check,Option.bind_some]
 cases hg:okG g with
 | false=>rfl
 | true=>
   obtain ⟨h0,h64,_⟩:=Z0b hg
   simp only [if_true,decide_true,Bool.not_true,Zi6]
   refine loop_nat g.N.toNat _ (fun k=>((k:Int),(List.range k).map fun a=>(⟨Zzg,Z4b g (a:Nat)⟩:Place))) (newM g,0) (fun k hk=>?_) ?_
   ·dsimp only [Zcm]
    rw [decide_eq_true (by omega),Zh6,s_Near,hg,Option.bind_some]
    simp only [if_true]
    rw [Zl6 _ _ (by omega) (by simp;omega),Option.bind_some,Zo6 (by omega),List.range_succ,List.map_append]
    rfl
   ·dsimp only [Zcm]
    rw [decide_eq_false (by omega),Zi6];rfl
end NX
end Go.Proofs.Ythlodgjekbidcaa
