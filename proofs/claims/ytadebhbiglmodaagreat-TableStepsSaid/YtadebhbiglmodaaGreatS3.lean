/-
  The function narthex/dine.Fire: its code compiled, a model, and that the code answers as the model. Written by a program of ours (lb.py). No statement of the seat is proved here.
-/
import Derived.KernelRfl
import Derived.Test.YtadebhbiglmodaaGreatS2
import Derived.Test.YtadebhbiglmodaaGreatS1
namespace Go.Proofs.YtadebhbiglmodaaGreat
namespace NX
open Go
set_option maxRecDepth 100000
set_option maxHeartbeats 4000000
def Zkd:EC:=.seq (.reg [(Qa 102 (.bin .lss (.t 101) (.t 100)))]) (.seq (.ite (.t 102) (.skip) (.exit 2)) (.seq (.blk 3 (.seq (.reg [(Qa 103 (.mv (.t 101))),(Qa 11 (.mv (.t 103)))]) (.reg [(Qa 104 (.fld 2 (.t 1))),(Qa 105 (.load (.t 104))),(Qa 106 (.mv (.t 11))),(Qa 107 (.idx 8 (.t 105) (.t 106))),(Qa 108 (.fld 4 (.t 107))),(Qb (.store 1 (.t 108) (.c .tt)))]))) (.reg [(Qa 109 (.bin .add (.t 101) (.c (.iv 1)))),(Qa 101 (.mv (.t 109)))])))
def Zld:EC:=.seq (.reg [(Qa 26 (.bin .lss (.t 25) (.t 24)))]) (.seq (.ite (.t 26) (.skip) (.exit 0)) (.seq (.blk 1 (.seq (.reg [(Qa 27 (.mv (.t 25))),(Qa 8 (.mv (.t 27)))]) (.seq (.reg [(Qa 28 (.fld 2 (.t 1))),(Qa 29 (.load (.t 28))),(Qa 30 (.mv (.t 8))),(Qa 31 (.idx 8 (.t 29) (.t 30))),(Qa 9 (.alloc 141 [.nlp])),(Qb (.store 1 (.t 9) (.t 31)))]) (.seq (.reg [(Qa 32 (.mkf 121 [(.t 6),(.t 1),(.t 9)])),(Qa 10 (.mv (.t 32)))]) (.seq (.seq (.reg [(Qa 33 (.load (.t 9))),(Qa 34 (.nilchk (.t 33))),(Qa 35 (.fld 3 (.t 34))),(Qa 36 (.load (.t 35))),(Qa 37 (.mv (.t 36))),(Qg 38 37 true (.load (.t 9))),(Qg 39 37 true (.nilchk (.t 38))),(Qg 40 37 true (.fld 4 (.t 39))),(Qg 41 37 true (.load (.t 40))),(Qa 42 (.pick (.t 37) (.t 41) (.c .ff))),(Qa 43 (.mv (.t 42))),(Qg 44 43 true (.load (.t 9))),(Qg 45 43 true (.nilchk (.t 44))),(Qg 46 43 true (.fld 5 (.t 45))),(Qg 47 43 true (.load (.t 46))),(Qa 48 (.pick (.t 43) (.t 47) (.c .ff))),(Qa 49 (.mv (.t 48))),(Qg 50 49 true (.fld 1 (.t 1))),(Qg 51 49 true (.load (.t 50))),(Qg 52 49 true (.bin .neq (.t 51) (.c (.iv 2)))),(Qa 53 (.pick (.t 49) (.t 52) (.c .ff)))]) (.ite (.t 53) (.seq (.drw [(Qa 54 (.load (.t 9))),(Qa 55 (.load (.t 9))),(Qa 56 (.nilchk (.t 54))),(Qa 57 (.fld 3 (.t 56))),(Qb (.store 1 (.t 57) (.c .ff))),(Qa 58 (.nilchk (.t 55))),(Qa 59 (.fld 4 (.t 58))),(Qb (.store 1 (.t 59) (.c .ff)))] [[],[],[0,0],[2,0],[3,0],[1,0,1,2,3,4],[5,0,1,2,3,4],[6,4,0,1,2,3,4]] [[2],[5],[0,3],[2,4],[3],[1,6],[5,7],[6]]) (.reg [(Qa 60 (.mv (.t 10))),(Qa 61 (.callv (.t 60) [(.c (.iv 1))]))])) (.skip))) (.seq (.seq (.reg [(Qa 62 (.fld 1 (.t 1))),(Qa 63 (.load (.t 62))),(Qa 64 (.bin .eql (.t 63) (.c (.iv 1)))),(Qa 65 (.mv (.t 64))),(Qg 66 65 true (.load (.t 9))),(Qg 67 65 true (.nilchk (.t 66))),(Qg 68 65 true (.fld 5 (.t 67))),(Qg 69 65 true (.load (.t 68))),(Qa 70 (.pick (.t 65) (.t 69) (.c .ff))),(Qa 71 (.mv (.t 70))),(Qg 72 71 true (.load (.t 9))),(Qg 73 71 true (.nilchk (.t 72))),(Qg 74 71 true (.fld 3 (.t 73))),(Qg 75 71 true (.load (.t 74))),(Qg 76 71 true (.not (.t 75))),(Qa 77 (.pick (.t 71) (.t 76) (.c .ff)))]) (.ite (.t 77) (.seq (.reg [(Qa 78 (.load (.t 9))),(Qa 79 (.nilchk (.t 78))),(Qa 80 (.fld 5 (.t 79))),(Qb (.store 1 (.t 80) (.c .ff)))]) (.reg [(Qa 81 (.mv (.t 10))),(Qa 82 (.callv (.t 81) [(.c (.iv 2))]))])) (.skip))) (.reg [(Qa 83 (.mv (.t 7))),(Qa 84 (.mv (.t 83))),(Qg 85 84 true (.load (.t 9))),(Qg 86 84 true (.nilchk (.t 85))),(Qg 87 84 true (.fld 3 (.t 86))),(Qg 88 84 true (.load (.t 87))),(Qa 89 (.pick (.t 84) (.t 88) (.c .ff))),(Qa 7 (.mv (.t 89)))]))))))) (.reg [(Qa 90 (.bin .add (.t 25) (.c (.iv 1)))),(Qa 25 (.mv (.t 90)))])))
def e99:EC:=.seq (.reg [(Qa 1 (.box 70 3 (.t 0))),(Qa 2 (.alloc 70 [.iv 0,.iv 0,.nl])),(Qa 3 (.mv (.c .nl))),(Qa 4 (.mv (.c (.iv 0))))]) (.seq (.seq (.reg [(Qa 12 (.loadA 3 (.t 1))),(Qa 13 (.call 43 [(.t 12)])),(Qa 5 (.mv (.t 13)))]) (.seq (.reg [(Qa 14 (.mv (.t 5))),(Qa 15 (.bin .neq (.t 14) (.c (.iv 0))))]) (.ite (.t 15) (.seq (.reg [(Qa 16 (.build [.iv 0,.iv 0,.nl] [])),(Qa 17 (.mv (.t 5))),(Qb (.store 3 (.t 2) (.t 16))),(Qa 3 (.mv (.c .nl))),(Qa 4 (.mv (.t 17)))]) (.ret)) (.skip)))) (.seq (.reg [(Qa 18 (.fld 2 (.t 1))),(Qa 19 (.load (.t 18))),(Qa 20 (.call 100 [(.t 19)])),(Qa 21 (.fld 2 (.t 1))),(Qb (.store 1 (.t 21) (.t 20)))]) (.seq (.reg [(Qa 6 (.alloc 23 [.nl]))]) (.seq (.reg [(Qa 7 (.mv (.c .tt)))]) (.seq (.seq (.reg [(Qa 22 (.fld 2 (.t 1))),(Qa 23 (.load (.t 22))),(Qa 24 (.len (.t 23))),(Qa 25 (.mv (.c (.iv 0))))]) (.blk 0 (.loop Zld))) (.seq (.seq (.reg [(Qa 91 (.fld 1 (.t 1))),(Qa 92 (.load (.t 91))),(Qa 93 (.bin .eql (.t 92) (.c (.iv 1)))),(Qa 94 (.mv (.t 93))),(Qg 95 94 true (.mv (.t 7))),(Qa 96 (.pick (.t 94) (.t 95) (.c .ff)))]) (.ite (.t 96) (.seq (.reg [(Qa 97 (.fld 1 (.t 1))),(Qb (.store 1 (.t 97) (.c (.iv 2))))]) (.seq (.reg [(Qa 98 (.fld 2 (.t 1))),(Qa 99 (.load (.t 98))),(Qa 100 (.len (.t 99))),(Qa 101 (.mv (.c (.iv 0))))]) (.blk 2 (.loop Zkd)))) (.skip))) (.seq (.drw [(Qa 110 (.loadA 3 (.t 1))),(Qa 111 (.load (.t 6))),(Qb (.store 3 (.t 2) (.t 110))),(Qa 3 (.mv (.t 111))),(Qa 4 (.mv (.c (.iv 0))))] [[],[],[0,0],[1,2,0,1,2],[3,0,1,2,3]] [[2],[3],[0],[1],[]]) (.ret))))))))
theorem ok99:FnOK Tryz.prog 99 Tryz.f99 e99 [.c 2 (some 3),.t 3,.t 4] 1 111:=⟨by kernel_rfl,⟨_,rfl,by kernel_rfl⟩,by kernel_rfl,by kernel_rfl⟩
noncomputable def Zmd (x1:Int) (x2:Int) (_x3:Int) (x4:Int) (x5:(List Side)):Option (List Mail):=
 (at_ x5 x4).bind fun x6=>
 (Za4 40 [] ([(Mail.mk x2 x6.Peer ((Msg.mk x1 x6.Epoch 0)))])).bind fun x7=>
 some x7
theorem Znd (x1:Int) (x2:Int) (x3:Int) (x4:Int) (x5:(List Side)) (r:(List Mail)) (h:Zmd x1 x2 x3 x4 x5=some r):FunT Tryz.prog 121 [.iv x1,.ptr 2 0,.ptr 0 0,.ptr 3 0] [some ⟨70,[.iv x2,.iv x3,.osl 0]⟩,none,some ⟨23,[.nl]⟩,some ⟨141,[.oel 0 ((x4).toNat*8) 0]⟩] [some ⟨65,8,List.map Side.row x5⟩] (.tup []) [some ⟨70,[.iv x2,.iv x3,.osl 0]⟩,none,some ⟨23,[.osl 2]⟩,some ⟨141,[.oel 0 ((x4).toNat*8) 0]⟩] [some ⟨65,8,List.map Side.row x5⟩,none,some ⟨78,5,List.map Mail.row r⟩]:=by
 refine Za6 Zjd rfl rfl rfl (by first | rfl | simp [go_sem]) fun w0 M0=>?_
 rw [Zmd] at h
 dsimp only [lun,List.cons_append,List.nil_append]
 refine Zh3 (by kernel_rfl) fun all hall hs hnap haf=>?_;dsimp only [go_sem];refine Zi5 hall hs haf hnap 4 13 [true,true,true,false,false,false,false,true,false,false,false,false,false,false,false,false,false] (⟨[.iv x1,.ptr 2 0,.ptr 0 0,.ptr 3 0,.un,.nl,.ptr 0 0,.iv x2,.un,.un,.un,.un,.iv x1,.un,.un,.un,.un,.un,.un,.un,.un],[some ⟨70,[.iv x2,.iv x3,.osl 0]⟩,none,some ⟨23,[.nl]⟩,some ⟨141,[.oel 0 ((x4).toNat*8) 0]⟩],[some ⟨65,8,List.map Side.row x5⟩]⟩:St) (by kernel_rfl) ?_;refine Zu3 3 8 rfl ?_ ?_
 ·refine Zy3 hall rfl trivial ?_;dsimp only [go_sem];refine Zh5 hall hs haf hnap 2 10 ?_;dsimp only [go_sem];refine ⟨by simp,?_⟩;obtain ⟨x6,ex6,h⟩:=Option.bind_eq_some_iff.1 h;refine Zu3 6 8 rfl ?_ ?_
  ·refine Zd6 hall Side.row ex6 rfl trivial rfl rfl rfl ?_;dsimp only [go_sem];refine Zt3 8 rfl ?_;refine Zy3 hall rfl trivial ?_;dsimp only [go_sem];refine Zh5 hall hs haf hnap 2 6 ?_;dsimp only [go_sem];refine ⟨by simp,?_⟩;refine Zt3 11 rfl ?_;refine Zd6 hall Side.row ex6 rfl trivial rfl rfl rfl ?_;dsimp only [go_sem];refine Zh5 hall hs haf hnap 2 3 ?_;dsimp only [go_sem];refine ⟨by simp,?_⟩;refine Zt3 14 rfl ?_;refine Zy3 hall rfl trivial ?_;dsimp only [go_sem];refine Zt3 15 rfl ?_;obtain ⟨x7,ex7,h⟩:=Option.bind_eq_some_iff.1 h
   refine Zv4 Mail.row ex7 hall rfl trivial rfl rfl ?_;dsimp only [go_sem];refine Zt3 16 rfl ?_;refine Zy3 hall rfl trivial ?_;dsimp only [go_sem];refine Zs3 rfl ?_ _;obtain rfl:=Option.some.inj h;exact Zb6 Zjd rfl (by simp [go_sem])
  ·refine Zy3 hall rfl trivial ?_;dsimp only [go_sem];refine Zh5 hall hs haf hnap 2 7 ?_;dsimp only [go_sem];refine ⟨by simp,?_⟩;refine Zu3 6 11 rfl ?_ ?_
   ·refine Zd6 hall Side.row ex6 rfl trivial rfl rfl rfl ?_;dsimp only [go_sem];refine Zt3 11 rfl ?_;refine Zd6 hall Side.row ex6 rfl trivial rfl rfl rfl ?_;dsimp only [go_sem];refine Zh5 hall hs haf hnap 2 3 ?_;dsimp only [go_sem];refine ⟨by simp,?_⟩;refine Zt3 14 rfl ?_;refine Zy3 hall rfl trivial ?_;dsimp only [go_sem];refine Zt3 15 rfl ?_;obtain ⟨x7,ex7,h⟩:=Option.bind_eq_some_iff.1 h;refine Zv4 Mail.row ex7 hall rfl trivial rfl rfl ?_;dsimp only [go_sem];refine Zt3 16 rfl ?_;refine Zy3 hall rfl trivial ?_;dsimp only [go_sem]
    refine Zs3 rfl ?_ _;obtain rfl:=Option.some.inj h;exact Zb6 Zjd rfl (by simp [go_sem])
   ·refine Zd6 hall Side.row ex6 rfl trivial rfl rfl rfl ?_;dsimp only [go_sem];refine Zh5 hall hs haf hnap 1 5 ?_;dsimp only [go_sem];refine ⟨by simp,?_⟩;refine Zt3 6 rfl ?_;refine Zd6 hall Side.row ex6 rfl trivial rfl rfl rfl ?_;dsimp only [go_sem];refine Zh5 hall hs haf hnap 1 3 ?_;dsimp only [go_sem];refine ⟨by simp,?_⟩;refine Zt3 14 rfl ?_;refine Zy3 hall rfl trivial ?_;dsimp only [go_sem];refine Zt3 15 rfl ?_;obtain ⟨x7,ex7,h⟩:=Option.bind_eq_some_iff.1 h;refine Zv4 Mail.row ex7 hall rfl trivial rfl rfl ?_;dsimp only [go_sem]
    refine Zt3 16 rfl ?_;refine Zy3 hall rfl trivial ?_;dsimp only [go_sem];refine Zs3 rfl ?_ _;obtain rfl:=Option.some.inj h;exact Zb6 Zjd rfl (by simp [go_sem])
 ·refine Zy3 hall rfl trivial ?_;dsimp only [go_sem];refine Zh5 hall hs haf hnap 2 10 ?_;dsimp only [go_sem];refine ⟨by simp,?_⟩;obtain ⟨x6,ex6,h⟩:=Option.bind_eq_some_iff.1 h;refine Zu3 3 11 rfl ?_ ?_
  ·refine Zy3 hall rfl trivial ?_;dsimp only [go_sem];refine Zh5 hall hs haf hnap 2 7 ?_;dsimp only [go_sem];refine ⟨by simp,?_⟩;refine Zu3 6 11 rfl ?_ ?_
   ·refine Zd6 hall Side.row ex6 rfl trivial rfl rfl rfl ?_;dsimp only [go_sem];refine Zt3 11 rfl ?_;refine Zd6 hall Side.row ex6 rfl trivial rfl rfl rfl ?_;dsimp only [go_sem];refine Zh5 hall hs haf hnap 2 3 ?_;dsimp only [go_sem];refine ⟨by simp,?_⟩;refine Zt3 14 rfl ?_;refine Zy3 hall rfl trivial ?_;dsimp only [go_sem];refine Zt3 15 rfl ?_;obtain ⟨x7,ex7,h⟩:=Option.bind_eq_some_iff.1 h;refine Zv4 Mail.row ex7 hall rfl trivial rfl rfl ?_;dsimp only [go_sem];refine Zt3 16 rfl ?_;refine Zy3 hall rfl trivial ?_;dsimp only [go_sem]
    refine Zs3 rfl ?_ _;obtain rfl:=Option.some.inj h;exact Zb6 Zjd rfl (by simp [go_sem])
   ·refine Zd6 hall Side.row ex6 rfl trivial rfl rfl rfl ?_;dsimp only [go_sem];refine Zh5 hall hs haf hnap 1 5 ?_;dsimp only [go_sem];refine ⟨by simp,?_⟩;refine Zt3 6 rfl ?_;refine Zd6 hall Side.row ex6 rfl trivial rfl rfl rfl ?_;dsimp only [go_sem];refine Zh5 hall hs haf hnap 1 3 ?_;dsimp only [go_sem];refine ⟨by simp,?_⟩;refine Zt3 14 rfl ?_;refine Zy3 hall rfl trivial ?_;dsimp only [go_sem];refine Zt3 15 rfl ?_;obtain ⟨x7,ex7,h⟩:=Option.bind_eq_some_iff.1 h;refine Zv4 Mail.row ex7 hall rfl trivial rfl rfl ?_;dsimp only [go_sem]
    refine Zt3 16 rfl ?_;refine Zy3 hall rfl trivial ?_;dsimp only [go_sem];refine Zs3 rfl ?_ _;obtain rfl:=Option.some.inj h;exact Zb6 Zjd rfl (by simp [go_sem])
  ·refine Zd6 hall Side.row ex6 rfl trivial rfl rfl rfl ?_;dsimp only [go_sem];refine Zh5 hall hs haf hnap 1 8 ?_;dsimp only [go_sem];refine ⟨by simp,?_⟩;refine Zt3 3 rfl ?_;refine Zy3 hall rfl trivial ?_;dsimp only [go_sem];refine Zh5 hall hs haf hnap 2 5 ?_;dsimp only [go_sem];refine ⟨by simp,?_⟩;refine Zt3 6 rfl ?_;refine Zd6 hall Side.row ex6 rfl trivial rfl rfl rfl ?_;dsimp only [go_sem];refine Zh5 hall hs haf hnap 1 3 ?_;dsimp only [go_sem];refine ⟨by simp,?_⟩;refine Zt3 14 rfl ?_;refine Zy3 hall rfl trivial ?_;dsimp only [go_sem]
   refine Zt3 15 rfl ?_;obtain ⟨x7,ex7,h⟩:=Option.bind_eq_some_iff.1 h;refine Zv4 Mail.row ex7 hall rfl trivial rfl rfl ?_;dsimp only [go_sem];refine Zt3 16 rfl ?_;refine Zy3 hall rfl trivial ?_;dsimp only [go_sem];refine Zs3 rfl ?_ _;obtain rfl:=Option.some.inj h;exact Zb6 Zjd rfl (by simp [go_sem])
def Zod (_F:Nat) (x1:Int) (x2:Int) (_x3:Int) (x4:Int) (x5:(List Side)):Option (List Mail):=
 (at_ x5 x4).bind fun x6=>
 (Za4 40 [] ([(Mail.mk x2 x6.Peer ((Msg.mk x1 x6.Epoch 0)))])).bind fun x7=>
 some x7
theorem Zpd {F:Nat} {x1:Int} {x2:Int} {x3:Int} {x4:Int} {x5:(List Side)}:ole (Zod F x1 x2 x3 x4 x5) (Zmd x1 x2 x3 x4 x5):=by
 unfold Zod Zmd
 with_reducible repeat' first | exact Zf4 _ | assumption | intro _ | refine Zg4 ?_ ?_ | refine Zh4 ?_ ?_ | refine Zi4 ?_ | refine Zj4 ?_
noncomputable def Zqd (x1:Int) (x2:Int) (_x3:Int) (x4:Int) (x5:(List Side)) (x6:(List Mail)):Option (List Mail):=
 (at_ x5 x4).bind fun x7=>
 (Za4 40 x6 ([(Mail.mk x2 x7.Peer ((Msg.mk x1 x7.Epoch 0)))])).bind fun x8=>
 some x8
theorem Zrd (x1:Int) (x2:Int) (x3:Int) (x4:Int) (x5:(List Side)) (x6:(List Mail)) (r:(List Mail)) (h:Zqd x1 x2 x3 x4 x5 x6=some r):FunT Tryz.prog 121 [.iv x1,.ptr 2 0,.ptr 0 0,.ptr 3 0] [some ⟨70,[.iv x2,.iv x3,.osl 0]⟩,none,some ⟨23,[.osl 1]⟩,some ⟨141,[.oel 0 ((x4).toNat*8) 0]⟩] [some ⟨65,8,List.map Side.row x5⟩,some ⟨78,5,List.map Mail.row x6⟩] (.tup []) [some ⟨70,[.iv x2,.iv x3,.osl 0]⟩,none,some ⟨23,[.osl 3]⟩,some ⟨141,[.oel 0 ((x4).toNat*8) 0]⟩] [some ⟨65,8,List.map Side.row x5⟩,none,none,some ⟨78,5,List.map Mail.row r⟩]:=by
 refine Za6 Zjd rfl rfl rfl (by first | rfl | simp [go_sem]) fun w0 M0=>?_
 rw [Zqd] at h
 dsimp only [lun,List.cons_append,List.nil_append]
 refine Zh3 (by kernel_rfl) fun all hall hs hnap haf=>?_;dsimp only [go_sem];refine Zh5 hall hs haf hnap 3 14 ?_;dsimp only [go_sem];refine ⟨by simp,?_⟩;refine Zv3 0 3 8 rfl ?_ ?_ ?_
 ·refine Zy3 hall rfl trivial ?_;dsimp only [go_sem];refine Zu3 3 8 rfl ?_ ?_
  ·refine Zy3 hall rfl trivial ?_;dsimp only [go_sem];refine Zh5 hall hs haf hnap 2 10 ?_;dsimp only [go_sem];refine ⟨by simp,?_⟩;obtain ⟨x7,ex7,h⟩:=Option.bind_eq_some_iff.1 h;refine Zu3 6 8 rfl ?_ ?_
   ·refine Zd6 hall Side.row ex7 rfl trivial rfl rfl rfl ?_;dsimp only [go_sem];refine Zt3 8 rfl ?_;refine Zy3 hall rfl trivial ?_;dsimp only [go_sem];refine Zh5 hall hs haf hnap 2 6 ?_;dsimp only [go_sem];refine ⟨by simp,?_⟩;refine Zt3 11 rfl ?_;refine Zd6 hall Side.row ex7 rfl trivial rfl rfl rfl ?_;dsimp only [go_sem];refine Zh5 hall hs haf hnap 2 3 ?_;dsimp only [go_sem];refine ⟨by simp,?_⟩;refine Zt3 14 rfl ?_;refine Zy3 hall rfl trivial ?_;dsimp only [go_sem];refine Zt3 15 rfl ?_;obtain ⟨x8,ex8,h⟩:=Option.bind_eq_some_iff.1 h
    refine Zu4 Mail.row ex8 hall rfl trivial rfl rfl rfl ?_;dsimp only [go_sem];refine Zt3 16 rfl ?_;refine Zy3 hall rfl trivial ?_;dsimp only [go_sem];refine Zs3 rfl ?_ _;obtain rfl:=Option.some.inj h;exact Zb6 Zjd rfl (by simp [go_sem])
   ·refine Zy3 hall rfl trivial ?_;dsimp only [go_sem];refine Zh5 hall hs haf hnap 2 7 ?_;dsimp only [go_sem];refine ⟨by simp,?_⟩;refine Zu3 6 11 rfl ?_ ?_
    ·refine Zd6 hall Side.row ex7 rfl trivial rfl rfl rfl ?_;dsimp only [go_sem];refine Zt3 11 rfl ?_;refine Zd6 hall Side.row ex7 rfl trivial rfl rfl rfl ?_;dsimp only [go_sem];refine Zh5 hall hs haf hnap 2 3 ?_;dsimp only [go_sem];refine ⟨by simp,?_⟩;refine Zt3 14 rfl ?_;refine Zy3 hall rfl trivial ?_;dsimp only [go_sem];refine Zt3 15 rfl ?_;obtain ⟨x8,ex8,h⟩:=Option.bind_eq_some_iff.1 h;refine Zu4 Mail.row ex8 hall rfl trivial rfl rfl rfl ?_;dsimp only [go_sem];refine Zt3 16 rfl ?_;refine Zy3 hall rfl trivial ?_;dsimp only [go_sem]
     refine Zs3 rfl ?_ _;obtain rfl:=Option.some.inj h;exact Zb6 Zjd rfl (by simp [go_sem])
    ·refine Zd6 hall Side.row ex7 rfl trivial rfl rfl rfl ?_;dsimp only [go_sem];refine Zh5 hall hs haf hnap 1 5 ?_;dsimp only [go_sem];refine ⟨by simp,?_⟩;refine Zt3 6 rfl ?_;refine Zd6 hall Side.row ex7 rfl trivial rfl rfl rfl ?_;dsimp only [go_sem];refine Zh5 hall hs haf hnap 1 3 ?_;dsimp only [go_sem];refine ⟨by simp,?_⟩;refine Zt3 14 rfl ?_;refine Zy3 hall rfl trivial ?_;dsimp only [go_sem];refine Zt3 15 rfl ?_;obtain ⟨x8,ex8,h⟩:=Option.bind_eq_some_iff.1 h;refine Zu4 Mail.row ex8 hall rfl trivial rfl rfl rfl ?_;dsimp only [go_sem]
     refine Zt3 16 rfl ?_;refine Zy3 hall rfl trivial ?_;dsimp only [go_sem];refine Zs3 rfl ?_ _;obtain rfl:=Option.some.inj h;exact Zb6 Zjd rfl (by simp [go_sem])
  ·refine Zy3 hall rfl trivial ?_;dsimp only [go_sem];refine Zh5 hall hs haf hnap 2 10 ?_;dsimp only [go_sem];refine ⟨by simp,?_⟩;obtain ⟨x7,ex7,h⟩:=Option.bind_eq_some_iff.1 h;refine Zu3 3 11 rfl ?_ ?_
   ·refine Zy3 hall rfl trivial ?_;dsimp only [go_sem];refine Zh5 hall hs haf hnap 2 7 ?_;dsimp only [go_sem];refine ⟨by simp,?_⟩;refine Zu3 6 11 rfl ?_ ?_
    ·refine Zd6 hall Side.row ex7 rfl trivial rfl rfl rfl ?_;dsimp only [go_sem];refine Zt3 11 rfl ?_;refine Zd6 hall Side.row ex7 rfl trivial rfl rfl rfl ?_;dsimp only [go_sem];refine Zh5 hall hs haf hnap 2 3 ?_;dsimp only [go_sem];refine ⟨by simp,?_⟩;refine Zt3 14 rfl ?_;refine Zy3 hall rfl trivial ?_;dsimp only [go_sem];refine Zt3 15 rfl ?_;obtain ⟨x8,ex8,h⟩:=Option.bind_eq_some_iff.1 h;refine Zu4 Mail.row ex8 hall rfl trivial rfl rfl rfl ?_;dsimp only [go_sem];refine Zt3 16 rfl ?_;refine Zy3 hall rfl trivial ?_;dsimp only [go_sem]
     refine Zs3 rfl ?_ _;obtain rfl:=Option.some.inj h;exact Zb6 Zjd rfl (by simp [go_sem])
    ·refine Zd6 hall Side.row ex7 rfl trivial rfl rfl rfl ?_;dsimp only [go_sem];refine Zh5 hall hs haf hnap 1 5 ?_;dsimp only [go_sem];refine ⟨by simp,?_⟩;refine Zt3 6 rfl ?_;refine Zd6 hall Side.row ex7 rfl trivial rfl rfl rfl ?_;dsimp only [go_sem];refine Zh5 hall hs haf hnap 1 3 ?_;dsimp only [go_sem];refine ⟨by simp,?_⟩;refine Zt3 14 rfl ?_;refine Zy3 hall rfl trivial ?_;dsimp only [go_sem];refine Zt3 15 rfl ?_;obtain ⟨x8,ex8,h⟩:=Option.bind_eq_some_iff.1 h;refine Zu4 Mail.row ex8 hall rfl trivial rfl rfl rfl ?_;dsimp only [go_sem]
     refine Zt3 16 rfl ?_;refine Zy3 hall rfl trivial ?_;dsimp only [go_sem];refine Zs3 rfl ?_ _;obtain rfl:=Option.some.inj h;exact Zb6 Zjd rfl (by simp [go_sem])
   ·refine Zd6 hall Side.row ex7 rfl trivial rfl rfl rfl ?_;dsimp only [go_sem];refine Zh5 hall hs haf hnap 1 8 ?_;dsimp only [go_sem];refine ⟨by simp,?_⟩;refine Zt3 3 rfl ?_;refine Zy3 hall rfl trivial ?_;dsimp only [go_sem];refine Zh5 hall hs haf hnap 2 5 ?_;dsimp only [go_sem];refine ⟨by simp,?_⟩;refine Zt3 6 rfl ?_;refine Zd6 hall Side.row ex7 rfl trivial rfl rfl rfl ?_;dsimp only [go_sem];refine Zh5 hall hs haf hnap 1 3 ?_;dsimp only [go_sem];refine ⟨by simp,?_⟩;refine Zt3 14 rfl ?_;refine Zy3 hall rfl trivial ?_;dsimp only [go_sem]
    refine Zt3 15 rfl ?_;obtain ⟨x8,ex8,h⟩:=Option.bind_eq_some_iff.1 h;refine Zu4 Mail.row ex8 hall rfl trivial rfl rfl rfl ?_;dsimp only [go_sem];refine Zt3 16 rfl ?_;refine Zy3 hall rfl trivial ?_;dsimp only [go_sem];refine Zs3 rfl ?_ _;obtain rfl:=Option.some.inj h;exact Zb6 Zjd rfl (by simp [go_sem])
 ·refine Zy3 hall rfl trivial ?_;dsimp only [go_sem];refine Zh5 hall hs haf hnap 2 11 ?_;dsimp only [go_sem];refine ⟨by simp,?_⟩;obtain ⟨x7,ex7,h⟩:=Option.bind_eq_some_iff.1 h;refine Zv3 0 6 8 rfl ?_ ?_ ?_
  ·refine Zy3 hall rfl trivial ?_;dsimp only [go_sem];refine Zu3 6 8 rfl ?_ ?_
   ·refine Zd6 hall Side.row ex7 rfl trivial rfl rfl rfl ?_;dsimp only [go_sem];refine Zt3 8 rfl ?_;refine Zy3 hall rfl trivial ?_;dsimp only [go_sem];refine Zh5 hall hs haf hnap 2 6 ?_;dsimp only [go_sem];refine ⟨by simp,?_⟩;refine Zt3 11 rfl ?_;refine Zd6 hall Side.row ex7 rfl trivial rfl rfl rfl ?_;dsimp only [go_sem];refine Zh5 hall hs haf hnap 2 3 ?_;dsimp only [go_sem];refine ⟨by simp,?_⟩;refine Zt3 14 rfl ?_;refine Zy3 hall rfl trivial ?_;dsimp only [go_sem];refine Zt3 15 rfl ?_;obtain ⟨x8,ex8,h⟩:=Option.bind_eq_some_iff.1 h
    refine Zu4 Mail.row ex8 hall rfl trivial rfl rfl rfl ?_;dsimp only [go_sem];refine Zt3 16 rfl ?_;refine Zy3 hall rfl trivial ?_;dsimp only [go_sem];refine Zs3 rfl ?_ _;obtain rfl:=Option.some.inj h;exact Zb6 Zjd rfl (by simp [go_sem])
   ·refine Zy3 hall rfl trivial ?_;dsimp only [go_sem];refine Zh5 hall hs haf hnap 2 7 ?_;dsimp only [go_sem];refine ⟨by simp,?_⟩;refine Zu3 6 11 rfl ?_ ?_
    ·refine Zd6 hall Side.row ex7 rfl trivial rfl rfl rfl ?_;dsimp only [go_sem];refine Zt3 11 rfl ?_;refine Zd6 hall Side.row ex7 rfl trivial rfl rfl rfl ?_;dsimp only [go_sem];refine Zh5 hall hs haf hnap 2 3 ?_;dsimp only [go_sem];refine ⟨by simp,?_⟩;refine Zt3 14 rfl ?_;refine Zy3 hall rfl trivial ?_;dsimp only [go_sem];refine Zt3 15 rfl ?_;obtain ⟨x8,ex8,h⟩:=Option.bind_eq_some_iff.1 h;refine Zu4 Mail.row ex8 hall rfl trivial rfl rfl rfl ?_;dsimp only [go_sem];refine Zt3 16 rfl ?_;refine Zy3 hall rfl trivial ?_;dsimp only [go_sem]
     refine Zs3 rfl ?_ _;obtain rfl:=Option.some.inj h;exact Zb6 Zjd rfl (by simp [go_sem])
    ·refine Zd6 hall Side.row ex7 rfl trivial rfl rfl rfl ?_;dsimp only [go_sem];refine Zh5 hall hs haf hnap 1 5 ?_;dsimp only [go_sem];refine ⟨by simp,?_⟩;refine Zt3 6 rfl ?_;refine Zd6 hall Side.row ex7 rfl trivial rfl rfl rfl ?_;dsimp only [go_sem];refine Zh5 hall hs haf hnap 1 3 ?_;dsimp only [go_sem];refine ⟨by simp,?_⟩;refine Zt3 14 rfl ?_;refine Zy3 hall rfl trivial ?_;dsimp only [go_sem];refine Zt3 15 rfl ?_;obtain ⟨x8,ex8,h⟩:=Option.bind_eq_some_iff.1 h;refine Zu4 Mail.row ex8 hall rfl trivial rfl rfl rfl ?_;dsimp only [go_sem]
     refine Zt3 16 rfl ?_;refine Zy3 hall rfl trivial ?_;dsimp only [go_sem];refine Zs3 rfl ?_ _;obtain rfl:=Option.some.inj h;exact Zb6 Zjd rfl (by simp [go_sem])
  ·refine Zd6 hall Side.row ex7 rfl trivial rfl rfl rfl ?_;dsimp only [go_sem];refine Zu3 0 8 rfl ?_ ?_
   ·refine Zy3 hall rfl trivial ?_;dsimp only [go_sem];refine Zt3 8 rfl ?_;refine Zy3 hall rfl trivial ?_;dsimp only [go_sem];refine Zh5 hall hs haf hnap 2 6 ?_;dsimp only [go_sem];refine ⟨by simp,?_⟩;refine Zt3 11 rfl ?_;refine Zd6 hall Side.row ex7 rfl trivial rfl rfl rfl ?_;dsimp only [go_sem];refine Zh5 hall hs haf hnap 2 3 ?_;dsimp only [go_sem];refine ⟨by simp,?_⟩;refine Zt3 14 rfl ?_;refine Zy3 hall rfl trivial ?_;dsimp only [go_sem];refine Zt3 15 rfl ?_;obtain ⟨x8,ex8,h⟩:=Option.bind_eq_some_iff.1 h
    refine Zu4 Mail.row ex8 hall rfl trivial rfl rfl rfl ?_;dsimp only [go_sem];refine Zt3 16 rfl ?_;refine Zy3 hall rfl trivial ?_;dsimp only [go_sem];refine Zs3 rfl ?_ _;obtain rfl:=Option.some.inj h;exact Zb6 Zjd rfl (by simp [go_sem])
   ·refine Zy3 hall rfl trivial ?_;dsimp only [go_sem];refine Zh5 hall hs haf hnap 2 7 ?_;dsimp only [go_sem];refine ⟨by simp,?_⟩;refine Zu3 0 11 rfl ?_ ?_
    ·refine Zy3 hall rfl trivial ?_;dsimp only [go_sem];refine Zt3 11 rfl ?_;refine Zd6 hall Side.row ex7 rfl trivial rfl rfl rfl ?_;dsimp only [go_sem];refine Zh5 hall hs haf hnap 2 3 ?_;dsimp only [go_sem];refine ⟨by simp,?_⟩;refine Zt3 14 rfl ?_;refine Zy3 hall rfl trivial ?_;dsimp only [go_sem];refine Zt3 15 rfl ?_;obtain ⟨x8,ex8,h⟩:=Option.bind_eq_some_iff.1 h;refine Zu4 Mail.row ex8 hall rfl trivial rfl rfl rfl ?_;dsimp only [go_sem];refine Zt3 16 rfl ?_;refine Zy3 hall rfl trivial ?_;dsimp only [go_sem];refine Zs3 rfl ?_ _
     obtain rfl:=Option.some.inj h;exact Zb6 Zjd rfl (by simp [go_sem])
    ·refine Zd6 hall Side.row ex7 rfl trivial rfl rfl rfl ?_;dsimp only [go_sem];refine Zh5 hall hs haf hnap 2 4 ?_;dsimp only [go_sem];refine ⟨by simp,?_⟩;refine Zu3 0 14 rfl ?_ ?_
     ·refine Zy3 hall rfl trivial ?_;dsimp only [go_sem];refine Zt3 14 rfl ?_;refine Zy3 hall rfl trivial ?_;dsimp only [go_sem];refine Zt3 15 rfl ?_;obtain ⟨x8,ex8,h⟩:=Option.bind_eq_some_iff.1 h;refine Zu4 Mail.row ex8 hall rfl trivial rfl rfl rfl ?_;dsimp only [go_sem];refine Zt3 16 rfl ?_;refine Zy3 hall rfl trivial ?_;dsimp only [go_sem];refine Zs3 rfl ?_ _;obtain rfl:=Option.some.inj h;exact Zb6 Zjd rfl (by simp [go_sem])
     ·refine Zy3 hall rfl trivial ?_;dsimp only [go_sem];refine Zt3 0 rfl ?_;refine Zy3 hall rfl trivial ?_;dsimp only [go_sem];refine Zt3 15 rfl ?_;obtain ⟨x8,ex8,h⟩:=Option.bind_eq_some_iff.1 h;refine Zu4 Mail.row ex8 hall rfl trivial rfl rfl rfl ?_;dsimp only [go_sem];refine Zt3 16 rfl ?_;refine Zy3 hall rfl trivial ?_;dsimp only [go_sem];refine Zs3 rfl ?_ _;obtain rfl:=Option.some.inj h;exact Zb6 Zjd rfl (by simp [go_sem])
  ·refine Zy3 hall rfl trivial ?_;dsimp only [go_sem];refine Zh5 hall hs haf hnap 2 8 ?_;dsimp only [go_sem];refine ⟨by simp,?_⟩;refine Zv3 0 6 11 rfl ?_ ?_ ?_
   ·refine Zy3 hall rfl trivial ?_;dsimp only [go_sem];refine Zu3 6 11 rfl ?_ ?_
    ·refine Zd6 hall Side.row ex7 rfl trivial rfl rfl rfl ?_;dsimp only [go_sem];refine Zt3 11 rfl ?_;refine Zd6 hall Side.row ex7 rfl trivial rfl rfl rfl ?_;dsimp only [go_sem];refine Zh5 hall hs haf hnap 2 3 ?_;dsimp only [go_sem];refine ⟨by simp,?_⟩;refine Zt3 14 rfl ?_;refine Zy3 hall rfl trivial ?_;dsimp only [go_sem];refine Zt3 15 rfl ?_;obtain ⟨x8,ex8,h⟩:=Option.bind_eq_some_iff.1 h;refine Zu4 Mail.row ex8 hall rfl trivial rfl rfl rfl ?_;dsimp only [go_sem];refine Zt3 16 rfl ?_;refine Zy3 hall rfl trivial ?_;dsimp only [go_sem]
     refine Zs3 rfl ?_ _;obtain rfl:=Option.some.inj h;exact Zb6 Zjd rfl (by simp [go_sem])
    ·refine Zd6 hall Side.row ex7 rfl trivial rfl rfl rfl ?_;dsimp only [go_sem];refine Zh5 hall hs haf hnap 1 5 ?_;dsimp only [go_sem];refine ⟨by simp,?_⟩;refine Zt3 6 rfl ?_;refine Zd6 hall Side.row ex7 rfl trivial rfl rfl rfl ?_;dsimp only [go_sem];refine Zh5 hall hs haf hnap 1 3 ?_;dsimp only [go_sem];refine ⟨by simp,?_⟩;refine Zt3 14 rfl ?_;refine Zy3 hall rfl trivial ?_;dsimp only [go_sem];refine Zt3 15 rfl ?_;obtain ⟨x8,ex8,h⟩:=Option.bind_eq_some_iff.1 h;refine Zu4 Mail.row ex8 hall rfl trivial rfl rfl rfl ?_;dsimp only [go_sem]
     refine Zt3 16 rfl ?_;refine Zy3 hall rfl trivial ?_;dsimp only [go_sem];refine Zs3 rfl ?_ _;obtain rfl:=Option.some.inj h;exact Zb6 Zjd rfl (by simp [go_sem])
   ·refine Zd6 hall Side.row ex7 rfl trivial rfl rfl rfl ?_;dsimp only [go_sem];refine Zu3 0 11 rfl ?_ ?_
    ·refine Zy3 hall rfl trivial ?_;dsimp only [go_sem];refine Zt3 11 rfl ?_;refine Zd6 hall Side.row ex7 rfl trivial rfl rfl rfl ?_;dsimp only [go_sem];refine Zh5 hall hs haf hnap 2 3 ?_;dsimp only [go_sem];refine ⟨by simp,?_⟩;refine Zt3 14 rfl ?_;refine Zy3 hall rfl trivial ?_;dsimp only [go_sem];refine Zt3 15 rfl ?_;obtain ⟨x8,ex8,h⟩:=Option.bind_eq_some_iff.1 h;refine Zu4 Mail.row ex8 hall rfl trivial rfl rfl rfl ?_;dsimp only [go_sem];refine Zt3 16 rfl ?_;refine Zy3 hall rfl trivial ?_;dsimp only [go_sem];refine Zs3 rfl ?_ _
     obtain rfl:=Option.some.inj h;exact Zb6 Zjd rfl (by simp [go_sem])
    ·refine Zd6 hall Side.row ex7 rfl trivial rfl rfl rfl ?_;dsimp only [go_sem];refine Zh5 hall hs haf hnap 2 4 ?_;dsimp only [go_sem];refine ⟨by simp,?_⟩;refine Zu3 0 14 rfl ?_ ?_
     ·refine Zy3 hall rfl trivial ?_;dsimp only [go_sem];refine Zt3 14 rfl ?_;refine Zy3 hall rfl trivial ?_;dsimp only [go_sem];refine Zt3 15 rfl ?_;obtain ⟨x8,ex8,h⟩:=Option.bind_eq_some_iff.1 h;refine Zu4 Mail.row ex8 hall rfl trivial rfl rfl rfl ?_;dsimp only [go_sem];refine Zt3 16 rfl ?_;refine Zy3 hall rfl trivial ?_;dsimp only [go_sem];refine Zs3 rfl ?_ _;obtain rfl:=Option.some.inj h;exact Zb6 Zjd rfl (by simp [go_sem])
     ·refine Zy3 hall rfl trivial ?_;dsimp only [go_sem];refine Zt3 0 rfl ?_;refine Zy3 hall rfl trivial ?_;dsimp only [go_sem];refine Zt3 15 rfl ?_;obtain ⟨x8,ex8,h⟩:=Option.bind_eq_some_iff.1 h;refine Zu4 Mail.row ex8 hall rfl trivial rfl rfl rfl ?_;dsimp only [go_sem];refine Zt3 16 rfl ?_;refine Zy3 hall rfl trivial ?_;dsimp only [go_sem];refine Zs3 rfl ?_ _;obtain rfl:=Option.some.inj h;exact Zb6 Zjd rfl (by simp [go_sem])
   ·refine Zd6 hall Side.row ex7 rfl trivial rfl rfl rfl ?_;dsimp only [go_sem];refine Zh5 hall hs haf hnap 1 6 ?_;dsimp only [go_sem];refine ⟨by simp,?_⟩;refine Zu3 0 6 rfl ?_ ?_
    ·refine Zy3 hall rfl trivial ?_;dsimp only [go_sem];refine Zt3 6 rfl ?_;refine Zd6 hall Side.row ex7 rfl trivial rfl rfl rfl ?_;dsimp only [go_sem];refine Zh5 hall hs haf hnap 1 3 ?_;dsimp only [go_sem];refine ⟨by simp,?_⟩;refine Zt3 14 rfl ?_;refine Zy3 hall rfl trivial ?_;dsimp only [go_sem];refine Zt3 15 rfl ?_;obtain ⟨x8,ex8,h⟩:=Option.bind_eq_some_iff.1 h;refine Zu4 Mail.row ex8 hall rfl trivial rfl rfl rfl ?_;dsimp only [go_sem];refine Zt3 16 rfl ?_;refine Zy3 hall rfl trivial ?_;dsimp only [go_sem];refine Zs3 rfl ?_ _
     obtain rfl:=Option.some.inj h;exact Zb6 Zjd rfl (by simp [go_sem])
    ·refine Zd6 hall Side.row ex7 rfl trivial rfl rfl rfl ?_;dsimp only [go_sem];refine Zh5 hall hs haf hnap 1 4 ?_;dsimp only [go_sem];refine ⟨by simp,?_⟩;refine Zu3 0 14 rfl ?_ ?_
     ·refine Zy3 hall rfl trivial ?_;dsimp only [go_sem];refine Zt3 14 rfl ?_;refine Zy3 hall rfl trivial ?_;dsimp only [go_sem];refine Zt3 15 rfl ?_;obtain ⟨x8,ex8,h⟩:=Option.bind_eq_some_iff.1 h;refine Zu4 Mail.row ex8 hall rfl trivial rfl rfl rfl ?_;dsimp only [go_sem];refine Zt3 16 rfl ?_;refine Zy3 hall rfl trivial ?_;dsimp only [go_sem];refine Zs3 rfl ?_ _;obtain rfl:=Option.some.inj h;exact Zb6 Zjd rfl (by simp [go_sem])
     ·refine Zy3 hall rfl trivial ?_;dsimp only [go_sem];refine Zt3 0 rfl ?_;refine Zy3 hall rfl trivial ?_;dsimp only [go_sem];refine Zt3 15 rfl ?_;obtain ⟨x8,ex8,h⟩:=Option.bind_eq_some_iff.1 h;refine Zu4 Mail.row ex8 hall rfl trivial rfl rfl rfl ?_;dsimp only [go_sem];refine Zt3 16 rfl ?_;refine Zy3 hall rfl trivial ?_;dsimp only [go_sem];refine Zs3 rfl ?_ _;obtain rfl:=Option.some.inj h;exact Zb6 Zjd rfl (by simp [go_sem])
 ·refine Zy3 hall rfl trivial ?_;dsimp only [go_sem];refine Zh5 hall hs haf hnap 2 11 ?_;dsimp only [go_sem];refine ⟨by simp,?_⟩;obtain ⟨x7,ex7,h⟩:=Option.bind_eq_some_iff.1 h;refine Zv3 0 3 11 rfl ?_ ?_ ?_
  ·refine Zy3 hall rfl trivial ?_;dsimp only [go_sem];refine Zu3 3 11 rfl ?_ ?_
   ·refine Zy3 hall rfl trivial ?_;dsimp only [go_sem];refine Zh5 hall hs haf hnap 2 7 ?_;dsimp only [go_sem];refine ⟨by simp,?_⟩;refine Zu3 6 11 rfl ?_ ?_
    ·refine Zd6 hall Side.row ex7 rfl trivial rfl rfl rfl ?_;dsimp only [go_sem];refine Zt3 11 rfl ?_;refine Zd6 hall Side.row ex7 rfl trivial rfl rfl rfl ?_;dsimp only [go_sem];refine Zh5 hall hs haf hnap 2 3 ?_;dsimp only [go_sem];refine ⟨by simp,?_⟩;refine Zt3 14 rfl ?_;refine Zy3 hall rfl trivial ?_;dsimp only [go_sem];refine Zt3 15 rfl ?_;obtain ⟨x8,ex8,h⟩:=Option.bind_eq_some_iff.1 h;refine Zu4 Mail.row ex8 hall rfl trivial rfl rfl rfl ?_;dsimp only [go_sem];refine Zt3 16 rfl ?_;refine Zy3 hall rfl trivial ?_;dsimp only [go_sem]
     refine Zs3 rfl ?_ _;obtain rfl:=Option.some.inj h;exact Zb6 Zjd rfl (by simp [go_sem])
    ·refine Zd6 hall Side.row ex7 rfl trivial rfl rfl rfl ?_;dsimp only [go_sem];refine Zh5 hall hs haf hnap 1 5 ?_;dsimp only [go_sem];refine ⟨by simp,?_⟩;refine Zt3 6 rfl ?_;refine Zd6 hall Side.row ex7 rfl trivial rfl rfl rfl ?_;dsimp only [go_sem];refine Zh5 hall hs haf hnap 1 3 ?_;dsimp only [go_sem];refine ⟨by simp,?_⟩;refine Zt3 14 rfl ?_;refine Zy3 hall rfl trivial ?_;dsimp only [go_sem];refine Zt3 15 rfl ?_;obtain ⟨x8,ex8,h⟩:=Option.bind_eq_some_iff.1 h;refine Zu4 Mail.row ex8 hall rfl trivial rfl rfl rfl ?_;dsimp only [go_sem]
     refine Zt3 16 rfl ?_;refine Zy3 hall rfl trivial ?_;dsimp only [go_sem];refine Zs3 rfl ?_ _;obtain rfl:=Option.some.inj h;exact Zb6 Zjd rfl (by simp [go_sem])
   ·refine Zd6 hall Side.row ex7 rfl trivial rfl rfl rfl ?_;dsimp only [go_sem];refine Zh5 hall hs haf hnap 1 8 ?_;dsimp only [go_sem];refine ⟨by simp,?_⟩;refine Zt3 3 rfl ?_;refine Zy3 hall rfl trivial ?_;dsimp only [go_sem];refine Zh5 hall hs haf hnap 2 5 ?_;dsimp only [go_sem];refine ⟨by simp,?_⟩;refine Zt3 6 rfl ?_;refine Zd6 hall Side.row ex7 rfl trivial rfl rfl rfl ?_;dsimp only [go_sem];refine Zh5 hall hs haf hnap 1 3 ?_;dsimp only [go_sem];refine ⟨by simp,?_⟩;refine Zt3 14 rfl ?_;refine Zy3 hall rfl trivial ?_;dsimp only [go_sem]
    refine Zt3 15 rfl ?_;obtain ⟨x8,ex8,h⟩:=Option.bind_eq_some_iff.1 h;refine Zu4 Mail.row ex8 hall rfl trivial rfl rfl rfl ?_;dsimp only [go_sem];refine Zt3 16 rfl ?_;refine Zy3 hall rfl trivial ?_;dsimp only [go_sem];refine Zs3 rfl ?_ _;obtain rfl:=Option.some.inj h;exact Zb6 Zjd rfl (by simp [go_sem])
  ·refine Zy3 hall rfl trivial ?_;dsimp only [go_sem];refine Zh5 hall hs haf hnap 2 8 ?_;dsimp only [go_sem];refine ⟨by simp,?_⟩;refine Zv3 0 6 11 rfl ?_ ?_ ?_
   ·refine Zy3 hall rfl trivial ?_;dsimp only [go_sem];refine Zu3 6 11 rfl ?_ ?_
    ·refine Zd6 hall Side.row ex7 rfl trivial rfl rfl rfl ?_;dsimp only [go_sem];refine Zt3 11 rfl ?_;refine Zd6 hall Side.row ex7 rfl trivial rfl rfl rfl ?_;dsimp only [go_sem];refine Zh5 hall hs haf hnap 2 3 ?_;dsimp only [go_sem];refine ⟨by simp,?_⟩;refine Zt3 14 rfl ?_;refine Zy3 hall rfl trivial ?_;dsimp only [go_sem];refine Zt3 15 rfl ?_;obtain ⟨x8,ex8,h⟩:=Option.bind_eq_some_iff.1 h;refine Zu4 Mail.row ex8 hall rfl trivial rfl rfl rfl ?_;dsimp only [go_sem];refine Zt3 16 rfl ?_;refine Zy3 hall rfl trivial ?_;dsimp only [go_sem]
     refine Zs3 rfl ?_ _;obtain rfl:=Option.some.inj h;exact Zb6 Zjd rfl (by simp [go_sem])
    ·refine Zd6 hall Side.row ex7 rfl trivial rfl rfl rfl ?_;dsimp only [go_sem];refine Zh5 hall hs haf hnap 1 5 ?_;dsimp only [go_sem];refine ⟨by simp,?_⟩;refine Zt3 6 rfl ?_;refine Zd6 hall Side.row ex7 rfl trivial rfl rfl rfl ?_;dsimp only [go_sem];refine Zh5 hall hs haf hnap 1 3 ?_;dsimp only [go_sem];refine ⟨by simp,?_⟩;refine Zt3 14 rfl ?_;refine Zy3 hall rfl trivial ?_;dsimp only [go_sem];refine Zt3 15 rfl ?_;obtain ⟨x8,ex8,h⟩:=Option.bind_eq_some_iff.1 h;refine Zu4 Mail.row ex8 hall rfl trivial rfl rfl rfl ?_;dsimp only [go_sem]
     refine Zt3 16 rfl ?_;refine Zy3 hall rfl trivial ?_;dsimp only [go_sem];refine Zs3 rfl ?_ _;obtain rfl:=Option.some.inj h;exact Zb6 Zjd rfl (by simp [go_sem])
   ·refine Zd6 hall Side.row ex7 rfl trivial rfl rfl rfl ?_;dsimp only [go_sem];refine Zu3 0 11 rfl ?_ ?_
    ·refine Zy3 hall rfl trivial ?_;dsimp only [go_sem];refine Zt3 11 rfl ?_;refine Zd6 hall Side.row ex7 rfl trivial rfl rfl rfl ?_;dsimp only [go_sem];refine Zh5 hall hs haf hnap 2 3 ?_;dsimp only [go_sem];refine ⟨by simp,?_⟩;refine Zt3 14 rfl ?_;refine Zy3 hall rfl trivial ?_;dsimp only [go_sem];refine Zt3 15 rfl ?_;obtain ⟨x8,ex8,h⟩:=Option.bind_eq_some_iff.1 h;refine Zu4 Mail.row ex8 hall rfl trivial rfl rfl rfl ?_;dsimp only [go_sem];refine Zt3 16 rfl ?_;refine Zy3 hall rfl trivial ?_;dsimp only [go_sem];refine Zs3 rfl ?_ _
     obtain rfl:=Option.some.inj h;exact Zb6 Zjd rfl (by simp [go_sem])
    ·refine Zd6 hall Side.row ex7 rfl trivial rfl rfl rfl ?_;dsimp only [go_sem];refine Zh5 hall hs haf hnap 2 4 ?_;dsimp only [go_sem];refine ⟨by simp,?_⟩;refine Zu3 0 14 rfl ?_ ?_
     ·refine Zy3 hall rfl trivial ?_;dsimp only [go_sem];refine Zt3 14 rfl ?_;refine Zy3 hall rfl trivial ?_;dsimp only [go_sem];refine Zt3 15 rfl ?_;obtain ⟨x8,ex8,h⟩:=Option.bind_eq_some_iff.1 h;refine Zu4 Mail.row ex8 hall rfl trivial rfl rfl rfl ?_;dsimp only [go_sem];refine Zt3 16 rfl ?_;refine Zy3 hall rfl trivial ?_;dsimp only [go_sem];refine Zs3 rfl ?_ _;obtain rfl:=Option.some.inj h;exact Zb6 Zjd rfl (by simp [go_sem])
     ·refine Zy3 hall rfl trivial ?_;dsimp only [go_sem];refine Zt3 0 rfl ?_;refine Zy3 hall rfl trivial ?_;dsimp only [go_sem];refine Zt3 15 rfl ?_;obtain ⟨x8,ex8,h⟩:=Option.bind_eq_some_iff.1 h;refine Zu4 Mail.row ex8 hall rfl trivial rfl rfl rfl ?_;dsimp only [go_sem];refine Zt3 16 rfl ?_;refine Zy3 hall rfl trivial ?_;dsimp only [go_sem];refine Zs3 rfl ?_ _;obtain rfl:=Option.some.inj h;exact Zb6 Zjd rfl (by simp [go_sem])
   ·refine Zd6 hall Side.row ex7 rfl trivial rfl rfl rfl ?_;dsimp only [go_sem];refine Zh5 hall hs haf hnap 1 6 ?_;dsimp only [go_sem];refine ⟨by simp,?_⟩;refine Zu3 0 6 rfl ?_ ?_
    ·refine Zy3 hall rfl trivial ?_;dsimp only [go_sem];refine Zt3 6 rfl ?_;refine Zd6 hall Side.row ex7 rfl trivial rfl rfl rfl ?_;dsimp only [go_sem];refine Zh5 hall hs haf hnap 1 3 ?_;dsimp only [go_sem];refine ⟨by simp,?_⟩;refine Zt3 14 rfl ?_;refine Zy3 hall rfl trivial ?_;dsimp only [go_sem];refine Zt3 15 rfl ?_;obtain ⟨x8,ex8,h⟩:=Option.bind_eq_some_iff.1 h;refine Zu4 Mail.row ex8 hall rfl trivial rfl rfl rfl ?_;dsimp only [go_sem];refine Zt3 16 rfl ?_;refine Zy3 hall rfl trivial ?_;dsimp only [go_sem];refine Zs3 rfl ?_ _
     obtain rfl:=Option.some.inj h;exact Zb6 Zjd rfl (by simp [go_sem])
    ·refine Zd6 hall Side.row ex7 rfl trivial rfl rfl rfl ?_;dsimp only [go_sem];refine Zh5 hall hs haf hnap 1 4 ?_;dsimp only [go_sem];refine ⟨by simp,?_⟩;refine Zu3 0 14 rfl ?_ ?_
     ·refine Zy3 hall rfl trivial ?_;dsimp only [go_sem];refine Zt3 14 rfl ?_;refine Zy3 hall rfl trivial ?_;dsimp only [go_sem];refine Zt3 15 rfl ?_;obtain ⟨x8,ex8,h⟩:=Option.bind_eq_some_iff.1 h;refine Zu4 Mail.row ex8 hall rfl trivial rfl rfl rfl ?_;dsimp only [go_sem];refine Zt3 16 rfl ?_;refine Zy3 hall rfl trivial ?_;dsimp only [go_sem];refine Zs3 rfl ?_ _;obtain rfl:=Option.some.inj h;exact Zb6 Zjd rfl (by simp [go_sem])
     ·refine Zy3 hall rfl trivial ?_;dsimp only [go_sem];refine Zt3 0 rfl ?_;refine Zy3 hall rfl trivial ?_;dsimp only [go_sem];refine Zt3 15 rfl ?_;obtain ⟨x8,ex8,h⟩:=Option.bind_eq_some_iff.1 h;refine Zu4 Mail.row ex8 hall rfl trivial rfl rfl rfl ?_;dsimp only [go_sem];refine Zt3 16 rfl ?_;refine Zy3 hall rfl trivial ?_;dsimp only [go_sem];refine Zs3 rfl ?_ _;obtain rfl:=Option.some.inj h;exact Zb6 Zjd rfl (by simp [go_sem])
  ·refine Zd6 hall Side.row ex7 rfl trivial rfl rfl rfl ?_;dsimp only [go_sem];refine Zh5 hall hs haf hnap 1 9 ?_;dsimp only [go_sem];refine ⟨by simp,?_⟩;refine Zu3 0 3 rfl ?_ ?_
   ·refine Zy3 hall rfl trivial ?_;dsimp only [go_sem];refine Zt3 3 rfl ?_;refine Zy3 hall rfl trivial ?_;dsimp only [go_sem];refine Zh5 hall hs haf hnap 2 5 ?_;dsimp only [go_sem];refine ⟨by simp,?_⟩;refine Zt3 6 rfl ?_;refine Zd6 hall Side.row ex7 rfl trivial rfl rfl rfl ?_;dsimp only [go_sem];refine Zh5 hall hs haf hnap 1 3 ?_;dsimp only [go_sem];refine ⟨by simp,?_⟩;refine Zt3 14 rfl ?_;refine Zy3 hall rfl trivial ?_;dsimp only [go_sem];refine Zt3 15 rfl ?_;obtain ⟨x8,ex8,h⟩:=Option.bind_eq_some_iff.1 h
    refine Zu4 Mail.row ex8 hall rfl trivial rfl rfl rfl ?_;dsimp only [go_sem];refine Zt3 16 rfl ?_;refine Zy3 hall rfl trivial ?_;dsimp only [go_sem];refine Zs3 rfl ?_ _;obtain rfl:=Option.some.inj h;exact Zb6 Zjd rfl (by simp [go_sem])
   ·refine Zy3 hall rfl trivial ?_;dsimp only [go_sem];refine Zh5 hall hs haf hnap 2 6 ?_;dsimp only [go_sem];refine ⟨by simp,?_⟩;refine Zu3 0 6 rfl ?_ ?_
    ·refine Zy3 hall rfl trivial ?_;dsimp only [go_sem];refine Zt3 6 rfl ?_;refine Zd6 hall Side.row ex7 rfl trivial rfl rfl rfl ?_;dsimp only [go_sem];refine Zh5 hall hs haf hnap 1 3 ?_;dsimp only [go_sem];refine ⟨by simp,?_⟩;refine Zt3 14 rfl ?_;refine Zy3 hall rfl trivial ?_;dsimp only [go_sem];refine Zt3 15 rfl ?_;obtain ⟨x8,ex8,h⟩:=Option.bind_eq_some_iff.1 h;refine Zu4 Mail.row ex8 hall rfl trivial rfl rfl rfl ?_;dsimp only [go_sem];refine Zt3 16 rfl ?_;refine Zy3 hall rfl trivial ?_;dsimp only [go_sem];refine Zs3 rfl ?_ _
     obtain rfl:=Option.some.inj h;exact Zb6 Zjd rfl (by simp [go_sem])
    ·refine Zd6 hall Side.row ex7 rfl trivial rfl rfl rfl ?_;dsimp only [go_sem];refine Zh5 hall hs haf hnap 1 4 ?_;dsimp only [go_sem];refine ⟨by simp,?_⟩;refine Zu3 0 14 rfl ?_ ?_
     ·refine Zy3 hall rfl trivial ?_;dsimp only [go_sem];refine Zt3 14 rfl ?_;refine Zy3 hall rfl trivial ?_;dsimp only [go_sem];refine Zt3 15 rfl ?_;obtain ⟨x8,ex8,h⟩:=Option.bind_eq_some_iff.1 h;refine Zu4 Mail.row ex8 hall rfl trivial rfl rfl rfl ?_;dsimp only [go_sem];refine Zt3 16 rfl ?_;refine Zy3 hall rfl trivial ?_;dsimp only [go_sem];refine Zs3 rfl ?_ _;obtain rfl:=Option.some.inj h;exact Zb6 Zjd rfl (by simp [go_sem])
     ·refine Zy3 hall rfl trivial ?_;dsimp only [go_sem];refine Zt3 0 rfl ?_;refine Zy3 hall rfl trivial ?_;dsimp only [go_sem];refine Zt3 15 rfl ?_;obtain ⟨x8,ex8,h⟩:=Option.bind_eq_some_iff.1 h;refine Zu4 Mail.row ex8 hall rfl trivial rfl rfl rfl ?_;dsimp only [go_sem];refine Zt3 16 rfl ?_;refine Zy3 hall rfl trivial ?_;dsimp only [go_sem];refine Zs3 rfl ?_ _;obtain rfl:=Option.some.inj h;exact Zb6 Zjd rfl (by simp [go_sem])
def Zsd (_F:Nat) (x1:Int) (x2:Int) (_x3:Int) (x4:Int) (x5:(List Side)) (x6:(List Mail)):Option (List Mail):=
 (at_ x5 x4).bind fun x7=>
 (Za4 40 x6 ([(Mail.mk x2 x7.Peer ((Msg.mk x1 x7.Epoch 0)))])).bind fun x8=>
 some x8
theorem Ztd {F:Nat} {x1:Int} {x2:Int} {x3:Int} {x4:Int} {x5:(List Side)} {x6:(List Mail)}:ole (Zsd F x1 x2 x3 x4 x5 x6) (Zqd x1 x2 x3 x4 x5 x6):=by
 unfold Zsd Zqd
 with_reducible repeat' first | exact Zf4 _ | assumption | intro _ | refine Zg4 ?_ ?_ | refine Zh4 ?_ ?_ | refine Zi4 ?_ | refine Zj4 ?_
noncomputable def Zud (x1:Diner) (x50:(List Mail)):(Int×(List Side))→Option (Diner×(List Mail)×Int)
| (x65,x66)=>
 some ((Diner.mk x1.ID x65 x66),x50,0)
noncomputable def Zvd (x1:Diner) (x49:(List Side)) (x50:(List Mail)):(Int×(List Side))→Option ((Int×(List Side)) ⊕ (Diner×(List Mail)×Int))
| (x55,x56)=>
 ifb (decide (x55<(ln Side.row x49))) (
 (at_ x56 x55).bind fun x57=>
 some (.inl (wr (x55+1),x56.set (x55).toNat ((Side.mk x57.Peer x57.Epoch x57.State x57.Fork true x57.Token x57.Bottle x57.Ask))))) (
 Option.map Sum.inr ((Zud x1 x50) (2,x56)))
noncomputable def Zwd (x1:Diner) (x49:(List Side)) (x50:(List Mail)):Bool→Option (Diner×(List Mail)×Int)
| x51=>
 ifb x51 (
 loop (Zvd x1 x49 x50) (0,x49)) (
 (Zud x1 x50) (x1.Phase,x49))
noncomputable def Zxd (x1:Diner):(Bool×(List Side)×(List Mail))→Option (Diner×(List Mail)×Int)
| (x48,x49,x50)=>
 ifb (decide (x1.Phase=1)) (
 (Zwd x1 x49 x50) x48) (
 (Zwd x1 x49 x50) false)
noncomputable def Zyd (x21:Int) (x33:(List Side)) (x34:(List Mail)):Bool→Option ((Bool×Int×(List Side)×(List Mail)) ⊕ (Diner×(List Mail)×Int))
| x36=>
 some (.inl (x36,wr (x21+1),x33,x34))
noncomputable def Zzd (x20:Bool) (x21:Int):((List Side)×(List Mail))→Option ((Bool×Int×(List Side)×(List Mail)) ⊕ (Diner×(List Mail)×Int))
| (x33,x34)=>
 ifb x20 (
 (at_ x33 x21).bind fun x35=>
 (Zyd x21 x33 x34) x35.Fork) (
 (Zyd x21 x33 x34) false)
noncomputable def Z0e (x1:Diner) (x20:Bool) (x21:Int) (x27:(List Side)) (x28:(List Mail)):Bool→Option ((Bool×Int×(List Side)×(List Mail)) ⊕ (Diner×(List Mail)×Int))
| x30=>
 ifb x30 (
 (at_ x27 x21).bind fun x31=>
 (Zqd 2 x1.ID x1.Phase x21 (x27.set (x21).toNat ((Side.mk x31.Peer x31.Epoch x31.State x31.Fork x31.Dirty false x31.Bottle x31.Ask))) x28).bind fun x32=>
 (Zzd x20 x21) ((x27.set (x21).toNat ((Side.mk x31.Peer x31.Epoch x31.State x31.Fork x31.Dirty false x31.Bottle x31.Ask))),x32)) (
 (Zzd x20 x21) (x27,x28))
noncomputable def Z1e (x1:Diner) (x20:Bool) (x21:Int):((List Side)×(List Mail))→Option ((Bool×Int×(List Side)×(List Mail)) ⊕ (Diner×(List Mail)×Int))
| (x27,x28)=>
 ifb (decide (x1.Phase=1)) (
 (at_ x27 x21).bind fun x29=>
 ifb x29.Token (
 (Z0e x1 x20 x21 x27 x28) (!x29.Fork)) (
 (Z0e x1 x20 x21 x27 x28) false)) (
 (Z0e x1 x20 x21 x27 x28) false)
noncomputable def Z2e (x1:Diner) (x20:Bool) (x21:Int) (x22:(List Side)) (x23:(List Mail)) (x24:Side):Bool→Option ((Bool×Int×(List Side)×(List Mail)) ⊕ (Diner×(List Mail)×Int))
| x25=>
 ifb x25 (
 (Zqd 1 x1.ID x1.Phase x21 (x22.set (x21).toNat ((Side.mk x24.Peer x24.Epoch x24.State false false x24.Token x24.Bottle x24.Ask))) x23).bind fun x26=>
 (Z1e x1 x20 x21) ((x22.set (x21).toNat ((Side.mk x24.Peer x24.Epoch x24.State false false x24.Token x24.Bottle x24.Ask))),x26)) (
 (Z1e x1 x20 x21) (x22,x23))
noncomputable def Z3e (x1:Diner) (x3:(List Side)):(Bool×Int×(List Side)×(List Mail))→Option ((Bool×Int×(List Side)×(List Mail)) ⊕ (Diner×(List Mail)×Int))
| (x20,x21,x22,x23)=>
 ifb (decide (x21<(ln Side.row x3))) (
 (at_ x22 x21).bind fun x24=>
 ifb x24.Fork (
 ifb x24.Dirty (
 ifb x24.Token (
 (Z2e x1 x20 x21 x22 x23 x24) (!decide (x1.Phase=2))) (
 (Z2e x1 x20 x21 x22 x23 x24) false)) (
 (Z2e x1 x20 x21 x22 x23 x24) false)) (
 (Z2e x1 x20 x21 x22 x23 x24) false)) (
 Option.map Sum.inr ((Zxd x1) (x20,x22,x23)))
noncomputable def Z4e (x1:Diner):Option (Diner×(List Mail)×Int):=
 (Z2d x1).bind fun x2=>
 ifb (!decide (x2=0)) (
 some ((Diner.mk 0 0 (([]:(List Side)))),([]:(List Mail)),x2)) (
 (Z4d x1.Sides).bind fun x3=>
 loop (Z3e x1 x3) (true,0,x3,([]:List Mail)))
theorem k_dine_Fire (x1:Diner) (r:(Diner×(List Mail)×Int)) (h:Z4e x1=some r):Zq2 Tryz.prog 99 [.agg (Diner.row x1)] (.tup [.agg (Diner.row r.1),.sl 5 (List.map Mail.row r.2.1),.iv r.2.2]):=by
 refine Zu2 ok99 rfl rfl fun w0 H0=>?_
 rw [Z4e] at h
 refine Zl2 11 ?_;dsimp only [e99,Zld,Zkd,go_sem];refine ⟨by simp,?_⟩;obtain ⟨x2,ex2,h⟩:=Option.bind_eq_some_iff.1 h;refine Zz2 trivial (Z3d x1 _ ex2) (h:=?_);refine Zl2 7 ?_;dsimp only [e99,Zld,Zkd,go_sem];refine ⟨by simp,?_⟩;refine Zn4 h rfl (fun _ h=>?_) fun _ h=>?_
 ·refine Zl2 8 ?_;dsimp only [e99,Zld,Zkd,go_sem];refine ⟨by simp,?_⟩;exact Zx4 (res:=fun (r:(Diner×(List Mail)×Int))=>.tup [.agg (Diner.row r.1),.sl 5 (List.map Mail.row r.2.1),.iv r.2.2]) ok99 h
 ·refine Zl2 5 ?_;dsimp only [e99,Zld,Zkd,go_sem];refine ⟨by simp,?_⟩;obtain ⟨x3,ex3,h⟩:=Option.bind_eq_some_iff.1 h;refine Zd5 trivial (Z5d x1.Sides _ ex3) (h:=?_);refine Zl2 19 ?_;dsimp only [e99,Zld,Zkd,go_sem];refine ⟨by simp,?_⟩
  refine Zl4 (fun ((x48,x49,x50):(Bool×(List Side)×(List Mail)))=>(⟨(.any :: .ptr 0 0 :: .ptr 1 0::an 3 (.ptr 2 0 :: .bv x48::an 104 [])),[some ⟨70,[.iv x1.ID,.iv x1.Phase,.osl 0]⟩,some ⟨70,[.iv 0,.iv 0,.nl]⟩,some ⟨23,[.osl 1]⟩],[some ⟨65,8,List.map Side.row x49⟩,some ⟨78,5,List.map Mail.row x50⟩]⟩:St)) (Zxd x1) r ?_ fun J1=>?_
  ·rintro ⟨x48,x49,x50⟩ h;rw [Zxd] at h;(try dsimp only);refine Zl2 7 ?_;dsimp only [e99,Zld,Zkd,go_sem];refine ⟨by simp,?_⟩;refine Zl4 (fun (x51:Bool)=>(⟨(.any :: .ptr 0 0 :: .ptr 1 0::an 3 (.ptr 2 0::an 89 (.bv x51::an 15 []))),[some ⟨70,[.iv x1.ID,.iv x1.Phase,.osl 0]⟩,some ⟨70,[.iv 0,.iv 0,.nl]⟩,some ⟨23,[.osl 1]⟩],[some ⟨65,8,List.map Side.row x49⟩,some ⟨78,5,List.map Mail.row x50⟩]⟩:St)) (Zwd x1 x49 x50) r ?_ fun J7=>?_
   ·intro x51 h;rw [Zwd] at h;(try dsimp only);refine Zl4 (fun ((x65,x66):(Int×(List Side)))=>(⟨(.any :: .ptr 0 0 :: .ptr 1 0::an 3 (.ptr 2 0::an 105 [])),[some ⟨70,[.iv x1.ID,.iv x65,.osl 0]⟩,some ⟨70,[.iv 0,.iv 0,.nl]⟩,some ⟨23,[.osl 1]⟩],[some ⟨65,8,List.map Side.row x66⟩,some ⟨78,5,List.map Mail.row x50⟩]⟩:St)) (Zud x1 x50) r ?_ fun J8=>?_
    ·rintro ⟨x65,x66⟩ h;rw [Zud] at h;(try dsimp only);refine Zl2 1 ?_;dsimp only [e99,Zld,Zkd,go_sem];refine ⟨by simp,?_⟩;refine Zh3 (by kernel_rfl) fun all hall hs hnap haf=>?_;dsimp only [go_sem];refine Zu3 0 1 rfl ?_ ?_
     ·refine Zy3 hall rfl trivial ?_;dsimp only [go_sem];refine Zu3 1 2 rfl ?_ ?_
      ·refine Zy3 hall rfl trivial ?_;dsimp only [go_sem];refine Zt3 2 rfl ?_;refine Zy3 hall rfl trivial ?_;dsimp only [go_sem];refine Zh5 hall hs haf hnap 2 0 ?_;dsimp only [go_sem];refine ⟨by simp,?_⟩;refine Zs3 rfl ?_ _;refine Z83 0 rfl ?_;dsimp only [go_sem];refine Z83 1 rfl ?_;dsimp only [go_sem];exact Zx4 (res:=fun (r:(Diner×(List Mail)×Int))=>.tup [.agg (Diner.row r.1),.sl 5 (List.map Mail.row r.2.1),.iv r.2.2]) ok99 h
      ·refine Zy3 hall rfl trivial ?_;dsimp only [go_sem];refine Zt3 1 rfl ?_;refine Zy3 hall rfl trivial ?_;dsimp only [go_sem];refine Zh5 hall hs haf hnap 2 0 ?_;dsimp only [go_sem];refine ⟨by simp,?_⟩;refine Zs3 rfl ?_ _;refine Z83 0 rfl ?_;dsimp only [go_sem];refine Z83 1 rfl ?_;dsimp only [go_sem];exact Zx4 (res:=fun (r:(Diner×(List Mail)×Int))=>.tup [.agg (Diner.row r.1),.sl 5 (List.map Mail.row r.2.1),.iv r.2.2]) ok99 h
     ·refine Zy3 hall rfl trivial ?_;dsimp only [go_sem];refine Zt3 0 rfl ?_;refine Zy3 hall rfl trivial ?_;dsimp only [go_sem];refine Zt3 2 rfl ?_;refine Zy3 hall rfl trivial ?_;dsimp only [go_sem];refine Zh5 hall hs haf hnap 2 0 ?_;dsimp only [go_sem];refine ⟨by simp,?_⟩;refine Zs3 rfl ?_ _;refine Z83 0 rfl ?_;dsimp only [go_sem];refine Z83 1 rfl ?_;dsimp only [go_sem];exact Zx4 (res:=fun (r:(Diner×(List Mail)×Int))=>.tup [.agg (Diner.row r.1),.sl 5 (List.map Mail.row r.2.1),.iv r.2.2]) ok99 h
    ·refine Zn4 h rfl (fun _ h=>?_) fun _ h=>?_
     ·refine Zl2 13 ?_;dsimp only [e99,Zld,Zkd,go_sem];refine ⟨by simp,?_⟩;refine Zm4 h (fun ((x55,x56):(Int×(List Side)))=>(⟨(.any :: .ptr 0 0 :: .ptr 1 0::an 3 (.ptr 2 0::an 93 (.iv (ln Side.row x49) :: .iv x55::an 10 []))),[some ⟨70,[.iv x1.ID,.iv 2,.osl 0]⟩,some ⟨70,[.iv 0,.iv 0,.nl]⟩,some ⟨23,[.osl 1]⟩],[some ⟨65,8,List.map Side.row x56⟩,some ⟨78,5,List.map Mail.row x50⟩]⟩:St)) (by simp [go_sem]) (by rintro ⟨x55,x56⟩;first | rfl | simp [go_sem]) ?_;rintro n1 ⟨x55,x56⟩ y1 h hin1 hout1;rw [Zvd] at h;(try dsimp only)
      refine Zl2 5 ?_;dsimp only [e99,Zld,Zkd,go_sem];refine ⟨by simp,?_⟩;refine Zn4 h rfl (fun _ h=>?_) fun _ h=>?_
      ·refine Zl2 12 ?_;dsimp only [e99,Zld,Zkd,go_sem];refine ⟨by simp,?_⟩;obtain ⟨x57,ex57,h⟩:=Option.bind_eq_some_iff.1 h;refine Z06 Side.row ex57 trivial rfl rfl rfl ?_;refine Zl2 1 ?_;dsimp only [e99,Zld,Zkd,go_sem];refine ⟨by simp,?_⟩;refine Z56 [.bv true] Side.row (y':=(Side.mk x57.Peer x57.Epoch x57.State x57.Fork true x57.Token x57.Bottle x57.Ask)) ex57 trivial rfl rfl rfl (by first | exact Z94 _ | simp [go_sem]) rfl rfl rfl rfl ?_;refine Zl2 6 ?_;dsimp only [e99,Zld,Zkd,go_sem];refine ⟨by simp,?_⟩
       exact Zy4 h hin1
      ·refine Zl2 1 ?_;dsimp only [e99,Zld,Zkd,go_sem];refine ⟨by simp,?_⟩;exact Zz4 J8 (s:=(2,x56)) (Zk4 h hout1)
     ·refine Zl2 1 ?_;dsimp only [e99,Zld,Zkd,go_sem];refine ⟨by simp,?_⟩;exact Zz4 J8 (s:=(x1.Phase,x49)) h
   ·refine Zw4 94 h rfl (fun _ h=>?_) fun _ h=>?_
    ·dsimp only [go_sem];refine Zl2 3 ?_;dsimp only [e99,Zld,Zkd,go_sem];refine ⟨by simp,?_⟩;exact Zz4 J7 (s:=x48) h
    ·dsimp only [go_sem];refine Zl2 3 ?_;dsimp only [e99,Zld,Zkd,go_sem];refine ⟨by simp,?_⟩;exact Zz4 J7 (s:=false) h
  ·refine Zl2 1 ?_;dsimp only [e99,Zld,Zkd,go_sem];refine ⟨by simp,?_⟩;refine V_ownB 2 0 78 5 rfl rfl rfl ?_;dsimp only [go_sem]
   refine Zm4 h (fun ((x20,x21,x22,x23):(Bool×Int×(List Side)×(List Mail)))=>(⟨(.any :: .ptr 0 0 :: .ptr 1 0::an 3 (.ptr 2 0 :: .bv x20::an 16 (.iv (ln Side.row x3) :: .iv x21::an 86 []))),[some ⟨70,[.iv x1.ID,.iv x1.Phase,.osl 0]⟩,some ⟨70,[.iv 0,.iv 0,.nl]⟩,some ⟨23,[.osl 1]⟩],[some ⟨65,8,List.map Side.row x22⟩,some ⟨78,5,List.map Mail.row x23⟩]⟩:St)) (by simp [go_sem]) (by rintro ⟨x20,x21,x22,x23⟩;first | rfl | simp [go_sem]) ?_;rintro n1 ⟨x20,x21,x22,x23⟩ y1 h hin1 hout1;rw [Z3e] at h;(try dsimp only);refine Zl2 5 ?_
   dsimp only [e99,Zld,Zkd,go_sem];refine ⟨by simp,?_⟩;refine Zn4 h rfl (fun _ h=>?_) fun _ h=>?_
   ·refine Zl2 13 ?_;dsimp only [e99,Zld,Zkd,go_sem];refine ⟨by simp,?_⟩;obtain ⟨x24,ex24,h⟩:=Option.bind_eq_some_iff.1 h;refine Z06 Side.row ex24 trivial rfl rfl rfl ?_;refine Zl2 14 ?_;dsimp only [e99,Zld,Zkd,go_sem];refine ⟨by simp,?_⟩;refine Z16 Side.row ex24 trivial rfl rfl rfl ?_;refine Zl2 1 ?_;dsimp only [e99,Zld,Zkd,go_sem];refine ⟨by simp,?_⟩
    refine Zl4 (fun (x25:Bool)=>(⟨(.any :: .ptr 0 0 :: .ptr 1 0::an 3 (.ptr 2 0 :: .bv x20 :: .any :: .ptr 3 0 :: .clo 121 [.ptr 2 0,.ptr 0 0,.ptr 3 0]::an 13 (.iv (ln Side.row x3) :: .iv x21::an 27 (.bv x25::an 58 [])))),[some ⟨70,[.iv x1.ID,.iv x1.Phase,.osl 0]⟩,some ⟨70,[.iv 0,.iv 0,.nl]⟩,some ⟨23,[.osl 1]⟩,some ⟨141,[.oel 0 ((x21).toNat*8) 0]⟩],[some ⟨65,8,List.map Side.row x22⟩,some ⟨78,5,List.map Mail.row x23⟩]⟩:St)) (Z2e x1 x20 x21 x22 x23 x24) y1 ?_ fun J2=>?_
    ·intro x25 h;rw [Z2e] at h;(try dsimp only);refine Zl4 (fun ((x27,x28):((List Side)×(List Mail)))=>(⟨(.any :: .ptr 0 0 :: .ptr 1 0::an 3 (.ptr 2 0 :: .bv x20 :: .any :: .ptr 3 0 :: .clo 121 [.ptr 2 0,.ptr 0 0,.ptr 3 0]::an 13 (.iv (ln Side.row x3) :: .iv x21::an 86 []))),[some ⟨70,[.iv x1.ID,.iv x1.Phase,.osl 0]⟩,some ⟨70,[.iv 0,.iv 0,.nl]⟩,some ⟨23,[.osl 1]⟩,some ⟨141,[.oel 0 ((x21).toNat*8) 0]⟩],[some ⟨65,8,List.map Side.row x27⟩,some ⟨78,5,List.map Mail.row x28⟩]⟩:St)) (Z1e x1 x20 x21) y1 ?_ fun J3=>?_
     ·rintro ⟨x27,x28⟩ h;rw [Z1e] at h;(try dsimp only);refine Zl2 7 ?_;dsimp only [e99,Zld,Zkd,go_sem];refine ⟨by simp,?_⟩
      refine Zl4 (fun (x30:Bool)=>(⟨(.any :: .ptr 0 0 :: .ptr 1 0::an 3 (.ptr 2 0 :: .bv x20 :: .any :: .ptr 3 0 :: .clo 121 [.ptr 2 0,.ptr 0 0,.ptr 3 0]::an 13 (.iv (ln Side.row x3) :: .iv x21::an 51 (.bv x30::an 34 [])))),[some ⟨70,[.iv x1.ID,.iv x1.Phase,.osl 0]⟩,some ⟨70,[.iv 0,.iv 0,.nl]⟩,some ⟨23,[.osl 1]⟩,some ⟨141,[.oel 0 ((x21).toNat*8) 0]⟩],[some ⟨65,8,List.map Side.row x27⟩,some ⟨78,5,List.map Mail.row x28⟩]⟩:St)) (Z0e x1 x20 x21 x27 x28) y1 ?_ fun J4=>?_
      ·intro x30 h;rw [Z0e] at h;(try dsimp only);refine Zl4 (fun ((x33,x34):((List Side)×(List Mail)))=>(⟨(.any :: .ptr 0 0 :: .ptr 1 0::an 3 (.ptr 2 0 :: .bv x20 :: .any :: .ptr 3 0::an 14 (.iv (ln Side.row x3) :: .iv x21::an 86 []))),[some ⟨70,[.iv x1.ID,.iv x1.Phase,.osl 0]⟩,some ⟨70,[.iv 0,.iv 0,.nl]⟩,some ⟨23,[.osl 1]⟩,some ⟨141,[.oel 0 ((x21).toNat*8) 0]⟩],[some ⟨65,8,List.map Side.row x33⟩,some ⟨78,5,List.map Mail.row x34⟩]⟩:St)) (Zzd x20 x21) y1 ?_ fun J5=>?_
       ·rintro ⟨x33,x34⟩ h;rw [Zzd] at h;(try dsimp only);refine Zl2 3 ?_;dsimp only [e99,Zld,Zkd,go_sem];refine ⟨by simp,?_⟩;refine Zl4 (fun (x36:Bool)=>(⟨(.any :: .ptr 0 0 :: .ptr 1 0::an 3 (.ptr 2 0 :: .bv x36::an 16 (.iv (ln Side.row x3) :: .iv x21::an 86 []))),[some ⟨70,[.iv x1.ID,.iv x1.Phase,.osl 0]⟩,some ⟨70,[.iv 0,.iv 0,.nl]⟩,some ⟨23,[.osl 1]⟩],[some ⟨65,8,List.map Side.row x33⟩,some ⟨78,5,List.map Mail.row x34⟩]⟩:St)) (Zyd x21 x33 x34) y1 ?_ fun J6=>?_
        ·intro x36 h;rw [Zyd] at h;(try dsimp only);refine Zl2 5 ?_;dsimp only [e99,Zld,Zkd,go_sem];refine ⟨by simp,?_⟩;exact Zy4 h hin1
        ·refine Zw4 84 h rfl (fun _ h=>?_) fun _ h=>?_
         ·dsimp only [go_sem];refine Zl2 3 ?_;dsimp only [e99,Zld,Zkd,go_sem];refine ⟨by simp,?_⟩;obtain ⟨x35,ex35,h⟩:=Option.bind_eq_some_iff.1 h;refine Z16 Side.row ex35 trivial rfl rfl rfl ?_;refine Zl2 3 ?_;dsimp only [e99,Zld,Zkd,go_sem];refine ⟨by simp,?_⟩;exact Zz4 J6 (s:=x35.Fork) h
         ·dsimp only [go_sem];refine Zl2 7 ?_;dsimp only [e99,Zld,Zkd,go_sem];refine ⟨by simp,?_⟩;exact Zz4 J6 (s:=false) h
       ·refine Zn4 h rfl (fun _ h=>?_) fun _ h=>?_
        ·refine Zl2 5 ?_;dsimp only [e99,Zld,Zkd,go_sem];refine ⟨by simp,?_⟩;obtain ⟨x31,ex31,h⟩:=Option.bind_eq_some_iff.1 h;refine Z56 [.bv false] Side.row (y':=(Side.mk x31.Peer x31.Epoch x31.State x31.Fork x31.Dirty false x31.Bottle x31.Ask)) ex31 trivial rfl rfl rfl (by first | exact Z94 _ | simp [go_sem]) rfl rfl rfl rfl ?_;refine Zl2 3 ?_;dsimp only [e99,Zld,Zkd,go_sem];refine ⟨by simp,?_⟩;obtain ⟨x32,ex32,h⟩:=Option.bind_eq_some_iff.1 h
         refine Zc6 [true,false,true,true] [true,true] trivial rfl (Zrd 2 x1.ID x1.Phase x21 (x27.set (x21).toNat ((Side.mk x31.Peer x31.Epoch x31.State x31.Fork x31.Dirty false x31.Bottle x31.Ask))) x28 _ ex32) (by kernel_rfl) (h:=?_);dsimp only [go_sem];refine Zl2 1 ?_;dsimp only [e99,Zld,Zkd,go_sem];refine ⟨by simp,?_⟩;refine Z44 3 1 rfl rfl rfl ?_;dsimp only [go_sem];exact Zz4 J5 (s:=((x27.set (x21).toNat ((Side.mk x31.Peer x31.Epoch x31.State x31.Fork x31.Dirty false x31.Bottle x31.Ask))),x32)) h
        ·refine Zl2 1 ?_;dsimp only [e99,Zld,Zkd,go_sem];refine ⟨by simp,?_⟩;exact Zz4 J5 (s:=(x27,x28)) h
      ·refine Zw4 65 h rfl (fun _ h=>?_) fun _ h=>?_
       ·dsimp only [go_sem];refine Zl2 3 ?_;dsimp only [e99,Zld,Zkd,go_sem];refine ⟨by simp,?_⟩;obtain ⟨x29,ex29,h⟩:=Option.bind_eq_some_iff.1 h;refine Z16 Side.row ex29 trivial rfl rfl rfl ?_;refine Zl2 2 ?_;dsimp only [e99,Zld,Zkd,go_sem];refine ⟨by simp,?_⟩;refine Zw4 71 h rfl (fun _ h=>?_) fun _ h=>?_
        ·dsimp only [go_sem];refine Zl2 3 ?_;dsimp only [e99,Zld,Zkd,go_sem];refine ⟨by simp,?_⟩;refine Z16 Side.row ex29 trivial rfl rfl rfl ?_;refine Zl2 3 ?_;dsimp only [e99,Zld,Zkd,go_sem];refine ⟨by simp,?_⟩;exact Zz4 J4 (s:=!x29.Fork) h
        ·dsimp only [go_sem];refine Zl2 7 ?_;dsimp only [e99,Zld,Zkd,go_sem];refine ⟨by simp,?_⟩;exact Zz4 J4 (s:=false) h
       ·dsimp only [go_sem];refine Zl2 13 ?_;dsimp only [e99,Zld,Zkd,go_sem];refine ⟨by simp,?_⟩;exact Zz4 J4 (s:=false) h
     ·refine Zn4 h rfl (fun _ h=>?_) fun _ h=>?_
      ·refine Zl2 1 ?_;dsimp only [e99,Zld,Zkd,go_sem];refine ⟨by simp,?_⟩;refine Zh3 (by kernel_rfl) fun all hall hs hnap haf=>?_;dsimp only [go_sem];refine Zu3 0 1 rfl ?_ ?_
       ·refine Zy3 hall rfl trivial ?_;dsimp only [go_sem];refine Zh5 hall hs haf hnap 2 5 ?_;dsimp only [go_sem];refine ⟨by simp,?_⟩;refine Zu3 1 4 rfl ?_ ?_
        ·refine Zy3 hall rfl trivial ?_;dsimp only [go_sem];refine Zt3 4 rfl ?_;refine Ze6 hall [.bv false] Side.row (y':=(Side.mk x24.Peer x24.Epoch x24.State false x24.Dirty x24.Token x24.Bottle x24.Ask)) ex24 rfl trivial rfl rfl rfl (by first | exact Z94 _ | simp [go_sem]) rfl rfl rfl rfl ?_;dsimp only [go_sem];refine Zh5 hall hs haf hnap 2 1 ?_;dsimp only [go_sem];refine ⟨by simp,?_⟩;refine Zt3 7 rfl ?_
         refine Zf6 hall [.bv false] Side.row (y':=(Side.mk x24.Peer x24.Epoch x24.State false false x24.Token x24.Bottle x24.Ask)) (at_set ex24) rfl trivial rfl rfl rfl (by first | exact Z94 _ | simp [go_sem]) rfl rfl rfl rfl ?_;dsimp only [go_sem];refine Zs3 rfl ?_ _;refine Zl2 2 ?_;dsimp only [e99,Zld,Zkd,go_sem];refine ⟨by simp,?_⟩;obtain ⟨x26,ex26,h⟩:=Option.bind_eq_some_iff.1 h
         refine Zc6 [true,false,true,true] [true,true] trivial rfl (Zrd 1 x1.ID x1.Phase x21 (x22.set (x21).toNat ((Side.mk x24.Peer x24.Epoch x24.State false false x24.Token x24.Bottle x24.Ask))) x23 _ ex26) (by kernel_rfl) (h:=?_);dsimp only [go_sem];refine Zl2 1 ?_;dsimp only [e99,Zld,Zkd,go_sem];refine ⟨by simp,?_⟩;refine Z44 3 1 rfl rfl rfl ?_;dsimp only [go_sem];exact Zz4 J3 (s:=((x22.set (x21).toNat ((Side.mk x24.Peer x24.Epoch x24.State false false x24.Token x24.Bottle x24.Ask))),x26)) h
        ·refine Ze6 hall [.bv false] Side.row (y':=(Side.mk x24.Peer x24.Epoch x24.State false x24.Dirty x24.Token x24.Bottle x24.Ask)) ex24 rfl trivial rfl rfl rfl (by first | exact Z94 _ | simp [go_sem]) rfl rfl rfl rfl ?_;dsimp only [go_sem];refine Zt3 1 rfl ?_;refine Zy3 hall rfl trivial ?_;dsimp only [go_sem];refine Zh5 hall hs haf hnap 2 1 ?_;dsimp only [go_sem];refine ⟨by simp,?_⟩;refine Zt3 7 rfl ?_
         refine Zf6 hall [.bv false] Side.row (y':=(Side.mk x24.Peer x24.Epoch x24.State false false x24.Token x24.Bottle x24.Ask)) (at_set ex24) rfl trivial rfl rfl rfl (by first | exact Z94 _ | simp [go_sem]) rfl rfl rfl rfl ?_;dsimp only [go_sem];refine Zs3 rfl ?_ _;refine Zl2 2 ?_;dsimp only [e99,Zld,Zkd,go_sem];refine ⟨by simp,?_⟩;obtain ⟨x26,ex26,h⟩:=Option.bind_eq_some_iff.1 h
         refine Zc6 [true,false,true,true] [true,true] trivial rfl (Zrd 1 x1.ID x1.Phase x21 (x22.set (x21).toNat ((Side.mk x24.Peer x24.Epoch x24.State false false x24.Token x24.Bottle x24.Ask))) x23 _ ex26) (by kernel_rfl) (h:=?_);dsimp only [go_sem];refine Zl2 1 ?_;dsimp only [e99,Zld,Zkd,go_sem];refine ⟨by simp,?_⟩;refine Z44 3 1 rfl rfl rfl ?_;dsimp only [go_sem];exact Zz4 J3 (s:=((x22.set (x21).toNat ((Side.mk x24.Peer x24.Epoch x24.State false false x24.Token x24.Bottle x24.Ask))),x26)) h
       ·refine Zy3 hall rfl trivial ?_;dsimp only [go_sem];refine Zt3 0 rfl ?_;refine Zy3 hall rfl trivial ?_;dsimp only [go_sem];refine Zh5 hall hs haf hnap 2 4 ?_;dsimp only [go_sem];refine ⟨by simp,?_⟩;refine Zt3 4 rfl ?_;refine Ze6 hall [.bv false] Side.row (y':=(Side.mk x24.Peer x24.Epoch x24.State false x24.Dirty x24.Token x24.Bottle x24.Ask)) ex24 rfl trivial rfl rfl rfl (by first | exact Z94 _ | simp [go_sem]) rfl rfl rfl rfl ?_;dsimp only [go_sem];refine Zh5 hall hs haf hnap 2 1 ?_;dsimp only [go_sem];refine ⟨by simp,?_⟩
        refine Zt3 7 rfl ?_;refine Zf6 hall [.bv false] Side.row (y':=(Side.mk x24.Peer x24.Epoch x24.State false false x24.Token x24.Bottle x24.Ask)) (at_set ex24) rfl trivial rfl rfl rfl (by first | exact Z94 _ | simp [go_sem]) rfl rfl rfl rfl ?_;dsimp only [go_sem];refine Zs3 rfl ?_ _;refine Zl2 2 ?_;dsimp only [e99,Zld,Zkd,go_sem];refine ⟨by simp,?_⟩;obtain ⟨x26,ex26,h⟩:=Option.bind_eq_some_iff.1 h
        refine Zc6 [true,false,true,true] [true,true] trivial rfl (Zrd 1 x1.ID x1.Phase x21 (x22.set (x21).toNat ((Side.mk x24.Peer x24.Epoch x24.State false false x24.Token x24.Bottle x24.Ask))) x23 _ ex26) (by kernel_rfl) (h:=?_);dsimp only [go_sem];refine Zl2 1 ?_;dsimp only [e99,Zld,Zkd,go_sem];refine ⟨by simp,?_⟩;refine Z44 3 1 rfl rfl rfl ?_;dsimp only [go_sem];exact Zz4 J3 (s:=((x22.set (x21).toNat ((Side.mk x24.Peer x24.Epoch x24.State false false x24.Token x24.Bottle x24.Ask))),x26)) h
      ·refine Zl2 1 ?_;dsimp only [e99,Zld,Zkd,go_sem];refine ⟨by simp,?_⟩;exact Zz4 J3 (s:=(x22,x23)) h
    ·refine Zw4 37 h rfl (fun _ h=>?_) fun _ h=>?_
     ·dsimp only [go_sem];refine Zl2 3 ?_;dsimp only [e99,Zld,Zkd,go_sem];refine ⟨by simp,?_⟩;refine Z16 Side.row ex24 trivial rfl rfl rfl ?_;refine Zl2 2 ?_;dsimp only [e99,Zld,Zkd,go_sem];refine ⟨by simp,?_⟩;refine Zw4 43 h rfl (fun _ h=>?_) fun _ h=>?_
      ·dsimp only [go_sem];refine Zl2 3 ?_;dsimp only [e99,Zld,Zkd,go_sem];refine ⟨by simp,?_⟩;refine Z16 Side.row ex24 trivial rfl rfl rfl ?_;refine Zl2 2 ?_;dsimp only [e99,Zld,Zkd,go_sem];refine ⟨by simp,?_⟩;refine Zw4 49 h rfl (fun _ h=>?_) fun _ h=>?_
       ·dsimp only [go_sem];refine Zl2 5 ?_;dsimp only [e99,Zld,Zkd,go_sem];refine ⟨by simp,?_⟩;exact Zz4 J2 (s:=!decide (x1.Phase=2)) h
       ·dsimp only [go_sem];refine Zl2 5 ?_;dsimp only [e99,Zld,Zkd,go_sem];refine ⟨by simp,?_⟩;exact Zz4 J2 (s:=false) h
      ·dsimp only [go_sem];refine Zl2 11 ?_;dsimp only [e99,Zld,Zkd,go_sem];refine ⟨by simp,?_⟩;exact Zz4 J2 (s:=false) h
     ·dsimp only [go_sem];refine Zl2 17 ?_;dsimp only [e99,Zld,Zkd,go_sem];refine ⟨by simp,?_⟩;exact Zz4 J2 (s:=false) h
   ·refine Zl2 1 ?_;dsimp only [e99,Zld,Zkd,go_sem];refine ⟨by simp,?_⟩;exact Zz4 J1 (s:=(x20,x22,x23)) (Zk4 h hout1)
def sideD (id q:Int) (x:Side):Bool:=decide (q<x.Peer)&&(!decide (x.Peer=id)&&(decide (0≤x.Epoch)&&(decide (x.Epoch≤65535)&&(decide (0≤x.State)&&(decide (x.State≤3)&&!(x.Dirty&&!x.Fork))))))
def Z5e (id:Int):Int→List Side→Bool
 | _,[]=>true
 | q,x::r=>sideD id q x&&Z5e id x.Peer r
def okD (d:Diner):Bool:=decide (0≤d.ID)&&(decide (0≤d.Phase)&&(decide (d.Phase≤2)&&(decide (d.Sides.length<64)&&Z5e d.ID (-1) d.Sides)))
theorem s_odd (x:Side) (d:Diner) (q:Int):Zfc x d q=some (!sideD d.ID q x):=by
 simp only [Zfc,Zec,Zdc,sideD]
 by_cases h1:q<x.Peer
 ·by_cases h2:x.Peer=d.ID
  ·have h1':q<d.ID:=h2 ▸ h1
   simp [h2,h1']
  ·by_cases h3:x.Epoch<0
   ·have:¬0≤x.Epoch:=by omega
    simp [h1,h2,h3,this]
   ·have h3':0≤x.Epoch:=by omega
    by_cases h4:65535<x.Epoch
    ·have:¬x.Epoch≤65535:=by omega
     simp [h1,h2,h3,h4,this]
    ·have h4':x.Epoch≤65535:=by omega
     by_cases h5:x.State<0
     ·have:¬0≤x.State:=by omega
      simp [h1,h2,h3,h4,h5,this]
     ·have h5':0≤x.State:=by omega
      by_cases h6:3<x.State
      ·have:¬x.State≤3:=by omega
       simp [h1,h2,h3,h4,h5,h6,this]
      ·have h6':x.State≤3:=by omega
       simp only [h1,h2,h3,h4,h5,h6,h3',h4',h5',h6',decide_true,decide_false,Zk5,Zl5,Bool.not_true,Bool.not_false,Bool.true_and]
       cases x.Dirty<;>cases x.Fork<;>rfl
 ·simp [h1]
def Z6e (id:Int):Nat→Int→List Side→Int×Int
 | _,q,[]=>(-1,q)
 | k,q,x::r=>if sideD id q x then Z6e id (k+1) x.Peer r else (k,x.Peer)
theorem scanD_ok (id:Int):∀(l:List Side) (k:Nat) (q:Int),decide (0≤(Z6e id k q l).1)=!Z5e id q l
 | [],k,q=>by simp [Z6e,Z5e]
 | x::r,k,q=>by
   by_cases h:sideD id q x=true
   ·have e1:Z6e id k q (x::r)=Z6e id (k+1) x.Peer r:=by simp [Z6e,h]
    rw [e1,scanD_ok id r (k+1) x.Peer]
    simp [Z5e,h]
   ·have h':sideD id q x=false:=by simpa using h
    have e1:Z6e id k q (x::r)=((k:Int),x.Peer):=by simp [Z6e,h']
    rw [e1]
    simp [Z5e,h']
def lastQ (q:Int) (pre:List Side):Int:=match pre.getLast? with | some x=>x.Peer | none=>q
theorem Z7e (q:Int) (pre:List Side) (x:Side):lastQ q (pre++[x])=x.Peer:=by simp [lastQ]
theorem Z8e (d:Diner):Z2d d=some (if okD d then 0 else 130):=by
 simp only [Z2d,Z1d,okD]
 by_cases h1:d.ID<0
 ·have:¬0≤d.ID:=by omega
  simp [h1,this]
 have h1':0≤d.ID:=by omega
 by_cases h2:d.Phase<0
 ·have:¬0≤d.Phase:=by omega
  simp [h1,h2,this]
 have h2':0≤d.Phase:=by omega
 by_cases h3:2<d.Phase
 ·have:¬d.Phase≤2:=by omega
  simp [h1,h2,h3,this]
 have h3':d.Phase≤2:=by omega
 by_cases h4:64≤d.Sides.length
 ·have h4':(64:Int)≤ln Side.row d.Sides:=by rw [Z65];omega
  have:¬d.Sides.length<64:=by omega
  simp [h1,h2,h3,h4',this]
 have h4':¬(64:Int)≤ln Side.row d.Sides:=by rw [Z65];omega
 have h4'':d.Sides.length<64:=by omega
 simp only [h1,h2,h3,h4',h1',h2',h3',h4'',decide_true,decide_false,Zl5,Bool.true_and]
 have key:Zpc d.Sides d (-1)=some (Z6e d.ID 0 (-1) d.Sides):=by
  unfold Zpc
  refine Z29 d.Sides _ (fun pre=>((pre.length:Int),lastQ (-1) pre)) (fun pre post=>some (Z6e d.ID pre.length (lastQ (-1) pre) post)) (fun pre x post h=>?_) ?_
  ·have hx:=Z49 h
   have hm:=Z59 h
   dsimp only [Zoc]
   rw [Zq5 hx,Zk5,Zo5 hx,Option.bind_some,s_odd,Option.bind_some,Zm5]
   cases hs:sideD d.ID (lastQ (-1) pre) x with
   | true=>
     left
     exact ⟨by rw [Zk5,Z79,Z7e,Zs5 (by omega)],by simp [Z6e,hs,Z7e]⟩
   | false=>
     right
     exact ⟨_,rfl,by simp [Z6e,hs]⟩
  ·dsimp only [Zoc]
   rw [Zr5,Zl5];rfl
 simp only [Zxc,key,Option.bind_some,scanD_ok]
 cases Z5e d.ID (-1) d.Sides<;>rfl
theorem Z9e (l:List Side) (hl:l.length≤1000000):Z4d l=some l:=by
 simp only [Z4d]
 rw [Zp5 _ _ (by omega) (by simp;omega)];rfl
theorem Zae {d:Diner} (h:okD d=true):d.Sides.length<64:=by
 simp only [okD,Bool.and_eq_true,decide_eq_true_eq] at h;exact h.2.2.2.1
def Zbe:Diner:=⟨0,0,[]⟩
def Zce (d:Diner) (a b:Int):Diner×Int:=if okD d then (if d.Phase=a then (⟨d.ID,b,d.Sides⟩,0) else (Zbe,134)) else (Zbe,130)
theorem s_turned (d:Diner) (a b:Int):Z9d d a b=some (Zce d a b):=by
 simp only [Z9d,Z8e,Option.bind_some,Z8d,Zce]
 cases h:okD d with
 | false=>simp [Z7d,Zbe]
 | true=>
   have:=Zae h
   by_cases hp:d.Phase=a
   ·simp [hp,Z7d,Z9e d.Sides (by omega)]
   ·simp [hp,Z7d,Zbe]
theorem s_dStart (d:Diner):Zcd d=some (Zce d 0 1):=by simp [Zcd,s_turned]
theorem s_dStop (d:Diner):Zbd d=some (Zce d 2 0):=by simp [Zbd,s_turned]
def Zde (ph:Int) (x:Side):Side:=if x.Fork&&(x.Dirty&&(x.Token&&!decide (ph=2))) then {x with Fork:=false,Dirty:=false} else x
def Zee (ph:Int) (x:Side):Side:=if decide (ph=1)&&((Zde ph x).Token&&!(Zde ph x).Fork) then {Zde ph x with Token:=false} else Zde ph x
def Zfe (id ph:Int) (x:Side):List Mail:=
 (if x.Fork&&(x.Dirty&&(x.Token&&!decide (ph=2))) then [⟨id,x.Peer,⟨1,x.Epoch,0⟩⟩] else []) ++
 (if decide (ph=1)&&((Zde ph x).Token&&!(Zde ph x).Fork) then [⟨id,x.Peer,⟨2,x.Epoch,0⟩⟩] else [])
def Zge (x:Side):Side:= {x with Dirty:=true}
def Zhe (d:Diner):Diner:=if decide (d.Phase=1)&&(d.Sides.map (Zee d.Phase)).all (·.Fork) then ⟨d.ID,2,(d.Sides.map (Zee d.Phase)).map Zge⟩ else ⟨d.ID,d.Phase,d.Sides.map (Zee d.Phase)⟩
def Zie (d:Diner):List Mail:=d.Sides.flatMap (Zfe d.ID d.Phase)
theorem fireM_len (id ph:Int) (x:Side):(Zfe id ph x).length≤2:=by
 unfold Zfe
 rw [List.length_append]
 have h1:∀(c:Bool) (m:Mail),(if c then [m] else []).length≤1:=by intro c m;cases c<;>simp
 have:=h1 (x.Fork&&(x.Dirty&&(x.Token&&!decide (ph=2)))) ⟨id,x.Peer,⟨1,x.Epoch,0⟩⟩
 have:=h1 (decide (ph=1)&&((Zde ph x).Token&&!(Zde ph x).Fork)) ⟨id,x.Peer,⟨2,x.Epoch,0⟩⟩
 omega
theorem Zje (l:List Side) (id ph:Int):(l.flatMap (Zfe id ph)).length≤2*l.length:=by
 induction l with
 | nil=>simp
 | cons x l ih=>have:=fireM_len id ph x;rw [List.flatMap_cons,List.length_append,List.length_cons];omega
theorem s_send (k id ph:Int) (a b:List Side) (x:Side) (E:List Mail) (hE:E.length≤1000000):Zqd k id ph (a.length:Int) (a++x::b) E=some (E++[⟨id,x.Peer,⟨k,x.Epoch,0⟩⟩]):=by
 simp only [Zqd]
 rw [at_mid rfl,Option.bind_some,Zp5 _ _ (by omega) (by simp;omega),Option.bind_some]
theorem fire_step (d:Diner) (l:List Side) (hl:l.length<64) (pre post:List Side) (x:Side) (h:l=pre++x::post) (all:Bool) (A:List Side) (hA:A.length=pre.length) (E:List Mail) (hE:E.length≤1000):
  Z3e d l (all,(pre.length:Int),A++x::post,E)=some (.inl (all&&(Zee d.Phase x).Fork,((pre.length+1:Nat):Int),A++Zee d.Phase x::post,E++Zfe d.ID d.Phase x)):=by
 have hx:=Z49 h
 have hm:=Z59 h
 have at1:∀y:Side,at_ (A++y::post) (pre.length:Int)=some y:=fun y=>by rw [←hA];exact at_mid rfl
 have st1:∀y z:Side,(A++y::post).set ((pre.length:Int)).toNat z=A++z::post:=fun y z=>by rw [←hA];exact Z69 _ _ _ _
 have sd:∀(k:Int) (y:Side) (E:List Mail),E.length≤1000000→Zqd k d.ID d.Phase (pre.length:Int) (A++y::post) E=some (E++[⟨d.ID,y.Peer,⟨k,y.Epoch,0⟩⟩]):=fun k y E hE=>by rw [←hA];exact s_send k d.ID d.Phase A post y E hE
 have fin:∀(y:Side) (E':List Mail),Zzd all (pre.length:Int) (A++y::post,E')=some (.inl (all&&y.Fork,((pre.length+1:Nat):Int),A++y::post,E')):=fun y E'=>by
  dsimp only [Zzd,Zyd]
  rw [at1,Zs5 (by omega)]
  cases all<;>rfl
 have j3:∀(y:Side) (E':List Mail),E'.length≤100000→Z1e d all (pre.length:Int) (A++y::post,E') =
   if decide (d.Phase=1)&&(y.Token&&!y.Fork) then some (.inl (all&&y.Fork,((pre.length+1:Nat):Int),A++{y with Token:=false}::post,E'++[⟨d.ID,y.Peer,⟨2,y.Epoch,0⟩⟩])) else some (.inl (all&&y.Fork,((pre.length+1:Nat):Int),A++y::post,E')):=fun y E' hE'=>by
  dsimp only [Z1e]
  by_cases h1:d.Phase=1
  ·rw [decide_eq_true h1,Zk5,at1,Option.bind_some]
   cases ht:y.Token with
   | false=>dsimp only [Z0e];rw [Zl5,Zl5,fin];simp
   | true=>
     cases hf:y.Fork with
     | true=>dsimp only [Z0e];rw [Zk5,Bool.not_true,Zl5,fin];simp [hf]
     | false=>
       dsimp only [Z0e]
       rw [Zk5,Bool.not_false,Zk5,at1,Option.bind_some,st1,sd _ _ _ (by omega),Option.bind_some,fin]
       simp [hf]
  ·rw [decide_eq_false h1,Zl5];dsimp only [Z0e];rw [Zl5,fin];simp
 dsimp only [Z3e]
 rw [Zq5 hx,Zk5,at1,Option.bind_some]
 have j2:∀z:Bool,Z2e d all (pre.length:Int) (A++x::post) E x z=if z then Z1e d all (pre.length:Int) (A++{x with Fork:=false,Dirty:=false}::post,E++[⟨d.ID,x.Peer,⟨1,x.Epoch,0⟩⟩]) else Z1e d all (pre.length:Int) (A++x::post,E):=fun z=>by
  cases z with
  | false=>dsimp only [Z2e];rw [Zl5];rfl
  | true=>
    dsimp only [Z2e]
    rw [Zk5,st1,sd _ _ _ (by omega),Option.bind_some];rfl
 have e:ifb x.Fork (ifb x.Dirty (ifb x.Token (Z2e d all (pre.length:Int) (A++x::post) E x (!decide (d.Phase=2))) (Z2e d all (pre.length:Int) (A++x::post) E x false)) (Z2e d all (pre.length:Int) (A++x::post) E x false)) (Z2e d all (pre.length:Int) (A++x::post) E x false)
   =Z2e d all (pre.length:Int) (A++x::post) E x (x.Fork&&(x.Dirty&&(x.Token&&!decide (d.Phase=2)))):=by
  cases x.Fork<;>cases x.Dirty<;>cases x.Token<;>rfl
 rw [e,j2]
 cases hz:(x.Fork&&(x.Dirty&&(x.Token&&!decide (d.Phase=2)))) with
 | false=>
   rw [if_neg (by simp),j3 _ _ (by omega)]
   have f1:Zde d.Phase x=x:=by simp only [Zde,hz];rfl
   unfold Zee Zfe
   rw [f1,hz]
   cases hq:(decide (d.Phase=1)&&(x.Token&&!x.Fork))<;>simp
 | true=>
   rw [if_pos rfl,j3 _ _ (by simp;omega)]
   have f1:Zde d.Phase x={x with Fork:=false,Dirty:=false}:=by simp only [Zde,hz];rfl
   unfold Zee Zfe
   rw [f1,hz]
   cases hq:(decide (d.Phase=1)&&(x.Token&&!false))<;>simp_all
theorem s_Fire (d:Diner):Z4e d=some (if okD d then (Zhe d,Zie d,0) else (Zbe,[],130)):=by
 simp only [Z4e,Z8e,Option.bind_some]
 cases h:okD d with
 | false=>rfl
 | true=>
   have hl:=Zae h
   simp only [if_true,decide_true,Bool.not_true,Zl5,Z9e d.Sides (by omega),Option.bind_some]
   have key:=Z29 d.Sides (Z3e d d.Sides) (fun pre=>((pre.map (Zee d.Phase)).all (·.Fork),(pre.length:Int),pre.map (Zee d.Phase)++d.Sides.drop pre.length,pre.flatMap (Zfe d.ID d.Phase))) (fun _ _=>some (Zhe d,Zie d,0)) (fun pre x post hp=>?_) ?_
   ·simpa using key
   ·left
    have hd:d.Sides.drop pre.length=x::post:=by rw [hp];simp
    have hd':d.Sides.drop (pre++[x]).length=post:=by rw [hp];simp
    have hm:=Z59 hp
    have hE:=Zje pre d.ID d.Phase
    refine ⟨?_,rfl⟩
    rw [hd,hd',fire_step d d.Sides hl pre post x hp _ _ (by simp) _ (by omega),Z79]
    simp
   ·have hE:=Zje d.Sides d.ID d.Phase
    dsimp only [Z3e]
    rw [Zr5,Zl5]
    simp only [List.drop_length,List.append_nil]
    dsimp only [Zxd]
    by_cases h1:d.Phase=1
    ·rw [decide_eq_true h1,Zk5]
     dsimp only [Zwd]
     cases hall:(d.Sides.map (Zee d.Phase)).all (·.Fork) with
     | false=>
       rw [Zl5]
       unfold Zhe
       rw [hall,Bool.and_false]
       rfl
     | true=>
       rw [Zk5]
       generalize hS:d.Sides.map (Zee d.Phase)=S at hall
       have hSl:S.length<64:=by rw [←hS];simpa using hl
       have k2:=Z39 S (Zvd d S (d.Sides.flatMap (Zfe d.ID d.Phase))) (fun pre=>((pre.length:Int),pre.map Zge++S.drop pre.length)) (⟨d.ID,2,S.map Zge⟩,d.Sides.flatMap (Zfe d.ID d.Phase),0) (fun pre x post hp=>?_) ?_
       ·have k3:loop (Zvd d S (d.Sides.flatMap (Zfe d.ID d.Phase))) (0,S)=some (⟨d.ID,2,S.map Zge⟩,d.Sides.flatMap (Zfe d.ID d.Phase),0):=by simpa using k2
        rw [k3]
        unfold Zhe
        rw [hS,hall,decide_eq_true h1]
        rfl
       ·have hx:=Z49 hp
        have hm:=Z59 hp
        have hd:S.drop pre.length=x::post:=by rw [hp];simp
        have hd':S.drop (pre++[x]).length=post:=by rw [hp];simp
        dsimp only [Zvd]
        have e1:((pre.length:Nat):Int)=(((pre.map Zge).length:Nat):Int):=by simp
        rw [Zq5 hx,Zk5,hd,hd',e1,at_mid rfl,Option.bind_some,Z69,←e1,Z79,Zs5 (by omega)]
        simp [Zge]
       ·dsimp only [Zvd]
        rw [Zr5,Zl5]
        simp [Zud]
    ·rw [decide_eq_false h1,Zl5]
     dsimp only [Zwd]
     rw [Zl5]
     unfold Zhe
     rw [decide_eq_false h1,Bool.false_and]
     rfl
def getD' (d:Diner) (peer:Int) (m:Msg):Diner×Int:=
 if okD d then match d.Sides.findIdx? (fun x=>decide (x.Peer=peer)&&decide (x.Epoch=m.Epoch)) with
  | none=>(Zbe,131)
  | some i=>match d.Sides[i]? with
    | none=>(Zbe,131)
    | some x=>
      if decide (m.Kind=1)&&decide (m.Num=0) then (if x.Fork then (Zbe,132) else (⟨d.ID,d.Phase,d.Sides.set i {x with Fork:=true}⟩,0))
      else if decide (m.Kind=2)&&decide (m.Num=0) then (if x.Token then (Zbe,132) else (⟨d.ID,d.Phase,d.Sides.set i {x with Token:=true}⟩,0))
      else (Zbe,133)
 else (Zbe,130)
theorem s_Get (d:Diner) (peer:Int) (m:Msg):Zid d peer m=some (getD' d peer m):=by
 simp only [Zid,Z8e,Option.bind_some,getD']
 cases h:okD d with
 | false=>rfl
 | true=>
   have hl:=Zae h
   simp only [if_true,decide_true,Bool.not_true,Zl5]
   rw [Zk7 d.Sides (fun z=>Zed z peer m) (fun x=>decide (x.Peer=peer)&&decide (x.Epoch=m.Epoch)) (by omega) (fun x _=>by
    simp only [Zed,Zdd]
    cases decide (x.Peer=peer)<;>rfl),Option.bind_some,plc_neg]
   have hfi:=Zf9 (fun x:Side=>decide (x.Peer=peer)&&decide (x.Epoch=m.Epoch)) d.Sides
   cases hf:d.Sides.findIdx? (fun x=>decide (x.Peer=peer)&&decide (x.Epoch=m.Epoch)) with
   | none=>rfl
   | some i=>
     rw [hf] at hfi
     obtain ⟨x,hx,_⟩:=hfi
     simp only [Option.isNone_some,Zl5,Z9e d.Sides (by omega),Option.bind_some,plc,Zo5 hx,hx,Int.toNat_natCast,Zhd,Zfd,Zgd]
     by_cases k1:m.Kind=1
     ·by_cases k2:m.Num=0
      ·cases x.Fork<;>simp [k1,k2,Zbe]
      ·have:¬(1:Int)=2:=by omega
       simp [k1,k2,Zbe]
     ·by_cases k3:m.Kind=2
      ·by_cases k2:m.Num=0
       ·cases x.Token<;>simp [k3,k2,Zbe]
       ·simp [k3,k2,Zbe]
      ·simp [k1,k3,Zbe]
def key (d:Diner):Int×List Int:=(d.ID,d.Sides.map (·.Peer))
def sideK (K:List (Int×List Int)) (i:Nat) (p:Int):Bool:=decide (0≤p)&&(decide (p<K.length)&&(!decide (p=i)&&(match K[p.toNat]? with | some e=>decide ((i:Int)∈e.2) | none=>false)))
def okFromK (K:List (Int×List Int)) (i:Nat):Option Int→List Int→Bool
 | _,[]=>true
 | p,x::r=>(match p with | none=>true | some q=>decide (q<x))&&(sideK K i x&&okFromK K i (some x) r)
def okAllK (K:List (Int×List Int)):Nat→List (Int×List Int)→Bool
 | _,[]=>true
 | i,d::r=>decide (d.1=i)&&(okFromK K i none d.2&&okAllK K (i+1) r)
def edgesK:Nat→List (Int×List Int)→List Edge
 | _,[]=>[]
 | i,d::r=>((d.2.filter fun x=>decide ((i:Int)<x)).map fun x=>⟨i,x⟩)++edgesK (i+1) r
theorem Zke (d:Diner) (i:Int):(Ze9 d i).isSome=decide (i∈d.Sides.map (·.Peer)):=by
 unfold Ze9
 rw [Bool.eq_iff_iff,List.find?_isSome,decide_eq_true_iff,List.mem_map]
 simp
theorem sideB_key (l:List Diner) (i:Nat) (x:Side):Zq9 l i x=sideK (l.map key) i x.Peer:=by
 unfold Zq9 sideK
 rw [List.length_map,List.getElem?_map]
 cases l[x.Peer.toNat]? with
 | none=>rfl
 | some e=>simp only [Option.map_some,key,Zke]
theorem Zle (l:List Diner) (i:Nat):∀(xs:List Side) (p:Option Int),Zr9 l i p xs=okFromK (l.map key) i p (xs.map (·.Peer))
 | [],_=>rfl
 | x::r,p=>by
   simp only [Zr9,List.map_cons,okFromK,Zle l i r,sideB_key]
   cases p<;>rfl
theorem Zme (l:List Diner):∀(r:List Diner) (i:Nat),Zt9 l i r=okAllK (l.map key) i (r.map key)
 | [],_=>rfl
 | d::r,i=>by
   simp only [Zt9,List.map_cons,okAllK,Zme l r,Zle]
   rfl
theorem Zne:∀(r:List Diner) (i:Nat),Zu9 i r=edgesK i (r.map key)
 | [],_=>rfl
 | d::r,i=>by
   simp only [Zu9,List.map_cons,edgesK,Zne r,Zs9,key,List.filter_map,List.map_map]
   rfl
theorem graphP_key {l m:List Diner} (h:l.map key=m.map key):Zw9 l=Zw9 m:=by
 have hl:l.length=m.length:=by have:=congrArg List.length h;simpa using this
 unfold Zw9
 rw [Zme,Zme,Zne,Zne,h,hl]
theorem pw_len:∀(l:List Int) (q n:Int),l.Pairwise (· < ·)→(∀x∈l,q≤x∧x<n)→l=[]∨(l.length:Int)≤n-q
 | [],_,_,_,_=>.inl rfl
 | x::l,q,n,h,hb=>by
   rw [List.pairwise_cons] at h
   have h1:=hb x (by simp)
   right
   rcases pw_len l (x+1) n h.2 (fun y hy=>⟨by have:=h.1 y hy;omega,(hb y (by simp [hy])).2⟩) with rfl | h2
   ·simp only [List.length_cons,List.length_nil];omega
   ·simp only [List.length_cons];omega
theorem near_few {g:Graph} (hg:okG g=true) (a:Int):((Zwb g a).length:Int)≤g.N:=by
 rcases pw_len (Zwb g a) 0 g.N (Zxb hg a) (fun x hx=>by have:=Z0c hg hx;omega) with h | h
 ·rw [h];exact (Zp7 hg).1
 ·omega
def has (x:Side) (k:Int):Bool:=if k=1 then x.Fork else x.Token
def bn (b:Bool):Nat:=if b then 1 else 0
def hasD (d:Diner) (k b:Int):Nat:=match Ze9 d b with | some x=>bn (has x k) | none=>0
def cnt (M:List Mail) (k a b:Int):Nat:=M.count ⟨a,b,⟨k,1,0⟩⟩
structure LocD (d:Diner):Prop where
 lo:0≤d.Phase
 hi:d.Phase≤2
 side:∀x∈d.Sides,x.Epoch=1∧x.State=0∧(x.Dirty=true→x.Fork=true)
 eat:d.Phase=2→∀x∈d.Sides,x.Fork=true∧x.Dirty=true
def mailG (g:Graph) (m:Mail):Prop:=(m.Msg.Kind=1∨m.Msg.Kind=2)∧m.Msg.Epoch=1∧m.Msg.Num=0∧m.To∈Zwb g m.From
structure Inv (g:Graph) (s:Scene):Prop where
 len:(s.Diners.length:Int)=g.N
 shp:∀(a:Nat) d,s.Diners[a]?=some d→d.ID=a∧d.Sides.map (·.Peer)=Zwb g a
 loc:∀d∈s.Diners,LocD d
 mail:∀m∈s.Mail,mailG g m
 one:∀(a b:Nat) da db,s.Diners[a]?=some da→s.Diners[b]?=some db→(b:Int)∈Zwb g a→∀k,(k=1∨k=2)→hasD da k b+hasD db k a+cnt s.Mail k a b+cnt s.Mail k b a=1
theorem Inv.set {g:Graph} {s:Scene} (hg:okG g=true) (h:Inv g s) {a:Nat} {d d':Diner} (hd:s.Diners[a]?=some d) (hid:d'.ID=d.ID) (hp:d'.Sides.map (·.Peer)=d.Sides.map (·.Peer)) (hl:LocD d')
  {M:List Mail} (hm:∀m∈M,mailG g m) (ho:∀k p q:Int,p≠a→q≠a→cnt M k p q=cnt s.Mail k p q)
  (hc:∀b∈Zwb g a,∀k,(k=1∨k=2)→hasD d' k b+cnt M k a b+cnt M k b a=hasD d k b+cnt s.Mail k a b+cnt s.Mail k b a):Inv g ⟨s.Diners.set a d',M⟩:=by
 have hlt:=(List.getElem?_eq_some_iff.1 hd).1
 have get:∀(k:Nat) e,(s.Diners.set a d')[k]?=some e→(k=a∧e=d')∨(k≠a∧s.Diners[k]?=some e):=fun k e he=>by
  rw [List.getElem?_set] at he
  split at he
  ·rename_i hk
   simp at he
   exact .inl ⟨hk.symm,he.symm⟩
  ·rename_i hk
   exact .inr ⟨fun e=>hk e.symm,he⟩
 refine ⟨by simpa using h.len,fun k e he=>?_,fun e he=>?_,hm,fun x y dx dy hx hy hxy k hk=>?_⟩
 ·rcases get k e he with ⟨rfl,rfl⟩ | ⟨_,he⟩
  ·rw [hid,hp];exact h.shp k d hd
  ·exact h.shp k e he
 ·obtain ⟨k,hk⟩:=List.mem_iff_getElem?.1 he
  rcases get k e hk with ⟨_,rfl⟩ | ⟨_,he⟩
  ·exact hl
  ·exact h.loc e (List.mem_iff_getElem?.2 ⟨_,he⟩)
 ·dsimp only at hx hy ⊢
  have hne:=(Z0c hg hxy).2.2.1
  have hyx:=Z9c hg hxy
  rcases get x dx hx with ⟨rfl,rfl⟩ | ⟨x1,hx'⟩<;>rcases get y dy hy with ⟨rfl,rfl⟩ | ⟨y1,hy'⟩
  ·exact absurd rfl hne
  ·have:=hc y hxy k hk
   have:=h.one x y d dy hd hy' hxy k hk
   omega
  ·have:=hc x hyx k hk
   have:=h.one x y dx d hx' hd hxy k hk
   omega
  ·rw [ho k x y (by omega) (by omega),ho k y x (by omega) (by omega)]
   exact h.one x y dx dy hx' hy' hxy k hk
theorem fire2_peer (ph:Int) (x:Side):(Zee ph x).Peer=x.Peer∧(Zee ph x).Epoch=x.Epoch∧(Zee ph x).State=x.State:=by
 unfold Zee Zde
 split<;>split<;>exact ⟨rfl,rfl,rfl⟩
theorem fire2_dirty (ph:Int) (x:Side) (h:x.Dirty=true→x.Fork=true):(Zee ph x).Dirty=true→(Zee ph x).Fork=true:=by
 unfold Zee Zde
 split<;>split<;>simp_all
theorem fire2_eats (x:Side):Zee 2 x=x:=by
 unfold Zee Zde
 simp
theorem fire_side (id ph k:Int) (x:Side) (hk:k=1∨k=2) (he:x.Epoch=1):bn (has (Zee ph x) k)+(Zfe id ph x).count ⟨id,x.Peer,⟨k,1,0⟩⟩=bn (has x k):=by
 obtain ⟨p,e,st,f,d,t,bo,ask⟩:=x
 dsimp only at he
 subst he
 unfold Zfe Zee Zde has bn
 generalize h1:decide (ph=1)=q1
 generalize h2:decide (ph=2)=q2
 rcases hk with rfl | rfl<;>cases f<;>cases d<;>cases t<;>cases q1<;>cases q2<;>simp
theorem Zoe {id ph:Int} {x:Side} {m:Mail} (h:m∈Zfe id ph x):m.From=id∧m.To=x.Peer∧(m.Msg.Kind=1∨m.Msg.Kind=2)∧m.Msg.Epoch=x.Epoch∧m.Msg.Num=0:=by
 unfold Zfe at h
 rw [List.mem_append] at h
 rcases h with h | h
 ·split at h
  ·simp at h;subst h;exact ⟨rfl,rfl,.inl rfl,rfl,rfl⟩
  ·simp at h
 ·split at h
  ·simp at h;subst h;exact ⟨rfl,rfl,.inr rfl,rfl,rfl⟩
  ·simp at h
theorem Zpe {M:List Mail} {m:Mail} (h:m∉M):M.count m=0:=List.count_eq_zero.2 h
theorem Zqe (id ph k b:Int):∀(l:List Side),l.Pairwise (fun x y=>x.Peer<y.Peer)→(l.flatMap (Zfe id ph)).count ⟨id,b,⟨k,1,0⟩⟩=match l.find? (fun x=>decide (x.Peer=b)) with | some x=>(Zfe id ph x).count ⟨id,x.Peer,⟨k,1,0⟩⟩ | none=>0
 | [],_=>rfl
 | x::l,h=>by
   rw [List.pairwise_cons] at h
   rw [List.flatMap_cons,List.count_append,Zqe id ph k b l h.2,List.find?_cons]
   by_cases hx:x.Peer=b
   ·have:l.find? (fun x=>decide (x.Peer=b))=none:=by
     rw [List.find?_eq_none]
     intro y hy
     have:=h.1 y hy
     simp;omega
    rw [this,decide_eq_true hx,←hx];simp
   ·rw [decide_eq_false hx,Zpe (fun hm=>hx (Zoe hm).2.1.symm)];simp
theorem Zre {d:Diner} {k p q:Int} (hp:p≠d.ID):(Zie d).count ⟨p,q,⟨k,1,0⟩⟩=0:=by
 refine Zpe fun h=>?_
 obtain ⟨x,_,hx⟩:=List.mem_flatMap.1 h
 exact hp (Zoe hx).1
def Zse (d:Diner) (x:Side):Side:=if decide (d.Phase=1)&&(d.Sides.map (Zee d.Phase)).all (·.Fork) then Zge (Zee d.Phase x) else Zee d.Phase x
theorem Zte (d:Diner):(Zhe d).Sides=d.Sides.map (Zse d):=by
 unfold Zhe Zse
 split
 ·simp only [List.map_map];rfl
 ·rfl
theorem fireD_id (d:Diner):(Zhe d).ID=d.ID:=by unfold Zhe;split<;>rfl
theorem Zue (d:Diner) (x:Side):(Zse d x).Peer=x.Peer∧(Zse d x).Epoch=x.Epoch∧(Zse d x).State=x.State∧∀k,has (Zse d x) k=has (Zee d.Phase x) k:=by
 obtain ⟨h1,h2,h3⟩:=fire2_peer d.Phase x
 unfold Zse
 split
 ·exact ⟨h1,h2,h3,fun k=>rfl⟩
 ·exact ⟨h1,h2,h3,fun k=>rfl⟩
theorem sideO_map (d:Diner) (f:Side→Side) (hf:∀x,(f x).Peer=x.Peer) (i p b:Int):Ze9 ⟨i,p,d.Sides.map f⟩ b=(Ze9 d b).map f:=by
 unfold Ze9
 dsimp only
 rw [List.find?_map]
 congr 2
 funext x
 simp only [Function.comp,hf]
theorem sideO_fire (d:Diner) (b:Int):Ze9 (Zhe d) b=(Ze9 d b).map (Zse d):=by
 have:=sideO_map d (Zse d) (fun x=>(Zue d x).1) (Zhe d).ID (Zhe d).Phase b
 rw [←Zte] at this
 exact this
theorem Zve {d:Diner} {b:Int} {x:Side} (h:Ze9 d b=some x):x∈d.Sides∧x.Peer=b:=by
 unfold Ze9 at h
 exact ⟨List.mem_of_find?_eq_some h,by simpa using List.find?_some h⟩
theorem LocD.fire {d:Diner} (h:LocD d):LocD (Zhe d):=by
 have hs:∀y∈(Zhe d).Sides,∃x∈d.Sides,y=Zse d x:=fun y hy=>by
  rw [Zte] at hy
  obtain ⟨x,hx,rfl⟩:=List.mem_map.1 hy
  exact ⟨x,hx,rfl⟩
 have hph:(Zhe d).Phase=2→(decide (d.Phase=1)&&(d.Sides.map (Zee d.Phase)).all (·.Fork))=true∨d.Phase=2:=fun h2=>by
  unfold Zhe at h2
  split at h2
  ·rename_i h1;exact .inl h1
  ·exact .inr h2
 have allF:(decide (d.Phase=1)&&(d.Sides.map (Zee d.Phase)).all (·.Fork))=true→∀x∈d.Sides,(Zee d.Phase x).Fork=true:=fun h1 x hx=>by
  rw [Bool.and_eq_true,List.all_eq_true] at h1
  exact h1.2 _ (List.mem_map_of_mem hx)
 refine ⟨?_,?_,fun y hy=>?_,fun h2 y hy=>?_⟩
 ·unfold Zhe;split
  ·show (0:Int)≤2;omega
  ·exact h.lo
 ·unfold Zhe;split
  ·exact Int.le_refl _
  ·exact h.hi
 ·obtain ⟨x,hx,rfl⟩:=hs y hy
  obtain ⟨s1,s2,s3⟩:=h.side x hx
  obtain ⟨p1,p2,p3,_⟩:=Zue d x
  refine ⟨by rw [p2,s1],by rw [p3,s2],?_⟩
  unfold Zse
  split
  ·rename_i h1;exact fun _=>allF h1 x hx
  ·exact fire2_dirty _ _ s3
 ·obtain ⟨x,hx,rfl⟩:=hs y hy
  rcases hph h2 with h1 | h1
  ·unfold Zse
   rw [if_pos h1]
   exact ⟨allF h1 x hx,rfl⟩
  ·unfold Zse
   rw [h1,show (decide ((2:Int)=1)&&(d.Sides.map (Zee 2)).all (·.Fork))=false from rfl,if_neg (by simp),fire2_eats]
   exact h.eat h1 x hx
theorem Inv.pw {g:Graph} {s:Scene} (hg:okG g=true) (h:Inv g s) {a:Nat} {d:Diner} (hd:s.Diners[a]?=some d):d.Sides.Pairwise fun x y=>x.Peer<y.Peer:=by
 have:=Zxb hg a
 rw [←(h.shp a d hd).2,List.pairwise_map] at this
 exact this
theorem Inv.fire {g:Graph} {s:Scene} (hg:okG g=true) (h:Inv g s) {a:Nat} {d:Diner} (hd:s.Diners[a]?=some d):Inv g ⟨s.Diners.set a (Zhe d),s.Mail++Zie d⟩:=by
 obtain ⟨hid,hsh⟩:=h.shp a d hd
 have hdm:=List.mem_iff_getElem?.2 ⟨_,hd⟩
 have hloc:=h.loc d hdm
 refine h.set hg hd (fireD_id d) ?_ hloc.fire (fun m hm=>?_) (fun k p q hp hq=>?_) (fun b hb k hk=>?_)
 ·rw [Zte,List.map_map]
  refine List.map_congr_left fun x _=>(Zue d x).1
 ·rcases List.mem_append.1 hm with hm | hm
  ·exact h.mail m hm
  ·obtain ⟨x,hx,hxm⟩:=List.mem_flatMap.1 hm
   obtain ⟨m1,m2,m3,m4,m5⟩:=Zoe hxm
   refine ⟨m3,by rw [m4];exact (hloc.side x hx).1,m5,?_⟩
   rw [m1,m2,hid,←hsh]
   exact List.mem_map_of_mem hx
 ·unfold cnt
  rw [List.count_append,Zre (by rw [hid];exact hp)]
  rfl
 ·have hne:=(Z0c hg hb).2.2.1
  unfold cnt
  rw [List.count_append,List.count_append,Zre (p:=b) (by rw [hid];exact hne)]
  have e:=Zqe d.ID d.Phase k b d.Sides (h.pw hg hd)
  rw [hid] at e
  unfold Zie
  rw [hid,e]
  unfold hasD
  rw [sideO_fire]
  unfold Ze9
  cases hf:d.Sides.find? (fun x=>decide (x.Peer=b)) with
  | none=>simp
  | some x=>
    have hx:=List.mem_of_find?_eq_some hf
    have:=fire_side (a:Int) d.Phase k x hk (hloc.side x hx).1
    have h3:=(Zue d x).2.2.2 k
    simp only [Option.map_some,h3]
    omega
set_option maxRecDepth 100000
set_option maxHeartbeats 4000000
def e41:EC:=.seq (.reg [(Qa 2 (.box 78 5 (.t 0))),(Qa 3 (.mv (.c .ff)))]) (.seq (.reg [(Qa 4 (.fld 0 (.t 2))),(Qa 5 (.load (.t 4))),(Qa 6 (.fld 1 (.t 2))),(Qa 7 (.load (.t 6))),(Qa 8 (.mm false [(.t 5),(.t 7)])),(Qa 9 (.bin .lss (.t 8) (.c (.iv 0)))),(Qa 10 (.mv (.t 9))),(Qg 11 10 false (.fld 0 (.t 2))),(Qg 12 10 false (.load (.t 11))),(Qg 13 10 false (.fld 1 (.t 2))),(Qg 14 10 false (.load (.t 13))),(Qg 15 10 false (.mm true [(.t 12),(.t 14)])),(Qg 16 10 false (.fld 0 (.t 1))),(Qg 17 10 false (.load (.t 16))),(Qg 18 10 false (.len (.t 17))),(Qg 19 10 false (.bin .geq (.t 15) (.t 18))),(Qa 20 (.pick (.t 10) (.c .tt) (.t 19))),(Qa 21 (.mv (.t 20))),(Qg 22 21 false (.fld 0 (.t 2))),(Qg 23 21 false (.load (.t 22))),(Qg 24 21 false (.fld 1 (.t 2))),(Qg 25 21 false (.load (.t 24))),(Qg 26 21 false (.bin .eql (.t 23) (.t 25))),(Qa 27 (.pick (.t 21) (.c .tt) (.t 26))),(Qa 3 (.mv (.t 27)))]) (.ret))
theorem ok41:FnOK Tryz.prog 41 Tryz.f41 e41 [.t 3] 2 26:=⟨by kernel_rfl,⟨_,rfl,by kernel_rfl⟩,by kernel_rfl,by kernel_rfl⟩
noncomputable def Zwe:Bool→Option Bool
| x3=>
 some x3
noncomputable def Zxe (x1:Mail) (x2:Scene):Option Bool:=
 ifb (decide (((min x1.From x1.To))<0)) (
 Zwe true) (
 ifb (decide ((ln Diner.row x2.Diners)≤((max x1.From x1.To)))) (
 Zwe true) (
 Zwe (decide (x1.From=x1.To))))
theorem Zye (x1:Mail) (x2:Scene) (r:Bool) (h:Zxe x1 x2=some r):Zq2 Tryz.prog 41 [.agg (Mail.row x1),.elt (Scene.row x2) 0] (.bv r):=by
 refine Zu2 ok41 rfl rfl fun w0 H0=>?_
 rw [Zxe] at h
 refine Zl2 14 ?_;dsimp only [e41,go_sem];refine ⟨by simp,?_⟩;refine Zl4 (fun (x3:Bool)=>(⟨(an 3 (.bv x3::an 24 [])),[],[]⟩:St)) Zwe r ?_ fun J1=>?_
 ·intro x3 h;rw [Zwe] at h;(try dsimp only);exact Zx4 (res:=fun (r:Bool)=>.bv r) ok41 h
 ·refine Zw4 10 h rfl (fun _ h=>?_) fun _ h=>?_
  ·dsimp only [go_sem];refine Zl2 19 ?_;dsimp only [e41,go_sem];refine ⟨by simp,?_⟩;exact Zz4 J1 (s:=true) h
  ·dsimp only [go_sem];refine Zl2 11 ?_;dsimp only [e41,go_sem];refine ⟨by simp,?_⟩;refine Zw4 21 h rfl (fun _ h=>?_) fun _ h=>?_
   ·dsimp only [go_sem];refine Zl2 8 ?_;dsimp only [e41,go_sem];refine ⟨by simp,?_⟩;exact Zz4 J1 (s:=true) h
   ·dsimp only [go_sem];refine Zl2 8 ?_;dsimp only [e41,go_sem];refine ⟨by simp,?_⟩;exact Zz4 J1 (s:=decide (x1.From=x1.To)) h
set_option maxRecDepth 100000
set_option maxHeartbeats 4000000
def e42:EC:=.seq (.reg [(Qa 1 (.box 70 3 (.t 0))),(Qa 2 (.mv (.c .ff)))]) (.seq (.reg [(Qa 3 (.loadA 3 (.t 1))),(Qa 4 (.call 43 [(.t 3)])),(Qa 5 (.bin .neq (.t 4) (.c (.iv 0)))),(Qa 2 (.mv (.t 5)))]) (.ret))
theorem ok42:FnOK Tryz.prog 42 Tryz.f42 e42 [.t 2] 1 5:=⟨by kernel_rfl,⟨_,rfl,by kernel_rfl⟩,by kernel_rfl,by kernel_rfl⟩
noncomputable def Zze (x1:Diner):Option Bool:=
 (Z2d x1).bind fun x2=>
 some (!decide (x2=0))
theorem Z0f (x1:Diner) (r:Bool) (h:Zze x1=some r):Zq2 Tryz.prog 42 [.agg (Diner.row x1)] (.bv r):=by
 refine Zu2 ok42 rfl rfl fun w0 H0=>?_
 rw [Zze] at h
 refine Zl2 8 ?_;dsimp only [e42,go_sem];refine ⟨by simp,?_⟩;obtain ⟨x2,ex2,h⟩:=Option.bind_eq_some_iff.1 h;refine Zz2 trivial (Z3d x1 _ ex2) (h:=?_);refine Zl2 3 ?_;dsimp only [e42,go_sem];refine ⟨by simp,?_⟩;exact Zx4 (res:=fun (r:Bool)=>.bv r) ok42 h
set_option maxRecDepth 100000
set_option maxHeartbeats 4000000
def Z1f:EC:=.seq (.reg [(Qa 9 (.bin .lss (.t 8) (.t 7)))]) (.seq (.ite (.t 9) (.skip) (.exit 0)) (.seq (.blk 1 (.seq (.reg [(Qa 10 (.mv (.t 8))),(Qa 5 (.mv (.t 10)))]) (.seq (.reg [(Qa 11 (.mv (.t 1))),(Qa 12 (.mv (.t 0))),(Qa 13 (.mv (.t 5))),(Qa 14 (.idx 3 (.t 12) (.t 13))),(Qa 15 (.loadA 3 (.t 14))),(Qa 16 (.callv (.t 11) [(.t 15)]))]) (.ite (.t 16) (.seq (.reg [(Qa 17 (.mv (.t 5))),(Qa 4 (.mv (.t 17)))]) (.ret)) (.skip))))) (.reg [(Qa 18 (.bin .add (.t 8) (.c (.iv 1)))),(Qa 8 (.mv (.t 18)))])))
def e81:EC:=.seq (.reg [(Qa 4 (.mv (.c (.iv 0))))]) (.seq (.seq (.reg [(Qa 6 (.mv (.t 0))),(Qa 7 (.len (.t 6))),(Qa 8 (.mv (.c (.iv 0))))]) (.blk 0 (.loop Z1f))) (.seq (.reg [(Qa 4 (.mv (.c (.iv (-1)))))]) (.ret)))
theorem ok81:FnOK Tryz.prog 81 Tryz.f81 e81 [.t 4] 2 17:=⟨by kernel_rfl,⟨_,rfl,by kernel_rfl⟩,by kernel_rfl,by kernel_rfl⟩
noncomputable def Z2f:Unit→Option Int
| ()=>
 some (-1)
noncomputable def Z3f (x1:(List Diner)) (p1:(Diner→Option Bool)):Int→Option (Int ⊕ Int)
| x5=>
 ifb (decide (x5<(ln Diner.row x1))) (
 (at_ x1 x5).bind fun x6=>
 (p1 x6).bind fun x7=>
 ifb x7 (
 Option.map Sum.inr (some x5)) (
 some (.inl (wr (x5+1))))) (
 Option.map Sum.inr (Z2f ()))
noncomputable def Z4f (x1:(List Diner)) (p1:(Diner→Option Bool)):Option Int:=
 loop (Z3f x1 p1) 0
theorem Z5f (x1:(List Diner)) (g1:Nat) (caps1:List AV) (p1:(Diner→Option Bool)) (hc1:CloOK Tryz.prog g1 caps1 (fun z=>[.agg (Diner.row z)]) p1 (fun z=>.bv z)) (r:Int) (h:Z4f x1 p1=some r):Zq2 Tryz.prog 81 [.sl 3 (List.map Diner.row x1),.clo g1 caps1] (.iv r):=by
 refine Zu2 ok81 rfl rfl fun w0 H0=>?_
 rw [Z4f] at h
 refine Zl2 11 ?_;dsimp only [e81,Z1f,go_sem];refine ⟨by simp,?_⟩;refine Zl4 (fun (_:Unit)=>(⟨(an 19 []),[],[]⟩:St)) Z2f r ?_ fun J1=>?_
 ·rintro ⟨⟩ h;rw [Z2f] at h;(try dsimp only);refine Zl2 4 ?_;dsimp only [e81,Z1f,go_sem];refine ⟨by simp,?_⟩;exact Zx4 (res:=fun (r:Int)=>.iv r) ok81 h
 ·refine Zl2 1 ?_;dsimp only [e81,Z1f,go_sem];refine ⟨by simp,?_⟩;refine Zm4 h (fun (x5:Int)=>(⟨(.sl 3 (List.map Diner.row x1) :: .clo g1 caps1::an 5 (.iv (ln Diner.row x1) :: .iv x5::an 10 [])),[],[]⟩:St)) (by simp [go_sem]) (by intro x5;first | rfl | simp [go_sem,Z84 _ hc1.pu]) ?_;rintro n1 x5 y1 h hin1 hout1;rw [Z3f] at h;(try dsimp only);refine Zl2 5 ?_;dsimp only [e81,Z1f,go_sem];refine ⟨by simp,?_⟩;refine Zn4 h rfl (fun _ h=>?_) fun _ h=>?_
  ·refine Zl2 13 ?_;dsimp only [e81,Z1f,go_sem];refine ⟨by simp,?_⟩;obtain ⟨x6,ex6,h⟩:=Option.bind_eq_some_iff.1 h;refine Zq4 Diner.row ex6 trivial rfl rfl rfl ?_;refine Zl2 1 ?_;dsimp only [e81,Z1f,go_sem];refine ⟨by simp,?_⟩;obtain ⟨x7,ex7,h⟩:=Option.bind_eq_some_iff.1 h;refine Z35 trivial rfl hc1 (x:=x6) ex7 (by first | exact Z94 _ | simp [go_sem]) (by first | rfl | simp [go_sem,hc1.pu]) ?_;refine Zl2 1 ?_;dsimp only [e81,Z1f,go_sem];refine ⟨by simp,?_⟩;refine Zn4 h rfl (fun _ h=>?_) fun _ h=>?_
   ·refine Zl2 5 ?_;dsimp only [e81,Z1f,go_sem];refine ⟨by simp,?_⟩;exact Zx4 (res:=fun (r:Int)=>.iv r) ok81 (Zk4 h hout1)
   ·refine Zl2 6 ?_;dsimp only [e81,Z1f,go_sem];refine ⟨by simp,?_⟩;exact Zy4 h hin1 (hok:=by first | rfl | simp [go_sem,Z84 _ hc1.pu])
  ·refine Zl2 1 ?_;dsimp only [e81,Z1f,go_sem];refine ⟨by simp,?_⟩;exact Zz4 J1 (s:=()) (Zk4 h hout1) (hok:=by first | rfl | simp [go_sem,Z84 _ hc1.pu])
set_option maxRecDepth 100000
set_option maxHeartbeats 4000000
def e45:EC:=.seq (.reg [(Qa 4 (.mv (.c .ff)))]) (.seq (.reg [(Qa 5 (.mv (.t 0))),(Qa 6 (.mv (.t 1))),(Qa 7 (.call 81 [(.t 5),(.t 6)])),(Qa 8 (.bin .geq (.t 7) (.c (.iv 0)))),(Qa 4 (.mv (.t 8)))]) (.ret))
theorem ok45:FnOK Tryz.prog 45 Tryz.f45 e45 [.t 4] 2 7:=⟨by kernel_rfl,⟨_,rfl,by kernel_rfl⟩,by kernel_rfl,by kernel_rfl⟩
noncomputable def Z6f (x1:(List Diner)) (p1:(Diner→Option Bool)):Option Bool:=
 (Z4f x1 p1).bind fun x2=>
 some (decide (0≤x2))
theorem Z7f (x1:(List Diner)) (g1:Nat) (caps1:List AV) (p1:(Diner→Option Bool)) (hc1:CloOK Tryz.prog g1 caps1 (fun z=>[.agg (Diner.row z)]) p1 (fun z=>.bv z)) (r:Bool) (h:Z6f x1 p1=some r):Zq2 Tryz.prog 45 [.sl 3 (List.map Diner.row x1),.clo g1 caps1] (.bv r):=by
 refine Zu2 ok45 rfl rfl fun w0 H0=>?_
 rw [Z6f] at h
 refine Zl2 8 ?_;dsimp only [e45,go_sem];refine ⟨by simp,?_⟩;obtain ⟨x2,ex2,h⟩:=Option.bind_eq_some_iff.1 h;refine Zz2 trivial (Z5f x1 _ _ p1 hc1 _ ex2) (hp:=(by first | rfl | simp [go_sem,hc1.pu])) (h:=?_);refine Zl2 3 ?_;dsimp only [e45,go_sem];refine ⟨by simp,?_⟩;exact Zx4 (res:=fun (r:Bool)=>.bv r) ok45 h
set_option maxRecDepth 100000
set_option maxHeartbeats 4000000
def Z8f:EC:=.seq (.reg [(Qa 9 (.bin .lss (.t 8) (.t 7)))]) (.seq (.ite (.t 9) (.skip) (.exit 0)) (.seq (.blk 1 (.seq (.reg [(Qa 10 (.mv (.t 8))),(Qa 5 (.mv (.t 10)))]) (.seq (.reg [(Qa 11 (.mv (.t 1))),(Qa 12 (.mv (.t 0))),(Qa 13 (.mv (.t 5))),(Qa 14 (.idx 5 (.t 12) (.t 13))),(Qa 15 (.loadA 5 (.t 14))),(Qa 16 (.callv (.t 11) [(.t 15)]))]) (.ite (.t 16) (.seq (.reg [(Qa 17 (.mv (.t 5))),(Qa 4 (.mv (.t 17)))]) (.ret)) (.skip))))) (.reg [(Qa 18 (.bin .add (.t 8) (.c (.iv 1)))),(Qa 8 (.mv (.t 18)))])))
def e68:EC:=.seq (.reg [(Qa 4 (.mv (.c (.iv 0))))]) (.seq (.seq (.reg [(Qa 6 (.mv (.t 0))),(Qa 7 (.len (.t 6))),(Qa 8 (.mv (.c (.iv 0))))]) (.blk 0 (.loop Z8f))) (.seq (.reg [(Qa 4 (.mv (.c (.iv (-1)))))]) (.ret)))
theorem ok68:FnOK Tryz.prog 68 Tryz.f68 e68 [.t 4] 2 17:=⟨by kernel_rfl,⟨_,rfl,by kernel_rfl⟩,by kernel_rfl,by kernel_rfl⟩
noncomputable def Z9f:Unit→Option Int
| ()=>
 some (-1)
noncomputable def Zaf (x1:(List Mail)) (p1:(Mail→Option Bool)):Int→Option (Int ⊕ Int)
| x5=>
 ifb (decide (x5<(ln Mail.row x1))) (
 (at_ x1 x5).bind fun x6=>
 (p1 x6).bind fun x7=>
 ifb x7 (
 Option.map Sum.inr (some x5)) (
 some (.inl (wr (x5+1))))) (
 Option.map Sum.inr (Z9f ()))
noncomputable def Zbf (x1:(List Mail)) (p1:(Mail→Option Bool)):Option Int:=
 loop (Zaf x1 p1) 0
theorem Zcf (x1:(List Mail)) (g1:Nat) (caps1:List AV) (p1:(Mail→Option Bool)) (hc1:CloOK Tryz.prog g1 caps1 (fun z=>[.agg (Mail.row z)]) p1 (fun z=>.bv z)) (r:Int) (h:Zbf x1 p1=some r):Zq2 Tryz.prog 68 [.sl 5 (List.map Mail.row x1),.clo g1 caps1] (.iv r):=by
 refine Zu2 ok68 rfl rfl fun w0 H0=>?_
 rw [Zbf] at h
 refine Zl2 11 ?_;dsimp only [e68,Z8f,go_sem];refine ⟨by simp,?_⟩;refine Zl4 (fun (_:Unit)=>(⟨(an 19 []),[],[]⟩:St)) Z9f r ?_ fun J1=>?_
 ·rintro ⟨⟩ h;rw [Z9f] at h;(try dsimp only);refine Zl2 4 ?_;dsimp only [e68,Z8f,go_sem];refine ⟨by simp,?_⟩;exact Zx4 (res:=fun (r:Int)=>.iv r) ok68 h
 ·refine Zl2 1 ?_;dsimp only [e68,Z8f,go_sem];refine ⟨by simp,?_⟩;refine Zm4 h (fun (x5:Int)=>(⟨(.sl 5 (List.map Mail.row x1) :: .clo g1 caps1::an 5 (.iv (ln Mail.row x1) :: .iv x5::an 10 [])),[],[]⟩:St)) (by simp [go_sem]) (by intro x5;first | rfl | simp [go_sem,Z84 _ hc1.pu]) ?_;rintro n1 x5 y1 h hin1 hout1;rw [Zaf] at h;(try dsimp only);refine Zl2 5 ?_;dsimp only [e68,Z8f,go_sem];refine ⟨by simp,?_⟩;refine Zn4 h rfl (fun _ h=>?_) fun _ h=>?_
  ·refine Zl2 13 ?_;dsimp only [e68,Z8f,go_sem];refine ⟨by simp,?_⟩;obtain ⟨x6,ex6,h⟩:=Option.bind_eq_some_iff.1 h;refine Zq4 Mail.row ex6 trivial rfl rfl rfl ?_;refine Zl2 1 ?_;dsimp only [e68,Z8f,go_sem];refine ⟨by simp,?_⟩;obtain ⟨x7,ex7,h⟩:=Option.bind_eq_some_iff.1 h;refine Z35 trivial rfl hc1 (x:=x6) ex7 (by first | exact Z94 _ | simp [go_sem]) (by first | rfl | simp [go_sem,hc1.pu]) ?_;refine Zl2 1 ?_;dsimp only [e68,Z8f,go_sem];refine ⟨by simp,?_⟩;refine Zn4 h rfl (fun _ h=>?_) fun _ h=>?_
   ·refine Zl2 5 ?_;dsimp only [e68,Z8f,go_sem];refine ⟨by simp,?_⟩;exact Zx4 (res:=fun (r:Int)=>.iv r) ok68 (Zk4 h hout1)
   ·refine Zl2 6 ?_;dsimp only [e68,Z8f,go_sem];refine ⟨by simp,?_⟩;exact Zy4 h hin1 (hok:=by first | rfl | simp [go_sem,Z84 _ hc1.pu])
  ·refine Zl2 1 ?_;dsimp only [e68,Z8f,go_sem];refine ⟨by simp,?_⟩;exact Zz4 J1 (s:=()) (Zk4 h hout1) (hok:=by first | rfl | simp [go_sem,Z84 _ hc1.pu])
set_option maxRecDepth 100000
set_option maxHeartbeats 4000000
def e46:EC:=.seq (.reg [(Qa 4 (.mv (.c .ff)))]) (.seq (.reg [(Qa 5 (.mv (.t 0))),(Qa 6 (.mv (.t 1))),(Qa 7 (.call 68 [(.t 5),(.t 6)])),(Qa 8 (.bin .geq (.t 7) (.c (.iv 0)))),(Qa 4 (.mv (.t 8)))]) (.ret))
theorem ok46:FnOK Tryz.prog 46 Tryz.f46 e46 [.t 4] 2 7:=⟨by kernel_rfl,⟨_,rfl,by kernel_rfl⟩,by kernel_rfl,by kernel_rfl⟩
noncomputable def Zdf (x1:(List Mail)) (p1:(Mail→Option Bool)):Option Bool:=
 (Zbf x1 p1).bind fun x2=>
 some (decide (0≤x2))
theorem Zef (x1:(List Mail)) (g1:Nat) (caps1:List AV) (p1:(Mail→Option Bool)) (hc1:CloOK Tryz.prog g1 caps1 (fun z=>[.agg (Mail.row z)]) p1 (fun z=>.bv z)) (r:Bool) (h:Zdf x1 p1=some r):Zq2 Tryz.prog 46 [.sl 5 (List.map Mail.row x1),.clo g1 caps1] (.bv r):=by
 refine Zu2 ok46 rfl rfl fun w0 H0=>?_
 rw [Zdf] at h
 refine Zl2 8 ?_;dsimp only [e46,go_sem];refine ⟨by simp,?_⟩;obtain ⟨x2,ex2,h⟩:=Option.bind_eq_some_iff.1 h;refine Zz2 trivial (Zcf x1 _ _ p1 hc1 _ ex2) (hp:=(by first | rfl | simp [go_sem,hc1.pu])) (h:=?_);refine Zl2 3 ?_;dsimp only [e46,go_sem];refine ⟨by simp,?_⟩;exact Zx4 (res:=fun (r:Bool)=>.bv r) ok46 h
set_option maxRecDepth 100000
set_option maxHeartbeats 4000000
def e12:EC:=.seq (.reg [(Qa 1 (.box 25 2 (.t 0))),(Qa 2 (.mv (.c (.iv 0))))]) (.seq (.reg [(Qa 7 (.mkf 41 [(.t 1)])),(Qa 3 (.mv (.t 7)))]) (.seq (.reg [(Qa 4 (.mv (.c (.clo 42 []))))]) (.seq (.seq (.reg [(Qa 9 (.fld 0 (.t 1))),(Qa 10 (.load (.t 9))),(Qa 11 (.call 44 [(.t 10)])),(Qa 8 (.mv (.t 11))),(Qa 12 (.ext (.t 8) 0)),(Qa 13 (.ext (.t 8) 1)),(Qa 5 (.alloc 48 [.iv 0,.nl])),(Qb (.store 2 (.t 5) (.t 12))),(Qa 6 (.mv (.t 13)))]) (.seq (.reg [(Qa 14 (.mv (.t 6))),(Qa 15 (.not (.t 14))),(Qa 16 (.mv (.t 15))),(Qg 17 16 false (.fld 0 (.t 1))),(Qg 18 16 false (.load (.t 17))),(Qg 19 16 false (.mv (.t 4))),(Qg 20 16 false (.call 45 [(.t 18),(.t 19)])),(Qa 21 (.pick (.t 16) (.c .tt) (.t 20))),(Qa 22 (.mv (.t 21))),(Qg 23 22 false (.fld 1 (.t 1))),(Qg 24 22 false (.load (.t 23))),(Qg 25 22 false (.mv (.t 3))),(Qg 26 22 false (.call 46 [(.t 24),(.t 25)])),(Qa 27 (.pick (.t 22) (.c .tt) (.t 26)))]) (.ite (.t 27) (.seq (.reg [(Qa 2 (.mv (.c (.iv 142))))]) (.ret)) (.skip)))) (.seq (.reg [(Qa 2 (.mv (.c (.iv 0))))]) (.ret)))))
theorem ok12:FnOK Tryz.prog 12 Tryz.f12 e12 [.t 2] 1 27:=⟨by kernel_rfl,⟨_,rfl,by kernel_rfl⟩,by kernel_rfl,by kernel_rfl⟩
noncomputable def Zff:Bool→Option Int
| x5=>
 ifb x5 (
 some 142) (
 some 0)
noncomputable def Zgf (x1:Scene):Option Int:=
 (Zp9 x1.Diners).bind fun x2=>
 ifb (!x2.2) (
 Zff true) (
 (Z6f x1.Diners ((fun z=>Zze z))).bind fun x3=>
 ifb x3 (
 Zff true) (
 (Zdf x1.Mail ((fun z=>Zxe z x1))).bind fun x4=>
 Zff x4))
theorem Zhf (x1:Scene) (r:Int) (h:Zgf x1=some r):Zq2 Tryz.prog 12 [.agg (Scene.row x1)] (.iv r):=by
 refine Zu2 ok12 rfl rfl fun w0 H0=>?_
 rw [Zgf] at h
 refine Zl2 19 ?_;dsimp only [e12,go_sem];refine ⟨by simp,?_⟩;obtain ⟨x2,ex2,h⟩:=Option.bind_eq_some_iff.1 h;refine Zz2 trivial (k_place_Graph x1.Diners _ ex2) (h:=?_);refine Zl2 12 ?_;dsimp only [e12,go_sem];refine ⟨by simp,?_⟩;refine Zl4 (fun (x5:Bool)=>(⟨(an 27 [.bv x5]),[],[]⟩:St)) Zff r ?_ fun J1=>?_
 ·intro x5 h;rw [Zff] at h;(try dsimp only);refine Zn4 h rfl (fun _ h=>?_) fun _ h=>?_
  ·refine Zl2 4 ?_;dsimp only [e12,go_sem];refine ⟨by simp,?_⟩;exact Zx4 (res:=fun (r:Int)=>.iv r) ok12 h
  ·refine Zl2 5 ?_;dsimp only [e12,go_sem];refine ⟨by simp,?_⟩;exact Zx4 (res:=fun (r:Int)=>.iv r) ok12 h
 ·refine Zw4 16 h rfl (fun _ h=>?_) fun _ h=>?_
  ·dsimp only [go_sem];refine Zl2 12 ?_;dsimp only [e12,go_sem];refine ⟨by simp,?_⟩;exact Zz4 J1 (s:=true) h
  ·dsimp only [go_sem];refine Zl2 3 ?_;dsimp only [e12,go_sem];refine ⟨by simp,?_⟩;obtain ⟨x3,ex3,h⟩:=Option.bind_eq_some_iff.1 h;refine Zz2 trivial (Z7f x1.Diners _ _ ((fun z=>Zze z)) ⟨by kernel_rfl,rfl,fun z r hz=>Z0f z r hz⟩ _ ex3) (h:=?_);refine Zl2 2 ?_;dsimp only [e12,go_sem];refine ⟨by simp,?_⟩;refine Zw4 22 h rfl (fun _ h=>?_) fun _ h=>?_
   ·dsimp only [go_sem];refine Zl2 6 ?_;dsimp only [e12,go_sem];refine ⟨by simp,?_⟩;exact Zz4 J1 (s:=true) h
   ·dsimp only [go_sem];refine Zl2 3 ?_;dsimp only [e12,go_sem];refine ⟨by simp,?_⟩;obtain ⟨x4,ex4,h⟩:=Option.bind_eq_some_iff.1 h;refine Z25 trivial ((Z05.refl _).block 0 rfl rfl) (Zef x1.Mail _ _ ((fun z=>Zxe z x1)) ⟨by kernel_rfl,rfl,fun z r hz=>Zye z x1 r hz⟩ _ ex4) (h:=?_);refine Zl2 2 ?_;dsimp only [e12,go_sem];refine ⟨by simp,?_⟩;exact Zz4 J1 (s:=x4) h
set_option maxRecDepth 100000
set_option maxHeartbeats 4000000
def e49:EC:=.seq (.reg [(Qa 2 (.box 25 2 (.t 0))),(Qa 4 (.mv (.c .ff)))]) (.seq (.reg [(Qa 5 (.mv (.t 1))),(Qa 6 (.bin .geq (.t 5) (.c (.iv 0)))),(Qa 7 (.mv (.t 6))),(Qg 8 7 true (.mv (.t 1))),(Qg 9 7 true (.fld 0 (.t 2))),(Qg 10 7 true (.load (.t 9))),(Qg 11 7 true (.len (.t 10))),(Qg 12 7 true (.bin .lss (.t 8) (.t 11))),(Qa 13 (.pick (.t 7) (.t 12) (.c .ff))),(Qa 4 (.mv (.t 13)))]) (.ret))
theorem ok49:FnOK Tryz.prog 49 Tryz.f49 e49 [.t 4] 2 12:=⟨by kernel_rfl,⟨_,rfl,by kernel_rfl⟩,by kernel_rfl,by kernel_rfl⟩
noncomputable def Zif:Bool→Option Bool
| x3=>
 some x3
noncomputable def Zjf (x1:Scene) (x2:Int):Option Bool:=
 ifb (decide (0≤x2)) (
 Zif (decide (x2<(ln Diner.row x1.Diners)))) (
 Zif false)
theorem Zkf (x1:Scene) (x2:Int) (r:Bool) (h:Zjf x1 x2=some r):Zq2 Tryz.prog 49 [.agg (Scene.row x1),.iv x2] (.bv r):=by
 refine Zu2 ok49 rfl rfl fun w0 H0=>?_
 rw [Zjf] at h
 refine Zl2 10 ?_;dsimp only [e49,go_sem];refine ⟨by simp,?_⟩;refine Zl4 (fun (x3:Bool)=>(⟨(an 4 (.bv x3::an 9 [])),[],[]⟩:St)) Zif r ?_ fun J1=>?_
 ·intro x3 h;rw [Zif] at h;(try dsimp only);exact Zx4 (res:=fun (r:Bool)=>.bv r) ok49 h
 ·refine Zw4 7 h rfl (fun _ h=>?_) fun _ h=>?_
  ·dsimp only [go_sem];refine Zl2 8 ?_;dsimp only [e49,go_sem];refine ⟨by simp,?_⟩;exact Zz4 J1 (s:=decide (x2<(ln Diner.row x1.Diners))) h
  ·dsimp only [go_sem];refine Zl2 8 ?_;dsimp only [e49,go_sem];refine ⟨by simp,?_⟩;exact Zz4 J1 (s:=false) h
set_option maxRecDepth 100000
set_option maxHeartbeats 4000000
def e98:EC:=.seq (.reg [(Qa 4 (.mv (.c .nl)))]) (.seq (.seq (.reg [(Qa 5 (.mv (.t 1))),(Qa 6 (.bin .lss (.t 5) (.c (.iv 0))))]) (.ite (.t 6) (.reg [(Qa 7 .bad),(Qb .bad)]) (.skip))) (.seq (.seq (.reg [(Qa 8 (.mv (.t 1))),(Qa 9 (.mv (.t 0))),(Qa 10 (.cap (.t 9))),(Qa 11 (.mv (.t 0))),(Qa 12 (.len (.t 11))),(Qa 13 (.bin .sub (.t 10) (.t 12))),(Qa 14 (.bin .sub (.t 8) (.t 13))),(Qa 1 (.mv (.t 14)))]) (.seq (.reg [(Qa 15 (.mv (.t 1))),(Qa 16 (.bin .gtr (.t 15) (.c (.iv 0))))]) (.ite (.t 16) (.reg [(Qa 17 (.mv (.t 0))),(Qa 18 (.mv (.t 0))),(Qa 19 (.cap (.t 18))),(Qa 20 (.slice 5 (.t 17) none (some (.t 19)))),(Qa 21 (.mv (.t 1))),(Qa 22 (.apz 78 5 40 [.iv 0,.iv 0,.iv 0,.iv 0,.iv 0] (.t 20) (.t 21))),(Qa 23 (.mv (.t 0))),(Qa 24 (.len (.t 23))),(Qa 25 (.slice 5 (.t 22) none (some (.t 24)))),(Qa 0 (.mv (.t 25)))]) (.skip)))) (.seq (.reg [(Qa 26 (.mv (.t 0))),(Qa 4 (.mv (.t 26)))]) (.ret))))
theorem ok98:FnOK Tryz.prog 98 Tryz.f98 e98 [.t 4] 2 25:=⟨by kernel_rfl,⟨_,rfl,by kernel_rfl⟩,by kernel_rfl,by kernel_rfl⟩
noncomputable def Zlf (_x1:(List Mail)) (_x2:Int):Option (List Mail):=
 none
theorem k_slices_Grow_Mail (x1:(List Mail)) (x2:Int) (r:(List Mail)) (h:Zlf x1 x2=some r):Zq2 Tryz.prog 98 [.sl 5 (List.map Mail.row x1),.iv x2] (.sl 5 (List.map Mail.row r)):=by
 simp [Zlf] at h
set_option maxRecDepth 100000
set_option maxHeartbeats 4000000
def Zmf:EC:=.seq (.reg [(Qa 28 (.bin .lss (.t 27) (.t 26)))]) (.seq (.ite (.t 28) (.skip) (.exit 2)) (.seq (.blk 3 (.seq (.reg [(Qa 29 (.idx 1 (.t 25) (.t 27))),(Qa 30 (.load (.t 29))),(Qa 8 (.mv (.t 30)))]) (.reg [(Qa 31 (.mv (.t 6))),(Qa 32 (.mv (.t 8))),(Qa 33 (.app 78 5 40 (.t 31) (.t 32))),(Qa 6 (.mv (.t 33)))]))) (.reg [(Qa 34 (.bin .add (.t 27) (.c (.iv 1)))),(Qa 27 (.mv (.t 34)))])))
def Znf:EC:=.seq (.reg [(Qa 12 (.bin .lss (.t 11) (.t 10)))]) (.seq (.ite (.t 12) (.skip) (.exit 0)) (.seq (.blk 1 (.seq (.reg [(Qa 13 (.idx 1 (.t 9) (.t 11))),(Qa 14 (.load (.t 13))),(Qa 5 (.mv (.t 14)))]) (.seq (.reg [(Qa 15 (.mv (.t 3))),(Qa 16 (.mv (.t 5))),(Qa 17 (.len (.t 16))),(Qa 18 (.bin .add (.t 15) (.t 17))),(Qa 3 (.mv (.t 18)))]) (.seq (.reg [(Qa 19 (.mv (.t 3))),(Qa 20 (.bin .lss (.t 19) (.c (.iv 0))))]) (.ite (.t 20) (.reg [(Qa 21 .bad),(Qb .bad)]) (.skip)))))) (.reg [(Qa 22 (.bin .add (.t 11) (.c (.iv 1)))),(Qa 11 (.mv (.t 22)))])))
def e70:EC:=.seq (.reg [(Qa 2 (.mv (.c .nl)))]) (.seq (.reg [(Qa 3 (.mv (.c (.iv 0))))]) (.seq (.seq (.reg [(Qa 9 (.mv (.t 0))),(Qa 10 (.len (.t 9))),(Qa 11 (.mv (.c (.iv 0))))]) (.blk 0 (.loop Znf))) (.seq (.reg [(Qa 23 (.mv (.t 3))),(Qa 24 (.call 98 [(.c .nl),(.t 23)])),(Qa 6 (.mv (.t 24)))]) (.seq (.seq (.reg [(Qa 25 (.mv (.t 0))),(Qa 26 (.len (.t 25))),(Qa 27 (.mv (.c (.iv 0))))]) (.blk 2 (.loop Zmf))) (.seq (.reg [(Qa 35 (.mv (.t 6))),(Qa 2 (.mv (.t 35)))]) (.ret))))))
theorem ok70:FnOK Tryz.prog 70 Tryz.f70 e70 [.t 2] 1 35:=⟨by kernel_rfl,⟨_,rfl,by kernel_rfl⟩,by kernel_rfl,by kernel_rfl⟩
noncomputable def Zof:(List Mail)→Option (List Mail)
| x4=>
 some x4
noncomputable def Zpf (x1:Int):Unit→Option (List Mail)
| ()=>
 ifb (decide (0<(wr (x1-(wr (0-0)))))) (
 (apz_ 40 (wr (x1-(wr (0-0)))) ((Mail.mk 0 0 ((Msg.mk 0 0 0))))).bind fun x2=>
 (sub_ x2 0 0).bind fun x3=>
 Zof x3) (
 Zof (([]:List Mail)))
noncomputable def Zqf (x1:Int):Option (List Mail):=
 ifb (decide (x1<0)) (
 none) (
 (Zpf x1) ())
theorem Zrf (x1:Int) (r:(List Mail)) (h:Zqf x1=some r):FunT Tryz.prog 98 [.nl,.iv x1] [] [] (.osl 0) [] [some ⟨78,5,List.map Mail.row r⟩]:=by
 refine Za6 ok98 rfl rfl rfl (by first | rfl | simp [go_sem]) fun w0 M0=>?_
 rw [Zqf] at h
 dsimp only [lun,List.cons_append,List.nil_append]
 refine Zl2 10 ?_;dsimp only [e98,go_sem];refine ⟨by simp,?_⟩;refine Zl4 (fun (_:Unit)=>(⟨(.nl :: .iv x1::an 25 []),[],[]⟩:St)) (Zpf x1) r ?_ fun J1=>?_
 ·rintro ⟨⟩ h;rw [Zpf] at h;(try dsimp only);refine Zl2 5 ?_;dsimp only [e98,go_sem];refine ⟨by simp,?_⟩;refine V_capN trivial rfl ?_;refine Zl2 11 ?_;dsimp only [e98,go_sem];refine ⟨by simp,?_⟩;refine Zl4 (fun (x4:(List Mail))=>(⟨(.osl 0::an 26 []),[],[some ⟨78,5,List.map Mail.row x4⟩]⟩:St)) Zof r ?_ fun J2=>?_
  ·intro x4 h;rw [Zof] at h;(try dsimp only);refine Zl2 5 ?_;dsimp only [e98,go_sem];refine ⟨by simp,?_⟩;obtain rfl:=Option.some.inj h;exact T_done ok98 rfl (by simp [go_sem])
  ·refine Zn4 h rfl (fun _ h=>?_) fun _ h=>?_
   ·refine Zl2 3 ?_;dsimp only [e98,go_sem];refine ⟨by simp,?_⟩;refine V_capN trivial rfl ?_;refine V_sliceN trivial rfl rfl rfl ?_;refine Zl2 1 ?_;dsimp only [e98,go_sem];refine ⟨by simp,?_⟩;obtain ⟨x2,ex2,h⟩:=Option.bind_eq_some_iff.1 h;refine V_apzM Mail.row ex2 trivial rfl rfl rfl rfl ?_;refine Zl2 2 ?_;dsimp only [e98,go_sem];refine ⟨by simp,?_⟩;obtain ⟨x3,ex3,h⟩:=Option.bind_eq_some_iff.1 h;refine V_cutM Mail.row ex3 trivial rfl rfl rfl rfl ?_;refine Zl2 2 ?_;dsimp only [e98,go_sem];refine ⟨by simp,?_⟩;refine Z44 1 0 rfl rfl rfl ?_
    dsimp only [go_sem];exact Zz4 J2 (s:=x3) h
   ·refine Zl2 1 ?_;dsimp only [e98,go_sem];refine ⟨by simp,?_⟩;refine V_own 0 78 5 rfl rfl ?_;dsimp only [go_sem];exact Zz4 J2 (s:=([]:List Mail)) h
 ·refine Zn4 h rfl (fun _ h=>?_) fun _ h=>?_
  ·cases h
  ·refine Zl2 1 ?_;dsimp only [e98,go_sem];refine ⟨by simp,?_⟩;exact Zz4 J1 (s:=()) h
def Zsf (_F:Nat):(List Mail)→Option (List Mail)
| x4=>
 some x4
theorem Ztf {F:Nat}:∀s,ole (Zsf F s) (Zof s):=by
 intro x4
 unfold Zsf Zof
 try dsimp only
 with_reducible repeat' first | exact Zf4 _ | assumption | intro _ | refine Zg4 ?_ ?_ | refine Zh4 ?_ ?_ | refine Zi4 ?_ | refine Zj4 ?_
def Zuf (F:Nat) (x1:Int):Unit→Option (List Mail)
| ()=>
 ifb (decide (0<(wr (x1-(wr (0-0)))))) (
 (apz_ 40 (wr (x1-(wr (0-0)))) ((Mail.mk 0 0 ((Msg.mk 0 0 0))))).bind fun x2=>
 (sub_ x2 0 0).bind fun x3=>
 Zsf F x3) (
 Zsf F (([]:List Mail)))
theorem Zvf {F:Nat} {x1:Int}:∀s,ole (Zuf F x1 s) (Zpf x1 s):=by
 rintro ⟨⟩
 unfold Zuf Zpf
 try dsimp only
 with_reducible repeat' first | exact Zf4 _ | assumption | intro _ | refine Zg4 ?_ ?_ | refine Zh4 ?_ ?_ | refine Zi4 ?_ | refine Zj4 ?_ | apply Ztf
def Zwf (F:Nat) (x1:Int):Option (List Mail):=
 ifb (decide (x1<0)) (
 none) (
 (Zuf F x1) ())
theorem Zxf {F:Nat} {x1:Int}:ole (Zwf F x1) (Zqf x1):=by
 unfold Zwf Zqf
 with_reducible repeat' first | exact Zf4 _ | assumption | intro _ | refine Zg4 ?_ ?_ | refine Zh4 ?_ ?_ | refine Zi4 ?_ | refine Zj4 ?_ | apply Ztf | apply Zvf
noncomputable def Zyf:(List Mail)→Option (List Mail)
| x31=>
 some x31
noncomputable def Zzf (x1:(List (List Mail))):(Int×(List Mail))→Option ((Int×(List Mail)) ⊕ (List Mail))
| (x21,x22)=>
 ifb (decide (x21<(ln (Z55 5 Mail.row) x1))) (
 (at_ x1 x21).bind fun x23=>
 (Za4 40 x22 x23).bind fun x24=>
 some (.inl (wr (x21+1),x24))) (
 Option.map Sum.inr (Zyf x22))
noncomputable def Z0g (x1:(List (List Mail))):Int→Option (List Mail)
| x15=>
 (Zqf x15).bind fun x16=>
 loop (Zzf x1) (0,x16)
noncomputable def Z1g (x5:Int) (x6:Int) (x7:(List Mail)):Unit→Option ((Int×Int) ⊕ (List Mail))
| ()=>
 some (.inl (wr (x5+(ln Mail.row x7)),wr (x6+1)))
noncomputable def Z2g (x1:(List (List Mail))):(Int×Int)→Option ((Int×Int) ⊕ (List Mail))
| (x5,x6)=>
 ifb (decide (x6<(ln (Z55 5 Mail.row) x1))) (
 (at_ x1 x6).bind fun x7=>
 ifb (decide ((wr (x5+(ln Mail.row x7)))<0)) (
 none) (
 (Z1g x5 x6 x7) ())) (
 Option.map Sum.inr ((Z0g x1) x5))
noncomputable def Z3g (x1:(List (List Mail))):Option (List Mail):=
 loop (Z2g x1) (0,0)
theorem Z4g (x1:(List (List Mail))) (r:(List Mail)) (h:Z3g x1=some r):FunO Tryz.prog 70 [.sl 1 (List.map (Z55 5 Mail.row) x1)] 78 5 (List.map Mail.row r):=by
 refine Zc5 ok70 rfl fun w0 H0=>?_
 rw [Z3g] at h
 refine Zl2 15 ?_;dsimp only [e70,Znf,Zmf,go_sem];refine ⟨by simp,?_⟩;refine Zl4 (fun (x15:Int)=>(⟨(.sl 1 (List.map (Z55 5 Mail.row) x1) :: .any :: .any :: .iv x15::an 32 []),[],[]⟩:St)) (Z0g x1) r ?_ fun J1=>?_
 ·intro x15 h;rw [Z0g] at h;(try dsimp only);refine Zl2 3 ?_;dsimp only [e70,Znf,Zmf,go_sem];refine ⟨by simp,?_⟩;obtain ⟨x16,ex16,h⟩:=Option.bind_eq_some_iff.1 h;refine V_callT [] [] trivial (Zrf x15 _ ex16) (h:=?_);dsimp only [go_sem];refine Zl2 9 ?_;dsimp only [e70,Znf,Zmf,go_sem];refine ⟨by simp,?_⟩;refine Zl4 (fun (x31:(List Mail))=>(⟨(an 6 (.osl 0::an 29 [])),[],[some ⟨78,5,List.map Mail.row x31⟩]⟩:St)) Zyf r ?_ fun J3=>?_
  ·intro x31 h;rw [Zyf] at h;(try dsimp only);refine Zl2 5 ?_;dsimp only [e70,Znf,Zmf,go_sem];refine ⟨by simp,?_⟩;exact Zj5 Mail.row ok70 h rfl rfl
  ·refine Zl2 1 ?_;dsimp only [e70,Znf,Zmf,go_sem];refine ⟨by simp,?_⟩;refine Zm4 h (fun ((x21,x22):(Int×(List Mail)))=>(⟨(an 6 (.osl 0::an 18 (.sl 1 (List.map (Z55 5 Mail.row) x1) :: .iv (ln (Z55 5 Mail.row) x1) :: .iv x21::an 8 []))),[],[some ⟨78,5,List.map Mail.row x22⟩]⟩:St)) (by simp [go_sem]) (by rintro ⟨x21,x22⟩;first | rfl | simp [go_sem]) ?_;rintro n1 ⟨x21,x22⟩ y1 h hin1 hout1;rw [Zzf] at h;(try dsimp only);refine Zl2 5 ?_;dsimp only [e70,Znf,Zmf,go_sem];refine ⟨by simp,?_⟩
   refine Zn4 h rfl (fun _ h=>?_) fun _ h=>?_
   ·refine Zl2 5 ?_;dsimp only [e70,Znf,Zmf,go_sem];refine ⟨by simp,?_⟩;obtain ⟨x23,ex23,h⟩:=Option.bind_eq_some_iff.1 h;refine Zq4 (Z55 5 Mail.row) ex23 trivial rfl rfl rfl ?_;refine Zl2 6 ?_;dsimp only [e70,Znf,Zmf,go_sem];refine ⟨by simp,?_⟩;obtain ⟨x24,ex24,h⟩:=Option.bind_eq_some_iff.1 h;refine Zt4 Mail.row ex24 trivial rfl rfl rfl ?_;refine Zl2 7 ?_;dsimp only [e70,Znf,Zmf,go_sem];refine ⟨by simp,?_⟩;refine Z44 1 0 rfl rfl rfl ?_;dsimp only [go_sem];exact Zy4 h hin1
   ·refine Zl2 1 ?_;dsimp only [e70,Znf,Zmf,go_sem];refine ⟨by simp,?_⟩;exact Zz4 J3 (s:=x22) (Zk4 h hout1)
 ·refine Zl2 1 ?_;dsimp only [e70,Znf,Zmf,go_sem];refine ⟨by simp,?_⟩;refine Zm4 h (fun ((x5,x6):(Int×Int))=>(⟨(.sl 1 (List.map (Z55 5 Mail.row) x1) :: .any :: .any :: .iv x5::an 5 (.sl 1 (List.map (Z55 5 Mail.row) x1) :: .iv (ln (Z55 5 Mail.row) x1) :: .iv x6::an 24 [])),[],[]⟩:St)) (by simp [go_sem]) (by rintro ⟨x5,x6⟩;first | rfl | simp [go_sem]) ?_;rintro n1 ⟨x5,x6⟩ y1 h hin1 hout1;rw [Z2g] at h;(try dsimp only);refine Zl2 5 ?_;dsimp only [e70,Znf,Zmf,go_sem];refine ⟨by simp,?_⟩
  refine Zn4 h rfl (fun _ h=>?_) fun _ h=>?_
  ·refine Zl2 5 ?_;dsimp only [e70,Znf,Zmf,go_sem];refine ⟨by simp,?_⟩;obtain ⟨x7,ex7,h⟩:=Option.bind_eq_some_iff.1 h;refine Zq4 (Z55 5 Mail.row) ex7 trivial rfl rfl rfl ?_;refine Zl2 16 ?_;dsimp only [e70,Znf,Zmf,go_sem];refine ⟨by simp,?_⟩;refine Zl4 (fun (_:Unit)=>(⟨(.sl 1 (List.map (Z55 5 Mail.row) x1) :: .any :: .any :: .iv (wr (x5+(ln Mail.row x7)))::an 5 (.sl 1 (List.map (Z55 5 Mail.row) x1) :: .iv (ln (Z55 5 Mail.row) x1) :: .iv x6::an 24 [])),[],[]⟩:St)) (Z1g x5 x6 x7) y1 ?_ fun J2=>?_
   ·rintro ⟨⟩ h;rw [Z1g] at h;(try dsimp only);refine Zl2 5 ?_;dsimp only [e70,Znf,Zmf,go_sem];refine ⟨by simp,?_⟩;exact Zy4 h hin1
   ·refine Zn4 h rfl (fun _ h=>?_) fun _ h=>?_
    ·cases h
    ·refine Zl2 1 ?_;dsimp only [e70,Znf,Zmf,go_sem];refine ⟨by simp,?_⟩;exact Zz4 J2 (s:=()) h
  ·refine Zl2 1 ?_;dsimp only [e70,Znf,Zmf,go_sem];refine ⟨by simp,?_⟩;exact Zz4 J1 (s:=x5) (Zk4 h hout1)
theorem k_slices_Concat_Mail (x1:(List (List Mail))) (r:(List Mail)) (h:Z3g x1=some r):Zq2 Tryz.prog 70 [.sl 1 (List.map (Z55 5 Mail.row) x1)] (.sl 5 (List.map Mail.row r)):=(Z4g x1 r h).sealed
set_option maxRecDepth 100000
set_option maxHeartbeats 4000000
def Z5g:EC:=.seq (.reg [(Qa 48 (.bin .lss (.t 47) (.t 46)))]) (.seq (.ite (.t 48) (.skip) (.exit 0)) (.seq (.blk 1 (.seq (.reg [(Qa 49 (.idx 3 (.t 45) (.t 47))),(Qa 50 (.loadA 3 (.t 49))),(Qa 13 (.alloc 70 [.iv 0,.iv 0,.nl])),(Qb (.store 3 (.t 13) (.t 50)))]) (.seq (.seq (.reg [(Qa 51 (.fld 0 (.t 13))),(Qa 52 (.load (.t 51))),(Qa 53 (.mv (.t 1))),(Qa 54 (.bin .eql (.t 52) (.t 53)))]) (.ite (.t 54) (.reg [(Qa 55 (.loadA 3 (.t 8))),(Qb (.store 3 (.t 13) (.t 55)))]) (.skip))) (.seq (.reg [(Qa 56 (.fld 2 (.t 13))),(Qa 57 (.load (.t 56))),(Qa 58 (.call 100 [(.t 57)])),(Qa 59 (.fld 2 (.t 13))),(Qb (.store 1 (.t 59) (.t 58)))]) (.reg [(Qa 60 (.fld 0 (.t 11))),(Qa 61 (.load (.t 60))),(Qa 62 (.loadA 3 (.t 13))),(Qa 63 (.bsl 70 3 1 [.iv 0,.iv 0,.nl] [(0,(.t 62))])),(Qa 64 (.app 70 3 40 (.t 61) (.t 63))),(Qa 65 (.fld 0 (.t 11))),(Qb (.store 1 (.t 65) (.t 64)))]))))) (.reg [(Qa 66 (.bin .add (.t 47) (.c (.iv 1)))),(Qa 47 (.mv (.t 66)))])))
def e71:EC:=.seq (.reg [(Qa 3 (.box 25 2 (.t 0))),(Qa 6 (.alloc 25 [.nl,.nl])),(Qa 7 (.mv (.c (.iv 0))))]) (.seq (.reg [(Qa 15 (.mv (.t 2))),(Qa 16 (.fld 0 (.t 3))),(Qa 17 (.load (.t 16))),(Qa 18 (.mv (.t 1))),(Qa 19 (.idx 3 (.t 17) (.t 18))),(Qa 20 (.loadA 3 (.t 19))),(Qa 21 (.callv (.t 15) [(.t 20)])),(Qa 14 (.mv (.t 21))),(Qa 22 (.ext (.t 14) 0)),(Qa 23 (.ext (.t 14) 1)),(Qa 8 (.alloc 70 [.iv 0,.iv 0,.nl])),(Qb (.store 3 (.t 8) (.t 22))),(Qa 9 (.mv (.t 23)))]) (.seq (.seq (.reg [(Qa 24 (.mv (.t 9))),(Qa 25 (.bin .neq (.t 24) (.c (.iv 0))))]) (.ite (.t 25) (.seq (.reg [(Qa 26 (.build [.nl,.nl] [])),(Qa 27 (.mv (.t 9))),(Qb (.store 2 (.t 6) (.t 26))),(Qa 7 (.mv (.t 27)))]) (.ret)) (.skip))) (.seq (.reg [(Qa 29 (.loadA 3 (.t 8))),(Qa 30 (.call 99 [(.t 29)])),(Qa 28 (.mv (.t 30))),(Qa 31 (.ext (.t 28) 0)),(Qa 32 (.ext (.t 28) 1)),(Qa 33 (.ext (.t 28) 2)),(Qb (.store 3 (.t 8) (.t 31))),(Qa 10 (.mv (.t 32))),(Qa 9 (.mv (.t 33)))]) (.seq (.seq (.reg [(Qa 34 (.mv (.t 9))),(Qa 35 (.bin .neq (.t 34) (.c (.iv 0))))]) (.ite (.t 35) (.seq (.reg [(Qa 36 (.build [.nl,.nl] [])),(Qa 37 (.mv (.t 9))),(Qb (.store 2 (.t 6) (.t 36))),(Qa 7 (.mv (.t 37)))]) (.ret)) (.skip))) (.seq (.reg [(Qa 38 (.fld 1 (.t 3))),(Qa 39 (.load (.t 38))),(Qa 40 (.mv (.t 10))),(Qa 41 (.bsl 23 1 2 [.nl] [(0,(.t 39)),(1,(.t 40))])),(Qa 42 (.call 70 [(.t 41)])),(Qa 43 (.build [.nl,.nl] [(1,1,(.t 42))])),(Qa 11 (.alloc 25 [.nl,.nl])),(Qb (.store 2 (.t 11) (.t 43)))]) (.seq (.seq (.reg [(Qa 44 (.fld 0 (.t 3))),(Qa 45 (.load (.t 44))),(Qa 46 (.len (.t 45))),(Qa 47 (.mv (.c (.iv 0))))]) (.blk 0 (.loop Z5g))) (.seq (.reg [(Qa 67 (.loadA 2 (.t 11))),(Qb (.store 2 (.t 6) (.t 67))),(Qa 7 (.mv (.c (.iv 0))))]) (.ret))))))))
theorem ok71:FnOK Tryz.prog 71 Tryz.f71 e71 [.c 6 (some 2),.t 7] 3 65:=⟨by kernel_rfl,⟨_,rfl,by kernel_rfl⟩,by kernel_rfl,by kernel_rfl⟩
noncomputable def Z6g (x6:(List Mail)):(List Diner)→Option (Scene×Int)
| x28=>
 some ((Scene.mk x28 x6),0)
noncomputable def Z7g (x13:Int) (x14:(List Diner)):Diner→Option ((Int×(List Diner)) ⊕ (Scene×Int))
| x16=>
 (Z4d x16.Sides).bind fun x17=>
 (Za4 40 x14 ([(Diner.mk x16.ID x16.Phase x17)])).bind fun x18=>
 some (.inl (wr (x13+1),x18))
noncomputable def Z8g (x1:Scene) (x2:Int) (x5:(Diner×(List Mail)×Int)) (x6:(List Mail)):(Int×(List Diner))→Option ((Int×(List Diner)) ⊕ (Scene×Int))
| (x13,x14)=>
 ifb (decide (x13<(ln Diner.row x1.Diners))) (
 (at_ x1.Diners x13).bind fun x15=>
 ifb (decide (x15.ID=x2)) (
 (Z7g x13 x14) x5.1) (
 (Z7g x13 x14) x15)) (
 Option.map Sum.inr ((Z6g x6) x14))
noncomputable def Z9g (x1:Scene) (x2:Int) (p2:(Diner→Option (Diner×Int))):Option (Scene×Int):=
 (at_ x1.Diners x2).bind fun x3=>
 (p2 x3).bind fun x4=>
 ifb (!decide (x4.2=0)) (
 some ((Scene.mk (([]:(List Diner))) (([]:(List Mail)))),x4.2)) (
 (Z4e x4.1).bind fun x5=>
 ifb (!decide (x5.2.2=0)) (
 some ((Scene.mk (([]:(List Diner))) (([]:(List Mail)))),x5.2.2)) (
 (Z3g ([x1.Mail,x5.2.1])).bind fun x6=>
 loop (Z8g x1 x2 x5 x6) (0,([]:List Diner))))
theorem Zag (x1:Scene) (x2:Int) (g2:Nat) (caps2:List AV) (p2:(Diner→Option (Diner×Int))) (hc2:CloOK Tryz.prog g2 caps2 (fun z=>[.agg (Diner.row z)]) p2 (fun z=>.tup [.agg (Diner.row z.1),.iv z.2])) (r:(Scene×Int)) (h:Z9g x1 x2 p2=some r):Zq2 Tryz.prog 71 [.agg (Scene.row x1),.iv x2,.clo g2 caps2] (.tup [.agg (Scene.row r.1),.iv r.2]):=by
 refine Zu2 ok71 rfl rfl fun w0 H0=>?_
 rw [Z9g] at h
 refine Zl2 12 ?_;dsimp only [e71,Z5g,go_sem];refine ⟨by simp,?_⟩;obtain ⟨x3,ex3,h⟩:=Option.bind_eq_some_iff.1 h;refine Zq4 Diner.row ex3 trivial rfl rfl rfl ?_;refine Zl2 1 ?_;dsimp only [e71,Z5g,go_sem];refine ⟨by simp,?_⟩;obtain ⟨x4,ex4,h⟩:=Option.bind_eq_some_iff.1 h;refine Z35 trivial rfl hc2 (x:=x3) ex4 (by first | exact Z94 _ | simp [go_sem]) (by first | rfl | simp [go_sem,hc2.pu]) ?_;refine Zl2 13 ?_;dsimp only [e71,Z5g,go_sem];refine ⟨by simp,?_⟩;refine Zn4 h rfl (fun _ h=>?_) fun _ h=>?_
 ·refine Zl2 7 ?_;dsimp only [e71,Z5g,go_sem];refine ⟨by simp,?_⟩;exact Zx4 (res:=fun (r:(Scene×Int))=>.tup [.agg (Scene.row r.1),.iv r.2]) ok71 h
 ·refine Zl2 4 ?_;dsimp only [e71,Z5g,go_sem];refine ⟨by simp,?_⟩;obtain ⟨x5,ex5,h⟩:=Option.bind_eq_some_iff.1 h;refine Zz2 trivial (k_dine_Fire x4.1 _ ex5) (hp:=(by first | rfl | simp [go_sem,hc2.pu])) (h:=?_);refine Zl2 14 ?_;dsimp only [e71,Z5g,go_sem];refine ⟨by simp,?_⟩;refine Zn4 h rfl (fun _ h=>?_) fun _ h=>?_
  ·refine Zl2 7 ?_;dsimp only [e71,Z5g,go_sem];refine ⟨by simp,?_⟩;exact Zx4 (res:=fun (r:(Scene×Int))=>.tup [.agg (Scene.row r.1),.iv r.2]) ok71 h
  ·refine Zl2 7 ?_;dsimp only [e71,Z5g,go_sem];refine ⟨by simp,?_⟩;refine Z83 0 rfl ?_;dsimp only [go_sem];obtain ⟨x6,ex6,h⟩:=Option.bind_eq_some_iff.1 h;refine Zd5 trivial (Z4g ([x1.Mail,x5.2.1]) _ ex6) (hp:=(by first | rfl | simp [go_sem,hc2.pu])) (h:=?_);refine Zl2 12 ?_;dsimp only [e71,Z5g,go_sem];refine ⟨by simp,?_⟩
   refine Zl4 (fun (x28:(List Diner))=>(⟨(an 6 (.ptr 1 0::an 4 (.ptr 3 0::an 56 []))),[none,some ⟨25,[.nl,.nl]⟩,none,some ⟨25,[.osl 2,.osl 1]⟩],[none,some ⟨78,5,List.map Mail.row x6⟩,some ⟨70,3,List.map Diner.row x28⟩]⟩:St)) (Z6g x6) r ?_ fun J1=>?_
   ·intro x28 h;rw [Z6g] at h;(try dsimp only);refine Zl2 6 ?_;dsimp only [e71,Z5g,go_sem];refine ⟨by simp,?_⟩;refine Z83 2 rfl ?_;dsimp only [go_sem];refine Z83 1 rfl ?_;dsimp only [go_sem];exact Zx4 (res:=fun (r:(Scene×Int))=>.tup [.agg (Scene.row r.1),.iv r.2]) ok71 h
   ·refine Zl2 1 ?_;dsimp only [e71,Z5g,go_sem];refine ⟨by simp,?_⟩;refine V_ownB 3 0 70 3 rfl rfl rfl ?_;dsimp only [go_sem]
    refine Zm4 h (fun ((x13,x14):(Int×(List Diner)))=>(⟨(.any :: .iv x2::an 4 (.ptr 1 0 :: .any :: .ptr 2 0 :: .any :: .any :: .ptr 3 0::an 33 (.sl 3 (List.map Diner.row x1.Diners) :: .iv (ln Diner.row x1.Diners) :: .iv x13::an 20 []))),[none,some ⟨25,[.nl,.nl]⟩,some ⟨70,[.iv x5.1.ID,.iv x5.1.Phase,.sl 8 (List.map Side.row x5.1.Sides)]⟩,some ⟨25,[.osl 2,.osl 1]⟩],[none,some ⟨78,5,List.map Mail.row x6⟩,some ⟨70,3,List.map Diner.row x14⟩]⟩:St)) (by simp [go_sem]) (by rintro ⟨x13,x14⟩;first | rfl | simp [go_sem,Z84 _ hc2.pu]) ?_
    rintro n1 ⟨x13,x14⟩ y1 h hin1 hout1;rw [Z8g] at h;(try dsimp only);refine Zl2 5 ?_;dsimp only [e71,Z5g,go_sem];refine ⟨by simp,?_⟩;refine Zn4 h rfl (fun _ h=>?_) fun _ h=>?_
    ·refine Zl2 5 ?_;dsimp only [e71,Z5g,go_sem];refine ⟨by simp,?_⟩;obtain ⟨x15,ex15,h⟩:=Option.bind_eq_some_iff.1 h;refine Zq4 Diner.row ex15 trivial rfl rfl rfl ?_;refine Zl2 12 ?_;dsimp only [e71,Z5g,go_sem];refine ⟨by simp,?_⟩
     refine Zl4 (fun (x16:Diner)=>(⟨(.any :: .iv x2::an 4 (.ptr 1 0 :: .any :: .ptr 2 0 :: .any :: .any :: .ptr 3 0 :: .any :: .ptr 4 0::an 31 (.sl 3 (List.map Diner.row x1.Diners) :: .iv (ln Diner.row x1.Diners) :: .iv x13::an 20 []))),[none,some ⟨25,[.nl,.nl]⟩,some ⟨70,[.iv x5.1.ID,.iv x5.1.Phase,.sl 8 (List.map Side.row x5.1.Sides)]⟩,some ⟨25,[.osl 2,.osl 1]⟩,some ⟨70,[.iv x16.ID,.iv x16.Phase,.sl 8 (List.map Side.row x16.Sides)]⟩],[none,some ⟨78,5,List.map Mail.row x6⟩,some ⟨70,3,List.map Diner.row x14⟩]⟩:St)) (Z7g x13 x14) y1 ?_ fun J2=>?_
     ·intro x16 h;rw [Z7g] at h;(try dsimp only);refine Zl2 4 ?_;dsimp only [e71,Z5g,go_sem];refine ⟨by simp,?_⟩;obtain ⟨x17,ex17,h⟩:=Option.bind_eq_some_iff.1 h;refine Zd5 trivial (Z5d x16.Sides _ ex17) (hp:=(by first | rfl | simp [go_sem,hc2.pu])) (h:=?_);refine Zl2 7 ?_;dsimp only [e71,Z5g,go_sem];refine ⟨by simp,?_⟩;refine Z83 3 rfl ?_;dsimp only [go_sem];refine Zl2 1 ?_;dsimp only [e71,Z5g,go_sem];refine ⟨by simp,?_⟩;obtain ⟨x18,ex18,h⟩:=Option.bind_eq_some_iff.1 h
      refine Zt4 Diner.row ex18 trivial rfl rfl rfl ?_;refine Zl2 8 ?_;dsimp only [e71,Z5g,go_sem];refine ⟨by simp,?_⟩;refine Z44 5 2 rfl rfl rfl ?_;dsimp only [go_sem];exact Zy4 h hin1 (hok:=by first | rfl | simp [go_sem,Z84 _ hc2.pu])
     ·refine Zn4 h rfl (fun _ h=>?_) fun _ h=>?_
      ·refine Zl2 4 ?_;dsimp only [e71,Z5g,go_sem];refine ⟨by simp,?_⟩;exact Zz4 J2 (s:=x5.1) h (hok:=by first | rfl | simp [go_sem,Z84 _ hc2.pu])
      ·refine Zl2 1 ?_;dsimp only [e71,Z5g,go_sem];refine ⟨by simp,?_⟩;exact Zz4 J2 (s:=x15) h (hok:=by first | rfl | simp [go_sem,Z84 _ hc2.pu])
    ·refine Zl2 1 ?_;dsimp only [e71,Z5g,go_sem];refine ⟨by simp,?_⟩;exact Zz4 J1 (s:=x14) (Zk4 h hout1) (hok:=by first | rfl | simp [go_sem,Z84 _ hc2.pu])
set_option maxRecDepth 100000
set_option maxHeartbeats 4000000
def e66:EC:=.seq (.reg [(Qa 3 (.box 25 2 (.t 0))),(Qa 6 (.alloc 25 [.nl,.nl])),(Qa 7 (.mv (.c (.iv 0))))]) (.seq (.seq (.reg [(Qa 9 (.loadA 2 (.t 3))),(Qa 10 (.call 12 [(.t 9)])),(Qa 8 (.mv (.t 10)))]) (.seq (.reg [(Qa 11 (.mv (.t 8))),(Qa 12 (.bin .neq (.t 11) (.c (.iv 0))))]) (.ite (.t 12) (.seq (.reg [(Qa 13 (.build [.nl,.nl] [])),(Qa 14 (.mv (.t 8))),(Qb (.store 2 (.t 6) (.t 13))),(Qa 7 (.mv (.t 14)))]) (.ret)) (.skip)))) (.seq (.seq (.reg [(Qa 15 (.loadA 2 (.t 3))),(Qa 16 (.mv (.t 1))),(Qa 17 (.call 49 [(.t 15),(.t 16)])),(Qa 18 (.not (.t 17)))]) (.ite (.t 18) (.seq (.reg [(Qa 19 (.build [.nl,.nl] [])),(Qb (.store 2 (.t 6) (.t 19))),(Qa 7 (.mv (.c (.iv 140))))]) (.ret)) (.skip))) (.seq (.reg [(Qa 20 (.loadA 2 (.t 3))),(Qa 21 (.mv (.t 1))),(Qa 22 (.mv (.t 2))),(Qa 23 (.call 71 [(.t 20),(.t 21),(.t 22)])),(Qa 24 (.ext (.t 23) 0)),(Qa 25 (.ext (.t 23) 1)),(Qb (.store 2 (.t 6) (.t 24))),(Qa 7 (.mv (.t 25)))]) (.ret))))
theorem ok66:FnOK Tryz.prog 66 Tryz.f66 e66 [.c 6 (some 2),.t 7] 3 23:=⟨by kernel_rfl,⟨_,rfl,by kernel_rfl⟩,by kernel_rfl,by kernel_rfl⟩
noncomputable def Zbg (x1:Scene) (x2:Int) (p2:(Diner→Option (Diner×Int))):Option (Scene×Int):=
 (Zgf x1).bind fun x3=>
 ifb (!decide (x3=0)) (
 some ((Scene.mk (([]:(List Diner))) (([]:(List Mail)))),x3)) (
 (Zjf x1 x2).bind fun x4=>
 ifb (!x4) (
 some ((Scene.mk (([]:(List Diner))) (([]:(List Mail)))),140)) (
 (Z9g x1 x2 p2).bind fun x5=>
 some (x5.1,x5.2)))
theorem Zcg (x1:Scene) (x2:Int) (g2:Nat) (caps2:List AV) (p2:(Diner→Option (Diner×Int))) (hc2:CloOK Tryz.prog g2 caps2 (fun z=>[.agg (Diner.row z)]) p2 (fun z=>.tup [.agg (Diner.row z.1),.iv z.2])) (r:(Scene×Int)) (h:Zbg x1 x2 p2=some r):Zq2 Tryz.prog 66 [.agg (Scene.row x1),.iv x2,.clo g2 caps2] (.tup [.agg (Scene.row r.1),.iv r.2]):=by
 refine Zu2 ok66 rfl rfl fun w0 H0=>?_
 rw [Zbg] at h
 refine Zl2 10 ?_;dsimp only [e66,go_sem];refine ⟨by simp,?_⟩;obtain ⟨x3,ex3,h⟩:=Option.bind_eq_some_iff.1 h;refine Zz2 trivial (Zhf x1 _ ex3) (hp:=(by first | rfl | simp [go_sem,hc2.pu])) (h:=?_);refine Zl2 7 ?_;dsimp only [e66,go_sem];refine ⟨by simp,?_⟩;refine Zn4 h rfl (fun _ h=>?_) fun _ h=>?_
 ·refine Zl2 7 ?_;dsimp only [e66,go_sem];refine ⟨by simp,?_⟩;exact Zx4 (res:=fun (r:(Scene×Int))=>.tup [.agg (Scene.row r.1),.iv r.2]) ok66 h
 ·refine Zl2 6 ?_;dsimp only [e66,go_sem];refine ⟨by simp,?_⟩;obtain ⟨x4,ex4,h⟩:=Option.bind_eq_some_iff.1 h;refine Zz2 trivial (Zkf x1 x2 _ ex4) (hp:=(by first | rfl | simp [go_sem,hc2.pu])) (h:=?_);refine Zl2 2 ?_;dsimp only [e66,go_sem];refine ⟨by simp,?_⟩;refine Zn4 h rfl (fun _ h=>?_) fun _ h=>?_
  ·refine Zl2 6 ?_;dsimp only [e66,go_sem];refine ⟨by simp,?_⟩;exact Zx4 (res:=fun (r:(Scene×Int))=>.tup [.agg (Scene.row r.1),.iv r.2]) ok66 h
  ·refine Zl2 6 ?_;dsimp only [e66,go_sem];refine ⟨by simp,?_⟩;obtain ⟨x5,ex5,h⟩:=Option.bind_eq_some_iff.1 h;refine Zz2 trivial (Zag x1 x2 _ _ p2 hc2 _ ex5) (hp:=(by first | rfl | simp [go_sem,hc2.pu])) (h:=?_);refine Zl2 5 ?_;dsimp only [e66,go_sem];refine ⟨by simp,?_⟩;exact Zx4 (res:=fun (r:(Scene×Int))=>.tup [.agg (Scene.row r.1),.iv r.2]) ok66 h
set_option maxRecDepth 100000
set_option maxHeartbeats 4000000
def e32:EC:=.seq (.reg [(Qa 2 (.box 25 2 (.t 0))),(Qa 4 (.alloc 25 [.nl,.nl])),(Qa 5 (.mv (.c (.iv 0))))]) (.seq (.reg [(Qa 6 (.loadA 2 (.t 2))),(Qa 7 (.mv (.t 1))),(Qa 8 (.call 66 [(.t 6),(.t 7),(.c (.clo 67 []))])),(Qa 9 (.ext (.t 8) 0)),(Qa 10 (.ext (.t 8) 1)),(Qb (.store 2 (.t 4) (.t 9))),(Qa 5 (.mv (.t 10)))]) (.ret))
theorem ok32:FnOK Tryz.prog 32 Tryz.f32 e32 [.c 4 (some 2),.t 5] 2 9:=⟨by kernel_rfl,⟨_,rfl,by kernel_rfl⟩,by kernel_rfl,by kernel_rfl⟩
noncomputable def Zdg (x1:Scene) (x2:Int):Option (Scene×Int):=
 (Zbg x1 x2 ((fun z=>Zcd z))).bind fun x3=>
 some (x3.1,x3.2)
theorem Zeg (x1:Scene) (x2:Int) (r:(Scene×Int)) (h:Zdg x1 x2=some r):Zq2 Tryz.prog 32 [.agg (Scene.row x1),.iv x2] (.tup [.agg (Scene.row r.1),.iv r.2]):=by
 refine Zu2 ok32 rfl rfl fun w0 H0=>?_
 rw [Zdg] at h
 refine Zl2 10 ?_;dsimp only [e32,go_sem];refine ⟨by simp,?_⟩;obtain ⟨x3,ex3,h⟩:=Option.bind_eq_some_iff.1 h;refine Zz2 trivial (Zcg x1 x2 _ _ ((fun z=>Zcd z)) ⟨by kernel_rfl,rfl,fun z r hz=>k_dine_Start z r hz⟩ _ ex3) (h:=?_);refine Zl2 5 ?_;dsimp only [e32,go_sem];refine ⟨by simp,?_⟩;exact Zx4 (res:=fun (r:(Scene×Int))=>.tup [.agg (Scene.row r.1),.iv r.2]) ok32 h
set_option maxRecDepth 100000
set_option maxHeartbeats 4000000
def e34:EC:=.seq (.reg [(Qa 2 (.box 25 2 (.t 0))),(Qa 4 (.alloc 25 [.nl,.nl])),(Qa 5 (.mv (.c (.iv 0))))]) (.seq (.reg [(Qa 6 (.loadA 2 (.t 2))),(Qa 7 (.mv (.t 1))),(Qa 8 (.call 66 [(.t 6),(.t 7),(.c (.clo 74 []))])),(Qa 9 (.ext (.t 8) 0)),(Qa 10 (.ext (.t 8) 1)),(Qb (.store 2 (.t 4) (.t 9))),(Qa 5 (.mv (.t 10)))]) (.ret))
theorem ok34:FnOK Tryz.prog 34 Tryz.f34 e34 [.c 4 (some 2),.t 5] 2 9:=⟨by kernel_rfl,⟨_,rfl,by kernel_rfl⟩,by kernel_rfl,by kernel_rfl⟩
noncomputable def Zfg (x1:Scene) (x2:Int):Option (Scene×Int):=
 (Zbg x1 x2 ((fun z=>Zbd z))).bind fun x3=>
 some (x3.1,x3.2)
theorem Zgg (x1:Scene) (x2:Int) (r:(Scene×Int)) (h:Zfg x1 x2=some r):Zq2 Tryz.prog 34 [.agg (Scene.row x1),.iv x2] (.tup [.agg (Scene.row r.1),.iv r.2]):=by
 refine Zu2 ok34 rfl rfl fun w0 H0=>?_
 rw [Zfg] at h
 refine Zl2 10 ?_;dsimp only [e34,go_sem];refine ⟨by simp,?_⟩;obtain ⟨x3,ex3,h⟩:=Option.bind_eq_some_iff.1 h;refine Zz2 trivial (Zcg x1 x2 _ _ ((fun z=>Zbd z)) ⟨by kernel_rfl,rfl,fun z r hz=>k_dine_Stop z r hz⟩ _ ex3) (h:=?_);refine Zl2 5 ?_;dsimp only [e34,go_sem];refine ⟨by simp,?_⟩;exact Zx4 (res:=fun (r:(Scene×Int))=>.tup [.agg (Scene.row r.1),.iv r.2]) ok34 h
set_option maxRecDepth 100000
set_option maxHeartbeats 4000000
def e69:EC:=.seq (.reg [(Qa 3 (.box 78 5 (.t 0))),(Qa 4 (.mv (.c .ff)))]) (.seq (.reg [(Qa 5 (.fld 0 (.t 3))),(Qa 6 (.load (.t 5))),(Qa 7 (.load (.t 1))),(Qa 8 (.bin .eql (.t 6) (.t 7))),(Qa 9 (.mv (.t 8))),(Qg 10 9 true (.fld 1 (.t 3))),(Qg 11 9 true (.load (.t 10))),(Qg 12 9 true (.load (.t 2))),(Qg 13 9 true (.bin .eql (.t 11) (.t 12))),(Qa 14 (.pick (.t 9) (.t 13) (.c .ff))),(Qa 4 (.mv (.t 14)))]) (.ret))
theorem ok69:FnOK Tryz.prog 69 Tryz.f69 e69 [.t 4] 3 12:=⟨by kernel_rfl,⟨_,rfl,by kernel_rfl⟩,by kernel_rfl,by kernel_rfl⟩
noncomputable def Zhg:Bool→Option Bool
| x4=>
 some x4
noncomputable def Zig (x1:Mail) (x2:Int) (x3:Int):Option Bool:=
 ifb (decide (x1.From=x2)) (
 Zhg (decide (x1.To=x3))) (
 Zhg false)
theorem Zjg (x1:Mail) (x2:Int) (x3:Int) (r:Bool) (h:Zig x1 x2 x3=some r):Zq2 Tryz.prog 69 [.agg (Mail.row x1),.elt (Z45 x2) 0,.elt (Z45 x3) 0] (.bv r):=by
 refine Zu2 ok69 rfl rfl fun w0 H0=>?_
 rw [Zig] at h
 refine Zl2 12 ?_;dsimp only [e69,go_sem];refine ⟨by simp,?_⟩;refine Zl4 (fun (x4:Bool)=>(⟨(an 4 (.bv x4::an 10 [])),[],[]⟩:St)) Zhg r ?_ fun J1=>?_
 ·intro x4 h;rw [Zhg] at h;(try dsimp only);exact Zx4 (res:=fun (r:Bool)=>.bv r) ok69 h
 ·refine Zw4 9 h rfl (fun _ h=>?_) fun _ h=>?_
  ·dsimp only [go_sem];refine Zl2 7 ?_;dsimp only [e69,go_sem];refine ⟨by simp,?_⟩;exact Zz4 J1 (s:=decide (x1.To=x3)) h
  ·dsimp only [go_sem];refine Zl2 7 ?_;dsimp only [e69,go_sem];refine ⟨by simp,?_⟩;exact Zz4 J1 (s:=false) h
set_option maxRecDepth 100000
set_option maxHeartbeats 4000000
def e72:EC:=.seq (.reg [(Qa 3 (.box 70 3 (.t 0))),(Qa 4 (.alloc 70 [.iv 0,.iv 0,.nl])),(Qa 5 (.mv (.c (.iv 0))))]) (.seq (.reg [(Qa 6 (.loadA 3 (.t 3))),(Qa 7 (.load (.t 1))),(Qa 8 (.loadA 3 (.t 2))),(Qa 9 (.call 73 [(.t 6),(.t 7),(.t 8)])),(Qa 10 (.ext (.t 9) 0)),(Qa 11 (.ext (.t 9) 1)),(Qb (.store 3 (.t 4) (.t 10))),(Qa 5 (.mv (.t 11)))]) (.ret))
theorem ok72:FnOK Tryz.prog 72 Tryz.f72 e72 [.c 4 (some 3),.t 5] 3 9:=⟨by kernel_rfl,⟨_,rfl,by kernel_rfl⟩,by kernel_rfl,by kernel_rfl⟩
noncomputable def Zkg (x1:Diner) (x2:Int) (x3:Msg):Option (Diner×Int):=
 (Zid x1 x2 x3).bind fun x4=>
 some (x4.1,x4.2)
theorem Zlg (x1:Diner) (x2:Int) (x3:Msg) (r:(Diner×Int)) (h:Zkg x1 x2 x3=some r):Zq2 Tryz.prog 72 [.agg (Diner.row x1),.elt (Z45 x2) 0,.elt (Msg.row x3) 0] (.tup [.agg (Diner.row r.1),.iv r.2]):=by
 refine Zu2 ok72 rfl rfl fun w0 H0=>?_
 rw [Zkg] at h
 refine Zl2 11 ?_;dsimp only [e72,go_sem];refine ⟨by simp,?_⟩;obtain ⟨x4,ex4,h⟩:=Option.bind_eq_some_iff.1 h;refine Zz2 trivial (k_dine_Get x1 x2 x3 _ ex4) (h:=?_);refine Zl2 5 ?_;dsimp only [e72,go_sem];refine ⟨by simp,?_⟩;exact Zx4 (res:=fun (r:(Diner×Int))=>.tup [.agg (Diner.row r.1),.iv r.2]) ok72 h
set_option maxRecDepth 100000
set_option maxHeartbeats 4000000
def e33:EC:=.seq (.reg [(Qa 3 (.box 25 2 (.t 0))),(Qa 4 (.box 3 1 (.t 1))),(Qa 5 (.box 3 1 (.t 2))),(Qa 6 (.alloc 25 [.nl,.nl])),(Qa 7 (.mv (.c (.iv 0))))]) (.seq (.seq (.reg [(Qa 11 (.loadA 2 (.t 3))),(Qa 12 (.call 12 [(.t 11)])),(Qa 8 (.mv (.t 12)))]) (.seq (.reg [(Qa 13 (.mv (.t 8))),(Qa 14 (.bin .neq (.t 13) (.c (.iv 0))))]) (.ite (.t 14) (.seq (.reg [(Qa 15 (.build [.nl,.nl] [])),(Qa 16 (.mv (.t 8))),(Qb (.store 2 (.t 6) (.t 15))),(Qa 7 (.mv (.t 16)))]) (.ret)) (.skip)))) (.seq (.seq (.reg [(Qa 17 (.loadA 2 (.t 3))),(Qa 18 (.load (.t 4))),(Qa 19 (.call 49 [(.t 17),(.t 18)])),(Qa 20 (.not (.t 19))),(Qa 21 (.mv (.t 20))),(Qg 22 21 false (.loadA 2 (.t 3))),(Qg 23 21 false (.load (.t 5))),(Qg 24 21 false (.call 49 [(.t 22),(.t 23)])),(Qg 25 21 false (.not (.t 24))),(Qa 26 (.pick (.t 21) (.c .tt) (.t 25)))]) (.ite (.t 26) (.seq (.reg [(Qa 27 (.build [.nl,.nl] [])),(Qb (.store 2 (.t 6) (.t 27))),(Qa 7 (.mv (.c (.iv 140))))]) (.ret)) (.skip))) (.seq (.reg [(Qa 28 (.fld 1 (.t 3))),(Qa 29 (.load (.t 28))),(Qa 30 (.mkf 69 [(.t 4),(.t 5)])),(Qa 31 (.call 68 [(.t 29),(.t 30)])),(Qa 9 (.mv (.t 31)))]) (.seq (.seq (.reg [(Qa 32 (.mv (.t 9))),(Qa 33 (.bin .lss (.t 32) (.c (.iv 0))))]) (.ite (.t 33) (.seq (.reg [(Qa 34 (.build [.nl,.nl] [])),(Qb (.store 2 (.t 6) (.t 34))),(Qa 7 (.mv (.c (.iv 141))))]) (.ret)) (.skip))) (.seq (.reg [(Qa 35 (.fld 1 (.t 3))),(Qa 36 (.load (.t 35))),(Qa 37 (.mv (.t 9))),(Qa 38 (.idx 5 (.t 36) (.t 37))),(Qa 39 (.fld 2 (.t 38))),(Qa 40 (.loadA 3 (.t 39))),(Qa 10 (.alloc 76 [.iv 0,.iv 0,.iv 0])),(Qb (.store 3 (.t 10) (.t 40)))]) (.seq (.drw [(Qa 41 (.fld 1 (.t 3))),(Qa 42 (.load (.t 41))),(Qa 43 (.mv (.t 9))),(Qa 44 (.slice 5 (.t 42) none (some (.t 43)))),(Qa 45 (.fld 1 (.t 3))),(Qa 46 (.load (.t 45))),(Qa 47 (.mv (.t 9))),(Qa 48 (.bin .add (.t 47) (.c (.iv 1)))),(Qa 49 (.slice 5 (.t 46) (some (.t 48)) none)),(Qa 50 (.bsl 23 1 2 [.nl] [(0,(.t 44)),(1,(.t 49))])),(Qa 51 (.call 70 [(.t 50)])),(Qa 52 (.fld 1 (.t 3))),(Qb (.store 1 (.t 52) (.t 51)))] [[],[0],[],[1,2],[],[4],[],[6],[5,7],[3,8],[9],[0,1,2,3,4,5,6,7,8,9,10],[11,10,10,0,1,2,3,4,5,6,7,8,9,10]] [[1],[0,3],[3],[1,2,9],[5],[4,8],[7],[6,8],[5,7,9],[3,8,10],[9,12],[12],[10,11]]) (.seq (.reg [(Qa 53 (.loadA 2 (.t 3))),(Qa 54 (.load (.t 5))),(Qa 55 (.mkf 72 [(.t 4),(.t 10)])),(Qa 56 (.call 71 [(.t 53),(.t 54),(.t 55)])),(Qa 57 (.ext (.t 56) 0)),(Qa 58 (.ext (.t 56) 1)),(Qb (.store 2 (.t 6) (.t 57))),(Qa 7 (.mv (.t 58)))]) (.ret))))))))
theorem ok33:FnOK Tryz.prog 33 Tryz.f33 e33 [.c 6 (some 2),.t 7] 3 56:=⟨by kernel_rfl,⟨_,rfl,by kernel_rfl⟩,by kernel_rfl,by kernel_rfl⟩
noncomputable def Zmg (x1:Scene) (x2:Int) (x3:Int) (x9:Mail):(List Mail)→Option (Scene×Int)
| x15=>
 (Z9g ((Scene.mk x1.Diners x15)) x3 ((fun z=>Zkg z x2 x9.Msg))).bind fun x16=>
 some (x16.1,x16.2)
noncomputable def Zng (x1:Scene) (x2:Int) (x3:Int):Bool→Option (Scene×Int)
| x7=>
 ifb x7 (
 some ((Scene.mk (([]:(List Diner))) (([]:(List Mail)))),140)) (
 (Zbf x1.Mail ((fun z=>Zig z x2 x3))).bind fun x8=>
 ifb (decide (x8<0)) (
 some ((Scene.mk (([]:(List Diner))) (([]:(List Mail)))),141)) (
 (at_ x1.Mail x8).bind fun x9=>
 (sub_ x1.Mail 0 x8).bind fun x10=>
 (sub_ x1.Mail (wr (x8+1)) (ln Mail.row x1.Mail)).bind fun x11=>
 (Z3g ([x10,x11])).bind fun x14=>
 (Zmg x1 x2 x3 x9) x14))
noncomputable def Zog (x1:Scene) (x2:Int) (x3:Int):Option (Scene×Int):=
 (Zgf x1).bind fun x4=>
 ifb (!decide (x4=0)) (
 some ((Scene.mk (([]:(List Diner))) (([]:(List Mail)))),x4)) (
 (Zjf x1 x2).bind fun x5=>
 ifb (!x5) (
 (Zng x1 x2 x3) true) (
 (Zjf x1 x3).bind fun x6=>
 (Zng x1 x2 x3) (!x6)))
theorem Zpg (x1:Scene) (x2:Int) (x3:Int) (r:(Scene×Int)) (h:Zog x1 x2 x3=some r):Zq2 Tryz.prog 33 [.agg (Scene.row x1),.iv x2,.iv x3] (.tup [.agg (Scene.row r.1),.iv r.2]):=by
 refine Zu2 ok33 rfl rfl fun w0 H0=>?_
 rw [Zog] at h
 refine Zl2 12 ?_;dsimp only [e33,go_sem];refine ⟨by simp,?_⟩;obtain ⟨x4,ex4,h⟩:=Option.bind_eq_some_iff.1 h;refine Zz2 trivial (Zhf x1 _ ex4) (h:=?_);refine Zl2 7 ?_;dsimp only [e33,go_sem];refine ⟨by simp,?_⟩;refine Zn4 h rfl (fun _ h=>?_) fun _ h=>?_
 ·refine Zl2 7 ?_;dsimp only [e33,go_sem];refine ⟨by simp,?_⟩;exact Zx4 (res:=fun (r:(Scene×Int))=>.tup [.agg (Scene.row r.1),.iv r.2]) ok33 h
 ·refine Zl2 6 ?_;dsimp only [e33,go_sem];refine ⟨by simp,?_⟩;obtain ⟨x5,ex5,h⟩:=Option.bind_eq_some_iff.1 h;refine Zz2 trivial (Zkf x1 x2 _ ex5) (h:=?_);refine Zl2 2 ?_;dsimp only [e33,go_sem];refine ⟨by simp,?_⟩;refine Zl4 (fun (x7:Bool)=>(⟨(an 3 (.ptr 0 0 :: .ptr 1 0 :: .ptr 2 0 :: .ptr 3 0::an 19 (.bv x7::an 32 []))),[some ⟨25,[.sl 3 (List.map Diner.row x1.Diners),.sl 5 (List.map Mail.row x1.Mail)]⟩,some ⟨3,[.iv x2]⟩,some ⟨3,[.iv x3]⟩,some ⟨25,[.nl,.nl]⟩],[]⟩:St)) (Zng x1 x2 x3) r ?_ fun J1=>?_
  ·intro x7 h;rw [Zng] at h;(try dsimp only);refine Zn4 h rfl (fun _ h=>?_) fun _ h=>?_
   ·refine Zl2 6 ?_;dsimp only [e33,go_sem];refine ⟨by simp,?_⟩;exact Zx4 (res:=fun (r:(Scene×Int))=>.tup [.agg (Scene.row r.1),.iv r.2]) ok33 h
   ·refine Zl2 6 ?_;dsimp only [e33,go_sem];refine ⟨by simp,?_⟩;obtain ⟨x8,ex8,h⟩:=Option.bind_eq_some_iff.1 h;refine Z25 trivial (((Z05.refl _).block 1 rfl rfl).block 2 rfl rfl) (Zcf x1.Mail _ _ ((fun z=>Zig z x2 x3)) ⟨by kernel_rfl,rfl,fun z r hz=>Zjg z x2 x3 r hz⟩ _ ex8) (h:=?_);refine Zl2 8 ?_;dsimp only [e33,go_sem];refine ⟨by simp,?_⟩;refine Zn4 h rfl (fun _ h=>?_) fun _ h=>?_
    ·refine Zl2 6 ?_;dsimp only [e33,go_sem];refine ⟨by simp,?_⟩;exact Zx4 (res:=fun (r:(Scene×Int))=>.tup [.agg (Scene.row r.1),.iv r.2]) ok33 h
    ·refine Zl2 6 ?_;dsimp only [e33,go_sem];refine ⟨by simp,?_⟩;obtain ⟨x9,ex9,h⟩:=Option.bind_eq_some_iff.1 h;refine Zq4 Mail.row ex9 trivial rfl rfl rfl ?_;refine Zl2 6 ?_;dsimp only [e33,go_sem];refine ⟨by simp,?_⟩
     refine Zl4 (fun (x15:(List Mail))=>(⟨(an 3 (.ptr 0 0 :: .ptr 1 0 :: .ptr 2 0 :: .ptr 3 0::an 3 (.ptr 4 0::an 48 []))),[some ⟨25,[.sl 3 (List.map Diner.row x1.Diners),.osl 1]⟩,some ⟨3,[.iv x2]⟩,some ⟨3,[.iv x3]⟩,some ⟨25,[.nl,.nl]⟩,some ⟨76,[.iv x9.Msg.Kind,.iv x9.Msg.Epoch,.iv x9.Msg.Num]⟩],[none,some ⟨78,5,List.map Mail.row x15⟩]⟩:St)) (Zmg x1 x2 x3 x9) r ?_ fun J2=>?_
     ·intro x15 h;rw [Zmg] at h;(try dsimp only);refine Zl2 5 ?_;dsimp only [e33,go_sem];refine ⟨by simp,?_⟩;refine Z83 1 rfl ?_;dsimp only [go_sem];refine V_sealB 1 rfl rfl ?_;dsimp only [go_sem];refine V_sealB 4 rfl rfl ?_;dsimp only [go_sem];obtain ⟨x16,ex16,h⟩:=Option.bind_eq_some_iff.1 h;refine Zz2 trivial (Zag ((Scene.mk x1.Diners x15)) x3 _ _ ((fun z=>Zkg z x2 x9.Msg)) ⟨by kernel_rfl,rfl,fun z r hz=>Zlg z x2 x9.Msg r hz⟩ _ ex16) (h:=?_);refine Zl2 5 ?_;dsimp only [e33,go_sem]
      refine ⟨by simp,?_⟩;exact Zx4 (res:=fun (r:(Scene×Int))=>.tup [.agg (Scene.row r.1),.iv r.2]) ok33 h
     ·refine Zh3 (by kernel_rfl) fun all hall hs hnap haf=>?_;dsimp only [go_sem]
      refine Zi5 hall hs haf hnap 7 6 [true,true,true,false,true,true,true,true,false,false,false,false,false] (⟨(an 3 (.ptr 0 0 :: .ptr 1 0 :: .ptr 2 0 :: .ptr 3 0 :: .any :: .any :: .iv x8 :: .ptr 4 0::an 15 (.bv x7 :: .any :: .ptr 0 1 :: .sl 5 (List.map Mail.row x1.Mail) :: .clo 69 [.ptr 1 0,.ptr 2 0] :: .iv x8 :: .iv x8 :: .bv (decide (x8<0)) :: .any :: .ptr 0 1 :: .sl 5 (List.map Mail.row x1.Mail) :: .iv x8 :: .elt [.iv x9.From,.iv x9.To,.iv x9.Msg.Kind,.iv x9.Msg.Epoch,.iv x9.Msg.Num] 0 :: .elt [.iv x9.From,.iv x9.To,.iv x9.Msg.Kind,.iv x9.Msg.Epoch,.iv x9.Msg.Num] 2 :: .agg [.iv x9.Msg.Kind,.iv x9.Msg.Epoch,.iv x9.Msg.Num] :: .ptr 0 1 :: .sl 5 (List.map Mail.row x1.Mail) :: .iv x8 :: .any :: .ptr 0 1 :: .sl 5 (List.map Mail.row x1.Mail) :: .iv x8 :: .iv (wr (x8+1))::an 10 []))),[some ⟨25,[.sl 3 (List.map Diner.row x1.Diners),.sl 5 (List.map Mail.row x1.Mail)]⟩,some ⟨3,[.iv x2]⟩,some ⟨3,[.iv x3]⟩,some ⟨25,[.nl,.nl]⟩,some ⟨76,[.iv x9.Msg.Kind,.iv x9.Msg.Epoch,.iv x9.Msg.Num]⟩],[]⟩:St) (by kernel_rfl) ?_
      obtain ⟨x10,ex10,h⟩:=Option.bind_eq_some_iff.1 h;obtain ⟨x11,ex11,h⟩:=Option.bind_eq_some_iff.1 h;refine Zu3 3 8 rfl ?_ ?_
      ·refine Zb5 Mail.row ex10 hall rfl trivial rfl rfl rfl rfl ?_;dsimp only [go_sem];refine Zt3 8 rfl ?_;refine Zb5 Mail.row ex11 hall rfl trivial rfl rfl rfl rfl ?_;dsimp only [go_sem];refine Zt3 9 rfl ?_;refine GO_bslS hall rfl trivial rfl trivial ?_;dsimp only [go_sem];refine Zt3 10 rfl ?_;obtain ⟨x14,ex14,h⟩:=Option.bind_eq_some_iff.1 h;refine GO_callO hall rfl trivial (Z4g ([x10,x11]) _ ex14) (h:=?_);dsimp only [go_sem];refine Zh5 hall hs haf hnap 1 1 ?_;dsimp only [go_sem];refine ⟨by simp,?_⟩;refine Zt3 12 rfl ?_
       refine Zy3 hall rfl trivial ?_;dsimp only [go_sem];refine Zs3 rfl ?_ _;exact Zz4 J2 (s:=x14) h
      ·refine Zb5 Mail.row ex11 hall rfl trivial rfl rfl rfl rfl ?_;dsimp only [go_sem];refine Zt3 3 rfl ?_;refine Zb5 Mail.row ex10 hall rfl trivial rfl rfl rfl rfl ?_;dsimp only [go_sem];refine Zt3 9 rfl ?_;refine GO_bslS hall rfl trivial rfl trivial ?_;dsimp only [go_sem];refine Zt3 10 rfl ?_;obtain ⟨x14,ex14,h⟩:=Option.bind_eq_some_iff.1 h;refine GO_callO hall rfl trivial (Z4g ([x10,x11]) _ ex14) (h:=?_);dsimp only [go_sem];refine Zh5 hall hs haf hnap 1 1 ?_;dsimp only [go_sem];refine ⟨by simp,?_⟩;refine Zt3 12 rfl ?_
       refine Zy3 hall rfl trivial ?_;dsimp only [go_sem];refine Zs3 rfl ?_ _;exact Zz4 J2 (s:=x14) h
  ·refine Zw4 21 h rfl (fun _ h=>?_) fun _ h=>?_
   ·dsimp only [go_sem];refine Zl2 6 ?_;dsimp only [e33,go_sem];refine ⟨by simp,?_⟩;exact Zz4 J1 (s:=true) h
   ·dsimp only [go_sem];refine Zl2 2 ?_;dsimp only [e33,go_sem];refine ⟨by simp,?_⟩;obtain ⟨x6,ex6,h⟩:=Option.bind_eq_some_iff.1 h;refine Zz2 trivial (Zkf x1 x3 _ ex6) (h:=?_);refine Zl2 3 ?_;dsimp only [e33,go_sem];refine ⟨by simp,?_⟩;exact Zz4 J1 (s:=!x6) h
set_option maxRecDepth 100000
set_option maxHeartbeats 4000000
def e8:EC:=.seq (.reg [(Qa 2 (.box 25 2 (.t 0))),(Qa 3 (.box 27 3 (.t 1))),(Qa 4 (.alloc 25 [.nl,.nl])),(Qa 5 (.mv (.c (.iv 0))))]) (.seq (.seq (.reg [(Qa 6 (.fld 0 (.t 3))),(Qa 7 (.load (.t 6)))]) (.blk 0 (.seq (.reg [(Qa 9 (.bin .eql (.t 7) (.c (.iv 0)))),(Qa 8 (.mv (.t 9)))]) (.ite (.t 8) (.seq (.reg [(Qa 10 (.loadA 2 (.t 2))),(Qa 11 (.fld 1 (.t 3))),(Qa 12 (.load (.t 11))),(Qa 13 (.call 32 [(.t 10),(.t 12)])),(Qa 14 (.ext (.t 13) 0)),(Qa 15 (.ext (.t 13) 1)),(Qb (.store 2 (.t 4) (.t 14))),(Qa 5 (.mv (.t 15)))]) (.ret)) (.seq (.reg [(Qa 17 (.bin .eql (.t 7) (.c (.iv 1)))),(Qa 16 (.mv (.t 17)))]) (.ite (.t 16) (.seq (.reg [(Qa 18 (.loadA 2 (.t 2))),(Qa 19 (.fld 1 (.t 3))),(Qa 20 (.load (.t 19))),(Qa 21 (.call 34 [(.t 18),(.t 20)])),(Qa 22 (.ext (.t 21) 0)),(Qa 23 (.ext (.t 21) 1)),(Qb (.store 2 (.t 4) (.t 22))),(Qa 5 (.mv (.t 23)))]) (.ret)) (.skip))))))) (.seq (.reg [(Qa 24 (.loadA 2 (.t 2))),(Qa 25 (.fld 1 (.t 3))),(Qa 26 (.load (.t 25))),(Qa 27 (.fld 2 (.t 3))),(Qa 28 (.load (.t 27))),(Qa 29 (.call 33 [(.t 24),(.t 26),(.t 28)])),(Qa 30 (.ext (.t 29) 0)),(Qa 31 (.ext (.t 29) 1)),(Qb (.store 2 (.t 4) (.t 30))),(Qa 5 (.mv (.t 31)))]) (.ret)))
theorem ok8:FnOK Tryz.prog 8 Tryz.f8 e8 [.c 4 (some 2),.t 5] 2 30:=⟨by kernel_rfl,⟨_,rfl,by kernel_rfl⟩,by kernel_rfl,by kernel_rfl⟩
noncomputable def Zqg (x1:Scene) (x2:narthexlaw14_Act):Option (Scene×Int):=
 ifb (decide (x2.K=0)) (
 (Zdg x1 x2.A).bind fun x3=>
 some (x3.1,x3.2)) (
 ifb (decide (x2.K=1)) (
 (Zfg x1 x2.A).bind fun x4=>
 some (x4.1,x4.2)) (
 (Zog x1 x2.A x2.B).bind fun x5=>
 some (x5.1,x5.2)))
theorem Zrg (x1:Scene) (x2:narthexlaw14_Act) (r:(Scene×Int)) (h:Zqg x1 x2=some r):Zq2 Tryz.prog 8 [.agg (Scene.row x1),.agg (narthexlaw14_Act.row x2)] (.tup [.agg (Scene.row r.1),.iv r.2]):=by
 refine Zu2 ok8 rfl rfl fun w0 H0=>?_
 rw [Zqg] at h
 refine Zl2 19 ?_;dsimp only [e8,go_sem];refine ⟨by simp,?_⟩;refine Zn4 h rfl (fun _ h=>?_) fun _ h=>?_
 ·refine Zl2 5 ?_;dsimp only [e8,go_sem];refine ⟨by simp,?_⟩;obtain ⟨x3,ex3,h⟩:=Option.bind_eq_some_iff.1 h;refine Zz2 trivial (Zeg x1 x2.A _ ex3) (h:=?_);refine Zl2 5 ?_;dsimp only [e8,go_sem];refine ⟨by simp,?_⟩;exact Zx4 (res:=fun (r:(Scene×Int))=>.tup [.agg (Scene.row r.1),.iv r.2]) ok8 h
 ·refine Zl2 5 ?_;dsimp only [e8,go_sem];refine ⟨by simp,?_⟩;refine Zn4 h rfl (fun _ h=>?_) fun _ h=>?_
  ·refine Zl2 5 ?_;dsimp only [e8,go_sem];refine ⟨by simp,?_⟩;obtain ⟨x4,ex4,h⟩:=Option.bind_eq_some_iff.1 h;refine Zz2 trivial (Zgg x1 x2.A _ ex4) (h:=?_);refine Zl2 5 ?_;dsimp only [e8,go_sem];refine ⟨by simp,?_⟩;exact Zx4 (res:=fun (r:(Scene×Int))=>.tup [.agg (Scene.row r.1),.iv r.2]) ok8 h
  ·refine Zl2 9 ?_;dsimp only [e8,go_sem];refine ⟨by simp,?_⟩;obtain ⟨x5,ex5,h⟩:=Option.bind_eq_some_iff.1 h;refine Zz2 trivial (Zpg x1 x2.A x2.B _ ex5) (h:=?_);refine Zl2 5 ?_;dsimp only [e8,go_sem];refine ⟨by simp,?_⟩;exact Zx4 (res:=fun (r:(Scene×Int))=>.tup [.agg (Scene.row r.1),.iv r.2]) ok8 h
set_option maxRecDepth 100000
set_option maxHeartbeats 4000000
def e9:EC:=.seq (.reg [(Qa 1 (.box 25 2 (.t 0))),(Qa 2 (.alloc 25 [.nl,.nl]))]) (.seq (.drw [(Qa 3 (.fld 0 (.t 1))),(Qa 4 (.load (.t 3))),(Qa 5 (.call 35 [(.t 4)])),(Qa 6 (.bsl 78 5 0 [.iv 0,.iv 0,.iv 0,.iv 0,.iv 0] [])),(Qa 7 (.fld 1 (.t 1))),(Qa 8 (.load (.t 7))),(Qa 9 (.app 78 5 40 (.t 6) (.t 8))),(Qa 10 (.build [.nl,.nl] [(0,1,(.t 5)),(1,1,(.t 9))])),(Qb (.store 2 (.t 2) (.t 10)))] [[],[0],[1],[],[],[4],[3,5,2],[2,6],[7,6,0,1,2,3,4,5,6,7]] [[1],[0,2],[1,7],[6],[5],[4,6],[3,5,7],[2,6,8],[7]]) (.ret))
theorem ok9:FnOK Tryz.prog 9 Tryz.f9 e9 [.c 2 (some 2)] 1 10:=⟨by kernel_rfl,⟨_,rfl,by kernel_rfl⟩,by kernel_rfl,by kernel_rfl⟩
noncomputable def Zsg:((List Diner)×(List Mail))→Option Scene
| (x5,x6)=>
 some (Scene.mk x5 x6)
noncomputable def Ztg (x1:Scene):Option Scene:=
 (Zx8 x1.Diners).bind fun x2=>
 (Za4 40 (([]:List Mail)) x1.Mail).bind fun x4=>
 Zsg (x2,x4)
theorem Zug (x1:Scene) (r:Scene) (h:Ztg x1=some r):Zq2 Tryz.prog 9 [.agg (Scene.row x1)] (.agg (Scene.row r)):=by
 refine Zu2 ok9 rfl rfl fun w0 H0=>?_
 rw [Ztg] at h
 refine Zl2 6 ?_;dsimp only [e9,go_sem];refine ⟨by simp,?_⟩;refine Zl4 (fun ((x5,x6):((List Diner)×(List Mail)))=>(⟨(.any :: .any :: .ptr 1 0::an 8 []),[none,some ⟨25,[.sl 3 (List.map Diner.row x5),.osl 1]⟩],[none,some ⟨78,5,List.map Mail.row x6⟩]⟩:St)) Zsg r ?_ fun J1=>?_
 ·rintro ⟨x5,x6⟩ h;rw [Zsg] at h;(try dsimp only);refine Z83 1 rfl ?_;dsimp only [go_sem];exact Zx4 (res:=fun (r:Scene)=>.agg (Scene.row r)) ok9 h
 ·refine Zh3 (by kernel_rfl) fun all hall hs hnap haf=>?_;dsimp only [go_sem];refine Zh5 hall hs haf hnap 4 5 ?_;dsimp only [go_sem];refine ⟨by simp,?_⟩;obtain ⟨x2,ex2,h⟩:=Option.bind_eq_some_iff.1 h;refine Zu3 2 3 rfl ?_ ?_
  ·refine Zz3 hall rfl trivial (Zz8 x1.Diners _ ex2) (h:=?_);dsimp only [go_sem];refine Zt3 3 rfl ?_;refine Zy3 hall rfl trivial ?_;dsimp only [go_sem];refine Zt3 6 rfl ?_;obtain ⟨x4,ex4,h⟩:=Option.bind_eq_some_iff.1 h;refine Zu4 Mail.row ex4 hall rfl trivial rfl rfl rfl ?_;dsimp only [go_sem];refine Zh5 hall hs haf hnap 1 1 ?_;dsimp only [go_sem];refine ⟨by simp,?_⟩;refine Zt3 8 rfl ?_;refine Zy3 hall rfl trivial ?_;dsimp only [go_sem];refine Zs3 rfl ?_ _;exact Zz4 J1 (s:=(x2,x4)) h
  ·refine Zy3 hall rfl trivial ?_;dsimp only [go_sem];refine Zt3 2 rfl ?_;refine Zz3 hall rfl trivial (Zz8 x1.Diners _ ex2) (h:=?_);dsimp only [go_sem];refine Zt3 6 rfl ?_;obtain ⟨x4,ex4,h⟩:=Option.bind_eq_some_iff.1 h;refine Zu4 Mail.row ex4 hall rfl trivial rfl rfl rfl ?_;dsimp only [go_sem];refine Zh5 hall hs haf hnap 1 1 ?_;dsimp only [go_sem];refine ⟨by simp,?_⟩;refine Zt3 8 rfl ?_;refine Zy3 hall rfl trivial ?_;dsimp only [go_sem];refine Zs3 rfl ?_ _;exact Zz4 J1 (s:=(x2,x4)) h
set_option maxRecDepth 100000
set_option maxHeartbeats 4000000
def Zvg:EC:=.seq (.seq (.reg [(Qa 11 (.mv (.t 5))),(Qa 12 (.mv (.t 0))),(Qa 13 (.len (.t 12))),(Qa 14 (.bin .lss (.t 11) (.t 13)))]) (.ite (.t 14) (.skip) (.exit 0))) (.seq (.blk 1 (.seq (.drw [(Qa 17 (.mv (.t 0))),(Qa 18 (.mv (.t 5))),(Qa 19 (.idx 5 (.t 17) (.t 18))),(Qa 20 (.loadA 5 (.t 19))),(Qa 21 (.mv (.t 1))),(Qa 22 (.mv (.t 5))),(Qa 23 (.idx 5 (.t 21) (.t 22))),(Qa 24 (.loadA 5 (.t 23))),(Qa 25 (.eqs true [true,true,true,true,true] (.t 20) (.t 24)))] [[],[],[0,1],[2],[],[],[4,5],[6],[3,7]] [[2],[2],[0,1,3],[2,8],[6],[6],[4,5,7],[6,8],[3,7]]) (.ite (.t 25) (.seq (.reg [(Qa 4 (.mv (.c .ff)))]) (.ret)) (.skip)))) (.reg [(Qa 15 (.mv (.t 5))),(Qa 16 (.bin .add (.t 15) (.c (.iv 1)))),(Qa 5 (.mv (.t 16)))]))
def e40:EC:=.seq (.reg [(Qa 4 (.mv (.c .ff)))]) (.seq (.seq (.reg [(Qa 6 (.mv (.t 0))),(Qa 7 (.len (.t 6))),(Qa 8 (.mv (.t 1))),(Qa 9 (.len (.t 8))),(Qa 10 (.bin .neq (.t 7) (.t 9)))]) (.ite (.t 10) (.seq (.reg [(Qa 4 (.mv (.c .ff)))]) (.ret)) (.skip))) (.seq (.seq (.reg [(Qa 5 (.mv (.c (.iv 0))))]) (.blk 0 (.loop Zvg))) (.seq (.reg [(Qa 4 (.mv (.c .tt)))]) (.ret))))
theorem ok40:FnOK Tryz.prog 40 Tryz.f40 e40 [.t 4] 2 24:=⟨by kernel_rfl,⟨_,rfl,by kernel_rfl⟩,by kernel_rfl,by kernel_rfl⟩
noncomputable def Zwg:Unit→Option Bool
| ()=>
 some true
noncomputable def Zxg (x1:(List Mail)) (x2:(List Mail)):Int→Option (Int ⊕ Bool)
| x6=>
 ifb (decide (x6<(ln Mail.row x1))) (
 (at_ x1 x6).bind fun x7=>
 (at_ x2 x6).bind fun x8=>
 ifb (!(decide (x7.From=x8.From)&&(decide (x7.To=x8.To)&&(decide (x7.Msg.Kind=x8.Msg.Kind)&&(decide (x7.Msg.Epoch=x8.Msg.Epoch)&&(decide (x7.Msg.Num=x8.Msg.Num)&&true)))))) (
 Option.map Sum.inr (some false)) (
 some (.inl (wr (x6+1))))) (
 Option.map Sum.inr (Zwg ()))
noncomputable def Zyg (x1:(List Mail)) (x2:(List Mail)):Option Bool:=
 ifb (!decide ((ln Mail.row x1)=(ln Mail.row x2))) (
 some false) (
 loop (Zxg x1 x2) 0)
theorem Zzg (x1:(List Mail)) (x2:(List Mail)) (r:Bool) (h:Zyg x1 x2=some r):Zq2 Tryz.prog 40 [.sl 5 (List.map Mail.row x1),.sl 5 (List.map Mail.row x2)] (.bv r):=by
 refine Zu2 ok40 rfl rfl fun w0 H0=>?_
 rw [Zyg] at h
 refine Zl2 13 ?_;dsimp only [e40,Zvg,go_sem];refine ⟨by simp,?_⟩;refine Zn4 h rfl (fun _ h=>?_) fun _ h=>?_
 ·refine Zl2 4 ?_;dsimp only [e40,Zvg,go_sem];refine ⟨by simp,?_⟩;exact Zx4 (res:=fun (r:Bool)=>.bv r) ok40 h
 ·refine Zl2 6 ?_;dsimp only [e40,Zvg,go_sem];refine ⟨by simp,?_⟩;refine Zl4 (fun (_:Unit)=>(⟨(an 26 []),[],[]⟩:St)) Zwg r ?_ fun J1=>?_
  ·rintro ⟨⟩ h;rw [Zwg] at h;(try dsimp only);refine Zl2 4 ?_;dsimp only [e40,Zvg,go_sem];refine ⟨by simp,?_⟩;exact Zx4 (res:=fun (r:Bool)=>.bv r) ok40 h
  ·refine Zl2 1 ?_;dsimp only [e40,Zvg,go_sem];refine ⟨by simp,?_⟩;refine Zm4 h (fun (x6:Int)=>(⟨(.sl 5 (List.map Mail.row x1) :: .sl 5 (List.map Mail.row x2)::an 3 (.iv x6::an 20 [])),[],[]⟩:St)) (by simp [go_sem]) (by intro x6;first | rfl | simp [go_sem]) ?_;rintro n1 x6 y1 h hin1 hout1;rw [Zxg] at h;(try dsimp only);refine Zl2 8 ?_;dsimp only [e40,Zvg,go_sem];refine ⟨by simp,?_⟩;refine Zn4 h rfl (fun _ h=>?_) fun _ h=>?_
   ·refine Zl2 4 ?_;dsimp only [e40,Zvg,go_sem];refine ⟨by simp,?_⟩;refine Zh3 (by kernel_rfl) fun all hall hs hnap haf=>?_;dsimp only [go_sem];refine Zh5 hall hs haf hnap 4 5 ?_;dsimp only [go_sem];refine ⟨by simp,?_⟩;obtain ⟨x7,ex7,h⟩:=Option.bind_eq_some_iff.1 h;refine Zr4 hall hs haf hnap 2 Mail.row ex7 rfl rfl trivial rfl rfl rfl rfl ?_;refine Zh5 hall hs haf hnap 1 3 ?_;dsimp only [go_sem];refine ⟨by simp,?_⟩;obtain ⟨x8,ex8,h⟩:=Option.bind_eq_some_iff.1 h;refine Zr4 hall hs haf hnap 6 Mail.row ex8 rfl rfl trivial rfl rfl rfl rfl ?_
    refine Zh5 hall hs haf hnap 2 0 ?_;dsimp only [go_sem];refine ⟨by simp,?_⟩;refine Zs3 rfl ?_ _;refine Zn4 h rfl (fun _ h=>?_) fun _ h=>?_
    ·refine Zl2 4 ?_;dsimp only [e40,Zvg,go_sem];refine ⟨by simp,?_⟩;exact Zx4 (res:=fun (r:Bool)=>.bv r) ok40 (Zk4 h hout1)
    ·refine Zl2 7 ?_;dsimp only [e40,Zvg,go_sem];refine ⟨by simp,?_⟩;exact Zy4 h hin1
   ·refine Zl2 1 ?_;dsimp only [e40,Zvg,go_sem];refine ⟨by simp,?_⟩;exact Zz4 J1 (s:=()) (Zk4 h hout1)
set_option maxRecDepth 100000
set_option maxHeartbeats 4000000
def e11:EC:=.seq (.reg [(Qa 2 (.box 25 2 (.t 0))),(Qa 3 (.box 25 2 (.t 1))),(Qa 4 (.mv (.c .ff)))]) (.seq (.reg [(Qa 5 (.fld 0 (.t 2))),(Qa 6 (.load (.t 5))),(Qa 7 (.fld 0 (.t 3))),(Qa 8 (.load (.t 7))),(Qa 9 (.call 39 [(.t 6),(.t 8)])),(Qa 10 (.mv (.t 9))),(Qg 11 10 true (.fld 1 (.t 2))),(Qg 12 10 true (.load (.t 11))),(Qg 13 10 true (.fld 1 (.t 3))),(Qg 14 10 true (.load (.t 13))),(Qg 15 10 true (.call 40 [(.t 12),(.t 14)])),(Qa 16 (.pick (.t 10) (.t 15) (.c .ff))),(Qa 4 (.mv (.t 16)))]) (.ret))
theorem ok11:FnOK Tryz.prog 11 Tryz.f11 e11 [.t 4] 2 15:=⟨by kernel_rfl,⟨_,rfl,by kernel_rfl⟩,by kernel_rfl,by kernel_rfl⟩
noncomputable def Z0h:Bool→Option Bool
| x5=>
 some x5
noncomputable def Z1h (x1:Scene) (x2:Scene):Option Bool:=
 (Ze8 x1.Diners x2.Diners).bind fun x3=>
 ifb x3 (
 (Zyg x1.Mail x2.Mail).bind fun x4=>
 Z0h x4) (
 Z0h false)
theorem k_narthexref14_Same (x1:Scene) (x2:Scene) (r:Bool) (h:Z1h x1 x2=some r):Zq2 Tryz.prog 11 [.agg (Scene.row x1),.agg (Scene.row x2)] (.bv r):=by
 refine Zu2 ok11 rfl rfl fun w0 H0=>?_
 rw [Z1h] at h
 refine Zl2 12 ?_;dsimp only [e11,go_sem];refine ⟨by simp,?_⟩;obtain ⟨x3,ex3,h⟩:=Option.bind_eq_some_iff.1 h;refine Zz2 trivial (Zf8 x1.Diners x2.Diners _ ex3) (h:=?_);refine Zl2 1 ?_;dsimp only [e11,go_sem];refine ⟨by simp,?_⟩;refine Zl4 (fun (x5:Bool)=>(⟨(an 4 (.bv x5::an 12 [])),[],[]⟩:St)) Z0h r ?_ fun J1=>?_
 ·intro x5 h;rw [Z0h] at h;(try dsimp only);exact Zx4 (res:=fun (r:Bool)=>.bv r) ok11 h
 ·refine Zw4 10 h rfl (fun _ h=>?_) fun _ h=>?_
  ·dsimp only [go_sem];refine Zl2 4 ?_;dsimp only [e11,go_sem];refine ⟨by simp,?_⟩;obtain ⟨x4,ex4,h⟩:=Option.bind_eq_some_iff.1 h;refine Zz2 trivial (Zzg x1.Mail x2.Mail _ ex4) (h:=?_);refine Zl2 3 ?_;dsimp only [e11,go_sem];refine ⟨by simp,?_⟩;exact Zz4 J1 (s:=x4) h
  ·dsimp only [go_sem];refine Zl2 8 ?_;dsimp only [e11,go_sem];refine ⟨by simp,?_⟩;exact Zz4 J1 (s:=false) h
theorem Z2h (l:List Mail) (p:Mail→Option Bool) (q:Mail→Bool) (hl:l.length≤4000000000000000000) (hp:∀x∈l,p x=some (q x)):Zbf l p=some (plc (l.findIdx? q)):=by
 unfold Zbf
 refine Zx5 l _ q hl (fun k x hx=>?_) ?_
 ·simp only [Zaf,Zq5 hx,Zk5,Zo5 hx,Option.bind_some,hp x (List.mem_iff_getElem?.2 ⟨k,hx⟩),Zt5 hx hl]
  cases q x<;>rfl
 ·simp only [Zaf,Zr5,Zl5,Z9f,Option.map_some]
theorem Z3h (l:List Mail) (p:Mail→Option Bool) (q:Mail→Bool) (hl:l.length≤4000000000000000000) (hp:∀x∈l,p x=some (q x)):Zdf l p=some (l.any q):=by
 unfold Zdf
 rw [Z2h l p q hl hp,Option.bind_some,Zv5,Zy5]
theorem Z4h (l:List Diner) (p:Diner→Option Bool) (q:Diner→Bool) (hl:l.length≤4000000000000000000) (hp:∀x∈l,p x=some (q x)):Z4f l p=some (plc (l.findIdx? q)):=by
 unfold Z4f
 refine Zx5 l _ q hl (fun k x hx=>?_) ?_
 ·simp only [Z3f,Zq5 hx,Zk5,Zo5 hx,Option.bind_some,hp x (List.mem_iff_getElem?.2 ⟨k,hx⟩),Zt5 hx hl]
  cases q x<;>rfl
 ·simp only [Z3f,Zr5,Zl5,Z2f,Option.map_some]
theorem Z5h (l:List Diner) (p:Diner→Option Bool) (q:Diner→Bool) (hl:l.length≤4000000000000000000) (hp:∀x∈l,p x=some (q x)):Z6f l p=some (l.any q):=by
 unfold Z6f
 rw [Z4h l p q hl hp,Option.bind_some,Zv5,Zy5]
def Z6h:Scene:=⟨[],[]⟩
def Z7h (n:Nat) (m:Mail):Bool:=!(decide (min m.From m.To<0)||(decide ((n:Int)≤max m.From m.To)||decide (m.From=m.To)))
def okS (s:Scene):Bool:=(Zw9 s.Diners).2&&(s.Diners.all okD&&s.Mail.all (Z7h s.Diners.length))
theorem s_tCheck1 (m:Mail) (s:Scene):Zxe m s=some (!Z7h s.Diners.length m):=by
 simp only [Zxe,Zwe,Z7h,Z65,Bool.not_not]
 cases decide (min m.From m.To<0)<;>cases decide ((s.Diners.length:Int)≤max m.From m.To)<;>rfl
theorem s_tCheck (s:Scene) (hD:Zd9 s.Diners) (hM:s.Mail.length≤1000000):Zgf s=some (if okS s then 0 else 142):=by
 simp only [Zgf,s_Graph _ hD,Option.bind_some,Zff]
 rw [show okS s=((Zw9 s.Diners).2&&(s.Diners.all okD&&s.Mail.all (Z7h s.Diners.length))) from rfl]
 cases h1:(Zw9 s.Diners).2 with
 | false=>simp
 | true=>
   rw [Z5h s.Diners _ (fun d=>!okD d) (by have:=hD.1;omega) (fun d _=>by
    simp only [Zze,Z8e,Option.bind_some]
    cases okD d<;>rfl)]
   rw [Z3h s.Mail _ (fun m=>!Z7h s.Diners.length m) (by omega) (fun m _=>s_tCheck1 m s)]
   have e1:s.Diners.any (fun d=>!okD d)=!s.Diners.all okD:=Zq7 _ _ _ fun _=>rfl
   have e2:s.Mail.any (fun m=>!Z7h s.Diners.length m)=!s.Mail.all (Z7h s.Diners.length):=Zq7 _ _ _ fun _=>rfl
   rw [e1,e2]
   cases s.Diners.all okD<;>cases s.Mail.all (Z7h s.Diners.length)<;>rfl
def Z8h (s:Scene) (a:Int):Bool:=decide (0≤a)&&decide (a<s.Diners.length)
theorem s_there (s:Scene) (a:Int):Zjf s a=some (Z8h s a):=by
 simp only [Zjf,Zif,Z8h,Z65]
 cases decide (0≤a)<;>rfl
theorem s_Grow (n:Nat) (hn:n≤3000000):Zqf n=some []:=by
 have e0:wr (0-0)=0:=Zn5 (by omega) (by omega)
 have e1:wr ((n:Int)-0)=n:=by rw [Zn5 (by omega) (by omega)];omega
 simp only [Zqf,Zpf,Zof,e0,e1]
 rw [decide_eq_false (by omega),Zl5]
 by_cases h:0<n
 ·rw [decide_eq_true (by omega),Zk5]
  unfold apz_
  rw [if_pos ⟨by omega,by omega,by omega⟩,Option.bind_some]
  unfold sub_
  rw [if_pos ⟨by omega,by omega,by omega⟩]
  simp
 ·rw [decide_eq_false (by omega),Zl5]
theorem s_Concat (a b:List Mail) (ha:a.length≤1000000) (hb:b.length≤1000000):Z3g [a,b]=some (a++b):=by
 have g0:at_ [a,b] 0=some a:=rfl
 have g1:at_ [a,b] (wr (0+1))=some b:=by rw [Zn5 (by omega) (by omega)];rfl
 have l0:ln (Z55 5 Mail.row) [a,b]=2:=by rw [Z65];rfl
 have w1:wr (0+1)=1:=Zn5 (by omega) (by omega)
 have w2:wr (1+1)=2:=Zn5 (by omega) (by omega)
 have s1:wr (0+ln Mail.row a)=(a.length:Int):=by rw [Z65,Zn5 (by omega) (by omega)];omega
 have s2:wr ((a.length:Int)+ln Mail.row b)=((a.length+b.length:Nat):Int):=by rw [Z65,Zn5 (by omega) (by omega)];omega
 unfold Z3g
 rw [Ze4]
 dsimp only [Z2g]
 rw [l0,show decide ((0:Int)<2)=true from rfl,Zk5,g0,Option.bind_some,s1,decide_eq_false (by omega),Zl5]
 dsimp only [Z1g]
 rw [s1,w1,Ze4]
 dsimp only [Z2g]
 rw [l0,show decide ((1:Int)<2)=true from rfl,Zk5,←w1,g1,Option.bind_some,s2,decide_eq_false (by omega),Zl5]
 dsimp only [Z1g]
 rw [s2,w1,w2,Ze4]
 dsimp only [Z2g]
 rw [l0,show decide ((2:Int)<2)=false from rfl,Zl5]
 dsimp only [Z0g]
 rw [s_Grow _ (by omega),Option.bind_some]
 have k:loop (Zzf [a,b]) (0,[])=some (a++b):=by
  rw [Ze4]
  dsimp only [Zzf]
  rw [l0,show decide ((0:Int)<2)=true from rfl,Zk5,g0,Option.bind_some,Zp5 _ _ (by omega) (by simp;omega),Option.bind_some,List.nil_append,w1]
  dsimp only
  rw [Ze4]
  dsimp only [Zzf]
  rw [l0,show decide ((1:Int)<2)=true from rfl,Zk5,←w1,g1,Option.bind_some,Zp5 _ _ (by omega) (by omega),Option.bind_some,w1,w2]
  dsimp only
  rw [Ze4]
  dsimp only [Zzf]
  rw [l0,show decide ((2:Int)<2)=false from rfl,Zl5]
  rfl
 rw [k];rfl
def actS (s:Scene) (a:Int) (d:Diner):Scene:=⟨s.Diners.map fun x=>if x.ID=a then Zhe d else x,s.Mail++Zie d⟩
def actP (s:Scene) (a:Int) (r:Diner×Int):Scene×Int:=if r.2=0 then (if okD r.1 then (actS s a r.1,0) else (Z6h,130)) else (Z6h,r.2)
theorem okD_fireD {d:Diner} (h:okD d=true):(Zhe d).Sides.length≤64:=by
 have:=Zae h
 unfold Zhe
 split<;>simp<;>omega
theorem s_act (s:Scene) (a:Int) (p:Diner→Option (Diner×Int)) (q:Diner→Diner×Int) (hp:∀d,p d=some (q d)) (hD:Zd9 s.Diners) (hM:s.Mail.length≤900000) (d:Diner) (hd:at_ s.Diners a=some d):Z9g s a p=some (actP s a (q d)):=by
 simp only [Z9g,hd,Option.bind_some,hp,actP]
 by_cases h0:(q d).2=0
 ·simp only [h0,decide_true,Bool.not_true,Zl5,s_Fire,Option.bind_some,if_true]
  cases hk:okD (q d).1 with
  | false=>rfl
  | true=>
    have hl:=Zae hk
    have hf:=okD_fireD hk
    have hms:=Zje (q d).1.Sides (q d).1.ID (q d).1.Phase
    have hc:=s_Concat s.Mail (Zie (q d).1) (by omega) (by unfold Zie;omega)
    simp only [if_true,decide_true,Bool.not_true,Zl5,hc,Option.bind_some]
    refine Z39 s.Diners _ (fun pre=>((pre.length:Int),pre.map fun x=>if x.ID=a then Zhe (q d).1 else x)) _ (fun pre x post h=>?_) ?_
    ·have hx:=Z49 h
     have hm:=Z59 h
     have h1:=hD.1
     have h2:=hD.2 x (mid_mem h)
     dsimp only [Z8g]
     rw [Zq5 hx,Zk5,Zo5 hx,Option.bind_some,Z79,List.map_append]
     have step:∀z:Diner,z.Sides.length≤5000→Z7g (pre.length:Int) (pre.map fun x=>if x.ID=a then Zhe (q d).1 else x) z=some (.inl (((pre.length+1:Nat):Int),(pre.map fun x=>if x.ID=a then Zhe (q d).1 else x)++[z])):=fun z hz=>by
      dsimp only [Z7g]
      rw [Z9e z.Sides (by omega),Option.bind_some,Zp5 _ _ (by omega) (by simp;omega),Option.bind_some,Zs5 (by omega)]
     by_cases hi:x.ID=a
     ·rw [decide_eq_true hi,Zk5,step _ (by omega)]
      simp [hi]
     ·rw [decide_eq_false hi,Zl5,step _ h2]
      simp [hi]
    ·dsimp only [Z8g]
     rw [Zr5,Zl5]
     rfl
 ·simp only [h0,decide_false,Bool.not_false,Zk5,if_false]
  rfl
def Z9h (s:Scene) (a:Int) (q:Diner→Diner×Int):Scene×Int:=
 if okS s then (if Z8h s a then (match at_ s.Diners a with | some d=>actP s a (q d) | none=>(Z6h,140)) else (Z6h,140)) else (Z6h,142)
theorem Zah {s:Scene} {a:Int} (h:Z8h s a=true):∃d,at_ s.Diners a=some d∧s.Diners[a.toNat]?=some d:=by
 simp only [Z8h,Bool.and_eq_true,decide_eq_true_eq] at h
 exact at_lt h.1 h.2
theorem s_turn (s:Scene) (a:Int) (p:Diner→Option (Diner×Int)) (q:Diner→Diner×Int) (hp:∀d,p d=some (q d)) (hD:Zd9 s.Diners) (hM:s.Mail.length≤900000):Zbg s a p=some (Z9h s a q):=by
 simp only [Zbg,s_tCheck s hD (by omega),Option.bind_some,Z9h]
 cases okS s with
 | false=>rfl
 | true=>
   simp only [if_true,decide_true,Bool.not_true,Zl5,s_there,Option.bind_some]
   cases h:Z8h s a with
   | false=>rfl
   | true=>
     obtain ⟨d,hd,_⟩:=Zah h
     simp only [Bool.not_true,Zl5,s_act s a p q hp hD hM d hd,hd,Option.bind_some,if_true]
theorem s_Start (s:Scene) (a:Int) (hD:Zd9 s.Diners) (hM:s.Mail.length≤900000):Zdg s a=some (Z9h s a fun d=>Zce d 0 1):=by
 simp only [Zdg,s_turn s a _ (fun d=>Zce d 0 1) s_dStart hD hM,Option.bind_some]
theorem s_Stop (s:Scene) (a:Int) (hD:Zd9 s.Diners) (hM:s.Mail.length≤900000):Zfg s a=some (Z9h s a fun d=>Zce d 2 0):=by
 simp only [Zfg,s_turn s a _ (fun d=>Zce d 2 0) s_dStop hD hM,Option.bind_some]
def Zbh (s:Scene) (a b:Int):Option Nat:=s.Mail.findIdx? fun m=>decide (m.From=a)&&decide (m.To=b)
def Zch (s:Scene) (a b:Int):Scene×Int:=
 if okS s then (if Z8h s a&&Z8h s b then (match Zbh s a b with
  | none=>(Z6h,141)
  | some i=>match s.Mail[i]?,at_ s.Diners b with
    | some m,some d=>actP ⟨s.Diners,s.Mail.take i++s.Mail.drop (i+1)⟩ b (getD' d a m.Msg)
    | _,_=>(Z6h,140)) else (Z6h,140)) else (Z6h,142)
theorem Zdh (s:Scene) (a b:Int) (hD:Zd9 s.Diners) (hM:s.Mail.length≤900000):Zog s a b=some (Zch s a b):=by
 simp only [Zog,s_tCheck s hD (by omega),Option.bind_some,Zch]
 cases okS s with
 | false=>rfl
 | true=>
   simp only [if_true,decide_true,Bool.not_true,Zl5,s_there,Option.bind_some]
   cases h:Z8h s a with
   | false=>rfl
   | true=>
     cases h':Z8h s b with
     | false=>rfl
     | true=>
       obtain ⟨d,hd,_⟩:=Zah h'
       simp only [Bool.not_true,Zl5,Zng,Bool.and_self,if_true]
       rw [Z2h s.Mail (fun z=>Zig z a b) (fun m=>decide (m.From=a)&&decide (m.To=b)) (by omega) (fun m _=>by
        simp only [Zig,Zhg]
        cases decide (m.From=a)<;>rfl),Option.bind_some,plc_neg]
       have hfi:=Zf9 (fun m:Mail=>decide (m.From=a)&&decide (m.To=b)) s.Mail
       unfold Zbh
       cases hf:s.Mail.findIdx? (fun m=>decide (m.From=a)&&decide (m.To=b)) with
       | none=>rfl
       | some i=>
         rw [hf] at hfi
         obtain ⟨m,hm,_⟩:=hfi
         have hlt:=(List.getElem?_eq_some_iff.1 hm).1
         have e1:sub_ s.Mail 0 (i:Int)=some (s.Mail.take i):=by
          unfold sub_
          rw [if_pos ⟨by omega,by omega,by omega⟩];simp
         have e2:sub_ s.Mail (wr ((i:Int)+1)) (ln Mail.row s.Mail)=some (s.Mail.drop (i+1)):=by
          rw [Zs5 (by omega),Z65]
          unfold sub_
          rw [if_pos ⟨by omega,by omega,by omega⟩];simp
         simp only [Option.isNone_some,Zl5,plc,Zo5 hm,Option.bind_some,e1,e2,hm,hd]
         rw [s_Concat _ _ (by simp;omega) (by simp;omega),Option.bind_some]
         simp only [Zmg]
         rw [s_act ⟨s.Diners,s.Mail.take i++s.Mail.drop (i+1)⟩ b _ (fun d=>getD' d a m.Msg) (fun d=>by simp only [Zkg,s_Get,Option.bind_some]) hD (by simp;omega) d hd]
         rfl
def Zeh (s:Scene) (k a b:Int):Scene×Int:=if k=0 then Z9h s a (fun d=>Zce d 0 1) else if k=1 then Z9h s a (fun d=>Zce d 2 0) else Zch s a b
theorem s_act14 (s:Scene) (k a b:Int) (hD:Zd9 s.Diners) (hM:s.Mail.length≤900000):Zqg s ⟨k,a,b⟩=some (Zeh s k a b):=by
 simp only [Zqg,Zeh,s_Start s a hD hM,s_Stop s a hD hM,Zdh s a b hD hM,Option.bind_some]
 by_cases h0:k=0
 ·simp [h0]
 ·by_cases h1:k=1
  ·simp [h1]
  ·simp [h0,h1]
theorem s_own14 (s:Scene) (hD:Zd9 s.Diners) (hM:s.Mail.length≤900000):Ztg s=some s:=by
 simp only [Ztg,s_Own _ hD,Option.bind_some]
 rw [Zp5 _ _ (by omega) (by simp;omega)]
 rfl
theorem s_SameMail (l m:List Mail) (hl:l.length≤1000000):Zyg l m=some (decide (l=m)):=by
 simp only [Zyg,Zc9]
 by_cases h:l.length=m.length
 ·simp only [h,decide_true,Bool.not_true,Zl5]
  rw [Z99 l m _ (fun x y=>decide (x=y)) h (by omega) (fun k x y hx hy=>by
   simp only [Zxg,Zq5 hx,Zk5,Zo5 hx,Zo5 hy,Option.bind_some,Mail_eqB,Zt5 hx (show l.length≤4000000000000000000 by omega),Zm5,Option.map_some]
   cases decide (x=y)<;>rfl) (by simp only [Zxg,Zr5,Zl5,Zwg,Option.map_some]),Za9 l m h]
 ·simp [h,Zb9 h]
theorem s_Same14 (s t:Scene) (hD:Zd9 s.Diners) (hM:s.Mail.length≤900000):Z1h s t=some (decide (s=t)):=by
 obtain ⟨l,m⟩:=s
 obtain ⟨l',m'⟩:=t
 simp only [Z1h,Z0h,s_r12Same _ _ hD,s_SameMail m m' (by simp only at hM;omega),Option.bind_some,Scene.mk.injEq]
 by_cases h1:l=l'<;>by_cases h2:m=m'<;>simp [h1,h2]
theorem ids {l:List Diner} (h:(Zw9 l).2=true) {k:Nat} {d:Diner} (hd:l[k]?=some d):d.ID=k:=by
 unfold Zw9 at h
 split at h
 ·rename_i h1
  simp only [Bool.and_eq_true] at h1
  have:=((Z2a l l 0).1 h1.1 k d hd).1
  simpa using this
 ·simp at h
set_option maxRecDepth 100000
set_option maxHeartbeats 4000000
def Zfh:EC:=.seq (.reg [(Qa 9 (.bin .lss (.t 8) (.t 7)))]) (.seq (.ite (.t 9) (.skip) (.exit 0)) (.seq (.blk 1 (.seq (.reg [(Qa 10 (.mv (.t 8))),(Qa 5 (.mv (.t 10)))]) (.seq (.reg [(Qa 11 (.mv (.t 1))),(Qa 12 (.mv (.t 0))),(Qa 13 (.mv (.t 5))),(Qa 14 (.idx 1 (.t 12) (.t 13))),(Qa 15 (.load (.t 14))),(Qa 16 (.bin .eql (.t 11) (.t 15)))]) (.ite (.t 16) (.seq (.reg [(Qa 17 (.mv (.t 5))),(Qa 4 (.mv (.t 17)))]) (.ret)) (.skip))))) (.reg [(Qa 18 (.bin .add (.t 8) (.c (.iv 1)))),(Qa 8 (.mv (.t 18)))])))
def e106:EC:=.seq (.reg [(Qa 4 (.mv (.c (.iv 0))))]) (.seq (.seq (.reg [(Qa 6 (.mv (.t 0))),(Qa 7 (.len (.t 6))),(Qa 8 (.mv (.c (.iv 0))))]) (.blk 0 (.loop Zfh))) (.seq (.reg [(Qa 4 (.mv (.c (.iv (-1)))))]) (.ret)))
theorem ok106:FnOK Tryz.prog 106 Tryz.f106 e106 [.t 4] 2 17:=⟨by kernel_rfl,⟨_,rfl,by kernel_rfl⟩,by kernel_rfl,by kernel_rfl⟩
noncomputable def Zgh:Unit→Option Int
| ()=>
 some (-1)
noncomputable def Zhh (x1:(List Int)) (x2:Int):Int→Option (Int ⊕ Int)
| x5=>
 ifb (decide (x5<(ln Z45 x1))) (
 (at_ x1 x5).bind fun x6=>
 ifb (decide (x2=x6)) (
 Option.map Sum.inr (some x5)) (
 some (.inl (wr (x5+1))))) (
 Option.map Sum.inr (Zgh ()))
noncomputable def Zih (x1:(List Int)) (x2:Int):Option Int:=
 loop (Zhh x1 x2) 0
theorem Zjh (x1:(List Int)) (x2:Int) (r:Int) (h:Zih x1 x2=some r):Zq2 Tryz.prog 106 [.sl 1 (List.map Z45 x1),.iv x2] (.iv r):=by
 refine Zu2 ok106 rfl rfl fun w0 H0=>?_
 rw [Zih] at h
 refine Zl2 11 ?_;dsimp only [e106,Zfh,go_sem];refine ⟨by simp,?_⟩;refine Zl4 (fun (_:Unit)=>(⟨(an 19 []),[],[]⟩:St)) Zgh r ?_ fun J1=>?_
 ·rintro ⟨⟩ h;rw [Zgh] at h;(try dsimp only);refine Zl2 4 ?_;dsimp only [e106,Zfh,go_sem];refine ⟨by simp,?_⟩;exact Zx4 (res:=fun (r:Int)=>.iv r) ok106 h
 ·refine Zl2 1 ?_;dsimp only [e106,Zfh,go_sem];refine ⟨by simp,?_⟩;refine Zm4 h (fun (x5:Int)=>(⟨(.sl 1 (List.map Z45 x1) :: .iv x2::an 5 (.iv (ln Z45 x1) :: .iv x5::an 10 [])),[],[]⟩:St)) (by simp [go_sem]) (by intro x5;first | rfl | simp [go_sem]) ?_;rintro n1 x5 y1 h hin1 hout1;rw [Zhh] at h;(try dsimp only);refine Zl2 5 ?_;dsimp only [e106,Zfh,go_sem];refine ⟨by simp,?_⟩;refine Zn4 h rfl (fun _ h=>?_) fun _ h=>?_
  ·refine Zl2 13 ?_;dsimp only [e106,Zfh,go_sem];refine ⟨by simp,?_⟩;obtain ⟨x6,ex6,h⟩:=Option.bind_eq_some_iff.1 h;refine Zq4 Z45 ex6 trivial rfl rfl rfl ?_;refine Zl2 3 ?_;dsimp only [e106,Zfh,go_sem];refine ⟨by simp,?_⟩;refine Zn4 h rfl (fun _ h=>?_) fun _ h=>?_
   ·refine Zl2 5 ?_;dsimp only [e106,Zfh,go_sem];refine ⟨by simp,?_⟩;exact Zx4 (res:=fun (r:Int)=>.iv r) ok106 (Zk4 h hout1)
   ·refine Zl2 6 ?_;dsimp only [e106,Zfh,go_sem];refine ⟨by simp,?_⟩;exact Zy4 h hin1
  ·refine Zl2 1 ?_;dsimp only [e106,Zfh,go_sem];refine ⟨by simp,?_⟩;exact Zz4 J1 (s:=()) (Zk4 h hout1)
set_option maxRecDepth 100000
set_option maxHeartbeats 4000000
def e85:EC:=.seq (.reg [(Qa 4 (.mv (.c .ff)))]) (.seq (.reg [(Qa 5 (.mv (.t 0))),(Qa 6 (.mv (.t 1))),(Qa 7 (.call 106 [(.t 5),(.t 6)])),(Qa 8 (.bin .geq (.t 7) (.c (.iv 0)))),(Qa 4 (.mv (.t 8)))]) (.ret))
theorem ok85:FnOK Tryz.prog 85 Tryz.f85 e85 [.t 4] 2 7:=⟨by kernel_rfl,⟨_,rfl,by kernel_rfl⟩,by kernel_rfl,by kernel_rfl⟩
noncomputable def Zkh (x1:(List Int)) (x2:Int):Option Bool:=
 (Zih x1 x2).bind fun x3=>
 some (decide (0≤x3))
theorem Zlh (x1:(List Int)) (x2:Int) (r:Bool) (h:Zkh x1 x2=some r):Zq2 Tryz.prog 85 [.sl 1 (List.map Z45 x1),.iv x2] (.bv r):=by
 refine Zu2 ok85 rfl rfl fun w0 H0=>?_
 rw [Zkh] at h
 refine Zl2 8 ?_;dsimp only [e85,go_sem];refine ⟨by simp,?_⟩;obtain ⟨x3,ex3,h⟩:=Option.bind_eq_some_iff.1 h;refine Zz2 trivial (Zjh x1 x2 _ ex3) (h:=?_);refine Zl2 3 ?_;dsimp only [e85,go_sem];refine ⟨by simp,?_⟩;exact Zx4 (res:=fun (r:Bool)=>.bv r) ok85 h
set_option maxRecDepth 100000
set_option maxHeartbeats 4000000
def e108:EC:=.seq (.reg [(Qa 2 (.mv (.c .ff)))]) (.seq (.reg [(Qa 3 (.mv (.t 0))),(Qa 4 (.bin .lss (.t 3) (.c (.iv 0)))),(Qa 2 (.mv (.t 4)))]) (.ret))
theorem ok108:FnOK Tryz.prog 108 Tryz.f108 e108 [.t 2] 1 4:=⟨by kernel_rfl,⟨_,rfl,by kernel_rfl⟩,by kernel_rfl,by kernel_rfl⟩
noncomputable def Zmh (x1:Int):Option Bool:=
 some (decide (x1<0))
theorem Znh (x1:Int) (r:Bool) (h:Zmh x1=some r):Zq2 Tryz.prog 108 [.iv x1] (.bv r):=by
 refine Zu2 ok108 rfl rfl fun w0 H0=>?_
 rw [Zmh] at h
 refine Zl2 10 ?_;dsimp only [e108,go_sem];refine ⟨by simp,?_⟩;exact Zx4 (res:=fun (r:Bool)=>.bv r) ok108 h
set_option maxRecDepth 100000
set_option maxHeartbeats 4000000
def e110:EC:=.seq (.reg [(Qa 4 (.mv (.c .ff)))]) (.seq (.reg [(Qa 5 (.load (.t 1))),(Qa 6 (.mv (.t 0))),(Qa 7 (.idx 1 (.t 5) (.t 6))),(Qa 8 (.load (.t 7))),(Qa 9 (.bin .eql (.t 8) (.c (.iv 0)))),(Qa 10 (.mv (.t 9))),(Qg 11 10 true (.mv (.t 0))),(Qg 12 10 true (.load (.t 2))),(Qg 13 10 true (.bin .gtr (.t 11) (.t 12))),(Qa 14 (.pick (.t 10) (.t 13) (.c .ff))),(Qa 4 (.mv (.t 14)))]) (.ret))
theorem ok110:FnOK Tryz.prog 110 Tryz.f110 e110 [.t 4] 3 12:=⟨by kernel_rfl,⟨_,rfl,by kernel_rfl⟩,by kernel_rfl,by kernel_rfl⟩
noncomputable def Zoh:Bool→Option Bool
| x5=>
 some x5
noncomputable def Zph (x1:Int) (x2:(List Int)) (x3:Int):Option Bool:=
 (at_ x2 x1).bind fun x4=>
 ifb (decide (x4=0)) (
 Zoh (decide (x3<x1))) (
 Zoh false)
theorem Zqh (x1:Int) (x2:(List Int)) (x3:Int) (r:Bool) (h:Zph x1 x2 x3=some r):Zq2 Tryz.prog 110 [.iv x1,.elt ((Z55 1 Z45) x2) 0,.elt (Z45 x3) 0] (.bv r):=by
 refine Zu2 ok110 rfl rfl fun w0 H0=>?_
 rw [Zph] at h
 refine Zl2 8 ?_;dsimp only [e110,go_sem];refine ⟨by simp,?_⟩;obtain ⟨x4,ex4,h⟩:=Option.bind_eq_some_iff.1 h;refine Zq4 Z45 ex4 trivial rfl rfl rfl ?_;refine Zl2 3 ?_;dsimp only [e110,go_sem];refine ⟨by simp,?_⟩;refine Zl4 (fun (x5:Bool)=>(⟨(an 4 (.bv x5::an 10 [])),[],[]⟩:St)) Zoh r ?_ fun J1=>?_
 ·intro x5 h;rw [Zoh] at h;(try dsimp only);exact Zx4 (res:=fun (r:Bool)=>.bv r) ok110 h
 ·refine Zw4 10 h rfl (fun _ h=>?_) fun _ h=>?_
  ·dsimp only [go_sem];refine Zl2 6 ?_;dsimp only [e110,go_sem];refine ⟨by simp,?_⟩;exact Zz4 J1 (s:=decide (x3<x1)) h
  ·dsimp only [go_sem];refine Zl2 6 ?_;dsimp only [e110,go_sem];refine ⟨by simp,?_⟩;exact Zz4 J1 (s:=false) h
set_option maxRecDepth 100000
set_option maxHeartbeats 4000000
def e111:EC:=.seq (.reg [(Qa 5 (.mv (.c .ff)))]) (.seq (.drw [(Qa 6 (.load (.t 1))),(Qa 7 (.mv (.t 0))),(Qa 8 (.idx 1 (.t 6) (.t 7))),(Qa 9 (.load (.t 8))),(Qa 10 (.load (.t 2))),(Qa 11 (.load (.t 3))),(Qa 12 (.idx 1 (.t 10) (.t 11))),(Qa 13 (.load (.t 12))),(Qa 14 (.bin .eql (.t 9) (.t 13))),(Qa 5 (.mv (.t 14)))] [[],[],[0,1],[2],[],[],[4,5],[6],[3,7],[8,0,1,2,3,4,5,6,7,8]] [[2],[2],[0,1,3],[2,8],[6],[6],[4,5,7],[6,8],[3,7,9],[8]]) (.ret))
theorem ok111:FnOK Tryz.prog 111 Tryz.f111 e111 [.t 5] 4 11:=⟨by kernel_rfl,⟨_,rfl,by kernel_rfl⟩,by kernel_rfl,by kernel_rfl⟩
noncomputable def Zrh (x1:Int) (x2:(List Int)) (x3:(List Int)) (x4:Int):Option Bool:=
 (at_ x2 x1).bind fun x5=>
 (at_ x3 x4).bind fun x6=>
 some (decide (x5=x6))
theorem Zsh (x1:Int) (x2:(List Int)) (x3:(List Int)) (x4:Int) (r:Bool) (h:Zrh x1 x2 x3 x4=some r):Zq2 Tryz.prog 111 [.iv x1,.elt ((Z55 1 Z45) x2) 0,.elt ((Z55 1 Z45) x3) 0,.elt (Z45 x4) 0] (.bv r):=by
 refine Zu2 ok111 rfl rfl fun w0 H0=>?_
 rw [Zrh] at h
 refine Zl2 5 ?_;dsimp only [e111,go_sem];refine ⟨by simp,?_⟩;refine Zh3 (by kernel_rfl) fun all hall hs hnap haf=>?_;dsimp only [go_sem];refine Zh5 hall hs haf hnap 4 6 ?_;dsimp only [go_sem];refine ⟨by simp,?_⟩;obtain ⟨x5,ex5,h⟩:=Option.bind_eq_some_iff.1 h;refine Zr4 hall hs haf hnap 2 Z45 ex5 rfl rfl trivial rfl rfl rfl rfl ?_;refine Zh5 hall hs haf hnap 1 4 ?_;dsimp only [go_sem];refine ⟨by simp,?_⟩;obtain ⟨x6,ex6,h⟩:=Option.bind_eq_some_iff.1 h;refine Zr4 hall hs haf hnap 6 Z45 ex6 rfl rfl trivial rfl rfl rfl rfl ?_
 refine Zh5 hall hs haf hnap 3 0 ?_;dsimp only [go_sem];refine ⟨by simp,?_⟩;refine Zs3 rfl ?_ _;exact Zx4 (res:=fun (r:Bool)=>.bv r) ok111 h
set_option maxRecDepth 100000
set_option maxHeartbeats 4000000
def Zth:EC:=.seq (.seq (.reg [(Qa 47 (.mv (.t 9))),(Qa 48 (.mkf 111 [(.t 3),(.t 7),(.t 8)])),(Qa 49 (.call 107 [(.t 47),(.t 48)]))]) (.ite (.t 49) (.skip) (.exit 2))) (.blk 3 (.reg [(Qa 50 (.load (.t 7))),(Qa 51 (.load (.t 8))),(Qa 52 (.idx 1 (.t 50) (.t 51))),(Qa 53 (.load (.t 52))),(Qa 54 (.bin .add (.t 53) (.c (.iv 1)))),(Qa 55 (.idx 1 (.t 50) (.t 51))),(Qb (.store 1 (.t 55) (.t 54)))]))
def Zuh:EC:=.seq (.reg [(Qa 29 (.bin .lss (.t 28) (.t 27)))]) (.seq (.ite (.t 29) (.skip) (.exit 0)) (.seq (.blk 1 (.seq (.reg [(Qa 30 (.mv (.t 28))),(Qa 8 (.alloc 3 [.iv 0])),(Qb (.store 1 (.t 8) (.t 30)))]) (.seq (.reg [(Qa 31 (.loadA 2 (.t 2))),(Qa 32 (.load (.t 8))),(Qa 33 (.call 88 [(.t 31),(.t 32)])),(Qa 9 (.mv (.t 33)))]) (.seq (.seq (.reg [(Qa 34 (.load (.t 3))),(Qa 35 (.load (.t 8))),(Qa 36 (.idx 1 (.t 34) (.t 35))),(Qa 37 (.load (.t 36))),(Qa 38 (.bin .neq (.t 37) (.c (.iv 0)))),(Qa 39 (.mv (.t 38))),(Qg 40 39 false (.mv (.t 9))),(Qg 41 39 false (.mkf 110 [(.t 3),(.t 8)])),(Qg 42 39 false (.call 107 [(.t 40),(.t 41)])),(Qa 43 (.pick (.t 39) (.c .tt) (.t 42)))]) (.ite (.t 43) (.exit 1) (.skip))) (.seq (.reg [(Qa 44 (.load (.t 7))),(Qa 45 (.load (.t 8))),(Qa 46 (.idx 1 (.t 44) (.t 45))),(Qb (.store 1 (.t 46) (.c (.iv 1))))]) (.blk 2 (.loop Zth))))))) (.reg [(Qa 56 (.bin .add (.t 28) (.c (.iv 1)))),(Qa 28 (.mv (.t 56)))])))
def e86:EC:=.seq (.reg [(Qa 2 (.box 48 2 (.t 0))),(Qa 3 (.box 43 1 (.t 1))),(Qa 4 (.mv (.c .nl))),(Qa 5 (.mv (.c (.iv 0))))]) (.seq (.seq (.reg [(Qa 10 (.loadA 2 (.t 2))),(Qa 11 (.call 80 [(.t 10)])),(Qa 6 (.mv (.t 11)))]) (.seq (.reg [(Qa 12 (.mv (.t 6))),(Qa 13 (.bin .neq (.t 12) (.c (.iv 0))))]) (.ite (.t 13) (.seq (.reg [(Qa 14 (.mv (.t 6))),(Qa 4 (.mv (.c .nl))),(Qa 5 (.mv (.t 14)))]) (.ret)) (.skip)))) (.seq (.seq (.reg [(Qa 15 (.load (.t 3))),(Qa 16 (.len (.t 15))),(Qa 17 (.fld 0 (.t 2))),(Qa 18 (.load (.t 17))),(Qa 19 (.bin .neq (.t 16) (.t 18))),(Qa 20 (.mv (.t 19))),(Qg 21 20 false (.load (.t 3))),(Qg 22 20 false (.call 107 [(.t 21),(.c (.clo 108 []))])),(Qa 23 (.pick (.t 20) (.c .tt) (.t 22)))]) (.ite (.t 23) (.seq (.reg [(Qa 4 (.mv (.c .nl))),(Qa 5 (.mv (.c (.iv 110))))]) (.ret)) (.skip))) (.seq (.reg [(Qa 24 (.load (.t 3))),(Qa 25 (.call 109 [(.t 24)])),(Qa 7 (.alloc 43 [.nl])),(Qb (.store 1 (.t 7) (.t 25)))]) (.seq (.seq (.reg [(Qa 26 (.fld 0 (.t 2))),(Qa 27 (.load (.t 26))),(Qa 28 (.mv (.c (.iv 0))))]) (.blk 0 (.loop Zuh))) (.seq (.reg [(Qa 57 (.load (.t 7))),(Qa 4 (.mv (.t 57))),(Qa 5 (.mv (.c (.iv 0))))]) (.ret))))))
theorem ok86:FnOK Tryz.prog 86 Tryz.f86 e86 [.t 4,.t 5] 2 56:=⟨by kernel_rfl,⟨_,rfl,by kernel_rfl⟩,by kernel_rfl,by kernel_rfl⟩
noncomputable def Zvh:(List Int)→Option ((List Int)×Int)
| x54=>
 some (x54,0)
noncomputable def Zwh (x26:Int):(List Int)→Option ((Int×(List Int)) ⊕ ((List Int)×Int))
| x46=>
 some (.inl (wr (x26+1),x46))
noncomputable def Zxh (x2:(List Int)) (x26:Int) (x28:(List Int)):(List Int)→Option ((List Int) ⊕ ((Int×(List Int)) ⊕ ((List Int)×Int)))
| x35=>
 (Zg7 x28 ((fun z=>Zrh z x2 x35 x26))).bind fun x36=>
 ifb x36 (
 (at_ x35 x26).bind fun x37=>
 some (.inl (x35.set (x26).toNat (wr (x37+1))))) (
 Option.map Sum.inr ((Zwh x26) x35))
noncomputable def Zyh (x2:(List Int)) (x26:Int) (x27:(List Int)) (x28:(List Int)):Bool→Option ((Int×(List Int)) ⊕ ((List Int)×Int))
| x31=>
 ifb x31 (
 (Zwh x26) x27) (
 (at_ x27 x26).bind fun _=>
 loop (Zxh x2 x26 x28) (x27.set (x26).toNat 1))
noncomputable def Zzh (x1:Graph) (x2:(List Int)):(Int×(List Int))→Option ((Int×(List Int)) ⊕ ((List Int)×Int))
| (x26,x27)=>
 ifb (decide (x26<x1.N)) (
 (Zbb x1 x26).bind fun x28=>
 (at_ x2 x26).bind fun x29=>
 ifb (!decide (x29=0)) (
 (Zyh x2 x26 x27 x28) true) (
 (Zg7 x28 ((fun z=>Zph z x2 x26))).bind fun x30=>
 (Zyh x2 x26 x27 x28) x30)) (
 Option.map Sum.inr (Zvh x27))
noncomputable def Z0i (x1:Graph) (x2:(List Int)):Bool→Option ((List Int)×Int)
| x5=>
 ifb x5 (
 some (([]:(List Int)),110)) (
 (Zxa x2).bind fun x6=>
 loop (Zzh x1 x2) (0,x6))
noncomputable def Z1i (x1:Graph) (x2:(List Int)):Option ((List Int)×Int):=
 (Z97 x1).bind fun x3=>
 ifb (!decide (x3=0)) (
 some (([]:(List Int)),x3)) (
 ifb (!decide ((ln Z45 x2)=x1.N)) (
 (Z0i x1 x2) true) (
 (Zg7 x2 ((fun z=>Zmh z))).bind fun x4=>
 (Z0i x1 x2) x4))
theorem Z2i (x1:Graph) (x2:(List Int)) (r:((List Int)×Int)) (h:Z1i x1 x2=some r):Zq2 Tryz.prog 86 [.agg (Graph.row x1),.sl 1 (List.map Z45 x2)] (.tup [.sl 1 (List.map Z45 r.1),.iv r.2]):=by
 refine Zu2 ok86 rfl rfl fun w0 H0=>?_
 rw [Z1i] at h
 refine Zl2 11 ?_;dsimp only [e86,Zuh,Zth,go_sem];refine ⟨by simp,?_⟩;obtain ⟨x3,ex3,h⟩:=Option.bind_eq_some_iff.1 h;refine Zz2 trivial (Za7 x1 _ ex3) (h:=?_);refine Zl2 7 ?_;dsimp only [e86,Zuh,Zth,go_sem];refine ⟨by simp,?_⟩;refine Zn4 h rfl (fun _ h=>?_) fun _ h=>?_
 ·refine Zl2 6 ?_;dsimp only [e86,Zuh,Zth,go_sem];refine ⟨by simp,?_⟩;exact Zx4 (res:=fun (r:((List Int)×Int))=>.tup [.sl 1 (List.map Z45 r.1),.iv r.2]) ok86 h
 ·refine Zl2 10 ?_;dsimp only [e86,Zuh,Zth,go_sem];refine ⟨by simp,?_⟩;refine Zl4 (fun (x5:Bool)=>(⟨(.any :: .any :: .ptr 0 0 :: .ptr 1 0::an 19 (.bv x5::an 34 [])),[some ⟨48,[.iv x1.N,.sl 2 (List.map Edge.row x1.Edges)]⟩,some ⟨43,[.sl 1 (List.map Z45 x2)]⟩],[]⟩:St)) (Z0i x1 x2) r ?_ fun J1=>?_
  ·intro x5 h;rw [Z0i] at h;(try dsimp only);refine Zn4 h rfl (fun _ h=>?_) fun _ h=>?_
   ·refine Zl2 5 ?_;dsimp only [e86,Zuh,Zth,go_sem];refine ⟨by simp,?_⟩;exact Zx4 (res:=fun (r:((List Int)×Int))=>.tup [.sl 1 (List.map Z45 r.1),.iv r.2]) ok86 h
   ·refine Zl2 4 ?_;dsimp only [e86,Zuh,Zth,go_sem];refine ⟨by simp,?_⟩;obtain ⟨x6,ex6,h⟩:=Option.bind_eq_some_iff.1 h;refine Zd5 trivial (Zya x2 _ ex6) (h:=?_);refine Zl2 10 ?_;dsimp only [e86,Zuh,Zth,go_sem];refine ⟨by simp,?_⟩;refine Zl4 (fun (x54:(List Int))=>(⟨(an 7 (.ptr 2 0::an 50 [])),[none,none,some ⟨43,[.osl 0]⟩],[some ⟨3,1,List.map Z45 x54⟩]⟩:St)) Zvh r ?_ fun J2=>?_
    ·intro x54 h;rw [Zvh] at h;(try dsimp only);refine Zl2 6 ?_;dsimp only [e86,Zuh,Zth,go_sem];refine ⟨by simp,?_⟩;refine Z83 0 rfl ?_;dsimp only [go_sem];exact Zx4 (res:=fun (r:((List Int)×Int))=>.tup [.sl 1 (List.map Z45 r.1),.iv r.2]) ok86 h
    ·refine Zl2 1 ?_;dsimp only [e86,Zuh,Zth,go_sem];refine ⟨by simp,?_⟩;refine Zm4 h (fun ((x26,x27):(Int×(List Int)))=>(⟨(.any :: .any :: .ptr 0 0 :: .ptr 1 0::an 3 (.ptr 2 0::an 19 (.iv x1.N :: .iv x26::an 29 []))),[some ⟨48,[.iv x1.N,.sl 2 (List.map Edge.row x1.Edges)]⟩,some ⟨43,[.sl 1 (List.map Z45 x2)]⟩,some ⟨43,[.osl 0]⟩],[some ⟨3,1,List.map Z45 x27⟩]⟩:St)) (by simp [go_sem]) (by rintro ⟨x26,x27⟩;first | rfl | simp [go_sem]) ?_;rintro n1 ⟨x26,x27⟩ y1 h hin1 hout1;rw [Zzh] at h;(try dsimp only);refine Zl2 5 ?_
     dsimp only [e86,Zuh,Zth,go_sem];refine ⟨by simp,?_⟩;refine Zn4 h rfl (fun _ h=>?_) fun _ h=>?_
     ·refine Zl2 2 ?_;dsimp only [e86,Zuh,Zth,go_sem];refine ⟨by simp,?_⟩;refine Zl4 (fun (x46:(List Int))=>(⟨(.any :: .any :: .ptr 0 0 :: .ptr 1 0::an 3 (.ptr 2 0::an 19 (.iv x1.N :: .iv x26::an 29 []))),[some ⟨48,[.iv x1.N,.sl 2 (List.map Edge.row x1.Edges)]⟩,some ⟨43,[.sl 1 (List.map Z45 x2)]⟩,some ⟨43,[.osl 0]⟩],[some ⟨3,1,List.map Z45 x46⟩]⟩:St)) (Zwh x26) y1 ?_ fun J3=>?_
      ·intro x46 h;rw [Zwh] at h;(try dsimp only);refine Zl2 4 ?_;dsimp only [e86,Zuh,Zth,go_sem];refine ⟨by simp,?_⟩;exact Zy4 h hin1
      ·refine Zl2 11 ?_;dsimp only [e86,Zuh,Zth,go_sem];refine ⟨by simp,?_⟩;obtain ⟨x28,ex28,h⟩:=Option.bind_eq_some_iff.1 h;refine Zz2 trivial (Zcb x1 x26 _ ex28) (h:=?_);refine Zl2 7 ?_;dsimp only [e86,Zuh,Zth,go_sem];refine ⟨by simp,?_⟩;obtain ⟨x29,ex29,h⟩:=Option.bind_eq_some_iff.1 h;refine Zq4 Z45 ex29 trivial rfl rfl rfl ?_;refine Zl2 3 ?_;dsimp only [e86,Zuh,Zth,go_sem];refine ⟨by simp,?_⟩
       refine Zl4 (fun (x31:Bool)=>(⟨(.any :: .any :: .ptr 0 0 :: .ptr 1 0::an 3 (.ptr 2 0 :: .ptr 3 0 :: .sl 1 (List.map Z45 x28)::an 17 (.iv x1.N :: .iv x26::an 14 (.bv x31::an 14 [])))),[some ⟨48,[.iv x1.N,.sl 2 (List.map Edge.row x1.Edges)]⟩,some ⟨43,[.sl 1 (List.map Z45 x2)]⟩,some ⟨43,[.osl 0]⟩,some ⟨3,[.iv x26]⟩],[some ⟨3,1,List.map Z45 x27⟩]⟩:St)) (Zyh x2 x26 x27 x28) y1 ?_ fun J4=>?_
       ·intro x31 h;rw [Zyh] at h;(try dsimp only);refine Zn4 h rfl (fun _ h=>?_) fun _ h=>?_
        ·refine Zl2 1 ?_;dsimp only [e86,Zuh,Zth,go_sem];refine ⟨by simp,?_⟩;exact Zz4 J3 (s:=x27) h
        ·refine Zl2 5 ?_;dsimp only [e86,Zuh,Zth,go_sem];refine ⟨by simp,?_⟩;obtain ⟨x32,ex32,h⟩:=Option.bind_eq_some_iff.1 h;refine Z06 Z45 ex32 trivial rfl rfl rfl ?_;refine Z56 [.iv 1] Z45 (y':=1) ex32 trivial rfl rfl rfl (by first | exact Z94 _ | simp [go_sem]) rfl rfl rfl rfl ?_;refine Zl2 2 ?_;dsimp only [e86,Zuh,Zth,go_sem];refine ⟨by simp,?_⟩
         refine Zm4 h (fun (x35:(List Int))=>(⟨(.any :: .any :: .ptr 0 0 :: .ptr 1 0::an 3 (.ptr 2 0 :: .ptr 3 0 :: .sl 1 (List.map Z45 x28)::an 17 (.iv x1.N :: .iv x26::an 29 []))),[some ⟨48,[.iv x1.N,.sl 2 (List.map Edge.row x1.Edges)]⟩,some ⟨43,[.sl 1 (List.map Z45 x2)]⟩,some ⟨43,[.osl 0]⟩,some ⟨3,[.iv x26]⟩],[some ⟨3,1,List.map Z45 x35⟩]⟩:St)) (by simp [go_sem]) (by intro x35;first | rfl | simp [go_sem]) ?_;rintro n2 x35 y2 h hin2 hout2;rw [Zxh] at h;(try dsimp only);refine Zl2 5 ?_;dsimp only [e86,Zuh,Zth,go_sem]
         refine ⟨by simp,?_⟩;obtain ⟨x36,ex36,h⟩:=Option.bind_eq_some_iff.1 h;refine Z25 trivial (((((Z05.refl _).slice 0 rfl).block 1 rfl rfl).block 2 rfl rfl).block 3 rfl rfl) (Zh7 x28 _ _ ((fun z=>Zrh z x2 x35 x26)) ⟨by kernel_rfl,rfl,fun z r hz=>Zsh z x2 x35 x26 r hz⟩ _ ex36) (h:=?_);refine Zl2 1 ?_;dsimp only [e86,Zuh,Zth,go_sem];refine ⟨by simp,?_⟩;refine Zn4 h rfl (fun _ h=>?_) fun _ h=>?_
         ·refine Zl2 5 ?_;dsimp only [e86,Zuh,Zth,go_sem];refine ⟨by simp,?_⟩;obtain ⟨x37,ex37,h⟩:=Option.bind_eq_some_iff.1 h;refine Z06 Z45 ex37 trivial rfl rfl rfl ?_;refine Z16 Z45 ex37 trivial rfl rfl rfl ?_;refine Zl2 1 ?_;dsimp only [e86,Zuh,Zth,go_sem];refine ⟨by simp,?_⟩;refine Z06 Z45 ex37 trivial rfl rfl rfl ?_;refine Z56 [.iv (wr (x37+1))] Z45 (y':=wr (x37+1)) ex37 trivial rfl rfl rfl (by first | exact Z94 _ | simp [go_sem]) rfl rfl rfl rfl ?_;refine Zl2 2 ?_
          dsimp only [e86,Zuh,Zth,go_sem];refine ⟨by simp,?_⟩;exact Zy4 h hin2
         ·refine Zl2 2 ?_;dsimp only [e86,Zuh,Zth,go_sem];refine ⟨by simp,?_⟩;exact Zz4 J3 (s:=x35) (Zk4 h hout2)
       ·refine Zw4 39 h rfl (fun _ h=>?_) fun _ h=>?_
        ·dsimp only [go_sem];refine Zl2 5 ?_;dsimp only [e86,Zuh,Zth,go_sem];refine ⟨by simp,?_⟩;exact Zz4 J4 (s:=true) h
        ·dsimp only [go_sem];refine Zl2 2 ?_;dsimp only [e86,Zuh,Zth,go_sem];refine ⟨by simp,?_⟩;obtain ⟨x30,ex30,h⟩:=Option.bind_eq_some_iff.1 h;refine Z25 trivial (((Z05.refl _).block 1 rfl rfl).block 3 rfl rfl) (Zh7 x28 _ _ ((fun z=>Zph z x2 x26)) ⟨by kernel_rfl,rfl,fun z r hz=>Zqh z x2 x26 r hz⟩ _ ex30) (h:=?_);refine Zl2 2 ?_;dsimp only [e86,Zuh,Zth,go_sem];refine ⟨by simp,?_⟩;exact Zz4 J4 (s:=x30) h
     ·refine Zl2 1 ?_;dsimp only [e86,Zuh,Zth,go_sem];refine ⟨by simp,?_⟩;exact Zz4 J2 (s:=x27) (Zk4 h hout1)
  ·refine Zw4 20 h rfl (fun _ h=>?_) fun _ h=>?_
   ·dsimp only [go_sem];refine Zl2 4 ?_;dsimp only [e86,Zuh,Zth,go_sem];refine ⟨by simp,?_⟩;exact Zz4 J1 (s:=true) h
   ·dsimp only [go_sem];refine Zl2 1 ?_;dsimp only [e86,Zuh,Zth,go_sem];refine ⟨by simp,?_⟩;obtain ⟨x4,ex4,h⟩:=Option.bind_eq_some_iff.1 h;refine Zz2 trivial (Zh7 x2 _ _ ((fun z=>Zmh z)) ⟨by kernel_rfl,rfl,fun z r hz=>Znh z r hz⟩ _ ex4) (h:=?_);refine Zl2 2 ?_;dsimp only [e86,Zuh,Zth,go_sem];refine ⟨by simp,?_⟩;exact Zz4 J1 (s:=x4) h
set_option maxRecDepth 100000
set_option maxHeartbeats 4000000
def Z3i:EC:=.seq (.seq (.reg [(Qa 16 (.mv (.t 6))),(Qa 17 (.call 85 [(.t 16),(.c (.iv 0))]))]) (.ite (.t 17) (.skip) (.exit 0))) (.blk 1 (.seq (.reg [(Qa 19 (.loadA 2 (.t 1))),(Qa 20 (.mv (.t 6))),(Qa 21 (.call 86 [(.t 19),(.t 20)])),(Qa 18 (.mv (.t 21))),(Qa 22 (.ext (.t 18) 0)),(Qa 23 (.ext (.t 18) 1)),(Qa 6 (.mv (.t 22)))]) (.reg [(Qa 24 (.mv (.t 7))),(Qa 25 (.bin .add (.t 24) (.c (.iv 1)))),(Qa 7 (.mv (.t 25)))])))
def e55:EC:=.seq (.reg [(Qa 1 (.box 48 2 (.t 0))),(Qa 2 (.mv (.c .nl))),(Qa 3 (.mv (.c (.iv 0)))),(Qa 4 (.mv (.c (.iv 0))))]) (.seq (.seq (.reg [(Qa 8 (.loadA 2 (.t 1))),(Qa 9 (.call 80 [(.t 8)])),(Qa 5 (.mv (.t 9)))]) (.seq (.reg [(Qa 10 (.mv (.t 5))),(Qa 11 (.bin .neq (.t 10) (.c (.iv 0))))]) (.ite (.t 11) (.seq (.reg [(Qa 12 (.mv (.t 5))),(Qa 2 (.mv (.c .nl))),(Qa 3 (.mv (.c (.iv 0)))),(Qa 4 (.mv (.t 12)))]) (.ret)) (.skip)))) (.seq (.reg [(Qa 13 (.fld 0 (.t 1))),(Qa 14 (.load (.t 13))),(Qa 15 (.mks 3 1 8 [.iv 0] (.t 14) (.t 14))),(Qa 6 (.mv (.t 15))),(Qa 7 (.mv (.c (.iv 0))))]) (.seq (.blk 0 (.loop Z3i)) (.seq (.reg [(Qa 26 (.mv (.t 6))),(Qa 27 (.mv (.t 7))),(Qa 2 (.mv (.t 26))),(Qa 3 (.mv (.t 27))),(Qa 4 (.mv (.c (.iv 0))))]) (.ret)))))
theorem ok55:FnOK Tryz.prog 55 Tryz.f55 e55 [.t 2,.t 3,.t 4] 1 27:=⟨by kernel_rfl,⟨_,rfl,by kernel_rfl⟩,by kernel_rfl,by kernel_rfl⟩
noncomputable def Z4i:((List Int)×Int)→Option ((List Int)×Int×Int)
| (x17,x18)=>
 some (x17,x18,0)
noncomputable def Z5i (x1:Graph):((List Int)×Int)→Option (((List Int)×Int) ⊕ ((List Int)×Int×Int))
| (x8,x9)=>
 (Zkh x8 0).bind fun x10=>
 ifb x10 (
 (Z1i x1 x8).bind fun x11=>
 some (.inl (x11.1,wr (x9+1)))) (
 Option.map Sum.inr (Z4i (x8,x9)))
noncomputable def Z6i (x1:Graph):Option ((List Int)×Int×Int):=
 (Z97 x1).bind fun x2=>
 ifb (!decide (x2=0)) (
 some (([]:(List Int)),0,x2)) (
 (mk_ 8 x1.N 0).bind fun x3=>
 loop (Z5i x1) (x3,0))
theorem k_colour_Run (x1:Graph) (r:((List Int)×Int×Int)) (h:Z6i x1=some r):Zq2 Tryz.prog 55 [.agg (Graph.row x1)] (.tup [.sl 1 (List.map Z45 r.1),.iv r.2.1,.iv r.2.2]):=by
 refine Zu2 ok55 rfl rfl fun w0 H0=>?_
 rw [Z6i] at h
 refine Zl2 11 ?_;dsimp only [e55,Z3i,go_sem];refine ⟨by simp,?_⟩;obtain ⟨x2,ex2,h⟩:=Option.bind_eq_some_iff.1 h;refine Zz2 trivial (Za7 x1 _ ex2) (h:=?_);refine Zl2 7 ?_;dsimp only [e55,Z3i,go_sem];refine ⟨by simp,?_⟩;refine Zn4 h rfl (fun _ h=>?_) fun _ h=>?_
 ·refine Zl2 7 ?_;dsimp only [e55,Z3i,go_sem];refine ⟨by simp,?_⟩;exact Zx4 (res:=fun (r:((List Int)×Int×Int))=>.tup [.sl 1 (List.map Z45 r.1),.iv r.2.1,.iv r.2.2]) ok55 h
 ·refine Zl2 5 ?_;dsimp only [e55,Z3i,go_sem];refine ⟨by simp,?_⟩;obtain ⟨x3,ex3,h⟩:=Option.bind_eq_some_iff.1 h;refine V_mksM Z45 ex3 trivial rfl rfl rfl rfl ?_;refine Zl2 4 ?_;dsimp only [e55,Z3i,go_sem];refine ⟨by simp,?_⟩;refine Zl4 (fun ((x17,x18):((List Int)×Int))=>(⟨(an 6 (.sl 1 (List.map Z45 x17) :: .iv x18::an 20 [])),[],[]⟩:St)) Z4i r ?_ fun J1=>?_
  ·rintro ⟨x17,x18⟩ h;rw [Z4i] at h;(try dsimp only);refine Zl2 8 ?_;dsimp only [e55,Z3i,go_sem];refine ⟨by simp,?_⟩;exact Zx4 (res:=fun (r:((List Int)×Int×Int))=>.tup [.sl 1 (List.map Z45 r.1),.iv r.2.1,.iv r.2.2]) ok55 h
  ·refine Zl2 1 ?_;dsimp only [e55,Z3i,go_sem];refine ⟨by simp,?_⟩;refine Z83 0 rfl ?_;dsimp only [go_sem];refine Zm4 h (fun ((x8,x9):((List Int)×Int))=>(⟨(.any :: .ptr 0 0::an 4 (.sl 1 (List.map Z45 x8) :: .iv x9::an 20 [])),[some ⟨48,[.iv x1.N,.sl 2 (List.map Edge.row x1.Edges)]⟩],[]⟩:St)) (by simp [go_sem]) (by rintro ⟨x8,x9⟩;first | rfl | simp [go_sem]) ?_;rintro n1 ⟨x8,x9⟩ y1 h hin1 hout1;rw [Z5i] at h;(try dsimp only);refine Zl2 4 ?_;dsimp only [e55,Z3i,go_sem];refine ⟨by simp,?_⟩
   obtain ⟨x10,ex10,h⟩:=Option.bind_eq_some_iff.1 h;refine Zz2 trivial (Zlh x8 0 _ ex10) (h:=?_);refine Zl2 1 ?_;dsimp only [e55,Z3i,go_sem];refine ⟨by simp,?_⟩;refine Zn4 h rfl (fun _ h=>?_) fun _ h=>?_
   ·refine Zl2 6 ?_;dsimp only [e55,Z3i,go_sem];refine ⟨by simp,?_⟩;obtain ⟨x11,ex11,h⟩:=Option.bind_eq_some_iff.1 h;refine Zz2 trivial (Z2i x1 x8 _ ex11) (h:=?_);refine Zl2 11 ?_;dsimp only [e55,Z3i,go_sem];refine ⟨by simp,?_⟩;exact Zy4 h hin1
   ·refine Zl2 1 ?_;dsimp only [e55,Z3i,go_sem];refine ⟨by simp,?_⟩;exact Zz4 J1 (s:=(x8,x9)) (Zk4 h hout1)
def lsf (p:Nat→Bool):Nat→Nat→Nat
 | 0,k=>k
 | f+1,k=>if p k then k else lsf p f (k+1)
theorem lsf_spec (p:Nat→Bool):∀(f k:Nat),p (k+f)=true→p (lsf p f k)=true∧k≤lsf p f k∧lsf p f k≤k+f
 | 0,k,h=>⟨h,Nat.le_refl _,Nat.le_refl _⟩
 | f+1,k,h=>by
   simp only [lsf]
   split
   ·rename_i h1;exact ⟨h1,Nat.le_refl _,by omega⟩
   ·obtain ⟨h1,h2,h3⟩:=lsf_spec p f (k+1) (by rw [show k+1+f=k+(f+1) by omega];exact h)
    exact ⟨h1,by omega,by omega⟩
def Z7i (c:List Int) (near:List Int) (k:Nat):Bool:=near.any fun b=>decide (cg c b=(k:Int))
def Z8i (c near:List Int):Nat:=lsf (fun k=>!Z7i c near k) 200 1
def Z9i (c near:List Int) (a:Int):Bool:=decide (cg c a=0)&&!near.any fun b=>decide (cg c b=0)&&decide (a<b)
def newC (g:Graph) (c:List Int) (a:Nat):Int:=if Z9i c (Zwb g a) a then (Z8i c (Zwb g a):Int) else cg c a
def Zai (g:Graph) (c:List Int):List Int:=(List.range g.N.toNat).map (newC g c)
structure ColI (g:Graph) (c:List Int):Prop where
 len:(c.length:Int)=g.N
 lo:∀x∈c,0≤x
 hi:∀x∈c,x≤100
theorem cg_mem {c:List Int} {a:Int} (h0:0≤a) (h:a<c.length):cg c a∈c:=by
 obtain ⟨x,h1,h2⟩:=at_lt h0 h
 unfold cg
 rw [h2]
 exact List.mem_iff_getElem?.2 ⟨_,h2⟩
theorem Zbi {g:Graph} (hg:okG g=true) {c:List Int} (hc:ColI g c) (a:Int):Z7i c (Zwb g a) (Z8i c (Zwb g a))=false∧1≤Z8i c (Zwb g a)∧Z8i c (Zwb g a)≤201:=by
 have h:=lsf_spec (fun k=>!Z7i c (Zwb g a) k) 200 1 (by
  simp only [Bool.not_eq_true']
  unfold Z7i
  rw [List.any_eq_false]
  intro b hb
  obtain ⟨b1,b2,_⟩:=Z0c hg hb
  have:=hc.hi _ (cg_mem (c:=c) b1 (by rw [hc.len];exact b2))
  simp;omega)
 have h1:=h.1
 simp only [Bool.not_eq_true'] at h1
 exact ⟨h1,h.2.1,h.2.2⟩
theorem Zci (l:List Int) (x:Int) (hl:l.length≤1000000):Zkh l x=some (decide (x∈l)):=by
 have h1:Zih l x=some (plc (l.findIdx? fun y=>decide (x=y))):=by
  unfold Zih
  refine Zx5 l _ (fun y=>decide (x=y)) (by omega) (fun k y hy=>?_) ?_
  ·simp only [Zhh,Zq5 hy,Zk5,Zo5 hy,Option.bind_some,Zt5 hy (show l.length≤4000000000000000000 by omega)]
   cases decide (x=y)<;>rfl
  ·simp only [Zhh,Zr5,Zl5,Zgh,Option.map_some]
 simp only [Zkh,h1,Option.bind_some,Zv5,Zy5]
 congr 1
 rw [Bool.eq_iff_iff,List.any_eq_true,decide_eq_true_iff]
 constructor
 ·rintro ⟨y,hy,h⟩
  have:x=y:=by simpa using h
  exact this ▸ hy
 ·intro h;exact ⟨x,h,by simp⟩
theorem s_Round2 (g:Graph) (hg:okG g=true) (c:List Int) (hc:ColI g c) (a:Nat) (ha:(a:Int)<g.N) (A B:List Int) (hA:A.length=a):
  loop (Zxh c a (Zwb g a)) (A++1::B)=some (.inl (((a+1:Nat):Int),A++(Z8i c (Zwb g a):Int)::B)):=by
 obtain ⟨g1,g2,g3,_,_⟩:=Zp7 hg
 have hnl:=Zyb g a
 have at1:∀y:Int,at_ (A++y::B) (a:Int)=some y:=fun y=>by rw [←hA];exact at_mid rfl
 have st1:∀y z:Int,(A++y::B).set ((a:Int)).toNat z=A++z::B:=fun y z=>by rw [←hA];exact Z69 _ _ _ _
 have step:∀k:Nat,Zg7 (Zwb g a) (fun z=>Zrh z c (A++(k:Int)::B) a)=some (Z7i c (Zwb g a) k):=fun k=>by
  refine Zm7 (Zwb g a) _ (fun b=>decide (cg c b=(k:Int))) (by omega) (fun b hb=>?_)
  obtain ⟨b1,b2,_⟩:=Z0c hg hb
  simp only [Zrh]
  rw [at_cg (c:=c) b1 (by rw [hc.len];exact b2),Option.bind_some,at1,Option.bind_some]
 have key:∀f k:Nat,k+f=201→1≤k→Z7i c (Zwb g a) 201=false→loop (Zxh c a (Zwb g a)) (A++(k:Int)::B)=some (.inl (((a+1:Nat):Int),A++(lsf (fun k=>!Z7i c (Zwb g a) k) f k:Int)::B)):=by
  intro f
  induction f with
  | zero=>
    intro k hk _ h201
    have:k=201:=by omega
    subst this
    rw [Ze4]
    dsimp only [Zxh]
    rw [step,Option.bind_some,h201,Zl5]
    dsimp only [Zwh]
    rw [Zs5 (by omega)]
    rfl
  | succ f ih=>
    intro k hk h1 h201
    rw [Ze4]
    dsimp only [Zxh]
    rw [step,Option.bind_some]
    cases hu:Z7i c (Zwb g a) k with
    | true=>
      rw [Zk5,at1,Option.bind_some,st1,Zs5 (by omega)]
      dsimp only
      rw [ih (k+1) (by omega) (by omega) h201]
      simp [lsf,hu]
    | false=>
      rw [Zl5]
      dsimp only [Zwh]
      rw [Zs5 (by omega)]
      simp [lsf,hu]
 refine key 200 1 rfl (Nat.le_refl _) ?_
 unfold Z7i
 rw [List.any_eq_false]
 intro b hb
 obtain ⟨b1,b2,_⟩:=Z0c hg hb
 have:=hc.hi _ (cg_mem (c:=c) b1 (by rw [hc.len];exact b2))
 simp;omega
theorem drop_cons {c:List Int} {k:Nat} (h:k<c.length):c.drop k=cg c k::c.drop (k+1):=by
 rw [List.drop_eq_getElem_cons h]
 congr 1
 unfold cg
 simp [h]
theorem s_Round (g:Graph) (hg:okG g=true) (c:List Int) (hc:ColI g c):Z1i g c=some (Zai g c,0):=by
 obtain ⟨g1,g2,g3,_,_⟩:=Zp7 hg
 have hlen:=hc.len
 simp only [Z1i,Zo7,hg,if_true,decide_true,Bool.not_true,Zl5,Option.bind_some,Z65,hlen]
 rw [Zm7 c (fun z=>Zmh z) (fun x=>decide (x<0)) (by omega) (fun x _=>rfl),Option.bind_some]
 have e0:c.any (fun x=>decide (x<0))=false:=by
  rw [List.any_eq_false];intro x hx;have:=hc.lo x hx;simp;omega
 rw [e0]
 simp only [Z0i,Zl5,Zxa]
 rw [Zp5 _ _ (by omega) (by simp;omega),Option.bind_some,List.nil_append]
 refine (Z89 g.N.toNat (Zzh g c) (fun k=>((k:Int),(List.range k).map (newC g c)++c.drop k)) (Zai g c,0) (fun k hk=>?_) ?_)
 ·have hkl:k<c.length:=by omega
  obtain ⟨g1',_⟩:=Zp7 hg
  dsimp only [Zzh]
  rw [decide_eq_true (by omega),Zk5,s_Near,hg,if_pos rfl,Option.bind_some,at_cg (c:=c) (Int.natCast_nonneg k) (by omega),Option.bind_some,drop_cons hkl,Z4c]
  have hA:((List.range k).map (newC g c)).length=k:=by simp
  have keep:newC g c k=cg c k→Zyh c k ((List.range k).map (newC g c)++cg c k::c.drop (k+1)) (Zwb g k) true=some (.inl (((k+1:Nat):Int),((List.range k).map (newC g c)++[newC g c k])++c.drop (k+1))):=fun e=>by
   dsimp only [Zyh,Zwh]
   rw [Zk5,Zs5 (by omega),e];simp
  by_cases h0:cg c k=0
  ·rw [decide_eq_true h0,Bool.not_true,Zl5]
   have hcf:Zg7 (Zwb g k) (fun z=>Zph z c k)=some ((Zwb g k).any fun b=>decide (cg c b=0)&&decide ((k:Int)<b)):=by
    refine Zm7 (Zwb g k) _ (fun b=>decide (cg c b=0)&&decide ((k:Int)<b)) (by have:=Zyb g k;omega) (fun b hb=>?_)
    obtain ⟨b1,b2,_⟩:=Z0c hg hb
    simp only [Zph,Zoh]
    rw [at_cg (c:=c) b1 (by omega),Option.bind_some]
    cases decide (cg c b=0)<;>rfl
   rw [hcf,Option.bind_some]
   cases ht:(Zwb g k).any fun b=>decide (cg c b=0)&&decide ((k:Int)<b) with
   | true=>
     refine keep ?_
     unfold newC Z9i
     rw [ht];simp
   | false=>
     have e:newC g c k=(Z8i c (Zwb g k):Int):=by
      unfold newC Z9i
      rw [ht,decide_eq_true h0];simp
     dsimp only [Zyh]
     have at1:=at_mid (l:=(List.range k).map (newC g c)++cg c k::c.drop (k+1)) rfl
     rw [hA] at at1
     have st1:=Z69 ((List.range k).map (newC g c)) (c.drop (k+1)) (cg c k) 1
     rw [hA] at st1
     rw [Zl5,at1,Option.bind_some,st1,s_Round2 g hg c hc k (by omega) _ _ hA,e]
     simp
  ·rw [decide_eq_false h0,Bool.not_false,Zk5]
   refine keep ?_
   unfold newC Z9i
   rw [decide_eq_false h0];simp
 ·dsimp only [Zzh]
  rw [decide_eq_false (by omega),Zl5,List.drop_eq_nil_of_le (by omega),List.append_nil]
  rfl
set_option maxRecDepth 100000
set_option maxHeartbeats 4000000
def e20:EC:=.seq (.reg [(Qa 1 (.box 48 2 (.t 0))),(Qa 2 (.alloc 25 [.nl,.nl])),(Qa 3 (.mv (.c (.iv 0))))]) (.seq (.reg [(Qa 9 (.loadA 2 (.t 1))),(Qa 10 (.call 55 [(.t 9)])),(Qa 8 (.mv (.t 10))),(Qa 11 (.ext (.t 8) 0)),(Qa 12 (.ext (.t 8) 1)),(Qa 13 (.ext (.t 8) 2)),(Qa 4 (.mv (.t 11))),(Qa 5 (.mv (.t 12))),(Qa 6 (.mv (.t 13)))]) (.seq (.seq (.reg [(Qa 14 (.mv (.t 6))),(Qa 15 (.bin .neq (.t 14) (.c (.iv 0))))]) (.ite (.t 15) (.seq (.reg [(Qa 16 (.build [.nl,.nl] [])),(Qa 17 (.mv (.t 6))),(Qb (.store 2 (.t 2) (.t 16))),(Qa 3 (.mv (.t 17)))]) (.ret)) (.skip))) (.seq (.reg [(Qa 19 (.loadA 2 (.t 1))),(Qa 20 (.mv (.t 4))),(Qa 21 (.call 56 [(.t 19),(.t 20)])),(Qa 18 (.mv (.t 21))),(Qa 22 (.ext (.t 18) 0)),(Qa 23 (.ext (.t 18) 1)),(Qa 7 (.mv (.t 22))),(Qa 6 (.mv (.t 23)))]) (.seq (.reg [(Qa 24 (.mv (.t 7))),(Qa 25 (.build [.nl,.nl] [(0,1,(.t 24))])),(Qa 26 (.mv (.t 6))),(Qb (.store 2 (.t 2) (.t 25))),(Qa 3 (.mv (.t 26)))]) (.ret)))))
theorem ok20:FnOK Tryz.prog 20 Tryz.f20 e20 [.c 2 (some 2),.t 3] 1 26:=⟨by kernel_rfl,⟨_,rfl,by kernel_rfl⟩,by kernel_rfl,by kernel_rfl⟩
noncomputable def Zdi (x1:Graph):Option (Scene×Int):=
 (Z6i x1).bind fun x2=>
 ifb (!decide (x2.2.2=0)) (
 some ((Scene.mk (([]:(List Diner))) (([]:(List Mail)))),x2.2.2)) (
 (Zjb x1 x2.1).bind fun x3=>
 some ((Scene.mk x3.1 (([]:(List Mail)))),x3.2))
theorem Zei (x1:Graph) (r:(Scene×Int)) (h:Zdi x1=some r):Zq2 Tryz.prog 20 [.agg (Graph.row x1)] (.tup [.agg (Scene.row r.1),.iv r.2]):=by
 refine Zu2 ok20 rfl rfl fun w0 H0=>?_
 rw [Zdi] at h
 refine Zl2 9 ?_;dsimp only [e20,go_sem];refine ⟨by simp,?_⟩;obtain ⟨x2,ex2,h⟩:=Option.bind_eq_some_iff.1 h;refine Zz2 trivial (k_colour_Run x1 _ ex2) (h:=?_);refine Zl2 14 ?_;dsimp only [e20,go_sem];refine ⟨by simp,?_⟩;refine Zn4 h rfl (fun _ h=>?_) fun _ h=>?_
 ·refine Zl2 7 ?_;dsimp only [e20,go_sem];refine ⟨by simp,?_⟩;exact Zx4 (res:=fun (r:(Scene×Int))=>.tup [.agg (Scene.row r.1),.iv r.2]) ok20 h
 ·refine Zl2 5 ?_;dsimp only [e20,go_sem];refine ⟨by simp,?_⟩;obtain ⟨x3,ex3,h⟩:=Option.bind_eq_some_iff.1 h;refine Zz2 trivial (k_place_Table x1 x2.1 _ ex3) (h:=?_);refine Zl2 14 ?_;dsimp only [e20,go_sem];refine ⟨by simp,?_⟩;exact Zx4 (res:=fun (r:(Scene×Int))=>.tup [.agg (Scene.row r.1),.iv r.2]) ok20 h
theorem lsf_le (p:Nat→Bool):∀(f k j:Nat),p j=true→k≤j→j≤k+f→lsf p f k≤j
 | 0,k,j,_,h1,_=>h1
 | f+1,k,j,h,h1,h2=>by
   simp only [lsf]
   split
   ·exact h1
   ·rename_i hp
    have:k≠j:=by rintro rfl;exact hp h
    exact lsf_le p f (k+1) j h (by omega) (by omega)
theorem countP_lt {α:Type} (p q:α→Bool):∀(l:List α),(∀x∈l,p x=true→q x=true)→(∃x∈l,q x=true∧p x=false)→l.countP p<l.countP q
 | [],_,⟨x,hx,_⟩=>absurd hx (by simp)
 | y::l,h,⟨x,hx,h1,h2⟩=>by
   have hle:l.countP p≤l.countP q:=List.countP_mono_left fun z hz=>h z (List.mem_cons_of_mem _ hz)
   rw [List.countP_cons,List.countP_cons]
   rcases List.mem_cons.1 hx with rfl | hx
   ·rw [h1,h2];simp;omega
   ·have:=countP_lt p q l (fun z hz=>h z (List.mem_cons_of_mem _ hz)) ⟨x,hx,h1,h2⟩
    have hy:=h y (by simp)
    cases hp:p y with
    | false=>simp;omega
    | true=>rw [hy hp];simp;omega
def zeros (g:Graph) (c:List Int):Nat:=(List.range g.N.toNat).countP fun a:Nat=>decide (cg c (a:Int)=0)
theorem zeros_le (g:Graph) (c:List Int):zeros g c≤g.N.toNat:=by
 have:=List.countP_le_length (p:=fun a:Nat=>decide (cg c (a:Int)=0)) (l:=List.range g.N.toNat)
 simpa [zeros] using this
structure ColN (g:Graph) (c:List Int) (n:Nat):Prop where
 len:(c.length:Int)=g.N
 lo:∀x∈c,0≤x
 hi:∀x∈c,x≤n
 ne:∀a b,b∈Zwb g a→cg c a≠0→cg c b≠0→cg c a≠cg c b
theorem ColN.I {g:Graph} {c:List Int} {n:Nat} (h:ColN g c n) (hn:n≤100):ColI g c:=⟨h.len,h.lo,fun x hx=>by have:=h.hi x hx;omega⟩
theorem Zfi {g:Graph} {c:List Int} {a:Int} (h0:0≤a) (h:a<g.N):cg (Zai g c) a=newC g c a.toNat:=by
 unfold cg Zai
 rw [List.getElem?_map,List.getElem?_range (by omega)];rfl
theorem near_symm' {g:Graph} (hg:okG g=true) {a b:Int} (h:b∈Zwb g a):a∈Zwb g b:=by
 rw [Zzb hg] at *;exact h.symm
theorem Zgi {c near:List Int} {a:Int}:Z9i c near a=true↔cg c a=0∧∀b∈near,cg c b=0→b≤a:=by
 unfold Z9i
 simp only [Bool.and_eq_true,decide_eq_true_eq,Bool.not_eq_true',List.any_eq_false,Bool.and_eq_true,decide_eq_true_eq,not_and]
 constructor
 ·rintro ⟨h1,h2⟩;exact ⟨h1,fun b hb h0=>by have:=h2 b hb h0;omega⟩
 ·rintro ⟨h1,h2⟩;exact ⟨h1,fun b hb h0=>by have:=h2 b hb h0;omega⟩
theorem freshC_le {g:Graph} {c:List Int} {n:Nat} (hc:ColN g c n) (hn:n≤100) (a:Int):Z8i c (Zwb g a)≤n+1:=by
 refine lsf_le _ _ _ _ ?_ (by omega) (by omega)
 simp only [Bool.not_eq_true']
 unfold Z7i
 rw [List.any_eq_false]
 intro b hb
 simp only [decide_eq_true_eq]
 intro he
 by_cases h:0≤b∧b<c.length
 ·have:=hc.hi _ (cg_mem (c:=c) h.1 h.2)
  omega
 ·unfold cg at he
  have hb0:0≤b.toNat:=Nat.zero_le _
  cases hq:c[b.toNat]? with
  | none=>rw [hq] at he;simp at he;omega
  | some y=>
    rw [hq] at he
    have:=hc.hi y (List.mem_iff_getElem?.2 ⟨_,hq⟩)
    simp at he;omega
theorem Zhi (g:Graph) (c:List Int) (a:Nat):(Z9i c (Zwb g a) a=true∧newC g c a=(Z8i c (Zwb g a):Int))∨(Z9i c (Zwb g a) a=false∧newC g c a=cg c a):=by
 unfold newC
 cases Z9i c (Zwb g a) a<;>simp
theorem ColN.round {g:Graph} (hg:okG g=true) {c:List Int} {n:Nat} (hc:ColN g c n) (hn:n≤100):ColN g (Zai g c) (n+1):=by
 obtain ⟨g1,g2,_,_,_⟩:=Zp7 hg
 have hI:=hc.I hn
 have hmem:∀x∈Zai g c,0≤x∧x≤n+1:=fun x hx=>by
  obtain ⟨a,ha,rfl⟩:=List.mem_map.1 hx
  have ha':=List.mem_range.1 ha
  have:=freshC_le hc hn a
  rcases Zhi g c a with ⟨_,h2⟩ | ⟨_,h2⟩
  ·rw [h2];omega
  ·rw [h2]
   have hm:=cg_mem (c:=c) (a:=(a:Int)) (by omega) (by have:=hc.len;omega)
   have:=hc.lo _ hm
   have:=hc.hi _ hm
   omega
 refine ⟨by simp [Zai];omega,fun x hx=>(hmem x hx).1,fun x hx=>by have:=(hmem x hx).2;omega,fun a b hb ha0 hb0=>?_⟩
 obtain ⟨b1,b2,b3,a1,a2⟩:=Z0c hg hb
 have hab:=near_symm' hg hb
 rw [Zfi a1 a2] at ha0 ⊢
 rw [Zfi b1 b2] at hb0 ⊢
 have ea:((a.toNat:Nat):Int)=a:=Int.toNat_of_nonneg a1
 have eb:((b.toNat:Nat):Int)=b:=Int.toNat_of_nonneg b1
 have ua:=(Zbi hg hI a).1
 have ub:=(Zbi hg hI b).1
 unfold Z7i at ua ub
 rw [List.any_eq_false] at ua ub
 have ua':=ua b hb
 have ub':=ub a hab
 simp only [decide_eq_true_eq] at ua' ub'
 rcases Zhi g c a.toNat with ⟨h1,h2⟩ | ⟨h1,h2⟩<;>rcases Zhi g c b.toNat with ⟨k1,k2⟩ | ⟨k1,k2⟩<;>rw [ea] at h1 h2<;>rw [eb] at k1 k2
 ·rw [Zgi] at h1 k1
  have:=h1.2 b hb k1.1
  have:=k1.2 a hab h1.1
  exact absurd (by omega) b3
 ·rw [h2,k2];exact fun e=>ua' e.symm
 ·rw [h2,k2];exact ub'
 ·rw [h2,k2]
  rw [h2] at ha0
  rw [k2] at hb0
  exact hc.ne a b hb ha0 hb0
theorem max_zero (p:Nat→Bool):∀n:Nat,(∃a,a<n∧p a=true)→∃a,a<n∧p a=true∧∀b,b<n→p b=true→b≤a
 | 0,⟨a,h,_⟩=>absurd h (by omega)
 | n+1,⟨a,h,hp⟩=>by
   cases hn:p n with
   | true=>exact ⟨n,by omega,hn,fun b hb _=>by omega⟩
   | false=>
     have:a≠n:=by rintro rfl;rw [hn] at hp;simp at hp
     obtain ⟨a',h1,h2,h3⟩:=max_zero p n ⟨a,by omega,hp⟩
     refine ⟨a',by omega,h2,fun b hb hpb=>?_⟩
     have:b≠n:=by rintro rfl;rw [hn] at hpb;simp at hpb
     exact h3 b (by omega) hpb
theorem Zii {g:Graph} (hg:okG g=true) {c:List Int} {n:Nat} (hc:ColN g c n) (hn:n≤100) (h0:(0:Int)∈c):zeros g (Zai g c)<zeros g c:=by
 have hI:=hc.I hn
 have ex:∃a,a<g.N.toNat∧(fun a:Nat=>decide (cg c (a:Int)=0)) a=true:=by
  obtain ⟨k,hk⟩:=List.mem_iff_getElem?.1 h0
  have hlt:=(List.getElem?_eq_some_iff.1 hk).1
  have:=hc.len
  refine ⟨k,by omega,?_⟩
  simp [cg,hk]
 obtain ⟨a,h1,h2,h3⟩:=max_zero _ _ ex
 simp only [decide_eq_true_eq] at h2 h3
 refine countP_lt _ _ _ (fun b hb hz=>?_) ⟨a,List.mem_range.2 h1,by simpa using h2,?_⟩
 ·have hb':=List.mem_range.1 hb
  have hf:=(Zbi hg hI b).2.1
  simp only [decide_eq_true_eq] at hz ⊢
  rw [Zfi (by omega) (by omega),Int.toNat_natCast] at hz
  rcases Zhi g c b with ⟨k1,k2⟩ | ⟨k1,k2⟩
  ·rw [Zgi] at k1;exact k1.1
  ·rw [←k2];exact hz
 ·have ht:Z9i c (Zwb g a) a=true:=by
   rw [Zgi]
   refine ⟨h2,fun b hb hb0=>?_⟩
   obtain ⟨b1,b2,_⟩:=Z0c hg hb
   have:=h3 b.toNat (by omega) (by rw [Int.toNat_of_nonneg b1];exact hb0)
   omega
  have hf:=(Zbi hg hI a).2.1
  simp only [decide_eq_false_iff_not]
  rw [Zfi (by omega) (by omega),Int.toNat_natCast]
  unfold newC
  rw [ht];simp;omega
def runL (g:Graph):Nat→List Int→Int→List Int×Int
 | 0,c,n=>(c,n)
 | f+1,c,n=>if (0:Int)∈c then runL g f (Zai g c) (n+1) else (c,n)
theorem zeros_pos {g:Graph} {c:List Int} {n:Nat} (hc:ColN g c n) (h0:(0:Int)∈c):0<zeros g c:=by
 obtain ⟨k,hk⟩:=List.mem_iff_getElem?.1 h0
 have hlt:=(List.getElem?_eq_some_iff.1 hk).1
 have:=hc.len
 refine List.countP_pos_iff.2 ⟨k,List.mem_range.2 (by omega),?_⟩
 simp [cg,hk]
theorem runL_right {g:Graph} (hg:okG g=true):∀(f:Nat) (c:List Int) (n:Nat),ColN g c n→zeros g c≤f→n+f≤100→Zwa g (runL g f c n).1=true∧(runL g f c n).1.length≤64:=by
 obtain ⟨g1,g2,g3,g4,g5⟩:=Zp7 hg
 have done:∀(c:List Int) (n:Nat),ColN g c n→(0:Int)∉c→Zwa g c=true∧c.length≤64:=fun c n hc h0=>by
  have hl:=hc.len
  refine ⟨?_,by omega⟩
  unfold Zwa
  rw [decide_eq_true hl,Bool.true_and,Bool.and_eq_true,List.all_eq_true,List.all_eq_true]
  have nz:∀a:Int,0≤a→a<g.N→cg c a≠0:=fun a h1 h2 h=>h0 (h ▸ cg_mem (c:=c) h1 (by omega))
  refine ⟨fun x hx=>?_,fun e he=>?_⟩
  ·have:=hc.lo x hx
   have:x≠0:=by rintro rfl;exact h0 hx
   simp;omega
  ·obtain ⟨e1,e2,e3⟩:=g4 e he
   have:=hc.ne e.A e.B ((Zzb hg).2 (.inl he)) (nz _ e1 (by omega)) (nz _ (by omega) e3)
   simpa using this
 intro f
 induction f with
 | zero=>
   intro c n hc hz _
   have h0:(0:Int)∉c:=fun h=>by have:=zeros_pos hc h;omega
   exact done c n hc h0
 | succ f ih=>
   intro c n hc hz hn
   simp only [runL]
   split
   ·rename_i h0
    have:=Zii hg hc (by omega) h0
    have k:=ih (Zai g c) (n+1) (hc.round hg (by omega)) (by omega) (by omega)
    rwa [show ((n+1:Nat):Int)=(n:Int)+1 from rfl] at k
   ·rename_i h0
    exact done c n hc h0
theorem run_loop {g:Graph} (hg:okG g=true):∀(f:Nat) (c:List Int) (n:Nat),ColN g c n→zeros g c≤f→n+f≤100→loop (Z5i g) (c,(n:Int))=some ((runL g f c n).1,(runL g f c n).2,0):=by
 obtain ⟨g1,g2,g3,g4,g5⟩:=Zp7 hg
 have stop:∀(c:List Int) (n:Nat),ColN g c n→(0:Int)∉c→loop (Z5i g) (c,(n:Int))=some (c,(n:Int),0):=fun c n hc h0=>by
  have hl:=hc.len
  rw [Ze4]
  dsimp only [Z5i]
  rw [Zci c 0 (by omega),Option.bind_some,decide_eq_false h0,Zl5]
  rfl
 intro f
 induction f with
 | zero=>
   intro c n hc hz _
   have h0:(0:Int)∉c:=fun h=>by have:=zeros_pos hc h;omega
   exact stop c n hc h0
 | succ f ih=>
   intro c n hc hz hn
   have hl:=hc.len
   simp only [runL]
   by_cases h0:(0:Int)∈c
   ·rw [if_pos h0,Ze4]
    dsimp only [Z5i]
    rw [Zci c 0 (by omega),Option.bind_some,decide_eq_true h0,Zk5,s_Round g hg c (hc.I (by omega)),Option.bind_some,Zs5 (by omega)]
    have:=Zii hg hc (by omega) h0
    exact ih (Zai g c) (n+1) (hc.round hg (by omega)) (by omega) (by omega)
   ·rw [if_neg h0];exact stop c n hc h0
def c0 (g:Graph):List Int:=List.replicate g.N.toNat 0
def Zji (g:Graph):List Int:=(runL g 64 (c0 g) 0).1
theorem cg_c0 (g:Graph) (a:Int):cg (c0 g) a=0:=by
 unfold cg c0
 rw [List.getElem?_replicate]
 split<;>rfl
theorem c0_ok {g:Graph} (hg:okG g=true):ColN g (c0 g) 0:=by
 obtain ⟨g1,_⟩:=Zp7 hg
 refine ⟨by simp [c0];omega,fun x hx=>?_,fun x hx=>?_,fun a b _ h _=>absurd (cg_c0 g a) h⟩
 ·have:=List.eq_of_mem_replicate hx;omega
 ·have:=List.eq_of_mem_replicate hx;omega
theorem zeros64 {g:Graph} (hg:okG g=true) (c:List Int):zeros g c≤64:=by
 have:=zeros_le g c
 have:=(Zp7 hg).2.1
 omega
theorem Zki {g:Graph} (hg:okG g=true):Zwa g (Zji g)=true∧(Zji g).length≤64:=by
 have:=runL_right hg 64 (c0 g) 0 (c0_ok hg) (zeros64 hg _) (by omega)
 exact this
theorem s_Run (g:Graph) (hg:okG g=true):Z6i g=some (Zji g,(runL g 64 (c0 g) 0).2,0):=by
 obtain ⟨g1,g2,_⟩:=Zp7 hg
 simp only [Z6i,Zo7,hg,if_true,Option.bind_some,decide_true,Bool.not_true,Zl5]
 have e:mk_ 8 g.N 0=some (c0 g):=by
  unfold mk_
  rw [if_pos ⟨by omega,by omega⟩];rfl
 rw [e,Option.bind_some]
 exact run_loop hg 64 (c0 g) 0 (c0_ok hg) (zeros64 hg _) (by omega)
def Zli (g:Graph):Scene:=⟨Z3c g (Zji g),[]⟩
theorem s_New (g:Graph):Zdi g=some (if okG g then (Zli g,0) else (⟨[],[]⟩,30)):=by
 cases hg:okG g with
 | false=>
   have:Z6i g=some ([],0,30):=by
    simp only [Z6i,Zo7,hg,Option.bind_some];rfl
   simp only [Zdi,this,Option.bind_some];rfl
 | true=>
   obtain ⟨h1,h2⟩:=Zki hg
   simp only [Zdi,s_Run g hg,Option.bind_some,decide_true,Bool.not_true,Zl5,s_Table g _ (show (Zji g).length≤1000000 by omega),hg,h1,if_true]
   rfl
end NX
end Go.Proofs.YtadebhbiglmodaaGreat
