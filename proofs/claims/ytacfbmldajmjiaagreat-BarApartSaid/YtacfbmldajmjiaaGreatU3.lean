/-
  The function narthex/drink.Fire: its code compiled, a model, and that the code answers as the model. Written by a program of ours (lb.py). No statement of the seat is proved here.
-/
import Derived.KernelRfl
import Derived.Shelf.Sort.Plain
import Derived.Shelf.Slices.In.SortNone
import Derived.Sort.OwnSortedInts
import Derived.Shelf.Slices.CompactI
import Derived.Lib.RowBridge
import Derived.Test.YtacfbmldajmjiaaGreatU2
import Derived.Test.YtacfbmldajmjiaaGreatU1
namespace Go.Proofs.YtacfbmldajmjiaaGreat
namespace NX
open Go
set_option maxRecDepth 100000
set_option maxHeartbeats 4000000
def Z7c:EC:=.blk 1 (.seq (.reg [(Qa 18 (.mv (.t 6))),(Qa 19 (.nilchk (.t 18))),(Qa 20 (.fld 0 (.t 19))),(Qa 21 (.loadA 5 (.t 20))),(Qa 22 (.call 120 [(.t 21)])),(Qa 7 (.alloc 63 [.iv 0,.iv 0,.nl,.iv 0,.nl])),(Qb (.store 5 (.t 7) (.t 22)))]) (.seq (.reg [(Qa 23 (.mv (.t 6))),(Qa 24 (.call 157 [(.t 23)]))]) (.seq (.drw [(Qa 25 (.loadA 5 (.t 7))),(Qa 26 (.mv (.t 6))),(Qa 27 (.nilchk (.t 26))),(Qa 28 (.fld 0 (.t 27))),(Qa 29 (.loadA 5 (.t 28))),(Qa 30 (.call 68 [(.t 25),(.t 29)]))] [[],[],[1],[2],[3],[0,4]] [[5],[2],[1,3],[2,4],[3,5],[0,4]]) (.ite (.t 30) (.seq (.drw [(Qa 31 (.mv (.t 6))),(Qa 32 (.nilchk (.t 31))),(Qa 33 (.fld 0 (.t 32))),(Qa 34 (.loadA 5 (.t 33))),(Qa 35 (.mv (.t 6))),(Qa 36 (.nilchk (.t 35))),(Qa 37 (.fld 5 (.t 36))),(Qa 38 (.load (.t 37))),(Qb (.store 5 (.t 2) (.t 34))),(Qa 3 (.mv (.t 38))),(Qa 4 (.mv (.c (.iv 0))))] [[],[0],[1],[2],[],[4],[5],[6],[3,0,1,2,3],[7,8,0,1,2,3,4,5,6,7,8],[9,0,1,2,3,4,5,6,7,8,9]] [[1],[0,2],[1,3],[2,8],[5],[4,6],[5,7],[6,9],[3],[7],[]]) (.ret)) (.skip)))))
def e135:EC:=.seq (.reg [(Qa 1 (.box 63 5 (.t 0))),(Qa 2 (.alloc 63 [.iv 0,.iv 0,.nl,.iv 0,.nl])),(Qa 3 (.mv (.c .nl))),(Qa 4 (.mv (.c (.iv 0))))]) (.seq (.seq (.reg [(Qa 8 (.loadA 5 (.t 1))),(Qa 9 (.call 58 [(.t 8)])),(Qa 5 (.mv (.t 9)))]) (.seq (.reg [(Qa 10 (.mv (.t 5))),(Qa 11 (.bin .neq (.t 10) (.c (.iv 0))))]) (.ite (.t 11) (.seq (.reg [(Qa 12 (.build [.iv 0,.iv 0,.nl,.iv 0,.nl] [])),(Qa 13 (.mv (.t 5))),(Qb (.store 5 (.t 2) (.t 12))),(Qa 3 (.mv (.c .nl))),(Qa 4 (.mv (.t 13)))]) (.ret)) (.skip)))) (.seq (.reg [(Qa 14 (.loadA 5 (.t 1))),(Qa 15 (.call 120 [(.t 14)])),(Qa 16 (.build [.iv 0,.iv 0,.nl,.iv 0,.nl,.nl] [(0,5,(.t 15))])),(Qa 17 (.box 188 6 (.t 16))),(Qa 6 (.mv (.t 17)))]) (.blk 0 (.loop Z7c))))
theorem ok135:FnOK Tryz.prog 135 Tryz.f135 e135 [.c 2 (some 5),.t 3,.t 4] 1 38:=⟨by kernel_rfl,⟨_,rfl,by kernel_rfl⟩,by kernel_rfl,by kernel_rfl⟩
noncomputable def Z8c (x1:Int) (x2:Int) (_x3:Int) (x4:Int) (x5:(List Side)) (x6:(List Mail)):Option (List Mail):=
 (at_ x5 x4).bind fun x7=>
 (Zc4 40 x6 ([(Mail.mk x2 x7.Peer ((Msg.mk x1 x7.Epoch 0)))])).bind fun x8=>
 some x8
theorem Z9c (x1:Int) (x2:Int) (x3:Int) (x4:Int) (x5:(List Side)) (x6:(List Mail)) (r:(List Mail)) (h:Z8c x1 x2 x3 x4 x5 x6=some r):FunT Tryz.prog 194 [.iv x1,.ptr 6 0,.ptr 4 0,.ptr 7 0] [none,none,none,none,some ⟨61,[.iv x2,.iv x3,.osl 1]⟩,none,some ⟨23,[.osl 2]⟩,some ⟨189,[.oel 1 ((x4).toNat*8) 0]⟩] [none,some ⟨66,8,List.map Side.row x5⟩,some ⟨95,5,List.map Mail.row x6⟩] (.tup []) [none,none,none,none,some ⟨61,[.iv x2,.iv x3,.osl 1]⟩,none,some ⟨23,[.osl 4]⟩,some ⟨189,[.oel 1 ((x4).toNat*8) 0]⟩] [none,some ⟨66,8,List.map Side.row x5⟩,none,none,some ⟨95,5,List.map Mail.row r⟩]:=by
 refine Zt5 Zib rfl rfl rfl (by first | rfl | simp [go_sem]) fun w0 M0=>?_
 rw [Z8c] at h
 dsimp only [lun,List.cons_append,List.nil_append]
 refine Zh3 (by kernel_rfl) fun all hall hs hnap haf=>?_;dsimp only [go_sem];refine Zf5 hall hs haf hnap 3 14 ?_;dsimp only [go_sem];refine ⟨by simp,?_⟩;refine Zw3 0 3 8 rfl ?_ ?_ ?_
 ·refine Zz3 hall rfl trivial ?_;dsimp only [go_sem];refine Zv3 3 8 rfl ?_ ?_
  ·refine Zz3 hall rfl trivial ?_;dsimp only [go_sem];refine Zf5 hall hs haf hnap 2 10 ?_;dsimp only [go_sem];refine ⟨by simp,?_⟩;obtain ⟨x7,ex7,h⟩:=Option.bind_eq_some_iff.1 h;refine Zv3 6 8 rfl ?_ ?_
   ·refine Zy5 hall Side.row ex7 rfl trivial rfl rfl rfl ?_;dsimp only [go_sem];refine Zu3 8 rfl ?_;refine Zz3 hall rfl trivial ?_;dsimp only [go_sem];refine Zf5 hall hs haf hnap 2 6 ?_;dsimp only [go_sem];refine ⟨by simp,?_⟩;refine Zu3 11 rfl ?_;refine Zy5 hall Side.row ex7 rfl trivial rfl rfl rfl ?_;dsimp only [go_sem];refine Zf5 hall hs haf hnap 2 3 ?_;dsimp only [go_sem];refine ⟨by simp,?_⟩;refine Zu3 14 rfl ?_;refine Zz3 hall rfl trivial ?_;dsimp only [go_sem];refine Zu3 15 rfl ?_;obtain ⟨x8,ex8,h⟩:=Option.bind_eq_some_iff.1 h
    refine Zr4 Mail.row ex8 hall rfl trivial rfl rfl rfl ?_;dsimp only [go_sem];refine Zu3 16 rfl ?_;refine Zz3 hall rfl trivial ?_;dsimp only [go_sem];refine Zt3 rfl ?_ _;obtain rfl:=Option.some.inj h;exact Zv5 Zib rfl (by simp [go_sem])
   ·refine Zz3 hall rfl trivial ?_;dsimp only [go_sem];refine Zf5 hall hs haf hnap 2 7 ?_;dsimp only [go_sem];refine ⟨by simp,?_⟩;refine Zv3 6 11 rfl ?_ ?_
    ·refine Zy5 hall Side.row ex7 rfl trivial rfl rfl rfl ?_;dsimp only [go_sem];refine Zu3 11 rfl ?_;refine Zy5 hall Side.row ex7 rfl trivial rfl rfl rfl ?_;dsimp only [go_sem];refine Zf5 hall hs haf hnap 2 3 ?_;dsimp only [go_sem];refine ⟨by simp,?_⟩;refine Zu3 14 rfl ?_;refine Zz3 hall rfl trivial ?_;dsimp only [go_sem];refine Zu3 15 rfl ?_;obtain ⟨x8,ex8,h⟩:=Option.bind_eq_some_iff.1 h;refine Zr4 Mail.row ex8 hall rfl trivial rfl rfl rfl ?_;dsimp only [go_sem];refine Zu3 16 rfl ?_;refine Zz3 hall rfl trivial ?_;dsimp only [go_sem]
     refine Zt3 rfl ?_ _;obtain rfl:=Option.some.inj h;exact Zv5 Zib rfl (by simp [go_sem])
    ·refine Zy5 hall Side.row ex7 rfl trivial rfl rfl rfl ?_;dsimp only [go_sem];refine Zf5 hall hs haf hnap 1 5 ?_;dsimp only [go_sem];refine ⟨by simp,?_⟩;refine Zu3 6 rfl ?_;refine Zy5 hall Side.row ex7 rfl trivial rfl rfl rfl ?_;dsimp only [go_sem];refine Zf5 hall hs haf hnap 1 3 ?_;dsimp only [go_sem];refine ⟨by simp,?_⟩;refine Zu3 14 rfl ?_;refine Zz3 hall rfl trivial ?_;dsimp only [go_sem];refine Zu3 15 rfl ?_;obtain ⟨x8,ex8,h⟩:=Option.bind_eq_some_iff.1 h;refine Zr4 Mail.row ex8 hall rfl trivial rfl rfl rfl ?_;dsimp only [go_sem]
     refine Zu3 16 rfl ?_;refine Zz3 hall rfl trivial ?_;dsimp only [go_sem];refine Zt3 rfl ?_ _;obtain rfl:=Option.some.inj h;exact Zv5 Zib rfl (by simp [go_sem])
  ·refine Zz3 hall rfl trivial ?_;dsimp only [go_sem];refine Zf5 hall hs haf hnap 2 10 ?_;dsimp only [go_sem];refine ⟨by simp,?_⟩;obtain ⟨x7,ex7,h⟩:=Option.bind_eq_some_iff.1 h;refine Zv3 3 11 rfl ?_ ?_
   ·refine Zz3 hall rfl trivial ?_;dsimp only [go_sem];refine Zf5 hall hs haf hnap 2 7 ?_;dsimp only [go_sem];refine ⟨by simp,?_⟩;refine Zv3 6 11 rfl ?_ ?_
    ·refine Zy5 hall Side.row ex7 rfl trivial rfl rfl rfl ?_;dsimp only [go_sem];refine Zu3 11 rfl ?_;refine Zy5 hall Side.row ex7 rfl trivial rfl rfl rfl ?_;dsimp only [go_sem];refine Zf5 hall hs haf hnap 2 3 ?_;dsimp only [go_sem];refine ⟨by simp,?_⟩;refine Zu3 14 rfl ?_;refine Zz3 hall rfl trivial ?_;dsimp only [go_sem];refine Zu3 15 rfl ?_;obtain ⟨x8,ex8,h⟩:=Option.bind_eq_some_iff.1 h;refine Zr4 Mail.row ex8 hall rfl trivial rfl rfl rfl ?_;dsimp only [go_sem];refine Zu3 16 rfl ?_;refine Zz3 hall rfl trivial ?_;dsimp only [go_sem]
     refine Zt3 rfl ?_ _;obtain rfl:=Option.some.inj h;exact Zv5 Zib rfl (by simp [go_sem])
    ·refine Zy5 hall Side.row ex7 rfl trivial rfl rfl rfl ?_;dsimp only [go_sem];refine Zf5 hall hs haf hnap 1 5 ?_;dsimp only [go_sem];refine ⟨by simp,?_⟩;refine Zu3 6 rfl ?_;refine Zy5 hall Side.row ex7 rfl trivial rfl rfl rfl ?_;dsimp only [go_sem];refine Zf5 hall hs haf hnap 1 3 ?_;dsimp only [go_sem];refine ⟨by simp,?_⟩;refine Zu3 14 rfl ?_;refine Zz3 hall rfl trivial ?_;dsimp only [go_sem];refine Zu3 15 rfl ?_;obtain ⟨x8,ex8,h⟩:=Option.bind_eq_some_iff.1 h;refine Zr4 Mail.row ex8 hall rfl trivial rfl rfl rfl ?_;dsimp only [go_sem]
     refine Zu3 16 rfl ?_;refine Zz3 hall rfl trivial ?_;dsimp only [go_sem];refine Zt3 rfl ?_ _;obtain rfl:=Option.some.inj h;exact Zv5 Zib rfl (by simp [go_sem])
   ·refine Zy5 hall Side.row ex7 rfl trivial rfl rfl rfl ?_;dsimp only [go_sem];refine Zf5 hall hs haf hnap 1 8 ?_;dsimp only [go_sem];refine ⟨by simp,?_⟩;refine Zu3 3 rfl ?_;refine Zz3 hall rfl trivial ?_;dsimp only [go_sem];refine Zf5 hall hs haf hnap 2 5 ?_;dsimp only [go_sem];refine ⟨by simp,?_⟩;refine Zu3 6 rfl ?_;refine Zy5 hall Side.row ex7 rfl trivial rfl rfl rfl ?_;dsimp only [go_sem];refine Zf5 hall hs haf hnap 1 3 ?_;dsimp only [go_sem];refine ⟨by simp,?_⟩;refine Zu3 14 rfl ?_;refine Zz3 hall rfl trivial ?_;dsimp only [go_sem]
    refine Zu3 15 rfl ?_;obtain ⟨x8,ex8,h⟩:=Option.bind_eq_some_iff.1 h;refine Zr4 Mail.row ex8 hall rfl trivial rfl rfl rfl ?_;dsimp only [go_sem];refine Zu3 16 rfl ?_;refine Zz3 hall rfl trivial ?_;dsimp only [go_sem];refine Zt3 rfl ?_ _;obtain rfl:=Option.some.inj h;exact Zv5 Zib rfl (by simp [go_sem])
 ·refine Zz3 hall rfl trivial ?_;dsimp only [go_sem];refine Zf5 hall hs haf hnap 2 11 ?_;dsimp only [go_sem];refine ⟨by simp,?_⟩;obtain ⟨x7,ex7,h⟩:=Option.bind_eq_some_iff.1 h;refine Zw3 0 6 8 rfl ?_ ?_ ?_
  ·refine Zz3 hall rfl trivial ?_;dsimp only [go_sem];refine Zv3 6 8 rfl ?_ ?_
   ·refine Zy5 hall Side.row ex7 rfl trivial rfl rfl rfl ?_;dsimp only [go_sem];refine Zu3 8 rfl ?_;refine Zz3 hall rfl trivial ?_;dsimp only [go_sem];refine Zf5 hall hs haf hnap 2 6 ?_;dsimp only [go_sem];refine ⟨by simp,?_⟩;refine Zu3 11 rfl ?_;refine Zy5 hall Side.row ex7 rfl trivial rfl rfl rfl ?_;dsimp only [go_sem];refine Zf5 hall hs haf hnap 2 3 ?_;dsimp only [go_sem];refine ⟨by simp,?_⟩;refine Zu3 14 rfl ?_;refine Zz3 hall rfl trivial ?_;dsimp only [go_sem];refine Zu3 15 rfl ?_;obtain ⟨x8,ex8,h⟩:=Option.bind_eq_some_iff.1 h
    refine Zr4 Mail.row ex8 hall rfl trivial rfl rfl rfl ?_;dsimp only [go_sem];refine Zu3 16 rfl ?_;refine Zz3 hall rfl trivial ?_;dsimp only [go_sem];refine Zt3 rfl ?_ _;obtain rfl:=Option.some.inj h;exact Zv5 Zib rfl (by simp [go_sem])
   ·refine Zz3 hall rfl trivial ?_;dsimp only [go_sem];refine Zf5 hall hs haf hnap 2 7 ?_;dsimp only [go_sem];refine ⟨by simp,?_⟩;refine Zv3 6 11 rfl ?_ ?_
    ·refine Zy5 hall Side.row ex7 rfl trivial rfl rfl rfl ?_;dsimp only [go_sem];refine Zu3 11 rfl ?_;refine Zy5 hall Side.row ex7 rfl trivial rfl rfl rfl ?_;dsimp only [go_sem];refine Zf5 hall hs haf hnap 2 3 ?_;dsimp only [go_sem];refine ⟨by simp,?_⟩;refine Zu3 14 rfl ?_;refine Zz3 hall rfl trivial ?_;dsimp only [go_sem];refine Zu3 15 rfl ?_;obtain ⟨x8,ex8,h⟩:=Option.bind_eq_some_iff.1 h;refine Zr4 Mail.row ex8 hall rfl trivial rfl rfl rfl ?_;dsimp only [go_sem];refine Zu3 16 rfl ?_;refine Zz3 hall rfl trivial ?_;dsimp only [go_sem]
     refine Zt3 rfl ?_ _;obtain rfl:=Option.some.inj h;exact Zv5 Zib rfl (by simp [go_sem])
    ·refine Zy5 hall Side.row ex7 rfl trivial rfl rfl rfl ?_;dsimp only [go_sem];refine Zf5 hall hs haf hnap 1 5 ?_;dsimp only [go_sem];refine ⟨by simp,?_⟩;refine Zu3 6 rfl ?_;refine Zy5 hall Side.row ex7 rfl trivial rfl rfl rfl ?_;dsimp only [go_sem];refine Zf5 hall hs haf hnap 1 3 ?_;dsimp only [go_sem];refine ⟨by simp,?_⟩;refine Zu3 14 rfl ?_;refine Zz3 hall rfl trivial ?_;dsimp only [go_sem];refine Zu3 15 rfl ?_;obtain ⟨x8,ex8,h⟩:=Option.bind_eq_some_iff.1 h;refine Zr4 Mail.row ex8 hall rfl trivial rfl rfl rfl ?_;dsimp only [go_sem]
     refine Zu3 16 rfl ?_;refine Zz3 hall rfl trivial ?_;dsimp only [go_sem];refine Zt3 rfl ?_ _;obtain rfl:=Option.some.inj h;exact Zv5 Zib rfl (by simp [go_sem])
  ·refine Zy5 hall Side.row ex7 rfl trivial rfl rfl rfl ?_;dsimp only [go_sem];refine Zv3 0 8 rfl ?_ ?_
   ·refine Zz3 hall rfl trivial ?_;dsimp only [go_sem];refine Zu3 8 rfl ?_;refine Zz3 hall rfl trivial ?_;dsimp only [go_sem];refine Zf5 hall hs haf hnap 2 6 ?_;dsimp only [go_sem];refine ⟨by simp,?_⟩;refine Zu3 11 rfl ?_;refine Zy5 hall Side.row ex7 rfl trivial rfl rfl rfl ?_;dsimp only [go_sem];refine Zf5 hall hs haf hnap 2 3 ?_;dsimp only [go_sem];refine ⟨by simp,?_⟩;refine Zu3 14 rfl ?_;refine Zz3 hall rfl trivial ?_;dsimp only [go_sem];refine Zu3 15 rfl ?_;obtain ⟨x8,ex8,h⟩:=Option.bind_eq_some_iff.1 h
    refine Zr4 Mail.row ex8 hall rfl trivial rfl rfl rfl ?_;dsimp only [go_sem];refine Zu3 16 rfl ?_;refine Zz3 hall rfl trivial ?_;dsimp only [go_sem];refine Zt3 rfl ?_ _;obtain rfl:=Option.some.inj h;exact Zv5 Zib rfl (by simp [go_sem])
   ·refine Zz3 hall rfl trivial ?_;dsimp only [go_sem];refine Zf5 hall hs haf hnap 2 7 ?_;dsimp only [go_sem];refine ⟨by simp,?_⟩;refine Zv3 0 11 rfl ?_ ?_
    ·refine Zz3 hall rfl trivial ?_;dsimp only [go_sem];refine Zu3 11 rfl ?_;refine Zy5 hall Side.row ex7 rfl trivial rfl rfl rfl ?_;dsimp only [go_sem];refine Zf5 hall hs haf hnap 2 3 ?_;dsimp only [go_sem];refine ⟨by simp,?_⟩;refine Zu3 14 rfl ?_;refine Zz3 hall rfl trivial ?_;dsimp only [go_sem];refine Zu3 15 rfl ?_;obtain ⟨x8,ex8,h⟩:=Option.bind_eq_some_iff.1 h;refine Zr4 Mail.row ex8 hall rfl trivial rfl rfl rfl ?_;dsimp only [go_sem];refine Zu3 16 rfl ?_;refine Zz3 hall rfl trivial ?_;dsimp only [go_sem];refine Zt3 rfl ?_ _
     obtain rfl:=Option.some.inj h;exact Zv5 Zib rfl (by simp [go_sem])
    ·refine Zy5 hall Side.row ex7 rfl trivial rfl rfl rfl ?_;dsimp only [go_sem];refine Zf5 hall hs haf hnap 2 4 ?_;dsimp only [go_sem];refine ⟨by simp,?_⟩;refine Zv3 0 14 rfl ?_ ?_
     ·refine Zz3 hall rfl trivial ?_;dsimp only [go_sem];refine Zu3 14 rfl ?_;refine Zz3 hall rfl trivial ?_;dsimp only [go_sem];refine Zu3 15 rfl ?_;obtain ⟨x8,ex8,h⟩:=Option.bind_eq_some_iff.1 h;refine Zr4 Mail.row ex8 hall rfl trivial rfl rfl rfl ?_;dsimp only [go_sem];refine Zu3 16 rfl ?_;refine Zz3 hall rfl trivial ?_;dsimp only [go_sem];refine Zt3 rfl ?_ _;obtain rfl:=Option.some.inj h;exact Zv5 Zib rfl (by simp [go_sem])
     ·refine Zz3 hall rfl trivial ?_;dsimp only [go_sem];refine Zu3 0 rfl ?_;refine Zz3 hall rfl trivial ?_;dsimp only [go_sem];refine Zu3 15 rfl ?_;obtain ⟨x8,ex8,h⟩:=Option.bind_eq_some_iff.1 h;refine Zr4 Mail.row ex8 hall rfl trivial rfl rfl rfl ?_;dsimp only [go_sem];refine Zu3 16 rfl ?_;refine Zz3 hall rfl trivial ?_;dsimp only [go_sem];refine Zt3 rfl ?_ _;obtain rfl:=Option.some.inj h;exact Zv5 Zib rfl (by simp [go_sem])
  ·refine Zz3 hall rfl trivial ?_;dsimp only [go_sem];refine Zf5 hall hs haf hnap 2 8 ?_;dsimp only [go_sem];refine ⟨by simp,?_⟩;refine Zw3 0 6 11 rfl ?_ ?_ ?_
   ·refine Zz3 hall rfl trivial ?_;dsimp only [go_sem];refine Zv3 6 11 rfl ?_ ?_
    ·refine Zy5 hall Side.row ex7 rfl trivial rfl rfl rfl ?_;dsimp only [go_sem];refine Zu3 11 rfl ?_;refine Zy5 hall Side.row ex7 rfl trivial rfl rfl rfl ?_;dsimp only [go_sem];refine Zf5 hall hs haf hnap 2 3 ?_;dsimp only [go_sem];refine ⟨by simp,?_⟩;refine Zu3 14 rfl ?_;refine Zz3 hall rfl trivial ?_;dsimp only [go_sem];refine Zu3 15 rfl ?_;obtain ⟨x8,ex8,h⟩:=Option.bind_eq_some_iff.1 h;refine Zr4 Mail.row ex8 hall rfl trivial rfl rfl rfl ?_;dsimp only [go_sem];refine Zu3 16 rfl ?_;refine Zz3 hall rfl trivial ?_;dsimp only [go_sem]
     refine Zt3 rfl ?_ _;obtain rfl:=Option.some.inj h;exact Zv5 Zib rfl (by simp [go_sem])
    ·refine Zy5 hall Side.row ex7 rfl trivial rfl rfl rfl ?_;dsimp only [go_sem];refine Zf5 hall hs haf hnap 1 5 ?_;dsimp only [go_sem];refine ⟨by simp,?_⟩;refine Zu3 6 rfl ?_;refine Zy5 hall Side.row ex7 rfl trivial rfl rfl rfl ?_;dsimp only [go_sem];refine Zf5 hall hs haf hnap 1 3 ?_;dsimp only [go_sem];refine ⟨by simp,?_⟩;refine Zu3 14 rfl ?_;refine Zz3 hall rfl trivial ?_;dsimp only [go_sem];refine Zu3 15 rfl ?_;obtain ⟨x8,ex8,h⟩:=Option.bind_eq_some_iff.1 h;refine Zr4 Mail.row ex8 hall rfl trivial rfl rfl rfl ?_;dsimp only [go_sem]
     refine Zu3 16 rfl ?_;refine Zz3 hall rfl trivial ?_;dsimp only [go_sem];refine Zt3 rfl ?_ _;obtain rfl:=Option.some.inj h;exact Zv5 Zib rfl (by simp [go_sem])
   ·refine Zy5 hall Side.row ex7 rfl trivial rfl rfl rfl ?_;dsimp only [go_sem];refine Zv3 0 11 rfl ?_ ?_
    ·refine Zz3 hall rfl trivial ?_;dsimp only [go_sem];refine Zu3 11 rfl ?_;refine Zy5 hall Side.row ex7 rfl trivial rfl rfl rfl ?_;dsimp only [go_sem];refine Zf5 hall hs haf hnap 2 3 ?_;dsimp only [go_sem];refine ⟨by simp,?_⟩;refine Zu3 14 rfl ?_;refine Zz3 hall rfl trivial ?_;dsimp only [go_sem];refine Zu3 15 rfl ?_;obtain ⟨x8,ex8,h⟩:=Option.bind_eq_some_iff.1 h;refine Zr4 Mail.row ex8 hall rfl trivial rfl rfl rfl ?_;dsimp only [go_sem];refine Zu3 16 rfl ?_;refine Zz3 hall rfl trivial ?_;dsimp only [go_sem];refine Zt3 rfl ?_ _
     obtain rfl:=Option.some.inj h;exact Zv5 Zib rfl (by simp [go_sem])
    ·refine Zy5 hall Side.row ex7 rfl trivial rfl rfl rfl ?_;dsimp only [go_sem];refine Zf5 hall hs haf hnap 2 4 ?_;dsimp only [go_sem];refine ⟨by simp,?_⟩;refine Zv3 0 14 rfl ?_ ?_
     ·refine Zz3 hall rfl trivial ?_;dsimp only [go_sem];refine Zu3 14 rfl ?_;refine Zz3 hall rfl trivial ?_;dsimp only [go_sem];refine Zu3 15 rfl ?_;obtain ⟨x8,ex8,h⟩:=Option.bind_eq_some_iff.1 h;refine Zr4 Mail.row ex8 hall rfl trivial rfl rfl rfl ?_;dsimp only [go_sem];refine Zu3 16 rfl ?_;refine Zz3 hall rfl trivial ?_;dsimp only [go_sem];refine Zt3 rfl ?_ _;obtain rfl:=Option.some.inj h;exact Zv5 Zib rfl (by simp [go_sem])
     ·refine Zz3 hall rfl trivial ?_;dsimp only [go_sem];refine Zu3 0 rfl ?_;refine Zz3 hall rfl trivial ?_;dsimp only [go_sem];refine Zu3 15 rfl ?_;obtain ⟨x8,ex8,h⟩:=Option.bind_eq_some_iff.1 h;refine Zr4 Mail.row ex8 hall rfl trivial rfl rfl rfl ?_;dsimp only [go_sem];refine Zu3 16 rfl ?_;refine Zz3 hall rfl trivial ?_;dsimp only [go_sem];refine Zt3 rfl ?_ _;obtain rfl:=Option.some.inj h;exact Zv5 Zib rfl (by simp [go_sem])
   ·refine Zy5 hall Side.row ex7 rfl trivial rfl rfl rfl ?_;dsimp only [go_sem];refine Zf5 hall hs haf hnap 1 6 ?_;dsimp only [go_sem];refine ⟨by simp,?_⟩;refine Zv3 0 6 rfl ?_ ?_
    ·refine Zz3 hall rfl trivial ?_;dsimp only [go_sem];refine Zu3 6 rfl ?_;refine Zy5 hall Side.row ex7 rfl trivial rfl rfl rfl ?_;dsimp only [go_sem];refine Zf5 hall hs haf hnap 1 3 ?_;dsimp only [go_sem];refine ⟨by simp,?_⟩;refine Zu3 14 rfl ?_;refine Zz3 hall rfl trivial ?_;dsimp only [go_sem];refine Zu3 15 rfl ?_;obtain ⟨x8,ex8,h⟩:=Option.bind_eq_some_iff.1 h;refine Zr4 Mail.row ex8 hall rfl trivial rfl rfl rfl ?_;dsimp only [go_sem];refine Zu3 16 rfl ?_;refine Zz3 hall rfl trivial ?_;dsimp only [go_sem];refine Zt3 rfl ?_ _
     obtain rfl:=Option.some.inj h;exact Zv5 Zib rfl (by simp [go_sem])
    ·refine Zy5 hall Side.row ex7 rfl trivial rfl rfl rfl ?_;dsimp only [go_sem];refine Zf5 hall hs haf hnap 1 4 ?_;dsimp only [go_sem];refine ⟨by simp,?_⟩;refine Zv3 0 14 rfl ?_ ?_
     ·refine Zz3 hall rfl trivial ?_;dsimp only [go_sem];refine Zu3 14 rfl ?_;refine Zz3 hall rfl trivial ?_;dsimp only [go_sem];refine Zu3 15 rfl ?_;obtain ⟨x8,ex8,h⟩:=Option.bind_eq_some_iff.1 h;refine Zr4 Mail.row ex8 hall rfl trivial rfl rfl rfl ?_;dsimp only [go_sem];refine Zu3 16 rfl ?_;refine Zz3 hall rfl trivial ?_;dsimp only [go_sem];refine Zt3 rfl ?_ _;obtain rfl:=Option.some.inj h;exact Zv5 Zib rfl (by simp [go_sem])
     ·refine Zz3 hall rfl trivial ?_;dsimp only [go_sem];refine Zu3 0 rfl ?_;refine Zz3 hall rfl trivial ?_;dsimp only [go_sem];refine Zu3 15 rfl ?_;obtain ⟨x8,ex8,h⟩:=Option.bind_eq_some_iff.1 h;refine Zr4 Mail.row ex8 hall rfl trivial rfl rfl rfl ?_;dsimp only [go_sem];refine Zu3 16 rfl ?_;refine Zz3 hall rfl trivial ?_;dsimp only [go_sem];refine Zt3 rfl ?_ _;obtain rfl:=Option.some.inj h;exact Zv5 Zib rfl (by simp [go_sem])
 ·refine Zz3 hall rfl trivial ?_;dsimp only [go_sem];refine Zf5 hall hs haf hnap 2 11 ?_;dsimp only [go_sem];refine ⟨by simp,?_⟩;obtain ⟨x7,ex7,h⟩:=Option.bind_eq_some_iff.1 h;refine Zw3 0 3 11 rfl ?_ ?_ ?_
  ·refine Zz3 hall rfl trivial ?_;dsimp only [go_sem];refine Zv3 3 11 rfl ?_ ?_
   ·refine Zz3 hall rfl trivial ?_;dsimp only [go_sem];refine Zf5 hall hs haf hnap 2 7 ?_;dsimp only [go_sem];refine ⟨by simp,?_⟩;refine Zv3 6 11 rfl ?_ ?_
    ·refine Zy5 hall Side.row ex7 rfl trivial rfl rfl rfl ?_;dsimp only [go_sem];refine Zu3 11 rfl ?_;refine Zy5 hall Side.row ex7 rfl trivial rfl rfl rfl ?_;dsimp only [go_sem];refine Zf5 hall hs haf hnap 2 3 ?_;dsimp only [go_sem];refine ⟨by simp,?_⟩;refine Zu3 14 rfl ?_;refine Zz3 hall rfl trivial ?_;dsimp only [go_sem];refine Zu3 15 rfl ?_;obtain ⟨x8,ex8,h⟩:=Option.bind_eq_some_iff.1 h;refine Zr4 Mail.row ex8 hall rfl trivial rfl rfl rfl ?_;dsimp only [go_sem];refine Zu3 16 rfl ?_;refine Zz3 hall rfl trivial ?_;dsimp only [go_sem]
     refine Zt3 rfl ?_ _;obtain rfl:=Option.some.inj h;exact Zv5 Zib rfl (by simp [go_sem])
    ·refine Zy5 hall Side.row ex7 rfl trivial rfl rfl rfl ?_;dsimp only [go_sem];refine Zf5 hall hs haf hnap 1 5 ?_;dsimp only [go_sem];refine ⟨by simp,?_⟩;refine Zu3 6 rfl ?_;refine Zy5 hall Side.row ex7 rfl trivial rfl rfl rfl ?_;dsimp only [go_sem];refine Zf5 hall hs haf hnap 1 3 ?_;dsimp only [go_sem];refine ⟨by simp,?_⟩;refine Zu3 14 rfl ?_;refine Zz3 hall rfl trivial ?_;dsimp only [go_sem];refine Zu3 15 rfl ?_;obtain ⟨x8,ex8,h⟩:=Option.bind_eq_some_iff.1 h;refine Zr4 Mail.row ex8 hall rfl trivial rfl rfl rfl ?_;dsimp only [go_sem]
     refine Zu3 16 rfl ?_;refine Zz3 hall rfl trivial ?_;dsimp only [go_sem];refine Zt3 rfl ?_ _;obtain rfl:=Option.some.inj h;exact Zv5 Zib rfl (by simp [go_sem])
   ·refine Zy5 hall Side.row ex7 rfl trivial rfl rfl rfl ?_;dsimp only [go_sem];refine Zf5 hall hs haf hnap 1 8 ?_;dsimp only [go_sem];refine ⟨by simp,?_⟩;refine Zu3 3 rfl ?_;refine Zz3 hall rfl trivial ?_;dsimp only [go_sem];refine Zf5 hall hs haf hnap 2 5 ?_;dsimp only [go_sem];refine ⟨by simp,?_⟩;refine Zu3 6 rfl ?_;refine Zy5 hall Side.row ex7 rfl trivial rfl rfl rfl ?_;dsimp only [go_sem];refine Zf5 hall hs haf hnap 1 3 ?_;dsimp only [go_sem];refine ⟨by simp,?_⟩;refine Zu3 14 rfl ?_;refine Zz3 hall rfl trivial ?_;dsimp only [go_sem]
    refine Zu3 15 rfl ?_;obtain ⟨x8,ex8,h⟩:=Option.bind_eq_some_iff.1 h;refine Zr4 Mail.row ex8 hall rfl trivial rfl rfl rfl ?_;dsimp only [go_sem];refine Zu3 16 rfl ?_;refine Zz3 hall rfl trivial ?_;dsimp only [go_sem];refine Zt3 rfl ?_ _;obtain rfl:=Option.some.inj h;exact Zv5 Zib rfl (by simp [go_sem])
  ·refine Zz3 hall rfl trivial ?_;dsimp only [go_sem];refine Zf5 hall hs haf hnap 2 8 ?_;dsimp only [go_sem];refine ⟨by simp,?_⟩;refine Zw3 0 6 11 rfl ?_ ?_ ?_
   ·refine Zz3 hall rfl trivial ?_;dsimp only [go_sem];refine Zv3 6 11 rfl ?_ ?_
    ·refine Zy5 hall Side.row ex7 rfl trivial rfl rfl rfl ?_;dsimp only [go_sem];refine Zu3 11 rfl ?_;refine Zy5 hall Side.row ex7 rfl trivial rfl rfl rfl ?_;dsimp only [go_sem];refine Zf5 hall hs haf hnap 2 3 ?_;dsimp only [go_sem];refine ⟨by simp,?_⟩;refine Zu3 14 rfl ?_;refine Zz3 hall rfl trivial ?_;dsimp only [go_sem];refine Zu3 15 rfl ?_;obtain ⟨x8,ex8,h⟩:=Option.bind_eq_some_iff.1 h;refine Zr4 Mail.row ex8 hall rfl trivial rfl rfl rfl ?_;dsimp only [go_sem];refine Zu3 16 rfl ?_;refine Zz3 hall rfl trivial ?_;dsimp only [go_sem]
     refine Zt3 rfl ?_ _;obtain rfl:=Option.some.inj h;exact Zv5 Zib rfl (by simp [go_sem])
    ·refine Zy5 hall Side.row ex7 rfl trivial rfl rfl rfl ?_;dsimp only [go_sem];refine Zf5 hall hs haf hnap 1 5 ?_;dsimp only [go_sem];refine ⟨by simp,?_⟩;refine Zu3 6 rfl ?_;refine Zy5 hall Side.row ex7 rfl trivial rfl rfl rfl ?_;dsimp only [go_sem];refine Zf5 hall hs haf hnap 1 3 ?_;dsimp only [go_sem];refine ⟨by simp,?_⟩;refine Zu3 14 rfl ?_;refine Zz3 hall rfl trivial ?_;dsimp only [go_sem];refine Zu3 15 rfl ?_;obtain ⟨x8,ex8,h⟩:=Option.bind_eq_some_iff.1 h;refine Zr4 Mail.row ex8 hall rfl trivial rfl rfl rfl ?_;dsimp only [go_sem]
     refine Zu3 16 rfl ?_;refine Zz3 hall rfl trivial ?_;dsimp only [go_sem];refine Zt3 rfl ?_ _;obtain rfl:=Option.some.inj h;exact Zv5 Zib rfl (by simp [go_sem])
   ·refine Zy5 hall Side.row ex7 rfl trivial rfl rfl rfl ?_;dsimp only [go_sem];refine Zv3 0 11 rfl ?_ ?_
    ·refine Zz3 hall rfl trivial ?_;dsimp only [go_sem];refine Zu3 11 rfl ?_;refine Zy5 hall Side.row ex7 rfl trivial rfl rfl rfl ?_;dsimp only [go_sem];refine Zf5 hall hs haf hnap 2 3 ?_;dsimp only [go_sem];refine ⟨by simp,?_⟩;refine Zu3 14 rfl ?_;refine Zz3 hall rfl trivial ?_;dsimp only [go_sem];refine Zu3 15 rfl ?_;obtain ⟨x8,ex8,h⟩:=Option.bind_eq_some_iff.1 h;refine Zr4 Mail.row ex8 hall rfl trivial rfl rfl rfl ?_;dsimp only [go_sem];refine Zu3 16 rfl ?_;refine Zz3 hall rfl trivial ?_;dsimp only [go_sem];refine Zt3 rfl ?_ _
     obtain rfl:=Option.some.inj h;exact Zv5 Zib rfl (by simp [go_sem])
    ·refine Zy5 hall Side.row ex7 rfl trivial rfl rfl rfl ?_;dsimp only [go_sem];refine Zf5 hall hs haf hnap 2 4 ?_;dsimp only [go_sem];refine ⟨by simp,?_⟩;refine Zv3 0 14 rfl ?_ ?_
     ·refine Zz3 hall rfl trivial ?_;dsimp only [go_sem];refine Zu3 14 rfl ?_;refine Zz3 hall rfl trivial ?_;dsimp only [go_sem];refine Zu3 15 rfl ?_;obtain ⟨x8,ex8,h⟩:=Option.bind_eq_some_iff.1 h;refine Zr4 Mail.row ex8 hall rfl trivial rfl rfl rfl ?_;dsimp only [go_sem];refine Zu3 16 rfl ?_;refine Zz3 hall rfl trivial ?_;dsimp only [go_sem];refine Zt3 rfl ?_ _;obtain rfl:=Option.some.inj h;exact Zv5 Zib rfl (by simp [go_sem])
     ·refine Zz3 hall rfl trivial ?_;dsimp only [go_sem];refine Zu3 0 rfl ?_;refine Zz3 hall rfl trivial ?_;dsimp only [go_sem];refine Zu3 15 rfl ?_;obtain ⟨x8,ex8,h⟩:=Option.bind_eq_some_iff.1 h;refine Zr4 Mail.row ex8 hall rfl trivial rfl rfl rfl ?_;dsimp only [go_sem];refine Zu3 16 rfl ?_;refine Zz3 hall rfl trivial ?_;dsimp only [go_sem];refine Zt3 rfl ?_ _;obtain rfl:=Option.some.inj h;exact Zv5 Zib rfl (by simp [go_sem])
   ·refine Zy5 hall Side.row ex7 rfl trivial rfl rfl rfl ?_;dsimp only [go_sem];refine Zf5 hall hs haf hnap 1 6 ?_;dsimp only [go_sem];refine ⟨by simp,?_⟩;refine Zv3 0 6 rfl ?_ ?_
    ·refine Zz3 hall rfl trivial ?_;dsimp only [go_sem];refine Zu3 6 rfl ?_;refine Zy5 hall Side.row ex7 rfl trivial rfl rfl rfl ?_;dsimp only [go_sem];refine Zf5 hall hs haf hnap 1 3 ?_;dsimp only [go_sem];refine ⟨by simp,?_⟩;refine Zu3 14 rfl ?_;refine Zz3 hall rfl trivial ?_;dsimp only [go_sem];refine Zu3 15 rfl ?_;obtain ⟨x8,ex8,h⟩:=Option.bind_eq_some_iff.1 h;refine Zr4 Mail.row ex8 hall rfl trivial rfl rfl rfl ?_;dsimp only [go_sem];refine Zu3 16 rfl ?_;refine Zz3 hall rfl trivial ?_;dsimp only [go_sem];refine Zt3 rfl ?_ _
     obtain rfl:=Option.some.inj h;exact Zv5 Zib rfl (by simp [go_sem])
    ·refine Zy5 hall Side.row ex7 rfl trivial rfl rfl rfl ?_;dsimp only [go_sem];refine Zf5 hall hs haf hnap 1 4 ?_;dsimp only [go_sem];refine ⟨by simp,?_⟩;refine Zv3 0 14 rfl ?_ ?_
     ·refine Zz3 hall rfl trivial ?_;dsimp only [go_sem];refine Zu3 14 rfl ?_;refine Zz3 hall rfl trivial ?_;dsimp only [go_sem];refine Zu3 15 rfl ?_;obtain ⟨x8,ex8,h⟩:=Option.bind_eq_some_iff.1 h;refine Zr4 Mail.row ex8 hall rfl trivial rfl rfl rfl ?_;dsimp only [go_sem];refine Zu3 16 rfl ?_;refine Zz3 hall rfl trivial ?_;dsimp only [go_sem];refine Zt3 rfl ?_ _;obtain rfl:=Option.some.inj h;exact Zv5 Zib rfl (by simp [go_sem])
     ·refine Zz3 hall rfl trivial ?_;dsimp only [go_sem];refine Zu3 0 rfl ?_;refine Zz3 hall rfl trivial ?_;dsimp only [go_sem];refine Zu3 15 rfl ?_;obtain ⟨x8,ex8,h⟩:=Option.bind_eq_some_iff.1 h;refine Zr4 Mail.row ex8 hall rfl trivial rfl rfl rfl ?_;dsimp only [go_sem];refine Zu3 16 rfl ?_;refine Zz3 hall rfl trivial ?_;dsimp only [go_sem];refine Zt3 rfl ?_ _;obtain rfl:=Option.some.inj h;exact Zv5 Zib rfl (by simp [go_sem])
  ·refine Zy5 hall Side.row ex7 rfl trivial rfl rfl rfl ?_;dsimp only [go_sem];refine Zf5 hall hs haf hnap 1 9 ?_;dsimp only [go_sem];refine ⟨by simp,?_⟩;refine Zv3 0 3 rfl ?_ ?_
   ·refine Zz3 hall rfl trivial ?_;dsimp only [go_sem];refine Zu3 3 rfl ?_;refine Zz3 hall rfl trivial ?_;dsimp only [go_sem];refine Zf5 hall hs haf hnap 2 5 ?_;dsimp only [go_sem];refine ⟨by simp,?_⟩;refine Zu3 6 rfl ?_;refine Zy5 hall Side.row ex7 rfl trivial rfl rfl rfl ?_;dsimp only [go_sem];refine Zf5 hall hs haf hnap 1 3 ?_;dsimp only [go_sem];refine ⟨by simp,?_⟩;refine Zu3 14 rfl ?_;refine Zz3 hall rfl trivial ?_;dsimp only [go_sem];refine Zu3 15 rfl ?_;obtain ⟨x8,ex8,h⟩:=Option.bind_eq_some_iff.1 h
    refine Zr4 Mail.row ex8 hall rfl trivial rfl rfl rfl ?_;dsimp only [go_sem];refine Zu3 16 rfl ?_;refine Zz3 hall rfl trivial ?_;dsimp only [go_sem];refine Zt3 rfl ?_ _;obtain rfl:=Option.some.inj h;exact Zv5 Zib rfl (by simp [go_sem])
   ·refine Zz3 hall rfl trivial ?_;dsimp only [go_sem];refine Zf5 hall hs haf hnap 2 6 ?_;dsimp only [go_sem];refine ⟨by simp,?_⟩;refine Zv3 0 6 rfl ?_ ?_
    ·refine Zz3 hall rfl trivial ?_;dsimp only [go_sem];refine Zu3 6 rfl ?_;refine Zy5 hall Side.row ex7 rfl trivial rfl rfl rfl ?_;dsimp only [go_sem];refine Zf5 hall hs haf hnap 1 3 ?_;dsimp only [go_sem];refine ⟨by simp,?_⟩;refine Zu3 14 rfl ?_;refine Zz3 hall rfl trivial ?_;dsimp only [go_sem];refine Zu3 15 rfl ?_;obtain ⟨x8,ex8,h⟩:=Option.bind_eq_some_iff.1 h;refine Zr4 Mail.row ex8 hall rfl trivial rfl rfl rfl ?_;dsimp only [go_sem];refine Zu3 16 rfl ?_;refine Zz3 hall rfl trivial ?_;dsimp only [go_sem];refine Zt3 rfl ?_ _
     obtain rfl:=Option.some.inj h;exact Zv5 Zib rfl (by simp [go_sem])
    ·refine Zy5 hall Side.row ex7 rfl trivial rfl rfl rfl ?_;dsimp only [go_sem];refine Zf5 hall hs haf hnap 1 4 ?_;dsimp only [go_sem];refine ⟨by simp,?_⟩;refine Zv3 0 14 rfl ?_ ?_
     ·refine Zz3 hall rfl trivial ?_;dsimp only [go_sem];refine Zu3 14 rfl ?_;refine Zz3 hall rfl trivial ?_;dsimp only [go_sem];refine Zu3 15 rfl ?_;obtain ⟨x8,ex8,h⟩:=Option.bind_eq_some_iff.1 h;refine Zr4 Mail.row ex8 hall rfl trivial rfl rfl rfl ?_;dsimp only [go_sem];refine Zu3 16 rfl ?_;refine Zz3 hall rfl trivial ?_;dsimp only [go_sem];refine Zt3 rfl ?_ _;obtain rfl:=Option.some.inj h;exact Zv5 Zib rfl (by simp [go_sem])
     ·refine Zz3 hall rfl trivial ?_;dsimp only [go_sem];refine Zu3 0 rfl ?_;refine Zz3 hall rfl trivial ?_;dsimp only [go_sem];refine Zu3 15 rfl ?_;obtain ⟨x8,ex8,h⟩:=Option.bind_eq_some_iff.1 h;refine Zr4 Mail.row ex8 hall rfl trivial rfl rfl rfl ?_;dsimp only [go_sem];refine Zu3 16 rfl ?_;refine Zz3 hall rfl trivial ?_;dsimp only [go_sem];refine Zt3 rfl ?_ _;obtain rfl:=Option.some.inj h;exact Zv5 Zib rfl (by simp [go_sem])
noncomputable def Zac (x1:Diner) (x50:(List Mail)):(Int×(List Side))→Option (Int×Int×Int×(List Side)×(List Mail))
| (x65,x66)=>
 some (x1.ID,x65,0,x66,x50)
noncomputable def Zbc (x1:Diner) (x49:(List Side)) (x50:(List Mail)):(Int×(List Side))→Option ((Int×(List Side)) ⊕ (Int×Int×Int×(List Side)×(List Mail)))
| (x55,x56)=>
 ifb (decide (x55<(ln Side.row x49))) (
 (at_ x56 x55).bind fun x57=>
 some (.inl (wr (x55+1),x56.set (x55).toNat ((Side.mk x57.Peer x57.Epoch x57.State x57.Fork true x57.Token x57.Bottle x57.Ask))))) (
 Option.map Sum.inr ((Zac x1 x50) (2,x56)))
noncomputable def Zcc (x1:Diner) (x49:(List Side)) (x50:(List Mail)):Bool→Option (Int×Int×Int×(List Side)×(List Mail))
| x51=>
 ifb x51 (
 loop (Zbc x1 x49 x50) (0,x49)) (
 (Zac x1 x50) (x1.Phase,x49))
noncomputable def Zdc (x1:Diner):(Bool×(List Side)×(List Mail))→Option (Int×Int×Int×(List Side)×(List Mail))
| (x48,x49,x50)=>
 ifb (decide (x1.Phase=1)) (
 (Zcc x1 x49 x50) x48) (
 (Zcc x1 x49 x50) false)
noncomputable def Zec (x21:Int) (x33:(List Side)) (x34:(List Mail)):Bool→Option ((Bool×Int×(List Side)×(List Mail)) ⊕ (Int×Int×Int×(List Side)×(List Mail)))
| x36=>
 some (.inl (x36,wr (x21+1),x33,x34))
noncomputable def Zfc (x20:Bool) (x21:Int):((List Side)×(List Mail))→Option ((Bool×Int×(List Side)×(List Mail)) ⊕ (Int×Int×Int×(List Side)×(List Mail)))
| (x33,x34)=>
 ifb x20 (
 (at_ x33 x21).bind fun x35=>
 (Zec x21 x33 x34) x35.Fork) (
 (Zec x21 x33 x34) false)
noncomputable def Zgc (x1:Diner) (x20:Bool) (x21:Int) (x27:(List Side)) (x28:(List Mail)):Bool→Option ((Bool×Int×(List Side)×(List Mail)) ⊕ (Int×Int×Int×(List Side)×(List Mail)))
| x30=>
 ifb x30 (
 (at_ x27 x21).bind fun x31=>
 (Z8c 2 x1.ID x1.Phase x21 (x27.set (x21).toNat ((Side.mk x31.Peer x31.Epoch x31.State x31.Fork x31.Dirty false x31.Bottle x31.Ask))) x28).bind fun x32=>
 (Zfc x20 x21) ((x27.set (x21).toNat ((Side.mk x31.Peer x31.Epoch x31.State x31.Fork x31.Dirty false x31.Bottle x31.Ask))),x32)) (
 (Zfc x20 x21) (x27,x28))
noncomputable def Zhc (x1:Diner) (x20:Bool) (x21:Int):((List Side)×(List Mail))→Option ((Bool×Int×(List Side)×(List Mail)) ⊕ (Int×Int×Int×(List Side)×(List Mail)))
| (x27,x28)=>
 ifb (decide (x1.Phase=1)) (
 (at_ x27 x21).bind fun x29=>
 ifb x29.Token (
 (Zgc x1 x20 x21 x27 x28) (!x29.Fork)) (
 (Zgc x1 x20 x21 x27 x28) false)) (
 (Zgc x1 x20 x21 x27 x28) false)
noncomputable def Zic (x1:Diner) (x20:Bool) (x21:Int) (x22:(List Side)) (x23:(List Mail)) (x24:Side):Bool→Option ((Bool×Int×(List Side)×(List Mail)) ⊕ (Int×Int×Int×(List Side)×(List Mail)))
| x25=>
 ifb x25 (
 (Z8c 1 x1.ID x1.Phase x21 (x22.set (x21).toNat ((Side.mk x24.Peer x24.Epoch x24.State false false x24.Token x24.Bottle x24.Ask))) x23).bind fun x26=>
 (Zhc x1 x20 x21) ((x22.set (x21).toNat ((Side.mk x24.Peer x24.Epoch x24.State false false x24.Token x24.Bottle x24.Ask))),x26)) (
 (Zhc x1 x20 x21) (x22,x23))
noncomputable def Zjc (x1:Diner) (x3:(List Side)):(Bool×Int×(List Side)×(List Mail))→Option ((Bool×Int×(List Side)×(List Mail)) ⊕ (Int×Int×Int×(List Side)×(List Mail)))
| (x20,x21,x22,x23)=>
 ifb (decide (x21<(ln Side.row x3))) (
 (at_ x22 x21).bind fun x24=>
 ifb x24.Fork (
 ifb x24.Dirty (
 ifb x24.Token (
 (Zic x1 x20 x21 x22 x23 x24) (!decide (x1.Phase=2))) (
 (Zic x1 x20 x21 x22 x23 x24) false)) (
 (Zic x1 x20 x21 x22 x23 x24) false)) (
 (Zic x1 x20 x21 x22 x23 x24) false)) (
 Option.map Sum.inr ((Zdc x1) (x20,x22,x23)))
noncomputable def Zkc (x1:Diner):Option (Int×Int×Int×(List Side)×(List Mail)):=
 (Z6a x1).bind fun x2=>
 ifb (!decide (x2=0)) (
 some (0,0,x2,([]:List Side),([]:List Mail))) (
 (Zaa x1.Sides).bind fun x3=>
 loop (Zjc x1 x3) (true,0,x3,([]:List Mail)))
theorem Zlc (x1:Diner) (r:(Int×Int×Int×(List Side)×(List Mail))) (h:Zkc x1=some r):FunT Tryz.prog 177 [.agg [.iv x1.ID,.iv x1.Phase,.sl 8 (List.map Side.row x1.Sides)]] [none,none,none,none] [none] (.tup [.agg [.iv r.1,.iv r.2.1,.osl 1],.osl 2,.iv r.2.2.1]) [none,none,none,none] [none,some ⟨66,8,List.map Side.row r.2.2.2.1⟩,some ⟨95,5,List.map Mail.row r.2.2.2.2⟩]:=by
 refine Zt5 ok177 rfl rfl rfl (by first | rfl | simp [go_sem]) fun w0 M0=>?_
 rw [Zkc] at h
 dsimp only [lun,List.cons_append,List.nil_append]
 refine Zl2 11 ?_;dsimp only [Zlb,Zkb,Zjb,go_sem];refine ⟨by simp,?_⟩;obtain ⟨x2,ex2,h⟩:=Option.bind_eq_some_iff.1 h;refine Zz2 trivial (Z7a x1 _ ex2) (h:=?_);refine Zl2 7 ?_;dsimp only [Zlb,Zkb,Zjb,go_sem];refine ⟨by simp,?_⟩;refine Zk4 h rfl (fun _ h=>?_) fun _ h=>?_
 ·refine Zl2 8 ?_;dsimp only [Zlb,Zkb,Zjb,go_sem];refine ⟨by simp,?_⟩;refine Z64 5 2 66 8 rfl rfl rfl ?_;dsimp only [go_sem];refine V_own 3 95 5 rfl rfl ?_;dsimp only [go_sem];obtain rfl:=Option.some.inj h;exact Zu5 ok177 rfl (by simp [go_sem])
 ·refine Zl2 5 ?_;dsimp only [Zlb,Zkb,Zjb,go_sem];refine ⟨by simp,?_⟩;obtain ⟨x3,ex3,h⟩:=Option.bind_eq_some_iff.1 h;refine Za5 trivial (Zba x1.Sides _ ex3) (h:=?_);refine Zl2 19 ?_;dsimp only [Zlb,Zkb,Zjb,go_sem];refine ⟨by simp,?_⟩
  refine Zi4 (fun ((x48,x49,x50):(Bool×(List Side)×(List Mail)))=>(⟨(.any :: .ptr 4 0 :: .ptr 5 0::an 3 (.ptr 6 0 :: .bv x48::an 104 [])),[none,none,none,none,some ⟨61,[.iv x1.ID,.iv x1.Phase,.osl 1]⟩,some ⟨61,[.iv 0,.iv 0,.nl]⟩,some ⟨23,[.osl 2]⟩],[none,some ⟨66,8,List.map Side.row x49⟩,some ⟨95,5,List.map Mail.row x50⟩]⟩:St)) (Zdc x1) r ?_ fun J1=>?_
  ·rintro ⟨x48,x49,x50⟩ h;rw [Zdc] at h;(try dsimp only);refine Zl2 7 ?_;dsimp only [Zlb,Zkb,Zjb,go_sem];refine ⟨by simp,?_⟩;refine Zi4 (fun (x51:Bool)=>(⟨(.any :: .ptr 4 0 :: .ptr 5 0::an 3 (.ptr 6 0::an 89 (.bv x51::an 15 []))),[none,none,none,none,some ⟨61,[.iv x1.ID,.iv x1.Phase,.osl 1]⟩,some ⟨61,[.iv 0,.iv 0,.nl]⟩,some ⟨23,[.osl 2]⟩],[none,some ⟨66,8,List.map Side.row x49⟩,some ⟨95,5,List.map Mail.row x50⟩]⟩:St)) (Zcc x1 x49 x50) r ?_ fun J7=>?_
   ·intro x51 h;rw [Zcc] at h;(try dsimp only);refine Zi4 (fun ((x65,x66):(Int×(List Side)))=>(⟨(.any :: .ptr 4 0 :: .ptr 5 0::an 3 (.ptr 6 0::an 105 [])),[none,none,none,none,some ⟨61,[.iv x1.ID,.iv x65,.osl 1]⟩,some ⟨61,[.iv 0,.iv 0,.nl]⟩,some ⟨23,[.osl 2]⟩],[none,some ⟨66,8,List.map Side.row x66⟩,some ⟨95,5,List.map Mail.row x50⟩]⟩:St)) (Zac x1 x50) r ?_ fun J8=>?_
    ·rintro ⟨x65,x66⟩ h;rw [Zac] at h;(try dsimp only);refine Zl2 1 ?_;dsimp only [Zlb,Zkb,Zjb,go_sem];refine ⟨by simp,?_⟩;refine Zh3 (by kernel_rfl) fun all hall hs hnap haf=>?_;dsimp only [go_sem];refine Zv3 0 1 rfl ?_ ?_
     ·refine Zz3 hall rfl trivial ?_;dsimp only [go_sem];refine Zv3 1 2 rfl ?_ ?_
      ·refine Zz3 hall rfl trivial ?_;dsimp only [go_sem];refine Zu3 2 rfl ?_;refine Zz3 hall rfl trivial ?_;dsimp only [go_sem];refine Zf5 hall hs haf hnap 2 0 ?_;dsimp only [go_sem];refine ⟨by simp,?_⟩;refine Zt3 rfl ?_ _;obtain rfl:=Option.some.inj h;exact Zu5 ok177 rfl (by simp [go_sem])
      ·refine Zz3 hall rfl trivial ?_;dsimp only [go_sem];refine Zu3 1 rfl ?_;refine Zz3 hall rfl trivial ?_;dsimp only [go_sem];refine Zf5 hall hs haf hnap 2 0 ?_;dsimp only [go_sem];refine ⟨by simp,?_⟩;refine Zt3 rfl ?_ _;obtain rfl:=Option.some.inj h;exact Zu5 ok177 rfl (by simp [go_sem])
     ·refine Zz3 hall rfl trivial ?_;dsimp only [go_sem];refine Zu3 0 rfl ?_;refine Zz3 hall rfl trivial ?_;dsimp only [go_sem];refine Zu3 2 rfl ?_;refine Zz3 hall rfl trivial ?_;dsimp only [go_sem];refine Zf5 hall hs haf hnap 2 0 ?_;dsimp only [go_sem];refine ⟨by simp,?_⟩;refine Zt3 rfl ?_ _;obtain rfl:=Option.some.inj h;exact Zu5 ok177 rfl (by simp [go_sem])
    ·refine Zk4 h rfl (fun _ h=>?_) fun _ h=>?_
     ·refine Zl2 13 ?_;dsimp only [Zlb,Zkb,Zjb,go_sem];refine ⟨by simp,?_⟩;refine Zj4 h (fun ((x55,x56):(Int×(List Side)))=>(⟨(.any :: .ptr 4 0 :: .ptr 5 0::an 3 (.ptr 6 0::an 93 (.iv (ln Side.row x49) :: .iv x55::an 10 []))),[none,none,none,none,some ⟨61,[.iv x1.ID,.iv 2,.osl 1]⟩,some ⟨61,[.iv 0,.iv 0,.nl]⟩,some ⟨23,[.osl 2]⟩],[none,some ⟨66,8,List.map Side.row x56⟩,some ⟨95,5,List.map Mail.row x50⟩]⟩:St)) (by simp [go_sem]) (by rintro ⟨x55,x56⟩;first | rfl | simp [go_sem]) ?_;rintro n1 ⟨x55,x56⟩ y1 h hin1 hout1
      rw [Zbc] at h;(try dsimp only);refine Zl2 5 ?_;dsimp only [Zlb,Zkb,Zjb,go_sem];refine ⟨by simp,?_⟩;refine Zk4 h rfl (fun _ h=>?_) fun _ h=>?_
      ·refine Zl2 12 ?_;dsimp only [Zlb,Zkb,Zjb,go_sem];refine ⟨by simp,?_⟩;obtain ⟨x57,ex57,h⟩:=Option.bind_eq_some_iff.1 h;refine Zi5 Side.row ex57 trivial rfl rfl rfl ?_;refine Zl2 1 ?_;dsimp only [Zlb,Zkb,Zjb,go_sem];refine ⟨by simp,?_⟩;refine Zo5 [.bv true] Side.row (y':=(Side.mk x57.Peer x57.Epoch x57.State x57.Fork true x57.Token x57.Bottle x57.Ask)) ex57 trivial rfl rfl rfl (by first | exact Zb4 _ | simp [go_sem]) rfl rfl rfl rfl ?_;refine Zl2 6 ?_;dsimp only [Zlb,Zkb,Zjb,go_sem];refine ⟨by simp,?_⟩
       exact Zu4 h hin1
      ·refine Zl2 1 ?_;dsimp only [Zlb,Zkb,Zjb,go_sem];refine ⟨by simp,?_⟩;exact Zv4 J8 (s:=(2,x56)) (Zh4 h hout1)
     ·refine Zl2 1 ?_;dsimp only [Zlb,Zkb,Zjb,go_sem];refine ⟨by simp,?_⟩;exact Zv4 J8 (s:=(x1.Phase,x49)) h
   ·refine Zs4 94 h rfl (fun _ h=>?_) fun _ h=>?_
    ·dsimp only [go_sem];refine Zl2 3 ?_;dsimp only [Zlb,Zkb,Zjb,go_sem];refine ⟨by simp,?_⟩;exact Zv4 J7 (s:=x48) h
    ·dsimp only [go_sem];refine Zl2 3 ?_;dsimp only [Zlb,Zkb,Zjb,go_sem];refine ⟨by simp,?_⟩;exact Zv4 J7 (s:=false) h
  ·refine Zl2 1 ?_;dsimp only [Zlb,Zkb,Zjb,go_sem];refine ⟨by simp,?_⟩;refine Z64 6 0 95 5 rfl rfl rfl ?_;dsimp only [go_sem]
   refine Zj4 h (fun ((x20,x21,x22,x23):(Bool×Int×(List Side)×(List Mail)))=>(⟨(.any :: .ptr 4 0 :: .ptr 5 0::an 3 (.ptr 6 0 :: .bv x20::an 16 (.iv (ln Side.row x3) :: .iv x21::an 86 []))),[none,none,none,none,some ⟨61,[.iv x1.ID,.iv x1.Phase,.osl 1]⟩,some ⟨61,[.iv 0,.iv 0,.nl]⟩,some ⟨23,[.osl 2]⟩],[none,some ⟨66,8,List.map Side.row x22⟩,some ⟨95,5,List.map Mail.row x23⟩]⟩:St)) (by simp [go_sem]) (by rintro ⟨x20,x21,x22,x23⟩;first | rfl | simp [go_sem]) ?_;rintro n1 ⟨x20,x21,x22,x23⟩ y1 h hin1 hout1;rw [Zjc] at h
   (try dsimp only);refine Zl2 5 ?_;dsimp only [Zlb,Zkb,Zjb,go_sem];refine ⟨by simp,?_⟩;refine Zk4 h rfl (fun _ h=>?_) fun _ h=>?_
   ·refine Zl2 13 ?_;dsimp only [Zlb,Zkb,Zjb,go_sem];refine ⟨by simp,?_⟩;obtain ⟨x24,ex24,h⟩:=Option.bind_eq_some_iff.1 h;refine Zi5 Side.row ex24 trivial rfl rfl rfl ?_;refine Zl2 14 ?_;dsimp only [Zlb,Zkb,Zjb,go_sem];refine ⟨by simp,?_⟩;refine Zj5 Side.row ex24 trivial rfl rfl rfl ?_;refine Zl2 1 ?_;dsimp only [Zlb,Zkb,Zjb,go_sem];refine ⟨by simp,?_⟩
    refine Zi4 (fun (x25:Bool)=>(⟨(.any :: .ptr 4 0 :: .ptr 5 0::an 3 (.ptr 6 0 :: .bv x20 :: .any :: .ptr 7 0 :: .clo 194 [.ptr 6 0,.ptr 4 0,.ptr 7 0]::an 13 (.iv (ln Side.row x3) :: .iv x21::an 27 (.bv x25::an 58 [])))),[none,none,none,none,some ⟨61,[.iv x1.ID,.iv x1.Phase,.osl 1]⟩,some ⟨61,[.iv 0,.iv 0,.nl]⟩,some ⟨23,[.osl 2]⟩,some ⟨189,[.oel 1 ((x21).toNat*8) 0]⟩],[none,some ⟨66,8,List.map Side.row x22⟩,some ⟨95,5,List.map Mail.row x23⟩]⟩:St)) (Zic x1 x20 x21 x22 x23 x24) y1 ?_ fun J2=>?_
    ·intro x25 h;rw [Zic] at h;(try dsimp only)
     refine Zi4 (fun ((x27,x28):((List Side)×(List Mail)))=>(⟨(.any :: .ptr 4 0 :: .ptr 5 0::an 3 (.ptr 6 0 :: .bv x20 :: .any :: .ptr 7 0 :: .clo 194 [.ptr 6 0,.ptr 4 0,.ptr 7 0]::an 13 (.iv (ln Side.row x3) :: .iv x21::an 86 []))),[none,none,none,none,some ⟨61,[.iv x1.ID,.iv x1.Phase,.osl 1]⟩,some ⟨61,[.iv 0,.iv 0,.nl]⟩,some ⟨23,[.osl 2]⟩,some ⟨189,[.oel 1 ((x21).toNat*8) 0]⟩],[none,some ⟨66,8,List.map Side.row x27⟩,some ⟨95,5,List.map Mail.row x28⟩]⟩:St)) (Zhc x1 x20 x21) y1 ?_ fun J3=>?_
     ·rintro ⟨x27,x28⟩ h;rw [Zhc] at h;(try dsimp only);refine Zl2 7 ?_;dsimp only [Zlb,Zkb,Zjb,go_sem];refine ⟨by simp,?_⟩
      refine Zi4 (fun (x30:Bool)=>(⟨(.any :: .ptr 4 0 :: .ptr 5 0::an 3 (.ptr 6 0 :: .bv x20 :: .any :: .ptr 7 0 :: .clo 194 [.ptr 6 0,.ptr 4 0,.ptr 7 0]::an 13 (.iv (ln Side.row x3) :: .iv x21::an 51 (.bv x30::an 34 [])))),[none,none,none,none,some ⟨61,[.iv x1.ID,.iv x1.Phase,.osl 1]⟩,some ⟨61,[.iv 0,.iv 0,.nl]⟩,some ⟨23,[.osl 2]⟩,some ⟨189,[.oel 1 ((x21).toNat*8) 0]⟩],[none,some ⟨66,8,List.map Side.row x27⟩,some ⟨95,5,List.map Mail.row x28⟩]⟩:St)) (Zgc x1 x20 x21 x27 x28) y1 ?_ fun J4=>?_
      ·intro x30 h;rw [Zgc] at h;(try dsimp only)
       refine Zi4 (fun ((x33,x34):((List Side)×(List Mail)))=>(⟨(.any :: .ptr 4 0 :: .ptr 5 0::an 3 (.ptr 6 0 :: .bv x20 :: .any :: .ptr 7 0::an 14 (.iv (ln Side.row x3) :: .iv x21::an 86 []))),[none,none,none,none,some ⟨61,[.iv x1.ID,.iv x1.Phase,.osl 1]⟩,some ⟨61,[.iv 0,.iv 0,.nl]⟩,some ⟨23,[.osl 2]⟩,some ⟨189,[.oel 1 ((x21).toNat*8) 0]⟩],[none,some ⟨66,8,List.map Side.row x33⟩,some ⟨95,5,List.map Mail.row x34⟩]⟩:St)) (Zfc x20 x21) y1 ?_ fun J5=>?_
       ·rintro ⟨x33,x34⟩ h;rw [Zfc] at h;(try dsimp only);refine Zl2 3 ?_;dsimp only [Zlb,Zkb,Zjb,go_sem];refine ⟨by simp,?_⟩
        refine Zi4 (fun (x36:Bool)=>(⟨(.any :: .ptr 4 0 :: .ptr 5 0::an 3 (.ptr 6 0 :: .bv x36::an 16 (.iv (ln Side.row x3) :: .iv x21::an 86 []))),[none,none,none,none,some ⟨61,[.iv x1.ID,.iv x1.Phase,.osl 1]⟩,some ⟨61,[.iv 0,.iv 0,.nl]⟩,some ⟨23,[.osl 2]⟩],[none,some ⟨66,8,List.map Side.row x33⟩,some ⟨95,5,List.map Mail.row x34⟩]⟩:St)) (Zec x21 x33 x34) y1 ?_ fun J6=>?_
        ·intro x36 h;rw [Zec] at h;(try dsimp only);refine Zl2 5 ?_;dsimp only [Zlb,Zkb,Zjb,go_sem];refine ⟨by simp,?_⟩;exact Zu4 h hin1
        ·refine Zs4 84 h rfl (fun _ h=>?_) fun _ h=>?_
         ·dsimp only [go_sem];refine Zl2 3 ?_;dsimp only [Zlb,Zkb,Zjb,go_sem];refine ⟨by simp,?_⟩;obtain ⟨x35,ex35,h⟩:=Option.bind_eq_some_iff.1 h;refine Zj5 Side.row ex35 trivial rfl rfl rfl ?_;refine Zl2 3 ?_;dsimp only [Zlb,Zkb,Zjb,go_sem];refine ⟨by simp,?_⟩;exact Zv4 J6 (s:=x35.Fork) h
         ·dsimp only [go_sem];refine Zl2 7 ?_;dsimp only [Zlb,Zkb,Zjb,go_sem];refine ⟨by simp,?_⟩;exact Zv4 J6 (s:=false) h
       ·refine Zk4 h rfl (fun _ h=>?_) fun _ h=>?_
        ·refine Zl2 5 ?_;dsimp only [Zlb,Zkb,Zjb,go_sem];refine ⟨by simp,?_⟩;obtain ⟨x31,ex31,h⟩:=Option.bind_eq_some_iff.1 h;refine Zo5 [.bv false] Side.row (y':=(Side.mk x31.Peer x31.Epoch x31.State x31.Fork x31.Dirty false x31.Bottle x31.Ask)) ex31 trivial rfl rfl rfl (by first | exact Zb4 _ | simp [go_sem]) rfl rfl rfl rfl ?_;refine Zl2 3 ?_;dsimp only [Zlb,Zkb,Zjb,go_sem];refine ⟨by simp,?_⟩;obtain ⟨x32,ex32,h⟩:=Option.bind_eq_some_iff.1 h
         refine Zx5 [false,false,false,false,true,false,true,true] [false,true,true] trivial rfl (Z9c 2 x1.ID x1.Phase x21 (x27.set (x21).toNat ((Side.mk x31.Peer x31.Epoch x31.State x31.Fork x31.Dirty false x31.Bottle x31.Ask))) x28 _ ex32) (by kernel_rfl) (h:=?_);dsimp only [go_sem];refine Zl2 1 ?_;dsimp only [Zlb,Zkb,Zjb,go_sem];refine ⟨by simp,?_⟩;refine Z54 4 2 rfl rfl rfl ?_;dsimp only [go_sem]
         exact Zv4 J5 (s:=((x27.set (x21).toNat ((Side.mk x31.Peer x31.Epoch x31.State x31.Fork x31.Dirty false x31.Bottle x31.Ask))),x32)) h
        ·refine Zl2 1 ?_;dsimp only [Zlb,Zkb,Zjb,go_sem];refine ⟨by simp,?_⟩;exact Zv4 J5 (s:=(x27,x28)) h
      ·refine Zs4 65 h rfl (fun _ h=>?_) fun _ h=>?_
       ·dsimp only [go_sem];refine Zl2 3 ?_;dsimp only [Zlb,Zkb,Zjb,go_sem];refine ⟨by simp,?_⟩;obtain ⟨x29,ex29,h⟩:=Option.bind_eq_some_iff.1 h;refine Zj5 Side.row ex29 trivial rfl rfl rfl ?_;refine Zl2 2 ?_;dsimp only [Zlb,Zkb,Zjb,go_sem];refine ⟨by simp,?_⟩;refine Zs4 71 h rfl (fun _ h=>?_) fun _ h=>?_
        ·dsimp only [go_sem];refine Zl2 3 ?_;dsimp only [Zlb,Zkb,Zjb,go_sem];refine ⟨by simp,?_⟩;refine Zj5 Side.row ex29 trivial rfl rfl rfl ?_;refine Zl2 3 ?_;dsimp only [Zlb,Zkb,Zjb,go_sem];refine ⟨by simp,?_⟩;exact Zv4 J4 (s:=!x29.Fork) h
        ·dsimp only [go_sem];refine Zl2 7 ?_;dsimp only [Zlb,Zkb,Zjb,go_sem];refine ⟨by simp,?_⟩;exact Zv4 J4 (s:=false) h
       ·dsimp only [go_sem];refine Zl2 13 ?_;dsimp only [Zlb,Zkb,Zjb,go_sem];refine ⟨by simp,?_⟩;exact Zv4 J4 (s:=false) h
     ·refine Zk4 h rfl (fun _ h=>?_) fun _ h=>?_
      ·refine Zl2 1 ?_;dsimp only [Zlb,Zkb,Zjb,go_sem];refine ⟨by simp,?_⟩;refine Zh3 (by kernel_rfl) fun all hall hs hnap haf=>?_;dsimp only [go_sem];refine Zv3 0 1 rfl ?_ ?_
       ·refine Zz3 hall rfl trivial ?_;dsimp only [go_sem];refine Zf5 hall hs haf hnap 2 5 ?_;dsimp only [go_sem];refine ⟨by simp,?_⟩;refine Zv3 1 4 rfl ?_ ?_
        ·refine Zz3 hall rfl trivial ?_;dsimp only [go_sem];refine Zu3 4 rfl ?_;refine Zz5 hall [.bv false] Side.row (y':=(Side.mk x24.Peer x24.Epoch x24.State false x24.Dirty x24.Token x24.Bottle x24.Ask)) ex24 rfl trivial rfl rfl rfl (by first | exact Zb4 _ | simp [go_sem]) rfl rfl rfl rfl ?_;dsimp only [go_sem];refine Zf5 hall hs haf hnap 2 1 ?_;dsimp only [go_sem];refine ⟨by simp,?_⟩;refine Zu3 7 rfl ?_
         refine Z06 hall [.bv false] Side.row (y':=(Side.mk x24.Peer x24.Epoch x24.State false false x24.Token x24.Bottle x24.Ask)) (at_set ex24) rfl trivial rfl rfl rfl (by first | exact Zb4 _ | simp [go_sem]) rfl rfl rfl rfl ?_;dsimp only [go_sem];refine Zt3 rfl ?_ _;refine Zl2 2 ?_;dsimp only [Zlb,Zkb,Zjb,go_sem];refine ⟨by simp,?_⟩;obtain ⟨x26,ex26,h⟩:=Option.bind_eq_some_iff.1 h
         refine Zx5 [false,false,false,false,true,false,true,true] [false,true,true] trivial rfl (Z9c 1 x1.ID x1.Phase x21 (x22.set (x21).toNat ((Side.mk x24.Peer x24.Epoch x24.State false false x24.Token x24.Bottle x24.Ask))) x23 _ ex26) (by kernel_rfl) (h:=?_);dsimp only [go_sem];refine Zl2 1 ?_;dsimp only [Zlb,Zkb,Zjb,go_sem];refine ⟨by simp,?_⟩;refine Z54 4 2 rfl rfl rfl ?_;dsimp only [go_sem]
         exact Zv4 J3 (s:=((x22.set (x21).toNat ((Side.mk x24.Peer x24.Epoch x24.State false false x24.Token x24.Bottle x24.Ask))),x26)) h
        ·refine Zz5 hall [.bv false] Side.row (y':=(Side.mk x24.Peer x24.Epoch x24.State false x24.Dirty x24.Token x24.Bottle x24.Ask)) ex24 rfl trivial rfl rfl rfl (by first | exact Zb4 _ | simp [go_sem]) rfl rfl rfl rfl ?_;dsimp only [go_sem];refine Zu3 1 rfl ?_;refine Zz3 hall rfl trivial ?_;dsimp only [go_sem];refine Zf5 hall hs haf hnap 2 1 ?_;dsimp only [go_sem];refine ⟨by simp,?_⟩;refine Zu3 7 rfl ?_
         refine Z06 hall [.bv false] Side.row (y':=(Side.mk x24.Peer x24.Epoch x24.State false false x24.Token x24.Bottle x24.Ask)) (at_set ex24) rfl trivial rfl rfl rfl (by first | exact Zb4 _ | simp [go_sem]) rfl rfl rfl rfl ?_;dsimp only [go_sem];refine Zt3 rfl ?_ _;refine Zl2 2 ?_;dsimp only [Zlb,Zkb,Zjb,go_sem];refine ⟨by simp,?_⟩;obtain ⟨x26,ex26,h⟩:=Option.bind_eq_some_iff.1 h
         refine Zx5 [false,false,false,false,true,false,true,true] [false,true,true] trivial rfl (Z9c 1 x1.ID x1.Phase x21 (x22.set (x21).toNat ((Side.mk x24.Peer x24.Epoch x24.State false false x24.Token x24.Bottle x24.Ask))) x23 _ ex26) (by kernel_rfl) (h:=?_);dsimp only [go_sem];refine Zl2 1 ?_;dsimp only [Zlb,Zkb,Zjb,go_sem];refine ⟨by simp,?_⟩;refine Z54 4 2 rfl rfl rfl ?_;dsimp only [go_sem]
         exact Zv4 J3 (s:=((x22.set (x21).toNat ((Side.mk x24.Peer x24.Epoch x24.State false false x24.Token x24.Bottle x24.Ask))),x26)) h
       ·refine Zz3 hall rfl trivial ?_;dsimp only [go_sem];refine Zu3 0 rfl ?_;refine Zz3 hall rfl trivial ?_;dsimp only [go_sem];refine Zf5 hall hs haf hnap 2 4 ?_;dsimp only [go_sem];refine ⟨by simp,?_⟩;refine Zu3 4 rfl ?_;refine Zz5 hall [.bv false] Side.row (y':=(Side.mk x24.Peer x24.Epoch x24.State false x24.Dirty x24.Token x24.Bottle x24.Ask)) ex24 rfl trivial rfl rfl rfl (by first | exact Zb4 _ | simp [go_sem]) rfl rfl rfl rfl ?_;dsimp only [go_sem];refine Zf5 hall hs haf hnap 2 1 ?_;dsimp only [go_sem];refine ⟨by simp,?_⟩
        refine Zu3 7 rfl ?_;refine Z06 hall [.bv false] Side.row (y':=(Side.mk x24.Peer x24.Epoch x24.State false false x24.Token x24.Bottle x24.Ask)) (at_set ex24) rfl trivial rfl rfl rfl (by first | exact Zb4 _ | simp [go_sem]) rfl rfl rfl rfl ?_;dsimp only [go_sem];refine Zt3 rfl ?_ _;refine Zl2 2 ?_;dsimp only [Zlb,Zkb,Zjb,go_sem];refine ⟨by simp,?_⟩;obtain ⟨x26,ex26,h⟩:=Option.bind_eq_some_iff.1 h
        refine Zx5 [false,false,false,false,true,false,true,true] [false,true,true] trivial rfl (Z9c 1 x1.ID x1.Phase x21 (x22.set (x21).toNat ((Side.mk x24.Peer x24.Epoch x24.State false false x24.Token x24.Bottle x24.Ask))) x23 _ ex26) (by kernel_rfl) (h:=?_);dsimp only [go_sem];refine Zl2 1 ?_;dsimp only [Zlb,Zkb,Zjb,go_sem];refine ⟨by simp,?_⟩;refine Z54 4 2 rfl rfl rfl ?_;dsimp only [go_sem]
        exact Zv4 J3 (s:=((x22.set (x21).toNat ((Side.mk x24.Peer x24.Epoch x24.State false false x24.Token x24.Bottle x24.Ask))),x26)) h
      ·refine Zl2 1 ?_;dsimp only [Zlb,Zkb,Zjb,go_sem];refine ⟨by simp,?_⟩;exact Zv4 J3 (s:=(x22,x23)) h
    ·refine Zs4 37 h rfl (fun _ h=>?_) fun _ h=>?_
     ·dsimp only [go_sem];refine Zl2 3 ?_;dsimp only [Zlb,Zkb,Zjb,go_sem];refine ⟨by simp,?_⟩;refine Zj5 Side.row ex24 trivial rfl rfl rfl ?_;refine Zl2 2 ?_;dsimp only [Zlb,Zkb,Zjb,go_sem];refine ⟨by simp,?_⟩;refine Zs4 43 h rfl (fun _ h=>?_) fun _ h=>?_
      ·dsimp only [go_sem];refine Zl2 3 ?_;dsimp only [Zlb,Zkb,Zjb,go_sem];refine ⟨by simp,?_⟩;refine Zj5 Side.row ex24 trivial rfl rfl rfl ?_;refine Zl2 2 ?_;dsimp only [Zlb,Zkb,Zjb,go_sem];refine ⟨by simp,?_⟩;refine Zs4 49 h rfl (fun _ h=>?_) fun _ h=>?_
       ·dsimp only [go_sem];refine Zl2 5 ?_;dsimp only [Zlb,Zkb,Zjb,go_sem];refine ⟨by simp,?_⟩;exact Zv4 J2 (s:=!decide (x1.Phase=2)) h
       ·dsimp only [go_sem];refine Zl2 5 ?_;dsimp only [Zlb,Zkb,Zjb,go_sem];refine ⟨by simp,?_⟩;exact Zv4 J2 (s:=false) h
      ·dsimp only [go_sem];refine Zl2 11 ?_;dsimp only [Zlb,Zkb,Zjb,go_sem];refine ⟨by simp,?_⟩;exact Zv4 J2 (s:=false) h
     ·dsimp only [go_sem];refine Zl2 17 ?_;dsimp only [Zlb,Zkb,Zjb,go_sem];refine ⟨by simp,?_⟩;exact Zv4 J2 (s:=false) h
   ·refine Zl2 1 ?_;dsimp only [Zlb,Zkb,Zjb,go_sem];refine ⟨by simp,?_⟩;exact Zv4 J1 (s:=(x20,x22,x23)) (Zh4 h hout1)
noncomputable def Zmc (x1:Side) (x2:Int) (x3:Int) (_x4:Int) (_x5:Int) (_x6:(List Int)) (_x7:(List Side)) (x8:(List Mail)):Option (List Mail):=
 (Zc4 40 x8 ([(Mail.mk x3 x1.Peer ((Msg.mk x2 x1.Epoch 0)))])).bind fun x9=>
 some x9
theorem Znc (x1:Side) (x2:Int) (x3:Int) (x4:Int) (x5:Int) (x6:(List Int)) (x7:(List Side)) (x8:(List Mail)) (r:(List Mail)) (h:Zmc x1 x2 x3 x4 x5 x6 x7 x8=some r):FunT Tryz.prog 196 [.ptr 2 0,.agg [.iv x1.Peer,.iv x1.Epoch,.iv x1.State,.bv x1.Fork,.bv x1.Dirty,.bv x1.Token,.bv x1.Bottle,.bv x1.Ask],.iv x2] [none,none,some ⟨188,[.iv x3,.iv x4,.osl 1,.iv x5,.sl 1 (List.map Z05 x6),.osl 5]⟩,none,none] [none,some ⟨66,8,List.map Side.row x7⟩,none,none,none,some ⟨95,5,List.map Mail.row x8⟩] (.tup []) [none,none,some ⟨188,[.iv x3,.iv x4,.osl 1,.iv x5,.sl 1 (List.map Z05 x6),.osl 7]⟩,none,none] [none,some ⟨66,8,List.map Side.row x7⟩,none,none,none,none,none,some ⟨95,5,List.map Mail.row r⟩]:=by
 refine Zt5 ok196 rfl rfl rfl (by first | rfl | simp [go_sem]) fun w0 M0=>?_
 rw [Zmc] at h
 dsimp only [lun,List.cons_append,List.nil_append]
 refine Zl2 4 ?_;dsimp only [e196,go_sem];refine ⟨by simp,?_⟩;refine Zh3 (by kernel_rfl) fun all hall hs hnap haf=>?_;dsimp only [go_sem]
 refine Zg5 hall hs haf hnap 17 6 [true,true,true,true,false,true,true,true,true,true,true,true,true,true,true,true,true,true,false,false,false,false,false] (⟨[.ptr 2 0,.agg [.iv x1.Peer,.iv x1.Epoch,.iv x1.State,.bv x1.Fork,.bv x1.Dirty,.bv x1.Token,.bv x1.Bottle,.bv x1.Ask],.iv x2,.un,.ptr 5 0,.un,.ptr 2 0,.ptr 2 0,.ptr 2 0,.ptr 2 5,.un,.ptr 2 0,.ptr 2 0,.ptr 2 0,.ptr 2 0,.ptr 2 0,.iv x3,.ptr 5 0,.iv x1.Peer,.iv x2,.ptr 5 1,.iv x1.Epoch,.agg [.iv x2,.iv x1.Epoch,.iv 0],.agg [.iv x3,.iv x1.Peer,.iv x2,.iv x1.Epoch,.iv 0],.un,.un,.un,.un],[none,none,some ⟨188,[.iv x3,.iv x4,.osl 1,.iv x5,.sl 1 (List.map Z05 x6),.osl 5]⟩,none,none,some ⟨66,[.iv x1.Peer,.iv x1.Epoch,.iv x1.State,.bv x1.Fork,.bv x1.Dirty,.bv x1.Token,.bv x1.Bottle,.bv x1.Ask]⟩],[none,some ⟨66,8,List.map Side.row x7⟩,none,none,none,some ⟨95,5,List.map Mail.row x8⟩]⟩:St) (by kernel_rfl) ?_
 refine Zv3 4 18 rfl ?_ ?_
 ·refine Zz3 hall rfl trivial ?_;dsimp only [go_sem];refine Zu3 18 rfl ?_;refine Zz3 hall rfl trivial ?_;dsimp only [go_sem];refine Zu3 19 rfl ?_;obtain ⟨x9,ex9,h⟩:=Option.bind_eq_some_iff.1 h;refine Zr4 Mail.row ex9 hall rfl trivial rfl rfl rfl ?_;dsimp only [go_sem];refine Zf5 hall hs haf hnap 2 1 ?_;dsimp only [go_sem];refine ⟨by simp,?_⟩;refine Zu3 22 rfl ?_;refine Zz3 hall rfl trivial ?_;dsimp only [go_sem];refine Zt3 rfl ?_ _;obtain rfl:=Option.some.inj h;exact Zv5 ok196 rfl (by simp [go_sem])
 ·refine Zz3 hall rfl trivial ?_;dsimp only [go_sem];refine Zu3 4 rfl ?_;refine Zz3 hall rfl trivial ?_;dsimp only [go_sem];refine Zu3 19 rfl ?_;obtain ⟨x9,ex9,h⟩:=Option.bind_eq_some_iff.1 h;refine Zr4 Mail.row ex9 hall rfl trivial rfl rfl rfl ?_;dsimp only [go_sem];refine Zf5 hall hs haf hnap 2 1 ?_;dsimp only [go_sem];refine ⟨by simp,?_⟩;refine Zu3 22 rfl ?_;refine Zz3 hall rfl trivial ?_;dsimp only [go_sem];refine Zt3 rfl ?_ _;obtain rfl:=Option.some.inj h;exact Zv5 ok196 rfl (by simp [go_sem])
noncomputable def Zoc (x59:(List Side)) (x60:(List Mail)):Int→Option (Int×(List Side)×(List Mail))
| x62=>
 some (x62,x59,x60)
noncomputable def Zpc (x3:Int) (x59:(List Side)) (x60:(List Mail)):Bool→Option (Int×(List Side)×(List Mail))
| x61=>
 ifb x61 (
 (Zoc x59 x60) 2) (
 (Zoc x59 x60) x3)
noncomputable def Zqc (x3:Int):(Bool×(List Side)×(List Mail))→Option (Int×(List Side)×(List Mail))
| (x58,x59,x60)=>
 ifb (decide (x3=1)) (
 (Zpc x3 x59 x60) x58) (
 (Zpc x3 x59 x60) false)
noncomputable def Zrc (x27:Int) (x41:(List Side)) (x42:(List Mail)):Bool→Option ((Bool×Int×(List Side)×(List Mail)) ⊕ (Int×(List Side)×(List Mail)))
| x44=>
 some (.inl (x44,wr (x27+1),x41,x42))
noncomputable def Zsc (x26:Bool) (x27:Int) (x31:Bool):((List Side)×(List Mail))→Option ((Bool×Int×(List Side)×(List Mail)) ⊕ (Int×(List Side)×(List Mail)))
| (x41,x42)=>
 ifb x26 (
 ifb (!x31) (
 (Zrc x27 x41 x42) true) (
 (at_ x41 x27).bind fun x43=>
 (Zrc x27 x41 x42) x43.Bottle)) (
 (Zrc x27 x41 x42) false)
noncomputable def Ztc (x1:Int) (x2:Int) (x3:Int) (x4:(List Int)) (x26:Bool) (x27:Int) (x31:Bool) (x35:(List Side)) (x36:(List Mail)):Bool→Option ((Bool×Int×(List Side)×(List Mail)) ⊕ (Int×(List Side)×(List Mail)))
| x38=>
 ifb x38 (
 (at_ x35 x27).bind fun x39=>
 (Zmc ((Side.mk x39.Peer x39.Epoch x39.State x39.Fork x39.Dirty x39.Token x39.Bottle false)) 4 x1 x2 x3 x4 (x35.set (x27).toNat ((Side.mk x39.Peer x39.Epoch x39.State x39.Fork x39.Dirty x39.Token x39.Bottle false))) x36).bind fun x40=>
 (Zsc x26 x27 x31) ((x35.set (x27).toNat ((Side.mk x39.Peer x39.Epoch x39.State x39.Fork x39.Dirty x39.Token x39.Bottle false))),x40)) (
 (Zsc x26 x27 x31) (x35,x36))
noncomputable def Zuc (x1:Int) (x2:Int) (x3:Int) (x4:(List Int)) (x26:Bool) (x27:Int) (x31:Bool):((List Side)×(List Mail))→Option ((Bool×Int×(List Side)×(List Mail)) ⊕ (Int×(List Side)×(List Mail)))
| (x35,x36)=>
 ifb (decide (x3=1)) (
 ifb x31 (
 (at_ x35 x27).bind fun x37=>
 ifb x37.Ask (
 (Ztc x1 x2 x3 x4 x26 x27 x31 x35 x36) (!x37.Bottle)) (
 (Ztc x1 x2 x3 x4 x26 x27 x31 x35 x36) false)) (
 (Ztc x1 x2 x3 x4 x26 x27 x31 x35 x36) false)) (
 (Ztc x1 x2 x3 x4 x26 x27 x31 x35 x36) false)
noncomputable def Zvc (x1:Int) (x2:Int) (x3:Int) (x4:(List Int)) (x26:Bool) (x27:Int) (x28:(List Side)) (x29:(List Mail)) (x30:Side) (x31:Bool):Bool→Option ((Bool×Int×(List Side)×(List Mail)) ⊕ (Int×(List Side)×(List Mail)))
| x33=>
 ifb x33 (
 (Zmc ((Side.mk x30.Peer x30.Epoch x30.State x30.Fork x30.Dirty x30.Token false x30.Ask)) 3 x1 x2 x3 x4 (x28.set (x27).toNat ((Side.mk x30.Peer x30.Epoch x30.State x30.Fork x30.Dirty x30.Token false x30.Ask))) x29).bind fun x34=>
 (Zuc x1 x2 x3 x4 x26 x27 x31) ((x28.set (x27).toNat ((Side.mk x30.Peer x30.Epoch x30.State x30.Fork x30.Dirty x30.Token false x30.Ask))),x34)) (
 (Zuc x1 x2 x3 x4 x26 x27 x31) (x28,x29))
noncomputable def Zwc (x1:Int) (x2:Int) (x3:Int) (x4:(List Int)) (x26:Bool) (x27:Int) (x28:(List Side)) (x29:(List Mail)) (x30:Side) (x31:Bool):Bool→Option ((Bool×Int×(List Side)×(List Mail)) ⊕ (Int×(List Side)×(List Mail)))
| x32=>
 ifb x30.Bottle (
 ifb x30.Ask (
 (Zvc x1 x2 x3 x4 x26 x27 x28 x29 x30 x31) (!x32)) (
 (Zvc x1 x2 x3 x4 x26 x27 x28 x29 x30 x31) false)) (
 (Zvc x1 x2 x3 x4 x26 x27 x28 x29 x30 x31) false)
noncomputable def Zxc (x1:Int) (x2:Int) (x3:Int) (x4:(List Int)) (x5:(List Side)):(Bool×Int×(List Side)×(List Mail))→Option ((Bool×Int×(List Side)×(List Mail)) ⊕ (Int×(List Side)×(List Mail)))
| (x26,x27,x28,x29)=>
 ifb (decide (x27<(ln Side.row x5))) (
 (at_ x28 x27).bind fun x30=>
 (Zub x4 x30.Peer).bind fun x31=>
 ifb x31 (
 ifb (decide (x3=2)) (
 (Zwc x1 x2 x3 x4 x26 x27 x28 x29 x30 x31) true) (
 ifb (decide (x3=1)) (
 (Zwc x1 x2 x3 x4 x26 x27 x28 x29 x30 x31) x30.Fork) (
 (Zwc x1 x2 x3 x4 x26 x27 x28 x29 x30 x31) false))) (
 (Zwc x1 x2 x3 x4 x26 x27 x28 x29 x30 x31) false)) (
 Option.map Sum.inr ((Zqc x3) (x26,x28,x29)))
noncomputable def Zyc (x1:Int) (x2:Int) (x3:Int) (x4:(List Int)) (x5:(List Side)) (x6:(List Mail)):Option (Int×(List Side)×(List Mail)):=
 loop (Zxc x1 x2 x3 x4 x5) (true,0,x5,x6)
theorem Zzc (x1:Int) (x2:Int) (x3:Int) (x4:(List Int)) (x5:(List Side)) (x6:(List Mail)) (r:(Int×(List Side)×(List Mail))) (h:Zyc x1 x2 x3 x4 x5 x6=some r):FunT Tryz.prog 178 [.ptr 2 0] [none,none,some ⟨188,[.iv x1,.iv x2,.osl 1,.iv x3,.sl 1 (List.map Z05 x4),.osl 3]⟩,none,none] [none,some ⟨66,8,List.map Side.row x5⟩,none,some ⟨95,5,List.map Mail.row x6⟩] (.tup []) [none,none,some ⟨188,[.iv x1,.iv x2,.osl 1,.iv r.1,.sl 1 (List.map Z05 x4),.osl 5]⟩,none,none] [none,some ⟨66,8,List.map Side.row r.2.1⟩,none,none,none,some ⟨95,5,List.map Mail.row r.2.2⟩]:=by
 refine Zt5 ok178 rfl rfl rfl (by first | rfl | simp [go_sem]) fun w0 M0=>?_
 rw [Zyc] at h
 dsimp only [lun,List.cons_append,List.nil_append]
 refine Zl2 16 ?_;dsimp only [Zwb,Zvb,go_sem];refine ⟨by simp,?_⟩;refine Zi4 (fun ((x58,x59,x60):(Bool×(List Side)×(List Mail)))=>(⟨(.ptr 2 0 :: .any :: .bv x58::an 132 []),[none,none,some ⟨188,[.iv x1,.iv x2,.osl 1,.iv x3,.sl 1 (List.map Z05 x4),.osl 5]⟩,none,none],[none,some ⟨66,8,List.map Side.row x59⟩,none,none,none,some ⟨95,5,List.map Mail.row x60⟩]⟩:St)) (Zqc x3) r ?_ fun J1=>?_
 ·rintro ⟨x58,x59,x60⟩ h;rw [Zqc] at h;(try dsimp only);refine Zl2 9 ?_;dsimp only [Zwb,Zvb,go_sem];refine ⟨by simp,?_⟩;refine Zi4 (fun (x61:Bool)=>(⟨(.ptr 2 0::an 129 (.bv x61::an 4 [])),[none,none,some ⟨188,[.iv x1,.iv x2,.osl 1,.iv x3,.sl 1 (List.map Z05 x4),.osl 5]⟩,none,none],[none,some ⟨66,8,List.map Side.row x59⟩,none,none,none,some ⟨95,5,List.map Mail.row x60⟩]⟩:St)) (Zpc x3 x59 x60) r ?_ fun J8=>?_
  ·intro x61 h;rw [Zpc] at h;(try dsimp only);refine Zi4 (fun (x62:Int)=>(⟨(an 135 []),[none,none,some ⟨188,[.iv x1,.iv x2,.osl 1,.iv x62,.sl 1 (List.map Z05 x4),.osl 5]⟩,none,none],[none,some ⟨66,8,List.map Side.row x59⟩,none,none,none,some ⟨95,5,List.map Mail.row x60⟩]⟩:St)) (Zoc x59 x60) r ?_ fun J9=>?_
   ·intro x62 h;rw [Zoc] at h;(try dsimp only);obtain rfl:=Option.some.inj h;exact Zv5 ok178 rfl (by simp [go_sem])
   ·refine Zk4 h rfl (fun _ h=>?_) fun _ h=>?_
    ·refine Zl2 7 ?_;dsimp only [Zwb,Zvb,go_sem];refine ⟨by simp,?_⟩;exact Zv4 J9 (s:=2) h
    ·refine Zl2 1 ?_;dsimp only [Zwb,Zvb,go_sem];refine ⟨by simp,?_⟩;exact Zv4 J9 (s:=x3) h
  ·refine Zs4 128 h rfl (fun _ h=>?_) fun _ h=>?_
   ·dsimp only [go_sem];refine Zl2 3 ?_;dsimp only [Zwb,Zvb,go_sem];refine ⟨by simp,?_⟩;exact Zv4 J8 (s:=x58) h
   ·dsimp only [go_sem];refine Zl2 3 ?_;dsimp only [Zwb,Zvb,go_sem];refine ⟨by simp,?_⟩;exact Zv4 J8 (s:=false) h
 ·refine Zl2 1 ?_;dsimp only [Zwb,Zvb,go_sem];refine ⟨by simp,?_⟩;refine V_new 95 5 rfl ?_;dsimp only [go_sem];refine V_new 95 5 rfl ?_;dsimp only [go_sem];refine Z54 3 5 rfl rfl rfl ?_;dsimp only [go_sem]
  refine Zj4 h (fun ((x26,x27,x28,x29):(Bool×Int×(List Side)×(List Mail)))=>(⟨(.ptr 2 0 :: .any :: .bv x26::an 10 (.iv (ln Side.row x5) :: .iv x27::an 120 [])),[none,none,some ⟨188,[.iv x1,.iv x2,.osl 1,.iv x3,.sl 1 (List.map Z05 x4),.osl 5]⟩,none,none],[none,some ⟨66,8,List.map Side.row x28⟩,none,none,none,some ⟨95,5,List.map Mail.row x29⟩]⟩:St)) (by simp [go_sem]) (by rintro ⟨x26,x27,x28,x29⟩;first | rfl | simp [go_sem]) ?_;rintro n1 ⟨x26,x27,x28,x29⟩ y1 h hin1 hout1;rw [Zxc] at h;(try dsimp only)
  refine Zl2 5 ?_;dsimp only [Zwb,Zvb,go_sem];refine ⟨by simp,?_⟩;refine Zk4 h rfl (fun _ h=>?_) fun _ h=>?_
  ·refine Zl2 17 ?_;dsimp only [Zwb,Zvb,go_sem];refine ⟨by simp,?_⟩;obtain ⟨x30,ex30,h⟩:=Option.bind_eq_some_iff.1 h;refine Zi5 Side.row ex30 trivial rfl rfl rfl ?_;refine Zl2 3 ?_;dsimp only [Zwb,Zvb,go_sem];refine ⟨by simp,?_⟩;refine Zh3 (by kernel_rfl) fun all hall hs hnap haf=>?_;dsimp only [go_sem]
   refine Zg5 hall hs haf hnap 8 3 [true,true,true,true,true,true,true,true,false,false,false] (⟨(.ptr 2 0 :: .any :: .bv x26 :: .iv x27 :: .oel 1 ((x27).toNat*8) 0::an 8 (.iv (ln Side.row x5) :: .iv x27 :: .bv (decide (x27<(ln Side.row x5))) :: .iv x27 :: .ptr 2 0 :: .ptr 2 0 :: .ptr 2 0 :: .ptr 2 0 :: .ptr 2 2 :: .osl 1 :: .iv x27 :: .oel 1 ((x27).toNat*8) 0 :: .ptr 2 0 :: .ptr 2 0 :: .ptr 2 0 :: .ptr 2 4 :: .sl 1 (List.map Z05 x4) :: .oel 1 ((x27).toNat*8) 0 :: .oel 1 ((x27).toNat*8) 0 :: .oel 1 ((x27).toNat*8) 0::an 102 [])),[none,none,some ⟨188,[.iv x1,.iv x2,.osl 1,.iv x3,.sl 1 (List.map Z05 x4),.osl 5]⟩,none,none],[none,some ⟨66,8,List.map Side.row x28⟩,none,none,none,some ⟨95,5,List.map Mail.row x29⟩]⟩:St) (by kernel_rfl) ?_
   refine Zu3 8 rfl ?_;refine Zy5 hall Side.row ex30 rfl trivial rfl rfl rfl ?_;dsimp only [go_sem];refine Zu3 9 rfl ?_;obtain ⟨x31,ex31,h⟩:=Option.bind_eq_some_iff.1 h;refine Z04 hall rfl trivial (k_set_Has x4 x30.Peer _ ex31) (h:=?_);dsimp only [go_sem];refine Zf5 hall hs haf hnap 1 0 ?_;dsimp only [go_sem];refine ⟨by simp,?_⟩;refine Zt3 rfl ?_ _;refine Zl2 4 ?_;dsimp only [Zwb,Zvb,go_sem];refine ⟨by simp,?_⟩
   refine Zi4 (fun (x32:Bool)=>(⟨(.ptr 2 0 :: .any :: .bv x26 :: .any :: .oel 1 ((x27).toNat*8) 0 :: .bv x31 :: .bv x32::an 6 (.iv (ln Side.row x5) :: .iv x27::an 120 [])),[none,none,some ⟨188,[.iv x1,.iv x2,.osl 1,.iv x3,.sl 1 (List.map Z05 x4),.osl 5]⟩,none,none],[none,some ⟨66,8,List.map Side.row x28⟩,none,none,none,some ⟨95,5,List.map Mail.row x29⟩]⟩:St)) (Zwc x1 x2 x3 x4 x26 x27 x28 x29 x30 x31) y1 ?_ fun J2=>?_
   ·intro x32 h;rw [Zwc] at h;(try dsimp only);refine Zl2 6 ?_;dsimp only [Zwb,Zvb,go_sem];refine ⟨by simp,?_⟩;refine Zj5 Side.row ex30 trivial rfl rfl rfl ?_;refine Zl2 1 ?_;dsimp only [Zwb,Zvb,go_sem];refine ⟨by simp,?_⟩
    refine Zi4 (fun (x33:Bool)=>(⟨(.ptr 2 0 :: .any :: .bv x26 :: .any :: .oel 1 ((x27).toNat*8) 0 :: .bv x31::an 7 (.iv (ln Side.row x5) :: .iv x27::an 56 (.bv x33::an 63 []))),[none,none,some ⟨188,[.iv x1,.iv x2,.osl 1,.iv x3,.sl 1 (List.map Z05 x4),.osl 5]⟩,none,none],[none,some ⟨66,8,List.map Side.row x28⟩,none,none,none,some ⟨95,5,List.map Mail.row x29⟩]⟩:St)) (Zvc x1 x2 x3 x4 x26 x27 x28 x29 x30 x31) y1 ?_ fun J3=>?_
    ·intro x33 h;rw [Zvc] at h;(try dsimp only);refine Zi4 (fun ((x35,x36):((List Side)×(List Mail)))=>(⟨(.ptr 2 0 :: .any :: .bv x26 :: .any :: .oel 1 ((x27).toNat*8) 0 :: .bv x31::an 7 (.iv (ln Side.row x5) :: .iv x27::an 120 [])),[none,none,some ⟨188,[.iv x1,.iv x2,.osl 1,.iv x3,.sl 1 (List.map Z05 x4),.osl 5]⟩,none,none],[none,some ⟨66,8,List.map Side.row x35⟩,none,none,none,some ⟨95,5,List.map Mail.row x36⟩]⟩:St)) (Zuc x1 x2 x3 x4 x26 x27 x31) y1 ?_ fun J4=>?_
     ·rintro ⟨x35,x36⟩ h;rw [Zuc] at h;(try dsimp only);refine Zl2 10 ?_;dsimp only [Zwb,Zvb,go_sem];refine ⟨by simp,?_⟩
      refine Zi4 (fun (x38:Bool)=>(⟨(.ptr 2 0 :: .any :: .bv x26 :: .any :: .oel 1 ((x27).toNat*8) 0 :: .bv x31::an 7 (.iv (ln Side.row x5) :: .iv x27::an 86 (.bv x38::an 33 []))),[none,none,some ⟨188,[.iv x1,.iv x2,.osl 1,.iv x3,.sl 1 (List.map Z05 x4),.osl 5]⟩,none,none],[none,some ⟨66,8,List.map Side.row x35⟩,none,none,none,some ⟨95,5,List.map Mail.row x36⟩]⟩:St)) (Ztc x1 x2 x3 x4 x26 x27 x31 x35 x36) y1 ?_ fun J5=>?_
      ·intro x38 h;rw [Ztc] at h;(try dsimp only);refine Zi4 (fun ((x41,x42):((List Side)×(List Mail)))=>(⟨(.ptr 2 0 :: .any :: .bv x26 :: .any :: .oel 1 ((x27).toNat*8) 0 :: .bv x31::an 7 (.iv (ln Side.row x5) :: .iv x27::an 120 [])),[none,none,some ⟨188,[.iv x1,.iv x2,.osl 1,.iv x3,.sl 1 (List.map Z05 x4),.osl 5]⟩,none,none],[none,some ⟨66,8,List.map Side.row x41⟩,none,none,none,some ⟨95,5,List.map Mail.row x42⟩]⟩:St)) (Zsc x26 x27 x31) y1 ?_ fun J6=>?_
       ·rintro ⟨x41,x42⟩ h;rw [Zsc] at h;(try dsimp only);refine Zl2 3 ?_;dsimp only [Zwb,Zvb,go_sem];refine ⟨by simp,?_⟩;refine Zi4 (fun (x44:Bool)=>(⟨(.ptr 2 0 :: .any :: .bv x44::an 10 (.iv (ln Side.row x5) :: .iv x27::an 120 [])),[none,none,some ⟨188,[.iv x1,.iv x2,.osl 1,.iv x3,.sl 1 (List.map Z05 x4),.osl 5]⟩,none,none],[none,some ⟨66,8,List.map Side.row x41⟩,none,none,none,some ⟨95,5,List.map Mail.row x42⟩]⟩:St)) (Zrc x27 x41 x42) y1 ?_ fun J7=>?_
        ·intro x44 h;rw [Zrc] at h;(try dsimp only);refine Zl2 5 ?_;dsimp only [Zwb,Zvb,go_sem];refine ⟨by simp,?_⟩;exact Zu4 h hin1
        ·refine Zs4 111 h rfl (fun _ h=>?_) fun _ h=>?_
         ·dsimp only [go_sem];refine Zl2 3 ?_;dsimp only [Zwb,Zvb,go_sem];refine ⟨by simp,?_⟩;refine Zs4 114 h rfl (fun _ h=>?_) fun _ h=>?_
          ·dsimp only [go_sem];refine Zl2 8 ?_;dsimp only [Zwb,Zvb,go_sem];refine ⟨by simp,?_⟩;exact Zv4 J7 (s:=true) h
          ·dsimp only [go_sem];refine Zl2 3 ?_;dsimp only [Zwb,Zvb,go_sem];refine ⟨by simp,?_⟩;obtain ⟨x43,ex43,h⟩:=Option.bind_eq_some_iff.1 h;refine Zj5 Side.row ex43 trivial rfl rfl rfl ?_;refine Zl2 4 ?_;dsimp only [Zwb,Zvb,go_sem];refine ⟨by simp,?_⟩;exact Zv4 J7 (s:=x43.Bottle) h
         ·dsimp only [go_sem];refine Zl2 11 ?_;dsimp only [Zwb,Zvb,go_sem];refine ⟨by simp,?_⟩;exact Zv4 J7 (s:=false) h
       ·refine Zk4 h rfl (fun _ h=>?_) fun _ h=>?_
        ·refine Zl2 5 ?_;dsimp only [Zwb,Zvb,go_sem];refine ⟨by simp,?_⟩;obtain ⟨x39,ex39,h⟩:=Option.bind_eq_some_iff.1 h;refine Zo5 [.bv false] Side.row (y':=(Side.mk x39.Peer x39.Epoch x39.State x39.Fork x39.Dirty x39.Token x39.Bottle false)) ex39 trivial rfl rfl rfl (by first | exact Zb4 _ | simp [go_sem]) rfl rfl rfl rfl ?_;refine Zl2 5 ?_;dsimp only [Zwb,Zvb,go_sem];refine ⟨by simp,?_⟩;refine Zl5 Side.row (at_set ex39) trivial rfl rfl rfl ?_;obtain ⟨x40,ex40,h⟩:=Option.bind_eq_some_iff.1 h
         refine Zw5 [false,false,true,false,false] [false,true,false,false,false,true] trivial (Znc ((Side.mk x39.Peer x39.Epoch x39.State x39.Fork x39.Dirty x39.Token x39.Bottle false)) 4 x1 x2 x3 x4 (x35.set (x27).toNat ((Side.mk x39.Peer x39.Epoch x39.State x39.Fork x39.Dirty x39.Token x39.Bottle false))) x36 _ ex40) (h:=?_);dsimp only [go_sem];refine Zl2 1 ?_;dsimp only [Zwb,Zvb,go_sem];refine ⟨by simp,?_⟩;refine Z54 7 5 rfl rfl rfl ?_;dsimp only [go_sem]
         exact Zv4 J6 (s:=((x35.set (x27).toNat ((Side.mk x39.Peer x39.Epoch x39.State x39.Fork x39.Dirty x39.Token x39.Bottle false))),x40)) h
        ·refine Zl2 1 ?_;dsimp only [Zwb,Zvb,go_sem];refine ⟨by simp,?_⟩;exact Zv4 J6 (s:=(x35,x36)) h
      ·refine Zs4 86 h rfl (fun _ h=>?_) fun _ h=>?_
       ·dsimp only [go_sem];refine Zl2 3 ?_;dsimp only [Zwb,Zvb,go_sem];refine ⟨by simp,?_⟩;refine Zs4 89 h rfl (fun _ h=>?_) fun _ h=>?_
        ·dsimp only [go_sem];refine Zl2 3 ?_;dsimp only [Zwb,Zvb,go_sem];refine ⟨by simp,?_⟩;obtain ⟨x37,ex37,h⟩:=Option.bind_eq_some_iff.1 h;refine Zj5 Side.row ex37 trivial rfl rfl rfl ?_;refine Zl2 2 ?_;dsimp only [Zwb,Zvb,go_sem];refine ⟨by simp,?_⟩;refine Zs4 95 h rfl (fun _ h=>?_) fun _ h=>?_
         ·dsimp only [go_sem];refine Zl2 3 ?_;dsimp only [Zwb,Zvb,go_sem];refine ⟨by simp,?_⟩;refine Zj5 Side.row ex37 trivial rfl rfl rfl ?_;refine Zl2 3 ?_;dsimp only [Zwb,Zvb,go_sem];refine ⟨by simp,?_⟩;exact Zv4 J5 (s:=!x37.Bottle) h
         ·dsimp only [go_sem];refine Zl2 7 ?_;dsimp only [Zwb,Zvb,go_sem];refine ⟨by simp,?_⟩;exact Zv4 J5 (s:=false) h
        ·dsimp only [go_sem];refine Zl2 13 ?_;dsimp only [Zwb,Zvb,go_sem];refine ⟨by simp,?_⟩;exact Zv4 J5 (s:=false) h
       ·dsimp only [go_sem];refine Zl2 16 ?_;dsimp only [Zwb,Zvb,go_sem];refine ⟨by simp,?_⟩;exact Zv4 J5 (s:=false) h
     ·refine Zk4 h rfl (fun _ h=>?_) fun _ h=>?_
      ·refine Zl2 5 ?_;dsimp only [Zwb,Zvb,go_sem];refine ⟨by simp,?_⟩;refine Zo5 [.bv false] Side.row (y':=(Side.mk x30.Peer x30.Epoch x30.State x30.Fork x30.Dirty x30.Token false x30.Ask)) ex30 trivial rfl rfl rfl (by first | exact Zb4 _ | simp [go_sem]) rfl rfl rfl rfl ?_;refine Zl2 5 ?_;dsimp only [Zwb,Zvb,go_sem];refine ⟨by simp,?_⟩;refine Zl5 Side.row (at_set ex30) trivial rfl rfl rfl ?_;obtain ⟨x34,ex34,h⟩:=Option.bind_eq_some_iff.1 h
       refine Zw5 [false,false,true,false,false] [false,true,false,false,false,true] trivial (Znc ((Side.mk x30.Peer x30.Epoch x30.State x30.Fork x30.Dirty x30.Token false x30.Ask)) 3 x1 x2 x3 x4 (x28.set (x27).toNat ((Side.mk x30.Peer x30.Epoch x30.State x30.Fork x30.Dirty x30.Token false x30.Ask))) x29 _ ex34) (h:=?_);dsimp only [go_sem];refine Zl2 1 ?_;dsimp only [Zwb,Zvb,go_sem];refine ⟨by simp,?_⟩;refine Z54 7 5 rfl rfl rfl ?_;dsimp only [go_sem]
       exact Zv4 J4 (s:=((x28.set (x27).toNat ((Side.mk x30.Peer x30.Epoch x30.State x30.Fork x30.Dirty x30.Token false x30.Ask))),x34)) h
      ·refine Zl2 1 ?_;dsimp only [Zwb,Zvb,go_sem];refine ⟨by simp,?_⟩;exact Zv4 J4 (s:=(x28,x29)) h
    ·refine Zs4 62 h rfl (fun _ h=>?_) fun _ h=>?_
     ·dsimp only [go_sem];refine Zl2 3 ?_;dsimp only [Zwb,Zvb,go_sem];refine ⟨by simp,?_⟩;refine Zj5 Side.row ex30 trivial rfl rfl rfl ?_;refine Zl2 2 ?_;dsimp only [Zwb,Zvb,go_sem];refine ⟨by simp,?_⟩;refine Zs4 68 h rfl (fun _ h=>?_) fun _ h=>?_
      ·dsimp only [go_sem];refine Zl2 4 ?_;dsimp only [Zwb,Zvb,go_sem];refine ⟨by simp,?_⟩;exact Zv4 J3 (s:=!x32) h
      ·dsimp only [go_sem];refine Zl2 4 ?_;dsimp only [Zwb,Zvb,go_sem];refine ⟨by simp,?_⟩;exact Zv4 J3 (s:=false) h
     ·dsimp only [go_sem];refine Zl2 10 ?_;dsimp only [Zwb,Zvb,go_sem];refine ⟨by simp,?_⟩;exact Zv4 J3 (s:=false) h
   ·refine Zs4 36 h rfl (fun _ h=>?_) fun _ h=>?_
    ·dsimp only [go_sem];refine Zl2 7 ?_;dsimp only [Zwb,Zvb,go_sem];refine ⟨by simp,?_⟩;refine Zs4 43 h rfl (fun _ h=>?_) fun _ h=>?_
     ·dsimp only [go_sem];refine Zl2 16 ?_;dsimp only [Zwb,Zvb,go_sem];refine ⟨by simp,?_⟩;exact Zv4 J2 (s:=true) h
     ·dsimp only [go_sem];refine Zl2 7 ?_;dsimp only [Zwb,Zvb,go_sem];refine ⟨by simp,?_⟩;refine Zs4 50 h rfl (fun _ h=>?_) fun _ h=>?_
      ·dsimp only [go_sem];refine Zl2 3 ?_;dsimp only [Zwb,Zvb,go_sem];refine ⟨by simp,?_⟩;refine Zj5 Side.row ex30 trivial rfl rfl rfl ?_;refine Zl2 5 ?_;dsimp only [Zwb,Zvb,go_sem];refine ⟨by simp,?_⟩;exact Zv4 J2 (s:=x30.Fork) h
      ·dsimp only [go_sem];refine Zl2 9 ?_;dsimp only [Zwb,Zvb,go_sem];refine ⟨by simp,?_⟩;exact Zv4 J2 (s:=false) h
    ·dsimp only [go_sem];refine Zl2 23 ?_;dsimp only [Zwb,Zvb,go_sem];refine ⟨by simp,?_⟩;exact Zv4 J2 (s:=false) h
  ·refine Zl2 1 ?_;dsimp only [Zwb,Zvb,go_sem];refine ⟨by simp,?_⟩;exact Zv4 J1 (s:=(x26,x28,x29)) (Zh4 h hout1)
noncomputable def Z0d (x1:Int) (x3:(List Side)) (x4:Int) (x5:(List Int)) (x6:(List Mail)):Int→Option (Int×Int×Int×(List Side)×(List Mail))
| x10=>
 (Zkc ((Diner.mk x1 x10 x3))).bind fun x11=>
 (Zc4 40 x6 x11.2.2.2.2).bind fun x12=>
 (Zyc x11.1 x11.2.1 x4 x5 x11.2.2.2.1 x12).bind fun x13=>
 some (x11.1,x11.2.1,x13.1,x13.2.1,x13.2.2)
noncomputable def Z1d (x1:Int) (x2:Int) (x3:(List Side)) (x4:Int) (x5:(List Int)) (x6:(List Mail)):Bool→Option (Int×Int×Int×(List Side)×(List Mail))
| x9=>
 ifb x9 (
 (Z0d x1 x3 x4 x5 x6) 0) (
 (Z0d x1 x3 x4 x5 x6) x2)
noncomputable def Z2d (x1:Int) (x2:Int) (x3:(List Side)) (x4:Int) (x5:(List Int)) (x6:(List Mail)):Bool→Option (Int×Int×Int×(List Side)×(List Mail))
| x7=>
 ifb x7 (
 (Z0d x1 x3 x4 x5 x6) 1) (
 ifb (decide (x2=2)) (
 ifb (!decide (x4=1)) (
 (Zt9 x3 ((fun z=>Zgb z))).bind fun x8=>
 (Z1d x1 x2 x3 x4 x5 x6) (!x8)) (
 (Z1d x1 x2 x3 x4 x5 x6) false)) (
 (Z1d x1 x2 x3 x4 x5 x6) false))
noncomputable def Z3d (x1:Int) (x2:Int) (x3:(List Side)) (x4:Int) (x5:(List Int)) (x6:(List Mail)):Option (Int×Int×Int×(List Side)×(List Mail)):=
 ifb (decide (x4=1)) (
 (Z2d x1 x2 x3 x4 x5 x6) (decide (x2=0))) (
 (Z2d x1 x2 x3 x4 x5 x6) false)
theorem Z4d (x1:Int) (x2:Int) (x3:(List Side)) (x4:Int) (x5:(List Int)) (x6:(List Mail)) (r:(Int×Int×Int×(List Side)×(List Mail))) (h:Z3d x1 x2 x3 x4 x5 x6=some r):FunT Tryz.prog 157 [.ptr 2 0] [none,none,some ⟨188,[.iv x1,.iv x2,.sl 8 (List.map Side.row x3),.iv x4,.sl 1 (List.map Z05 x5),.osl 0]⟩,none] [some ⟨95,5,List.map Mail.row x6⟩] (.tup []) [none,none,some ⟨188,[.iv r.1,.iv r.2.1,.osl 1,.iv r.2.2.1,.sl 1 (List.map Z05 x5),.osl 5]⟩,none] [none,some ⟨66,8,List.map Side.row r.2.2.2.1⟩,none,none,none,some ⟨95,5,List.map Mail.row r.2.2.2.2⟩]:=by
 refine Zt5 ok157 rfl rfl rfl (by first | rfl | simp [go_sem]) fun w0 M0=>?_
 rw [Z3d] at h
 dsimp only [lun,List.cons_append,List.nil_append]
 refine Zl2 15 ?_;dsimp only [e157,go_sem];refine ⟨by simp,?_⟩;refine Zi4 (fun (x7:Bool)=>(⟨(.ptr 2 0 :: .any :: .clo 176 []::an 3 (.bv x7::an 78 [])),[none,none,some ⟨188,[.iv x1,.iv x2,.sl 8 (List.map Side.row x3),.iv x4,.sl 1 (List.map Z05 x5),.osl 0]⟩,none],[some ⟨95,5,List.map Mail.row x6⟩]⟩:St)) (Z2d x1 x2 x3 x4 x5 x6) r ?_ fun J1=>?_
 ·intro x7 h;rw [Z2d] at h;(try dsimp only);refine Zi4 (fun (x10:Int)=>(⟨(.ptr 2 0::an 84 []),[none,none,some ⟨188,[.iv x1,.iv x10,.sl 8 (List.map Side.row x3),.iv x4,.sl 1 (List.map Z05 x5),.osl 0]⟩,none],[some ⟨95,5,List.map Mail.row x6⟩]⟩:St)) (Z0d x1 x3 x4 x5 x6) r ?_ fun J2=>?_
  ·intro x10 h;rw [Z0d] at h;(try dsimp only);refine Zl2 8 ?_;dsimp only [e157,go_sem];refine ⟨by simp,?_⟩;obtain ⟨x11,ex11,h⟩:=Option.bind_eq_some_iff.1 h;refine Zw5 [false,false,false,false] [false] trivial (Zlc ((Diner.mk x1 x10 x3)) _ ex11) (h:=?_);dsimp only [go_sem];refine Zl2 26 ?_;dsimp only [e157,go_sem];refine ⟨by simp,?_⟩;obtain ⟨x12,ex12,h⟩:=Option.bind_eq_some_iff.1 h;refine Zq4 Mail.row ex12 trivial rfl rfl rfl ?_;refine Zl2 6 ?_;dsimp only [e157,go_sem];refine ⟨by simp,?_⟩
   obtain ⟨x13,ex13,h⟩:=Option.bind_eq_some_iff.1 h;refine Zw5 [false,false,true,false,false] [false,true,false,true] trivial (Zzc x11.1 x11.2.1 x4 x5 x11.2.2.2.1 x12 _ ex13) (h:=?_);dsimp only [go_sem];refine Zl2 1 ?_;dsimp only [e157,go_sem];refine ⟨by simp,?_⟩;obtain rfl:=Option.some.inj h;exact Zv5 ok157 rfl (by simp [go_sem])
  ·refine Zk4 h rfl (fun _ h=>?_) fun _ h=>?_
   ·refine Zl2 8 ?_;dsimp only [e157,go_sem];refine ⟨by simp,?_⟩;exact Zv4 J2 (s:=1) h
   ·refine Zl2 10 ?_;dsimp only [e157,go_sem];refine ⟨by simp,?_⟩;refine Zi4 (fun (x9:Bool)=>(⟨(.ptr 2 0::an 26 (.bv x9::an 57 [])),[none,none,some ⟨188,[.iv x1,.iv x2,.sl 8 (List.map Side.row x3),.iv x4,.sl 1 (List.map Z05 x5),.osl 0]⟩,none],[some ⟨95,5,List.map Mail.row x6⟩]⟩:St)) (Z1d x1 x2 x3 x4 x5 x6) r ?_ fun J3=>?_
    ·intro x9 h;rw [Z1d] at h;(try dsimp only);refine Zk4 h rfl (fun _ h=>?_) fun _ h=>?_
     ·refine Zl2 8 ?_;dsimp only [e157,go_sem];refine ⟨by simp,?_⟩;exact Zv4 J2 (s:=0) h
     ·refine Zl2 1 ?_;dsimp only [e157,go_sem];refine ⟨by simp,?_⟩;exact Zv4 J2 (s:=x2) h
    ·refine Zs4 35 h rfl (fun _ h=>?_) fun _ h=>?_
     ·dsimp only [go_sem];refine Zl2 8 ?_;dsimp only [e157,go_sem];refine ⟨by simp,?_⟩;refine Zs4 43 h rfl (fun _ h=>?_) fun _ h=>?_
      ·dsimp only [go_sem];refine Zl2 7 ?_;dsimp only [e157,go_sem];refine ⟨by simp,?_⟩;obtain ⟨x8,ex8,h⟩:=Option.bind_eq_some_iff.1 h;refine Zz2 trivial (Zu9 x3 _ _ ((fun z=>Zgb z)) ⟨by kernel_rfl,rfl,fun z r hz=>Zhb z r hz⟩ _ ex8) (h:=?_);refine Zl2 4 ?_;dsimp only [e157,go_sem];refine ⟨by simp,?_⟩;exact Zv4 J3 (s:=!x8) h
      ·dsimp only [go_sem];refine Zl2 12 ?_;dsimp only [e157,go_sem];refine ⟨by simp,?_⟩;exact Zv4 J3 (s:=false) h
     ·dsimp only [go_sem];refine Zl2 20 ?_;dsimp only [e157,go_sem];refine ⟨by simp,?_⟩;exact Zv4 J3 (s:=false) h
 ·refine Zs4 13 h rfl (fun _ h=>?_) fun _ h=>?_
  ·dsimp only [go_sem];refine Zl2 10 ?_;dsimp only [e157,go_sem];refine ⟨by simp,?_⟩;exact Zv4 J1 (s:=decide (x2=0)) h
  ·dsimp only [go_sem];refine Zl2 10 ?_;dsimp only [e157,go_sem];refine ⟨by simp,?_⟩;exact Zv4 J1 (s:=false) h
noncomputable def Z5d (x3:Drinker):(Int×Int×(List Side)×Int×(List Mail))→Option ((Int×Int×(List Side)×Int×(List Mail)) ⊕ (Drinker×(List Mail)×Int))
| (x12,x13,x14,x15,x16)=>
 (Zeb ((Drinker.mk ((Diner.mk x12 x13 x14)) x15 x3.Need))).bind fun x17=>
 (Z3d x12 x13 x14 x15 x3.Need x16).bind fun x18=>
 (Z5c x17 ((Drinker.mk ((Diner.mk x18.1 x18.2.1 x18.2.2.2.1)) x18.2.2.1 x3.Need))).bind fun x19=>
 ifb x19 (
 Option.map Sum.inr (some ((Drinker.mk ((Diner.mk x18.1 x18.2.1 x18.2.2.2.1)) x18.2.2.1 x3.Need),x18.2.2.2.2,0))) (
 some (.inl (x18.1,x18.2.1,x18.2.2.2.1,x18.2.2.1,x18.2.2.2.2)))
noncomputable def Z6d (x1:Drinker):Option (Drinker×(List Mail)×Int):=
 (Z9b x1).bind fun x2=>
 ifb (!decide (x2=0)) (
 some ((Drinker.mk ((Diner.mk 0 0 (([]:(List Side))))) 0 (([]:(List Int)))),([]:(List Mail)),x2)) (
 (Zeb x1).bind fun x3=>
 loop (Z5d x3) (x3.Diner.ID,x3.Diner.Phase,x3.Diner.Sides,x3.Thirst,([]:List Mail)))
theorem k_drink_Fire (x1:Drinker) (r:(Drinker×(List Mail)×Int)) (h:Z6d x1=some r):Zq2 Tryz.prog 135 [.agg (Drinker.row x1)] (.tup [.agg (Drinker.row r.1),.sl 5 (List.map Mail.row r.2.1),.iv r.2.2]):=by
 refine Zu2 ok135 rfl rfl fun w0 H0=>?_
 rw [Z6d] at h
 refine Zl2 11 ?_;dsimp only [e135,Z7c,go_sem];refine ⟨by simp,?_⟩;obtain ⟨x2,ex2,h⟩:=Option.bind_eq_some_iff.1 h;refine Zz2 trivial (Zab x1 _ ex2) (h:=?_);refine Zl2 7 ?_;dsimp only [e135,Z7c,go_sem];refine ⟨by simp,?_⟩;refine Zk4 h rfl (fun _ h=>?_) fun _ h=>?_
 ·refine Zl2 8 ?_;dsimp only [e135,Z7c,go_sem];refine ⟨by simp,?_⟩;exact Zt4 (res:=fun (r:(Drinker×(List Mail)×Int))=>.tup [.agg (Drinker.row r.1),.sl 5 (List.map Mail.row r.2.1),.iv r.2.2]) ok135 h
 ·refine Zl2 4 ?_;dsimp only [e135,Z7c,go_sem];refine ⟨by simp,?_⟩;obtain ⟨x3,ex3,h⟩:=Option.bind_eq_some_iff.1 h;refine Zz2 trivial (Zfb x1 _ ex3) (h:=?_);refine Zl2 5 ?_;dsimp only [e135,Z7c,go_sem];refine ⟨by simp,?_⟩;refine Z64 2 5 95 5 rfl rfl rfl ?_;dsimp only [go_sem]
  refine Zj4 h (fun ((x12,x13,x14,x15,x16):(Int×Int×(List Side)×Int×(List Mail)))=>(⟨(.any :: .any :: .ptr 1 0::an 3 (.ptr 2 0::an 32 [])),[none,some ⟨63,[.iv 0,.iv 0,.nl,.iv 0,.nl]⟩,some ⟨188,[.iv x12,.iv x13,.sl 8 (List.map Side.row x14),.iv x15,.sl 1 (List.map Z05 x3.Need),.osl 0]⟩],[some ⟨95,5,List.map Mail.row x16⟩]⟩:St)) (by simp [go_sem]) (by rintro ⟨x12,x13,x14,x15,x16⟩;first | rfl | simp [go_sem]) ?_;rintro n1 ⟨x12,x13,x14,x15,x16⟩ y1 h hin1 hout1;rw [Z5d] at h;(try dsimp only);refine Zl2 7 ?_
  dsimp only [e135,Z7c,go_sem];refine ⟨by simp,?_⟩;obtain ⟨x17,ex17,h⟩:=Option.bind_eq_some_iff.1 h;refine Zz2 trivial (Zfb ((Drinker.mk ((Diner.mk x12 x13 x14)) x15 x3.Need)) _ ex17) (h:=?_);refine Zl2 6 ?_;dsimp only [e135,Z7c,go_sem];refine ⟨by simp,?_⟩;obtain ⟨x18,ex18,h⟩:=Option.bind_eq_some_iff.1 h;refine Zw5 [false,false,true,false] [true] trivial (Z4d x12 x13 x14 x15 x3.Need x16 _ ex18) (h:=?_);dsimp only [go_sem];refine Zl2 2 ?_;dsimp only [e135,Z7c,go_sem];refine ⟨by simp,?_⟩
  refine Zh3 (by kernel_rfl) fun all hall hs hnap haf=>?_;dsimp only [go_sem];refine Zf5 hall hs haf hnap 4 2 ?_;dsimp only [go_sem];refine ⟨by simp,?_⟩;refine Zu3 4 rfl ?_;refine Zz3 hall rfl trivial ?_;dsimp only [go_sem];refine Zu3 5 rfl ?_;obtain ⟨x19,ex19,h⟩:=Option.bind_eq_some_iff.1 h;refine GO_callL hall rfl trivial ((Zw4.refl _).slice 1 rfl) (Z6c x17 ((Drinker.mk ((Diner.mk x18.1 x18.2.1 x18.2.2.2.1)) x18.2.2.1 x3.Need)) _ ex19) (h:=?_);dsimp only [go_sem];refine Zt3 rfl ?_ _;refine Zk4 h rfl (fun _ h=>?_) fun _ h=>?_
  ·refine Zl2 1 ?_;dsimp only [e135,Z7c,go_sem];refine ⟨by simp,?_⟩;refine Zh3 (by kernel_rfl) fun all hall hs hnap haf=>?_;dsimp only [go_sem]
   refine Zg5 hall hs haf hnap 6 5 [true,true,true,false,true,true,true,false,false,false,false] (⟨(.any :: .any :: .ptr 1 0::an 3 (.ptr 2 0 :: .ptr 3 0::an 10 [.ptr 2 0,.ptr 2 0,.ptr 2 0,.agg [.iv x12,.iv x13,.sl 8 (List.map Side.row x14),.iv x15,.sl 1 (List.map Z05 x3.Need)],.agg [.iv x17.Diner.ID,.iv x17.Diner.Phase,.sl 8 (List.map Side.row x17.Diner.Sides),.iv x17.Thirst,.sl 1 (List.map Z05 x17.Need)],.ptr 2 0,.tup [],.agg [.iv x17.Diner.ID,.iv x17.Diner.Phase,.sl 8 (List.map Side.row x17.Diner.Sides),.iv x17.Thirst,.sl 1 (List.map Z05 x17.Need)],.ptr 2 0,.ptr 2 0,.ptr 2 0,.agg [.iv x18.1,.iv x18.2.1,.osl 1,.iv x18.2.2.1,.sl 1 (List.map Z05 x3.Need)],.bv x19,.ptr 2 0,.ptr 2 0,.ptr 2 0,.any,.ptr 2 0,.ptr 2 0,.ptr 2 5,.any])),[none,some ⟨63,[.iv 0,.iv 0,.nl,.iv 0,.nl]⟩,some ⟨188,[.iv x18.1,.iv x18.2.1,.osl 1,.iv x18.2.2.1,.sl 1 (List.map Z05 x3.Need),.osl 5]⟩,some ⟨63,[.iv x17.Diner.ID,.iv x17.Diner.Phase,.sl 8 (List.map Side.row x17.Diner.Sides),.iv x17.Thirst,.sl 1 (List.map Z05 x17.Need)]⟩],[none,some ⟨66,8,List.map Side.row x18.2.2.2.1⟩,none,none,none,some ⟨95,5,List.map Mail.row x18.2.2.2.2⟩]⟩:St) (by kernel_rfl) ?_
   refine Zv3 3 7 rfl ?_ ?_
   ·refine Zz3 hall rfl trivial ?_;dsimp only [go_sem];refine Zv3 7 8 rfl ?_ ?_
    ·refine Zz3 hall rfl trivial ?_;dsimp only [go_sem];refine Zu3 8 rfl ?_;refine Zz3 hall rfl trivial ?_;dsimp only [go_sem];refine Zf5 hall hs haf hnap 2 0 ?_;dsimp only [go_sem];refine ⟨by simp,?_⟩;refine Zt3 rfl ?_ _;refine Z83 1 rfl ?_;dsimp only [go_sem];refine Z83 5 rfl ?_;dsimp only [go_sem];exact Zt4 (res:=fun (r:(Drinker×(List Mail)×Int))=>.tup [.agg (Drinker.row r.1),.sl 5 (List.map Mail.row r.2.1),.iv r.2.2]) ok135 (Zh4 h hout1)
    ·refine Zz3 hall rfl trivial ?_;dsimp only [go_sem];refine Zu3 7 rfl ?_;refine Zz3 hall rfl trivial ?_;dsimp only [go_sem];refine Zf5 hall hs haf hnap 2 0 ?_;dsimp only [go_sem];refine ⟨by simp,?_⟩;refine Zt3 rfl ?_ _;refine Z83 1 rfl ?_;dsimp only [go_sem];refine Z83 5 rfl ?_;dsimp only [go_sem];exact Zt4 (res:=fun (r:(Drinker×(List Mail)×Int))=>.tup [.agg (Drinker.row r.1),.sl 5 (List.map Mail.row r.2.1),.iv r.2.2]) ok135 (Zh4 h hout1)
   ·refine Zz3 hall rfl trivial ?_;dsimp only [go_sem];refine Zu3 3 rfl ?_;refine Zz3 hall rfl trivial ?_;dsimp only [go_sem];refine Zu3 8 rfl ?_;refine Zz3 hall rfl trivial ?_;dsimp only [go_sem];refine Zf5 hall hs haf hnap 2 0 ?_;dsimp only [go_sem];refine ⟨by simp,?_⟩;refine Zt3 rfl ?_ _;refine Z83 1 rfl ?_;dsimp only [go_sem];refine Z83 5 rfl ?_;dsimp only [go_sem];exact Zt4 (res:=fun (r:(Drinker×(List Mail)×Int))=>.tup [.agg (Drinker.row r.1),.sl 5 (List.map Mail.row r.2.1),.iv r.2.2]) ok135 (Zh4 h hout1)
  ·refine Zl2 2 ?_;dsimp only [e135,Z7c,go_sem];refine ⟨by simp,?_⟩;refine Z83 1 rfl ?_;dsimp only [go_sem];refine Z54 5 0 rfl rfl rfl ?_;dsimp only [go_sem];exact Zu4 h hin1
theorem s_send (k id ph:Int) (a b:List Side) (x:Side) (E:List Mail) (hE:E.length≤1000000):Z8c k id ph (a.length:Int) (a++x::b) E=some (E++[⟨id,x.Peer,⟨k,x.Epoch,0⟩⟩]):=by
 simp only [Z8c]
 rw [Zw8 rfl,Option.bind_some,Zh6 _ _ (by omega) (by simp;omega),Option.bind_some]
theorem fire_step (d:Diner) (l:List Side) (hl:l.length<64) (pre post:List Side) (x:Side) (h:l=pre++x::post) (all:Bool) (A:List Side) (hA:A.length=pre.length) (E:List Mail) (hE:E.length≤1000):
  Zjc d l (all,(pre.length:Int),A++x::post,E)=some (.inl (all&&(Zra d.Phase x).Fork,((pre.length+1:Nat):Int),A++Zra d.Phase x::post,E++Zsa d.ID d.Phase x)):=by
 have hx:=Zt8 h
 have hm:=Zu8 h
 have at1:∀y:Side,at_ (A++y::post) (pre.length:Int)=some y:=fun y=>by rw [←hA];exact Zw8 rfl
 have st1:∀y z:Side,(A++y::post).set ((pre.length:Int)).toNat z=A++z::post:=fun y z=>by rw [←hA];exact Zx8 _ _ _ _
 have sd:∀(k:Int) (y:Side) (E:List Mail),E.length≤1000000→Z8c k d.ID d.Phase (pre.length:Int) (A++y::post) E=some (E++[⟨d.ID,y.Peer,⟨k,y.Epoch,0⟩⟩]):=fun k y E hE=>by rw [←hA];exact s_send k d.ID d.Phase A post y E hE
 have fin:∀(y:Side) (E':List Mail),Zfc all (pre.length:Int) (A++y::post,E')=some (.inl (all&&y.Fork,((pre.length+1:Nat):Int),A++y::post,E')):=fun y E'=>by
  dsimp only [Zfc,Zec]
  rw [at1,Zk6 (by omega)]
  cases all<;>rfl
 have j3:∀(y:Side) (E':List Mail),E'.length≤100000→Zhc d all (pre.length:Int) (A++y::post,E') =
   if decide (d.Phase=1)&&(y.Token&&!y.Fork) then some (.inl (all&&y.Fork,((pre.length+1:Nat):Int),A++{y with Token:=false}::post,E'++[⟨d.ID,y.Peer,⟨2,y.Epoch,0⟩⟩])) else some (.inl (all&&y.Fork,((pre.length+1:Nat):Int),A++y::post,E')):=fun y E' hE'=>by
  dsimp only [Zhc]
  by_cases h1:d.Phase=1
  ·rw [decide_eq_true h1,Zc6,at1,Option.bind_some]
   cases ht:y.Token with
   | false=>dsimp only [Zgc];rw [Zd6,Zd6,fin];simp
   | true=>
     cases hf:y.Fork with
     | true=>dsimp only [Zgc];rw [Zc6,Bool.not_true,Zd6,fin];simp [hf]
     | false=>
       dsimp only [Zgc]
       rw [Zc6,Bool.not_false,Zc6,at1,Option.bind_some,st1,sd _ _ _ (by omega),Option.bind_some,fin]
       simp [hf]
  ·rw [decide_eq_false h1,Zd6];dsimp only [Zgc];rw [Zd6,fin];simp
 dsimp only [Zjc]
 rw [Zi6 hx,Zc6,at1,Option.bind_some]
 have j2:∀z:Bool,Zic d all (pre.length:Int) (A++x::post) E x z=if z then Zhc d all (pre.length:Int) (A++{x with Fork:=false,Dirty:=false}::post,E++[⟨d.ID,x.Peer,⟨1,x.Epoch,0⟩⟩]) else Zhc d all (pre.length:Int) (A++x::post,E):=fun z=>by
  cases z with
  | false=>dsimp only [Zic];rw [Zd6];rfl
  | true=>
    dsimp only [Zic]
    rw [Zc6,st1,sd _ _ _ (by omega),Option.bind_some];rfl
 have e:ifb x.Fork (ifb x.Dirty (ifb x.Token (Zic d all (pre.length:Int) (A++x::post) E x (!decide (d.Phase=2))) (Zic d all (pre.length:Int) (A++x::post) E x false)) (Zic d all (pre.length:Int) (A++x::post) E x false)) (Zic d all (pre.length:Int) (A++x::post) E x false)
   =Zic d all (pre.length:Int) (A++x::post) E x (x.Fork&&(x.Dirty&&(x.Token&&!decide (d.Phase=2)))):=by
  cases x.Fork<;>cases x.Dirty<;>cases x.Token<;>rfl
 rw [e,j2]
 cases hz:(x.Fork&&(x.Dirty&&(x.Token&&!decide (d.Phase=2)))) with
 | false=>
   rw [if_neg (by simp),j3 _ _ (by omega)]
   have f1:Zqa d.Phase x=x:=by simp only [Zqa,hz];rfl
   unfold Zra Zsa
   rw [f1,hz]
   cases hq:(decide (d.Phase=1)&&(x.Token&&!x.Fork))<;>simp
 | true=>
   rw [if_pos rfl,j3 _ _ (by simp;omega)]
   have f1:Zqa d.Phase x={x with Fork:=false,Dirty:=false}:=by simp only [Zqa,hz];rfl
   unfold Zra Zsa
   rw [f1,hz]
   cases hq:(decide (d.Phase=1)&&(x.Token&&!false))<;>simp_all
theorem s_Fire (d:Diner):Zkc d=some (if okD d then ((Zua d).ID,(Zua d).Phase,0,(Zua d).Sides,Zva d) else (0,0,130,[],[])):=by
 simp only [Zkc,Zma,Option.bind_some]
 cases h:okD d with
 | false=>rfl
 | true=>
   have hl:=Zoa h
   simp only [if_true,decide_true,Bool.not_true,Zd6,Zna d.Sides (by omega),Option.bind_some]
   have key:=Zr8 d.Sides (Zjc d d.Sides) (fun pre=>((pre.map (Zra d.Phase)).all (·.Fork),(pre.length:Int),pre.map (Zra d.Phase)++d.Sides.drop pre.length,pre.flatMap (Zsa d.ID d.Phase))) (fun _ _=>some ((Zua d).ID,(Zua d).Phase,0,(Zua d).Sides,Zva d)) (fun pre x post hp=>?_) ?_
   ·simpa using key
   ·left
    have hd:d.Sides.drop pre.length=x::post:=by rw [hp];simp
    have hd':d.Sides.drop (pre++[x]).length=post:=by rw [hp];simp
    have hm:=Zu8 hp
    have hE:=Zwa pre d.ID d.Phase
    refine ⟨?_,rfl⟩
    rw [hd,hd',fire_step d d.Sides hl pre post x hp _ _ (by simp) _ (by omega),Zy8]
    simp
   ·have hE:=Zwa d.Sides d.ID d.Phase
    dsimp only [Zjc]
    rw [Zj6,Zd6]
    simp only [List.drop_length,List.append_nil]
    dsimp only [Zdc]
    by_cases h1:d.Phase=1
    ·rw [decide_eq_true h1,Zc6]
     dsimp only [Zcc]
     cases hall:(d.Sides.map (Zra d.Phase)).all (·.Fork) with
     | false=>
       rw [Zd6]
       unfold Zua
       rw [hall,Bool.and_false]
       rfl
     | true=>
       rw [Zc6]
       generalize hS:d.Sides.map (Zra d.Phase)=S at hall
       have hSl:S.length<64:=by rw [←hS];simpa using hl
       have k2:=Zs8 S (Zbc d S (d.Sides.flatMap (Zsa d.ID d.Phase))) (fun pre=>((pre.length:Int),pre.map Zta++S.drop pre.length)) (d.ID,2,0,S.map Zta,d.Sides.flatMap (Zsa d.ID d.Phase)) (fun pre x post hp=>?_) ?_
       ·have k3:loop (Zbc d S (d.Sides.flatMap (Zsa d.ID d.Phase))) (0,S)=some (d.ID,2,0,S.map Zta,d.Sides.flatMap (Zsa d.ID d.Phase)):=by simpa using k2
        rw [k3]
        unfold Zua
        rw [hS,hall,decide_eq_true h1]
        rfl
       ·have hx:=Zt8 hp
        have hm:=Zu8 hp
        have hd:S.drop pre.length=x::post:=by rw [hp];simp
        have hd':S.drop (pre++[x]).length=post:=by rw [hp];simp
        dsimp only [Zbc]
        have e1:((pre.length:Nat):Int)=(((pre.map Zta).length:Nat):Int):=by simp
        rw [Zi6 hx,Zc6,hd,hd',e1,Zw8 rfl,Option.bind_some,Zx8,←e1,Zy8,Zk6 (by omega)]
        simp [Zta]
       ·dsimp only [Zbc]
        rw [Zj6,Zd6]
        simp [Zac]
    ·rw [decide_eq_false h1,Zd6]
     dsimp only [Zcc]
     rw [Zd6]
     unfold Zua
     rw [decide_eq_false h1,Bool.false_and]
     rfl
theorem Z7d (l:List Diner) (i:Nat):∀(xs:List Side) (p:Option Int),Zi9 l i p xs=true↔(∀x∈xs,Zh9 l i x=true)∧xs.Pairwise (fun x y=>x.Peer<y.Peer)∧∀q,p=some q→∀x∈xs,q<x.Peer
 | [],p=>by simp [Zi9]
 | x::r,p=>by
   simp only [Zi9,Bool.and_eq_true,Z7d l i r (some x.Peer)]
   constructor
   ·rintro ⟨h1,h2,h3,h4,h5⟩
    refine ⟨fun y hy=>?_,List.pairwise_cons.2 ⟨fun y hy=>h5 _ rfl y hy,h4⟩,?_⟩
    ·rcases List.mem_cons.1 hy with rfl | hy
     ·exact h2
     ·exact h3 y hy
    ·rintro q rfl y hy
     have hq:q<x.Peer:=by simpa [riseB] using h1
     rcases List.mem_cons.1 hy with rfl | hy
     ·exact hq
     ·have:=h5 _ rfl y hy;omega
   ·rintro ⟨h1,h2,h3⟩
    rw [List.pairwise_cons] at h2
    refine ⟨?_,h1 x (by simp),fun y hy=>h1 y (by simp [hy]),h2.2,?_⟩
    ·cases p with
     | none=>rfl
     | some q=>simpa [riseB] using h3 q rfl x (by simp)
    ·rintro q e y hy
     simp at e;subst e;exact h2.1 y hy
theorem Z8d (l:List Diner):∀(r:List Diner) (i:Nat),Zk9 l i r=true↔∀k d,r[k]?=some d→d.ID=((i+k:Nat):Int)∧Zi9 l (i+k) none d.Sides=true
 | [],i=>by simp [Zk9]
 | d::r,i=>by
   simp only [Zk9,Bool.and_eq_true,decide_eq_true_eq,Z8d l r (i+1)]
   constructor
   ·rintro ⟨h1,h2,h3⟩ k e he
    cases k with
    | zero=>simp at he;subst he;exact ⟨by simpa using h1,by simpa using h2⟩
    | succ k=>
      have:=h3 k e (by simpa using he)
      rw [show i+(k+1)=i+1+k by omega];exact this
   ·intro h
    refine ⟨by simpa using (h 0 d (by simp)).1,by simpa using (h 0 d (by simp)).2,fun k e he=>?_⟩
    have:=h (k+1) e (by simpa using he)
    rw [show i+1+k=i+(k+1) by omega];exact this
theorem Z9d {i:Nat} {xs:List Side} {e:Edge}:e∈Zj9 i xs↔e.A=i∧(i:Int)<e.B∧∃x∈xs,x.Peer=e.B:=by
 unfold Zj9
 simp only [List.mem_map,List.mem_filter,decide_eq_true_eq]
 constructor
 ·rintro ⟨x,⟨h1,h2⟩,rfl⟩;exact ⟨rfl,h2,x,h1,rfl⟩
 ·rintro ⟨h1,h2,x,h3,h4⟩
  obtain ⟨a,b⟩:=e
  dsimp only at *
  subst h1;subst h4;exact ⟨x,⟨h3,h2⟩,rfl⟩
theorem Zad:∀ {r:List Diner} {i:Nat} {e:Edge},e∈Zl9 i r↔∃k d,r[k]?=some d∧e∈Zj9 (i+k) d.Sides
 | [],i,e=>by simp [Zl9]
 | d::r,i,e=>by
   simp only [Zl9,List.mem_append,Zad (r:=r)]
   constructor
   ·rintro (h | ⟨k,f,h1,h2⟩)
    ·exact ⟨0,d,by simp,by simpa using h⟩
    ·exact ⟨k+1,f,by simpa using h1,by rw [show i+(k+1)=i+1+k by omega];exact h2⟩
   ·rintro ⟨k,f,h1,h2⟩
    cases k with
    | zero=>simp at h1;subst h1;exact .inl (by simpa using h2)
    | succ k=>exact .inr ⟨k,f,by simpa using h1,by rw [show i+1+k=i+(k+1) by omega];exact h2⟩
theorem edgesD_pw {i:Nat} {xs:List Side} (h:xs.Pairwise fun x y=>x.Peer<y.Peer):(Zj9 i xs).Pairwise fun x y=>x.lt y=true:=by
 unfold Zj9
 rw [List.pairwise_map]
 refine (List.Pairwise.filter _ h).imp fun hxy=>?_
 simp [Edge.lt,hxy]
theorem edgesL_pw:∀ {r:List Diner} {i:Nat},(∀d∈r,d.Sides.Pairwise fun x y=>x.Peer<y.Peer)→(Zl9 i r).Pairwise fun x y=>x.lt y=true
 | [],_,_=>List.Pairwise.nil
 | d::r,i,h=>by
   simp only [Zl9]
   rw [List.pairwise_append]
   refine ⟨edgesD_pw (h d (by simp)),edgesL_pw fun e he=>h e (by simp [he]),fun x hx y hy=>?_⟩
   obtain ⟨h1,_,_⟩:=Z9d.1 hx
   obtain ⟨k,e,_,hy⟩:=Zad.1 hy
   obtain ⟨h2,_,_⟩:=Z9d.1 hy
   have:x.A<y.A:=by rw [h1,h2];omega
   simp [Edge.lt,this]
set_option maxRecDepth 100000
set_option maxHeartbeats 4000000
def e169:EC:=.seq (.reg [(Qa 2 (.mv (.c .ff)))]) (.seq (.reg [(Qa 3 (.mv (.t 0))),(Qa 4 (.bin .lss (.t 3) (.c (.iv 1)))),(Qa 2 (.mv (.t 4)))]) (.ret))
theorem ok169:FnOK Tryz.prog 169 Tryz.f169 e169 [.t 2] 1 4:=⟨by kernel_rfl,⟨_,rfl,by kernel_rfl⟩,by kernel_rfl,by kernel_rfl⟩
noncomputable def Zbd (x1:Int):Option Bool:=
 some (decide (x1<1))
theorem Zcd (x1:Int) (r:Bool) (h:Zbd x1=some r):Zq2 Tryz.prog 169 [.iv x1] (.bv r):=by
 refine Zu2 ok169 rfl rfl fun w0 H0=>?_
 rw [Zbd] at h
 refine Zl2 10 ?_;dsimp only [e169,go_sem];refine ⟨by simp,?_⟩;exact Zt4 (res:=fun (r:Bool)=>.bv r) ok169 h
set_option maxRecDepth 100000
set_option maxHeartbeats 4000000
def e170:EC:=.seq (.reg [(Qa 2 (.box 30 2 (.t 0))),(Qa 3 (.mv (.c .ff)))]) (.seq (.drw [(Qa 4 (.load (.t 1))),(Qa 5 (.fld 0 (.t 2))),(Qa 6 (.load (.t 5))),(Qa 7 (.idx 1 (.t 4) (.t 6))),(Qa 8 (.load (.t 7))),(Qa 9 (.load (.t 1))),(Qa 10 (.fld 1 (.t 2))),(Qa 11 (.load (.t 10))),(Qa 12 (.idx 1 (.t 9) (.t 11))),(Qa 13 (.load (.t 12))),(Qa 14 (.bin .eql (.t 8) (.t 13))),(Qa 3 (.mv (.t 14)))] [[],[],[1],[0,2],[3],[],[],[6],[5,7],[8],[4,9],[10,0,1,2,3,4,5,6,7,8,9,10]] [[3],[2],[1,3],[0,2,4],[3,10],[8],[7],[6,8],[5,7,9],[8,10],[4,9,11],[10]]) (.ret))
theorem ok170:FnOK Tryz.prog 170 Tryz.f170 e170 [.t 3] 2 13:=⟨by kernel_rfl,⟨_,rfl,by kernel_rfl⟩,by kernel_rfl,by kernel_rfl⟩
noncomputable def Zdd (x1:Edge) (x2:(List Int)):Option Bool:=
 (at_ x2 x1.A).bind fun x3=>
 (at_ x2 x1.B).bind fun x4=>
 some (decide (x3=x4))
theorem Zed (x1:Edge) (x2:(List Int)) (r:Bool) (h:Zdd x1 x2=some r):Zq2 Tryz.prog 170 [.agg (Edge.row x1),.elt ((Z15 1 Z05) x2) 0] (.bv r):=by
 refine Zu2 ok170 rfl rfl fun w0 H0=>?_
 rw [Zdd] at h
 refine Zl2 6 ?_;dsimp only [e170,go_sem];refine ⟨by simp,?_⟩;refine Zh3 (by kernel_rfl) fun all hall hs hnap haf=>?_;dsimp only [go_sem];refine Zg5 hall hs haf hnap 6 6 [true,true,true,false,false,true,true,true,false,false,false,false] (⟨[.agg [.iv x1.A,.iv x1.B],.elt [.sl 1 (List.map Z05 x2)] 0,.ptr 0 0,.ff,.sl 1 (List.map Z05 x2),.ptr 0 0,.iv x1.A,.un,.un,.sl 1 (List.map Z05 x2),.ptr 0 1,.iv x1.B,.un,.un,.un],[some ⟨30,[.iv x1.A,.iv x1.B]⟩],[]⟩:St) (by kernel_rfl) ?_;obtain ⟨x3,ex3,h⟩:=Option.bind_eq_some_iff.1 h
 refine Zo4 hall hs haf hnap 3 Z05 ex3 rfl rfl trivial rfl rfl rfl rfl ?_;refine Zf5 hall hs haf hnap 1 4 ?_;dsimp only [go_sem];refine ⟨by simp,?_⟩;obtain ⟨x4,ex4,h⟩:=Option.bind_eq_some_iff.1 h;refine Zo4 hall hs haf hnap 8 Z05 ex4 rfl rfl trivial rfl rfl rfl rfl ?_;refine Zf5 hall hs haf hnap 3 0 ?_;dsimp only [go_sem];refine ⟨by simp,?_⟩;refine Zt3 rfl ?_ _;exact Zt4 (res:=fun (r:Bool)=>.bv r) ok170 h
set_option maxRecDepth 100000
set_option maxHeartbeats 4000000
def e151:EC:=.seq (.reg [(Qa 2 (.box 53 2 (.t 0))),(Qa 3 (.box 26 1 (.t 1))),(Qa 4 (.mv (.c .ff)))]) (.seq (.seq (.reg [(Qa 5 (.loadA 2 (.t 2))),(Qa 6 (.call 144 [(.t 5)])),(Qa 7 (.bin .neq (.t 6) (.c (.iv 0)))),(Qa 8 (.mv (.t 7))),(Qg 9 8 false (.load (.t 3))),(Qg 10 8 false (.len (.t 9))),(Qg 11 8 false (.fld 0 (.t 2))),(Qg 12 8 false (.load (.t 11))),(Qg 13 8 false (.bin .neq (.t 10) (.t 12))),(Qa 14 (.pick (.t 8) (.c .tt) (.t 13))),(Qa 15 (.mv (.t 14))),(Qg 16 15 false (.load (.t 3))),(Qg 17 15 false (.call 103 [(.t 16),(.c (.clo 169 []))])),(Qa 18 (.pick (.t 15) (.c .tt) (.t 17)))]) (.ite (.t 18) (.seq (.reg [(Qa 4 (.mv (.c .ff)))]) (.ret)) (.skip))) (.seq (.reg [(Qa 19 (.fld 1 (.t 2))),(Qa 20 (.load (.t 19))),(Qa 21 (.mkf 170 [(.t 3)])),(Qa 22 (.call 161 [(.t 20),(.t 21)])),(Qa 23 (.not (.t 22))),(Qa 4 (.mv (.t 23)))]) (.ret)))
theorem ok151:FnOK Tryz.prog 151 Tryz.f151 e151 [.t 4] 2 22:=⟨by kernel_rfl,⟨_,rfl,by kernel_rfl⟩,by kernel_rfl,by kernel_rfl⟩
noncomputable def Zfd (x1:Graph) (x2:(List Int)):Bool→Option Bool
| x5=>
 ifb x5 (
 some false) (
 (Zx6 x1.Edges ((fun z=>Zdd z x2))).bind fun x6=>
 some (!x6))
noncomputable def Zgd (x1:Graph) (x2:(List Int)):Option Bool:=
 (Zm7 x1).bind fun x3=>
 ifb (!decide (x3=0)) (
 (Zfd x1 x2) true) (
 ifb (!decide ((ln Z05 x2)=x1.N)) (
 (Zfd x1 x2) true) (
 (Zt7 x2 ((fun z=>Zbd z))).bind fun x4=>
 (Zfd x1 x2) x4))
theorem Zhd (x1:Graph) (x2:(List Int)) (r:Bool) (h:Zgd x1 x2=some r):Zq2 Tryz.prog 151 [.agg (Graph.row x1),.sl 1 (List.map Z05 x2)] (.bv r):=by
 refine Zu2 ok151 rfl rfl fun w0 H0=>?_
 rw [Zgd] at h
 refine Zl2 10 ?_;dsimp only [e151,go_sem];refine ⟨by simp,?_⟩;obtain ⟨x3,ex3,h⟩:=Option.bind_eq_some_iff.1 h;refine Zz2 trivial (Zn7 x1 _ ex3) (h:=?_);refine Zl2 2 ?_;dsimp only [e151,go_sem];refine ⟨by simp,?_⟩;refine Zi4 (fun (x5:Bool)=>(⟨(.any :: .any :: .ptr 0 0 :: .ptr 1 0::an 14 (.bv x5::an 5 [])),[some ⟨53,[.iv x1.N,.sl 2 (List.map Edge.row x1.Edges)]⟩,some ⟨26,[.sl 1 (List.map Z05 x2)]⟩],[]⟩:St)) (Zfd x1 x2) r ?_ fun J1=>?_
 ·intro x5 h;rw [Zfd] at h;(try dsimp only);refine Zk4 h rfl (fun _ h=>?_) fun _ h=>?_
  ·refine Zl2 4 ?_;dsimp only [e151,go_sem];refine ⟨by simp,?_⟩;exact Zt4 (res:=fun (r:Bool)=>.bv r) ok151 h
  ·refine Zl2 6 ?_;dsimp only [e151,go_sem];refine ⟨by simp,?_⟩;obtain ⟨x6,ex6,h⟩:=Option.bind_eq_some_iff.1 h;refine Zy4 trivial ((Zw4.refl _).block 1 rfl rfl) (Zy6 x1.Edges _ _ ((fun z=>Zdd z x2)) ⟨by kernel_rfl,rfl,fun z r hz=>Zed z x2 r hz⟩ _ ex6) (h:=?_);refine Zl2 3 ?_;dsimp only [e151,go_sem];refine ⟨by simp,?_⟩;exact Zt4 (res:=fun (r:Bool)=>.bv r) ok151 h
 ·refine Zs4 8 h rfl (fun _ h=>?_) fun _ h=>?_
  ·dsimp only [go_sem];refine Zl2 11 ?_;dsimp only [e151,go_sem];refine ⟨by simp,?_⟩;exact Zv4 J1 (s:=true) h
  ·dsimp only [go_sem];refine Zl2 7 ?_;dsimp only [e151,go_sem];refine ⟨by simp,?_⟩;refine Zs4 15 h rfl (fun _ h=>?_) fun _ h=>?_
   ·dsimp only [go_sem];refine Zl2 4 ?_;dsimp only [e151,go_sem];refine ⟨by simp,?_⟩;exact Zv4 J1 (s:=true) h
   ·dsimp only [go_sem];refine Zl2 1 ?_;dsimp only [e151,go_sem];refine ⟨by simp,?_⟩;obtain ⟨x4,ex4,h⟩:=Option.bind_eq_some_iff.1 h;refine Zz2 trivial (Zu7 x2 _ _ ((fun z=>Zbd z)) ⟨by kernel_rfl,rfl,fun z r hz=>Zcd z r hz⟩ _ ex4) (h:=?_);refine Zl2 2 ?_;dsimp only [e151,go_sem];refine ⟨by simp,?_⟩;exact Zv4 J1 (s:=x4) h
set_option maxRecDepth 100000
set_option maxHeartbeats 4000000
def e79:EC:=.seq (.reg [(Qa 2 (.box 30 2 (.t 0))),(Qa 3 (.box 30 2 (.t 1))),(Qa 4 (.mv (.c .ff)))]) (.seq (.reg [(Qa 5 (.fld 0 (.t 2))),(Qa 6 (.load (.t 5))),(Qa 7 (.fld 0 (.t 3))),(Qa 8 (.load (.t 7))),(Qa 9 (.bin .lss (.t 6) (.t 8))),(Qa 10 (.mv (.t 9))),(Qg 11 10 false (.fld 0 (.t 2))),(Qg 12 10 false (.load (.t 11))),(Qg 13 10 false (.fld 0 (.t 3))),(Qg 14 10 false (.load (.t 13))),(Qg 15 10 false (.bin .eql (.t 12) (.t 14))),(Qg 16 10 false (.mv (.t 15))),(Qg 17 16 true (.fld 1 (.t 2))),(Qg 18 16 true (.load (.t 17))),(Qg 19 16 true (.fld 1 (.t 3))),(Qg 20 16 true (.load (.t 19))),(Qg 21 16 true (.bin .lss (.t 18) (.t 20))),(Qg 22 10 false (.pick (.t 16) (.t 21) (.c .ff))),(Qa 23 (.pick (.t 10) (.c .tt) (.t 22))),(Qa 4 (.mv (.t 23)))]) (.ret))
theorem ok79:FnOK Tryz.prog 79 Tryz.f79 e79 [.t 4] 2 22:=⟨by kernel_rfl,⟨_,rfl,by kernel_rfl⟩,by kernel_rfl,by kernel_rfl⟩
noncomputable def Zid:Bool→Option Bool
| x3=>
 some x3
noncomputable def Zjd (x1:Edge) (x2:Edge):Option Bool:=
 ifb (decide (x1.A<x2.A)) (
 Zid true) (
 ifb (decide (x1.A=x2.A)) (
 Zid (decide (x1.B<x2.B))) (
 Zid false))
theorem Zkd (x1:Edge) (x2:Edge) (r:Bool) (h:Zjd x1 x2=some r):Zq2 Tryz.prog 79 [.agg (Edge.row x1),.agg (Edge.row x2)] (.bv r):=by
 refine Zu2 ok79 rfl rfl fun w0 H0=>?_
 rw [Zjd] at h
 refine Zl2 14 ?_;dsimp only [e79,go_sem];refine ⟨by simp,?_⟩;refine Zi4 (fun (x3:Bool)=>(⟨(an 4 (.bv x3::an 19 [])),[],[]⟩:St)) Zid r ?_ fun J1=>?_
 ·intro x3 h;rw [Zid] at h;(try dsimp only);exact Zt4 (res:=fun (r:Bool)=>.bv r) ok79 h
 ·refine Zs4 10 h rfl (fun _ h=>?_) fun _ h=>?_
  ·dsimp only [go_sem];refine Zl2 15 ?_;dsimp only [e79,go_sem];refine ⟨by simp,?_⟩;exact Zv4 J1 (s:=true) h
  ·dsimp only [go_sem];refine Zl2 6 ?_;dsimp only [e79,go_sem];refine ⟨by simp,?_⟩;refine Zs4 16 h rfl (fun _ h=>?_) fun _ h=>?_
   ·dsimp only [go_sem];refine Zl2 9 ?_;dsimp only [e79,go_sem];refine ⟨by simp,?_⟩;exact Zv4 J1 (s:=decide (x1.B<x2.B)) h
   ·dsimp only [go_sem];refine Zl2 9 ?_;dsimp only [e79,go_sem];refine ⟨by simp,?_⟩;exact Zv4 J1 (s:=false) h
set_option maxRecDepth 100000
set_option maxHeartbeats 4000000
def Zld:EC:=.seq (.seq (.reg [(Qa 19 (.mv (.t 3))),(Qa 20 (.fld 1 (.t 1))),(Qa 21 (.load (.t 20))),(Qa 22 (.len (.t 21))),(Qa 23 (.bin .lss (.t 19) (.t 22)))]) (.ite (.t 23) (.skip) (.exit 0))) (.seq (.blk 1 (.seq (.reg [(Qa 26 (.fld 1 (.t 1))),(Qa 27 (.load (.t 26))),(Qa 28 (.mv (.t 3))),(Qa 29 (.idx 2 (.t 27) (.t 28))),(Qa 30 (.loadA 2 (.t 29))),(Qa 4 (.alloc 30 [.iv 0,.iv 0])),(Qb (.store 2 (.t 4) (.t 30)))]) (.seq (.drw [(Qa 31 (.fld 0 (.t 4))),(Qa 32 (.load (.t 31))),(Qa 33 (.bin .lss (.t 32) (.c (.iv 0)))),(Qa 34 (.mv (.t 33))),(Qg 35 34 false (.fld 0 (.t 4))),(Qg 36 34 false (.load (.t 35))),(Qg 37 34 false (.fld 1 (.t 4))),(Qg 38 34 false (.load (.t 37))),(Qg 39 34 false (.bin .geq (.t 36) (.t 38))),(Qa 40 (.pick (.t 34) (.c .tt) (.t 39))),(Qa 41 (.mv (.t 40))),(Qg 42 41 false (.fld 1 (.t 4))),(Qg 43 41 false (.load (.t 42))),(Qg 44 41 false (.fld 0 (.t 1))),(Qg 45 41 false (.load (.t 44))),(Qg 46 41 false (.bin .geq (.t 43) (.t 45))),(Qa 47 (.pick (.t 41) (.c .tt) (.t 46))),(Qa 48 (.mv (.t 47))),(Qg 49 48 false (.mv (.t 3))),(Qg 50 48 false (.bin .gtr (.t 49) (.c (.iv 0)))),(Qg 51 48 false (.mv (.t 50))),(Qg 52 51 true (.fld 1 (.t 1))),(Qg 53 51 true (.load (.t 52))),(Qg 54 51 true (.mv (.t 3))),(Qg 55 51 true (.bin .sub (.t 54) (.c (.iv 1)))),(Qg 56 51 true (.idx 2 (.t 53) (.t 55))),(Qg 57 51 true (.loadA 2 (.t 56))),(Qg 58 51 true (.loadA 2 (.t 4))),(Qg 59 51 true (.call 79 [(.t 57),(.t 58)])),(Qg 60 51 true (.not (.t 59))),(Qg 61 48 false (.pick (.t 51) (.t 60) (.c .ff))),(Qa 62 (.pick (.t 48) (.c .tt) (.t 61)))] [[],[0],[1],[2],[3],[4,3],[3],[6,3],[5,7,3],[3,8],[9,3],[10],[11,10],[10],[13,10],[12,14,10],[10,15],[16,10],[17],[18,17],[19,17,17],[20],[21,20],[20],[23,20],[22,24,20],[25,20],[20],[26,27,20,20],[28,20],[20,29,17],[17,30]] [[1],[0,2],[1,3],[2,4,5,6,7,8,9],[3,5],[3,4,8],[3,7],[3,6,8],[3,5,7,9],[3,8,10],[9,11,12,13,14,15,16],[10,12],[10,11,15],[10,14],[10,13,15],[10,12,14,16],[10,15,17],[16,18,19,20,30,31],[17,19],[17,18,20],[17,19,21,22,23,24,25,26,27,28,29,30],[20,22],[20,21,25],[20,24],[20,23,25],[20,22,24,26],[20,25,28],[20,28],[20,26,27,29],[20,28,30],[17,20,29,31],[17,30]]) (.ite (.t 62) (.seq (.reg [(Qa 2 (.mv (.c .ff)))]) (.ret)) (.skip))))) (.reg [(Qa 24 (.mv (.t 3))),(Qa 25 (.bin .add (.t 24) (.c (.iv 1)))),(Qa 3 (.mv (.t 25)))]))
def e42:EC:=.seq (.reg [(Qa 1 (.box 53 2 (.t 0))),(Qa 2 (.mv (.c .ff)))]) (.seq (.seq (.reg [(Qa 5 (.fld 0 (.t 1))),(Qa 6 (.load (.t 5))),(Qa 7 (.bin .lss (.t 6) (.c (.iv 0)))),(Qa 8 (.mv (.t 7))),(Qg 9 8 false (.fld 0 (.t 1))),(Qg 10 8 false (.load (.t 9))),(Qg 11 8 false (.bin .gtr (.t 10) (.c (.iv 64)))),(Qa 12 (.pick (.t 8) (.c .tt) (.t 11))),(Qa 13 (.mv (.t 12))),(Qg 14 13 false (.fld 1 (.t 1))),(Qg 15 13 false (.load (.t 14))),(Qg 16 13 false (.len (.t 15))),(Qg 17 13 false (.bin .gtr (.t 16) (.c (.iv 400)))),(Qa 18 (.pick (.t 13) (.c .tt) (.t 17)))]) (.ite (.t 18) (.seq (.reg [(Qa 2 (.mv (.c .ff)))]) (.ret)) (.skip))) (.seq (.seq (.reg [(Qa 3 (.mv (.c (.iv 0))))]) (.blk 0 (.loop Zld))) (.seq (.reg [(Qa 2 (.mv (.c .tt)))]) (.ret))))
theorem ok42:FnOK Tryz.prog 42 Tryz.f42 e42 [.t 2] 1 62:=⟨by kernel_rfl,⟨_,rfl,by kernel_rfl⟩,by kernel_rfl,by kernel_rfl⟩
noncomputable def Zmd:Unit→Option Bool
| ()=>
 some true
noncomputable def Znd (x8:Int):Bool→Option (Int ⊕ Bool)
| x12=>
 ifb x12 (
 Option.map Sum.inr (some false)) (
 some (.inl (wr (x8+1))))
noncomputable def Zod (x1:Graph):Int→Option (Int ⊕ Bool)
| x8=>
 ifb (decide (x8<(ln Edge.row x1.Edges))) (
 (at_ x1.Edges x8).bind fun x9=>
 ifb (decide (x9.A<0)) (
 (Znd x8) true) (
 ifb (decide (x9.B≤x9.A)) (
 (Znd x8) true) (
 ifb (decide (x1.N≤x9.B)) (
 (Znd x8) true) (
 ifb (decide (0<x8)) (
 (at_ x1.Edges (wr (x8-1))).bind fun x10=>
 (Zjd x10 x9).bind fun x11=>
 (Znd x8) (!x11)) (
 (Znd x8) false))))) (
 Option.map Sum.inr (Zmd ()))
noncomputable def Zpd (x1:Graph):Bool→Option Bool
| x2=>
 ifb x2 (
 some false) (
 loop (Zod x1) 0)
noncomputable def Zqd (x1:Graph):Option Bool:=
 ifb (decide (x1.N<0)) (
 (Zpd x1) true) (
 ifb (decide (64<x1.N)) (
 (Zpd x1) true) (
 (Zpd x1) (decide (400<(ln Edge.row x1.Edges)))))
theorem Zrd (x1:Graph) (r:Bool) (h:Zqd x1=some r):Zq2 Tryz.prog 42 [.agg (Graph.row x1)] (.bv r):=by
 refine Zu2 ok42 rfl rfl fun w0 H0=>?_
 rw [Zqd] at h
 refine Zl2 12 ?_;dsimp only [e42,Zld,go_sem];refine ⟨by simp,?_⟩;refine Zi4 (fun (x2:Bool)=>(⟨(.any :: .ptr 0 0::an 16 (.bv x2::an 44 [])),[some ⟨53,[.iv x1.N,.sl 2 (List.map Edge.row x1.Edges)]⟩],[]⟩:St)) (Zpd x1) r ?_ fun J1=>?_
 ·intro x2 h;rw [Zpd] at h;(try dsimp only);refine Zk4 h rfl (fun _ h=>?_) fun _ h=>?_
  ·refine Zl2 4 ?_;dsimp only [e42,Zld,go_sem];refine ⟨by simp,?_⟩;exact Zt4 (res:=fun (r:Bool)=>.bv r) ok42 h
  ·refine Zl2 6 ?_;dsimp only [e42,Zld,go_sem];refine ⟨by simp,?_⟩;refine Zi4 (fun (_:Unit)=>(⟨(an 63 []),[],[]⟩:St)) Zmd r ?_ fun J2=>?_
   ·rintro ⟨⟩ h;rw [Zmd] at h;(try dsimp only);refine Zl2 4 ?_;dsimp only [e42,Zld,go_sem];refine ⟨by simp,?_⟩;exact Zt4 (res:=fun (r:Bool)=>.bv r) ok42 h
   ·refine Zl2 1 ?_;dsimp only [e42,Zld,go_sem];refine ⟨by simp,?_⟩;refine Zj4 h (fun (x8:Int)=>(⟨(.any :: .ptr 0 0 :: .any :: .iv x8::an 59 []),[some ⟨53,[.iv x1.N,.sl 2 (List.map Edge.row x1.Edges)]⟩],[]⟩:St)) (by simp [go_sem]) (by intro x8;first | rfl | simp [go_sem]) ?_;rintro n1 x8 y1 h hin1 hout1;rw [Zod] at h;(try dsimp only);refine Zl2 9 ?_;dsimp only [e42,Zld,go_sem];refine ⟨by simp,?_⟩;refine Zk4 h rfl (fun _ h=>?_) fun _ h=>?_
    ·refine Zl2 8 ?_;dsimp only [e42,Zld,go_sem];refine ⟨by simp,?_⟩;obtain ⟨x9,ex9,h⟩:=Option.bind_eq_some_iff.1 h;refine Zn4 Edge.row ex9 trivial rfl rfl rfl ?_;refine Zl2 5 ?_;dsimp only [e42,Zld,go_sem];refine ⟨by simp,?_⟩;refine Zi4 (fun (x12:Bool)=>(⟨(.any :: .ptr 0 0 :: .any :: .iv x8::an 58 [.bv x12]),[some ⟨53,[.iv x1.N,.sl 2 (List.map Edge.row x1.Edges)]⟩],[]⟩:St)) (Znd x8) y1 ?_ fun J3=>?_
     ·intro x12 h;rw [Znd] at h;(try dsimp only);refine Zk4 h rfl (fun _ h=>?_) fun _ h=>?_
      ·refine Zl2 4 ?_;dsimp only [e42,Zld,go_sem];refine ⟨by simp,?_⟩;exact Zt4 (res:=fun (r:Bool)=>.bv r) ok42 (Zh4 h hout1)
      ·refine Zl2 7 ?_;dsimp only [e42,Zld,go_sem];refine ⟨by simp,?_⟩;exact Zu4 h hin1
     ·refine Zh3 (by kernel_rfl) fun all hall hs hnap haf=>?_;dsimp only [go_sem]
      refine Zg5 hall hs haf hnap 4 28 [true,true,true,true,false,false,false,false,false,false,false,false,false,false,false,false,false,false,false,false,false,false,false,false,false,false,false,false,false,false,false,false] (⟨(.any :: .ptr 0 0 :: .any :: .iv x8 :: .ptr 1 0::an 14 (.iv x8 :: .ptr 0 1 :: .sl 2 (List.map Edge.row x1.Edges) :: .iv (ln Edge.row x1.Edges) :: .bv (decide (x8<(ln Edge.row x1.Edges))) :: .any :: .any :: .ptr 0 1 :: .sl 2 (List.map Edge.row x1.Edges) :: .iv x8 :: .elt [.iv x9.A,.iv x9.B] 0 :: .agg [.iv x9.A,.iv x9.B] :: .ptr 1 0 :: .iv x9.A :: .bv (decide (x9.A<0)) :: .bv (decide (x9.A<0))::an 28 [])),[some ⟨53,[.iv x1.N,.sl 2 (List.map Edge.row x1.Edges)]⟩,some ⟨30,[.iv x9.A,.iv x9.B]⟩],[]⟩:St) (by kernel_rfl) ?_
      refine Z35 34 h rfl (fun _ h=>?_) fun _ h=>?_
      ·dsimp only [go_sem]
       refine Zg5 hall hs haf hnap 28 0 [true,true,true,true,true,true,true,true,true,true,true,true,true,true,true,true,true,true,true,true,true,true,true,true,true,true,true,true,true,true,true,true] (⟨(.any :: .ptr 0 0 :: .any :: .iv x8 :: .ptr 1 0::an 14 (.iv x8 :: .ptr 0 1 :: .sl 2 (List.map Edge.row x1.Edges) :: .iv (ln Edge.row x1.Edges) :: .bv (decide (x8<(ln Edge.row x1.Edges))) :: .any :: .any :: .ptr 0 1 :: .sl 2 (List.map Edge.row x1.Edges) :: .iv x8 :: .elt [.iv x9.A,.iv x9.B] 0 :: .agg [.iv x9.A,.iv x9.B] :: .ptr 1 0 :: .iv x9.A :: .bv (decide (x9.A<0)) :: .tt :: .un :: .un :: .un :: .un :: .un :: .tt :: .tt :: .un :: .un :: .un :: .un :: .un :: .tt :: .tt :: .un :: .un :: .un :: .un :: .un :: .un :: .un :: .un :: .un :: .un :: .un :: .un :: .un :: .tt::[])),[some ⟨53,[.iv x1.N,.sl 2 (List.map Edge.row x1.Edges)]⟩,some ⟨30,[.iv x9.A,.iv x9.B]⟩],[]⟩:St) (by kernel_rfl) ?_
       refine Zt3 rfl ?_ _;exact Zv4 J3 (s:=true) h
      ·dsimp only [go_sem]
       refine Zg5 hall hs haf hnap 7 21 [true,true,true,true,true,true,true,true,true,true,true,false,false,false,false,false,false,false,false,false,false,false,false,false,false,false,false,false,false,false,false,false] (⟨(.any :: .ptr 0 0 :: .any :: .iv x8 :: .ptr 1 0::an 14 (.iv x8 :: .ptr 0 1 :: .sl 2 (List.map Edge.row x1.Edges) :: .iv (ln Edge.row x1.Edges) :: .bv (decide (x8<(ln Edge.row x1.Edges))) :: .any :: .any :: .ptr 0 1 :: .sl 2 (List.map Edge.row x1.Edges) :: .iv x8 :: .elt [.iv x9.A,.iv x9.B] 0 :: .agg [.iv x9.A,.iv x9.B] :: .ptr 1 0 :: .iv x9.A :: .bv (decide (x9.A<0)) :: .ff :: .ptr 1 0 :: .iv x9.A :: .ptr 1 1 :: .iv x9.B :: .bv (decide (x9.B≤x9.A)) :: .bv (decide (x9.B≤x9.A)) :: .bv (decide (x9.B≤x9.A))::an 21 [])),[some ⟨53,[.iv x1.N,.sl 2 (List.map Edge.row x1.Edges)]⟩,some ⟨30,[.iv x9.A,.iv x9.B]⟩],[]⟩:St) (by kernel_rfl) ?_
       refine Z35 41 h rfl (fun _ h=>?_) fun _ h=>?_
       ·dsimp only [go_sem]
        refine Zg5 hall hs haf hnap 21 0 [true,true,true,true,true,true,true,true,true,true,true,true,true,true,true,true,true,true,true,true,true,true,true,true,true,true,true,true,true,true,true,true] (⟨(.any :: .ptr 0 0 :: .any :: .iv x8 :: .ptr 1 0::an 14 (.iv x8 :: .ptr 0 1 :: .sl 2 (List.map Edge.row x1.Edges) :: .iv (ln Edge.row x1.Edges) :: .bv (decide (x8<(ln Edge.row x1.Edges))) :: .any :: .any :: .ptr 0 1 :: .sl 2 (List.map Edge.row x1.Edges) :: .iv x8 :: .elt [.iv x9.A,.iv x9.B] 0 :: .agg [.iv x9.A,.iv x9.B] :: .ptr 1 0 :: .iv x9.A :: .bv (decide (x9.A<0)) :: .ff :: .ptr 1 0 :: .iv x9.A :: .ptr 1 1 :: .iv x9.B :: .bv (decide (x9.B≤x9.A)) :: .bv (decide (x9.B≤x9.A)) :: .tt :: .un :: .un :: .un :: .un :: .un :: .tt :: .tt :: .un :: .un :: .un :: .un :: .un :: .un :: .un :: .un :: .un :: .un :: .un :: .un :: .un :: .tt::[])),[some ⟨53,[.iv x1.N,.sl 2 (List.map Edge.row x1.Edges)]⟩,some ⟨30,[.iv x9.A,.iv x9.B]⟩],[]⟩:St) (by kernel_rfl) ?_
        refine Zt3 rfl ?_ _;exact Zv4 J3 (s:=true) h
       ·dsimp only [go_sem]
        refine Zg5 hall hs haf hnap 7 14 [true,true,true,true,true,true,true,true,true,true,true,true,true,true,true,true,true,true,false,false,false,false,false,false,false,false,false,false,false,false,false,false] (⟨(.any :: .ptr 0 0 :: .any :: .iv x8 :: .ptr 1 0::an 14 (.iv x8 :: .ptr 0 1 :: .sl 2 (List.map Edge.row x1.Edges) :: .iv (ln Edge.row x1.Edges) :: .bv (decide (x8<(ln Edge.row x1.Edges))) :: .any :: .any :: .ptr 0 1 :: .sl 2 (List.map Edge.row x1.Edges) :: .iv x8 :: .elt [.iv x9.A,.iv x9.B] 0 :: .agg [.iv x9.A,.iv x9.B] :: .ptr 1 0 :: .iv x9.A :: .bv (decide (x9.A<0)) :: .ff :: .ptr 1 0 :: .iv x9.A :: .ptr 1 1 :: .iv x9.B :: .bv (decide (x9.B≤x9.A)) :: .bv (decide (x9.B≤x9.A)) :: .ff :: .ptr 1 1 :: .iv x9.B :: .ptr 0 0 :: .iv x1.N :: .bv (decide (x1.N≤x9.B)) :: .bv (decide (x1.N≤x9.B)) :: .bv (decide (x1.N≤x9.B))::an 14 [])),[some ⟨53,[.iv x1.N,.sl 2 (List.map Edge.row x1.Edges)]⟩,some ⟨30,[.iv x9.A,.iv x9.B]⟩],[]⟩:St) (by kernel_rfl) ?_
        refine Z35 48 h rfl (fun _ h=>?_) fun _ h=>?_
        ·dsimp only [go_sem]
         refine Zg5 hall hs haf hnap 14 0 [true,true,true,true,true,true,true,true,true,true,true,true,true,true,true,true,true,true,true,true,true,true,true,true,true,true,true,true,true,true,true,true] (⟨(.any :: .ptr 0 0 :: .any :: .iv x8 :: .ptr 1 0::an 14 (.iv x8 :: .ptr 0 1 :: .sl 2 (List.map Edge.row x1.Edges) :: .iv (ln Edge.row x1.Edges) :: .bv (decide (x8<(ln Edge.row x1.Edges))) :: .any :: .any :: .ptr 0 1 :: .sl 2 (List.map Edge.row x1.Edges) :: .iv x8 :: .elt [.iv x9.A,.iv x9.B] 0 :: .agg [.iv x9.A,.iv x9.B] :: .ptr 1 0 :: .iv x9.A :: .bv (decide (x9.A<0)) :: .ff :: .ptr 1 0 :: .iv x9.A :: .ptr 1 1 :: .iv x9.B :: .bv (decide (x9.B≤x9.A)) :: .bv (decide (x9.B≤x9.A)) :: .ff :: .ptr 1 1 :: .iv x9.B :: .ptr 0 0 :: .iv x1.N :: .bv (decide (x1.N≤x9.B)) :: .bv (decide (x1.N≤x9.B)) :: .tt :: .un :: .un :: .un :: .un :: .un :: .un :: .un :: .un :: .un :: .un :: .un :: .un :: .un :: .tt::[])),[some ⟨53,[.iv x1.N,.sl 2 (List.map Edge.row x1.Edges)]⟩,some ⟨30,[.iv x9.A,.iv x9.B]⟩],[]⟩:St) (by kernel_rfl) ?_
         refine Zt3 rfl ?_ _;exact Zv4 J3 (s:=true) h
        ·dsimp only [go_sem]
         refine Zg5 hall hs haf hnap 3 11 [true,true,true,true,true,true,true,true,true,true,true,true,true,true,true,true,true,true,true,true,true,false,false,false,false,false,false,false,false,false,false,false] (⟨(.any :: .ptr 0 0 :: .any :: .iv x8 :: .ptr 1 0::an 14 (.iv x8 :: .ptr 0 1 :: .sl 2 (List.map Edge.row x1.Edges) :: .iv (ln Edge.row x1.Edges) :: .bv (decide (x8<(ln Edge.row x1.Edges))) :: .any :: .any :: .ptr 0 1 :: .sl 2 (List.map Edge.row x1.Edges) :: .iv x8 :: .elt [.iv x9.A,.iv x9.B] 0 :: .agg [.iv x9.A,.iv x9.B] :: .ptr 1 0 :: .iv x9.A :: .bv (decide (x9.A<0)) :: .ff :: .ptr 1 0 :: .iv x9.A :: .ptr 1 1 :: .iv x9.B :: .bv (decide (x9.B≤x9.A)) :: .bv (decide (x9.B≤x9.A)) :: .ff :: .ptr 1 1 :: .iv x9.B :: .ptr 0 0 :: .iv x1.N :: .bv (decide (x1.N≤x9.B)) :: .bv (decide (x1.N≤x9.B)) :: .ff :: .iv x8 :: .bv (decide (0<x8)) :: .bv (decide (0<x8))::an 11 [])),[some ⟨53,[.iv x1.N,.sl 2 (List.map Edge.row x1.Edges)]⟩,some ⟨30,[.iv x9.A,.iv x9.B]⟩],[]⟩:St) (by kernel_rfl) ?_
         refine Z35 51 h rfl (fun _ h=>?_) fun _ h=>?_
         ·dsimp only [go_sem]
          refine Zg5 hall hs haf hnap 5 6 [true,true,true,true,true,true,true,true,true,true,true,true,true,true,true,true,true,true,true,true,true,true,true,true,true,false,false,true,false,false,false,false] (⟨(.any :: .ptr 0 0 :: .any :: .iv x8 :: .ptr 1 0::an 14 (.iv x8 :: .ptr 0 1 :: .sl 2 (List.map Edge.row x1.Edges) :: .iv (ln Edge.row x1.Edges) :: .bv (decide (x8<(ln Edge.row x1.Edges))) :: .any :: .any :: .ptr 0 1 :: .sl 2 (List.map Edge.row x1.Edges) :: .iv x8 :: .elt [.iv x9.A,.iv x9.B] 0 :: .agg [.iv x9.A,.iv x9.B] :: .ptr 1 0 :: .iv x9.A :: .bv (decide (x9.A<0)) :: .ff :: .ptr 1 0 :: .iv x9.A :: .ptr 1 1 :: .iv x9.B :: .bv (decide (x9.B≤x9.A)) :: .bv (decide (x9.B≤x9.A)) :: .ff :: .ptr 1 1 :: .iv x9.B :: .ptr 0 0 :: .iv x1.N :: .bv (decide (x1.N≤x9.B)) :: .bv (decide (x1.N≤x9.B)) :: .ff :: .iv x8 :: .bv (decide (0<x8)) :: .tt :: .ptr 0 1 :: .sl 2 (List.map Edge.row x1.Edges) :: .iv x8 :: .iv (wr (x8-1)) :: .any :: .any :: .agg [.iv x9.A,.iv x9.B]::an 4 [])),[some ⟨53,[.iv x1.N,.sl 2 (List.map Edge.row x1.Edges)]⟩,some ⟨30,[.iv x9.A,.iv x9.B]⟩],[]⟩:St) (by kernel_rfl) ?_
          obtain ⟨x10,ex10,h⟩:=Option.bind_eq_some_iff.1 h;refine Zo4 hall hs haf hnap 25 Edge.row ex10 rfl rfl trivial rfl rfl rfl rfl ?_;refine Zf5 hall hs haf hnap 1 4 ?_;dsimp only [go_sem];refine ⟨by simp,?_⟩;refine Zu3 28 rfl ?_;obtain ⟨x11,ex11,h⟩:=Option.bind_eq_some_iff.1 h;refine Z04 hall rfl trivial (Zkd x10 x9 _ ex11) (h:=?_);dsimp only [go_sem]
          refine Zg5 hall hs haf hnap 3 0 [true,true,true,true,true,true,true,true,true,true,true,true,true,true,true,true,true,true,true,true,true,true,true,true,true,true,true,true,true,true,true,true] (⟨(.any :: .ptr 0 0 :: .any :: .iv x8 :: .ptr 1 0::an 14 (.iv x8 :: .ptr 0 1 :: .sl 2 (List.map Edge.row x1.Edges) :: .iv (ln Edge.row x1.Edges) :: .bv (decide (x8<(ln Edge.row x1.Edges))) :: .any :: .any :: .ptr 0 1 :: .sl 2 (List.map Edge.row x1.Edges) :: .iv x8 :: .elt [.iv x9.A,.iv x9.B] 0 :: .agg [.iv x9.A,.iv x9.B] :: .ptr 1 0 :: .iv x9.A :: .bv (decide (x9.A<0)) :: .ff :: .ptr 1 0 :: .iv x9.A :: .ptr 1 1 :: .iv x9.B :: .bv (decide (x9.B≤x9.A)) :: .bv (decide (x9.B≤x9.A)) :: .ff :: .ptr 1 1 :: .iv x9.B :: .ptr 0 0 :: .iv x1.N :: .bv (decide (x1.N≤x9.B)) :: .bv (decide (x1.N≤x9.B)) :: .ff :: .iv x8 :: .bv (decide (0<x8)) :: .tt :: .ptr 0 1 :: .sl 2 (List.map Edge.row x1.Edges) :: .iv x8 :: .iv (wr (x8-1)) :: .elt [.iv x10.A,.iv x10.B] 0 :: .agg [.iv x10.A,.iv x10.B] :: .agg [.iv x9.A,.iv x9.B] :: .bv x11 :: .bv (!x11) :: .bv (!x11) :: .bv (!x11)::[])),[some ⟨53,[.iv x1.N,.sl 2 (List.map Edge.row x1.Edges)]⟩,some ⟨30,[.iv x9.A,.iv x9.B]⟩],[]⟩:St) (by kernel_rfl) ?_
          refine Zt3 rfl ?_ _;exact Zv4 J3 (s:=!x11) h
         ·dsimp only [go_sem]
          refine Zg5 hall hs haf hnap 11 0 [true,true,true,true,true,true,true,true,true,true,true,true,true,true,true,true,true,true,true,true,true,true,true,true,true,true,true,true,true,true,true,true] (⟨(.any :: .ptr 0 0 :: .any :: .iv x8 :: .ptr 1 0::an 14 (.iv x8 :: .ptr 0 1 :: .sl 2 (List.map Edge.row x1.Edges) :: .iv (ln Edge.row x1.Edges) :: .bv (decide (x8<(ln Edge.row x1.Edges))) :: .any :: .any :: .ptr 0 1 :: .sl 2 (List.map Edge.row x1.Edges) :: .iv x8 :: .elt [.iv x9.A,.iv x9.B] 0 :: .agg [.iv x9.A,.iv x9.B] :: .ptr 1 0 :: .iv x9.A :: .bv (decide (x9.A<0)) :: .ff :: .ptr 1 0 :: .iv x9.A :: .ptr 1 1 :: .iv x9.B :: .bv (decide (x9.B≤x9.A)) :: .bv (decide (x9.B≤x9.A)) :: .ff :: .ptr 1 1 :: .iv x9.B :: .ptr 0 0 :: .iv x1.N :: .bv (decide (x1.N≤x9.B)) :: .bv (decide (x1.N≤x9.B)) :: .ff :: .iv x8 :: .bv (decide (0<x8)) :: .ff :: .un :: .un :: .un :: .un :: .un :: .un :: .un :: .un :: .un :: .ff :: .ff::[])),[some ⟨53,[.iv x1.N,.sl 2 (List.map Edge.row x1.Edges)]⟩,some ⟨30,[.iv x9.A,.iv x9.B]⟩],[]⟩:St) (by kernel_rfl) ?_
          refine Zt3 rfl ?_ _;exact Zv4 J3 (s:=false) h
    ·refine Zl2 1 ?_;dsimp only [e42,Zld,go_sem];refine ⟨by simp,?_⟩;exact Zv4 J2 (s:=()) (Zh4 h hout1)
 ·refine Zs4 8 h rfl (fun _ h=>?_) fun _ h=>?_
  ·dsimp only [go_sem];refine Zl2 11 ?_;dsimp only [e42,Zld,go_sem];refine ⟨by simp,?_⟩;exact Zv4 J1 (s:=true) h
  ·dsimp only [go_sem];refine Zl2 5 ?_;dsimp only [e42,Zld,go_sem];refine ⟨by simp,?_⟩;refine Zs4 13 h rfl (fun _ h=>?_) fun _ h=>?_
   ·dsimp only [go_sem];refine Zl2 6 ?_;dsimp only [e42,Zld,go_sem];refine ⟨by simp,?_⟩;exact Zv4 J1 (s:=true) h
   ·dsimp only [go_sem];refine Zl2 6 ?_;dsimp only [e42,Zld,go_sem];refine ⟨by simp,?_⟩;exact Zv4 J1 (s:=decide (400<(ln Edge.row x1.Edges))) h
set_option maxRecDepth 100000
set_option maxHeartbeats 4000000
def Zsd:EC:=.seq (.seq (.reg [(Qa 9 (.mv (.t 7))),(Qa 10 (.fld 1 (.t 3))),(Qa 11 (.load (.t 10))),(Qa 12 (.len (.t 11))),(Qa 13 (.bin .lss (.t 9) (.t 12)))]) (.ite (.t 13) (.skip) (.exit 0))) (.seq (.blk 1 (.seq (.reg [(Qa 16 (.fld 1 (.t 3))),(Qa 17 (.load (.t 16))),(Qa 18 (.mv (.t 7))),(Qa 19 (.idx 2 (.t 17) (.t 18))),(Qa 20 (.loadA 2 (.t 19))),(Qa 8 (.alloc 30 [.iv 0,.iv 0])),(Qb (.store 2 (.t 8) (.t 20)))]) (.seq (.reg [(Qa 21 (.fld 0 (.t 8))),(Qa 22 (.load (.t 21))),(Qa 23 (.mv (.t 1))),(Qa 24 (.bin .eql (.t 22) (.t 23))),(Qa 25 (.mv (.t 24))),(Qg 26 25 true (.fld 1 (.t 8))),(Qg 27 25 true (.load (.t 26))),(Qg 28 25 true (.mv (.t 2))),(Qg 29 25 true (.bin .eql (.t 27) (.t 28))),(Qa 30 (.pick (.t 25) (.t 29) (.c .ff))),(Qa 31 (.mv (.t 30))),(Qg 32 31 true (.mv (.t 1))),(Qg 33 31 true (.mv (.t 2))),(Qg 34 31 true (.bin .leq (.t 32) (.t 33))),(Qa 35 (.pick (.t 31) (.t 34) (.c .ff))),(Qa 36 (.mv (.t 35))),(Qg 37 36 false (.fld 0 (.t 8))),(Qg 38 36 false (.load (.t 37))),(Qg 39 36 false (.mv (.t 2))),(Qg 40 36 false (.bin .eql (.t 38) (.t 39))),(Qg 41 36 false (.mv (.t 40))),(Qg 42 41 true (.fld 1 (.t 8))),(Qg 43 41 true (.load (.t 42))),(Qg 44 41 true (.mv (.t 1))),(Qg 45 41 true (.bin .eql (.t 43) (.t 44))),(Qg 46 36 false (.pick (.t 41) (.t 45) (.c .ff))),(Qg 47 36 false (.mv (.t 46))),(Qg 48 47 true (.mv (.t 2))),(Qg 49 47 true (.mv (.t 1))),(Qg 50 47 true (.bin .lss (.t 48) (.t 49))),(Qg 51 36 false (.pick (.t 47) (.t 50) (.c .ff))),(Qa 52 (.pick (.t 36) (.c .tt) (.t 51)))]) (.ite (.t 52) (.seq (.reg [(Qa 6 (.mv (.c .tt)))]) (.ret)) (.skip))))) (.reg [(Qa 14 (.mv (.t 7))),(Qa 15 (.bin .add (.t 14) (.c (.iv 1)))),(Qa 7 (.mv (.t 15)))]))
def e39:EC:=.seq (.reg [(Qa 3 (.box 53 2 (.t 0))),(Qa 6 (.mv (.c .ff)))]) (.seq (.seq (.reg [(Qa 7 (.mv (.c (.iv 0))))]) (.blk 0 (.loop Zsd))) (.seq (.reg [(Qa 6 (.mv (.c .ff)))]) (.ret)))
theorem ok39:FnOK Tryz.prog 39 Tryz.f39 e39 [.t 6] 3 50:=⟨by kernel_rfl,⟨_,rfl,by kernel_rfl⟩,by kernel_rfl,by kernel_rfl⟩
noncomputable def Ztd:Unit→Option Bool
| ()=>
 some false
noncomputable def Zud (x7:Int):Bool→Option (Int ⊕ Bool)
| x9=>
 ifb x9 (
 Option.map Sum.inr (some true)) (
 some (.inl (wr (x7+1))))
noncomputable def Zvd (x1:Graph) (x2:Int) (x3:Int):Int→Option (Int ⊕ Bool)
| x7=>
 ifb (decide (x7<(ln Edge.row x1.Edges))) (
 (at_ x1.Edges x7).bind fun x8=>
 ifb (decide (x8.A=x2)) (
 ifb (decide (x8.B=x3)) (
 ifb (decide (x2≤x3)) (
 (Zud x7) true) (
 ifb (decide (x8.A=x3)) (
 ifb (decide (x8.B=x2)) (
 (Zud x7) (decide (x3<x2))) (
 (Zud x7) false)) (
 (Zud x7) false))) (
 ifb (decide (x8.A=x3)) (
 ifb (decide (x8.B=x2)) (
 (Zud x7) (decide (x3<x2))) (
 (Zud x7) false)) (
 (Zud x7) false))) (
 ifb (decide (x8.A=x3)) (
 ifb (decide (x8.B=x2)) (
 (Zud x7) (decide (x3<x2))) (
 (Zud x7) false)) (
 (Zud x7) false))) (
 Option.map Sum.inr (Ztd ()))
noncomputable def Zwd (x1:Graph) (x2:Int) (x3:Int):Option Bool:=
 loop (Zvd x1 x2 x3) 0
theorem Zxd (x1:Graph) (x2:Int) (x3:Int) (r:Bool) (h:Zwd x1 x2 x3=some r):Zq2 Tryz.prog 39 [.agg (Graph.row x1),.iv x2,.iv x3] (.bv r):=by
 refine Zu2 ok39 rfl rfl fun w0 H0=>?_
 rw [Zwd] at h
 refine Zl2 10 ?_;dsimp only [e39,Zsd,go_sem];refine ⟨by simp,?_⟩;refine Zi4 (fun (_:Unit)=>(⟨(an 53 []),[],[]⟩:St)) Ztd r ?_ fun J1=>?_
 ·rintro ⟨⟩ h;rw [Ztd] at h;(try dsimp only);refine Zl2 4 ?_;dsimp only [e39,Zsd,go_sem];refine ⟨by simp,?_⟩;exact Zt4 (res:=fun (r:Bool)=>.bv r) ok39 h
 ·refine Zl2 1 ?_;dsimp only [e39,Zsd,go_sem];refine ⟨by simp,?_⟩;refine Zj4 h (fun (x7:Int)=>(⟨(.any :: .iv x2 :: .iv x3 :: .ptr 0 0::an 3 (.iv x7::an 45 [])),[some ⟨53,[.iv x1.N,.sl 2 (List.map Edge.row x1.Edges)]⟩],[]⟩:St)) (by simp [go_sem]) (by intro x7;first | rfl | simp [go_sem]) ?_;rintro n1 x7 y1 h hin1 hout1;rw [Zvd] at h;(try dsimp only);refine Zl2 9 ?_;dsimp only [e39,Zsd,go_sem];refine ⟨by simp,?_⟩;refine Zk4 h rfl (fun _ h=>?_) fun _ h=>?_
  ·refine Zl2 8 ?_;dsimp only [e39,Zsd,go_sem];refine ⟨by simp,?_⟩;obtain ⟨x8,ex8,h⟩:=Option.bind_eq_some_iff.1 h;refine Zn4 Edge.row ex8 trivial rfl rfl rfl ?_;refine Zl2 11 ?_;dsimp only [e39,Zsd,go_sem];refine ⟨by simp,?_⟩;refine Zi4 (fun (x9:Bool)=>(⟨(.any :: .iv x2 :: .iv x3 :: .ptr 0 0::an 3 (.iv x7::an 44 [.bv x9])),[some ⟨53,[.iv x1.N,.sl 2 (List.map Edge.row x1.Edges)]⟩],[]⟩:St)) (Zud x7) y1 ?_ fun J2=>?_
   ·intro x9 h;rw [Zud] at h;(try dsimp only);refine Zk4 h rfl (fun _ h=>?_) fun _ h=>?_
    ·refine Zl2 4 ?_;dsimp only [e39,Zsd,go_sem];refine ⟨by simp,?_⟩;exact Zt4 (res:=fun (r:Bool)=>.bv r) ok39 (Zh4 h hout1)
    ·refine Zl2 7 ?_;dsimp only [e39,Zsd,go_sem];refine ⟨by simp,?_⟩;exact Zu4 h hin1
   ·refine Zs4 25 h rfl (fun _ h=>?_) fun _ h=>?_
    ·dsimp only [go_sem];refine Zl2 6 ?_;dsimp only [e39,Zsd,go_sem];refine ⟨by simp,?_⟩;refine Zs4 31 h rfl (fun _ h=>?_) fun _ h=>?_
     ·dsimp only [go_sem];refine Zl2 5 ?_;dsimp only [e39,Zsd,go_sem];refine ⟨by simp,?_⟩;refine Zs4 36 h rfl (fun _ h=>?_) fun _ h=>?_
      ·dsimp only [go_sem];refine Zl2 17 ?_;dsimp only [e39,Zsd,go_sem];refine ⟨by simp,?_⟩;exact Zv4 J2 (s:=true) h
      ·dsimp only [go_sem];refine Zl2 5 ?_;dsimp only [e39,Zsd,go_sem];refine ⟨by simp,?_⟩;refine Zs4 41 h rfl (fun _ h=>?_) fun _ h=>?_
       ·dsimp only [go_sem];refine Zl2 6 ?_;dsimp only [e39,Zsd,go_sem];refine ⟨by simp,?_⟩;refine Zs4 47 h rfl (fun _ h=>?_) fun _ h=>?_
        ·dsimp only [go_sem];refine Zl2 6 ?_;dsimp only [e39,Zsd,go_sem];refine ⟨by simp,?_⟩;exact Zv4 J2 (s:=decide (x3<x2)) h
        ·dsimp only [go_sem];refine Zl2 6 ?_;dsimp only [e39,Zsd,go_sem];refine ⟨by simp,?_⟩;exact Zv4 J2 (s:=false) h
       ·dsimp only [go_sem];refine Zl2 12 ?_;dsimp only [e39,Zsd,go_sem];refine ⟨by simp,?_⟩;exact Zv4 J2 (s:=false) h
     ·dsimp only [go_sem];refine Zl2 10 ?_;dsimp only [e39,Zsd,go_sem];refine ⟨by simp,?_⟩;refine Zs4 41 h rfl (fun _ h=>?_) fun _ h=>?_
      ·dsimp only [go_sem];refine Zl2 6 ?_;dsimp only [e39,Zsd,go_sem];refine ⟨by simp,?_⟩;refine Zs4 47 h rfl (fun _ h=>?_) fun _ h=>?_
       ·dsimp only [go_sem];refine Zl2 6 ?_;dsimp only [e39,Zsd,go_sem];refine ⟨by simp,?_⟩;exact Zv4 J2 (s:=decide (x3<x2)) h
       ·dsimp only [go_sem];refine Zl2 6 ?_;dsimp only [e39,Zsd,go_sem];refine ⟨by simp,?_⟩;exact Zv4 J2 (s:=false) h
      ·dsimp only [go_sem];refine Zl2 12 ?_;dsimp only [e39,Zsd,go_sem];refine ⟨by simp,?_⟩;exact Zv4 J2 (s:=false) h
    ·dsimp only [go_sem];refine Zl2 16 ?_;dsimp only [e39,Zsd,go_sem];refine ⟨by simp,?_⟩;refine Zs4 41 h rfl (fun _ h=>?_) fun _ h=>?_
     ·dsimp only [go_sem];refine Zl2 6 ?_;dsimp only [e39,Zsd,go_sem];refine ⟨by simp,?_⟩;refine Zs4 47 h rfl (fun _ h=>?_) fun _ h=>?_
      ·dsimp only [go_sem];refine Zl2 6 ?_;dsimp only [e39,Zsd,go_sem];refine ⟨by simp,?_⟩;exact Zv4 J2 (s:=decide (x3<x2)) h
      ·dsimp only [go_sem];refine Zl2 6 ?_;dsimp only [e39,Zsd,go_sem];refine ⟨by simp,?_⟩;exact Zv4 J2 (s:=false) h
     ·dsimp only [go_sem];refine Zl2 12 ?_;dsimp only [e39,Zsd,go_sem];refine ⟨by simp,?_⟩;exact Zv4 J2 (s:=false) h
  ·refine Zl2 1 ?_;dsimp only [e39,Zsd,go_sem];refine ⟨by simp,?_⟩;exact Zv4 J1 (s:=()) (Zh4 h hout1)
set_option maxRecDepth 100000
set_option maxHeartbeats 4000000
def Zyd:EC:=.seq (.seq (.reg [(Qa 6 (.mv (.t 5))),(Qa 7 (.mv (.t 0))),(Qa 8 (.len (.t 7))),(Qa 9 (.bin .lss (.t 6) (.t 8)))]) (.ite (.t 9) (.skip) (.exit 0))) (.seq (.blk 1 (.seq (.reg [(Qa 12 (.mv (.t 0))),(Qa 13 (.mv (.t 5))),(Qa 14 (.idx 1 (.t 12) (.t 13))),(Qa 15 (.load (.t 14))),(Qa 16 (.mv (.t 1))),(Qa 17 (.bin .eql (.t 15) (.t 16)))]) (.ite (.t 17) (.seq (.reg [(Qa 4 (.mv (.c .tt)))]) (.ret)) (.skip)))) (.reg [(Qa 10 (.mv (.t 5))),(Qa 11 (.bin .add (.t 10) (.c (.iv 1)))),(Qa 5 (.mv (.t 11)))]))
def e33:EC:=.seq (.reg [(Qa 4 (.mv (.c .ff)))]) (.seq (.seq (.reg [(Qa 5 (.mv (.c (.iv 0))))]) (.blk 0 (.loop Zyd))) (.seq (.reg [(Qa 4 (.mv (.c .ff)))]) (.ret)))
theorem ok33:FnOK Tryz.prog 33 Tryz.f33 e33 [.t 4] 2 16:=⟨by kernel_rfl,⟨_,rfl,by kernel_rfl⟩,by kernel_rfl,by kernel_rfl⟩
noncomputable def Zzd:Unit→Option Bool
| ()=>
 some false
noncomputable def Z0e (x1:(List Int)) (x2:Int):Int→Option (Int ⊕ Bool)
| x5=>
 ifb (decide (x5<(ln Z05 x1))) (
 (at_ x1 x5).bind fun x6=>
 ifb (decide (x6=x2)) (
 Option.map Sum.inr (some true)) (
 some (.inl (wr (x5+1))))) (
 Option.map Sum.inr (Zzd ()))
noncomputable def Z1e (x1:(List Int)) (x2:Int):Option Bool:=
 loop (Z0e x1 x2) 0
theorem Z2e (x1:(List Int)) (x2:Int) (r:Bool) (h:Z1e x1 x2=some r):Zq2 Tryz.prog 33 [.sl 1 (List.map Z05 x1),.iv x2] (.bv r):=by
 refine Zu2 ok33 rfl rfl fun w0 H0=>?_
 rw [Z1e] at h
 refine Zl2 9 ?_;dsimp only [e33,Zyd,go_sem];refine ⟨by simp,?_⟩;refine Zi4 (fun (_:Unit)=>(⟨(an 18 []),[],[]⟩:St)) Zzd r ?_ fun J1=>?_
 ·rintro ⟨⟩ h;rw [Zzd] at h;(try dsimp only);refine Zl2 4 ?_;dsimp only [e33,Zyd,go_sem];refine ⟨by simp,?_⟩;exact Zt4 (res:=fun (r:Bool)=>.bv r) ok33 h
 ·refine Zl2 1 ?_;dsimp only [e33,Zyd,go_sem];refine ⟨by simp,?_⟩;refine Zj4 h (fun (x5:Int)=>(⟨(.sl 1 (List.map Z05 x1) :: .iv x2::an 3 (.iv x5::an 12 [])),[],[]⟩:St)) (by simp [go_sem]) (by intro x5;first | rfl | simp [go_sem]) ?_;rintro n1 x5 y1 h hin1 hout1;rw [Z0e] at h;(try dsimp only);refine Zl2 8 ?_;dsimp only [e33,Zyd,go_sem];refine ⟨by simp,?_⟩;refine Zk4 h rfl (fun _ h=>?_) fun _ h=>?_
  ·refine Zl2 7 ?_;dsimp only [e33,Zyd,go_sem];refine ⟨by simp,?_⟩;obtain ⟨x6,ex6,h⟩:=Option.bind_eq_some_iff.1 h;refine Zn4 Z05 ex6 trivial rfl rfl rfl ?_;refine Zl2 4 ?_;dsimp only [e33,Zyd,go_sem];refine ⟨by simp,?_⟩;refine Zk4 h rfl (fun _ h=>?_) fun _ h=>?_
   ·refine Zl2 4 ?_;dsimp only [e33,Zyd,go_sem];refine ⟨by simp,?_⟩;exact Zt4 (res:=fun (r:Bool)=>.bv r) ok33 (Zh4 h hout1)
   ·refine Zl2 7 ?_;dsimp only [e33,Zyd,go_sem];refine ⟨by simp,?_⟩;exact Zu4 h hin1
  ·refine Zl2 1 ?_;dsimp only [e33,Zyd,go_sem];refine ⟨by simp,?_⟩;exact Zv4 J1 (s:=()) (Zh4 h hout1)
def cg (c:List Int) (i:Int):Int:=(c[i.toNat]?).getD 0
theorem at_cg {c:List Int} {i:Int} (h0:0≤i) (h:i<c.length):at_ c i=some (cg c i):=by
 obtain ⟨x,h1,h2⟩:=at_lt h0 h
 rw [h1,cg,h2];rfl
def Z3e (g:Graph) (c:List Int):Bool:=decide ((c.length:Int)=g.N)&&(c.all (fun x=>decide (1≤x))&&g.Edges.all (fun e=>!decide (cg c e.A=cg c e.B)))
theorem s_Right (g:Graph) (c:List Int) (_:c.length≤1000000):Zgd g c=some (okG g&&Z3e g c):=by
 simp only [Zgd,Z18,Option.bind_some,Ze6]
 cases hg:okG g with
 | false=>simp [Zfd]
 | true=>
   obtain ⟨g1,g2,g3,g4,g5⟩:=Z28 hg
   simp only [if_true,decide_true,Zc6,Bool.true_and,Z25]
   by_cases hl:(c.length:Int)=g.N
   ·rw [Zz7 c (fun z=>Zbd z) (fun x=>decide (x<1)) (by omega) (fun x _=>rfl)]
    simp only [hl,decide_true,Zc6,Option.bind_some,Z3e,Bool.true_and]
    have e1:c.any (fun x=>decide (x<1))=!c.all (fun x=>decide (1≤x)):=Z38 _ _ _ (fun x=>by
     by_cases h:x<1
     ·have:¬1≤x:=by omega
      simp [h,this]
     ·have:1≤x:=by omega
      simp [h,this])
    rw [e1]
    cases hp:c.all (fun x=>decide (1≤x)) with
    | false=>simp [Zfd]
    | true=>
      simp only [Bool.not_true,Zfd,Zd6]
      rw [Zy7 g.Edges _ (fun e=>decide (cg c e.A=cg c e.B)) (by omega) (fun e he=>by
       obtain ⟨k1,k2,k3⟩:=g4 e he
       simp only [Zdd,at_cg (c:=c) k1 (by omega),at_cg (c:=c) (show 0≤e.B by omega) (by omega),Option.bind_some])]
      simp [all_not_any]
   ·simp [hl,Z3e,Zfd]
theorem s_ahead (x y:Edge):Zjd x y=some (x.lt y):=by
 simp only [Zjd,Zid,Edge.lt]
 by_cases h1:x.A<y.A
 ·simp [h1]
 ·by_cases h2:x.A=y.A<;>simp [h1,h2]
theorem s_r03Check (g:Graph):Zqd g=some (okG g):=by
 simp only [Zqd,Zpd]
 by_cases h1:g.N<0
 ·have:¬0≤g.N:=by omega
  simp [h1,okG,this]
 by_cases h2:64<g.N
 ·have:¬g.N≤64:=by omega
  simp [h1,h2,okG,this]
 by_cases h3:400<g.Edges.length
 ·have:¬g.Edges.length≤400:=by omega
  have h3':(400:Int)<ln Edge.row g.Edges:=by rw [Z25];omega
  simp [h1,h2,h3',okG,this]
 have h3':¬(400:Int)<ln Edge.row g.Edges:=by rw [Z25];omega
 have e1:0≤g.N:=by omega
 have e2:g.N≤64:=by omega
 have e3:g.Edges.length≤400:=by omega
 simp only [h1,h2,h3',decide_false,Zd6,okG,e1,e2,e3,decide_true,Bool.true_and]
 have key:=Z08 g.Edges (Zod g) false true (fun e=>!e.ok g.N) (by omega) (fun k x hx=>by
  have hw:wr ((k:Int)+1)=((k+1:Nat):Int):=Zl6 hx (by omega)
  simp only [Zod,Zi6 hx,Zc6,Zg6 hx,Option.bind_some,Znd,hw,Edge.ok]
  by_cases k1:x.A<0
  ·have:¬0≤x.A:=by omega
   simp [k1,this]
  ·have k1':0≤x.A:=by omega
   by_cases k2:x.B≤x.A
   ·have:¬x.A<x.B:=by omega
    simp [k1,k2,this]
   ·have k2':x.A<x.B:=by omega
    by_cases k3:g.N≤x.B
    ·have:¬x.B<g.N:=by omega
     simp [k1,k2,k3,this]
    ·have k3':x.B<g.N:=by omega
     simp only [k1,k2,k3,k1',k2',k3',decide_false,decide_true,Zd6,Bool.and_self,Bool.not_true,Bool.false_or]
     cases k with
     | zero=>simp
     | succ k=>
       have hk:=(List.getElem?_eq_some_iff.1 hx).1
       have hy:g.Edges[k]?=some g.Edges[k]:=List.getElem?_eq_getElem (by omega)
       have h0:decide ((0:Int)<((k+1:Nat):Int))=true:=decide_eq_true (by omega)
       simp only [h0,Zc6,wr_pred (show k≤4000000000000000000 by omega),Zg6 hy,hy,Option.bind_some,s_ahead]
       cases g.Edges[k].lt x<;>simp)
  (by simp only [Zod,Zj6,Zd6,Zmd,Option.map_some])
 rw [key]
 have:g.Edges.all (fun x=>!!Edge.ok g.N x)=g.Edges.all (Edge.ok g.N):=by simp
 rw [this]
 cases g.Edges.all (Edge.ok g.N)&&risB g.Edges<;>rfl
theorem s_r01Has (l:List Int) (x:Int) (hl:l.length≤1000000):Z1e l x=some (decide (x∈l)):=by
 unfold Z1e
 rw [Zr6 l (Z0e l x) (fun y=>decide (y=x)) true false (by omega) (fun k y hy=>by
  have hw:wr ((k:Int)+1)=((k+1:Nat):Int):=Zl6 hy (by omega)
  simp only [Z0e,Zi6 hy,Zc6,Zg6 hy,Option.bind_some,hw]
  by_cases h:y=x<;>simp [h])
  (by simp only [Z0e,Zj6,Zd6,Zzd,Option.map_some])]
 by_cases h:x∈l
 ·have:l.any (fun y=>decide (y=x))=true:=by rw [List.any_eq_true];exact ⟨x,h,by simp⟩
  simp [this,h]
 ·have:l.any (fun y=>decide (y=x))=false:=by
   rw [List.any_eq_false];intro y hy;simp;rintro rfl;exact h hy
  simp [this,h]
def hasB (g:Graph) (a b:Int):Bool:=g.Edges.any fun e=>(decide (e.A=a)&&(decide (e.B=b)&&decide (a≤b)))||(decide (e.A=b)&&(decide (e.B=a)&&decide (b<a)))
theorem s_r03Has (g:Graph) (a b:Int) (hl:g.Edges.length≤1000000):Zwd g a b=some (hasB g a b):=by
 unfold Zwd hasB
 rw [Zr6 g.Edges (Zvd g a b) (fun e=>(decide (e.A=a)&&(decide (e.B=b)&&decide (a≤b)))||(decide (e.A=b)&&(decide (e.B=a)&&decide (b<a)))) true false (by omega) (fun k e he=>by
  have hw:wr ((k:Int)+1)=((k+1:Nat):Int):=Zl6 he (by omega)
  simp only [Zvd,Zi6 he,Zc6,Zg6 he,Option.bind_some,Zud,hw]
  generalize decide (e.A=a)=p1;generalize decide (e.B=b)=p2;generalize decide (a≤b)=p3;generalize decide (e.A=b)=p4;generalize decide (e.B=a)=p5;generalize decide (b<a)=p6
  cases p1<;>cases p2<;>cases p3<;>cases p4<;>cases p5<;>cases p6<;>rfl)
  (by simp only [Zvd,Zj6,Zd6,Ztd,Option.map_some])]
 generalize List.any _ _=p
 cases p<;>rfl
end NX
end Go.Proofs.YtacfbmldajmjiaaGreat
namespace Go.Proofs.YtacfbmldajmjiaaGreat
namespace NX
open Go Go.RowKit
section
variable {c:Ctx} {M:Mem} {S S':St} {a:Act} {w:World} {fn:Func} {K:AV→List (Option Blk)→List (Option Sl)→Prop} {k:List It} {bs:List (Option Blk)} {ss:List (Option Sl)}
theorem isLL_ints {M:Mem} {zs:List Int} {vss:List (List Value)} (h:AV.isLL M 1 (zs.map Z05) vss):vss.flatten=zs.map (Value.int .i64):=by
 induction zs generalizing vss with
 | nil=>simp [AV.isLL] at h;subst h;rfl
 | cons z zs ih=>
   obtain ⟨v,r,rfl,h1,h2,h3⟩:=h
   obtain ⟨u,q,rfl,h4,h5⟩:=h2
   simp only [AV.isL] at h5
   simp only [AV.is] at h4
   subst h5;subst h4
   simp [ih h3]
theorem Z4e {M:Mem}:∀(zs:List Int),∃vss,AV.isLL M 1 (zs.map Z05) vss∧vss.flatten=zs.map (Value.int .i64)
 | []=>⟨[],rfl,rfl⟩
 | z::zs=>by
   obtain ⟨vss,h1,h2⟩:=Z4e (M:=M) zs
   exact ⟨[.int .i64 z]::vss,⟨_,_,rfl,rfl,⟨_,_,rfl,rfl,rfl⟩,h1⟩,by simp [h2]⟩
theorem sem_sort {ρ:Shelf.Ren} (Ly:Lays.n189 c.P ρ) {j T:Nat} {x:X} {zs:List Int} (hx:S.x x = .osl j) (hj:Zf S.ss j=some ⟨T,1,zs.map Z05⟩) (hlen:zs.length<4611686018427387904):
  Zv2 c S (.call (ρ.f 189) [x]) (.tup []) ⟨S.tm,S.bs,Zg S.ss j (some ⟨T,1,(zs.mergeSort fun x y=>decide (x≤y)).map Z05⟩)⟩:=by
 intro ro ho M a w hT next Q hn
 obtain ⟨dst,op,ty,pos,af,gd⟩:=ro
 dsimp only at ho
 obtain ⟨cargs,argTypes,rfl,hfn,hxs⟩:=Zy2 ho
 obtain ⟨q,rfl⟩:∃q,cargs = #[q]:=by
  have:cargs.toList.length=1:=by have:=congrArg List.length hxs;simpa using this
  obtain ⟨l⟩:=cargs
  match l,this with
  | [q],_=>exact ⟨q,rfl⟩
 have hqx:cX q=x:=by simpa using hxs
 have hq:=Zw1 hT q
 rw [hqx,hx] at hq
 obtain ⟨hjn,hq⟩:=hq
 obtain ⟨g0,vss,h1,h2,h3,h4⟩:=hT.st.slc j _ hj
 dsimp only at h1 h3 g0
 have hfl:=isLL_ints h1
 have hrun:(execOp a.eval ⟨dst,.call ⟨.value (.func (ρ.f 189)), #[q],argTypes⟩,ty,pos,af,gd⟩).run c.P w = .ok (.enter (ρ.f 189) (#[q].map a.eval)) w:=by
  have he:a.eval (.func (ρ.f 189)) = .func (.func (ρ.f 189)) #[] #[]:=rfl
  generalize a.eval=ρ' at *
  simp [execOp,resolve,Deferred.ofValue,invoke,he,Zx2 hfn]
 have e1:(#[q].map a.eval) = #[M.σ j]:=by
  apply Array.ext';simp;exact hq
 rw [e1] at hrun
 unfold Oper.wp
 rw [hrun]
 show Calls c.P (ρ.f 189) #[M.σ j] w _
 obtain ⟨rs,hr1,hr2⟩:=Z4e (M:=M.pure) (zs.mergeSort fun x y=>decide (x≤y))
 have hone:∀v∈rs.flatten,v.oneCell'=true:=by
  rw [hr2];intro v hv
  obtain ⟨z,_,rfl⟩:=List.mem_map.1 hv;rfl
 have hl2:(zs.mergeSort fun x y=>decide (x≤y)).length=zs.length:=by simp
 rcases h3.2 with ⟨e2,e3⟩ | ⟨g,cap,cur,e2,hb,e3,e4,e5,e6,e7⟩
 ·have hz:zs=[]:=by simpa using e3
  subst hz
  rw [e2]
  refine (Any.slices_Sort_int_none Ly none 0 w).mono ?_
  rintro e w' ⟨rfl,rfl⟩
  refine hn M _ _ (.refl M) ?_ ⟨[],rfl,rfl⟩
  have:Zg S.ss j (some (⟨T,1,([].mergeSort fun (x y:Int)=>decide (x≤y)).map Z05⟩:Sl))=S.ss:=by
   have hj':=hj
   simp only [List.map_nil] at hj'
   have:∀(l:List (Option Sl)) (j:Nat) (L:Sl),Zf l j=some L→Zg l j (some L)=l:=by
    intro l
    induction l with
    | nil=>intro j L h;simp [Zf] at h
    | cons x l ih=>intro j L h;cases j with
      | zero=>simp [Zf] at h;subst h;rfl
      | succ j=>simp only [Zg];rw [ih j L (by simpa [Zf] using h)]
   simpa using this _ _ _ hj'
  rw [this];exact hT.st
 ·have e4':zs.length≤cap:=by simpa using e4
  rw [e2]
  simp only [List.length_map]
  rw [Nat.mul_one,List.length_map] at e7
  rw [hfl] at e7
  refine (Any.slices_Sort_int Ly g 0 cap zs w (holds_of_blockI e3 e7) (Array.getElem?_eq_some_iff.1 e3).1 hlen).mono ?_
  rintro e w' ⟨rfl,n,os,rfl⟩
  refine hn M _ _ (.refl M) ?_ ⟨[],rfl,rfl⟩
  refine hT.st.rewrite hj (g:=g) (by rw [e2];rfl) (grownBy_sortedI _) (vss':=rs) hr1 hone ?_
  rw [hr2,List.length_map,hl2,e2,List.length_map]
  exact ownsRow_sortedI (ss:=zs) hl2 hb e3 e4' e5 e6
theorem V_sort {ρ:Shelf.Ren} (Ly:Lays.n189 c.P ρ) {d:Option Nat} {g:Option (Nat×Bool)} {l:List EOp} {j T f:Nat} {x:X} (zs:List Int) (hg:gm S g) (hf:f=ρ.f 189) (hx:S.x x = .osl j) (hj:Zf S.ss j=some ⟨T,1,zs.map Z05⟩) (hlen:zs.length<4611686018427387904)
  (h:V c fn K (.ops l::k) ((⟨S.tm,S.bs,Zg S.ss j (some ⟨T,1,(zs.mergeSort fun x y=>decide (x≤y)).map Z05⟩)⟩:St).put d (.tup []))):V c fn K (.ops (⟨d,g,.call f [x]⟩::l)::k) S:=by
 subst hf
 exact Zw2 hg (sem_sort Ly hx hj hlen) rfl h
theorem sem_compact {ρ:Shelf.Ren} (Ly:Lays2.n20 c.P ρ) {j T:Nat} {x:X} {zs:List Int} (hx:S.x x = .osl j) (hj:Zf S.ss j=some ⟨T,1,zs.map Z05⟩) (hlen:zs.length<4611686018427387904):
  Zv2 c S (.call (ρ.f 20) [x]) (.osl (Zj S.ss)) ⟨S.tm,S.bs,Zg S.ss j none++[some ⟨T,1,(Lib.compact zs).map Z05⟩]⟩:=by
 intro ro ho M a w hT next Q hn
 obtain ⟨dst,op,ty,pos,af,gd⟩:=ro
 dsimp only at ho
 obtain ⟨cargs,argTypes,rfl,hfn,hxs⟩:=Zy2 ho
 obtain ⟨q,rfl⟩:∃q,cargs = #[q]:=by
  have:cargs.toList.length=1:=by have:=congrArg List.length hxs;simpa using this
  obtain ⟨l⟩:=cargs
  match l,this with
  | [q],_=>exact ⟨q,rfl⟩
 have hqx:cX q=x:=by simpa using hxs
 have hq:=Zw1 hT q
 rw [hqx,hx] at hq
 obtain ⟨hjn,hq⟩:=hq
 have hS:=hT.st
 obtain ⟨g0,vss,h1,h2,h3,h4⟩:=hS.slc j _ hj
 dsimp only at h1 h3 g0
 have hfl:=isLL_ints h1
 have hrun:(execOp a.eval ⟨dst,.call ⟨.value (.func (ρ.f 20)), #[q],argTypes⟩,ty,pos,af,gd⟩).run c.P w = .ok (.enter (ρ.f 20) (#[q].map a.eval)) w:=by
  have he:a.eval (.func (ρ.f 20)) = .func (.func (ρ.f 20)) #[] #[]:=rfl
  generalize a.eval=ρ' at *
  simp [execOp,resolve,Deferred.ofValue,invoke,he,Zx2 hfn]
 have e1:(#[q].map a.eval) = #[M.σ j]:=by
  apply Array.ext';simp;exact hq
 rw [e1] at hrun
 unfold Oper.wp
 rw [hrun]
 show Calls c.P (ρ.f 20) #[M.σ j] w _
 obtain ⟨rs,hr1,hr2⟩:=Z4e (M:=M.pure) (Lib.compact zs)
 have hone:∀v∈rs.flatten,v.oneCell'=true:=by
  rw [hr2];intro v hv
  obtain ⟨z,_,rfl⟩:=List.mem_map.1 hv;rfl
 have hcl:=Lib.compact_length_le zs
 have hsub:∀i N,Zf (Zg S.ss j none) i=some N→Zf S.ss i=some N∧∀g,(M.σ j).ownBlock=some g→(M.σ i).ownBlock≠some g:=by
  intro i N hi
  rw [Zb1] at hi
  split at hi
  ·simp at hi
  ·rename_i e
   refine ⟨hi,fun g hg e2=>e ⟨?_,Zd1 hj⟩⟩
   exact hS.d3 i j N _ g hi hj e2 hg
 have fin:∀v' w',w.grownBy w' (M.σ j).ownBlock→v'.ownBlock=(M.σ j).ownBlock→w'.ownsRow 0 T 1 v' (Lib.compact zs).length rs.flatten→next (a.put dst v') w':=fun v' w' hg hv hrow=>by
  have hr:RelS c (M.addS v') S.bs (Zg S.ss j none++[some (⟨T,1,(Lib.compact zs).map Z05⟩:Sl)]) w':=
   RelS.grown (v:=M.σ j) (vss:=rs) hS (Zc1 _ _ _) hsub (.inr fun i B hi=>hS.d2 i j B _ hi hj) h4 hg (.inl hv) g0 hr1 hone (by simpa using hrow)
  refine hn (M.addS v') w' v' (Mem.le_addS M v') hr ?_
  rw [Z71,←hS.ns]
  exact ⟨Nat.lt_succ_self _,by simp [Mem.addS]⟩
 rcases h3.2 with ⟨e2,e3⟩ | ⟨g,cap,cur,e2,hb,e3,e4,e5,e6,e7⟩
 ·have hz:zs=[]:=by simpa using e3
  subst hz
  rw [e2] at fin ⊢
  refine (Any.slices_Compact_int_empty Ly none 0 w).mono ?_
  rintro e w' ⟨rfl,rfl⟩
  refine fin _ _ ⟨rfl,rfl,rfl,Nat.le_refl _,fun _ _ _=>rfl⟩ rfl ?_
  rw [hr2]
  exact World.ownsRow_nil _ _ _ _
 ·have e4':zs.length≤cap:=by simpa using e4
  rw [e2] at fin ⊢
  simp only [List.length_map]
  rw [Nat.mul_one,List.length_map] at e7
  rw [hfl] at e7
  refine (Any.slices_Compact_int Ly g 0 cap zs w (holds_of_blockI e3 e7) (by omega) e4').mono ?_
  rintro e w' ⟨rfl,n,rfl⟩
  have hgr:=grownBy_sortedI (w:=w) (g:=g) (n:=n) (os:= #[]) (Lib.compact zs++List.replicate (zs.length-(Lib.compact zs).length) 0).toArray
  have hhp:=heap_sortedI (w:=w) (g:=g) (n:=n) (os:= #[]) (Lib.compact zs++List.replicate (zs.length-(Lib.compact zs).length) 0).toArray e3
  rw [Sort.grow_empty] at hgr hhp
  refine fin _ _ hgr rfl ⟨by rw [hr2];simp,.inr ⟨g,cap,_,rfl,hb,hhp,by omega,e5,by simp [Sort.putCells,e6],?_⟩⟩
  have htk:=take_putCellsI cur (Lib.compact zs++List.replicate (zs.length-(Lib.compact zs).length) 0) (by simp;omega)
  rw [hr2,Nat.mul_one]
  have:=congrArg (List.take (Lib.compact zs).length) htk
  rw [List.take_take,List.map_append,List.take_append_of_le_length (by simp)] at this
  rw [Nat.min_eq_left (by simp)] at this
  rw [this,List.take_of_length_le (by simp)]
theorem V_compact {ρ:Shelf.Ren} (Ly:Lays2.n20 c.P ρ) {d:Option Nat} {g:Option (Nat×Bool)} {l:List EOp} {j T f:Nat} {x:X} (zs:List Int) (hg:gm S g) (hf:f=ρ.f 20) (hx:S.x x = .osl j) (hj:Zf S.ss j=some ⟨T,1,zs.map Z05⟩) (hlen:zs.length<4611686018427387904)
  (h:V c fn K (.ops l::k) ((⟨S.tm,S.bs,Zg S.ss j none++[some ⟨T,1,(Lib.compact zs).map Z05⟩]⟩:St).put d (.osl (Zj S.ss)))):V c fn K (.ops (⟨d,g,.call f [x]⟩::l)::k) S:=by
 subst hf
 exact Zw2 hg (sem_compact Ly hx hj hlen) rfl h
end
end NX
end Go.Proofs.YtacfbmldajmjiaaGreat
/-
  The function narthex/set.Of: its code compiled, a model, and that the code answers as the model. Written by a program of ours (lb.py). No statement of the seat is proved here.
-/
namespace Go.Proofs.YtacfbmldajmjiaaGreat
namespace NX
open Go
set_option maxRecDepth 100000
def laysSort_ren:Go.Shelf.Ren:=⟨(fun | 189=>147 | 125=>164 | 257=>163 | 128=>192 | 129=>193 | 294=>183 | 295=>184 | 296=>185 | 297=>186 | 298=>187 | 299=>188 | 216=>189 | 300=>190 | 301=>191 | 328=>198 | 329=>199 | 330=>200 | 331=>201 | 332=>202 | 215=>197 | 343=>203 | n=>n),(fun | 28=>26 | 3=>3 | 46=>182 | 0=>0 | 51=>198 | 53=>201 | 4=>4 | 183=>212 | 182=>211 | 131=>217 | 5=>5 | 9=>9 | 218=>223 | 222=>227 | 228=>229 | 229=>230 | n=>n),(fun | n=>n)⟩
theorem laysSort:Lays.n189 Tryz.prog laysSort_ren where
 mixed:=by kernel_rfl
 f125:=Tryz.func164.trans (congrArg some (by kernel_rfl))
 f128:=Tryz.func192.trans (congrArg some (by kernel_rfl))
 f129:=Tryz.func193.trans (congrArg some (by kernel_rfl))
 f189:=Tryz.func147.trans (congrArg some (by kernel_rfl))
 f215:=Tryz.func197.trans (congrArg some (by kernel_rfl))
 f216:=Tryz.func189.trans (congrArg some (by kernel_rfl))
 f257:=Tryz.func163.trans (congrArg some (by kernel_rfl))
 f294:=Tryz.func183.trans (congrArg some (by kernel_rfl))
 f295:=Tryz.func184.trans (congrArg some (by kernel_rfl))
 f296:=Tryz.func185.trans (congrArg some (by kernel_rfl))
 f297:=Tryz.func186.trans (congrArg some (by kernel_rfl))
 f298:=Tryz.func187.trans (congrArg some (by kernel_rfl))
 f299:=Tryz.func188.trans (congrArg some (by kernel_rfl))
 f300:=Tryz.func190.trans (congrArg some (by kernel_rfl))
 f301:=Tryz.func191.trans (congrArg some (by kernel_rfl))
 f328:=Tryz.func198.trans (congrArg some (by kernel_rfl))
 f329:=Tryz.func199.trans (congrArg some (by kernel_rfl))
 f330:=Tryz.func200.trans (congrArg some (by kernel_rfl))
 f331:=Tryz.func201.trans (congrArg some (by kernel_rfl))
 f332:=Tryz.func202.trans (congrArg some (by kernel_rfl))
 f343:=Tryz.func203.trans (congrArg some (by kernel_rfl))
 t0:=Tryz.underlying0
 a0:=Tryz.isAgg0
 z0:=Tryz.sizeOf0
 v0:=Tryz.zeroValue0
 t3:=Tryz.underlying3
 a3:=Tryz.isAgg3
 z3:=Tryz.sizeOf3
 v3:=Tryz.zeroValue3
 t4:=Tryz.underlying4
 a4:=Tryz.isAgg4
 z4:=Tryz.sizeOf4
 v4:=Tryz.zeroValue4
 t5:=Tryz.underlying5
 a5:=Tryz.isAgg5
 z5:=Tryz.sizeOf5
 v5:=Tryz.zeroValue5
 t9:=Tryz.underlying9
 a9:=Tryz.isAgg9
 z9:=Tryz.sizeOf9
 v9:=Tryz.zeroValue9
 t28:=Tryz.underlying26
 a28:=Tryz.isAgg26
 z28:=Tryz.sizeOf26
 v28:=Tryz.zeroValue26
 t46:=Tryz.underlying182
 a46:=Tryz.isAgg182
 z46:=Tryz.sizeOf182
 v46:=Tryz.zeroValue182
 t51:=Tryz.underlying198
 a51:=Tryz.isAgg198
 z51:=Tryz.sizeOf198
 v51:=Tryz.zeroValue198
 t53:=Tryz.underlying201
 a53:=Tryz.isAgg201
 z53:=Tryz.sizeOf201
 v53:=Tryz.zeroValue201
 t131:=Tryz.underlying217
 a131:=Tryz.isAgg217
 z131:=Tryz.sizeOf217
 v131:=Tryz.zeroValue217
 t182:=Tryz.underlying211
 a182:=Tryz.isAgg211
 z182:=Tryz.sizeOf211
 v182:=Tryz.zeroValue211
 t183:=Tryz.underlying212
 a183:=Tryz.isAgg212
 z183:=Tryz.sizeOf212
 v183:=Tryz.zeroValue212
 t218:=Tryz.underlying223
 a218:=Tryz.isAgg223
 z218:=Tryz.sizeOf223
 v218:=Tryz.zeroValue223
 t222:=Tryz.underlying227
 a222:=Tryz.isAgg227
 z222:=Tryz.sizeOf227
 v222:=Tryz.zeroValue227
 t228:=Tryz.underlying229
 a228:=Tryz.isAgg229
 z228:=Tryz.sizeOf229
 v228:=Tryz.zeroValue229
 t229:=Tryz.underlying230
 a229:=Tryz.isAgg230
 z229:=Tryz.sizeOf230
 v229:=Tryz.zeroValue230
def Z5e:Go.Shelf.Ren:=⟨(fun | 20=>148 | n=>n),(fun | 22=>26 | 3=>3 | 4=>4 | 0=>0 | n=>n),(fun | n=>n)⟩
theorem laysCompact:Lays2.n20 Tryz.prog Z5e where
 mixed:=by kernel_rfl
 f20:=Tryz.func148.trans (congrArg some (by kernel_rfl))
 t0:=Tryz.underlying0
 a0:=Tryz.isAgg0
 z0:=Tryz.sizeOf0
 v0:=Tryz.zeroValue0
 t3:=Tryz.underlying3
 a3:=Tryz.isAgg3
 z3:=Tryz.sizeOf3
 v3:=Tryz.zeroValue3
 t4:=Tryz.underlying4
 a4:=Tryz.isAgg4
 z4:=Tryz.sizeOf4
 v4:=Tryz.zeroValue4
 t22:=Tryz.underlying26
 a22:=Tryz.isAgg26
 z22:=Tryz.sizeOf26
 v22:=Tryz.zeroValue26
 i3:=by kernel_rfl
def e123:EC:=.seq (.reg [(Qa 2 (.mv (.c .nl)))]) (.seq (.reg [(Qa 4 (.mv (.t 0))),(Qa 5 (.call 136 [(.t 4)])),(Qa 3 (.mv (.t 5)))]) (.seq (.reg [(Qa 6 (.mv (.t 3))),(Qa 7 (.call 147 [(.t 6)]))]) (.seq (.reg [(Qa 8 (.mv (.t 3))),(Qa 9 (.call 148 [(.t 8)])),(Qa 2 (.mv (.t 9)))]) (.ret))))
theorem ok123:FnOK Tryz.prog 123 Tryz.f123 e123 [.t 2] 1 9:=⟨by kernel_rfl,⟨_,rfl,by kernel_rfl⟩,by kernel_rfl,by kernel_rfl⟩
noncomputable def Z6e (x1:List Int):Option (List Int):=
 (Zbb x1).bind fun x2=>
 ifb (decide (x2.length<4611686018427387904)) (
 some (Lib.compact (x2.mergeSort fun x y=>decide (x≤y)))) none
theorem k_set_Of (x1:List Int) (r:List Int) (h:Z6e x1=some r):Zq2 Tryz.prog 123 [.sl 1 (List.map Z05 x1)] (.sl 1 (List.map Z05 r)):=by
 refine Zu2 ok123 rfl rfl fun w0 H0=>?_
 rw [Z6e] at h
 refine Zl2 100 ?_
 dsimp only [e123,go_sem]
 refine ⟨by simp,?_⟩
 obtain ⟨x2,ex2,h⟩:=Option.bind_eq_some_iff.1 h
 refine Za5 trivial (Zcb x1 _ ex2) (by first | exact Zb4 _ | simp [go_sem]) (by first | rfl | simp [go_sem]) ?_
 refine Zl2 100 ?_
 dsimp only [e123,go_sem]
 refine ⟨by simp,?_⟩
 by_cases hl:x2.length<4611686018427387904
 ·rw [show decide (x2.length<4611686018427387904)=true from decide_eq_true hl] at h
  have h:some (Lib.compact (x2.mergeSort fun x y=>decide (x≤y)))=some r:=h
  refine V_sort laysSort x2 trivial (by kernel_rfl) rfl rfl hl ?_
  refine Zl2 100 ?_
  dsimp only [e123,go_sem]
  refine ⟨by simp,?_⟩
  refine V_compact laysCompact (x2.mergeSort fun x y=>decide (x≤y)) trivial (by kernel_rfl) rfl rfl (by simpa using hl) ?_
  refine Zl2 100 ?_
  dsimp only [e123,go_sem]
  refine ⟨by simp,?_⟩
  refine Z83 1 rfl ?_
  dsimp only [go_sem]
  exact Zt4 (res:=fun (r:List Int)=>.sl 1 (List.map Z05 r)) ok123 h (by first | exact le_refl _ | simp [go_sem])
 ·rw [show decide (x2.length<4611686018427387904)=false from decide_eq_false hl] at h
  cases h
set_option maxRecDepth 100000
set_option maxHeartbeats 4000000
def Z7e:EC:=.seq (.reg [(Qa 15 (.bin .lss (.t 14) (.t 13)))]) (.seq (.ite (.t 15) (.skip) (.exit 0)) (.seq (.blk 1 (.seq (.reg [(Qa 16 (.idx 2 (.t 12) (.t 14))),(Qa 17 (.loadA 2 (.t 16))),(Qa 7 (.alloc 30 [.iv 0,.iv 0])),(Qb (.store 2 (.t 7) (.t 17)))]) (.seq (.reg [(Qa 18 (.mv (.t 1)))]) (.blk 2 (.seq (.reg [(Qa 20 (.fld 0 (.t 7))),(Qa 21 (.load (.t 20))),(Qa 22 (.bin .eql (.t 18) (.t 21))),(Qa 19 (.mv (.t 22)))]) (.ite (.t 19) (.reg [(Qa 23 (.mv (.t 5))),(Qa 24 (.fld 1 (.t 7))),(Qa 25 (.load (.t 24))),(Qa 26 (.bsl 3 1 1 [.iv 0] [(0,(.t 25))])),(Qa 27 (.app 3 1 8 (.t 23) (.t 26))),(Qa 5 (.mv (.t 27)))]) (.seq (.reg [(Qa 29 (.fld 1 (.t 7))),(Qa 30 (.load (.t 29))),(Qa 31 (.bin .eql (.t 18) (.t 30))),(Qa 28 (.mv (.t 31)))]) (.ite (.t 28) (.reg [(Qa 32 (.mv (.t 5))),(Qa 33 (.fld 0 (.t 7))),(Qa 34 (.load (.t 33))),(Qa 35 (.bsl 3 1 1 [.iv 0] [(0,(.t 34))])),(Qa 36 (.app 3 1 8 (.t 32) (.t 35))),(Qa 5 (.mv (.t 36)))]) (.skip))))))))) (.reg [(Qa 37 (.bin .add (.t 14) (.c (.iv 1)))),(Qa 14 (.mv (.t 37)))])))
def e152:EC:=.seq (.reg [(Qa 2 (.box 53 2 (.t 0))),(Qa 4 (.mv (.c .nl)))]) (.seq (.seq (.reg [(Qa 8 (.loadA 2 (.t 2))),(Qa 9 (.call 144 [(.t 8)])),(Qa 10 (.bin .neq (.t 9) (.c (.iv 0))))]) (.ite (.t 10) (.seq (.reg [(Qa 4 (.mv (.c .nl)))]) (.ret)) (.skip))) (.seq (.reg [(Qa 5 (.mv (.c .nl)))]) (.seq (.seq (.reg [(Qa 11 (.fld 1 (.t 2))),(Qa 12 (.load (.t 11))),(Qa 13 (.len (.t 12))),(Qa 14 (.mv (.c (.iv 0))))]) (.blk 0 (.loop Z7e))) (.seq (.reg [(Qa 38 (.mv (.t 5))),(Qa 39 (.call 123 [(.t 38)])),(Qa 4 (.mv (.t 39)))]) (.ret)))))
theorem ok152:FnOK Tryz.prog 152 Tryz.f152 e152 [.t 4] 2 38:=⟨by kernel_rfl,⟨_,rfl,by kernel_rfl⟩,by kernel_rfl,by kernel_rfl⟩
noncomputable def Z8e:(List Int)→Option (List Int)
| x23=>
 (Z6e x23).bind fun x24=>
 some x24
noncomputable def Z9e (x10:Int):(List Int)→Option ((Int×(List Int)) ⊕ (List Int))
| x15=>
 some (.inl (wr (x10+1),x15))
noncomputable def Zae (x1:Graph) (x2:Int):(Int×(List Int))→Option ((Int×(List Int)) ⊕ (List Int))
| (x10,x11)=>
 ifb (decide (x10<(ln Edge.row x1.Edges))) (
 (at_ x1.Edges x10).bind fun x12=>
 ifb (decide (x2=x12.A)) (
 (Zc4 8 x11 ([x12.B])).bind fun x13=>
 (Z9e x10) x13) (
 ifb (decide (x2=x12.B)) (
 (Zc4 8 x11 ([x12.A])).bind fun x14=>
 (Z9e x10) x14) (
 (Z9e x10) x11))) (
 Option.map Sum.inr (Z8e x11))
noncomputable def Zbe (x1:Graph) (x2:Int):Option (List Int):=
 (Zm7 x1).bind fun x3=>
 ifb (!decide (x3=0)) (
 some ([]:(List Int))) (
 loop (Zae x1 x2) (0,([]:List Int)))
theorem Zce (x1:Graph) (x2:Int) (r:(List Int)) (h:Zbe x1 x2=some r):Zq2 Tryz.prog 152 [.agg (Graph.row x1),.iv x2] (.sl 1 (List.map Z05 r)):=by
 refine Zu2 ok152 rfl rfl fun w0 H0=>?_
 rw [Zbe] at h
 refine Zl2 9 ?_;dsimp only [e152,Z7e,go_sem];refine ⟨by simp,?_⟩;obtain ⟨x3,ex3,h⟩:=Option.bind_eq_some_iff.1 h;refine Zz2 trivial (Zn7 x1 _ ex3) (h:=?_);refine Zl2 2 ?_;dsimp only [e152,Z7e,go_sem];refine ⟨by simp,?_⟩;refine Zk4 h rfl (fun _ h=>?_) fun _ h=>?_
 ·refine Zl2 4 ?_;dsimp only [e152,Z7e,go_sem];refine ⟨by simp,?_⟩;exact Zt4 (res:=fun (r:(List Int))=>.sl 1 (List.map Z05 r)) ok152 h
 ·refine Zl2 13 ?_;dsimp only [e152,Z7e,go_sem];refine ⟨by simp,?_⟩;refine Zi4 (fun (x23:(List Int))=>(⟨(an 5 (.osl 0::an 34 [])),[],[some ⟨3,1,List.map Z05 x23⟩]⟩:St)) Z8e r ?_ fun J1=>?_
  ·intro x23 h;rw [Z8e] at h;(try dsimp only);refine Zl2 3 ?_;dsimp only [e152,Z7e,go_sem];refine ⟨by simp,?_⟩;refine Z83 0 rfl ?_;dsimp only [go_sem];obtain ⟨x24,ex24,h⟩:=Option.bind_eq_some_iff.1 h;refine Zz2 trivial (k_set_Of x23 _ ex24) (h:=?_);refine Zl2 2 ?_;dsimp only [e152,Z7e,go_sem];refine ⟨by simp,?_⟩;exact Zt4 (res:=fun (r:(List Int))=>.sl 1 (List.map Z05 r)) ok152 h
  ·refine Zl2 1 ?_;dsimp only [e152,Z7e,go_sem];refine ⟨by simp,?_⟩;refine V_own 5 3 1 rfl rfl ?_;dsimp only [go_sem];refine Zj4 h (fun ((x10,x11):(Int×(List Int)))=>(⟨(.any :: .iv x2::an 3 (.osl 0::an 6 (.sl 2 (List.map Edge.row x1.Edges) :: .iv (ln Edge.row x1.Edges) :: .iv x10::an 25 []))),[],[some ⟨3,1,List.map Z05 x11⟩]⟩:St)) (by simp [go_sem]) (by rintro ⟨x10,x11⟩;first | rfl | simp [go_sem]) ?_;rintro n1 ⟨x10,x11⟩ y1 h hin1 hout1;rw [Zae] at h;(try dsimp only);refine Zl2 5 ?_;dsimp only [e152,Z7e,go_sem]
   refine ⟨by simp,?_⟩;refine Zk4 h rfl (fun _ h=>?_) fun _ h=>?_
   ·refine Zl2 5 ?_;dsimp only [e152,Z7e,go_sem];refine ⟨by simp,?_⟩;obtain ⟨x12,ex12,h⟩:=Option.bind_eq_some_iff.1 h;refine Zn4 Edge.row ex12 trivial rfl rfl rfl ?_;refine Zl2 16 ?_;dsimp only [e152,Z7e,go_sem];refine ⟨by simp,?_⟩;refine Zi4 (fun (x15:(List Int))=>(⟨(.any :: .iv x2::an 3 (.osl 0::an 6 (.sl 2 (List.map Edge.row x1.Edges) :: .iv (ln Edge.row x1.Edges) :: .iv x10::an 25 []))),[],[some ⟨3,1,List.map Z05 x15⟩]⟩:St)) (Z9e x10) y1 ?_ fun J2=>?_
    ·intro x15 h;rw [Z9e] at h;(try dsimp only);refine Zl2 6 ?_;dsimp only [e152,Z7e,go_sem];refine ⟨by simp,?_⟩;exact Zu4 h hin1
    ·refine Zk4 h rfl (fun _ h=>?_) fun _ h=>?_
     ·refine Zl2 5 ?_;dsimp only [e152,Z7e,go_sem];refine ⟨by simp,?_⟩;obtain ⟨x13,ex13,h⟩:=Option.bind_eq_some_iff.1 h;refine Zq4 Z05 ex13 trivial rfl rfl rfl ?_;refine Zl2 2 ?_;dsimp only [e152,Z7e,go_sem];refine ⟨by simp,?_⟩;refine Z54 2 0 rfl rfl rfl ?_;dsimp only [go_sem];exact Zv4 J2 (s:=x13) h
     ·refine Zl2 7 ?_;dsimp only [e152,Z7e,go_sem];refine ⟨by simp,?_⟩;refine Zk4 h rfl (fun _ h=>?_) fun _ h=>?_
      ·refine Zl2 5 ?_;dsimp only [e152,Z7e,go_sem];refine ⟨by simp,?_⟩;obtain ⟨x14,ex14,h⟩:=Option.bind_eq_some_iff.1 h;refine Zq4 Z05 ex14 trivial rfl rfl rfl ?_;refine Zl2 2 ?_;dsimp only [e152,Z7e,go_sem];refine ⟨by simp,?_⟩;refine Z54 2 0 rfl rfl rfl ?_;dsimp only [go_sem];exact Zv4 J2 (s:=x14) h
      ·refine Zl2 1 ?_;dsimp only [e152,Z7e,go_sem];refine ⟨by simp,?_⟩;exact Zv4 J2 (s:=x11) h
   ·refine Zl2 1 ?_;dsimp only [e152,Z7e,go_sem];refine ⟨by simp,?_⟩;exact Zv4 J1 (s:=x11) (Zh4 h hout1)
set_option maxRecDepth 100000
set_option maxHeartbeats 4000000
def Zde:EC:=.seq (.reg [(Qa 34 (.bin .lss (.t 33) (.t 32)))]) (.seq (.ite (.t 34) (.skip) (.exit 2)) (.seq (.blk 3 (.seq (.reg [(Qa 35 (.idx 1 (.t 31) (.t 33))),(Qa 36 (.load (.t 35))),(Qa 11 (.mv (.t 36)))]) (.seq (.drw [(Qa 37 (.mv (.t 1))),(Qa 38 (.mv (.t 8))),(Qa 39 (.idx 1 (.t 37) (.t 38))),(Qa 40 (.load (.t 39))),(Qa 41 (.mv (.t 1))),(Qa 42 (.mv (.t 11))),(Qa 43 (.idx 1 (.t 41) (.t 42))),(Qa 44 (.load (.t 43))),(Qa 45 (.bin .gtr (.t 40) (.t 44))),(Qa 12 (.mv (.t 45)))] [[],[],[0,1],[2],[],[],[4,5],[6],[3,7],[8,0,1,2,3,4,5,6,7,8]] [[2],[2],[0,1,3],[2,8],[6],[6],[4,5,7],[6,8],[3,7,9],[8]]) (.reg [(Qa 46 (.fld 2 (.t 9))),(Qa 47 (.load (.t 46))),(Qa 48 (.mv (.t 11))),(Qa 49 (.mv (.t 12))),(Qa 50 (.mv (.t 12))),(Qa 51 (.mv (.t 12))),(Qa 52 (.mv (.t 12))),(Qa 53 (.not (.t 52))),(Qa 54 (.mv (.t 12))),(Qa 55 (.not (.t 54))),(Qa 56 (.build [.iv 0,.iv 0,.iv 0,.ff,.ff,.ff,.ff,.ff] [(0,1,(.t 48)),(1,1,(.c (.iv 1))),(3,1,(.t 49)),(4,1,(.t 50)),(6,1,(.t 51)),(5,1,(.t 53)),(7,1,(.t 55))])),(Qa 57 (.bsl 66 8 1 [.iv 0,.iv 0,.iv 0,.ff,.ff,.ff,.ff,.ff] [(0,(.t 56))])),(Qa 58 (.app 66 8 32 (.t 47) (.t 57))),(Qa 59 (.fld 2 (.t 9))),(Qb (.store 1 (.t 59) (.t 58)))])))) (.reg [(Qa 60 (.bin .add (.t 33) (.c (.iv 1)))),(Qa 33 (.mv (.t 60)))])))
def Zee:EC:=.seq (.reg [(Qa 25 (.bin .lss (.t 24) (.t 23)))]) (.seq (.ite (.t 25) (.skip) (.exit 0)) (.seq (.blk 1 (.seq (.reg [(Qa 26 (.mv (.t 24))),(Qa 8 (.mv (.t 26)))]) (.seq (.reg [(Qa 27 (.mv (.t 8))),(Qa 28 (.build [.iv 0,.iv 0,.nl] [(0,1,(.t 27))])),(Qa 9 (.alloc 61 [.iv 0,.iv 0,.nl])),(Qb (.store 3 (.t 9) (.t 28)))]) (.seq (.seq (.reg [(Qa 29 (.loadA 2 (.t 2))),(Qa 30 (.mv (.t 8))),(Qa 31 (.call 152 [(.t 29),(.t 30)])),(Qa 32 (.len (.t 31))),(Qa 33 (.mv (.c (.iv 0))))]) (.blk 2 (.loop Zde))) (.reg [(Qa 61 (.mv (.t 7))),(Qa 62 (.loadA 3 (.t 9))),(Qa 63 (.bsl 61 3 1 [.iv 0,.iv 0,.nl] [(0,(.t 62))])),(Qa 64 (.app 61 3 40 (.t 61) (.t 63))),(Qa 7 (.mv (.t 64)))]))))) (.reg [(Qa 65 (.bin .add (.t 24) (.c (.iv 1)))),(Qa 24 (.mv (.t 65)))])))
def Zfe:EC:=.seq (.reg [(Qa 2 (.box 53 2 (.t 0))),(Qa 4 (.mv (.c .nl))),(Qa 5 (.mv (.c (.iv 0))))]) (.seq (.seq (.reg [(Qa 13 (.loadA 2 (.t 2))),(Qa 14 (.call 144 [(.t 13)])),(Qa 6 (.mv (.t 14)))]) (.seq (.reg [(Qa 15 (.mv (.t 6))),(Qa 16 (.bin .neq (.t 15) (.c (.iv 0))))]) (.ite (.t 16) (.seq (.reg [(Qa 17 (.mv (.t 6))),(Qa 4 (.mv (.c .nl))),(Qa 5 (.mv (.t 17)))]) (.ret)) (.skip)))) (.seq (.seq (.reg [(Qa 18 (.loadA 2 (.t 2))),(Qa 19 (.mv (.t 1))),(Qa 20 (.call 151 [(.t 18),(.t 19)])),(Qa 21 (.not (.t 20)))]) (.ite (.t 21) (.seq (.reg [(Qa 4 (.mv (.c .nl))),(Qa 5 (.mv (.c (.iv 120))))]) (.ret)) (.skip))) (.seq (.reg [(Qa 7 (.mv (.c .nl)))]) (.seq (.seq (.reg [(Qa 22 (.fld 0 (.t 2))),(Qa 23 (.load (.t 22))),(Qa 24 (.mv (.c (.iv 0))))]) (.blk 0 (.loop Zee))) (.seq (.reg [(Qa 66 (.mv (.t 7))),(Qa 4 (.mv (.t 66))),(Qa 5 (.mv (.c (.iv 0))))]) (.ret))))))
theorem ok125:FnOK Tryz.prog 125 Tryz.f125 Zfe [.t 4,.t 5] 2 65:=⟨by kernel_rfl,⟨_,rfl,by kernel_rfl⟩,by kernel_rfl,by kernel_rfl⟩
noncomputable def Zge:(List Diner)→Option ((List Diner)×Int)
| x68=>
 some (x68,0)
noncomputable def Zhe (x31:Int) (x32:(List Diner)):(List Side)→Option ((Int×(List Diner)) ⊕ ((List Diner)×Int))
| x59=>
 (Zc4 40 x32 ([(Diner.mk x31 0 x59)])).bind fun x60=>
 some (.inl (wr (x31+1),x60))
noncomputable def Zie (x2:(List Int)) (x31:Int) (x32:(List Diner)) (x33:(List Int)):(Int×(List Side))→Option ((Int×(List Side)) ⊕ ((Int×(List Diner)) ⊕ ((List Diner)×Int)))
| (x40,x41)=>
 ifb (decide (x40<(ln Z05 x33))) (
 (at_ x33 x40).bind fun x42=>
 (at_ x2 x31).bind fun x43=>
 (at_ x2 x42).bind fun x44=>
 (Zc4 32 x41 ([(Side.mk x42 1 0 (decide (x44<x43)) (decide (x44<x43)) (!(decide (x44<x43))) (decide (x44<x43)) (!(decide (x44<x43))))])).bind fun x45=>
 some (.inl (wr (x40+1),x45))) (
 Option.map Sum.inr ((Zhe x31 x32) x41))
noncomputable def Zje (x1:Graph) (x2:(List Int)):(Int×(List Diner))→Option ((Int×(List Diner)) ⊕ ((List Diner)×Int))
| (x31,x32)=>
 ifb (decide (x31<x1.N)) (
 (Zbe x1 x31).bind fun x33=>
 loop (Zie x2 x31 x32 x33) (0,([]:List Side))) (
 Option.map Sum.inr (Zge x32))
noncomputable def Zke (x1:Graph) (x2:(List Int)):Option ((List Diner)×Int):=
 (Zm7 x1).bind fun x3=>
 ifb (!decide (x3=0)) (
 some (([]:(List Diner)),x3)) (
 (Zgd x1 x2).bind fun x4=>
 ifb (!x4) (
 some (([]:(List Diner)),120)) (
 loop (Zje x1 x2) (0,([]:List Diner))))
theorem k_place_Table (x1:Graph) (x2:(List Int)) (r:((List Diner)×Int)) (h:Zke x1 x2=some r):Zq2 Tryz.prog 125 [.agg (Graph.row x1),.sl 1 (List.map Z05 x2)] (.tup [.sl 3 (List.map Diner.row r.1),.iv r.2]):=by
 refine Zu2 ok125 rfl rfl fun w0 H0=>?_
 rw [Zke] at h
 refine Zl2 10 ?_;dsimp only [Zfe,Zee,Zde,go_sem];refine ⟨by simp,?_⟩;obtain ⟨x3,ex3,h⟩:=Option.bind_eq_some_iff.1 h;refine Zz2 trivial (Zn7 x1 _ ex3) (h:=?_);refine Zl2 7 ?_;dsimp only [Zfe,Zee,Zde,go_sem];refine ⟨by simp,?_⟩;refine Zk4 h rfl (fun _ h=>?_) fun _ h=>?_
 ·refine Zl2 6 ?_;dsimp only [Zfe,Zee,Zde,go_sem];refine ⟨by simp,?_⟩;exact Zt4 (res:=fun (r:((List Diner)×Int))=>.tup [.sl 3 (List.map Diner.row r.1),.iv r.2]) ok125 h
 ·refine Zl2 6 ?_;dsimp only [Zfe,Zee,Zde,go_sem];refine ⟨by simp,?_⟩;obtain ⟨x4,ex4,h⟩:=Option.bind_eq_some_iff.1 h;refine Zz2 trivial (Zhd x1 x2 _ ex4) (h:=?_);refine Zl2 2 ?_;dsimp only [Zfe,Zee,Zde,go_sem];refine ⟨by simp,?_⟩;refine Zk4 h rfl (fun _ h=>?_) fun _ h=>?_
  ·refine Zl2 5 ?_;dsimp only [Zfe,Zee,Zde,go_sem];refine ⟨by simp,?_⟩;exact Zt4 (res:=fun (r:((List Diner)×Int))=>.tup [.sl 3 (List.map Diner.row r.1),.iv r.2]) ok125 h
  ·refine Zl2 12 ?_;dsimp only [Zfe,Zee,Zde,go_sem];refine ⟨by simp,?_⟩;refine Zi4 (fun (x68:(List Diner))=>(⟨(an 7 (.osl 0::an 59 [])),[],[some ⟨61,3,List.map Diner.row x68⟩]⟩:St)) Zge r ?_ fun J1=>?_
   ·intro x68 h;rw [Zge] at h;(try dsimp only);refine Zl2 6 ?_;dsimp only [Zfe,Zee,Zde,go_sem];refine ⟨by simp,?_⟩;refine Z83 0 rfl ?_;dsimp only [go_sem];exact Zt4 (res:=fun (r:((List Diner)×Int))=>.tup [.sl 3 (List.map Diner.row r.1),.iv r.2]) ok125 h
   ·refine Zl2 1 ?_;dsimp only [Zfe,Zee,Zde,go_sem];refine ⟨by simp,?_⟩;refine V_own 7 61 3 rfl rfl ?_;dsimp only [go_sem];refine Zj4 h (fun ((x31,x32):(Int×(List Diner)))=>(⟨(.any :: .sl 1 (List.map Z05 x2) :: .ptr 0 0::an 4 (.osl 0::an 15 (.iv x1.N :: .iv x31::an 42 []))),[some ⟨53,[.iv x1.N,.sl 2 (List.map Edge.row x1.Edges)]⟩],[some ⟨61,3,List.map Diner.row x32⟩]⟩:St)) (by simp [go_sem]) (by rintro ⟨x31,x32⟩;first | rfl | simp [go_sem]) ?_;rintro n1 ⟨x31,x32⟩ y1 h hin1 hout1;rw [Zje] at h;(try dsimp only);refine Zl2 5 ?_
    dsimp only [Zfe,Zee,Zde,go_sem];refine ⟨by simp,?_⟩;refine Zk4 h rfl (fun _ h=>?_) fun _ h=>?_
    ·refine Zl2 20 ?_;dsimp only [Zfe,Zee,Zde,go_sem];refine ⟨by simp,?_⟩;obtain ⟨x33,ex33,h⟩:=Option.bind_eq_some_iff.1 h;refine Zz2 trivial (Zce x1 x31 _ ex33) (h:=?_);refine Zl2 3 ?_;dsimp only [Zfe,Zee,Zde,go_sem];refine ⟨by simp,?_⟩
     refine Zi4 (fun (x59:(List Side))=>(⟨(.any :: .sl 1 (List.map Z05 x2) :: .ptr 0 0::an 4 (.osl 0 :: .any :: .ptr 1 0::an 13 (.iv x1.N :: .iv x31::an 42 []))),[some ⟨53,[.iv x1.N,.sl 2 (List.map Edge.row x1.Edges)]⟩,some ⟨61,[.iv x31,.iv 0,.osl 1]⟩],[some ⟨61,3,List.map Diner.row x32⟩,some ⟨66,8,List.map Side.row x59⟩]⟩:St)) (Zhe x31 x32) y1 ?_ fun J2=>?_
     ·intro x59 h;rw [Zhe] at h;(try dsimp only);refine Zl2 3 ?_;dsimp only [Zfe,Zee,Zde,go_sem];refine ⟨by simp,?_⟩;refine Z83 1 rfl ?_;dsimp only [go_sem];refine Zl2 1 ?_;dsimp only [Zfe,Zee,Zde,go_sem];refine ⟨by simp,?_⟩;obtain ⟨x60,ex60,h⟩:=Option.bind_eq_some_iff.1 h;refine Zq4 Diner.row ex60 trivial rfl rfl rfl ?_;refine Zl2 7 ?_;dsimp only [Zfe,Zee,Zde,go_sem];refine ⟨by simp,?_⟩;refine Z54 3 0 rfl rfl rfl ?_;dsimp only [go_sem];exact Zu4 h hin1
     ·refine Zl2 1 ?_;dsimp only [Zfe,Zee,Zde,go_sem];refine ⟨by simp,?_⟩;refine Z64 1 2 66 8 rfl rfl rfl ?_;dsimp only [go_sem]
      refine Zj4 h (fun ((x40,x41):(Int×(List Side)))=>(⟨(.any :: .sl 1 (List.map Z05 x2) :: .ptr 0 0::an 4 (.osl 0 :: .iv x31 :: .ptr 1 0::an 13 (.iv x1.N :: .iv x31::an 6 (.sl 1 (List.map Z05 x33) :: .iv (ln Z05 x33) :: .iv x40::an 33 [])))),[some ⟨53,[.iv x1.N,.sl 2 (List.map Edge.row x1.Edges)]⟩,some ⟨61,[.iv x31,.iv 0,.osl 1]⟩],[some ⟨61,3,List.map Diner.row x32⟩,some ⟨66,8,List.map Side.row x41⟩]⟩:St)) (by simp [go_sem]) (by rintro ⟨x40,x41⟩;first | rfl | simp [go_sem]) ?_;rintro n2 ⟨x40,x41⟩ y2 h hin2 hout2;rw [Zie] at h
      (try dsimp only);refine Zl2 5 ?_;dsimp only [Zfe,Zee,Zde,go_sem];refine ⟨by simp,?_⟩;refine Zk4 h rfl (fun _ h=>?_) fun _ h=>?_
      ·refine Zl2 5 ?_;dsimp only [Zfe,Zee,Zde,go_sem];refine ⟨by simp,?_⟩;obtain ⟨x42,ex42,h⟩:=Option.bind_eq_some_iff.1 h;refine Zn4 Z05 ex42 trivial rfl rfl rfl ?_;refine Zl2 4 ?_;dsimp only [Zfe,Zee,Zde,go_sem];refine ⟨by simp,?_⟩;refine Zh3 (by kernel_rfl) fun all hall hs hnap haf=>?_;dsimp only [go_sem];refine Zf5 hall hs haf hnap 4 6 ?_;dsimp only [go_sem];refine ⟨by simp,?_⟩;obtain ⟨x43,ex43,h⟩:=Option.bind_eq_some_iff.1 h;refine Zo4 hall hs haf hnap 2 Z05 ex43 rfl rfl trivial rfl rfl rfl rfl ?_
       refine Zf5 hall hs haf hnap 1 4 ?_;dsimp only [go_sem];refine ⟨by simp,?_⟩;obtain ⟨x44,ex44,h⟩:=Option.bind_eq_some_iff.1 h;refine Zo4 hall hs haf hnap 6 Z05 ex44 rfl rfl trivial rfl rfl rfl rfl ?_;refine Zf5 hall hs haf hnap 3 0 ?_;dsimp only [go_sem];refine ⟨by simp,?_⟩;refine Zt3 rfl ?_ _;refine Zl2 13 ?_;dsimp only [Zfe,Zee,Zde,go_sem];refine ⟨by simp,?_⟩;obtain ⟨x45,ex45,h⟩:=Option.bind_eq_some_iff.1 h;refine Zq4 Side.row ex45 trivial rfl rfl rfl ?_;refine Zl2 8 ?_;dsimp only [Zfe,Zee,Zde,go_sem]
       refine ⟨by simp,?_⟩;refine Z54 3 1 rfl rfl rfl ?_;dsimp only [go_sem];exact Zu4 h hin2
      ·refine Zl2 1 ?_;dsimp only [Zfe,Zee,Zde,go_sem];refine ⟨by simp,?_⟩;exact Zv4 J2 (s:=x41) (Zh4 h hout2)
    ·refine Zl2 1 ?_;dsimp only [Zfe,Zee,Zde,go_sem];refine ⟨by simp,?_⟩;exact Zv4 J1 (s:=x32) (Zh4 h hout1)
set_option maxRecDepth 100000
set_option maxHeartbeats 4000000
def Zle:EC:=.seq (.seq (.reg [(Qa 19 (.mv (.t 8))),(Qa 20 (.fld 0 (.t 2))),(Qa 21 (.load (.t 20))),(Qa 22 (.bin .lss (.t 19) (.t 21)))]) (.ite (.t 22) (.skip) (.exit 2))) (.seq (.blk 3 (.seq (.seq (.reg [(Qa 25 (.loadA 2 (.t 2))),(Qa 26 (.mv (.t 6))),(Qa 27 (.mv (.t 8))),(Qa 28 (.call 39 [(.t 25),(.t 26),(.t 27)])),(Qa 29 (.not (.t 28)))]) (.ite (.t 29) (.exit 3) (.skip))) (.seq (.reg [(Qa 30 (.mv (.t 8))),(Qa 31 (.build [.iv 0,.iv 0,.iv 0,.ff,.ff,.ff,.ff,.ff] [(0,1,(.t 30)),(1,1,(.c (.iv 1)))])),(Qa 9 (.alloc 66 [.iv 0,.iv 0,.iv 0,.ff,.ff,.ff,.ff,.ff])),(Qb (.store 8 (.t 9) (.t 31)))]) (.seq (.seq (.drw [(Qa 32 (.mv (.t 1))),(Qa 33 (.mv (.t 6))),(Qa 34 (.idx 1 (.t 32) (.t 33))),(Qa 35 (.load (.t 34))),(Qa 36 (.mv (.t 1))),(Qa 37 (.mv (.t 8))),(Qa 38 (.idx 1 (.t 36) (.t 37))),(Qa 39 (.load (.t 38))),(Qa 40 (.bin .lss (.t 35) (.t 39)))] [[],[],[0,1],[2],[],[],[4,5],[6],[3,7]] [[2],[2],[0,1,3],[2,8],[6],[6],[4,5,7],[6,8],[3,7]]) (.ite (.t 40) (.reg [(Qa 41 (.fld 5 (.t 9))),(Qb (.store 1 (.t 41) (.c .tt))),(Qa 42 (.fld 7 (.t 9))),(Qb (.store 1 (.t 42) (.c .tt)))]) (.reg [(Qa 43 (.fld 3 (.t 9))),(Qb (.store 1 (.t 43) (.c .tt))),(Qa 44 (.fld 4 (.t 9))),(Qb (.store 1 (.t 44) (.c .tt))),(Qa 45 (.fld 6 (.t 9))),(Qb (.store 1 (.t 45) (.c .tt)))]))) (.reg [(Qa 46 (.fld 2 (.t 7))),(Qa 47 (.load (.t 46))),(Qa 48 (.loadA 8 (.t 9))),(Qa 49 (.bsl 66 8 1 [.iv 0,.iv 0,.iv 0,.ff,.ff,.ff,.ff,.ff] [(0,(.t 48))])),(Qa 50 (.app 66 8 32 (.t 47) (.t 49))),(Qa 51 (.fld 2 (.t 7))),(Qb (.store 1 (.t 51) (.t 50)))]))))) (.reg [(Qa 23 (.mv (.t 8))),(Qa 24 (.bin .add (.t 23) (.c (.iv 1)))),(Qa 8 (.mv (.t 24)))]))
def Zme:EC:=.seq (.seq (.reg [(Qa 11 (.mv (.t 6))),(Qa 12 (.fld 0 (.t 2))),(Qa 13 (.load (.t 12))),(Qa 14 (.bin .lss (.t 11) (.t 13)))]) (.ite (.t 14) (.skip) (.exit 0))) (.seq (.blk 1 (.seq (.reg [(Qa 17 (.mv (.t 6))),(Qa 18 (.build [.iv 0,.iv 0,.nl] [(0,1,(.t 17))])),(Qa 7 (.alloc 61 [.iv 0,.iv 0,.nl])),(Qb (.store 3 (.t 7) (.t 18)))]) (.seq (.seq (.reg [(Qa 8 (.mv (.c (.iv 0))))]) (.blk 2 (.loop Zle))) (.reg [(Qa 52 (.mv (.t 5))),(Qa 53 (.loadA 3 (.t 7))),(Qa 54 (.bsl 61 3 1 [.iv 0,.iv 0,.nl] [(0,(.t 53))])),(Qa 55 (.app 61 3 40 (.t 52) (.t 54))),(Qa 5 (.mv (.t 55)))])))) (.reg [(Qa 15 (.mv (.t 6))),(Qa 16 (.bin .add (.t 15) (.c (.iv 1)))),(Qa 6 (.mv (.t 16)))]))
def Zne:EC:=.seq (.reg [(Qa 2 (.box 53 2 (.t 0))),(Qa 4 (.mv (.c .nl)))]) (.seq (.reg [(Qa 10 (.bsl 61 3 0 [.iv 0,.iv 0,.nl] [])),(Qa 5 (.mv (.t 10)))]) (.seq (.seq (.reg [(Qa 6 (.mv (.c (.iv 0))))]) (.blk 0 (.loop Zme))) (.seq (.reg [(Qa 56 (.mv (.t 5))),(Qa 4 (.mv (.t 56)))]) (.ret))))
theorem ok127:FnOK Tryz.prog 127 Tryz.f127 Zne [.t 4] 2 55:=⟨by kernel_rfl,⟨_,rfl,by kernel_rfl⟩,by kernel_rfl,by kernel_rfl⟩
noncomputable def Zoe:(List Diner)→Option (List Diner)
| x64=>
 some x64
noncomputable def Zpe (x29:Int) (x30:(List Diner)):(List Side)→Option ((Int×(List Diner)) ⊕ (List Diner))
| x56=>
 (Zc4 40 x30 ([(Diner.mk x29 0 x56)])).bind fun x57=>
 some (.inl (wr (x29+1),x57))
noncomputable def Zqe (x39:Int):(List Side)→Option ((Int×(List Side)) ⊕ ((Int×(List Diner)) ⊕ (List Diner)))
| x46=>
 some (.inl (wr (x39+1),x46))
noncomputable def Zre (x39:Int) (x40:(List Side)):Side→Option ((Int×(List Side)) ⊕ ((Int×(List Diner)) ⊕ (List Diner)))
| x44=>
 (Zc4 32 x40 ([x44])).bind fun x45=>
 (Zqe x39) x45
noncomputable def Zse (x1:Graph) (x2:(List Int)) (x29:Int) (x30:(List Diner)):(Int×(List Side))→Option ((Int×(List Side)) ⊕ ((Int×(List Diner)) ⊕ (List Diner)))
| (x39,x40)=>
 ifb (decide (x39<x1.N)) (
 (Zwd x1 x29 x39).bind fun x41=>
 ifb (!x41) (
 (Zqe x39) x40) (
 (at_ x2 x29).bind fun x42=>
 (at_ x2 x39).bind fun x43=>
 ifb (decide (x42<x43)) (
 (Zre x39 x40) ((Side.mk x39 1 0 false false true false true))) (
 (Zre x39 x40) ((Side.mk x39 1 0 true true false true false))))) (
 Option.map Sum.inr ((Zpe x29 x30) x40))
noncomputable def Zte (x1:Graph) (x2:(List Int)):(Int×(List Diner))→Option ((Int×(List Diner)) ⊕ (List Diner))
| (x29,x30)=>
 ifb (decide (x29<x1.N)) (
 loop (Zse x1 x2 x29 x30) (0,([]:List Side))) (
 Option.map Sum.inr (Zoe x30))
noncomputable def Zue (x1:Graph) (x2:(List Int)):Option (List Diner):=
 loop (Zte x1 x2) (0,([]:List Diner))
theorem Zve (x1:Graph) (x2:(List Int)) (r:(List Diner)) (h:Zue x1 x2=some r):FunO Tryz.prog 127 [.agg (Graph.row x1),.sl 1 (List.map Z05 x2)] 61 3 (List.map Diner.row r):=by
 refine Z95 ok127 rfl fun w0 H0=>?_
 rw [Zue] at h
 refine Zl2 15 ?_;dsimp only [Zne,Zme,Zle,go_sem];refine ⟨by simp,?_⟩;refine Zi4 (fun (x64:(List Diner))=>(⟨(an 5 (.osl 0::an 51 [])),[],[some ⟨61,3,List.map Diner.row x64⟩]⟩:St)) Zoe r ?_ fun J1=>?_
 ·intro x64 h;rw [Zoe] at h;(try dsimp only);refine Zl2 5 ?_;dsimp only [Zne,Zme,Zle,go_sem];refine ⟨by simp,?_⟩;exact Zh5 Diner.row ok127 h rfl rfl
 ·refine Zl2 1 ?_;dsimp only [Zne,Zme,Zle,go_sem];refine ⟨by simp,?_⟩;refine Zj4 h (fun ((x29,x30):(Int×(List Diner)))=>(⟨(.any :: .sl 1 (List.map Z05 x2) :: .ptr 0 0 :: .any :: .any :: .osl 0 :: .iv x29::an 50 []),[some ⟨53,[.iv x1.N,.sl 2 (List.map Edge.row x1.Edges)]⟩],[some ⟨61,3,List.map Diner.row x30⟩]⟩:St)) (by simp [go_sem]) (by rintro ⟨x29,x30⟩;first | rfl | simp [go_sem]) ?_;rintro n1 ⟨x29,x30⟩ y1 h hin1 hout1;rw [Zte] at h;(try dsimp only);refine Zl2 8 ?_;dsimp only [Zne,Zme,Zle,go_sem]
  refine ⟨by simp,?_⟩;refine Zk4 h rfl (fun _ h=>?_) fun _ h=>?_
  ·refine Zl2 15 ?_;dsimp only [Zne,Zme,Zle,go_sem];refine ⟨by simp,?_⟩;refine Zi4 (fun (x56:(List Side))=>(⟨(.any :: .sl 1 (List.map Z05 x2) :: .ptr 0 0 :: .any :: .any :: .osl 0 :: .iv x29 :: .ptr 1 0::an 49 []),[some ⟨53,[.iv x1.N,.sl 2 (List.map Edge.row x1.Edges)]⟩,some ⟨61,[.iv x29,.iv 0,.osl 1]⟩],[some ⟨61,3,List.map Diner.row x30⟩,some ⟨66,8,List.map Side.row x56⟩]⟩:St)) (Zpe x29 x30) y1 ?_ fun J2=>?_
   ·intro x56 h;rw [Zpe] at h;(try dsimp only);refine Zl2 3 ?_;dsimp only [Zne,Zme,Zle,go_sem];refine ⟨by simp,?_⟩;refine Z83 1 rfl ?_;dsimp only [go_sem];refine Zl2 1 ?_;dsimp only [Zne,Zme,Zle,go_sem];refine ⟨by simp,?_⟩;obtain ⟨x57,ex57,h⟩:=Option.bind_eq_some_iff.1 h;refine Zq4 Diner.row ex57 trivial rfl rfl rfl ?_;refine Zl2 8 ?_;dsimp only [Zne,Zme,Zle,go_sem];refine ⟨by simp,?_⟩;refine Z54 3 0 rfl rfl rfl ?_;dsimp only [go_sem];exact Zu4 h hin1
   ·refine Zl2 1 ?_;dsimp only [Zne,Zme,Zle,go_sem];refine ⟨by simp,?_⟩;refine Z64 1 2 66 8 rfl rfl rfl ?_;dsimp only [go_sem];refine Zj4 h (fun ((x39,x40):(Int×(List Side)))=>(⟨(.any :: .sl 1 (List.map Z05 x2) :: .ptr 0 0 :: .any :: .any :: .osl 0 :: .iv x29 :: .ptr 1 0 :: .iv x39::an 48 []),[some ⟨53,[.iv x1.N,.sl 2 (List.map Edge.row x1.Edges)]⟩,some ⟨61,[.iv x29,.iv 0,.osl 1]⟩],[some ⟨61,3,List.map Diner.row x30⟩,some ⟨66,8,List.map Side.row x40⟩]⟩:St)) (by simp [go_sem]) (by rintro ⟨x39,x40⟩;first | rfl | simp [go_sem]) ?_
    rintro n2 ⟨x39,x40⟩ y2 h hin2 hout2;rw [Zse] at h;(try dsimp only);refine Zl2 8 ?_;dsimp only [Zne,Zme,Zle,go_sem];refine ⟨by simp,?_⟩;refine Zk4 h rfl (fun _ h=>?_) fun _ h=>?_
    ·refine Zl2 2 ?_;dsimp only [Zne,Zme,Zle,go_sem];refine ⟨by simp,?_⟩;refine Zi4 (fun (x46:(List Side))=>(⟨(.any :: .sl 1 (List.map Z05 x2) :: .ptr 0 0 :: .any :: .any :: .osl 0 :: .iv x29 :: .ptr 1 0 :: .iv x39::an 48 []),[some ⟨53,[.iv x1.N,.sl 2 (List.map Edge.row x1.Edges)]⟩,some ⟨61,[.iv x29,.iv 0,.osl 1]⟩],[some ⟨61,3,List.map Diner.row x30⟩,some ⟨66,8,List.map Side.row x46⟩]⟩:St)) (Zqe x39) y2 ?_ fun J3=>?_
     ·intro x46 h;rw [Zqe] at h;(try dsimp only);refine Zl2 5 ?_;dsimp only [Zne,Zme,Zle,go_sem];refine ⟨by simp,?_⟩;exact Zu4 h hin2
     ·refine Zl2 7 ?_;dsimp only [Zne,Zme,Zle,go_sem];refine ⟨by simp,?_⟩;obtain ⟨x41,ex41,h⟩:=Option.bind_eq_some_iff.1 h;refine Zz2 trivial (Zxd x1 x29 x39 _ ex41) (h:=?_);refine Zl2 2 ?_;dsimp only [Zne,Zme,Zle,go_sem];refine ⟨by simp,?_⟩;refine Zk4 h rfl (fun _ h=>?_) fun _ h=>?_
      ·refine Zl2 1 ?_;dsimp only [Zne,Zme,Zle,go_sem];refine ⟨by simp,?_⟩;exact Zv4 J3 (s:=x40) h
      ·refine Zl2 10 ?_;dsimp only [Zne,Zme,Zle,go_sem];refine ⟨by simp,?_⟩;refine Zh3 (by kernel_rfl) fun all hall hs hnap haf=>?_;dsimp only [go_sem];refine Zf5 hall hs haf hnap 4 5 ?_;dsimp only [go_sem];refine ⟨by simp,?_⟩;obtain ⟨x42,ex42,h⟩:=Option.bind_eq_some_iff.1 h;refine Zo4 hall hs haf hnap 2 Z05 ex42 rfl rfl trivial rfl rfl rfl rfl ?_;refine Zf5 hall hs haf hnap 1 3 ?_;dsimp only [go_sem];refine ⟨by simp,?_⟩;obtain ⟨x43,ex43,h⟩:=Option.bind_eq_some_iff.1 h
       refine Zo4 hall hs haf hnap 6 Z05 ex43 rfl rfl trivial rfl rfl rfl rfl ?_;refine Zf5 hall hs haf hnap 2 0 ?_;dsimp only [go_sem];refine ⟨by simp,?_⟩;refine Zt3 rfl ?_ _
       refine Zi4 (fun (x44:Side)=>(⟨(.any :: .sl 1 (List.map Z05 x2) :: .ptr 0 0 :: .any :: .any :: .osl 0 :: .iv x29 :: .ptr 1 0 :: .iv x39 :: .ptr 2 0::an 47 []),[some ⟨53,[.iv x1.N,.sl 2 (List.map Edge.row x1.Edges)]⟩,some ⟨61,[.iv x29,.iv 0,.osl 1]⟩,some ⟨66,[.iv x44.Peer,.iv x44.Epoch,.iv x44.State,.bv x44.Fork,.bv x44.Dirty,.bv x44.Token,.bv x44.Bottle,.bv x44.Ask]⟩],[some ⟨61,3,List.map Diner.row x30⟩,some ⟨66,8,List.map Side.row x40⟩]⟩:St)) (Zre x39 x40) y2 ?_ fun J4=>?_
       ·intro x44 h;rw [Zre] at h;(try dsimp only);refine Zl2 5 ?_;dsimp only [Zne,Zme,Zle,go_sem];refine ⟨by simp,?_⟩;obtain ⟨x45,ex45,h⟩:=Option.bind_eq_some_iff.1 h;refine Zq4 Side.row ex45 trivial rfl rfl rfl ?_;refine Zl2 4 ?_;dsimp only [Zne,Zme,Zle,go_sem];refine ⟨by simp,?_⟩;refine Z54 3 1 rfl rfl rfl ?_;dsimp only [go_sem];exact Zv4 J3 (s:=x45) h
       ·refine Zk4 h rfl (fun _ h=>?_) fun _ h=>?_
        ·refine Zl2 6 ?_;dsimp only [Zne,Zme,Zle,go_sem];refine ⟨by simp,?_⟩;exact Zv4 J4 (s:=(Side.mk x39 1 0 false false true false true)) h
        ·refine Zl2 8 ?_;dsimp only [Zne,Zme,Zle,go_sem];refine ⟨by simp,?_⟩;exact Zv4 J4 (s:=(Side.mk x39 1 0 true true false true false)) h
    ·refine Zl2 1 ?_;dsimp only [Zne,Zme,Zle,go_sem];refine ⟨by simp,?_⟩;exact Zv4 J2 (s:=x40) (Zh4 h hout2)
  ·refine Zl2 1 ?_;dsimp only [Zne,Zme,Zle,go_sem];refine ⟨by simp,?_⟩;exact Zv4 J1 (s:=x30) (Zh4 h hout1)
theorem k_narthexref12_Table (x1:Graph) (x2:(List Int)) (r:(List Diner)) (h:Zue x1 x2=some r):Zq2 Tryz.prog 127 [.agg (Graph.row x1),.sl 1 (List.map Z05 x2)] (.sl 3 (List.map Diner.row r)):=(Zve x1 x2 r h).sealed
theorem pw_ext {α:Type} {R:α→α→Prop} (irr:∀x,¬R x x) (asy:∀x y,R x y→¬R y x):∀ {l m:List α},l.Pairwise R→m.Pairwise R→(∀x,x∈l↔x∈m)→l=m
 | [],[],_,_,_=>rfl
 | [],y::m,_,_,h=>absurd ((h y).2 (by simp)) (by simp)
 | x::l,[],_,_,h=>absurd ((h x).1 (by simp)) (by simp)
 | x::l,y::m,hl,hm,h=>by
   rw [List.pairwise_cons] at hl hm
   have hxy:x=y:=by
    rcases List.mem_cons.1 ((h x).1 (by simp)) with e | e
    ·exact e
    ·rcases List.mem_cons.1 ((h y).2 (by simp)) with e2 | e2
     ·exact e2.symm
     ·exact absurd (hl.1 y e2) (asy _ _ (hm.1 x e))
   subst hxy
   rw [pw_ext irr asy hl.2 hm.2 fun z=>?_]
   constructor
   ·intro hz
    rcases List.mem_cons.1 ((h z).1 (List.mem_cons_of_mem _ hz)) with e | e
    ·subst e;exact absurd (hl.1 z hz) (irr z)
    ·exact e
   ·intro hz
    rcases List.mem_cons.1 ((h z).2 (List.mem_cons_of_mem _ hz)) with e | e
    ·subst e;exact absurd (hm.1 z hz) (irr z)
    ·exact e
theorem Edge.lt_trans {x y z:Edge} (h:x.lt y=true) (k:y.lt z=true):x.lt z=true:=by
 simp only [Edge.lt,Bool.or_eq_true,Bool.and_eq_true,decide_eq_true_eq] at *
 omega
theorem Edge.lt_irr (x:Edge):¬x.lt x=true:=by
 simp only [Edge.lt,Bool.or_eq_true,Bool.and_eq_true,decide_eq_true_eq]
 omega
theorem Zwe:∀ {l:List Edge},risB l=true→l.Pairwise fun x y=>x.lt y=true
 | [],_=>List.Pairwise.nil
 | [x],_=>by simp
 | x::y::l,h=>by
   simp only [risB,Bool.and_eq_true] at h
   have ih:=Zwe h.2
   refine List.pairwise_cons.2 ⟨?_,ih⟩
   intro z hz
   rcases List.mem_cons.1 hz with rfl | hz
   ·exact h.1
   ·exact Edge.lt_trans h.1 ((List.pairwise_cons.1 ih).1 z hz)
theorem okG_pw {g:Graph} (h:okG g=true):g.Edges.Pairwise fun x y=>x.lt y=true:=Zwe (Z28 h).2.2.2.2
def Zxe (a:Int) (e:Edge):Option Int:=if a=e.A then some e.B else if a=e.B then some e.A else none
def Zye (g:Graph) (a:Int):List Int:=g.Edges.filterMap (Zxe a)
theorem Zze {g:Graph} (h:okG g=true) (a:Int):(Zye g a).Pairwise (· < ·):=by
 unfold Zye
 rw [List.pairwise_filterMap]
 obtain ⟨_,_,_,h4,_⟩:=Z28 h
 refine List.Pairwise.imp_of_mem ?_ (okG_pw h)
 intro x y hx hy hxy b hb b' hb'
 have k1:=h4 x hx
 have k2:=h4 y hy
 simp only [Edge.lt,Bool.or_eq_true,Bool.and_eq_true,decide_eq_true_eq] at hxy
 unfold Zxe at hb hb'
 split at hb<;>split at hb'
 ·simp at hb hb';omega
 ·split at hb'
  ·simp at hb hb';omega
  ·simp at hb'
 ·split at hb
  ·simp at hb hb';omega
  ·simp at hb
 ·split at hb<;>split at hb'
  ·simp at hb hb';omega
  ·simp at hb'
  ·simp at hb
  ·simp at hb
theorem pw_chain {l:List Int} (h:l.Pairwise (· < ·)) {k:Nat} {x y:Int} (hx:l[k]?=some x) (hy:l[k+1]?=some y):x<y:=by
 rw [List.pairwise_iff_getElem] at h
 obtain ⟨h1,rfl⟩:=List.getElem?_eq_some_iff.1 hx
 obtain ⟨h2,rfl⟩:=List.getElem?_eq_some_iff.1 hy
 exact h k (k+1) h1 h2 (by omega)
theorem Z0f {l:List Int} (h:l.Pairwise (· < ·)):Lib.compact l=l:=by
 refine Lib.compact_all l fun j hj=>?_
 cases j with
 | zero=>exact Lib.keeps_lt_one _ 0 (by omega)
 | succ j=>
   have hx:l[j+1]?=some l[j+1]:=List.getElem?_eq_getElem hj
   have hy:l[j]?=some l[j]:=List.getElem?_eq_getElem (by omega)
   have:=pw_chain h hy hx
   refine Lib.keeps_pos ?_
   simp only [Nat.add_sub_cancel]
   rw [getElem!_pos _ _ (by simpa using hj),getElem!_pos _ _ (by simp;omega)]
   simp only [List.getElem_toArray]
   omega
def setL (l:List Int):List Int:=Lib.compact (l.mergeSort fun x y=>decide (x≤y))
theorem s_setL (l:List Int) (hl:l.length≤1000000):Z6e l=some (setL l):=by
 simp only [Z6e,Zbb]
 rw [Zh6 _ _ (by omega) (by simp;omega),Option.bind_some,List.nil_append,decide_eq_true (by omega),Zc6]
 rfl
theorem s_setOf (l:List Int) (hl:l.length≤1000000) (h:l.Pairwise (· < ·)):Z6e l=some l:=by
 rw [s_setL l hl]
 unfold setL
 rw [List.mergeSort_of_pairwise (h.imp fun hxy=>decide_eq_true (by omega)),Z0f h]
theorem Z1f (g:Graph) (a:Int):(Zye g a).length≤g.Edges.length:=List.length_filterMap_le _ _
theorem s_Near (g:Graph) (a:Int):Zbe g a=some (if okG g then Zye g a else []):=by
 simp only [Zbe,Z18,Option.bind_some]
 cases hg:okG g with
 | false=>rfl
 | true=>
   have h400:=(Z28 hg).2.2.1
   simp only [if_true,decide_true,Bool.not_true,Zd6]
   refine Zs8 g.Edges _ (fun pre=>((pre.length:Int),pre.filterMap (Zxe a))) (Zye g a) (fun pre e post h=>?_) ?_
   ·have hx:=Zt8 h
    have hm:=Zu8 h
    have hl:(pre.filterMap (Zxe a)).length≤pre.length:=List.length_filterMap_le _ _
    dsimp only [Zae]
    rw [Zi6 hx,Zc6,Zg6 hx,Option.bind_some,Zy8,List.filterMap_append]
    by_cases h1:a=e.A
    ·rw [decide_eq_true h1,Zc6,Zh6 _ _ (by omega) (by simp only [List.length_singleton];omega),Option.bind_some,Z9e,Zk6 (by omega)]
     simp [Zxe,h1]
    ·by_cases h2:a=e.B
     ·rw [decide_eq_false h1,Zd6,decide_eq_true h2,Zc6,Zh6 _ _ (by omega) (by simp only [List.length_singleton];omega),Option.bind_some,Z9e,Zk6 (by omega)]
      have:¬e.B=e.A:=fun e'=>h1 (h2.trans e')
      simp [Zxe,h2,this]
     ·rw [decide_eq_false h1,Zd6,decide_eq_false h2,Zd6,Z9e,Zk6 (by omega)]
      simp [Zxe,h1,h2]
   ·dsimp only [Zae]
    rw [Zj6,Zd6,Z8e]
    have:(g.Edges.filterMap (Zxe a))=Zye g a:=rfl
    rw [this,s_setOf _ (by have:=Z1f g a;omega) (Zze hg a)]
    rfl
theorem Z2f {g:Graph} (h:okG g=true) {a b:Int}:b∈Zye g a↔(⟨a,b⟩:Edge)∈g.Edges∨(⟨b,a⟩:Edge)∈g.Edges:=by
 obtain ⟨_,_,_,h4,_⟩:=Z28 h
 unfold Zye
 rw [List.mem_filterMap]
 constructor
 ·rintro ⟨e,he,hb⟩
  unfold Zxe at hb
  split at hb
  ·rename_i h1
   simp at hb;subst hb;subst h1;exact .inl he
  ·split at hb
   ·rename_i h2
    simp at hb;subst hb;subst h2;exact .inr he
   ·simp at hb
 ·rintro (he | he)
  ·exact ⟨_,he,by simp [Zxe]⟩
  ·have:=h4 _ he
   dsimp only at this
   exact ⟨_,he,by unfold Zxe;rw [if_neg (by dsimp only;omega),if_pos rfl]⟩
theorem hasB_iff {g:Graph} (h:okG g=true) {a b:Int}:hasB g a b=true↔b∈Zye g a:=by
 rw [Z2f h]
 obtain ⟨_,_,_,h4,_⟩:=Z28 h
 simp only [hasB,List.any_eq_true,Bool.or_eq_true,Bool.and_eq_true,decide_eq_true_eq]
 constructor
 ·rintro ⟨e,he,(⟨rfl,rfl,_⟩ | ⟨rfl,rfl,_⟩)⟩
  ·exact .inl he
  ·exact .inr he
 ·rintro (he | he)
  ·have:=h4 _ he;dsimp only at this
   exact ⟨_,he,.inl ⟨rfl,rfl,by omega⟩⟩
  ·have:=h4 _ he;dsimp only at this
   exact ⟨_,he,.inr ⟨rfl,rfl,by omega⟩⟩
theorem Z3f {g:Graph} (h:okG g=true) {a b:Int} (hb:b∈Zye g a):0≤b∧b<g.N∧b≠a∧0≤a∧a<g.N:=by
 obtain ⟨_,_,_,h4,_⟩:=Z28 h
 rcases (Z2f h).1 hb with he | he
 ·have:=h4 _ he;dsimp only at this;omega
 ·have:=h4 _ he;dsimp only at this;omega
def Z4f (c:List Int) (a b:Int):Side:=⟨b,1,0,decide (cg c b<cg c a),decide (cg c b<cg c a),!decide (cg c b<cg c a),decide (cg c b<cg c a),!decide (cg c b<cg c a)⟩
def Z5f (g:Graph) (c:List Int) (a:Nat):Diner:=⟨a,0,(Zye g a).map (Z4f c a)⟩
def Z6f (g:Graph) (c:List Int):List Diner:=(List.range g.N.toNat).map (Z5f g c)
theorem Z7f {α:Type} (f:Nat→α) (k:Nat):(List.range (k+1)).map f=(List.range k).map f++[f k]:=by simp [List.range_succ]
theorem s_Table2 (g:Graph) (hg:okG g=true) (c:List Int) (hc:(c.length:Int)=g.N) (a:Nat) (ha:(a:Int)<g.N) (L:List Diner) (hL:L.length≤1000):
  loop (Zie c a L (Zye g a)) (0,[])=some (.inl (((a+1:Nat):Int),L++[Z5f g c a])):=by
 obtain ⟨g1,g2,g3,_,_⟩:=Z28 hg
 have hnl:=Z1f g a
 refine Zs8 (Zye g a) _ (fun pre=>((pre.length:Int),pre.map (Z4f c a))) _ (fun pre b post h=>?_) ?_
 ·have hx:=Zt8 h
  have hm:=Zu8 h
  obtain ⟨b1,b2,_,_,_⟩:=Z3f hg (Zv8 h)
  dsimp only [Zie]
  rw [Zi6 hx,Zc6,Zg6 hx,Option.bind_some,at_cg (c:=c) (Int.natCast_nonneg a) (by omega),Option.bind_some,at_cg (c:=c) b1 (by omega),Option.bind_some,Zh6 _ _ (by omega) (by simp;omega),Option.bind_some,Zy8,Zk6 (by omega),List.map_append]
  rfl
 ·dsimp only [Zie]
  rw [Zj6,Zd6,Zhe,Zh6 _ _ (by omega) (by simp;omega),Option.bind_some,Zk6 (by omega)]
  rfl
theorem Z8f {g:Graph} {c:List Int} (h:Z3e g c=true):(c.length:Int)=g.N:=by
 simp only [Z3e,Bool.and_eq_true,decide_eq_true_eq] at h;exact h.1
theorem s_Table (g:Graph) (c:List Int) (hc:c.length≤1000000):Zke g c=some (if okG g then (if Z3e g c then (Z6f g c,0) else ([],120)) else ([],30)):=by
 simp only [Zke,Z18,Option.bind_some]
 cases hg:okG g with
 | false=>rfl
 | true=>
   obtain ⟨g1,g2,_,_,_⟩:=Z28 hg
   simp only [if_true,decide_true,Bool.not_true,Zd6,s_Right g c hc,hg,Bool.true_and,Option.bind_some]
   cases hr:Z3e g c with
   | false=>rfl
   | true=>
     simp only [Bool.not_true,Zd6,if_true]
     refine Zz8 g.N.toNat (Zje g c) (fun k=>((k:Int),(List.range k).map (Z5f g c))) _ (fun k hk=>?_) ?_
     ·dsimp only [Zje]
      rw [decide_eq_true (by omega),Zc6,s_Near,hg,if_pos rfl,Option.bind_some,s_Table2 g hg c (Z8f hr) k (by omega) _ (by simp;omega),Z7f]
     ·dsimp only [Zje]
      rw [decide_eq_false (by omega),Zd6]
      rfl
theorem Z9f {g:Graph} (hg:okG g=true) {c:List Int} (h:Z3e g c=true) {a b:Int} (hb:b∈Zye g a):cg c a≠cg c b:=by
 simp only [Z3e,Bool.and_eq_true,List.all_eq_true,Bool.not_eq_true',decide_eq_false_iff_not] at h
 rcases (Z2f hg).1 hb with he | he
 ·exact h.2.2 _ he
 ·exact fun e=>h.2.2 _ he e.symm
theorem near_filter {g:Graph} (hg:okG g=true) (a:Int):Zye g a=((List.range g.N.toNat).map (fun k:Nat=>(k:Int))).filter (fun b=>hasB g a b):=by
 refine pw_ext (fun x=>by omega) (fun x y h=>by omega) (Zze hg a) ?_ fun x=>?_
 ·refine List.Pairwise.filter _ ?_
  rw [List.pairwise_map]
  exact List.pairwise_lt_range.imp fun h=>by omega
 ·rw [List.mem_filter,List.mem_map,hasB_iff hg]
  constructor
  ·intro h
   obtain ⟨h1,h2,_⟩:=Z3f hg h
   exact ⟨⟨x.toNat,by simp;omega,by omega⟩,h⟩
  ·exact fun h=>h.2
theorem Zaf (p:Int→Bool) (k:Nat):(((List.range (k+1)).map (fun k:Nat=>(k:Int))).filter p)=((List.range k).map (fun k:Nat=>(k:Int))).filter p++(if p k then [(k:Int)] else []):=by
 rw [Z7f,List.filter_append]
 cases h:p k<;>simp [h]
theorem s_r12Table2 (g:Graph) (hg:okG g=true) (c:List Int) (hr:Z3e g c=true) (a:Nat) (ha:(a:Int)<g.N) (L:List Diner) (hL:L.length≤1000):
  loop (Zse g c a L) (0,[])=some (.inl (((a+1:Nat):Int),L++[Z5f g c a])):=by
 obtain ⟨g1,g2,g3,_,_⟩:=Z28 hg
 have hc:=Z8f hr
 refine Zz8 g.N.toNat (Zse g c a L) (fun k=>((k:Int),(((List.range k).map (fun k:Nat=>(k:Int))).filter (fun b=>hasB g a b)).map (Z4f c a))) _ (fun k hk=>?_) ?_
 ·have hlen:(((List.range k).map (fun k:Nat=>(k:Int))).filter (fun b=>hasB g a b)).length≤64:=by
   have:=List.length_filter_le (fun b=>hasB g a b) ((List.range k).map (fun k:Nat=>(k:Int)))
   simp only [List.length_map,List.length_range] at this
   omega
  dsimp only [Zse]
  rw [decide_eq_true (by omega),Zc6,s_r03Has g a k (by omega),Option.bind_some,Zaf,List.map_append]
  cases hh:hasB g a k with
  | false=>
    rw [Bool.not_false,Zc6,Zqe,Zk6 (by omega)]
    simp
  | true=>
    have hne:=Z9f hg hr ((hasB_iff hg).1 hh)
    rw [Bool.not_true,Zd6,at_cg (c:=c) (Int.natCast_nonneg a) (by omega),Option.bind_some,at_cg (c:=c) (Int.natCast_nonneg k) (by omega),Option.bind_some]
    by_cases h1:cg c a<cg c k
    ·rw [decide_eq_true h1,Zc6,Zre,Zh6 _ _ (by omega) (by simp only [List.length_map,List.length_singleton];omega),Option.bind_some,Zqe,Zk6 (by omega)]
     have:¬cg c k<cg c a:=by omega
     simp [Z4f,this]
    ·rw [decide_eq_false h1,Zd6,Zre,Zh6 _ _ (by omega) (by simp only [List.length_map,List.length_singleton];omega),Option.bind_some,Zqe,Zk6 (by omega)]
     have:cg c k<cg c a:=by omega
     simp [Z4f,this]
 ·dsimp only [Zse]
  rw [decide_eq_false (by omega),Zd6,←near_filter hg,Zpe,Zh6 _ _ (by omega) (by simp;omega),Option.bind_some,Zk6 (by omega)]
  rfl
theorem s_r12Table (g:Graph) (hg:okG g=true) (c:List Int) (hr:Z3e g c=true):Zue g c=some (Z6f g c):=by
 obtain ⟨g1,g2,_,_,_⟩:=Z28 hg
 unfold Zue
 refine Zz8 g.N.toNat (Zte g c) (fun k=>((k:Int),(List.range k).map (Z5f g c))) _ (fun k hk=>?_) ?_
 ·dsimp only [Zte]
  rw [decide_eq_true (by omega),Zc6,s_r12Table2 g hg c hr k (by omega) _ (by simp;omega),Z7f]
 ·dsimp only [Zte]
  rw [decide_eq_false (by omega),Zd6]
  rfl
theorem tableT_few {g:Graph} (hg:okG g=true) (c:List Int):fewD (Z6f g c):=by
 obtain ⟨g1,g2,g3,_,_⟩:=Z28 hg
 refine ⟨by simp [Z6f];omega,fun d hd=>?_⟩
 obtain ⟨a,_,rfl⟩:=List.mem_map.1 hd
 have:=Z1f g a
 simp only [Z5f,List.length_map];omega
set_option maxRecDepth 100000
set_option maxHeartbeats 4000000
def e166:EC:=.seq (.reg [(Qa 2 (.mv (.c .ff)))]) (.seq (.reg [(Qa 3 (.mv (.t 0))),(Qa 4 (.bin .lss (.t 3) (.c (.iv 0)))),(Qa 2 (.mv (.t 4)))]) (.ret))
theorem ok166:FnOK Tryz.prog 166 Tryz.f166 e166 [.t 2] 1 4:=⟨by kernel_rfl,⟨_,rfl,by kernel_rfl⟩,by kernel_rfl,by kernel_rfl⟩
noncomputable def Zbf (x1:Int):Option Bool:=
 some (decide (x1<0))
theorem Zcf (x1:Int) (r:Bool) (h:Zbf x1=some r):Zq2 Tryz.prog 166 [.iv x1] (.bv r):=by
 refine Zu2 ok166 rfl rfl fun w0 H0=>?_
 rw [Zbf] at h
 refine Zl2 10 ?_;dsimp only [e166,go_sem];refine ⟨by simp,?_⟩;exact Zt4 (res:=fun (r:Bool)=>.bv r) ok166 h
set_option maxRecDepth 100000
set_option maxHeartbeats 4000000
def e167:EC:=.seq (.reg [(Qa 4 (.mv (.c .ff)))]) (.seq (.reg [(Qa 5 (.load (.t 1))),(Qa 6 (.mv (.t 0))),(Qa 7 (.idx 1 (.t 5) (.t 6))),(Qa 8 (.load (.t 7))),(Qa 9 (.bin .eql (.t 8) (.c (.iv 0)))),(Qa 10 (.mv (.t 9))),(Qg 11 10 true (.mv (.t 0))),(Qg 12 10 true (.load (.t 2))),(Qg 13 10 true (.bin .gtr (.t 11) (.t 12))),(Qa 14 (.pick (.t 10) (.t 13) (.c .ff))),(Qa 4 (.mv (.t 14)))]) (.ret))
theorem ok167:FnOK Tryz.prog 167 Tryz.f167 e167 [.t 4] 3 12:=⟨by kernel_rfl,⟨_,rfl,by kernel_rfl⟩,by kernel_rfl,by kernel_rfl⟩
noncomputable def Zdf:Bool→Option Bool
| x5=>
 some x5
noncomputable def Zef (x1:Int) (x2:(List Int)) (x3:Int):Option Bool:=
 (at_ x2 x1).bind fun x4=>
 ifb (decide (x4=0)) (
 Zdf (decide (x3<x1))) (
 Zdf false)
theorem Zff (x1:Int) (x2:(List Int)) (x3:Int) (r:Bool) (h:Zef x1 x2 x3=some r):Zq2 Tryz.prog 167 [.iv x1,.elt ((Z15 1 Z05) x2) 0,.elt (Z05 x3) 0] (.bv r):=by
 refine Zu2 ok167 rfl rfl fun w0 H0=>?_
 rw [Zef] at h
 refine Zl2 8 ?_;dsimp only [e167,go_sem];refine ⟨by simp,?_⟩;obtain ⟨x4,ex4,h⟩:=Option.bind_eq_some_iff.1 h;refine Zn4 Z05 ex4 trivial rfl rfl rfl ?_;refine Zl2 3 ?_;dsimp only [e167,go_sem];refine ⟨by simp,?_⟩;refine Zi4 (fun (x5:Bool)=>(⟨(an 4 (.bv x5::an 10 [])),[],[]⟩:St)) Zdf r ?_ fun J1=>?_
 ·intro x5 h;rw [Zdf] at h;(try dsimp only);exact Zt4 (res:=fun (r:Bool)=>.bv r) ok167 h
 ·refine Zs4 10 h rfl (fun _ h=>?_) fun _ h=>?_
  ·dsimp only [go_sem];refine Zl2 6 ?_;dsimp only [e167,go_sem];refine ⟨by simp,?_⟩;exact Zv4 J1 (s:=decide (x3<x1)) h
  ·dsimp only [go_sem];refine Zl2 6 ?_;dsimp only [e167,go_sem];refine ⟨by simp,?_⟩;exact Zv4 J1 (s:=false) h
set_option maxRecDepth 100000
set_option maxHeartbeats 4000000
def e168:EC:=.seq (.reg [(Qa 5 (.mv (.c .ff)))]) (.seq (.drw [(Qa 6 (.load (.t 1))),(Qa 7 (.mv (.t 0))),(Qa 8 (.idx 1 (.t 6) (.t 7))),(Qa 9 (.load (.t 8))),(Qa 10 (.load (.t 2))),(Qa 11 (.load (.t 3))),(Qa 12 (.idx 1 (.t 10) (.t 11))),(Qa 13 (.load (.t 12))),(Qa 14 (.bin .eql (.t 9) (.t 13))),(Qa 5 (.mv (.t 14)))] [[],[],[0,1],[2],[],[],[4,5],[6],[3,7],[8,0,1,2,3,4,5,6,7,8]] [[2],[2],[0,1,3],[2,8],[6],[6],[4,5,7],[6,8],[3,7,9],[8]]) (.ret))
theorem ok168:FnOK Tryz.prog 168 Tryz.f168 e168 [.t 5] 4 11:=⟨by kernel_rfl,⟨_,rfl,by kernel_rfl⟩,by kernel_rfl,by kernel_rfl⟩
noncomputable def Zgf (x1:Int) (x2:(List Int)) (x3:(List Int)) (x4:Int):Option Bool:=
 (at_ x2 x1).bind fun x5=>
 (at_ x3 x4).bind fun x6=>
 some (decide (x5=x6))
theorem Zhf (x1:Int) (x2:(List Int)) (x3:(List Int)) (x4:Int) (r:Bool) (h:Zgf x1 x2 x3 x4=some r):Zq2 Tryz.prog 168 [.iv x1,.elt ((Z15 1 Z05) x2) 0,.elt ((Z15 1 Z05) x3) 0,.elt (Z05 x4) 0] (.bv r):=by
 refine Zu2 ok168 rfl rfl fun w0 H0=>?_
 rw [Zgf] at h
 refine Zl2 5 ?_;dsimp only [e168,go_sem];refine ⟨by simp,?_⟩;refine Zh3 (by kernel_rfl) fun all hall hs hnap haf=>?_;dsimp only [go_sem];refine Zf5 hall hs haf hnap 4 6 ?_;dsimp only [go_sem];refine ⟨by simp,?_⟩;obtain ⟨x5,ex5,h⟩:=Option.bind_eq_some_iff.1 h;refine Zo4 hall hs haf hnap 2 Z05 ex5 rfl rfl trivial rfl rfl rfl rfl ?_;refine Zf5 hall hs haf hnap 1 4 ?_;dsimp only [go_sem];refine ⟨by simp,?_⟩;obtain ⟨x6,ex6,h⟩:=Option.bind_eq_some_iff.1 h;refine Zo4 hall hs haf hnap 6 Z05 ex6 rfl rfl trivial rfl rfl rfl rfl ?_
 refine Zf5 hall hs haf hnap 3 0 ?_;dsimp only [go_sem];refine ⟨by simp,?_⟩;refine Zt3 rfl ?_ _;exact Zt4 (res:=fun (r:Bool)=>.bv r) ok168 h
set_option maxRecDepth 100000
set_option maxHeartbeats 4000000
def Zif:EC:=.seq (.seq (.reg [(Qa 47 (.mv (.t 9))),(Qa 48 (.mkf 168 [(.t 3),(.t 7),(.t 8)])),(Qa 49 (.call 103 [(.t 47),(.t 48)]))]) (.ite (.t 49) (.skip) (.exit 2))) (.blk 3 (.reg [(Qa 50 (.load (.t 7))),(Qa 51 (.load (.t 8))),(Qa 52 (.idx 1 (.t 50) (.t 51))),(Qa 53 (.load (.t 52))),(Qa 54 (.bin .add (.t 53) (.c (.iv 1)))),(Qa 55 (.idx 1 (.t 50) (.t 51))),(Qb (.store 1 (.t 55) (.t 54)))]))
def Zjf:EC:=.seq (.reg [(Qa 29 (.bin .lss (.t 28) (.t 27)))]) (.seq (.ite (.t 29) (.skip) (.exit 0)) (.seq (.blk 1 (.seq (.reg [(Qa 30 (.mv (.t 28))),(Qa 8 (.alloc 3 [.iv 0])),(Qb (.store 1 (.t 8) (.t 30)))]) (.seq (.reg [(Qa 31 (.loadA 2 (.t 2))),(Qa 32 (.load (.t 8))),(Qa 33 (.call 152 [(.t 31),(.t 32)])),(Qa 9 (.mv (.t 33)))]) (.seq (.seq (.reg [(Qa 34 (.load (.t 3))),(Qa 35 (.load (.t 8))),(Qa 36 (.idx 1 (.t 34) (.t 35))),(Qa 37 (.load (.t 36))),(Qa 38 (.bin .neq (.t 37) (.c (.iv 0)))),(Qa 39 (.mv (.t 38))),(Qg 40 39 false (.mv (.t 9))),(Qg 41 39 false (.mkf 167 [(.t 3),(.t 8)])),(Qg 42 39 false (.call 103 [(.t 40),(.t 41)])),(Qa 43 (.pick (.t 39) (.c .tt) (.t 42)))]) (.ite (.t 43) (.exit 1) (.skip))) (.seq (.reg [(Qa 44 (.load (.t 7))),(Qa 45 (.load (.t 8))),(Qa 46 (.idx 1 (.t 44) (.t 45))),(Qb (.store 1 (.t 46) (.c (.iv 1))))]) (.blk 2 (.loop Zif))))))) (.reg [(Qa 56 (.bin .add (.t 28) (.c (.iv 1)))),(Qa 28 (.mv (.t 56)))])))
def Zkf:EC:=.seq (.reg [(Qa 2 (.box 53 2 (.t 0))),(Qa 3 (.box 26 1 (.t 1))),(Qa 4 (.mv (.c .nl))),(Qa 5 (.mv (.c (.iv 0))))]) (.seq (.seq (.reg [(Qa 10 (.loadA 2 (.t 2))),(Qa 11 (.call 144 [(.t 10)])),(Qa 6 (.mv (.t 11)))]) (.seq (.reg [(Qa 12 (.mv (.t 6))),(Qa 13 (.bin .neq (.t 12) (.c (.iv 0))))]) (.ite (.t 13) (.seq (.reg [(Qa 14 (.mv (.t 6))),(Qa 4 (.mv (.c .nl))),(Qa 5 (.mv (.t 14)))]) (.ret)) (.skip)))) (.seq (.seq (.reg [(Qa 15 (.load (.t 3))),(Qa 16 (.len (.t 15))),(Qa 17 (.fld 0 (.t 2))),(Qa 18 (.load (.t 17))),(Qa 19 (.bin .neq (.t 16) (.t 18))),(Qa 20 (.mv (.t 19))),(Qg 21 20 false (.load (.t 3))),(Qg 22 20 false (.call 103 [(.t 21),(.c (.clo 166 []))])),(Qa 23 (.pick (.t 20) (.c .tt) (.t 22)))]) (.ite (.t 23) (.seq (.reg [(Qa 4 (.mv (.c .nl))),(Qa 5 (.mv (.c (.iv 110))))]) (.ret)) (.skip))) (.seq (.reg [(Qa 24 (.load (.t 3))),(Qa 25 (.call 136 [(.t 24)])),(Qa 7 (.alloc 26 [.nl])),(Qb (.store 1 (.t 7) (.t 25)))]) (.seq (.seq (.reg [(Qa 26 (.fld 0 (.t 2))),(Qa 27 (.load (.t 26))),(Qa 28 (.mv (.c (.iv 0))))]) (.blk 0 (.loop Zjf))) (.seq (.reg [(Qa 57 (.load (.t 7))),(Qa 4 (.mv (.t 57))),(Qa 5 (.mv (.c (.iv 0))))]) (.ret))))))
theorem ok150:FnOK Tryz.prog 150 Tryz.f150 Zkf [.t 4,.t 5] 2 56:=⟨by kernel_rfl,⟨_,rfl,by kernel_rfl⟩,by kernel_rfl,by kernel_rfl⟩
noncomputable def Zlf:(List Int)→Option ((List Int)×Int)
| x54=>
 some (x54,0)
noncomputable def Zmf (x26:Int):(List Int)→Option ((Int×(List Int)) ⊕ ((List Int)×Int))
| x46=>
 some (.inl (wr (x26+1),x46))
noncomputable def Znf (x2:(List Int)) (x26:Int) (x28:(List Int)):(List Int)→Option ((List Int) ⊕ ((Int×(List Int)) ⊕ ((List Int)×Int)))
| x35=>
 (Zt7 x28 ((fun z=>Zgf z x2 x35 x26))).bind fun x36=>
 ifb x36 (
 (at_ x35 x26).bind fun x37=>
 some (.inl (x35.set (x26).toNat (wr (x37+1))))) (
 Option.map Sum.inr ((Zmf x26) x35))
noncomputable def Zof (x2:(List Int)) (x26:Int) (x27:(List Int)) (x28:(List Int)):Bool→Option ((Int×(List Int)) ⊕ ((List Int)×Int))
| x31=>
 ifb x31 (
 (Zmf x26) x27) (
 (at_ x27 x26).bind fun _=>
 loop (Znf x2 x26 x28) (x27.set (x26).toNat 1))
noncomputable def Zpf (x1:Graph) (x2:(List Int)):(Int×(List Int))→Option ((Int×(List Int)) ⊕ ((List Int)×Int))
| (x26,x27)=>
 ifb (decide (x26<x1.N)) (
 (Zbe x1 x26).bind fun x28=>
 (at_ x2 x26).bind fun x29=>
 ifb (!decide (x29=0)) (
 (Zof x2 x26 x27 x28) true) (
 (Zt7 x28 ((fun z=>Zef z x2 x26))).bind fun x30=>
 (Zof x2 x26 x27 x28) x30)) (
 Option.map Sum.inr (Zlf x27))
noncomputable def Zqf (x1:Graph) (x2:(List Int)):Bool→Option ((List Int)×Int)
| x5=>
 ifb x5 (
 some (([]:(List Int)),110)) (
 (Zbb x2).bind fun x6=>
 loop (Zpf x1 x2) (0,x6))
noncomputable def Zrf (x1:Graph) (x2:(List Int)):Option ((List Int)×Int):=
 (Zm7 x1).bind fun x3=>
 ifb (!decide (x3=0)) (
 some (([]:(List Int)),x3)) (
 ifb (!decide ((ln Z05 x2)=x1.N)) (
 (Zqf x1 x2) true) (
 (Zt7 x2 ((fun z=>Zbf z))).bind fun x4=>
 (Zqf x1 x2) x4))
theorem Zsf (x1:Graph) (x2:(List Int)) (r:((List Int)×Int)) (h:Zrf x1 x2=some r):Zq2 Tryz.prog 150 [.agg (Graph.row x1),.sl 1 (List.map Z05 x2)] (.tup [.sl 1 (List.map Z05 r.1),.iv r.2]):=by
 refine Zu2 ok150 rfl rfl fun w0 H0=>?_
 rw [Zrf] at h
 refine Zl2 11 ?_;dsimp only [Zkf,Zjf,Zif,go_sem];refine ⟨by simp,?_⟩;obtain ⟨x3,ex3,h⟩:=Option.bind_eq_some_iff.1 h;refine Zz2 trivial (Zn7 x1 _ ex3) (h:=?_);refine Zl2 7 ?_;dsimp only [Zkf,Zjf,Zif,go_sem];refine ⟨by simp,?_⟩;refine Zk4 h rfl (fun _ h=>?_) fun _ h=>?_
 ·refine Zl2 6 ?_;dsimp only [Zkf,Zjf,Zif,go_sem];refine ⟨by simp,?_⟩;exact Zt4 (res:=fun (r:((List Int)×Int))=>.tup [.sl 1 (List.map Z05 r.1),.iv r.2]) ok150 h
 ·refine Zl2 10 ?_;dsimp only [Zkf,Zjf,Zif,go_sem];refine ⟨by simp,?_⟩;refine Zi4 (fun (x5:Bool)=>(⟨(.any :: .any :: .ptr 0 0 :: .ptr 1 0::an 19 (.bv x5::an 34 [])),[some ⟨53,[.iv x1.N,.sl 2 (List.map Edge.row x1.Edges)]⟩,some ⟨26,[.sl 1 (List.map Z05 x2)]⟩],[]⟩:St)) (Zqf x1 x2) r ?_ fun J1=>?_
  ·intro x5 h;rw [Zqf] at h;(try dsimp only);refine Zk4 h rfl (fun _ h=>?_) fun _ h=>?_
   ·refine Zl2 5 ?_;dsimp only [Zkf,Zjf,Zif,go_sem];refine ⟨by simp,?_⟩;exact Zt4 (res:=fun (r:((List Int)×Int))=>.tup [.sl 1 (List.map Z05 r.1),.iv r.2]) ok150 h
   ·refine Zl2 4 ?_;dsimp only [Zkf,Zjf,Zif,go_sem];refine ⟨by simp,?_⟩;obtain ⟨x6,ex6,h⟩:=Option.bind_eq_some_iff.1 h;refine Za5 trivial (Zcb x2 _ ex6) (h:=?_);refine Zl2 10 ?_;dsimp only [Zkf,Zjf,Zif,go_sem];refine ⟨by simp,?_⟩;refine Zi4 (fun (x54:(List Int))=>(⟨(an 7 (.ptr 2 0::an 50 [])),[none,none,some ⟨26,[.osl 0]⟩],[some ⟨3,1,List.map Z05 x54⟩]⟩:St)) Zlf r ?_ fun J2=>?_
    ·intro x54 h;rw [Zlf] at h;(try dsimp only);refine Zl2 6 ?_;dsimp only [Zkf,Zjf,Zif,go_sem];refine ⟨by simp,?_⟩;refine Z83 0 rfl ?_;dsimp only [go_sem];exact Zt4 (res:=fun (r:((List Int)×Int))=>.tup [.sl 1 (List.map Z05 r.1),.iv r.2]) ok150 h
    ·refine Zl2 1 ?_;dsimp only [Zkf,Zjf,Zif,go_sem];refine ⟨by simp,?_⟩;refine Zj4 h (fun ((x26,x27):(Int×(List Int)))=>(⟨(.any :: .any :: .ptr 0 0 :: .ptr 1 0::an 3 (.ptr 2 0::an 19 (.iv x1.N :: .iv x26::an 29 []))),[some ⟨53,[.iv x1.N,.sl 2 (List.map Edge.row x1.Edges)]⟩,some ⟨26,[.sl 1 (List.map Z05 x2)]⟩,some ⟨26,[.osl 0]⟩],[some ⟨3,1,List.map Z05 x27⟩]⟩:St)) (by simp [go_sem]) (by rintro ⟨x26,x27⟩;first | rfl | simp [go_sem]) ?_;rintro n1 ⟨x26,x27⟩ y1 h hin1 hout1;rw [Zpf] at h;(try dsimp only);refine Zl2 5 ?_
     dsimp only [Zkf,Zjf,Zif,go_sem];refine ⟨by simp,?_⟩;refine Zk4 h rfl (fun _ h=>?_) fun _ h=>?_
     ·refine Zl2 2 ?_;dsimp only [Zkf,Zjf,Zif,go_sem];refine ⟨by simp,?_⟩;refine Zi4 (fun (x46:(List Int))=>(⟨(.any :: .any :: .ptr 0 0 :: .ptr 1 0::an 3 (.ptr 2 0::an 19 (.iv x1.N :: .iv x26::an 29 []))),[some ⟨53,[.iv x1.N,.sl 2 (List.map Edge.row x1.Edges)]⟩,some ⟨26,[.sl 1 (List.map Z05 x2)]⟩,some ⟨26,[.osl 0]⟩],[some ⟨3,1,List.map Z05 x46⟩]⟩:St)) (Zmf x26) y1 ?_ fun J3=>?_
      ·intro x46 h;rw [Zmf] at h;(try dsimp only);refine Zl2 4 ?_;dsimp only [Zkf,Zjf,Zif,go_sem];refine ⟨by simp,?_⟩;exact Zu4 h hin1
      ·refine Zl2 11 ?_;dsimp only [Zkf,Zjf,Zif,go_sem];refine ⟨by simp,?_⟩;obtain ⟨x28,ex28,h⟩:=Option.bind_eq_some_iff.1 h;refine Zz2 trivial (Zce x1 x26 _ ex28) (h:=?_);refine Zl2 7 ?_;dsimp only [Zkf,Zjf,Zif,go_sem];refine ⟨by simp,?_⟩;obtain ⟨x29,ex29,h⟩:=Option.bind_eq_some_iff.1 h;refine Zn4 Z05 ex29 trivial rfl rfl rfl ?_;refine Zl2 3 ?_;dsimp only [Zkf,Zjf,Zif,go_sem];refine ⟨by simp,?_⟩
       refine Zi4 (fun (x31:Bool)=>(⟨(.any :: .any :: .ptr 0 0 :: .ptr 1 0::an 3 (.ptr 2 0 :: .ptr 3 0 :: .sl 1 (List.map Z05 x28)::an 17 (.iv x1.N :: .iv x26::an 14 (.bv x31::an 14 [])))),[some ⟨53,[.iv x1.N,.sl 2 (List.map Edge.row x1.Edges)]⟩,some ⟨26,[.sl 1 (List.map Z05 x2)]⟩,some ⟨26,[.osl 0]⟩,some ⟨3,[.iv x26]⟩],[some ⟨3,1,List.map Z05 x27⟩]⟩:St)) (Zof x2 x26 x27 x28) y1 ?_ fun J4=>?_
       ·intro x31 h;rw [Zof] at h;(try dsimp only);refine Zk4 h rfl (fun _ h=>?_) fun _ h=>?_
        ·refine Zl2 1 ?_;dsimp only [Zkf,Zjf,Zif,go_sem];refine ⟨by simp,?_⟩;exact Zv4 J3 (s:=x27) h
        ·refine Zl2 5 ?_;dsimp only [Zkf,Zjf,Zif,go_sem];refine ⟨by simp,?_⟩;obtain ⟨x32,ex32,h⟩:=Option.bind_eq_some_iff.1 h;refine Zi5 Z05 ex32 trivial rfl rfl rfl ?_;refine Zo5 [.iv 1] Z05 (y':=1) ex32 trivial rfl rfl rfl (by first | exact Zb4 _ | simp [go_sem]) rfl rfl rfl rfl ?_;refine Zl2 2 ?_;dsimp only [Zkf,Zjf,Zif,go_sem];refine ⟨by simp,?_⟩
         refine Zj4 h (fun (x35:(List Int))=>(⟨(.any :: .any :: .ptr 0 0 :: .ptr 1 0::an 3 (.ptr 2 0 :: .ptr 3 0 :: .sl 1 (List.map Z05 x28)::an 17 (.iv x1.N :: .iv x26::an 29 []))),[some ⟨53,[.iv x1.N,.sl 2 (List.map Edge.row x1.Edges)]⟩,some ⟨26,[.sl 1 (List.map Z05 x2)]⟩,some ⟨26,[.osl 0]⟩,some ⟨3,[.iv x26]⟩],[some ⟨3,1,List.map Z05 x35⟩]⟩:St)) (by simp [go_sem]) (by intro x35;first | rfl | simp [go_sem]) ?_;rintro n2 x35 y2 h hin2 hout2;rw [Znf] at h;(try dsimp only);refine Zl2 5 ?_;dsimp only [Zkf,Zjf,Zif,go_sem]
         refine ⟨by simp,?_⟩;obtain ⟨x36,ex36,h⟩:=Option.bind_eq_some_iff.1 h;refine Zy4 trivial (((((Zw4.refl _).slice 0 rfl).block 1 rfl rfl).block 2 rfl rfl).block 3 rfl rfl) (Zu7 x28 _ _ ((fun z=>Zgf z x2 x35 x26)) ⟨by kernel_rfl,rfl,fun z r hz=>Zhf z x2 x35 x26 r hz⟩ _ ex36) (h:=?_);refine Zl2 1 ?_;dsimp only [Zkf,Zjf,Zif,go_sem];refine ⟨by simp,?_⟩;refine Zk4 h rfl (fun _ h=>?_) fun _ h=>?_
         ·refine Zl2 5 ?_;dsimp only [Zkf,Zjf,Zif,go_sem];refine ⟨by simp,?_⟩;obtain ⟨x37,ex37,h⟩:=Option.bind_eq_some_iff.1 h;refine Zi5 Z05 ex37 trivial rfl rfl rfl ?_;refine Zj5 Z05 ex37 trivial rfl rfl rfl ?_;refine Zl2 1 ?_;dsimp only [Zkf,Zjf,Zif,go_sem];refine ⟨by simp,?_⟩;refine Zi5 Z05 ex37 trivial rfl rfl rfl ?_;refine Zo5 [.iv (wr (x37+1))] Z05 (y':=wr (x37+1)) ex37 trivial rfl rfl rfl (by first | exact Zb4 _ | simp [go_sem]) rfl rfl rfl rfl ?_;refine Zl2 2 ?_
          dsimp only [Zkf,Zjf,Zif,go_sem];refine ⟨by simp,?_⟩;exact Zu4 h hin2
         ·refine Zl2 2 ?_;dsimp only [Zkf,Zjf,Zif,go_sem];refine ⟨by simp,?_⟩;exact Zv4 J3 (s:=x35) (Zh4 h hout2)
       ·refine Zs4 39 h rfl (fun _ h=>?_) fun _ h=>?_
        ·dsimp only [go_sem];refine Zl2 5 ?_;dsimp only [Zkf,Zjf,Zif,go_sem];refine ⟨by simp,?_⟩;exact Zv4 J4 (s:=true) h
        ·dsimp only [go_sem];refine Zl2 2 ?_;dsimp only [Zkf,Zjf,Zif,go_sem];refine ⟨by simp,?_⟩;obtain ⟨x30,ex30,h⟩:=Option.bind_eq_some_iff.1 h;refine Zy4 trivial (((Zw4.refl _).block 1 rfl rfl).block 3 rfl rfl) (Zu7 x28 _ _ ((fun z=>Zef z x2 x26)) ⟨by kernel_rfl,rfl,fun z r hz=>Zff z x2 x26 r hz⟩ _ ex30) (h:=?_);refine Zl2 2 ?_;dsimp only [Zkf,Zjf,Zif,go_sem];refine ⟨by simp,?_⟩;exact Zv4 J4 (s:=x30) h
     ·refine Zl2 1 ?_;dsimp only [Zkf,Zjf,Zif,go_sem];refine ⟨by simp,?_⟩;exact Zv4 J2 (s:=x27) (Zh4 h hout1)
  ·refine Zs4 20 h rfl (fun _ h=>?_) fun _ h=>?_
   ·dsimp only [go_sem];refine Zl2 4 ?_;dsimp only [Zkf,Zjf,Zif,go_sem];refine ⟨by simp,?_⟩;exact Zv4 J1 (s:=true) h
   ·dsimp only [go_sem];refine Zl2 1 ?_;dsimp only [Zkf,Zjf,Zif,go_sem];refine ⟨by simp,?_⟩;obtain ⟨x4,ex4,h⟩:=Option.bind_eq_some_iff.1 h;refine Zz2 trivial (Zu7 x2 _ _ ((fun z=>Zbf z)) ⟨by kernel_rfl,rfl,fun z r hz=>Zcf z r hz⟩ _ ex4) (h:=?_);refine Zl2 2 ?_;dsimp only [Zkf,Zjf,Zif,go_sem];refine ⟨by simp,?_⟩;exact Zv4 J1 (s:=x4) h
set_option maxRecDepth 100000
set_option maxHeartbeats 4000000
def Ztf:EC:=.seq (.seq (.reg [(Qa 16 (.mv (.t 6))),(Qa 17 (.call 149 [(.t 16),(.c (.iv 0))]))]) (.ite (.t 17) (.skip) (.exit 0))) (.blk 1 (.seq (.reg [(Qa 19 (.loadA 2 (.t 1))),(Qa 20 (.mv (.t 6))),(Qa 21 (.call 150 [(.t 19),(.t 20)])),(Qa 18 (.mv (.t 21))),(Qa 22 (.ext (.t 18) 0)),(Qa 23 (.ext (.t 18) 1)),(Qa 6 (.mv (.t 22)))]) (.reg [(Qa 24 (.mv (.t 7))),(Qa 25 (.bin .add (.t 24) (.c (.iv 1)))),(Qa 7 (.mv (.t 25)))])))
def e124:EC:=.seq (.reg [(Qa 1 (.box 53 2 (.t 0))),(Qa 2 (.mv (.c .nl))),(Qa 3 (.mv (.c (.iv 0)))),(Qa 4 (.mv (.c (.iv 0))))]) (.seq (.seq (.reg [(Qa 8 (.loadA 2 (.t 1))),(Qa 9 (.call 144 [(.t 8)])),(Qa 5 (.mv (.t 9)))]) (.seq (.reg [(Qa 10 (.mv (.t 5))),(Qa 11 (.bin .neq (.t 10) (.c (.iv 0))))]) (.ite (.t 11) (.seq (.reg [(Qa 12 (.mv (.t 5))),(Qa 2 (.mv (.c .nl))),(Qa 3 (.mv (.c (.iv 0)))),(Qa 4 (.mv (.t 12)))]) (.ret)) (.skip)))) (.seq (.reg [(Qa 13 (.fld 0 (.t 1))),(Qa 14 (.load (.t 13))),(Qa 15 (.mks 3 1 8 [.iv 0] (.t 14) (.t 14))),(Qa 6 (.mv (.t 15))),(Qa 7 (.mv (.c (.iv 0))))]) (.seq (.blk 0 (.loop Ztf)) (.seq (.reg [(Qa 26 (.mv (.t 6))),(Qa 27 (.mv (.t 7))),(Qa 2 (.mv (.t 26))),(Qa 3 (.mv (.t 27))),(Qa 4 (.mv (.c (.iv 0))))]) (.ret)))))
theorem ok124:FnOK Tryz.prog 124 Tryz.f124 e124 [.t 2,.t 3,.t 4] 1 27:=⟨by kernel_rfl,⟨_,rfl,by kernel_rfl⟩,by kernel_rfl,by kernel_rfl⟩
noncomputable def Zuf:((List Int)×Int)→Option ((List Int)×Int×Int)
| (x17,x18)=>
 some (x17,x18,0)
noncomputable def Zvf (x1:Graph):((List Int)×Int)→Option (((List Int)×Int) ⊕ ((List Int)×Int×Int))
| (x8,x9)=>
 (Zsb x8 0).bind fun x10=>
 ifb x10 (
 (Zrf x1 x8).bind fun x11=>
 some (.inl (x11.1,wr (x9+1)))) (
 Option.map Sum.inr (Zuf (x8,x9)))
noncomputable def Zwf (x1:Graph):Option ((List Int)×Int×Int):=
 (Zm7 x1).bind fun x2=>
 ifb (!decide (x2=0)) (
 some (([]:(List Int)),0,x2)) (
 (mk_ 8 x1.N 0).bind fun x3=>
 loop (Zvf x1) (x3,0))
theorem k_colour_Run (x1:Graph) (r:((List Int)×Int×Int)) (h:Zwf x1=some r):Zq2 Tryz.prog 124 [.agg (Graph.row x1)] (.tup [.sl 1 (List.map Z05 r.1),.iv r.2.1,.iv r.2.2]):=by
 refine Zu2 ok124 rfl rfl fun w0 H0=>?_
 rw [Zwf] at h
 refine Zl2 11 ?_;dsimp only [e124,Ztf,go_sem];refine ⟨by simp,?_⟩;obtain ⟨x2,ex2,h⟩:=Option.bind_eq_some_iff.1 h;refine Zz2 trivial (Zn7 x1 _ ex2) (h:=?_);refine Zl2 7 ?_;dsimp only [e124,Ztf,go_sem];refine ⟨by simp,?_⟩;refine Zk4 h rfl (fun _ h=>?_) fun _ h=>?_
 ·refine Zl2 7 ?_;dsimp only [e124,Ztf,go_sem];refine ⟨by simp,?_⟩;exact Zt4 (res:=fun (r:((List Int)×Int×Int))=>.tup [.sl 1 (List.map Z05 r.1),.iv r.2.1,.iv r.2.2]) ok124 h
 ·refine Zl2 5 ?_;dsimp only [e124,Ztf,go_sem];refine ⟨by simp,?_⟩;obtain ⟨x3,ex3,h⟩:=Option.bind_eq_some_iff.1 h;refine V_mksM Z05 ex3 trivial rfl rfl rfl rfl ?_;refine Zl2 4 ?_;dsimp only [e124,Ztf,go_sem];refine ⟨by simp,?_⟩;refine Zi4 (fun ((x17,x18):((List Int)×Int))=>(⟨(an 6 (.sl 1 (List.map Z05 x17) :: .iv x18::an 20 [])),[],[]⟩:St)) Zuf r ?_ fun J1=>?_
  ·rintro ⟨x17,x18⟩ h;rw [Zuf] at h;(try dsimp only);refine Zl2 8 ?_;dsimp only [e124,Ztf,go_sem];refine ⟨by simp,?_⟩;exact Zt4 (res:=fun (r:((List Int)×Int×Int))=>.tup [.sl 1 (List.map Z05 r.1),.iv r.2.1,.iv r.2.2]) ok124 h
  ·refine Zl2 1 ?_;dsimp only [e124,Ztf,go_sem];refine ⟨by simp,?_⟩;refine Z83 0 rfl ?_;dsimp only [go_sem];refine Zj4 h (fun ((x8,x9):((List Int)×Int))=>(⟨(.any :: .ptr 0 0::an 4 (.sl 1 (List.map Z05 x8) :: .iv x9::an 20 [])),[some ⟨53,[.iv x1.N,.sl 2 (List.map Edge.row x1.Edges)]⟩],[]⟩:St)) (by simp [go_sem]) (by rintro ⟨x8,x9⟩;first | rfl | simp [go_sem]) ?_;rintro n1 ⟨x8,x9⟩ y1 h hin1 hout1;rw [Zvf] at h;(try dsimp only);refine Zl2 4 ?_;dsimp only [e124,Ztf,go_sem];refine ⟨by simp,?_⟩
   obtain ⟨x10,ex10,h⟩:=Option.bind_eq_some_iff.1 h;refine Zz2 trivial (Ztb x8 0 _ ex10) (h:=?_);refine Zl2 1 ?_;dsimp only [e124,Ztf,go_sem];refine ⟨by simp,?_⟩;refine Zk4 h rfl (fun _ h=>?_) fun _ h=>?_
   ·refine Zl2 6 ?_;dsimp only [e124,Ztf,go_sem];refine ⟨by simp,?_⟩;obtain ⟨x11,ex11,h⟩:=Option.bind_eq_some_iff.1 h;refine Zz2 trivial (Zsf x1 x8 _ ex11) (h:=?_);refine Zl2 11 ?_;dsimp only [e124,Ztf,go_sem];refine ⟨by simp,?_⟩;exact Zu4 h hin1
   ·refine Zl2 1 ?_;dsimp only [e124,Ztf,go_sem];refine ⟨by simp,?_⟩;exact Zv4 J1 (s:=(x8,x9)) (Zh4 h hout1)
def lsf (p:Nat→Bool):Nat→Nat→Nat
 | 0,k=>k
 | f+1,k=>if p k then k else lsf p f (k+1)
theorem lsf_spec (p:Nat→Bool):∀(f k:Nat),p (k+f)=true→p (lsf p f k)=true∧k≤lsf p f k∧lsf p f k≤k+f
 | 0,k,h=>⟨h,Nat.le_refl _,Nat.le_refl _⟩
 | f+1,k,h=>by
   simp only [lsf]
   split
   ·rename_i h1;exact ⟨h1,Nat.le_refl _,by omega⟩
   ·obtain ⟨h1,h2,h3⟩:=lsf_spec p f (k+1) (by rw [show k+1+f=k+(f+1) by omega];exact h)
    exact ⟨h1,by omega,by omega⟩
def Zxf (c:List Int) (near:List Int) (k:Nat):Bool:=near.any fun b=>decide (cg c b=(k:Int))
def Zyf (c near:List Int):Nat:=lsf (fun k=>!Zxf c near k) 200 1
def Zzf (c near:List Int) (a:Int):Bool:=decide (cg c a=0)&&!near.any fun b=>decide (cg c b=0)&&decide (a<b)
def newC (g:Graph) (c:List Int) (a:Nat):Int:=if Zzf c (Zye g a) a then (Zyf c (Zye g a):Int) else cg c a
def Z0g (g:Graph) (c:List Int):List Int:=(List.range g.N.toNat).map (newC g c)
structure ColI (g:Graph) (c:List Int):Prop where
 len:(c.length:Int)=g.N
 lo:∀x∈c,0≤x
 hi:∀x∈c,x≤100
theorem cg_mem {c:List Int} {a:Int} (h0:0≤a) (h:a<c.length):cg c a∈c:=by
 obtain ⟨x,h1,h2⟩:=at_lt h0 h
 unfold cg
 rw [h2]
 exact List.mem_iff_getElem?.2 ⟨_,h2⟩
theorem Z1g {g:Graph} (hg:okG g=true) {c:List Int} (hc:ColI g c) (a:Int):Zxf c (Zye g a) (Zyf c (Zye g a))=false∧1≤Zyf c (Zye g a)∧Zyf c (Zye g a)≤201:=by
 have h:=lsf_spec (fun k=>!Zxf c (Zye g a) k) 200 1 (by
  simp only [Bool.not_eq_true']
  unfold Zxf
  rw [List.any_eq_false]
  intro b hb
  obtain ⟨b1,b2,_⟩:=Z3f hg hb
  have:=hc.hi _ (cg_mem (c:=c) b1 (by rw [hc.len];exact b2))
  simp;omega)
 have h1:=h.1
 simp only [Bool.not_eq_true'] at h1
 exact ⟨h1,h.2.1,h.2.2⟩
theorem Z2g (l:List Int) (x:Int) (hl:l.length≤1000000):Zsb l x=some (decide (x∈l)):=by
 have h1:Zqb l x=some (plc (l.findIdx? fun y=>decide (x=y))):=by
  unfold Zqb
  refine Zp6 l _ (fun y=>decide (x=y)) (by omega) (fun k y hy=>?_) ?_
  ·simp only [Zpb,Zi6 hy,Zc6,Zg6 hy,Option.bind_some,Zl6 hy (show l.length≤4000000000000000000 by omega)]
   cases decide (x=y)<;>rfl
  ·simp only [Zpb,Zj6,Zd6,Zob,Option.map_some]
 simp only [Zsb,h1,Option.bind_some,Zn6,Zq6]
 congr 1
 rw [Bool.eq_iff_iff,List.any_eq_true,decide_eq_true_iff]
 constructor
 ·rintro ⟨y,hy,h⟩
  have:x=y:=by simpa using h
  exact this ▸ hy
 ·intro h;exact ⟨x,h,by simp⟩
theorem s_Round2 (g:Graph) (hg:okG g=true) (c:List Int) (hc:ColI g c) (a:Nat) (ha:(a:Int)<g.N) (A B:List Int) (hA:A.length=a):
  loop (Znf c a (Zye g a)) (A++1::B)=some (.inl (((a+1:Nat):Int),A++(Zyf c (Zye g a):Int)::B)):=by
 obtain ⟨g1,g2,g3,_,_⟩:=Z28 hg
 have hnl:=Z1f g a
 have at1:∀y:Int,at_ (A++y::B) (a:Int)=some y:=fun y=>by rw [←hA];exact Zw8 rfl
 have st1:∀y z:Int,(A++y::B).set ((a:Int)).toNat z=A++z::B:=fun y z=>by rw [←hA];exact Zx8 _ _ _ _
 have step:∀k:Nat,Zt7 (Zye g a) (fun z=>Zgf z c (A++(k:Int)::B) a)=some (Zxf c (Zye g a) k):=fun k=>by
  refine Zz7 (Zye g a) _ (fun b=>decide (cg c b=(k:Int))) (by omega) (fun b hb=>?_)
  obtain ⟨b1,b2,_⟩:=Z3f hg hb
  simp only [Zgf]
  rw [at_cg (c:=c) b1 (by rw [hc.len];exact b2),Option.bind_some,at1,Option.bind_some]
 have key:∀f k:Nat,k+f=201→1≤k→Zxf c (Zye g a) 201=false→loop (Znf c a (Zye g a)) (A++(k:Int)::B)=some (.inl (((a+1:Nat):Int),A++(lsf (fun k=>!Zxf c (Zye g a) k) f k:Int)::B)):=by
  intro f
  induction f with
  | zero=>
    intro k hk _ h201
    have:k=201:=by omega
    subst this
    rw [Zg4]
    dsimp only [Znf]
    rw [step,Option.bind_some,h201,Zd6]
    dsimp only [Zmf]
    rw [Zk6 (by omega)]
    rfl
  | succ f ih=>
    intro k hk h1 h201
    rw [Zg4]
    dsimp only [Znf]
    rw [step,Option.bind_some]
    cases hu:Zxf c (Zye g a) k with
    | true=>
      rw [Zc6,at1,Option.bind_some,st1,Zk6 (by omega)]
      dsimp only
      rw [ih (k+1) (by omega) (by omega) h201]
      simp [lsf,hu]
    | false=>
      rw [Zd6]
      dsimp only [Zmf]
      rw [Zk6 (by omega)]
      simp [lsf,hu]
 refine key 200 1 rfl (Nat.le_refl _) ?_
 unfold Zxf
 rw [List.any_eq_false]
 intro b hb
 obtain ⟨b1,b2,_⟩:=Z3f hg hb
 have:=hc.hi _ (cg_mem (c:=c) b1 (by rw [hc.len];exact b2))
 simp;omega
theorem drop_cons {c:List Int} {k:Nat} (h:k<c.length):c.drop k=cg c k::c.drop (k+1):=by
 rw [List.drop_eq_getElem_cons h]
 congr 1
 unfold cg
 simp [h]
theorem s_Round (g:Graph) (hg:okG g=true) (c:List Int) (hc:ColI g c):Zrf g c=some (Z0g g c,0):=by
 obtain ⟨g1,g2,g3,_,_⟩:=Z28 hg
 have hlen:=hc.len
 simp only [Zrf,Z18,hg,if_true,decide_true,Bool.not_true,Zd6,Option.bind_some,Z25,hlen]
 rw [Zz7 c (fun z=>Zbf z) (fun x=>decide (x<0)) (by omega) (fun x _=>rfl),Option.bind_some]
 have e0:c.any (fun x=>decide (x<0))=false:=by
  rw [List.any_eq_false];intro x hx;have:=hc.lo x hx;simp;omega
 rw [e0]
 simp only [Zqf,Zd6,Zbb]
 rw [Zh6 _ _ (by omega) (by simp;omega),Option.bind_some,List.nil_append]
 refine (Zz8 g.N.toNat (Zpf g c) (fun k=>((k:Int),(List.range k).map (newC g c)++c.drop k)) (Z0g g c,0) (fun k hk=>?_) ?_)
 ·have hkl:k<c.length:=by omega
  obtain ⟨g1',_⟩:=Z28 hg
  dsimp only [Zpf]
  rw [decide_eq_true (by omega),Zc6,s_Near,hg,if_pos rfl,Option.bind_some,at_cg (c:=c) (Int.natCast_nonneg k) (by omega),Option.bind_some,drop_cons hkl,Z7f]
  have hA:((List.range k).map (newC g c)).length=k:=by simp
  have keep:newC g c k=cg c k→Zof c k ((List.range k).map (newC g c)++cg c k::c.drop (k+1)) (Zye g k) true=some (.inl (((k+1:Nat):Int),((List.range k).map (newC g c)++[newC g c k])++c.drop (k+1))):=fun e=>by
   dsimp only [Zof,Zmf]
   rw [Zc6,Zk6 (by omega),e];simp
  by_cases h0:cg c k=0
  ·rw [decide_eq_true h0,Bool.not_true,Zd6]
   have hcf:Zt7 (Zye g k) (fun z=>Zef z c k)=some ((Zye g k).any fun b=>decide (cg c b=0)&&decide ((k:Int)<b)):=by
    refine Zz7 (Zye g k) _ (fun b=>decide (cg c b=0)&&decide ((k:Int)<b)) (by have:=Z1f g k;omega) (fun b hb=>?_)
    obtain ⟨b1,b2,_⟩:=Z3f hg hb
    simp only [Zef,Zdf]
    rw [at_cg (c:=c) b1 (by omega),Option.bind_some]
    cases decide (cg c b=0)<;>rfl
   rw [hcf,Option.bind_some]
   cases ht:(Zye g k).any fun b=>decide (cg c b=0)&&decide ((k:Int)<b) with
   | true=>
     refine keep ?_
     unfold newC Zzf
     rw [ht];simp
   | false=>
     have e:newC g c k=(Zyf c (Zye g k):Int):=by
      unfold newC Zzf
      rw [ht,decide_eq_true h0];simp
     dsimp only [Zof]
     have at1:=Zw8 (l:=(List.range k).map (newC g c)++cg c k::c.drop (k+1)) rfl
     rw [hA] at at1
     have st1:=Zx8 ((List.range k).map (newC g c)) (c.drop (k+1)) (cg c k) 1
     rw [hA] at st1
     rw [Zd6,at1,Option.bind_some,st1,s_Round2 g hg c hc k (by omega) _ _ hA,e]
     simp
  ·rw [decide_eq_false h0,Bool.not_false,Zc6]
   refine keep ?_
   unfold newC Zzf
   rw [decide_eq_false h0];simp
 ·dsimp only [Zpf]
  rw [decide_eq_false (by omega),Zd6,List.drop_eq_nil_of_le (by omega),List.append_nil]
  rfl
end NX
end Go.Proofs.YtacfbmldajmjiaaGreat
