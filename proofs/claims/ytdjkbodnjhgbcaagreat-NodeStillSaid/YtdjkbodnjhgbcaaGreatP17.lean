/-
  The function narthex/dine.Fire$1, lent own memory. Written by a program of ours (lb.py). No statement of the seat is proved here.
-/
import Derived.Test.YtdjkbodnjhgbcaaGreatP14
import Derived.Test.YtdjkbodnjhgbcaaGreatP15
set_option maxRecDepth 100000
set_option maxHeartbeats 4000000
namespace Go.Proofs.YtdjkbodnjhgbcaaGreat
namespace NX
open Go
noncomputable section
def Zfb (x1 x2:Int) (_x3 x4:Int) (x5:List Mail) (x6:List Side):Option (List Mail):=
 (at_ x6 x4).bind fun x7=>
 (Zj4 40 x5 ([Mail.mk x2 x7.Peer (Msg.mk x1 x7.Epoch 0)])).bind fun x8=>
 some x8
theorem Zgb (x1 x2:Int) (x3 x4:Int) (x5:List Mail) (x6:List Side) (r:List Mail) (h:Zfb x1 x2 x3 x4 x5 x6=some r):Zq5 Tryz.prog 184 [.iv x1,.ptr 0 0,.ptr 1 0,.ptr 2 0] [some ⟨44,[.osl 0]⟩,some ⟨25,[.iv x2,.iv x3,.osl 1]⟩,some ⟨179,[.oel 1 (Int.toNat (x4)*8) 0]⟩] [Za7 x5,Sq6 x6] (.tup []) [some ⟨44,[.osl 3]⟩,some ⟨25,[.iv x2,.iv x3,.osl 1]⟩,some ⟨179,[.oel 1 (Int.toNat (x4)*8) 0]⟩] [none,Sq6 x6,none,Za7 r]:=by
 refine FT Zn8 fun w0 M0=>?_
 rw [Zfb] at h
 dsimp only[lun,List.cons_append,List.nil_append]
 refine Zz6 fun all H=>?_;refine Gn H 3 14 ?_;refine Z84 0 3 8 rfl ?_ ?_ ?_
 ·refine GV H.1 ?_;dsimp only[go_sem];refine Z74 3 8 rfl ?_ ?_
  ·refine GV H.1 ?_;refine Gn H 2 10 ?_;have ⟨x7,ex7,h⟩:=Bs h;refine Z74 6 8 rfl ?_ ?_
   ·refine GL H.1 Side.row ex7 ?_;dsimp only[go_sem];refine GE H.1 8 ?_;refine Gn H 2 6 ?_;refine Z64 11 rfl (GL H.1 Side.row ex7 ?_);refine Gn H 2 3 ?_;refine GE H.1 14 ?_;dsimp only[go_sem];refine Z64 15 rfl ?_;have ⟨x8,ex8,h⟩:=Bs h
    refine GA Mail.row ex8 H.1 ?_;dsimp only[go_sem];refine GE H.1 16 ?_;dsimp only[go_sem];refine GD ?_;obtain rfl:=Option.some.inj h;exact Z57 Zn8
   ·refine GV H.1 ?_;refine Gn H 2 7 ?_;refine Z74 6 11 rfl ?_ ?_
    ·refine GL H.1 Side.row ex7 ?_;dsimp only[go_sem];refine Z64 11 rfl (GL H.1 Side.row ex7 ?_);refine Gn H 2 3 ?_;refine GE H.1 14 ?_;dsimp only[go_sem];refine Z64 15 rfl ?_;have ⟨x8,ex8,h⟩:=Bs h;refine GA Mail.row ex8 H.1 ?_;dsimp only[go_sem];refine GE H.1 16 ?_;dsimp only[go_sem];refine GD ?_
     obtain rfl:=Option.some.inj h;exact Z57 Zn8
    ·refine GL H.1 Side.row ex7 ?_;refine Gn H 1 5 ?_;refine Z64 6 rfl (GL H.1 Side.row ex7 ?_);refine Gn H 1 3 ?_;refine GE H.1 14 ?_;dsimp only[go_sem];refine Z64 15 rfl ?_;have ⟨x8,ex8,h⟩:=Bs h;refine GA Mail.row ex8 H.1 ?_;dsimp only[go_sem];refine Z64 16 rfl ?_
     refine GV H.1 ?_;dsimp only[go_sem];refine GD ?_;obtain rfl:=Option.some.inj h;exact Z57 Zn8
  ·refine GV H.1 ?_;refine Gn H 2 10 ?_;have ⟨x7,ex7,h⟩:=Bs h;refine Z74 3 11 rfl ?_ ?_
   ·refine GV H.1 ?_;refine Gn H 2 7 ?_;refine Z74 6 11 rfl ?_ ?_
    ·refine GL H.1 Side.row ex7 ?_;dsimp only[go_sem];refine Z64 11 rfl (GL H.1 Side.row ex7 ?_);refine Gn H 2 3 ?_;refine GE H.1 14 ?_;dsimp only[go_sem];refine Z64 15 rfl ?_;have ⟨x8,ex8,h⟩:=Bs h;refine GA Mail.row ex8 H.1 ?_;dsimp only[go_sem];refine GE H.1 16 ?_;dsimp only[go_sem];refine GD ?_
     obtain rfl:=Option.some.inj h;exact Z57 Zn8
    ·refine GL H.1 Side.row ex7 ?_;refine Gn H 1 5 ?_;refine Z64 6 rfl (GL H.1 Side.row ex7 ?_);refine Gn H 1 3 ?_;refine GE H.1 14 ?_;dsimp only[go_sem];refine Z64 15 rfl ?_;have ⟨x8,ex8,h⟩:=Bs h;refine GA Mail.row ex8 H.1 ?_;dsimp only[go_sem];refine Z64 16 rfl ?_
     refine GV H.1 ?_;dsimp only[go_sem];refine GD ?_;obtain rfl:=Option.some.inj h;exact Z57 Zn8
   ·refine GL H.1 Side.row ex7 ?_;refine Gn H 1 8 ?_;refine GE H.1 3 ?_;refine Gn H 2 5 ?_;refine Z64 6 rfl (GL H.1 Side.row ex7 ?_);refine Gn H 1 3 ?_;refine GE H.1 14 ?_;dsimp only[go_sem];refine Z64 15 rfl ?_
    have ⟨x8,ex8,h⟩:=Bs h;refine GA Mail.row ex8 H.1 ?_;dsimp only[go_sem];refine GE H.1 16 ?_;dsimp only[go_sem];refine GD ?_;obtain rfl:=Option.some.inj h;exact Z57 Zn8
 ·refine GV H.1 ?_;refine Gn H 2 11 ?_;have ⟨x7,ex7,h⟩:=Bs h;refine Z84 0 6 8 rfl ?_ ?_ ?_
  ·refine GV H.1 ?_;dsimp only[go_sem];refine Z74 6 8 rfl ?_ ?_
   ·refine GL H.1 Side.row ex7 ?_;dsimp only[go_sem];refine GE H.1 8 ?_;refine Gn H 2 6 ?_;refine Z64 11 rfl (GL H.1 Side.row ex7 ?_);refine Gn H 2 3 ?_;refine GE H.1 14 ?_;dsimp only[go_sem];refine Z64 15 rfl ?_;have ⟨x8,ex8,h⟩:=Bs h
    refine GA Mail.row ex8 H.1 ?_;dsimp only[go_sem];refine GE H.1 16 ?_;dsimp only[go_sem];refine GD ?_;obtain rfl:=Option.some.inj h;exact Z57 Zn8
   ·refine GV H.1 ?_;refine Gn H 2 7 ?_;refine Z74 6 11 rfl ?_ ?_
    ·refine GL H.1 Side.row ex7 ?_;dsimp only[go_sem];refine Z64 11 rfl (GL H.1 Side.row ex7 ?_);refine Gn H 2 3 ?_;refine GE H.1 14 ?_;dsimp only[go_sem];refine Z64 15 rfl ?_;have ⟨x8,ex8,h⟩:=Bs h;refine GA Mail.row ex8 H.1 ?_;dsimp only[go_sem];refine GE H.1 16 ?_;dsimp only[go_sem];refine GD ?_
     obtain rfl:=Option.some.inj h;exact Z57 Zn8
    ·refine GL H.1 Side.row ex7 ?_;refine Gn H 1 5 ?_;refine Z64 6 rfl (GL H.1 Side.row ex7 ?_);refine Gn H 1 3 ?_;refine GE H.1 14 ?_;dsimp only[go_sem];refine Z64 15 rfl ?_;have ⟨x8,ex8,h⟩:=Bs h;refine GA Mail.row ex8 H.1 ?_;dsimp only[go_sem];refine Z64 16 rfl ?_
     refine GV H.1 ?_;dsimp only[go_sem];refine GD ?_;obtain rfl:=Option.some.inj h;exact Z57 Zn8
  ·refine GL H.1 Side.row ex7 ?_;dsimp only[go_sem];refine Z74 0 8 rfl ?_ ?_
   ·refine GV H.1 ?_;dsimp only[go_sem];refine GE H.1 8 ?_;refine Gn H 2 6 ?_;refine Z64 11 rfl (GL H.1 Side.row ex7 ?_);refine Gn H 2 3 ?_;refine GE H.1 14 ?_;dsimp only[go_sem];refine Z64 15 rfl ?_;have ⟨x8,ex8,h⟩:=Bs h;refine GA Mail.row ex8 H.1 ?_
    dsimp only[go_sem];refine GE H.1 16 ?_;dsimp only[go_sem];refine GD ?_;obtain rfl:=Option.some.inj h;exact Z57 Zn8
   ·refine GV H.1 ?_;refine Gn H 2 7 ?_;refine Z74 0 11 rfl ?_ ?_
    ·refine GV H.1 ?_;dsimp only[go_sem];refine Z64 11 rfl (GL H.1 Side.row ex7 ?_);refine Gn H 2 3 ?_;refine GE H.1 14 ?_;dsimp only[go_sem];refine Z64 15 rfl ?_;have ⟨x8,ex8,h⟩:=Bs h;refine GA Mail.row ex8 H.1 ?_;dsimp only[go_sem];refine GE H.1 16 ?_;dsimp only[go_sem];refine GD ?_;obtain rfl:=Option.some.inj h
     exact Z57 Zn8
    ·refine GL H.1 Side.row ex7 ?_;refine Gn H 2 4 ?_;refine Z74 0 14 rfl ?_ ?_
     ·refine GV H.1 ?_;dsimp only[go_sem];refine GE H.1 14 ?_;dsimp only[go_sem];refine Z64 15 rfl ?_;have ⟨x8,ex8,h⟩:=Bs h;refine GA Mail.row ex8 H.1 ?_;dsimp only[go_sem];refine GE H.1 16 ?_;dsimp only[go_sem];refine GD ?_;obtain rfl:=Option.some.inj h;exact Z57 Zn8
     ·refine GV H.1 ?_;dsimp only[go_sem];refine GE H.1 0 ?_;dsimp only[go_sem];refine Z64 15 rfl ?_;have ⟨x8,ex8,h⟩:=Bs h;refine GA Mail.row ex8 H.1 ?_;dsimp only[go_sem];refine GE H.1 16 ?_;dsimp only[go_sem];refine GD ?_;obtain rfl:=Option.some.inj h;exact Z57 Zn8
  ·refine GV H.1 ?_;refine Gn H 2 8 ?_;refine Z84 0 6 11 rfl ?_ ?_ ?_
   ·refine GV H.1 ?_;dsimp only[go_sem];refine Z74 6 11 rfl ?_ ?_
    ·refine GL H.1 Side.row ex7 ?_;dsimp only[go_sem];refine Z64 11 rfl (GL H.1 Side.row ex7 ?_);refine Gn H 2 3 ?_;refine GE H.1 14 ?_;dsimp only[go_sem];refine Z64 15 rfl ?_;have ⟨x8,ex8,h⟩:=Bs h;refine GA Mail.row ex8 H.1 ?_;dsimp only[go_sem];refine GE H.1 16 ?_;dsimp only[go_sem];refine GD ?_
     obtain rfl:=Option.some.inj h;exact Z57 Zn8
    ·refine GL H.1 Side.row ex7 ?_;refine Gn H 1 5 ?_;refine Z64 6 rfl (GL H.1 Side.row ex7 ?_);refine Gn H 1 3 ?_;refine GE H.1 14 ?_;dsimp only[go_sem];refine Z64 15 rfl ?_;have ⟨x8,ex8,h⟩:=Bs h;refine GA Mail.row ex8 H.1 ?_;dsimp only[go_sem];refine Z64 16 rfl ?_
     refine GV H.1 ?_;dsimp only[go_sem];refine GD ?_;obtain rfl:=Option.some.inj h;exact Z57 Zn8
   ·refine GL H.1 Side.row ex7 ?_;dsimp only[go_sem];refine Z74 0 11 rfl ?_ ?_
    ·refine GV H.1 ?_;dsimp only[go_sem];refine Z64 11 rfl (GL H.1 Side.row ex7 ?_);refine Gn H 2 3 ?_;refine GE H.1 14 ?_;dsimp only[go_sem];refine Z64 15 rfl ?_;have ⟨x8,ex8,h⟩:=Bs h;refine GA Mail.row ex8 H.1 ?_;dsimp only[go_sem];refine GE H.1 16 ?_;dsimp only[go_sem];refine GD ?_;obtain rfl:=Option.some.inj h
     exact Z57 Zn8
    ·refine GL H.1 Side.row ex7 ?_;refine Gn H 2 4 ?_;refine Z74 0 14 rfl ?_ ?_
     ·refine GV H.1 ?_;dsimp only[go_sem];refine GE H.1 14 ?_;dsimp only[go_sem];refine Z64 15 rfl ?_;have ⟨x8,ex8,h⟩:=Bs h;refine GA Mail.row ex8 H.1 ?_;dsimp only[go_sem];refine GE H.1 16 ?_;dsimp only[go_sem];refine GD ?_;obtain rfl:=Option.some.inj h;exact Z57 Zn8
     ·refine GV H.1 ?_;dsimp only[go_sem];refine GE H.1 0 ?_;dsimp only[go_sem];refine Z64 15 rfl ?_;have ⟨x8,ex8,h⟩:=Bs h;refine GA Mail.row ex8 H.1 ?_;dsimp only[go_sem];refine GE H.1 16 ?_;dsimp only[go_sem];refine GD ?_;obtain rfl:=Option.some.inj h;exact Z57 Zn8
   ·refine GL H.1 Side.row ex7 ?_;refine Gn H 1 6 ?_;refine Z74 0 6 rfl ?_ ?_
    ·refine GV H.1 ?_;dsimp only[go_sem];refine Z64 6 rfl (GL H.1 Side.row ex7 ?_);refine Gn H 1 3 ?_;refine GE H.1 14 ?_;dsimp only[go_sem];refine Z64 15 rfl ?_;have ⟨x8,ex8,h⟩:=Bs h;refine GA Mail.row ex8 H.1 ?_;dsimp only[go_sem];refine GE H.1 16 ?_;dsimp only[go_sem];refine GD ?_;obtain rfl:=Option.some.inj h
     exact Z57 Zn8
    ·refine GL H.1 Side.row ex7 ?_;refine Gn H 1 4 ?_;refine Z74 0 14 rfl ?_ ?_
     ·refine GV H.1 ?_;dsimp only[go_sem];refine GE H.1 14 ?_;dsimp only[go_sem];refine Z64 15 rfl ?_;have ⟨x8,ex8,h⟩:=Bs h;refine GA Mail.row ex8 H.1 ?_;dsimp only[go_sem];refine GE H.1 16 ?_;dsimp only[go_sem];refine GD ?_;obtain rfl:=Option.some.inj h;exact Z57 Zn8
     ·refine GV H.1 ?_;dsimp only[go_sem];refine GE H.1 0 ?_;dsimp only[go_sem];refine Z64 15 rfl ?_;have ⟨x8,ex8,h⟩:=Bs h;refine GA Mail.row ex8 H.1 ?_;dsimp only[go_sem];refine GE H.1 16 ?_;dsimp only[go_sem];refine GD ?_;obtain rfl:=Option.some.inj h;exact Z57 Zn8
 ·refine GV H.1 ?_;refine Gn H 2 11 ?_;have ⟨x7,ex7,h⟩:=Bs h;refine Z84 0 3 11 rfl ?_ ?_ ?_
  ·refine GV H.1 ?_;dsimp only[go_sem];refine Z74 3 11 rfl ?_ ?_
   ·refine GV H.1 ?_;refine Gn H 2 7 ?_;refine Z74 6 11 rfl ?_ ?_
    ·refine GL H.1 Side.row ex7 ?_;dsimp only[go_sem];refine Z64 11 rfl (GL H.1 Side.row ex7 ?_);refine Gn H 2 3 ?_;refine GE H.1 14 ?_;dsimp only[go_sem];refine Z64 15 rfl ?_;have ⟨x8,ex8,h⟩:=Bs h;refine GA Mail.row ex8 H.1 ?_;dsimp only[go_sem];refine GE H.1 16 ?_;dsimp only[go_sem];refine GD ?_
     obtain rfl:=Option.some.inj h;exact Z57 Zn8
    ·refine GL H.1 Side.row ex7 ?_;refine Gn H 1 5 ?_;refine Z64 6 rfl (GL H.1 Side.row ex7 ?_);refine Gn H 1 3 ?_;refine GE H.1 14 ?_;dsimp only[go_sem];refine Z64 15 rfl ?_;have ⟨x8,ex8,h⟩:=Bs h;refine GA Mail.row ex8 H.1 ?_;dsimp only[go_sem];refine Z64 16 rfl ?_
     refine GV H.1 ?_;dsimp only[go_sem];refine GD ?_;obtain rfl:=Option.some.inj h;exact Z57 Zn8
   ·refine GL H.1 Side.row ex7 ?_;refine Gn H 1 8 ?_;refine GE H.1 3 ?_;refine Gn H 2 5 ?_;refine Z64 6 rfl (GL H.1 Side.row ex7 ?_);refine Gn H 1 3 ?_;refine GE H.1 14 ?_;dsimp only[go_sem];refine Z64 15 rfl ?_
    have ⟨x8,ex8,h⟩:=Bs h;refine GA Mail.row ex8 H.1 ?_;dsimp only[go_sem];refine GE H.1 16 ?_;dsimp only[go_sem];refine GD ?_;obtain rfl:=Option.some.inj h;exact Z57 Zn8
  ·refine GV H.1 ?_;refine Gn H 2 8 ?_;refine Z84 0 6 11 rfl ?_ ?_ ?_
   ·refine GV H.1 ?_;dsimp only[go_sem];refine Z74 6 11 rfl ?_ ?_
    ·refine GL H.1 Side.row ex7 ?_;dsimp only[go_sem];refine Z64 11 rfl (GL H.1 Side.row ex7 ?_);refine Gn H 2 3 ?_;refine GE H.1 14 ?_;dsimp only[go_sem];refine Z64 15 rfl ?_;have ⟨x8,ex8,h⟩:=Bs h;refine GA Mail.row ex8 H.1 ?_;dsimp only[go_sem];refine GE H.1 16 ?_;dsimp only[go_sem];refine GD ?_
     obtain rfl:=Option.some.inj h;exact Z57 Zn8
    ·refine GL H.1 Side.row ex7 ?_;refine Gn H 1 5 ?_;refine Z64 6 rfl (GL H.1 Side.row ex7 ?_);refine Gn H 1 3 ?_;refine GE H.1 14 ?_;dsimp only[go_sem];refine Z64 15 rfl ?_;have ⟨x8,ex8,h⟩:=Bs h;refine GA Mail.row ex8 H.1 ?_;dsimp only[go_sem];refine Z64 16 rfl ?_
     refine GV H.1 ?_;dsimp only[go_sem];refine GD ?_;obtain rfl:=Option.some.inj h;exact Z57 Zn8
   ·refine GL H.1 Side.row ex7 ?_;dsimp only[go_sem];refine Z74 0 11 rfl ?_ ?_
    ·refine GV H.1 ?_;dsimp only[go_sem];refine Z64 11 rfl (GL H.1 Side.row ex7 ?_);refine Gn H 2 3 ?_;refine GE H.1 14 ?_;dsimp only[go_sem];refine Z64 15 rfl ?_;have ⟨x8,ex8,h⟩:=Bs h;refine GA Mail.row ex8 H.1 ?_;dsimp only[go_sem];refine GE H.1 16 ?_;dsimp only[go_sem];refine GD ?_;obtain rfl:=Option.some.inj h
     exact Z57 Zn8
    ·refine GL H.1 Side.row ex7 ?_;refine Gn H 2 4 ?_;refine Z74 0 14 rfl ?_ ?_
     ·refine GV H.1 ?_;dsimp only[go_sem];refine GE H.1 14 ?_;dsimp only[go_sem];refine Z64 15 rfl ?_;have ⟨x8,ex8,h⟩:=Bs h;refine GA Mail.row ex8 H.1 ?_;dsimp only[go_sem];refine GE H.1 16 ?_;dsimp only[go_sem];refine GD ?_;obtain rfl:=Option.some.inj h;exact Z57 Zn8
     ·refine GV H.1 ?_;dsimp only[go_sem];refine GE H.1 0 ?_;dsimp only[go_sem];refine Z64 15 rfl ?_;have ⟨x8,ex8,h⟩:=Bs h;refine GA Mail.row ex8 H.1 ?_;dsimp only[go_sem];refine GE H.1 16 ?_;dsimp only[go_sem];refine GD ?_;obtain rfl:=Option.some.inj h;exact Z57 Zn8
   ·refine GL H.1 Side.row ex7 ?_;refine Gn H 1 6 ?_;refine Z74 0 6 rfl ?_ ?_
    ·refine GV H.1 ?_;dsimp only[go_sem];refine Z64 6 rfl (GL H.1 Side.row ex7 ?_);refine Gn H 1 3 ?_;refine GE H.1 14 ?_;dsimp only[go_sem];refine Z64 15 rfl ?_;have ⟨x8,ex8,h⟩:=Bs h;refine GA Mail.row ex8 H.1 ?_;dsimp only[go_sem];refine GE H.1 16 ?_;dsimp only[go_sem];refine GD ?_;obtain rfl:=Option.some.inj h
     exact Z57 Zn8
    ·refine GL H.1 Side.row ex7 ?_;refine Gn H 1 4 ?_;refine Z74 0 14 rfl ?_ ?_
     ·refine GV H.1 ?_;dsimp only[go_sem];refine GE H.1 14 ?_;dsimp only[go_sem];refine Z64 15 rfl ?_;have ⟨x8,ex8,h⟩:=Bs h;refine GA Mail.row ex8 H.1 ?_;dsimp only[go_sem];refine GE H.1 16 ?_;dsimp only[go_sem];refine GD ?_;obtain rfl:=Option.some.inj h;exact Z57 Zn8
     ·refine GV H.1 ?_;dsimp only[go_sem];refine GE H.1 0 ?_;dsimp only[go_sem];refine Z64 15 rfl ?_;have ⟨x8,ex8,h⟩:=Bs h;refine GA Mail.row ex8 H.1 ?_;dsimp only[go_sem];refine GE H.1 16 ?_;dsimp only[go_sem];refine GD ?_;obtain rfl:=Option.some.inj h;exact Z57 Zn8
  ·refine GL H.1 Side.row ex7 ?_;refine Gn H 1 9 ?_;refine Z74 0 3 rfl ?_ ?_
   ·refine GV H.1 ?_;dsimp only[go_sem];refine GE H.1 3 ?_;refine Gn H 2 5 ?_;refine Z64 6 rfl (GL H.1 Side.row ex7 ?_);refine Gn H 1 3 ?_;refine GE H.1 14 ?_;dsimp only[go_sem];refine Z64 15 rfl ?_;have ⟨x8,ex8,h⟩:=Bs h;refine GA Mail.row ex8 H.1 ?_
    dsimp only[go_sem];refine GE H.1 16 ?_;dsimp only[go_sem];refine GD ?_;obtain rfl:=Option.some.inj h;exact Z57 Zn8
   ·refine GV H.1 ?_;refine Gn H 2 6 ?_;refine Z74 0 6 rfl ?_ ?_
    ·refine GV H.1 ?_;dsimp only[go_sem];refine Z64 6 rfl (GL H.1 Side.row ex7 ?_);refine Gn H 1 3 ?_;refine GE H.1 14 ?_;dsimp only[go_sem];refine Z64 15 rfl ?_;have ⟨x8,ex8,h⟩:=Bs h;refine GA Mail.row ex8 H.1 ?_;dsimp only[go_sem];refine GE H.1 16 ?_;dsimp only[go_sem];refine GD ?_;obtain rfl:=Option.some.inj h
     exact Z57 Zn8
    ·refine GL H.1 Side.row ex7 ?_;refine Gn H 1 4 ?_;refine Z74 0 14 rfl ?_ ?_
     ·refine GV H.1 ?_;dsimp only[go_sem];refine GE H.1 14 ?_;dsimp only[go_sem];refine Z64 15 rfl ?_;have ⟨x8,ex8,h⟩:=Bs h;refine GA Mail.row ex8 H.1 ?_;dsimp only[go_sem];refine GE H.1 16 ?_;dsimp only[go_sem];refine GD ?_;obtain rfl:=Option.some.inj h;exact Z57 Zn8
     ·refine GV H.1 ?_;dsimp only[go_sem];refine GE H.1 0 ?_;dsimp only[go_sem];refine Z64 15 rfl ?_;have ⟨x8,ex8,h⟩:=Bs h;refine GA Mail.row ex8 H.1 ?_;dsimp only[go_sem];refine GE H.1 16 ?_;dsimp only[go_sem];refine GD ?_;obtain rfl:=Option.some.inj h;exact Z57 Zn8
@[go_sem] def e134:EC:=(by have h:=hF Tryz.f134;(conv at h=>rhs;reduce);dsimp only[go_sem] at h;exact ⟨_,h⟩:DP Tryz.f134).1
theorem ok134:FnOK Tryz.prog 134 Tryz.f134 e134 [.c 2 (some 5)] 1 13:=okA
@[go_sem] def e110:EC:=(by have h:=hF Tryz.f110;(conv at h=>rhs;reduce);dsimp only[go_sem] at h;exact ⟨_,h⟩:DP Tryz.f110).1
theorem ok110:FnOK Tryz.prog 110 Tryz.f110 e110 [.t 4] 2 22:=okA
def Zhb:Bool→Option Bool
| x4=>
 some x4
def Zib (x1 x2:DI):Option Bool:=
 ifb (decide (x1.ID=x2.ID)) (
 ifb (decide (x1.PH=x2.PH)) (
 (Zf8 x1.SD x2.SD).bind fun x3=>
 Zhb x3) (
 Zhb false)) (
 Zhb false)
theorem k_dine_Same (x1 x2:DI) (r:Bool) (h:Zib x1 x2=some r):Z03 Tryz.prog 110 [.agg (DI.row x1),.agg (DI.row x2)] (.bv r):=by
 refine FP ok110 fun w0 H0=>?_
 rw [Zib] at h
 refine Vg 14 ?_;refine Zo4 (fun (x4:Bool)=>⟨an 4 (.bv x4::an 19 []),[],[]⟩) Zhb r ?_ fun J1=>?_
 ·intro x4 h;rw [Zhb] at h;(try dsimp only);exact MD ok110 h
 ·refine MC 10 h (fun h=>?_) fun h=>?_
  ·refine Vg 7 ?_;refine MC 17 h (fun h=>?_) fun h=>?_
   ·refine Vg 4 ?_;have ⟨x3,ex3,h⟩:=Bs h;refine VC (Zg8 x1.SD x2.SD _ ex3) (Vg 3 ?_);exact Zx4 J1 h
   ·refine Vg 8 ?_;exact Zx4 J1 h
  ·refine Vg 15 ?_;exact Zx4 J1 h
@[go_sem] def e29:EC:=(by have h:=hF Tryz.f29;(conv at h=>rhs;reduce);dsimp only[go_sem] at h;exact ⟨_,h⟩:DP Tryz.f29).1
theorem ok29:FnOK Tryz.prog 29 Tryz.f29 e29 [.c 2 (some 10)] 1 58:=okA
@[go_sem] def e21:EC:=(by have h:=hF Tryz.f21;(conv at h=>rhs;reduce);dsimp only[go_sem] at h;exact ⟨_,h⟩:DP Tryz.f21).1
theorem ok21:FnOK Tryz.prog 21 Tryz.f21 e21 [.t 2] 1 4:=okA
def Zjb (x1:Node):Option (List Int):=
 (Zz8 x1 ((fun z=>Z19 z))).bind fun x2=>
 some x2
theorem Zkb (x1:Node) (r:List Int) (h:Zjb x1=some r):Z03 Tryz.prog 21 [.agg (Node.row x1)] (Sp0 r):=by
 refine FP ok21 fun w0 H0=>?_
 rw [Zjb] at h
 refine Vg 8 ?_;have ⟨x2,ex2,h⟩:=Bs h;refine VC (Z09 x1 _ _ ((fun z=>Z19 z)) ⟨by kernel_rfl,rfl,fun z r hz=>Z29 z r hz⟩ _ ex2) (Vg 2 ?_);exact MD ok21 h
@[go_sem] def e72:EC:=(by have h:=hF Tryz.f72;(conv at h=>rhs;reduce);dsimp only[go_sem] at h;exact ⟨_,h⟩:DP Tryz.f72).1
theorem ok72:FnOK Tryz.prog 72 Tryz.f72 e72 [.t 6] 3 19:=okA
def Zlb:Int→Option (Bool×Int)
| x15=>
 some (decide (x15=0),x15)
def Zmb (x2 x8:Int):Bool→Option (Bool×Int)
| x14=>
 ifb x14 (
 Zlb x2) (
 Zlb x8)
def Znb (x1:Bool) (x2:Int) (_x3 _x4:Int) (_x5 _x6:Int) (_x7:List Sess) (x8:Int) (_x9:List Side) (_x10:List Int) (_x11:List KE) (_x12:List Int) (_x13:List KE):Option (Bool×Int):=
 ifb (decide (x8=0)) (
 (Zmb x2 x8) (!x1)) (
 (Zmb x2 x8) false)
theorem Zob (x1:Bool) (x2:Int) (x3 x4:Int) (x5 x6:Int) (x7:List Sess) (x8:Int) (x9:List Side) (x10:List Int) (x11:List KE) (x12:List Int) (x13:List KE) (r:(Bool×Int)) (h:Znb x1 x2 x3 x4 x5 x6 x7 x8 x9 x10 x11 x12 x13=some r):Zq5 Tryz.prog 33 [.ptr 0 0,.bv x1,.iv x2] [some ⟨81,[.iv x3,.iv x4,.osl 0,.iv x5,.osl 1,.iv x6,Sp3 x7,.osl 2,.osl 3,.osl 4,.nl,.nl,.iv x8]⟩] [Sq6 x9,Sq7 x10,Sq8 x11,Sq7 x12,Sq8 x13] (.bv r.1) [some ⟨81,[.iv x3,.iv x4,.osl 0,.iv x5,.osl 1,.iv x6,Sp3 x7,.osl 2,.osl 3,.osl 4,.nl,.nl,.iv r.2]⟩] [Sq6 x9,Sq7 x10,Sq8 x11,Sq7 x12,Sq8 x13]:=by
 refine FT ok33 fun w0 M0=>?_
 rw [Znb] at h
 dsimp only[lun,List.cons_append,List.nil_append]
 refine Vg 13 ?_;refine Zo4 (fun (x14:Bool)=>⟨(.ptr 0 0 :: .any :: .iv x2::an 12 (.bv x14::an 9 [])),[some ⟨81,[.iv x3,.iv x4,.osl 0,.iv x5,.osl 1,.iv x6,Sp3 x7,.osl 2,.osl 3,.osl 4,.nl,.nl,.iv x8]⟩],[Sq6 x9,Sq7 x10,Sq8 x11,Sq7 x12,Sq8 x13]⟩) (Zmb x2 x8) r ?_ fun J1=>?_
 ·intro x14 h;rw [Zmb] at h;(try dsimp only);refine Zo4 (fun (x15:Int)=>⟨(.ptr 0 0::an 24 []),[some ⟨81,[.iv x3,.iv x4,.osl 0,.iv x5,.osl 1,.iv x6,Sp3 x7,.osl 2,.osl 3,.osl 4,.nl,.nl,.iv x15]⟩],[Sq6 x9,Sq7 x10,Sq8 x11,Sq7 x12,Sq8 x13]⟩) Zlb r ?_ fun J2=>?_
  ·intro x15 h;rw [Zlb] at h;(try dsimp only);refine Vg 9 ?_;obtain rfl:=Option.some.inj h;exact Z47 ok33
  ·refine MI h (fun h=>?_) fun h=>?_
   ·refine Vg 7 ?_;exact Zx4 J2 h
   ·refine Vg 1 ?_;exact Zx4 J2 h
 ·refine MC 12 h (fun h=>?_) fun h=>?_
  ·refine Vg 4 ?_;exact Zx4 J1 h
  ·refine Vg 4 ?_;exact Zx4 J1 h
def Zpb:List Int→Option (List Int)
| x33=>
 some x33
def Zqb (x17:Int):List Int→Option ((Int×List Int) ⊕ (List Int))
| x22=>
 some (.inl (wr (x17+1),x22))
def Zrb (x6:List Side) (p0:(Side→Option Bool)):(Int×List Int)→Option ((Int×List Int) ⊕ (List Int))
| (x17,x18)=>
 ifb (decide (x17<(ln Side.row x6))) (
 (at_ x6 x17).bind fun x19=>
 (p0 x19).bind fun x20=>
 ifb x20 (
 (Zj4 8 x18 ([x19.Peer])).bind fun x21=>
 (Zqb x17) x21) (
 (Zqb x17) x18)) (
 Option.map Sum.inr (Zpb x18))
def Zsb (_x1 _x2:Int) (_x3 _x4:Int) (_x5:List Sess) (x6:List Side) (_x7:List Int) (_x8:List KE) (_x9:List Int) (_x10:List KE) (p0:(Side→Option Bool)):Option (List Int):=
 loop (Zrb x6 p0) (0,([]:List Int))
theorem Ztb (x1 x2:Int) (x3 x4:Int) (x5:List Sess) (x6:List Side) (x7:List Int) (x8:List KE) (x9:List Int) (x10:List KE) (g0:Nat) (caps0:List AV) (p0:(Side→Option Bool)) (hc0:CloOK Tryz.prog g0 caps0 (fun z=>[.agg (Side.row z)]) p0 (fun z=>.bv z)) (r:List Int) (h:Zsb x1 x2 x3 x4 x5 x6 x7 x8 x9 x10 p0=some r):Zq5 Tryz.prog 57 [.agg [.iv x1,.iv x2,.osl 0,.iv x3,.osl 1,.iv x4,Sp3 x5,.osl 2,.osl 3,.osl 4],.clo g0 caps0] [] [Sq6 x6,Sq7 x7,Sq8 x8,Sq7 x9,Sq8 x10] (.osl 5) [] [Sq6 x6,Sq7 x7,Sq8 x8,Sq7 x9,Sq8 x10,Sq7 r]:=by
 refine FT ok57 fun w0 M0=>?_
 rw [Zsb] at h
 dsimp only[lun,List.cons_append,List.nil_append]
 refine Vg 19 ?_;refine Zo4 (fun (x33:List Int)=>⟨an 5 (.osl 5::an 21 []),[],[Sq6 x6,Sq7 x7,Sq8 x8,Sq7 x9,Sq8 x10,Sq7 x33]⟩) Zpb r ?_ fun J1=>?_
 ·intro x33 h;rw [Zpb] at h;(try dsimp only);refine Vg 5 ?_;obtain rfl:=Option.some.inj h;exact Z47 ok57
 ·refine Vg 1 ?_;refine Zf4 5 3 1 rfl rfl ?_;dsimp only[go_sem];refine Zp4 h (fun ((x17,x18):(Int×List Int))=>⟨(.any :: .clo g0 caps0::an 3 (.osl 5::an 5 (.osl 0 :: .iv (ln Side.row x6) :: .iv x17::an 13 []))),[],[Sq6 x6,Sq7 x7,Sq8 x8,Sq7 x9,Sq8 x10,Sq7 x18]⟩) (by simp [go_sem]) (by rintro ⟨x17,x18⟩;first | rfl | simp [go_sem,Zh4 _ hc0.pu]) ?_
  rintro n1 ⟨x17,x18⟩ y1 h hin1 hout1;rw [Zrb] at h;(try dsimp only);refine Vg 5 ?_;refine MI h (fun h=>?_) fun h=>?_
  ·refine Vg 5 ?_;have ⟨x19,ex19,h⟩:=Bs h;refine Zd5 Side.row ex19 trivial rfl rfl rfl (Zg5 Side.row ex19 trivial rfl rfl rfl (Vg 7 ?_));have ⟨x20,ex20,h⟩:=Bs h;refine Zz4 trivial rfl hc0 (x:=x19) ex20 (by first | exact Zi4 _ | simp [go_sem]) (by first | rfl | simp [go_sem,hc0.pu]) (Vg 1 ?_)
   refine Zo4 (fun (x22:List Int)=>⟨(.any :: .clo g0 caps0::an 3 (.osl 5::an 5 (.osl 0 :: .iv (ln Side.row x6) :: .iv x17::an 13 []))),[],[Sq6 x6,Sq7 x7,Sq8 x8,Sq7 x9,Sq8 x10,Sq7 x22]⟩) (Zqb x17) y1 ?_ fun J2=>?_
   ·intro x22 h;rw [Zqb] at h;(try dsimp only);refine Vg 5 ?_;exact Zw4 h hin1 (hok:=by first | rfl | simp [go_sem,Zh4 _ hc0.pu])
   ·refine MI h (fun h=>?_) fun h=>?_
    ·refine Vg 5 ?_;have ⟨x21,ex21,h⟩:=Bs h;refine Zu4 Z05 ex21 trivial rfl rfl rfl (Vg 2 ?_);refine Z07 7 5 ?_;dsimp only[go_sem];(try rw [Zb6 _ _ _ hc0.pu]);exact Zx4 J2 h (hok:=by first | rfl | simp [go_sem,Zh4 _ hc0.pu])
    ·refine Vg 1 ?_;exact Zx4 J2 h (hok:=by first | rfl | simp [go_sem,Zh4 _ hc0.pu])
  ·refine Vg 1 ?_;exact Zx4 J1 (Zn4 h hout1) (hok:=by first | rfl | simp [go_sem])
def Zub (x1 x2:Int) (x3 _x4:Int) (_x5 _x6:Int) (_x7:List Sess) (_x8:Int) (_x9:List Side) (_x10:List Int) (_x11:List KE) (_x12:List Int) (_x13:List KE):Option (List Event):=
 (Zj4 56 [] ([Event.mk x1 x3 x2 0 (([]:List Int))])).bind fun x14=>
 some x14
theorem Zvb (x1 x2:Int) (x3 x4:Int) (x5 x6:Int) (x7:List Sess) (x8:Int) (x9:List Side) (x10:List Int) (x11:List KE) (x12:List Int) (x13:List KE) (r:List Event) (h:Zub x1 x2 x3 x4 x5 x6 x7 x8 x9 x10 x11 x12 x13=some r):Zq5 Tryz.prog 74 [.ptr 0 0,.iv x1,.iv x2] [some ⟨81,[.iv x3,.iv x4,.osl 0,.iv x5,.osl 1,.iv x6,Sp3 x7,.osl 2,.osl 3,.osl 4,.nl,.nl,.iv x8]⟩] [Sq6 x9,Sq7 x10,Sq8 x11,Sq7 x12,Sq8 x13] (.tup []) [some ⟨81,[.iv x3,.iv x4,.osl 0,.iv x5,.osl 1,.iv x6,Sp3 x7,.osl 2,.osl 3,.osl 4,.nl,.osl 6,.iv x8]⟩] [Sq6 x9,Sq7 x10,Sq8 x11,Sq7 x12,Sq8 x13,none,Z97 r]:=by
 refine FT ok74 fun w0 M0=>?_
 rw [Zub] at h
 dsimp only[lun,List.cons_append,List.nil_append]
 refine Zz6 fun all H=>?_;dsimp only[go_sem];refine GP H 14 6 [14,6] [(6,[.ptr 0 0,.ptr 0 0,.ptr 0 0,.ptr 0 11,.nl,.iv x1,.ptr 0 0,.ptr 0 0,.ptr 0 0,.ptr 0 0,.ptr 0 0,.ptr 0 0,.iv x3,.iv x2])] ?_;dsimp only[go_sem];refine Z64 14 rfl (Zx5 (.agg [.iv x1,.iv x3,.iv x2,.iv 0,Sp0 (([]:List Int))]) H.1 rfl trivial (by simp [go_sem]) ?_);dsimp only[go_sem];refine GE H.1 15 ?_;dsimp only[go_sem];refine Z64 16 rfl ?_
 have ⟨x14,ex14,h⟩:=Bs h;refine Zv4 Event.row ex14 H.1 rfl trivial rfl rfl ?_;refine Gn H 2 1 ?_;refine GE H.1 19 ?_;dsimp only[go_sem];refine GD ?_;obtain rfl:=Option.some.inj h;exact Z57 ok74
theorem Zwb (l r:List Side) (h:Zj8 l=some r):
  Zq5 Tryz.prog 64 [.osl 0] [] [some ⟨65,8,l.map Side.row⟩] (.osl 1) [] [some ⟨65,8,l.map Side.row⟩,some ⟨65,8,r.map Side.row⟩]:=by
 unfold Zj8 at h
 refine FT ok64 fun w0 M0=>?_
 dsimp only[lun,List.cons_append,List.nil_append]
 refine Zv2 100 ?_
 dsimp only[go_sem]
 refine An ?_
 refine V_isnilO trivial rfl rfl (fun hn=>?_) ?_
 ·refine Zv2 100 ?_
  dsimp only[go_sem]
  refine An ?_
  refine Zf4 2 65 8 rfl rfl ?_
  dsimp only[go_sem]
  have hn:l=[]:=by simpa using hn
  subst hn
  obtain rfl:r=[]:=by simpa [Zj4] using h.symm
  exact Z47 ok64
 ·refine Zv2 100 ?_
  dsimp only[go_sem]
  refine An ?_
  refine Zu4 Side.row (l':=[]) h trivial rfl rfl rfl ?_
  refine Zv2 100 ?_
  dsimp only[go_sem]
  refine An ?_
  refine Z07 2 1 ?_
  dsimp only[go_sem]
  exact Z47 ok64
theorem Zxb (l r:List Int) (h:Zw7 l=some r):
  Zq5 Tryz.prog 65 [.osl 0] [] [some ⟨3,1,l.map Z05⟩] (.osl 1) [] [some ⟨3,1,l.map Z05⟩,some ⟨3,1,r.map Z05⟩]:=by
 unfold Zw7 at h
 refine FT ok65 fun w0 M0=>?_
 dsimp only[lun,List.cons_append,List.nil_append]
 refine Zv2 100 ?_
 dsimp only[go_sem]
 refine An ?_
 refine V_isnilO trivial rfl rfl (fun hn=>?_) ?_
 ·refine Zv2 100 ?_
  dsimp only[go_sem]
  refine An ?_
  refine Zf4 2 3 1 rfl rfl ?_
  dsimp only[go_sem]
  have hn:l=[]:=by simpa using hn
  subst hn
  obtain rfl:r=[]:=by simpa [Zj4] using h.symm
  exact Z47 ok65
 ·refine Zv2 100 ?_
  dsimp only[go_sem]
  refine An ?_
  refine Zu4 Z05 (l':=[]) h trivial rfl rfl rfl ?_
  refine Zv2 100 ?_
  dsimp only[go_sem]
  refine An ?_
  refine Z07 2 1 ?_
  dsimp only[go_sem]
  exact Z47 ok65
def Zyb (_x1 _x2:Int) (_x3 _x4:Int) (_x5:List Side) (_x6:List Int) (x7:List Sess) (_x8:List KE) (_x9:List Int) (_x10:List KE):Option (Sess×Bool):=
 ifb (decide ((ln Sess.row x7)=0)) (
 some ((Sess.mk 0 (([]:List Int)) 0 0),false)) (
 (at_ x7 0).bind fun x11=>
 some (x11,true))
theorem Zzb (x1 x2:Int) (x3 x4:Int) (x5:List Side) (x6:List Int) (x7:List Sess) (x8:List KE) (x9:List Int) (x10:List KE) (r:(Sess×Bool)) (h:Zyb x1 x2 x3 x4 x5 x6 x7 x8 x9 x10=some r):Zq5 Tryz.prog 76 [.agg [.iv x1,.iv x2,.osl 0,.iv x3,.osl 1,.iv x4,.osl 2,.osl 3,.osl 4,.osl 5]] [] [Sq6 x5,Sq7 x6,Sq9 x7,Sq8 x8,Sq7 x9,Sq8 x10] (.tup [.agg [.iv r.1.ID,Sp0 r.1.Need,.iv r.1.State,.iv r.1.Age],.bv r.2]) [] [Sq6 x5,Sq7 x6,Sq9 x7,Sq8 x8,Sq7 x9,Sq8 x10]:=by
 refine FT ok76 fun w0 M0=>?_
 rw [Zyb] at h
 dsimp only[lun,List.cons_append,List.nil_append]
 refine Vg 15 ?_;refine MI h (fun h=>?_) fun h=>?_
 ·refine Vg 6 ?_;obtain rfl:=Option.some.inj h;exact Z47 ok76
 ·refine Vg 6 ?_;have ⟨x11,ex11,h⟩:=Bs h;refine Zd5 Sess.row ex11 trivial rfl rfl rfl (Zg5 Sess.row ex11 trivial rfl rfl rfl (Vg 3 ?_));obtain rfl:=Option.some.inj h;exact Z47 ok76
def Z0c:Int→Option (Bool×Int)
| x15=>
 some (decide (x15=0),x15)
def Z1c (x2 x7:Int):Bool→Option (Bool×Int)
| x14=>
 ifb x14 (
 Z0c x2) (
 Z0c x7)
def Z2c (x1:Bool) (x2:Int) (_x3 _x4:Int) (_x5 _x6 x7:Int) (_x8:List Side) (_x9:List Int) (_x10:List Sess) (_x11:List KE) (_x12:List Int) (_x13:List KE):Option (Bool×Int):=
 ifb (decide (x7=0)) (
 (Z1c x2 x7) (!x1)) (
 (Z1c x2 x7) false)
theorem Z3c (x1:Bool) (x2:Int) (x3 x4:Int) (x5 x6 x7:Int) (x8:List Side) (x9:List Int) (x10:List Sess) (x11:List KE) (x12:List Int) (x13:List KE) (r:(Bool×Int)) (h:Z2c x1 x2 x3 x4 x5 x6 x7 x8 x9 x10 x11 x12 x13=some r):Zq5 Tryz.prog 33 [.ptr 0 0,.bv x1,.iv x2] [some ⟨81,[.iv x3,.iv x4,.osl 0,.iv x5,.osl 1,.iv x6,.osl 2,.osl 3,.osl 4,.osl 5,.nl,.nl,.iv x7]⟩] [Sq6 x8,Sq7 x9,Sq9 x10,Sq8 x11,Sq7 x12,Sq8 x13] (.bv r.1) [some ⟨81,[.iv x3,.iv x4,.osl 0,.iv x5,.osl 1,.iv x6,.osl 2,.osl 3,.osl 4,.osl 5,.nl,.nl,.iv r.2]⟩] [Sq6 x8,Sq7 x9,Sq9 x10,Sq8 x11,Sq7 x12,Sq8 x13]:=by
 refine FT ok33 fun w0 M0=>?_
 rw [Z2c] at h
 dsimp only[lun,List.cons_append,List.nil_append]
 refine Vg 13 ?_;refine Zo4 (fun (x14:Bool)=>⟨(.ptr 0 0 :: .any :: .iv x2::an 12 (.bv x14::an 9 [])),[some ⟨81,[.iv x3,.iv x4,.osl 0,.iv x5,.osl 1,.iv x6,.osl 2,.osl 3,.osl 4,.osl 5,.nl,.nl,.iv x7]⟩],[Sq6 x8,Sq7 x9,Sq9 x10,Sq8 x11,Sq7 x12,Sq8 x13]⟩) (Z1c x2 x7) r ?_ fun J1=>?_
 ·intro x14 h;rw [Z1c] at h;(try dsimp only);refine Zo4 (fun (x15:Int)=>⟨(.ptr 0 0::an 24 []),[some ⟨81,[.iv x3,.iv x4,.osl 0,.iv x5,.osl 1,.iv x6,.osl 2,.osl 3,.osl 4,.osl 5,.nl,.nl,.iv x15]⟩],[Sq6 x8,Sq7 x9,Sq9 x10,Sq8 x11,Sq7 x12,Sq8 x13]⟩) Z0c r ?_ fun J2=>?_
  ·intro x15 h;rw [Z0c] at h;(try dsimp only);refine Vg 9 ?_;obtain rfl:=Option.some.inj h;exact Z47 ok33
  ·refine MI h (fun h=>?_) fun h=>?_
   ·refine Vg 7 ?_;exact Zx4 J2 h
   ·refine Vg 1 ?_;exact Zx4 J2 h
 ·refine MC 12 h (fun h=>?_) fun h=>?_
  ·refine Vg 4 ?_;exact Zx4 J1 h
  ·refine Vg 4 ?_;exact Zx4 J1 h
def Z4c:Int→Option (Bool×Int)
| x14=>
 some (decide (x14=0),x14)
def Z5c (x1 x6:Int):Bool→Option (Bool×Int)
| x13=>
 ifb x13 (
 Z4c x1) (
 Z4c x6)
def Z6c (x1 _x2:Int) (_x3 _x4:Int) (_x5 x6:Int) (_x7:List Side) (_x8:List Int) (_x9:List Sess) (_x10:List KE) (_x11:List Int) (_x12:List KE):Option (Bool×Int):=
 ifb (decide (x6=0)) (
 (Z5c x1 x6) true) (
 (Z5c x1 x6) false)
theorem Z7c (x1 x2:Int) (x3 x4:Int) (x5 x6:Int) (x7:List Side) (x8:List Int) (x9:List Sess) (x10:List KE) (x11:List Int) (x12:List KE) (r:(Bool×Int)) (h:Z6c x1 x2 x3 x4 x5 x6 x7 x8 x9 x10 x11 x12=some r):Zq5 Tryz.prog 33 [.ptr 0 0,.ff,.iv x1] [some ⟨81,[.iv x2,.iv x3,.osl 0,.iv x4,.osl 1,.iv x5,.osl 2,.osl 3,.osl 4,.osl 5,.nl,.nl,.iv x6]⟩] [Sq6 x7,Sq7 x8,Sq9 x9,Sq8 x10,Sq7 x11,Sq8 x12] (.bv r.1) [some ⟨81,[.iv x2,.iv x3,.osl 0,.iv x4,.osl 1,.iv x5,.osl 2,.osl 3,.osl 4,.osl 5,.nl,.nl,.iv r.2]⟩] [Sq6 x7,Sq7 x8,Sq9 x9,Sq8 x10,Sq7 x11,Sq8 x12]:=by
 refine FT ok33 fun w0 M0=>?_
 rw [Z6c] at h
 dsimp only[lun,List.cons_append,List.nil_append]
 refine Vg 13 ?_;refine Zo4 (fun (x13:Bool)=>⟨(.ptr 0 0 :: .any :: .iv x1::an 12 (.bv x13::an 9 [])),[some ⟨81,[.iv x2,.iv x3,.osl 0,.iv x4,.osl 1,.iv x5,.osl 2,.osl 3,.osl 4,.osl 5,.nl,.nl,.iv x6]⟩],[Sq6 x7,Sq7 x8,Sq9 x9,Sq8 x10,Sq7 x11,Sq8 x12]⟩) (Z5c x1 x6) r ?_ fun J1=>?_
 ·intro x13 h;rw [Z5c] at h;(try dsimp only);refine Zo4 (fun (x14:Int)=>⟨(.ptr 0 0::an 24 []),[some ⟨81,[.iv x2,.iv x3,.osl 0,.iv x4,.osl 1,.iv x5,.osl 2,.osl 3,.osl 4,.osl 5,.nl,.nl,.iv x14]⟩],[Sq6 x7,Sq7 x8,Sq9 x9,Sq8 x10,Sq7 x11,Sq8 x12]⟩) Z4c r ?_ fun J2=>?_
  ·intro x14 h;rw [Z4c] at h;(try dsimp only);refine Vg 9 ?_;obtain rfl:=Option.some.inj h;exact Z47 ok33
  ·refine MI h (fun h=>?_) fun h=>?_
   ·refine Vg 7 ?_;exact Zx4 J2 h
   ·refine Vg 1 ?_;exact Zx4 J2 h
 ·refine MC 12 h (fun h=>?_) fun h=>?_
  ·refine Vg 4 ?_;exact Zx4 J1 h
  ·refine Vg 4 ?_;exact Zx4 J1 h
@[go_sem] def e30:EC:=(by have h:=hF Tryz.f30;(conv at h=>rhs;reduce);dsimp only[go_sem] at h;exact ⟨_,h⟩:DP Tryz.f30).1
theorem ok30:FnOK Tryz.prog 30 Tryz.f30 e30 [.t 4] 2 12:=okA
def Z8c (x1:node_node) (x2:Int):Option Int:=
 (Ze7 x1.Node.DK.DI.SD ((fun z=>Zi9 z x2))).bind fun x3=>
 some x3
theorem Z9c (x1:node_node) (x2:Int) (r:Int) (h:Z8c x1 x2=some r):Z03 Tryz.prog 30 [.elt (node_node.row x1) 0,.iv x2] (.iv r):=by
 refine FP ok30 fun w0 H0=>?_
 rw [Z8c] at h
 refine Vg 15 ?_;have ⟨x3,ex3,h⟩:=Bs h;refine VL (LR.block 0 rfl rfl) (Zf7 x1.Node.DK.DI.SD _ _ ((fun z=>Zi9 z x2)) ⟨by kernel_rfl,rfl,fun z r hz=>Zj9 z x2 r hz⟩ _ ex3) (Vg 2 ?_);exact MD ok30 h
@[go_sem] def e124:EC:=(by have h:=hF Tryz.f124;(conv at h=>rhs;reduce);dsimp only[go_sem] at h;exact ⟨_,h⟩:DP Tryz.f124).1
theorem ok124:FnOK Tryz.prog 124 Tryz.f124 e124 [.t 4] 2 40:=okA
def Zac (x1 x2:Int) (x3 _x4:Int) (_x5 _x6 _x7:Int) (_x8:List Side) (_x9:List Int) (_x10:List Sess) (_x11:List KE) (_x12:List Int) (_x13:List KE):Option (List Event):=
 (Zj4 56 [] ([Event.mk x1 x3 0 x2 (([]:List Int))])).bind fun x14=>
 some x14
theorem Zbc (x1 x2:Int) (x3 x4:Int) (x5 x6 x7:Int) (x8:List Side) (x9:List Int) (x10:List Sess) (x11:List KE) (x12:List Int) (x13:List KE) (r:List Event) (h:Zac x1 x2 x3 x4 x5 x6 x7 x8 x9 x10 x11 x12 x13=some r):Zq5 Tryz.prog 47 [.ptr 0 0,.iv x1,.iv x2] [some ⟨81,[.iv x3,.iv x4,.osl 0,.iv x5,.osl 1,.iv x6,.osl 2,.osl 3,.osl 4,.osl 5,.nl,.nl,.iv x7]⟩] [Sq6 x8,Sq7 x9,Sq9 x10,Sq8 x11,Sq7 x12,Sq8 x13] (.tup []) [some ⟨81,[.iv x3,.iv x4,.osl 0,.iv x5,.osl 1,.iv x6,.osl 2,.osl 3,.osl 4,.osl 5,.nl,.osl 7,.iv x7]⟩] [Sq6 x8,Sq7 x9,Sq9 x10,Sq8 x11,Sq7 x12,Sq8 x13,none,Z97 r]:=by
 refine FT ok47 fun w0 M0=>?_
 rw [Zac] at h
 dsimp only[lun,List.cons_append,List.nil_append]
 refine Zz6 fun all H=>?_;dsimp only[go_sem];refine GP H 14 6 [14,6] [(6,[.ptr 0 0,.ptr 0 0,.ptr 0 0,.ptr 0 11,.nl,.iv x1,.ptr 0 0,.ptr 0 0,.ptr 0 0,.ptr 0 0,.ptr 0 0,.ptr 0 0,.iv x3,.iv x2])] ?_;dsimp only[go_sem];refine Z64 14 rfl (Zx5 (.agg [.iv x1,.iv x3,.iv 0,.iv x2,Sp0 (([]:List Int))]) H.1 rfl trivial (by simp [go_sem]) ?_);dsimp only[go_sem];refine GE H.1 15 ?_;dsimp only[go_sem];refine Z64 16 rfl ?_
 have ⟨x14,ex14,h⟩:=Bs h;refine Zv4 Event.row ex14 H.1 rfl trivial rfl rfl ?_;refine Gn H 2 1 ?_;refine GE H.1 19 ?_;dsimp only[go_sem];refine GD ?_;obtain rfl:=Option.some.inj h;exact Z57 ok47
def Zcc (_x1 _x2:Int) (_x3 _x4:Int) (x5:List Sess) (_x6:List Side) (_x7:List Int) (_x8:List KE) (_x9:List Int) (_x10:List KE):Option (Sess×Bool):=
 ifb (decide ((ln Sess.row x5)=0)) (
 some ((Sess.mk 0 (([]:List Int)) 0 0),false)) (
 (at_ x5 0).bind fun x11=>
 some (x11,true))
theorem Zdc (x1 x2:Int) (x3 x4:Int) (x5:List Sess) (x6:List Side) (x7:List Int) (x8:List KE) (x9:List Int) (x10:List KE) (r:(Sess×Bool)) (h:Zcc x1 x2 x3 x4 x5 x6 x7 x8 x9 x10=some r):Zq5 Tryz.prog 76 [.agg [.iv x1,.iv x2,.osl 0,.iv x3,.osl 1,.iv x4,Sp3 x5,.osl 2,.osl 3,.osl 4]] [] [Sq6 x6,Sq7 x7,Sq8 x8,Sq7 x9,Sq8 x10] (.tup [.agg [.iv r.1.ID,Sp0 r.1.Need,.iv r.1.State,.iv r.1.Age],.bv r.2]) [] [Sq6 x6,Sq7 x7,Sq8 x8,Sq7 x9,Sq8 x10]:=by
 refine FT ok76 fun w0 M0=>?_
 rw [Zcc] at h
 dsimp only[lun,List.cons_append,List.nil_append]
 refine Vg 15 ?_;refine MI h (fun h=>?_) fun h=>?_
 ·refine Vg 6 ?_;obtain rfl:=Option.some.inj h;exact Z47 ok76
 ·refine Vg 6 ?_;have ⟨x11,ex11,h⟩:=Bs h;refine Zs4 Sess.row ex11 trivial rfl rfl rfl (Vg 4 ?_);obtain rfl:=Option.some.inj h;exact Z47 ok76
end
end NX
end Go.Proofs.YtdjkbodnjhgbcaaGreat
