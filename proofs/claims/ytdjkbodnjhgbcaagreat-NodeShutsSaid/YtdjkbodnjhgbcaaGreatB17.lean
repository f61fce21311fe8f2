/-
  The function narthex/dine.Fire$1, lent own memory. Written by a program of ours (lb.py). No statement of the seat is proved here.
-/
import Derived.Test.YtdjkbodnjhgbcaaGreatB14
import Derived.Test.YtdjkbodnjhgbcaaGreatB15
set_option maxRecDepth 100000
set_option maxHeartbeats 4000000
namespace Go.Proofs.YtdjkbodnjhgbcaaGreat
namespace NX
open Go
noncomputable section
def Zgb (x1 x2:Int) (_x3 x4:Int) (x5:List Mail) (x6:List Side):Option (List Mail):=
 (at_ x6 x4).bind fun x7=>
 (Zj4 40 x5 ([Mail.mk x2 x7.Peer (Msg.mk x1 x7.Epoch 0)])).bind fun x8=>
 some x8
theorem Zhb (x1 x2:Int) (x3 x4:Int) (x5:List Mail) (x6:List Side) (r:List Mail) (h:Zgb x1 x2 x3 x4 x5 x6=some r):Zr5 Tryz.prog 184 [.iv x1,.ptr 0 0,.ptr 1 0,.ptr 2 0] [some ⟨44,[.osl 0]⟩,some ⟨25,[.iv x2,.iv x3,.osl 1]⟩,some ⟨179,[.oel 1 (Int.toNat (x4)*8) 0]⟩] [Zb7 x5,Sq6 x6] (.tup []) [some ⟨44,[.osl 3]⟩,some ⟨25,[.iv x2,.iv x3,.osl 1]⟩,some ⟨179,[.oel 1 (Int.toNat (x4)*8) 0]⟩] [none,Sq6 x6,none,Zb7 r]:=by
 refine FT Zo8 fun w0 M0=>?_
 rw [Zgb] at h
 dsimp only[lun,List.cons_append,List.nil_append]
 refine Z07 fun all H=>?_;dsimp only[go_sem];refine GN H 3 14 ?_;dsimp only[go_sem];refine An (Z84 0 3 8 rfl ?_ ?_ ?_)
 ·refine GV H.1 ?_;dsimp only[go_sem];refine Z74 3 8 rfl ?_ ?_
  ·refine GV H.1 ?_;dsimp only[go_sem];refine GN H 2 10 ?_;dsimp only[go_sem];refine An ?_;have ⟨x7,ex7,h⟩:=Bs h;refine Z74 6 8 rfl ?_ ?_
   ·refine GL H.1 Side.row ex7 ?_;dsimp only[go_sem];refine GE H.1 8 ?_;dsimp only[go_sem];refine GN H 2 6 ?_;dsimp only[go_sem];refine An (Z64 11 rfl (GL H.1 Side.row ex7 ?_));dsimp only[go_sem];refine GN H 2 3 ?_;dsimp only[go_sem];refine An (GE H.1 14 ?_);dsimp only[go_sem];refine Z64 15 rfl ?_;have ⟨x8,ex8,h⟩:=Bs h
    refine GA Mail.row ex8 H.1 ?_;dsimp only[go_sem];refine GE H.1 16 ?_;dsimp only[go_sem];refine GD ?_;obtain rfl:=Option.some.inj h;exact Z67 Zo8
   ·refine GV H.1 ?_;dsimp only[go_sem];refine GN H 2 7 ?_;dsimp only[go_sem];refine An (Z74 6 11 rfl ?_ ?_)
    ·refine GL H.1 Side.row ex7 ?_;dsimp only[go_sem];refine Z64 11 rfl (GL H.1 Side.row ex7 ?_);dsimp only[go_sem];refine GN H 2 3 ?_;dsimp only[go_sem];refine An (GE H.1 14 ?_);dsimp only[go_sem];refine Z64 15 rfl ?_;have ⟨x8,ex8,h⟩:=Bs h;refine GA Mail.row ex8 H.1 ?_;dsimp only[go_sem];refine GE H.1 16 ?_;dsimp only[go_sem];refine GD ?_
     obtain rfl:=Option.some.inj h;exact Z67 Zo8
    ·refine GL H.1 Side.row ex7 ?_;dsimp only[go_sem];refine GN H 1 5 ?_;dsimp only[go_sem];refine An (Z64 6 rfl (GL H.1 Side.row ex7 ?_));dsimp only[go_sem];refine GN H 1 3 ?_;dsimp only[go_sem];refine An (GE H.1 14 ?_);dsimp only[go_sem];refine Z64 15 rfl ?_;have ⟨x8,ex8,h⟩:=Bs h;refine GA Mail.row ex8 H.1 ?_;dsimp only[go_sem];refine Z64 16 rfl ?_
     refine GV H.1 ?_;dsimp only[go_sem];refine GD ?_;obtain rfl:=Option.some.inj h;exact Z67 Zo8
  ·refine GV H.1 ?_;dsimp only[go_sem];refine GN H 2 10 ?_;dsimp only[go_sem];refine An ?_;have ⟨x7,ex7,h⟩:=Bs h;refine Z74 3 11 rfl ?_ ?_
   ·refine GV H.1 ?_;dsimp only[go_sem];refine GN H 2 7 ?_;dsimp only[go_sem];refine An (Z74 6 11 rfl ?_ ?_)
    ·refine GL H.1 Side.row ex7 ?_;dsimp only[go_sem];refine Z64 11 rfl (GL H.1 Side.row ex7 ?_);dsimp only[go_sem];refine GN H 2 3 ?_;dsimp only[go_sem];refine An (GE H.1 14 ?_);dsimp only[go_sem];refine Z64 15 rfl ?_;have ⟨x8,ex8,h⟩:=Bs h;refine GA Mail.row ex8 H.1 ?_;dsimp only[go_sem];refine GE H.1 16 ?_;dsimp only[go_sem];refine GD ?_
     obtain rfl:=Option.some.inj h;exact Z67 Zo8
    ·refine GL H.1 Side.row ex7 ?_;dsimp only[go_sem];refine GN H 1 5 ?_;dsimp only[go_sem];refine An (Z64 6 rfl (GL H.1 Side.row ex7 ?_));dsimp only[go_sem];refine GN H 1 3 ?_;dsimp only[go_sem];refine An (GE H.1 14 ?_);dsimp only[go_sem];refine Z64 15 rfl ?_;have ⟨x8,ex8,h⟩:=Bs h;refine GA Mail.row ex8 H.1 ?_;dsimp only[go_sem];refine Z64 16 rfl ?_
     refine GV H.1 ?_;dsimp only[go_sem];refine GD ?_;obtain rfl:=Option.some.inj h;exact Z67 Zo8
   ·refine GL H.1 Side.row ex7 ?_;dsimp only[go_sem];refine GN H 1 8 ?_;dsimp only[go_sem];refine An (GE H.1 3 ?_);dsimp only[go_sem];refine GN H 2 5 ?_;dsimp only[go_sem];refine An (Z64 6 rfl (GL H.1 Side.row ex7 ?_));dsimp only[go_sem];refine GN H 1 3 ?_;dsimp only[go_sem];refine An (GE H.1 14 ?_);dsimp only[go_sem];refine Z64 15 rfl ?_
    have ⟨x8,ex8,h⟩:=Bs h;refine GA Mail.row ex8 H.1 ?_;dsimp only[go_sem];refine GE H.1 16 ?_;dsimp only[go_sem];refine GD ?_;obtain rfl:=Option.some.inj h;exact Z67 Zo8
 ·refine GV H.1 ?_;dsimp only[go_sem];refine GN H 2 11 ?_;dsimp only[go_sem];refine An ?_;have ⟨x7,ex7,h⟩:=Bs h;refine Z84 0 6 8 rfl ?_ ?_ ?_
  ·refine GV H.1 ?_;dsimp only[go_sem];refine Z74 6 8 rfl ?_ ?_
   ·refine GL H.1 Side.row ex7 ?_;dsimp only[go_sem];refine GE H.1 8 ?_;dsimp only[go_sem];refine GN H 2 6 ?_;dsimp only[go_sem];refine An (Z64 11 rfl (GL H.1 Side.row ex7 ?_));dsimp only[go_sem];refine GN H 2 3 ?_;dsimp only[go_sem];refine An (GE H.1 14 ?_);dsimp only[go_sem];refine Z64 15 rfl ?_;have ⟨x8,ex8,h⟩:=Bs h
    refine GA Mail.row ex8 H.1 ?_;dsimp only[go_sem];refine GE H.1 16 ?_;dsimp only[go_sem];refine GD ?_;obtain rfl:=Option.some.inj h;exact Z67 Zo8
   ·refine GV H.1 ?_;dsimp only[go_sem];refine GN H 2 7 ?_;dsimp only[go_sem];refine An (Z74 6 11 rfl ?_ ?_)
    ·refine GL H.1 Side.row ex7 ?_;dsimp only[go_sem];refine Z64 11 rfl (GL H.1 Side.row ex7 ?_);dsimp only[go_sem];refine GN H 2 3 ?_;dsimp only[go_sem];refine An (GE H.1 14 ?_);dsimp only[go_sem];refine Z64 15 rfl ?_;have ⟨x8,ex8,h⟩:=Bs h;refine GA Mail.row ex8 H.1 ?_;dsimp only[go_sem];refine GE H.1 16 ?_;dsimp only[go_sem];refine GD ?_
     obtain rfl:=Option.some.inj h;exact Z67 Zo8
    ·refine GL H.1 Side.row ex7 ?_;dsimp only[go_sem];refine GN H 1 5 ?_;dsimp only[go_sem];refine An (Z64 6 rfl (GL H.1 Side.row ex7 ?_));dsimp only[go_sem];refine GN H 1 3 ?_;dsimp only[go_sem];refine An (GE H.1 14 ?_);dsimp only[go_sem];refine Z64 15 rfl ?_;have ⟨x8,ex8,h⟩:=Bs h;refine GA Mail.row ex8 H.1 ?_;dsimp only[go_sem];refine Z64 16 rfl ?_
     refine GV H.1 ?_;dsimp only[go_sem];refine GD ?_;obtain rfl:=Option.some.inj h;exact Z67 Zo8
  ·refine GL H.1 Side.row ex7 ?_;dsimp only[go_sem];refine Z74 0 8 rfl ?_ ?_
   ·refine GV H.1 ?_;dsimp only[go_sem];refine GE H.1 8 ?_;dsimp only[go_sem];refine GN H 2 6 ?_;dsimp only[go_sem];refine An (Z64 11 rfl (GL H.1 Side.row ex7 ?_));dsimp only[go_sem];refine GN H 2 3 ?_;dsimp only[go_sem];refine An (GE H.1 14 ?_);dsimp only[go_sem];refine Z64 15 rfl ?_;have ⟨x8,ex8,h⟩:=Bs h;refine GA Mail.row ex8 H.1 ?_
    dsimp only[go_sem];refine GE H.1 16 ?_;dsimp only[go_sem];refine GD ?_;obtain rfl:=Option.some.inj h;exact Z67 Zo8
   ·refine GV H.1 ?_;dsimp only[go_sem];refine GN H 2 7 ?_;dsimp only[go_sem];refine An (Z74 0 11 rfl ?_ ?_)
    ·refine GV H.1 ?_;dsimp only[go_sem];refine Z64 11 rfl (GL H.1 Side.row ex7 ?_);dsimp only[go_sem];refine GN H 2 3 ?_;dsimp only[go_sem];refine An (GE H.1 14 ?_);dsimp only[go_sem];refine Z64 15 rfl ?_;have ⟨x8,ex8,h⟩:=Bs h;refine GA Mail.row ex8 H.1 ?_;dsimp only[go_sem];refine GE H.1 16 ?_;dsimp only[go_sem];refine GD ?_;obtain rfl:=Option.some.inj h
     exact Z67 Zo8
    ·refine GL H.1 Side.row ex7 ?_;dsimp only[go_sem];refine GN H 2 4 ?_;dsimp only[go_sem];refine An (Z74 0 14 rfl ?_ ?_)
     ·refine GV H.1 ?_;dsimp only[go_sem];refine GE H.1 14 ?_;dsimp only[go_sem];refine Z64 15 rfl ?_;have ⟨x8,ex8,h⟩:=Bs h;refine GA Mail.row ex8 H.1 ?_;dsimp only[go_sem];refine GE H.1 16 ?_;dsimp only[go_sem];refine GD ?_;obtain rfl:=Option.some.inj h;exact Z67 Zo8
     ·refine GV H.1 ?_;dsimp only[go_sem];refine GE H.1 0 ?_;dsimp only[go_sem];refine Z64 15 rfl ?_;have ⟨x8,ex8,h⟩:=Bs h;refine GA Mail.row ex8 H.1 ?_;dsimp only[go_sem];refine GE H.1 16 ?_;dsimp only[go_sem];refine GD ?_;obtain rfl:=Option.some.inj h;exact Z67 Zo8
  ·refine GV H.1 ?_;dsimp only[go_sem];refine GN H 2 8 ?_;dsimp only[go_sem];refine An (Z84 0 6 11 rfl ?_ ?_ ?_)
   ·refine GV H.1 ?_;dsimp only[go_sem];refine Z74 6 11 rfl ?_ ?_
    ·refine GL H.1 Side.row ex7 ?_;dsimp only[go_sem];refine Z64 11 rfl (GL H.1 Side.row ex7 ?_);dsimp only[go_sem];refine GN H 2 3 ?_;dsimp only[go_sem];refine An (GE H.1 14 ?_);dsimp only[go_sem];refine Z64 15 rfl ?_;have ⟨x8,ex8,h⟩:=Bs h;refine GA Mail.row ex8 H.1 ?_;dsimp only[go_sem];refine GE H.1 16 ?_;dsimp only[go_sem];refine GD ?_
     obtain rfl:=Option.some.inj h;exact Z67 Zo8
    ·refine GL H.1 Side.row ex7 ?_;dsimp only[go_sem];refine GN H 1 5 ?_;dsimp only[go_sem];refine An (Z64 6 rfl (GL H.1 Side.row ex7 ?_));dsimp only[go_sem];refine GN H 1 3 ?_;dsimp only[go_sem];refine An (GE H.1 14 ?_);dsimp only[go_sem];refine Z64 15 rfl ?_;have ⟨x8,ex8,h⟩:=Bs h;refine GA Mail.row ex8 H.1 ?_;dsimp only[go_sem];refine Z64 16 rfl ?_
     refine GV H.1 ?_;dsimp only[go_sem];refine GD ?_;obtain rfl:=Option.some.inj h;exact Z67 Zo8
   ·refine GL H.1 Side.row ex7 ?_;dsimp only[go_sem];refine Z74 0 11 rfl ?_ ?_
    ·refine GV H.1 ?_;dsimp only[go_sem];refine Z64 11 rfl (GL H.1 Side.row ex7 ?_);dsimp only[go_sem];refine GN H 2 3 ?_;dsimp only[go_sem];refine An (GE H.1 14 ?_);dsimp only[go_sem];refine Z64 15 rfl ?_;have ⟨x8,ex8,h⟩:=Bs h;refine GA Mail.row ex8 H.1 ?_;dsimp only[go_sem];refine GE H.1 16 ?_;dsimp only[go_sem];refine GD ?_;obtain rfl:=Option.some.inj h
     exact Z67 Zo8
    ·refine GL H.1 Side.row ex7 ?_;dsimp only[go_sem];refine GN H 2 4 ?_;dsimp only[go_sem];refine An (Z74 0 14 rfl ?_ ?_)
     ·refine GV H.1 ?_;dsimp only[go_sem];refine GE H.1 14 ?_;dsimp only[go_sem];refine Z64 15 rfl ?_;have ⟨x8,ex8,h⟩:=Bs h;refine GA Mail.row ex8 H.1 ?_;dsimp only[go_sem];refine GE H.1 16 ?_;dsimp only[go_sem];refine GD ?_;obtain rfl:=Option.some.inj h;exact Z67 Zo8
     ·refine GV H.1 ?_;dsimp only[go_sem];refine GE H.1 0 ?_;dsimp only[go_sem];refine Z64 15 rfl ?_;have ⟨x8,ex8,h⟩:=Bs h;refine GA Mail.row ex8 H.1 ?_;dsimp only[go_sem];refine GE H.1 16 ?_;dsimp only[go_sem];refine GD ?_;obtain rfl:=Option.some.inj h;exact Z67 Zo8
   ·refine GL H.1 Side.row ex7 ?_;dsimp only[go_sem];refine GN H 1 6 ?_;dsimp only[go_sem];refine An (Z74 0 6 rfl ?_ ?_)
    ·refine GV H.1 ?_;dsimp only[go_sem];refine Z64 6 rfl (GL H.1 Side.row ex7 ?_);dsimp only[go_sem];refine GN H 1 3 ?_;dsimp only[go_sem];refine An (GE H.1 14 ?_);dsimp only[go_sem];refine Z64 15 rfl ?_;have ⟨x8,ex8,h⟩:=Bs h;refine GA Mail.row ex8 H.1 ?_;dsimp only[go_sem];refine GE H.1 16 ?_;dsimp only[go_sem];refine GD ?_;obtain rfl:=Option.some.inj h
     exact Z67 Zo8
    ·refine GL H.1 Side.row ex7 ?_;dsimp only[go_sem];refine GN H 1 4 ?_;dsimp only[go_sem];refine An (Z74 0 14 rfl ?_ ?_)
     ·refine GV H.1 ?_;dsimp only[go_sem];refine GE H.1 14 ?_;dsimp only[go_sem];refine Z64 15 rfl ?_;have ⟨x8,ex8,h⟩:=Bs h;refine GA Mail.row ex8 H.1 ?_;dsimp only[go_sem];refine GE H.1 16 ?_;dsimp only[go_sem];refine GD ?_;obtain rfl:=Option.some.inj h;exact Z67 Zo8
     ·refine GV H.1 ?_;dsimp only[go_sem];refine GE H.1 0 ?_;dsimp only[go_sem];refine Z64 15 rfl ?_;have ⟨x8,ex8,h⟩:=Bs h;refine GA Mail.row ex8 H.1 ?_;dsimp only[go_sem];refine GE H.1 16 ?_;dsimp only[go_sem];refine GD ?_;obtain rfl:=Option.some.inj h;exact Z67 Zo8
 ·refine GV H.1 ?_;dsimp only[go_sem];refine GN H 2 11 ?_;dsimp only[go_sem];refine An ?_;have ⟨x7,ex7,h⟩:=Bs h;refine Z84 0 3 11 rfl ?_ ?_ ?_
  ·refine GV H.1 ?_;dsimp only[go_sem];refine Z74 3 11 rfl ?_ ?_
   ·refine GV H.1 ?_;dsimp only[go_sem];refine GN H 2 7 ?_;dsimp only[go_sem];refine An (Z74 6 11 rfl ?_ ?_)
    ·refine GL H.1 Side.row ex7 ?_;dsimp only[go_sem];refine Z64 11 rfl (GL H.1 Side.row ex7 ?_);dsimp only[go_sem];refine GN H 2 3 ?_;dsimp only[go_sem];refine An (GE H.1 14 ?_);dsimp only[go_sem];refine Z64 15 rfl ?_;have ⟨x8,ex8,h⟩:=Bs h;refine GA Mail.row ex8 H.1 ?_;dsimp only[go_sem];refine GE H.1 16 ?_;dsimp only[go_sem];refine GD ?_
     obtain rfl:=Option.some.inj h;exact Z67 Zo8
    ·refine GL H.1 Side.row ex7 ?_;dsimp only[go_sem];refine GN H 1 5 ?_;dsimp only[go_sem];refine An (Z64 6 rfl (GL H.1 Side.row ex7 ?_));dsimp only[go_sem];refine GN H 1 3 ?_;dsimp only[go_sem];refine An (GE H.1 14 ?_);dsimp only[go_sem];refine Z64 15 rfl ?_;have ⟨x8,ex8,h⟩:=Bs h;refine GA Mail.row ex8 H.1 ?_;dsimp only[go_sem];refine Z64 16 rfl ?_
     refine GV H.1 ?_;dsimp only[go_sem];refine GD ?_;obtain rfl:=Option.some.inj h;exact Z67 Zo8
   ·refine GL H.1 Side.row ex7 ?_;dsimp only[go_sem];refine GN H 1 8 ?_;dsimp only[go_sem];refine An (GE H.1 3 ?_);dsimp only[go_sem];refine GN H 2 5 ?_;dsimp only[go_sem];refine An (Z64 6 rfl (GL H.1 Side.row ex7 ?_));dsimp only[go_sem];refine GN H 1 3 ?_;dsimp only[go_sem];refine An (GE H.1 14 ?_);dsimp only[go_sem];refine Z64 15 rfl ?_
    have ⟨x8,ex8,h⟩:=Bs h;refine GA Mail.row ex8 H.1 ?_;dsimp only[go_sem];refine GE H.1 16 ?_;dsimp only[go_sem];refine GD ?_;obtain rfl:=Option.some.inj h;exact Z67 Zo8
  ·refine GV H.1 ?_;dsimp only[go_sem];refine GN H 2 8 ?_;dsimp only[go_sem];refine An (Z84 0 6 11 rfl ?_ ?_ ?_)
   ·refine GV H.1 ?_;dsimp only[go_sem];refine Z74 6 11 rfl ?_ ?_
    ·refine GL H.1 Side.row ex7 ?_;dsimp only[go_sem];refine Z64 11 rfl (GL H.1 Side.row ex7 ?_);dsimp only[go_sem];refine GN H 2 3 ?_;dsimp only[go_sem];refine An (GE H.1 14 ?_);dsimp only[go_sem];refine Z64 15 rfl ?_;have ⟨x8,ex8,h⟩:=Bs h;refine GA Mail.row ex8 H.1 ?_;dsimp only[go_sem];refine GE H.1 16 ?_;dsimp only[go_sem];refine GD ?_
     obtain rfl:=Option.some.inj h;exact Z67 Zo8
    ·refine GL H.1 Side.row ex7 ?_;dsimp only[go_sem];refine GN H 1 5 ?_;dsimp only[go_sem];refine An (Z64 6 rfl (GL H.1 Side.row ex7 ?_));dsimp only[go_sem];refine GN H 1 3 ?_;dsimp only[go_sem];refine An (GE H.1 14 ?_);dsimp only[go_sem];refine Z64 15 rfl ?_;have ⟨x8,ex8,h⟩:=Bs h;refine GA Mail.row ex8 H.1 ?_;dsimp only[go_sem];refine Z64 16 rfl ?_
     refine GV H.1 ?_;dsimp only[go_sem];refine GD ?_;obtain rfl:=Option.some.inj h;exact Z67 Zo8
   ·refine GL H.1 Side.row ex7 ?_;dsimp only[go_sem];refine Z74 0 11 rfl ?_ ?_
    ·refine GV H.1 ?_;dsimp only[go_sem];refine Z64 11 rfl (GL H.1 Side.row ex7 ?_);dsimp only[go_sem];refine GN H 2 3 ?_;dsimp only[go_sem];refine An (GE H.1 14 ?_);dsimp only[go_sem];refine Z64 15 rfl ?_;have ⟨x8,ex8,h⟩:=Bs h;refine GA Mail.row ex8 H.1 ?_;dsimp only[go_sem];refine GE H.1 16 ?_;dsimp only[go_sem];refine GD ?_;obtain rfl:=Option.some.inj h
     exact Z67 Zo8
    ·refine GL H.1 Side.row ex7 ?_;dsimp only[go_sem];refine GN H 2 4 ?_;dsimp only[go_sem];refine An (Z74 0 14 rfl ?_ ?_)
     ·refine GV H.1 ?_;dsimp only[go_sem];refine GE H.1 14 ?_;dsimp only[go_sem];refine Z64 15 rfl ?_;have ⟨x8,ex8,h⟩:=Bs h;refine GA Mail.row ex8 H.1 ?_;dsimp only[go_sem];refine GE H.1 16 ?_;dsimp only[go_sem];refine GD ?_;obtain rfl:=Option.some.inj h;exact Z67 Zo8
     ·refine GV H.1 ?_;dsimp only[go_sem];refine GE H.1 0 ?_;dsimp only[go_sem];refine Z64 15 rfl ?_;have ⟨x8,ex8,h⟩:=Bs h;refine GA Mail.row ex8 H.1 ?_;dsimp only[go_sem];refine GE H.1 16 ?_;dsimp only[go_sem];refine GD ?_;obtain rfl:=Option.some.inj h;exact Z67 Zo8
   ·refine GL H.1 Side.row ex7 ?_;dsimp only[go_sem];refine GN H 1 6 ?_;dsimp only[go_sem];refine An (Z74 0 6 rfl ?_ ?_)
    ·refine GV H.1 ?_;dsimp only[go_sem];refine Z64 6 rfl (GL H.1 Side.row ex7 ?_);dsimp only[go_sem];refine GN H 1 3 ?_;dsimp only[go_sem];refine An (GE H.1 14 ?_);dsimp only[go_sem];refine Z64 15 rfl ?_;have ⟨x8,ex8,h⟩:=Bs h;refine GA Mail.row ex8 H.1 ?_;dsimp only[go_sem];refine GE H.1 16 ?_;dsimp only[go_sem];refine GD ?_;obtain rfl:=Option.some.inj h
     exact Z67 Zo8
    ·refine GL H.1 Side.row ex7 ?_;dsimp only[go_sem];refine GN H 1 4 ?_;dsimp only[go_sem];refine An (Z74 0 14 rfl ?_ ?_)
     ·refine GV H.1 ?_;dsimp only[go_sem];refine GE H.1 14 ?_;dsimp only[go_sem];refine Z64 15 rfl ?_;have ⟨x8,ex8,h⟩:=Bs h;refine GA Mail.row ex8 H.1 ?_;dsimp only[go_sem];refine GE H.1 16 ?_;dsimp only[go_sem];refine GD ?_;obtain rfl:=Option.some.inj h;exact Z67 Zo8
     ·refine GV H.1 ?_;dsimp only[go_sem];refine GE H.1 0 ?_;dsimp only[go_sem];refine Z64 15 rfl ?_;have ⟨x8,ex8,h⟩:=Bs h;refine GA Mail.row ex8 H.1 ?_;dsimp only[go_sem];refine GE H.1 16 ?_;dsimp only[go_sem];refine GD ?_;obtain rfl:=Option.some.inj h;exact Z67 Zo8
  ·refine GL H.1 Side.row ex7 ?_;dsimp only[go_sem];refine GN H 1 9 ?_;dsimp only[go_sem];refine An (Z74 0 3 rfl ?_ ?_)
   ·refine GV H.1 ?_;dsimp only[go_sem];refine GE H.1 3 ?_;dsimp only[go_sem];refine GN H 2 5 ?_;dsimp only[go_sem];refine An (Z64 6 rfl (GL H.1 Side.row ex7 ?_));dsimp only[go_sem];refine GN H 1 3 ?_;dsimp only[go_sem];refine An (GE H.1 14 ?_);dsimp only[go_sem];refine Z64 15 rfl ?_;have ⟨x8,ex8,h⟩:=Bs h;refine GA Mail.row ex8 H.1 ?_
    dsimp only[go_sem];refine GE H.1 16 ?_;dsimp only[go_sem];refine GD ?_;obtain rfl:=Option.some.inj h;exact Z67 Zo8
   ·refine GV H.1 ?_;dsimp only[go_sem];refine GN H 2 6 ?_;dsimp only[go_sem];refine An (Z74 0 6 rfl ?_ ?_)
    ·refine GV H.1 ?_;dsimp only[go_sem];refine Z64 6 rfl (GL H.1 Side.row ex7 ?_);dsimp only[go_sem];refine GN H 1 3 ?_;dsimp only[go_sem];refine An (GE H.1 14 ?_);dsimp only[go_sem];refine Z64 15 rfl ?_;have ⟨x8,ex8,h⟩:=Bs h;refine GA Mail.row ex8 H.1 ?_;dsimp only[go_sem];refine GE H.1 16 ?_;dsimp only[go_sem];refine GD ?_;obtain rfl:=Option.some.inj h
     exact Z67 Zo8
    ·refine GL H.1 Side.row ex7 ?_;dsimp only[go_sem];refine GN H 1 4 ?_;dsimp only[go_sem];refine An (Z74 0 14 rfl ?_ ?_)
     ·refine GV H.1 ?_;dsimp only[go_sem];refine GE H.1 14 ?_;dsimp only[go_sem];refine Z64 15 rfl ?_;have ⟨x8,ex8,h⟩:=Bs h;refine GA Mail.row ex8 H.1 ?_;dsimp only[go_sem];refine GE H.1 16 ?_;dsimp only[go_sem];refine GD ?_;obtain rfl:=Option.some.inj h;exact Z67 Zo8
     ·refine GV H.1 ?_;dsimp only[go_sem];refine GE H.1 0 ?_;dsimp only[go_sem];refine Z64 15 rfl ?_;have ⟨x8,ex8,h⟩:=Bs h;refine GA Mail.row ex8 H.1 ?_;dsimp only[go_sem];refine GE H.1 16 ?_;dsimp only[go_sem];refine GD ?_;obtain rfl:=Option.some.inj h;exact Z67 Zo8
@[go_sem] def e134:EC:=(by have h:=hF Tryz.f134;(conv at h=>rhs;reduce);dsimp only[go_sem] at h;exact ⟨_,h⟩:DP Tryz.f134).1
theorem ok134:FnOK Tryz.prog 134 Tryz.f134 e134 [.c 2 (some 5)] 1 13:=okA
@[go_sem] def e110:EC:=(by have h:=hF Tryz.f110;(conv at h=>rhs;reduce);dsimp only[go_sem] at h;exact ⟨_,h⟩:DP Tryz.f110).1
theorem ok110:FnOK Tryz.prog 110 Tryz.f110 e110 [.t 4] 2 22:=okA
def Zib:Bool→Option Bool
| x4=>
 some x4
def Zjb (x1 x2:DI):Option Bool:=
 ifb (decide (x1.ID=x2.ID)) (
 ifb (decide (x1.PH=x2.PH)) (
 (Zg8 x1.SD x2.SD).bind fun x3=>
 Zib x3) (
 Zib false)) (
 Zib false)
theorem k_dine_Same (x1 x2:DI) (r:Bool) (h:Zjb x1 x2=some r):Z03 Tryz.prog 110 [.agg (DI.row x1),.agg (DI.row x2)] (.bv r):=by
 refine FP ok110 fun w0 H0=>?_
 rw [Zjb] at h
 refine Zv2 14 ?_;dsimp only[go_sem];refine An (Zo4 (fun (x4:Bool)=>(⟨an 4 (.bv x4::an 19 []),[],[]⟩:St)) Zib r ?_ fun J1=>?_)
 ·intro x4 h;rw [Zib] at h;(try dsimp only);exact Zw4 (res:=fun (r:Bool)=>.bv r) ok110 h
 ·refine MC 10 h (fun h=>?_) fun h=>?_
  ·dsimp only[go_sem];refine Zv2 7 ?_;dsimp only[go_sem];refine An (MC 17 h (fun h=>?_) fun h=>?_)
   ·dsimp only[go_sem];refine Zv2 4 ?_;dsimp only[go_sem];refine An ?_;have ⟨x3,ex3,h⟩:=Bs h;refine VC (Zh8 x1.SD x2.SD _ ex3) (Zv2 3 ?_);dsimp only[go_sem];refine An ?_;exact Zy4 J1 (s:=x3) h
   ·dsimp only[go_sem];refine Zv2 8 ?_;dsimp only[go_sem];refine An ?_;exact Zy4 J1 (s:=false) h
  ·dsimp only[go_sem];refine Zv2 15 ?_;dsimp only[go_sem];refine An ?_;exact Zy4 J1 (s:=false) h
@[go_sem] def e29:EC:=(by have h:=hF Tryz.f29;(conv at h=>rhs;reduce);dsimp only[go_sem] at h;exact ⟨_,h⟩:DP Tryz.f29).1
theorem ok29:FnOK Tryz.prog 29 Tryz.f29 e29 [.c 2 (some 10)] 1 58:=okA
@[go_sem] def e21:EC:=(by have h:=hF Tryz.f21;(conv at h=>rhs;reduce);dsimp only[go_sem] at h;exact ⟨_,h⟩:DP Tryz.f21).1
theorem ok21:FnOK Tryz.prog 21 Tryz.f21 e21 [.t 2] 1 4:=okA
def Zkb (x1:Node):Option (List Int):=
 (Z09 x1 ((fun z=>Z29 z))).bind fun x2=>
 some x2
theorem Zlb (x1:Node) (r:List Int) (h:Zkb x1=some r):Z03 Tryz.prog 21 [.agg (Node.row x1)] (Sp0 r):=by
 refine FP ok21 fun w0 H0=>?_
 rw [Zkb] at h
 refine Zv2 8 ?_;dsimp only[go_sem];refine An ?_;have ⟨x2,ex2,h⟩:=Bs h;refine VC (Z19 x1 _ _ ((fun z=>Z29 z)) ⟨by kernel_rfl,rfl,fun z r hz=>Z39 z r hz⟩ _ ex2) (Zv2 2 ?_);dsimp only[go_sem];refine An ?_;exact Zw4 (res:=fun (r:List Int)=>Sp0 r) ok21 h
@[go_sem] def e72:EC:=(by have h:=hF Tryz.f72;(conv at h=>rhs;reduce);dsimp only[go_sem] at h;exact ⟨_,h⟩:DP Tryz.f72).1
theorem ok72:FnOK Tryz.prog 72 Tryz.f72 e72 [.t 6] 3 19:=okA
def Zmb:Int→Option (Bool×Int)
| x15=>
 some (decide (x15=0),x15)
def Znb (x2 x8:Int):Bool→Option (Bool×Int)
| x14=>
 ifb x14 (
 Zmb x2) (
 Zmb x8)
def Zob (x1:Bool) (x2:Int) (_x3 _x4:Int) (_x5 _x6:Int) (_x7:List Sess) (x8:Int) (_x9:List Side) (_x10:List Int) (_x11:List KE) (_x12:List Int) (_x13:List KE):Option (Bool×Int):=
 ifb (decide (x8=0)) (
 (Znb x2 x8) (!x1)) (
 (Znb x2 x8) false)
theorem Zpb (x1:Bool) (x2:Int) (x3 x4:Int) (x5 x6:Int) (x7:List Sess) (x8:Int) (x9:List Side) (x10:List Int) (x11:List KE) (x12:List Int) (x13:List KE) (r:(Bool×Int)) (h:Zob x1 x2 x3 x4 x5 x6 x7 x8 x9 x10 x11 x12 x13=some r):Zr5 Tryz.prog 33 [.ptr 0 0,.bv x1,.iv x2] [some ⟨81,[.iv x3,.iv x4,.osl 0,.iv x5,.osl 1,.iv x6,Sp3 x7,.osl 2,.osl 3,.osl 4,.nl,.nl,.iv x8]⟩] [Sq6 x9,Sq7 x10,Sq8 x11,Sq7 x12,Sq8 x13] (.bv r.1) [some ⟨81,[.iv x3,.iv x4,.osl 0,.iv x5,.osl 1,.iv x6,Sp3 x7,.osl 2,.osl 3,.osl 4,.nl,.nl,.iv r.2]⟩] [Sq6 x9,Sq7 x10,Sq8 x11,Sq7 x12,Sq8 x13]:=by
 refine FT ok33 fun w0 M0=>?_
 rw [Zob] at h
 dsimp only[lun,List.cons_append,List.nil_append]
 refine Zv2 13 ?_;dsimp only[go_sem];refine An (Zo4 (fun (x14:Bool)=>(⟨(.ptr 0 0 :: .any :: .iv x2::an 12 (.bv x14::an 9 [])),[some ⟨81,[.iv x3,.iv x4,.osl 0,.iv x5,.osl 1,.iv x6,Sp3 x7,.osl 2,.osl 3,.osl 4,.nl,.nl,.iv x8]⟩],[Sq6 x9,Sq7 x10,Sq8 x11,Sq7 x12,Sq8 x13]⟩:St)) (Znb x2 x8) r ?_ fun J1=>?_)
 ·intro x14 h;rw [Znb] at h;(try dsimp only);refine Zo4 (fun (x15:Int)=>(⟨(.ptr 0 0::an 24 []),[some ⟨81,[.iv x3,.iv x4,.osl 0,.iv x5,.osl 1,.iv x6,Sp3 x7,.osl 2,.osl 3,.osl 4,.nl,.nl,.iv x15]⟩],[Sq6 x9,Sq7 x10,Sq8 x11,Sq7 x12,Sq8 x13]⟩:St)) Zmb r ?_ fun J2=>?_
  ·intro x15 h;rw [Zmb] at h;(try dsimp only);refine Zv2 9 ?_;dsimp only[go_sem];refine An ?_;obtain rfl:=Option.some.inj h;exact Z57 ok33
  ·refine MI h (fun h=>?_) fun h=>?_
   ·refine Zv2 7 ?_;dsimp only[go_sem];refine An ?_;exact Zy4 J2 (s:=x2) h
   ·refine Zv2 1 ?_;dsimp only[go_sem];refine An ?_;exact Zy4 J2 (s:=x8) h
 ·refine MC 12 h (fun h=>?_) fun h=>?_
  ·dsimp only[go_sem];refine Zv2 4 ?_;dsimp only[go_sem];refine An ?_;exact Zy4 J1 (s:=!x1) h
  ·dsimp only[go_sem];refine Zv2 4 ?_;dsimp only[go_sem];refine An ?_;exact Zy4 J1 (s:=false) h
def Zqb:List Int→Option (List Int)
| x33=>
 some x33
def Zrb (x17:Int):List Int→Option ((Int×List Int) ⊕ (List Int))
| x22=>
 some (.inl (wr (x17+1),x22))
def Zsb (x6:List Side) (p0:(Side→Option Bool)):(Int×List Int)→Option ((Int×List Int) ⊕ (List Int))
| (x17,x18)=>
 ifb (decide (x17<(ln Side.row x6))) (
 (at_ x6 x17).bind fun x19=>
 (p0 x19).bind fun x20=>
 ifb x20 (
 (Zj4 8 x18 ([x19.Peer])).bind fun x21=>
 (Zrb x17) x21) (
 (Zrb x17) x18)) (
 Option.map Sum.inr (Zqb x18))
def Ztb (_x1 _x2:Int) (_x3 _x4:Int) (_x5:List Sess) (x6:List Side) (_x7:List Int) (_x8:List KE) (_x9:List Int) (_x10:List KE) (p0:(Side→Option Bool)):Option (List Int):=
 loop (Zsb x6 p0) (0,([]:List Int))
theorem Zub (x1 x2:Int) (x3 x4:Int) (x5:List Sess) (x6:List Side) (x7:List Int) (x8:List KE) (x9:List Int) (x10:List KE) (g0:Nat) (caps0:List AV) (p0:(Side→Option Bool)) (hc0:CloOK Tryz.prog g0 caps0 (fun z=>[.agg (Side.row z)]) p0 (fun z=>.bv z)) (r:List Int) (h:Ztb x1 x2 x3 x4 x5 x6 x7 x8 x9 x10 p0=some r):Zr5 Tryz.prog 57 [.agg [.iv x1,.iv x2,.osl 0,.iv x3,.osl 1,.iv x4,Sp3 x5,.osl 2,.osl 3,.osl 4],.clo g0 caps0] [] [Sq6 x6,Sq7 x7,Sq8 x8,Sq7 x9,Sq8 x10] (.osl 5) [] [Sq6 x6,Sq7 x7,Sq8 x8,Sq7 x9,Sq8 x10,Sq7 r]:=by
 refine FT ok57 fun w0 M0=>?_
 rw [Ztb] at h
 dsimp only[lun,List.cons_append,List.nil_append]
 refine Zv2 19 ?_;dsimp only[go_sem];refine An (Zo4 (fun (x33:List Int)=>(⟨an 5 (.osl 5::an 21 []),[],[Sq6 x6,Sq7 x7,Sq8 x8,Sq7 x9,Sq8 x10,Sq7 x33]⟩:St)) Zqb r ?_ fun J1=>?_)
 ·intro x33 h;rw [Zqb] at h;(try dsimp only);refine Zv2 5 ?_;dsimp only[go_sem];refine An ?_;obtain rfl:=Option.some.inj h;exact Z57 ok57
 ·refine Zv2 1 ?_;dsimp only[go_sem];refine An (Zf4 5 3 1 rfl rfl ?_);dsimp only[go_sem];refine Zp4 h (fun ((x17,x18):(Int×List Int))=>(⟨(.any :: .clo g0 caps0::an 3 (.osl 5::an 5 (.osl 0 :: .iv (ln Side.row x6) :: .iv x17::an 13 []))),[],[Sq6 x6,Sq7 x7,Sq8 x8,Sq7 x9,Sq8 x10,Sq7 x18]⟩:St)) (by simp [go_sem]) (by rintro ⟨x17,x18⟩;first | rfl | simp [go_sem,Zh4 _ hc0.pu]) ?_
  rintro n1 ⟨x17,x18⟩ y1 h hin1 hout1;rw [Zsb] at h;(try dsimp only);refine Zv2 5 ?_;dsimp only[go_sem];refine An (MI h (fun h=>?_) fun h=>?_)
  ·refine Zv2 5 ?_;dsimp only[go_sem];refine An ?_;have ⟨x19,ex19,h⟩:=Bs h;refine Ze5 Side.row ex19 trivial rfl rfl rfl (Zh5 Side.row ex19 trivial rfl rfl rfl (Zv2 7 ?_));dsimp only[go_sem];refine An ?_;have ⟨x20,ex20,h⟩:=Bs h;refine Z05 trivial rfl hc0 (x:=x19) ex20 (by first | exact Zi4 _ | simp [go_sem]) (by first | rfl | simp [go_sem,hc0.pu]) (Zv2 1 ?_);dsimp only[go_sem];refine An ?_
   refine Zo4 (fun (x22:List Int)=>(⟨(.any :: .clo g0 caps0::an 3 (.osl 5::an 5 (.osl 0 :: .iv (ln Side.row x6) :: .iv x17::an 13 []))),[],[Sq6 x6,Sq7 x7,Sq8 x8,Sq7 x9,Sq8 x10,Sq7 x22]⟩:St)) (Zrb x17) y1 ?_ fun J2=>?_
   ·intro x22 h;rw [Zrb] at h;(try dsimp only);refine Zv2 5 ?_;dsimp only[go_sem];refine An ?_;exact Zx4 h hin1 (hok:=by first | rfl | simp [go_sem,Zh4 _ hc0.pu])
   ·refine MI h (fun h=>?_) fun h=>?_
    ·refine Zv2 5 ?_;dsimp only[go_sem];refine An ?_;have ⟨x21,ex21,h⟩:=Bs h;refine Zu4 Z15 ex21 trivial rfl rfl rfl (Zv2 2 ?_);dsimp only[go_sem];refine An (Z17 7 5 ?_);dsimp only[go_sem];(try rw [Zc6 _ _ _ hc0.pu]);exact Zy4 J2 (s:=x21) h (hok:=by first | rfl | simp [go_sem,Zh4 _ hc0.pu])
    ·refine Zv2 1 ?_;dsimp only[go_sem];refine An ?_;exact Zy4 J2 (s:=x18) h (hok:=by first | rfl | simp [go_sem,Zh4 _ hc0.pu])
  ·refine Zv2 1 ?_;dsimp only[go_sem];refine An ?_;exact Zy4 J1 (s:=x18) (Zn4 h hout1) (hok:=by first | rfl | simp [go_sem])
def Zvb (x1 x2:Int) (x3 _x4:Int) (_x5 _x6:Int) (_x7:List Sess) (_x8:Int) (_x9:List Side) (_x10:List Int) (_x11:List KE) (_x12:List Int) (_x13:List KE):Option (List Event):=
 (Zj4 56 [] ([Event.mk x1 x3 x2 0 (([]:List Int))])).bind fun x14=>
 some x14
theorem Zwb (x1 x2:Int) (x3 x4:Int) (x5 x6:Int) (x7:List Sess) (x8:Int) (x9:List Side) (x10:List Int) (x11:List KE) (x12:List Int) (x13:List KE) (r:List Event) (h:Zvb x1 x2 x3 x4 x5 x6 x7 x8 x9 x10 x11 x12 x13=some r):Zr5 Tryz.prog 74 [.ptr 0 0,.iv x1,.iv x2] [some ⟨81,[.iv x3,.iv x4,.osl 0,.iv x5,.osl 1,.iv x6,Sp3 x7,.osl 2,.osl 3,.osl 4,.nl,.nl,.iv x8]⟩] [Sq6 x9,Sq7 x10,Sq8 x11,Sq7 x12,Sq8 x13] (.tup []) [some ⟨81,[.iv x3,.iv x4,.osl 0,.iv x5,.osl 1,.iv x6,Sp3 x7,.osl 2,.osl 3,.osl 4,.nl,.osl 6,.iv x8]⟩] [Sq6 x9,Sq7 x10,Sq8 x11,Sq7 x12,Sq8 x13,none,Za7 r]:=by
 refine FT ok74 fun w0 M0=>?_
 rw [Zvb] at h
 dsimp only[lun,List.cons_append,List.nil_append]
 refine Z07 fun all H=>?_;dsimp only[go_sem];refine GP H 14 6 [14,6] [(6,[.ptr 0 0,.ptr 0 0,.ptr 0 0,.ptr 0 11,.nl,.iv x1,.ptr 0 0,.ptr 0 0,.ptr 0 0,.ptr 0 0,.ptr 0 0,.ptr 0 0,.iv x3,.iv x2])] ?_;dsimp only[go_sem];refine Z64 14 rfl (Zy5 (.agg [.iv x1,.iv x3,.iv x2,.iv 0,Sp0 (([]:List Int))]) H.1 rfl trivial (by simp [go_sem]) ?_);dsimp only[go_sem];refine GE H.1 15 ?_;dsimp only[go_sem];refine Z64 16 rfl ?_
 have ⟨x14,ex14,h⟩:=Bs h;refine Zv4 Event.row ex14 H.1 rfl trivial rfl rfl ?_;dsimp only[go_sem];refine GN H 2 1 ?_;dsimp only[go_sem];refine An (GE H.1 19 ?_);dsimp only[go_sem];refine GD ?_;obtain rfl:=Option.some.inj h;exact Z67 ok74
theorem Zxb (l r:List Side) (h:Zk8 l=some r):
  Zr5 Tryz.prog 64 [.osl 0] [] [some ⟨65,8,l.map Side.row⟩] (.osl 1) [] [some ⟨65,8,l.map Side.row⟩,some ⟨65,8,r.map Side.row⟩]:=by
 unfold Zk8 at h
 refine FT ok64 fun w0 M0=>?_
 dsimp only[lun,List.cons_append,List.nil_append]
 refine Zv2 100 ?_
 dsimp only[go_sem]
 refine An ?_
 refine V_isnilO trivial rfl rfl (fun hn=>?_) ?_
 ·refine Zv2 100 ?_
  dsimp only[go_sem]
  refine An ?_
  refine Zf4 2 65 8 rfl rfl ?_
  dsimp only[go_sem]
  have hn:l=[]:=by simpa using hn
  subst hn
  obtain rfl:r=[]:=by simpa [Zj4] using h.symm
  exact Z57 ok64
 ·refine Zv2 100 ?_
  dsimp only[go_sem]
  refine An ?_
  refine Zu4 Side.row (l':=[]) h trivial rfl rfl rfl ?_
  refine Zv2 100 ?_
  dsimp only[go_sem]
  refine An ?_
  refine Z17 2 1 ?_
  dsimp only[go_sem]
  exact Z57 ok64
theorem Zyb (l r:List Int) (h:Zx7 l=some r):
  Zr5 Tryz.prog 65 [.osl 0] [] [some ⟨3,1,l.map Z15⟩] (.osl 1) [] [some ⟨3,1,l.map Z15⟩,some ⟨3,1,r.map Z15⟩]:=by
 unfold Zx7 at h
 refine FT ok65 fun w0 M0=>?_
 dsimp only[lun,List.cons_append,List.nil_append]
 refine Zv2 100 ?_
 dsimp only[go_sem]
 refine An ?_
 refine V_isnilO trivial rfl rfl (fun hn=>?_) ?_
 ·refine Zv2 100 ?_
  dsimp only[go_sem]
  refine An ?_
  refine Zf4 2 3 1 rfl rfl ?_
  dsimp only[go_sem]
  have hn:l=[]:=by simpa using hn
  subst hn
  obtain rfl:r=[]:=by simpa [Zj4] using h.symm
  exact Z57 ok65
 ·refine Zv2 100 ?_
  dsimp only[go_sem]
  refine An ?_
  refine Zu4 Z15 (l':=[]) h trivial rfl rfl rfl ?_
  refine Zv2 100 ?_
  dsimp only[go_sem]
  refine An ?_
  refine Z17 2 1 ?_
  dsimp only[go_sem]
  exact Z57 ok65
def Zzb (_x1 _x2:Int) (_x3 _x4:Int) (_x5:List Side) (_x6:List Int) (x7:List Sess) (_x8:List KE) (_x9:List Int) (_x10:List KE):Option (Sess×Bool):=
 ifb (decide ((ln Sess.row x7)=0)) (
 some ((Sess.mk 0 (([]:List Int)) 0 0),false)) (
 (at_ x7 0).bind fun x11=>
 some (x11,true))
theorem Z0c (x1 x2:Int) (x3 x4:Int) (x5:List Side) (x6:List Int) (x7:List Sess) (x8:List KE) (x9:List Int) (x10:List KE) (r:(Sess×Bool)) (h:Zzb x1 x2 x3 x4 x5 x6 x7 x8 x9 x10=some r):Zr5 Tryz.prog 76 [.agg [.iv x1,.iv x2,.osl 0,.iv x3,.osl 1,.iv x4,.osl 2,.osl 3,.osl 4,.osl 5]] [] [Sq6 x5,Sq7 x6,Sq9 x7,Sq8 x8,Sq7 x9,Sq8 x10] (.tup [.agg [.iv r.1.ID,Sp0 r.1.Need,.iv r.1.State,.iv r.1.Age],.bv r.2]) [] [Sq6 x5,Sq7 x6,Sq9 x7,Sq8 x8,Sq7 x9,Sq8 x10]:=by
 refine FT ok76 fun w0 M0=>?_
 rw [Zzb] at h
 dsimp only[lun,List.cons_append,List.nil_append]
 refine Zv2 15 ?_;dsimp only[go_sem];refine An (MI h (fun h=>?_) fun h=>?_)
 ·refine Zv2 6 ?_;dsimp only[go_sem];refine An ?_;obtain rfl:=Option.some.inj h;exact Z57 ok76
 ·refine Zv2 6 ?_;dsimp only[go_sem];refine An ?_;have ⟨x11,ex11,h⟩:=Bs h;refine Ze5 Sess.row ex11 trivial rfl rfl rfl (Zh5 Sess.row ex11 trivial rfl rfl rfl (Zv2 3 ?_));dsimp only[go_sem];refine An ?_;obtain rfl:=Option.some.inj h;exact Z57 ok76
def Z1c:Int→Option (Bool×Int)
| x15=>
 some (decide (x15=0),x15)
def Z2c (x2 x7:Int):Bool→Option (Bool×Int)
| x14=>
 ifb x14 (
 Z1c x2) (
 Z1c x7)
def Z3c (x1:Bool) (x2:Int) (_x3 _x4:Int) (_x5 _x6 x7:Int) (_x8:List Side) (_x9:List Int) (_x10:List Sess) (_x11:List KE) (_x12:List Int) (_x13:List KE):Option (Bool×Int):=
 ifb (decide (x7=0)) (
 (Z2c x2 x7) (!x1)) (
 (Z2c x2 x7) false)
theorem Z4c (x1:Bool) (x2:Int) (x3 x4:Int) (x5 x6 x7:Int) (x8:List Side) (x9:List Int) (x10:List Sess) (x11:List KE) (x12:List Int) (x13:List KE) (r:(Bool×Int)) (h:Z3c x1 x2 x3 x4 x5 x6 x7 x8 x9 x10 x11 x12 x13=some r):Zr5 Tryz.prog 33 [.ptr 0 0,.bv x1,.iv x2] [some ⟨81,[.iv x3,.iv x4,.osl 0,.iv x5,.osl 1,.iv x6,.osl 2,.osl 3,.osl 4,.osl 5,.nl,.nl,.iv x7]⟩] [Sq6 x8,Sq7 x9,Sq9 x10,Sq8 x11,Sq7 x12,Sq8 x13] (.bv r.1) [some ⟨81,[.iv x3,.iv x4,.osl 0,.iv x5,.osl 1,.iv x6,.osl 2,.osl 3,.osl 4,.osl 5,.nl,.nl,.iv r.2]⟩] [Sq6 x8,Sq7 x9,Sq9 x10,Sq8 x11,Sq7 x12,Sq8 x13]:=by
 refine FT ok33 fun w0 M0=>?_
 rw [Z3c] at h
 dsimp only[lun,List.cons_append,List.nil_append]
 refine Zv2 13 ?_;dsimp only[go_sem];refine An (Zo4 (fun (x14:Bool)=>(⟨(.ptr 0 0 :: .any :: .iv x2::an 12 (.bv x14::an 9 [])),[some ⟨81,[.iv x3,.iv x4,.osl 0,.iv x5,.osl 1,.iv x6,.osl 2,.osl 3,.osl 4,.osl 5,.nl,.nl,.iv x7]⟩],[Sq6 x8,Sq7 x9,Sq9 x10,Sq8 x11,Sq7 x12,Sq8 x13]⟩:St)) (Z2c x2 x7) r ?_ fun J1=>?_)
 ·intro x14 h;rw [Z2c] at h;(try dsimp only);refine Zo4 (fun (x15:Int)=>(⟨(.ptr 0 0::an 24 []),[some ⟨81,[.iv x3,.iv x4,.osl 0,.iv x5,.osl 1,.iv x6,.osl 2,.osl 3,.osl 4,.osl 5,.nl,.nl,.iv x15]⟩],[Sq6 x8,Sq7 x9,Sq9 x10,Sq8 x11,Sq7 x12,Sq8 x13]⟩:St)) Z1c r ?_ fun J2=>?_
  ·intro x15 h;rw [Z1c] at h;(try dsimp only);refine Zv2 9 ?_;dsimp only[go_sem];refine An ?_;obtain rfl:=Option.some.inj h;exact Z57 ok33
  ·refine MI h (fun h=>?_) fun h=>?_
   ·refine Zv2 7 ?_;dsimp only[go_sem];refine An ?_;exact Zy4 J2 (s:=x2) h
   ·refine Zv2 1 ?_;dsimp only[go_sem];refine An ?_;exact Zy4 J2 (s:=x7) h
 ·refine MC 12 h (fun h=>?_) fun h=>?_
  ·dsimp only[go_sem];refine Zv2 4 ?_;dsimp only[go_sem];refine An ?_;exact Zy4 J1 (s:=!x1) h
  ·dsimp only[go_sem];refine Zv2 4 ?_;dsimp only[go_sem];refine An ?_;exact Zy4 J1 (s:=false) h
def Z5c:Int→Option (Bool×Int)
| x14=>
 some (decide (x14=0),x14)
def Z6c (x1 x6:Int):Bool→Option (Bool×Int)
| x13=>
 ifb x13 (
 Z5c x1) (
 Z5c x6)
def Z7c (x1 _x2:Int) (_x3 _x4:Int) (_x5 x6:Int) (_x7:List Side) (_x8:List Int) (_x9:List Sess) (_x10:List KE) (_x11:List Int) (_x12:List KE):Option (Bool×Int):=
 ifb (decide (x6=0)) (
 (Z6c x1 x6) true) (
 (Z6c x1 x6) false)
theorem Z8c (x1 x2:Int) (x3 x4:Int) (x5 x6:Int) (x7:List Side) (x8:List Int) (x9:List Sess) (x10:List KE) (x11:List Int) (x12:List KE) (r:(Bool×Int)) (h:Z7c x1 x2 x3 x4 x5 x6 x7 x8 x9 x10 x11 x12=some r):Zr5 Tryz.prog 33 [.ptr 0 0,.ff,.iv x1] [some ⟨81,[.iv x2,.iv x3,.osl 0,.iv x4,.osl 1,.iv x5,.osl 2,.osl 3,.osl 4,.osl 5,.nl,.nl,.iv x6]⟩] [Sq6 x7,Sq7 x8,Sq9 x9,Sq8 x10,Sq7 x11,Sq8 x12] (.bv r.1) [some ⟨81,[.iv x2,.iv x3,.osl 0,.iv x4,.osl 1,.iv x5,.osl 2,.osl 3,.osl 4,.osl 5,.nl,.nl,.iv r.2]⟩] [Sq6 x7,Sq7 x8,Sq9 x9,Sq8 x10,Sq7 x11,Sq8 x12]:=by
 refine FT ok33 fun w0 M0=>?_
 rw [Z7c] at h
 dsimp only[lun,List.cons_append,List.nil_append]
 refine Zv2 13 ?_;dsimp only[go_sem];refine An (Zo4 (fun (x13:Bool)=>(⟨(.ptr 0 0 :: .any :: .iv x1::an 12 (.bv x13::an 9 [])),[some ⟨81,[.iv x2,.iv x3,.osl 0,.iv x4,.osl 1,.iv x5,.osl 2,.osl 3,.osl 4,.osl 5,.nl,.nl,.iv x6]⟩],[Sq6 x7,Sq7 x8,Sq9 x9,Sq8 x10,Sq7 x11,Sq8 x12]⟩:St)) (Z6c x1 x6) r ?_ fun J1=>?_)
 ·intro x13 h;rw [Z6c] at h;(try dsimp only);refine Zo4 (fun (x14:Int)=>(⟨(.ptr 0 0::an 24 []),[some ⟨81,[.iv x2,.iv x3,.osl 0,.iv x4,.osl 1,.iv x5,.osl 2,.osl 3,.osl 4,.osl 5,.nl,.nl,.iv x14]⟩],[Sq6 x7,Sq7 x8,Sq9 x9,Sq8 x10,Sq7 x11,Sq8 x12]⟩:St)) Z5c r ?_ fun J2=>?_
  ·intro x14 h;rw [Z5c] at h;(try dsimp only);refine Zv2 9 ?_;dsimp only[go_sem];refine An ?_;obtain rfl:=Option.some.inj h;exact Z57 ok33
  ·refine MI h (fun h=>?_) fun h=>?_
   ·refine Zv2 7 ?_;dsimp only[go_sem];refine An ?_;exact Zy4 J2 (s:=x1) h
   ·refine Zv2 1 ?_;dsimp only[go_sem];refine An ?_;exact Zy4 J2 (s:=x6) h
 ·refine MC 12 h (fun h=>?_) fun h=>?_
  ·dsimp only[go_sem];refine Zv2 4 ?_;dsimp only[go_sem];refine An ?_;exact Zy4 J1 (s:=true) h
  ·dsimp only[go_sem];refine Zv2 4 ?_;dsimp only[go_sem];refine An ?_;exact Zy4 J1 (s:=false) h
end
end NX
end Go.Proofs.YtdjkbodnjhgbcaaGreat
