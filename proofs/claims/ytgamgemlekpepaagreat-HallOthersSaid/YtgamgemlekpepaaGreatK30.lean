/-
  The function narthex/narthexref17.Check: its code compiled, a model, and that the code answers as the model. Written by a program of ours (lb.py). No statement of the seat is proved here.
-/
import Derived.Test.YtgamgemlekpepaaGreatK23
import Derived.Test.YtgamgemlekpepaaGreatK26
set_option maxRecDepth 100000
set_option maxHeartbeats 40000000
namespace Go.Proofs.YtgamgemlekpepaaGreat
namespace NX
open Go
noncomputable section
def Zrv:Unit→Option Bool
| ()=>some true
def Zsv (x11:Int):Unit→Option (Int ⊕ Bool)
| ()=>some (.inl (wr (x11+1)))
def Ztv (x11:Int):Bool→Option (Int ⊕ Bool)
| x18=>
 ifb x18 (
 Option.map Sum.inr (some false)) (
 (Zsv x11) ())
def Zuv (x11:Int) (x12:SE):Bool→Option (Int ⊕ Bool)
| x17=>
 ifb x17 (
 (Zsv x11) ()) (
 ifb (!decide (x12.SS=1)) (
 (Ztv x11) true) (
 (Ztv x11) (decide (0<x11))))
def Zvv (x11:Int) (x12:SE):Bool→Option (Int ⊕ Bool)
| x16=>
 ifb x16 (
 Option.map Sum.inr (some false)) (
 ifb (decide (x12.SS=0)) (
 (Zuv x11 x12) (decide (x12.Age=0))) (
 (Zuv x11 x12) false))
def Zwv (x1:BK):Int→Option (Int ⊕ Bool)
| x11=>
 ifb (decide (x11<(ln SE.row x1.SE))) (
 (at_ x1.SE x11).bind fun x12=>
 ifb (decide (x12.ID<1)) (
 (Zvv x11 x12) true) (
 ifb (decide (x1.LA<x12.ID)) (
 (Zvv x11 x12) true) (
 ifb (decide (0<x11)) (
 (at_ x1.SE (wr (x11-1))).bind fun x13=>
 ifb (decide (x12.ID≤x13.ID)) (
 (Zvv x11 x12) true) (
 (Zrq x12.NE).bind fun x14=>
 ifb (!x14) (
 (Zvv x11 x12) true) (
 (Zvv x11 x12) (decide (x12.Age<0))))) (
 (Zrq x12.NE).bind fun x15=>
 ifb (!x15) (
 (Zvv x11 x12) true) (
 (Zvv x11 x12) (decide (x12.Age<0))))))) (
 Option.map Sum.inr (Zrv ()))
def Zxv (x1:BK):Bool→Option Bool
| x2=>
 ifb x2 (
 some false) (
 loop (Zwv x1) 0)
def Zyv (x1:BK):Option Bool:=
 ifb (decide (x1.LA<0)) (
 (Zxv x1) true) (
 (Zxv x1) (decide (8<(ln SE.row x1.SE))))
theorem Zzv {x1 r} (h:Zyv x1=some r):FPx 92 [.agg (BK.row x1)] (.bv r):=by
 have ok:=oJ 92 Tryz.f92 [.t 2] 1 77;refine FP ok fun w0 H0=>?_;rw [Zyv] at h;refine Vg 12 ?_;refine Vk [1,1] (fun x2=>[(13,.bv x2)]) (Zxv x1) r ?_ fun J1=>?_
 ·intro x2 h;rw [Zxv] at h;refine MI h (fun h=>?_) fun h=>?_
  ·exact W
  ·refine Vg 6 ?_;refine Vl [] (fun _=>([],[],[])) Zrv r ?_ fun J2=>?_
   ·rintro ⟨⟩ h;rw [Zrv] at h;exact W
   ·refine Vg 1 ?_;refine Mk h [1,1] (fun x11=>[(3,.iv x11)]) ?_;rintro n1 x11 y1 h hin1 hout1;rw [Zwv] at h;refine Vg 9 ?_;refine MI h (fun h=>?_) fun h=>?_
    ·refine Vg 2 ?_;refine Vk [1,1,1,1] (fun _=>[]) (Zsv x11) y1 ?_ fun J3=>?_
     ·rintro ⟨⟩ h;rw [Zsv] at h;exact W
     ·refine Vg 6 ?_;have ⟨x12,ex12,h⟩:=Bs h;refine Zjc SE.row ex12 trivial rfl rfl rfl (Vg 6 ?_);refine Vk [1,1,1,2] (fun x16=>[(62,.bv x16)]) (Zvv x11 x12) y1 ?_ fun J4=>?_
      ·intro x16 h;rw [Zvv] at h;refine MI h (fun h=>?_) fun h=>?_
       ·exact W
       ·refine Vg 8 ?_;refine Vk [1,1,1,2] (fun x17=>[(70,.bv x17)]) (Zuv x11 x12) y1 ?_ fun J5=>?_
        ·intro x17 h;rw [Zuv] at h;refine MI h (fun h=>?_) fun h=>?_
         ·exact W
         ·refine Vg 7 ?_;refine Vl [1,1,1,1] (fun x18=>([(77,.bv x18)],[some ⟨64,BK.row x1⟩],[])) (Ztv x11) y1 ?_ fun J6=>?_
          ·intro x18 h;rw [Ztv] at h;exact W
          ·exact W
        ·exact W
      ·refine Zgj fun all H=>Ds (GP H 4 33 [4,33] [(26,[.ptr 1 0,.iv x12.ID,.bv (decide (x12.ID<1)),.bv (decide (x12.ID<1))])] (Ds ?_));refine Zdd 29 h rfl (fun _ h=>?_) fun _ h=>?_
       ·refine Ds (GP H 33 0 [37] [(30,[.un,.un,.un,.un,.un,.tt,.tt,.un,.un,.un,.un,.un,.un,.un,.un,.un,.un,.un,.un,.un,.un,.tt,.tt,.un,.un,.un,.un,.tt,.tt,.un,.un,.un,.tt])] (Ds ?_));refine GD ?_;exact W
       ·refine Ds (GP H 7 26 [11,26] [(30,[.ptr 1 0,.iv x12.ID,.ptr 0 0,.iv x1.LA,.bv (decide (x1.LA<x12.ID)),.bv (decide (x1.LA<x12.ID)),.bv (decide (x1.LA<x12.ID))])] (Ds ?_));refine Zdd 36 h rfl (fun _ h=>?_) fun _ h=>?_
        ·refine Ds (GP H 26 0 [37] [(37,[.un,.un,.un,.un,.un,.un,.un,.un,.un,.un,.un,.un,.un,.un,.tt,.tt,.un,.un,.un,.un,.tt,.tt,.un,.un,.un,.tt])] (Ds ?_));refine GD ?_;exact W
        ·refine Ds (GP H 3 23 [14,23] [(37,[.iv x11,.bv (decide (0<x11)),.bv (decide (0<x11))])] (Ds ?_));refine Zdd 39 h rfl (fun _ h=>?_) fun _ h=>?_
         ·refine Ds (GP H 6 17 [18,3,2,14] [(40,[.ptr 0 1,Sp5 x1.SE,.iv x11,.iv (wr (x11-1))]),(3,[.ptr 1 0,.iv x12.ID])] (Ds ?_));have ⟨x13,ex13,h⟩:=Bs h;refine Zkc H.1 H.2.1 H.2.2.1 H.2.2.2 18 SE.row ex13 rfl rfl trivial rfl rfl rfl rfl (GP H 6 10 [27,10] [(45,[.elt (SE.row x13) 0,.iv x13.ID]),(2,[.bv (decide (x12.ID≤x13.ID)),.bv (decide (x12.ID≤x13.ID)),.bv (decide (x12.ID≤x13.ID)),.bv (decide (x12.ID≤x13.ID))])] (Ds ?_));refine Zdd 52 h rfl (fun _ h=>?_) fun _ h=>?_
          ·refine Ds (GP H 10 0 [37] [(53,[.un,.un,.un,.un,.tt,.tt,.un,.un,.un,.tt])] (Ds ?_));refine GD ?_;exact W
          ·refine Ds (GP H 2 8 [29,8] [(53,[.ptr 1 1,Sp1 x12.NE])] (Ds ?_));refine RB h Zsq fun x14 _ h=>?_;refine GP H 3 4 [33,4] [(56,[.bv (!x14),.bv (!x14),.bv (!x14)])] (Ds ?_);refine Zdd 58 h rfl (fun _ h=>?_) fun _ h=>?_
           ·refine Ds (GP H 4 0 [37] [(59,[.un,.un,.un,.tt])] (Ds ?_));refine GD ?_;exact W
           ·refine Ds (GP H 4 0 [37] [(59,[.ptr 1 3,.iv x12.Age,.bv (decide (x12.Age<0)),.bv (decide (x12.Age<0))])] (Ds ?_));refine GD ?_;exact W
         ·refine Ds (GP H 15 8 [29,8] [(40,[.un,.un,.un,.un,.un,.un,.un,.un,.un,.un,.ff,.ff,.ff,.ptr 1 1,Sp1 x12.NE])] (Ds ?_));refine RB h Zsq fun x15 _ h=>?_;refine GP H 3 4 [33,4] [(56,[.bv (!x15),.bv (!x15),.bv (!x15)])] (Ds ?_);refine Zdd 58 h rfl (fun _ h=>?_) fun _ h=>?_
          ·refine Ds (GP H 4 0 [37] [(59,[.un,.un,.un,.tt])] (Ds ?_));refine GD ?_;exact W
          ·refine Ds (GP H 4 0 [37] [(59,[.ptr 1 3,.iv x12.Age,.bv (decide (x12.Age<0)),.bv (decide (x12.Age<0))])] (Ds ?_));refine GD ?_;exact W
    ·exact W
 ·exact W
def Z0w:Bool→Option Bool
| x6=>some x6
def Z1w (x1:NO) (x2:KE):Option Bool:=
 (Z8m x1.DK.DI x2.PE).bind fun x3=>
 ifb (!x3.2) (
 ifb (decide (0≤x2.PE)) (
 ifb (decide (x2.PE<x1.DK.DI.ID)) (
 ifb (decide (x2.EP≤65535)) (
 (Zvq x1.KN x2.PE).bind fun x4=>
 ifb (decide (x4<x2.EP)) (
 (Zvq x1.AK x2.PE).bind fun x5=>
 Z0w (decide (x5=0))) (
 Z0w false)) (
 Z0w false)) (
 Z0w false)) (
 Z0w false)) (
 Z0w false)
theorem Z2w {x1 x2 r} (h:Z1w x1 x2=some r):FPx 156 [.agg (NO.row x1),.agg (KE.row x2)] (.bv r):=by
 have ok:=oJ 156 Tryz.f156 [.t 4] 2 53;refine FP ok fun w0 H0=>?_;rw [Z1w] at h;refine Vg 13 ?_;refine VB h Z9m fun x3 _ h=>?_;refine Vg 8 ?_;refine Vl [] (fun x6=>([(4,.bv x6)],[],[])) Z0w r ?_ fun J1=>?_
 ·intro x6 h;rw [Z0w] at h;exact W
 ·refine Zgj fun all H=>Ds (GP H 3 37 [3,37] [(16,[.bv x3.2,.bv (!x3.2),.bv (!x3.2)])] (Ds ?_));refine Zdd 18 h rfl (fun _ h=>?_) fun _ h=>?_
  ·refine Ds (GP H 5 32 [8,32] [(19,[.ptr 1 0,.iv x2.PE,.bv (decide (0≤x2.PE)),.bv (decide (0≤x2.PE)),.bv (decide (0≤x2.PE))])] (Ds ?_));refine Zdd 23 h rfl (fun _ h=>?_) fun _ h=>?_
   ·refine Ds (GP H 9 23 [17,23] [(24,[.ptr 1 0,.iv x2.PE,.ptr 0 0,.ptr 0 0,.ptr 0 0,.iv x1.DK.DI.ID,.bv (decide (x2.PE<x1.DK.DI.ID)),.bv (decide (x2.PE<x1.DK.DI.ID)),.bv (decide (x2.PE<x1.DK.DI.ID))])] (Ds ?_));refine Zdd 32 h rfl (fun _ h=>?_) fun _ h=>?_
    ·refine Ds (GP H 5 18 [22,18] [(33,[.ptr 1 1,.iv x2.EP,.bv (decide (x2.EP≤65535)),.bv (decide (x2.EP≤65535)),.bv (decide (x2.EP≤65535))])] (Ds ?_));refine Zdd 37 h rfl (fun _ h=>?_) fun _ h=>?_
     ·refine Ds (GP H 6 12 [28,12] [(38,[.ptr 1 1,.iv x2.EP,.ptr 0 7,Sp2 x1.KN,.ptr 1 0,.iv x2.PE])] (Ds ?_));refine RB h Zwq fun x4 _ h=>?_;refine GP H 3 8 [32,8] [(45,[.bv (decide (x4<x2.EP)),.bv (decide (x4<x2.EP)),.bv (decide (x4<x2.EP))])] (Ds ?_);refine Zdd 47 h rfl (fun _ h=>?_) fun _ h=>?_
      ·refine Ds (GP H 4 4 [36,4] [(48,[.ptr 0 9,Sp2 x1.AK,.ptr 1 0,.iv x2.PE])] (Ds ?_));refine RB h Zwq fun x5 _ h=>?_;refine GP H 3 0 [40] [(4,[.bv (decide (x5=0))]),(48,[.bv (decide (x5=0)),.bv (decide (x5=0))])] (Ds ?_);refine GD ?_;exact W
      ·refine Ds (GP H 8 0 [40] [(54,[.ff])] (Ds ?_));refine GD ?_;exact W
     ·refine Ds (GP H 18 0 [40] [(46,[.ff,.ff]),(6,[.ff])] (Ds ?_));refine GD ?_;exact W
    ·refine Ds (GP H 23 0 [40] [(36,[.ff,.ff]),(8,[.ff,.ff]),(6,[.ff])] (Ds ?_));refine GD ?_;exact W
   ·refine Ds (GP H 32 0 [40] [(31,[.ff,.ff]),(3,[.ff,.ff]),(8,[.ff,.ff]),(6,[.ff])] (Ds ?_));refine GD ?_;exact W
  ·refine Ds (GP H 37 0 [40] [(22,[.ff,.ff]),(7,[.ff,.ff]),(3,[.ff,.ff]),(8,[.ff,.ff]),(6,[.ff])] (Ds ?_));refine GD ?_;exact W
def Z3w:Unit→Option Bool
| ()=>some true
def Z4w (x1 x2:List Int):Int→Option (Int ⊕ Bool)
| x6=>
 ifb (decide (x6<(ln Z4d x1))) (
 (at_ x1 x6).bind fun x7=>
 (Z2l x2 x7).bind fun x8=>
 ifb (!x8) (
 Option.map Sum.inr (some false)) (
 some (.inl (wr (x6+1))))) (
 Option.map Sum.inr (Z3w ()))
def Z5w (x1 x2:List Int):Option Bool:=loop (Z4w x1 x2) 0
theorem Z6w {x1 x2 r} (h:Z5w x1 x2=some r):FPx 96 [Sp1 x1,Sp1 x2] (.bv r):=by
 have ok:=oJ 96 Tryz.f96 [.t 4] 2 17;refine FP ok fun w0 H0=>?_;rw [Z5w] at h;refine Vg 9 ?_;refine Vk [] (fun _=>[]) Z3w r ?_ fun J1=>?_
 ·rintro ⟨⟩ h;rw [Z3w] at h;exact W
 ·refine Vg 1 ?_;refine Mk h [0,2] (fun x6=>[(5,.iv x6)]) ?_;rintro n1 x6 y1 h hin1 hout1;rw [Z4w] at h;refine Vg 8 ?_;refine MI h (fun h=>?_) fun h=>?_
  ·refine Vg 8 ?_;have ⟨x7,ex7,h⟩:=Bs h;refine Zjc Z4d ex7 trivial rfl rfl rfl (Vg 1 ?_);refine VB h Z3l fun _ _ h=>?_;exact W
  ·exact W
def Z7w:Bool→Option Bool
| x5=>some x5
def Z8w (x1:ML) (x2:HL):Option Bool:=
 (Z4r x2 x1.From).bind fun x3=>
 ifb (!x3) (
 Z7w true) (
 (Z4r x2 x1.To).bind fun x4=>
 ifb (!x4) (
 Z7w true) (
 Z7w (decide (x1.From=x1.To))))
theorem Z9w {x1 x2 r} (h:Z8w x1 x2=some r):FPx 26 [.agg (ML.row x1),.elt (HL.row x2) 0] (.bv r):=by
 have ok:=oJ 26 Tryz.f26 [.t 3] 2 21;refine FP ok fun w0 H0=>?_;rw [Z8w] at h;refine Vg 10 ?_;refine VB h Z5r fun _ _ h=>?_;refine Vg 2 ?_;refine Vl [] (fun x5=>([(3,.bv x5)],[],[])) Z7w r ?_ fun J1=>?_
 ·intro x5 h;rw [Z7w] at h;exact W
 ·refine MC 9 h (fun h=>?_) fun h=>?_
  ·exact W
  ·refine Vg 3 ?_;refine VB h Z5r fun _ _ h=>?_;exact W
def Zaw (x1:List ML) (p1:(ML→Option Bool)):Option Bool:=
 (Z8r x1 p1).bind fun x2=>
 some (decide (0≤x2))
theorem Zbw {x1 g1 caps1 p1 r} (h:Zaw x1 p1=some r) (hc1:CloOK Tryz.prog g1 caps1 (fun z=>[.agg (ML.row z)]) p1 (fun z=>.bv z)):FPx 29 [Sp9 x1,.clo g1 caps1] (.bv r):=by have ok:=oJ 29 Tryz.f29 [.t 4] 2 7;refine FP ok fun w0 H0=>?_;rw [Zaw] at h;refine Vg 8 ?_;refine VB h (fun e=>Z9r e hc1) (fun _ _ h=>?_) (hp:=(by first | rfl | simp [go_sem,hc1.pu]));refine Vg 3 ?_;exact MD ok h
def Zcw:List ML→Option (List ML)
| x4=>some x4
def Zdw (x1:Int):Unit→Option (List ML)
| ()=>
 ifb (decide (0<(wr (x1-(wr (0-0)))))) (
 (Zqf 40 (wr (x1-(wr (0-0)))) (ML.mk 0 0 (Msg.mk 0 0 0))).bind fun x2=>
 (Z9c x2 0 0).bind fun x3=>
 Zcw x3) (
 Zcw (([]:List ML)))
def Zew (x1:Int):Option (List ML):=
 ifb (decide (x1<0)) (
 none) (
 (Zdw x1) ())
theorem Zfw {x1 r} (h:Zew x1=some r):FTx 74 [.nl,.iv x1] [] [] (.osl 0) [] [Sq6 r]:=by
 refine Ft Zcr fun w0 M0=>?_;have ok:=Zcr;rw [Zew] at h;refine Vg 10 ?_;refine Vk [0,2] (fun _=>[]) (Zdw x1) r ?_ fun J1=>?_
 ·rintro ⟨⟩ h;rw [Zdw] at h;refine Vg 5 ?_;refine Zof trivial rfl (Vg 11 ?_);refine Vl [] (fun x4=>([(0,.osl 0)],[],[Sq6 x4])) Zcw r ?_ fun J2=>?_
  ·intro x4 h;rw [Zcw] at h;exact W
  ·refine MI h (fun h=>?_) fun h=>?_
   ·refine Vg 3 ?_;refine Zof trivial rfl (Zlf trivial rfl rfl rfl (Vg 1 ?_));have ⟨x2,ex2,h⟩:=Bs h;refine Zsf ML.row ex2 trivial rfl rfl rfl rfl (Vg 2 ?_);have ⟨x3,ex3,h⟩:=Bs h;refine Zjf ML.row ex3 trivial rfl rfl rfl rfl (Vg 2 ?_);refine Zij 1 0 ?_;exact W
   ·refine Vg 1 ?_;refine Zcb 0 53 5 rfl rfl ?_;exact W
 ·refine MI h (fun h=>?_) fun h=>?_
  ·cases h
  ·exact W
end
end NX
end Go.Proofs.YtgamgemlekpepaaGreat
