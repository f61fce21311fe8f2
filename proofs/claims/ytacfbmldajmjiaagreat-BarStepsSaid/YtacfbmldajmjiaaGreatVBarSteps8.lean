/-
  The law BarSteps: its row holds, for its model answers true at every input. Written by a program of ours (frame.py).
-/
import Derived.Test.YtacfbmldajmjiaaGreatRows
import Derived.WalkKit
import Derived.ProofKit
import Derived.OpenShut
import Derived.Test.YtacfbmldajmjiaaGreatVBarSteps7
import Derived.Test.YtacfbmldajmjiaaGreatV6
namespace Go.Proofs.YtacfbmldajmjiaaGreat
namespace NX
open Go Go.ChangeShapes Go.WideShapes Go.ChangeAt Go.RowKit
set_option maxRecDepth 100000
set_option maxHeartbeats 4000000
theorem Z1r:Opn Tryz.prog 66 Side.row:=by
 intro H enc w base sp held fuel cs x h
 obtain ⟨xs,n,_,_,hl,hxl,hf⟩:=DataW.trod_struct Tryz.underlying66 h
 rw [show Tryz.prog.cellsOf 66=8 from by kernel_rfl] at hl
 have c0:DataW.trod enc Tryz.prog w base sp held n 3 ((cs.drop 0).take (Tryz.prog.cellsOf 3))=xs[0]?:=hf 0 _ rfl
 rw [show Tryz.prog.cellsOf 3=1 from by kernel_rfl] at c0
 have hlt0:0<xs.length:=by rw [hxl];decide
 obtain ⟨y0,hy0⟩:∃y,xs[0]?=some y:=⟨_,List.getElem?_eq_getElem hlt0⟩
 obtain ⟨v0,k0⟩:=(Zwq Tryz.underlying3) enc w _ _ _ _ _ _ (c0.trans hy0)
 have c1:DataW.trod enc Tryz.prog w base sp held n 3 ((cs.drop 1).take (Tryz.prog.cellsOf 3))=xs[1]?:=hf 1 _ rfl
 rw [show Tryz.prog.cellsOf 3=1 from by kernel_rfl] at c1
 have hlt1:1<xs.length:=by rw [hxl];decide
 obtain ⟨y1,hy1⟩:∃y,xs[1]?=some y:=⟨_,List.getElem?_eq_getElem hlt1⟩
 obtain ⟨v1,k1⟩:=(Zwq Tryz.underlying3) enc w _ _ _ _ _ _ (c1.trans hy1)
 have c2:DataW.trod enc Tryz.prog w base sp held n 64 ((cs.drop 2).take (Tryz.prog.cellsOf 64))=xs[2]?:=hf 2 _ rfl
 rw [show Tryz.prog.cellsOf 64=1 from by kernel_rfl] at c2
 have hlt2:2<xs.length:=by rw [hxl];decide
 obtain ⟨y2,hy2⟩:∃y,xs[2]?=some y:=⟨_,List.getElem?_eq_getElem hlt2⟩
 obtain ⟨v2,k2⟩:=(Zwq Tryz.underlying64) enc w _ _ _ _ _ _ (c2.trans hy2)
 have c3:DataW.trod enc Tryz.prog w base sp held n 4 ((cs.drop 3).take (Tryz.prog.cellsOf 4))=xs[3]?:=hf 3 _ rfl
 rw [show Tryz.prog.cellsOf 4=1 from by kernel_rfl] at c3
 have hlt3:3<xs.length:=by rw [hxl];decide
 obtain ⟨y3,hy3⟩:∃y,xs[3]?=some y:=⟨_,List.getElem?_eq_getElem hlt3⟩
 obtain ⟨v3,k3⟩:=(Zxq Tryz.underlying4) enc w _ _ _ _ _ _ (c3.trans hy3)
 have c4:DataW.trod enc Tryz.prog w base sp held n 4 ((cs.drop 4).take (Tryz.prog.cellsOf 4))=xs[4]?:=hf 4 _ rfl
 rw [show Tryz.prog.cellsOf 4=1 from by kernel_rfl] at c4
 have hlt4:4<xs.length:=by rw [hxl];decide
 obtain ⟨y4,hy4⟩:∃y,xs[4]?=some y:=⟨_,List.getElem?_eq_getElem hlt4⟩
 obtain ⟨v4,k4⟩:=(Zxq Tryz.underlying4) enc w _ _ _ _ _ _ (c4.trans hy4)
 have c5:DataW.trod enc Tryz.prog w base sp held n 4 ((cs.drop 5).take (Tryz.prog.cellsOf 4))=xs[5]?:=hf 5 _ rfl
 rw [show Tryz.prog.cellsOf 4=1 from by kernel_rfl] at c5
 have hlt5:5<xs.length:=by rw [hxl];decide
 obtain ⟨y5,hy5⟩:∃y,xs[5]?=some y:=⟨_,List.getElem?_eq_getElem hlt5⟩
 obtain ⟨v5,k5⟩:=(Zxq Tryz.underlying4) enc w _ _ _ _ _ _ (c5.trans hy5)
 have c6:DataW.trod enc Tryz.prog w base sp held n 4 ((cs.drop 6).take (Tryz.prog.cellsOf 4))=xs[6]?:=hf 6 _ rfl
 rw [show Tryz.prog.cellsOf 4=1 from by kernel_rfl] at c6
 have hlt6:6<xs.length:=by rw [hxl];decide
 obtain ⟨y6,hy6⟩:∃y,xs[6]?=some y:=⟨_,List.getElem?_eq_getElem hlt6⟩
 obtain ⟨v6,k6⟩:=(Zxq Tryz.underlying4) enc w _ _ _ _ _ _ (c6.trans hy6)
 have c7:DataW.trod enc Tryz.prog w base sp held n 4 ((cs.drop 7).take (Tryz.prog.cellsOf 4))=xs[7]?:=hf 7 _ rfl
 rw [show Tryz.prog.cellsOf 4=1 from by kernel_rfl] at c7
 have hlt7:7<xs.length:=by rw [hxl];decide
 obtain ⟨y7,hy7⟩:∃y,xs[7]?=some y:=⟨_,List.getElem?_eq_getElem hlt7⟩
 obtain ⟨v7,k7⟩:=(Zxq Tryz.underlying4) enc w _ _ _ _ _ _ (c7.trans hy7)
 have e:cs=(cs.drop 0).take 1++(cs.drop 1).take 1++(cs.drop 2).take 1++(cs.drop 3).take 1++(cs.drop 4).take 1++(cs.drop 5).take 1++(cs.drop 6).take 1++(cs.drop 7).take 1:=by
  match cs,hl with
  | [a0,a1,a2,a3,a4,a5,a6,a7],_=>rfl
 rw [e]
 exact ⟨⟨v0,v1,v2,v3,v4,v5,v6,v7⟩,(Zg1 (Zg1 (Zg1 (Zg1 (Zg1 (Zg1 (Zg1 k0 k1) k2) k3) k4) k5) k6) k7)⟩
theorem Z2r:Opn Tryz.prog 59 (Zv4 8 Side.row):=Zyq (n:=8) (row:=Side.row) Tryz.underlying59 (by kernel_rfl) (by decide) (fun _=>⟨rfl,rfl,rfl⟩) Z1r
theorem Z3r:Opn Tryz.prog 61 Diner.row:=by
 intro H enc w base sp held fuel cs x h
 obtain ⟨xs,n,_,_,hl,hxl,hf⟩:=DataW.trod_struct Tryz.underlying61 h
 rw [show Tryz.prog.cellsOf 61=3 from by kernel_rfl] at hl
 have c0:DataW.trod enc Tryz.prog w base sp held n 3 ((cs.drop 0).take (Tryz.prog.cellsOf 3))=xs[0]?:=hf 0 _ rfl
 rw [show Tryz.prog.cellsOf 3=1 from by kernel_rfl] at c0
 have hlt0:0<xs.length:=by rw [hxl];decide
 obtain ⟨y0,hy0⟩:∃y,xs[0]?=some y:=⟨_,List.getElem?_eq_getElem hlt0⟩
 obtain ⟨v0,k0⟩:=(Zwq Tryz.underlying3) enc w _ _ _ _ _ _ (c0.trans hy0)
 have c1:DataW.trod enc Tryz.prog w base sp held n 58 ((cs.drop 1).take (Tryz.prog.cellsOf 58))=xs[1]?:=hf 1 _ rfl
 rw [show Tryz.prog.cellsOf 58=1 from by kernel_rfl] at c1
 have hlt1:1<xs.length:=by rw [hxl];decide
 obtain ⟨y1,hy1⟩:∃y,xs[1]?=some y:=⟨_,List.getElem?_eq_getElem hlt1⟩
 obtain ⟨v1,k1⟩:=(Zwq Tryz.underlying58) enc w _ _ _ _ _ _ (c1.trans hy1)
 have c2:DataW.trod enc Tryz.prog w base sp held n 59 ((cs.drop 2).take (Tryz.prog.cellsOf 59))=xs[2]?:=hf 2 _ rfl
 rw [show Tryz.prog.cellsOf 59=1 from by kernel_rfl] at c2
 have hlt2:2<xs.length:=by rw [hxl];decide
 obtain ⟨y2,hy2⟩:∃y,xs[2]?=some y:=⟨_,List.getElem?_eq_getElem hlt2⟩
 obtain ⟨v2,k2⟩:=Z2r enc w _ _ _ _ _ _ (c2.trans hy2)
 have e:cs=(cs.drop 0).take 1++(cs.drop 1).take 1++(cs.drop 2).take 1:=by
  match cs,hl with
  | [a0,a1,a2],_=>rfl
 rw [e]
 exact ⟨⟨v0,v1,v2⟩,(Zg1 (Zg1 k0 k1) k2)⟩
theorem Z4r:Opn Tryz.prog 26 (Zv4 1 Zu4):=Zyq (n:=1) (row:=Zu4) Tryz.underlying26 (by kernel_rfl) (by decide) (fun _=>⟨rfl,rfl,rfl⟩) (Zwq Tryz.underlying3)
theorem Z5r:Opn Tryz.prog 63 Drinker.row:=by
 intro H enc w base sp held fuel cs x h
 obtain ⟨xs,n,_,_,hl,hxl,hf⟩:=DataW.trod_struct Tryz.underlying63 h
 rw [show Tryz.prog.cellsOf 63=5 from by kernel_rfl] at hl
 have c0:DataW.trod enc Tryz.prog w base sp held n 61 ((cs.drop 0).take (Tryz.prog.cellsOf 61))=xs[0]?:=hf 0 _ rfl
 rw [show Tryz.prog.cellsOf 61=3 from by kernel_rfl] at c0
 have hlt0:0<xs.length:=by rw [hxl];decide
 obtain ⟨y0,hy0⟩:∃y,xs[0]?=some y:=⟨_,List.getElem?_eq_getElem hlt0⟩
 obtain ⟨v0,k0⟩:=Z3r enc w _ _ _ _ _ _ (c0.trans hy0)
 have c1:DataW.trod enc Tryz.prog w base sp held n 32 ((cs.drop 3).take (Tryz.prog.cellsOf 32))=xs[1]?:=hf 1 _ rfl
 rw [show Tryz.prog.cellsOf 32=1 from by kernel_rfl] at c1
 have hlt1:1<xs.length:=by rw [hxl];decide
 obtain ⟨y1,hy1⟩:∃y,xs[1]?=some y:=⟨_,List.getElem?_eq_getElem hlt1⟩
 obtain ⟨v1,k1⟩:=(Zwq Tryz.underlying32) enc w _ _ _ _ _ _ (c1.trans hy1)
 have c2:DataW.trod enc Tryz.prog w base sp held n 26 ((cs.drop 4).take (Tryz.prog.cellsOf 26))=xs[2]?:=hf 2 _ rfl
 rw [show Tryz.prog.cellsOf 26=1 from by kernel_rfl] at c2
 have hlt2:2<xs.length:=by rw [hxl];decide
 obtain ⟨y2,hy2⟩:∃y,xs[2]?=some y:=⟨_,List.getElem?_eq_getElem hlt2⟩
 obtain ⟨v2,k2⟩:=Z4r enc w _ _ _ _ _ _ (c2.trans hy2)
 have e:cs=(cs.drop 0).take 3++(cs.drop 3).take 1++(cs.drop 4).take 1:=by
  match cs,hl with
  | [a0,a1,a2,a3,a4],_=>rfl
 rw [e]
 exact ⟨⟨v0,v1,v2⟩,(Zg1 (Zg1 k0 k1) k2)⟩
theorem Z6r:Opn Tryz.prog 22 (Zv4 5 Drinker.row):=Zyq (n:=5) (row:=Drinker.row) Tryz.underlying22 (by kernel_rfl) (by decide) (fun _=>⟨rfl,rfl,rfl⟩) Z5r
theorem Z7r:Opn Tryz.prog 93 Msg.row:=by
 intro H enc w base sp held fuel cs x h
 obtain ⟨xs,n,_,_,hl,hxl,hf⟩:=DataW.trod_struct Tryz.underlying93 h
 rw [show Tryz.prog.cellsOf 93=3 from by kernel_rfl] at hl
 have c0:DataW.trod enc Tryz.prog w base sp held n 31 ((cs.drop 0).take (Tryz.prog.cellsOf 31))=xs[0]?:=hf 0 _ rfl
 rw [show Tryz.prog.cellsOf 31=1 from by kernel_rfl] at c0
 have hlt0:0<xs.length:=by rw [hxl];decide
 obtain ⟨y0,hy0⟩:∃y,xs[0]?=some y:=⟨_,List.getElem?_eq_getElem hlt0⟩
 obtain ⟨v0,k0⟩:=(Zwq Tryz.underlying31) enc w _ _ _ _ _ _ (c0.trans hy0)
 have c1:DataW.trod enc Tryz.prog w base sp held n 3 ((cs.drop 1).take (Tryz.prog.cellsOf 3))=xs[1]?:=hf 1 _ rfl
 rw [show Tryz.prog.cellsOf 3=1 from by kernel_rfl] at c1
 have hlt1:1<xs.length:=by rw [hxl];decide
 obtain ⟨y1,hy1⟩:∃y,xs[1]?=some y:=⟨_,List.getElem?_eq_getElem hlt1⟩
 obtain ⟨v1,k1⟩:=(Zwq Tryz.underlying3) enc w _ _ _ _ _ _ (c1.trans hy1)
 have c2:DataW.trod enc Tryz.prog w base sp held n 3 ((cs.drop 2).take (Tryz.prog.cellsOf 3))=xs[2]?:=hf 2 _ rfl
 rw [show Tryz.prog.cellsOf 3=1 from by kernel_rfl] at c2
 have hlt2:2<xs.length:=by rw [hxl];decide
 obtain ⟨y2,hy2⟩:∃y,xs[2]?=some y:=⟨_,List.getElem?_eq_getElem hlt2⟩
 obtain ⟨v2,k2⟩:=(Zwq Tryz.underlying3) enc w _ _ _ _ _ _ (c2.trans hy2)
 have e:cs=(cs.drop 0).take 1++(cs.drop 1).take 1++(cs.drop 2).take 1:=by
  match cs,hl with
  | [a0,a1,a2],_=>rfl
 rw [e]
 exact ⟨⟨v0,v1,v2⟩,(Zg1 (Zg1 k0 k1) k2)⟩
theorem Z8r:Opn Tryz.prog 95 Mail.row:=by
 intro H enc w base sp held fuel cs x h
 obtain ⟨xs,n,_,_,hl,hxl,hf⟩:=DataW.trod_struct Tryz.underlying95 h
 rw [show Tryz.prog.cellsOf 95=5 from by kernel_rfl] at hl
 have c0:DataW.trod enc Tryz.prog w base sp held n 3 ((cs.drop 0).take (Tryz.prog.cellsOf 3))=xs[0]?:=hf 0 _ rfl
 rw [show Tryz.prog.cellsOf 3=1 from by kernel_rfl] at c0
 have hlt0:0<xs.length:=by rw [hxl];decide
 obtain ⟨y0,hy0⟩:∃y,xs[0]?=some y:=⟨_,List.getElem?_eq_getElem hlt0⟩
 obtain ⟨v0,k0⟩:=(Zwq Tryz.underlying3) enc w _ _ _ _ _ _ (c0.trans hy0)
 have c1:DataW.trod enc Tryz.prog w base sp held n 3 ((cs.drop 1).take (Tryz.prog.cellsOf 3))=xs[1]?:=hf 1 _ rfl
 rw [show Tryz.prog.cellsOf 3=1 from by kernel_rfl] at c1
 have hlt1:1<xs.length:=by rw [hxl];decide
 obtain ⟨y1,hy1⟩:∃y,xs[1]?=some y:=⟨_,List.getElem?_eq_getElem hlt1⟩
 obtain ⟨v1,k1⟩:=(Zwq Tryz.underlying3) enc w _ _ _ _ _ _ (c1.trans hy1)
 have c2:DataW.trod enc Tryz.prog w base sp held n 93 ((cs.drop 2).take (Tryz.prog.cellsOf 93))=xs[2]?:=hf 2 _ rfl
 rw [show Tryz.prog.cellsOf 93=3 from by kernel_rfl] at c2
 have hlt2:2<xs.length:=by rw [hxl];decide
 obtain ⟨y2,hy2⟩:∃y,xs[2]?=some y:=⟨_,List.getElem?_eq_getElem hlt2⟩
 obtain ⟨v2,k2⟩:=Z7r enc w _ _ _ _ _ _ (c2.trans hy2)
 have e:cs=(cs.drop 0).take 1++(cs.drop 1).take 1++(cs.drop 2).take 3:=by
  match cs,hl with
  | [a0,a1,a2,a3,a4],_=>rfl
 rw [e]
 exact ⟨⟨v0,v1,v2⟩,(Zg1 (Zg1 k0 k1) k2)⟩
theorem Z9r:Opn Tryz.prog 23 (Zv4 5 Mail.row):=Zyq (n:=5) (row:=Mail.row) Tryz.underlying23 (by kernel_rfl) (by decide) (fun _=>⟨rfl,rfl,rfl⟩) Z8r
theorem Zar:Opn Tryz.prog 25 Bar.row:=by
 intro H enc w base sp held fuel cs x h
 obtain ⟨xs,n,_,_,hl,hxl,hf⟩:=DataW.trod_struct Tryz.underlying25 h
 rw [show Tryz.prog.cellsOf 25=2 from by kernel_rfl] at hl
 have c0:DataW.trod enc Tryz.prog w base sp held n 22 ((cs.drop 0).take (Tryz.prog.cellsOf 22))=xs[0]?:=hf 0 _ rfl
 rw [show Tryz.prog.cellsOf 22=1 from by kernel_rfl] at c0
 have hlt0:0<xs.length:=by rw [hxl];decide
 obtain ⟨y0,hy0⟩:∃y,xs[0]?=some y:=⟨_,List.getElem?_eq_getElem hlt0⟩
 obtain ⟨v0,k0⟩:=Z6r enc w _ _ _ _ _ _ (c0.trans hy0)
 have c1:DataW.trod enc Tryz.prog w base sp held n 23 ((cs.drop 1).take (Tryz.prog.cellsOf 23))=xs[1]?:=hf 1 _ rfl
 rw [show Tryz.prog.cellsOf 23=1 from by kernel_rfl] at c1
 have hlt1:1<xs.length:=by rw [hxl];decide
 obtain ⟨y1,hy1⟩:∃y,xs[1]?=some y:=⟨_,List.getElem?_eq_getElem hlt1⟩
 obtain ⟨v1,k1⟩:=Z9r enc w _ _ _ _ _ _ (c1.trans hy1)
 have e:cs=(cs.drop 0).take 1++(cs.drop 1).take 1:=by
  match cs,hl with
  | [a0,a1],_=>rfl
 rw [e]
 exact ⟨⟨v0,v1⟩,(Zg1 k0 k1)⟩
theorem Zbr:Opn Tryz.prog 28 narthexlaw16_Act.row:=by
 intro H enc w base sp held fuel cs x h
 obtain ⟨xs,n,_,_,hl,hxl,hf⟩:=DataW.trod_struct Tryz.underlying28 h
 rw [show Tryz.prog.cellsOf 28=4 from by kernel_rfl] at hl
 have c0:DataW.trod enc Tryz.prog w base sp held n 3 ((cs.drop 0).take (Tryz.prog.cellsOf 3))=xs[0]?:=hf 0 _ rfl
 rw [show Tryz.prog.cellsOf 3=1 from by kernel_rfl] at c0
 have hlt0:0<xs.length:=by rw [hxl];decide
 obtain ⟨y0,hy0⟩:∃y,xs[0]?=some y:=⟨_,List.getElem?_eq_getElem hlt0⟩
 obtain ⟨v0,k0⟩:=(Zwq Tryz.underlying3) enc w _ _ _ _ _ _ (c0.trans hy0)
 have c1:DataW.trod enc Tryz.prog w base sp held n 3 ((cs.drop 1).take (Tryz.prog.cellsOf 3))=xs[1]?:=hf 1 _ rfl
 rw [show Tryz.prog.cellsOf 3=1 from by kernel_rfl] at c1
 have hlt1:1<xs.length:=by rw [hxl];decide
 obtain ⟨y1,hy1⟩:∃y,xs[1]?=some y:=⟨_,List.getElem?_eq_getElem hlt1⟩
 obtain ⟨v1,k1⟩:=(Zwq Tryz.underlying3) enc w _ _ _ _ _ _ (c1.trans hy1)
 have c2:DataW.trod enc Tryz.prog w base sp held n 3 ((cs.drop 2).take (Tryz.prog.cellsOf 3))=xs[2]?:=hf 2 _ rfl
 rw [show Tryz.prog.cellsOf 3=1 from by kernel_rfl] at c2
 have hlt2:2<xs.length:=by rw [hxl];decide
 obtain ⟨y2,hy2⟩:∃y,xs[2]?=some y:=⟨_,List.getElem?_eq_getElem hlt2⟩
 obtain ⟨v2,k2⟩:=(Zwq Tryz.underlying3) enc w _ _ _ _ _ _ (c2.trans hy2)
 have c3:DataW.trod enc Tryz.prog w base sp held n 26 ((cs.drop 3).take (Tryz.prog.cellsOf 26))=xs[3]?:=hf 3 _ rfl
 rw [show Tryz.prog.cellsOf 26=1 from by kernel_rfl] at c3
 have hlt3:3<xs.length:=by rw [hxl];decide
 obtain ⟨y3,hy3⟩:∃y,xs[3]?=some y:=⟨_,List.getElem?_eq_getElem hlt3⟩
 obtain ⟨v3,k3⟩:=Z4r enc w _ _ _ _ _ _ (c3.trans hy3)
 have e:cs=(cs.drop 0).take 1++(cs.drop 1).take 1++(cs.drop 2).take 1++(cs.drop 3).take 1:=by
  match cs,hl with
  | [a0,a1,a2,a3],_=>rfl
 rw [e]
 exact ⟨⟨v0,v1,v2,v3⟩,(Zg1 (Zg1 (Zg1 k0 k1) k2) k3)⟩
theorem Zcr:Opn Tryz.prog 30 Edge.row:=by
 intro H enc w base sp held fuel cs x h
 obtain ⟨xs,n,_,_,hl,hxl,hf⟩:=DataW.trod_struct Tryz.underlying30 h
 rw [show Tryz.prog.cellsOf 30=2 from by kernel_rfl] at hl
 have c0:DataW.trod enc Tryz.prog w base sp held n 3 ((cs.drop 0).take (Tryz.prog.cellsOf 3))=xs[0]?:=hf 0 _ rfl
 rw [show Tryz.prog.cellsOf 3=1 from by kernel_rfl] at c0
 have hlt0:0<xs.length:=by rw [hxl];decide
 obtain ⟨y0,hy0⟩:∃y,xs[0]?=some y:=⟨_,List.getElem?_eq_getElem hlt0⟩
 obtain ⟨v0,k0⟩:=(Zwq Tryz.underlying3) enc w _ _ _ _ _ _ (c0.trans hy0)
 have c1:DataW.trod enc Tryz.prog w base sp held n 3 ((cs.drop 1).take (Tryz.prog.cellsOf 3))=xs[1]?:=hf 1 _ rfl
 rw [show Tryz.prog.cellsOf 3=1 from by kernel_rfl] at c1
 have hlt1:1<xs.length:=by rw [hxl];decide
 obtain ⟨y1,hy1⟩:∃y,xs[1]?=some y:=⟨_,List.getElem?_eq_getElem hlt1⟩
 obtain ⟨v1,k1⟩:=(Zwq Tryz.underlying3) enc w _ _ _ _ _ _ (c1.trans hy1)
 have e:cs=(cs.drop 0).take 1++(cs.drop 1).take 1:=by
  match cs,hl with
  | [a0,a1],_=>rfl
 rw [e]
 exact ⟨⟨v0,v1⟩,(Zg1 k0 k1)⟩
theorem Zdr:laidOutB Tryz.prog=true:=by kernel_rfl
theorem own_barSteps:ownKnob Tryz.prog.godebug=none:=by kernel_rfl
theorem Zer (H:Type) (enc:TypeId×Value→H) (W:World) (base:Nat) (args:Array Value) (ds gs:List (DataW H)) (before:List MemPlace)
  (hval:∀(j:Nat) t v,Tryz.f3.params[j]?=some t→args[j]?=some v→Value.okWide Tryz.prog W .any base t v)
  (hW:DataW.Whole enc Tryz.prog Tryz.f3.params.toList Rows.barStepsSpec.vars false W args.toList ds gs before):
  Calls Tryz.prog 3 args W fun e W'=>∃v,e = .returned v∧Rows.barStepsSpec.post enc Tryz.prog Tryz.f3 false true false false W args v W':=by
 have hW2:=hW
 obtain ⟨p,q,hA0,hV,rfl,hfz,hnd⟩:=hW
 have hA:DataW.TrodAll enc Tryz.prog W 0 (fun _=>true) true Tryz.f3.params.toList args.toList ds p:=hA0
 rw [Tryz.params3] at hA hval
 obtain ⟨v0,vs0,d0,ds0,p0,q0,hargs0,rfl,rfl,h0,r0⟩:=trodAll_cons hA
 obtain ⟨v1,vs1,d1,ds1,p1,q1,hargs1,rfl,rfl,h1,r1⟩:=trodAll_cons r0
 obtain ⟨v2,vs2,d2,ds2,p2,q2,hargs2,rfl,rfl,h2,r2⟩:=trodAll_cons r1
 obtain ⟨v3,vs3,d3,ds3,p3,q3,hargs3,rfl,rfl,h3,r3⟩:=trodAll_cons r2
 obtain ⟨v4,vs4,d4,ds4,p4,q4,hargs4,rfl,rfl,h4,r4⟩:=trodAll_cons r3
 obtain ⟨hz,rfl,rfl⟩:=trodAll_nil r4
 obtain rfl:args = #[v0,v1,v2,v3,v4]:=by cases args;simp_all
 obtain ⟨x1,k0⟩:=arg_agg Zar Tryz.underlying25 (hval 0 25 v0 rfl rfl) h0
 obtain ⟨x2,k1⟩:=arg_agg Zbr Tryz.underlying28 (hval 1 28 v1 rfl rfl) h1
 obtain ⟨x3,k2⟩:=arg_agg Zcr Tryz.underlying30 (hval 2 30 v2 rfl rfl) h2
 obtain ⟨x4,k3⟩:=arg_int Tryz.underlying31 (hval 3 31 v3 rfl rfl) h3
 obtain ⟨x5,k4⟩:=arg_int Tryz.underlying32 (hval 4 32 v4 rfl rfl) h4
 refine (k_narthexlaw16_BarSteps x1 x2 x3 x4 x5 true (p_narthexlaw16_BarSteps x1 x2 x3 x4 x5) (fun k=>W.heap[k]?) W [v0,v1,v2,v3,v4] (fun _ _ h=>h) ⟨v0,_,rfl,k0,⟨v1,_,rfl,k1,⟨v2,_,rfl,k2,⟨v3,_,rfl,k3,⟨v4,_,rfl,k4,rfl⟩⟩⟩⟩⟩).mono ?_
 rintro e W' ⟨v,H',rfl,hB,_,_,hv⟩
 have hv:v = .bool true:=hv
 subst hv
 exact ⟨_,rfl,law_post Zdr (by kernel_rfl) rfl (rfl:Tryz.f3.resultTypes = #[4]) Tryz.underlying4 (fun _=>rfl) hW2 hB⟩
theorem Zfr (os:Os) (started:os.Started) (H:Type) (enc:TypeId×Value→H):
  ReturnsInHanded {} Tryz.checked os 3 .any (Rows.barStepsSpec.pre6 enc Tryz.prog Tryz.f3 Rows.barStepsRow.domain false) (Rows.barStepsSpec.post enc Tryz.prog Tryz.f3 false true false false):=by
 refine returnsInHanded_of_change (C:=Tryz.checked) own_barSteps started (by kernel_rfl) Tryz.func3
  (ChangeSpec.witness6 (enc:=enc) (C:=Tryz.checked) false ⟨#[], #[.agg #[.slice none 0 0,.slice none 0 0],.agg #[.int .i64 0,.int .i64 0,.int .i64 0,.slice none 0 0],.agg #[.int .i64 0,.int .i64 0],.int .i64 0,.int .i64 0],[]⟩ 8 (by kernel_rfl) (by kernel_rfl) (by kernel_rfl) (by kernel_rfl)) ?_
 intro W base args ds gs before hval hW _ _
 exact Zer H enc W base args ds gs before hval hW
theorem barSteps_holds:Rows.BarStepsSaid:=
 OpenClaim.holds_of_wide 3 Tryz.f3 rfl rfl rfl rfl rfl rfl rfl ⟨rfl,rfl,rfl,rfl,rfl⟩ rfl rfl rfl rfl rfl (by kernel_rfl) Tryz.func3 (by kernel_rfl)
  (of_decide_eq_true (by kernel_rfl)) (by unfold Func.isWrapper;first | (rw [if_pos (by decide +kernel)];kernel_rfl) | (rw [if_neg (by decide +kernel)];exact ⟨rfl,rfl⟩))
  (fun os started H enc _=>Zfr os started H enc)
#print axioms barSteps_holds
end NX
end Go.Proofs.YtacfbmldajmjiaaGreat
