/-
  The law TableSteps: its row holds, for its model answers true at every input. Written by a program of ours (frame.py).
-/
import Derived.Test.YtadebhbiglmodaaGreatRows
import Derived.WalkKit
import Derived.ProofKit
import Derived.OpenShut
import Derived.Test.YtadebhbiglmodaaGreatSTableSteps5
import Derived.Test.YtadebhbiglmodaaGreatSTableSteps6
namespace Go.Proofs.YtadebhbiglmodaaGreat
namespace NX
open Go Go.ChangeShapes Go.WideShapes Go.ChangeAt Go.RowKit
set_option maxRecDepth 100000
set_option maxHeartbeats 4000000
theorem Zyn:Opn Tryz.prog 65 Side.row:=by
 intro H enc w base sp held fuel cs x h
 obtain ⟨xs,n,_,_,hl,hxl,hf⟩:=DataW.trod_struct Tryz.underlying65 h
 rw [show Tryz.prog.cellsOf 65=8 from by kernel_rfl] at hl
 have c0:DataW.trod enc Tryz.prog w base sp held n 3 ((cs.drop 0).take (Tryz.prog.cellsOf 3))=xs[0]?:=hf 0 _ rfl
 rw [show Tryz.prog.cellsOf 3=1 from by kernel_rfl] at c0
 have hlt0:0<xs.length:=by rw [hxl];decide
 obtain ⟨y0,hy0⟩:∃y,xs[0]?=some y:=⟨_,List.getElem?_eq_getElem hlt0⟩
 obtain ⟨v0,k0⟩:=(Zgk Tryz.underlying3) enc w _ _ _ _ _ _ (c0.trans hy0)
 have c1:DataW.trod enc Tryz.prog w base sp held n 3 ((cs.drop 1).take (Tryz.prog.cellsOf 3))=xs[1]?:=hf 1 _ rfl
 rw [show Tryz.prog.cellsOf 3=1 from by kernel_rfl] at c1
 have hlt1:1<xs.length:=by rw [hxl];decide
 obtain ⟨y1,hy1⟩:∃y,xs[1]?=some y:=⟨_,List.getElem?_eq_getElem hlt1⟩
 obtain ⟨v1,k1⟩:=(Zgk Tryz.underlying3) enc w _ _ _ _ _ _ (c1.trans hy1)
 have c2:DataW.trod enc Tryz.prog w base sp held n 63 ((cs.drop 2).take (Tryz.prog.cellsOf 63))=xs[2]?:=hf 2 _ rfl
 rw [show Tryz.prog.cellsOf 63=1 from by kernel_rfl] at c2
 have hlt2:2<xs.length:=by rw [hxl];decide
 obtain ⟨y2,hy2⟩:∃y,xs[2]?=some y:=⟨_,List.getElem?_eq_getElem hlt2⟩
 obtain ⟨v2,k2⟩:=(Zgk Tryz.underlying63) enc w _ _ _ _ _ _ (c2.trans hy2)
 have c3:DataW.trod enc Tryz.prog w base sp held n 4 ((cs.drop 3).take (Tryz.prog.cellsOf 4))=xs[3]?:=hf 3 _ rfl
 rw [show Tryz.prog.cellsOf 4=1 from by kernel_rfl] at c3
 have hlt3:3<xs.length:=by rw [hxl];decide
 obtain ⟨y3,hy3⟩:∃y,xs[3]?=some y:=⟨_,List.getElem?_eq_getElem hlt3⟩
 obtain ⟨v3,k3⟩:=(Zhk Tryz.underlying4) enc w _ _ _ _ _ _ (c3.trans hy3)
 have c4:DataW.trod enc Tryz.prog w base sp held n 4 ((cs.drop 4).take (Tryz.prog.cellsOf 4))=xs[4]?:=hf 4 _ rfl
 rw [show Tryz.prog.cellsOf 4=1 from by kernel_rfl] at c4
 have hlt4:4<xs.length:=by rw [hxl];decide
 obtain ⟨y4,hy4⟩:∃y,xs[4]?=some y:=⟨_,List.getElem?_eq_getElem hlt4⟩
 obtain ⟨v4,k4⟩:=(Zhk Tryz.underlying4) enc w _ _ _ _ _ _ (c4.trans hy4)
 have c5:DataW.trod enc Tryz.prog w base sp held n 4 ((cs.drop 5).take (Tryz.prog.cellsOf 4))=xs[5]?:=hf 5 _ rfl
 rw [show Tryz.prog.cellsOf 4=1 from by kernel_rfl] at c5
 have hlt5:5<xs.length:=by rw [hxl];decide
 obtain ⟨y5,hy5⟩:∃y,xs[5]?=some y:=⟨_,List.getElem?_eq_getElem hlt5⟩
 obtain ⟨v5,k5⟩:=(Zhk Tryz.underlying4) enc w _ _ _ _ _ _ (c5.trans hy5)
 have c6:DataW.trod enc Tryz.prog w base sp held n 4 ((cs.drop 6).take (Tryz.prog.cellsOf 4))=xs[6]?:=hf 6 _ rfl
 rw [show Tryz.prog.cellsOf 4=1 from by kernel_rfl] at c6
 have hlt6:6<xs.length:=by rw [hxl];decide
 obtain ⟨y6,hy6⟩:∃y,xs[6]?=some y:=⟨_,List.getElem?_eq_getElem hlt6⟩
 obtain ⟨v6,k6⟩:=(Zhk Tryz.underlying4) enc w _ _ _ _ _ _ (c6.trans hy6)
 have c7:DataW.trod enc Tryz.prog w base sp held n 4 ((cs.drop 7).take (Tryz.prog.cellsOf 4))=xs[7]?:=hf 7 _ rfl
 rw [show Tryz.prog.cellsOf 4=1 from by kernel_rfl] at c7
 have hlt7:7<xs.length:=by rw [hxl];decide
 obtain ⟨y7,hy7⟩:∃y,xs[7]?=some y:=⟨_,List.getElem?_eq_getElem hlt7⟩
 obtain ⟨v7,k7⟩:=(Zhk Tryz.underlying4) enc w _ _ _ _ _ _ (c7.trans hy7)
 have e:cs=(cs.drop 0).take 1++(cs.drop 1).take 1++(cs.drop 2).take 1++(cs.drop 3).take 1++(cs.drop 4).take 1++(cs.drop 5).take 1++(cs.drop 6).take 1++(cs.drop 7).take 1:=by
  match cs,hl with
  | [a0,a1,a2,a3,a4,a5,a6,a7],_=>rfl
 rw [e]
 exact ⟨⟨v0,v1,v2,v3,v4,v5,v6,v7⟩,(Zh1 (Zh1 (Zh1 (Zh1 (Zh1 (Zh1 (Zh1 k0 k1) k2) k3) k4) k5) k6) k7)⟩
theorem Zzn:Opn Tryz.prog 68 (Z55 8 Side.row):=Zik (n:=8) (row:=Side.row) Tryz.underlying68 (by kernel_rfl) (by decide) (fun _=>⟨rfl,rfl,rfl⟩) Zyn
theorem Z0o:Opn Tryz.prog 70 Diner.row:=by
 intro H enc w base sp held fuel cs x h
 obtain ⟨xs,n,_,_,hl,hxl,hf⟩:=DataW.trod_struct Tryz.underlying70 h
 rw [show Tryz.prog.cellsOf 70=3 from by kernel_rfl] at hl
 have c0:DataW.trod enc Tryz.prog w base sp held n 3 ((cs.drop 0).take (Tryz.prog.cellsOf 3))=xs[0]?:=hf 0 _ rfl
 rw [show Tryz.prog.cellsOf 3=1 from by kernel_rfl] at c0
 have hlt0:0<xs.length:=by rw [hxl];decide
 obtain ⟨y0,hy0⟩:∃y,xs[0]?=some y:=⟨_,List.getElem?_eq_getElem hlt0⟩
 obtain ⟨v0,k0⟩:=(Zgk Tryz.underlying3) enc w _ _ _ _ _ _ (c0.trans hy0)
 have c1:DataW.trod enc Tryz.prog w base sp held n 31 ((cs.drop 1).take (Tryz.prog.cellsOf 31))=xs[1]?:=hf 1 _ rfl
 rw [show Tryz.prog.cellsOf 31=1 from by kernel_rfl] at c1
 have hlt1:1<xs.length:=by rw [hxl];decide
 obtain ⟨y1,hy1⟩:∃y,xs[1]?=some y:=⟨_,List.getElem?_eq_getElem hlt1⟩
 obtain ⟨v1,k1⟩:=(Zgk Tryz.underlying31) enc w _ _ _ _ _ _ (c1.trans hy1)
 have c2:DataW.trod enc Tryz.prog w base sp held n 68 ((cs.drop 2).take (Tryz.prog.cellsOf 68))=xs[2]?:=hf 2 _ rfl
 rw [show Tryz.prog.cellsOf 68=1 from by kernel_rfl] at c2
 have hlt2:2<xs.length:=by rw [hxl];decide
 obtain ⟨y2,hy2⟩:∃y,xs[2]?=some y:=⟨_,List.getElem?_eq_getElem hlt2⟩
 obtain ⟨v2,k2⟩:=Zzn enc w _ _ _ _ _ _ (c2.trans hy2)
 have e:cs=(cs.drop 0).take 1++(cs.drop 1).take 1++(cs.drop 2).take 1:=by
  match cs,hl with
  | [a0,a1,a2],_=>rfl
 rw [e]
 exact ⟨⟨v0,v1,v2⟩,(Zh1 (Zh1 k0 k1) k2)⟩
theorem Z1o:Opn Tryz.prog 22 (Z55 3 Diner.row):=Zik (n:=3) (row:=Diner.row) Tryz.underlying22 (by kernel_rfl) (by decide) (fun _=>⟨rfl,rfl,rfl⟩) Z0o
theorem Z2o:Opn Tryz.prog 76 Msg.row:=by
 intro H enc w base sp held fuel cs x h
 obtain ⟨xs,n,_,_,hl,hxl,hf⟩:=DataW.trod_struct Tryz.underlying76 h
 rw [show Tryz.prog.cellsOf 76=3 from by kernel_rfl] at hl
 have c0:DataW.trod enc Tryz.prog w base sp held n 30 ((cs.drop 0).take (Tryz.prog.cellsOf 30))=xs[0]?:=hf 0 _ rfl
 rw [show Tryz.prog.cellsOf 30=1 from by kernel_rfl] at c0
 have hlt0:0<xs.length:=by rw [hxl];decide
 obtain ⟨y0,hy0⟩:∃y,xs[0]?=some y:=⟨_,List.getElem?_eq_getElem hlt0⟩
 obtain ⟨v0,k0⟩:=(Zgk Tryz.underlying30) enc w _ _ _ _ _ _ (c0.trans hy0)
 have c1:DataW.trod enc Tryz.prog w base sp held n 3 ((cs.drop 1).take (Tryz.prog.cellsOf 3))=xs[1]?:=hf 1 _ rfl
 rw [show Tryz.prog.cellsOf 3=1 from by kernel_rfl] at c1
 have hlt1:1<xs.length:=by rw [hxl];decide
 obtain ⟨y1,hy1⟩:∃y,xs[1]?=some y:=⟨_,List.getElem?_eq_getElem hlt1⟩
 obtain ⟨v1,k1⟩:=(Zgk Tryz.underlying3) enc w _ _ _ _ _ _ (c1.trans hy1)
 have c2:DataW.trod enc Tryz.prog w base sp held n 3 ((cs.drop 2).take (Tryz.prog.cellsOf 3))=xs[2]?:=hf 2 _ rfl
 rw [show Tryz.prog.cellsOf 3=1 from by kernel_rfl] at c2
 have hlt2:2<xs.length:=by rw [hxl];decide
 obtain ⟨y2,hy2⟩:∃y,xs[2]?=some y:=⟨_,List.getElem?_eq_getElem hlt2⟩
 obtain ⟨v2,k2⟩:=(Zgk Tryz.underlying3) enc w _ _ _ _ _ _ (c2.trans hy2)
 have e:cs=(cs.drop 0).take 1++(cs.drop 1).take 1++(cs.drop 2).take 1:=by
  match cs,hl with
  | [a0,a1,a2],_=>rfl
 rw [e]
 exact ⟨⟨v0,v1,v2⟩,(Zh1 (Zh1 k0 k1) k2)⟩
theorem Z3o:Opn Tryz.prog 78 Mail.row:=by
 intro H enc w base sp held fuel cs x h
 obtain ⟨xs,n,_,_,hl,hxl,hf⟩:=DataW.trod_struct Tryz.underlying78 h
 rw [show Tryz.prog.cellsOf 78=5 from by kernel_rfl] at hl
 have c0:DataW.trod enc Tryz.prog w base sp held n 3 ((cs.drop 0).take (Tryz.prog.cellsOf 3))=xs[0]?:=hf 0 _ rfl
 rw [show Tryz.prog.cellsOf 3=1 from by kernel_rfl] at c0
 have hlt0:0<xs.length:=by rw [hxl];decide
 obtain ⟨y0,hy0⟩:∃y,xs[0]?=some y:=⟨_,List.getElem?_eq_getElem hlt0⟩
 obtain ⟨v0,k0⟩:=(Zgk Tryz.underlying3) enc w _ _ _ _ _ _ (c0.trans hy0)
 have c1:DataW.trod enc Tryz.prog w base sp held n 3 ((cs.drop 1).take (Tryz.prog.cellsOf 3))=xs[1]?:=hf 1 _ rfl
 rw [show Tryz.prog.cellsOf 3=1 from by kernel_rfl] at c1
 have hlt1:1<xs.length:=by rw [hxl];decide
 obtain ⟨y1,hy1⟩:∃y,xs[1]?=some y:=⟨_,List.getElem?_eq_getElem hlt1⟩
 obtain ⟨v1,k1⟩:=(Zgk Tryz.underlying3) enc w _ _ _ _ _ _ (c1.trans hy1)
 have c2:DataW.trod enc Tryz.prog w base sp held n 76 ((cs.drop 2).take (Tryz.prog.cellsOf 76))=xs[2]?:=hf 2 _ rfl
 rw [show Tryz.prog.cellsOf 76=3 from by kernel_rfl] at c2
 have hlt2:2<xs.length:=by rw [hxl];decide
 obtain ⟨y2,hy2⟩:∃y,xs[2]?=some y:=⟨_,List.getElem?_eq_getElem hlt2⟩
 obtain ⟨v2,k2⟩:=Z2o enc w _ _ _ _ _ _ (c2.trans hy2)
 have e:cs=(cs.drop 0).take 1++(cs.drop 1).take 1++(cs.drop 2).take 3:=by
  match cs,hl with
  | [a0,a1,a2,a3,a4],_=>rfl
 rw [e]
 exact ⟨⟨v0,v1,v2⟩,(Zh1 (Zh1 k0 k1) k2)⟩
theorem Z4o:Opn Tryz.prog 23 (Z55 5 Mail.row):=Zik (n:=5) (row:=Mail.row) Tryz.underlying23 (by kernel_rfl) (by decide) (fun _=>⟨rfl,rfl,rfl⟩) Z3o
theorem Z5o:Opn Tryz.prog 25 Scene.row:=by
 intro H enc w base sp held fuel cs x h
 obtain ⟨xs,n,_,_,hl,hxl,hf⟩:=DataW.trod_struct Tryz.underlying25 h
 rw [show Tryz.prog.cellsOf 25=2 from by kernel_rfl] at hl
 have c0:DataW.trod enc Tryz.prog w base sp held n 22 ((cs.drop 0).take (Tryz.prog.cellsOf 22))=xs[0]?:=hf 0 _ rfl
 rw [show Tryz.prog.cellsOf 22=1 from by kernel_rfl] at c0
 have hlt0:0<xs.length:=by rw [hxl];decide
 obtain ⟨y0,hy0⟩:∃y,xs[0]?=some y:=⟨_,List.getElem?_eq_getElem hlt0⟩
 obtain ⟨v0,k0⟩:=Z1o enc w _ _ _ _ _ _ (c0.trans hy0)
 have c1:DataW.trod enc Tryz.prog w base sp held n 23 ((cs.drop 1).take (Tryz.prog.cellsOf 23))=xs[1]?:=hf 1 _ rfl
 rw [show Tryz.prog.cellsOf 23=1 from by kernel_rfl] at c1
 have hlt1:1<xs.length:=by rw [hxl];decide
 obtain ⟨y1,hy1⟩:∃y,xs[1]?=some y:=⟨_,List.getElem?_eq_getElem hlt1⟩
 obtain ⟨v1,k1⟩:=Z4o enc w _ _ _ _ _ _ (c1.trans hy1)
 have e:cs=(cs.drop 0).take 1++(cs.drop 1).take 1:=by
  match cs,hl with
  | [a0,a1],_=>rfl
 rw [e]
 exact ⟨⟨v0,v1⟩,(Zh1 k0 k1)⟩
theorem Z6o:Opn Tryz.prog 27 narthexlaw14_Act.row:=by
 intro H enc w base sp held fuel cs x h
 obtain ⟨xs,n,_,_,hl,hxl,hf⟩:=DataW.trod_struct Tryz.underlying27 h
 rw [show Tryz.prog.cellsOf 27=3 from by kernel_rfl] at hl
 have c0:DataW.trod enc Tryz.prog w base sp held n 3 ((cs.drop 0).take (Tryz.prog.cellsOf 3))=xs[0]?:=hf 0 _ rfl
 rw [show Tryz.prog.cellsOf 3=1 from by kernel_rfl] at c0
 have hlt0:0<xs.length:=by rw [hxl];decide
 obtain ⟨y0,hy0⟩:∃y,xs[0]?=some y:=⟨_,List.getElem?_eq_getElem hlt0⟩
 obtain ⟨v0,k0⟩:=(Zgk Tryz.underlying3) enc w _ _ _ _ _ _ (c0.trans hy0)
 have c1:DataW.trod enc Tryz.prog w base sp held n 3 ((cs.drop 1).take (Tryz.prog.cellsOf 3))=xs[1]?:=hf 1 _ rfl
 rw [show Tryz.prog.cellsOf 3=1 from by kernel_rfl] at c1
 have hlt1:1<xs.length:=by rw [hxl];decide
 obtain ⟨y1,hy1⟩:∃y,xs[1]?=some y:=⟨_,List.getElem?_eq_getElem hlt1⟩
 obtain ⟨v1,k1⟩:=(Zgk Tryz.underlying3) enc w _ _ _ _ _ _ (c1.trans hy1)
 have c2:DataW.trod enc Tryz.prog w base sp held n 3 ((cs.drop 2).take (Tryz.prog.cellsOf 3))=xs[2]?:=hf 2 _ rfl
 rw [show Tryz.prog.cellsOf 3=1 from by kernel_rfl] at c2
 have hlt2:2<xs.length:=by rw [hxl];decide
 obtain ⟨y2,hy2⟩:∃y,xs[2]?=some y:=⟨_,List.getElem?_eq_getElem hlt2⟩
 obtain ⟨v2,k2⟩:=(Zgk Tryz.underlying3) enc w _ _ _ _ _ _ (c2.trans hy2)
 have e:cs=(cs.drop 0).take 1++(cs.drop 1).take 1++(cs.drop 2).take 1:=by
  match cs,hl with
  | [a0,a1,a2],_=>rfl
 rw [e]
 exact ⟨⟨v0,v1,v2⟩,(Zh1 (Zh1 k0 k1) k2)⟩
theorem Z7o:Opn Tryz.prog 29 Edge.row:=by
 intro H enc w base sp held fuel cs x h
 obtain ⟨xs,n,_,_,hl,hxl,hf⟩:=DataW.trod_struct Tryz.underlying29 h
 rw [show Tryz.prog.cellsOf 29=2 from by kernel_rfl] at hl
 have c0:DataW.trod enc Tryz.prog w base sp held n 3 ((cs.drop 0).take (Tryz.prog.cellsOf 3))=xs[0]?:=hf 0 _ rfl
 rw [show Tryz.prog.cellsOf 3=1 from by kernel_rfl] at c0
 have hlt0:0<xs.length:=by rw [hxl];decide
 obtain ⟨y0,hy0⟩:∃y,xs[0]?=some y:=⟨_,List.getElem?_eq_getElem hlt0⟩
 obtain ⟨v0,k0⟩:=(Zgk Tryz.underlying3) enc w _ _ _ _ _ _ (c0.trans hy0)
 have c1:DataW.trod enc Tryz.prog w base sp held n 3 ((cs.drop 1).take (Tryz.prog.cellsOf 3))=xs[1]?:=hf 1 _ rfl
 rw [show Tryz.prog.cellsOf 3=1 from by kernel_rfl] at c1
 have hlt1:1<xs.length:=by rw [hxl];decide
 obtain ⟨y1,hy1⟩:∃y,xs[1]?=some y:=⟨_,List.getElem?_eq_getElem hlt1⟩
 obtain ⟨v1,k1⟩:=(Zgk Tryz.underlying3) enc w _ _ _ _ _ _ (c1.trans hy1)
 have e:cs=(cs.drop 0).take 1++(cs.drop 1).take 1:=by
  match cs,hl with
  | [a0,a1],_=>rfl
 rw [e]
 exact ⟨⟨v0,v1⟩,(Zh1 k0 k1)⟩
theorem Z8o:laidOutB Tryz.prog=true:=by kernel_rfl
theorem Z9o:ownKnob Tryz.prog.godebug=none:=by kernel_rfl
theorem Zao (H:Type) (enc:TypeId×Value→H) (W:World) (base:Nat) (args:Array Value) (ds gs:List (DataW H)) (before:List MemPlace)
  (hval:∀(j:Nat) t v,Tryz.f3.params[j]?=some t→args[j]?=some v→Value.okWide Tryz.prog W .any base t v)
  (hW:DataW.Whole enc Tryz.prog Tryz.f3.params.toList Rows.tableStepsSpec.vars false W args.toList ds gs before):
  Calls Tryz.prog 3 args W fun e W'=>∃v,e = .returned v∧Rows.tableStepsSpec.post enc Tryz.prog Tryz.f3 false true false false W args v W':=by
 have hW2:=hW
 obtain ⟨p,q,hA0,hV,rfl,hfz,hnd⟩:=hW
 have hA:DataW.TrodAll enc Tryz.prog W 0 (fun _=>true) true Tryz.f3.params.toList args.toList ds p:=hA0
 rw [Tryz.params3] at hA hval
 obtain ⟨v0,vs0,d0,ds0,p0,q0,hargs0,rfl,rfl,h0,r0⟩:=trodAll_cons hA
 obtain ⟨v1,vs1,d1,ds1,p1,q1,hargs1,rfl,rfl,h1,r1⟩:=trodAll_cons r0
 obtain ⟨v2,vs2,d2,ds2,p2,q2,hargs2,rfl,rfl,h2,r2⟩:=trodAll_cons r1
 obtain ⟨v3,vs3,d3,ds3,p3,q3,hargs3,rfl,rfl,h3,r3⟩:=trodAll_cons r2
 obtain ⟨v4,vs4,d4,ds4,p4,q4,hargs4,rfl,rfl,h4,r4⟩:=trodAll_cons r3
 obtain ⟨hz,rfl,rfl⟩:=trodAll_nil r4
 obtain rfl:args = #[v0,v1,v2,v3,v4]:=by cases args;simp_all
 obtain ⟨x1,k0⟩:=arg_agg Z5o Tryz.underlying25 (hval 0 25 v0 rfl rfl) h0
 obtain ⟨x2,k1⟩:=arg_agg Z6o Tryz.underlying27 (hval 1 27 v1 rfl rfl) h1
 obtain ⟨x3,k2⟩:=arg_agg Z7o Tryz.underlying29 (hval 2 29 v2 rfl rfl) h2
 obtain ⟨x4,k3⟩:=arg_int Tryz.underlying30 (hval 3 30 v3 rfl rfl) h3
 obtain ⟨x5,k4⟩:=arg_int Tryz.underlying31 (hval 4 31 v4 rfl rfl) h4
 refine (Zvn x1 x2 x3 x4 x5 true (Zxn x1 x2 x3 x4 x5) (fun k=>W.heap[k]?) W [v0,v1,v2,v3,v4] (fun _ _ h=>h) ⟨v0,_,rfl,k0,⟨v1,_,rfl,k1,⟨v2,_,rfl,k2,⟨v3,_,rfl,k3,⟨v4,_,rfl,k4,rfl⟩⟩⟩⟩⟩).mono ?_
 rintro e W' ⟨v,H',rfl,hB,_,_,hv⟩
 have hv:v = .bool true:=hv
 subst hv
 exact ⟨_,rfl,law_post Z8o (by kernel_rfl) rfl (rfl:Tryz.f3.resultTypes = #[4]) Tryz.underlying4 (fun _=>rfl) hW2 hB⟩
theorem Zbo (os:Os) (started:os.Started) (H:Type) (enc:TypeId×Value→H):
  ReturnsInHanded {} Tryz.checked os 3 .any (Rows.tableStepsSpec.pre6 enc Tryz.prog Tryz.f3 Rows.tableStepsRow.domain false) (Rows.tableStepsSpec.post enc Tryz.prog Tryz.f3 false true false false):=by
 refine returnsInHanded_of_change (C:=Tryz.checked) Z9o started (by kernel_rfl) Tryz.func3
  (ChangeSpec.witness6 (enc:=enc) (C:=Tryz.checked) false ⟨#[], #[.agg #[.slice none 0 0,.slice none 0 0],.agg #[.int .i64 0,.int .i64 0,.int .i64 0],.agg #[.int .i64 0,.int .i64 0],.int .i64 0,.int .i64 0],[]⟩ 8 (by kernel_rfl) (by kernel_rfl) (by kernel_rfl) (by kernel_rfl)) ?_
 intro W base args ds gs before hval hW _ _
 exact Zao H enc W base args ds gs before hval hW
theorem tableSteps_holds:Rows.TableStepsSaid:=
 OpenClaim.holds_of_wide 3 Tryz.f3 rfl rfl rfl rfl rfl rfl rfl ⟨rfl,rfl,rfl,rfl,rfl⟩ rfl rfl rfl rfl rfl (by kernel_rfl) Tryz.func3 (by kernel_rfl)
  (of_decide_eq_true (by kernel_rfl)) (by unfold Func.isWrapper;first | (rw [if_pos (by decide +kernel)];kernel_rfl) | (rw [if_neg (by decide +kernel)];exact ⟨rfl,rfl⟩))
  (fun os started H enc _=>Zbo os started H enc)
#print axioms tableSteps_holds
end NX
end Go.Proofs.YtadebhbiglmodaaGreat
