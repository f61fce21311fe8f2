/-
  The law ModelRuns: its row holds, for its model answers true at every input. Written by a program of ours (frame.py).
-/
import Derived.Test.YthlodgjekbidcaaGreatRows
import Derived.WalkKit
import Derived.ProofKit
import Derived.OpenShut
import Derived.Test.YthlodgjekbidcaaGreatA1
import Derived.Test.YthlodgjekbidcaaGreatA5
namespace Go.Proofs.YthlodgjekbidcaaGreat
namespace NX
open Go Go.ChangeShapes Go.WideShapes Go.ChangeAt Go.RowKit
set_option maxRecDepth 100000
set_option maxHeartbeats 4000000
theorem Zau:Opn Tryz.prog 77 Edge.row:=by
 intro H enc w base sp held fuel cs x h
 obtain ⟨xs,n,_,_,hl,hxl,hf⟩:=DataW.trod_struct Tryz.underlying77 h
 rw [show Tryz.prog.cellsOf 77=2 from by kernel_rfl] at hl
 have c0:DataW.trod enc Tryz.prog w base sp held n 3 ((cs.drop 0).take (Tryz.prog.cellsOf 3))=xs[0]?:=hf 0 _ rfl
 rw [show Tryz.prog.cellsOf 3=1 from by kernel_rfl] at c0
 have hlt0:0<xs.length:=by rw [hxl];decide
 obtain ⟨y0,hy0⟩:∃y,xs[0]?=some y:=⟨_,List.getElem?_eq_getElem hlt0⟩
 obtain ⟨v0,k0⟩:=(opn_int Tryz.underlying3) enc w _ _ _ _ _ _ (c0.trans hy0)
 have c1:DataW.trod enc Tryz.prog w base sp held n 3 ((cs.drop 1).take (Tryz.prog.cellsOf 3))=xs[1]?:=hf 1 _ rfl
 rw [show Tryz.prog.cellsOf 3=1 from by kernel_rfl] at c1
 have hlt1:1<xs.length:=by rw [hxl];decide
 obtain ⟨y1,hy1⟩:∃y,xs[1]?=some y:=⟨_,List.getElem?_eq_getElem hlt1⟩
 obtain ⟨v1,k1⟩:=(opn_int Tryz.underlying3) enc w _ _ _ _ _ _ (c1.trans hy1)
 have e:cs=(cs.drop 0).take 1++(cs.drop 1).take 1:=by
  match cs,hl with
  | [a0,a1],_=>rfl
 rw [e]
 exact ⟨⟨v0,v1⟩,(Zj1 k0 k1)⟩
theorem Zbu:Opn Tryz.prog 22 (Zc5 2 Edge.row):=opn_slice (n:=2) (row:=Edge.row) Tryz.underlying22 (by kernel_rfl) (by decide) (fun _=>⟨rfl,rfl,rfl⟩) Zau
theorem Zcu:Opn Tryz.prog 24 Graph.row:=by
 intro H enc w base sp held fuel cs x h
 obtain ⟨xs,n,_,_,hl,hxl,hf⟩:=DataW.trod_struct Tryz.underlying24 h
 rw [show Tryz.prog.cellsOf 24=2 from by kernel_rfl] at hl
 have c0:DataW.trod enc Tryz.prog w base sp held n 3 ((cs.drop 0).take (Tryz.prog.cellsOf 3))=xs[0]?:=hf 0 _ rfl
 rw [show Tryz.prog.cellsOf 3=1 from by kernel_rfl] at c0
 have hlt0:0<xs.length:=by rw [hxl];decide
 obtain ⟨y0,hy0⟩:∃y,xs[0]?=some y:=⟨_,List.getElem?_eq_getElem hlt0⟩
 obtain ⟨v0,k0⟩:=(opn_int Tryz.underlying3) enc w _ _ _ _ _ _ (c0.trans hy0)
 have c1:DataW.trod enc Tryz.prog w base sp held n 22 ((cs.drop 1).take (Tryz.prog.cellsOf 22))=xs[1]?:=hf 1 _ rfl
 rw [show Tryz.prog.cellsOf 22=1 from by kernel_rfl] at c1
 have hlt1:1<xs.length:=by rw [hxl];decide
 obtain ⟨y1,hy1⟩:∃y,xs[1]?=some y:=⟨_,List.getElem?_eq_getElem hlt1⟩
 obtain ⟨v1,k1⟩:=Zbu enc w _ _ _ _ _ _ (c1.trans hy1)
 have e:cs=(cs.drop 0).take 1++(cs.drop 1).take 1:=by
  match cs,hl with
  | [a0,a1],_=>rfl
 rw [e]
 exact ⟨⟨v0,v1⟩,(Zj1 k0 k1)⟩
theorem Zdu:Opn Tryz.prog 40 (Zc5 1 Zb5):=opn_slice (n:=1) (row:=Zb5) Tryz.underlying40 (by kernel_rfl) (by decide) (fun _=>⟨rfl,rfl,rfl⟩) (opn_int Tryz.underlying3)
theorem Zeu:Opn Tryz.prog 42 Event.row:=by
 intro H enc w base sp held fuel cs x h
 obtain ⟨xs,n,_,_,hl,hxl,hf⟩:=DataW.trod_struct Tryz.underlying42 h
 rw [show Tryz.prog.cellsOf 42=5 from by kernel_rfl] at hl
 have c0:DataW.trod enc Tryz.prog w base sp held n 39 ((cs.drop 0).take (Tryz.prog.cellsOf 39))=xs[0]?:=hf 0 _ rfl
 rw [show Tryz.prog.cellsOf 39=1 from by kernel_rfl] at c0
 have hlt0:0<xs.length:=by rw [hxl];decide
 obtain ⟨y0,hy0⟩:∃y,xs[0]?=some y:=⟨_,List.getElem?_eq_getElem hlt0⟩
 obtain ⟨v0,k0⟩:=(opn_int Tryz.underlying39) enc w _ _ _ _ _ _ (c0.trans hy0)
 have c1:DataW.trod enc Tryz.prog w base sp held n 3 ((cs.drop 1).take (Tryz.prog.cellsOf 3))=xs[1]?:=hf 1 _ rfl
 rw [show Tryz.prog.cellsOf 3=1 from by kernel_rfl] at c1
 have hlt1:1<xs.length:=by rw [hxl];decide
 obtain ⟨y1,hy1⟩:∃y,xs[1]?=some y:=⟨_,List.getElem?_eq_getElem hlt1⟩
 obtain ⟨v1,k1⟩:=(opn_int Tryz.underlying3) enc w _ _ _ _ _ _ (c1.trans hy1)
 have c2:DataW.trod enc Tryz.prog w base sp held n 3 ((cs.drop 2).take (Tryz.prog.cellsOf 3))=xs[2]?:=hf 2 _ rfl
 rw [show Tryz.prog.cellsOf 3=1 from by kernel_rfl] at c2
 have hlt2:2<xs.length:=by rw [hxl];decide
 obtain ⟨y2,hy2⟩:∃y,xs[2]?=some y:=⟨_,List.getElem?_eq_getElem hlt2⟩
 obtain ⟨v2,k2⟩:=(opn_int Tryz.underlying3) enc w _ _ _ _ _ _ (c2.trans hy2)
 have c3:DataW.trod enc Tryz.prog w base sp held n 3 ((cs.drop 3).take (Tryz.prog.cellsOf 3))=xs[3]?:=hf 3 _ rfl
 rw [show Tryz.prog.cellsOf 3=1 from by kernel_rfl] at c3
 have hlt3:3<xs.length:=by rw [hxl];decide
 obtain ⟨y3,hy3⟩:∃y,xs[3]?=some y:=⟨_,List.getElem?_eq_getElem hlt3⟩
 obtain ⟨v3,k3⟩:=(opn_int Tryz.underlying3) enc w _ _ _ _ _ _ (c3.trans hy3)
 have c4:DataW.trod enc Tryz.prog w base sp held n 40 ((cs.drop 4).take (Tryz.prog.cellsOf 40))=xs[4]?:=hf 4 _ rfl
 rw [show Tryz.prog.cellsOf 40=1 from by kernel_rfl] at c4
 have hlt4:4<xs.length:=by rw [hxl];decide
 obtain ⟨y4,hy4⟩:∃y,xs[4]?=some y:=⟨_,List.getElem?_eq_getElem hlt4⟩
 obtain ⟨v4,k4⟩:=Zdu enc w _ _ _ _ _ _ (c4.trans hy4)
 have e:cs=(cs.drop 0).take 1++(cs.drop 1).take 1++(cs.drop 2).take 1++(cs.drop 3).take 1++(cs.drop 4).take 1:=by
  match cs,hl with
  | [a0,a1,a2,a3,a4],_=>rfl
 rw [e]
 exact ⟨⟨v0,v1,v2,v3,v4⟩,(Zj1 (Zj1 (Zj1 (Zj1 k0 k1) k2) k3) k4)⟩
theorem Zfu:Opn Tryz.prog 25 (Zc5 5 Event.row):=opn_slice (n:=5) (row:=Event.row) Tryz.underlying25 (by kernel_rfl) (by decide) (fun _=>⟨rfl,rfl,rfl⟩) Zeu
theorem Zgu:laidOutB Tryz.prog=true:=by kernel_rfl
theorem own_modelRuns:ownKnob Tryz.prog.godebug=none:=by kernel_rfl
theorem Zhu (H:Type) (enc:TypeId×Value→H) (W:World) (base:Nat) (args:Array Value) (ds gs:List (DataW H)) (before:List MemPlace)
  (hval:∀(j:Nat) t v,Tryz.f3.params[j]?=some t→args[j]?=some v→Value.okWide Tryz.prog W .any base t v)
  (hW:DataW.Whole enc Tryz.prog Tryz.f3.params.toList Rows.modelRunsSpec.vars false W args.toList ds gs before):
  Calls Tryz.prog 3 args W fun e W'=>∃v,e = .returned v∧Rows.modelRunsSpec.post enc Tryz.prog Tryz.f3 false true false false W args v W':=by
 have hW2:=hW
 obtain ⟨p,q,hA0,hV,rfl,hfz,hnd⟩:=hW
 have hA:DataW.TrodAll enc Tryz.prog W 0 (fun _=>true) true Tryz.f3.params.toList args.toList ds p:=hA0
 rw [Tryz.params3] at hA hval
 obtain ⟨v0,vs0,d0,ds0,p0,q0,hargs0,rfl,rfl,h0,r0⟩:=trodAll_cons hA
 obtain ⟨v1,vs1,d1,ds1,p1,q1,hargs1,rfl,rfl,h1,r1⟩:=trodAll_cons r0
 obtain ⟨hz,rfl,rfl⟩:=trodAll_nil r1
 obtain rfl:args = #[v0,v1]:=by cases args;simp_all
 obtain ⟨x1,k0⟩:=arg_agg Zcu Tryz.underlying24 (hval 0 24 v0 rfl rfl) h0
 obtain ⟨x2,k1⟩:=arg_slice Zfu Tryz.underlying25 (hval 1 25 v1 rfl rfl) h1
 refine (Z6u x1 x2 true (Z9u x1 x2) (fun k=>W.heap[k]?) W [v0,v1] (fun _ _ h=>h) (fun _ hs=>absurd hs List.not_mem_nil) ⟨v0,_,rfl,k0,⟨v1,_,rfl,k1,rfl⟩⟩).mono ?_
 rintro e W' ⟨v,H',rfl,hB,_,_,hv⟩
 have hv:v = .bool true:=hv
 subst hv
 exact ⟨_,rfl,law_post Zgu (by kernel_rfl) rfl (rfl:Tryz.f3.resultTypes = #[4]) Tryz.underlying4 (fun _=>rfl) hW2 hB⟩
theorem Ziu (os:Os) (started:os.Started) (H:Type) (enc:TypeId×Value→H):
  ReturnsInHanded {} Tryz.checked os 3 .any (Rows.modelRunsSpec.pre6 enc Tryz.prog Tryz.f3 Rows.modelRunsRow.domain false) (Rows.modelRunsSpec.post enc Tryz.prog Tryz.f3 false true false false):=by
 refine returnsInHanded_of_change (C:=Tryz.checked) own_modelRuns started (by kernel_rfl) Tryz.func3
  (ChangeSpec.witness6 (enc:=enc) (C:=Tryz.checked) false ⟨#[], #[.agg #[.int .i64 0,.slice none 0 0],.slice none 0 0],[]⟩ 8 (by kernel_rfl) (by kernel_rfl) (by kernel_rfl) (by kernel_rfl)) ?_
 intro W base args ds gs before hval hW _ _
 exact Zhu H enc W base args ds gs before hval hW
theorem modelRuns_holds:Rows.ModelRunsSaid:=
 OpenClaim.holds_of_wide 3 Tryz.f3 rfl rfl rfl rfl rfl rfl rfl ⟨rfl,rfl,rfl,rfl,rfl⟩ rfl rfl rfl rfl rfl (by kernel_rfl) Tryz.func3 (by kernel_rfl)
  (of_decide_eq_true (by kernel_rfl)) (by unfold Func.isWrapper;first | (rw [if_pos (by decide +kernel)];kernel_rfl) | (rw [if_neg (by decide +kernel)];exact ⟨rfl,rfl⟩))
  (fun os started H enc _=>Ziu os started H enc)
#print axioms modelRuns_holds
end NX
end Go.Proofs.YthlodgjekbidcaaGreat
