/-
  The law PlaceRound: its row holds, for its model answers true at every input. Written by a program of ours (frame.py).
-/
import Derived.Test.YtadebhbiglmodaaRows
import Derived.WalkKit
import Derived.ProofKit
import Derived.OpenShut
import Derived.Test.YtadebhbiglmodaaYPlaceRound4
import Derived.Test.YtadebhbiglmodaaY3
namespace Go.Proofs.Ytadebhbiglmodaa
namespace NX
open Go Go.ChangeShapes Go.WideShapes Go.ChangeAt Go.RowKit
set_option maxRecDepth 100000
set_option maxHeartbeats 4000000
theorem Zed:Opn Try.prog 58 Edge.row:=by
 intro H enc w base sp held fuel cs x h
 obtain ⟨xs,n,_,_,hl,hxl,hf⟩:=DataW.trod_struct Try.underlying58 h
 rw [show Try.prog.cellsOf 58=2 from by kernel_rfl] at hl
 have c0:DataW.trod enc Try.prog w base sp held n 3 ((cs.drop 0).take (Try.prog.cellsOf 3))=xs[0]?:=hf 0 _ rfl
 rw [show Try.prog.cellsOf 3=1 from by kernel_rfl] at c0
 have hlt0:0<xs.length:=by rw [hxl];decide
 obtain ⟨y0,hy0⟩:∃y,xs[0]?=some y:=⟨_,List.getElem?_eq_getElem hlt0⟩
 obtain ⟨v0,k0⟩:=(opn_int Try.underlying3) enc w _ _ _ _ _ _ (c0.trans hy0)
 have c1:DataW.trod enc Try.prog w base sp held n 3 ((cs.drop 1).take (Try.prog.cellsOf 3))=xs[1]?:=hf 1 _ rfl
 rw [show Try.prog.cellsOf 3=1 from by kernel_rfl] at c1
 have hlt1:1<xs.length:=by rw [hxl];decide
 obtain ⟨y1,hy1⟩:∃y,xs[1]?=some y:=⟨_,List.getElem?_eq_getElem hlt1⟩
 obtain ⟨v1,k1⟩:=(opn_int Try.underlying3) enc w _ _ _ _ _ _ (c1.trans hy1)
 have e:cs=(cs.drop 0).take 1++(cs.drop 1).take 1:=by
  match cs,hl with
  | [a0,a1],_=>rfl
 rw [e]
 exact ⟨⟨v0,v1⟩,(Zh1 k0 k1)⟩
theorem Zfd:Opn Try.prog 22 (slRow 2 Edge.row):=opn_slice (n:=2) (row:=Edge.row) Try.underlying22 (by kernel_rfl) (by decide) (fun _=>⟨rfl,rfl,rfl⟩) Zed
theorem Zgd:Opn Try.prog 24 Graph.row:=by
 intro H enc w base sp held fuel cs x h
 obtain ⟨xs,n,_,_,hl,hxl,hf⟩:=DataW.trod_struct Try.underlying24 h
 rw [show Try.prog.cellsOf 24=2 from by kernel_rfl] at hl
 have c0:DataW.trod enc Try.prog w base sp held n 3 ((cs.drop 0).take (Try.prog.cellsOf 3))=xs[0]?:=hf 0 _ rfl
 rw [show Try.prog.cellsOf 3=1 from by kernel_rfl] at c0
 have hlt0:0<xs.length:=by rw [hxl];decide
 obtain ⟨y0,hy0⟩:∃y,xs[0]?=some y:=⟨_,List.getElem?_eq_getElem hlt0⟩
 obtain ⟨v0,k0⟩:=(opn_int Try.underlying3) enc w _ _ _ _ _ _ (c0.trans hy0)
 have c1:DataW.trod enc Try.prog w base sp held n 22 ((cs.drop 1).take (Try.prog.cellsOf 22))=xs[1]?:=hf 1 _ rfl
 rw [show Try.prog.cellsOf 22=1 from by kernel_rfl] at c1
 have hlt1:1<xs.length:=by rw [hxl];decide
 obtain ⟨y1,hy1⟩:∃y,xs[1]?=some y:=⟨_,List.getElem?_eq_getElem hlt1⟩
 obtain ⟨v1,k1⟩:=Zfd enc w _ _ _ _ _ _ (c1.trans hy1)
 have e:cs=(cs.drop 0).take 1++(cs.drop 1).take 1:=by
  match cs,hl with
  | [a0,a1],_=>rfl
 rw [e]
 exact ⟨⟨v0,v1⟩,(Zh1 k0 k1)⟩
theorem Zhd:laidOutB Try.prog=true:=by kernel_rfl
theorem Zid:ownKnob Try.prog.godebug=none:=by kernel_rfl
theorem Zjd (H:Type) (enc:TypeId×Value→H) (W:World) (base:Nat) (args:Array Value) (ds gs:List (DataW H)) (before:List MemPlace)
  (hval:∀(j:Nat) t v,Try.f8.params[j]?=some t→args[j]?=some v→Value.okWide Try.prog W .any base t v)
  (hW:DataW.Whole enc Try.prog Try.f8.params.toList Rows.placeRoundSpec.vars false W args.toList ds gs before):
  Calls Try.prog 8 args W fun e W'=>∃v,e = .returned v∧Rows.placeRoundSpec.post enc Try.prog Try.f8 false true false false W args v W':=by
 have hW2:=hW
 obtain ⟨p,q,hA0,hV,rfl,hfz,hnd⟩:=hW
 have hA:DataW.TrodAll enc Try.prog W 0 (fun _=>true) true Try.f8.params.toList args.toList ds p:=hA0
 rw [Try.params8] at hA hval
 obtain ⟨v0,vs0,d0,ds0,p0,q0,hargs0,rfl,rfl,h0,r0⟩:=trodAll_cons hA
 obtain ⟨hz,rfl,rfl⟩:=trodAll_nil r0
 obtain rfl:args = #[v0]:=by cases args;simp_all
 obtain ⟨x1,k0⟩:=arg_agg Zgd Try.underlying24 (hval 0 24 v0 rfl rfl) h0
 refine (Zad x1 true (Zbd x1) (fun k=>W.heap[k]?) W [v0] (fun _ _ h=>h) ⟨v0,_,rfl,k0,rfl⟩).mono ?_
 rintro e W' ⟨v,H',rfl,hB,_,_,hv⟩
 have hv:v = .bool true:=hv
 subst hv
 exact ⟨_,rfl,law_post Zhd (by kernel_rfl) rfl (rfl:Try.f8.resultTypes = #[4]) Try.underlying4 (fun _=>rfl) hW2 hB⟩
theorem Zkd (os:Os) (started:os.Started) (H:Type) (enc:TypeId×Value→H):
  ReturnsInHanded {} Try.checked os 8 .any (Rows.placeRoundSpec.pre6 enc Try.prog Try.f8 Rows.placeRoundRow.domain false) (Rows.placeRoundSpec.post enc Try.prog Try.f8 false true false false):=by
 refine returnsInHanded_of_change (C:=Try.checked) Zid started (by kernel_rfl) Try.func8
  (ChangeSpec.witness6 (enc:=enc) (C:=Try.checked) false ⟨#[], #[.agg #[.int .i64 0,.slice none 0 0]],[]⟩ 8 (by kernel_rfl) (by kernel_rfl) (by kernel_rfl) (by kernel_rfl)) ?_
 intro W base args ds gs before hval hW _ _
 exact Zjd H enc W base args ds gs before hval hW
theorem placeRound_holds:Rows.PlaceRoundSaid:=
 OpenClaim.holds_of_wide 8 Try.f8 rfl rfl rfl rfl rfl rfl rfl ⟨rfl,rfl,rfl,rfl,rfl⟩ rfl rfl rfl rfl rfl (by kernel_rfl) Try.func8 (by kernel_rfl)
  (of_decide_eq_true (by kernel_rfl)) (by unfold Func.isWrapper;first | (rw [if_pos (by decide +kernel)];kernel_rfl) | (rw [if_neg (by decide +kernel)];exact ⟨rfl,rfl⟩))
  (fun os started H enc _=>Zkd os started H enc)
#print axioms placeRound_holds
end NX
end Go.Proofs.Ytadebhbiglmodaa
