/-
  The law ModelGone: its row holds, for its model answers true at every input. Written by a program of ours (frame.py).
-/
import Derived.Test.YthlodgjekbidcaaRows
import Derived.WalkKit
import Derived.ProofKit
import Derived.OpenShut
import Derived.Test.YthlodgjekbidcaaA1
import Derived.Test.YthlodgjekbidcaaA4
namespace Go.Proofs.Ythlodgjekbidcaa
namespace NX
open Go Go.ChangeShapes Go.WideShapes Go.ChangeAt Go.RowKit
set_option maxRecDepth 100000
set_option maxHeartbeats 4000000
theorem Zwr:Opn Try.prog 39 (Zg5 1 Zf5):=opn_slice (n:=1) (row:=Zf5) Try.underlying39 (by kernel_rfl) (by decide) (fun _=>⟨rfl,rfl,rfl⟩) (opn_int Try.underlying3)
theorem Zxr:Opn Try.prog 76 Sess.row:=by
 intro H enc w base sp held fuel cs x h
 obtain ⟨xs,n,_,_,hl,hxl,hf⟩:=DataW.trod_struct Try.underlying76 h
 rw [show Try.prog.cellsOf 76=4 from by kernel_rfl] at hl
 have c0:DataW.trod enc Try.prog w base sp held n 3 ((cs.drop 0).take (Try.prog.cellsOf 3))=xs[0]?:=hf 0 _ rfl
 rw [show Try.prog.cellsOf 3=1 from by kernel_rfl] at c0
 have hlt0:0<xs.length:=by rw [hxl];decide
 obtain ⟨y0,hy0⟩:∃y,xs[0]?=some y:=⟨_,List.getElem?_eq_getElem hlt0⟩
 obtain ⟨v0,k0⟩:=(opn_int Try.underlying3) enc w _ _ _ _ _ _ (c0.trans hy0)
 have c1:DataW.trod enc Try.prog w base sp held n 39 ((cs.drop 1).take (Try.prog.cellsOf 39))=xs[1]?:=hf 1 _ rfl
 rw [show Try.prog.cellsOf 39=1 from by kernel_rfl] at c1
 have hlt1:1<xs.length:=by rw [hxl];decide
 obtain ⟨y1,hy1⟩:∃y,xs[1]?=some y:=⟨_,List.getElem?_eq_getElem hlt1⟩
 obtain ⟨v1,k1⟩:=Zwr enc w _ _ _ _ _ _ (c1.trans hy1)
 have c2:DataW.trod enc Try.prog w base sp held n 74 ((cs.drop 2).take (Try.prog.cellsOf 74))=xs[2]?:=hf 2 _ rfl
 rw [show Try.prog.cellsOf 74=1 from by kernel_rfl] at c2
 have hlt2:2<xs.length:=by rw [hxl];decide
 obtain ⟨y2,hy2⟩:∃y,xs[2]?=some y:=⟨_,List.getElem?_eq_getElem hlt2⟩
 obtain ⟨v2,k2⟩:=(opn_int Try.underlying74) enc w _ _ _ _ _ _ (c2.trans hy2)
 have c3:DataW.trod enc Try.prog w base sp held n 3 ((cs.drop 3).take (Try.prog.cellsOf 3))=xs[3]?:=hf 3 _ rfl
 rw [show Try.prog.cellsOf 3=1 from by kernel_rfl] at c3
 have hlt3:3<xs.length:=by rw [hxl];decide
 obtain ⟨y3,hy3⟩:∃y,xs[3]?=some y:=⟨_,List.getElem?_eq_getElem hlt3⟩
 obtain ⟨v3,k3⟩:=(opn_int Try.underlying3) enc w _ _ _ _ _ _ (c3.trans hy3)
 have e:cs=(cs.drop 0).take 1++(cs.drop 1).take 1++(cs.drop 2).take 1++(cs.drop 3).take 1:=by
  match cs,hl with
  | [a0,a1,a2,a3],_=>rfl
 rw [e]
 exact ⟨⟨v0,v1,v2,v3⟩,(Zk1 (Zk1 (Zk1 k0 k1) k2) k3)⟩
theorem Zyr:Opn Try.prog 47 (Zg5 4 Sess.row):=opn_slice (n:=4) (row:=Sess.row) Try.underlying47 (by kernel_rfl) (by decide) (fun _=>⟨rfl,rfl,rfl⟩) Zxr
theorem Zzr:Opn Try.prog 49 Book.row:=by
 intro H enc w base sp held fuel cs x h
 obtain ⟨xs,n,_,_,hl,hxl,hf⟩:=DataW.trod_struct Try.underlying49 h
 rw [show Try.prog.cellsOf 49=2 from by kernel_rfl] at hl
 have c0:DataW.trod enc Try.prog w base sp held n 3 ((cs.drop 0).take (Try.prog.cellsOf 3))=xs[0]?:=hf 0 _ rfl
 rw [show Try.prog.cellsOf 3=1 from by kernel_rfl] at c0
 have hlt0:0<xs.length:=by rw [hxl];decide
 obtain ⟨y0,hy0⟩:∃y,xs[0]?=some y:=⟨_,List.getElem?_eq_getElem hlt0⟩
 obtain ⟨v0,k0⟩:=(opn_int Try.underlying3) enc w _ _ _ _ _ _ (c0.trans hy0)
 have c1:DataW.trod enc Try.prog w base sp held n 47 ((cs.drop 1).take (Try.prog.cellsOf 47))=xs[1]?:=hf 1 _ rfl
 rw [show Try.prog.cellsOf 47=1 from by kernel_rfl] at c1
 have hlt1:1<xs.length:=by rw [hxl];decide
 obtain ⟨y1,hy1⟩:∃y,xs[1]?=some y:=⟨_,List.getElem?_eq_getElem hlt1⟩
 obtain ⟨v1,k1⟩:=Zyr enc w _ _ _ _ _ _ (c1.trans hy1)
 have e:cs=(cs.drop 0).take 1++(cs.drop 1).take 1:=by
  match cs,hl with
  | [a0,a1],_=>rfl
 rw [e]
 exact ⟨⟨v0,v1⟩,(Zk1 k0 k1)⟩
theorem Z0s:Opn Try.prog 51 Place.row:=by
 intro H enc w base sp held fuel cs x h
 obtain ⟨xs,n,_,_,hl,hxl,hf⟩:=DataW.trod_struct Try.underlying51 h
 rw [show Try.prog.cellsOf 51=3 from by kernel_rfl] at hl
 have c0:DataW.trod enc Try.prog w base sp held n 49 ((cs.drop 0).take (Try.prog.cellsOf 49))=xs[0]?:=hf 0 _ rfl
 rw [show Try.prog.cellsOf 49=2 from by kernel_rfl] at c0
 have hlt0:0<xs.length:=by rw [hxl];decide
 obtain ⟨y0,hy0⟩:∃y,xs[0]?=some y:=⟨_,List.getElem?_eq_getElem hlt0⟩
 obtain ⟨v0,k0⟩:=Zzr enc w _ _ _ _ _ _ (c0.trans hy0)
 have c1:DataW.trod enc Try.prog w base sp held n 39 ((cs.drop 2).take (Try.prog.cellsOf 39))=xs[1]?:=hf 1 _ rfl
 rw [show Try.prog.cellsOf 39=1 from by kernel_rfl] at c1
 have hlt1:1<xs.length:=by rw [hxl];decide
 obtain ⟨y1,hy1⟩:∃y,xs[1]?=some y:=⟨_,List.getElem?_eq_getElem hlt1⟩
 obtain ⟨v1,k1⟩:=Zwr enc w _ _ _ _ _ _ (c1.trans hy1)
 have e:cs=(cs.drop 0).take 2++(cs.drop 2).take 1:=by
  match cs,hl with
  | [a0,a1,a2],_=>rfl
 rw [e]
 exact ⟨⟨v0,v1⟩,(Zk1 k0 k1)⟩
theorem Z1s:Opn Try.prog 28 (Zg5 3 Place.row):=opn_slice (n:=3) (row:=Place.row) Try.underlying28 (by kernel_rfl) (by decide) (fun _=>⟨rfl,rfl,rfl⟩) Z0s
theorem Z2s:Opn Try.prog 30 Model.row:=by
 intro H enc w base sp held fuel cs x h
 obtain ⟨xs,n,_,_,hl,hxl,hf⟩:=DataW.trod_struct Try.underlying30 h
 rw [show Try.prog.cellsOf 30=1 from by kernel_rfl] at hl
 have c0:DataW.trod enc Try.prog w base sp held n 28 ((cs.drop 0).take (Try.prog.cellsOf 28))=xs[0]?:=hf 0 _ rfl
 rw [show Try.prog.cellsOf 28=1 from by kernel_rfl] at c0
 have hlt0:0<xs.length:=by rw [hxl];decide
 obtain ⟨y0,hy0⟩:∃y,xs[0]?=some y:=⟨_,List.getElem?_eq_getElem hlt0⟩
 obtain ⟨v0,k0⟩:=Z1s enc w _ _ _ _ _ _ (c0.trans hy0)
 have e:cs=(cs.drop 0).take 1:=by
  match cs,hl with
  | [a0],_=>rfl
 rw [e]
 exact ⟨⟨v0⟩,k0⟩
theorem Z3s:laidOutB Try.prog=true:=by kernel_rfl
theorem own_modelGone:ownKnob Try.prog.godebug=none:=by kernel_rfl
theorem Z4s (H:Type) (enc:TypeId×Value→H) (W:World) (base:Nat) (args:Array Value) (ds gs:List (DataW H)) (before:List MemPlace)
  (hval:∀(j:Nat) t v,Try.f4.params[j]?=some t→args[j]?=some v→Value.okWide Try.prog W .any base t v)
  (hW:DataW.Whole enc Try.prog Try.f4.params.toList Rows.modelGoneSpec.vars false W args.toList ds gs before):
  Calls Try.prog 4 args W fun e W'=>∃v,e = .returned v∧Rows.modelGoneSpec.post enc Try.prog Try.f4 false true false false W args v W':=by
 have hW2:=hW
 obtain ⟨p,q,hA0,hV,rfl,hfz,hnd⟩:=hW
 have hA:DataW.TrodAll enc Try.prog W 0 (fun _=>true) true Try.f4.params.toList args.toList ds p:=hA0
 rw [Try.params4] at hA hval
 obtain ⟨v0,vs0,d0,ds0,p0,q0,hargs0,rfl,rfl,h0,r0⟩:=trodAll_cons hA
 obtain ⟨v1,vs1,d1,ds1,p1,q1,hargs1,rfl,rfl,h1,r1⟩:=trodAll_cons r0
 obtain ⟨v2,vs2,d2,ds2,p2,q2,hargs2,rfl,rfl,h2,r2⟩:=trodAll_cons r1
 obtain ⟨hz,rfl,rfl⟩:=trodAll_nil r2
 obtain rfl:args = #[v0,v1,v2]:=by cases args;simp_all
 obtain ⟨x1,k0⟩:=arg_agg Z2s Try.underlying30 (hval 0 30 v0 rfl rfl) h0
 obtain ⟨x2,k1⟩:=arg_int Try.underlying3 (hval 1 3 v1 rfl rfl) h1
 obtain ⟨x3,k2⟩:=arg_int Try.underlying3 (hval 2 3 v2 rfl rfl) h2
 refine (Zir x1 x2 x3 true (Zvr x1 x2 x3) (fun k=>W.heap[k]?) W [v0,v1,v2] (fun _ _ h=>h) (fun _ hs=>absurd hs List.not_mem_nil) ⟨v0,_,rfl,k0,⟨v1,_,rfl,k1,⟨v2,_,rfl,k2,rfl⟩⟩⟩).mono ?_
 rintro e W' ⟨v,H',rfl,hB,_,_,hv⟩
 have hv:v = .bool true:=hv
 subst hv
 exact ⟨_,rfl,law_post Z3s (by kernel_rfl) rfl (rfl:Try.f4.resultTypes = #[4]) Try.underlying4 (fun _=>rfl) hW2 hB⟩
theorem Z5s (os:Os) (started:os.Started) (H:Type) (enc:TypeId×Value→H):
  ReturnsInHanded {} Try.checked os 4 .any (Rows.modelGoneSpec.pre6 enc Try.prog Try.f4 Rows.modelGoneRow.domain false) (Rows.modelGoneSpec.post enc Try.prog Try.f4 false true false false):=by
 refine returnsInHanded_of_change (C:=Try.checked) own_modelGone started (by kernel_rfl) Try.func4
  (ChangeSpec.witness6 (enc:=enc) (C:=Try.checked) false ⟨#[], #[.agg #[.slice none 0 0],.int .i64 0,.int .i64 0],[]⟩ 8 (by kernel_rfl) (by kernel_rfl) (by kernel_rfl) (by kernel_rfl)) ?_
 intro W base args ds gs before hval hW _ _
 exact Z4s H enc W base args ds gs before hval hW
theorem modelGone_holds:Rows.ModelGoneSaid:=
 OpenClaim.holds_of_wide 4 Try.f4 rfl rfl rfl rfl rfl rfl rfl ⟨rfl,rfl,rfl,rfl,rfl⟩ rfl rfl rfl rfl rfl (by kernel_rfl) Try.func4 (by kernel_rfl)
  (of_decide_eq_true (by kernel_rfl)) (by unfold Func.isWrapper;first | (rw [if_pos (by decide +kernel)];kernel_rfl) | (rw [if_neg (by decide +kernel)];exact ⟨rfl,rfl⟩))
  (fun os started H enc _=>Z5s os started H enc)
#print axioms modelGone_holds
end NX
end Go.Proofs.Ythlodgjekbidcaa
