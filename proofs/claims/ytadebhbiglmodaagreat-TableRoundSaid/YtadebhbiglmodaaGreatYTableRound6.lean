/-
  The law TableRound: its row holds, for its model answers true at every input. Written by a program of ours (frame.py).
-/
import Derived.Test.YtadebhbiglmodaaGreatRows
import Derived.WalkKit
import Derived.ProofKit
import Derived.OpenShut
import Derived.Test.YtadebhbiglmodaaGreatYTableRound5
import Derived.Test.YtadebhbiglmodaaGreatY4
namespace Go.Proofs.YtadebhbiglmodaaGreat
namespace NX
open Go Go.ChangeShapes Go.WideShapes Go.ChangeAt Go.RowKit
set_option maxRecDepth 100000
set_option maxHeartbeats 4000000
theorem Zyj:Opn Tryz.prog 29 Edge.row:=by
 intro H enc w base sp held fuel cs x h
 obtain ⟨xs,n,_,_,hl,hxl,hf⟩:=DataW.trod_struct Tryz.underlying29 h
 rw [show Tryz.prog.cellsOf 29=2 from by kernel_rfl] at hl
 have c0:DataW.trod enc Tryz.prog w base sp held n 3 ((cs.drop 0).take (Tryz.prog.cellsOf 3))=xs[0]?:=hf 0 _ rfl
 rw [show Tryz.prog.cellsOf 3=1 from by kernel_rfl] at c0
 have hlt0:0<xs.length:=by rw [hxl];decide
 obtain ⟨y0,hy0⟩:∃y,xs[0]?=some y:=⟨_,List.getElem?_eq_getElem hlt0⟩
 obtain ⟨v0,k0⟩:=(Zvj Tryz.underlying3) enc w _ _ _ _ _ _ (c0.trans hy0)
 have c1:DataW.trod enc Tryz.prog w base sp held n 3 ((cs.drop 1).take (Tryz.prog.cellsOf 3))=xs[1]?:=hf 1 _ rfl
 rw [show Tryz.prog.cellsOf 3=1 from by kernel_rfl] at c1
 have hlt1:1<xs.length:=by rw [hxl];decide
 obtain ⟨y1,hy1⟩:∃y,xs[1]?=some y:=⟨_,List.getElem?_eq_getElem hlt1⟩
 obtain ⟨v1,k1⟩:=(Zvj Tryz.underlying3) enc w _ _ _ _ _ _ (c1.trans hy1)
 have e:cs=(cs.drop 0).take 1++(cs.drop 1).take 1:=by
  match cs,hl with
  | [a0,a1],_=>rfl
 rw [e]
 exact ⟨⟨v0,v1⟩,(Zh1 k0 k1)⟩
theorem Zzj:Opn Tryz.prog 46 (Zz4 2 Edge.row):=opn_slice (n:=2) (row:=Edge.row) Tryz.underlying46 (by kernel_rfl) (by decide) (fun _=>⟨rfl,rfl,rfl⟩) Zyj
theorem Z0k:Opn Tryz.prog 48 Graph.row:=by
 intro H enc w base sp held fuel cs x h
 obtain ⟨xs,n,_,_,hl,hxl,hf⟩:=DataW.trod_struct Tryz.underlying48 h
 rw [show Tryz.prog.cellsOf 48=2 from by kernel_rfl] at hl
 have c0:DataW.trod enc Tryz.prog w base sp held n 3 ((cs.drop 0).take (Tryz.prog.cellsOf 3))=xs[0]?:=hf 0 _ rfl
 rw [show Tryz.prog.cellsOf 3=1 from by kernel_rfl] at c0
 have hlt0:0<xs.length:=by rw [hxl];decide
 obtain ⟨y0,hy0⟩:∃y,xs[0]?=some y:=⟨_,List.getElem?_eq_getElem hlt0⟩
 obtain ⟨v0,k0⟩:=(Zvj Tryz.underlying3) enc w _ _ _ _ _ _ (c0.trans hy0)
 have c1:DataW.trod enc Tryz.prog w base sp held n 46 ((cs.drop 1).take (Tryz.prog.cellsOf 46))=xs[1]?:=hf 1 _ rfl
 rw [show Tryz.prog.cellsOf 46=1 from by kernel_rfl] at c1
 have hlt1:1<xs.length:=by rw [hxl];decide
 obtain ⟨y1,hy1⟩:∃y,xs[1]?=some y:=⟨_,List.getElem?_eq_getElem hlt1⟩
 obtain ⟨v1,k1⟩:=Zzj enc w _ _ _ _ _ _ (c1.trans hy1)
 have e:cs=(cs.drop 0).take 1++(cs.drop 1).take 1:=by
  match cs,hl with
  | [a0,a1],_=>rfl
 rw [e]
 exact ⟨⟨v0,v1⟩,(Zh1 k0 k1)⟩
theorem Z1k:Opn Tryz.prog 27 narthexlaw14_Act.row:=by
 intro H enc w base sp held fuel cs x h
 obtain ⟨xs,n,_,_,hl,hxl,hf⟩:=DataW.trod_struct Tryz.underlying27 h
 rw [show Tryz.prog.cellsOf 27=3 from by kernel_rfl] at hl
 have c0:DataW.trod enc Tryz.prog w base sp held n 3 ((cs.drop 0).take (Tryz.prog.cellsOf 3))=xs[0]?:=hf 0 _ rfl
 rw [show Tryz.prog.cellsOf 3=1 from by kernel_rfl] at c0
 have hlt0:0<xs.length:=by rw [hxl];decide
 obtain ⟨y0,hy0⟩:∃y,xs[0]?=some y:=⟨_,List.getElem?_eq_getElem hlt0⟩
 obtain ⟨v0,k0⟩:=(Zvj Tryz.underlying3) enc w _ _ _ _ _ _ (c0.trans hy0)
 have c1:DataW.trod enc Tryz.prog w base sp held n 3 ((cs.drop 1).take (Tryz.prog.cellsOf 3))=xs[1]?:=hf 1 _ rfl
 rw [show Tryz.prog.cellsOf 3=1 from by kernel_rfl] at c1
 have hlt1:1<xs.length:=by rw [hxl];decide
 obtain ⟨y1,hy1⟩:∃y,xs[1]?=some y:=⟨_,List.getElem?_eq_getElem hlt1⟩
 obtain ⟨v1,k1⟩:=(Zvj Tryz.underlying3) enc w _ _ _ _ _ _ (c1.trans hy1)
 have c2:DataW.trod enc Tryz.prog w base sp held n 3 ((cs.drop 2).take (Tryz.prog.cellsOf 3))=xs[2]?:=hf 2 _ rfl
 rw [show Tryz.prog.cellsOf 3=1 from by kernel_rfl] at c2
 have hlt2:2<xs.length:=by rw [hxl];decide
 obtain ⟨y2,hy2⟩:∃y,xs[2]?=some y:=⟨_,List.getElem?_eq_getElem hlt2⟩
 obtain ⟨v2,k2⟩:=(Zvj Tryz.underlying3) enc w _ _ _ _ _ _ (c2.trans hy2)
 have e:cs=(cs.drop 0).take 1++(cs.drop 1).take 1++(cs.drop 2).take 1:=by
  match cs,hl with
  | [a0,a1,a2],_=>rfl
 rw [e]
 exact ⟨⟨v0,v1,v2⟩,(Zh1 (Zh1 k0 k1) k2)⟩
theorem Z2k:Opn Tryz.prog 53 (Zz4 3 narthexlaw14_Act.row):=opn_slice (n:=3) (row:=narthexlaw14_Act.row) Tryz.underlying53 (by kernel_rfl) (by decide) (fun _=>⟨rfl,rfl,rfl⟩) Z1k
theorem Z3k:laidOutB Tryz.prog=true:=by kernel_rfl
theorem Z4k:ownKnob Tryz.prog.godebug=none:=by kernel_rfl
theorem Z5k (H:Type) (enc:TypeId×Value→H) (W:World) (base:Nat) (args:Array Value) (ds gs:List (DataW H)) (before:List MemPlace)
  (hval:∀(j:Nat) t v,Tryz.f5.params[j]?=some t→args[j]?=some v→Value.okWide Tryz.prog W .any base t v)
  (hW:DataW.Whole enc Tryz.prog Tryz.f5.params.toList Rows.tableRoundSpec.vars false W args.toList ds gs before):
  Calls Tryz.prog 5 args W fun e W'=>∃v,e = .returned v∧Rows.tableRoundSpec.post enc Tryz.prog Tryz.f5 false true false false W args v W':=by
 have hW2:=hW
 obtain ⟨p,q,hA0,hV,rfl,hfz,hnd⟩:=hW
 have hA:DataW.TrodAll enc Tryz.prog W 0 (fun _=>true) true Tryz.f5.params.toList args.toList ds p:=hA0
 rw [Tryz.params5] at hA hval
 obtain ⟨v0,vs0,d0,ds0,p0,q0,hargs0,rfl,rfl,h0,r0⟩:=trodAll_cons hA
 obtain ⟨v1,vs1,d1,ds1,p1,q1,hargs1,rfl,rfl,h1,r1⟩:=trodAll_cons r0
 obtain ⟨hz,rfl,rfl⟩:=trodAll_nil r1
 obtain rfl:args = #[v0,v1]:=by cases args;simp_all
 obtain ⟨x1,k0⟩:=arg_agg Z0k Tryz.underlying48 (hval 0 48 v0 rfl rfl) h0
 obtain ⟨x2,k1⟩:=arg_slice Z2k Tryz.underlying53 (hval 1 53 v1 rfl rfl) h1
 refine (Zrj x1 x2 true (Zuj x1 x2) (fun k=>W.heap[k]?) W [v0,v1] (fun _ _ h=>h) ⟨v0,_,rfl,k0,⟨v1,_,rfl,k1,rfl⟩⟩).mono ?_
 rintro e W' ⟨v,H',rfl,hB,_,_,hv⟩
 have hv:v = .bool true:=hv
 subst hv
 exact ⟨_,rfl,law_post Z3k (by kernel_rfl) rfl (rfl:Tryz.f5.resultTypes = #[4]) Tryz.underlying4 (fun _=>rfl) hW2 hB⟩
theorem Z6k (os:Os) (started:os.Started) (H:Type) (enc:TypeId×Value→H):
  ReturnsInHanded {} Tryz.checked os 5 .any (Rows.tableRoundSpec.pre6 enc Tryz.prog Tryz.f5 Rows.tableRoundRow.domain false) (Rows.tableRoundSpec.post enc Tryz.prog Tryz.f5 false true false false):=by
 refine returnsInHanded_of_change (C:=Tryz.checked) Z4k started (by kernel_rfl) Tryz.func5
  (ChangeSpec.witness6 (enc:=enc) (C:=Tryz.checked) false ⟨#[], #[.agg #[.int .i64 0,.slice none 0 0],.slice none 0 0],[]⟩ 8 (by kernel_rfl) (by kernel_rfl) (by kernel_rfl) (by kernel_rfl)) ?_
 intro W base args ds gs before hval hW _ _
 exact Z5k H enc W base args ds gs before hval hW
theorem tableRound_holds:Rows.TableRoundSaid:=
 OpenClaim.holds_of_wide 5 Tryz.f5 rfl rfl rfl rfl rfl rfl rfl ⟨rfl,rfl,rfl,rfl,rfl⟩ rfl rfl rfl rfl rfl (by kernel_rfl) Tryz.func5 (by kernel_rfl)
  (of_decide_eq_true (by kernel_rfl)) (by unfold Func.isWrapper;first | (rw [if_pos (by decide +kernel)];kernel_rfl) | (rw [if_neg (by decide +kernel)];exact ⟨rfl,rfl⟩))
  (fun os started H enc _=>Z6k os started H enc)
#print axioms tableRound_holds
end NX
end Go.Proofs.YtadebhbiglmodaaGreat
