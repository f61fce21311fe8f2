/-
  The law MsgSizes: its row holds under what is laid, for its model answers true at every input, and so its tied card. Written by a program of ours (frame7.py).
-/
import Derived.Test.YtphfnmafamnddaaDoorRows
import Derived.Test.YtphfnmafamnddaaDoorTie
import Derived.Test.YtphfnmafamnddaaDoorCards
import Derived.WalkKit
import Derived.ProofKit
import Derived.OpenShut
import Derived.LaidMore
import Derived.Lay
import Derived.SevenTiedAt
import Derived.Test.YtphfnmafamnddaaDoorA1
import Derived.Test.YtphfnmafamnddaaDoorA2
namespace Go.Proofs.YtphfnmafamnddaaDoor
namespace NX
open Go Go.ChangeShapes Go.WideShapes Go.ChangeAt Go.RowKit
set_option maxRecDepth 100000
set_option maxHeartbeats 4000000
theorem Zw7:laidOutB Tryd.prog=true:=by kernel_rfl
theorem own_msgSizes:ownKnob Tryd.prog.godebug=none:=by kernel_rfl
theorem Zx7 (H:Type) (enc:TypeId×Value→H) (W:World) (base:Nat) (args:Array Value) (ds gs:List (DataW H)) (before:List MemPlace)
  (hval:∀(j:Nat) t v,Tryd.f7.params[j]?=some t→args[j]?=some v→Value.okWide Tryd.prog W .any base t v)
  (hW:DataW.Whole enc Tryd.prog Tryd.f7.params.toList Rows.msgSizesSpec.vars false W args.toList ds gs before) (hL:laidMetH Tryd.prog Rows.msgSizesRow.laid W):
  Calls Tryd.prog 7 args W fun e W'=>∃v,e = .returned v∧Rows.msgSizesSpec.post enc Tryd.prog Tryd.f7 false true false false W args v W':=by
 have hW2:=hW
 obtain ⟨p,q,hA0,hV,rfl,hfz,hnd⟩:=hW
 have hA:DataW.TrodAll enc Tryd.prog W 0 (fun _=>true) true Tryd.f7.params.toList args.toList ds p:=hA0
 rw [Tryd.params7] at hA hval
 obtain ⟨v0,vs0,d0,ds0,p0,q0,hargs0,rfl,rfl,h0,r0⟩:=trodAll_cons hA
 obtain ⟨hz,rfl,rfl⟩:=trodAll_nil r0
 obtain rfl:args = #[v0]:=by cases args;simp_all
 obtain ⟨x1,g1,k0⟩:=arg_msg (hval 0 24 v0 rfl rfl) h0
 refine (k_narthexlaw07_MsgSizes x1 true (p_narthexlaw07_MsgSizes x1) (fun k=>W.heap[k]?) W [v0] (fun _ _ h=>h) (glob_of hL) ⟨v0,_,rfl,k0,rfl⟩).mono ?_
 rintro e W' ⟨v,H',rfl,hB,_,_,hv⟩
 have hv:v = .bool true:=hv
 subst hv
 exact ⟨_,rfl,law_post Zw7 (by kernel_rfl) rfl (rfl:Tryd.f7.resultTypes = #[4]) Tryd.underlying4 (fun _=>rfl) hW2 hB⟩
theorem Zy7 (os:Os) (started:os.Started) (H:Type) (enc:TypeId×Value→H):
  ReturnsInHanded {} Tryd.checked os 7 .any (fun w args=>(Rows.msgSizesSpec.pre enc Tryd.prog Tryd.f7 [] false w args∧laidMetH Tryd.prog Rows.msgSizesRow.laid w)∧sizedMet enc Tryd.prog Tryd.f7 (OpenSpec.ofChange Rows.msgSizesSpec) false w args)
   (Rows.msgSizesSpec.post enc Tryd.prog Tryd.f7 false true false false):=by
 refine returnsInHanded_of_change_and (C:=Tryd.checked) (X:=fun w _=>laidMetH Tryd.prog Rows.msgSizesRow.laid w) (fun _ _ _ hh h=>h.of_heap hh) own_msgSizes started (by kernel_rfl) Tryd.func7
  (ChangeSpec.witness_shaped (enc:=enc) (C:=Tryd.checked) (os:=os) (X:=fun w _=>laidMetH Tryd.prog Rows.msgSizesRow.laid w) false (World.laidAll Tryd.prog os Rows.msgSizesRow.laid) #[.agg #[.int .i64 0,.int .i64 0,.int .i64 0]] 8 (World.laidAll_os _ _ _)
    (World.shaped_of_ZipB (by kernel_rfl) (by kernel_rfl)) (by kernel_rfl) (by kernel_rfl) (by kernel_rfl)
    (by rw [MakeChecks.laidMetH_plain _ _ _ (by kernel_rfl)];exact laidMet_laidAll _ (by kernel_rfl) (by kernel_rfl))) ?_
 intro W base args ds gs before hval hW _ _ hL _
 exact Zx7 H enc W base args ds gs before hval hW hL
theorem Zz7:Rows.MsgSizesSaid:=
 OpenClaim.holds_of_wide 7 Tryd.f7 rfl rfl rfl rfl rfl rfl rfl ⟨rfl,rfl,rfl,rfl,rfl⟩ rfl rfl rfl rfl rfl (by kernel_rfl) Tryd.func7 (by kernel_rfl)
  (of_decide_eq_true (by kernel_rfl)) (by unfold Func.isWrapper;first | (rw [if_pos (by decide +kernel)];kernel_rfl) | (rw [if_neg (by decide +kernel)];exact ⟨rfl,rfl⟩))
  (fun os started H enc _=>Zy7 os started H enc)
theorem msgSizes_holds:Rows.MsgSizesCardSaid:=
 Claim7.holds_tied_plain_at .later [] [.data,.data,.data] true (true,"38b116a90192e51bff839d4e09652aeb7f628dda23f40db5194c3d7edf6caccc") false Zz7 (fun _ h=>by cases h) (by kernel_rfl) (fun _ h=>by cases h) msgSizes_row_tie rfl ⟨rfl,rfl⟩ (by kernel_rfl) rfl
  (fun f fn hf hfn=>by
    obtain rfl:f=7:=Option.some.inj ((show Tryd.prog.funcNamed "narthex/narthexlaw07.MsgSizes" = some 7 by kernel_rfl).symm.trans hf) |>.symm
    obtain rfl:fn=Tryd.f7:=(Option.some.inj (Tryd.func7.symm.trans hfn)).symm
    exact ⟨by kernel_rfl,fun j t ht=>by
     rw [Tryd.params7] at ht
     have hm:t∈ [24]:=by simpa using Array.mem_of_getElem? ht
     have hall:([24].all fun u=>!Tryd.prog.wantsStandIn u)=true:=by kernel_rfl
     exact (show Tryd.prog.wantsStandIn t=false by simpa using List.all_eq_true.1 hall t hm)⟩)
  (by kernel_rfl)
#print axioms msgSizes_holds
end NX
end Go.Proofs.YtphfnmafamnddaaDoor
