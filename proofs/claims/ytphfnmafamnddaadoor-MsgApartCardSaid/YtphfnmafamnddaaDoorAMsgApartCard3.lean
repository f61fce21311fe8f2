/-
  The law MsgApart: its row holds under what is laid, for its model answers true at every input, and so its tied card. Written by a program of ours (frame7.py).
-/
import Derived.Test.YtphfnmafamnddaaDoorRows
import Derived.Test.YtphfnmafamnddaaDoorTie
import Derived.Test.YtphfnmafamnddaaDoorCards
import Derived.WalkKit
import Derived.ProofKit
import Derived.OpenShut
import Derived.LaidMore
import Derived.Lay
import Derived.SevenTiedAt
import Derived.Test.YtphfnmafamnddaaDoorA1
import Derived.Test.YtphfnmafamnddaaDoorA2
namespace Go.Proofs.YtphfnmafamnddaaDoor
namespace NX
open Go Go.ChangeShapes Go.WideShapes Go.ChangeAt Go.RowKit
set_option maxRecDepth 100000
set_option maxHeartbeats 4000000
theorem Zw7:laidOutB Tryd.prog=true:=by kernel_rfl
theorem own_msgApart:ownKnob Tryd.prog.godebug=none:=by kernel_rfl
theorem Zx7 (H:Type) (enc:TypeId×Value→H) (W:World) (base:Nat) (args:Array Value) (ds gs:List (DataW H)) (before:List MemPlace)
  (hval:∀(j:Nat) t v,Tryd.f6.params[j]?=some t→args[j]?=some v→Value.okWide Tryd.prog W .any base t v)
  (hW:DataW.Whole enc Tryd.prog Tryd.f6.params.toList Rows.msgApartSpec.vars false W args.toList ds gs before) (hL:laidMetH Tryd.prog Rows.msgApartRow.laid W):
  Calls Tryd.prog 6 args W fun e W'=>∃v,e = .returned v∧Rows.msgApartSpec.post enc Tryd.prog Tryd.f6 false true false false W args v W':=by
 have hW2:=hW
 obtain ⟨p,q,hA0,hV,rfl,hfz,hnd⟩:=hW
 have hA:DataW.TrodAll enc Tryd.prog W 0 (fun _=>true) true Tryd.f6.params.toList args.toList ds p:=hA0
 rw [Tryd.params6] at hA hval
 obtain ⟨v0,vs0,d0,ds0,p0,q0,hargs0,rfl,rfl,h0,r0⟩:=trodAll_cons hA
 obtain ⟨v1,vs1,d1,ds1,p1,q1,hargs1,rfl,rfl,h1,r1⟩:=trodAll_cons r0
 obtain ⟨hz,rfl,rfl⟩:=trodAll_nil r1
 obtain rfl:args = #[v0,v1]:=by cases args;simp_all
 obtain ⟨x1,g1,k0⟩:=arg_msg (hval 0 24 v0 rfl rfl) h0
 obtain ⟨x2,g2,k1⟩:=arg_msg (hval 1 24 v1 rfl rfl) h1
 refine (k_narthexlaw07_MsgApart x1 x2 true (p_narthexlaw07_MsgApart x1 x2) (fun k=>W.heap[k]?) W [v0,v1] (fun _ _ h=>h) (glob_of hL) ⟨v0,_,rfl,k0,⟨v1,_,rfl,k1,rfl⟩⟩).mono ?_
 rintro e W' ⟨v,H',rfl,hB,_,_,hv⟩
 have hv:v = .bool true:=hv
 subst hv
 exact ⟨_,rfl,law_post Zw7 (by kernel_rfl) rfl (rfl:Tryd.f6.resultTypes = #[4]) Tryd.underlying4 (fun _=>rfl) hW2 hB⟩
theorem Zy7 (os:Os) (started:os.Started) (H:Type) (enc:TypeId×Value→H):
  ReturnsInHanded {} Tryd.checked os 6 .any (fun w args=>(Rows.msgApartSpec.pre enc Tryd.prog Tryd.f6 [] false w args∧laidMetH Tryd.prog Rows.msgApartRow.laid w)∧sizedMet enc Tryd.prog Tryd.f6 (OpenSpec.ofChange Rows.msgApartSpec) false w args)
   (Rows.msgApartSpec.post enc Tryd.prog Tryd.f6 false true false false):=by
 refine returnsInHanded_of_change_and (C:=Tryd.checked) (X:=fun w _=>laidMetH Tryd.prog Rows.msgApartRow.laid w) (fun _ _ _ hh h=>h.of_heap hh) own_msgApart started (by kernel_rfl) Tryd.func6
  (ChangeSpec.witness_shaped (enc:=enc) (C:=Tryd.checked) (os:=os) (X:=fun w _=>laidMetH Tryd.prog Rows.msgApartRow.laid w) false (World.laidAll Tryd.prog os Rows.msgApartRow.laid) #[.agg #[.int .i64 0,.int .i64 0,.int .i64 0],.agg #[.int .i64 0,.int .i64 0,.int .i64 0]] 8 (World.laidAll_os _ _ _)
    (World.shaped_of_ZipB (by kernel_rfl) (by kernel_rfl)) (by kernel_rfl) (by kernel_rfl) (by kernel_rfl)
    (by rw [MakeChecks.laidMetH_plain _ _ _ (by kernel_rfl)];exact laidMet_laidAll _ (by kernel_rfl) (by kernel_rfl))) ?_
 intro W base args ds gs before hval hW _ _ hL _
 exact Zx7 H enc W base args ds gs before hval hW hL
theorem Zz7:Rows.MsgApartSaid:=
 OpenClaim.holds_of_wide 6 Tryd.f6 rfl rfl rfl rfl rfl rfl rfl ⟨rfl,rfl,rfl,rfl,rfl⟩ rfl rfl rfl rfl rfl (by kernel_rfl) Tryd.func6 (by kernel_rfl)
  (of_decide_eq_true (by kernel_rfl)) (by unfold Func.isWrapper;first | (rw [if_pos (by decide +kernel)];kernel_rfl) | (rw [if_neg (by decide +kernel)];exact ⟨rfl,rfl⟩))
  (fun os started H enc _=>Zy7 os started H enc)
theorem msgApart_holds:Rows.MsgApartCardSaid:=
 Claim7.holds_tied_plain_at .later [] [.data,.data,.data] true (true,"38b116a90192e51bff839d4e09652aeb7f628dda23f40db5194c3d7edf6caccc") false Zz7 (fun _ h=>by cases h) (by kernel_rfl) (fun _ h=>by cases h) msgApart_row_tie rfl ⟨rfl,rfl⟩ (by kernel_rfl) rfl
  (fun f fn hf hfn=>by
    obtain rfl:f=6:=Option.some.inj ((show Tryd.prog.funcNamed "narthex/narthexlaw07.MsgApart" = some 6 by kernel_rfl).symm.trans hf) |>.symm
    obtain rfl:fn=Tryd.f6:=(Option.some.inj (Tryd.func6.symm.trans hfn)).symm
    exact ⟨by kernel_rfl,fun j t ht=>by
     rw [Tryd.params6] at ht
     have hm:t∈ [24,24]:=by simpa using Array.mem_of_getElem? ht
     have hall:([24,24].all fun u=>!Tryd.prog.wantsStandIn u)=true:=by kernel_rfl
     exact (show Tryd.prog.wantsStandIn t=false by simpa using List.all_eq_true.1 hall t hm)⟩)
  (by kernel_rfl)
#print axioms msgApart_holds
end NX
end Go.Proofs.YtphfnmafamnddaaDoor
