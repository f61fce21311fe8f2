/-
  A part of the proof of ScriptJoins: no statement of the seat is proved here.
-/
import Derived.Test.YtncijcfnjepooaaGreatDoorK15
set_option linter.unusedVariables false
set_option linter.unusedSimpArgs false
set_option linter.unnecessarySimpa false
set_option linter.unusedSectionVars false
set_option linter.constructorNameAsVariable false
set_option linter.deprecated false
section
set_option maxRecDepth 100000
set_option maxHeartbeats 0
open Go.X Go.Proofs Go Go.RowKit
namespace T
variable {a b n x : Int} {need : List Int} {wa wb wn wx wd : List UInt8}
def ItT (v : Int) (w : List UInt8) : Prop := ∀ {B : Ban} {lo : Nat} {st : XS}, TC Tryz.prog B lo 38 [iv v] st (str w) st
theorem of_ln {k a b n x : Int} {need : List Int} : ∀ v ∈ [iv k, iv a, iv b, iv n, iv x, sl intR need], of1 v = true := by intro v hv; simp at hv; rcases hv with rfl | rfl | rfl | rfl | rfl | rfl <;> rfl
theorem k28a {k : Int} (hk : k = 0) (ha : ItT a wa) (hn : ItT n wn) (hd : ∀ {B : Ban} {lo : Nat} {st : XS}, TC Tryz.prog B lo 39 [sl intR need] st (str wd) st) (hj : (joinC 32 [(word k).1, wa, wn, wd]).length ≤ 100000) : ZC Tryz.prog 28 [lnV ⟨k, a, b, n, x, need⟩] (hp 100 []) (str (joinC 32 [(word k).1, wa, wn, wd] ++ [10])) (hp 100 []) := by
  have hp := k35a k a b n x (sl intR need) rfl (by omega)
  rcases hk with rfl
  all_goals
    generalize hJ : joinC 32 [(word _).1, wa, wn, wd] = J at *
    refine ZC.cw (fn := Tryz.f28) (x := cod Tryz.f28) (by kernel_rfl) (by kernel_rfl) (by kernel_rfl) (by kernel_rfl) ?_; conv => arg 4; whnf
    refine Zz (k := ?_)
    refine WC.c (ZC.pure (k34 _) ⟨RV.of rfl, trivial⟩ (RV.tup ⟨RV.of rfl, RV.of rfl, trivial⟩)) ?_
    refine Zz (k := ?_)
    refine WC.c (ZC.use hp [100] [none] [some (.cells [ptr 100 1, ptr 100 3] 2 88 false)] (by kernel_rfl) ⟨⟨_, by with_unfolding_all rfl, RObj.same of_ln⟩, trivial⟩ ⟨⟨_, _, rfl, by with_unfolding_all rfl, RObj.same of_ln⟩, ⟨_, rfl, RObj.cells ⟨RV.ptr (.inr (Bk_mem.2 (.inl (by decide)))), RV.ptr (.inr (Bk_mem.2 (.inl (by decide)))), trivial⟩ (by intro v hv; simp at hv; rcases hv with rfl | rfl <;> rfl)⟩, trivial⟩ ⟨RV.ptr (.inr (by decide)), trivial⟩ (RV.slc (.inr (Bk_mem.2 (.inr ⟨0, Nat.le_of_ble_eq_true (by kernel_rfl), rfl, by with_unfolding_all rfl⟩))))) ?_
    refine Zz (k := ?_)
    refine CW.rnd 3 ?_
    refine Zz (k := ?_)
    refine WC.c ha ?_
    refine Zz (k := ?_)
    refine WC.c hn ?_
    refine Zz (k := ?_)
    refine WC.c hd ?_
    refine Zz (k := ?_)
    refine WC.c (hJ ▸ c50o 32 [(word _).1, wa, wn, wd] (by with_unfolding_all rfl) (by simp) (by simp) (by rw [hJ]; omega)) ?_
    refine Zz (k := ?_)
    refine WQ.sad (l := J) (l2 := [10]) rfl rfl rfl (by simp; omega) ?_
    refine Zz (k := ?_)
    refine Fn.mk (by first | exact .inl rfl | exact .inr rfl) rfl rfl ?_; exact ⟨[], [], by kernel_rfl, trivial, trivial, RV.of rfl⟩
theorem k28b {k : Int} (hk : k = 1 ∨ k = 2) (ha : ItT a wa) (hn : ItT n wn) (hj : (joinC 32 [(word k).1, wa, wn]).length ≤ 100000) : ZC Tryz.prog 28 [lnV ⟨k, a, b, n, x, need⟩] (hp 100 []) (str (joinC 32 [(word k).1, wa, wn] ++ [10])) (hp 100 []) := by
  have hp := k35a k a b n x (sl intR need) rfl (by omega)
  rcases hk with rfl | rfl
  all_goals
    generalize hJ : joinC 32 [(word _).1, wa, wn] = J at *
    refine ZC.cw (fn := Tryz.f28) (x := cod Tryz.f28) (by kernel_rfl) (by kernel_rfl) (by kernel_rfl) (by kernel_rfl) ?_; conv => arg 4; whnf
    refine Zz (k := ?_)
    refine WC.c (ZC.pure (k34 _) ⟨RV.of rfl, trivial⟩ (RV.tup ⟨RV.of rfl, RV.of rfl, trivial⟩)) ?_
    refine Zz (k := ?_)
    refine WC.c (ZC.use hp [100] [none] [some (.cells [ptr 100 1, ptr 100 3] 2 88 false)] (by kernel_rfl) ⟨⟨_, by with_unfolding_all rfl, RObj.same of_ln⟩, trivial⟩ ⟨⟨_, _, rfl, by with_unfolding_all rfl, RObj.same of_ln⟩, ⟨_, rfl, RObj.cells ⟨RV.ptr (.inr (Bk_mem.2 (.inl (by decide)))), RV.ptr (.inr (Bk_mem.2 (.inl (by decide)))), trivial⟩ (by intro v hv; simp at hv; rcases hv with rfl | rfl <;> rfl)⟩, trivial⟩ ⟨RV.ptr (.inr (by decide)), trivial⟩ (RV.slc (.inr (Bk_mem.2 (.inr ⟨0, Nat.le_of_ble_eq_true (by kernel_rfl), rfl, by with_unfolding_all rfl⟩))))) ?_
    refine Zz (k := ?_)
    refine CW.rnd 3 ?_
    refine Zz (k := ?_)
    refine WC.c ha ?_
    refine Zz (k := ?_)
    refine WC.c hn ?_
    refine Zz (k := ?_)
    refine WC.c (hJ ▸ c50o 32 [(word _).1, wa, wn] (by with_unfolding_all rfl) (by simp) (by simp) (by rw [hJ]; omega)) ?_
    refine Zz (k := ?_)
    refine WQ.sad (l := J) (l2 := [10]) rfl rfl rfl (by simp; omega) ?_
    refine Zz (k := ?_)
    refine Fn.mk (by first | exact .inl rfl | exact .inr rfl) rfl rfl ?_; exact ⟨[], [], by kernel_rfl, trivial, trivial, RV.of rfl⟩
theorem k28c {k : Int} (hk : k = 3 ∨ k = 4) (ha : ItT a wa) (hb : ItT b wb) (hj : (joinC 32 [(word k).1, wa, wb]).length ≤ 100000) : ZC Tryz.prog 28 [lnV ⟨k, a, b, n, x, need⟩] (hp 100 []) (str (joinC 32 [(word k).1, wa, wb] ++ [10])) (hp 100 []) := by
  have hp := k35b k a b n x (sl intR need) rfl (by omega)
  rcases hk with rfl | rfl
  all_goals
    generalize hJ : joinC 32 [(word _).1, wa, wb] = J at *
    refine ZC.cw (fn := Tryz.f28) (x := cod Tryz.f28) (by kernel_rfl) (by kernel_rfl) (by kernel_rfl) (by kernel_rfl) ?_; conv => arg 4; whnf
    refine Zz (k := ?_)
    refine WC.c (ZC.pure (k34 _) ⟨RV.of rfl, trivial⟩ (RV.tup ⟨RV.of rfl, RV.of rfl, trivial⟩)) ?_
    refine Zz (k := ?_)
    refine WC.c (ZC.use hp [100] [none] [some (.cells [ptr 100 1, ptr 100 2, ptr 100 3, ptr 100 4] 4 88 false)] (by kernel_rfl) ⟨⟨_, by with_unfolding_all rfl, RObj.same of_ln⟩, trivial⟩ ⟨⟨_, _, rfl, by with_unfolding_all rfl, RObj.same of_ln⟩, ⟨_, rfl, RObj.cells ⟨RV.ptr (.inr (Bk_mem.2 (.inl (by decide)))), RV.ptr (.inr (Bk_mem.2 (.inl (by decide)))), RV.ptr (.inr (Bk_mem.2 (.inl (by decide)))), RV.ptr (.inr (Bk_mem.2 (.inl (by decide)))), trivial⟩ (by intro v hv; simp at hv; rcases hv with rfl | rfl | rfl | rfl <;> rfl)⟩, trivial⟩ ⟨RV.ptr (.inr (by decide)), trivial⟩ (RV.slc (.inr (Bk_mem.2 (.inr ⟨0, Nat.le_of_ble_eq_true (by kernel_rfl), rfl, by with_unfolding_all rfl⟩))))) ?_
    refine Zz (k := ?_)
    refine CW.rnd 3 ?_
    refine Zz (k := ?_)
    refine WC.c ha ?_
    refine Zz (k := ?_)
    refine WC.c hb ?_
    refine Zz (k := ?_)
    refine WC.c (hJ ▸ c50o 32 [(word _).1, wa, wb] (by with_unfolding_all rfl) (by simp) (by simp) (by rw [hJ]; omega)) ?_
    refine Zz (k := ?_)
    refine WQ.sad (l := J) (l2 := [10]) rfl rfl rfl (by simp; omega) ?_
    refine Zz (k := ?_)
    refine Fn.mk (by first | exact .inl rfl | exact .inr rfl) rfl rfl ?_; exact ⟨[], [], by kernel_rfl, trivial, trivial, RV.of rfl⟩
theorem k28d {k : Int} (hk : k = 5 ∨ k = 6) (ha : ItT a wa) (hj : (joinC 32 [(word k).1, wa]).length ≤ 100000) : ZC Tryz.prog 28 [lnV ⟨k, a, b, n, x, need⟩] (hp 100 []) (str (joinC 32 [(word k).1, wa] ++ [10])) (hp 100 []) := by
  have hp := k35b k a b n x (sl intR need) rfl (by omega)
  rcases hk with rfl | rfl
  all_goals
    generalize hJ : joinC 32 [(word _).1, wa] = J at *
    refine ZC.cw (fn := Tryz.f28) (x := cod Tryz.f28) (by kernel_rfl) (by kernel_rfl) (by kernel_rfl) (by kernel_rfl) ?_; conv => arg 4; whnf
    refine Zz (k := ?_)
    refine WC.c (ZC.pure (k34 _) ⟨RV.of rfl, trivial⟩ (RV.tup ⟨RV.of rfl, RV.of rfl, trivial⟩)) ?_
    refine Zz (k := ?_)
    refine WC.c (ZC.use hp [100] [none] [some (.cells [ptr 100 1, ptr 100 2, ptr 100 3, ptr 100 4] 4 88 false)] (by kernel_rfl) ⟨⟨_, by with_unfolding_all rfl, RObj.same of_ln⟩, trivial⟩ ⟨⟨_, _, rfl, by with_unfolding_all rfl, RObj.same of_ln⟩, ⟨_, rfl, RObj.cells ⟨RV.ptr (.inr (Bk_mem.2 (.inl (by decide)))), RV.ptr (.inr (Bk_mem.2 (.inl (by decide)))), RV.ptr (.inr (Bk_mem.2 (.inl (by decide)))), RV.ptr (.inr (Bk_mem.2 (.inl (by decide)))), trivial⟩ (by intro v hv; simp at hv; rcases hv with rfl | rfl | rfl | rfl <;> rfl)⟩, trivial⟩ ⟨RV.ptr (.inr (by decide)), trivial⟩ (RV.slc (.inr (Bk_mem.2 (.inr ⟨0, Nat.le_of_ble_eq_true (by kernel_rfl), rfl, by with_unfolding_all rfl⟩))))) ?_
    refine Zz (k := ?_)
    refine CW.rnd 2 ?_
    refine Zz (k := ?_)
    refine WC.c ha ?_
    refine Zz (k := ?_)
    refine WC.c (hJ ▸ c50o 32 [(word _).1, wa] (by with_unfolding_all rfl) (by simp) (by simp) (by rw [hJ]; omega)) ?_
    refine Zz (k := ?_)
    refine WQ.sad (l := J) (l2 := [10]) rfl rfl rfl (by simp; omega) ?_
    refine Zz (k := ?_)
    refine Fn.mk (by first | exact .inl rfl | exact .inr rfl) rfl rfl ?_; exact ⟨[], [], by kernel_rfl, trivial, trivial, RV.of rfl⟩
theorem k28e {k : Int} (hk : k = 7 ∨ k = 8 ∨ k = 9) (ha : ItT a wa) (hb : ItT b wb) (hn : ItT n wn) (hj : (joinC 32 [(word k).1, wa, wb, wn]).length ≤ 100000) : ZC Tryz.prog 28 [lnV ⟨k, a, b, n, x, need⟩] (hp 100 []) (str (joinC 32 [(word k).1, wa, wb, wn] ++ [10])) (hp 100 []) := by
  have hp := k35b k a b n x (sl intR need) rfl (by omega)
  rcases hk with rfl | rfl | rfl
  all_goals
    generalize hJ : joinC 32 [(word _).1, wa, wb, wn] = J at *
    refine ZC.cw (fn := Tryz.f28) (x := cod Tryz.f28) (by kernel_rfl) (by kernel_rfl) (by kernel_rfl) (by kernel_rfl) ?_; conv => arg 4; whnf
    refine Zz (k := ?_)
    refine WC.c (ZC.pure (k34 _) ⟨RV.of rfl, trivial⟩ (RV.tup ⟨RV.of rfl, RV.of rfl, trivial⟩)) ?_
    refine Zz (k := ?_)
    refine WC.c (ZC.use hp [100] [none] [some (.cells [ptr 100 1, ptr 100 2, ptr 100 3, ptr 100 4] 4 88 false)] (by kernel_rfl) ⟨⟨_, by with_unfolding_all rfl, RObj.same of_ln⟩, trivial⟩ ⟨⟨_, _, rfl, by with_unfolding_all rfl, RObj.same of_ln⟩, ⟨_, rfl, RObj.cells ⟨RV.ptr (.inr (Bk_mem.2 (.inl (by decide)))), RV.ptr (.inr (Bk_mem.2 (.inl (by decide)))), RV.ptr (.inr (Bk_mem.2 (.inl (by decide)))), RV.ptr (.inr (Bk_mem.2 (.inl (by decide)))), trivial⟩ (by intro v hv; simp at hv; rcases hv with rfl | rfl | rfl | rfl <;> rfl)⟩, trivial⟩ ⟨RV.ptr (.inr (by decide)), trivial⟩ (RV.slc (.inr (Bk_mem.2 (.inr ⟨0, Nat.le_of_ble_eq_true (by kernel_rfl), rfl, by with_unfolding_all rfl⟩))))) ?_
    refine Zz (k := ?_)
    refine CW.rnd 4 ?_
    refine Zz (k := ?_)
    refine WC.c ha ?_
    refine Zz (k := ?_)
    refine WC.c hb ?_
    refine Zz (k := ?_)
    refine WC.c hn ?_
    refine Zz (k := ?_)
    refine WC.c (hJ ▸ c50o 32 [(word _).1, wa, wb, wn] (by with_unfolding_all rfl) (by simp) (by simp) (by rw [hJ]; omega)) ?_
    refine Zz (k := ?_)
    refine WQ.sad (l := J) (l2 := [10]) rfl rfl rfl (by simp; omega) ?_
    refine Zz (k := ?_)
    refine Fn.mk (by first | exact .inl rfl | exact .inr rfl) rfl rfl ?_; exact ⟨[], [], by kernel_rfl, trivial, trivial, RV.of rfl⟩
theorem k28f {k : Int} (hk : k = 10) (ha : ItT a wa) (hb : ItT b wb) (hn : ItT n wn) (hx : ItT x wx) (hj : (joinC 32 [(word k).1, wa, wb, wn, wx]).length ≤ 100000) : ZC Tryz.prog 28 [lnV ⟨k, a, b, n, x, need⟩] (hp 100 []) (str (joinC 32 [(word k).1, wa, wb, wn, wx] ++ [10])) (hp 100 []) := by
  have hp := k35b k a b n x (sl intR need) rfl (by omega)
  rcases hk with rfl
  all_goals
    generalize hJ : joinC 32 [(word _).1, wa, wb, wn, wx] = J at *
    refine ZC.cw (fn := Tryz.f28) (x := cod Tryz.f28) (by kernel_rfl) (by kernel_rfl) (by kernel_rfl) (by kernel_rfl) ?_; conv => arg 4; whnf
    refine Zz (k := ?_)
    refine WC.c (ZC.pure (k34 _) ⟨RV.of rfl, trivial⟩ (RV.tup ⟨RV.of rfl, RV.of rfl, trivial⟩)) ?_
    refine Zz (k := ?_)
    refine WC.c (ZC.use hp [100] [none] [some (.cells [ptr 100 1, ptr 100 2, ptr 100 3, ptr 100 4] 4 88 false)] (by kernel_rfl) ⟨⟨_, by with_unfolding_all rfl, RObj.same of_ln⟩, trivial⟩ ⟨⟨_, _, rfl, by with_unfolding_all rfl, RObj.same of_ln⟩, ⟨_, rfl, RObj.cells ⟨RV.ptr (.inr (Bk_mem.2 (.inl (by decide)))), RV.ptr (.inr (Bk_mem.2 (.inl (by decide)))), RV.ptr (.inr (Bk_mem.2 (.inl (by decide)))), RV.ptr (.inr (Bk_mem.2 (.inl (by decide)))), trivial⟩ (by intro v hv; simp at hv; rcases hv with rfl | rfl | rfl | rfl <;> rfl)⟩, trivial⟩ ⟨RV.ptr (.inr (by decide)), trivial⟩ (RV.slc (.inr (Bk_mem.2 (.inr ⟨0, Nat.le_of_ble_eq_true (by kernel_rfl), rfl, by with_unfolding_all rfl⟩))))) ?_
    refine Zz (k := ?_)
    refine CW.rnd 5 ?_
    refine Zz (k := ?_)
    refine WC.c ha ?_
    refine Zz (k := ?_)
    refine WC.c hb ?_
    refine Zz (k := ?_)
    refine WC.c hn ?_
    refine Zz (k := ?_)
    refine WC.c hx ?_
    refine Zz (k := ?_)
    refine WC.c (hJ ▸ c50o 32 [(word _).1, wa, wb, wn, wx] (by with_unfolding_all rfl) (by simp) (by simp) (by rw [hJ]; omega)) ?_
    refine Zz (k := ?_)
    refine WQ.sad (l := J) (l2 := [10]) rfl rfl rfl (by simp; omega) ?_
    refine Zz (k := ?_)
    refine Fn.mk (by first | exact .inl rfl | exact .inr rfl) rfl rfl ?_; exact ⟨[], [], by kernel_rfl, trivial, trivial, RV.of rfl⟩
end T
end
