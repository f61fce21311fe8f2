/-
  A part of the proof of ScriptJoins: no statement of the seat is proved here.
-/
import Derived.Test.YtncijcfnjepooaaGreatDoorK17
import Derived.Test.YtncijcfnjepooaaGreatDoorK18
set_option linter.unusedVariables false
set_option linter.unusedSimpArgs false
set_option linter.unnecessarySimpa false
set_option linter.unusedSectionVars false
set_option linter.constructorNameAsVariable false
set_option linter.deprecated false
section
set_option maxRecDepth 100000
set_option maxHeartbeats 0
open Go.X Go.Proofs Go Go.RowKit
namespace T
theorem k25e : ZC Tryz.prog 25 [sl lnR exL, F26] (hp 100 []) (.bool false) (hp 100 []) := ZC.ofRunV (n := 100000) (by kernel_rfl) (by kernel_rfl) (by kernel_rfl) rfl (by kernel_rfl) (by kernel_rfl)
theorem exB : (exL.map lineB).flatten = exS := by kernel_rfl
theorem fit_ex : ∀ l ∈ exL, (0 ≤ l.k ∧ l.k ≤ 10) ∧ l.fit := by
  have f : ∀ n : Int, -10 ≤ n → n ≤ 10 → fitI n := fun n h k => ⟨by omega, by omega⟩
  intro l hl
  simp only [exL, List.mem_cons, List.not_mem_nil, or_false] at hl
  rcases hl with rfl | rfl | rfl
  · exact ⟨by decide, f _ (by decide) (by decide), f _ (by decide) (by decide), f _ (by decide) (by decide), f _ (by decide) (by decide), by decide, fun n hn => by simp at hn; subst hn; exact f _ (by decide) (by decide)⟩
  · exact ⟨by decide, f _ (by decide) (by decide), f _ (by decide) (by decide), f _ (by decide) (by decide), f _ (by decide) (by decide), by decide, fun n hn => by simp at hn⟩
  · exact ⟨by decide, f _ (by decide) (by decide), f _ (by decide) (by decide), f _ (by decide) (by decide), f _ (by decide) (by decide), by decide, fun n hn => by simp at hn⟩
theorem k11e : ZC Tryz.prog 11 [sl lnR exL] (hp 100 []) (.tuple ⟨[str exS, iv 0]⟩) (hp 100 []) := by
  refine k11r exL _ (by decide) (ZC.pure k25e ⟨RV.of rfl, RV.of rfl, trivial⟩ (RV.of rfl)) (fun l hl => k28 l (fit_ex l hl).1 (fit_ex l hl).2) (fun l hl => (lineB_len l (fit_ex l hl).2).1) ?_
  rw [exB, if_neg (by decide)]
/-- "opened 0 3 1\n", "granted 0 3\n" -/
def evA : List UInt8 := [111, 112, 101, 110, 101, 100, 32, 48, 32, 51, 32, 49, 10]
def evB : List UInt8 := [103, 114, 97, 110, 116, 101, 100, 32, 48, 32, 51, 10]
theorem lines3_eq : lines3 = sl lnR exL := by rfl
/-- script.Story, at the chapter's example. -/
theorem k13 : ZC Tryz.prog 13 [gr2, cf1, str exS] (hp 100 []) (.tuple ⟨[str (evA ++ evB), iv 0, iv 0]⟩) (hp 100 []) := by
  refine ZC.cw (fn := Tryz.f13) (x := cod Tryz.f13) (by kernel_rfl) (by kernel_rfl) (by kernel_rfl) (by kernel_rfl) ?_; conv => arg 4; whnf
  refine Zz (k := ?_)
  refine WC.c (ZC.pure k6ex ⟨RV.of rfl, trivial⟩ (RV.tup (c1 := [sl lnR exL, iv 0, iv 0]) ⟨RV.of rfl, RV.of rfl, RV.of rfl, trivial⟩)) ?_
  refine Zz (k := ?_)
  refine WC.c (ZC.pure k12 ⟨RV.agg (c1 := [iv 2, sv0 [iv 0, iv 1] 1]) ⟨RV.of rfl, RV.of rfl, trivial⟩ (by intro v hv; simp at hv; rcases hv with rfl | rfl <;> rfl), RV.agg (c1 := [iv 1, iv 9, iv 1, iv 9, iv 9]) ⟨RV.of rfl, RV.of rfl, RV.of rfl, RV.of rfl, RV.of rfl, trivial⟩ (by intro v hv; simp at hv; rcases hv with rfl | rfl | rfl | rfl <;> rfl), RV.ofe lines3_eq (RV.of rfl), trivial⟩ (RV.tup (c1 := [slv 0 evs 0 2, slv 0 [iv 0, iv 0, iv 211] 0 3, iv 0]) ⟨RV.of rfl, RV.of rfl, RV.of rfl, trivial⟩)) ?_
  refine Zz (k := ?_)
  refine CW.rnd 3 ?_
  refine Zz (k := ?_)
  refine WC.c (ZC.pure k15a ⟨RV.agg (c1 := [iv 0, iv 0, iv 3, iv 0, sl intR [1]]) ⟨RV.of rfl, RV.of rfl, RV.of rfl, RV.of rfl, RV.of rfl, trivial⟩ (by intro v hv; simp at hv; rcases hv with rfl | rfl | rfl | rfl <;> rfl), trivial⟩ (RV.of rfl)) ?_
  refine Zz (k := ?_)
  refine WC.c (ZC.use (k27a evA (by decide) (by decide)) [102] [some (some (.cells [ptr 102 0, .slice (some ⟨104, 0, none⟩) evA.length evA.length] 2 70 false))] [some (.cells (fl u8R evA) evA.length 5 true)] (by kernel_rfl) ⟨⟨_, by with_unfolding_all rfl, RObj.same ac_fresh⟩, trivial⟩ ⟨⟨_, rfl, rb_u⟩, ⟨_, rfl, RObj.same (fl_of _)⟩, trivial⟩ ⟨RV.ptr (.inr (by decide)), RV.of rfl, trivial⟩ (RV.tup (c1 := [iv evA.length, .nilIface]) ⟨RV.of rfl, RV.of rfl, trivial⟩)) ?_
  refine Zz (k := ?_)
  refine WC.c (ZC.pure k15b ⟨RV.agg (c1 := [iv 1, iv 0, iv 3, iv 0, .slice none 0 0]) ⟨RV.of rfl, RV.of rfl, RV.of rfl, RV.of rfl, RV.of rfl, trivial⟩ (by intro v hv; simp at hv; rcases hv with rfl | rfl | rfl | rfl | rfl <;> rfl), trivial⟩ (RV.of rfl)) ?_
  refine Zz (k := ?_)
  refine WC.c (ZC.use (k27b evA evB (by decide) (by decide)) [102, 104] [some (some (.cells [ptr 102 0, .slice (some ⟨106, 0, none⟩) (evA ++ evB).length (evA ++ evB).length] 2 70 false)), some none] [some (.cells (fl u8R (evA ++ evB)) (evA ++ evB).length 5 true)] (by kernel_rfl) ⟨⟨_, by with_unfolding_all rfl, rb_u⟩, ⟨_, by with_unfolding_all rfl, RObj.same (fl_of _)⟩, trivial⟩ ⟨⟨_, rfl, rb_u⟩, trivial, ⟨_, rfl, RObj.same (fl_of _)⟩, trivial⟩ ⟨RV.ptr (.inr (by decide)), RV.of rfl, trivial⟩ (RV.tup (c1 := [iv evB.length, .nilIface]) ⟨RV.of rfl, RV.of rfl, trivial⟩)) ?_
  refine Zz (k := ?_)
  refine WC.c (ZC.use (k30 111 ([112, 101, 110, 101, 100, 32, 48, 32, 51, 32, 49, 10] ++ evB) (by decide)) [102, 106] [some none, some none] [] (by kernel_rfl) ⟨⟨_, by with_unfolding_all rfl, rb_u⟩, ⟨_, by with_unfolding_all rfl, RObj.same (fl_of _)⟩, trivial⟩ ⟨trivial, trivial, trivial⟩ ⟨RV.ptr (.inr (by decide)), trivial⟩ (RV.of rfl)) ?_
  refine Zz (k := ?_)
  refine Fn.mk (by first | exact .inl rfl | exact .inr rfl) rfl rfl ?_; exact ⟨[], [], by kernel_rfl, trivial, trivial, RV.tup ⟨RV.of rfl, RV.of rfl, RV.of rfl, trivial⟩⟩
end T
end
section
set_option maxRecDepth 100000
set_option maxHeartbeats 0
open Go.X Go.Proofs Go Go.RowKit
namespace T
theorem k6exJ : ZC Tryz.prog 6 [str (exS ++ exJ)] (hp 100 []) (.tuple ⟨[sl lnR [], iv 4, iv 222]⟩) (hp 100 []) := by
  have := k6R (exS ++ exJ)
  rw [parse_exJ] at this
  exact this
theorem k9ee : ZC Tryz.prog 9 [sl lnR exL, sl lnR exL] (hp 100 []) (.bool true) (hp 100 []) := by
  have := k9 exL exL (by decide) (by decide) (fun l hl => by have := (fit_ex l hl).2.len; omega) (fun l hl => by have := (fit_ex l hl).2.len; omega)
  rwa [show sameL exL exL = true from by kernel_rfl] at this
theorem k9en : ZC Tryz.prog 9 [sl lnR exL, sl lnR []] (hp 100 []) (.bool false) (hp 100 []) := by
  have := k9 exL [] (by decide) (by decide) (fun l hl => by have := (fit_ex l hl).2.len; omega) (fun l hl => by simp at hl)
  rwa [show sameL exL [] = false from by kernel_rfl] at this
theorem lnE {l : Ln} : ∀ v ∈ [iv l.k, iv l.a, iv l.b, iv l.n, iv l.x, sl intR l.need], one v = true := by
  intro v hv; simp at hv; rcases hv with rfl | rfl | rfl | rfl | rfl | rfl <;> rfl
/-- narthexlaw22.awake. -/
theorem k5 : ZC Tryz.prog 5 [] (hp 100 []) (.bool true) (hp 100 []) := by
  refine ZC.cw (fn := Tryz.f5) (x := cod Tryz.f5) (by kernel_rfl) (by kernel_rfl) (by kernel_rfl) (by kernel_rfl) ?_; conv => arg 4; whnf
  refine Zz (k := ?_)
  refine WC.c (ZC.pure k6ex ⟨RV.of rfl, trivial⟩ (RV.tup (c1 := [sl lnR exL, iv 0, iv 0]) ⟨RV.of rfl, RV.of rfl, RV.of rfl, trivial⟩)) ?_
  refine Zz (k := ?_)
  refine WC.c (ZC.pure k11e ⟨RV.of rfl, trivial⟩ (RV.tup (c1 := [str exS, iv 0]) ⟨RV.of rfl, RV.of rfl, trivial⟩)) ?_
  refine Zo (k := ?_)
  refine CW.seq ?_
  refine CW.ops ?_
  refine Zo (k := ?_)
  refine CW.seq ?_
  refine CW.ops ?_
  refine Zo (k := ?_)
  refine CW.shape (g := 100) (L := [(1, str exS), (2, sl lnR exL), (3, iv 0), (4, iv 0), (5, str exS), (6, iv 0), (7, ptr 100 0), (8, ptr 101 0)]) (l1 := [some (.cells [iv 2, sv0 [iv 0, iv 1] 1] 2 37 false), some (.cells [iv 1, iv 9, iv 1, iv 9, iv 9] 5 39 false)]) [101, 102] [(100, [iv 0, iv 1])] (gl _) (by kernel_rfl) rfl rfl ?_ ⟨⟨⟨_, _, _, by with_unfolding_all rfl⟩, (by intro v hv; simp at hv; rcases hv with rfl | rfl <;> rfl), rfl, .inl (by decide)⟩, trivial⟩ ⟨RV.of rfl, RV.of rfl, RV.of rfl, RV.of rfl, RV.of rfl, RV.of rfl, RV.pn rfl, RV.pn rfl, trivial⟩ ?_
  · refine AllO.som rfl (by with_unfolding_all rfl) ?_ (AllO.som rfl (by with_unfolding_all rfl) (RObj.same (by intro v hv; simp at hv; rcases hv with rfl | rfl | rfl | rfl <;> rfl)) AllO.nil)
    exact RObj.cells ⟨RV.of rfl, RV.rsl (List.mem_singleton.2 rfl) (Nat.le_refl _), trivial⟩ (by intro v hv; simp at hv; rcases hv with rfl | rfl <;> rfl)
  refine Zz (k := ?_)
  refine WC.c (ZC.pure k12 ⟨RV.agg (c1 := [iv 2, sv0 [iv 0, iv 1] 1]) ⟨RV.of rfl, RV.of rfl, trivial⟩ (by intro v hv; simp at hv; rcases hv with rfl | rfl <;> rfl), RV.agg (c1 := [iv 1, iv 9, iv 1, iv 9, iv 9]) ⟨RV.of rfl, RV.of rfl, RV.of rfl, RV.of rfl, RV.of rfl, trivial⟩ (by intro v hv; simp at hv; rcases hv with rfl | rfl | rfl | rfl <;> rfl), RV.ofe lines3_eq (RV.of rfl), trivial⟩ (RV.tup (c1 := [slv 0 evs 0 2, slv 0 [iv 0, iv 0, iv 211] 0 3, iv 0]) ⟨RV.of rfl, RV.of rfl, RV.of rfl, trivial⟩)) ?_
  refine Zz (k := ?_)
  refine WC.c (ZC.pure k13 ⟨RV.agg (c1 := [iv 2, sv0 [iv 0, iv 1] 1]) ⟨RV.of rfl, RV.of rfl, trivial⟩ (by intro v hv; simp at hv; rcases hv with rfl | rfl <;> rfl), RV.agg (c1 := [iv 1, iv 9, iv 1, iv 9, iv 9]) ⟨RV.of rfl, RV.of rfl, RV.of rfl, RV.of rfl, RV.of rfl, trivial⟩ (by intro v hv; simp at hv; rcases hv with rfl | rfl | rfl | rfl <;> rfl), RV.of rfl, trivial⟩ (RV.tup (c1 := [str (evA ++ evB), iv 0, iv 0]) ⟨RV.of rfl, RV.of rfl, RV.of rfl, trivial⟩)) ?_
  refine Zz (k := ?_)
  refine WC.c (ZC.pure k6exJ ⟨RV.of rfl, trivial⟩ (RV.tup (c1 := [sl lnR [], iv 4, iv 222]) ⟨RV.of rfl, RV.of rfl, RV.of rfl, trivial⟩)) ?_
  refine Zz (k := ?_)
  refine WC.c (ZC.pure k14a ⟨RV.agg (c1 := [iv 0, iv 0, iv 0, iv 3, iv 0, sl intR [1]]) ⟨RV.of rfl, RV.of rfl, RV.of rfl, RV.of rfl, RV.of rfl, RV.of rfl, trivial⟩ (by intro v hv; simp at hv; rcases hv with rfl | rfl | rfl | rfl | rfl | rfl <;> rfl), trivial⟩ (RV.of rfl)) ?_
  refine Zz (k := ?_)
  refine WC.c (ZC.pure k14b ⟨RV.agg (c1 := [iv 99, iv 0, iv 0, iv 0, iv 0, .slice none 0 0]) ⟨RV.of rfl, RV.of rfl, RV.of rfl, RV.of rfl, RV.of rfl, RV.of rfl, trivial⟩ (by intro v hv; simp at hv; rcases hv with rfl | rfl | rfl | rfl | rfl | rfl <;> rfl), trivial⟩ (RV.of rfl)) ?_
  refine Zz (k := ?_)
  refine WC.c (ZC.pure k9ee ⟨RV.of rfl, RV.of rfl, trivial⟩ (RV.of rfl)) ?_
  refine Zz (k := ?_)
  refine WC.c (ZC.pure k9en ⟨RV.of rfl, RV.nils, trivial⟩ (RV.of rfl)) ?_
  refine Zz (k := ?_)
  refine WC.c (ZC.pure k15a ⟨RV.agg (c1 := [iv 0, iv 0, iv 3, iv 0, sl intR [1]]) ⟨RV.of rfl, RV.of rfl, RV.of rfl, RV.of rfl, RV.of rfl, trivial⟩ (by intro v hv; simp at hv; rcases hv with rfl | rfl | rfl | rfl | rfl <;> rfl), trivial⟩ (RV.of rfl)) ?_
  refine Zz (k := ?_)
  refine Fn.mk (by first | exact .inl rfl | exact .inr rfl) rfl rfl ?_; exact ⟨[], [], by kernel_rfl, trivial, trivial, RV.eqv (by with_unfolding_all rfl) rfl⟩
end T
end
section
set_option maxRecDepth 100000
set_option maxHeartbeats 0
open Go.X Go.Proofs Go Go.RowKit
namespace T
/-- Lines of one's own. -/
noncomputable def obL (b : List Ln) : Option Ob := some (.cells (fl lnR b) (b.length * 6) 50 true)
theorem k22o (a b : List Ln) (ha : a.length ≤ 1000000) (hb : b.length ≤ 1000000) (na : ∀ x ∈ a, x.need.length ≤ 1000000) (nb : ∀ x ∈ b, x.need.length ≤ 1000000) : ZC Tryz.prog 22 [sl lnR a, .slice (some ⟨100, 0, none⟩) b.length b.length, F23] (hp 100 [obL b]) (.bool (sameL a b)) (hp 100 [obL b]) := by
  generalize hR : sameL a b = R
  have hno : ∀ {P : Prop}, sameL a b ≠ true → false = R := fun h => by rw [← hR]; simpa using Eq.symm (by simpa using h)
  by_cases hl : a.length = b.length
  · refine ZC.cw (fn := Tryz.f22) (x := cod Tryz.f22) (by kernel_rfl) (by kernel_rfl) (by kernel_rfl) (by kernel_rfl) ?_; conv => arg 4; whnf
    refine Zz (k := ?_)
    refine CW.cb ((a.length : Int) != (b.length : Int)) rfl (fun q q' => ?_) (fun q q' => ?_)
    · simp [hl] at q
    refine Zz (k := ?_)
    refine CW.inv (σ := Nat) (g := 100) (L := fun z => [(0, sl lnR a), (1, .slice (some ⟨100, 0, none⟩) b.length b.length), (2, F23), (15, sl lnR a), (16, iv a.length), (17, iv z)]) (l := fun _ => [obL b]) (fun z => z ≤ a.length ∧ ∀ i (h1 : i < a.length) (h2 : i < b.length), i < z → sameB a[i] b[i] = true) (fun z => a.length - z) 0 ⟨by omega, by intros; omega⟩ [] [] (gl _) (by kernel_rfl) rfl rfl (AllO.som rfl (by with_unfolding_all rfl) (RObj.same (fl_of b)) AllO.nil) trivial ⟨RV.of rfl, RV.sn rfl, RV.of rfl, RV.of rfl, RV.of rfl, RV.of rfl, trivial⟩ ?_
    rintro z ⟨h1, h2⟩
    by_cases hz : z < a.length
    · have e1 := at_of hz
      have e2 := at_of (l := b) (i := z) (by omega)
      have m1 := na a[z] (by simp)
      have m2 := nb (b[z]'(by omega)) (by simp)
      by_cases he : sameB a[z] (b[z]'(by omega)) = true
      · have h5 : ∀ i (h1 : i < a.length) (h2 : i < b.length), i < z + 1 → sameB a[i] b[i] = true := by
          intro i g1 g2 g3
          by_cases g : i = z
          · subst g; exact he
          · exact h2 i g1 g2 (by omega)
        generalize a[z] = x1 at e1 he m1
        generalize b[z]'(by omega) = x2 at e2 he m2
        have kk : ZC Tryz.prog 23 [lnV x1, lnV x2] (hp 100 []) (.bool true) (hp 100 []) := he ▸ k23 x1 x2 m1 m2
        refine Zz (k := ?_)
        refine CW.cb (decide ((z : Int) < (a.length : Int))) rfl (fun g g' => ?_) (fun g g' => ?_)
        · refine Zz (k := ?_)
          refine WI.at e1 rfl rfl ?_
          refine Zz (k := ?_)
          refine WI.at e2 rfl rfl ?_
          refine Zz (k := ?_)
          refine WP.agM rfl rfl rfl e2 rfl ?_
          refine Zz (k := ?_)
          refine WC.c (ZC.pure kk ⟨lnRV x1, lnRV x2, trivial⟩ (RV.of rfl)) ?_
          refine Zz (k := ?_)
          refine ⟨z + 1, ⟨⟨by omega, h5⟩, by omega⟩, To.mk [] [] (AllO.som rfl (by with_unfolding_all rfl) (RObj.same (fl_of b)) AllO.nil) ⟨RV.of rfl, RV.sn rfl, RV.of rfl, RV.of rfl, RV.of rfl, RV.iw (by simp) (by omega), trivial⟩ trivial (by kernel_rfl) rfl rfl⟩
        · simp at g; omega
      · have hR : false = R := hno (P := True) fun e => by
          obtain ⟨_, k⟩ := (sameL_iff a b).1 e
          exact he (k z hz (by omega))
        have he : sameB a[z] (b[z]'(by omega)) = false := by simpa using he
        generalize a[z] = x1 at e1 he m1
        generalize b[z]'(by omega) = x2 at e2 he m2
        have kk : ZC Tryz.prog 23 [lnV x1, lnV x2] (hp 100 []) (.bool false) (hp 100 []) := he ▸ k23 x1 x2 m1 m2
        refine Zz (k := ?_)
        refine CW.cb (decide ((z : Int) < (a.length : Int))) rfl (fun g g' => ?_) (fun g g' => ?_)
        · refine Zz (k := ?_)
          refine WI.at e1 rfl rfl ?_
          refine Zz (k := ?_)
          refine WI.at e2 rfl rfl ?_
          refine Zz (k := ?_)
          refine WP.agM rfl rfl rfl e2 rfl ?_
          refine Zz (k := ?_)
          refine WC.c (ZC.pure kk ⟨lnRV x1, lnRV x2, trivial⟩ (RV.of rfl)) ?_
          refine Zz (k := ?_)
          refine Fn.mk (by first | exact .inl rfl | exact .inr rfl) rfl rfl ?_; exact ⟨[], [], by kernel_rfl, (AllO.som rfl (by with_unfolding_all rfl) (RObj.same (fl_of b)) AllO.nil), trivial, RV.ofe (v2 := (.bool false)) (by rw [hR]) (RV.of rfl)⟩
        · simp at g; omega
    · have hR : true = R := by
        rw [← hR]; symm; rw [sameL_iff]
        exact ⟨hl, fun i g1 g2 => h2 i g1 g2 (by omega)⟩
      refine Zz (k := ?_)
      refine CW.cb (decide ((z : Int) < (a.length : Int))) rfl (fun g g' => ?_) (fun g g' => ?_)
      · simp at g; omega
      · refine Zz (k := ?_)
        refine Fn.mk (by first | exact .inl rfl | exact .inr rfl) rfl rfl ?_; exact ⟨[], [], by kernel_rfl, (AllO.som rfl (by with_unfolding_all rfl) (RObj.same (fl_of b)) AllO.nil), trivial, RV.ofe (v2 := (.bool true)) (by rw [hR]) (RV.of rfl)⟩
  · have hR : false = R := hno (P := True) fun e => hl ((sameL_iff a b).1 e).1
    refine ZC.cw (fn := Tryz.f22) (x := cod Tryz.f22) (by kernel_rfl) (by kernel_rfl) (by kernel_rfl) (by kernel_rfl) ?_; conv => arg 4; whnf
    refine Zz (k := ?_)
    refine CW.cb ((a.length : Int) != (b.length : Int)) rfl (fun q q' => ?_) (fun q q' => ?_)
    · refine Zz (k := ?_)
      refine Fn.mk (by first | exact .inl rfl | exact .inr rfl) rfl rfl ?_; exact ⟨[], [], by kernel_rfl, (AllO.som rfl (by with_unfolding_all rfl) (RObj.same (fl_of b)) AllO.nil), trivial, RV.ofe (v2 := (.bool false)) (by rw [hR]) (RV.of rfl)⟩
    · simp at q; omega
theorem k9o (a b : List Ln) (ha : a.length ≤ 1000000) (hb : b.length ≤ 1000000) (na : ∀ x ∈ a, x.need.length ≤ 1000000) (nb : ∀ x ∈ b, x.need.length ≤ 1000000) : ZC Tryz.prog 9 [sl lnR a, .slice (some ⟨100, 0, none⟩) b.length b.length] (hp 100 [obL b]) (.bool (sameL a b)) (hp 100 [obL b]) := by
  refine ZC.cw (fn := Tryz.f9) (x := cod Tryz.f9) (by kernel_rfl) (by kernel_rfl) (by kernel_rfl) (by kernel_rfl) ?_; conv => arg 4; whnf
  refine Zz (k := ?_)
  refine WC.c (ZC.use (k22o a b ha hb na nb) [100] [none] [] (by kernel_rfl) ⟨⟨_, by with_unfolding_all rfl, RObj.same (fl_of b)⟩, trivial⟩ ⟨⟨_, _, rfl, by with_unfolding_all rfl, RObj.same (fl_of b)⟩, trivial⟩ ⟨RV.of rfl, RV.slc (.inr (by decide)), RV.of rfl, trivial⟩ (RV.of rfl)) ?_
  refine Zz (k := ?_)
  refine Fn.mk (by first | exact .inl rfl | exact .inr rfl) rfl rfl ?_; exact ⟨[], [], by kernel_rfl, (AllO.som rfl (by with_unfolding_all rfl) (RObj.same (fl_of b)) AllO.nil), trivial, RV.of rfl⟩
end T
end
section
set_option maxRecDepth 100000
set_option maxHeartbeats 0
open Go.X Go.Proofs Go Go.RowKit
namespace T
theorem RVL.app {m : Nat} {rn : List (Nat × Nat)} {sl : List (Nat × List Value)} : ∀ {a1 a b1 b : List Value}, RVL m rn sl a1 a → RVL m rn sl b1 b → RVL m rn sl (a1 ++ b1) (a ++ b)
  | [], [], _, _, _, h => h
  | x :: a1, y :: a, _, _, h, k => ⟨h.1, RVL.app h.2 k⟩
/-- What Own answers. -/
noncomputable def ownO : List Ln → Option Ob
  | [] => some (.cells [] 0 50 false)
  | x :: l => obL (x :: l)
theorem one_fl (l : List Ln) : ∀ v ∈ fl lnR l, one v = true := fun v hv => of1_one (fl_of l v hv)
theorem own_rv {m n : Nat} {rn : List (Nat × Nat)} {d : Int} {xd : List Int} : RV m rn [(n, fl intR (d :: xd))] (sl intR (d :: xd)) (.slice (some ⟨n, 0, none⟩) (0 + (d :: xd).length) (0 + (d :: xd).length)) := by
  rw [Nat.zero_add]
  exact RV.rsl (List.mem_singleton.2 rfl) (Nat.le_refl _)
theorem own_step {m : Nat} {rn : List (Nat × Nat)} {sl : List (Nat × List Value)} {z : List Ln} {x : Ln} {q : Nat} {v : Value} (hv : RV m rn sl (X.sl intR x.need) v) (hq : (z ++ [x]).length * 6 = q) : RObj m rn sl (.cells (fl lnR (z ++ [x])) ((z ++ [x]).length * 6) 50 true) (.cells (fl lnR z ++ [iv x.k, iv x.a, iv x.b, iv x.n, iv x.x, v]) q 50 true) := by
  subst hq
  have e : fl lnR (z ++ [x]) = fl lnR z ++ lnR x := by simp [fl]
  rw [e]
  refine RObj.cells (RVL.app (RVL.of (fl_of z)) ⟨RV.of rfl, RV.of rfl, RV.of rfl, RV.of rfl, RV.of rfl, hv, trivial⟩) fun u hu => ?_
  rcases List.mem_append.1 hu with hu | hu
  · exact one_fl z u hu
  · exact of1_one (RowW.o (row := lnR) x u hu)
theorem k10 (a : List Ln) (hl : a.length ≤ 1000000) (hn : ∀ x ∈ a, x.need.length ≤ 1000000) : ZC Tryz.prog 10 [sl lnR a] (hp 100 []) (.slice (some ⟨100, 0, none⟩) a.length a.length) (hp 100 [ownO a]) := by
  refine ZC.cw (fn := Tryz.f10) (x := cod Tryz.f10) (by kernel_rfl) (by kernel_rfl) (by kernel_rfl) (by kernel_rfl) ?_; conv => arg 4; whnf
  refine Zz (k := ?_)
  refine CW.inv (σ := List Ln) (g := 100) (L := fun z => [(0, sl lnR a), (3, .slice (some ⟨100, 0, none⟩) z.length z.length), (4, iv z.length)]) (l := fun z => [ownO z]) (fun z => ∃ r, a = z ++ r) (fun z => a.length - z.length) [] ⟨a, rfl⟩ [100] [] (gl _) (by kernel_rfl) rfl rfl ?_ trivial ⟨RV.of rfl, RV.sn rfl, RV.of rfl, trivial⟩ ?_
  · exact AllO.som rfl (by with_unfolding_all rfl) (RObj.same (by simp)) AllO.nil
  rintro z ⟨r, rfl⟩
  rcases r with _ | ⟨x, r⟩
  · refine Zz (k := ?_)
    refine CW.cb (decide ((z.length : Int) < ((z ++ []).length : Int))) rfl (fun g g' => ?_) (fun g g' => ?_)
    · simp at g
    refine Zz (k := ?_)
    refine Fn.mk (by first | exact .inl rfl | exact .inr rfl) rfl rfl ?_
    refine ⟨[100], [], by kernel_rfl, ?_, trivial, RV.ofe (v2 := .slice (some ⟨100, 0, none⟩) z.length z.length) (by rw [List.append_nil]) (RV.sn rfl)⟩
    rcases z with _ | ⟨y, z⟩
    · exact AllO.som rfl (by with_unfolding_all rfl) (RObj.same (by simp)) AllO.nil
    · exact AllO.ofe (o1 := .cells (fl lnR (y :: z)) ((y :: z).length * 6) 50 true) (by rw [List.append_nil]; rfl) rfl (by with_unfolding_all rfl) (RObj.same (fl_of _)) AllO.nil
  · have e : at_ (z ++ x :: r) (z.length : Int) = some x := by unfold at_; rw [if_pos (by omega)]; simp
    have hx := hn x (by simp)
    simp only [List.length_append, List.length_cons] at hl
    obtain ⟨xk, xa, xb, xn, xx, xd⟩ := x
    dsimp only at hx
    rcases z with _ | ⟨y, z⟩
    · rcases xd with _ | ⟨d, xd⟩
      · refine Zz (k := ?_)
        refine CW.cb (decide (([].length : Int) < (([] ++ Ln.mk xk xa xb xn xx [] :: r : List Ln).length : Int))) rfl (fun g g' => ?_) (fun g g' => ?_)
        rotate_left
        · simp at g
        refine Zz (k := ?_)
        refine ⟨[] ++ [Ln.mk xk xa xb xn xx []], ⟨⟨r, by simp⟩, by simp <;> omega⟩, To.mk [104] [(102, [])] ?_ ⟨RV.of rfl, RV.snE rfl (by simp), RV.iw (by simp) (by simp only [List.length_cons, List.length_nil, List.length_append] at hl ⊢; omega), trivial⟩ ⟨⟨⟨_, _, _, by with_unfolding_all rfl⟩, by simp, rfl, .inl (by decide)⟩, trivial⟩ (by kernel_rfl) rfl rfl⟩
        refine AllO.ofe (o1 := .cells (fl lnR ([] ++ [Ln.mk xk xa xb xn xx []])) (([] ++ [Ln.mk xk xa xb xn xx []]).length * 6) 50 true) rfl rfl (by with_unfolding_all rfl) ?_ AllO.nil
        exact own_step (z := []) (x := Ln.mk xk xa xb xn xx []) (RV.ofe (v2 := sl intR []) rfl (RV.rsl (List.mem_singleton.2 rfl) (Nat.le_refl _))) (by with_unfolding_all rfl)
      · refine Zz (k := ?_)
        refine CW.cb (decide (([].length : Int) < (([] ++ Ln.mk xk xa xb xn xx (d :: xd) :: r : List Ln).length : Int))) rfl (fun g g' => ?_) (fun g g' => ?_)
        rotate_left
        · simp at g
        refine Zz (k := ?_)
        refine WQ.apf (k := 1) (n := 0) (m := (d :: xd).length) (cs := []) (l := fl intR (d :: xd)) rfl rfl rfl rfl rfl rfl rfl rfl (by with_unfolding_all exact src_sl (d :: xd) (by simp)) (by with_unfolding_all rfl) (by with_unfolding_all rfl) rfl (fun _ h => nomatch h) rfl rfl (by simp) (by simp at hx ⊢; omega) (by show _ * 8 ≤ _; simp at hx ⊢; omega) ?_
        refine Zz (k := ?_)
        refine ⟨[] ++ [Ln.mk xk xa xb xn xx (d :: xd)], ⟨⟨r, by simp⟩, by simp <;> omega⟩, To.mk [105] [(103, fl intR (d :: xd))] ?_ ⟨RV.of rfl, RV.snE rfl (by simp), RV.iw (by simp) (by simp only [List.length_cons, List.length_nil, List.length_append] at hl ⊢; omega), trivial⟩ ⟨⟨⟨_, _, _, by with_unfolding_all rfl⟩, fl_of _, rfl, .inl (by decide)⟩, trivial⟩ (by kernel_rfl) rfl rfl⟩
        refine AllO.ofe (o1 := .cells (fl lnR ([] ++ [Ln.mk xk xa xb xn xx (d :: xd)])) (([] ++ [Ln.mk xk xa xb xn xx (d :: xd)]).length * 6) 50 true) rfl rfl (by with_unfolding_all rfl) ?_ AllO.nil
        exact own_step (z := []) (x := Ln.mk xk xa xb xn xx (d :: xd)) (RV.ofe (v2 := sl intR (d :: xd)) rfl own_rv) (by with_unfolding_all rfl)
    · rcases xd with _ | ⟨d, xd⟩
      · refine Zz (k := ?_)
        refine CW.cb (decide (((y :: z).length : Int) < (((y :: z) ++ Ln.mk xk xa xb xn xx [] :: r : List Ln).length : Int))) rfl (fun g g' => ?_) (fun g g' => ?_)
        rotate_left
        · simp at g; omega
        refine Zz (k := ?_)
        refine WI.at e rfl rfl ?_
        refine Zz (k := ?_)
        refine WQ.apo (k := 6) (n := z.length + 1) (m := 1) (cs := fl lnR (y :: z)) (l := [iv xk, iv xa, iv xb, iv xn, iv xx, .slice (some ⟨102, 0, none⟩) 0 0]) rfl rfl rfl rfl rfl rfl rfl rfl (by with_unfolding_all rfl) (by with_unfolding_all rfl) (by with_unfolding_all rfl) rfl (fun _ h => nomatch h) (fl_len _) rfl (by omega) (by simp at hl; omega) (by show _ * 64 ≤ _; simp at hl; omega) ?_
        refine Zz (k := ?_)
        refine ⟨(y :: z) ++ [Ln.mk xk xa xb xn xx []], ⟨⟨r, by simp⟩, by simp <;> omega⟩, To.mk [104] [(102, [])] ?_ ⟨RV.of rfl, RV.snE rfl (by simp), RV.iw (by simp) (by simp only [List.length_cons, List.length_nil, List.length_append] at hl ⊢; omega), trivial⟩ ⟨⟨⟨_, _, _, by with_unfolding_all rfl⟩, by simp, rfl, .inl (by decide)⟩, trivial⟩ (by kernel_rfl) rfl rfl⟩
        refine AllO.ofe (o1 := .cells (fl lnR ((y :: z) ++ [Ln.mk xk xa xb xn xx []])) (((y :: z) ++ [Ln.mk xk xa xb xn xx []]).length * 6) 50 true) rfl rfl (by with_unfolding_all rfl) ?_ AllO.nil
        exact own_step (z := (y :: z)) (x := Ln.mk xk xa xb xn xx []) (RV.ofe (v2 := sl intR []) rfl (RV.rsl (List.mem_singleton.2 rfl) (Nat.le_refl _))) (by simp)
      · refine Zz (k := ?_)
        refine CW.cb (decide (((y :: z).length : Int) < (((y :: z) ++ Ln.mk xk xa xb xn xx (d :: xd) :: r : List Ln).length : Int))) rfl (fun g g' => ?_) (fun g g' => ?_)
        rotate_left
        · simp at g; omega
        refine Zz (k := ?_)
        refine WI.at e rfl rfl ?_
        refine Zz (k := ?_)
        refine WQ.apf (k := 1) (n := 0) (m := (d :: xd).length) (cs := []) (l := fl intR (d :: xd)) rfl rfl rfl rfl rfl rfl rfl rfl (by with_unfolding_all exact src_sl (d :: xd) (by simp)) (by with_unfolding_all rfl) (by with_unfolding_all rfl) rfl (fun _ h => nomatch h) rfl rfl (by simp) (by simp at hx ⊢; omega) (by show _ * 8 ≤ _; simp at hx ⊢; omega) ?_
        refine Zz (k := ?_)
        refine WQ.apo (k := 6) (n := z.length + 1) (m := 1) (cs := fl lnR (y :: z)) (l := [iv xk, iv xa, iv xb, iv xn, iv xx, .slice (some ⟨103, 0, none⟩) (0 + (d :: xd).length) (0 + (d :: xd).length)]) rfl rfl rfl rfl rfl rfl rfl rfl (by with_unfolding_all rfl) (by with_unfolding_all rfl) (by with_unfolding_all rfl) rfl (fun _ h => nomatch h) (fl_len _) rfl (by omega) (by simp at hl; omega) (by show _ * 64 ≤ _; simp at hl; omega) ?_
        refine Zz (k := ?_)
        refine ⟨(y :: z) ++ [Ln.mk xk xa xb xn xx (d :: xd)], ⟨⟨r, by simp⟩, by simp <;> omega⟩, To.mk [105] [(103, fl intR (d :: xd))] ?_ ⟨RV.of rfl, RV.snE rfl (by simp), RV.iw (by simp) (by simp only [List.length_cons, List.length_nil, List.length_append] at hl ⊢; omega), trivial⟩ ⟨⟨⟨_, _, _, by with_unfolding_all rfl⟩, fl_of _, rfl, .inl (by decide)⟩, trivial⟩ (by kernel_rfl) rfl rfl⟩
        refine AllO.ofe (o1 := .cells (fl lnR ((y :: z) ++ [Ln.mk xk xa xb xn xx (d :: xd)])) (((y :: z) ++ [Ln.mk xk xa xb xn xx (d :: xd)]).length * 6) 50 true) rfl rfl (by with_unfolding_all rfl) ?_ AllO.nil
        exact own_step (z := (y :: z)) (x := Ln.mk xk xa xb xn xx (d :: xd)) (RV.ofe (v2 := sl intR (d :: xd)) rfl own_rv) (by simp)
end T
end
section
set_option maxRecDepth 100000
set_option linter.unusedVariables false
open Go.X Go.Proofs Go Go.RowKit
namespace T
/-! Plain: the lines of two texts, one behind the other -/
noncomputable def PLs (s : List UInt8) (out : List Ln) : List Ln × Int × Int := parseL (cutAt 10 s) out
theorem PLs_no {s : List UInt8} {out : List Ln} (h : 10 ∉ s) : PLs s out = if s = [] then (out, 0, 0) else ([], (out.length : Int) + 1, 221) := by
  unfold PLs
  rw [cutAt_no h]
  rfl
theorem PLs_at {a b : List UInt8} {out : List Ln} (h : 10 ∉ a) : PLs (a ++ 10 :: b) out = if (oneR a).2 = 0 then PLs b (out ++ [(oneR a).1]) else ([], (out.length : Int) + 1, (oneR a).2) := by
  unfold PLs
  rw [cutAt_at h]
  cases hb : cutAt 10 b with
  | nil => exact absurd hb (cutAt_ne 10 b)
  | cons c cs => rfl
theorem PLs_ind {P : List UInt8 → Prop} (h1 : ∀ s, 10 ∉ s → P s) (h2 : ∀ a b, 10 ∉ a → P b → P (a ++ 10 :: b)) : ∀ s, P s := by
  intro s
  generalize hn : s.length = n
  induction n using Nat.strongRecOn generalizing s with
  | ind n ih =>
    by_cases hs : 10 ∈ s
    · obtain ⟨a, b, rfl, ha⟩ : ∃ a b, s = a ++ 10 :: b ∧ (10 : UInt8) ∉ a := by
        clear ih hn
        induction s with
        | nil => simp at hs
        | cons x s ih =>
          by_cases hx : x = 10
          · subst hx; exact ⟨[], s, rfl, by simp⟩
          · have : (10 : UInt8) ∈ s := by
              rcases List.mem_cons.1 hs with e | e
              · exact absurd e.symm hx
              · exact e
            obtain ⟨a, b, rfl, ha⟩ := ih this
            exact ⟨x :: a, b, rfl, by simp [ha]; exact fun e => hx e.symm⟩
      exact h2 a b ha (ih b.length (by subst hn; simp; omega) b rfl)
    · exact h1 s hs
theorem PLs_err (s : List UInt8) : ∀ out, (PLs s out).2.2 ≠ 0 → (PLs s out).1 = [] := by
  induction s using PLs_ind with
  | h1 s hs =>
    intro out h
    rw [PLs_no hs] at h ⊢
    split at h
    · exact absurd rfl h
    · rename_i q; rw [if_neg q]
  | h2 a b ha ih =>
    intro out h
    rw [PLs_at ha] at h ⊢
    split at h
    · rename_i q; rw [if_pos q]; exact ih _ h
    · rename_i q; rw [if_neg q]
theorem PLs_ok (s : List UInt8) : ∀ out, (PLs s out).2.2 = 0 → (PLs s out).2.1 = 0 := by
  induction s using PLs_ind with
  | h1 s hs =>
    intro out h
    rw [PLs_no hs] at h ⊢
    split at h
    · rename_i q; rw [if_pos q]
    · simp at h
  | h2 a b ha ih =>
    intro out h
    rw [PLs_at ha] at h ⊢
    split at h
    · rename_i q; rw [if_pos q]; exact ih _ h
    · rename_i q; exact absurd h q
theorem PLs_join (t : List UInt8) (s : List UInt8) : ∀ out, ((PLs s out).2.2 = 0 → PLs (s ++ t) out = PLs t (PLs s out).1) ∧ ((PLs s out).2.2 ≠ 0 → (PLs s out).2.2 ≠ 221 → PLs (s ++ t) out = PLs s out) := by
  induction s using PLs_ind with
  | h1 s hs =>
    intro out
    rw [PLs_no hs]
    by_cases q : s = []
    · subst q
      exact ⟨fun _ => rfl, fun h => absurd rfl h⟩
    · rw [if_neg q]
      exact ⟨fun h => by simp at h, fun _ h => absurd rfl h⟩
  | h2 a b ha ih =>
    intro out
    rw [show (a ++ 10 :: b) ++ t = a ++ 10 :: (b ++ t) by simp, PLs_at ha, PLs_at ha]
    by_cases q : (oneR a).2 = 0
    · rw [if_pos q, if_pos q]; exact ih _
    · rw [if_neg q, if_neg q]
      exact ⟨fun h => absurd h q, fun _ _ => rfl⟩
theorem PLs_acc (o : List Ln) (s : List UInt8) : ∀ out, PLs s (o ++ out) = if (PLs s out).2.2 = 0 then (o ++ (PLs s out).1, 0, 0) else ([], (o.length : Int) + (PLs s out).2.1, (PLs s out).2.2) := by
  induction s using PLs_ind with
  | h1 s hs =>
    intro out
    rw [PLs_no hs, PLs_no hs]
    by_cases q : s = []
    · rw [if_pos q, if_pos q]; rfl
    · rw [if_neg q, if_neg q]
      simp only [List.length_append]
      rw [if_neg (by decide)]
      simp only [Prod.mk.injEq, true_and, and_true]
      omega
  | h2 a b ha ih =>
    intro out
    rw [PLs_at ha, PLs_at ha]
    by_cases q : (oneR a).2 = 0
    · rw [if_pos q, if_pos q, List.append_assoc]; exact ih _
    · rw [if_neg q, if_neg q, if_neg q]
      simp only [List.length_append, Prod.mk.injEq, true_and, and_true]
      omega
theorem need_8 {s : List UInt8} {l : List Int} (h : need s = some l) : l.length ≤ 8 := by
  unfold need at h
  split at h
  · simp at h; subst h; simp
  · split at h
    · split at h
      · simp at h; subst h; assumption
      · simp at h
    · simp at h
theorem lineR_need {ws : List (List UInt8)} {l : Ln} (h : lineR ws = .ok l) : l.need.length ≤ 8 := by
  unfold lineR at h
  repeat' split at h
  all_goals first | (cases h; done) | (cases h; first | exact need_8 (by assumption) | simp)
theorem oneR_need (s : List UInt8) : (oneR s).1.need.length ≤ 8 := by
  unfold oneR
  split
  · rename_i h; exact lineR_need h
  · simp
theorem PLs_all {Q : Ln → Prop} (hQ : ∀ a, Q (oneR a).1) (s : List UInt8) : ∀ out, (∀ x ∈ out, Q x) → (∀ x ∈ (PLs s out).1, Q x) ∧ (PLs s out).1.length ≤ out.length + s.length := by
  induction s using PLs_ind with
  | h1 s hs =>
    intro out h
    rw [PLs_no hs]
    split
    · exact ⟨h, by simp⟩
    · simp
  | h2 a b ha ih =>
    intro out h
    rw [PLs_at ha]
    split
    · obtain ⟨h1, h2⟩ := ih (out ++ [(oneR a).1]) fun x hx => by
        rcases List.mem_append.1 hx with hx | hx
        · exact h x hx
        · simp at hx; subst hx; exact hQ a
      refine ⟨h1, ?_⟩
      simp at h2 ⊢; omega
    · simp
theorem PLs_pos (s : List UInt8) : ∀ out, 0 ≤ (PLs s out).2.1 ∧ (PLs s out).2.1 ≤ (out.length : Int) + s.length + 1 := by
  induction s using PLs_ind with
  | h1 s hs =>
    intro out
    rw [PLs_no hs]
    split
    · exact ⟨by simp, by dsimp only; omega⟩
    · exact ⟨by dsimp only; omega, by dsimp only; omega⟩
  | h2 a b ha ih =>
    intro out
    rw [PLs_at ha]
    split
    · have := ih (out ++ [(oneR a).1])
      simp only [List.length_append, List.length_cons, List.length_nil] at this ⊢
      omega
    · exact ⟨by dsimp only; omega, by dsimp only; omega⟩
theorem parseR_eq (s : List UInt8) : (4096 < s.length ∨ 200 < s.count 10) ∧ parseR s = ([], 0, 220) ∨ (s.length ≤ 4096 ∧ s.count 10 ≤ 200) ∧ parseR s = PLs s [] := by
  unfold parseR
  split
  · rename_i h; exact .inl ⟨h, rfl⟩
  · exact .inr ⟨by omega, rfl⟩
theorem parseR_pos (s : List UInt8) : 0 ≤ (parseR s).2.1 ∧ (parseR s).2.1 ≤ 4097 := by
  rcases parseR_eq s with ⟨_, h⟩ | ⟨hs, h⟩
  · rw [h]; simp
  · rw [h]
    have := PLs_pos s []
    simp at this; omega
theorem parseR_lines (s : List UInt8) : (∀ x ∈ (parseR s).1, x.need.length ≤ 8) ∧ (parseR s).1.length ≤ 4096 := by
  rcases parseR_eq s with ⟨_, h⟩ | ⟨hs, h⟩
  · rw [h]; simp
  · rw [h]
    have := PLs_all (Q := fun x => x.need.length ≤ 8) oneR_need s [] (by simp)
    refine ⟨this.1, ?_⟩
    have := this.2
    simp at this; omega
theorem sameB_refl (x : Ln) : sameB x x = true := by unfold sameB; simp
theorem sameL_refl (l : List Ln) : sameL l l = true := (sameL_iff l l).2 ⟨rfl, fun i _ _ => sameB_refl _⟩
/-- What ScriptJoins says. -/
theorem joins (s t : List UInt8) (he : (parseR s).2.2 ≠ 220) (hf : (parseR t).2.2 ≠ 220) (hh : (parseR (s ++ t)).2.2 ≠ 220) (he1 : (parseR s).2.2 ≠ 221) :
    ((parseR s).2.2 ≠ 0 → parseR (s ++ t) = ([], (parseR s).2.1, (parseR s).2.2)) ∧
    ((parseR s).2.2 = 0 → (parseR t).2.2 ≠ 0 → parseR (s ++ t) = ([], ((parseR s).1.length : Int) + (parseR t).2.1, (parseR t).2.2)) ∧
    ((parseR s).2.2 = 0 → (parseR t).2.2 = 0 → parseR (s ++ t) = ((parseR s).1 ++ (parseR t).1, 0, 0)) := by
  rcases parseR_eq s with ⟨_, h⟩ | ⟨_, h1⟩
  · rw [h] at he; exact absurd rfl he
  rcases parseR_eq t with ⟨_, h⟩ | ⟨_, h2⟩
  · rw [h] at hf; exact absurd rfl hf
  rcases parseR_eq (s ++ t) with ⟨_, h⟩ | ⟨_, h3⟩
  · rw [h] at hh; exact absurd rfl hh
  rw [h1, h2, h3]
  rw [h1] at he he1
  have hj := PLs_join t s []
  have ha := PLs_acc (PLs s []).1 t []
  rw [List.append_nil] at ha
  refine ⟨fun h => ?_, fun h k => ?_, fun h k => ?_⟩
  · rw [hj.2 h he1]
    have := PLs_err s [] h
    generalize PLs s [] = r at *
    obtain ⟨x, y, z⟩ := r
    simp at this; subst this; rfl
  · rw [hj.1 h, ha, if_neg k]
  · rw [hj.1 h, ha, if_pos k]
end T
end
