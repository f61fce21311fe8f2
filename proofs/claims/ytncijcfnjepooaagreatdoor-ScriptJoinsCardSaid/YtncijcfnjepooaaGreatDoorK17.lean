/-
  A part of the proof of ScriptJoins: no statement of the seat is proved here.
-/
import Derived.Test.YtncijcfnjepooaaGreatDoorK14
import Derived.Test.YtncijcfnjepooaaGreatDoorK16
import Derived.KernelRfl
set_option linter.unusedVariables false
set_option linter.unusedSimpArgs false
set_option linter.unnecessarySimpa false
set_option linter.unusedSectionVars false
set_option linter.constructorNameAsVariable false
set_option linter.deprecated false
section
set_option maxRecDepth 100000
set_option maxHeartbeats 0
open Go.X Go.Proofs Go Go.RowKit
namespace T
/-- A line as a text. -/
def numL (l : Ln) : List Int := if l.k ≤ 2 then [l.a, l.n] else [l.a, l.b, l.n, l.x].take (word l.k).2.toNat
def lineB (l : Ln) : List UInt8 := joinC 32 ((word l.k).1 :: ((numL l).map Lib.itoa ++ if l.k = 0 then [needB l.need] else [])) ++ [10]
theorem ItT.of {n : Int} (h : fitI n) : ItT n (Lib.itoa n) := fun {B lo st} => c38 n h.1 h.2
theorem wordLen (k : Int) : (word k).1.length ≤ 7 := by
  unfold word
  cases h : at_ wordL k with
  | none => simp
  | some w =>
    have := (at_lt h).2.1
    have hm := List.mem_of_getElem? this
    simp [wordL] at hm
    rcases hm with rfl | rfl | rfl | rfl | rfl | rfl | rfl | rfl | rfl | rfl | rfl <;> simp
theorem numL_mem {l : Ln} {n : Int} (h : n ∈ numL l) : n = l.a ∨ n = l.b ∨ n = l.n ∨ n = l.x := by
  unfold numL at h
  split at h
  · simp at h; omega
  · have := List.mem_of_mem_take h
    simp at this; exact this
structure Ln.fit (l : Ln) : Prop where
  a : fitI l.a
  b : fitI l.b
  n : fitI l.n
  x : fitI l.x
  len : l.need.length ≤ 100
  need : ∀ n ∈ l.need, fitI n
theorem lineB_len (l : Ln) (h : l.fit) : (lineB l).length ≤ 100000 ∧ (joinC 32 ((word l.k).1 :: ((numL l).map Lib.itoa ++ if l.k = 0 then [needB l.need] else []))).length ≤ 100000 := by
  have hn : (numL l).length ≤ 4 := by
    unfold numL
    split
    · simp
    · rw [List.length_take]; simp; omega
  have hnd := needB_len l.need (by have := h.len; omega) h.need
  have := joinC_len 32 2201 ((word l.k).1 :: ((numL l).map Lib.itoa ++ if l.k = 0 then [needB l.need] else [])) fun w hw => by
    rcases List.mem_cons.1 hw with rfl | hw
    · have := wordLen l.k; omega
    · rcases List.mem_append.1 hw with hw | hw
      · obtain ⟨n, hn, rfl⟩ := List.mem_map.1 hw
        have hf : fitI n := by rcases numL_mem hn with rfl | rfl | rfl | rfl; exact h.a; exact h.b; exact h.n; exact h.x
        have := Lib.itoa_length_le n hf.1 hf.2
        omega
      · split at hw
        · simp at hw; subst hw; have := h.len; omega
        · simp at hw
  have hl : ((word l.k).1 :: ((numL l).map Lib.itoa ++ if l.k = 0 then [needB l.need] else [])).length ≤ 6 := by
    simp only [List.length_cons, List.length_append, List.length_map]
    split <;> simp <;> omega
  have hj : (joinC 32 ((word l.k).1 :: ((numL l).map Lib.itoa ++ if l.k = 0 then [needB l.need] else []))).length ≤ 90000 := by omega
  refine ⟨?_, by omega⟩
  unfold lineB
  rw [List.length_append]
  simp only [List.length_cons, List.length_nil]
  omega
theorem k28 (l : Ln) (hk : 0 ≤ l.k ∧ l.k ≤ 10) (h : l.fit) : ZC Tryz.prog 28 [lnV l] (hp 100 []) (str (lineB l)) (hp 100 []) := by
  have hj := (lineB_len l h).2
  obtain ⟨k, a, b, n, x, need⟩ := l
  obtain ⟨ha, hb, hn, hx, hl, hnd⟩ := h
  dsimp only at hk ha hb hn hx hl hnd hj
  have hk : k = 0 ∨ k = 1 ∨ k = 2 ∨ k = 3 ∨ k = 4 ∨ k = 5 ∨ k = 6 ∨ k = 7 ∨ k = 8 ∨ k = 9 ∨ k = 10 := by omega
  rcases hk with rfl | rfl | rfl | rfl | rfl | rfl | rfl | rfl | rfl | rfl | rfl
  · exact k28a rfl (ItT.of ha) (ItT.of hn) (ZC.pure (k39 need (by omega) hnd) ⟨RV.of rfl, trivial⟩ (RV.of rfl)) hj
  · exact k28b (.inl rfl) (ItT.of ha) (ItT.of hn) hj
  · exact k28b (.inr rfl) (ItT.of ha) (ItT.of hn) hj
  · exact k28c (.inl rfl) (ItT.of ha) (ItT.of hb) hj
  · exact k28c (.inr rfl) (ItT.of ha) (ItT.of hb) hj
  · exact k28d (.inl rfl) (ItT.of ha) hj
  · exact k28d (.inr rfl) (ItT.of ha) hj
  · exact k28e (.inl rfl) (ItT.of ha) (ItT.of hb) (ItT.of hn) hj
  · exact k28e (.inr (.inl rfl)) (ItT.of ha) (ItT.of hb) (ItT.of hn) hj
  · exact k28e (.inr (.inr rfl)) (ItT.of ha) (ItT.of hb) (ItT.of hn) hj
  · exact k28f rfl (ItT.of ha) (ItT.of hb) (ItT.of hn) (ItT.of hx) hj
/-- A builder behind bytes. -/
noncomputable def bO : List UInt8 → Option Ob
  | [] => bldF
  | b :: l => bldU 101 (b :: l)
noncomputable def rO : List UInt8 → Option Ob
  | [] => none
  | b :: l => rowU (b :: l)
noncomputable def F26 : Value := .func (.func 26) ⟨[]⟩ ⟨[]⟩
theorem lineB_ne (l : Ln) : lineB l ≠ [] := by unfold lineB; simp
/-- script.Show, of lines that may be. -/
theorem k11r (ls : List Ln) (R : Value) (hn : ls.length ≤ 1000) (hF : ∀ {B : Ban} {lo : Nat} {st : XS}, TC Tryz.prog B lo 25 [sl lnR ls, F26] st (.bool false) st) (hL : ∀ l ∈ ls, ZC Tryz.prog 28 [lnV l] (hp 100 []) (str (lineB l)) (hp 100 [])) (hB : ∀ l ∈ ls, (lineB l).length ≤ 100000)
    (hR : (if 200 < ls.length ∨ 4096 < (ls.map lineB).flatten.length then .tuple ⟨[str [], iv 220]⟩ else .tuple ⟨[str (ls.map lineB).flatten, iv 0]⟩) = R) : ZC Tryz.prog 11 [sl lnR ls] (hp 100 []) R (hp 100 []) := by
  refine ZC.cw (fn := Tryz.f11) (x := cod Tryz.f11) (by kernel_rfl) (by kernel_rfl) (by kernel_rfl) (by kernel_rfl) ?_; conv => arg 4; whnf
  refine Zz (k := ?_)
  refine WC.c hF ?_
  refine Zz (k := ?_)
  refine CW.inv (σ := Nat × List UInt8) (g := 100) (L := fun z => [(0, sl lnR ls), (4, ptr 100 0), (9, sl lnR ls), (10, iv ls.length), (11, iv z.1)]) (l := fun z => [bO z.2, rO z.2]) (fun z => z.1 ≤ ls.length ∧ z.2 ++ ((ls.drop z.1).map lineB).flatten = (ls.map lineB).flatten ∧ z.2.length ≤ 100000 * z.1) (fun z => ls.length - z.1) (0, []) ⟨by simp, rfl, by simp⟩ [100, 101] [] (gl _) (by kernel_rfl) rfl rfl ?_ trivial ⟨RV.of rfl, RV.pn rfl, RV.of rfl, RV.of rfl, RV.of rfl, trivial⟩ ?_
  · exact AllO.som rfl rfl (RObj.same ac_fresh) (AllO.non AllO.nil)
  rintro ⟨i, bs⟩ ⟨h1, h2, h3⟩
  dsimp only at h1 h2 h3
  by_cases hi : i < ls.length
  · have e1 := at_of hi
    have hm := hL ls[i] (by simp)
    have hb := hB ls[i] (by simp)
    have h4 : bs ++ lineB ls[i] ++ ((ls.drop (i + 1)).map lineB).flatten = (ls.map lineB).flatten := by
      rw [← h2, List.drop_eq_getElem_cons hi, List.map_cons, List.flatten_cons, List.append_assoc]
    have h5 := lineB_ne ls[i]
    generalize hs : lineB ls[i] = s at *
    generalize ls[i] = l at *
    obtain ⟨c, s, rfl⟩ : ∃ c s', s = c :: s' := by
      cases s with
      | nil => exact absurd rfl h5
      | cons c s => exact ⟨c, s, rfl⟩
    simp only [List.length_cons] at hb
    rcases bs with _ | ⟨b, bs⟩
    · refine Zz (k := ?_)
      refine CW.cb (decide ((i : Int) < (ls.length : Int))) rfl (fun g g' => ?_) (fun g g' => ?_)
      rotate_left
      · simp at g; omega
      refine Zz (k := ?_)
      refine WI.at e1 rfl rfl ?_
      refine Zz (k := ?_)
      refine WC.c (ZC.pure hm ⟨lnRV l, trivial⟩ (RV.of rfl)) ?_
      refine Zz (k := ?_)
      refine WC.c (ZC.use (k27a (c :: s) h5 (by simp; omega)) [100] [some (some (.cells [ptr 100 0, .slice (some ⟨103, 0, none⟩) (c :: s).length (c :: s).length] 2 70 false))] [some (.cells (fl u8R (c :: s)) (c :: s).length 5 true)] (by kernel_rfl) ⟨⟨_, by with_unfolding_all rfl, RObj.same ac_fresh⟩, trivial⟩ ⟨⟨_, rfl, rb_u⟩, ⟨_, rfl, RObj.same (fl_of _)⟩, trivial⟩ ⟨RV.ptr (.inr (by decide)), RV.of rfl, trivial⟩ (RV.tup (c1 := [iv (c :: s).length, .nilIface]) ⟨RV.of rfl, RV.of rfl, trivial⟩)) ?_
      refine Zz (k := ?_)
      refine ⟨(i + 1, c :: s), ⟨⟨by dsimp only; omega, h4, by simp at h3 ⊢; omega⟩, by dsimp only; omega⟩, To.mk [100, 103] [] ?_ ⟨RV.of rfl, RV.pn rfl, RV.of rfl, RV.of rfl, RV.iw (by simp) (by omega), trivial⟩ trivial (by kernel_rfl) rfl rfl⟩
      exact AllO.som rfl (by with_unfolding_all rfl) rb_u (AllO.som rfl (by with_unfolding_all rfl) (RObj.same (fl_of _)) AllO.nil)
    · refine Zz (k := ?_)
      refine CW.cb (decide ((i : Int) < (ls.length : Int))) rfl (fun g g' => ?_) (fun g g' => ?_)
      rotate_left
      · simp at g; omega
      refine Zz (k := ?_)
      refine WI.at e1 rfl rfl ?_
      refine Zz (k := ?_)
      refine WC.c (ZC.pure hm ⟨lnRV l, trivial⟩ (RV.of rfl)) ?_
      refine Zz (k := ?_)
      simp only [List.length_cons] at h3
      refine WC.c (ZC.use (k27b (b :: bs) (c :: s) h5 (by simp; omega)) [100, 101] [some (some (.cells [ptr 100 0, .slice (some ⟨103, 0, none⟩) (b :: bs ++ c :: s).length (b :: bs ++ c :: s).length] 2 70 false)), some none] [some (.cells (fl u8R (b :: bs ++ c :: s)) (b :: bs ++ c :: s).length 5 true)] (by kernel_rfl) ⟨⟨_, by with_unfolding_all rfl, rb_u⟩, ⟨_, by with_unfolding_all rfl, RObj.same (fl_of _)⟩, trivial⟩ ⟨⟨_, rfl, rb_u⟩, trivial, ⟨_, rfl, RObj.same (fl_of _)⟩, trivial⟩ ⟨RV.ptr (.inr (by decide)), RV.of rfl, trivial⟩ (RV.tup (c1 := [iv (c :: s).length, .nilIface]) ⟨RV.of rfl, RV.of rfl, trivial⟩)) ?_
      refine Zz (k := ?_)
      refine ⟨(i + 1, b :: bs ++ c :: s), ⟨⟨by dsimp only; omega, h4, by simp at h3 ⊢; omega⟩, by dsimp only; omega⟩, To.mk [100, 103] [] ?_ ⟨RV.of rfl, RV.pn rfl, RV.of rfl, RV.of rfl, RV.iw (by simp) (by omega), trivial⟩ trivial (by kernel_rfl) rfl rfl⟩
      exact AllO.som rfl (by with_unfolding_all rfl) rb_u (AllO.som rfl (by with_unfolding_all rfl) (RObj.same (fl_of _)) AllO.nil)
  · have hi : i = ls.length := by omega
    subst hi
    have h2 : bs = (ls.map lineB).flatten := by simpa using h2
    rw [← h2] at hR
    clear h2 hF hL hB
    by_cases h200 : 200 < ls.length
    · rw [if_pos (.inl h200)] at hR
      rcases bs with _ | ⟨b, bs⟩
      all_goals
        refine Zz (k := ?_)
        refine CW.cb (decide ((ls.length : Int) < (ls.length : Int))) rfl (fun g g' => ?_) (fun g g' => ?_)
        · simp at g
        refine Zz (k := ?_)
        refine WIf.nb (decide ((ls.length : Int) > 200)) (fun q q' => ?_) (fun q q' => ?_)
        rotate_left
        · simp at q; omega
        refine Zz (k := ?_)
        refine Fn.mk (by first | exact .inl rfl | exact .inr rfl) rfl rfl ?_; exact ⟨[], [], by kernel_rfl, trivial, trivial, RV.ofe (v2 := (.tuple ⟨[str [], iv 220]⟩)) (by rw [hR]) (RV.tup ⟨RV.of rfl, RV.of rfl, trivial⟩)⟩
    · rcases bs with _ | ⟨b, bs⟩
      · rw [if_neg (by simp; omega)] at hR
        refine Zz (k := ?_)
        refine CW.cb (decide ((ls.length : Int) < (ls.length : Int))) rfl (fun g g' => ?_) (fun g g' => ?_)
        · simp at g
        refine Zz (k := ?_)
        refine WIf.nb (decide ((ls.length : Int) > 200)) (fun q q' => ?_) (fun q q' => ?_)
        · simp at q; omega
        refine Zz (k := ?_)
        refine WC.c (ZC.use k29f [100] [none] [] (by kernel_rfl) ⟨⟨_, by with_unfolding_all rfl, RObj.same ac_fresh⟩, trivial⟩ ⟨⟨_, _, rfl, by with_unfolding_all rfl, RObj.same ac_fresh⟩, trivial⟩ ⟨RV.ptr (.inr (by decide)), trivial⟩ (RV.of rfl)) ?_
        refine Zz (k := ?_)
        refine WC.c (ZC.use k30f [100] [some none] [] (by kernel_rfl) ⟨⟨_, by with_unfolding_all rfl, RObj.same ac_fresh⟩, trivial⟩ ⟨trivial, trivial⟩ ⟨RV.ptr (.inr (by decide)), trivial⟩ (RV.of rfl)) ?_
        refine Zz (k := ?_)
        refine Fn.mk (by first | exact .inl rfl | exact .inr rfl) rfl rfl ?_; exact ⟨[], [], by kernel_rfl, trivial, trivial, RV.ofe (v2 := (.tuple ⟨[str [], iv 0]⟩)) (by rw [hR]) (RV.tup ⟨RV.of rfl, RV.of rfl, trivial⟩)⟩
      · refine Zz (k := ?_)
        refine CW.cb (decide ((ls.length : Int) < (ls.length : Int))) rfl (fun g g' => ?_) (fun g g' => ?_)
        · simp at g
        refine Zz (k := ?_)
        refine WIf.nb (decide ((ls.length : Int) > 200)) (fun q q' => ?_) (fun q q' => ?_)
        · simp at q; omega
        refine Zz (k := ?_)
        refine WC.c (ZC.use (k29 (b :: bs)) [100, 101] [none, none] [] (by kernel_rfl) ⟨⟨_, by with_unfolding_all rfl, rb_u⟩, ⟨_, by with_unfolding_all rfl, RObj.same (fl_of _)⟩, trivial⟩ ⟨⟨_, _, rfl, by with_unfolding_all rfl, rb_u⟩, ⟨_, _, rfl, by with_unfolding_all rfl, RObj.same (fl_of _)⟩, trivial⟩ ⟨RV.ptr (.inr (by decide)), trivial⟩ (RV.of rfl)) ?_
        refine Zz (k := ?_)
        refine CW.cb (decide (((b :: bs).length : Int) > 4096)) rfl (fun u u' => ?_) (fun u u' => ?_)
        · rw [if_pos (.inr (by simp at u ⊢; omega))] at hR
          refine Zz (k := ?_)
          refine Fn.mk (by first | exact .inl rfl | exact .inr rfl) rfl rfl ?_; exact ⟨[], [], by kernel_rfl, trivial, trivial, RV.ofe (v2 := (.tuple ⟨[str [], iv 220]⟩)) (by rw [hR]) (RV.tup ⟨RV.of rfl, RV.of rfl, trivial⟩)⟩
        · rw [if_neg (by simp at u ⊢; omega)] at hR
          refine Zz (k := ?_)
          refine WC.c (ZC.use (k30 b bs (by simp at u; omega)) [100, 101] [some none, some none] [] (by kernel_rfl) ⟨⟨_, by with_unfolding_all rfl, rb_u⟩, ⟨_, by with_unfolding_all rfl, RObj.same (fl_of _)⟩, trivial⟩ ⟨trivial, trivial, trivial⟩ ⟨RV.ptr (.inr (by decide)), trivial⟩ (RV.of rfl)) ?_
          refine Zz (k := ?_)
          refine Fn.mk (by first | exact .inl rfl | exact .inr rfl) rfl rfl ?_; exact ⟨[], [], by kernel_rfl, trivial, trivial, RV.ofe (v2 := (.tuple ⟨[str (b :: bs), iv 0]⟩)) (by rw [hR]) (RV.tup ⟨RV.of rfl, RV.of rfl, trivial⟩)⟩
end T
end
section
set_option maxRecDepth 100000
set_option maxHeartbeats 0
open Go.X Go.Proofs Go Go.RowKit
namespace T
/-- The chapter's example: "open 0 3 1\\ntick 0\\ncome 0 1 0\\n". -/
def exS : List UInt8 := [111, 112, 101, 110, 32, 48, 32, 51, 32, 49, 10, 116, 105, 99, 107, 32, 48, 10, 99, 111, 109, 101, 32, 48, 32, 49, 32, 48, 10]
/-- "jump 0\\n" -/
def exJ : List UInt8 := [106, 117, 109, 112, 32, 48, 10]
def exL : List Ln := [⟨0, 0, 0, 3, 0, [1]⟩, ⟨5, 0, 0, 0, 0, []⟩, ⟨7, 0, 1, 0, 0, []⟩]
theorem parse_ex : parseR exS = (exL, 0, 0) := by kernel_rfl
theorem parse_exJ : parseR (exS ++ exJ) = ([], 4, 222) := by kernel_rfl
theorem k6ex : ZC Tryz.prog 6 [str exS] (hp 100 []) (.tuple ⟨[sl lnR exL, iv 0, iv 0]⟩) (hp 100 []) := by
  have := k6R exS
  rw [parse_ex] at this
  exact this
end T
end
section
set_option maxRecDepth 100000
set_option maxHeartbeats 0
open Go.X Go.Proofs Go Go.RowKit
namespace T
theorem k14a : ZC Tryz.prog 14 [lnV ⟨0, 0, 0, 3, 0, [1]⟩] (hp 100 []) (.bool true) (hp 100 []) := ZC.ofRunV (n := 100000) (by kernel_rfl) (by kernel_rfl) (by kernel_rfl) rfl (by kernel_rfl) (by kernel_rfl)
theorem k14b : ZC Tryz.prog 14 [.agg ⟨[iv 99, iv 0, iv 0, iv 0, iv 0, .slice none 0 0]⟩] (hp 100 []) (.bool false) (hp 100 []) := ZC.ofRunV (n := 100000) (by kernel_rfl) (by kernel_rfl) (by kernel_rfl) rfl (by kernel_rfl) (by kernel_rfl)
theorem k15a : ZC Tryz.prog 15 [.agg ⟨[iv 0, iv 0, iv 3, iv 0, sl intR [1]]⟩] (hp 100 []) (str [111, 112, 101, 110, 101, 100, 32, 48, 32, 51, 32, 49, 10]) (hp 100 []) := ZC.ofRunV (n := 100000) (by kernel_rfl) (by kernel_rfl) (by kernel_rfl) rfl (by kernel_rfl) (by kernel_rfl)
theorem k15b : ZC Tryz.prog 15 [.agg ⟨[iv 1, iv 0, iv 3, iv 0, .slice none 0 0]⟩] (hp 100 []) (str [103, 114, 97, 110, 116, 101, 100, 32, 48, 32, 51, 10]) (hp 100 []) := ZC.ofRunV (n := 100000) (by kernel_rfl) (by kernel_rfl) (by kernel_rfl) rfl (by kernel_rfl) (by kernel_rfl)
end T
end
