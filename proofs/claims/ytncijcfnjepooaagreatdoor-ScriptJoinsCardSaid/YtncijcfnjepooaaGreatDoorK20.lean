/-
  A part of the proof of ScriptJoins: no statement of the seat is proved here.
-/
import Derived.Test.YtncijcfnjepooaaGreatDoorK19
set_option linter.unusedVariables false
set_option linter.unusedSimpArgs false
set_option linter.unnecessarySimpa false
set_option linter.unusedSectionVars false
set_option linter.constructorNameAsVariable false
set_option linter.deprecated false
section
set_option maxRecDepth 100000
set_option maxHeartbeats 0
open Go.X Go.Proofs Go Go.RowKit
namespace T
theorem k6V {s : List UInt8} {a : List Ln} {p e : Int} (h : parseR s = (a, p, e)) : ZC Tryz.prog 6 [str s] (hp 100 []) (.tuple ⟨[sl lnR a, iv p, iv e]⟩) (hp 100 []) := by
  have := k6R s
  rw [h] at this
  exact this
theorem k22z : ZC Tryz.prog 22 [sl lnR [], .slice (some ⟨100, 0, none⟩) 0 0, F23] (hp 100 [some (.cells [] 0 50 false)]) (.bool true) (hp 100 [some (.cells [] 0 50 false)]) := by
  refine ZC.cw (fn := Tryz.f22) (x := cod Tryz.f22) (by kernel_rfl) (by kernel_rfl) (by kernel_rfl) (by kernel_rfl) ?_; conv => arg 4; whnf
  refine Zz (k := ?_)
  refine CW.rnd 1 ?_
  refine Zz (k := ?_)
  refine Fn.mk (by first | exact .inl rfl | exact .inr rfl) rfl rfl ?_; exact ⟨[], [], by kernel_rfl, AllO.som rfl (by with_unfolding_all rfl) (RObj.same (by simp)) AllO.nil, trivial, RV.of rfl⟩
theorem k9z : ZC Tryz.prog 9 [sl lnR [], .slice (some ⟨100, 0, none⟩) 0 0] (hp 100 [some (.cells [] 0 50 false)]) (.bool true) (hp 100 [some (.cells [] 0 50 false)]) := by
  refine ZC.cw (fn := Tryz.f9) (x := cod Tryz.f9) (by kernel_rfl) (by kernel_rfl) (by kernel_rfl) (by kernel_rfl) ?_; conv => arg 4; whnf
  refine Zz (k := ?_)
  refine WC.c (ZC.use k22z [100] [none] [] (by kernel_rfl) ⟨⟨_, by with_unfolding_all rfl, RObj.same (by simp)⟩, trivial⟩ ⟨⟨_, _, rfl, by with_unfolding_all rfl, RObj.same (by simp)⟩, trivial⟩ ⟨RV.of rfl, RV.slc (.inr (by decide)), RV.of rfl, trivial⟩ (RV.of rfl)) ?_
  refine Zz (k := ?_)
  refine Fn.mk (by first | exact .inl rfl | exact .inr rfl) rfl rfl ?_; exact ⟨[], [], by kernel_rfl, AllO.som rfl (by with_unfolding_all rfl) (RObj.same (by simp)) AllO.nil, trivial, RV.of rfl⟩
theorem RObj.eqo {m : Nat} {rn : List (Nat × Nat)} {sl : List (Nat × List Value)} {c1 c : List Value} {k1 k : Nat} {T : TypeId} {g : Bool} (hc : c1 = c) (hk : k1 = k) (h : ∀ v ∈ c1, of1 v = true) : RObj m rn sl (.cells c k T g) (.cells c1 k1 T g) := by
  subst hc; subst hk; exact RObj.same h
theorem RV.slcE {m : Nat} {rn : List (Nat × Nat)} {sl : List (Nat × List Value)} {n k off l1 l : Nat} (h : Rn m rn n k) (e : l1 = l) : RV m rn sl (.slice (some ⟨k, off, none⟩) l1 l1) (.slice (some ⟨n, off, none⟩) l l) := e ▸ RV.slc h
/-- narthexlaw22.ScriptJoins. -/
theorem k4 (s t : List UInt8) : ZC Tryz.prog 4 [str s, str t] (hp 100 []) (.bool true) (hp 100 []) := by
  have l1 := parseR_lines s
  have l2 := parseR_lines t
  have l3 := parseR_lines (s ++ t)
  have p2 := parseR_pos t
  have H := joins s t
  obtain ⟨⟨a, p, e⟩, h1⟩ : ∃ r, parseR s = r := ⟨_, rfl⟩
  obtain ⟨⟨b, q, f⟩, h2⟩ : ∃ r, parseR t = r := ⟨_, rfl⟩
  obtain ⟨⟨c, k, h⟩, h3⟩ : ∃ r, parseR (s ++ t) = r := ⟨_, rfl⟩
  have k1 := k6V h1
  have k2 := k6V h2
  have k3 := k6V h3
  rw [h1] at l1 H
  rw [h2] at l2 H p2
  rw [h3] at l3 H
  dsimp only at l1 l2 l3 H p2
  clear h1 h2 h3
  have dn : ∀ {x y : Int}, (x == y) = true ↔ x = y := fun {x y} => beq_iff_eq
  refine ZC.cw (fn := Tryz.f4) (x := cod Tryz.f4) (by kernel_rfl) (by kernel_rfl) (by kernel_rfl) (by kernel_rfl) ?_; conv => arg 4; whnf
  refine Zz (k := ?_)
  refine WC.c (ZC.pure k5 trivial (RV.of rfl)) ?_
  refine Zz (k := ?_)
  refine WIf.nb (decide ((s.length : Int) > 2000)) (fun u u' => ?_) (fun u u' => ?_)
  · refine Zz (k := ?_)
    refine WC.c (ZC.pure k5 trivial (RV.of rfl)) ?_
    refine Zz (k := ?_)
    refine Fn.mk (by first | exact .inl rfl | exact .inr rfl) rfl rfl ?_; exact ⟨[], [], by kernel_rfl, trivial, trivial, RV.of rfl⟩
  refine Zz (k := ?_)
  refine CW.cb (decide ((t.length : Int) > 2000)) rfl (fun v v' => ?_) (fun v v' => ?_)
  · refine Zz (k := ?_)
    refine WC.c (ZC.pure k5 trivial (RV.of rfl)) ?_
    refine Zz (k := ?_)
    refine Fn.mk (by first | exact .inl rfl | exact .inr rfl) rfl rfl ?_; exact ⟨[], [], by kernel_rfl, trivial, trivial, RV.of rfl⟩
  refine Zz (k := ?_)
  refine WC.c (ZC.pure k1 ⟨RV.of rfl, trivial⟩ (RV.tup (c1 := [sl lnR a, iv p, iv e]) ⟨RV.of rfl, RV.of rfl, RV.of rfl, trivial⟩)) ?_
  refine Zz (k := ?_)
  refine WC.c (ZC.pure k2 ⟨RV.of rfl, trivial⟩ (RV.tup (c1 := [sl lnR b, iv q, iv f]) ⟨RV.of rfl, RV.of rfl, RV.of rfl, trivial⟩)) ?_
  refine Zz (k := ?_)
  refine WQ.sad (l := s) (l2 := t) rfl rfl rfl (by simp at u v; omega) ?_
  refine Zz (k := ?_)
  refine WC.c (ZC.pure k3 ⟨RV.of rfl, trivial⟩ (RV.tup (c1 := [sl lnR c, iv k, iv h]) ⟨RV.of rfl, RV.of rfl, RV.of rfl, trivial⟩)) ?_
  refine Zz (k := ?_)
  refine WIf.nb (decide ((a.length : Int) > 100)) (fun x1 x1' => ?_) (fun x1 x1' => ?_)
  · refine Zz (k := ?_)
    refine Fn.mk (by first | exact .inl rfl | exact .inr rfl) rfl rfl ?_; exact ⟨[], [], by kernel_rfl, trivial, trivial, RV.of rfl⟩
  refine Zz (k := ?_)
  refine WIf.nb (decide ((b.length : Int) > 100)) (fun x2 x2' => ?_) (fun x2 x2' => ?_)
  · refine Zz (k := ?_)
    refine Fn.mk (by first | exact .inl rfl | exact .inr rfl) rfl rfl ?_; exact ⟨[], [], by kernel_rfl, trivial, trivial, RV.of rfl⟩
  refine Zz (k := ?_)
  refine WIf.nb (e == 220) (fun x3 x3' => ?_) (fun x3 x3' => ?_)
  · refine Zz (k := ?_)
    refine Fn.mk (by first | exact .inl rfl | exact .inr rfl) rfl rfl ?_; exact ⟨[], [], by kernel_rfl, trivial, trivial, RV.of rfl⟩
  refine Zz (k := ?_)
  refine WIf.nb (f == 220) (fun x4 x4' => ?_) (fun x4 x4' => ?_)
  · refine Zz (k := ?_)
    refine Fn.mk (by first | exact .inl rfl | exact .inr rfl) rfl rfl ?_; exact ⟨[], [], by kernel_rfl, trivial, trivial, RV.of rfl⟩
  refine Zz (k := ?_)
  refine CW.cb (h == 220) rfl (fun x5 x5' => ?_) (fun x5 x5' => ?_)
  · refine Zz (k := ?_)
    refine Fn.mk (by first | exact .inl rfl | exact .inr rfl) rfl rfl ?_; exact ⟨[], [], by kernel_rfl, trivial, trivial, RV.of rfl⟩
  refine Zz (k := ?_)
  refine CW.cb (e == 221) rfl (fun x6 x6' => ?_) (fun x6 x6' => ?_)
  · refine Zz (k := ?_)
    refine Fn.mk (by first | exact .inl rfl | exact .inr rfl) rfl rfl ?_; exact ⟨[], [], by kernel_rfl, trivial, trivial, RV.of rfl⟩
  have H := H (by simpa using x3) (by simpa using x4) (by simpa using x5) (by simpa using x6)
  refine Zz (k := ?_)
  refine CW.cb (e != 0) rfl (fun x7 x7' => ?_) (fun x7 x7' => ?_)
  · have H := H.1 (by simpa using x7)
    simp only [Prod.mk.injEq] at H
    have y1 : (k == p) = true := dn.2 H.2.1
    have y2 : (h == e) = true := dn.2 H.2.2
    have y3 : c.length = 0 := by rw [H.1]; rfl
    refine Zz (k := ?_)
    refine Fn.mk (by first | exact .inl rfl | exact .inr rfl) rfl rfl ?_; exact ⟨[], [], by kernel_rfl, trivial, trivial, RV.ofe (v2 := (.bool ((c.length : Int) == 0))) (by rw [y3]; rfl) (RV.of rfl)⟩
  have z1 : e = 0 := by simpa using x7
  refine Zz (k := ?_)
  refine CW.cb (f != 0) rfl (fun x8 x8' => ?_) (fun x8 x8' => ?_)
  · have H := H.2.1 z1 (by simpa using x8)
    simp only [Prod.mk.injEq] at H
    have y0 : IntKind.i64.wrap (Int.ofNat a.length + q) = (a.length : Int) + q := by
      rw [IntKind.wrap_i64]
      show ((a.length : Int) + q + _) % _ - _ = _
      omega
    have y1 : (k == IntKind.i64.wrap (Int.ofNat a.length + q)) = true := by rw [y0]; exact dn.2 H.2.1
    have y2 : (h == f) = true := dn.2 H.2.2
    have y3 : c.length = 0 := by rw [H.1]; rfl
    refine Zz (k := ?_)
    refine Fn.mk (by first | exact .inl rfl | exact .inr rfl) rfl rfl ?_; exact ⟨[], [], by kernel_rfl, trivial, trivial, RV.ofe (v2 := (.bool ((c.length : Int) == 0))) (by rw [y3]; rfl) (RV.of rfl)⟩
  have H := H.2.2 z1 (by simpa using x8)
  simp only [Prod.mk.injEq] at H
  obtain ⟨hc, hk, hh⟩ := H
  have y1 : (h == 0) = true := dn.2 hh
  have y2 : (k == 0) = true := dn.2 hk
  have n3 : ∀ x ∈ c, x.need.length ≤ 1000000 := fun x hx => by have := l3.1 x hx; omega
  have n1 : ∀ x ∈ a, x.need.length ≤ 1000000 := fun x hx => by have := l1.1 x hx; omega
  have hlen : c.length = a.length + b.length := by rw [hc, List.length_append]
  have kk : ZC Tryz.prog 9 [sl lnR c, .slice (some ⟨100, 0, none⟩) (a ++ b).length (a ++ b).length] (hp 100 [obL (a ++ b)]) (.bool true) (hp 100 [obL (a ++ b)]) := by
    have := k9o c (a ++ b) (by omega) (by rw [← hc]; omega) n3 (hc ▸ n3)
    rwa [show sameL c (a ++ b) = true from by rw [hc]; exact sameL_refl _] at this
  have ko := k10 a (by omega) n1
  clear n3 n1 u u' v v' x1 x1' x2 x2' x3 x3' x4 x4' x5 x5' x6 x6' x7 x7' x8 x8' k1 k2 k3
  rcases a with _ | ⟨a0, a⟩
  · rcases b with _ | ⟨b0, b⟩
    · have hc : c = [] := hc
      subst hc
      refine Zz (k := ?_)
      refine WC.c (ZC.use ko [] [] [some (.cells [] 0 50 false)] (by kernel_rfl) trivial ⟨⟨_, rfl, RObj.same (by simp)⟩, trivial⟩ ⟨RV.of rfl, trivial⟩ (RV.slc (.inr (Bk_mem.2 (.inr ⟨0, Nat.le_of_ble_eq_true (by kernel_rfl), rfl, by with_unfolding_all rfl⟩))))) ?_
      refine Zz (k := ?_)
      refine WC.c (ZC.use k9z [100] [none] [] (by kernel_rfl) ⟨⟨_, by with_unfolding_all rfl, RObj.same (by simp)⟩, trivial⟩ ⟨⟨_, _, rfl, by with_unfolding_all rfl, RObj.same (by simp)⟩, trivial⟩ ⟨RV.of rfl, RV.slc (.inr (by decide)), trivial⟩ (RV.of rfl)) ?_
      refine Zz (k := ?_)
      refine Fn.mk (by first | exact .inl rfl | exact .inr rfl) rfl rfl ?_; exact ⟨[], [], by kernel_rfl, trivial, trivial, RV.of rfl⟩
    · refine Zz (k := ?_)
      refine WC.c (ZC.use ko [] [] [some (.cells [] 0 50 false)] (by kernel_rfl) trivial ⟨⟨_, rfl, RObj.same (by simp)⟩, trivial⟩ ⟨RV.of rfl, trivial⟩ (RV.slc (.inr (Bk_mem.2 (.inr ⟨0, Nat.le_of_ble_eq_true (by kernel_rfl), rfl, by with_unfolding_all rfl⟩))))) ?_
      refine Zz (k := ?_)
      refine WQ.apf (k := 6) (n := 0) (m := (b0 :: b).length) (cs := []) (l := fl lnR (b0 :: b)) rfl rfl rfl rfl rfl rfl rfl rfl (by with_unfolding_all exact src_sl (b0 :: b) (by simp)) (by with_unfolding_all rfl) (by with_unfolding_all rfl) rfl (fun _ h => nomatch h) rfl rfl (by simp) (by omega) (by show _ * 64 ≤ _; omega) ?_
      refine Zz (k := ?_)
      refine WC.c (ZC.use kk [101] [none] [] (by kernel_rfl) ⟨⟨_, by with_unfolding_all rfl, RObj.eqc (rfl) (by rw [Nat.zero_add]; rfl) (fl_of _)⟩, trivial⟩ ⟨⟨_, _, rfl, by with_unfolding_all rfl, RObj.eqo (rfl) (by rw [Nat.zero_add]; rfl) (fl_of _)⟩, trivial⟩ ⟨RV.of rfl, RV.slcE (.inr (by first | decide | (with_unfolding_all exact List.Mem.head _))) (by rw [Nat.zero_add]; rfl), trivial⟩ (RV.of rfl)) ?_
      refine Zz (k := ?_)
      refine Fn.mk (by first | exact .inl rfl | exact .inr rfl) rfl rfl ?_; exact ⟨[], [], by kernel_rfl, trivial, trivial, RV.of rfl⟩
  · rcases b with _ | ⟨b0, b⟩
    · refine Zz (k := ?_)
      refine WC.c (ZC.use ko [] [] [some (.cells (fl lnR (a0 :: a)) ((a0 :: a).length * 6) 50 true)] (by kernel_rfl) trivial ⟨⟨_, rfl, RObj.same (fl_of _)⟩, trivial⟩ ⟨RV.of rfl, trivial⟩ (RV.slc (.inr (Bk_mem.2 (.inr ⟨0, Nat.le_of_ble_eq_true (by kernel_rfl), rfl, by with_unfolding_all rfl⟩))))) ?_
      refine Zz (k := ?_)
      refine WQ.apz (k := 6) (n := (a0 :: a).length) (cs := fl lnR (a0 :: a)) rfl rfl rfl rfl rfl rfl rfl rfl (by with_unfolding_all rfl) (by with_unfolding_all rfl) (fun _ h => nomatch h) (fl_len _) rfl ?_
      refine Zz (k := ?_)
      refine WC.c (ZC.use kk [100] [none] [] (by kernel_rfl) ⟨⟨_, by with_unfolding_all rfl, RObj.eqc (by rw [List.append_nil]) (by rw [List.append_nil]) (fl_of _)⟩, trivial⟩ ⟨⟨_, _, rfl, by with_unfolding_all rfl, RObj.eqo (by rw [List.append_nil]) (by rw [List.append_nil]) (fl_of _)⟩, trivial⟩ ⟨RV.of rfl, RV.slcE (.inr (by first | decide | (with_unfolding_all exact List.Mem.head _))) (by rw [List.append_nil]), trivial⟩ (RV.of rfl)) ?_
      refine Zz (k := ?_)
      refine Fn.mk (by first | exact .inl rfl | exact .inr rfl) rfl rfl ?_; exact ⟨[], [], by kernel_rfl, trivial, trivial, RV.of rfl⟩
    · refine Zz (k := ?_)
      refine WC.c (ZC.use ko [] [] [some (.cells (fl lnR (a0 :: a)) ((a0 :: a).length * 6) 50 true)] (by kernel_rfl) trivial ⟨⟨_, rfl, RObj.same (fl_of _)⟩, trivial⟩ ⟨RV.of rfl, trivial⟩ (RV.slc (.inr (Bk_mem.2 (.inr ⟨0, Nat.le_of_ble_eq_true (by kernel_rfl), rfl, by with_unfolding_all rfl⟩))))) ?_
      refine Zz (k := ?_)
      refine WQ.apo (k := 6) (n := (a0 :: a).length) (m := (b0 :: b).length) (cs := fl lnR (a0 :: a)) (l := fl lnR (b0 :: b)) rfl rfl rfl rfl rfl rfl rfl rfl (by with_unfolding_all exact src_sl (b0 :: b) (by simp)) (by with_unfolding_all rfl) (by with_unfolding_all rfl) rfl (fun _ h => nomatch h) (fl_len _) rfl (by simp) (by omega) (by show _ * 64 ≤ _; omega) ?_
      refine Zz (k := ?_)
      refine WC.c (ZC.use kk [101] [none] [] (by kernel_rfl) ⟨⟨_, by with_unfolding_all rfl, RObj.eqc (by simp [fl]) (by rw [List.length_append]) (fl_of _)⟩, trivial⟩ ⟨⟨_, _, rfl, by with_unfolding_all rfl, RObj.eqo (by simp [fl]) (by rw [List.length_append]) (fl_of _)⟩, trivial⟩ ⟨RV.of rfl, RV.slcE (.inr (by first | decide | (with_unfolding_all exact List.Mem.head _))) (by rw [List.length_append]), trivial⟩ (RV.of rfl)) ?_
      refine Zz (k := ?_)
      refine Fn.mk (by first | exact .inl rfl | exact .inr rfl) rfl rfl ?_; exact ⟨[], [], by kernel_rfl, trivial, trivial, RV.of rfl⟩
end T
end
