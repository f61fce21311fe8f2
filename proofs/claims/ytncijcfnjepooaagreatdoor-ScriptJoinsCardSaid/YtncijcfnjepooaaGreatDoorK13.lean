/-
  A part of the proof of ScriptJoins: no statement of the seat is proved here.
-/
import Derived.Test.YtncijcfnjepooaaGreatDoorK12
set_option linter.unusedVariables false
set_option linter.unusedSimpArgs false
set_option linter.unnecessarySimpa false
set_option linter.unusedSectionVars false
set_option linter.constructorNameAsVariable false
set_option linter.deprecated false
section
set_option maxRecDepth 100000
set_option maxHeartbeats 0
open Go.X Go.Proofs Go Go.RowKit
namespace T
structure Ln where
  k : Int
  a : Int
  b : Int
  n : Int
  x : Int
  need : List Int
noncomputable def lnV (l : Ln) : Value := .agg ⟨[iv l.k, iv l.a, iv l.b, iv l.n, iv l.x, sl intR l.need]⟩
def lineR : List (List UInt8) → Except Int Ln
  | [] => .error 222
  | w :: ws => if kind w < 0 then .error 222 else if ws.length ≠ (word (kind w)).2.toNat + (if kind w = 0 then 1 else 0) then .error 223 else match (ws.take (word (kind w)).2.toNat).mapM num with
    | none => .error 224
    | some ns => if kind w = 0 then (match need (ws.getD 2 []) with
      | none => .error 224
      | some l => .ok ⟨0, ns.getD 0 0, 0, ns.getD 1 0, 0, l⟩) else if kind w ≤ 2 then .ok ⟨kind w, ns.getD 0 0, 0, ns.getD 1 0, 0, []⟩ else .ok ⟨kind w, ns.getD 0 0, ns.getD 1 0, ns.getD 2 0, ns.getD 3 0, []⟩
noncomputable def resE : Except Int Ln → Bool × Value
  | .error e => (true, fault e)
  | .ok l => (false, lnV l)
theorem resE_nad {r : Except Int Ln} {b : Bool} {v : Value} (h : resE r = (b, v)) : b = true → nad v = true := by
  intro e
  cases r with
  | error e' => obtain ⟨rfl, rfl⟩ := Prod.mk.inj h; rfl
  | ok l => obtain ⟨rfl, rfl⟩ := Prod.mk.inj h; simp at e
theorem of1_rdr {ws : List (List UInt8)} : ∀ v ∈ [sl strR ws], of1 v = true := by intro v hv; simp at hv; subst hv; rfl
/-- The numbers of a line, where they stand. -/
def fA (z : List Int) : List Int := [z.getD 0 0, 0, z.getD 1 0, 0]
def fB (z : List Int) : List Int := [z.getD 0 0, z.getD 1 0, z.getD 2 0, z.getD 3 0]
noncomputable def lnC (k : Int) (f : List Int) : Option Ob := some (.cells [iv k, iv (f.getD 0 0), iv (f.getD 1 0), iv (f.getD 2 0), iv (f.getD 3 0), .slice none 0 0] 6 50 false)
noncomputable def prO (l : List Nat) : Option Ob := some (.cells (l.map fun o => ptr 102 o) l.length 88 false)
noncomputable def zrO : Option Ob := some (.cells [iv 0, iv 0, iv 0, iv 0, iv 0, .slice none 0 0] 6 50 false)
theorem of_lnC {k : Int} {f : List Int} : ∀ v ∈ [iv k, iv (f.getD 0 0), iv (f.getD 1 0), iv (f.getD 2 0), iv (f.getD 3 0), .slice none 0 0], of1 v = true := by intro v hv; simp at hv; rcases hv with rfl | rfl | rfl | rfl | rfl | rfl <;> rfl
theorem of6 (k : Int) : ∀ v ∈ [iv k, iv 0, iv 0, iv 0, iv 0, .slice none 0 0], of1 v = true := by intro v hv; simp at hv; rcases hv with rfl | rfl | rfl <;> rfl
theorem k67n (s : List UInt8) (l : List Int) (hs : s.length ≤ 100000) (h : need s = some l) : ZC Tryz.prog 67 [jnk, str s] (hp 100 []) (sl intR l) (hp 100 []) := by
  unfold need at h
  split at h
  · rename_i e
    subst e
    have h := Option.some.inj h
    subst h
    exact k67a
  · rename_i e
    split at h
    · rename_i l' hl
      split at h
      · have h := Option.some.inj h
        subst h
        exact k67 s _ hs e hl (by assumption)
      · simp at h
    · simp at h
theorem of_zr : ∀ v ∈ [iv 0, iv 0, iv 0, iv 0, iv 0, .slice none 0 0], of1 v = true := by intro v hv; simp at hv; rcases hv with rfl | rfl <;> rfl
theorem lenE {n q : Nat} {z : Int} (hz : z = (q : Int)) (hq : q ≤ 1000) : (Int.ofNat n == IntKind.i64.wrap z) = decide (n = q) := by
  rw [IntKind.wrap_i64, hz, show ((q : Int) + 9223372036854775808) % 18446744073709551616 - 9223372036854775808 = (q : Int) from by omega]
  by_cases h : n = q
  · subst h; simp
  · simp only [decide_eq_false h]
    rw [beq_eq_false_iff_ne]
    intro e
    have e : (n : Int) = q := e
    omega
theorem k45A0 (w : List UInt8) (ws : List (List UInt8)) (b : Bool) (v : Value) (h : resE (lineR (w :: ws)) = (b, v)) (h0 : kind w = 1 ∨ kind w = 2) (hlen : ws.length ≠ 2) : ZCb b Tryz.prog 45 [ptr 100 0] (hp 100 [rdr (sl strR (w :: ws))]) v (hp 100 [none]) := by
  have hk : ¬ kind w < 0 := by omega
  have hq2 : (word (kind w)).2.toNat = 2 := by rcases h0 with e | e <;> rw [e] <;> rfl
  have hk0 : kind w ≠ 0 := by omega
  have hk2 : kind w ≤ 2 := by omega
  rw [lineR, if_neg hk, hq2] at h
  simp only [if_neg hk0, if_pos hk2, Nat.add_zero] at h
  have hkk : ∀ {B : Ban} {lo : Nat} {st : XS}, TC Tryz.prog B lo 63 [str w] st (iv (kind w)) st := ZC.pure (k63 w) ⟨RV.of rfl, trivial⟩ (RV.of rfl)
  rw [if_pos (by simpa using hlen)] at h
  generalize kind w = k at *
  refine ZCb.cw (fn := Tryz.f45) (x := cod Tryz.f45) (by kernel_rfl) (by kernel_rfl) (by kernel_rfl) (by kernel_rfl) (resE_nad h) ?_; conv => arg 4; whnf
  refine Zz (k := ?_)
  refine WC.c (ZC.use (k64 w ws) [100] [some (rdr (sl strR ws))] [] (by kernel_rfl) ⟨⟨_, by with_unfolding_all rfl, RObj.same of1_rdr⟩, trivial⟩ ⟨⟨_, rfl, RObj.same of1_rdr⟩, trivial⟩ ⟨RV.ptr (.inr (by decide)), trivial⟩ (RV.of rfl)) ?_
  refine Zz (k := ?_)
  refine WC.c hkk ?_
  refine Zz (k := ?_)
  refine WC.c (ZC.pure (k65 _) ⟨RV.eqv (congrArg Value.bool (by symm; simp; omega)) rfl, RV.of rfl, trivial⟩ (RV.tup trivial)) ?_
  refine Zz (k := ?_)
  refine WC.c (ZC.use (k35a k 0 0 0 0 (.slice none 0 0) rfl (by omega)) [102] [none] [some (.cells [ptr 102 1, ptr 102 3] 2 88 false)] (by kernel_rfl) ⟨⟨_, by with_unfolding_all rfl, RObj.same (of6 k)⟩, trivial⟩ ⟨⟨_, _, rfl, by with_unfolding_all rfl, RObj.same (of6 k)⟩, ⟨_, rfl, RObj.cells ⟨RV.ptr (.inr (Bk_mem.2 (.inl (by decide)))), RV.ptr (.inr (Bk_mem.2 (.inl (by decide)))), trivial⟩ (by intro v hv; simp at hv; rcases hv with rfl | rfl <;> rfl)⟩, trivial⟩ ⟨RV.ptr (.inr (by decide)), trivial⟩ (RV.slc (.inr (Bk_mem.2 (.inr ⟨0, Nat.le_of_ble_eq_true (by kernel_rfl), rfl, by with_unfolding_all rfl⟩))))) ?_
  refine Zz (k := ?_)
  refine CW.cb (k == 0) rfl (fun h1 h1' => ?_) (fun h1 h1' => ?_)
  · simp at h1; omega
  refine Zz (k := ?_)
  refine WC.p (TP.of (ZCb.pure (p65 _) ⟨RV.eqv (congrArg Value.bool ((lenE (q := 2) rfl (by omega)).trans (decide_eq_false hlen)).symm) rfl, RV.of rfl, trivial⟩ (RV.of rfl)) rfl) ?_
  refine Zz (k := ?_)
  refine QZ.pn h ?_
  exact ⟨rfl, rfl, [], [], by kernel_rfl, trivial, trivial⟩
theorem k45A1 (w w1 w2 : List UInt8) (b : Bool) (v : Value) (h : resE (lineR (w :: [w1, w2])) = (b, v)) (hw : ∀ u ∈ w :: [w1, w2], u.length ≤ 100000) (h0 : kind w = 1 ∨ kind w = 2) : ZCb b Tryz.prog 45 [ptr 100 0] (hp 100 [rdr (sl strR (w :: [w1, w2]))]) v (hp 100 [none]) := by
  have hk : ¬ kind w < 0 := by omega
  have hq2 : (word (kind w)).2.toNat = 2 := by rcases h0 with e | e <;> rw [e] <;> rfl
  have hk0 : kind w ≠ 0 := by omega
  have hk2 : kind w ≤ 2 := by omega
  rw [lineR, if_neg hk, hq2] at h
  simp only [if_neg hk0, if_pos hk2, Nat.add_zero] at h
  have hkk : ∀ {B : Ban} {lo : Nat} {st : XS}, TC Tryz.prog B lo 63 [str w] st (iv (kind w)) st := ZC.pure (k63 w) ⟨RV.of rfl, trivial⟩ (RV.of rfl)
  rw [if_neg (by simp)] at h
  generalize kind w = k at *
  refine ZCb.cw (fn := Tryz.f45) (x := cod Tryz.f45) (by kernel_rfl) (by kernel_rfl) (by kernel_rfl) (by kernel_rfl) (resE_nad h) ?_; conv => arg 4; whnf
  refine Zz (k := ?_)
  refine WC.c (ZC.use (k64 w [w1, w2]) [100] [some (rdr (sl strR [w1, w2]))] [] (by kernel_rfl) ⟨⟨_, by with_unfolding_all rfl, RObj.same of1_rdr⟩, trivial⟩ ⟨⟨_, rfl, RObj.same of1_rdr⟩, trivial⟩ ⟨RV.ptr (.inr (by decide)), trivial⟩ (RV.of rfl)) ?_
  refine Zz (k := ?_)
  refine WC.c hkk ?_
  refine Zz (k := ?_)
  refine WC.c (ZC.pure (k65 _) ⟨RV.eqv (congrArg Value.bool (by symm; simp; omega)) rfl, RV.of rfl, trivial⟩ (RV.tup trivial)) ?_
  refine Zz (k := ?_)
  refine WC.c (ZC.use (k35a k 0 0 0 0 (.slice none 0 0) rfl (by omega)) [102] [none] [some (.cells [ptr 102 1, ptr 102 3] 2 88 false)] (by kernel_rfl) ⟨⟨_, by with_unfolding_all rfl, RObj.same (of6 k)⟩, trivial⟩ ⟨⟨_, _, rfl, by with_unfolding_all rfl, RObj.same (of6 k)⟩, ⟨_, rfl, RObj.cells ⟨RV.ptr (.inr (Bk_mem.2 (.inl (by decide)))), RV.ptr (.inr (Bk_mem.2 (.inl (by decide)))), trivial⟩ (by intro v hv; simp at hv; rcases hv with rfl | rfl <;> rfl)⟩, trivial⟩ ⟨RV.ptr (.inr (by decide)), trivial⟩ (RV.slc (.inr (Bk_mem.2 (.inr ⟨0, Nat.le_of_ble_eq_true (by kernel_rfl), rfl, by with_unfolding_all rfl⟩))))) ?_
  refine Zz (k := ?_)
  refine CW.cb (k == 0) rfl (fun h1 h1' => ?_) (fun h1 h1' => ?_)
  · simp at h1; omega
  refine Zz (k := ?_)
  refine WC.c (ZC.pure (k65 _) ⟨RV.eqv (congrArg Value.bool (lenE (n := 2) (q := 2) rfl (by omega)).symm) rfl, RV.of rfl, trivial⟩ (RV.tup trivial)) ?_
  refine Zz (k := ?_)
  refine CW.inv (σ := List Int) (g := 100) (L := fun z => [(0, ptr 100 0), (2, ptr 101 0), (3, ptr 102 0), (5, iv 0), (31, .slice (some ⟨103, 0, none⟩) 2 2), (32, iv 2), (33, iv z.length)]) (l := fun z => [rdr (sl strR ([w1, w2].drop z.length)), zrO, lnC k (fA z), prO [1, 3]]) (fun z => ([w1, w2].take z.length).mapM num = some z ∧ z.length ≤ 2) (fun z => 2 - z.length) [] ⟨rfl, by simp⟩ [101, 102, 103] [] (gl _) (by kernel_rfl) rfl rfl ?_ trivial ⟨RV.pn rfl, RV.pn rfl, RV.pn rfl, RV.of rfl, RV.sn rfl, RV.of rfl, RV.of rfl, trivial⟩ ?_
  · refine AllO.som rfl rfl (RObj.same of1_rdr) (AllO.som rfl rfl (RObj.same of_zr) (AllO.som rfl rfl (RObj.same of_lnC) (AllO.som rfl rfl ?_ AllO.nil)))
    exact RObj.cells ⟨RV.pn rfl, RV.pn rfl, trivial⟩ (by intro v hv; simp at hv; rcases hv with rfl | rfl <;> rfl)
  · rintro z ⟨hz, hz2⟩
    rcases z with _ | ⟨n1, _ | ⟨n2, _ | ⟨n3, z⟩⟩⟩
    · rcases hn : num w1 with _ | n
      · refine Zz (k := ?_)
        refine WC.c (ZC.use (k64 w1 [w2]) [100] [some (rdr (sl strR [w2]))] [] (by kernel_rfl) ⟨⟨_, by with_unfolding_all rfl, RObj.same of1_rdr⟩, trivial⟩ ⟨⟨_, rfl, RObj.same of1_rdr⟩, trivial⟩ ⟨RV.ptr (.inr (by decide)), trivial⟩ (RV.of rfl)) ?_
        refine Zz (k := ?_)
        refine WC.p (TP.of (ZCb.pure (p66 w1 (hw _ (by simp)) hn) ⟨RV.jnk _, RV.of rfl, trivial⟩ (RV.of rfl)) rfl) ?_
        refine Zz (k := ?_)
        have h' : resE (.error 224) = (b, v) := by simpa [hn] using h
        refine QZ.pn h' ?_
        exact ⟨rfl, rfl, [], [], by kernel_rfl, trivial, trivial⟩
      · refine Zz (k := ?_)
        refine WC.c (ZC.use (k64 w1 [w2]) [100] [some (rdr (sl strR [w2]))] [] (by kernel_rfl) ⟨⟨_, by with_unfolding_all rfl, RObj.same of1_rdr⟩, trivial⟩ ⟨⟨_, rfl, RObj.same of1_rdr⟩, trivial⟩ ⟨RV.ptr (.inr (by decide)), trivial⟩ (RV.of rfl)) ?_
        refine Zz (k := ?_)
        refine WC.c (ZC.pure (k66 w1 n (hw _ (by simp)) hn) ⟨RV.jnk _, RV.of rfl, trivial⟩ (RV.of rfl)) ?_
        refine Zz (k := ?_)
        refine ⟨[n], ⟨⟨by simp [hn], by simp⟩, by simp⟩, To.mk [101, 102, 103] [] ?_ ⟨RV.pn rfl, RV.pn rfl, RV.pn rfl, RV.of rfl, RV.sn rfl, RV.of rfl, RV.iw rfl (by simp), trivial⟩ trivial (by kernel_rfl) rfl rfl⟩
        refine AllO.som rfl rfl (RObj.same of1_rdr) (AllO.som rfl rfl (RObj.same of_zr) (AllO.som rfl rfl (RObj.same of_lnC) (AllO.som rfl rfl ?_ AllO.nil)))
        exact RObj.cells ⟨RV.pn rfl, RV.pn rfl, trivial⟩ (by intro v hv; simp at hv; rcases hv with rfl | rfl <;> rfl)
    · have hz1 : num w1 = some n1 := by
        obtain ⟨c, h1, h2⟩ := (mapM_get hz).2 0 w1 rfl
        simp at h1; subst h1; exact h2
      rcases hn : num w2 with _ | n
      · refine Zz (k := ?_)
        refine WC.c (ZC.use (k64 w2 []) [100] [some (rdr (sl strR []))] [] (by kernel_rfl) ⟨⟨_, by with_unfolding_all rfl, RObj.same of1_rdr⟩, trivial⟩ ⟨⟨_, rfl, RObj.same of1_rdr⟩, trivial⟩ ⟨RV.ptr (.inr (by decide)), trivial⟩ (RV.of rfl)) ?_
        refine Zz (k := ?_)
        refine WC.p (TP.of (ZCb.pure (p66 w2 (hw _ (by simp)) hn) ⟨RV.jnk _, RV.of rfl, trivial⟩ (RV.of rfl)) rfl) ?_
        refine Zz (k := ?_)
        have h' : resE (.error 224) = (b, v) := by simpa [hn, hz1] using h
        refine QZ.pn h' ?_
        exact ⟨rfl, rfl, [], [], by kernel_rfl, trivial, trivial⟩
      · refine Zz (k := ?_)
        refine WC.c (ZC.use (k64 w2 []) [100] [some (rdr (sl strR []))] [] (by kernel_rfl) ⟨⟨_, by with_unfolding_all rfl, RObj.same of1_rdr⟩, trivial⟩ ⟨⟨_, rfl, RObj.same of1_rdr⟩, trivial⟩ ⟨RV.ptr (.inr (by decide)), trivial⟩ (RV.of rfl)) ?_
        refine Zz (k := ?_)
        refine WC.c (ZC.pure (k66 w2 n (hw _ (by simp)) hn) ⟨RV.jnk _, RV.of rfl, trivial⟩ (RV.of rfl)) ?_
        refine Zz (k := ?_)
        refine ⟨[n1, n], ⟨⟨by simp [hn, hz1], by simp⟩, by simp⟩, To.mk [101, 102, 103] [] ?_ ⟨RV.pn rfl, RV.pn rfl, RV.pn rfl, RV.of rfl, RV.sn rfl, RV.of rfl, RV.iw rfl (by simp), trivial⟩ trivial (by kernel_rfl) rfl rfl⟩
        refine AllO.som rfl rfl (RObj.same of1_rdr) (AllO.som rfl rfl (RObj.same of_zr) (AllO.som rfl rfl (RObj.same of_lnC) (AllO.som rfl rfl ?_ AllO.nil)))
        exact RObj.cells ⟨RV.pn rfl, RV.pn rfl, trivial⟩ (by intro v hv; simp at hv; rcases hv with rfl | rfl <;> rfl)
    · have h' : resE (.ok ⟨k, n1, 0, n2, 0, []⟩) = (b, v) := by
        have hz : [w1, w2].mapM num = some [n1, n2] := hz
        rw [show List.take 2 [w1, w2] = [w1, w2] from rfl, hz] at h
        simpa using h
      refine Zz (k := ?_)
      refine QZ.rt h' ?_
      refine Fn.mk (by first | exact .inl rfl | exact .inr rfl) rfl rfl ?_
      exact ⟨[], [], by kernel_rfl, trivial, trivial, RV.agg ⟨RV.of rfl, RV.of rfl, RV.of rfl, RV.of rfl, RV.of rfl, RV.nils, trivial⟩ (by intro v hv; simp at hv; rcases hv with rfl | rfl | rfl | rfl | rfl | rfl <;> rfl)⟩
    · simp at hz2
theorem k45B0 (w : List UInt8) (ws : List (List UInt8)) (b : Bool) (v : Value) (h : resE (lineR (w :: ws)) = (b, v)) (h0 : kind w = 3 ∨ kind w = 4) (hlen : ws.length ≠ 2) : ZCb b Tryz.prog 45 [ptr 100 0] (hp 100 [rdr (sl strR (w :: ws))]) v (hp 100 [none]) := by
  have hk : ¬ kind w < 0 := by omega
  have hq2 : (word (kind w)).2.toNat = 2 := by rcases h0 with e | e <;> rw [e] <;> rfl
  have hk0 : kind w ≠ 0 := by omega
  have hk2 : ¬ kind w ≤ 2 := by omega
  rw [lineR, if_neg hk, hq2] at h
  simp only [if_neg hk0, if_neg hk2, Nat.add_zero] at h
  have hkk : ∀ {B : Ban} {lo : Nat} {st : XS}, TC Tryz.prog B lo 63 [str w] st (iv (kind w)) st := ZC.pure (k63 w) ⟨RV.of rfl, trivial⟩ (RV.of rfl)
  rw [if_pos (by simpa using hlen)] at h
  generalize kind w = k at *
  have hpl : ZC Tryz.prog 35 [ptr 100 0] (hp 100 [lnO k 0 0 0 0 (.slice none 0 0)]) (.slice (some ⟨101, 0, none⟩) 2 4) (hp 100 [lnO k 0 0 0 0 (.slice none 0 0), some (.cells [ptr 100 1, ptr 100 2, ptr 100 3, ptr 100 4] 4 88 false)]) := hq2 ▸ k35b k 0 0 0 0 (.slice none 0 0) rfl (by omega)
  refine ZCb.cw (fn := Tryz.f45) (x := cod Tryz.f45) (by kernel_rfl) (by kernel_rfl) (by kernel_rfl) (by kernel_rfl) (resE_nad h) ?_; conv => arg 4; whnf
  refine Zz (k := ?_)
  refine WC.c (ZC.use (k64 w ws) [100] [some (rdr (sl strR ws))] [] (by kernel_rfl) ⟨⟨_, by with_unfolding_all rfl, RObj.same of1_rdr⟩, trivial⟩ ⟨⟨_, rfl, RObj.same of1_rdr⟩, trivial⟩ ⟨RV.ptr (.inr (by decide)), trivial⟩ (RV.of rfl)) ?_
  refine Zz (k := ?_)
  refine WC.c hkk ?_
  refine Zz (k := ?_)
  refine WC.c (ZC.pure (k65 _) ⟨RV.eqv (congrArg Value.bool (by symm; simp; omega)) rfl, RV.of rfl, trivial⟩ (RV.tup trivial)) ?_
  refine Zz (k := ?_)
  refine WC.c (ZC.use hpl [102] [none] [some (.cells [ptr 102 1, ptr 102 2, ptr 102 3, ptr 102 4] 4 88 false)] (by kernel_rfl) ⟨⟨_, by with_unfolding_all rfl, RObj.same (of6 k)⟩, trivial⟩ ⟨⟨_, _, rfl, by with_unfolding_all rfl, RObj.same (of6 k)⟩, ⟨_, rfl, RObj.cells ⟨RV.ptr (.inr (Bk_mem.2 (.inl (by decide)))), RV.ptr (.inr (Bk_mem.2 (.inl (by decide)))), RV.ptr (.inr (Bk_mem.2 (.inl (by decide)))), RV.ptr (.inr (Bk_mem.2 (.inl (by decide)))), trivial⟩ (by intro v hv; simp at hv; rcases hv with rfl | rfl | rfl | rfl <;> rfl)⟩, trivial⟩ ⟨RV.ptr (.inr (by decide)), trivial⟩ (RV.slc (.inr (Bk_mem.2 (.inr ⟨0, Nat.le_of_ble_eq_true (by kernel_rfl), rfl, by with_unfolding_all rfl⟩))))) ?_
  refine Zz (k := ?_)
  refine CW.cb (k == 0) rfl (fun h1 h1' => ?_) (fun h1 h1' => ?_)
  · simp at h1; omega
  refine Zz (k := ?_)
  refine WC.p (TP.of (ZCb.pure (p65 _) ⟨RV.eqv (congrArg Value.bool ((lenE (q := 2) rfl (by omega)).trans (decide_eq_false hlen)).symm) rfl, RV.of rfl, trivial⟩ (RV.of rfl)) rfl) ?_
  refine Zz (k := ?_)
  refine QZ.pn h ?_
  exact ⟨rfl, rfl, [], [], by kernel_rfl, trivial, trivial⟩
theorem k45B1 (w w1 w2 : List UInt8) (b : Bool) (v : Value) (h : resE (lineR (w :: [w1, w2])) = (b, v)) (hw : ∀ u ∈ w :: [w1, w2], u.length ≤ 100000) (h0 : kind w = 3 ∨ kind w = 4) : ZCb b Tryz.prog 45 [ptr 100 0] (hp 100 [rdr (sl strR (w :: [w1, w2]))]) v (hp 100 [none]) := by
  have hk : ¬ kind w < 0 := by omega
  have hq2 : (word (kind w)).2.toNat = 2 := by rcases h0 with e | e <;> rw [e] <;> rfl
  have hk0 : kind w ≠ 0 := by omega
  have hk2 : ¬ kind w ≤ 2 := by omega
  rw [lineR, if_neg hk, hq2] at h
  simp only [if_neg hk0, if_neg hk2, Nat.add_zero] at h
  have hkk : ∀ {B : Ban} {lo : Nat} {st : XS}, TC Tryz.prog B lo 63 [str w] st (iv (kind w)) st := ZC.pure (k63 w) ⟨RV.of rfl, trivial⟩ (RV.of rfl)
  rw [if_neg (by simp)] at h
  generalize kind w = k at *
  have hpl : ZC Tryz.prog 35 [ptr 100 0] (hp 100 [lnO k 0 0 0 0 (.slice none 0 0)]) (.slice (some ⟨101, 0, none⟩) 2 4) (hp 100 [lnO k 0 0 0 0 (.slice none 0 0), some (.cells [ptr 100 1, ptr 100 2, ptr 100 3, ptr 100 4] 4 88 false)]) := hq2 ▸ k35b k 0 0 0 0 (.slice none 0 0) rfl (by omega)
  refine ZCb.cw (fn := Tryz.f45) (x := cod Tryz.f45) (by kernel_rfl) (by kernel_rfl) (by kernel_rfl) (by kernel_rfl) (resE_nad h) ?_; conv => arg 4; whnf
  refine Zz (k := ?_)
  refine WC.c (ZC.use (k64 w [w1, w2]) [100] [some (rdr (sl strR [w1, w2]))] [] (by kernel_rfl) ⟨⟨_, by with_unfolding_all rfl, RObj.same of1_rdr⟩, trivial⟩ ⟨⟨_, rfl, RObj.same of1_rdr⟩, trivial⟩ ⟨RV.ptr (.inr (by decide)), trivial⟩ (RV.of rfl)) ?_
  refine Zz (k := ?_)
  refine WC.c hkk ?_
  refine Zz (k := ?_)
  refine WC.c (ZC.pure (k65 _) ⟨RV.eqv (congrArg Value.bool (by symm; simp; omega)) rfl, RV.of rfl, trivial⟩ (RV.tup trivial)) ?_
  refine Zz (k := ?_)
  refine WC.c (ZC.use hpl [102] [none] [some (.cells [ptr 102 1, ptr 102 2, ptr 102 3, ptr 102 4] 4 88 false)] (by kernel_rfl) ⟨⟨_, by with_unfolding_all rfl, RObj.same (of6 k)⟩, trivial⟩ ⟨⟨_, _, rfl, by with_unfolding_all rfl, RObj.same (of6 k)⟩, ⟨_, rfl, RObj.cells ⟨RV.ptr (.inr (Bk_mem.2 (.inl (by decide)))), RV.ptr (.inr (Bk_mem.2 (.inl (by decide)))), RV.ptr (.inr (Bk_mem.2 (.inl (by decide)))), RV.ptr (.inr (Bk_mem.2 (.inl (by decide)))), trivial⟩ (by intro v hv; simp at hv; rcases hv with rfl | rfl | rfl | rfl <;> rfl)⟩, trivial⟩ ⟨RV.ptr (.inr (by decide)), trivial⟩ (RV.slc (.inr (Bk_mem.2 (.inr ⟨0, Nat.le_of_ble_eq_true (by kernel_rfl), rfl, by with_unfolding_all rfl⟩))))) ?_
  refine Zz (k := ?_)
  refine CW.cb (k == 0) rfl (fun h1 h1' => ?_) (fun h1 h1' => ?_)
  · simp at h1; omega
  refine Zz (k := ?_)
  refine WC.c (ZC.pure (k65 _) ⟨RV.eqv (congrArg Value.bool (lenE (n := 2) (q := 2) rfl (by omega)).symm) rfl, RV.of rfl, trivial⟩ (RV.tup trivial)) ?_
  refine Zz (k := ?_)
  refine CW.inv (σ := List Int) (g := 100) (L := fun z => [(0, ptr 100 0), (2, ptr 101 0), (3, ptr 102 0), (5, iv 0), (31, .slice (some ⟨103, 0, none⟩) 2 4), (32, iv 2), (33, iv z.length)]) (l := fun z => [rdr (sl strR ([w1, w2].drop z.length)), zrO, lnC k (fB z), prO [1, 2, 3, 4]]) (fun z => ([w1, w2].take z.length).mapM num = some z ∧ z.length ≤ 2) (fun z => 2 - z.length) [] ⟨rfl, by simp⟩ [101, 102, 103] [] (gl _) (by kernel_rfl) rfl rfl ?_ trivial ⟨RV.pn rfl, RV.pn rfl, RV.pn rfl, RV.of rfl, RV.sn rfl, RV.of rfl, RV.of rfl, trivial⟩ ?_
  · refine AllO.som rfl rfl (RObj.same of1_rdr) (AllO.som rfl rfl (RObj.same of_zr) (AllO.som rfl rfl (RObj.same of_lnC) (AllO.som rfl rfl ?_ AllO.nil)))
    exact RObj.cells ⟨RV.pn rfl, RV.pn rfl, RV.pn rfl, RV.pn rfl, trivial⟩ (by intro v hv; simp at hv; rcases hv with rfl | rfl | rfl | rfl <;> rfl)
  · rintro z ⟨hz, hz2⟩
    rcases z with _ | ⟨n1, _ | ⟨n2, _ | ⟨n3, z⟩⟩⟩
    · rcases hn : num w1 with _ | n
      · refine Zz (k := ?_)
        refine WC.c (ZC.use (k64 w1 [w2]) [100] [some (rdr (sl strR [w2]))] [] (by kernel_rfl) ⟨⟨_, by with_unfolding_all rfl, RObj.same of1_rdr⟩, trivial⟩ ⟨⟨_, rfl, RObj.same of1_rdr⟩, trivial⟩ ⟨RV.ptr (.inr (by decide)), trivial⟩ (RV.of rfl)) ?_
        refine Zz (k := ?_)
        refine WC.p (TP.of (ZCb.pure (p66 w1 (hw _ (by simp)) hn) ⟨RV.jnk _, RV.of rfl, trivial⟩ (RV.of rfl)) rfl) ?_
        refine Zz (k := ?_)
        have h' : resE (.error 224) = (b, v) := by simpa [hn] using h
        refine QZ.pn h' ?_
        exact ⟨rfl, rfl, [], [], by kernel_rfl, trivial, trivial⟩
      · refine Zz (k := ?_)
        refine WC.c (ZC.use (k64 w1 [w2]) [100] [some (rdr (sl strR [w2]))] [] (by kernel_rfl) ⟨⟨_, by with_unfolding_all rfl, RObj.same of1_rdr⟩, trivial⟩ ⟨⟨_, rfl, RObj.same of1_rdr⟩, trivial⟩ ⟨RV.ptr (.inr (by decide)), trivial⟩ (RV.of rfl)) ?_
        refine Zz (k := ?_)
        refine WC.c (ZC.pure (k66 w1 n (hw _ (by simp)) hn) ⟨RV.jnk _, RV.of rfl, trivial⟩ (RV.of rfl)) ?_
        refine Zz (k := ?_)
        refine ⟨[n], ⟨⟨by simp [hn], by simp⟩, by simp⟩, To.mk [101, 102, 103] [] ?_ ⟨RV.pn rfl, RV.pn rfl, RV.pn rfl, RV.of rfl, RV.sn rfl, RV.of rfl, RV.iw rfl (by simp), trivial⟩ trivial (by kernel_rfl) rfl rfl⟩
        refine AllO.som rfl rfl (RObj.same of1_rdr) (AllO.som rfl rfl (RObj.same of_zr) (AllO.som rfl rfl (RObj.same of_lnC) (AllO.som rfl rfl ?_ AllO.nil)))
        exact RObj.cells ⟨RV.pn rfl, RV.pn rfl, RV.pn rfl, RV.pn rfl, trivial⟩ (by intro v hv; simp at hv; rcases hv with rfl | rfl | rfl | rfl <;> rfl)
    · have hz1 : num w1 = some n1 := by
        obtain ⟨c, h1, h2⟩ := (mapM_get hz).2 0 w1 rfl
        simp at h1; subst h1; exact h2
      rcases hn : num w2 with _ | n
      · refine Zz (k := ?_)
        refine WC.c (ZC.use (k64 w2 []) [100] [some (rdr (sl strR []))] [] (by kernel_rfl) ⟨⟨_, by with_unfolding_all rfl, RObj.same of1_rdr⟩, trivial⟩ ⟨⟨_, rfl, RObj.same of1_rdr⟩, trivial⟩ ⟨RV.ptr (.inr (by decide)), trivial⟩ (RV.of rfl)) ?_
        refine Zz (k := ?_)
        refine WC.p (TP.of (ZCb.pure (p66 w2 (hw _ (by simp)) hn) ⟨RV.jnk _, RV.of rfl, trivial⟩ (RV.of rfl)) rfl) ?_
        refine Zz (k := ?_)
        have h' : resE (.error 224) = (b, v) := by simpa [hn, hz1] using h
        refine QZ.pn h' ?_
        exact ⟨rfl, rfl, [], [], by kernel_rfl, trivial, trivial⟩
      · refine Zz (k := ?_)
        refine WC.c (ZC.use (k64 w2 []) [100] [some (rdr (sl strR []))] [] (by kernel_rfl) ⟨⟨_, by with_unfolding_all rfl, RObj.same of1_rdr⟩, trivial⟩ ⟨⟨_, rfl, RObj.same of1_rdr⟩, trivial⟩ ⟨RV.ptr (.inr (by decide)), trivial⟩ (RV.of rfl)) ?_
        refine Zz (k := ?_)
        refine WC.c (ZC.pure (k66 w2 n (hw _ (by simp)) hn) ⟨RV.jnk _, RV.of rfl, trivial⟩ (RV.of rfl)) ?_
        refine Zz (k := ?_)
        refine ⟨[n1, n], ⟨⟨by simp [hn, hz1], by simp⟩, by simp⟩, To.mk [101, 102, 103] [] ?_ ⟨RV.pn rfl, RV.pn rfl, RV.pn rfl, RV.of rfl, RV.sn rfl, RV.of rfl, RV.iw rfl (by simp), trivial⟩ trivial (by kernel_rfl) rfl rfl⟩
        refine AllO.som rfl rfl (RObj.same of1_rdr) (AllO.som rfl rfl (RObj.same of_zr) (AllO.som rfl rfl (RObj.same of_lnC) (AllO.som rfl rfl ?_ AllO.nil)))
        exact RObj.cells ⟨RV.pn rfl, RV.pn rfl, RV.pn rfl, RV.pn rfl, trivial⟩ (by intro v hv; simp at hv; rcases hv with rfl | rfl | rfl | rfl <;> rfl)
    · have h' : resE (.ok ⟨k, n1, n2, 0, 0, []⟩) = (b, v) := by
        have hz : [w1, w2].mapM num = some [n1, n2] := hz
        rw [show List.take 2 [w1, w2] = [w1, w2] from rfl, hz] at h
        simpa using h
      refine Zz (k := ?_)
      refine QZ.rt h' ?_
      refine Fn.mk (by first | exact .inl rfl | exact .inr rfl) rfl rfl ?_
      exact ⟨[], [], by kernel_rfl, trivial, trivial, RV.agg ⟨RV.of rfl, RV.of rfl, RV.of rfl, RV.of rfl, RV.of rfl, RV.nils, trivial⟩ (by intro v hv; simp at hv; rcases hv with rfl | rfl | rfl | rfl | rfl | rfl <;> rfl)⟩
    · simp at hz2
theorem k45C0 (w : List UInt8) (ws : List (List UInt8)) (b : Bool) (v : Value) (h : resE (lineR (w :: ws)) = (b, v)) (h0 : kind w = 5 ∨ kind w = 6) (hlen : ws.length ≠ 1) : ZCb b Tryz.prog 45 [ptr 100 0] (hp 100 [rdr (sl strR (w :: ws))]) v (hp 100 [none]) := by
  have hk : ¬ kind w < 0 := by omega
  have hq2 : (word (kind w)).2.toNat = 1 := by rcases h0 with e | e <;> rw [e] <;> rfl
  have hk0 : kind w ≠ 0 := by omega
  have hk2 : ¬ kind w ≤ 2 := by omega
  rw [lineR, if_neg hk, hq2] at h
  simp only [if_neg hk0, if_neg hk2, Nat.add_zero] at h
  have hkk : ∀ {B : Ban} {lo : Nat} {st : XS}, TC Tryz.prog B lo 63 [str w] st (iv (kind w)) st := ZC.pure (k63 w) ⟨RV.of rfl, trivial⟩ (RV.of rfl)
  rw [if_pos (by simpa using hlen)] at h
  generalize kind w = k at *
  have hpl : ZC Tryz.prog 35 [ptr 100 0] (hp 100 [lnO k 0 0 0 0 (.slice none 0 0)]) (.slice (some ⟨101, 0, none⟩) 1 4) (hp 100 [lnO k 0 0 0 0 (.slice none 0 0), some (.cells [ptr 100 1, ptr 100 2, ptr 100 3, ptr 100 4] 4 88 false)]) := hq2 ▸ k35b k 0 0 0 0 (.slice none 0 0) rfl (by omega)
  refine ZCb.cw (fn := Tryz.f45) (x := cod Tryz.f45) (by kernel_rfl) (by kernel_rfl) (by kernel_rfl) (by kernel_rfl) (resE_nad h) ?_; conv => arg 4; whnf
  refine Zz (k := ?_)
  refine WC.c (ZC.use (k64 w ws) [100] [some (rdr (sl strR ws))] [] (by kernel_rfl) ⟨⟨_, by with_unfolding_all rfl, RObj.same of1_rdr⟩, trivial⟩ ⟨⟨_, rfl, RObj.same of1_rdr⟩, trivial⟩ ⟨RV.ptr (.inr (by decide)), trivial⟩ (RV.of rfl)) ?_
  refine Zz (k := ?_)
  refine WC.c hkk ?_
  refine Zz (k := ?_)
  refine WC.c (ZC.pure (k65 _) ⟨RV.eqv (congrArg Value.bool (by symm; simp; omega)) rfl, RV.of rfl, trivial⟩ (RV.tup trivial)) ?_
  refine Zz (k := ?_)
  refine WC.c (ZC.use hpl [102] [none] [some (.cells [ptr 102 1, ptr 102 2, ptr 102 3, ptr 102 4] 4 88 false)] (by kernel_rfl) ⟨⟨_, by with_unfolding_all rfl, RObj.same (of6 k)⟩, trivial⟩ ⟨⟨_, _, rfl, by with_unfolding_all rfl, RObj.same (of6 k)⟩, ⟨_, rfl, RObj.cells ⟨RV.ptr (.inr (Bk_mem.2 (.inl (by decide)))), RV.ptr (.inr (Bk_mem.2 (.inl (by decide)))), RV.ptr (.inr (Bk_mem.2 (.inl (by decide)))), RV.ptr (.inr (Bk_mem.2 (.inl (by decide)))), trivial⟩ (by intro v hv; simp at hv; rcases hv with rfl | rfl | rfl | rfl <;> rfl)⟩, trivial⟩ ⟨RV.ptr (.inr (by decide)), trivial⟩ (RV.slc (.inr (Bk_mem.2 (.inr ⟨0, Nat.le_of_ble_eq_true (by kernel_rfl), rfl, by with_unfolding_all rfl⟩))))) ?_
  refine Zz (k := ?_)
  refine CW.cb (k == 0) rfl (fun h1 h1' => ?_) (fun h1 h1' => ?_)
  · simp at h1; omega
  refine Zz (k := ?_)
  refine WC.p (TP.of (ZCb.pure (p65 _) ⟨RV.eqv (congrArg Value.bool ((lenE (q := 1) rfl (by omega)).trans (decide_eq_false hlen)).symm) rfl, RV.of rfl, trivial⟩ (RV.of rfl)) rfl) ?_
  refine Zz (k := ?_)
  refine QZ.pn h ?_
  exact ⟨rfl, rfl, [], [], by kernel_rfl, trivial, trivial⟩
theorem k45C1 (w w1 : List UInt8) (b : Bool) (v : Value) (h : resE (lineR (w :: [w1])) = (b, v)) (hw : ∀ u ∈ w :: [w1], u.length ≤ 100000) (h0 : kind w = 5 ∨ kind w = 6) : ZCb b Tryz.prog 45 [ptr 100 0] (hp 100 [rdr (sl strR (w :: [w1]))]) v (hp 100 [none]) := by
  have hk : ¬ kind w < 0 := by omega
  have hq2 : (word (kind w)).2.toNat = 1 := by rcases h0 with e | e <;> rw [e] <;> rfl
  have hk0 : kind w ≠ 0 := by omega
  have hk2 : ¬ kind w ≤ 2 := by omega
  rw [lineR, if_neg hk, hq2] at h
  simp only [if_neg hk0, if_neg hk2, Nat.add_zero] at h
  have hkk : ∀ {B : Ban} {lo : Nat} {st : XS}, TC Tryz.prog B lo 63 [str w] st (iv (kind w)) st := ZC.pure (k63 w) ⟨RV.of rfl, trivial⟩ (RV.of rfl)
  rw [if_neg (by simp)] at h
  generalize kind w = k at *
  have hpl : ZC Tryz.prog 35 [ptr 100 0] (hp 100 [lnO k 0 0 0 0 (.slice none 0 0)]) (.slice (some ⟨101, 0, none⟩) 1 4) (hp 100 [lnO k 0 0 0 0 (.slice none 0 0), some (.cells [ptr 100 1, ptr 100 2, ptr 100 3, ptr 100 4] 4 88 false)]) := hq2 ▸ k35b k 0 0 0 0 (.slice none 0 0) rfl (by omega)
  refine ZCb.cw (fn := Tryz.f45) (x := cod Tryz.f45) (by kernel_rfl) (by kernel_rfl) (by kernel_rfl) (by kernel_rfl) (resE_nad h) ?_; conv => arg 4; whnf
  refine Zz (k := ?_)
  refine WC.c (ZC.use (k64 w [w1]) [100] [some (rdr (sl strR [w1]))] [] (by kernel_rfl) ⟨⟨_, by with_unfolding_all rfl, RObj.same of1_rdr⟩, trivial⟩ ⟨⟨_, rfl, RObj.same of1_rdr⟩, trivial⟩ ⟨RV.ptr (.inr (by decide)), trivial⟩ (RV.of rfl)) ?_
  refine Zz (k := ?_)
  refine WC.c hkk ?_
  refine Zz (k := ?_)
  refine WC.c (ZC.pure (k65 _) ⟨RV.eqv (congrArg Value.bool (by symm; simp; omega)) rfl, RV.of rfl, trivial⟩ (RV.tup trivial)) ?_
  refine Zz (k := ?_)
  refine WC.c (ZC.use hpl [102] [none] [some (.cells [ptr 102 1, ptr 102 2, ptr 102 3, ptr 102 4] 4 88 false)] (by kernel_rfl) ⟨⟨_, by with_unfolding_all rfl, RObj.same (of6 k)⟩, trivial⟩ ⟨⟨_, _, rfl, by with_unfolding_all rfl, RObj.same (of6 k)⟩, ⟨_, rfl, RObj.cells ⟨RV.ptr (.inr (Bk_mem.2 (.inl (by decide)))), RV.ptr (.inr (Bk_mem.2 (.inl (by decide)))), RV.ptr (.inr (Bk_mem.2 (.inl (by decide)))), RV.ptr (.inr (Bk_mem.2 (.inl (by decide)))), trivial⟩ (by intro v hv; simp at hv; rcases hv with rfl | rfl | rfl | rfl <;> rfl)⟩, trivial⟩ ⟨RV.ptr (.inr (by decide)), trivial⟩ (RV.slc (.inr (Bk_mem.2 (.inr ⟨0, Nat.le_of_ble_eq_true (by kernel_rfl), rfl, by with_unfolding_all rfl⟩))))) ?_
  refine Zz (k := ?_)
  refine CW.cb (k == 0) rfl (fun h1 h1' => ?_) (fun h1 h1' => ?_)
  · simp at h1; omega
  refine Zz (k := ?_)
  refine WC.c (ZC.pure (k65 _) ⟨RV.eqv (congrArg Value.bool (lenE (n := 1) (q := 1) rfl (by omega)).symm) rfl, RV.of rfl, trivial⟩ (RV.tup trivial)) ?_
  refine Zz (k := ?_)
  refine CW.inv (σ := List Int) (g := 100) (L := fun z => [(0, ptr 100 0), (2, ptr 101 0), (3, ptr 102 0), (5, iv 0), (31, .slice (some ⟨103, 0, none⟩) 1 4), (32, iv 1), (33, iv z.length)]) (l := fun z => [rdr (sl strR ([w1].drop z.length)), zrO, lnC k (fB z), prO [1, 2, 3, 4]]) (fun z => ([w1].take z.length).mapM num = some z ∧ z.length ≤ 1) (fun z => 1 - z.length) [] ⟨rfl, by simp⟩ [101, 102, 103] [] (gl _) (by kernel_rfl) rfl rfl ?_ trivial ⟨RV.pn rfl, RV.pn rfl, RV.pn rfl, RV.of rfl, RV.sn rfl, RV.of rfl, RV.of rfl, trivial⟩ ?_
  · refine AllO.som rfl rfl (RObj.same of1_rdr) (AllO.som rfl rfl (RObj.same of_zr) (AllO.som rfl rfl (RObj.same of_lnC) (AllO.som rfl rfl ?_ AllO.nil)))
    exact RObj.cells ⟨RV.pn rfl, RV.pn rfl, RV.pn rfl, RV.pn rfl, trivial⟩ (by intro v hv; simp at hv; rcases hv with rfl | rfl | rfl | rfl <;> rfl)
  · rintro z ⟨hz, hz2⟩
    rcases z with _ | ⟨n1, _ | ⟨n2, z⟩⟩
    · rcases hn : num w1 with _ | n
      · refine Zz (k := ?_)
        refine WC.c (ZC.use (k64 w1 []) [100] [some (rdr (sl strR []))] [] (by kernel_rfl) ⟨⟨_, by with_unfolding_all rfl, RObj.same of1_rdr⟩, trivial⟩ ⟨⟨_, rfl, RObj.same of1_rdr⟩, trivial⟩ ⟨RV.ptr (.inr (by decide)), trivial⟩ (RV.of rfl)) ?_
        refine Zz (k := ?_)
        refine WC.p (TP.of (ZCb.pure (p66 w1 (hw _ (by simp)) hn) ⟨RV.jnk _, RV.of rfl, trivial⟩ (RV.of rfl)) rfl) ?_
        refine Zz (k := ?_)
        have h' : resE (.error 224) = (b, v) := by simpa [hn] using h
        refine QZ.pn h' ?_
        exact ⟨rfl, rfl, [], [], by kernel_rfl, trivial, trivial⟩
      · refine Zz (k := ?_)
        refine WC.c (ZC.use (k64 w1 []) [100] [some (rdr (sl strR []))] [] (by kernel_rfl) ⟨⟨_, by with_unfolding_all rfl, RObj.same of1_rdr⟩, trivial⟩ ⟨⟨_, rfl, RObj.same of1_rdr⟩, trivial⟩ ⟨RV.ptr (.inr (by decide)), trivial⟩ (RV.of rfl)) ?_
        refine Zz (k := ?_)
        refine WC.c (ZC.pure (k66 w1 n (hw _ (by simp)) hn) ⟨RV.jnk _, RV.of rfl, trivial⟩ (RV.of rfl)) ?_
        refine Zz (k := ?_)
        refine ⟨[n], ⟨⟨by simp [hn], by simp⟩, by simp⟩, To.mk [101, 102, 103] [] ?_ ⟨RV.pn rfl, RV.pn rfl, RV.pn rfl, RV.of rfl, RV.sn rfl, RV.of rfl, RV.iw rfl (by simp), trivial⟩ trivial (by kernel_rfl) rfl rfl⟩
        refine AllO.som rfl rfl (RObj.same of1_rdr) (AllO.som rfl rfl (RObj.same of_zr) (AllO.som rfl rfl (RObj.same of_lnC) (AllO.som rfl rfl ?_ AllO.nil)))
        exact RObj.cells ⟨RV.pn rfl, RV.pn rfl, RV.pn rfl, RV.pn rfl, trivial⟩ (by intro v hv; simp at hv; rcases hv with rfl | rfl | rfl | rfl <;> rfl)
    · have h' : resE (.ok ⟨k, n1, 0, 0, 0, []⟩) = (b, v) := by
        have hz : [w1].mapM num = some [n1] := hz
        rw [show List.take 1 [w1] = [w1] from rfl, hz] at h
        simpa using h
      refine Zz (k := ?_)
      refine QZ.rt h' ?_
      refine Fn.mk (by first | exact .inl rfl | exact .inr rfl) rfl rfl ?_
      exact ⟨[], [], by kernel_rfl, trivial, trivial, RV.agg ⟨RV.of rfl, RV.of rfl, RV.of rfl, RV.of rfl, RV.of rfl, RV.nils, trivial⟩ (by intro v hv; simp at hv; rcases hv with rfl | rfl | rfl | rfl | rfl | rfl <;> rfl)⟩
    · simp at hz2
theorem k45D0 (w : List UInt8) (ws : List (List UInt8)) (b : Bool) (v : Value) (h : resE (lineR (w :: ws)) = (b, v)) (h0 : kind w = 7 ∨ kind w = 8 ∨ kind w = 9) (hlen : ws.length ≠ 3) : ZCb b Tryz.prog 45 [ptr 100 0] (hp 100 [rdr (sl strR (w :: ws))]) v (hp 100 [none]) := by
  have hk : ¬ kind w < 0 := by omega
  have hq2 : (word (kind w)).2.toNat = 3 := by rcases h0 with e | e | e <;> rw [e] <;> rfl
  have hk0 : kind w ≠ 0 := by omega
  have hk2 : ¬ kind w ≤ 2 := by omega
  rw [lineR, if_neg hk, hq2] at h
  simp only [if_neg hk0, if_neg hk2, Nat.add_zero] at h
  have hkk : ∀ {B : Ban} {lo : Nat} {st : XS}, TC Tryz.prog B lo 63 [str w] st (iv (kind w)) st := ZC.pure (k63 w) ⟨RV.of rfl, trivial⟩ (RV.of rfl)
  rw [if_pos (by simpa using hlen)] at h
  generalize kind w = k at *
  have hpl : ZC Tryz.prog 35 [ptr 100 0] (hp 100 [lnO k 0 0 0 0 (.slice none 0 0)]) (.slice (some ⟨101, 0, none⟩) 3 4) (hp 100 [lnO k 0 0 0 0 (.slice none 0 0), some (.cells [ptr 100 1, ptr 100 2, ptr 100 3, ptr 100 4] 4 88 false)]) := hq2 ▸ k35b k 0 0 0 0 (.slice none 0 0) rfl (by omega)
  refine ZCb.cw (fn := Tryz.f45) (x := cod Tryz.f45) (by kernel_rfl) (by kernel_rfl) (by kernel_rfl) (by kernel_rfl) (resE_nad h) ?_; conv => arg 4; whnf
  refine Zz (k := ?_)
  refine WC.c (ZC.use (k64 w ws) [100] [some (rdr (sl strR ws))] [] (by kernel_rfl) ⟨⟨_, by with_unfolding_all rfl, RObj.same of1_rdr⟩, trivial⟩ ⟨⟨_, rfl, RObj.same of1_rdr⟩, trivial⟩ ⟨RV.ptr (.inr (by decide)), trivial⟩ (RV.of rfl)) ?_
  refine Zz (k := ?_)
  refine WC.c hkk ?_
  refine Zz (k := ?_)
  refine WC.c (ZC.pure (k65 _) ⟨RV.eqv (congrArg Value.bool (by symm; simp; omega)) rfl, RV.of rfl, trivial⟩ (RV.tup trivial)) ?_
  refine Zz (k := ?_)
  refine WC.c (ZC.use hpl [102] [none] [some (.cells [ptr 102 1, ptr 102 2, ptr 102 3, ptr 102 4] 4 88 false)] (by kernel_rfl) ⟨⟨_, by with_unfolding_all rfl, RObj.same (of6 k)⟩, trivial⟩ ⟨⟨_, _, rfl, by with_unfolding_all rfl, RObj.same (of6 k)⟩, ⟨_, rfl, RObj.cells ⟨RV.ptr (.inr (Bk_mem.2 (.inl (by decide)))), RV.ptr (.inr (Bk_mem.2 (.inl (by decide)))), RV.ptr (.inr (Bk_mem.2 (.inl (by decide)))), RV.ptr (.inr (Bk_mem.2 (.inl (by decide)))), trivial⟩ (by intro v hv; simp at hv; rcases hv with rfl | rfl | rfl | rfl <;> rfl)⟩, trivial⟩ ⟨RV.ptr (.inr (by decide)), trivial⟩ (RV.slc (.inr (Bk_mem.2 (.inr ⟨0, Nat.le_of_ble_eq_true (by kernel_rfl), rfl, by with_unfolding_all rfl⟩))))) ?_
  refine Zz (k := ?_)
  refine CW.cb (k == 0) rfl (fun h1 h1' => ?_) (fun h1 h1' => ?_)
  · simp at h1; omega
  refine Zz (k := ?_)
  refine WC.p (TP.of (ZCb.pure (p65 _) ⟨RV.eqv (congrArg Value.bool ((lenE (q := 3) rfl (by omega)).trans (decide_eq_false hlen)).symm) rfl, RV.of rfl, trivial⟩ (RV.of rfl)) rfl) ?_
  refine Zz (k := ?_)
  refine QZ.pn h ?_
  exact ⟨rfl, rfl, [], [], by kernel_rfl, trivial, trivial⟩
theorem k45D1 (w w1 w2 w3 : List UInt8) (b : Bool) (v : Value) (h : resE (lineR (w :: [w1, w2, w3])) = (b, v)) (hw : ∀ u ∈ w :: [w1, w2, w3], u.length ≤ 100000) (h0 : kind w = 7 ∨ kind w = 8 ∨ kind w = 9) : ZCb b Tryz.prog 45 [ptr 100 0] (hp 100 [rdr (sl strR (w :: [w1, w2, w3]))]) v (hp 100 [none]) := by
  have hk : ¬ kind w < 0 := by omega
  have hq2 : (word (kind w)).2.toNat = 3 := by rcases h0 with e | e | e <;> rw [e] <;> rfl
  have hk0 : kind w ≠ 0 := by omega
  have hk2 : ¬ kind w ≤ 2 := by omega
  rw [lineR, if_neg hk, hq2] at h
  simp only [if_neg hk0, if_neg hk2, Nat.add_zero] at h
  have hkk : ∀ {B : Ban} {lo : Nat} {st : XS}, TC Tryz.prog B lo 63 [str w] st (iv (kind w)) st := ZC.pure (k63 w) ⟨RV.of rfl, trivial⟩ (RV.of rfl)
  rw [if_neg (by simp)] at h
  generalize kind w = k at *
  have hpl : ZC Tryz.prog 35 [ptr 100 0] (hp 100 [lnO k 0 0 0 0 (.slice none 0 0)]) (.slice (some ⟨101, 0, none⟩) 3 4) (hp 100 [lnO k 0 0 0 0 (.slice none 0 0), some (.cells [ptr 100 1, ptr 100 2, ptr 100 3, ptr 100 4] 4 88 false)]) := hq2 ▸ k35b k 0 0 0 0 (.slice none 0 0) rfl (by omega)
  refine ZCb.cw (fn := Tryz.f45) (x := cod Tryz.f45) (by kernel_rfl) (by kernel_rfl) (by kernel_rfl) (by kernel_rfl) (resE_nad h) ?_; conv => arg 4; whnf
  refine Zz (k := ?_)
  refine WC.c (ZC.use (k64 w [w1, w2, w3]) [100] [some (rdr (sl strR [w1, w2, w3]))] [] (by kernel_rfl) ⟨⟨_, by with_unfolding_all rfl, RObj.same of1_rdr⟩, trivial⟩ ⟨⟨_, rfl, RObj.same of1_rdr⟩, trivial⟩ ⟨RV.ptr (.inr (by decide)), trivial⟩ (RV.of rfl)) ?_
  refine Zz (k := ?_)
  refine WC.c hkk ?_
  refine Zz (k := ?_)
  refine WC.c (ZC.pure (k65 _) ⟨RV.eqv (congrArg Value.bool (by symm; simp; omega)) rfl, RV.of rfl, trivial⟩ (RV.tup trivial)) ?_
  refine Zz (k := ?_)
  refine WC.c (ZC.use hpl [102] [none] [some (.cells [ptr 102 1, ptr 102 2, ptr 102 3, ptr 102 4] 4 88 false)] (by kernel_rfl) ⟨⟨_, by with_unfolding_all rfl, RObj.same (of6 k)⟩, trivial⟩ ⟨⟨_, _, rfl, by with_unfolding_all rfl, RObj.same (of6 k)⟩, ⟨_, rfl, RObj.cells ⟨RV.ptr (.inr (Bk_mem.2 (.inl (by decide)))), RV.ptr (.inr (Bk_mem.2 (.inl (by decide)))), RV.ptr (.inr (Bk_mem.2 (.inl (by decide)))), RV.ptr (.inr (Bk_mem.2 (.inl (by decide)))), trivial⟩ (by intro v hv; simp at hv; rcases hv with rfl | rfl | rfl | rfl <;> rfl)⟩, trivial⟩ ⟨RV.ptr (.inr (by decide)), trivial⟩ (RV.slc (.inr (Bk_mem.2 (.inr ⟨0, Nat.le_of_ble_eq_true (by kernel_rfl), rfl, by with_unfolding_all rfl⟩))))) ?_
  refine Zz (k := ?_)
  refine CW.cb (k == 0) rfl (fun h1 h1' => ?_) (fun h1 h1' => ?_)
  · simp at h1; omega
  refine Zz (k := ?_)
  refine WC.c (ZC.pure (k65 _) ⟨RV.eqv (congrArg Value.bool (lenE (n := 3) (q := 3) rfl (by omega)).symm) rfl, RV.of rfl, trivial⟩ (RV.tup trivial)) ?_
  refine Zz (k := ?_)
  refine CW.inv (σ := List Int) (g := 100) (L := fun z => [(0, ptr 100 0), (2, ptr 101 0), (3, ptr 102 0), (5, iv 0), (31, .slice (some ⟨103, 0, none⟩) 3 4), (32, iv 3), (33, iv z.length)]) (l := fun z => [rdr (sl strR ([w1, w2, w3].drop z.length)), zrO, lnC k (fB z), prO [1, 2, 3, 4]]) (fun z => ([w1, w2, w3].take z.length).mapM num = some z ∧ z.length ≤ 3) (fun z => 3 - z.length) [] ⟨rfl, by simp⟩ [101, 102, 103] [] (gl _) (by kernel_rfl) rfl rfl ?_ trivial ⟨RV.pn rfl, RV.pn rfl, RV.pn rfl, RV.of rfl, RV.sn rfl, RV.of rfl, RV.of rfl, trivial⟩ ?_
  · refine AllO.som rfl rfl (RObj.same of1_rdr) (AllO.som rfl rfl (RObj.same of_zr) (AllO.som rfl rfl (RObj.same of_lnC) (AllO.som rfl rfl ?_ AllO.nil)))
    exact RObj.cells ⟨RV.pn rfl, RV.pn rfl, RV.pn rfl, RV.pn rfl, trivial⟩ (by intro v hv; simp at hv; rcases hv with rfl | rfl | rfl | rfl <;> rfl)
  · rintro z ⟨hz, hz2⟩
    rcases z with _ | ⟨n1, _ | ⟨n2, _ | ⟨n3, _ | ⟨n4, z⟩⟩⟩⟩
    · rcases hn : num w1 with _ | n
      · refine Zz (k := ?_)
        refine WC.c (ZC.use (k64 w1 [w2, w3]) [100] [some (rdr (sl strR [w2, w3]))] [] (by kernel_rfl) ⟨⟨_, by with_unfolding_all rfl, RObj.same of1_rdr⟩, trivial⟩ ⟨⟨_, rfl, RObj.same of1_rdr⟩, trivial⟩ ⟨RV.ptr (.inr (by decide)), trivial⟩ (RV.of rfl)) ?_
        refine Zz (k := ?_)
        refine WC.p (TP.of (ZCb.pure (p66 w1 (hw _ (by simp)) hn) ⟨RV.jnk _, RV.of rfl, trivial⟩ (RV.of rfl)) rfl) ?_
        refine Zz (k := ?_)
        have h' : resE (.error 224) = (b, v) := by simpa [hn] using h
        refine QZ.pn h' ?_
        exact ⟨rfl, rfl, [], [], by kernel_rfl, trivial, trivial⟩
      · refine Zz (k := ?_)
        refine WC.c (ZC.use (k64 w1 [w2, w3]) [100] [some (rdr (sl strR [w2, w3]))] [] (by kernel_rfl) ⟨⟨_, by with_unfolding_all rfl, RObj.same of1_rdr⟩, trivial⟩ ⟨⟨_, rfl, RObj.same of1_rdr⟩, trivial⟩ ⟨RV.ptr (.inr (by decide)), trivial⟩ (RV.of rfl)) ?_
        refine Zz (k := ?_)
        refine WC.c (ZC.pure (k66 w1 n (hw _ (by simp)) hn) ⟨RV.jnk _, RV.of rfl, trivial⟩ (RV.of rfl)) ?_
        refine Zz (k := ?_)
        refine ⟨[n], ⟨⟨by simp [hn], by simp⟩, by simp⟩, To.mk [101, 102, 103] [] ?_ ⟨RV.pn rfl, RV.pn rfl, RV.pn rfl, RV.of rfl, RV.sn rfl, RV.of rfl, RV.iw rfl (by simp), trivial⟩ trivial (by kernel_rfl) rfl rfl⟩
        refine AllO.som rfl rfl (RObj.same of1_rdr) (AllO.som rfl rfl (RObj.same of_zr) (AllO.som rfl rfl (RObj.same of_lnC) (AllO.som rfl rfl ?_ AllO.nil)))
        exact RObj.cells ⟨RV.pn rfl, RV.pn rfl, RV.pn rfl, RV.pn rfl, trivial⟩ (by intro v hv; simp at hv; rcases hv with rfl | rfl | rfl | rfl <;> rfl)
    · have hz1 : num w1 = some n1 := by
        obtain ⟨c, h1, h2⟩ := (mapM_get hz).2 0 w1 rfl
        simp at h1; subst h1; exact h2
      rcases hn : num w2 with _ | n
      · refine Zz (k := ?_)
        refine WC.c (ZC.use (k64 w2 [w3]) [100] [some (rdr (sl strR [w3]))] [] (by kernel_rfl) ⟨⟨_, by with_unfolding_all rfl, RObj.same of1_rdr⟩, trivial⟩ ⟨⟨_, rfl, RObj.same of1_rdr⟩, trivial⟩ ⟨RV.ptr (.inr (by decide)), trivial⟩ (RV.of rfl)) ?_
        refine Zz (k := ?_)
        refine WC.p (TP.of (ZCb.pure (p66 w2 (hw _ (by simp)) hn) ⟨RV.jnk _, RV.of rfl, trivial⟩ (RV.of rfl)) rfl) ?_
        refine Zz (k := ?_)
        have h' : resE (.error 224) = (b, v) := by simpa [hn, hz1] using h
        refine QZ.pn h' ?_
        exact ⟨rfl, rfl, [], [], by kernel_rfl, trivial, trivial⟩
      · refine Zz (k := ?_)
        refine WC.c (ZC.use (k64 w2 [w3]) [100] [some (rdr (sl strR [w3]))] [] (by kernel_rfl) ⟨⟨_, by with_unfolding_all rfl, RObj.same of1_rdr⟩, trivial⟩ ⟨⟨_, rfl, RObj.same of1_rdr⟩, trivial⟩ ⟨RV.ptr (.inr (by decide)), trivial⟩ (RV.of rfl)) ?_
        refine Zz (k := ?_)
        refine WC.c (ZC.pure (k66 w2 n (hw _ (by simp)) hn) ⟨RV.jnk _, RV.of rfl, trivial⟩ (RV.of rfl)) ?_
        refine Zz (k := ?_)
        refine ⟨[n1, n], ⟨⟨by simp [hn, hz1], by simp⟩, by simp⟩, To.mk [101, 102, 103] [] ?_ ⟨RV.pn rfl, RV.pn rfl, RV.pn rfl, RV.of rfl, RV.sn rfl, RV.of rfl, RV.iw rfl (by simp), trivial⟩ trivial (by kernel_rfl) rfl rfl⟩
        refine AllO.som rfl rfl (RObj.same of1_rdr) (AllO.som rfl rfl (RObj.same of_zr) (AllO.som rfl rfl (RObj.same of_lnC) (AllO.som rfl rfl ?_ AllO.nil)))
        exact RObj.cells ⟨RV.pn rfl, RV.pn rfl, RV.pn rfl, RV.pn rfl, trivial⟩ (by intro v hv; simp at hv; rcases hv with rfl | rfl | rfl | rfl <;> rfl)
    · have hz1 : num w1 = some n1 := by
        obtain ⟨c, h1, h2⟩ := (mapM_get hz).2 0 w1 rfl
        simp at h1; subst h1; exact h2
      have hz2 : num w2 = some n2 := by
        obtain ⟨c, h1, h2⟩ := (mapM_get hz).2 1 w2 rfl
        simp at h1; subst h1; exact h2
      rcases hn : num w3 with _ | n
      · refine Zz (k := ?_)
        refine WC.c (ZC.use (k64 w3 []) [100] [some (rdr (sl strR []))] [] (by kernel_rfl) ⟨⟨_, by with_unfolding_all rfl, RObj.same of1_rdr⟩, trivial⟩ ⟨⟨_, rfl, RObj.same of1_rdr⟩, trivial⟩ ⟨RV.ptr (.inr (by decide)), trivial⟩ (RV.of rfl)) ?_
        refine Zz (k := ?_)
        refine WC.p (TP.of (ZCb.pure (p66 w3 (hw _ (by simp)) hn) ⟨RV.jnk _, RV.of rfl, trivial⟩ (RV.of rfl)) rfl) ?_
        refine Zz (k := ?_)
        have h' : resE (.error 224) = (b, v) := by simpa [hn, hz1, hz2] using h
        refine QZ.pn h' ?_
        exact ⟨rfl, rfl, [], [], by kernel_rfl, trivial, trivial⟩
      · refine Zz (k := ?_)
        refine WC.c (ZC.use (k64 w3 []) [100] [some (rdr (sl strR []))] [] (by kernel_rfl) ⟨⟨_, by with_unfolding_all rfl, RObj.same of1_rdr⟩, trivial⟩ ⟨⟨_, rfl, RObj.same of1_rdr⟩, trivial⟩ ⟨RV.ptr (.inr (by decide)), trivial⟩ (RV.of rfl)) ?_
        refine Zz (k := ?_)
        refine WC.c (ZC.pure (k66 w3 n (hw _ (by simp)) hn) ⟨RV.jnk _, RV.of rfl, trivial⟩ (RV.of rfl)) ?_
        refine Zz (k := ?_)
        refine ⟨[n1, n2, n], ⟨⟨by simp [hn, hz1, hz2], by simp⟩, by simp⟩, To.mk [101, 102, 103] [] ?_ ⟨RV.pn rfl, RV.pn rfl, RV.pn rfl, RV.of rfl, RV.sn rfl, RV.of rfl, RV.iw rfl (by simp), trivial⟩ trivial (by kernel_rfl) rfl rfl⟩
        refine AllO.som rfl rfl (RObj.same of1_rdr) (AllO.som rfl rfl (RObj.same of_zr) (AllO.som rfl rfl (RObj.same of_lnC) (AllO.som rfl rfl ?_ AllO.nil)))
        exact RObj.cells ⟨RV.pn rfl, RV.pn rfl, RV.pn rfl, RV.pn rfl, trivial⟩ (by intro v hv; simp at hv; rcases hv with rfl | rfl | rfl | rfl <;> rfl)
    · have h' : resE (.ok ⟨k, n1, n2, n3, 0, []⟩) = (b, v) := by
        have hz : [w1, w2, w3].mapM num = some [n1, n2, n3] := hz
        rw [show List.take 3 [w1, w2, w3] = [w1, w2, w3] from rfl, hz] at h
        simpa using h
      refine Zz (k := ?_)
      refine QZ.rt h' ?_
      refine Fn.mk (by first | exact .inl rfl | exact .inr rfl) rfl rfl ?_
      exact ⟨[], [], by kernel_rfl, trivial, trivial, RV.agg ⟨RV.of rfl, RV.of rfl, RV.of rfl, RV.of rfl, RV.of rfl, RV.nils, trivial⟩ (by intro v hv; simp at hv; rcases hv with rfl | rfl | rfl | rfl | rfl | rfl <;> rfl)⟩
    · simp at hz2
theorem k45E0 (w : List UInt8) (ws : List (List UInt8)) (b : Bool) (v : Value) (h : resE (lineR (w :: ws)) = (b, v)) (h0 : kind w = 10) (hlen : ws.length ≠ 4) : ZCb b Tryz.prog 45 [ptr 100 0] (hp 100 [rdr (sl strR (w :: ws))]) v (hp 100 [none]) := by
  have hk : ¬ kind w < 0 := by omega
  have hq2 : (word (kind w)).2.toNat = 4 := by rw [h0]; rfl
  have hk0 : kind w ≠ 0 := by omega
  have hk2 : ¬ kind w ≤ 2 := by omega
  rw [lineR, if_neg hk, hq2] at h
  simp only [if_neg hk0, if_neg hk2, Nat.add_zero] at h
  have hkk : ∀ {B : Ban} {lo : Nat} {st : XS}, TC Tryz.prog B lo 63 [str w] st (iv (kind w)) st := ZC.pure (k63 w) ⟨RV.of rfl, trivial⟩ (RV.of rfl)
  rw [if_pos (by simpa using hlen)] at h
  generalize kind w = k at *
  have hpl : ZC Tryz.prog 35 [ptr 100 0] (hp 100 [lnO k 0 0 0 0 (.slice none 0 0)]) (.slice (some ⟨101, 0, none⟩) 4 4) (hp 100 [lnO k 0 0 0 0 (.slice none 0 0), some (.cells [ptr 100 1, ptr 100 2, ptr 100 3, ptr 100 4] 4 88 false)]) := hq2 ▸ k35b k 0 0 0 0 (.slice none 0 0) rfl (by omega)
  refine ZCb.cw (fn := Tryz.f45) (x := cod Tryz.f45) (by kernel_rfl) (by kernel_rfl) (by kernel_rfl) (by kernel_rfl) (resE_nad h) ?_; conv => arg 4; whnf
  refine Zz (k := ?_)
  refine WC.c (ZC.use (k64 w ws) [100] [some (rdr (sl strR ws))] [] (by kernel_rfl) ⟨⟨_, by with_unfolding_all rfl, RObj.same of1_rdr⟩, trivial⟩ ⟨⟨_, rfl, RObj.same of1_rdr⟩, trivial⟩ ⟨RV.ptr (.inr (by decide)), trivial⟩ (RV.of rfl)) ?_
  refine Zz (k := ?_)
  refine WC.c hkk ?_
  refine Zz (k := ?_)
  refine WC.c (ZC.pure (k65 _) ⟨RV.eqv (congrArg Value.bool (by symm; simp; omega)) rfl, RV.of rfl, trivial⟩ (RV.tup trivial)) ?_
  refine Zz (k := ?_)
  refine WC.c (ZC.use hpl [102] [none] [some (.cells [ptr 102 1, ptr 102 2, ptr 102 3, ptr 102 4] 4 88 false)] (by kernel_rfl) ⟨⟨_, by with_unfolding_all rfl, RObj.same (of6 k)⟩, trivial⟩ ⟨⟨_, _, rfl, by with_unfolding_all rfl, RObj.same (of6 k)⟩, ⟨_, rfl, RObj.cells ⟨RV.ptr (.inr (Bk_mem.2 (.inl (by decide)))), RV.ptr (.inr (Bk_mem.2 (.inl (by decide)))), RV.ptr (.inr (Bk_mem.2 (.inl (by decide)))), RV.ptr (.inr (Bk_mem.2 (.inl (by decide)))), trivial⟩ (by intro v hv; simp at hv; rcases hv with rfl | rfl | rfl | rfl <;> rfl)⟩, trivial⟩ ⟨RV.ptr (.inr (by decide)), trivial⟩ (RV.slc (.inr (Bk_mem.2 (.inr ⟨0, Nat.le_of_ble_eq_true (by kernel_rfl), rfl, by with_unfolding_all rfl⟩))))) ?_
  refine Zz (k := ?_)
  refine CW.cb (k == 0) rfl (fun h1 h1' => ?_) (fun h1 h1' => ?_)
  · simp at h1; omega
  refine Zz (k := ?_)
  refine WC.p (TP.of (ZCb.pure (p65 _) ⟨RV.eqv (congrArg Value.bool ((lenE (q := 4) rfl (by omega)).trans (decide_eq_false hlen)).symm) rfl, RV.of rfl, trivial⟩ (RV.of rfl)) rfl) ?_
  refine Zz (k := ?_)
  refine QZ.pn h ?_
  exact ⟨rfl, rfl, [], [], by kernel_rfl, trivial, trivial⟩
theorem k45E1 (w w1 w2 w3 w4 : List UInt8) (b : Bool) (v : Value) (h : resE (lineR (w :: [w1, w2, w3, w4])) = (b, v)) (hw : ∀ u ∈ w :: [w1, w2, w3, w4], u.length ≤ 100000) (h0 : kind w = 10) : ZCb b Tryz.prog 45 [ptr 100 0] (hp 100 [rdr (sl strR (w :: [w1, w2, w3, w4]))]) v (hp 100 [none]) := by
  have hk : ¬ kind w < 0 := by omega
  have hq2 : (word (kind w)).2.toNat = 4 := by rw [h0]; rfl
  have hk0 : kind w ≠ 0 := by omega
  have hk2 : ¬ kind w ≤ 2 := by omega
  rw [lineR, if_neg hk, hq2] at h
  simp only [if_neg hk0, if_neg hk2, Nat.add_zero] at h
  have hkk : ∀ {B : Ban} {lo : Nat} {st : XS}, TC Tryz.prog B lo 63 [str w] st (iv (kind w)) st := ZC.pure (k63 w) ⟨RV.of rfl, trivial⟩ (RV.of rfl)
  rw [if_neg (by simp)] at h
  generalize kind w = k at *
  have hpl : ZC Tryz.prog 35 [ptr 100 0] (hp 100 [lnO k 0 0 0 0 (.slice none 0 0)]) (.slice (some ⟨101, 0, none⟩) 4 4) (hp 100 [lnO k 0 0 0 0 (.slice none 0 0), some (.cells [ptr 100 1, ptr 100 2, ptr 100 3, ptr 100 4] 4 88 false)]) := hq2 ▸ k35b k 0 0 0 0 (.slice none 0 0) rfl (by omega)
  refine ZCb.cw (fn := Tryz.f45) (x := cod Tryz.f45) (by kernel_rfl) (by kernel_rfl) (by kernel_rfl) (by kernel_rfl) (resE_nad h) ?_; conv => arg 4; whnf
  refine Zz (k := ?_)
  refine WC.c (ZC.use (k64 w [w1, w2, w3, w4]) [100] [some (rdr (sl strR [w1, w2, w3, w4]))] [] (by kernel_rfl) ⟨⟨_, by with_unfolding_all rfl, RObj.same of1_rdr⟩, trivial⟩ ⟨⟨_, rfl, RObj.same of1_rdr⟩, trivial⟩ ⟨RV.ptr (.inr (by decide)), trivial⟩ (RV.of rfl)) ?_
  refine Zz (k := ?_)
  refine WC.c hkk ?_
  refine Zz (k := ?_)
  refine WC.c (ZC.pure (k65 _) ⟨RV.eqv (congrArg Value.bool (by symm; simp; omega)) rfl, RV.of rfl, trivial⟩ (RV.tup trivial)) ?_
  refine Zz (k := ?_)
  refine WC.c (ZC.use hpl [102] [none] [some (.cells [ptr 102 1, ptr 102 2, ptr 102 3, ptr 102 4] 4 88 false)] (by kernel_rfl) ⟨⟨_, by with_unfolding_all rfl, RObj.same (of6 k)⟩, trivial⟩ ⟨⟨_, _, rfl, by with_unfolding_all rfl, RObj.same (of6 k)⟩, ⟨_, rfl, RObj.cells ⟨RV.ptr (.inr (Bk_mem.2 (.inl (by decide)))), RV.ptr (.inr (Bk_mem.2 (.inl (by decide)))), RV.ptr (.inr (Bk_mem.2 (.inl (by decide)))), RV.ptr (.inr (Bk_mem.2 (.inl (by decide)))), trivial⟩ (by intro v hv; simp at hv; rcases hv with rfl | rfl | rfl | rfl <;> rfl)⟩, trivial⟩ ⟨RV.ptr (.inr (by decide)), trivial⟩ (RV.slc (.inr (Bk_mem.2 (.inr ⟨0, Nat.le_of_ble_eq_true (by kernel_rfl), rfl, by with_unfolding_all rfl⟩))))) ?_
  refine Zz (k := ?_)
  refine CW.cb (k == 0) rfl (fun h1 h1' => ?_) (fun h1 h1' => ?_)
  · simp at h1; omega
  refine Zz (k := ?_)
  refine WC.c (ZC.pure (k65 _) ⟨RV.eqv (congrArg Value.bool (lenE (n := 4) (q := 4) rfl (by omega)).symm) rfl, RV.of rfl, trivial⟩ (RV.tup trivial)) ?_
  refine Zz (k := ?_)
  refine CW.inv (σ := List Int) (g := 100) (L := fun z => [(0, ptr 100 0), (2, ptr 101 0), (3, ptr 102 0), (5, iv 0), (31, .slice (some ⟨103, 0, none⟩) 4 4), (32, iv 4), (33, iv z.length)]) (l := fun z => [rdr (sl strR ([w1, w2, w3, w4].drop z.length)), zrO, lnC k (fB z), prO [1, 2, 3, 4]]) (fun z => ([w1, w2, w3, w4].take z.length).mapM num = some z ∧ z.length ≤ 4) (fun z => 4 - z.length) [] ⟨rfl, by simp⟩ [101, 102, 103] [] (gl _) (by kernel_rfl) rfl rfl ?_ trivial ⟨RV.pn rfl, RV.pn rfl, RV.pn rfl, RV.of rfl, RV.sn rfl, RV.of rfl, RV.of rfl, trivial⟩ ?_
  · refine AllO.som rfl rfl (RObj.same of1_rdr) (AllO.som rfl rfl (RObj.same of_zr) (AllO.som rfl rfl (RObj.same of_lnC) (AllO.som rfl rfl ?_ AllO.nil)))
    exact RObj.cells ⟨RV.pn rfl, RV.pn rfl, RV.pn rfl, RV.pn rfl, trivial⟩ (by intro v hv; simp at hv; rcases hv with rfl | rfl | rfl | rfl <;> rfl)
  · rintro z ⟨hz, hz2⟩
    rcases z with _ | ⟨n1, _ | ⟨n2, _ | ⟨n3, _ | ⟨n4, _ | ⟨n5, z⟩⟩⟩⟩⟩
    · rcases hn : num w1 with _ | n
      · refine Zz (k := ?_)
        refine WC.c (ZC.use (k64 w1 [w2, w3, w4]) [100] [some (rdr (sl strR [w2, w3, w4]))] [] (by kernel_rfl) ⟨⟨_, by with_unfolding_all rfl, RObj.same of1_rdr⟩, trivial⟩ ⟨⟨_, rfl, RObj.same of1_rdr⟩, trivial⟩ ⟨RV.ptr (.inr (by decide)), trivial⟩ (RV.of rfl)) ?_
        refine Zz (k := ?_)
        refine WC.p (TP.of (ZCb.pure (p66 w1 (hw _ (by simp)) hn) ⟨RV.jnk _, RV.of rfl, trivial⟩ (RV.of rfl)) rfl) ?_
        refine Zz (k := ?_)
        have h' : resE (.error 224) = (b, v) := by simpa [hn] using h
        refine QZ.pn h' ?_
        exact ⟨rfl, rfl, [], [], by kernel_rfl, trivial, trivial⟩
      · refine Zz (k := ?_)
        refine WC.c (ZC.use (k64 w1 [w2, w3, w4]) [100] [some (rdr (sl strR [w2, w3, w4]))] [] (by kernel_rfl) ⟨⟨_, by with_unfolding_all rfl, RObj.same of1_rdr⟩, trivial⟩ ⟨⟨_, rfl, RObj.same of1_rdr⟩, trivial⟩ ⟨RV.ptr (.inr (by decide)), trivial⟩ (RV.of rfl)) ?_
        refine Zz (k := ?_)
        refine WC.c (ZC.pure (k66 w1 n (hw _ (by simp)) hn) ⟨RV.jnk _, RV.of rfl, trivial⟩ (RV.of rfl)) ?_
        refine Zz (k := ?_)
        refine ⟨[n], ⟨⟨by simp [hn], by simp⟩, by simp⟩, To.mk [101, 102, 103] [] ?_ ⟨RV.pn rfl, RV.pn rfl, RV.pn rfl, RV.of rfl, RV.sn rfl, RV.of rfl, RV.iw rfl (by simp), trivial⟩ trivial (by kernel_rfl) rfl rfl⟩
        refine AllO.som rfl rfl (RObj.same of1_rdr) (AllO.som rfl rfl (RObj.same of_zr) (AllO.som rfl rfl (RObj.same of_lnC) (AllO.som rfl rfl ?_ AllO.nil)))
        exact RObj.cells ⟨RV.pn rfl, RV.pn rfl, RV.pn rfl, RV.pn rfl, trivial⟩ (by intro v hv; simp at hv; rcases hv with rfl | rfl | rfl | rfl <;> rfl)
    · have hz1 : num w1 = some n1 := by
        obtain ⟨c, h1, h2⟩ := (mapM_get hz).2 0 w1 rfl
        simp at h1; subst h1; exact h2
      rcases hn : num w2 with _ | n
      · refine Zz (k := ?_)
        refine WC.c (ZC.use (k64 w2 [w3, w4]) [100] [some (rdr (sl strR [w3, w4]))] [] (by kernel_rfl) ⟨⟨_, by with_unfolding_all rfl, RObj.same of1_rdr⟩, trivial⟩ ⟨⟨_, rfl, RObj.same of1_rdr⟩, trivial⟩ ⟨RV.ptr (.inr (by decide)), trivial⟩ (RV.of rfl)) ?_
        refine Zz (k := ?_)
        refine WC.p (TP.of (ZCb.pure (p66 w2 (hw _ (by simp)) hn) ⟨RV.jnk _, RV.of rfl, trivial⟩ (RV.of rfl)) rfl) ?_
        refine Zz (k := ?_)
        have h' : resE (.error 224) = (b, v) := by simpa [hn, hz1] using h
        refine QZ.pn h' ?_
        exact ⟨rfl, rfl, [], [], by kernel_rfl, trivial, trivial⟩
      · refine Zz (k := ?_)
        refine WC.c (ZC.use (k64 w2 [w3, w4]) [100] [some (rdr (sl strR [w3, w4]))] [] (by kernel_rfl) ⟨⟨_, by with_unfolding_all rfl, RObj.same of1_rdr⟩, trivial⟩ ⟨⟨_, rfl, RObj.same of1_rdr⟩, trivial⟩ ⟨RV.ptr (.inr (by decide)), trivial⟩ (RV.of rfl)) ?_
        refine Zz (k := ?_)
        refine WC.c (ZC.pure (k66 w2 n (hw _ (by simp)) hn) ⟨RV.jnk _, RV.of rfl, trivial⟩ (RV.of rfl)) ?_
        refine Zz (k := ?_)
        refine ⟨[n1, n], ⟨⟨by simp [hn, hz1], by simp⟩, by simp⟩, To.mk [101, 102, 103] [] ?_ ⟨RV.pn rfl, RV.pn rfl, RV.pn rfl, RV.of rfl, RV.sn rfl, RV.of rfl, RV.iw rfl (by simp), trivial⟩ trivial (by kernel_rfl) rfl rfl⟩
        refine AllO.som rfl rfl (RObj.same of1_rdr) (AllO.som rfl rfl (RObj.same of_zr) (AllO.som rfl rfl (RObj.same of_lnC) (AllO.som rfl rfl ?_ AllO.nil)))
        exact RObj.cells ⟨RV.pn rfl, RV.pn rfl, RV.pn rfl, RV.pn rfl, trivial⟩ (by intro v hv; simp at hv; rcases hv with rfl | rfl | rfl | rfl <;> rfl)
    · have hz1 : num w1 = some n1 := by
        obtain ⟨c, h1, h2⟩ := (mapM_get hz).2 0 w1 rfl
        simp at h1; subst h1; exact h2
      have hz2 : num w2 = some n2 := by
        obtain ⟨c, h1, h2⟩ := (mapM_get hz).2 1 w2 rfl
        simp at h1; subst h1; exact h2
      rcases hn : num w3 with _ | n
      · refine Zz (k := ?_)
        refine WC.c (ZC.use (k64 w3 [w4]) [100] [some (rdr (sl strR [w4]))] [] (by kernel_rfl) ⟨⟨_, by with_unfolding_all rfl, RObj.same of1_rdr⟩, trivial⟩ ⟨⟨_, rfl, RObj.same of1_rdr⟩, trivial⟩ ⟨RV.ptr (.inr (by decide)), trivial⟩ (RV.of rfl)) ?_
        refine Zz (k := ?_)
        refine WC.p (TP.of (ZCb.pure (p66 w3 (hw _ (by simp)) hn) ⟨RV.jnk _, RV.of rfl, trivial⟩ (RV.of rfl)) rfl) ?_
        refine Zz (k := ?_)
        have h' : resE (.error 224) = (b, v) := by simpa [hn, hz1, hz2] using h
        refine QZ.pn h' ?_
        exact ⟨rfl, rfl, [], [], by kernel_rfl, trivial, trivial⟩
      · refine Zz (k := ?_)
        refine WC.c (ZC.use (k64 w3 [w4]) [100] [some (rdr (sl strR [w4]))] [] (by kernel_rfl) ⟨⟨_, by with_unfolding_all rfl, RObj.same of1_rdr⟩, trivial⟩ ⟨⟨_, rfl, RObj.same of1_rdr⟩, trivial⟩ ⟨RV.ptr (.inr (by decide)), trivial⟩ (RV.of rfl)) ?_
        refine Zz (k := ?_)
        refine WC.c (ZC.pure (k66 w3 n (hw _ (by simp)) hn) ⟨RV.jnk _, RV.of rfl, trivial⟩ (RV.of rfl)) ?_
        refine Zz (k := ?_)
        refine ⟨[n1, n2, n], ⟨⟨by simp [hn, hz1, hz2], by simp⟩, by simp⟩, To.mk [101, 102, 103] [] ?_ ⟨RV.pn rfl, RV.pn rfl, RV.pn rfl, RV.of rfl, RV.sn rfl, RV.of rfl, RV.iw rfl (by simp), trivial⟩ trivial (by kernel_rfl) rfl rfl⟩
        refine AllO.som rfl rfl (RObj.same of1_rdr) (AllO.som rfl rfl (RObj.same of_zr) (AllO.som rfl rfl (RObj.same of_lnC) (AllO.som rfl rfl ?_ AllO.nil)))
        exact RObj.cells ⟨RV.pn rfl, RV.pn rfl, RV.pn rfl, RV.pn rfl, trivial⟩ (by intro v hv; simp at hv; rcases hv with rfl | rfl | rfl | rfl <;> rfl)
    · have hz1 : num w1 = some n1 := by
        obtain ⟨c, h1, h2⟩ := (mapM_get hz).2 0 w1 rfl
        simp at h1; subst h1; exact h2
      have hz2 : num w2 = some n2 := by
        obtain ⟨c, h1, h2⟩ := (mapM_get hz).2 1 w2 rfl
        simp at h1; subst h1; exact h2
      have hz3 : num w3 = some n3 := by
        obtain ⟨c, h1, h2⟩ := (mapM_get hz).2 2 w3 rfl
        simp at h1; subst h1; exact h2
      rcases hn : num w4 with _ | n
      · refine Zz (k := ?_)
        refine WC.c (ZC.use (k64 w4 []) [100] [some (rdr (sl strR []))] [] (by kernel_rfl) ⟨⟨_, by with_unfolding_all rfl, RObj.same of1_rdr⟩, trivial⟩ ⟨⟨_, rfl, RObj.same of1_rdr⟩, trivial⟩ ⟨RV.ptr (.inr (by decide)), trivial⟩ (RV.of rfl)) ?_
        refine Zz (k := ?_)
        refine WC.p (TP.of (ZCb.pure (p66 w4 (hw _ (by simp)) hn) ⟨RV.jnk _, RV.of rfl, trivial⟩ (RV.of rfl)) rfl) ?_
        refine Zz (k := ?_)
        have h' : resE (.error 224) = (b, v) := by simpa [hn, hz1, hz2, hz3] using h
        refine QZ.pn h' ?_
        exact ⟨rfl, rfl, [], [], by kernel_rfl, trivial, trivial⟩
      · refine Zz (k := ?_)
        refine WC.c (ZC.use (k64 w4 []) [100] [some (rdr (sl strR []))] [] (by kernel_rfl) ⟨⟨_, by with_unfolding_all rfl, RObj.same of1_rdr⟩, trivial⟩ ⟨⟨_, rfl, RObj.same of1_rdr⟩, trivial⟩ ⟨RV.ptr (.inr (by decide)), trivial⟩ (RV.of rfl)) ?_
        refine Zz (k := ?_)
        refine WC.c (ZC.pure (k66 w4 n (hw _ (by simp)) hn) ⟨RV.jnk _, RV.of rfl, trivial⟩ (RV.of rfl)) ?_
        refine Zz (k := ?_)
        refine ⟨[n1, n2, n3, n], ⟨⟨by simp [hn, hz1, hz2, hz3], by simp⟩, by simp⟩, To.mk [101, 102, 103] [] ?_ ⟨RV.pn rfl, RV.pn rfl, RV.pn rfl, RV.of rfl, RV.sn rfl, RV.of rfl, RV.iw rfl (by simp), trivial⟩ trivial (by kernel_rfl) rfl rfl⟩
        refine AllO.som rfl rfl (RObj.same of1_rdr) (AllO.som rfl rfl (RObj.same of_zr) (AllO.som rfl rfl (RObj.same of_lnC) (AllO.som rfl rfl ?_ AllO.nil)))
        exact RObj.cells ⟨RV.pn rfl, RV.pn rfl, RV.pn rfl, RV.pn rfl, trivial⟩ (by intro v hv; simp at hv; rcases hv with rfl | rfl | rfl | rfl <;> rfl)
    · have h' : resE (.ok ⟨k, n1, n2, n3, n4, []⟩) = (b, v) := by
        have hz : [w1, w2, w3, w4].mapM num = some [n1, n2, n3, n4] := hz
        rw [show List.take 4 [w1, w2, w3, w4] = [w1, w2, w3, w4] from rfl, hz] at h
        simpa using h
      refine Zz (k := ?_)
      refine QZ.rt h' ?_
      refine Fn.mk (by first | exact .inl rfl | exact .inr rfl) rfl rfl ?_
      exact ⟨[], [], by kernel_rfl, trivial, trivial, RV.agg ⟨RV.of rfl, RV.of rfl, RV.of rfl, RV.of rfl, RV.of rfl, RV.nils, trivial⟩ (by intro v hv; simp at hv; rcases hv with rfl | rfl | rfl | rfl | rfl | rfl <;> rfl)⟩
    · simp at hz2
theorem k45O0 (w : List UInt8) (ws : List (List UInt8)) (b : Bool) (v : Value) (h : resE (lineR (w :: ws)) = (b, v)) (h0 : kind w = 0) (hlen : ws.length ≠ 3) : ZCb b Tryz.prog 45 [ptr 100 0] (hp 100 [rdr (sl strR (w :: ws))]) v (hp 100 [none]) := by
  have hk : ¬ kind w < 0 := by omega
  have hq2 : (word (kind w)).2.toNat = 2 := by rw [h0]; rfl
  rw [lineR, if_neg hk, hq2] at h
  simp only [if_pos h0] at h
  have hkk : ∀ {B : Ban} {lo : Nat} {st : XS}, TC Tryz.prog B lo 63 [str w] st (iv 0) st := h0 ▸ ZC.pure (k63 w) ⟨RV.of rfl, trivial⟩ (RV.of rfl)
  rw [if_pos (by simpa using hlen)] at h
  refine ZCb.cw (fn := Tryz.f45) (x := cod Tryz.f45) (by kernel_rfl) (by kernel_rfl) (by kernel_rfl) (by kernel_rfl) (resE_nad h) ?_; conv => arg 4; whnf
  refine Zz (k := ?_)
  refine WC.c (ZC.use (k64 w ws) [100] [some (rdr (sl strR ws))] [] (by kernel_rfl) ⟨⟨_, by with_unfolding_all rfl, RObj.same of1_rdr⟩, trivial⟩ ⟨⟨_, rfl, RObj.same of1_rdr⟩, trivial⟩ ⟨RV.ptr (.inr (by decide)), trivial⟩ (RV.of rfl)) ?_
  refine Zz (k := ?_)
  refine WC.c hkk ?_
  refine Zz (k := ?_)
  refine WC.c (ZC.pure (k65 _) ⟨RV.eqv (congrArg Value.bool rfl) rfl, RV.of rfl, trivial⟩ (RV.tup trivial)) ?_
  refine Zz (k := ?_)
  refine WC.c (ZC.use (k35a 0 0 0 0 0 (.slice none 0 0) rfl (by omega)) [102] [none] [some (.cells [ptr 102 1, ptr 102 3] 2 88 false)] (by kernel_rfl) ⟨⟨_, by with_unfolding_all rfl, RObj.same (of6 0)⟩, trivial⟩ ⟨⟨_, _, rfl, by with_unfolding_all rfl, RObj.same (of6 0)⟩, ⟨_, rfl, RObj.cells ⟨RV.ptr (.inr (Bk_mem.2 (.inl (by decide)))), RV.ptr (.inr (Bk_mem.2 (.inl (by decide)))), trivial⟩ (by intro v hv; simp at hv; rcases hv with rfl | rfl <;> rfl)⟩, trivial⟩ ⟨RV.ptr (.inr (by decide)), trivial⟩ (RV.slc (.inr (Bk_mem.2 (.inr ⟨0, Nat.le_of_ble_eq_true (by kernel_rfl), rfl, by with_unfolding_all rfl⟩))))) ?_
  refine Zz (k := ?_)
  refine WC.p (TP.of (ZCb.pure (p65 _) ⟨RV.eqv (congrArg Value.bool ((lenE (q := 3) rfl (by omega)).trans (decide_eq_false hlen)).symm) rfl, RV.of rfl, trivial⟩ (RV.of rfl)) rfl) ?_
  refine Zz (k := ?_)
  refine QZ.pn h ?_
  exact ⟨rfl, rfl, [], [], by kernel_rfl, trivial, trivial⟩
theorem k45O1 (w w1 w2 w3 : List UInt8) (b : Bool) (v : Value) (h : resE (lineR (w :: [w1, w2, w3])) = (b, v)) (hw : ∀ u ∈ w :: [w1, w2, w3], u.length ≤ 100000) (h0 : kind w = 0) : ZCb b Tryz.prog 45 [ptr 100 0] (hp 100 [rdr (sl strR (w :: [w1, w2, w3]))]) v (hp 100 [none]) := by
  have hk : ¬ kind w < 0 := by omega
  have hq2 : (word (kind w)).2.toNat = 2 := by rw [h0]; rfl
  rw [lineR, if_neg hk, hq2] at h
  simp only [if_pos h0] at h
  have hkk : ∀ {B : Ban} {lo : Nat} {st : XS}, TC Tryz.prog B lo 63 [str w] st (iv 0) st := h0 ▸ ZC.pure (k63 w) ⟨RV.of rfl, trivial⟩ (RV.of rfl)
  rw [if_neg (by simp)] at h
  refine ZCb.cw (fn := Tryz.f45) (x := cod Tryz.f45) (by kernel_rfl) (by kernel_rfl) (by kernel_rfl) (by kernel_rfl) (resE_nad h) ?_; conv => arg 4; whnf
  refine Zz (k := ?_)
  refine WC.c (ZC.use (k64 w [w1, w2, w3]) [100] [some (rdr (sl strR [w1, w2, w3]))] [] (by kernel_rfl) ⟨⟨_, by with_unfolding_all rfl, RObj.same of1_rdr⟩, trivial⟩ ⟨⟨_, rfl, RObj.same of1_rdr⟩, trivial⟩ ⟨RV.ptr (.inr (by decide)), trivial⟩ (RV.of rfl)) ?_
  refine Zz (k := ?_)
  refine WC.c hkk ?_
  refine Zz (k := ?_)
  refine WC.c (ZC.pure (k65 _) ⟨RV.eqv (congrArg Value.bool rfl) rfl, RV.of rfl, trivial⟩ (RV.tup trivial)) ?_
  refine Zz (k := ?_)
  refine WC.c (ZC.use (k35a 0 0 0 0 0 (.slice none 0 0) rfl (by omega)) [102] [none] [some (.cells [ptr 102 1, ptr 102 3] 2 88 false)] (by kernel_rfl) ⟨⟨_, by with_unfolding_all rfl, RObj.same (of6 0)⟩, trivial⟩ ⟨⟨_, _, rfl, by with_unfolding_all rfl, RObj.same (of6 0)⟩, ⟨_, rfl, RObj.cells ⟨RV.ptr (.inr (Bk_mem.2 (.inl (by decide)))), RV.ptr (.inr (Bk_mem.2 (.inl (by decide)))), trivial⟩ (by intro v hv; simp at hv; rcases hv with rfl | rfl <;> rfl)⟩, trivial⟩ ⟨RV.ptr (.inr (by decide)), trivial⟩ (RV.slc (.inr (Bk_mem.2 (.inr ⟨0, Nat.le_of_ble_eq_true (by kernel_rfl), rfl, by with_unfolding_all rfl⟩))))) ?_
  refine Zz (k := ?_)
  refine WC.c (ZC.pure (k65 _) ⟨RV.eqv (congrArg Value.bool (lenE (n := 3) (q := 3) rfl (by omega)).symm) rfl, RV.of rfl, trivial⟩ (RV.tup trivial)) ?_
  refine Zz (k := ?_)
  refine CW.inv (σ := List Int) (g := 100) (L := fun z => [(0, ptr 100 0), (2, ptr 101 0), (3, ptr 102 0), (5, iv 1), (31, .slice (some ⟨103, 0, none⟩) 2 2), (32, iv 2), (33, iv z.length)]) (l := fun z => [rdr (sl strR ([w1, w2, w3].drop z.length)), zrO, lnC 0 (fA z), prO [1, 3]]) (fun z => ([w1, w2, w3].take z.length).mapM num = some z ∧ z.length ≤ 2) (fun z => 2 - z.length) [] ⟨rfl, by simp⟩ [101, 102, 103] [] (gl _) (by kernel_rfl) rfl rfl ?_ trivial ⟨RV.pn rfl, RV.pn rfl, RV.pn rfl, RV.of rfl, RV.sn rfl, RV.of rfl, RV.of rfl, trivial⟩ ?_
  · refine AllO.som rfl rfl (RObj.same of1_rdr) (AllO.som rfl rfl (RObj.same of_zr) (AllO.som rfl rfl (RObj.same of_lnC) (AllO.som rfl rfl ?_ AllO.nil)))
    exact RObj.cells ⟨RV.pn rfl, RV.pn rfl, trivial⟩ (by intro v hv; simp at hv; rcases hv with rfl | rfl <;> rfl)
  · rintro z ⟨hz, hz2⟩
    rcases z with _ | ⟨n1, _ | ⟨n2, _ | ⟨n3, z⟩⟩⟩
    · rcases hn : num w1 with _ | n
      · refine Zz (k := ?_)
        refine WC.c (ZC.use (k64 w1 [w2, w3]) [100] [some (rdr (sl strR [w2, w3]))] [] (by kernel_rfl) ⟨⟨_, by with_unfolding_all rfl, RObj.same of1_rdr⟩, trivial⟩ ⟨⟨_, rfl, RObj.same of1_rdr⟩, trivial⟩ ⟨RV.ptr (.inr (by decide)), trivial⟩ (RV.of rfl)) ?_
        refine Zz (k := ?_)
        refine WC.p (TP.of (ZCb.pure (p66 w1 (hw _ (by simp)) hn) ⟨RV.jnk _, RV.of rfl, trivial⟩ (RV.of rfl)) rfl) ?_
        refine Zz (k := ?_)
        have h' : resE (.error 224) = (b, v) := by simpa [hn] using h
        refine QZ.pn h' ?_
        exact ⟨rfl, rfl, [], [], by kernel_rfl, trivial, trivial⟩
      · refine Zz (k := ?_)
        refine WC.c (ZC.use (k64 w1 [w2, w3]) [100] [some (rdr (sl strR [w2, w3]))] [] (by kernel_rfl) ⟨⟨_, by with_unfolding_all rfl, RObj.same of1_rdr⟩, trivial⟩ ⟨⟨_, rfl, RObj.same of1_rdr⟩, trivial⟩ ⟨RV.ptr (.inr (by decide)), trivial⟩ (RV.of rfl)) ?_
        refine Zz (k := ?_)
        refine WC.c (ZC.pure (k66 w1 n (hw _ (by simp)) hn) ⟨RV.jnk _, RV.of rfl, trivial⟩ (RV.of rfl)) ?_
        refine Zz (k := ?_)
        refine ⟨[n], ⟨⟨by simp [hn], by simp⟩, by simp⟩, To.mk [101, 102, 103] [] ?_ ⟨RV.pn rfl, RV.pn rfl, RV.pn rfl, RV.of rfl, RV.sn rfl, RV.of rfl, RV.iw rfl (by simp), trivial⟩ trivial (by kernel_rfl) rfl rfl⟩
        refine AllO.som rfl rfl (RObj.same of1_rdr) (AllO.som rfl rfl (RObj.same of_zr) (AllO.som rfl rfl (RObj.same of_lnC) (AllO.som rfl rfl ?_ AllO.nil)))
        exact RObj.cells ⟨RV.pn rfl, RV.pn rfl, trivial⟩ (by intro v hv; simp at hv; rcases hv with rfl | rfl <;> rfl)
    · have hz1 : num w1 = some n1 := by
        obtain ⟨c, h1, h2⟩ := (mapM_get hz).2 0 w1 rfl
        simp at h1; subst h1; exact h2
      rcases hn : num w2 with _ | n
      · refine Zz (k := ?_)
        refine WC.c (ZC.use (k64 w2 [w3]) [100] [some (rdr (sl strR [w3]))] [] (by kernel_rfl) ⟨⟨_, by with_unfolding_all rfl, RObj.same of1_rdr⟩, trivial⟩ ⟨⟨_, rfl, RObj.same of1_rdr⟩, trivial⟩ ⟨RV.ptr (.inr (by decide)), trivial⟩ (RV.of rfl)) ?_
        refine Zz (k := ?_)
        refine WC.p (TP.of (ZCb.pure (p66 w2 (hw _ (by simp)) hn) ⟨RV.jnk _, RV.of rfl, trivial⟩ (RV.of rfl)) rfl) ?_
        refine Zz (k := ?_)
        have h' : resE (.error 224) = (b, v) := by simpa [hn, hz1] using h
        refine QZ.pn h' ?_
        exact ⟨rfl, rfl, [], [], by kernel_rfl, trivial, trivial⟩
      · refine Zz (k := ?_)
        refine WC.c (ZC.use (k64 w2 [w3]) [100] [some (rdr (sl strR [w3]))] [] (by kernel_rfl) ⟨⟨_, by with_unfolding_all rfl, RObj.same of1_rdr⟩, trivial⟩ ⟨⟨_, rfl, RObj.same of1_rdr⟩, trivial⟩ ⟨RV.ptr (.inr (by decide)), trivial⟩ (RV.of rfl)) ?_
        refine Zz (k := ?_)
        refine WC.c (ZC.pure (k66 w2 n (hw _ (by simp)) hn) ⟨RV.jnk _, RV.of rfl, trivial⟩ (RV.of rfl)) ?_
        refine Zz (k := ?_)
        refine ⟨[n1, n], ⟨⟨by simp [hn, hz1], by simp⟩, by simp⟩, To.mk [101, 102, 103] [] ?_ ⟨RV.pn rfl, RV.pn rfl, RV.pn rfl, RV.of rfl, RV.sn rfl, RV.of rfl, RV.iw rfl (by simp), trivial⟩ trivial (by kernel_rfl) rfl rfl⟩
        refine AllO.som rfl rfl (RObj.same of1_rdr) (AllO.som rfl rfl (RObj.same of_zr) (AllO.som rfl rfl (RObj.same of_lnC) (AllO.som rfl rfl ?_ AllO.nil)))
        exact RObj.cells ⟨RV.pn rfl, RV.pn rfl, trivial⟩ (by intro v hv; simp at hv; rcases hv with rfl | rfl <;> rfl)
    · have hz : [w1, w2].mapM num = some [n1, n2] := hz
      rw [show List.take 2 [w1, w2, w3] = [w1, w2] from rfl, hz] at h
      rcases hn : need w3 with _ | l
      · refine Zz (k := ?_)
        refine WC.c (ZC.use (k64 w3 []) [100] [some (rdr (sl strR []))] [] (by kernel_rfl) ⟨⟨_, by with_unfolding_all rfl, RObj.same of1_rdr⟩, trivial⟩ ⟨⟨_, rfl, RObj.same of1_rdr⟩, trivial⟩ ⟨RV.ptr (.inr (by decide)), trivial⟩ (RV.of rfl)) ?_
        refine Zz (k := ?_)
        refine WC.p (TP.of (ZCb.pure (p67 w3 (hw _ (by simp)) hn) ⟨RV.jnk _, RV.of rfl, trivial⟩ (RV.of rfl)) rfl) ?_
        refine Zz (k := ?_)
        have h' : resE (.error 224) = (b, v) := by simpa [hn] using h
        refine QZ.pn h' ?_
        exact ⟨rfl, rfl, [], [], by kernel_rfl, trivial, trivial⟩
      · refine Zz (k := ?_)
        refine WC.c (ZC.use (k64 w3 []) [100] [some (rdr (sl strR []))] [] (by kernel_rfl) ⟨⟨_, by with_unfolding_all rfl, RObj.same of1_rdr⟩, trivial⟩ ⟨⟨_, rfl, RObj.same of1_rdr⟩, trivial⟩ ⟨RV.ptr (.inr (by decide)), trivial⟩ (RV.of rfl)) ?_
        refine Zz (k := ?_)
        refine WC.c (ZC.pure (k67n w3 l (hw _ (by simp)) hn) ⟨RV.jnk _, RV.of rfl, trivial⟩ (RV.of rfl)) ?_
        refine Zz (k := ?_)
        have h' : resE (.ok ⟨0, n1, 0, n2, 0, l⟩) = (b, v) := by simpa [hn] using h
        refine QZ.rt h' ?_
        refine Fn.mk (by first | exact .inl rfl | exact .inr rfl) rfl rfl ?_
        exact ⟨[], [], by kernel_rfl, trivial, trivial, RV.agg ⟨RV.of rfl, RV.of rfl, RV.of rfl, RV.of rfl, RV.of rfl, RV.of rfl, trivial⟩ (by intro v hv; simp at hv; rcases hv with rfl | rfl | rfl | rfl | rfl | rfl <;> rfl)⟩
    · simp at hz2
end T
end
