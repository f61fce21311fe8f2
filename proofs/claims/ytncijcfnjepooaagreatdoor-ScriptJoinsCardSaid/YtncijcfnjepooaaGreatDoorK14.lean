/-
  A part of the proof of ScriptJoins: no statement of the seat is proved here.
-/
import Derived.Test.YtncijcfnjepooaaGreatDoorK12
import Derived.Test.YtncijcfnjepooaaGreatDoorK13
import Derived.Laws.RangeAny
set_option linter.unusedVariables false
set_option linter.unusedSimpArgs false
set_option linter.unnecessarySimpa false
set_option linter.unusedSectionVars false
set_option linter.constructorNameAsVariable false
set_option linter.deprecated false
section
set_option maxRecDepth 100000
set_option maxHeartbeats 0
open Go.X Go.Proofs Go Go.RowKit
namespace T
theorem kindN_range (w : List UInt8) : ∀ (n k : Nat), kindN w n k = -1 ∨ ((k : Int) ≤ kindN w n k ∧ kindN w n k < k + n)
  | 0, k => .inl rfl
  | n + 1, k => by
    unfold kindN
    split
    · right; omega
    · rcases kindN_range w n (k + 1) with h | h
      · exact .inl h
      · right; omega
theorem k45N (w : List UInt8) (ws : List (List UInt8)) (hk : kind w < 0) : ZP Tryz.prog 45 [ptr 100 0] (hp 100 [rdr (sl strR (w :: ws))]) (fault 222) (hp 100 [none]) := by
  refine ZP.cw (fn := Tryz.f45) (x := cod Tryz.f45) (by kernel_rfl) (by kernel_rfl) (by kernel_rfl) (by kernel_rfl) rfl ?_; conv => arg 4; whnf
  refine Zz (k := ?_)
  refine WC.c (ZC.use (k64 w ws) [100] [some (rdr (sl strR ws))] [] (by kernel_rfl) ⟨⟨_, by with_unfolding_all rfl, RObj.same of1_rdr⟩, trivial⟩ ⟨⟨_, rfl, RObj.same of1_rdr⟩, trivial⟩ ⟨RV.ptr (.inr (by decide)), trivial⟩ (RV.of rfl)) ?_
  refine Zz (k := ?_)
  refine WC.c (ZC.pure (k63 w) ⟨RV.of rfl, trivial⟩ (RV.of rfl)) ?_
  refine Zz (k := ?_)
  refine WC.p (TP.of (ZCb.pure (p65 _) ⟨RV.eqv (congrArg Value.bool (by symm; simp; omega)) rfl, RV.of rfl, trivial⟩ (RV.of rfl)) rfl) ?_
  refine Zz (k := ?_)
  exact ⟨rfl, rfl, [], [], by kernel_rfl, trivial, trivial⟩
theorem k45 (w : List UInt8) (ws : List (List UInt8)) (b : Bool) (v : Value) (h : resE (lineR (w :: ws)) = (b, v)) (hw : ∀ u ∈ w :: ws, u.length ≤ 100000) : ZCb b Tryz.prog 45 [ptr 100 0] (hp 100 [rdr (sl strR (w :: ws))]) v (hp 100 [none]) := by
  by_cases hk : kind w < 0
  · rw [lineR, if_pos hk] at h
    obtain ⟨rfl, rfl⟩ := Prod.mk.inj h
    exact k45N w ws hk
  have hr := kindN_range w 11 0
  have hr : kind w < 11 := by
    show kindN w 11 0 < 11
    rcases hr with h | h <;> omega
  rcases (show kind w = 0 ∨ (kind w = 1 ∨ kind w = 2) ∨ (kind w = 3 ∨ kind w = 4) ∨ (kind w = 5 ∨ kind w = 6) ∨ (kind w = 7 ∨ kind w = 8 ∨ kind w = 9) ∨ kind w = 10 from by omega) with h0 | h0 | h0 | h0 | h0 | h0
  · match ws, h, hw with
    | [a, c, d], h, hw => exact k45O1 w a c d b v h hw h0
    | [], h, _ | [_], h, _ | [_, _], h, _ | _ :: _ :: _ :: _ :: _, h, _ => exact k45O0 w _ b v h h0 (by simp)
  · match ws, h, hw with
    | [a, c], h, hw => exact k45A1 w a c b v h hw h0
    | [], h, _ | [_], h, _ | _ :: _ :: _ :: _, h, _ => exact k45A0 w _ b v h h0 (by simp)
  · match ws, h, hw with
    | [a, c], h, hw => exact k45B1 w a c b v h hw h0
    | [], h, _ | [_], h, _ | _ :: _ :: _ :: _, h, _ => exact k45B0 w _ b v h h0 (by simp)
  · match ws, h, hw with
    | [a], h, hw => exact k45C1 w a b v h hw h0
    | [], h, _ | _ :: _ :: _, h, _ => exact k45C0 w _ b v h h0 (by simp)
  · match ws, h, hw with
    | [a, c, d], h, hw => exact k45D1 w a c d b v h hw h0
    | [], h, _ | [_], h, _ | [_, _], h, _ | _ :: _ :: _ :: _ :: _, h, _ => exact k45D0 w _ b v h h0 (by simp)
  · match ws, h, hw with
    | [a, c, d, e], h, hw => exact k45E1 w a c d e b v h hw h0
    | [], h, _ | [_], h, _ | [_, _], h, _ | [_, _, _], h, _ | _ :: _ :: _ :: _ :: _ :: _, h, _ => exact k45E0 w _ b v h h0 (by simp)
end T
end
section
set_option maxRecDepth 10000
namespace T
open Go
theorem dec_cont (s : ByteArray) (pos j : Nat) (h1 : 1 ≤ j) (h2 : j < (Utf8.decode s pos).2) : pos + j < s.size ∧ 128 ≤ (s.get! (pos + j)).toNat := by
  have key : ∀ k, (decide (pos + k < s.size) && (s.get! (pos + k)).toNat / 64 == 2) = true → pos + k < s.size ∧ 128 ≤ (s.get! (pos + k)).toNat := by
    intro k h
    simp at h
    omega
  unfold Utf8.decode at h2
  dsimp only at h2
  split at h2
  · dsimp only at h2; omega
  · split at h2
    · rename_i h
      rw [Bool.and_eq_true] at h
      have k1 := key 1 h.2
      split at h2 <;> dsimp only at h2
      · have : j = 1 := by omega
        subst this; exact k1
      · omega
    · split at h2
      · rename_i h
        rw [Bool.and_eq_true, Bool.and_eq_true] at h
        have k1 := key 1 h.1.2
        have k2 := key 2 h.2
        split at h2 <;> dsimp only at h2
        · rcases (show j = 1 ∨ j = 2 by omega) with rfl | rfl
          · exact k1
          · exact k2
        · omega
      · split at h2
        · rename_i h
          rw [Bool.and_eq_true, Bool.and_eq_true, Bool.and_eq_true] at h
          have k1 := key 1 h.1.1.2
          have k2 := key 2 h.1.2
          have k3 := key 3 h.2
          split at h2 <;> dsimp only at h2
          · rcases (show j = 1 ∨ j = 2 ∨ j = 3 by omega) with rfl | rfl | rfl
            · exact k1
            · exact k2
            · exact k3
          · omega
        · dsimp only at h2; omega
theorem get_bang (l : List UInt8) (i : Nat) (h : i < l.length) : (⟨⟨l⟩⟩ : ByteArray).get! i = l[i] := by
  have h' : i < (⟨⟨l⟩⟩ : ByteArray).size := h
  have := get_at ⟨⟨l⟩⟩ i h'
  rw [Nat.add_zero] at this
  rw [this]; rfl
/-- A rune that is read: how far, and what of it. -/
theorem dec_str (l : List UInt8) (c : UInt8) (hc : c.toNat < 128) (pos : Nat) (h : pos < l.length) : 1 ≤ (Utf8.decode ⟨⟨l⟩⟩ pos).2 ∧ pos + (Utf8.decode ⟨⟨l⟩⟩ pos).2 ≤ l.length ∧ (((Utf8.decode ⟨⟨l⟩⟩ pos).1 : Int) = c.toNat ↔ l[pos] = c) ∧ (l[pos] = c → (Utf8.decode ⟨⟨l⟩⟩ pos).2 = 1) ∧ ∀ j (hj : j < l.length), pos < j → j < pos + (Utf8.decode ⟨⟨l⟩⟩ pos).2 → l[j] ≠ c := by
  have h' : pos < (⟨⟨l⟩⟩ : ByteArray).size := h
  have hg : (⟨⟨l⟩⟩ : ByteArray)[pos]'(h') = l[pos] := rfl
  have hcont := dec_cont ⟨⟨l⟩⟩ pos
  have hle : pos + (Utf8.decode ⟨⟨l⟩⟩ pos).2 ≤ l.length ∨ (Utf8.decode ⟨⟨l⟩⟩ pos).2 ≤ 1 := by
    by_cases q : (Utf8.decode ⟨⟨l⟩⟩ pos).2 ≤ 1
    · exact .inr q
    · have := (hcont ((Utf8.decode ⟨⟨l⟩⟩ pos).2 - 1) (by omega) (by omega)).1
      have : pos + ((Utf8.decode ⟨⟨l⟩⟩ pos).2 - 1) < l.length := this
      exact .inl (by omega)
  have hin : ∀ j (hj : j < l.length), pos < j → j < pos + (Utf8.decode ⟨⟨l⟩⟩ pos).2 → l[j] ≠ c := by
    intro j hj h1 h2 e
    have := (hcont (j - pos) (by omega) (by omega)).2
    rw [show pos + (j - pos) = j from by omega, get_bang l j hj, e] at this
    omega
  by_cases hlow : (l[pos]).toNat < 128
  · have hd := decode_ascii ⟨⟨l⟩⟩ pos h' (by rw [hg]; exact hlow)
    rw [hg] at hd
    rw [hd] at hle hin ⊢
    refine ⟨by simp, by simp; omega, ?_, fun _ => rfl, hin⟩
    constructor
    · intro e
      have e : ((l[pos]).toNat : Int) = c.toNat := e
      exact UInt8.toNat.inj (by omega)
    · intro e; rw [e]
  · have hd := decode_high ⟨⟨l⟩⟩ pos h' (by rw [hg]; omega)
    refine ⟨hd.2, by omega, ⟨fun e => by omega, fun e => by rw [e] at hlow; omega⟩, fun e => by rw [e] at hlow; omega, hin⟩
theorem cut_step {c : UInt8} {l : List UInt8} {bg pos : Nat} (h1 : bg ≤ pos) (h2 : pos < l.length) (h3 : ∀ j (hj : j < l.length), bg ≤ j → j < pos → l[j] ≠ c) (h4 : l[pos] = c) : cutAt c (l.drop bg) = ((l.take pos).drop bg) :: cutAt c (l.drop (pos + 1)) := by
  have e : l.drop bg = (l.take pos).drop bg ++ c :: l.drop (pos + 1) := by
    have h5 : l = l.take pos ++ c :: l.drop (pos + 1) := by
      rw [← h4, List.getElem_cons_drop, List.take_append_drop]
    conv => lhs; rw [h5]
    rw [List.drop_append_of_le_length (by rw [List.length_take]; omega)]
  rw [e, cutAt_at]
  intro hm
  obtain ⟨i, hi, e⟩ := List.mem_iff_getElem.1 hm
  rw [List.length_drop, List.length_take] at hi
  rw [List.getElem_drop, List.getElem_take] at e
  exact h3 (bg + i) (by omega) (by omega) (by omega) e
theorem cut_end {c : UInt8} {l : List UInt8} {bg : Nat} (h3 : ∀ j (hj : j < l.length), bg ≤ j → l[j] ≠ c) : cutAt c (l.drop bg) = [l.drop bg] := by
  refine cutAt_no fun hm => ?_
  obtain ⟨i, hi, e⟩ := List.mem_iff_getElem.1 hm
  rw [List.length_drop] at hi
  rw [List.getElem_drop] at e
  exact h3 (bg + i) (by omega) (by omega) e
end T
end
section
set_option maxRecDepth 100000
set_option maxHeartbeats 0
open Go.X Go.Proofs Go Go.RowKit
namespace T
noncomputable def oneR (s : List UInt8) : Ln × Int := match lineR (cutAt 32 s) with
  | .ok l => (l, 0)
  | .error e => (⟨0, 0, 0, 0, 0, []⟩, e)
noncomputable def oneV (s : List UInt8) : Value := .tuple ⟨[lnV (oneR s).1, iv (oneR s).2]⟩
theorem lnRV {m : Nat} {rn : List (Nat × Nat)} {sl : List (Nat × List Value)} (l : Ln) : RV m rn sl (lnV l) (lnV l) := RV.agg ⟨RV.of rfl, RV.of rfl, RV.of rfl, RV.of rfl, RV.of rfl, RV.of rfl, trivial⟩ (by intro v hv; simp at hv; rcases hv with rfl | rfl | rfl | rfl | rfl | rfl <;> rfl)
noncomputable def dfO : List Deferred := [⟨.fn (.func 44) ⟨[ptr 100 0, ptr 101 0]⟩, ⟨[]⟩⟩]
theorem k18 (s : List UInt8) (hs : s.length ≤ 100000) : ZC Tryz.prog 18 [str s] (hp 100 []) (oneV s) (hp 100 []) := by
  obtain ⟨w, wr, hwr⟩ : ∃ w wr, cutAt 32 s = w :: wr := by
    cases h : cutAt 32 s with
    | nil => exact absurd h (cutAt_ne 32 s)
    | cons w wr => exact ⟨w, wr, rfl⟩
  have hw : ∀ u ∈ w :: wr, u.length ≤ 100000 := fun u hu => by
    have := cutAt_len (c := 32) (l := s) u (by rw [hwr]; exact hu)
    omega
  have hres : (∃ l, lineR (w :: wr) = .ok l) ∨ ∃ e, lineR (w :: wr) = .error e := by
    cases lineR (w :: wr) with
    | ok l => exact .inl ⟨l, rfl⟩
    | error e => exact .inr ⟨e, rfl⟩
  refine ZC.dfr (fn := Tryz.f18) (x := cod Tryz.f18) (by kernel_rfl) (by kernel_rfl) (by kernel_rfl) (by kernel_rfl) ?_; conv => arg 4; whnf
  refine Zz (k := ?_)
  refine CW.invD (σ := List (List UInt8) × Nat × Nat) (g := 100) (d := dfO) (L := fun z => [(0, str s), (2, ptr 100 0), (3, ptr 101 0), (4, iv z.2.1), (5, ptr 102 0), (12, ptr 103 0)]) (l := fun z => [zrO, some (.cells [iv 0] 1 24 false), some (.cells [ouV 104 z.1] 1 101 false), some (.iter ⟨⟨s⟩⟩ z.2.2), ouO strR 1 9 z.1]) (fun z => z.2.1 ≤ z.2.2 ∧ z.2.2 ≤ s.length ∧ cutAt 32 s = z.1 ++ cutAt 32 (s.drop z.2.1) ∧ z.1.length ≤ z.2.1 ∧ ∀ j (hj : j < s.length), z.2.1 ≤ j → j < z.2.2 → s[j] ≠ 32) (fun z => s.length - z.2.2) ([], 0, 0) ⟨by simp, by simp, rfl, by simp, by simp⟩ [100, 101, 102, 103, 104] [] (gl _) (by kernel_rfl) rfl (RDL.one ⟨RV.pn rfl, RV.pn rfl, trivial⟩ trivial) ?_ trivial ⟨RV.of rfl, RV.pn rfl, RV.pn rfl, RV.of rfl, RV.pn rfl, RV.pn rfl, trivial⟩ ?_
  · exact AllO.som rfl rfl (RObj.same of_zr) (AllO.som rfl rfl (RObj.same (by intro v hv; simp at hv; subst hv; rfl)) (AllO.som rfl rfl (RObj.same (by intro v hv; simp [ouV] at hv; subst hv; rfl)) (AllO.som rfl rfl RObj.iter (AllO.non AllO.nil))))
  · rintro ⟨ws, bg, pos⟩ ⟨h1, h2, h3, h4, h5⟩
    dsimp only at h1 h2 h3 h4 h5
    refine Zz (k := ?_)
    refine WQ.nxt (n := 103) (pos := pos) (b := ⟨⟨s⟩⟩) rfl rfl rfl (fun hp => ?_) (fun hp => ?_)
    · have hp : pos < s.length := hp
      obtain ⟨d1, d2, d3, d4, d5⟩ := dec_str s 32 (by decide) pos hp
      refine Zz (k := ?_)
      refine CW.cb (((Utf8.decode ⟨⟨s⟩⟩ pos).1 : Int) == 32) rfl (fun q q' => ?_) (fun q q' => ?_)
      · have hc : s[pos] = 32 := d3.1 (by simpa using q)
        rcases ws with _ | ⟨w0, ws⟩
        · refine Zz (k := ?_)
          refine WQ.ssl (l := s) (a := bg) (h := pos) rfl rfl rfl (BndI.so rfl (by omega)) (by omega) (BndI.so rfl (by omega)) ?_
          refine Zz (k := ?_)
          refine ⟨([(s.take pos).drop bg], pos + 1, pos + (Utf8.decode ⟨⟨s⟩⟩ pos).2), ⟨⟨by dsimp only; omega, d2, ?_, by simp, fun j hj a b => d5 j hj a b⟩, by dsimp only; omega⟩, To.mkd [100, 101, 102, 103, 106] [] ?_ ⟨RV.of rfl, RV.pn rfl, RV.pn rfl, RV.iw (by simp) (by omega), RV.pn rfl, RV.pn rfl, trivial⟩ trivial (by kernel_rfl) rfl (RDL.one ⟨RV.pn rfl, RV.pn rfl, trivial⟩ trivial)⟩
          · show cutAt 32 s = [(s.take pos).drop bg] ++ cutAt 32 (s.drop (pos + 1))
            rw [h3, cut_step h1 hp h5 hc]; rfl
          · refine AllO.som rfl rfl (RObj.same of_zr) (AllO.som rfl rfl (RObj.same (by intro v hv; simp at hv; subst hv; rfl)) (AllO.som rfl rfl ?_ (AllO.som rfl rfl RObj.iter (AllO.som rfl rfl (RObj.same (by intro v hv; simp [fl, strR] at hv; subst hv; rfl)) AllO.nil))))
            exact RObj.cells ⟨RV.sn rfl, trivial⟩ (by intro v hv; simp at hv; subst hv; rfl)
        · refine Zz (k := ?_)
          refine WQ.ssl (l := s) (a := bg) (h := pos) rfl rfl rfl (BndI.so rfl (by omega)) (by omega) (BndI.so rfl (by omega)) ?_
          refine Zz (k := ?_)
          have h4 : ws.length + 1 ≤ bg := h4
          refine WQ.apo (k := 1) (n := ws.length + 1) (m := 1) (cs := fl strR (w0 :: ws)) (l := [str ((s.take pos).drop bg)]) rfl rfl rfl rfl rfl rfl rfl rfl (by with_unfolding_all rfl) rfl rfl rfl (fun _ h => nomatch h) (fl_len _) rfl (by omega) (by omega) (by show _ * 16 ≤ _; omega) ?_
          refine Zz (k := ?_)
          refine ⟨(w0 :: ws ++ [(s.take pos).drop bg], pos + 1, pos + (Utf8.decode ⟨⟨s⟩⟩ pos).2), ⟨⟨by dsimp only; omega, d2, ?_, by simp; omega, fun j hj a b => d5 j hj a b⟩, by dsimp only; omega⟩, To.mkd [100, 101, 102, 103, 106] [] ?_ ⟨RV.of rfl, RV.pn rfl, RV.pn rfl, RV.iw (by simp) (by omega), RV.pn rfl, RV.pn rfl, trivial⟩ trivial (by kernel_rfl) rfl (RDL.one ⟨RV.pn rfl, RV.pn rfl, trivial⟩ trivial)⟩
          · show cutAt 32 s = w0 :: ws ++ [(s.take pos).drop bg] ++ cutAt 32 (s.drop (pos + 1))
            rw [h3, cut_step h1 hp h5 hc]; simp
          · refine AllO.som rfl rfl (RObj.same of_zr) (AllO.som rfl rfl (RObj.same (by intro v hv; simp at hv; subst hv; rfl)) (AllO.som rfl rfl ?_ (AllO.som rfl rfl RObj.iter (AllO.ofe (ouO_app strR 1 9 (w0 :: ws) _) rfl rfl (RObj.same (by intro v hv; rcases List.mem_append.1 hv with hv | hv; exact fl_of _ v hv; exact RowW.o _ v hv)) AllO.nil))))
            exact RObj.cells ⟨RV.ofe (ouV_app 104 (w0 :: ws) _) (RV.sn rfl), trivial⟩ (by intro v hv; rw [List.mem_singleton.1 hv, ouV_app]; rfl)
      · have hc : s[pos] ≠ 32 := fun e => by have := d3.2 e; simp at q; exact q this
        have hin : ∀ j (hj : j < s.length), bg ≤ j → j < pos + (Utf8.decode ⟨⟨s⟩⟩ pos).2 → s[j] ≠ 32 := by
          intro j hj a b
          rcases (show j < pos ∨ j = pos ∨ pos < j by omega) with g | g | g
          · exact h5 j hj a g
          · subst g; exact hc
          · exact d5 j hj g b
        rcases ws with _ | ⟨w0, ws⟩
        · refine Zz (k := ?_)
          refine ⟨([], bg, pos + (Utf8.decode ⟨⟨s⟩⟩ pos).2), ⟨⟨by dsimp only; omega, d2, h3, h4, hin⟩, by dsimp only; omega⟩, To.mkd [100, 101, 102, 103, 104] [] ?_ ⟨RV.of rfl, RV.pn rfl, RV.pn rfl, RV.of rfl, RV.pn rfl, RV.pn rfl, trivial⟩ trivial (by kernel_rfl) rfl (RDL.one ⟨RV.pn rfl, RV.pn rfl, trivial⟩ trivial)⟩
          exact AllO.som rfl rfl (RObj.same of_zr) (AllO.som rfl rfl (RObj.same (by intro v hv; simp at hv; subst hv; rfl)) (AllO.som rfl rfl (RObj.same (by intro v hv; simp [ouV] at hv; subst hv; rfl)) (AllO.som rfl rfl RObj.iter (AllO.non AllO.nil))))
        · refine Zz (k := ?_)
          refine ⟨(w0 :: ws, bg, pos + (Utf8.decode ⟨⟨s⟩⟩ pos).2), ⟨⟨by dsimp only; omega, d2, h3, h4, hin⟩, by dsimp only; omega⟩, To.mkd [100, 101, 102, 103, 104] [] ?_ ⟨RV.of rfl, RV.pn rfl, RV.pn rfl, RV.of rfl, RV.pn rfl, RV.pn rfl, trivial⟩ trivial (by kernel_rfl) rfl (RDL.one ⟨RV.pn rfl, RV.pn rfl, trivial⟩ trivial)⟩
          refine AllO.som rfl rfl (RObj.same of_zr) (AllO.som rfl rfl (RObj.same (by intro v hv; simp at hv; subst hv; rfl)) (AllO.som rfl rfl ?_ (AllO.som rfl rfl RObj.iter (AllO.som rfl rfl (RObj.same (fl_of _)) AllO.nil))))
          exact RObj.cells ⟨RV.sn rfl, trivial⟩ (by intro v hv; rw [List.mem_singleton.1 hv]; rfl)
    · have hp : s.length ≤ pos := hp
      have hpe : pos = s.length := by omega
      have hcut : cutAt 32 s = ws ++ [(s.take s.length).drop bg] := by
        rw [h3, cut_end fun j hj a => h5 j hj a (by omega), List.take_length]
      rw [hwr] at hcut
      rcases ws with _ | ⟨w0, ws⟩
      · refine Zz (k := ?_)
        refine WQ.ssl (l := s) (a := bg) (h := s.length) rfl rfl rfl BndI.no (by omega) (BndI.so rfl (by omega)) ?_
        refine Zo (k := ?_)
        refine CW.shapeD (g := 100) (d := dfO) (L := [(2, ptr 100 0), (3, ptr 101 0), (5, ptr 102 0)]) (l1 := [zrO, some (.cells [iv 0] 1 24 false), rdr (sl strR (w :: wr))]) [100, 101, 102] [(106, [str ((s.take s.length).drop bg)])] (gl _) (by kernel_rfl) rfl (RDL.one ⟨RV.pn rfl, RV.pn rfl, trivial⟩ trivial) ?_ ⟨⟨⟨_, _, _, by with_unfolding_all rfl⟩, (by intro v hv; simp at hv; subst hv; rfl), rfl, .inl (by decide)⟩, trivial⟩ ⟨RV.pn rfl, RV.pn rfl, RV.pn rfl, trivial⟩ ?_
        · refine AllO.som rfl rfl (RObj.same of_zr) (AllO.som rfl rfl (RObj.same (by intro v hv; simp at hv; subst hv; rfl)) (AllO.som rfl rfl ?_ AllO.nil))
          exact RObj.cells ⟨RV.ofe (by rw [hcut]; rfl) (RV.rsl (List.mem_singleton.2 rfl) (Nat.le_refl _)), trivial⟩ (by intro v hv; rw [List.mem_singleton.1 hv]; rfl)
        rcases hres with ⟨l, hr⟩ | ⟨e, hr⟩
        · refine Zz (k := ?_)
          refine WC.c (ZC.use (k45 w wr false (lnV l) (by rw [hr]; rfl) hw) [102] [some none] [] (by kernel_rfl) ⟨⟨_, by with_unfolding_all rfl, RObj.same of1_rdr⟩, trivial⟩ ⟨trivial, trivial⟩ ⟨RV.ptr (.inr (by decide)), trivial⟩ (lnRV l)) ?_
          refine Zz (k := ?_)
          refine ⟨44, [ptr 100 0, ptr 101 0], [], Tryz.f44, cod Tryz.f44, .returning, .returning, .normal, _, _, rfl, by kernel_rfl, by kernel_rfl, by kernel_rfl, rfl, TD.seq (TD.recG rfl rfl rfl rfl Rec.ret rfl (by kernel_rfl)) (TD.seq (TD.runG (by kernel_rfl) 50 (by kernel_rfl)) (TD.cond (b := false) (by with_unfolding_all rfl) (TD.runG (by kernel_rfl) 50 (by kernel_rfl)))), .inl rfl, by with_unfolding_all rfl, rfl, ⟨_, by with_unfolding_all rfl⟩, .tuple ⟨[lnV l, iv 0]⟩, by kernel_rfl, [], [], by kernel_rfl, trivial, trivial, RV.ofe (v2 := .tuple ⟨[lnV l, iv 0]⟩) (by simp [oneV, oneR, hwr, hr]) (RV.tup ⟨lnRV l, RV.of rfl, trivial⟩)⟩
        · refine Zz (k := ?_)
          refine WC.p (TP.of (ZCb.use (k45 w wr true (fault e) (by rw [hr]; rfl) hw) [102] [some none] [] (by kernel_rfl) ⟨⟨_, by with_unfolding_all rfl, RObj.same of1_rdr⟩, trivial⟩ ⟨trivial, trivial⟩ ⟨RV.ptr (.inr (by decide)), trivial⟩ (RV.of rfl)) rfl) ?_
          refine Zz (k := ?_)
          refine ⟨44, [ptr 100 0, ptr 101 0], [], Tryz.f44, cod Tryz.f44, _, _, .normal, _, _, rfl, by kernel_rfl, by kernel_rfl, by kernel_rfl, rfl, TD.seq (TD.recG rfl rfl rfl rfl Rec.pan rfl (by kernel_rfl)) (TD.seq (TD.runG (by kernel_rfl) 50 (by kernel_rfl)) (TD.cond (b := true) (by with_unfolding_all rfl) (TD.runG (by kernel_rfl) 50 (by kernel_rfl)))), .inl rfl, by with_unfolding_all rfl, rfl, ⟨_, by with_unfolding_all rfl⟩, .tuple ⟨[.agg ⟨[iv 0, iv 0, iv 0, iv 0, iv 0, .slice none 0 0]⟩, iv e]⟩, by kernel_rfl, [], [], by kernel_rfl, trivial, trivial, RV.ofe (v2 := .tuple ⟨[lnV ⟨0, 0, 0, 0, 0, []⟩, iv e]⟩) (by simp [oneV, oneR, hwr, hr]) (RV.tup ⟨RV.agg ⟨RV.of rfl, RV.of rfl, RV.of rfl, RV.of rfl, RV.of rfl, RV.nils, trivial⟩ (by intro v hv; simp at hv; rcases hv with rfl | rfl <;> rfl), RV.of rfl, trivial⟩)⟩
      · refine Zz (k := ?_)
        refine WQ.ssl (l := s) (a := bg) (h := s.length) rfl rfl rfl BndI.no (by omega) (BndI.so rfl (by omega)) ?_
        refine Zo (k := ?_)
        have h4 : ws.length + 1 ≤ bg := h4
        refine WQ.apo (k := 1) (n := ws.length + 1) (m := 1) (cs := fl strR (w0 :: ws)) (l := [str ((s.take s.length).drop bg)]) rfl rfl rfl rfl rfl rfl rfl rfl (by with_unfolding_all rfl) rfl rfl rfl (fun _ h => nomatch h) (fl_len _) rfl (by omega) (by omega) (by show _ * 16 ≤ _; omega) ?_
        refine Zo (k := ?_)
        refine CW.shapeD (g := 100) (d := dfO) (L := [(2, ptr 100 0), (3, ptr 101 0), (5, ptr 102 0)]) (l1 := [zrO, some (.cells [iv 0] 1 24 false), rdr (sl strR (w :: wr))]) [100, 101, 102] [(106, fl strR (w0 :: ws) ++ [str ((s.take s.length).drop bg)])] (gl _) (by kernel_rfl) rfl (RDL.one ⟨RV.pn rfl, RV.pn rfl, trivial⟩ trivial) ?_ ⟨⟨⟨_, _, _, by with_unfolding_all rfl⟩, (by intro v hv; rcases List.mem_append.1 hv with hv | hv; exact fl_of _ v hv; exact RowW.o (row := strR) _ v hv), rfl, .inl (by decide)⟩, trivial⟩ ⟨RV.pn rfl, RV.pn rfl, RV.pn rfl, trivial⟩ ?_
        · refine AllO.som rfl rfl (RObj.same of_zr) (AllO.som rfl rfl (RObj.same (by intro v hv; simp at hv; subst hv; rfl)) (AllO.som rfl rfl ?_ AllO.nil))
          exact RObj.cells ⟨RV.ofe (by rw [hcut]; simp [sl, fl]; rfl) (RV.rsl (List.mem_singleton.2 rfl) (Nat.le_refl _)), trivial⟩ (by intro v hv; rw [List.mem_singleton.1 hv]; rfl)
        rcases hres with ⟨l, hr⟩ | ⟨e, hr⟩
        · refine Zz (k := ?_)
          refine WC.c (ZC.use (k45 w wr false (lnV l) (by rw [hr]; rfl) hw) [102] [some none] [] (by kernel_rfl) ⟨⟨_, by with_unfolding_all rfl, RObj.same of1_rdr⟩, trivial⟩ ⟨trivial, trivial⟩ ⟨RV.ptr (.inr (by decide)), trivial⟩ (lnRV l)) ?_
          refine Zz (k := ?_)
          refine ⟨44, [ptr 100 0, ptr 101 0], [], Tryz.f44, cod Tryz.f44, .returning, .returning, .normal, _, _, rfl, by kernel_rfl, by kernel_rfl, by kernel_rfl, rfl, TD.seq (TD.recG rfl rfl rfl rfl Rec.ret rfl (by kernel_rfl)) (TD.seq (TD.runG (by kernel_rfl) 50 (by kernel_rfl)) (TD.cond (b := false) (by with_unfolding_all rfl) (TD.runG (by kernel_rfl) 50 (by kernel_rfl)))), .inl rfl, by with_unfolding_all rfl, rfl, ⟨_, by with_unfolding_all rfl⟩, .tuple ⟨[lnV l, iv 0]⟩, by kernel_rfl, [], [], by kernel_rfl, trivial, trivial, RV.ofe (v2 := .tuple ⟨[lnV l, iv 0]⟩) (by simp [oneV, oneR, hwr, hr]) (RV.tup ⟨lnRV l, RV.of rfl, trivial⟩)⟩
        · refine Zz (k := ?_)
          refine WC.p (TP.of (ZCb.use (k45 w wr true (fault e) (by rw [hr]; rfl) hw) [102] [some none] [] (by kernel_rfl) ⟨⟨_, by with_unfolding_all rfl, RObj.same of1_rdr⟩, trivial⟩ ⟨trivial, trivial⟩ ⟨RV.ptr (.inr (by decide)), trivial⟩ (RV.of rfl)) rfl) ?_
          refine Zz (k := ?_)
          refine ⟨44, [ptr 100 0, ptr 101 0], [], Tryz.f44, cod Tryz.f44, _, _, .normal, _, _, rfl, by kernel_rfl, by kernel_rfl, by kernel_rfl, rfl, TD.seq (TD.recG rfl rfl rfl rfl Rec.pan rfl (by kernel_rfl)) (TD.seq (TD.runG (by kernel_rfl) 50 (by kernel_rfl)) (TD.cond (b := true) (by with_unfolding_all rfl) (TD.runG (by kernel_rfl) 50 (by kernel_rfl)))), .inl rfl, by with_unfolding_all rfl, rfl, ⟨_, by with_unfolding_all rfl⟩, .tuple ⟨[.agg ⟨[iv 0, iv 0, iv 0, iv 0, iv 0, .slice none 0 0]⟩, iv e]⟩, by kernel_rfl, [], [], by kernel_rfl, trivial, trivial, RV.ofe (v2 := .tuple ⟨[lnV ⟨0, 0, 0, 0, 0, []⟩, iv e]⟩) (by simp [oneV, oneR, hwr, hr]) (RV.tup ⟨RV.agg ⟨RV.of rfl, RV.of rfl, RV.of rfl, RV.of rfl, RV.of rfl, RV.nils, trivial⟩ (by intro v hv; simp at hv; rcases hv with rfl | rfl <;> rfl), RV.of rfl, trivial⟩)⟩
end T
end
section
set_option maxRecDepth 100000
set_option maxHeartbeats 0
open Go.X Go.Proofs Go Go.RowKit
namespace T
noncomputable def lnR (l : Ln) : List Value := [iv l.k, iv l.a, iv l.b, iv l.n, iv l.x, sl intR l.need]
instance : RowW lnR 6 := ⟨fun _ => rfl, fun _ v h => by simp [lnR] at h; rcases h with rfl | rfl | rfl | rfl | rfl | rfl <;> rfl⟩
noncomputable def parseL : List (List UInt8) → List Ln → List Ln × Int × Int
  | [], out => (out, 0, 0)
  | [r], out => if r = [] then (out, 0, 0) else ([], out.length + 1, 221)
  | r :: r2 :: rs, out => if (oneR r).2 = 0 then parseL (r2 :: rs) (out ++ [(oneR r).1]) else ([], out.length + 1, (oneR r).2)
noncomputable def parseR (s : List UInt8) : List Ln × Int × Int := if 4096 < s.length ∨ 200 < s.count 10 then ([], 0, 220) else parseL (cutAt 10 s) []
noncomputable def parseV (r : List Ln × Int × Int) : Value := .tuple ⟨[sl lnR r.1, iv r.2.1, iv r.2.2]⟩
theorem k6a (s : List UInt8) (h : 4096 < s.length ∨ 200 < s.count 10) : ZC Tryz.prog 6 [str s] (hp 100 []) (.tuple ⟨[sl lnR [], iv 0, iv 220]⟩) (hp 100 []) := by
  by_cases h1 : 4096 < s.length
  · refine ZC.cw (fn := Tryz.f6) (x := cod Tryz.f6) (by kernel_rfl) (by kernel_rfl) (by kernel_rfl) (by kernel_rfl) ?_; conv => arg 4; whnf
    refine Zz (k := ?_)
    refine WIf.nb (decide ((s.length : Int) > 4096)) (fun q q' => ?_) (fun q q' => ?_)
    · refine Zz (k := ?_)
      refine Fn.mk (by first | exact .inl rfl | exact .inr rfl) rfl rfl ?_; exact ⟨[], [], by kernel_rfl, trivial, trivial, RV.tup ⟨RV.nils, RV.of rfl, RV.of rfl, trivial⟩⟩
    · simp at q; omega
  · have h2 : 200 < s.count 10 := by rcases h with h | h; exact absurd h h1; exact h
    refine ZC.cw (fn := Tryz.f6) (x := cod Tryz.f6) (by kernel_rfl) (by kernel_rfl) (by kernel_rfl) (by kernel_rfl) ?_; conv => arg 4; whnf
    refine Zz (k := ?_)
    refine WIf.nb (decide ((s.length : Int) > 4096)) (fun q q' => ?_) (fun q q' => ?_)
    · simp at q; omega
    · refine Zz (k := ?_)
      refine WC.c (c16 10 s) ?_
      refine Zz (k := ?_)
      refine CW.cb (decide (((s.count 10 : Nat) : Int) > 200)) rfl (fun q q' => ?_) (fun q q' => ?_)
      · refine Zz (k := ?_)
        refine Fn.mk (by first | exact .inl rfl | exact .inr rfl) rfl rfl ?_; exact ⟨[], [], by kernel_rfl, trivial, trivial, RV.tup ⟨RV.nils, RV.of rfl, RV.of rfl, trivial⟩⟩
      · simp at q; omega
theorem k6 (s : List UInt8) (h1 : s.length ≤ 4096) (h2 : s.count 10 ≤ 200) : ZC Tryz.prog 6 [str s] (hp 100 []) (parseV (parseL (cutAt 10 s) [])) (hp 100 []) := by
  generalize hR : parseL (cutAt 10 s) [] = R
  refine ZC.cw (fn := Tryz.f6) (x := cod Tryz.f6) (by kernel_rfl) (by kernel_rfl) (by kernel_rfl) (by kernel_rfl) ?_; conv => arg 4; whnf
  refine Zz (k := ?_)
  refine WIf.nb (decide ((s.length : Int) > 4096)) (fun q q' => ?_) (fun q q' => ?_)
  · simp at q; omega
  refine Zz (k := ?_)
  refine WC.c (c16 10 s) ?_
  refine Zz (k := ?_)
  refine CW.cb (decide (((s.count 10 : Nat) : Int) > 200)) rfl (fun q q' => ?_) (fun q q' => ?_)
  · simp at q; omega
  refine Zz (k := ?_)
  refine CW.inv (σ := List UInt8 × List Ln) (g := 100) (L := fun z => [(0, str z.1), (5, ouV 100 z.2)]) (l := fun z => [ouO lnR 6 50 z.2]) (fun z => parseL (cutAt 10 z.1) z.2 = R ∧ z.1.length + z.2.length ≤ 4096) (fun z => z.1.length) (s, []) ⟨hR, by simpa using h1⟩ [100] [] (gl _) (by kernel_rfl) rfl rfl trivial trivial ⟨RV.of rfl, RV.of rfl, trivial⟩ ?_
  clear hR h1 h2 q q'
  rintro ⟨r, out⟩ ⟨h3, h4⟩
  dsimp only at h3 h4
  by_cases hr : r = []
  · subst hr
    rcases out with _ | ⟨x, out⟩
    · refine Zz (k := ?_)
      refine Fn.mk (by first | exact .inl rfl | exact .inr rfl) rfl rfl ?_; exact ⟨[], [], by kernel_rfl, trivial, trivial, RV.ofe (v2 := (.tuple ⟨[sl lnR [], iv 0, iv 0]⟩)) (by rw [← h3]; rfl) (RV.tup ⟨RV.nils, RV.of rfl, RV.of rfl, trivial⟩)⟩
    · refine Zz (k := ?_)
      refine Fn.mk (by first | exact .inl rfl | exact .inr rfl) rfl rfl ?_
      exact ⟨[], [(100, fl lnR (x :: out))], by kernel_rfl, trivial, ⟨⟨⟨_, _, _, rfl⟩, fl_of _, rfl, .inl (by decide)⟩, trivial⟩, RV.ofe (v2 := .tuple ⟨[sl lnR (x :: out), iv 0, iv 0]⟩) (by rw [← h3]; rfl) (RV.tup ⟨RV.rsl (List.mem_singleton.2 rfl) (Nat.le_refl _), RV.of rfl, RV.of rfl, trivial⟩)⟩
  · rcases cut_cut 10 r with ⟨hn, hcut⟩ | ⟨a, b, rfl, hn, hcut⟩
    · have hc : ∀ {B : Ban} {lo : Nat} {st : XS}, TC Tryz.prog B lo 17 [str r, str [10]] st (.tuple ⟨[str r, str [], .bool false]⟩) st := fun {B lo st} => by
        have := c17 (B := B) (lo := lo) (st := st) 10 r (by omega)
        rw [hcut] at this; exact this
      have h3 : ([], (out.length : Int) + 1, 221) = R := by rw [← h3, cutAt_no hn]; simp [parseL, hr]
      rcases out with _ | ⟨x, out⟩
      · refine Zz (k := ?_)
        refine CW.cne r [] rfl (fun _ => ?_) (fun e => absurd e hr)
        refine Zz (k := ?_)
        refine WC.c hc ?_
        refine Zz (k := ?_)
        refine Fn.mk (by first | exact .inl rfl | exact .inr rfl) rfl rfl ?_; exact ⟨[], [], by kernel_rfl, trivial, trivial, RV.ofe (v2 := (.tuple ⟨[sl lnR [], iv 1, iv 221]⟩)) (by rw [← h3]; rfl) (RV.tup ⟨RV.nils, RV.iw rfl (by decide), RV.of rfl, trivial⟩)⟩
      · refine Zz (k := ?_)
        refine CW.cne r [] rfl (fun _ => ?_) (fun e => absurd e hr)
        refine Zz (k := ?_)
        refine WC.c hc ?_
        refine Zz (k := ?_)
        simp only [List.length_cons] at h4
        refine Fn.mk (by first | exact .inl rfl | exact .inr rfl) rfl rfl ?_; exact ⟨[], [], by kernel_rfl, trivial, trivial, RV.ofe (v2 := (.tuple ⟨[sl lnR [], iv (((x :: out).length : Int) + 1), iv 221]⟩)) (by rw [← h3]; rfl) (RV.tup ⟨RV.nils, RV.iw rfl (by simp; omega), RV.of rfl, trivial⟩)⟩
    · have hc : ∀ {B : Ban} {lo : Nat} {st : XS}, TC Tryz.prog B lo 17 [str (a ++ 10 :: b), str [10]] st (.tuple ⟨[str a, str b, .bool true]⟩) st := fun {B lo st} => by
        have := c17 (B := B) (lo := lo) (st := st) 10 (a ++ 10 :: b) (by omega)
        rw [hcut] at this; exact this
      have h3 : (if (oneR a).2 = 0 then parseL (cutAt 10 b) (out ++ [(oneR a).1]) else ([], (out.length : Int) + 1, (oneR a).2)) = R := by
        rw [← h3, cutAt_at hn]
        cases hb : cutAt 10 b with
        | nil => exact absurd hb (cutAt_ne 10 b)
        | cons c cs => simp [parseL]
      have hl4 : a.length + b.length + 1 + out.length ≤ 4096 := by simp at h4; omega
      have ho : ∀ {B : Ban} {lo : Nat} {st : XS}, TC Tryz.prog B lo 18 [str a] st (oneV a) st := ZC.pure (k18 a (by omega)) ⟨RV.of rfl, trivial⟩ (RV.tup ⟨lnRV _, RV.of rfl, trivial⟩)
      by_cases he : (oneR a).2 = 0
      · rw [if_pos he] at h3
        rcases out with _ | ⟨x, out⟩
        · refine Zz (k := ?_)
          refine CW.cne (a ++ 10 :: b) [] rfl (fun _ => ?_) (fun e => absurd e hr)
          refine Zz (k := ?_)
          refine WC.c hc ?_
          refine Zz (k := ?_)
          refine WC.c ho ?_
          refine Zz (k := ?_)
          refine CW.cb ((oneR a).2 != 0) rfl (fun q q' => ?_) (fun q q' => ?_)
          · simp [he] at q
          refine Zz (k := ?_)
          refine ⟨(b, [(oneR a).1]), ⟨⟨h3, by simp at hl4 ⊢; omega⟩, by simp; omega⟩, To.mk [103] [] ?_ ⟨RV.of rfl, RV.sn rfl, trivial⟩ trivial (by kernel_rfl) rfl rfl⟩
          exact AllO.som rfl rfl (RObj.same (fl_of [(oneR a).1])) AllO.nil
        · refine Zz (k := ?_)
          refine CW.cne (a ++ 10 :: b) [] rfl (fun _ => ?_) (fun e => absurd e hr)
          refine Zz (k := ?_)
          refine WC.c hc ?_
          refine Zz (k := ?_)
          refine WC.c ho ?_
          refine Zz (k := ?_)
          refine CW.cb ((oneR a).2 != 0) rfl (fun q q' => ?_) (fun q q' => ?_)
          · simp [he] at q
          refine Zz (k := ?_)
          simp only [List.length_cons] at hl4
          refine WQ.apo (k := 6) (n := out.length + 1) (m := 1) (cs := fl lnR (x :: out)) (l := lnR (oneR a).1) rfl rfl rfl rfl rfl rfl rfl rfl (by with_unfolding_all rfl) rfl rfl rfl (fun _ h => nomatch h) (fl_len _) rfl (by omega) (by omega) (by show _ * 64 ≤ _; omega) ?_
          refine Zz (k := ?_)
          refine ⟨(b, x :: out ++ [(oneR a).1]), ⟨⟨h3, by simp; omega⟩, by simp; omega⟩, To.mk [103] [] ?_ ⟨RV.of rfl, RV.ofe (ouV_app 100 (x :: out) _) (RV.sn rfl), trivial⟩ trivial (by kernel_rfl) rfl rfl⟩
          exact AllO.ofe (ouO_app lnR 6 50 (x :: out) _) rfl (by with_unfolding_all rfl) (RObj.same (by intro v hv; rcases List.mem_append.1 hv with hv | hv; exact fl_of _ v hv; exact RowW.o _ v hv)) AllO.nil
      · rw [if_neg he] at h3
        rcases out with _ | ⟨x, out⟩
        · refine Zz (k := ?_)
          refine CW.cne (a ++ 10 :: b) [] rfl (fun _ => ?_) (fun e => absurd e hr)
          refine Zz (k := ?_)
          refine WC.c hc ?_
          refine Zz (k := ?_)
          refine WC.c ho ?_
          refine Zz (k := ?_)
          refine CW.cb ((oneR a).2 != 0) rfl (fun q q' => ?_) (fun q q' => ?_)
          · refine Zz (k := ?_)
            refine Fn.mk (by first | exact .inl rfl | exact .inr rfl) rfl rfl ?_; exact ⟨[], [], by kernel_rfl, trivial, trivial, RV.ofe (v2 := (.tuple ⟨[sl lnR [], iv 1, iv (oneR a).2]⟩)) (by rw [← h3]; rfl) (RV.tup ⟨RV.nils, RV.iw rfl (by decide), RV.of rfl, trivial⟩)⟩
          · simp [he] at q
        · refine Zz (k := ?_)
          refine CW.cne (a ++ 10 :: b) [] rfl (fun _ => ?_) (fun e => absurd e hr)
          refine Zz (k := ?_)
          refine WC.c hc ?_
          refine Zz (k := ?_)
          refine WC.c ho ?_
          refine Zz (k := ?_)
          refine CW.cb ((oneR a).2 != 0) rfl (fun q q' => ?_) (fun q q' => ?_)
          · refine Zz (k := ?_)
            simp only [List.length_cons] at hl4
            refine Fn.mk (by first | exact .inl rfl | exact .inr rfl) rfl rfl ?_; exact ⟨[], [], by kernel_rfl, trivial, trivial, RV.ofe (v2 := (.tuple ⟨[sl lnR [], iv (((x :: out).length : Int) + 1), iv (oneR a).2]⟩)) (by rw [← h3]; rfl) (RV.tup ⟨RV.nils, RV.iw rfl (by simp; omega), RV.of rfl, trivial⟩)⟩
          · simp [he] at q
theorem k6R (s : List UInt8) : ZC Tryz.prog 6 [str s] (hp 100 []) (parseV (parseR s)) (hp 100 []) := by
  unfold parseR
  split
  · exact k6a s (by assumption)
  · exact k6 s (by omega) (by omega)
end T
end
section
set_option maxRecDepth 100000
set_option maxHeartbeats 0
open Go.X Go.Proofs Go Go.RowKit
namespace T
theorem at_of {α : Type} {l : List α} {i : Nat} (h : i < l.length) : at_ l (i : Int) = some l[i] := by unfold at_; rw [if_pos (by omega)]; simp [h]
/-- slices.Equal of ints. -/
theorem k24 (a b : List Int) (ha : a.length ≤ 1000000) (hb : b.length ≤ 1000000) : ZC Tryz.prog 24 [sl intR a, sl intR b] (hp 100 []) (.bool (decide (a = b))) (hp 100 []) := by
  generalize hR : decide (a = b) = R
  by_cases hl : a.length = b.length
  · refine ZC.cw (fn := Tryz.f24) (x := cod Tryz.f24) (by kernel_rfl) (by kernel_rfl) (by kernel_rfl) (by kernel_rfl) ?_; conv => arg 4; whnf
    refine Zz (k := ?_)
    refine CW.cb ((a.length : Int) != (b.length : Int)) rfl (fun q q' => ?_) (fun q q' => ?_)
    · simp [hl] at q
    refine Zz (k := ?_)
    refine CW.inv (σ := Nat) (g := 100) (L := fun z => [(0, sl intR a), (1, sl intR b), (12, iv a.length), (13, iv z)]) (l := fun _ => []) (fun z => z ≤ a.length ∧ ∀ i (h1 : i < a.length) (h2 : i < b.length), i < z → a[i] = b[i]) (fun z => a.length - z) 0 ⟨by omega, by intros; omega⟩ [] [] (gl _) (by kernel_rfl) rfl rfl trivial trivial ⟨RV.of rfl, RV.of rfl, RV.of rfl, RV.of rfl, trivial⟩ ?_
    rintro z ⟨h1, h2⟩
    by_cases hz : z < a.length
    · have e1 := at_of hz
      have e2 := at_of (l := b) (i := z) (by omega)
      by_cases he : a[z] = b[z]
      · have h5 : ∀ i (h1 : i < a.length) (h2 : i < b.length), i < z + 1 → a[i] = b[i] := by
          intro i g1 g2 g3
          by_cases g : i = z
          · subst g; exact he
          · exact h2 i g1 g2 (by omega)
        generalize a[z] = x1 at e1 he
        generalize b[z] = x2 at e2 he
        refine Zz (k := ?_)
        refine CW.cb (decide ((z : Int) < (a.length : Int))) rfl (fun g g' => ?_) (fun g g' => ?_)
        · refine Zz (k := ?_)
          refine WI.at e1 rfl rfl ?_
          refine Zz (k := ?_)
          refine WI.at e2 rfl rfl ?_
          refine Zz (k := ?_)
          refine CW.cb (x1 != x2) rfl (fun g g' => ?_) (fun g g' => ?_)
          · simp [he] at g
          · refine Zz (k := ?_)
            refine ⟨z + 1, ⟨⟨by omega, h5⟩, by omega⟩, To.mk [] [] AllO.nil ⟨RV.of rfl, RV.of rfl, RV.of rfl, RV.iw (by simp) (by omega), trivial⟩ trivial (by kernel_rfl) rfl rfl⟩
        · simp at g; omega
      · have hR : false = R := by rw [← hR]; symm; simp; intro e; subst e; exact he rfl
        generalize a[z] = x1 at *
        generalize b[z] = x2 at *
        refine Zz (k := ?_)
        refine CW.cb (decide ((z : Int) < (a.length : Int))) rfl (fun g g' => ?_) (fun g g' => ?_)
        · refine Zz (k := ?_)
          refine WI.at e1 rfl rfl ?_
          refine Zz (k := ?_)
          refine WI.at e2 rfl rfl ?_
          refine Zz (k := ?_)
          refine CW.cb (x1 != x2) rfl (fun g g' => ?_) (fun g g' => ?_)
          · refine Zz (k := ?_)
            refine Fn.mk (by first | exact .inl rfl | exact .inr rfl) rfl rfl ?_; exact ⟨[], [], by kernel_rfl, trivial, trivial, RV.ofe (v2 := (.bool false)) (by rw [hR]) (RV.of rfl)⟩
          · simp at g; exact absurd g he
        · simp at g; omega
    · have hR : true = R := by
        rw [← hR]; symm; simp
        refine List.ext_getElem hl fun i g1 g2 => h2 i g1 g2 (by omega)
      refine Zz (k := ?_)
      refine CW.cb (decide ((z : Int) < (a.length : Int))) rfl (fun g g' => ?_) (fun g g' => ?_)
      · simp at g; omega
      · refine Zz (k := ?_)
        refine Fn.mk (by first | exact .inl rfl | exact .inr rfl) rfl rfl ?_; exact ⟨[], [], by kernel_rfl, trivial, trivial, RV.ofe (v2 := (.bool true)) (by rw [hR]) (RV.of rfl)⟩
  · have hR : false = R := by rw [← hR]; symm; simp; intro e; subst e; exact hl rfl
    refine ZC.cw (fn := Tryz.f24) (x := cod Tryz.f24) (by kernel_rfl) (by kernel_rfl) (by kernel_rfl) (by kernel_rfl) ?_; conv => arg 4; whnf
    refine Zz (k := ?_)
    refine CW.cb ((a.length : Int) != (b.length : Int)) rfl (fun q q' => ?_) (fun q q' => ?_)
    · refine Zz (k := ?_)
      refine Fn.mk (by first | exact .inl rfl | exact .inr rfl) rfl rfl ?_; exact ⟨[], [], by kernel_rfl, trivial, trivial, RV.ofe (v2 := (.bool false)) (by rw [hR]) (RV.of rfl)⟩
    · simp at q; omega
def sameB (x y : Ln) : Bool := x.k == y.k && x.a == y.a && x.b == y.b && x.n == y.n && x.x == y.x && decide (x.need = y.need)
theorem k23 (x y : Ln) (hx : x.need.length ≤ 1000000) (hy : y.need.length ≤ 1000000) : ZC Tryz.prog 23 [lnV x, lnV y] (hp 100 []) (.bool (sameB x y)) (hp 100 []) := by
  generalize hR : sameB x y = R
  refine ZC.cw (fn := Tryz.f23) (x := cod Tryz.f23) (by kernel_rfl) (by kernel_rfl) (by kernel_rfl) (by kernel_rfl) ?_; conv => arg 4; whnf
  refine Zz (k := ?_)
  refine WIf.b (x.k == y.k) (fun h1 h1n => ?_) (fun h1 h1n => ?_)
  rotate_left
  · refine Zz (k := ?_)
    refine Fn.mk (by first | exact .inl rfl | exact .inr rfl) rfl rfl ?_; exact ⟨[], [], by kernel_rfl, trivial, trivial, RV.ofe (v2 := (.bool false)) (by rw [← hR]; simp only [sameB, h1, Bool.false_and, Bool.and_false, Bool.true_and]) (RV.of rfl)⟩
  refine Zz (k := ?_)
  refine WIf.b (x.a == y.a) (fun h2 h2n => ?_) (fun h2 h2n => ?_)
  rotate_left
  · refine Zz (k := ?_)
    refine Fn.mk (by first | exact .inl rfl | exact .inr rfl) rfl rfl ?_; exact ⟨[], [], by kernel_rfl, trivial, trivial, RV.ofe (v2 := (.bool false)) (by rw [← hR]; simp only [sameB, h1, h2, Bool.false_and, Bool.and_false, Bool.true_and]) (RV.of rfl)⟩
  refine Zz (k := ?_)
  refine WIf.b (x.b == y.b) (fun h3 h3n => ?_) (fun h3 h3n => ?_)
  rotate_left
  · refine Zz (k := ?_)
    refine Fn.mk (by first | exact .inl rfl | exact .inr rfl) rfl rfl ?_; exact ⟨[], [], by kernel_rfl, trivial, trivial, RV.ofe (v2 := (.bool false)) (by rw [← hR]; simp only [sameB, h1, h2, h3, Bool.false_and, Bool.and_false, Bool.true_and]) (RV.of rfl)⟩
  refine Zz (k := ?_)
  refine WIf.b (x.n == y.n) (fun h4 h4n => ?_) (fun h4 h4n => ?_)
  rotate_left
  · refine Zz (k := ?_)
    refine Fn.mk (by first | exact .inl rfl | exact .inr rfl) rfl rfl ?_; exact ⟨[], [], by kernel_rfl, trivial, trivial, RV.ofe (v2 := (.bool false)) (by rw [← hR]; simp only [sameB, h1, h2, h3, h4, Bool.false_and, Bool.and_false, Bool.true_and]) (RV.of rfl)⟩
  refine Zz (k := ?_)
  refine WIf.b (x.x == y.x) (fun h5 h5n => ?_) (fun h5 h5n => ?_)
  rotate_left
  · refine Zz (k := ?_)
    refine Fn.mk (by first | exact .inl rfl | exact .inr rfl) rfl rfl ?_; exact ⟨[], [], by kernel_rfl, trivial, trivial, RV.ofe (v2 := (.bool false)) (by rw [← hR]; simp only [sameB, h1, h2, h3, h4, h5, Bool.false_and, Bool.and_false, Bool.true_and]) (RV.of rfl)⟩
  refine Zz (k := ?_)
  refine WC.c (ZC.pure (k24 x.need y.need hx hy) ⟨RV.of rfl, RV.of rfl, trivial⟩ (RV.of rfl)) ?_
  refine Zz (k := ?_)
  refine Fn.mk (by first | exact .inl rfl | exact .inr rfl) rfl rfl ?_; exact ⟨[], [], by kernel_rfl, trivial, trivial, RV.ofe (v2 := (.bool (decide (x.need = y.need)))) (by rw [← hR]; simp only [sameB, h1, h2, h3, h4, h5, Bool.true_and]) (RV.of rfl)⟩
def sameL (a b : List Ln) : Bool := decide (a.length = b.length) && (List.zip a b).all fun p => sameB p.1 p.2
theorem sameL_iff (a b : List Ln) : sameL a b = true ↔ ∃ h : a.length = b.length, ∀ i (h1 : i < a.length) (h2 : i < b.length), sameB a[i] b[i] = true := by
  unfold sameL
  rw [Bool.and_eq_true, decide_eq_true_eq, List.all_eq_true]
  constructor
  · rintro ⟨h, k⟩
    refine ⟨h, fun i h1 h2 => ?_⟩
    exact k (a[i], b[i]) (List.mem_iff_getElem.2 ⟨i, by simp; omega, by simp⟩)
  · rintro ⟨h, k⟩
    refine ⟨h, fun p hp => ?_⟩
    obtain ⟨i, hi, e⟩ := List.mem_iff_getElem.1 hp
    have hi' : i < a.length ∧ i < b.length := by rw [List.length_zip] at hi; omega
    rw [List.getElem_zip] at e
    subst e
    exact k i hi'.1 hi'.2
def F23 : Value := .func (.func 23) ⟨[]⟩ ⟨[]⟩
theorem k22 (a b : List Ln) (ha : a.length ≤ 1000000) (hb : b.length ≤ 1000000) (na : ∀ x ∈ a, x.need.length ≤ 1000000) (nb : ∀ x ∈ b, x.need.length ≤ 1000000) : ZC Tryz.prog 22 [sl lnR a, sl lnR b, F23] (hp 100 []) (.bool (sameL a b)) (hp 100 []) := by
  generalize hR : sameL a b = R
  have hno : ∀ {P : Prop}, sameL a b ≠ true → false = R := fun h => by rw [← hR]; simpa using Eq.symm (by simpa using h)
  by_cases hl : a.length = b.length
  · refine ZC.cw (fn := Tryz.f22) (x := cod Tryz.f22) (by kernel_rfl) (by kernel_rfl) (by kernel_rfl) (by kernel_rfl) ?_; conv => arg 4; whnf
    refine Zz (k := ?_)
    refine CW.cb ((a.length : Int) != (b.length : Int)) rfl (fun q q' => ?_) (fun q q' => ?_)
    · simp [hl] at q
    refine Zz (k := ?_)
    refine CW.inv (σ := Nat) (g := 100) (L := fun z => [(0, sl lnR a), (1, sl lnR b), (2, F23), (15, sl lnR a), (16, iv a.length), (17, iv z)]) (l := fun _ => []) (fun z => z ≤ a.length ∧ ∀ i (h1 : i < a.length) (h2 : i < b.length), i < z → sameB a[i] b[i] = true) (fun z => a.length - z) 0 ⟨by omega, by intros; omega⟩ [] [] (gl _) (by kernel_rfl) rfl rfl trivial trivial ⟨RV.of rfl, RV.of rfl, RV.of rfl, RV.of rfl, RV.of rfl, RV.of rfl, trivial⟩ ?_
    rintro z ⟨h1, h2⟩
    by_cases hz : z < a.length
    · have e1 := at_of hz
      have e2 := at_of (l := b) (i := z) (by omega)
      have m1 := na a[z] (by simp)
      have m2 := nb (b[z]'(by omega)) (by simp)
      by_cases he : sameB a[z] (b[z]'(by omega)) = true
      · have h5 : ∀ i (h1 : i < a.length) (h2 : i < b.length), i < z + 1 → sameB a[i] b[i] = true := by
          intro i g1 g2 g3
          by_cases g : i = z
          · subst g; exact he
          · exact h2 i g1 g2 (by omega)
        generalize a[z] = x1 at e1 he m1
        generalize b[z]'(by omega) = x2 at e2 he m2
        have kk : ZC Tryz.prog 23 [lnV x1, lnV x2] (hp 100 []) (.bool true) (hp 100 []) := he ▸ k23 x1 x2 m1 m2
        refine Zz (k := ?_)
        refine CW.cb (decide ((z : Int) < (a.length : Int))) rfl (fun g g' => ?_) (fun g g' => ?_)
        · refine Zz (k := ?_)
          refine WI.at e1 rfl rfl ?_
          refine Zz (k := ?_)
          refine WI.at e2 rfl rfl ?_
          refine Zz (k := ?_)
          refine WC.c (ZC.pure kk ⟨lnRV x1, lnRV x2, trivial⟩ (RV.of rfl)) ?_
          refine Zz (k := ?_)
          refine ⟨z + 1, ⟨⟨by omega, h5⟩, by omega⟩, To.mk [] [] AllO.nil ⟨RV.of rfl, RV.of rfl, RV.of rfl, RV.of rfl, RV.of rfl, RV.iw (by simp) (by omega), trivial⟩ trivial (by kernel_rfl) rfl rfl⟩
        · simp at g; omega
      · have hR : false = R := hno (P := True) fun e => by
          obtain ⟨_, k⟩ := (sameL_iff a b).1 e
          exact he (k z hz (by omega))
        have he : sameB a[z] (b[z]'(by omega)) = false := by simpa using he
        generalize a[z] = x1 at e1 he m1
        generalize b[z]'(by omega) = x2 at e2 he m2
        have kk : ZC Tryz.prog 23 [lnV x1, lnV x2] (hp 100 []) (.bool false) (hp 100 []) := he ▸ k23 x1 x2 m1 m2
        refine Zz (k := ?_)
        refine CW.cb (decide ((z : Int) < (a.length : Int))) rfl (fun g g' => ?_) (fun g g' => ?_)
        · refine Zz (k := ?_)
          refine WI.at e1 rfl rfl ?_
          refine Zz (k := ?_)
          refine WI.at e2 rfl rfl ?_
          refine Zz (k := ?_)
          refine WC.c (ZC.pure kk ⟨lnRV x1, lnRV x2, trivial⟩ (RV.of rfl)) ?_
          refine Zz (k := ?_)
          refine Fn.mk (by first | exact .inl rfl | exact .inr rfl) rfl rfl ?_; exact ⟨[], [], by kernel_rfl, trivial, trivial, RV.ofe (v2 := (.bool false)) (by rw [hR]) (RV.of rfl)⟩
        · simp at g; omega
    · have hR : true = R := by
        rw [← hR]; symm; rw [sameL_iff]
        exact ⟨hl, fun i g1 g2 => h2 i g1 g2 (by omega)⟩
      refine Zz (k := ?_)
      refine CW.cb (decide ((z : Int) < (a.length : Int))) rfl (fun g g' => ?_) (fun g g' => ?_)
      · simp at g; omega
      · refine Zz (k := ?_)
        refine Fn.mk (by first | exact .inl rfl | exact .inr rfl) rfl rfl ?_; exact ⟨[], [], by kernel_rfl, trivial, trivial, RV.ofe (v2 := (.bool true)) (by rw [hR]) (RV.of rfl)⟩
  · have hR : false = R := hno (P := True) fun e => hl ((sameL_iff a b).1 e).1
    refine ZC.cw (fn := Tryz.f22) (x := cod Tryz.f22) (by kernel_rfl) (by kernel_rfl) (by kernel_rfl) (by kernel_rfl) ?_; conv => arg 4; whnf
    refine Zz (k := ?_)
    refine CW.cb ((a.length : Int) != (b.length : Int)) rfl (fun q q' => ?_) (fun q q' => ?_)
    · refine Zz (k := ?_)
      refine Fn.mk (by first | exact .inl rfl | exact .inr rfl) rfl rfl ?_; exact ⟨[], [], by kernel_rfl, trivial, trivial, RV.ofe (v2 := (.bool false)) (by rw [hR]) (RV.of rfl)⟩
    · simp at q; omega
theorem k9 (a b : List Ln) (ha : a.length ≤ 1000000) (hb : b.length ≤ 1000000) (na : ∀ x ∈ a, x.need.length ≤ 1000000) (nb : ∀ x ∈ b, x.need.length ≤ 1000000) : ZC Tryz.prog 9 [sl lnR a, sl lnR b] (hp 100 []) (.bool (sameL a b)) (hp 100 []) := by
  refine ZC.cw (fn := Tryz.f9) (x := cod Tryz.f9) (by kernel_rfl) (by kernel_rfl) (by kernel_rfl) (by kernel_rfl) ?_; conv => arg 4; whnf
  refine Zz (k := ?_)
  refine WC.c (ZC.pure (k22 a b ha hb na nb) ⟨RV.of rfl, RV.of rfl, RV.of rfl, trivial⟩ (RV.of rfl)) ?_
  refine Zz (k := ?_)
  refine Fn.mk (by first | exact .inl rfl | exact .inr rfl) rfl rfl ?_; exact ⟨[], [], by kernel_rfl, trivial, trivial, RV.of rfl⟩
end T
end
section
set_option maxRecDepth 100000
set_option maxHeartbeats 0
open Go.X Go.Proofs Go Go.RowKit
namespace T
theorem k37 (n : Int) : ZC Tryz.prog 37 [iv n] (hp 100 []) (.bool (!small n)) (hp 100 []) := by
  refine ZC.cw (fn := Tryz.f37) (x := cod Tryz.f37) (by kernel_rfl) (by kernel_rfl) (by kernel_rfl) (by kernel_rfl) ?_; conv => arg 4; whnf
  refine Zz (k := ?_)
  refine WC.c (ZC.pure (k60 n) ⟨RV.of rfl, trivial⟩ (RV.of rfl)) ?_
  refine Zz (k := ?_)
  refine Fn.mk (by first | exact .inl rfl | exact .inr rfl) rfl rfl ?_; exact ⟨[], [], by kernel_rfl, trivial, trivial, RV.of rfl⟩
def F37 : Value := .func (.func 37) ⟨[]⟩ ⟨[]⟩
def bigI : List Int → Nat → Int
  | [], _ => -1
  | x :: l, i => if small x = true then bigI l (i + 1) else i
theorem bigI_any : ∀ (l : List Int) (i : Nat), decide (0 ≤ bigI l i) = l.any fun x => !small x
  | [], i => rfl
  | x :: l, i => by
    unfold bigI
    rw [List.any_cons]
    split
    · rename_i h; rw [h, bigI_any l (i + 1)]; rfl
    · rename_i h
      have h : small x = false := by simpa using h
      rw [h]; simp
theorem bigI_drop {l : List Int} {i : Nat} {x : Int} (h : l[i]? = some x) : bigI (l.drop i) i = if small x = true then bigI (l.drop (i + 1)) (i + 1) else i := by
  obtain ⟨hi, e⟩ := List.getElem?_eq_some_iff.1 h
  rw [List.drop_eq_getElem_cons hi, e]; rfl
theorem k59 (l : List Int) (hl : l.length ≤ 1000000) : ZC Tryz.prog 59 [sl intR l, F37] (hp 100 []) (iv (bigI l 0)) (hp 100 []) := by
  generalize hR : bigI l 0 = R
  refine ZC.cw (fn := Tryz.f59) (x := cod Tryz.f59) (by kernel_rfl) (by kernel_rfl) (by kernel_rfl) (by kernel_rfl) ?_; conv => arg 4; whnf
  refine Zz (k := ?_)
  refine CW.inv (σ := Nat) (g := 100) (L := fun z => [(0, sl intR l), (1, F37), (7, iv l.length), (8, iv z)]) (l := fun _ => []) (fun z => z ≤ l.length ∧ bigI (l.drop z) z = R) (fun z => l.length - z) 0 ⟨by omega, hR⟩ [] [] (gl 0) (by kernel_rfl) rfl rfl (AllO.nil) trivial ⟨RV.of rfl, RV.of rfl, RV.of rfl, RV.of rfl, trivial⟩ ?_
  rintro z ⟨h1, h2⟩
  by_cases hz : z < l.length
  · have e1 := at_of hz
    have h3 := bigI_drop (l := l) (i := z) (x := l[z]) (by simp [hz])
    rw [h2] at h3
    by_cases hs : small l[z] = true
    · rw [if_pos hs] at h3
      generalize l[z] = x at e1 hs
      have kk : ZC Tryz.prog 37 [iv x] (hp 100 []) (.bool false) (hp 100 []) := by have := k37 x; rw [hs] at this; exact this
      refine Zz (k := ?_)
      refine CW.cb (decide ((z : Int) < (l.length : Int))) rfl (fun g g' => ?_) (fun g g' => ?_)
      · refine Zz (k := ?_)
        refine WI.at e1 rfl rfl ?_
        refine Zz (k := ?_)
        refine WC.c (ZC.pure kk ⟨RV.of rfl, trivial⟩ (RV.of rfl)) ?_
        refine Zz (k := ?_)
        refine ⟨z + 1, ⟨⟨by omega, h3.symm⟩, by omega⟩, To.mk [] [] (AllO.nil) ⟨RV.of rfl, RV.of rfl, RV.of rfl, RV.iw (by simp) (by omega), trivial⟩ trivial (by kernel_rfl) rfl rfl⟩
      · simp at g; omega
    · rw [if_neg hs] at h3
      have hs : small l[z] = false := by simpa using hs
      generalize l[z] = x at e1 hs
      have kk : ZC Tryz.prog 37 [iv x] (hp 100 []) (.bool true) (hp 100 []) := by have := k37 x; rw [hs] at this; exact this
      refine Zz (k := ?_)
      refine CW.cb (decide ((z : Int) < (l.length : Int))) rfl (fun g g' => ?_) (fun g g' => ?_)
      · refine Zz (k := ?_)
        refine WI.at e1 rfl rfl ?_
        refine Zz (k := ?_)
        refine WC.c (ZC.pure kk ⟨RV.of rfl, trivial⟩ (RV.of rfl)) ?_
        refine Zz (k := ?_)
        refine Fn.mk (by first | exact .inl rfl | exact .inr rfl) rfl rfl ?_
        exact ⟨[], [], by kernel_rfl, AllO.nil, trivial, RV.ofe (v2 := iv z) (by rw [h3]) (RV.of rfl)⟩
      · simp at g; omega
  · have h3 : -1 = R := by rw [← h2, List.drop_eq_nil_of_le (by omega)]; rfl
    refine Zz (k := ?_)
    refine CW.cb (decide ((z : Int) < (l.length : Int))) rfl (fun g g' => ?_) (fun g g' => ?_)
    · simp at g; omega
    · refine Zz (k := ?_)
      refine Fn.mk (by first | exact .inl rfl | exact .inr rfl) rfl rfl ?_
      exact ⟨[], [], by kernel_rfl, AllO.nil, trivial, RV.ofe (v2 := iv (-1)) (by rw [h3]) (RV.of rfl)⟩
theorem k36 (l : List Int) (hl : l.length ≤ 1000000) : ZC Tryz.prog 36 [sl intR l, F37] (hp 100 []) (.bool (l.any fun x => !small x)) (hp 100 []) := by
  rw [← bigI_any l 0]
  refine ZC.cw (fn := Tryz.f36) (x := cod Tryz.f36) (by kernel_rfl) (by kernel_rfl) (by kernel_rfl) (by kernel_rfl) ?_; conv => arg 4; whnf
  refine Zz (k := ?_)
  refine WC.c (ZC.pure (k59 l hl) ⟨RV.of rfl, RV.of rfl, trivial⟩ (RV.of rfl)) ?_
  refine Zz (k := ?_)
  refine Fn.mk (by first | exact .inl rfl | exact .inr rfl) rfl rfl ?_; exact ⟨[], [], by kernel_rfl, trivial, trivial, RV.of rfl⟩

theorem k59o (l : List Int) (hl : l.length ≤ 1000000) : ZC Tryz.prog 59 [.slice (some ⟨100, 0, none⟩) l.length l.length, F37] (hp 100 [some (.cells (fl intR l) l.length 3 false)]) (iv (bigI l 0)) (hp 100 [some (.cells (fl intR l) l.length 3 false)]) := by
  generalize hR : bigI l 0 = R
  refine ZC.cw (fn := Tryz.f59) (x := cod Tryz.f59) (by kernel_rfl) (by kernel_rfl) (by kernel_rfl) (by kernel_rfl) ?_; conv => arg 4; whnf
  refine Zz (k := ?_)
  refine CW.inv (σ := Nat) (g := 100) (L := fun z => [(0, .slice (some ⟨100, 0, none⟩) l.length l.length), (1, F37), (7, iv l.length), (8, iv z)]) (l := fun _ => [some (.cells (fl intR l) l.length 3 false)]) (fun z => z ≤ l.length ∧ bigI (l.drop z) z = R) (fun z => l.length - z) 0 ⟨by omega, hR⟩ [] [] (gl 1) (by kernel_rfl) rfl rfl (AllO.som rfl rfl (RObj.same (fl_of l)) AllO.nil) trivial ⟨RV.sn rfl, RV.of rfl, RV.of rfl, RV.of rfl, trivial⟩ ?_
  rintro z ⟨h1, h2⟩
  by_cases hz : z < l.length
  · have e1 := at_of hz
    have h3 := bigI_drop (l := l) (i := z) (x := l[z]) (by simp [hz])
    rw [h2] at h3
    by_cases hs : small l[z] = true
    · rw [if_pos hs] at h3
      generalize l[z] = x at e1 hs
      have kk : ZC Tryz.prog 37 [iv x] (hp 100 []) (.bool false) (hp 100 []) := by have := k37 x; rw [hs] at this; exact this
      refine Zz (k := ?_)
      refine CW.cb (decide ((z : Int) < (l.length : Int))) rfl (fun g g' => ?_) (fun g g' => ?_)
      · refine Zz (k := ?_)
        refine WI.at e1 rfl rfl ?_
        refine Zz (k := ?_)
        refine WC.c (ZC.pure kk ⟨RV.of rfl, trivial⟩ (RV.of rfl)) ?_
        refine Zz (k := ?_)
        refine ⟨z + 1, ⟨⟨by omega, h3.symm⟩, by omega⟩, To.mk [] [] (AllO.som rfl rfl (RObj.same (fl_of l)) AllO.nil) ⟨RV.sn rfl, RV.of rfl, RV.of rfl, RV.iw (by simp) (by omega), trivial⟩ trivial (by kernel_rfl) rfl rfl⟩
      · simp at g; omega
    · rw [if_neg hs] at h3
      have hs : small l[z] = false := by simpa using hs
      generalize l[z] = x at e1 hs
      have kk : ZC Tryz.prog 37 [iv x] (hp 100 []) (.bool true) (hp 100 []) := by have := k37 x; rw [hs] at this; exact this
      refine Zz (k := ?_)
      refine CW.cb (decide ((z : Int) < (l.length : Int))) rfl (fun g g' => ?_) (fun g g' => ?_)
      · refine Zz (k := ?_)
        refine WI.at e1 rfl rfl ?_
        refine Zz (k := ?_)
        refine WC.c (ZC.pure kk ⟨RV.of rfl, trivial⟩ (RV.of rfl)) ?_
        refine Zz (k := ?_)
        refine Fn.mk (by first | exact .inl rfl | exact .inr rfl) rfl rfl ?_
        exact ⟨[], [], by kernel_rfl, AllO.som rfl rfl (RObj.same (fl_of l)) AllO.nil, trivial, RV.ofe (v2 := iv z) (by rw [h3]) (RV.of rfl)⟩
      · simp at g; omega
  · have h3 : -1 = R := by rw [← h2, List.drop_eq_nil_of_le (by omega)]; rfl
    refine Zz (k := ?_)
    refine CW.cb (decide ((z : Int) < (l.length : Int))) rfl (fun g g' => ?_) (fun g g' => ?_)
    · simp at g; omega
    · refine Zz (k := ?_)
      refine Fn.mk (by first | exact .inl rfl | exact .inr rfl) rfl rfl ?_
      exact ⟨[], [], by kernel_rfl, AllO.som rfl rfl (RObj.same (fl_of l)) AllO.nil, trivial, RV.ofe (v2 := iv (-1)) (by rw [h3]) (RV.of rfl)⟩
theorem k36o (l : List Int) (hl : l.length ≤ 1000000) : ZC Tryz.prog 36 [.slice (some ⟨100, 0, none⟩) l.length l.length, F37] (hp 100 [some (.cells (fl intR l) l.length 3 false)]) (.bool (l.any fun x => !small x)) (hp 100 [some (.cells (fl intR l) l.length 3 false)]) := by
  rw [← bigI_any l 0]
  refine ZC.cw (fn := Tryz.f36) (x := cod Tryz.f36) (by kernel_rfl) (by kernel_rfl) (by kernel_rfl) (by kernel_rfl) ?_; conv => arg 4; whnf
  refine Zz (k := ?_)
  refine WC.c (ZC.use (k59o l hl) [100] [none] [] (by kernel_rfl) ⟨⟨_, by with_unfolding_all rfl, RObj.same (fl_of l)⟩, trivial⟩ ⟨⟨_, _, rfl, by with_unfolding_all rfl, RObj.same (fl_of l)⟩, trivial⟩ ⟨RV.slc (.inr (by decide)), RV.of rfl, trivial⟩ (RV.of rfl)) ?_
  refine Zz (k := ?_)
  refine Fn.mk (by first | exact .inl rfl | exact .inr rfl) rfl rfl ?_
  exact ⟨[], [], by kernel_rfl, AllO.som rfl rfl (RObj.same (fl_of l)) AllO.nil, trivial, RV.of rfl⟩

end T
end
section
set_option linter.unusedVariables false
namespace Go.X
open Go Go.RowKit
/-! A function that the executor runs, as a contract -/
theorem ZC.ofRun {P : Program} (hm : P.follows .mixedOrders = true) {n fid g : Nat} {args : List Value} {v v1 v2 : Value} {s1 : XS} {l l1 l' : List (Option Ob)} {ns1 ns2 : List Nat} {sl1 sl2 : List (Nat × List Value)} (hn : (Nat.ble P.globals.size g && Nat.ble (g + l'.length) tops && Nat.ble l.length l'.length) = true) (hl : Nat.ble (g + l.length) tops = true)
    (hr : run P n (.call fid args) [] (g + l.length) (hp g l) = .ret v1 s1) (h1 : fit (g + l.length) g ns1 l1 = true) (ho1 : AllO (g + l.length) ns1 sl1 s1 l1 g) (hs1 : AllS (g + l.length) g ns1 l1 s1 sl1) (hv1 : RV (g + l.length) (zipN ns1 (g + l.length)) sl1 v2 v1)
    (h2 : fit (g + l.length) g ns2 l' = true) (ho2 : AllO (g + l.length) ns2 sl2 (hp g l1) l' g) (hs2 : AllS (g + l.length) g ns2 l' (hp g l1) sl2) (hv2 : RV (g + l.length) (zipN ns2 (g + l.length)) sl2 v v2) : ZC P fid args (hp g l) v (hp g l') := by
  simp only [Bool.and_eq_true] at hn
  have k1 := Nat.le_of_ble_eq_true hn.1.1
  have k2 := Nat.le_of_ble_eq_true hn.1.2
  have k3 := Nat.le_of_ble_eq_true hn.2
  have k4 := Nat.le_of_ble_eq_true hl
  have hgs : P.globals.size ≤ (hp g l).nx := by show P.globals.size ≤ g + l.length; omega
  refine ⟨hgs, by show g + l.length ≤ g + l'.length; omega, fre_hp k2, fun M args' w hv hw hf => ?_⟩
  have hS := sound hm n (.call fid args) [] (g + l.length) (hp g l) (fre_hp k4)
  rw [hr] at hS
  obtain ⟨sf, hS⟩ := hS
  refine Calls.mono (hS M args' w hv hw fun x a _ => hf x a) fun e w' he => ?_
  obtain ⟨v', M', rfl, hp1, hvr⟩ := he
  have hi := (HS.start hw (fre_hp k4) hf).step sf hp1
  obtain ⟨M2, h5, h6⟩ := (Mv.shape h1 ho1 hs1).hs hi hgs
  obtain ⟨M3, h7, h8⟩ := (Mv.shape h2 ho2 hs2).hs h5 hgs
  exact ⟨v', M3, rfl, h7.post hw hf, hv2 M2 M3 v' h8 (hv1 M' M2 v' h6 hvr)⟩
/-- The same, of a function whose answer has no address. -/
theorem ZC.ofRunV {P : Program} (hm : P.follows .mixedOrders = true) {n fid g : Nat} {args : List Value} {v : Value} (hg : Nat.ble P.globals.size g = true) (hl : Nat.ble g tops = true) (hv : of1 v = true) (hf : fit g g [] [] = true)
    (h : (match run P n (.call fid args) [] g (hp g []) with | .ret v _ => some v | _ => none) = some v) : ZC P fid args (hp g []) v (hp g []) := by
  split at h
  · rename_i v' s hr
    simp at h
    subst h
    have k1 := Nat.le_of_ble_eq_true hg
    have k2 := Nat.le_of_ble_eq_true hl
    exact ZC.ofRun (n := n) (l := []) (l1 := []) (ns1 := []) (ns2 := []) (sl1 := []) (sl2 := []) hm (by rw [hg]; show (true && Nat.ble g tops && true) = true; rw [hl]; rfl) (Nat.ble_eq_true_of_le k2) hr hf trivial trivial (RV.of hv) hf trivial trivial (RV.of hv)
  · simp at h
end Go.X
end
