/-
  A part of the proof of ScriptJoins: no statement of the seat is proved here.
-/
import Derived.Test.YtncijcfnjepooaaGreatDoorK04
import Derived.Lib.AppendZeros
set_option linter.unusedVariables false
set_option linter.unusedSimpArgs false
set_option linter.unnecessarySimpa false
set_option linter.unusedSectionVars false
set_option linter.constructorNameAsVariable false
set_option linter.deprecated false
section
set_option linter.unusedVariables false
namespace Go.X
open Go Go.RowKit
section
variable {P : Program} {B : Ban} {lo : Nat} {o : Oper} {tm : T4 Value} {s s' : XS} {v : Value}
theorem s_appz {c : Call} {t t2 el : TypeId} {ad : Option Addr} {n cc : Nat} {y : Value} {i : TypeInfo} {kn : IntKind} (e : o.op = .call c) (hc : c.callee = .builtin .append) (ha : X.map (ev tm) c.args.toList = [.slice ad n cc, y]) (ht : c.argTypes.toList = [t, t2])
    (hu : P.underlying t = some (.slice el)) (hd : P.underlying t2 = some (.int kn)) (hi : P.info? el = some i) (h : x_appz P el y ad n cc i s = .val v s') : OpV P B lo o tm s v s' := by
  unfold x_appz at h
  split at h
  · simp at h
  · split at h
    · rename_i m z k hm hz hn0 hc0
      split at h
      · rename_i hb1 hb2 hb3
        rw [Bool.and_eq_true] at hb1
        have hm1 : 1 ≤ m := Nat.le_of_ble_eq_true hb1.1
        have hk1 : 1 ≤ k := Nat.le_of_ble_eq_true hb1.2
        have hm2 : m ≤ 9223372036854775807 := Nat.le_of_ble_eq_true hb2
        have hby : m * i.bytes ≤ 281474976710656 := Nat.le_of_ble_eq_true hb3
        obtain rfl : n = 0 := Nat.eq_of_beq_eq_true hn0
        obtain rfl : cc = 0 := Nat.eq_of_beq_eq_true hc0
        obtain ⟨i', u, hi', hzu, hna, hsz, rfl, hzl⟩ := zc_spec hz
        rw [hi] at hi'; simp at hi'; subst hi'
        have hisz := info_szT hi hsz
        rcases new_eq h with ⟨ht', h⟩ | h
        · simp at h
          obtain ⟨rfl, rfl⟩ := h
          refine ⟨SF.more _ ht', fun M a w hv hw hf => ?_⟩
          have hn : M s.nx = none := hf s.nx (Nat.le_refl _) (Nat.lt_succ_self _)
          obtain ⟨x', y', h1, h2, h3⟩ := append_op (P := P) e hc ha ht w hv
          cases h1
          obtain ⟨q, rfl, _⟩ := natV_spec hm h2
          have hb : m * i.bytes ≤ 281474976710656 := hby
          have hr := Lib.run_append_nil_zeros (P := P) w t t2 o.type el i u q kn hu hd hi hzu m (by omega) (by omega) (by omega) hb
          have hC := grownCap_ge w m 0 el
          generalize grownCap w m 0 el = C at hr hC
          obtain ⟨hzc, hz1⟩ := nad2_cells (M := M) hna
          have husz : u.cells.size = k := by simpa using hzl
          have hcs : (Builtin.zeroCells u.cells m ++ Builtin.zeroCells u.cells (C - m)).size = C * k := by
            simp only [Array.size_append, Builtin.zeroCells, Array.size_map, Array.size_range, husz]
            rw [← Nat.add_mul]; congr 1; omega
          have hzm : Builtin.zeroCells u.cells m = (List.replicate m u.cells.toList).flatten.toArray := by
            rw [← zeros_eq]; rfl
          refine ⟨_, _, _, setM M s.nx ⟨w.heap.size, 0, some (C * k, k)⟩, h3 _ _ hr, .inl rfl, ?_, ?_⟩
          · rw [look_more _ ht', ← hcs]
            have hl : (rep m u.cells.toList).length = m * k := by rw [rep_length, hzl]
            rw [← hl]
            refine new_grown (T := el) hw hn (rep_VR hzc m) (rep_one hz1 m) hsz (chg_drew _) (fun j v hj => ?_) (fun i hi => by simp [frz]) (by rw [hl, hcs]; exact Nat.mul_le_mul_right k hC)
            rw [hzm, Array.getElem?_append_left (by simpa using (List.getElem?_eq_some_iff.1 hj).1)]
            simpa using hj
          · exact .sl (L := ⟨w.heap.size, 0, some (C * k, k)⟩) (by simp [setM]) (.inr ⟨_, _, rfl, hC, .inl rfl, by simp⟩)
        · simp at h
      · simp at h
    · simp at h
set_option maxHeartbeats 1000000 in
theorem s_append {c : Call} {t t2 : TypeId} {x y : Value} (e : o.op = .call c) (hc : c.callee = .builtin .append) (ha : X.map (ev tm) c.args.toList = [x, y]) (ht : c.argTypes.toList = [t, t2]) (h : x_append P B lo t t2 x y s = .val v s') : OpV P B lo o tm s v s' := by
  unfold x_append at h
  split at h
  · rename_i el ad n cc hu
    split at h
    · rename_i k i hk hi
      split at h
      · rename_i kn hd
        exact s_appz e hc ha ht hu hd hi h
      · rename_i d hd hni
        split at h
        · rename_i l m hs
          obtain ⟨d', hd'⟩ : ∃ d', P.underlying t2 = some d' := by
            cases hq : P.underlying t2 with
            | none => rw [hq] at hs; simp [srcOf] at hs
            | some d' => exact ⟨d', rfl⟩
          rw [hd'] at hs
          split at h
          · rename_i hle
            have hle : n + m ≤ cc := Nat.le_of_ble_eq_true hle
            split at h
            · -- nil
              split at h
              · simp at h
                obtain ⟨rfl, rfl⟩ := h
                refine .same fun M a w hv hw => ?_
                obtain ⟨x', y', h1, h2, h3⟩ := append_op (P := P) e hc ha ht w hv
                obtain ⟨l', k1, k2, k3, k4⟩ := src_spec hw hd' hs h2
                cases h1
                cases k1
                have hsz := info_szT hi hk
                refine ⟨.slice none (n + m) cc, h3 _ w ?_, .sln _ _⟩
                subst hsz
                rcases k4.kind with ⟨e', hk'⟩ | hk' <;> simp [Builtin.append_, run_underlying hu, run_underlying hk', sizeOf, typeInfo, hi, k4.len, hle, k4.cells]
              · simp at h
            · rename_i b off
              split at h
              · rename_i cs j e' g hlk
                split at h
                · rename_i hfit
                  simp at h
                  obtain ⟨rfl, rfl⟩ := h
                  have hfit : off + n * k + m * k ≤ j := Nat.le_of_ble_eq_true hfit
                  refine ⟨SF.wrt _ hlk, fun M a w hv hw hf => ?_⟩
                  obtain ⟨x', y', h1, h2, h3⟩ := append_op (P := P) e hc ha ht w hv
                  obtain ⟨l', k1, k2, k3, k4⟩ := src_spec hw hd' hs h2
                  cases h1
                  rename_i L off' c' hL hS
                  have hcc : cc ≤ c' := by rcases hS with ⟨_, h⟩ | ⟨_, _, _, h, _⟩ <;> omega
                  have hsz := info_szT hi hk
                  rcases (show off' = off ∨ (n = 0 ∧ cc = 0) from by
                    rcases hS with ⟨h, _⟩ | ⟨_, _, _, _, h, _⟩
                    · exact .inl h
                    · exact h) with rfl | ⟨hn0, hc0⟩
                  · obtain ⟨w', g1, g2⟩ := write_cells hw hlk hL (off := off' + n * k) k1 k2 (by omega) s.nx (wrt lo s b (some (.cells (ovl cs (off' + n * k) l) j e' g))).nx
                    have hroom : n + m ≤ c' := by omega
                    have g1' : (storeCells ⟨L.b, L.s + off' + n * k, none⟩ l').run P w = .ok () w' := by rw [Nat.add_assoc]; exact g1
                    have hr := room_run (P := P) (ty := o.type) hu hi hsz k4 hroom g1'
                    refine ⟨_, _, w', M, h3 _ _ hr, .inl rfl, by rw [look_wrt _ hlk]; exact g2, .sl hL ?_⟩
                    rcases hS with h | ⟨N, k', q1, q2, q3, q4⟩
                    · exact .inl h
                    · exact .inr ⟨N, k', q1, q2, .inl rfl, q4⟩
                  · have hm0 : m = 0 := by omega
                    subst hn0; subst hm0; subst hc0
                    have hl0 : l = [] := List.length_eq_zero_iff.1 (by simpa using k3)
                    subst hl0
                    cases k1
                    obtain ⟨w', g1, g2⟩ := write_cells hw hlk hL (off := off + 0 * k) (.nil (M := M)) (by simp) (by simp at hfit ⊢; omega) s.nx (wrt lo s b (some (.cells (ovl cs (off + 0 * k) []) j e' g))).nx
                    have hw' : w' = w := by
                      have : (storeCells ⟨L.b, L.s + (off + 0 * k), none⟩ []).run P w = .ok () w := rfl
                      rw [this] at g1; simp at g1; exact g1.symm
                    subst hw'
                    have hroom : 0 + 0 ≤ c' := by omega
                    have g1' : (storeCells ⟨L.b, L.s + off' + 0 * k, none⟩ []).run P w' = .ok () w' := rfl
                    have hr := room_run (P := P) (ty := o.type) hu hi hsz k4 hroom g1'
                    refine ⟨_, _, w', M, h3 _ _ hr, .inl rfl, by rw [look_wrt _ hlk]; exact g2, .sl hL hS⟩
                · simp at h
              · simp at h
            · simp at h
          · rename_i hle
            split at h
            · rename_i q hb1 hb2 hz
              refine s_grow e hc ha ht hu hd' hi hk ⟨_, hz⟩ hs ?_ (Nat.le_of_ble_eq_true hb1) (Nat.le_of_ble_eq_true hb2) h
              rcases Nat.lt_or_ge cc (n + m) with q | q
              · exact q
              · rw [show Nat.ble (Nat.add n m) cc = true from Nat.ble_eq_true_of_le q] at hle; simp at hle
            · simp at h
        · simp at h
    · simp at h
  · rename_i el x hu hx0
    split at h
    · rename_i cc off n hx
      have hx := sv_eq hx
      subst hx
      split at h
      · rename_i k i hk hi
        split at h
        · rename_i l m hs
          obtain ⟨d', hd'⟩ : ∃ d', P.underlying t2 = some d' := by
            cases hq : P.underlying t2 with
            | none => rw [hq] at hs; simp [srcOf] at hs
            | some d' => exact ⟨d', rfl⟩
          rw [hd'] at hs
          exact s_sapp e hc ha ht hu hd' hi hk hs h
        · simp at h
      · simp at h
    · simp at h
  · simp at h
theorem two' {c : Call} {b : Builtin} {x y : Value} {t : TypeId} {ts : List TypeId} (e : o.op = .call c) (hc : c.callee = .builtin b) (ha : X.map (ev tm) c.args.toList = [x, y]) (ht : c.argTypes.toList = t :: ts) {M : Cx} {a : Act} (w : World) (hv : ∀ x ∈ o.op.operands.toList, VR M (ev tm x) (a.eval x)) :
    ∃ x' y' cs, VR M x x' ∧ VR M y y' ∧ c.argTypes[0]? = some t ∧ (execOp a.eval o).run P w = (Go.builtin b c.argTypes o.type cs #[x', y']).run P w := by
  obtain ⟨cs, hr⟩ := builtin_run (P := P) e hc a w
  obtain ⟨x', y', hx, h1, h2⟩ := two ha (call_args e hc hv)
  rw [hx] at hr
  exact ⟨x', y', cs, h1, h2, by rw [← Array.getElem?_toList, ht]; rfl, hr⟩
theorem minN_eq (m n : Nat) : minN m n = Nat.min m n := by
  unfold minN
  by_cases hq : m ≤ n
  · rw [Nat.ble_eq_true_of_le hq]; exact (Nat.min_eq_left hq).symm
  · have : Nat.ble m n = false := by
      cases hb : Nat.ble m n
      · rfl
      · exact absurd (Nat.le_of_ble_eq_true hb) hq
    rw [this]; show n = Nat.min m n; exact (Nat.min_eq_right (by omega)).symm
theorem cpSrc_spec {M : Cx} {w : World} {y y' : Value} {m k j : Nat} {l : List Value} (hm : lenV y = some m) (hjm : j ≤ m) (hl : cpSrc B s k j y = some l) (hw : WR P M (look B s) w) (hy : VR M y y') :
    ∃ l', VRL M l l' ∧ (∀ v ∈ l, one v = true) ∧ l.length = j * k ∧ (Builtin.lenOf y').run P w = .ok m w ∧ (Builtin.firstCells k j y').run P w = .ok l'.toArray w := by
  unfold cpSrc at hl
  split at hl
  · rename_i b m' c'
    simp [lenV] at hm; subst hm
    obtain ⟨ad', c'', rfl, _⟩ := VR_slice hy
    obtain ⟨l', g1, g2, g3, g4, g5, g6⟩ := first_run hw hl hy hjm
    exact ⟨l', g1, g2, g3, rfl, g6 w rfl⟩
  · rename_i b
    split at hl <;> simp at hl
    rename_i hk1
    have hk1 := Nat.eq_of_beq_eq_true hk1
    subst hk1
    subst hl
    simp [lenV] at hm
    cases hy
    obtain ⟨p1, p2, p3⟩ := bytesV_VR (M := M) b
    have hlen : b.data.toList.length = b.size := by show b.data.toList.length = b.data.size; simp
    rw [len_eq, hlen] at hm
    rw [tkl_eq]
    refine ⟨(bytesV b).take j, p1.take j, fun v hv => p2 v (List.mem_of_mem_take hv), by rw [List.length_take, p3, hlen]; omega, by rw [← hm]; rfl, ?_⟩
    have : ((b.extract 0 j).data.map fun b => Value.int .u8 b.toNat) = ((bytesV b).take j).toArray := by
      apply Array.ext'
      unfold bytesV
      rw [map_eq]
      simp [ByteArray.data_extract, List.extract_eq_take_drop]
    show Sem.run P (pure ((b.extract 0 j).data.map fun b => Value.int .u8 b.toNat)) w = _
    rw [this]; rfl
  · split at hl
    · rename_i e' c off n hx
      have hx := sv_eq hx
      subst hx
      have he := (cellsV_slv hl).1
      have hm' : n = m := by
        have h1 : lenV (slv e' c off n) = some n := lenS_slv c off n he
        rw [h1] at hm; simpa using hm
      subst hm'
      obtain ⟨ad', c', rfl, l', g1, g2, g3, g4, g5, g6⟩ := firstV_run hw hl (lenS_slv c off n he) hy hjm
      exact ⟨l', g1, g2, g3, rfl, g6 w rfl⟩
    · simp at hl
theorem s_copy {c : Call} {t : TypeId} {ts : List TypeId} {x y : Value} (e : o.op = .call c) (hc : c.callee = .builtin .copy) (ha : X.map (ev tm) c.args.toList = [x, y]) (ht : c.argTypes.toList = t :: ts) (h : x_copy P B lo t x y s = .val v s') : OpV P B lo o tm s v s' := by
  unfold x_copy at h
  split at h
  · rename_i el ad n c0 hu
    split at h
    · rename_i k m hk hm
      have hjm := minN_eq m n
      generalize minN m n = j at h hjm
      have hjm' : j ≤ m ∧ j ≤ n := by rw [hjm]; exact ⟨Nat.min_le_left _ _, Nat.min_le_right _ _⟩
      generalize hl : cpSrc B s k j y = src at h
      unfold x_copy2 at h
      split at h
      · rename_i l
        simp at h
        obtain ⟨rfl, rfl⟩ := h
        refine .same fun M a w hv hw => ?_
        obtain ⟨x', y', cs, h1, h2, h3, hr⟩ := two' (P := P) e hc ha ht w hv
        obtain ⟨l', g1, g2, g3, g4, g5⟩ := cpSrc_spec hm hjm'.1 hl hw h2
        cases h1
        refine ⟨.int .i64 j, ?_, .int _ _⟩
        rw [hr]
        rw [hjm] at g5
        simp [builtin, Builtin.copy_, h3, run_underlying hu, g4, szT_run hk, g5, goInt, hjm]
      · rename_i l b off
        split at h
        · rename_i cs0 i0 e' g hlk
          split at h
          · rename_i hle
            simp at h
            obtain ⟨rfl, rfl⟩ := h
            have hle : off + j * k ≤ i0 := Nat.le_of_ble_eq_true hle
            refine ⟨SF.wrt _ hlk, fun M a w hv hw hf => ?_⟩
            obtain ⟨x', y', cs, h1, h2, h3, hr⟩ := two' (P := P) e hc ha ht w hv
            obtain ⟨l', g1, g2, g3, g4, g5⟩ := cpSrc_spec hm hjm'.1 hl hw h2
            cases h1
            rename_i L off' c' hL hS
            obtain ⟨w', k1, k2⟩ := write_cells hw hlk hL (off := off) g1 g2 (by omega) s.nx (wrt lo s b (some (.cells (ovl cs0 off l) i0 e' g))).nx
            have hst : (storeCells ⟨L.b, L.s + off', none⟩ l').run P w = .ok () w' := by
              rcases (show off' = off ∨ (n = 0 ∧ c0 = 0) from by
                rcases hS with ⟨h, _⟩ | ⟨_, _, _, _, h, _⟩
                · exact .inl h
                · exact h) with rfl | ⟨hn0, _⟩
              · exact k1
              · have hj0 : j = 0 := by omega
                have hl0 : l = [] := List.length_eq_zero_iff.1 (by rw [g3, hj0]; simp)
                subst hl0
                cases g1
                have : (storeCells ⟨L.b, L.s + off, none⟩ []).run P w = .ok () w := rfl
                rw [this] at k1; simp at k1; subst k1; rfl
            refine ⟨_, .int .i64 j, w', M, ?_, .inl rfl, by rw [look_wrt _ hlk]; exact k2, .int _ _⟩
            rw [hr]
            rw [hjm] at g5
            simp [builtin, Builtin.copy_, h3, run_underlying hu, g4, szT_run hk, g5, goInt, hjm, hst]
          · simp at h
        · simp at h
      · simp at h
    · simp at h
  · simp at h
end
end Go.X
end
section
set_option linter.unusedVariables false
namespace Go.X
open Go Go.RowKit
section
variable {P : Program} {B : Ban} {lo : Nat} {o : Oper} {tm : T4 Value} {s s' : XS} {v : Value}
theorem one' {c : Call} {b : Builtin} {x : Value} {t : TypeId} {ts : List TypeId} (e : o.op = .call c) (hc : c.callee = .builtin b) (ha : X.map (ev tm) c.args.toList = [x]) (ht : c.argTypes.toList = t :: ts) {M : Cx} {a : Act} (w : World) (hv : ∀ x ∈ o.op.operands.toList, VR M (ev tm x) (a.eval x)) :
    ∃ x' cs, VR M x x' ∧ c.argTypes[0]? = some t ∧ (execOp a.eval o).run P w = (Go.builtin b c.argTypes o.type cs #[x']).run P w := by
  obtain ⟨cs, hr⟩ := builtin_run (P := P) e hc a w
  obtain ⟨x', hx, h1⟩ := one1 ha (call_args e hc hv)
  rw [hx] at hr
  exact ⟨x', cs, h1, by rw [← Array.getElem?_toList, ht]; rfl, hr⟩
theorem s_clear {c : Call} {t : TypeId} {ts : List TypeId} {x : Value} (e : o.op = .call c) (hc : c.callee = .builtin .clear) (ha : X.map (ev tm) c.args.toList = [x]) (ht : c.argTypes.toList = t :: ts) (h : x_clear P B lo t x s = .val v s') : OpV P B lo o tm s v s' := by
  unfold x_clear at h
  split at h
  · rename_i el n k hu
    simp at h
    obtain ⟨rfl, rfl⟩ := h
    refine .same fun M a w hv hw => ?_
    obtain ⟨x', cs, h1, h3, hr⟩ := one' (P := P) e hc ha ht w hv
    cases h1
    refine ⟨.tuple #[], ?_, .tup .nil⟩
    rw [hr]
    simp [builtin, Builtin.clear_, h3, run_underlying hu]
  · rename_i el b off n c0 hu
    split at h
    · rename_i z k cs0 j e' g hz hlk
      split at h
      · rename_i hle
        simp at h
        obtain ⟨rfl, rfl⟩ := h
        have hle : off + n * k ≤ j := Nat.le_of_ble_eq_true hle
        obtain ⟨i, u, hi, hzu, hna, hsz, rfl, hzl⟩ := zc_spec hz
        refine ⟨SF.wrt _ hlk, fun M a w hv hw hf => ?_⟩
        obtain ⟨x', cs, h1, h3, hr⟩ := one' (P := P) e hc ha ht w hv
        obtain ⟨hzc, hz1⟩ := nad2_cells (M := M) hna
        cases h1
        rename_i L off' c' hL hS
        obtain ⟨w', k1, k2⟩ := write_cells hw hlk hL (off := off) (rep_VR hzc n) (rep_one hz1 n) (by rw [rep_length, hzl]; exact hle) s.nx (wrt lo s b (some (.cells (ovl cs0 off (rep n u.cells.toList)) j e' g))).nx
        have hzm : (Builtin.zeroCells u.cells n).toList = (List.replicate n u.cells.toList).flatten := by
          have : Builtin.zeroCells u.cells n = (List.replicate n u.cells.toList).flatten.toArray := by
            rw [← zeros_eq]; rfl
          rw [this]
        refine ⟨_, .tuple #[], w', M, ?_, .inl rfl, by rw [look_wrt _ hlk]; exact k2, .tup .nil⟩
        rw [hr]
        cases n with
        | zero =>
          have : (storeCells ⟨L.b, L.s + off, none⟩ (List.replicate 0 u.cells.toList).flatten).run P w = .ok () w := rfl
          rw [this] at k1; simp at k1; subst k1
          simp [builtin, Builtin.clear_, h3, run_underlying hu]
        | succ n =>
          have ho : off' = off := by
            rcases hS with ⟨h, _⟩ | ⟨_, _, _, _, h | ⟨h, _⟩, _⟩
            · exact h
            · exact h
            · omega
          subst ho
          have hzv : (zeroValue el).run P w = .ok u w := by simp [zeroValue, typeInfo, hi, hzu]
          simp [builtin, Builtin.clear_, h3, run_underlying hu, hzv, hzm, k1]
      · simp at h
    · simp at h
  · simp at h
/-! Maps -/
theorem ERL.nil {M : Cx} : ∀ {l : List MapEntry}, ERL M [] l → l = []
  | [], _ => rfl
  | _ :: _, h => by have := h.1; simp at this
theorem ERL.uncons {M : Cx} {e : MapEntry} {l : List MapEntry} : ∀ {l' : List MapEntry}, ERL M (e :: l) l' → ∃ e' m, l' = e' :: m ∧ ER M e e' ∧ ERL M l m
  | [], h => by have := h.1; simp at this
  | e' :: m, h => ⟨e', m, rfl, h.2 0 e e' (by simp) (by simp), by have := h.1; simpa using this, fun i a b ha hb => h.2 (i + 1) a b (by simpa using ha) (by simpa using hb)⟩
theorem equal_now {d : TypeDesc} {K : TypeId} {a b : Value} {x y : Bool} (hu : P.underlying K = some d) (h : Instr.sameNow d a b = some x) (k : pv P (Op.equal K a b) = some y) : y = x := by
  have hr : (Op.equalIn (9999 + 1) K a b).run P default = .ok y default := pv_run _ _ k default
  unfold Instr.sameNow at h
  split at h
  · rename_i q j a k' b
    split at h <;> simp only [Option.some.injEq, reduceCtorEq] at h
    subst h
    rename_i hk
    subst hk
    rw [run_equalIn_int _ 9999 K j q a b hu] at hr
    injection hr with hr; exact hr.symm
  · rename_i a b
    simp only [Option.some.injEq] at h; subst h
    rw [run_equalIn_string _ 9999 K a b hu, ← beq_toListBytes] at hr
    injection hr with hr; exact hr.symm
  · rename_i a b
    simp only [Option.some.injEq] at h; subst h
    rw [run_equalIn_bool _ 9999 K a b hu] at hr
    injection hr with hr; exact hr.symm
  · simp at h
/-- An entry that is found, in truth. -/
def FndR (es es' : List MapEntry) (j : Nat) (r r' : Option (Nat × Value)) : Prop :=
  (r = none ∧ r' = none) ∨ ∃ i e e', r = some (j + i, e.val) ∧ r' = some (j + i, e'.val) ∧ es[i]? = some e ∧ es'[i]? = some e'
theorem mfind_spec {M : Cx} {d : TypeDesc} {K : TypeId} {k : Value} (hu : P.underlying K = some d) : ∀ {es es' : List MapEntry} {j : Nat} {r : Option (Nat × Value)}, ERL M es es' → mfind P K k es j = some r →
    ∃ r', FndR es es' j r r' ∧ (∀ w, (Instr.findAsking K k es' j).run P w = .ok r' w) ∧ ∀ q, Instr.findNow d k es' j = some q → q = r'
  | [], es', j, r, hE, h => by
    have := hE.nil; subst this
    simp [mfind] at h; subst h
    exact ⟨none, .inl ⟨rfl, rfl⟩, fun w => rfl, fun q hq => by simp [Instr.findNow] at hq; exact hq.symm⟩
  | e :: es, es', j, r, hE, h => by
    obtain ⟨e', m, rfl, hE1, hE2⟩ := hE.uncons
    have hk := hE1.key
    simp only [mfind] at h
    split at h
    · rename_i hp
      simp at h; subst h
      refine ⟨some (j, e'.val), .inr ⟨0, e, e', rfl, rfl, by simp, by simp⟩, fun w => ?_, fun q hq => ?_⟩
      · simp [Instr.findAsking, hk, pv_run _ _ hp]
      · simp only [Instr.findNow, hk] at hq
        split at hq
        · simpa using hq.symm
        · rename_i hs; have := equal_now hu hs hp; simp at this
        · simp at hq
    · rename_i hp
      obtain ⟨r', h1, h2, h3⟩ := mfind_spec hu hE2 h
      refine ⟨r', ?_, fun w => ?_, fun q hq => ?_⟩
      · rcases h1 with h1 | ⟨i, a, b, g1, g2, g3, g4⟩
        · exact .inl h1
        · exact .inr ⟨i + 1, a, b, by rw [g1, show Nat.succ j + i = j + (i + 1) from by omega], by rw [g2, show Nat.succ j + i = j + (i + 1) from by omega], by simpa using g3, by simpa using g4⟩
      · simp [Instr.findAsking, hk, pv_run _ _ hp, h2]
      · simp only [Instr.findNow, hk] at hq
        split at hq
        · rename_i hs; have := equal_now hu hs hp; simp at this
        · exact h3 q hq
        · simp at hq
    · simp at h
theorem find_run {M : Cx} {d : TypeDesc} {K : TypeId} {k : Value} (hu : P.underlying K = some d) {es es' : List MapEntry} {r : Option (Nat × Value)} (hE : ERL M es es') (h : mfind P K k es 0 = some r) :
    ∃ r', FndR es es' 0 r r' ∧ ∀ w, (Instr.findKey K k es').run P w = .ok r' w := by
  obtain ⟨r', h1, h2, h3⟩ := mfind_spec hu hE h
  refine ⟨r', h1, fun w => ?_⟩
  simp only [Instr.findKey, Sem.run_bind, run_underlying hu, Result.andThen_ok]
  split
  · rename_i q hq; rw [h3 q hq]; rfl
  · exact h2 w
theorem key_type {K : TypeId} {k : Value} {b : Bool} {x : Unit} (h : pv P (Instr.checkKey b 10000 K k) = some x) : ∃ d, P.underlying K = some d := by
  cases hq : P.underlying K with
  | some d => exact ⟨d, rfl⟩
  | none =>
    exfalso
    have hr := pv_run _ _ h default
    rw [show Instr.checkKey b 10000 K k = Instr.checkKey b (9999 + 1) K k from rfl, Instr.checkKey] at hr
    simp [Go.underlying, hq] at hr
end
end Go.X
end
section
set_option linter.unusedVariables false
namespace Go.X
open Go Go.RowKit
section
variable {P : Program} {B : Ban} {lo : Nat} {o : Oper} {tm : T4 Value} {s s' : XS} {v : Value}
theorem getMap_run {w : World} {r : Nat} {es : Array MapEntry} {ck : Nat} (h : w.heap[r]? = some (.map es ck)) : (getObj r).run P w = .ok (.map es ck) w := by
  show Sem.run P (.getObj r .pure) w = _
  simp [Sem.run, h]
theorem setMap_run {w : World} {r : Nat} {es es' : Array MapEntry} {ck ck' : Nat} (h : w.heap[r]? = some (.map es ck)) : ∃ w', (setObj r (.map es' ck')).run P w = .ok () w' ∧ Chg1 w w' r (.map es' ck') := by
  have hr := (Array.getElem?_eq_some_iff.1 h).1
  refine ⟨Go.ChangeMaps.setBlock w r (.map es' ck'), by simp [setObj, Sem.run, h, Go.ChangeMaps.setBlock], ⟨?_, fun k hk => ?_, ⟨rfl, rfl, rfl, ?_, fun b cs T fr e => ?_⟩⟩⟩
  · simp [Go.ChangeMaps.setBlock, hr]
  · simp [Go.ChangeMaps.setBlock, Array.getElem?_setIfInBounds, Ne.symm hk]
  · simp [Go.ChangeMaps.setBlock]
  · have hne : r ≠ b := fun e' => by subst e'; rw [h] at e; simp at e
    exact ⟨cs, ⟨fr, by simpa [Go.ChangeMaps.setBlock, hne] using e⟩, rfl⟩
theorem mlook_spec {M : Cx} {w : World} {x x' : Value} {es : List MapEntry} (hw : WR P M (look B s) w) (h : mlook B s x = some es) (hr : VR M x x') :
    ∃ es' : Array MapEntry, ERL M es es'.toList ∧ ((x' = .map none ∧ es' = #[]) ∨ ∃ r ck, x' = .map (some r) ∧ w.heap[r]? = some (.map es' ck)) := by
  unfold mlook at h
  split at h
  · simp at h; subst h
    cases hr
    exact ⟨#[], ⟨rfl, fun i e e' a b => by simp at a⟩, .inl ⟨rfl, rfl⟩⟩
  · rename_i n
    split at h
    · rename_i es0 ck hl
      simp at h; subst h
      cases hr
      rename_i L hL
      obtain ⟨K, k1, es', k2, k3⟩ := hw.live n _ hl
      rw [hL] at k1; simp at k1; subst k1
      exact ⟨es', k3, .inr ⟨L.b, ck, rfl, k2⟩⟩
    · simp at h
  · simp at h
def endU (r : Nat) (k v : Value) (ck : Nat) (es : Array MapEntry) (f : Option (Nat × Value)) : Sem Unit := match f with
  | some (i, _) => do
    let key ← Instr.keyThatStays (((es[i]?).map MapEntry.key).getD k) k
    setObj r (.map (es.modify i fun e => { e with key, val := v }) ck)
  | none => setObj r (.map (es.push { key := k, val := v, born := ck }) (ck + 1))
theorem okv_VR {M : Cx} {ok b : Bool} {u u' : Value} (h : VR M u u') : VR M (okv ok u b) (if ok = true then .tuple #[u', .bool b] else u') := by
  cases ok
  · exact h
  · exact .tup (.cons h (.cons (.bool b) .nil))
theorem s_lookup {T : TypeId} {x k : Operand} {ok : Bool} (e : o.op = .lookup T x k ok) (h : x_lookup P B T (ev tm x) (ev tm k) ok s = .val v s') : OpV P B lo o tm s v s' := by
  unfold x_lookup at h
  split at h
  · rename_i K E hu
    split at h
    · rename_i es hm hk
      have main : ∀ (r : Option (Nat × Value)) (u : Unit), pv P (Instr.checkKey es.isEmpty 10000 K (ev tm k)) = some u → mfind P K (ev tm k) es 0 = some r → ∀ (M : Cx) (a : Act) (w : World), (∀ x ∈ o.op.operands.toList, VR M (ev tm x) (a.eval x)) → WR P M (look B s) w →
          ∃ es' r', ERL M es es' ∧ FndR es es' 0 r r' ∧ ∀ z b, ((∃ j, r' = some (j, z) ∧ b = true) ∨ (r' = none ∧ (zeroValue E).run P w = .ok z w ∧ b = false)) → (execOp a.eval o).run P w = .ok (.value (if ok = true then .tuple #[z, .bool b] else z)) w := by
        intro r u hc hf M a w hv hw
        obtain ⟨d, hd⟩ := key_type hc
        obtain ⟨es', h1, h2⟩ := mlook_spec hw hm (hv x (by simp [e, Op.operands]))
        obtain ⟨r', h3, h4⟩ := find_run hd h1 hf
        refine ⟨es'.toList, r', h1, h3, fun z b hq => ?_⟩
        have hkk := nad_eq hk (hv k (by simp [e, Op.operands]))
        have hemp : es'.isEmpty = es.isEmpty := by
          have h5 : es'.size = es.length := by simpa using h1.1
          cases es with
          | nil => simp at h5; simp [h5]
          | cons y es => simp at h5; simp; rintro rfl; simp at h5
        have hcr := pv_run _ _ hc
        generalize a.eval = ρ at *
        have : (Instr.lookup T (ρ x) (ρ k) ok).run P w = .ok (if ok = true then .tuple #[z, .bool b] else z) w := by
          unfold Instr.lookup
          simp only [Sem.run_bind, run_underlying hu, Result.andThen_ok]
          rcases h2 with ⟨hx, he⟩ | ⟨r0, ck, hx, hb⟩
          · rw [hx]
            simp only [Sem.run_bind, Sem.run_pure, Result.andThen_ok]
            rw [he] at hemp h4
            rw [hemp, hkk, hcr]
            simp only [Result.andThen_ok, h4]
            rcases hq with ⟨j, rfl, rfl⟩ | ⟨rfl, hz, rfl⟩
            · rfl
            · simp [hz]
          · rw [hx]
            simp only [Sem.run_bind, Sem.run_pure, Result.andThen_ok, getMap_run hb]
            rw [hemp, hkk, hcr]
            simp only [Result.andThen_ok, h4]
            rcases hq with ⟨j, rfl, rfl⟩ | ⟨rfl, hz, rfl⟩
            · rfl
            · simp [hz]
        simp [execOp, e, this]
      split at h
      · rename_i u i y hc hf
        simp at h
        obtain ⟨rfl, rfl⟩ := h
        refine .same fun M a w hv hw => ?_
        obtain ⟨es', r', hE, hF, hrun⟩ := main _ _ hc hf M a w hv hw
        rcases hF with ⟨hF, _⟩ | ⟨j, e1, e2, g1, rfl, g3, g4⟩
        · simp at hF
        · simp at g1
          obtain ⟨_, rfl⟩ := g1
          exact ⟨_, hrun e2.val true (.inl ⟨_, rfl, rfl⟩), okv_VR (hE.2 j e1 e2 g3 g4).val⟩
      · rename_i u hc hf
        split at h
        · rename_i z hz
          simp at h
          obtain ⟨rfl, rfl⟩ := h
          obtain ⟨i, hi, hzu, hna⟩ := zeroT_spec hz
          refine .same fun M a w hv hw => ?_
          obtain ⟨es', r', hE, hF, hrun⟩ := main _ _ hc hf M a w hv hw
          rcases hF with ⟨_, rfl⟩ | ⟨j, e1, e2, g1, _⟩
          · have hzv : (zeroValue E).run P w = .ok z w := by simp [zeroValue, typeInfo, hi, hzu]
            exact ⟨_, hrun z false (.inr ⟨rfl, hzv, rfl⟩), okv_VR (nad2_VR hna)⟩
          · simp at g1
        · simp at h
      · simp at h
    · simp at h
  · simp at h
theorem keyOf_eq : ∀ {es : List MapEntry} {i : Nat}, keyOf es i = (es[i]?).map MapEntry.key
  | [], i => by simp [keyOf]
  | e :: es, 0 => by simp [keyOf]
  | e :: es, i + 1 => by
    have : keyOf (e :: es) (i + 1) = keyOf es i := rfl
    rw [this, keyOf_eq]; simp
theorem mset_eq : ∀ (es : List MapEntry) (i : Nat) (k v : Value), mset es i k v = es.modify i fun e => { e with key := k, val := v }
  | [], i, k, v => by simp [mset]
  | e :: es, 0, k, v => by simp [mset]
  | e :: es, i + 1, k, v => by
    have : mset (e :: es) (i + 1) k v = e :: mset es i k v := rfl
    rw [this, mset_eq]; simp
theorem s_mapUpdate {T : TypeId} {x k u : Operand} (e : o.op = .mapUpdate T x k u ∨ o.op = .insert T x k u) (h : x_mapUpdate P B lo T (ev tm x) (ev tm k) (ev tm u) s = .val v s') : OpV P B lo o tm s v s' := by
  have hxo : x ∈ o.op.operands.toList := by rcases e with e | e <;> simp [e, Op.operands]
  have hko : k ∈ o.op.operands.toList := by rcases e with e | e <;> simp [e, Op.operands]
  have huo : u ∈ o.op.operands.toList := by rcases e with e | e <;> simp [e, Op.operands]
  have hop : ∀ (ρ : Operand → Value) (w w' : World), (Instr.mapUpdate T (ρ x) (ρ k) (ρ u)).run P w = .ok () w' → (execOp ρ o).run P w = .ok .skip w' := by
    intro ρ w w' hr
    rcases e with e | e <;> simp [execOp, e, hr]
  unfold x_mapUpdate at h
  split at h
  · rename_i K E n hu hx
    split at h
    · rename_i es ck hlk hk
      have main : ∀ (r : Option (Nat × Value)) (y : Unit), pv P (Instr.checkKey false 10000 K (ev tm k)) = some y → mfind P K (ev tm k) es 0 = some r → ∀ (M : Cx) (a : Act) (w : World), (∀ x ∈ o.op.operands.toList, VR M (ev tm x) (a.eval x)) → WR P M (look B s) w →
          ∃ es' r' L, M n = some L ∧ a.eval k = ev tm k ∧ w.heap[L.b]? = some (.map es' ck) ∧ ERL M es es'.toList ∧ FndR es es'.toList 0 r r' ∧ ∀ w', (endU L.b (ev tm k) (a.eval u) ck es' r').run P w = .ok () w' → (execOp a.eval o).run P w = .ok .skip w' := by
        intro r y hc hf M a w hv hw
        obtain ⟨d, hd⟩ := key_type hc
        have hr := hv x hxo
        rw [hx] at hr
        obtain ⟨L, k1, es', k2, k3⟩ := hw.live n _ hlk
        obtain ⟨r', h3, h4⟩ := find_run hd k3 hf
        have hkk := nad_eq hk (hv k hko)
        have hcr := pv_run _ _ hc
        refine ⟨es', r', L, k1, hkk, k2, k3, h3, fun w' hq => hop _ _ _ ?_⟩
        have hxx : a.eval x = .map (some L.b) := by
          cases hr' : a.eval x <;> rw [hr'] at hr <;> cases hr
          rename_i L' hL'
          rw [k1] at hL'; simp at hL'; subst hL'; rfl
        generalize a.eval = ρ at *
        unfold Instr.mapUpdate
        simp only [Sem.run_bind, run_underlying hu, Result.andThen_ok, hxx, getMap_run k2, hkk, hcr, h4]
        cases r' with
        | none => exact hq
        | some q => obtain ⟨i, q⟩ := q; exact hq
      split at h
      · rename_i y i q hc hf
        split at h
        · rename_i k0 hk0
          split at h
          · rename_i hsb
            simp at h
            obtain ⟨rfl, rfl⟩ := h
            refine ⟨SF.wrt _ hlk, fun M a w hv hw hfr => ?_⟩
            obtain ⟨es', r', L, hL, hkk, hb, hE, hF, hrun⟩ := main _ _ hc hf M a w hv hw
            rcases hF with ⟨hF, _⟩ | ⟨j, e1, e2, g1, rfl, g3, g4⟩
            · simp at hF
            · simp at g1
              obtain ⟨rfl, rfl⟩ := g1
              have hER := hE.2 i e1 e2 g3 g4
              rw [keyOf_eq, g3] at hk0
              simp at hk0
              subst hk0
              obtain ⟨w', h1, h2⟩ := setMap_run (P := P) (es' := es'.modify i fun e => { e with key := ev tm k, val := a.eval u }) (ck' := ck) hb
              refine ⟨.skip, undef, w', M, hrun w' ?_, .inr ⟨rfl, rfl⟩, ?_, .tup .nil⟩
              · have g4' : es'[0 + i]? = some e2 := by simpa using g4
                unfold endU
                simp only [g4', Option.map_some, Option.getD_some, Instr.keyThatStays, hER.key, hsb, if_true, Sem.run_bind, Sem.run_pure, Result.andThen_ok]
                simpa using h1
              · rw [look_wrt _ hlk]
                refine Post.write _ _ hw hlk hL h2 ⟨_, h2.at_, ?_, fun j a1 a2 ha hb' => ?_⟩
                · rw [mset_eq]; simpa using hE.1
                · rw [mset_eq, List.getElem?_modify] at ha
                  rw [Array.getElem?_toList, Array.getElem?_modify] at hb'
                  by_cases hij : i = j
                  · subst hij
                    have g3' : es[i]? = some e1 := by simpa using g3
                    have g4' : es'[i]? = some e2 := by simpa using g4
                    simp [g3'] at ha
                    simp [g4'] at hb'
                    subst ha; subst hb'
                    exact ⟨rfl, hk, hER.born, hv u huo⟩
                  · simp [hij] at ha
                    simp [hij] at hb'
                    exact hE.2 j a1 a2 ha (by simpa using hb')
          · simp at h
        · simp at h
      · rename_i y hc hf
        simp at h
        obtain ⟨rfl, rfl⟩ := h
        refine ⟨SF.wrt _ hlk, fun M a w hv hw hfr => ?_⟩
        obtain ⟨es', r', L, hL, hkk, hb, hE, hF, hrun⟩ := main _ _ hc hf M a w hv hw
        rcases hF with ⟨_, rfl⟩ | ⟨j, e1, e2, g1, _⟩
        · obtain ⟨w', h1, h2⟩ := setMap_run (P := P) (es' := es'.push { key := ev tm k, val := a.eval u, born := ck }) (ck' := ck + 1) hb
          refine ⟨.skip, undef, w', M, hrun w' h1, .inr ⟨rfl, rfl⟩, ?_, .tup .nil⟩
          rw [look_wrt _ hlk, app_eq]
          refine Post.write _ _ hw hlk hL h2 ⟨_, h2.at_, ?_, fun j a1 a2 ha hb' => ?_⟩
          · simpa using hE.1
          · have hlen : es'.toList.length = es.length := hE.1
            rw [Array.toList_push] at hb'
            rcases Nat.lt_or_ge j es.length with hj | hj
            · rw [List.getElem?_append_left hj] at ha
              rw [List.getElem?_append_left (by omega)] at hb'
              exact hE.2 j a1 a2 ha hb'
            · rw [List.getElem?_append_right hj] at ha
              rw [List.getElem?_append_right (by omega), hlen] at hb'
              cases hq : j - es.length with
              | zero =>
                rw [hq] at ha hb'
                simp at ha hb'
                subst ha; subst hb'
                exact ⟨rfl, hk, rfl, hv u huo⟩
              | succ q => rw [hq] at ha; simp at ha
        · simp at g1
      · simp at h
    · simp at h
  · simp at h
theorem getIter_run {w : World} {r : Nat} {y : ByteArray} {p : Nat} (h : w.heap[r]? = some (.stringIter y p)) : (getObj r).run P w = .ok (.stringIter y p) w := by
  show Sem.run P (.getObj r .pure) w = _
  simp [Sem.run, h]
theorem setIter_run {w : World} {r : Nat} {o : Obj} {y : ByteArray} {p : Nat} (h : w.heap[r]? = some (.stringIter y p)) : ∃ w', (setObj r o).run P w = .ok () w' ∧ Chg1 w w' r o := by
  have hr := (Array.getElem?_eq_some_iff.1 h).1
  refine ⟨Go.ChangeMaps.setBlock w r o, by simp [setObj, Sem.run, h, Go.ChangeMaps.setBlock], ⟨?_, fun k hk => ?_, ⟨rfl, rfl, rfl, ?_, fun b cs T fr e => ?_⟩⟩⟩
  · simp [Go.ChangeMaps.setBlock, hr]
  · simp [Go.ChangeMaps.setBlock, Array.getElem?_setIfInBounds, Ne.symm hk]
  · simp [Go.ChangeMaps.setBlock]
  · have hne : r ≠ b := fun e' => by subst e'; rw [h] at e; simp at e
    exact ⟨cs, ⟨fr, by simpa [Go.ChangeMaps.setBlock, hne] using e⟩, rfl⟩
theorem s_next {x : Operand} {is : Bool} (e : o.op = .next x is) (h : x_next B lo is (ev tm x) s = .val v s') : OpV P B lo o tm s v s' := by
  unfold x_next at h
  split at h
  · rename_i n off hx
    split at h
    · rename_i b pos h0 hl
      have h0 := Nat.eq_of_beq_eq_true h0
      subst h0
      have main : ∀ (M : Cx) (a : Act) (w : World), (∀ x ∈ o.op.operands.toList, VR M (ev tm x) (a.eval x)) → WR P M (look B s) w → ∃ L, M n = some L ∧ L.s = 0 ∧ w.heap[L.b]? = some (.stringIter b pos) ∧ a.eval x = .pointer (some ⟨L.b, 0, none⟩) := by
        intro M a w hv hw
        have hr := hv x (by simp [e, Op.operands])
        rw [hx] at hr
        obtain ⟨L, hL, h1, h2⟩ := hw.live n _ hl
        refine ⟨L, hL, h1, h2, ?_⟩
        cases hr' : a.eval x <;> rw [hr'] at hr <;> cases hr
        rename_i K hK
        rw [hL] at hK; simp at hK; subst hK
        rw [h1]
      have hsz : ∀ q, len b.data.toList = q → q = b.size := fun q e => by rw [← e, len_eq]; rfl
      split at h
      · rename_i hb
        simp at h
        obtain ⟨rfl, rfl⟩ := h
        have hb : pos < b.size := by have := Nat.le_of_ble_eq_true hb; rw [hsz _ rfl] at this; exact this
        refine ⟨SF.wrt _ hl, fun M a w hv hw hf => ?_⟩
        obtain ⟨L, hL, h1, h2, hr'⟩ := main M a w hv hw
        obtain ⟨w', g1, g2⟩ := setIter_run (P := P) (o := .stringIter b (pos + (Utf8.decode b pos).2)) h2
        refine ⟨.value (.tuple #[.bool true, .int .i64 pos, .int .i32 (Utf8.decode b pos).1]), _, w', M, ?_, .inl rfl, ?_, .tup (.cons (.bool _) (.cons (.int _ _) (.cons (.int _ _) .nil)))⟩
        · generalize a.eval = ρ at *
          simp [execOp, e, Instr.next, hr', getIter_run h2, hb, g1, goInt]
        · rw [look_wrt _ hl]
          exact Post.write _ _ hw hl hL g2 ⟨h1, g2.at_⟩
      · rename_i hb
        simp at h
        obtain ⟨rfl, rfl⟩ := h
        have hb : ¬ pos < b.size := by
          intro q
          rw [← hsz _ rfl] at q
          rw [show Nat.blt pos (len b.data.toList) = true from Nat.ble_eq_true_of_le q] at hb
          simp at hb
        refine .same fun M a w hv hw => ?_
        obtain ⟨L, hL, h1, h2, hr'⟩ := main M a w hv hw
        refine ⟨.tuple #[.bool false], ?_, .tup (.cons (.bool _) .nil)⟩
        generalize a.eval = ρ at *
        simp [execOp, e, Instr.next, hr', getIter_run h2, hb]
    · simp at h
  · simp at h
end
end Go.X
end
section
set_option linter.unusedVariables false
namespace Go.X
open Go Go.RowKit
section
variable {P : Program} {B : Ban} {lo : Nat} {o : Oper} {tm : T4 Value} {s s' : XS} {v : Value}
theorem scal_spec {M : Cx} {u u' : Value} (h : scal u = true) (k : VR M u u') : u' = u ∧ nad u = true := by
  unfold scal at h
  split at h <;> simp at h <;> cases k <;> exact ⟨rfl, rfl⟩
theorem guard_scal {op : BinOp} {T : TypeId} {x y : Operand} {a b : Value} (h : scal a = true) (w : World) : (eqGuard op T x y a b).run P w = .ok () w := by
  unfold scal at h
  split at h <;> simp at h <;> (cases op <;> rfl)
/-- Neither has a meaning of its own in arithmetic. -/
def eqK (a b : Value) : Prop := ∀ (T : TypeId) (x : Bool) (w : World), (Op.equal T a b).run P w = .ok x w → (binOp .eql T a b).run P w = .ok (.bool x) w ∧ (binOp .neq T a b).run P w = .ok (.bool !x) w
theorem nil_guard {op : BinOp} {T : TypeId} {p q : Operand} (h : (isC p || isC q) = true) (w : World) : (eqGuard op T p q .nilIface .nilIface).run P w = .ok () w := by
  cases p <;> cases q <;> simp [isC] at h <;> cases op <;> rfl
theorem slN_spec {v : Value} {r : Bool} (h : slN v = some r) : ∃ e c off n, v = slv e c off n ∧ e < 2 ∧ 1 ≤ n ∧ r = false := by
  unfold slN at h
  split at h
  · rename_i e c off n hs
    split at h
    · rename_i h1 h2
      simp at h
      subst h
      refine ⟨e, c, off, n, sv_eq hs, ?_, Nat.le_of_ble_eq_true h2, rfl⟩
      rcases Nat.lt_or_ge e 2 with q | q
      · exact q
      · rw [Nat.ble_eq_true_of_le q] at h1; simp at h1
    · simp at h
  · simp at h
theorem eqNil_run {M : Cx} {T : TypeId} {k b : Bool} {x y x' y' : Value} (h : eqNil P T k x y = some b) (hx : VR M x x') (hy : VR M y y') :
    (∀ w, (binOp .eql T x' y').run P w = .ok (.bool b) w ∧ (binOp .neq T x' y').run P w = .ok (.bool !b) w) ∧ ∀ (op : BinOp) (p q : Operand) w, (isC p || isC q) = k → (eqGuard op T p q x' y').run P w = .ok () w := by
  have fin : ∀ {a b' : Value} {r : Bool}, (∀ w, (Op.equalIn (9999 + 1) T a b').run P w = .ok r w) → (∀ (T : TypeId), binOp .eql T a b' = (do pure (.bool (← Op.equal T a b')) : Sem Value) ∧ binOp .neq T a b' = (do pure (.bool (!(← Op.equal T a b'))) : Sem Value)) →
      ∀ w, (binOp .eql T a b').run P w = .ok (.bool r) w ∧ (binOp .neq T a b').run P w = .ok (.bool !r) w := by
    intro a b' r h1 h2 w
    have h1' : (Op.equal T a b').run P w = .ok r w := h1 w
    rw [(h2 T).1, (h2 T).2]
    simp [h1']
  generalize 9999 = d at fin
  unfold eqNil at h
  split at h
  · rename_i el hu
    split at h
    · simp at h; subst h
      cases hx
      cases hy with
      | ptrn => exact ⟨fin (fun w => by simp [Op.equalIn, run_underlying hu]) fun T => ⟨rfl, rfl⟩, fun op p q w _ => by cases op <;> rfl⟩
      | ptr _ _ => exact ⟨fin (fun w => by simp [Op.equalIn, run_underlying hu]) fun T => ⟨rfl, rfl⟩, fun op p q w _ => by cases op <;> rfl⟩
    · simp at h; subst h
      cases hy
      cases hx with
      | ptrn => rename_i hne; first | exact (hne rfl).elim | exact (hne _ rfl).elim | exact (hne _ _ _ rfl).elim
      | ptr _ _ => exact ⟨fin (fun w => by simp [Op.equalIn, run_underlying hu]) fun T => ⟨rfl, rfl⟩, fun op p q w _ => by cases op <;> rfl⟩
    · rename_i m i n j
      split at h
      · rename_i kk hmn hk
        simp at h; subst h
        have hmn := Nat.eq_of_beq_eq_true hmn
        subst hmn
        cases hx
        cases hy
        rename_i L hL K hK
        rw [hL] at hK; simp at hK; subst hK
        refine ⟨fin (fun w => ?_) fun T => ⟨rfl, rfl⟩, fun op p q w _ => by cases op <;> rfl⟩
        have hz : kk + 1 ≠ 0 := by omega
        have hb : ((⟨L.b, L.s + i, none⟩ : Addr) == ⟨L.b, L.s + j, none⟩) = Nat.beq i j := by
          rw [Bool.eq_iff_iff]
          simp
        simp [Op.equalIn, run_underlying hu, szT_run hk, hz, sameAddr, hb]
      · simp at h
    · simp at h
  · rename_i el hu
    split at h
    · simp at h; subst h
      cases hx
      cases hy with
      | sln _ _ => exact ⟨fin (fun w => by simp [Op.equalIn, run_underlying hu]) fun T => ⟨rfl, rfl⟩, fun op p q w _ => by cases op <;> rfl⟩
      | sl _ _ => exact ⟨fin (fun w => by simp [Op.equalIn, run_underlying hu]) fun T => ⟨rfl, rfl⟩, fun op p q w _ => by cases op <;> rfl⟩
    · simp at h; subst h
      cases hy
      cases hx with
      | sln _ _ => rename_i hne; first | exact (hne rfl).elim | exact (hne _ rfl).elim | exact (hne _ _ _ rfl).elim
      | sl _ _ => exact ⟨fin (fun w => by simp [Op.equalIn, run_underlying hu]) fun T => ⟨rfl, rfl⟩, fun op p q w _ => by cases op <;> rfl⟩
    · obtain ⟨e', c', off', n', rfl, he, hn, rfl⟩ := slN_spec h
      cases hy
      rcases rsl_inv he hx with ⟨_, _, _, _, _, _, _, _, _, rfl⟩ | ⟨_, _, h0, _⟩
      · exact ⟨fin (fun w => by simp [Op.equalIn, run_underlying hu]) fun T => ⟨rfl, rfl⟩, fun op p q w _ => by cases op <;> rfl⟩
      · omega
    · obtain ⟨e', c', off', n', rfl, he, hn, rfl⟩ := slN_spec h
      cases hx
      rcases rsl_inv he hy with ⟨_, _, _, _, _, _, _, _, _, rfl⟩ | ⟨_, _, h0, _⟩
      · exact ⟨fin (fun w => by simp [Op.equalIn, run_underlying hu]) fun T => ⟨rfl, rfl⟩, fun op p q w _ => by cases op <;> rfl⟩
      · omega
    · simp at h
  · rename_i kt el hu
    split at h
    · simp at h; subst h
      cases hx
      cases hy with
      | mapn => exact ⟨fin (fun w => by simp [Op.equalIn, run_underlying hu]) fun T => ⟨rfl, rfl⟩, fun op p q w _ => by cases op <;> rfl⟩
      | map _ => exact ⟨fin (fun w => by simp [Op.equalIn, run_underlying hu]) fun T => ⟨rfl, rfl⟩, fun op p q w _ => by cases op <;> rfl⟩
    · simp at h; subst h
      cases hy
      cases hx with
      | mapn => rename_i hne; first | exact (hne rfl).elim | exact (hne _ rfl).elim | exact (hne _ _ _ rfl).elim
      | map _ => exact ⟨fin (fun w => by simp [Op.equalIn, run_underlying hu]) fun T => ⟨rfl, rfl⟩, fun op p q w _ => by cases op <;> rfl⟩
    · simp at h
  · rename_i ps rs va hu
    split at h <;> simp at h <;> subst h
    · cases hx; cases hy
      exact ⟨fin (fun w => by simp [Op.equalIn, run_underlying hu]) fun T => ⟨rfl, rfl⟩, fun op p q w _ => by cases op <;> rfl⟩
    · cases hx; cases hy
      exact ⟨fin (fun w => by simp [Op.equalIn, run_underlying hu]) fun T => ⟨rfl, rfl⟩, fun op p q w _ => by cases op <;> rfl⟩
    · cases hx; cases hy
      exact ⟨fin (fun w => by simp [Op.equalIn, run_underlying hu]) fun T => ⟨rfl, rfl⟩, fun op p q w _ => by cases op <;> rfl⟩
  · rename_i ms hu
    split at h
    · split at h <;> simp at h
      subst h
      cases hx; cases hy
      exact ⟨fin (fun w => by simp [Op.equalIn, run_underlying hu]) fun T => ⟨rfl, rfl⟩, fun op p q w hpq => nil_guard hpq w⟩
    · simp at h; subst h
      cases hx; cases hy
      exact ⟨fin (fun w => by simp [Op.equalIn, run_underlying hu]) fun T => ⟨rfl, rfl⟩, fun op p q w _ => by cases op <;> rfl⟩
    · simp at h; subst h
      cases hx; cases hy
      exact ⟨fin (fun w => by simp [Op.equalIn, run_underlying hu]) fun T => ⟨rfl, rfl⟩, fun op p q w _ => by cases op <;> rfl⟩
    · simp at h
  · simp at h
theorem s_bin {op : BinOp} {T : TypeId} {x y : Operand} {b : TypeId} (e : o.op = .binOp op T x y b) (h : x_bin P op T x y (ev tm x) (ev tm y) o tm s = .val v s') : OpV P B lo o tm s v s' := by
  have hxo : x ∈ o.op.operands.toList := by simp [e, Op.operands]
  have hyo : y ∈ o.op.operands.toList := by simp [e, Op.operands]
  have run : ∀ (ρ : Operand → Value) (w : World) (r : Value), (eqGuard op T x y (ρ x) (ρ y)).run P w = .ok () w → (binOp op T (ρ x) (ρ y)).run P w = .ok r w → (execOp ρ o).run P w = .ok (.value r) w := by
    intro ρ w r h1 h2
    simp [execOp, e, h1, h2]
  unfold x_bin at h
  split at h
  · rename_i hsx
    split at h
    · rename_i hsy
      split at h
      · rename_i r hp
        split at h <;> simp at h
        rename_i hsr
        obtain ⟨rfl, rfl⟩ := h
        refine .same fun M a w hv hw => ?_
        obtain ⟨e1, _⟩ := scal_spec hsx (hv x hxo)
        obtain ⟨e2, _⟩ := scal_spec hsy (hv y hyo)
        refine ⟨r, run _ _ _ (guard_scal (by rw [e1]; exact hsx) w) (by rw [e1, e2]; exact pv_run _ _ hp w), nad_VR ?_⟩
        unfold scal at hsr
        split at hsr <;> simp at hsr <;> rfl
      · simp at h
    · simp at h
  · split at h
    · exact gp_val (by rw [e]; simp) h
    · split at h
      · generalize hn : eqNil P T (isC x || isC y) (ev tm x) (ev tm y) = r at h
        cases r with
        | none => exact absurd (show OR.bad "eql" = _ from h) (by simp)
        | some r =>
          have h' : OR.val (.bool r) s = .val v s' := h
          simp at h'
          obtain ⟨rfl, rfl⟩ := h'
          refine .same fun M a w hv hw => ?_
          obtain ⟨h1, h2⟩ := eqNil_run hn (hv x hxo) (hv y hyo)
          exact ⟨_, run _ _ _ (h2 _ _ _ w rfl) (h1 w).1, .bool _⟩
      · generalize hn : eqNil P T (isC x || isC y) (ev tm x) (ev tm y) = r at h
        cases r with
        | none => exact absurd (show OR.bad "eql" = _ from h) (by simp)
        | some r =>
          have h' : OR.val (.bool !r) s = .val v s' := h
          simp at h'
          obtain ⟨rfl, rfl⟩ := h'
          refine .same fun M a w hv hw => ?_
          obtain ⟨h1, h2⟩ := eqNil_run hn (hv x hxo) (hv y hyo)
          exact ⟨_, run _ _ _ (h2 _ _ _ w rfl) (h1 w).2, .bool _⟩
      · simp at h
end
end Go.X
end
section
set_option linter.unusedVariables false
namespace Go.X
open Go Go.RowKit
/-! What strings.Builder does with unsafe pointers -/
section
variable {P : Program} {B : Ban} {lo : Nat} {o : Oper} {tm : T4 Value} {s s' : XS} {v : Value}
theorem s_usd {c : Call} {x : Value} (e : o.op = .call c) (hc : c.callee = .builtin .unsafeSliceData) (ha : X.map (ev tm) c.args.toList = [x]) (h : x_usd x s = .val v s') : OpV P B lo o tm s v s' := by
  unfold x_usd at h
  split at h
  · simp at h
    obtain ⟨rfl, rfl⟩ := h
    refine .same fun M a w hv hw => ?_
    obtain ⟨cs, hr⟩ := builtin_run (P := P) e hc a w
    obtain ⟨x', hx, hxv⟩ := one1 ha (call_args e hc hv)
    cases hxv
    refine ⟨.pointer none, ?_, .ptrn⟩
    rw [hr, hx]
    simp [builtin, Lib.run_unsafeSliceData_nil]
  · rename_i n off m k
    simp at h
    obtain ⟨rfl, rfl⟩ := h
    refine .same fun M a w hv hw => ?_
    obtain ⟨cs, hr⟩ := builtin_run (P := P) e hc a w
    obtain ⟨x', hx, hxv⟩ := one1 ha (call_args e hc hv)
    cases hxv
    rename_i L off' c' hL hs
    obtain ⟨rfl, hc'⟩ : off' = off ∧ c' ≠ 0 := by
      rcases hs with ⟨h1, h2⟩ | ⟨_, _, _, h1, h2 | ⟨h2, _⟩, _⟩
      · exact ⟨h1, by omega⟩
      · exact ⟨h2, by omega⟩
      · omega
    refine ⟨.pointer (some ⟨L.b, L.s + off', none⟩), ?_, .ptr off' hL⟩
    rw [hr, hx]
    simp [builtin, Lib.run_unsafeSliceData_row _ _ _ _ _ _ hc']
  · simp at h
theorem toBx_spec : ∀ {l : List Value} {b : List UInt8}, toBx l = some b → l = b.map fun x => Value.int .u8 x.toNat
  | [], b, h => by simp [toBx] at h; subst h; rfl
  | v :: l, b, h => by
    unfold toBx at h
    split at h
    · rename_i k
      split at h
      · rename_i r hk hr
        simp at h
        subst h
        have hk := Nat.le_of_ble_eq_true hk
        have := toBx_spec hr
        have e : (UInt8.ofNat k).toNat = k := by rw [UInt8.toNat_ofNat']; omega
        simp only [List.map_cons, ← this, e]
        rfl
      · simp at h
    · simp at h
theorem s_ustr {c : Call} {x y : Value} {t t2 : TypeId} (e : o.op = .call c) (hc : c.callee = .builtin .unsafeString) (ha : X.map (ev tm) c.args.toList = [x, y]) (ht : c.argTypes.toList = [t, t2]) (h : x_ustr P B lo t x y s = .val v s') : OpV P B lo o tm s v s' := by
  have ht : c.argTypes = #[t, t2] := by rw [← Array.toArray_toList (xs := c.argTypes), ht]
  unfold x_ustr at h
  split at h
  · split at h
    · simp at h
      obtain ⟨rfl, rfl⟩ := h
      refine .same fun M a w hv hw => ?_
      obtain ⟨cs, hr⟩ := builtin_run (P := P) e hc a w
      obtain ⟨x', y', hx, hxv, hyv⟩ := two ha (call_args e hc hv)
      cases hyv
      refine ⟨.string ⟨⟨[]⟩⟩, ?_, .string _⟩
      rw [hr, hx, ht]
      have : ∀ p, (Builtin.unsafeString_ #[t, t2] o.type #[.pointer p, .int .i64 (Int.ofNat 0)]).run P w = .ok (.string .empty) w := fun p => Lib.run_unsafeString_none w t t2 o.type p
      cases hxv <;> simp [builtin, this] <;> rfl
    · simp at h
  · rename_i k
    split at h
    · rename_i n off
      split at h
      · rename_i el hp
        split at h
        · rename_i cc m e' g hu8 hl
          split at h
          · rename_i b hb hB
            simp at h
            obtain ⟨rfl, rfl⟩ := h
            simp only [Bool.and_eq_true] at hb
            obtain rfl : e' = el := Nat.eq_of_beq_eq_true hb.1.1
            have hle : off + (k + 1) ≤ m := Nat.le_of_ble_eq_true hb.1.2
            have h63 : k + 1 ≤ 9223372036854775807 := Nat.le_of_ble_eq_true hb.2
            have hB := toBx_spec hB
            rw [tkl_eq, dr_eq] at hB
            refine ⟨SF.wrt none hl, fun M a w hv hw hf => ?_⟩
            obtain ⟨cs0, hr⟩ := builtin_run (P := P) e hc a w
            obtain ⟨x', y', hx, hxv, hyv⟩ := two ha (call_args e hc hv)
            obtain ⟨L, hL, h1, _, cs, ⟨T', hT', _⟩, fr, h2, h3, _⟩ := hw.live n _ hl
            subst hT'
            cases hyv
            cases hxv
            rename_i K hK
            rw [hL] at hK; simp at hK; subst hK
            have hlen : b.length = k + 1 := by
              have := congrArg List.length hB
              simp at this
              omega
            have hcell : ∀ (j : Nat) x, b[j]? = some x → cs[L.s + off + j]? = some (.int .u8 x.toNat) := by
              intro j x hj
              have hjl := (List.getElem?_eq_some_iff.1 hj).1
              have : (List.take (k + 1) (List.drop off cc))[j]? = some (.int .u8 x.toNat) := by rw [hB]; simp [hj]
              rw [List.getElem?_take, if_pos (by omega), List.getElem?_drop] at this
              obtain ⟨v', q1, q2⟩ := h3 _ _ this
              cases q2
              rw [Nat.add_assoc]; exact q1
            have hsz : L.s + off + b.length ≤ cs.size := by
              have := hcell k b[k] (by simp)
              have := (Array.getElem?_eq_some_iff.1 this).1
              omega
            have h0 : b ≠ [] := by intro q; subst q; simp at hlen
            obtain ⟨hu, hk1⟩ := isU8_spec hu8
            have hrun := ustr_run (P := P) (it := t2) (ty := o.type) hp (cellsOf_szT hk1) h2 b h0 hsz (by omega) hcell
            obtain ⟨fr', hch⟩ := frozen_chg (off := L.s + off) (k := b.length) h2
            refine ⟨_, .string ⟨b.toArray⟩, w.freeze ⟨L.b, L.s + off, none⟩ b.length, M, ?_, .inl rfl, ?_, .string _⟩
            · rw [hr, hx, ht]
              have e1 : (Value.int .i64 (Int.ofNat (k + 1))) = .int .i64 b.length := by rw [hlen]; rfl
              rw [e1]
              simp only [builtin, Sem.run_bind, hrun]
              rfl
            · rw [look_wrt none hl]
              exact Post.die _ _ hw hl hL hch
          · simp at h
        · simp at h
      · simp at h
    · simp at h
  · simp at h
end
end Go.X
end
