/-
  A part of the proof of ScriptJoins: no statement of the seat is proved here.
-/
import Derived.Test.YtncijcfnjepooaaGreatDoorK03
import Derived.Laws.BytesString
import Derived.Laws.IdiomStrings
set_option linter.unusedVariables false
set_option linter.unusedSimpArgs false
set_option linter.unnecessarySimpa false
set_option linter.unusedSectionVars false
set_option linter.constructorNameAsVariable false
set_option linter.deprecated false
section
set_option linter.unusedVariables false
namespace Go.X
open Go Go.RowKit
section
variable {P : Program} {B : Ban} {lo : Nat} {o : Oper} {tm : T4 Value} {s s' : XS} {v : Value}
/-- Cells behind an address, in truth. -/
theorem cellsAt_spec {M : Cx} {w : World} (hw : WR P M (look B s) w) {ad ad' : Option Addr} {n : Nat} {l : List Value} (h : cellsAt B s ad n = some l) {m c m' c' : Nat} (hr : VR M (.slice ad m c) (.slice ad' m' c')) :
    (ad = none ∧ ad' = none ∧ n = 0 ∧ l = []) ∨ ∃ b off off' L cs j T g, ad = some ⟨b, off, none⟩ ∧ look B s b = some (.cells cs j T g) ∧ M b = some L ∧ ad' = some ⟨L.b, L.s + off', none⟩ ∧ SlOk L off off' m c c' ∧ m' = m ∧ off + n ≤ j ∧ l = (cs.drop off).take n ∧ (∀ v ∈ l, one v = true) ∧ l.length = n ∧
      ∃ l', VRL M l l' ∧ ∀ (j : Nat) v, l'[j]? = some v → w.cell? ⟨L.b, L.s + off + j, none⟩ = some v := by
  unfold cellsAt at h
  split at h
  · split at h <;> simp at h
    rename_i hn
    subst h
    cases hr
    exact .inl ⟨rfl, rfl, Nat.eq_of_beq_eq_true hn, rfl⟩
  · rename_i b off
    split at h
    · rename_i cs j T g hlk
      split at h <;> simp at h
      rename_i hle
      subst h
      have hle : off + n ≤ j := Nat.le_of_ble_eq_true hle
      cases hr
      rename_i L off' hL hS
      obtain ⟨hm, hc⟩ := cells_of hw hlk hL
      obtain ⟨l', h1, h2⟩ := hc off n hle
      obtain ⟨K, k1, _, k2, _⟩ := hw.live b _ hlk
      refine .inr ⟨b, off, off', L, cs, j, T, g, rfl, hlk, hL, rfl, hS, rfl, hle, by rw [tkl_eq, dr_eq], fun v hv => ?_, ?_, l', by rw [tkl_eq, dr_eq]; exact h1, h2⟩
      · rw [tkl_eq, dr_eq] at hv
        exact k2 v (List.mem_of_mem_drop (List.mem_of_mem_take hv))
      · rw [tkl_eq, dr_eq]; simp; omega
    · simp at h
  · simp at h
theorem VR_slice {M : Cx} {ad : Option Addr} {n c : Nat} {u : Value} (h : VR M (.slice ad n c) u) : ∃ ad' c', u = .slice ad' n c' ∧ c ≤ c' := by
  cases h with
  | sln n c => exact ⟨_, _, rfl, Nat.le_refl _⟩
  | sl e s => exact ⟨_, _, rfl, by rcases s with ⟨_, h⟩ | ⟨_, _, _, h, _⟩ <;> omega⟩
/-- The first cells of a slice, in truth. -/
theorem first_run {M : Cx} {w : World} (hw : WR P M (look B s) w) {ad ad' : Option Addr} {n k : Nat} {l : List Value} (h : cellsAt B s ad (n * k) = some l) {m c m' c' : Nat} (hr : VR M (.slice ad m c) (.slice ad' m' c')) (hnm : n ≤ m) :
    ∃ l', VRL M l l' ∧ (∀ v ∈ l, one v = true) ∧ l.length = n * k ∧ l'.length = n * k ∧ (∀ v ∈ l', v.oneCell' = true) ∧ ∀ w1 : World, w1.heap = w.heap → (Builtin.firstCells k n (.slice ad' m' c')).run P w1 = .ok l'.toArray w1 := by
  rcases cellsAt_spec hw h hr with ⟨rfl, rfl, h0, rfl⟩ | ⟨b, off, off', L, cs, j, T, g, rfl, hlk, hL, rfl, hS, rfl, hle, hl, h1, h2, l', h3, h4⟩
  · exact ⟨[], .nil, by simp, by simp [h0], by simp [h0], by simp, fun w1 _ => rfl⟩
  · have hlen := h3.length
    have hone : ∀ v ∈ l', v.oneCell' = true := by
      intro v hv
      obtain ⟨i, hi, rfl⟩ := List.getElem_of_mem hv
      have hi2 : i < l.length := by omega
      have := h3.get' i l[i] l'[i] (by simp) (by simp)
      have h5 : one l'[i] = true := by rw [this.one_eq]; exact h1 _ (by simp)
      cases hx : l'[i] <;> rw [hx] at h5 <;> first | rfl | simp [one] at h5
    have hoff : off' = off ∨ n * k = 0 := by
      rcases hS with ⟨h, _⟩ | ⟨_, _, _, _, h | ⟨h, _⟩, _⟩
      · exact .inl h
      · exact .inl h
      · have : n = 0 := by omega
        subst this; exact .inr (by simp)
    refine ⟨l', h3, h1, h2, by omega, hone, fun w1 hw1 => ?_⟩
    refine run_firstCells_some w1 k n _ _ _ l' (by omega) fun j v hj => ?_
    rcases hoff with rfl | h0
    · have := h4 j v hj
      rw [Addr.add_lit]
      simpa [World.cell?, hw1] using this
    · have : l' = [] := List.length_eq_zero_iff.1 (by omega)
      subst this; simp at hj
theorem VRL.oneCell {M : Cx} {l l' : List Value} (h : VRL M l l') (h1 : ∀ v ∈ l, one v = true) : ∀ v ∈ l', v.oneCell' = true := by
  intro v hv
  have hlen := h.length
  obtain ⟨i, hi, rfl⟩ := List.getElem_of_mem hv
  have hi2 : i < l.length := by omega
  have := h.get' i l[i] l'[i] (by simp) (by simp)
  have h5 : one l'[i] = true := this.one_eq (h1 _ (by simp))
  cases hx : l'[i] <;> rw [hx] at h5 <;> first | rfl | simp [one] at h5
/-- How long a slice is, by names. -/
noncomputable def lenS : Value → Option Nat
  | .slice _ m _ => some m
  | v => match sv v with
    | some (e, _, _, m) => match Nat.ble 2 e with
      | true => none
      | false => some m
    | none => none
theorem sv_slv (e : Nat) (c : List Value) (off n : Nat) : sv (slv e c off n) = some (e, c, off, n) := rfl
theorem lenS_slv {e : Nat} (c : List Value) (off n : Nat) (he : e < 2) : lenS (slv e c off n) = some n := by
  show (match Nat.ble 2 e with | true => none | false => some n) = _
  have : Nat.ble 2 e = false := by
    cases q : Nat.ble 2 e
    · rfl
    · have := Nat.le_of_ble_eq_true q; omega
  rw [this]
theorem lenS_inv {v : Value} {m : Nat} (h : lenS v = some m) : (∃ a c, v = .slice a m c) ∨ ∃ e c off, e < 2 ∧ v = slv e c off m := by
  unfold lenS at h
  split at h
  · simp at h; subst h; exact .inl ⟨_, _, rfl⟩
  · split at h
    · rename_i hx
      split at h <;> simp at h
      rename_i hq
      subst h
      exact .inr ⟨_, _, _, ble2 hq, sv_eq hx⟩
    · simp at h
theorem cellsV_slv {n k e : Nat} {c : List Value} {off m : Nat} {l : List Value} (h : cellsV B s n k (slv e c off m) = some l) : e < 2 ∧ (n = 0 ∧ l = [] ∨ off + n * k ≤ c.length ∧ l = (c.drop off).take (n * k)) := by
  unfold cellsV at h
  simp only [slv] at h
  rw [show sv (.func (.yield e) ⟨c⟩ ⟨[.slice none off m]⟩) = some (e, c, off, m) from rfl] at h
  simp only at h
  split at h
  · simp at h
  · rename_i hq
    refine ⟨ble2 hq, ?_⟩
    split at h
    · simp at h; exact .inl ⟨rfl, h⟩
    · unfold sCells at h
      split at h <;> simp at h
      rename_i hle
      subst h
      have := Nat.le_of_ble_eq_true hle
      rw [len_eq] at this
      exact .inr ⟨this, by rw [tkl_eq, dr_eq]⟩
/-- The first cells of a slice, own or sealed, in truth. -/
theorem firstV_run {M : Cx} {w : World} (hw : WR P M (look B s) w) {x x' : Value} {n k m : Nat} {l : List Value} (h : cellsV B s n k x = some l) (hm : lenS x = some m) (hr : VR M x x') (hnm : n ≤ m) :
    ∃ ad' c', x' = .slice ad' m c' ∧ ∃ l', VRL M l l' ∧ (∀ v ∈ l, one v = true) ∧ l.length = n * k ∧ l'.length = n * k ∧ (∀ v ∈ l', v.oneCell' = true) ∧ ∀ w1 : World, w1.heap = w.heap → (Builtin.firstCells k n (.slice ad' m c')).run P w1 = .ok l'.toArray w1 := by
  rcases lenS_inv hm with ⟨a, c, rfl⟩ | ⟨e, c, off, he, rfl⟩
  · obtain ⟨ad', c', rfl, _⟩ := VR_slice hr
    exact ⟨ad', c', rfl, first_run hw h hr hnm⟩
  · obtain ⟨_, hl⟩ := cellsV_slv h
    rcases rsl_inv he hr with ⟨c', b, t, cap, h1, h2, h3, h4, h5, hr'⟩ | ⟨cap, a, h0, h5, hr'⟩
    · have hrow := rsl_row hw h1 h2 h3
      have : ∃ l', VRL M l l' ∧ (∀ v ∈ l, one v = true) ∧ l.length = n * k ∧ ∀ (j : Nat) v, l'[j]? = some v → w.cell? ⟨b, t + off + j, none⟩ = some v := by
        rcases hl with ⟨rfl, rfl⟩ | ⟨hle, rfl⟩
        · exact ⟨[], .nil, by simp, by simp, by simp⟩
        · obtain ⟨l', g1, g2⟩ := hrow.part (n * k) off hle
          exact ⟨l', g1, fun v hv => of1_one (h2 v (List.mem_of_mem_drop (List.mem_of_mem_take hv))), by simp; omega, g2⟩
      obtain ⟨l', g1, g2, g3, g4⟩ := this
      have hlen := g1.length
      refine ⟨_, cap, hr', l', g1, g2, g3, by omega, g1.oneCell g2, fun w1 hw1 => run_firstCells_some w1 k n _ _ _ l' (by omega) fun j v hj => ?_⟩
      rw [Addr.add_lit]
      simpa [World.cell?, hw1] using g4 j v hj
    · subst h0
      have hn : n = 0 := by omega
      subst hn
      have hl' : l = [] := by
        rcases hl with ⟨_, hl⟩ | ⟨_, hl⟩
        · exact hl
        · simpa using hl
      subst hl'
      refine ⟨_, cap, hr', [], .nil, by simp, by simp, by simp, by simp, fun w1 hw1 => ?_⟩
      cases a with
      | none => rfl
      | some p => exact run_firstCells_some w1 k 0 _ _ _ [] (by simp) (by simp)
theorem toB_spec {M : Cx} : ∀ {l l' : List Value} {b : List UInt8}, toB l = some b → VRL M l l' → ∃ ns : List Int, l' = ns.map (Value.int .u8) ∧ b = ns.map fun n => UInt8.ofNat n.toNat
  | [], _, b, h, .nil => ⟨[], rfl, by simp [toB] at h; simp [h]⟩
  | v :: l, _, b, h, .cons hv hl => by
    simp only [toB] at h
    split at h
    · rename_i n
      split at h
      · rename_i r hr
        simp at h; subst h
        obtain ⟨ns, h1, h2⟩ := toB_spec hr hl
        cases hv
        exact ⟨n :: ns, by simp [h1], by simp [h2]⟩
      · simp at h
    · simp at h
theorem push_bytes : ∀ (ns : List Int) (s : ByteArray), ns.foldl (fun r n => r.push (UInt8.ofNat n.toNat)) s = ⟨(s.data.toList ++ (ns.map fun n => UInt8.ofNat n.toNat)).toArray⟩
  | [], s => by simp
  | n :: ns, s => by
    rw [List.foldl_cons, push_bytes ns]
    simp [ByteArray.push]
theorem isU8_spec {e : TypeId} (h : isU8 P e = true) : P.underlying e = some (.int .u8) ∧ szT P e = some 1 := by
  unfold isU8 at h
  split at h
  · exact ⟨by assumption, by assumption⟩
  · simp at h
theorem bytesV_VR {M : Cx} (b : ByteArray) : VRL M (bytesV b) (bytesV b) ∧ (∀ v ∈ bytesV b, one v = true) ∧ (bytesV b).length = b.data.toList.length := by
  unfold bytesV
  rw [map_eq]
  refine ⟨?_, ?_, by simp⟩
  · generalize b.data.toList = l
    induction l with
    | nil => exact .nil
    | cons x l ih => exact .cons (.int _ _) ih
  · intro v hv
    obtain ⟨x, _, rfl⟩ := List.mem_map.1 hv
    rfl
theorem chg_drew {w : World} (o : Obj) : Chg1 w (w.drew.alloc o) w.heap.size o := ⟨(chg_new w o).at_, (chg_new w o).oth, ⟨rfl, rfl, rfl, by show w.heap.size ≤ (w.heap.push o).size; simp, fun b cs T fr e => (chg_new w o).kept.shape b cs T fr e⟩⟩
/-- A new row that may be longer in truth. -/
theorem new_grown {M : Cx} {h : Hp} {w w' : World} {n : Nat} {bnd : Bool} {c c' : List Value} {T : TypeId} {cs : Array Value} {fr : Nat × Nat} {k : Nat} (hw : WR P M h w) (hn : M n = none) (hc : VRL M c c') (h1 : ∀ v ∈ c, one v = true)
    (hk : szT P T = some k) (hg : Chg1 w w' w.heap.size (.cells cs T fr)) (hcs : ∀ (i : Nat) v, c'[i]? = some v → cs[i]? = some v) (hfr : ∀ i, i < cs.size → ¬ frz fr i) (hlen : c.length ≤ cs.size) :
    Post P M (setM M n ⟨w.heap.size, 0, some (cs.size, k)⟩) h (setH h n (if bnd = true then none else some (.cells c c.length T true))) n (n + 1) w w' := by
  refine Post.new_ (obj := .cells cs T fr) hw hn rfl hg fun q hq => ?_
  split at hq <;> simp at hq
  subst hq
  refine ⟨rfl, h1, cs, ⟨T, rfl, fun e => by simp at e⟩, fr, hg.at_, fun i v e => ?_, fun i hi => ?_, fun e => by simp at e, fun _ => ⟨k, hk, rfl, fun i _ hi => hfr i hi⟩⟩
  · obtain ⟨v', g1, g2⟩ := hc.get i v e
    exact ⟨v', by rw [Nat.zero_add]; exact hcs i v' g1, g2.mono (setM_ext hn)⟩
  · exact hfr _ (by simp; omega)
theorem conv_bytes_run {M : Cx} {w : World} {S T el : TypeId} {x x' : Value} {n : Nat} {l : List Value} {b : List UInt8} (hw : WR P M (look B s) w) (hS : P.underlying S = some (.slice el)) (hT : P.underlying T = some .string) (hu8 : isU8 P el = true) (hl : cellsV B s n 1 x = some l) (hm : lenS x = some n) (hb : toB l = some b) (hr : VR M x x') :
    (convert S T x').run P w = .ok (.string ⟨⟨b⟩⟩) w := by
  obtain ⟨ad', c', rfl, l', g1, g2, g3, g4, g5, g6⟩ := firstV_run hw hl hm hr (Nat.le_refl n)
  have hu8 := (isU8_spec hu8).1
  obtain ⟨ns, hns, hb'⟩ := toB_spec hb g1
  have hres : (Conv.bytesToString (.slice ad' n c')).run P w = .ok (.string ⟨⟨b⟩⟩) w := by
    have hfirst := g6 w rfl
    cases ad' with
    | none =>
      have hn : n = 0 ∨ n ≠ 0 := by omega
      rcases hn with rfl | hn
      · have : ns = [] := by
          have := congrArg List.length hns; simp at this
          exact List.length_eq_zero_iff.1 (by omega)
        subst this
        subst hb'
        rfl
      · exfalso
        cases n with
        | zero => exact hn rfl
        | succ n =>
          simp [Builtin.firstCells] at hfirst
          have := g4; subst hfirst; simp at this
    | some ad' =>
      have hload : (loadCells ad' n).run P w = .ok (ns.map (Value.int .u8)).toArray w := by
        have : (Builtin.firstCells 1 n (.slice (some ad') n c')) = loadCells ad' (n * 1) := rfl
        rw [this, Nat.mul_one] at hfirst
        rw [← hns]; exact hfirst
      have := run_bytesToString w ad' n c' ns hload
      rw [push_bytes] at this
      rw [this, hb']
      rfl
  rw [run_convert_bytes_string w S T el ad' n c' hS hu8 hT, hres]
theorem s_conv {S T : TypeId} {x : Operand} (e : o.op = .convert S T x) (h : x_conv P B S T (ev tm x) o tm s = .val v s') : OpV P B lo o tm s v s' := by
  unfold x_conv at h
  split at h
  · rename_i hx; exact s_uconv e hx h
  · rename_i ad n c hx
    split at h
    · rename_i el hS hT
      split at h
      · rename_i l hu8 hl
        split at h
        · rename_i b hb
          simp at h
          obtain ⟨rfl, rfl⟩ := h
          have hu8 := (isU8_spec hu8).1
          refine .same fun M a w hv hw => ?_
          have hr := hv x (by simp [e, Op.operands])
          rw [hx] at hr
          obtain ⟨ad', c', hr', _⟩ := VR_slice hr
          rw [hr'] at hr
          refine ⟨.string ⟨⟨b⟩⟩, ?_, .string _⟩
          obtain ⟨l', g1, g2, g3, g4, g5, g6⟩ := first_run (P := P) (k := 1) hw (by rw [Nat.mul_one]; exact hl) hr (Nat.le_refl n)
          obtain ⟨ns, hns, hb'⟩ := toB_spec hb g1
          have hres : (Conv.bytesToString (.slice ad' n c')).run P w = .ok (.string ⟨⟨b⟩⟩) w := by
            have hfirst := g6 w rfl
            cases ad' with
            | none =>
              have : l' = [] := by
                rcases cellsAt_spec hw hl hr with ⟨_, _, h0, rfl⟩ | ⟨_, _, _, _, _, _, _, _, _, _, _, h, _⟩
                · cases g1; rfl
                · simp at h
              subst this
              have : ns = [] := by simpa using hns.symm
              subst this
              subst hb'
              rfl
            | some ad' =>
              have hload : (loadCells ad' n).run P w = .ok (ns.map (Value.int .u8)).toArray w := by
                have : (Builtin.firstCells 1 n (.slice (some ad') n c')) = loadCells ad' (n * 1) := rfl
                rw [this, Nat.mul_one] at hfirst
                rw [← hns]; exact hfirst
              have := run_bytesToString w ad' n c' ns hload
              rw [push_bytes] at this
              rw [this, hb']
              rfl
          have h3 := run_convert_bytes_string w S T el ad' n c' hS hu8 hT
          generalize a.eval = ρ at *
          simp [execOp, e, hr', h3, hres]
        · simp at h
      · simp at h
    · simp at h
  · rename_i b hx
    split at h
    · rename_i el hS hT
      split at h
      · rename_i hu8
        obtain ⟨hu8, hk1⟩ := isU8_spec hu8
        rcases new_eq h with ⟨ht, h⟩ | h
        · simp at h
          obtain ⟨rfl, rfl⟩ := h
          refine ⟨SF.more _ ht, fun M a w hv hw hf => ?_⟩
          have hn : M s.nx = none := hf s.nx (Nat.le_refl _) (Nat.lt_succ_self _)
          have hr := hv x (by simp [e, Op.operands])
          rw [hx] at hr
          have hr' : a.eval x = .string b := by cases hq : a.eval x <;> rw [hq] at hr <;> cases hr; rfl
          obtain ⟨p1, p2, p3⟩ := bytesV_VR (M := M) b
          have hrun := run_bytes_of_string (P := P) w S T el b hS hT hu8
          have hcap := grownCap_ge w b.size 0 el
          generalize hcw : grownCap w b.size 0 el = cap at hrun hcap
          have hbs : b.data.toList.length = b.size := by show b.data.toList.length = b.data.size; simp
          have hrs : (bytesRow b cap).size = cap := by
            have : b.data.size = b.size := rfl
            simp [bytesRow]; omega
          refine ⟨_, .slice (some ⟨w.heap.size, 0, none⟩) b.size cap, w.drew.alloc (.cells (bytesRow b cap) el ((bytesRow b cap).size, (bytesRow b cap).size + 1)), setM M s.nx ⟨w.heap.size, 0, some ((bytesRow b cap).size, 1)⟩, ?_, .inl rfl, ?_, ?_⟩
          · generalize a.eval = ρ at *
            simp [execOp, e, hr', hrun]
          · rw [look_more _ ht, len_eq, ← p3]
            refine new_grown (bnd := bn B s.nx) (T := el) hw hn p1 p2 hk1 (chg_drew _) (fun i v hi => ?_) (fun i hi => by simp [frz]; omega) (by rw [p3, hrs, hbs]; exact hcap)
            have hlt := (List.getElem?_eq_some_iff.1 hi).1
            rw [p3] at hlt
            unfold bytesRow
            rw [Array.getElem?_append_left (by simpa using hlt)]
            unfold bytesV at hi
            rw [map_eq] at hi
            simpa using hi
          · rw [len_eq, hbs]
            refine .sl (L := ⟨w.heap.size, 0, some ((bytesRow b cap).size, 1)⟩) (by simp [setM]) (.inr ⟨_, _, rfl, hcap, .inl rfl, ?_⟩)
            rw [hrs]; simp
        · simp at h
      · simp at h
    · exact gp_val (by rw [e]; simp) h
  · split at h
    · rename_i e' c off n hx
      have hx := sv_eq hx
      split at h
      · rename_i el hS hT
        split at h
        · rename_i l hu8 hl
          split at h
          · rename_i b hb
            simp at h
            obtain ⟨rfl, rfl⟩ := h
            refine .same fun M a w hv hw => ?_
            have hr := hv x (by simp [e, Op.operands])
            rw [hx] at hr
            have h3 := conv_bytes_run hw hS hT hu8 hl (lenS_slv c off n (cellsV_slv hl).1) hb hr
            refine ⟨.string ⟨⟨b⟩⟩, ?_, .string _⟩
            generalize a.eval = ρ at *
            simp [execOp, e, h3]
          · simp at h
        · simp at h
      · simp at h
    · exact gp_val (by rw [e]; simp) h
end
end Go.X
end
section
set_option linter.unusedVariables false
namespace Go.X
open Go Go.RowKit
section
variable {P : Program} {B : Ban} {lo : Nat} {o : Oper} {tm : T4 Value} {s s' : XS} {v : Value}
theorem call_args {c : Call} {b : Builtin} (e : o.op = .call c) (hc : c.callee = .builtin b) {M : Cx} {a : Act} (hv : ∀ x ∈ o.op.operands.toList, VR M (ev tm x) (a.eval x)) : VRL M (X.map (ev tm) c.args.toList) (c.args.map a.eval).toList := by
  rw [map_eq, Array.toList_map]
  exact VRL.map_ fun x hx => hv x (by simp [e, Op.operands, Call.operands, hc]; simpa using hx)
/-- A built-in function's run. -/
theorem builtin_run {c : Call} {b : Builtin} (e : o.op = .call c) (hc : c.callee = .builtin b) (a : Act) (w : World) : ∃ cs, (execOp a.eval o).run P w = (Go.builtin b c.argTypes o.type cs (c.args.map a.eval)).run P w := by
  refine ⟨c.args.map fun | .const _ => true | _ => false, ?_⟩
  obtain ⟨d, op, ty, pos, af, gd⟩ := o
  simp only at e
  subst e
  generalize a.eval = ρ
  simp [execOp, resolve, hc, invoke]
  rfl
theorem two {M : Cx} {x y : Value} {l : List Value} {l' : Array Value} (h : l = [x, y]) (k : VRL M l l'.toList) : ∃ x' y', l' = #[x', y'] ∧ VR M x x' ∧ VR M y y' := by
  subst h
  obtain ⟨l'⟩ := l'
  simp at k
  cases k with
  | cons h1 k => cases k with
    | cons h2 k => cases k; exact ⟨_, _, rfl, h1, h2⟩
theorem one1 {M : Cx} {x : Value} {l : List Value} {l' : Array Value} (h : l = [x]) (k : VRL M l l'.toList) : ∃ x', l' = #[x'] ∧ VR M x x' := by
  subst h
  obtain ⟨l'⟩ := l'
  simp at k
  cases k with
  | cons h1 k => cases k; exact ⟨_, rfl, h1⟩
theorem s_len {c : Call} {x : Value} {t : TypeId} {ts : List TypeId} (e : o.op = .call c) (hc : c.callee = .builtin .len) (ha : X.map (ev tm) c.args.toList = [x]) (ht : c.argTypes.toList = t :: ts)
    (h : x_len P B t x o tm s = .val v s') : OpV P B lo o tm s v s' := by
  have ht : c.argTypes[0]? = some t := by rw [← Array.getElem?_toList, ht]; rfl
  unfold x_len at h
  split at h
  · rename_i ad n k
    split at h
    · rename_i el hu
      simp at h
      obtain ⟨rfl, rfl⟩ := h
      refine .same fun M a w hv hw => ?_
      obtain ⟨cs, hr⟩ := builtin_run (P := P) e hc a w
      obtain ⟨x', hx, hxv⟩ := one1 ha (call_args e hc hv)
      refine ⟨.int .i64 n, ?_, .int _ _⟩
      rw [hr, hx]
      obtain ⟨ad', k', rfl, _⟩ := VR_slice hxv
      simp [builtin, Builtin.len_, ht, run_underlying hu, goInt]
    · simp at h
  · rename_i n
    split at h
    · rename_i es ck hu hl
      simp at h
      obtain ⟨rfl, rfl⟩ := h
      refine .same fun M a w hv hw => ?_
      obtain ⟨cs, hr⟩ := builtin_run (P := P) e hc a w
      obtain ⟨x', hx, hxv⟩ := one1 ha (call_args e hc hv)
      cases hxv
      rename_i L hL
      obtain ⟨K, k1, es', k2, k3, _⟩ := hw.live n _ hl
      rw [hL] at k1; simp at k1; subst k1
      refine ⟨.int .i64 es.length, ?_, by rw [len_eq]; exact .int _ _⟩
      rw [hr, hx]
      have hg : (getObj L.b).run P w = .ok (.map es' ‹_›) w := by
        show Sem.run P (.getObj L.b .pure) w = _
        simp [Sem.run, k2]
      have : es'.size = es.length := by simpa using k3
      simp [builtin, Builtin.len_, ht, run_underlying hu, hg, goInt, this]
    · simp at h
  · split at h
    · rename_i q c0 c1 n hx
      have hx := sv_eq hx
      split at h
      · rename_i el hq hu
        simp at h
        obtain ⟨rfl, rfl⟩ := h
        refine .same fun M a w hv hw => ?_
        obtain ⟨cs, hr⟩ := builtin_run (P := P) e hc a w
        obtain ⟨x', hx', hxv⟩ := one1 ha (call_args e hc hv)
        rw [hx] at hxv
        refine ⟨.int .i64 n, ?_, .int _ _⟩
        rw [hr, hx']
        rcases rsl_inv (ble2 hq) hxv with ⟨c', b, t, cap, _, _, _, _, _, hr'⟩ | ⟨cap, a', h0, _, hr'⟩
        · simp [builtin, Builtin.len_, ht, run_underlying hu, goInt, hr']
        · simp [builtin, Builtin.len_, ht, run_underlying hu, goInt, hr', h0]
      · simp at h
    · exact gp_val (by rw [e]; simp) h
theorem s_cap {c : Call} {x : Value} {t : TypeId} {ts : List TypeId} (e : o.op = .call c) (hc : c.callee = .builtin .cap) (ha : X.map (ev tm) c.args.toList = [x]) (ht : c.argTypes.toList = t :: ts)
    (h : x_cap P B t x s = .val v s') : OpV P B lo o tm s v s' := by
  have ht : c.argTypes[0]? = some t := by rw [← Array.getElem?_toList, ht]; rfl
  unfold x_cap at h
  split at h
  · rename_i el n k hu
    simp at h
    obtain ⟨rfl, rfl⟩ := h
    refine .same fun M a w hv hw => ?_
    obtain ⟨cs, hr⟩ := builtin_run (P := P) e hc a w
    obtain ⟨x', hx, hxv⟩ := one1 ha (call_args e hc hv)
    cases hxv
    refine ⟨.int .i64 k, ?_, .int _ _⟩
    rw [hr, hx]
    simp [builtin, Builtin.cap_, ht, run_underlying hu, goInt]
  · rename_i el ad n k hu
    split at h
    · rename_i c0 m T hl
      simp at h
      obtain ⟨rfl, rfl⟩ := h
      refine .same fun M a w hv hw => ?_
      obtain ⟨cs, hr⟩ := builtin_run (P := P) e hc a w
      obtain ⟨x', hx, hxv⟩ := one1 ha (call_args e hc hv)
      cases hxv
      rename_i n0 L off off' c' hL hS
      obtain ⟨K, k1, _, _, _, _, _, _, _, _, k2, _⟩ := hw.live _ _ hl
      rw [hL] at k1; simp at k1; subst k1
      rcases hS with ⟨_, rfl⟩ | ⟨_, _, hg, _⟩
      · refine ⟨.int .i64 c', ?_, .int _ _⟩
        rw [hr, hx]
        simp [builtin, Builtin.cap_, ht, run_underlying hu, goInt]
      · rw [k2 rfl] at hg; simp at hg
    · simp at h
  · simp at h
end
end Go.X
end
section
set_option linter.unusedVariables false
namespace Go.X
open Go Go.RowKit
section
variable {P : Program} {B : Ban} {lo : Nat} {o : Oper} {tm : T4 Value} {s s' : XS} {v : Value}
/-- What is appended, in truth. -/
theorem src_spec {M : Cx} {w : World} (hw : WR P M (look B s) w) {t2 : TypeId} {d : TypeDesc} (hd : P.underlying t2 = some d) {k : Nat} {y y' : Value} {l : List Value} {m : Nat} (h : srcOf B s (some d) k y = some (l, m)) (hr : VR M y y') :
    ∃ l', VRL M l l' ∧ (∀ v ∈ l, one v = true) ∧ l.length = m * k ∧ Src P k t2 y' m l' w := by
  unfold srcOf at h
  split at h
  · rename_i el he
    simp at he; subst he
    have key : ∀ l0, cellsV B s m k y = some l0 → lenS y = some m → l0 = l → ∃ l', VRL M l l' ∧ (∀ v ∈ l, one v = true) ∧ l.length = m * k ∧ Src P k t2 y' m l' w := by
      rintro l0 hl hm rfl
      obtain ⟨ad', c', rfl, l', g1, g2, g3, g4, g5, g6⟩ := firstV_run hw hl hm hr (Nat.le_refl _)
      exact ⟨l', g1, g2, g3, .inl ⟨el, hd⟩, fun _ => rfl, g6 w rfl, g6 w.drew rfl, g4, g5⟩
    split at h
    · rename_i ad m' c
      split at h
      · rename_i l0 hl
        simp at h
        obtain ⟨rfl, rfl⟩ := h
        exact key _ hl rfl rfl
      · simp at h
    · split at h
      · rename_i q c off m' hx
        have hx := sv_eq hx
        subst hx
        split at h
        · rename_i l0 hl
          simp at h
          obtain ⟨rfl, rfl⟩ := h
          exact key _ hl (lenS_slv c off m' (cellsV_slv hl).1) rfl
        · simp at h
      · simp at h
  · rename_i he
    simp at he; subst he
    split at h
    · rename_i b
      split at h
      · rename_i hk
        simp at h
        obtain ⟨rfl, rfl⟩ := h
        have hk := Nat.eq_of_beq_eq_true hk
        subst hk
        cases hr
        obtain ⟨p1, p2, p3⟩ := bytesV_VR (M := M) b
        have hb : bytesV b = byteCells b := by unfold bytesV byteCells; rw [map_eq]
        have hs := Src.ofString w hd b
        have hlen : len b.data.toList = b.size := by rw [len_eq]; show b.data.toList.length = b.data.size; simp
        refine ⟨bytesV b, p1, p2, by rw [p3, len_eq]; simp, ?_⟩
        rw [hlen, hb]; exact hs
      · simp at h
    · simp at h
  · simp at h
theorem one_cell' {v : Value} (h : one v = true) : v.oneCell' = true := by cases v <;> first | rfl | simp [one] at h
theorem info_szT {e : TypeId} {i : TypeInfo} {k : Nat} (hi : P.info? e = some i) (hk : szT P e = some k) : i.size = k := by
  unfold szT at hk; rw [hi] at hk; simpa using hk
/-- An append where there is room. -/
theorem room_run {w : World} {t t2 ty e : TypeId} {i : TypeInfo} {k n c m : Nat} {b off : Nat} {y' : Value} {l' : List Value} (ht : P.underlying t = some (.slice e)) (hi : P.info? e = some i) (hk : i.size = k) (hs : Src P k t2 y' m l' w) (hroom : n + m ≤ c) {w' : World}
    (hst : (storeCells ⟨b, off + n * k, none⟩ l').run P w = .ok () w') :
    (Builtin.append_ #[t, t2] ty #[.slice (some ⟨b, off, none⟩) n c, y']).run P w = .ok (.slice (some ⟨b, off, none⟩) (n + m) c) w' := by
  subst hk
  rcases hs.kind with ⟨e', hk⟩ | hk <;> simp [Builtin.append_, run_underlying ht, run_underlying hk, sizeOf, typeInfo, hi, hs.len, hroom, hs.cells, Addr_add_lit, hst]
/-- A new row for what was there and what is new. -/
theorem grow_run {w : World} {t t2 ty e : TypeId} {i : TypeInfo} {z : Value} {k n c' m : Nat} {ad' : Option Addr} {y' : Value} {old' l' : List Value} (ht : P.underlying t = some (.slice e)) (hi : P.info? e = some i) (hz : i.zero = some z) (hzk : z.cells.size = k) (hk : i.size = k) (hs : Src P k t2 y' m l' w)
    (hol : old'.length = n * k) (hfirst : ∀ w1 : World, w1.heap = w.heap → (Builtin.firstCells k n (.slice ad' n c')).run P w1 = .ok old'.toArray w1) (hll : l'.length = m * k)
    (hg : c' < n + m) (hbig : n + m ≤ 9223372036854775807) (hby : (n + m) * i.bytes ≤ 140737488355328) :
    ∃ w' C cs, (Builtin.append_ #[t, t2] ty #[.slice ad' n c', y']).run P w = .ok (.slice (some ⟨w.heap.size, 0, none⟩) (n + m) C) w' ∧ Chg1 w w' w.heap.size (.cells cs e (0, 0)) ∧ n + m ≤ C ∧ cs.size = C * k ∧
      (∀ (j : Nat) v, (old' ++ l')[j]? = some v → cs[j]? = some v) := by
  have hfit : Builtin.nextslicecap (n + m) c' * i.bytes ≤ 281474976710656 := by
    have a1 := nextslicecap_le hg
    have a2 : Builtin.nextslicecap (n + m) c' * i.bytes ≤ 2 * (n + m) * i.bytes := Nat.mul_le_mul_right _ a1
    rw [Nat.mul_assoc] at a2
    omega
  have hr := run_append_grow_src (P := P) w t t2 ty e i z ht hi hz ad' n c' old' (by rw [hk]; exact hfirst w.drew rfl) y' m l' (by rw [hk]; exact hs) hg (by omega) hfit
  have hC := grownCap_ge w (n + m) c' e
  generalize grownCap w (n + m) c' e = C at hr hC
  refine ⟨_, C, _, hr, chg_drew _, hC, ?_, ?_⟩
  · simp only [Array.size_append, List.size_toArray, List.length_append, hol, hll, Builtin.zeroCells, Array.size_map, Array.size_range, hzk]
    rw [← Nat.add_mul, ← Nat.add_mul]; congr 1; omega
  · intro j v hj
    rw [Array.getElem?_append_left (by simpa using (List.getElem?_eq_some_iff.1 hj).1)]
    simpa using hj
theorem append_op {c : Call} {x y : Value} {t t2 : TypeId} (e : o.op = .call c) (hc : c.callee = .builtin .append) (ha : X.map (ev tm) c.args.toList = [x, y]) (ht : c.argTypes.toList = [t, t2]) {M : Cx} {a : Act} (w : World) (hv : ∀ x ∈ o.op.operands.toList, VR M (ev tm x) (a.eval x)) :
    ∃ x' y', VR M x x' ∧ VR M y y' ∧ ∀ r w', (Builtin.append_ #[t, t2] o.type #[x', y']).run P w = .ok r w' → (execOp a.eval o).run P w = .ok (.value r) w' := by
  obtain ⟨cs, hr⟩ := builtin_run (P := P) e hc a w
  obtain ⟨x', y', hx, h1, h2⟩ := two ha (call_args e hc hv)
  refine ⟨x', y', h1, h2, fun r w' h => ?_⟩
  have hts : c.argTypes = #[t, t2] := by apply Array.ext'; simpa using ht
  rw [hr, hx, hts]
  simp [builtin, h]
theorem s_grow {c : Call} {t t2 el : TypeId} {ad : Option Addr} {n cc m k : Nat} {y : Value} {l : List Value} {i : TypeInfo} {d : TypeDesc} (e : o.op = .call c) (hc : c.callee = .builtin .append) (ha : X.map (ev tm) c.args.toList = [.slice ad n cc, y]) (ht : c.argTypes.toList = [t, t2])
    (hu : P.underlying t = some (.slice el)) (hd : P.underlying t2 = some d) (hi : P.info? el = some i) (hk : szT P el = some k) (hz : ∃ q, zc P el = some q) (hs : srcOf B s (some d) k y = some (l, m)) (hg : cc < n + m) (hbig : n + m ≤ 9223372036854775807) (hby : (n + m) * i.bytes ≤ 140737488355328)
    (h : x_grow B lo el ad n m k l s = .val v s') : OpV P B lo o tm s v s' := by
  obtain ⟨⟨zl, zk⟩, hz⟩ := hz
  obtain ⟨i', z, hi', hzz, _, hk', rfl, hzl⟩ := zc_spec hz
  rw [hi] at hi'; simp at hi'; subst hi'
  rw [hk] at hk'; simp at hk'; subst hk'
  have hsz := info_szT hi hk
  have hzk : z.cells.size = k := by simpa using hzl
  unfold x_grow at h
  split at h
  · rename_i old hold
    -- what all three ways have in common
    have base : ∀ (M : Cx) (a : Act) (w : World), (∀ x ∈ o.op.operands.toList, VR M (ev tm x) (a.eval x)) → WR P M (look B s) w → ∃ ad' c' y' old' l', VR M (.slice ad n cc) (.slice ad' n c') ∧ VRL M old old' ∧ (∀ v ∈ old, one v = true) ∧ old.length = n * k ∧ VRL M l l' ∧ (∀ v ∈ l, one v = true) ∧ l.length = m * k ∧ Src P k t2 y' m l' w ∧
        (∀ w1 : World, w1.heap = w.heap → (Builtin.firstCells k n (.slice ad' n c')).run P w1 = .ok old'.toArray w1) ∧ (∀ r w', (Builtin.append_ #[t, t2] o.type #[.slice ad' n c', y']).run P w = .ok r w' → (execOp a.eval o).run P w = .ok (.value r) w') := by
      intro M a w hv hw
      obtain ⟨x', y', h1, h2, h3⟩ := append_op (P := P) e hc ha ht w hv
      obtain ⟨ad', c', rfl, _⟩ := VR_slice h1
      obtain ⟨old', g1, g2, g3, _, _, g6⟩ := first_run hw hold h1 (Nat.le_refl n)
      obtain ⟨l', k1, k2, k3, k4⟩ := src_spec hw hd hs h2
      exact ⟨ad', c', y', old', l', h1, g1, g2, g3, k1, k2, k3, k4, g6, h3⟩
    have newR : ∀ (M : Cx) (a : Act) (w : World) (ad' : Option Addr) (c' : Nat) (y' : Value) (old' l' : List Value), WR P M (look B s) w → VRL M old old' → VRL M l l' → (∀ v ∈ old, one v = true) → (∀ v ∈ l, one v = true) → old.length = n * k → l.length = m * k → Src P k t2 y' m l' w →
        (∀ w1 : World, w1.heap = w.heap → (Builtin.firstCells k n (.slice ad' n c')).run P w1 = .ok old'.toArray w1) → c' < n + m → ∃ w' C cs, (Builtin.append_ #[t, t2] o.type #[.slice ad' n c', y']).run P w = .ok (.slice (some ⟨w.heap.size, 0, none⟩) (n + m) C) w' ∧ Chg1 w w' w.heap.size (.cells cs el (0, 0)) ∧ n + m ≤ C ∧ cs.size = C * k ∧ (∀ (j : Nat) v, (old' ++ l')[j]? = some v → cs[j]? = some v) := by
      intro M a w ad' c' y' old' l' hw h1 h2 h3 h4 h5 h6 h7 h8 h9
      exact grow_run hu hi hzz hzk hsz h7 (by rw [h1.length, h5]) h8 (by rw [h2.length, h6]) h9 hbig hby
    have hone : ∀ u ∈ app old l, (∀ v ∈ old, one v = true) → (∀ v ∈ l, one v = true) → one u = true := by
      intro u hu' h1 h2
      rw [app_eq, List.mem_append] at hu'
      rcases hu' with h | h
      · exact h1 u h
      · exact h2 u h
    have hlen : (app old l).length = old.length + l.length := by rw [app_eq, List.length_append]
    have hnk : ∀ a b : Nat, a = n * k → b = m * k → a + b = (n + m) * k := by
      intro a b h1 h2
      subst h1; subst h2
      exact (Nat.add_mul n m k).symm
    -- a new row, at whatever memory
    have fin : ∀ (s1 : XS) (M : Cx) (w w' : World) (h0 : Hp) (C : Nat) (cs : Array Value) (old' l' : List Value), s1.nx = s.nx → s1.nx < tops → WR P M h0 w → M s1.nx = none → VRL M old old' → VRL M l l' → (∀ v ∈ old, one v = true) → (∀ v ∈ l, one v = true) → old.length = n * k → l.length = m * k → Chg1 w w' w.heap.size (.cells cs el (0, 0)) → n + m ≤ C → cs.size = C * k → (∀ (j : Nat) v, (old' ++ l')[j]? = some v → cs[j]? = some v) →
        Post P M (setM M s1.nx ⟨w.heap.size, 0, some (cs.size, k)⟩) h0 (setH h0 s1.nx (if bn B s1.nx = true then none else some (.cells (app old l) ((n + m) * k) el true))) s1.nx (s1.nx + 1) w w' ∧ VR (setM M s1.nx ⟨w.heap.size, 0, some (cs.size, k)⟩) (.slice (some ⟨s1.nx, 0, none⟩) (n + m) (n + m)) (.slice (some ⟨w.heap.size, 0, none⟩) (n + m) C) := by
      intro s1 M w w' h0 C cs old' l' _ ht hw hn h1 h2 h3 h4 h5 h6 h7 h8 h9 h10
      constructor
      · have hcl : (app old l).length = (n + m) * k := by rw [hlen]; exact hnk _ _ h5 h6
        rw [← hcl]
        refine new_grown (T := el) hw hn (by rw [app_eq]; exact h1.append h2) (fun u hu => hone u hu h3 h4) hk h7 h10 (fun i hi => by simp [frz]) ?_
        rw [hcl, h9]
        exact Nat.mul_le_mul_right k h8
      · exact .sl (L := ⟨w.heap.size, 0, some (cs.size, k)⟩) (by simp [setM]) (.inr ⟨_, _, rfl, h8, .inl rfl, by simp [h9]⟩)
    split at h
    · rcases new_eq h with ⟨ht', h⟩ | h
      · simp at h
        obtain ⟨rfl, rfl⟩ := h
        refine ⟨SF.more _ ht', fun M a w hv hw hf => ?_⟩
        have hn : M s.nx = none := hf s.nx (Nat.le_refl _) (Nat.lt_succ_self _)
        obtain ⟨ad', c', y', old', l', b1, b2, b3, b4, b5, b6, b7, b8, b9, b10⟩ := base M a w hv hw
        cases b1
        obtain ⟨w', C, cs, g1, g2, g3, g4, g5⟩ := newR M a w _ _ y' old' l' hw b2 b5 b3 b6 b4 b7 b8 b9 hg
        obtain ⟨q1, q2⟩ := fin s M w w' _ C cs old' l' rfl ht' hw hn b2 b5 b3 b6 b4 b7 g2 g3 g4 g5
        refine ⟨_, _, w', _, b10 _ _ g1, .inl rfl, ?_, q2⟩
        rw [look_more _ ht']; exact q1
      · simp at h
    · rename_i b _ _
      split at h
      · rename_i cs0 j0 T0 hlk
        split at h
        · rename_i hT
          have hT : T0 = el := Nat.eq_of_beq_eq_true hT
          subst hT
          have hnx : (wrt lo s b none).nx = s.nx := rfl
          rcases new_eq h with ⟨ht', h⟩ | h
          · simp at h
            obtain ⟨rfl, rfl⟩ := h
            refine ⟨(SF.wrt none hlk).trans (SF.more _ ht'), fun M a w hv hw hf => ?_⟩
            have hn : M s.nx = none := hf s.nx (Nat.le_refl _) (Nat.lt_succ_self _)
            obtain ⟨ad', c', y', old', l', b1, b2, b3, b4, b5, b6, b7, b8, b9, b10⟩ := base M a w hv hw
            have hview : look B (more (wrt lo s b none) (.cells (app old l) ((n + m) * k) T0 true)) = setH (setH (look B s) b none) s.nx (if bn B s.nx = true then none else some (.cells (app old l) ((n + m) * k) T0 true)) := by
              rw [look_more _ ht', look_wrt none hlk, hnx]
            obtain ⟨L, hL, hob⟩ := hw.live b _ hlk
            by_cases hfit : n + m ≤ c'
            · -- there is room in truth
              rcases cellsAt_spec hw hold b1 with ⟨h0, _⟩ | ⟨b', off, off', L', cs1, j1, T1, g', e1, e2, e3, e4, e5, _, e7, e8, e9, e10, old2, e11, e12⟩
              · simp at h0
              · simp only [Option.some.injEq, Addr.mk.injEq] at e1
                obtain ⟨rfl, _, _⟩ := e1
                subst e4
                rw [hL] at e3; simp at e3; subst e3
                obtain ⟨_, _, cs2, T', fr, o1, o2, _, _, o3⟩ := hob
                obtain ⟨k2, o4, o5, o6⟩ := o3 rfl
                rw [hk] at o4; simp at o4; subst o4
                have hS : cc ≤ c' ∧ (off' = off ∨ (n = 0 ∧ cc = 0)) ∧ L.s + off' + c' * k ≤ cs2.size := by
                  rcases e5 with ⟨_, h1⟩ | ⟨N, k', h1, h2, h3, h4⟩
                  · omega
                  · rw [o5] at h1; simp at h1
                    obtain ⟨rfl, rfl⟩ := h1
                    exact ⟨h2, h3, h4⟩
                obtain ⟨hS1, hS2, hS3⟩ := hS
                have hl5 := b5.length
                have hl11 := e11.length
                have hmul : n * k + m * k ≤ c' * k := by rw [← Nat.add_mul]; exact Nat.mul_le_mul_right k hfit
                have hone' : ∀ v ∈ l', one v = true := by
                  intro v hv
                  obtain ⟨j, hj, rfl⟩ := List.getElem_of_mem hv
                  have hj2 : j < l.length := by omega
                  have := b5.get' j l[j] l'[j] (by simp) (by simp)
                  exact this.one_eq (b6 _ (by simp))
                obtain ⟨w', cs', g1, g2, g3, _, g4⟩ := stores_run (P := P) l' (L.s + off' + n * k) 0 cs2 w o1 (by omega) (fun j hj => o6 _ (by omega) (by omega)) hone'
                have hr := room_run (P := P) (ty := o.type) hu hi hsz b8 hfit g1
                refine ⟨_, _, w', setM M s.nx ⟨L.b, L.s + off', some (cs'.size, k)⟩, b10 _ _ hr, .inl rfl, ?_, ?_⟩
                · rw [hview]
                  refine Post.turn (obj := .cells cs' T' fr) hw hlk hL hn (.inr rfl) g2 fun q hq => ?_
                  split at hq <;> simp at hq
                  subst hq
                  refine ⟨by rw [hlen]; exact (hnk _ _ b4 b7).symm, fun u hu => hone u hu b3 b6, cs', ⟨T'.1, T'.2.1, fun e => by simp at e⟩, fr, g2.at_, fun i v e => ?_, fun i hi => ?_, fun e => by simp at e, fun _ => ⟨k, hk, rfl, fun i h1 h2 => o6 i (by have : L.s + off' ≤ i := h1; omega) (by have : i < cs'.size := h2; omega)⟩⟩
                  · rw [app_eq, List.getElem?_append] at e
                    split at e
                    · rename_i hi
                      obtain ⟨v', q1, q2⟩ := e11.get i v e
                      have hc := e12 i v' q1
                      have ho : off' = off := by
                        rcases hS2 with h | ⟨h, _⟩
                        · exact h
                        · subst h; simp at b4; subst b4; simp at hi
                      subst ho
                      refine ⟨v', ?_, q2.mono (setM_ext hn)⟩
                      show cs'[L.s + off' + i]? = some v'
                      rw [g4, if_neg (by omega)]
                      simp only [World.cell?, o1] at hc
                      simpa using hc
                    · rename_i hi
                      obtain ⟨v', q1, q2⟩ := b5.get _ v e
                      refine ⟨v', ?_, q2.mono (setM_ext hn)⟩
                      have := (List.getElem?_eq_some_iff.1 e).1
                      show cs'[L.s + off' + i]? = some v'
                      rw [g4, if_pos (by omega), show L.s + off' + i - (L.s + off' + n * k + 0) = i - old.length from by omega]
                      exact q1
                  · rw [hlen] at hi
                    show ¬ frz fr (L.s + off' + i)
                    exact o6 _ (by omega) (by omega)
                · exact .sl (L := ⟨L.b, L.s + off', some (cs'.size, k)⟩) (off' := 0) (by show (if s.nx = s.nx then _ else _) = _; rw [if_pos rfl]) (.inr ⟨_, _, rfl, hfit, .inl rfl, by simp only [Nat.add_zero]; omega⟩)
            · obtain ⟨w', C, cs, g1, g2, g3, g4, g5⟩ := newR M a w _ _ y' old' l' hw b2 b5 b3 b6 b4 b7 b8 b9 (by omega)
              obtain ⟨q1, q2⟩ := fin s M w w' _ C cs old' l' rfl ht' hw hn b2 b5 b3 b6 b4 b7 g2 g3 g4 g5
              refine ⟨_, _, w', _, b10 _ _ g1, .inl rfl, ?_, q2⟩
              rw [hview]
              refine Post.turn (obj := .cells cs T0 (0, 0)) hw hlk hL hn (.inl rfl) g2 fun q hq => ?_
              obtain ⟨K, r1, r2⟩ := q1.wr.live s.nx q (by show (if s.nx = s.nx then _ else _) = some q; rw [if_pos rfl]; exact hq)
              simp [setM] at r1; subst r1
              exact r2
          · simp at h
        · simp at h
      · rename_i cs0 j0 T0 hlk
        rcases new_eq h with ⟨ht', h⟩ | h
        · simp at h
          obtain ⟨rfl, rfl⟩ := h
          refine ⟨SF.more _ ht', fun M a w hv hw hf => ?_⟩
          have hn : M s.nx = none := hf s.nx (Nat.le_refl _) (Nat.lt_succ_self _)
          obtain ⟨ad', c', y', old', l', b1, b2, b3, b4, b5, b6, b7, b8, b9, b10⟩ := base M a w hv hw
          have hcc : c' = cc := by
            obtain ⟨K, k1, _, _, _, _, _, _, _, _, k2, _⟩ := hw.live _ _ hlk
            cases b1 with
            | sl hL hS =>
              rw [hL] at k1; simp at k1; subst k1
              rcases hS with ⟨_, h⟩ | ⟨_, _, h, _⟩
              · exact h
              · rw [k2 rfl] at h; simp at h
          obtain ⟨w', C, cs, g1, g2, g3, g4, g5⟩ := newR M a w _ _ y' old' l' hw b2 b5 b3 b6 b4 b7 b8 b9 (by omega)
          obtain ⟨q1, q2⟩ := fin s M w w' _ C cs old' l' rfl ht' hw hn b2 b5 b3 b6 b4 b7 g2 g3 g4 g5
          refine ⟨_, _, w', _, b10 _ _ g1, .inl rfl, ?_, q2⟩
          rw [look_more _ ht']; exact q1
        · simp at h
      · simp at h
  · simp at h
/-- Behind a sealed row without more room. -/
theorem s_sapp {c : Call} {t t2 el : TypeId} {cc : List Value} {off n m k : Nat} {y : Value} {l : List Value} {i : TypeInfo} {d : TypeDesc} (e : o.op = .call c) (hc : c.callee = .builtin .append) (ha : X.map (ev tm) c.args.toList = [slv 1 cc off n, y]) (ht : c.argTypes.toList = [t, t2])
    (hu : P.underlying t = some (.slice el)) (hd : P.underlying t2 = some d) (hi : P.info? el = some i) (hk : szT P el = some k) (hs : srcOf B s (some d) k y = some (l, m))
    (h : x_sapp P B el k i (slv 1 cc off n) cc off n l m s = .val v s') : OpV P B lo o tm s v s' := by
  have hsz := info_szT hi hk
  unfold x_sapp at h
  split at h
  · -- nothing more
    simp at h
    obtain ⟨rfl, rfl⟩ := h
    refine .same fun M a w hv hw => ?_
    obtain ⟨x', y', h1, h2, h3⟩ := append_op (P := P) e hc ha ht w hv
    obtain ⟨l', k1, k2, k3, k4⟩ := src_spec hw hd hs h2
    have hl0 : l' = [] := by
      have := k1.length; simp at k3; rw [k3] at this; exact List.length_eq_zero_iff.1 (by simpa using this)
    subst hl0
    rcases rsl_inv (by omega) h1 with ⟨c', b, t', cap, g1, g2, g3, g4, g5, rfl⟩ | ⟨cap, a', h0, g5, rfl⟩
    · refine ⟨_, h3 _ w ?_, h1⟩
      rcases k4.kind with ⟨e', hk'⟩ | hk' <;> simp [Builtin.append_, run_underlying hu, run_underlying hk', sizeOf, typeInfo, hi, k4.len, k4.cells, Addr_add_lit, g4, hsz, storeCells]
    · refine ⟨_, h3 _ w ?_, h1⟩
      cases a' with
      | none => rcases k4.kind with ⟨e', hk'⟩ | hk' <;> simp [Builtin.append_, run_underlying hu, run_underlying hk', sizeOf, typeInfo, hi, k4.len, k4.cells, hsz]
      | some p => rcases k4.kind with ⟨e', hk'⟩ | hk' <;> simp [Builtin.append_, run_underlying hu, run_underlying hk', sizeOf, typeInfo, hi, k4.len, k4.cells, hsz, storeCells]
  · rename_i m
    split at h
    · rename_i q old h1 h2 hz hold
      have hbig := Nat.le_of_ble_eq_true h1
      have hby := Nat.le_of_ble_eq_true h2
      obtain ⟨zl, zk⟩ := q
      obtain ⟨i', z, hi', hzz, _, hk', rfl, hzl⟩ := zc_spec hz
      rw [hi] at hi'; simp at hi'; subst hi'
      rw [hk] at hk'; simp at hk'; subst hk'
      have hzk : z.cells.size = k := by simpa using hzl
      rcases new_eq h with ⟨ht', h⟩ | h
      · simp at h
        obtain ⟨rfl, rfl⟩ := h
        refine ⟨SF.more _ ht', fun M a w hv hw hf => ?_⟩
        have hn : M s.nx = none := hf s.nx (Nat.le_refl _) (Nat.lt_succ_self _)
        obtain ⟨x', y', h1, h2, h3⟩ := append_op (P := P) e hc ha ht w hv
        obtain ⟨l', k1, k2, k3, k4⟩ := src_spec hw hd hs h2
        obtain ⟨ad', c', hx', old', g1, g2, g3, g4, g5, g6⟩ := firstV_run hw hold (lenS_slv cc off n (by omega)) h1 (Nat.le_refl _)
        have hcap : c' < n + (m + 1) := by
          rcases rsl_inv (by omega) h1 with ⟨_, _, _, cap, _, _, _, _, q5, q6⟩ | ⟨cap, _, h0, q5, q6⟩
          · rw [hx'] at q6; simp at q6; have := q5 rfl; omega
          · rw [hx'] at q6; simp at q6; have := q5 rfl; omega
        subst hx'
        have hlen : (app old l).length = (n + (m + 1)) * k := by
          rw [app_eq, List.length_append, g3, k3, ← Nat.add_mul]
        obtain ⟨w', C, cs, r1, r2, r3, r4, r5⟩ := grow_run (P := P) (ty := o.type) hu hi hzz hzk hsz k4 g4 g6 (by rw [k1.length, k3]) hcap hbig hby
        refine ⟨_, _, w', setM M s.nx ⟨w.heap.size, 0, some (cs.size, k)⟩, h3 _ _ r1, .inl rfl, ?_, ?_⟩
        · rw [look_more _ ht']
          show Post P M _ _ (setH _ _ (if _ then none else some (.cells (app old l) ((n + (m + 1)) * k) el true))) _ _ _ _
          rw [← hlen]
          refine new_grown (T := el) hw hn (by rw [app_eq]; exact g1.append k1) (fun u hu => ?_) hk r2 r5 (fun i hi => by simp [frz]) ?_
          · rw [app_eq, List.mem_append] at hu
            rcases hu with h | h
            · exact g2 u h
            · exact k2 u h
          · rw [hlen, r4]; exact Nat.mul_le_mul_right k r3
        · exact .sl (L := ⟨w.heap.size, 0, some (cs.size, k)⟩) (by simp [setM]) (.inr ⟨_, _, rfl, r3, .inl rfl, by simp [r4]⟩)
      · simp at h
    · simp at h
end
end Go.X
end
