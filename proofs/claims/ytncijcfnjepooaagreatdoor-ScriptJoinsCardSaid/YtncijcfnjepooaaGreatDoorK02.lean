/-
  A part of the proof of ScriptJoins: no statement of the seat is proved here.
-/
import Derived.Test.YtncijcfnjepooaaGreatDoorK01
set_option linter.unusedVariables false
set_option linter.unusedSimpArgs false
set_option linter.unnecessarySimpa false
set_option linter.unusedSectionVars false
set_option linter.constructorNameAsVariable false
set_option linter.deprecated false
section
set_option linter.unusedVariables false
namespace Go.X
open Go Go.RowKit
/-- An operation that gives a value. -/
def OpV (P : Program) (B : Ban) (lo : Nat) (o : Oper) (tm : T4 Value) (s : XS) (v : Value) (s' : XS) : Prop :=
  SF B lo s s' ∧ ∀ (M : Cx) (a : Act) (w : World), (∀ x ∈ o.op.operands.toList, VR M (ev tm x) (a.eval x)) → WR P M (look B s) w → Fresh M s.nx s'.nx →
    ∃ r v' w' M', (execOp a.eval o).run P w = .ok r w' ∧ (r = .value v' ∨ (r = .skip ∧ v' = undef)) ∧ Post P M M' (look B s) (look B s') s.nx s'.nx w w' ∧ VR M' v v'
/-- One that calls. -/
def OpC (P : Program) (o : Oper) (tm : T4 Value) (f : FuncId) (args : List Value) : Prop :=
  ∀ (M : Cx) (a : Act) (w : World), (∀ x ∈ o.op.operands.toList, VR M (ev tm x) (a.eval x)) → ∃ args', (execOp a.eval o).run P w = .ok (.enter f args') w ∧ VRL M args args'.toList
section
variable {P : Program} {B : Ban} {lo : Nat} {o : Oper} {tm : T4 Value} {s s' : XS} {v : Value}
theorem OpV.same (h : ∀ (M : Cx) (a : Act) (w : World), (∀ x ∈ o.op.operands.toList, VR M (ev tm x) (a.eval x)) → WR P M (look B s) w → ∃ v', (execOp a.eval o).run P w = .ok (.value v') w ∧ VR M v v') : OpV P B lo o tm s v s :=
  ⟨SF.refl B lo s, fun M a w hv hw _ => let ⟨v', h1, h2⟩ := h M a w hv hw; ⟨_, v', w, M, h1, .inl rfl, Post.refl _ _ hw, h2⟩⟩
theorem s_move {x : Operand} (e : o.op = .move x ∨ o.op = .assign x) : OpV P B lo o tm s (ev tm x) s :=
  .same fun M a w hv _ => ⟨a.eval x, by rcases e with e | e <;> simp [execOp, e], hv x (by rcases e with e | e <;> simp [e, Op.operands])⟩
theorem s_pick {c x y : Operand} (e : o.op = .pick c x y) (h : x_pick (ev tm c) (ev tm x) (ev tm y) s = .val v s') : OpV P B lo o tm s v s' := by
  unfold x_pick at h
  split at h <;> simp at h
  all_goals
    rename_i hc
    obtain ⟨rfl, rfl⟩ := h
    refine .same fun M a w hv _ => ?_
    have h1 := hv c (by simp [e, Op.operands])
    rw [hc] at h1
    cases h1' : a.eval c <;> rw [h1'] at h1 <;> cases h1
  · refine ⟨a.eval x, ?_, hv x (by simp [e, Op.operands])⟩
    generalize a.eval = ρ at *
    simp [execOp, e, h1', asBool]
  · refine ⟨a.eval y, ?_, hv y (by simp [e, Op.operands])⟩
    generalize a.eval = ρ at *
    simp [execOp, e, h1', asBool]
theorem alloc_run {w : World} (T : TypeId) (i : TypeInfo) (z : Value) (hi : P.info? T = some i) (hz : i.zero = some z) :
    (Instr.alloc T true (.tuple #[])).run P w = .ok (.pointer (some ⟨w.heap.size, 0, none⟩)) (w.alloc (.cells z.cells T)) := by
  simp [Instr.alloc, zeroValue, typeInfo, hi, hz, newVar, newRow]
theorem box_run {w : World} (T : TypeId) (v : Value) : (Instr.box T v).run P w = .ok (.pointer (some ⟨w.heap.size, 0, none⟩)) (w.alloc (.cells v.cells T)) := by
  simp [Instr.box, newVar, newRow]
theorem zeroT_spec {T : TypeId} {z : Value} (h : zeroT P T = some z) : ∃ i, P.info? T = some i ∧ i.zero = some z ∧ nad2 z = true := by
  unfold zeroT at h
  split at h
  · rename_i i hi
    split at h
    · rename_i z' hz
      split at h <;> simp at h
      subst h
      exact ⟨i, hi, hz, by assumption⟩
    · simp at h
  · simp at h
theorem VR.cells_one {M : Cx} {v v' : Value} (h : VR M v v') (hv : one v = true ∨ ∃ c, v = .agg c) : ∀ x ∈ v.cells.toList, one x = true := by
  cases h with
  | agg c h => exact h
  | tup c => rcases hv with hv | ⟨c, hv⟩ <;> simp [one] at hv
  | junk => rcases hv with hv | ⟨c, hv⟩ <;> simp [one] at hv
  | _ => intro x hx; simp [Value.cells, slv] at hx; subst hx; rfl
theorem nad2_ntup {v : Value} (h : nad2 v = true) : ntup v = true := by
  cases v with
  | func fn a b => cases fn <;> first | rfl | simp [nad2, nad1] at h
  | _ => first | rfl | simp [nad2, nad1] at h
/-- A new row of cells. -/
theorem new_cells {M : Cx} {h : Hp} {w : World} {n : Nat} {bnd : Bool} {c c' : List Value} {T : TypeId} (hw : WR P M h w) (hn : M n = none) (hc : VRL M c c') (h1 : ∀ v ∈ c, one v = true) :
    Post P M (setM M n ⟨w.heap.size, 0, none⟩) h (setH h n (if bnd = true then none else some (.cells c c.length T false))) n (n + 1) w (w.alloc (.cells c'.toArray T)) := by
  refine Post.new_ (obj := .cells c'.toArray T) hw hn rfl (chg_new w _) fun q hq => ?_
  split at hq <;> simp at hq
  subst hq
  refine ⟨rfl, h1, c'.toArray, ⟨T, rfl, fun _ => rfl⟩, (0, 0), (chg_new w _).at_, fun i v e => ?_, fun i _ => ?_, fun _ => rfl, fun e => by simp at e⟩
  · obtain ⟨v', g1, g2⟩ := hc.get i v e
    exact ⟨v', by simpa using g1, g2.mono (setM_ext hn)⟩
  · simp [frz]
theorem s_alloc {T : TypeId} (e : o.op = .alloc T) (h : x_alloc P T s = .val v s') : OpV P B lo o tm s v s' := by
  unfold x_alloc at h
  split at h
  · rename_i z hz
    obtain ⟨i, hi, hz, hna⟩ := zeroT_spec hz
    rcases new_eq h with ⟨ht, h⟩ | h
    · simp at h
      obtain ⟨rfl, rfl⟩ := h
      refine ⟨SF.more _ ht, fun M a w hv hw hf => ?_⟩
      have hn : M s.nx = none := hf s.nx (Nat.le_refl _) (Nat.lt_succ_self _)
      have hr := (nad2_VR (M := M) hna)
      refine ⟨_, .pointer (some ⟨w.heap.size, 0, none⟩), w.alloc (.cells z.cells T), setM M s.nx ⟨w.heap.size, 0, none⟩, ?_, .inl rfl, ?_, ?_⟩
      · generalize a.eval = ρ at *
        simp [execOp, e, alloc_run T i z hi hz]
      · rw [look_more _ ht, len_eq]
        exact new_cells (bnd := bn B s.nx) hw hn (hr.cells (nad2_ntup hna)) (hr.cells_one (by
          unfold nad2 at hna; split at hna
          · exact .inr ⟨_, rfl⟩
          · exact .inl (nad1_VR (M := M) hna).2))
      · have := VR.ptr (M := setM M s.nx ⟨w.heap.size, 0, none⟩) (n := s.nx) (L := ⟨w.heap.size, 0, none⟩) 0 (by simp [setM])
        simpa [ptr] using this
    · simp at h
  · simp at h
theorem ntup_one {v : Value} (h : ntup v = true) : one v = true ∨ ∃ c, v = .agg c := by
  cases v with
  | func fn a b => cases fn <;> first | exact .inl rfl | exact .inl h
  | _ => first | exact .inl rfl | exact .inr ⟨_, rfl⟩ | simp [ntup] at h
theorem s_box {T : TypeId} {x : Operand} (e : o.op = .box T x) (h : x_box T (ev tm x) s = .val v s') : OpV P B lo o tm s v s' := by
  unfold x_box at h
  split at h
  · rename_i hnt
    rcases new_eq h with ⟨ht, h⟩ | h
    · simp at h
      obtain ⟨rfl, rfl⟩ := h
      refine ⟨SF.more _ ht, fun M a w hv hw hf => ?_⟩
      have hn : M s.nx = none := hf s.nx (Nat.le_refl _) (Nat.lt_succ_self _)
      have hr := hv x (by simp [e, Op.operands])
      refine ⟨_, .pointer (some ⟨w.heap.size, 0, none⟩), w.alloc (.cells (a.eval x).cells T), setM M s.nx ⟨w.heap.size, 0, none⟩, ?_, .inl rfl, ?_, ?_⟩
      · generalize a.eval = ρ at *
        simp [execOp, e, box_run T]
      · rw [look_more _ ht, len_eq]
        exact new_cells (bnd := bn B s.nx) hw hn (hr.cells hnt) (hr.cells_one (ntup_one hnt))
      · have := VR.ptr (M := setM M s.nx ⟨w.heap.size, 0, none⟩) (n := s.nx) (L := ⟨w.heap.size, 0, none⟩) 0 (by simp [setM])
        simpa [ptr] using this
    · simp at h
  · simp at h
/-! Rows of cells -/
theorem isAg_run {w : World} {T : TypeId} {b : Bool} (h : isAg P T = some b) : (Go.isAgg T).run P w = .ok b w := by
  unfold isAg at h
  cases hu : P.underlying T with
  | none => simp [hu] at h
  | some d => rw [hu] at h; simp only [Go.isAgg, Sem.run_bind, run_underlying hu, Result.andThen_ok]; cases d <;> simp at h <;> subst h <;> rfl
theorem szT_run {w : World} {T : TypeId} {n : Nat} (h : szT P T = some n) : (sizeOf T).run P w = .ok n w := by
  unfold szT at h
  split at h <;> simp at h
  rename_i i hi
  simp [sizeOf, typeInfo, hi, h]
/-- A cell that is named. -/
theorem cell_of {M : Cx} {h : Hp} {w : World} {n : Nat} {c : List Value} {m T : Nat} {g : Bool} {L : Loc} (hw : WR P M h w) (hn : h n = some (.cells c m T g)) (hL : M n = some L) {i : Nat} {v : Value} (hv : c[i]? = some v) :
    ∃ v', w.cell? ⟨L.b, L.s + i, none⟩ = some v' ∧ VR M v v' := by
  obtain ⟨K, h1, _, _, cs, T', fr, h2, h3, _⟩ := hw.live n _ hn
  rw [hL] at h1; simp at h1; subst h1
  obtain ⟨v', h4, h5⟩ := h3 i v hv
  exact ⟨v', by simp [World.cell?, h2, h4], h5⟩
/-- A row of cells lies there. -/
structure RowIn (M : Cx) (w : World) (c : List Value) (b t : Nat) : Prop where
  one : ∀ v ∈ c, one v = true
  cell : ∀ (i : Nat) (v : Value), c[i]? = some v → ∃ v', w.cell? ⟨b, t + i, none⟩ = some v' ∧ VR M v v'
theorem own_row {M : Cx} {h : Hp} {w : World} {n : Nat} {c : List Value} {m T : Nat} {g : Bool} {L : Loc} (hw : WR P M h w) (hn : h n = some (.cells c m T g)) (hL : M n = some L) : m = c.length ∧ RowIn M w c L.b L.s := by
  obtain ⟨K, h1, hm, ho, _⟩ := hw.live n _ hn
  exact ⟨hm, ho, fun i v hv => cell_of hw hn hL hv⟩
theorem rsl_row {M : Cx} {h : Hp} {w : World} {c c' : List Value} {b t : Nat} (hw : WR P M h w) (hc : VRL M c c') (ho : ∀ v ∈ c, of1 v = true) (hs : Sld M b t c') : RowIn M w c b t := by
  refine ⟨fun v hv => of1_one (ho v hv), fun i v hv => ?_⟩
  obtain ⟨v', h1, h2⟩ := hc.get i v hv
  obtain ⟨cs, T, fr, h3, h4⟩ := hw.rows _ _ _ (hs i v' h1)
  exact ⟨v', by simp [World.cell?, h3, h4], h2⟩
theorem RowIn.part {M : Cx} {w : World} {c : List Value} {b t : Nat} (h : RowIn M w c b t) : ∀ (k off : Nat), off + k ≤ c.length →
    ∃ l', VRL M ((c.drop off).take k) l' ∧ ∀ (j : Nat) v, l'[j]? = some v → w.cell? ⟨b, t + off + j, none⟩ = some v
  | 0, off, _ => ⟨[], by simp; exact .nil, by simp⟩
  | k + 1, off, hk => by
    obtain ⟨l', h1, h2⟩ := h.part k (off + 1) (by omega)
    obtain ⟨v', h3, h4⟩ := h.cell off c[off] (by simp)
    refine ⟨v' :: l', ?_, fun j v e => ?_⟩
    · rw [List.drop_eq_getElem_cons (by omega), List.take_succ_cons]
      exact .cons h4 h1
    · cases j with
      | zero => simp at e; subst e; exact h3
      | succ j =>
        have := h2 j v (by simpa using e)
        rw [show t + off + (j + 1) = t + (off + 1) + j from by omega]; exact this
theorem cells_of {M : Cx} {h : Hp} {w : World} {n : Nat} {c : List Value} {m T : Nat} {g : Bool} {L : Loc} (hw : WR P M h w) (hn : h n = some (.cells c m T g)) (hL : M n = some L) : m = c.length ∧ ∀ off k, off + k ≤ m →
    ∃ l', VRL M ((c.drop off).take k) l' ∧ ∀ (j : Nat) v, l'[j]? = some v → w.cell? ⟨L.b, L.s + off + j, none⟩ = some v := by
  obtain ⟨hm, hr⟩ := own_row hw hn hL
  exact ⟨hm, fun off k hk => hr.part k off (by omega)⟩
theorem load_run {w : World} {g o : Nat} {v : Value} (h : w.cell? ⟨g, o, none⟩ = some v) : (load ⟨g, o, none⟩).run P w = .ok v w := by
  show Sem.run P (Sem.load .plain _ Sem.pure) w = _
  unfold Sem.run
  rw [h]
  rfl
/-- A part of memory that is loaded. -/
theorem RowIn.load {M : Cx} {w : World} {c : List Value} {b t : Nat} (h : RowIn M w c b t) {T : TypeId} {off : Nat} {v : Value}
    (hp : partV P T c c.length off = some v) : ∃ v', (loadVar T ⟨b, t + off, none⟩).run P w = .ok v' w ∧ VR M v v' := by
  unfold partV at hp
  split at hp
  · rename_i ha
    split at hp
    · rename_i k hk
      split at hp <;> simp at hp
      rename_i hle
      subst hp
      obtain ⟨l', h1, h2⟩ := h.part k off (Nat.le_of_ble_eq_true hle)
      have hl := run_loadCells_list (P := P) w ⟨b, t + off, none⟩ l' (fun j v hj => by rw [Addr.add_lit]; exact h2 j v hj)
      have hlen : l'.length = k := by
        have := h1.length
        have := Nat.le_of_ble_eq_true hle
        simp at *
        omega
      refine ⟨.agg l'.toArray, ?_, ?_⟩
      · rw [hlen] at hl
        simp [loadVar, isAg_run ha, szT_run hk, hl]
      · rw [tkl_eq, dr_eq]
        exact .agg h1 fun v hv => h.one v (List.mem_of_mem_drop (List.mem_of_mem_take hv))
    · simp at hp
  · rename_i ha
    rw [nth_eq] at hp
    obtain ⟨v', h1, h2⟩ := h.cell off v hp
    refine ⟨v', ?_, h2⟩
    simp only [loadVar, Sem.run_bind, isAg_run ha, Result.andThen_ok]
    exact load_run h1
  · simp at hp
theorem part_load {M : Cx} {h : Hp} {w : World} {n : Nat} {c : List Value} {m T0 : Nat} {g : Bool} {L : Loc} (hw : WR P M h w) (hn : h n = some (.cells c m T0 g)) (hL : M n = some L) {T : TypeId} {off : Nat} {v : Value}
    (hp : partV P T c m off = some v) : ∃ v', (loadVar T ⟨L.b, L.s + off, none⟩).run P w = .ok v' w ∧ VR M v v' := by
  obtain ⟨hm, hr⟩ := own_row hw hn hL
  exact hr.load (by rw [← hm]; exact hp)
theorem optV_eq {x : Option Value} {wh : String} (h : optV x s wh = .val v s') : x = some v ∧ s' = s := by
  cases x with
  | none => exact absurd (show (OR.bad wh) = _ from h) (by simp)
  | some y => have : OR.val y s = .val v s' := h; simp at this; exact ⟨by rw [this.1], this.2.symm⟩
theorem sv1_eq {e : Nat} {c l : List Value} {r : Nat × List Value × Nat × Nat} (h : sv1 e c l = some r) : ∃ off n, l = [.slice none off n] ∧ r = (e, c, off, n) := by
  unfold sv1 at h
  split at h <;> simp at h
  exact ⟨_, _, rfl, h.symm⟩
theorem sv_eq {x : Value} {e : Nat} {c : List Value} {off n : Nat} (h : sv x = some (e, c, off, n)) : x = slv e c off n := by
  unfold sv at h
  split at h
  · rename_i a b
    obtain ⟨off', n', h1, h2⟩ := sv1_eq h
    obtain ⟨a⟩ := a; obtain ⟨b⟩ := b
    simp at h1 h2
    obtain ⟨rfl, rfl, rfl, rfl⟩ := h2
    subst h1
    rfl
  · simp at h
theorem slv_inj {e e' : Nat} {c c' : List Value} {o o' n n' : Nat} (h : slv e c o n = slv e' c' o' n') : e = e' ∧ c = c' ∧ o = o' ∧ n = n' := by
  simp [slv] at h; exact ⟨h.1, h.2.1, h.2.2.1, h.2.2.2⟩
/-- What a sealed pointer is in truth. -/
theorem rpt_inv {M : Cx} {c : List Value} {off n : Nat} {v' : Value} (h : VR M (slv 2 c off n) v') : ∃ c' b t, VRL M c c' ∧ (∀ v ∈ c, of1 v = true) ∧ Sld M b t c' ∧ v' = .pointer (some ⟨b, t + off, none⟩) := by
  generalize e : slv 2 c off n = u at h
  cases h with
  | rsl a b d f => obtain ⟨rfl, _⟩ := slv_inj e; omega
  | rsl0 f => obtain ⟨rfl, _⟩ := slv_inj e; omega
  | rpt a b d => obtain ⟨_, rfl, rfl, rfl⟩ := slv_inj e; exact ⟨_, _, _, a, b, d, rfl⟩
  | _ => simp [slv] at e
/-- What a sealed slice is in truth. -/
theorem rsl_inv {M : Cx} {e : Nat} {c : List Value} {off n : Nat} {v' : Value} (he : e < 2) (h : VR M (slv e c off n) v') :
    (∃ c' b t cap, VRL M c c' ∧ (∀ v ∈ c, of1 v = true) ∧ Sld M b t c' ∧ n ≤ cap ∧ (e = 1 → cap = n) ∧ v' = .slice (some ⟨b, t + off, none⟩) n cap) ∨
    (∃ cap, ∃ a : Option (Nat × Nat), n = 0 ∧ (e = 1 → cap = 0) ∧ v' = .slice (a.map fun p => ⟨p.1, p.2, none⟩) 0 cap) := by
  generalize e' : slv e c off n = u at h
  cases h with
  | rsl a b d f g i => obtain ⟨rfl, rfl, rfl, rfl⟩ := slv_inj e'; exact .inl ⟨_, _, _, _, a, b, d, g, i, rfl⟩
  | rsl0 f g => obtain ⟨rfl, rfl, rfl, rfl⟩ := slv_inj e'; exact .inr ⟨_, _, rfl, g, rfl⟩
  | rpt a b d => obtain ⟨rfl, _⟩ := slv_inj e'; omega
  | _ => simp [slv] at e'
theorem s_load {T : TypeId} {x : Operand} (e : o.op = .load T x) (h : x_load P B T (ev tm x) s = .val v s') : OpV P B lo o tm s v s' := by
  unfold x_load at h
  split at h
  · rename_i n off hx
    split at h
    · rename_i c m T0 g hl
      obtain ⟨hp, rfl⟩ := optV_eq h
      refine .same fun M a w hv hw => ?_
      have hr := hv x (by simp [e, Op.operands])
      rw [hx] at hr
      obtain ⟨L, hL, _⟩ := hw.live n _ hl
      obtain ⟨v', h1, h2⟩ := part_load hw hl hL hp
      cases hr' : a.eval x <;> rw [hr'] at hr <;> cases hr
      rename_i K hK
      rw [hL] at hK; simp at hK; subst hK
      refine ⟨v', ?_, h2⟩
      generalize a.eval = ρ at *
      simp [execOp, e, hr', Instr.loadAt, Instr.sureAddr, h1]
    · simp at h
    · split at h
      · rename_i c hro
        obtain ⟨hp, rfl⟩ := optV_eq h
        refine .same fun M a w hv hw => ?_
        have hr := hv x (by simp [e, Op.operands])
        rw [hx] at hr
        obtain ⟨k1, _, k2, c', _, _, k3, k4, _⟩ := hw.amb.r n c hro
        rw [len_eq] at hp
        have hrow : RowIn M w c n 0 := ⟨k2, fun i v hv => by
          obtain ⟨v', h1, h2⟩ := k3.get i v hv
          obtain ⟨cs, T, fr, h3, h4⟩ := hw.rows _ _ _ (k4 i v' h1)
          exact ⟨v', by simp [World.cell?, h3, h4], h2.mono ⟨fun n L e => by simp at e, fun b i v e => by simp at e⟩⟩⟩
        obtain ⟨v', h1, h2⟩ := hrow.load hp
        cases hr' : a.eval x <;> rw [hr'] at hr <;> cases hr
        rename_i K hK
        rw [hw.glob n k1] at hK; simp at hK; subst hK
        refine ⟨v', ?_, h2⟩
        generalize a.eval = ρ at *
        simp only [Nat.zero_add] at h1
        simp [execOp, e, hr', Instr.loadAt, Instr.sureAddr, h1]
      · simp at h
  · split at h
    · rename_i c off n hx
      have hx := sv_eq hx
      obtain ⟨hp, rfl⟩ := optV_eq h
      refine .same fun M a w hv hw => ?_
      have hr := hv x (by simp [e, Op.operands])
      rw [hx] at hr
      obtain ⟨c', b, t, h1, h2, h3, hr'⟩ := rpt_inv hr
      rw [len_eq] at hp
      obtain ⟨v', h4, h5⟩ := (rsl_row hw h1 h2 h3).load hp
      refine ⟨v', ?_, h5⟩
      generalize a.eval = ρ at *
      simp [execOp, e, hr', Instr.loadAt, Instr.sureAddr, h4]
    · simp at h
/-! Stores -/
theorem notfrozen {cs : Array Value} {T : TypeId} {fr : Nat × Nat} {w : World} {b i : Nat} (hb : w.heap[b]? = some (.cells cs T fr)) (hf : ¬ frz fr i) : w.frozen? ⟨b, i, none⟩ = false := by
  simp only [World.frozen?, hb]
  obtain ⟨lo, hi⟩ := fr
  simp only [frz] at hf
  simp only [Bool.and_eq_false_imp, decide_eq_true_eq, decide_eq_false_iff_not]
  omega
theorem store_run {cs : Array Value} {T : TypeId} {fr : Nat × Nat} {w : World} {b i : Nat} {v : Value} (hb : w.heap[b]? = some (.cells cs T fr)) (hi : i < cs.size) (hf : ¬ frz fr i) (ho : one v = true) :
    ∃ w', (store ⟨b, i, none⟩ v).run P w = .ok () w' ∧ Chg1 w w' b (.cells (cs.set i v hi) T fr) ∧ w'.heap.size = w.heap.size := by
  refine ⟨w.setCell ⟨b, i, none⟩ v, ?_, ⟨?_, fun k hk => ?_, ⟨rfl, rfl, rfl, by simp [World.setCell], fun b' cs' T' fr' e => ?_⟩⟩, by simp [World.setCell]⟩
  · show Sem.run P (Sem.store .plain _ v (.pure ())) w = _
    have hc : w.cell? ⟨b, i, none⟩ = some cs[i] := by simp [World.cell?, hb, hi]
    cases v <;> first | (simp [one] at ho; done) | (simp only [Sem.run, hc, notfrozen hb hf]; rfl)
  · simp [World.setCell, Array.getElem?_modify, hb, Array.setIfInBounds, hi]
  · simp only [World.setCell, Array.getElem?_modify]
    rw [if_neg (Ne.symm hk)]
  · simp only [World.setCell, Array.getElem?_modify]
    by_cases hbb : b = b'
    · subst hbb
      rw [if_pos rfl, hb]
      rw [hb] at e
      simp at e
      obtain ⟨rfl, rfl, rfl⟩ := e
      exact ⟨_, ⟨_, rfl⟩, by simp⟩
    · rw [if_neg hbb]; exact ⟨cs', ⟨_, e⟩, rfl⟩
theorem ovl_get {α : Type} {l x : List α} {n i : Nat} (h : n + x.length ≤ l.length) : (ovl l n x)[i]? = if i < n then l[i]? else if i < n + x.length then x[i - n]? else l[i]? := by
  rw [ovl_eq l n x h, List.append_assoc, List.getElem?_append]
  by_cases h1 : i < n
  · rw [if_pos (by simp; omega), if_pos h1, List.getElem?_take, if_pos h1]
  · have hn : (l.take n).length = n := by simp; omega
    rw [if_neg (by omega), if_neg h1, hn, List.getElem?_append]
    by_cases h2 : i < n + x.length
    · rw [if_pos (by omega), if_pos h2]
    · rw [if_neg (by omega), if_neg h2, List.getElem?_drop]
      congr 1; omega
theorem stores_run {T : TypeId} {fr : Nat × Nat} {b : Nat} : ∀ (vs : List Value) (i k : Nat) (cs : Array Value) (w : World), w.heap[b]? = some (.cells cs T fr) → i + k + vs.length ≤ cs.size → (∀ j, j < vs.length → ¬ frz fr (i + k + j)) → (∀ v ∈ vs, one v = true) →
    ∃ w' cs', (storeCells ⟨b, i, none⟩ vs k).run P w = .ok () w' ∧ Chg1 w w' b (.cells cs' T fr) ∧ cs'.size = cs.size ∧ w'.heap.size = w.heap.size ∧ ∀ j, cs'[j]? = if i + k ≤ j ∧ j < i + k + vs.length then vs[j - (i + k)]? else cs[j]?
  | [], i, k, cs, w, hb, hl, hf, ho => ⟨w, cs, rfl, ⟨hb, fun _ _ => rfl, Kept.refl w⟩, rfl, rfl, fun j => by rw [if_neg (by simp)]⟩
  | v :: vs, i, k, cs, w, hb, hl, hf, ho => by
    simp only [List.length_cons] at hl hf
    have hi : i + k < cs.size := by omega
    obtain ⟨w1, h1, h2, h2'⟩ := store_run (P := P) hb hi (by simpa using hf 0 (by omega)) (ho v (by simp))
    obtain ⟨w2, cs2, h3, h4, h5, h5', h6⟩ := stores_run vs i (k + 1) (cs.set (i + k) v hi) w1 h2.at_ (by simp; omega) (fun j hj => by have := hf (j + 1) (by omega); rwa [show i + (k + 1) + j = i + k + (j + 1) from by omega]) (fun u hu => ho u (by simp [hu]))
    refine ⟨w2, cs2, ?_, ⟨h4.at_, fun j hj => (h4.oth j hj).trans (h2.oth j hj), h2.kept.trans h4.kept⟩, by rw [h5]; simp, h5'.trans h2', fun j => ?_⟩
    · have : storeCells ⟨b, i, none⟩ (v :: vs) k = (do store (Addr.add ⟨b, i, none⟩ k) v; storeCells ⟨b, i, none⟩ vs (k + 1)) := rfl
      rw [this, Sem.run_bind, Addr.add_lit, h1]
      exact h3
    · rw [h6 j]
      simp only [List.length_cons]
      by_cases c1 : j = i + k
      · subst c1
        rw [if_neg (by omega), if_pos (by omega)]
        simp
      · by_cases c2 : i + k < j ∧ j < i + k + (vs.length + 1)
        · rw [if_pos (by omega), if_pos (by omega)]
          rw [show j - (i + k) = (j - (i + (k + 1))) + 1 from by omega]
          simp
        · rw [if_neg (by omega), if_neg (by omega)]
          simp [Ne.symm c1]
/-- Cells of a name that are written over. -/
theorem write_cells {M : Cx} {h : Hp} {w : World} {n : Nat} {c : List Value} {m T : Nat} {g : Bool} {L : Loc} (hw : WR P M h w) (hn : h n = some (.cells c m T g)) (hL : M n = some L) {off : Nat} {l l' : List Value} (hl : VRL M l l') (h1 : ∀ v ∈ l, one v = true) (hle : off + l.length ≤ m) (lo hi : Nat) :
    ∃ w', (storeCells ⟨L.b, L.s + off, none⟩ l').run P w = .ok () w' ∧ Post P M M h (setH h n (some (.cells (ovl c off l) m T g))) lo hi w w' := by
  obtain ⟨K, k1, hm, ho, cs, T', fr, h2, h3, h4, h5, h6⟩ := hw.live n _ hn
  rw [hL] at k1; simp at k1; subst k1
  have hll := hl.length
  have hcs : off + l.length ≤ c.length := by omega
  have hsz : l.length = 0 ∨ L.s + off + l.length ≤ cs.size := by
    rcases Nat.eq_zero_or_pos l.length with h0 | h0
    · exact .inl h0
    · have hx : off + (l.length - 1) < c.length := by omega
      obtain ⟨v', a, _⟩ := h3 (off + (l.length - 1)) c[off + (l.length - 1)] (by simp [hx])
      have := (Array.getElem?_eq_some_iff.1 a).1
      exact .inr (by omega)
  have hone' : ∀ v ∈ l', one v = true := by
    intro v hv
    obtain ⟨j, hj, rfl⟩ := List.getElem_of_mem hv
    have hj2 : j < l.length := by omega
    have := hl.get' j l[j] l'[j] (by simp) (by simp)
    rw [this.one_eq]; exact h1 _ (by simp)
  rcases hsz with h0 | hsz
  · have hl0 : l = [] := List.length_eq_zero_iff.1 h0
    subst hl0
    have : l' = [] := List.length_eq_zero_iff.1 (by simpa using hll)
    subst this
    refine ⟨w, rfl, ?_⟩
    have e : setH h n (some (.cells (ovl c off []) m T g)) = h := by
      funext x
      unfold setH
      split
      · rename_i cx; subst cx
        rw [hn, ovl_eq c off [] (by simp; omega)]; simp
      · rfl
    rw [e]; exact Post.refl lo hi hw
  · obtain ⟨w', cs', g1, g2, g3, g3', g4⟩ := stores_run (P := P) l' (L.s + off) 0 cs w h2 (by omega) (fun j hj => by rw [Nat.add_zero, Nat.add_assoc]; exact h4 (off + j) (by omega)) hone'
    refine ⟨w', g1, Post.write lo hi hw hn hL g2 ?_⟩
    refine ⟨by rw [ovl_eq c off l hcs]; simp; omega, ?_, cs', T', fr, g2.at_, fun i v e => ?_, fun i hi => ?_, h5, fun hg => ?_⟩
    · intro v hv
      rw [ovl_eq c off l hcs] at hv
      simp only [List.mem_append] at hv
      rcases hv with (hv | hv) | hv
      · exact ho v (List.mem_of_mem_take hv)
      · exact h1 v hv
      · exact ho v (List.mem_of_mem_drop hv)
    · rw [ovl_get hcs] at e
      rw [g4]
      by_cases c1 : off ≤ i ∧ i < off + l.length
      · rw [if_neg (by omega), if_pos c1.2] at e
        rw [if_pos (by omega), show L.s + i - (L.s + off + 0) = i - off from by omega]
        exact hl.get _ _ e
      · have e' : c[i]? = some v := by
          by_cases c2 : i < off
          · rwa [if_pos c2] at e
          · rwa [if_neg c2, if_neg (by omega)] at e
        rw [if_neg (by omega)]
        exact h3 i v e'
    · refine h4 i ?_
      rw [ovl_eq c off l hcs] at hi
      simp at hi; omega
    · obtain ⟨k, a1, a2, a3⟩ := h6 hg
      exact ⟨k, a1, by rw [a2, g3], fun i b1 b2 => a3 i b1 (by omega)⟩
theorem s_store {T : TypeId} {x y : Operand} (e : o.op = .store T x y) (h : x_store P B lo T (ev tm x) (ev tm y) s = .val v s') : OpV P B lo o tm s v s' := by
  unfold x_store at h
  split at h
  · rename_i n off hx
    split at h
    · rename_i c m T0 g k hlk hk
      split at h
      · rename_i hnt
        split at h
        · rename_i hlen
          split at h
          · rename_i hle
            simp at h
            obtain ⟨rfl, rfl⟩ := h
            refine ⟨SF.wrt _ hlk, fun M a w hv hw hf => ?_⟩
            have hr := hv x (by simp [e, Op.operands])
            have hy := hv y (by simp [e, Op.operands])
            rw [hx] at hr
            obtain ⟨L, hL, _⟩ := hw.live n _ hlk
            cases hr' : a.eval x <;> rw [hr'] at hr <;> cases hr
            rename_i K hK
            rw [hL] at hK; simp at hK; subst hK
            have hk' : (ev tm y).cells.toList.length = k := by rw [← len_eq]; exact Nat.eq_of_beq_eq_true hlen
            obtain ⟨w', h1, h2⟩ := write_cells hw hlk hL (hy.cells hnt) (hy.cells_one (ntup_one hnt)) (by rw [hk']; exact Nat.le_of_ble_eq_true hle) s.nx (wrt lo s n (some (.cells (ovl c off (ev tm y).cells.toList) m T0 g))).nx
            refine ⟨.skip, undef, w', M, ?_, .inr ⟨rfl, rfl⟩, by rw [look_wrt _ hlk]; exact h2, by exact .tup .nil⟩
            have hsz : (a.eval y).cells.size = k := by
              have := (hy.cells hnt).length
              rw [← Array.length_toList, this, hk']
            generalize a.eval = ρ at *
            simp only [execOp, e, hr', Instr.storeAt, Instr.sureAddr, Sem.run_bind, Sem.run_pure, Result.andThen_ok, storeVar, szT_run hk, hsz, ne_eq, not_true_eq_false, if_false]
            rw [h1]
            rfl
          · simp at h
        · simp at h
      · simp at h
    · simp at h
  · simp at h
end
end Go.X
end
section
set_option linter.unusedVariables false
namespace Go.X
open Go Go.RowKit
section
variable {P : Program} {B : Ban} {lo : Nat} {o : Oper} {tm : T4 Value} {s s' : XS} {v : Value}
theorem s_nil {x : Operand} (e : o.op = .nilCheck x) (h : x_nil (ev tm x) s = .val v s') : OpV P B lo o tm s v s' := by
  have key : ∀ (M : Cx) (u : Value), VR M (ev tm x) u → x_nil (ev tm x) s = .val v s' → v = ev tm x ∧ s' = s ∧ ∀ ρ : Operand → Value, ρ x = u → ∀ w, (execOp ρ o).run P w = .ok (.value u) w := by
    intro M u hu h
    unfold x_nil at h
    split at h <;> simp at h <;> obtain ⟨rfl, rfl⟩ := h
    all_goals
      rename_i hx
      rw [hx] at hu ⊢
      refine ⟨rfl, rfl, fun ρ hρ w => ?_⟩
      cases hu
      simp [execOp, e, hρ]
  by_cases hs : s' = s ∧ v = ev tm x
  · obtain ⟨rfl, rfl⟩ := hs
    exact .same fun M a w hv hw => ⟨a.eval x, (key M _ (hv x (by simp [e, Op.operands])) h).2.2 _ rfl w, hv x (by simp [e, Op.operands])⟩
  · exfalso
    unfold x_nil at h
    split at h <;> simp at h <;> obtain ⟨rfl, rfl⟩ := h <;> rename_i hx <;> exact hs ⟨rfl, hx.symm⟩
theorem Addr_add_lit (b o n : Nat) : (Addr.mk b o none).add n = ⟨b, o + n, none⟩ := Addr.add_lit b o n
theorem s_fld {T : TypeId} {x : Operand} {f : Nat} (e : o.op = .fieldAddr T x f) (h : x_fld P T (ev tm x) f s = .val v s') : OpV P B lo o tm s v s' := by
  unfold x_fld at h
  split at h
  · rename_i b off hx
    split at h
    · rename_i fs hu
      split at h
      · rename_i fd hf
        split at h
        · rename_i k hk
          simp at h
          obtain ⟨rfl, rfl⟩ := h
          refine .same fun M a w hv hw => ?_
          have hr := hv x (by simp [e, Op.operands])
          rw [hx] at hr
          cases hr' : a.eval x <;> rw [hr'] at hr <;> cases hr
          rename_i K hK
          have hf' : fs[f]? = some fd := by simpa using hf
          refine ⟨.pointer (some ⟨K.b, K.s + (off + fd.offset), none⟩), ?_, .ptr _ hK⟩
          generalize a.eval = ρ at *
          simp [execOp, e, hr', Instr.fieldAt, Instr.sureAddr, run_underlying hu, hf', fieldPlace, szT_run hk, Addr_add_lit, Nat.add_assoc]
        · simp at h
      · simp at h
    · simp at h
  · split at h
    · rename_i c off m hx
      have hx := sv_eq hx
      split at h
      · rename_i fs hu
        split at h
        · rename_i fd hf
          split at h
          · rename_i k hk
            simp at h
            obtain ⟨rfl, rfl⟩ := h
            refine .same fun M a w hv hw => ?_
            have hr := hv x (by simp [e, Op.operands])
            rw [hx] at hr
            obtain ⟨c', b, t, h1, h2, h3, hr'⟩ := rpt_inv hr
            have hf' : fs[f]? = some fd := by simpa using hf
            refine ⟨.pointer (some ⟨b, t + (off + fd.offset), none⟩), ?_, .rpt h1 h2 h3⟩
            generalize a.eval = ρ at *
            simp [execOp, e, hr', Instr.fieldAt, Instr.sureAddr, run_underlying hu, hf', fieldPlace, szT_run hk, Addr_add_lit, Nat.add_assoc]
          · simp at h
        · simp at h
      · simp at h
    · simp at h
theorem natV_spec {M : Cx} {u u' : Value} {n : Nat} (h : natV u = some n) (k : VR M u u') : ∃ q, u' = .int q (n : Int) ∧ u = .int q (n : Int) := by
  unfold natV at h
  split at h
  · rename_i m hm
    simp at h; subst h
    unfold intV at hm
    split at hm
    · rename_i q z
      simp at hm; subst hm
      cases k
      exact ⟨q, rfl, rfl⟩
    · simp at hm
  · simp at h
theorem s_ia {T : TypeId} {x i : Operand} (e : o.op = .indexAddr T x i) (h : x_ia P T (ev tm x) (ev tm i) s = .val v s') : OpV P B lo o tm s v s' := by
  unfold x_ia at h
  split at h
  · rename_i n hi
    split at h
    · rename_i el hu
      split at h
      · rename_i b off m c k hx hk
        split at h
        · rename_i hle
          simp at h
          obtain ⟨rfl, rfl⟩ := h
          have hlt : n < m := by
            rcases Nat.lt_or_ge n m with q | q
            · exact q
            · rw [Nat.ble_eq_true_of_le q] at hle; simp at hle
          refine .same fun M a w hv hw => ?_
          have hr := hv x (by simp [e, Op.operands])
          obtain ⟨q, hi', _⟩ := natV_spec hi (hv i (by simp [e, Op.operands]))
          rw [hx] at hr
          cases hr' : a.eval x <;> rw [hr'] at hr <;> cases hr
          rename_i c' K off' hK hS
          have ho : off' = off := by
            rcases hS with ⟨h1, _⟩ | ⟨_, _, _, _, h1 | ⟨h1, _⟩, _⟩
            · exact h1
            · exact h1
            · omega
          subst ho
          refine ⟨.pointer (some ⟨K.b, K.s + (off' + n * k), none⟩), ?_, .ptr _ hK⟩
          generalize a.eval = ρ at *
          simp [execOp, e, hr', hi', Instr.indexAt, asIntOf, run_underlying hu, hlt, szT_run hk, Addr_add_lit, Nat.add_assoc]
        · simp at h
      · rename_i k hk _
        split at h
        · rename_i e' c off m hx
          have hx := sv_eq hx
          split at h
          · rename_i he hle
            simp at h
            obtain ⟨rfl, rfl⟩ := h
            have hlt : n < m := by
              rcases Nat.lt_or_ge n m with q | q
              · exact q
              · rw [Nat.ble_eq_true_of_le q] at hle; simp at hle
            have he : e' < 2 := by
              rcases Nat.lt_or_ge e' 2 with q | q
              · exact q
              · rw [Nat.ble_eq_true_of_le q] at he; simp at he
            refine .same fun M a w hv hw => ?_
            have hr := hv x (by simp [e, Op.operands])
            obtain ⟨q, hi', _⟩ := natV_spec hi (hv i (by simp [e, Op.operands]))
            rw [hx] at hr
            rcases rsl_inv he hr with ⟨c', b, t, cap, h1, h2, h3, _, _, hr'⟩ | ⟨_, _, h0, _⟩
            · refine ⟨.pointer (some ⟨b, t + (off + n * k), none⟩), ?_, .rpt h1 h2 h3⟩
              generalize a.eval = ρ at *
              simp [execOp, e, hr', hi', Instr.indexAt, asIntOf, run_underlying hu, hlt, szT_run hk, Addr_add_lit, Nat.add_assoc]
            · omega
          · simp at h
        · simp at h
      · simp at h
    · rename_i m el hu
      split at h
      · rename_i b off k hx hk
        split at h
        · rename_i hle
          simp at h
          obtain ⟨rfl, rfl⟩ := h
          have hlt : n < m := by
            rcases Nat.lt_or_ge n m with q | q
            · exact q
            · rw [Nat.ble_eq_true_of_le q] at hle; simp at hle
          refine .same fun M a w hv hw => ?_
          have hr := hv x (by simp [e, Op.operands])
          obtain ⟨q, hi', _⟩ := natV_spec hi (hv i (by simp [e, Op.operands]))
          rw [hx] at hr
          cases hr' : a.eval x <;> rw [hr'] at hr <;> cases hr
          rename_i K hK
          refine ⟨.pointer (some ⟨K.b, K.s + (off + n * k), none⟩), ?_, .ptr _ hK⟩
          generalize a.eval = ρ at *
          simp [execOp, e, hr', hi', Instr.indexAt, asIntOf, run_underlying hu, hlt, szT_run hk, Instr.sureAddr, Addr_add_lit, Nat.add_assoc]
        · simp at h
      · simp at h
    · simp at h
  · simp at h
theorem s_extract {x : Operand} {i : Nat} (e : o.op = .extract x i) (h : x_extract (ev tm x) i s = .val v s') : OpV P B lo o tm s v s' := by
  unfold x_extract at h
  split at h
  · rename_i l hx
    obtain ⟨hl, rfl⟩ := optV_eq h
    rw [nth_eq] at hl
    refine .same fun M a w hv hw => ?_
    have hr := hv x (by simp [e, Op.operands])
    rw [hx] at hr
    obtain ⟨c', hr', hc⟩ := tup_inv hr
    obtain ⟨v', h1, h2⟩ := hc.get i v hl
    refine ⟨v', ?_, h2⟩
    generalize a.eval = ρ at *
    have h1' : (Array.mk c')[i]? = some v' := by simpa using h1
    simp [execOp, e, hr', Instr.extract, h1']
  · simp at h
/-! What computes only -/
theorem pv_run {α : Type} : ∀ (x : Sem α) (r : α), pv P x = some r → ∀ w, x.run P w = .ok r w
  | .pure a, r, h, w => by simp [pv] at h; subst h; rfl
  | .program k, r, h, w => by
    have := pv_run (k P) r (by simpa [pv] using h) w
    simpa [Sem.run] using this
  | .mark m k, r, h, w => by
    have := pv_run k r (by simpa [pv] using h) w
    simpa [Sem.run] using this
  | .load _ _ _, r, h, w => by simp [pv] at h
  | .store _ _ _ _, r, h, w => by simp [pv] at h
  | .new _ _, r, h, w => by simp [pv] at h
  | .shape _ _, r, h, w => by simp [pv] at h
  | .freeze _ _ _, r, h, w => by simp [pv] at h
  | .frozen _ _, r, h, w => by simp [pv] at h
  | .getObj _ _, r, h, w => by simp [pv] at h
  | .setObj _ _ _, r, h, w => by simp [pv] at h
  | .choose _ _, r, h, w => by simp [pv] at h
  | .sys _ _, r, h, w => by simp [pv] at h
  | .halt _, r, h, w => by simp [pv] at h
theorem nadO_eq {M : Cx} {ρ : Operand → Value} : ∀ {l : List Operand}, nadO tm l = true → (∀ x ∈ l, VR M (ev tm x) (ρ x)) → ∀ x ∈ l, ρ x = ev tm x
  | [], _, _, x, hx => by simp at hx
  | y :: l, h, hv, x, hx => by
    simp only [nadO] at h
    split at h
    · rename_i hy
      rcases List.mem_cons.1 hx with rfl | hx
      · exact nad_eq hy (hv _ (by simp))
      · exact nadO_eq h (fun x hx => hv x (by simp [hx])) x hx
    · simp at h
theorem amap_congr {α β : Type} {f g : α → β} {a : Array α} (h : ∀ x ∈ a.toList, f x = g x) : a.map f = a.map g := by
  apply Array.ext'
  simp only [Array.toList_map]
  exact List.map_congr_left h
theorem omap_congr {α β : Type} {f g : α → β} {a : Option α} (h : ∀ x ∈ a.toArray.toList, f x = g x) : a.map f = a.map g := by
  cases a with
  | none => rfl
  | some x => simp; exact h x (by simp)
/-- An operation looks at its operands alone. -/
theorem execOp_congr {ρ σ : Operand → Value} (o : Oper) (hc : ∀ cs b, o.op ≠ .select cs b) (h : ∀ x ∈ o.op.operands.toList, ρ x = σ x) : execOp ρ o = execOp σ o := by
  obtain ⟨d, op, ty, pos, af, g⟩ := o
  have hcall : ∀ c : Call, (∀ x ∈ c.operands.toList, ρ x = σ x) → resolve ρ c ty = resolve σ c ty := by
    intro c hx
    unfold Call.operands at hx
    unfold resolve
    have ha : c.args.map ρ = c.args.map σ := amap_congr fun x hm => hx x (by simp; exact .inr (by simpa using hm))
    rw [ha]
    cases hce : c.callee with
    | builtin b => rfl
    | invoke r m => rw [hce] at hx; simp only; rw [hx r (by simp)]
    | value f => rw [hce] at hx; simp only; rw [hx f (by simp)]
  cases op <;> simp only [execOp] <;> simp only [Op.operands] at h
  case select cs b => exact absurd rfl (hc cs b)
  case build t ps =>
    have : ps.map (fun x => (x.1, ρ x.2)) = ps.map (fun x => (x.1, σ x.2)) := amap_congr fun x hx => by rw [h x.2 (by simp; exact ⟨x.1, by simpa using hx⟩)]
    exact congrArg (fun q => (do let v ← Instr.build t q; pure (Next.value v) : Sem Next)) this
  case buildSlice t n ps =>
    have : ps.map (fun x => (x.1, ρ x.2)) = ps.map (fun x => (x.1, σ x.2)) := amap_congr fun x hx => by rw [h x.2 (by simp; exact ⟨x.1, by simpa using hx⟩)]
    exact congrArg (fun q => (do let v ← Instr.buildSlice t n q; pure (Next.value v) : Sem Next)) this
  case makeFunc fn a b => rw [amap_congr (a := a) (fun x hx => h x (by simp; exact .inl (by simpa using hx))), amap_congr (a := b) (fun x hx => h x (by simp; exact .inr (by simpa using hx)))]
  case makeMap t r => rw [omap_congr (a := r) h]
  case slice t x l hi m => rw [h x (by simp), omap_congr (a := l) (fun y hy => h y (by simp at hy ⊢; simp [hy])), omap_congr (a := hi) (fun y hy => h y (by simp at hy ⊢; simp [hy])), omap_congr (a := m) (fun y hy => h y (by simp at hy ⊢; simp [hy]))]
  case call c => rw [hcall c h]
  case go c => rw [hcall c h]
  case defer c => rw [hcall c h]
  all_goals (simp at h; try simp [h])
theorem gp_val {wh : String} (hc : ∀ cs b, o.op ≠ .select cs b) (h : gp P o tm s wh = .val v s') : OpV P B lo o tm s v s' := by
  unfold gp at h
  split at h
  · rename_i hn
    split at h
    · rename_i u hp
      split at h <;> simp at h
      obtain ⟨rfl, rfl⟩ := h
      rename_i hu
      refine .same fun M a w hv hw => ⟨_, ?_, nad_VR hu⟩
      rw [execOp_congr o hc (nadO_eq hn hv)]
      exact pv_run _ _ hp w
    · simp at h
  · simp at h
end
end Go.X
end
