/-
  A part of the proof of ScriptJoins: no statement of the seat is proved here.
-/
import Derived.Test.YtncijcfnjepooaaGreatDoorK02
import Derived.Laws.MakeOwn
import Derived.Deep.AppendSrc
import Derived.Lib.AppendZeros
import Derived.Laws.Externs
import Derived.Lib.Builder
import Derived.Lib.UnsafeStr
set_option linter.unusedVariables false
set_option linter.unusedSimpArgs false
set_option linter.unnecessarySimpa false
set_option linter.unusedSectionVars false
set_option linter.constructorNameAsVariable false
set_option linter.deprecated false
section
set_option linter.unusedVariables false
namespace Go.X
open Go Go.RowKit
section
variable {P : Program} {B : Ban} {lo : Nat} {o : Oper} {tm : T4 Value} {s s' : XS} {v : Value}
theorem s_iface {T : TypeId} {x : Operand} (e : o.op = .makeInterface T x) (h : opx2 P B lo o tm s = .val v s') : OpV P B lo o tm s v s' := by
  unfold opx2 opx2d at h
  rw [e] at h
  dsimp only at h
  split at h <;> simp at h
  rename_i d hd hu
  obtain ⟨rfl, rfl⟩ := h
  refine .same fun M a w hv hw => ⟨.iface T (a.eval x), ?_, .iface T (hv x (by simp [e, Op.operands]))⟩
  generalize a.eval = ρ at *
  have hI : (Instr.makeInterface T (ρ x)).run P w = .ok (.iface T (ρ x)) w := by
    unfold Instr.makeInterface
    simp only [Sem.run_bind, run_underlying hu, Result.andThen_ok]
    cases d <;> first | rfl | exact absurd rfl (hd _)
  simp [execOp, e, hI]
theorem VRL.map_ {M : Cx} {ρ : Operand → Value} : ∀ {l : List Operand}, (∀ x ∈ l, VR M (ev tm x) (ρ x)) → VRL M (l.map (ev tm)) (l.map ρ)
  | [], _ => .nil
  | x :: l, h => .cons (h x (by simp)) (VRL.map_ fun y hy => h y (by simp [hy]))
theorem s_mkf {fn : Fn} {x y : Array Operand} (e : o.op = .makeFunc fn x y) (h : opx2 P B lo o tm s = .val v s') : OpV P B lo o tm s v s' := by
  unfold opx2 opx2d at h
  rw [e] at h
  dsimp only at h
  split at h <;> simp at h
  obtain ⟨rfl, rfl⟩ := h
  rename_i f
  refine .same fun M a w hv hw => ⟨.func (.func f) ⟨x.toList.map a.eval⟩ ⟨y.toList.map a.eval⟩, ?_, ?_⟩
  · generalize a.eval = ρ at *
    have hx : x.map ρ = ⟨x.toList.map ρ⟩ := by apply Array.ext'; simp
    have hy : y.map ρ = ⟨y.toList.map ρ⟩ := by apply Array.ext'; simp
    simp only [execOp, e, hx, hy]
    rfl
  · rw [map_eq, map_eq]
    exact .func f (VRL.map_ fun z hz => hv z (by simp [e, Op.operands]; exact .inl (by simpa using hz))) (VRL.map_ fun z hz => hv z (by simp [e, Op.operands]; exact .inr (by simpa using hz)))
theorem s_mkm {T : TypeId} {r : Option Operand} (e : o.op = .makeMap T r) (h : opx2 P B lo o tm s = .val v s') : OpV P B lo o tm s v s' := by
  unfold opx2 opx2d at h
  rw [e] at h
  dsimp only at h
  split at h
  · rcases new_eq h with ⟨ht, h⟩ | h
    · simp at h
      obtain ⟨rfl, rfl⟩ := h
      refine ⟨SF.more _ ht, fun M a w hv hw hf => ?_⟩
      have hn : M s.nx = none := hf s.nx (Nat.le_refl _) (Nat.lt_succ_self _)
      refine ⟨_, .map (some w.heap.size), w.alloc (.map #[] 0), setM M s.nx ⟨w.heap.size, 0, none⟩, ?_, .inl rfl, ?_, ?_⟩
      · generalize a.eval = ρ at *
        simp [execOp, e, Instr.makeMap]
      · rw [look_more _ ht]
        refine Post.new_ (obj := .map #[] 0) hw hn rfl (chg_new w _) fun q hq => ?_
        split at hq <;> simp at hq
        subst hq
        exact ⟨#[], (chg_new w _).at_, rfl, fun i e e' he => by simp at he⟩
      · exact .map (L := ⟨w.heap.size, 0, none⟩) (by simp [setM])
    · simp at h
  · simp at h
theorem s_range {T : TypeId} {x : Operand} (e : o.op = .range T x) (h : x_range P T (ev tm x) s = .val v s') : OpV P B lo o tm s v s' := by
  unfold x_range at h
  split at h
  · rename_i hT
    split at h
    · rename_i b hx
      rcases new_eq h with ⟨ht, h⟩ | h
      · simp at h
        obtain ⟨rfl, rfl⟩ := h
        refine ⟨SF.more _ ht, fun M a w hv hw hf => ?_⟩
        have hn : M s.nx = none := hf s.nx (Nat.le_refl _) (Nat.lt_succ_self _)
        have hr := hv x (by simp [e, Op.operands])
        rw [hx] at hr
        have hr' : a.eval x = .string b := by
          generalize a.eval x = u at hr
          cases hr; rfl
        refine ⟨_, .pointer (some ⟨w.heap.size, 0, none⟩), w.alloc (.stringIter b 0), setM M s.nx ⟨w.heap.size, 0, none⟩, ?_, .inl rfl, ?_, ?_⟩
        · generalize a.eval = ρ at *
          simp [execOp, e, Instr.range, hr', run_underlying hT]
        · rw [look_more _ ht]
          refine Post.new_ (obj := .stringIter b 0) hw hn rfl (chg_new w _) fun q hq => ?_
          split at hq <;> simp at hq
          subst hq
          exact ⟨rfl, (chg_new w _).at_⟩
        · have := VR.ptr (M := setM M s.nx ⟨w.heap.size, 0, none⟩) (n := s.nx) (L := ⟨w.heap.size, 0, none⟩) 0 (by simp [setM])
          simpa [ptr] using this
      · simp at h
    · simp at h
  · simp at h
theorem zc_spec {T : TypeId} {z : List Value} {k : Nat} (h : zc P T = some (z, k)) : ∃ i u, P.info? T = some i ∧ i.zero = some u ∧ nad2 u = true ∧ szT P T = some k ∧ z = u.cells.toList ∧ z.length = k := by
  unfold zc at h
  split at h
  · rename_i u n hu hn
    split at h <;> simp at h
    rename_i hl
    obtain ⟨rfl, rfl⟩ := h
    obtain ⟨i, h1, h2, h3⟩ := zeroT_spec hu
    exact ⟨i, u, h1, h2, h3, hn, rfl, by rw [← len_eq]; exact Nat.eq_of_beq_eq_true hl⟩
  · simp at h
theorem rep_VR {M : Cx} {z z' : List Value} (h : VRL M z z') : ∀ n, VRL M (rep n z) (List.replicate n z').flatten
  | 0 => .nil
  | n + 1 => by rw [rep_succ, List.replicate_succ, List.flatten_cons]; exact h.append (rep_VR h n)
theorem rep_one {z : List Value} (h : ∀ v ∈ z, one v = true) : ∀ n, ∀ v ∈ rep n z, one v = true
  | 0, v, hv => by simp [show rep 0 z = [] from rfl] at hv
  | n + 1, v, hv => by
    rw [rep_succ, List.mem_append] at hv
    rcases hv with hv | hv
    · exact h v hv
    · exact rep_one h n v hv
theorem nad2_cells {M : Cx} {u : Value} (h : nad2 u = true) : VRL M u.cells.toList u.cells.toList ∧ ∀ v ∈ u.cells.toList, one v = true := by
  have := nad2_VR (M := M) h
  refine ⟨this.cells (nad2_ntup h), this.cells_one ?_⟩
  unfold nad2 at h; split at h
  · exact .inr ⟨_, rfl⟩
  · exact .inl (nad1_VR (M := M) h).2
/-- Rows of zero elements, as the model makes them. -/
theorem zeros_eq (z : List Value) (n : Nat) : (Array.range (n * z.length)).map (fun i => z.toArray[i % z.length]!) = (List.replicate n z).flatten.toArray := by
  apply Array.ext'
  simp only [Array.toList_map, Array.toList_range]
  induction n with
  | zero => simp
  | succ n ih =>
    rw [List.replicate_succ, List.flatten_cons, show (n + 1) * z.length = z.length + n * z.length from by rw [Nat.add_mul]; omega, List.range_add, List.map_append, List.map_map]
    have h1 : (List.range z.length).map (fun i => z.toArray[i % z.length]!) = z := by
      apply List.ext_getElem
      · simp
      · intro i h1 h2
        simp at h1
        simp [Nat.mod_eq_of_lt h1, h1]
    rw [h1]
    congr 1
    rw [← ih]
    apply List.map_congr_left
    intro i _
    simp
theorem made_eq {u : Value} {k c : Nat} (h : u.cells.toList.length = k) : madeCells u.cells (c * k) = (List.replicate c u.cells.toList).flatten.toArray := by
  rw [← zeros_eq, h]
  have hs : u.cells.size = k := by simpa using h
  unfold madeCells
  rw [hs]
theorem intOf_nat {M : Cx} {u u' : Value} {n : Nat} (h : natV u = some n) (k : VR M u u') {w : World} : (asIntOf u').run P w = .ok ((match u' with | .int q _ => q | _ => .i64), (n : Int)) w := by
  obtain ⟨q, h1, _⟩ := natV_spec h k
  subst h1; rfl
theorem wrap_nat {n : Nat} (h : n ≤ 9223372036854775807) : IntKind.i64.wrap (n : Int) = n := IntWalk.i64_in _ (by omega)
theorem s_mks {T : TypeId} {x y : Operand} (e : o.op = .makeSlice T x y) (h : x_makeSlice P T (ev tm x) (ev tm y) s = .val v s') : OpV P B lo o tm s v s' := by
  unfold x_makeSlice at h
  split at h
  · rename_i el hu
    split at h
    · rename_i l c z k i hl hc hz hi
      split at h
      · rename_i hlc hc1 hby
        obtain ⟨i', u, hi', hzu, hna, hsz, rfl, hzl⟩ := zc_spec hz
        rw [hi] at hi'; simp at hi'; subst hi'
        have hlc := Nat.le_of_ble_eq_true hlc
        have hc1 := Nat.le_of_ble_eq_true hc1
        have hby := Nat.le_of_ble_eq_true hby
        rcases new_eq h with ⟨ht, h⟩ | h
        · simp at h
          obtain ⟨rfl, rfl⟩ := h
          refine ⟨SF.more _ ht, fun M a w hv hw hf => ?_⟩
          have hn : M s.nx = none := hf s.nx (Nat.le_refl _) (Nat.lt_succ_self _)
          obtain ⟨q1, hx, _⟩ := natV_spec hl (hv x (by simp [e, Op.operands]))
          obtain ⟨q2, hy, _⟩ := natV_spec hc (hv y (by simp [e, Op.operands]))
          obtain ⟨hzc, hz1⟩ := nad2_cells (M := M) hna
          refine ⟨_, .slice (some ⟨w.heap.size, 0, none⟩) l c, w.alloc (.cells (List.replicate c u.cells.toList).flatten.toArray el), setM M s.nx ⟨w.heap.size, 0, none⟩, ?_, .inl rfl, ?_, ?_⟩
          · generalize a.eval = ρ at *
            have hb : (i.bytes : Int) * (c : Int) ≤ 281474976710656 := by
              have hby : i.bytes * c ≤ 281474976710656 := hby
              rw [← Int.natCast_mul]; omega
            have hr := run_make (P := P) w T el i u hu hi hzu q1 q2 l c (by omega) (by omega) hb (by omega)
            have hs : i.size = k := by unfold szT at hsz; rw [hi] at hsz; simpa using hsz
            rw [Int.toNat_natCast, Int.toNat_natCast, hs, made_eq hzl] at hr
            simp [execOp, e, hx, hy, hr]
          · rw [look_more _ ht]
            have := new_cells (P := P) (T := el) (bnd := bn B s.nx) hw hn (rep_VR hzc c) (rep_one hz1 c)
            rw [rep_length, hzl] at this
            exact this
          · exact .sl (L := ⟨w.heap.size, 0, none⟩) (by simp [setM]) (.inl ⟨rfl, rfl⟩)
        · simp at h
      · simp at h
    · simp at h
  · simp at h
theorem sliceBound_run {M : Cx} {u u' : Value} {n y : Nat} {code : BoundsCode} {w : World} (h : natV u = some n) (k : VR M u u') (hy : n ≤ y) : (Instr.sliceBound u' y code).run P w = .ok n w := by
  obtain ⟨q, h1, _⟩ := natV_spec h k
  subst h1
  simp [Instr.sliceBound, asIntOf, hy]
theorem bnd_some {u : Value} {d hi k : Nat} (h : bnd (some u) d hi = some k) : natV u = some k ∧ k ≤ hi := by
  unfold bnd at h
  split at h
  · rename_i he; simp at he
  · rename_i v he
    simp at he; subst he
    split at h
    · rename_i j hj
      split at h <;> simp at h
      rename_i hle
      subst h
      exact ⟨hj, Nat.le_of_ble_eq_true hle⟩
    · simp at h
/-- The bounds of a slice; in truth there may be more room. -/
theorem sliceBounds_run {M : Cx} {ρ : Operand → Value} {l0 hi mx : Option Operand} {n c c' m hh l : Nat} (b : Bool) (w : World) (hv : ∀ x, x ∈ l0 ∨ x ∈ hi ∨ x ∈ mx → VR M (ev tm x) (ρ x)) (hc : c ≤ c')
    (h1 : bnd (mx.map (ev tm)) c c = some m) (h2 : bndH (mx.map (ev tm)) (hi.map (ev tm)) n m = some hh) (h3 : bnd (l0.map (ev tm)) 0 hh = some l) :
    (Instr.sliceBounds b n c' (l0.map ρ) (hi.map ρ) (mx.map ρ)).run P w = .ok (l, hh, if mx.isSome then m else c') w ∧ l ≤ hh ∧ hh ≤ m ∧ m ≤ c ∧ (mx = none → m = c) := by
  have sb : ∀ {x : Operand} {d k y z : Nat} {code : BoundsCode}, bnd (some (ev tm x)) d y = some k → VR M (ev tm x) (ρ x) → y ≤ z → k ≤ y ∧ ∀ w : World, (Instr.sliceBound (ρ x) z code).run P w = .ok k w := by
    intro x d k y z code g1 g2 g3
    obtain ⟨g4, g5⟩ := bnd_some g1
    exact ⟨g5, fun w => sliceBound_run g4 g2 (by omega)⟩
  cases mx with
  | none =>
    simp [bnd] at h1; subst h1
    cases hi with
    | none =>
      have h2' : n = hh ∧ n ≤ c := by
        simp only [bndH, Option.map_none] at h2
        split at h2 <;> simp at h2
        rename_i q
        exact ⟨h2, Nat.le_of_ble_eq_true q⟩
      obtain ⟨rfl, h2'⟩ := h2'
      cases l0 with
      | none => simp [bnd] at h3; subst h3; exact ⟨rfl, by omega, h2', by omega, by simp⟩
      | some x =>
        obtain ⟨g1, g2⟩ := sb (code := .sliceB) h3 (hv x (by simp)) (Nat.le_refl _)
        exact ⟨by simp [Instr.sliceBounds, g2], g1, h2', by omega, by simp⟩
    | some y =>
      obtain ⟨k1, k2⟩ := sb (code := if b then .sliceAcap else .sliceAlen) (by simpa [bndH] using h2) (hv y (by simp)) hc
      cases l0 with
      | none => simp [bnd] at h3; subst h3; exact ⟨by simp [Instr.sliceBounds, k2], by omega, k1, by omega, by simp⟩
      | some x =>
        obtain ⟨g1, g2⟩ := sb (code := .sliceB) h3 (hv x (by simp)) (Nat.le_refl _)
        exact ⟨by simp [Instr.sliceBounds, k2, g2], g1, k1, by omega, by simp⟩
  | some z =>
    obtain ⟨j1, j2⟩ := sb (code := if b then .slice3Acap else .slice3Alen) h1 (hv z (by simp)) hc
    cases hi with
    | none => simp [bndH] at h2
    | some y =>
      obtain ⟨k1, k2⟩ := sb (code := .slice3B) (by simpa [bndH] using h2) (hv y (by simp)) (Nat.le_refl _)
      cases l0 with
      | none => simp [bnd] at h3; subst h3; exact ⟨by simp [Instr.sliceBounds, j2, k2], by omega, k1, j1, by simp⟩
      | some x =>
        obtain ⟨g1, g2⟩ := sb (code := .slice3C) h3 (hv x (by simp)) (Nat.le_refl _)
        exact ⟨by simp [Instr.sliceBounds, j2, k2, g2], g1, k1, j1, by simp⟩
theorem ite_beq {m l a b : Nat} : (match Nat.beq m l with | true => a | false => b) = if m = l then a else b := by
  by_cases hq : m = l
  · subst hq; simp
  · have : Nat.beq m l = false := by
      cases hb : Nat.beq m l
      · rfl
      · exact absurd (Nat.eq_of_beq_eq_true hb) hq
    simp [this, hq]
theorem opd_slice {T : TypeId} {x : Operand} {l0 hi mx : Option Operand} (e : o.op = .slice T x l0 hi mx) {M : Cx} {a : Act} (hv : ∀ x ∈ o.op.operands.toList, VR M (ev tm x) (a.eval x)) : VR M (ev tm x) (a.eval x) ∧ ∀ y, y ∈ l0 ∨ y ∈ hi ∨ y ∈ mx → VR M (ev tm y) (a.eval y) := by
  refine ⟨hv x (by simp [e, Op.operands]), fun y hy => hv y ?_⟩
  simp only [e, Op.operands]
  rcases hy with hy | hy | hy <;> simp only [Option.mem_def] at hy <;> subst hy <;> simp
theorem ble2 {e n : Nat} (h : Nat.ble n e = false) : e < n := by
  rcases Nat.lt_or_ge e n with q | q
  · exact q
  · rw [Nat.ble_eq_true_of_le q] at h; simp at h
theorem s_sslice {T : TypeId} {x : Operand} {l0 hi mx : Option Operand} (e : o.op = .slice T x l0 hi mx) {q : Nat} {c : List Value} {off n : Nat} (hx : ev tm x = slv q c off n) (h : x_sslice P T q c off n (l0.map (ev tm)) (hi.map (ev tm)) (mx.map (ev tm)) s = .val v s') : OpV P B lo o tm s v s' := by
  unfold x_sslice at h
  split at h
  · rename_i hq
    have hq := ble2 hq
    split at h
    · rename_i el hu
      split at h
      · rename_i k m hk hm
        split at h
        · rename_i hh hhi
          split at h
          · rename_i l hlo
            simp only [OR.val.injEq] at h
            obtain ⟨rfl, rfl⟩ := h
            refine .same fun M a w hv hw => ?_
            obtain ⟨hr, hb⟩ := opd_slice e hv
            rw [hx] at hr
            have hE : ∀ cap, n ≤ cap → (q = 1 → cap = n) → m ≤ n → (mx = none → m = n) → (sExact (mx.map (ev tm)) q m hh n = 1 → (if mx.isSome = true then m else cap) = hh) ∧ sExact (mx.map (ev tm)) q m hh n < 2 := by
              intro cap h1 h2 h3 h4
              cases mx with
              | none =>
                simp only [sExact, Option.map_none]
                split
                · rename_i hb; exact ⟨fun e => by simp only [Option.isSome_none, Bool.false_eq_true, if_false]; rw [h2 e]; exact (Nat.eq_of_beq_eq_true hb).symm, hq⟩
                · exact ⟨fun e => by simp at e, by omega⟩
              | some y =>
                simp only [sExact, Option.map_some]
                split
                · rename_i hb; exact ⟨fun _ => by simpa using Nat.eq_of_beq_eq_true hb, by omega⟩
                · exact ⟨fun e => by simp at e, by omega⟩
            rcases rsl_inv hq hr with ⟨c', b, t, cap, h1, h2, h3, h4, h5, hr'⟩ | ⟨cap, ad, h0, h5, hr'⟩
            · obtain ⟨g1, g2, g3, g4, g5⟩ := sliceBounds_run (P := P) (M := M) (ρ := a.eval) true w hb h4 hm hhi hlo
              obtain ⟨g6, g7⟩ := hE cap h4 h5 g4 g5
              refine ⟨.slice (some ⟨b, t + (if (if mx.isSome = true then m else cap) = l then off else off + l * k), none⟩) (hh - l) ((if mx.isSome = true then m else cap) - l), ?_, ?_⟩
              · generalize a.eval = ρ at *
                simp only [execOp, e, hr', Instr.sliceAt, Sem.run_bind, run_underlying hu, Result.andThen_ok, Instr.slice, g1, szT_run hk, Sem.run_pure]
                generalize (if mx.isSome = true then m else cap) = m'
                by_cases hq : m' = l
                · simp [hq]
                · simp [hq, Addr_add_lit, Nat.add_assoc]
              · change VR M (slv (sExact (mx.map (ev tm)) q m hh n) c (off + l * k) (hh - l)) _
                have hmm : hh ≤ (if mx.isSome = true then m else cap) := by split <;> omega
                by_cases hl : hh - l = 0
                · rw [hl]
                  refine .rsl0 (a := some (b, _)) g7 fun e => ?_
                  have := g6 e; omega
                · rw [if_neg (by omega)]
                  exact .rsl h1 h2 h3 g7 (by omega) fun e => by rw [g6 e]
            · subst h0
              obtain ⟨g1, g2, g3, g4, g5⟩ := sliceBounds_run (P := P) (M := M) (ρ := a.eval) true w hb (Nat.zero_le cap) hm hhi hlo
              obtain ⟨g6, g7⟩ := hE cap (Nat.zero_le _) h5 g4 g5
              have hl0 : l = 0 := by omega
              have hh0 : hh = 0 := by omega
              subst hl0; subst hh0
              have hcap : sExact (mx.map (ev tm)) q m 0 0 = 1 → (if mx.isSome = true then m else cap) - 0 = 0 := fun e => by rw [g6 e]
              refine ⟨.slice (ad.map fun p => ⟨p.1, p.2, none⟩) 0 ((if mx.isSome = true then m else cap) - 0), ?_, .rsl0 g7 hcap⟩
              generalize a.eval = ρ at *
              cases ad with
              | none => simp [execOp, e, hr', Instr.sliceAt, run_underlying hu, Instr.slice, g1, szT_run hk]
              | some p => simp [execOp, e, hr', Instr.sliceAt, run_underlying hu, Instr.slice, g1, szT_run hk, Addr_add_lit]
          · simp at h
        · simp at h
      · simp at h
    · simp at h
  · simp at h
theorem s_slice {T : TypeId} {x : Operand} {l0 hi mx : Option Operand} (e : o.op = .slice T x l0 hi mx) (h : x_slice P B T (ev tm x) (l0.map (ev tm)) (hi.map (ev tm)) (mx.map (ev tm)) o tm s = .val v s') : OpV P B lo o tm s v s' := by
  unfold x_slice at h
  split at h
  · rename_i ad n c hx
    split at h
    · rename_i el hu
      split at h
      · rename_i k m hk hm
        split at h
        · rename_i hh hhi
          split at h
          · rename_i l hlo
            split at h
            · simp at h
              obtain ⟨rfl, rfl⟩ := h
              refine .same fun M a w hv hw => ?_
              obtain ⟨hr, hb⟩ := opd_slice e hv
              rw [hx] at hr
              cases hr' : a.eval x <;> rw [hr'] at hr <;> cases hr
              obtain ⟨g1, g2, g3, g4, g5⟩ := sliceBounds_run (P := P) (M := M) (ρ := a.eval) true w hb (Nat.le_refl c) hm hhi hlo
              have hmm : (if mx.isSome = true then m else c) = m := by
                cases mx with
                | none => simp [g5 rfl]
                | some _ => simp
              rw [hmm] at g1
              refine ⟨.slice none (hh - l) (m - l), ?_, .sln _ _⟩
              generalize a.eval = ρ at *
              simp only [execOp, e, hr', Instr.sliceAt, Sem.run_bind, run_underlying hu, Result.andThen_ok, Instr.slice, g1, szT_run hk, Sem.run_pure]
              simp
            · rename_i b off
              split at h
              · rename_i cs j T0 g hlk
                split at h
                · rename_i hT
                  simp at h
                  obtain ⟨rfl, rfl⟩ := h
                  refine .same fun M a w hv hw => ?_
                  obtain ⟨hr, hb⟩ := opd_slice e hv
                  rw [hx] at hr
                  obtain ⟨L0, hL0, hob⟩ := hw.live b _ hlk
                  cases hr' : a.eval x <;> rw [hr'] at hr <;> cases hr
                  rename_i c' L off' hL hS
                  rw [hL0] at hL; simp at hL; subst hL
                  have hcc : c ≤ c' := by
                    rcases hS with ⟨_, hS⟩ | ⟨_, _, _, hS, _⟩
                    · omega
                    · exact hS
                  obtain ⟨g1, g2, g3, g4, g5⟩ := sliceBounds_run (P := P) (M := M) (ρ := a.eval) true w hb hcc hm hhi hlo
                  refine ⟨.slice (some ⟨L0.b, L0.s + (if (if mx.isSome = true then m else c') = l then off' else off' + l * k), none⟩) (hh - l) ((if mx.isSome = true then m else c') - l), ?_, ?_⟩
                  · generalize a.eval = ρ at *
                    simp only [execOp, e, hr', Instr.sliceAt, Sem.run_bind, run_underlying hu, Result.andThen_ok, Instr.slice, g1, szT_run hk, Sem.run_pure]
                    generalize (if mx.isSome = true then m else c') = m'
                    by_cases hq : m' = l
                    · simp [hq]
                    · simp [hq, Addr_add_lit, Nat.add_assoc]
                  · refine .sl hL0 ?_
                    change SlOk L0 (match Nat.beq m l with | true => off | false => off + l * k) _ (hh - l) (m - l) _
                    rw [ite_beq]
                    have hgr : ∀ N k', L0.g = some (N, k') → k' = k := by
                      intro N k' hN
                      obtain ⟨_, _, cs', T', fr, _, _, _, q1, q2⟩ := hob
                      cases g with
                      | false => rw [q1 rfl] at hN; simp at hN
                      | true =>
                        obtain ⟨k2, q3, q4, _⟩ := q2 rfl
                        have : T0 = el := Nat.eq_of_beq_eq_true hT
                        subst this
                        rw [hk] at q3; simp at q3
                        rw [q4] at hN; simp at hN
                        omega
                    rcases hS with ⟨rfl, rfl⟩ | ⟨N, k', hN, hS1, hS2, hS3⟩
                    · refine .inl ?_
                      cases mx with
                      | none => have := g5 rfl; subst this; simp
                      | some _ => simp
                    · obtain rfl := hgr N k' hN
                      cases mx with
                      | some y =>
                        simp only [Option.isSome_some, if_true]
                        rcases hS2 with rfl | ⟨hn0, hc0⟩
                        · exact .inl ⟨rfl, rfl⟩
                        · have hm0 : m = 0 := by omega
                          have hl0 : l = 0 := by omega
                          subst hm0; subst hl0
                          exact .inr ⟨N, k', hN, by omega, .inr ⟨by omega, by omega⟩, by simp; omega⟩
                      | none =>
                        have hmc := g5 rfl
                        subst hmc
                        simp only [Option.isSome_none, Bool.false_eq_true, if_false]
                        have hmul : l * k' + (c' - l) * k' = c' * k' := by rw [← Nat.add_mul]; congr 1; omega
                        rcases hS2 with rfl | ⟨hn0, hc0⟩
                        · by_cases hml : m = l
                          · by_cases hcl : c' = l
                            · exact .inl ⟨by simp [hml, hcl], by omega⟩
                            · refine .inr ⟨N, k', hN, by omega, .inr ⟨by omega, by omega⟩, ?_⟩
                              rw [if_neg hcl]; omega
                          · refine .inr ⟨N, k', hN, by omega, .inl ?_, ?_⟩
                            · rw [if_neg hml, if_neg (by omega)]
                            · rw [if_neg (by omega)]; omega
                        · have hm0 : m = 0 := hc0
                          have hl0 : l = 0 := by omega
                          subst hl0
                          refine .inr ⟨N, k', hN, by omega, .inr ⟨by omega, by omega⟩, ?_⟩
                          simp; omega
                · simp at h
              · simp at h
            · simp at h
          · simp at h
        · simp at h
      · simp at h
    · simp at h
  · rename_i b off hx
    split at h
    · rename_i n el hu
      split at h
      · rename_i k m hk hm
        split at h
        · rename_i hh hhi
          split at h
          · rename_i l hlo
            simp at h
            obtain ⟨rfl, rfl⟩ := h
            refine .same fun M a w hv hw => ?_
            obtain ⟨hr, hb⟩ := opd_slice e hv
            rw [hx] at hr
            cases hr' : a.eval x <;> rw [hr'] at hr <;> cases hr
            rename_i L hL
            obtain ⟨g1, g2, g3, g4, g5⟩ := sliceBounds_run (P := P) (M := M) (ρ := a.eval) false w hb (Nat.le_refl n) hm hhi hlo
            have hmm : (if mx.isSome = true then m else n) = m := by
              cases mx with
              | none => simp [g5 rfl]
              | some _ => simp
            rw [hmm] at g1
            refine ⟨.slice (some ⟨L.b, L.s + (if m = l then off else off + l * k), none⟩) (hh - l) (m - l), ?_, ?_⟩
            · generalize a.eval = ρ at *
              simp only [execOp, e, hr', Instr.sliceAt, Sem.run_bind, run_underlying hu, Result.andThen_ok, Instr.sureAddr, g1, szT_run hk, Sem.run_pure]
              by_cases hq : m = l
              · simp [hq]
              · simp [hq, Addr_add_lit, Nat.add_assoc]
            · refine .sl hL (.inl ⟨?_, rfl⟩)
              exact ite_beq.symm
          · simp at h
        · simp at h
      · simp at h
    · simp at h
  · split at h
    · rename_i hx
      exact s_sslice e (sv_eq hx) h
    · exact gp_val (by rw [e]; simp) h
end
end Go.X
end
section
set_option linter.unusedVariables false
namespace Go.X
open Go Go.RowKit
section
variable {P : Program} {B : Ban} {lo : Nat} {o : Oper} {tm : T4 Value} {s s' : XS} {v : Value}
/-- A part of an aggregate. -/
theorem part_run {M : Cx} {c c' : List Value} (hc : VRL M c c') (h1 : ∀ v ∈ c, one v = true) {T : TypeId} {off : Nat} {v : Value} (hp : partV P T c (len c) off = some v) (w : World) :
    ∃ v', (part T ⟨c'⟩ off).run P w = .ok v' w ∧ VR M v v' := by
  unfold partV at hp
  split at hp
  · rename_i ha
    split at hp
    · rename_i k hk
      split at hp <;> simp at hp
      subst hp
      refine ⟨.agg ⟨(c'.drop off).take k⟩, ?_, ?_⟩
      · simp [part, isAg_run ha, szT_run hk]
      · rw [tkl_eq, dr_eq]
        exact .agg ((hc.drop off).take k) fun v hv => h1 v (List.mem_of_mem_drop (List.mem_of_mem_take hv))
    · simp at hp
  · rename_i ha
    rw [nth_eq] at hp
    obtain ⟨v', h2, h3⟩ := hc.get off v hp
    refine ⟨v', ?_, h3⟩
    have : (Array.mk c')[off]? = some v' := by simpa using h2
    simp [part, isAg_run ha, this]
  · simp at hp
theorem s_field {T : TypeId} {x : Operand} {f : Nat} (e : o.op = .field T x f) (h : x_field P T (ev tm x) f s = .val v s') : OpV P B lo o tm s v s' := by
  unfold x_field at h
  split at h
  · rename_i c hx
    split at h
    · rename_i fs hu
      split at h
      · rename_i fd hf
        obtain ⟨hp, rfl⟩ := optV_eq h
        refine .same fun M a w hv hw => ?_
        have hr := hv x (by simp [e, Op.operands])
        rw [hx] at hr
        cases hr' : a.eval x <;> rw [hr'] at hr <;> cases hr
        rename_i c c' hc h1
        obtain ⟨v', g1, g2⟩ := part_run hc h1 hp w
        have hf' : fs[f]? = some fd := by simpa using hf
        refine ⟨v', ?_, g2⟩
        generalize a.eval = ρ at *
        simp [execOp, e, hr', Instr.field, run_underlying hu, hf', asAgg, g1]
      · simp at h
    · simp at h
  · simp at h
theorem s_index {T : TypeId} {x i : Operand} (e : o.op = .index T x i) (h : x_index P T (ev tm x) (ev tm i) o tm s = .val v s') : OpV P B lo o tm s v s' := by
  unfold x_index at h
  split at h
  · rename_i c hx
    split at h
    · rename_i n m el hi hu
      split at h
      · rename_i k hle hk
        obtain ⟨hp, rfl⟩ := optV_eq h
        have hlt : n < m := by
          rcases Nat.lt_or_ge n m with q | q
          · exact q
          · rw [Nat.ble_eq_true_of_le q] at hle; simp at hle
        refine .same fun M a w hv hw => ?_
        have hr := hv x (by simp [e, Op.operands])
        obtain ⟨q, hi', _⟩ := natV_spec hi (hv i (by simp [e, Op.operands]))
        rw [hx] at hr
        cases hr' : a.eval x <;> rw [hr'] at hr <;> cases hr
        rename_i c c' hc h1
        obtain ⟨v', g1, g2⟩ := part_run hc h1 hp w
        refine ⟨v', ?_, g2⟩
        have g1' : (part el ⟨c'⟩ (n * k)).run P w = .ok v' w := g1
        generalize a.eval = ρ at *
        simp [execOp, e, hr', hi', Instr.index, asIntOf, run_underlying hu, hlt, szT_run hk, g1']
      · simp at h
    · simp at h
  · exact gp_val (by rw [e]; simp) h
/-! Composed values -/
theorem spl_fold (cs : List Value) : ∀ (off k : Nat) (z : Array Value), off + k + cs.length ≤ z.size →
    (cs.zipIdx k).foldl (fun (acc : Array Value) (x : Value × Nat) => acc.setIfInBounds (off + x.2) x.1) z = (ovl z.toList (off + k) cs).toArray := by
  induction cs with
  | nil =>
    intro off k z hz
    rw [ovl_eq _ _ _ (by simpa using hz)]
    simp
  | cons c cs ih =>
    intro off k z hz
    simp only [List.length_cons] at hz
    simp only [List.zipIdx_cons, List.foldl_cons]
    rw [ih off (k + 1) _ (by simp; omega)]
    apply congrArg List.toArray
    apply List.ext_getElem?
    intro j
    rw [ovl_get (by simp; omega), ovl_get (by simp; omega)]
    simp only [Array.toList_setIfInBounds, List.getElem?_set, List.length_cons, Array.length_toList]
    by_cases h1 : j < off + k
    · rw [if_pos (by omega), if_neg (by omega), if_pos h1]
    · by_cases h2 : j = off + k
      · subst h2
        rw [if_pos (by omega), if_pos rfl, if_pos (by omega), if_neg (by omega), if_pos (by omega)]
        simp
      · rw [if_neg (by omega), if_neg h1]
        by_cases h3 : j < off + k + (cs.length + 1)
        · rw [if_pos (by omega), if_pos h3, show j - (off + k) = (j - (off + (k + 1))) + 1 from by omega]
          simp
        · rw [if_neg (by omega), if_neg h3, if_neg (by omega)]
theorem ovl_VR {M : Cx} {z z' x x' : List Value} {off : Nat} (hz : VRL M z z') (hx : VRL M x x') (h : off + x.length ≤ z.length) : VRL M (ovl z off x) (ovl z' off x') := by
  have e1 := hz.length; have e2 := hx.length
  rw [ovl_eq _ _ _ h, ovl_eq _ _ _ (by omega), e2]
  exact ((hz.take off).append hx).append (hz.drop _)
theorem ovl_mem {α : Type} {z x : List α} {off : Nat} (h : off + x.length ≤ z.length) {y : α} (hy : y ∈ ovl z off x) : y ∈ z ∨ y ∈ x := by
  rw [ovl_eq _ _ _ h] at hy
  simp only [List.mem_append] at hy
  rcases hy with (hy | hy) | hy
  · exact .inl (List.mem_of_mem_take hy)
  · exact .inr hy
  · exact .inl (List.mem_of_mem_drop hy)
theorem ovl_len {α : Type} {z x : List α} {off : Nat} (h : off + x.length ≤ z.length) : (ovl z off x).length = z.length := by
  rw [ovl_eq _ _ _ h]; simp; omega
theorem fill_run {M : Cx} {place : Nat → Option (Nat × Nat)} {pl : List (Nat × Nat)} (hpl : ∀ i x, nth pl i = some x → place i = some x) {m : Nat} : ∀ (ps : List (Nat × Value)) (ps' : List (Nat × Value)) (z z' l : List Value), z.length = m → VRL M z z' → (∀ v ∈ z, one v = true) →
    ps'.length = ps.length → (∀ (j : Nat) x x', ps[j]? = some x → ps'[j]? = some x' → x'.1 = x.1 ∧ VR M x.2 x'.2) → fillL pl m z ps = some l →
    ∃ l', Instr.fill place z'.toArray ps' = some l'.toArray ∧ VRL M l l' ∧ (∀ v ∈ l, one v = true) ∧ l.length = m
  | [], ps', z, z', l, hm, hz, h1, hl, hp, hf => by
    have : ps' = [] := List.length_eq_zero_iff.1 hl
    subst this
    simp [fillL] at hf; subst hf
    exact ⟨z', rfl, hz, h1, hm⟩
  | (i, v) :: ps, [], z, z', l, hm, hz, h1, hl, hp, hf => by simp at hl
  | (i, v) :: ps, (i', v') :: ps', z, z', l, hm, hz, h1, hl, hp, hf => by
    obtain ⟨hi, hv⟩ := hp 0 (i, v) (i', v') (by simp) (by simp)
    simp only at hi hv
    subst hi
    simp only [fillL] at hf
    split at hf
    · rename_i off n hn
      split at hf
      · rename_i hnt
        split at hf
        · rename_i hlen
          split at hf
          · rename_i hle
            have hlen : v.cells.toList.length = n := by rw [← len_eq]; exact Nat.eq_of_beq_eq_true hlen
            have hle : off + n ≤ m := Nat.le_of_ble_eq_true hle
            have hc := hv.cells hnt
            have hcl := hc.length
            have hb : off + v.cells.toList.length ≤ z.length := by omega
            obtain ⟨l', g1, g2⟩ := fill_run hpl ps ps' (ovl z off v.cells.toList) (ovl z' off v'.cells.toList) l (by rw [ovl_len hb, hm]) (ovl_VR hz hc hb)
              (fun u hu => by
                rcases ovl_mem hb hu with hu | hu
                · exact h1 u hu
                · exact hv.cells_one (ntup_one hnt) u hu) (by simpa using hl) (fun j x x' a b => hp (j + 1) x x' (by simpa using a) (by simpa using b)) hf
            refine ⟨l', ?_, g2⟩
            have hz' := hz.length
            have hsz : v'.cells.size = n := by rw [← Array.length_toList, hcl, hlen]
            simp only [Instr.fill, hpl _ _ hn, hsz]
            rw [if_neg (by simp; omega)]
            have hfold := spl_fold v'.cells.toList off 0 z'.toArray (by simp; omega)
            have : v'.cells.zipIdx.foldl (fun (cs : Array Value) (x : Value × Nat) => cs.setIfInBounds (off + x.2) x.1) z'.toArray = (ovl z' off v'.cells.toList).toArray := by
              rw [← Array.foldl_toList, Array.toList_zipIdx]
              simpa using hfold
            rw [this]
            exact g1
          · simp at hf
        · simp at hf
      · simp at hf
    · simp at hf
theorem evP_VR {M : Cx} {ρ : Operand → Value} : ∀ {l : List (Nat × Operand)}, (∀ x ∈ l, VR M (ev tm x.2) (ρ x.2)) →
    (l.map fun (x : Nat × Operand) => (x.1, ρ x.2)).length = (evP tm l).length ∧ ∀ (j : Nat) x x', (evP tm l)[j]? = some x → (l.map fun (x : Nat × Operand) => (x.1, ρ x.2))[j]? = some x' → x'.1 = x.1 ∧ VR M x.2 x'.2
  | [], _ => ⟨rfl, fun j x x' h => by simp [evP] at h⟩
  | (i, y) :: l, h => by
    obtain ⟨g1, g2⟩ := evP_VR (l := l) fun x hx => h x (by simp [hx])
    refine ⟨by simp [evP] at g1 ⊢; omega, fun j x x' a b => ?_⟩
    cases j with
    | zero => simp [evP] at a b; subst a; subst b; exact ⟨rfl, h (i, y) (by simp)⟩
    | succ j => exact g2 j x x' (by simpa [evP] using a) (by simpa using b)
theorem places_eq : ∀ {fs : List Field} {pl : List (Nat × Nat)}, places P fs = some pl → fs.mapM (fun f => (P.info? f.type).map fun i => (f.offset, i.size)) = some pl
  | [], pl, h => by simp [places] at h; simp [h]
  | f :: l, pl, h => by
    simp only [places] at h
    split at h <;> simp at h
    rename_i n r h1 h2
    subst h
    have := places_eq h2
    have h1' : ∃ i, P.info? f.type = some i ∧ i.size = n := by
      unfold szT at h1
      split at h1 <;> simp at h1
      rename_i i hi
      exact ⟨i, hi, h1⟩
    obtain ⟨i, hi, rfl⟩ := h1'
    simp [List.mapM_cons, hi, this]
theorem rows_get : ∀ (m n k i : Nat), (rows n k m)[i]? = if i < m then some (k + i * n, n) else none
  | 0, n, k, i => by simp [rows]
  | m + 1, n, k, 0 => by simp [rows]
  | m + 1, n, k, i + 1 => by
    simp only [rows, List.getElem?_cons_succ, rows_get m n (k + n) i]
    by_cases h : i < m
    · rw [if_pos h, if_pos (by omega), Nat.add_mul]; congr 2; omega
    · rw [if_neg h, if_neg (by omega)]
theorem s_build {T : TypeId} {ps : Array (Nat × Operand)} (e : o.op = .build T ps) (h : x_build P T (evP tm ps.toList) s = .val v s') : OpV P B lo o tm s v s' := by
  have hvp : ∀ {M : Cx} {a : Act}, (∀ x ∈ o.op.operands.toList, VR M (ev tm x) (a.eval x)) → ∀ x ∈ ps.toList, VR M (ev tm x.2) (a.eval x.2) := fun hv x hx => hv x.2 (by simp [e, Op.operands]; exact ⟨x.1, by simpa using hx⟩)
  unfold x_build at h
  split at h
  · rename_i z fs hz hu
    obtain ⟨i, hi, hzu, hna⟩ := zeroT_spec hz
    split at h
    · rename_i pl hpl
      split at h
      · rename_i l hl
        simp at h
        obtain ⟨rfl, rfl⟩ := h
        refine .same fun M a w hv hw => ?_
        obtain ⟨hzc, hz1⟩ := nad2_cells (M := M) hna
        obtain ⟨p1, p2⟩ := evP_VR (hvp hv)
        obtain ⟨l', g1, g2, g3, _⟩ := fill_run (M := M) (place := (pl[·]?)) (pl := pl) (fun i x hx => by rw [nth_eq] at hx; exact hx) _ _ _ _ _ (len_eq _).symm hzc hz1 p1 p2 hl
        refine ⟨.agg ⟨l'⟩, ?_, .agg g2 g3⟩
        have hp2 := run_places (P := P) w fs.toList pl (places_eq hpl)
        generalize a.eval = ρ at *
        have hps : (ps.map fun (x : Nat × Operand) => (x.1, ρ x.2)).toList = ps.toList.map fun (x : Nat × Operand) => (x.1, ρ x.2) := by simp
        simp only [Array.toArray_toList] at g1
        simp [execOp, e, Instr.build, run_underlying hu, typeInfo, zeroValue, hi, hzu, Array.mapM_eq_mapM_toList, hp2, g1]
      · simp at h
    · simp at h
  · rename_i z n el hz hu
    obtain ⟨i, hi, hzu, hna⟩ := zeroT_spec hz
    split at h
    · rename_i k hk
      split at h
      · rename_i l hl
        simp at h
        obtain ⟨rfl, rfl⟩ := h
        refine .same fun M a w hv hw => ?_
        obtain ⟨hzc, hz1⟩ := nad2_cells (M := M) hna
        obtain ⟨p1, p2⟩ := evP_VR (hvp hv)
        obtain ⟨l', g1, g2, g3, _⟩ := fill_run (M := M) (place := fun i => some (i * k, k)) (pl := rows k 0 n) (fun i x hx => by
          rw [nth_eq, rows_get] at hx
          split at hx <;> simp at hx
          rw [← hx]) _ _ _ _ _ (len_eq _).symm hzc hz1 p1 p2 hl
        refine ⟨.agg ⟨l'⟩, ?_, .agg g2 g3⟩
        generalize a.eval = ρ at *
        simp only [Array.toArray_toList] at g1
        simp [execOp, e, Instr.build, run_underlying hu, typeInfo, zeroValue, hi, hzu, szT_run hk, g1]
      · simp at h
    · simp at h
  · simp at h
theorem s_buildSlice {T : TypeId} {n : Nat} {ps : Array (Nat × Operand)} (e : o.op = .buildSlice T n ps) (h : x_buildSlice P T n (evP tm ps.toList) s = .val v s') : OpV P B lo o tm s v s' := by
  have hvp : ∀ {M : Cx} {a : Act}, (∀ x ∈ o.op.operands.toList, VR M (ev tm x) (a.eval x)) → ∀ x ∈ ps.toList, VR M (ev tm x.2) (a.eval x.2) := fun hv x hx => hv x.2 (by simp [e, Op.operands]; exact ⟨x.1, by simpa using hx⟩)
  unfold x_buildSlice at h
  split at h
  · rename_i el hu
    split at h
    · rename_i z k hz
      split at h
      · rename_i l hle hl
        obtain ⟨i, u, hi, hzu, hna, hsz, rfl, hzl⟩ := zc_spec hz
        have hle : n * k ≤ 16777216 := Nat.le_of_ble_eq_true hle
        rcases new_eq h with ⟨ht, h⟩ | h
        · simp at h
          obtain ⟨rfl, rfl⟩ := h
          refine ⟨SF.more _ ht, fun M a w hv hw hf => ?_⟩
          have hn : M s.nx = none := hf s.nx (Nat.le_refl _) (Nat.lt_succ_self _)
          obtain ⟨hzc, hz1⟩ := nad2_cells (M := M) hna
          obtain ⟨p1, p2⟩ := evP_VR (hvp hv)
          obtain ⟨l', g1, g2, g3, g4⟩ := fill_run (M := M) (place := fun i => some (i * k, k)) (pl := rows k 0 n) (fun i x hx => by
            rw [nth_eq, rows_get] at hx
            split at hx <;> simp at hx
            rw [← hx]) _ _ _ _ _ (by rw [rep_length, hzl]; rfl) (rep_VR hzc n) (rep_one hz1 n) p1 p2 hl
          refine ⟨_, .slice (some ⟨w.heap.size, 0, none⟩) n n, w.alloc (.cells l'.toArray el), setM M s.nx ⟨w.heap.size, 0, none⟩, ?_, .inl rfl, ?_, ?_⟩
          · generalize a.eval = ρ at *
            have hs : u.cells.size = k := by simpa using hzl
            have hrow : ∀ z : Array Value, (z = u.cells ∨ n * k = 0) → (Array.range (n * k)).map (fun j => z[j % z.size]!) = (List.replicate n u.cells.toList).flatten.toArray := by
              intro z hz
              rcases hz with rfl | h0
              · have := zeros_eq u.cells.toList n
                rw [hzl] at this
                rw [hs]; exact this
              · rw [h0]
                have : (List.replicate n u.cells.toList).flatten = [] := by
                  apply List.length_eq_zero_iff.1
                  simp [hs]
                  rcases Nat.mul_eq_zero.1 h0 with h0 | h0 <;> simp [h0]
                simp [this]
            have hbs : (Instr.buildSlice T n (ps.map fun x => (x.1, ρ x.2))).run P w = .ok (.slice (some ⟨w.heap.size, 0, none⟩) n n) (w.alloc (.cells l'.toArray el)) := by
              unfold Instr.buildSlice
              simp only [Sem.run_bind, run_underlying hu, Result.andThen_ok, szT_run hsz]
              rw [if_neg (by omega)]
              have hps : (ps.map fun (x : Nat × Operand) => (x.1, ρ x.2)).toList = ps.toList.map fun (x : Nat × Operand) => (x.1, ρ x.2) := by simp
              by_cases h0 : n * k = 0
              · rw [if_pos h0]
                simp only [Sem.run_bind, Sem.run_pure, Result.andThen_ok]
                rw [hrow #[] (.inr h0), hps, g1]
                simp [newRow]
              · rw [if_neg h0]
                have hzv : (zeroValue el).run P w = .ok u w := by simp [zeroValue, typeInfo, hi, hzu]
                simp only [Sem.run_bind, Sem.run_pure, Result.andThen_ok, hzv]
                rw [hrow u.cells (.inl rfl), hps, g1]
                simp [newRow]
            simp [execOp, e, hbs]
          · rw [look_more _ ht]
            have := new_cells (P := P) (T := el) (bnd := bn B s.nx) hw hn g2 g3
            rw [g4] at this
            exact this
          · exact .sl (L := ⟨w.heap.size, 0, none⟩) (by simp [setM]) (.inl ⟨rfl, rfl⟩)
        · simp at h
      · simp at h
    · simp at h
  · simp at h
end
end Go.X
end
section
set_option linter.unusedVariables false
namespace Go.X
open Go Go.RowKit
/-! What strings.Builder does with unsafe pointers -/
section
variable {P : Program} {B : Ban} {lo : Nat} {o : Oper} {tm : T4 Value} {s s' : XS} {v : Value}
theorem szT_info {T : TypeId} {n : Nat} (h : szT P T = some n) : ∃ i, P.info? T = some i ∧ i.size = n := by
  unfold szT at h
  split at h <;> simp at h
  exact ⟨_, by assumption, h⟩
theorem cellsOf_szT {T : TypeId} {n : Nat} (h : szT P T = some n) : P.cellsOf T = n := by
  obtain ⟨i, h1, h2⟩ := szT_info h
  simp [Program.cellsOf, h1, h2]
theorem same_self (e : TypeId) : sameLayout P P.depth e e = true := by
  have hd : P.depth = (2 * (P.types.size + Made.depth) + 1) + 1 := rfl
  rw [hd]
  simp [sameLayout]
theorem lies_row {e : TypeId} {k count off n : Nat} (hk : P.cellsOf e = k + 1) (i : Nat) (ho : off = i * (k + 1)) (hn : i + n ≤ count) : liesAt P P.depth e count off e n = true := by
  have hd : P.depth = (2 * (P.types.size + Made.depth) + 1) + 1 := rfl
  rw [hd]
  simp only [liesAt, Bool.or_eq_true]
  left
  have h1 : off / (k + 1) = i := by rw [ho]; exact Nat.mul_div_cancel _ (by omega)
  have h2 : off % (k + 1) = 0 := by rw [ho]; exact Nat.mul_mod_left _ _
  have h3 : sameLayout P P.depth e e = true := same_self e
  rw [hd] at h3 ⊢
  simp only [rowAt, hk, h1, h2, h3]
  simp [hn]
theorem s_uconv {S T : TypeId} {x : Operand} {n off : Nat} (e : o.op = .convert S T x) (hx : ev tm x = .pointer (some ⟨n, off, none⟩)) (h : x_uconv P B S T n off s = .val v s') : OpV P B lo o tm s v s' := by
  have pt : ∀ {M : Cx} {a : Act} {L : Loc}, (∀ x ∈ o.op.operands.toList, VR M (ev tm x) (a.eval x)) → M n = some L → a.eval x = .pointer (some ⟨L.b, L.s + off, none⟩) := by
    intro M a L hv hL
    have hr := hv x (by simp [e, Op.operands])
    rw [hx] at hr
    cases hr' : a.eval x <;> rw [hr'] at hr <;> cases hr
    rename_i K hK
    rw [hL] at hK; simp at hK; subst hK
    rfl
  unfold x_uconv at h
  split at h
  · rename_i t hS hT
    split at h
    · rename_i c m Tn g k hl hk
      split at h
      · rename_i hb
        simp at h
        obtain ⟨rfl, rfl⟩ := h
        refine .same fun M a w hv hw => ?_
        obtain ⟨L, hL, h1, _, cs, T', fr, h2, h3, _⟩ := hw.live n _ hl
        have hp := pt hv hL
        have hlt : off < c.length := by
          rcases Nat.lt_or_ge off m with q | q
          · omega
          · rw [Nat.ble_eq_true_of_le q] at hb; simp at hb
        obtain ⟨v', q, _⟩ := h3 off c[off] (by simp [hlt])
        have hq := (Array.getElem?_eq_some_iff.1 q).1
        obtain ⟨i, hi, his⟩ := szT_info hk
        have hrun := Lib.run_to_unsafe (P := P) w ⟨L.b, L.s + off, none⟩ hS hT hi (by omega) (e := T'.1) (cells := cs.size) (by simp [World.shape?, h2]) hq
        refine ⟨.pointer (some ⟨L.b, L.s + off, none⟩), ?_, .ptr off hL⟩
        generalize a.eval = ρ at *
        simp [execOp, e, hp, hrun]
      · simp at h
    · simp at h
  · rename_i u hS hT
    split at h
    · rename_i c m e' k hl hk
      split at h
      · rename_i hb hm
        simp at h
        obtain ⟨rfl, rfl⟩ := h
        simp only [Bool.and_eq_true] at hb
        obtain rfl : e' = u := Nat.eq_of_beq_eq_true hb.1
        obtain rfl : off = 0 := Nat.eq_of_beq_eq_true hb.2
        have hm := Nat.le_of_ble_eq_true hm
        refine .same fun M a w hv hw => ?_
        obtain ⟨L, hL, h1, _, cs, ⟨T', hT', hs⟩, fr, h2, h3, _⟩ := hw.live n _ hl
        subst hT'
        have hs := hs rfl
        have hp := pt hv hL
        obtain ⟨v', q, _⟩ := h3 k c[k] (by simp)
        have hq := (Array.getElem?_eq_some_iff.1 q).1
        obtain ⟨i, hi, his⟩ := szT_info hk
        have hco := cellsOf_szT hk
        have hrun := Lib.run_from_unsafe (P := P) w ⟨L.b, L.s + 0, none⟩ hS hT hi (e := T') (cells := cs.size) (by simp [World.shape?, h2]) (lies_row hco 0 (by rw [hs]; simp) (by rw [hco]; exact (Nat.le_div_iff_mul_le (by omega)).2 (by omega)))
        refine ⟨.pointer (some ⟨L.b, L.s + 0, none⟩), ?_, .ptr 0 hL⟩
        generalize a.eval = ρ at *
        simp only [Nat.add_zero] at hp hrun
        simp [execOp, e, hp, hrun]
      · simp at h
    · simp at h
  · simp at h
theorem noEsc_find {fn : Func} (h : fn.name = nes) (k : fn.origin = "") : Extern.findNext fn = none ∧ Extern.find fn = some Extern.AbiNoEscape.same := by
  cases fn
  simp only at h k
  subst h; subst k
  exact ⟨by kernel_rfl, by kernel_rfl⟩
theorem isNE_spec {f : FuncId} (h : isNE P f = true) (x : Value) (w : World) : (callFunc f #[x]).run P w = .ok (.value x) w := by
  unfold isNE at h
  split at h
  · rename_i fn hf
    split at h
    · rename_i hb
      simp only [Bool.and_eq_true, beq_iff_eq] at h
      obtain ⟨h1, h2⟩ := noEsc_find h.1 h.2
      have := run_callFunc_extern (P := P) (f := f) (by simpa using hf) (by rw [h.1]; rfl) (by rw [hb]; rfl) h1 h2 #[x] w
      rw [this]
      rfl
    · simp at h
  · simp at h
theorem frozen_chg {w : World} {b off k : Nat} {cs : Array Value} {T : TypeId} {fr : Nat × Nat} (h : w.heap[b]? = some (.cells cs T fr)) : ∃ fr', Chg1 w (w.freeze ⟨b, off, none⟩ k) b (.cells cs T fr') := by
  have hlt := (Array.getElem?_eq_some_iff.1 h).1
  unfold World.freeze
  split
  · exact ⟨fr, h, fun _ _ => rfl, Kept.refl w⟩
  · obtain ⟨lo, hi⟩ := fr
    refine ⟨if lo == hi then (off, off + k) else (min lo off, max hi (off + k)), ?_, fun j hj => ?_, rfl, rfl, rfl, by simp, fun b' cs' T' fr' e => ?_⟩
    · simp [Array.getElem?_modify, h]
    · simp [Array.getElem?_modify, Ne.symm hj]
    · by_cases q : b = b'
      · subst q
        rw [h] at e; simp at e
        obtain ⟨rfl, rfl, rfl⟩ := e
        exact ⟨cs, ⟨_, by simp [Array.getElem?_modify, h]; rfl⟩, rfl⟩
      · exact ⟨cs', ⟨fr', by simpa [Array.getElem?_modify, q] using e⟩, rfl⟩
theorem ustr_run {w : World} {pt it ty e : TypeId} (hp : P.underlying pt = some (.pointer e)) (hc : P.cellsOf e = 1) {g off : Nat} {cs : Array Value} {fr : Nat × Nat} (hg : w.heap[g]? = some (.cells cs e fr)) (l : List UInt8) (h0 : l ≠ []) (hn : off + l.length ≤ cs.size) (h63 : l.length ≤ 9223372036854775807)
    (hcell : ∀ (j : Nat) x, l[j]? = some x → cs[off + j]? = some (.int .u8 x.toNat)) :
    (Builtin.unsafeString_ #[pt, it] ty #[.pointer (some ⟨g, off, none⟩), .int .i64 l.length]).run P w = .ok (.string ⟨l.toArray⟩) (w.freeze ⟨g, off, none⟩ l.length) := by
  have hsh : w.shape? g = some (e, cs.size) := by simp [World.shape?, hg]
  have hl : l.length ≠ 0 := by simpa using h0
  have hlb := Lib.run_loadBytes (P := P) w l ⟨g, off, none⟩ .empty fun j x hj => by
    rw [Addr.add_lit]
    simp [World.cell?, hg, hcell j x hj]
  have hlies : liesAt P P.depth e (cs.size / P.cellsOf e) off e l.length = true := lies_row (k := 0) hc off (by simp) (by rw [hc]; simpa using hn)
  have h63' : ¬ (9223372036854775807 : Int) < (l.length : Int) := by omega
  obtain ⟨e1, e2, e3, hdef⟩ : ∃ e1 e2 e3 : String, Builtin.unsafeString_ #[pt, it] ty #[.pointer (some ⟨g, off, none⟩), .int .i64 l.length] =
      (do
        let n ← asInt (.int .i64 l.length)
        if n < 0 then runtimePanic (.error e1)
        if n > IntKind.i64.max then unsupported (.unsafePointer e2)
        if n = 0 then pure (.string .empty)
        else if ← variablesAt ⟨g, off, none⟩ (← elemOf pt) n.toNat then do
          let s ← loadBytes ⟨g, off, none⟩ .empty n.toNat
          freeze ⟨g, off, none⟩ n.toNat
          pure (.string s)
        else unsupported (.unsafePointer e3)) := ⟨_, _, _, rfl⟩
  rw [hdef]
  have hmax : IntKind.i64.max = 9223372036854775807 := rfl
  have hneg : ¬ (l.length : Int) < 0 := by omega
  simp [asInt, asIntOf, hmax, h63', hneg, hl, variablesAt, hsh, elemOf, run_underlying hp, hlies, hlb]
end
end Go.X
end
