/-
  The symbolic machine: elements of own slices, read and written. No statement of the seat is proved here.
-/
import Derived.KernelRfl
import Derived.Test.YtadebhbiglmodaaKPlaceArcs1
namespace Go.Proofs.Ytadebhbiglmodaa
namespace NX
open Go Go.RowKit

section
variable {c : Ctx} {M : Mem} {S S' : St} {a : Act} {w : World} {fn : Func} {K : AV → List (Option Blk) → List (Option Sl) → Prop} {k : List It} {bs : List (Option Blk)} {ss : List (Option Sl)}
/-- An own slice's cells are written over. -/
theorem RelS.rewrite (h : RelS c M bs ss w) {j g : Nat} {L : Sl} (hj : oget ss j = some L) (hown : (M.σ j).ownBlock = some g) {w' : World} (hg : w.grownBy w' (some g)) {rows' : List (List AV)} {vss' : List (List Value)} (h1 : AV.isLL M.pure L.n rows' vss')
    (h2 : ∀ v ∈ vss'.flatten, v.oneCell' = true) (h3 : w'.ownsRow 0 L.T L.n (M.σ j) rows'.length vss'.flatten) : RelS c M bs (oput ss j (some ⟨L.T, L.n, rows'⟩)) w' := by
  obtain ⟨g0, vss, _, _, hrow, hmine⟩ := h.slc j L hj
  obtain ⟨m1, m2⟩ := hmine g hown
  have old : ∀ i N, oget (oput ss j (some (⟨L.T, L.n, rows'⟩ : Sl))) i = some N → (i = j ∧ N = ⟨L.T, L.n, rows'⟩) ∨ (i ≠ j ∧ oget ss i = some N) := by
    intro i N hi
    rw [oget_oput] at hi
    split at hi
    · rename_i e; left; exact ⟨e.1, by simpa using hi.symm⟩
    · rename_i e; right; exact ⟨fun x => e ⟨x, oget_lt hj⟩, hi⟩
  have live : ∀ i N, oget (oput ss j (some (⟨L.T, L.n, rows'⟩ : Sl))) i = some N → ∃ N', oget ss i = some N' := by
    intro i N hi
    rcases old i N hi with ⟨rfl, _⟩ | ⟨_, h⟩
    · exact ⟨_, hj⟩
    · exact ⟨_, h⟩
  obtain ⟨e1, e2, e3, e4, e5⟩ := hg
  refine ⟨h.nb, by rw [length_oput]; exact h.ns, h.so, e1.trans h.os, e2.trans h.tape, e3.trans h.output, Nat.le_trans h.size e4, ?_, ?_, h.hold, ?_, ?_, h.d1, ?_, ?_⟩
  · intro k hk hb
    rw [e5 k (Nat.lt_of_lt_of_le hk h.size) (fun e => by
      simp at e; subst e
      rcases m1 with m1 | m1
      · omega
      · exact hb m1)]
    exact h.block k hk hb
  · intro k o hk
    have hlt := (Array.getElem?_eq_some_iff.1 (h.hle k o hk)).1
    rw [e5 k hlt (fun e => by simp at e; subst e; rw [m2] at hk; simp at hk)]
    exact h.hle k o hk
  · intro i B hi
    obtain ⟨g1, g2, vs, g3, g4, g5⟩ := h.blk i B hi
    refine ⟨g1, g2, vs, g3, ?_, g5⟩
    rw [e5 _ (h.blk_lt hi) (fun e => h.d2 i j B L hi hj (by rw [hown]; exact e.symm))]
    exact g4
  · intro i N hi
    rcases old i N hi with ⟨rfl, rfl⟩ | ⟨hne, hi⟩
    · exact ⟨g0, vss', h1, h2, h3, hmine⟩
    · obtain ⟨q0, uss, q1, q2, q3, q4⟩ := h.slc i N hi
      refine ⟨q0, uss, q1, q2, World.ownsRow.kept q3 (row := some g) ⟨e1, e2, e3, e4, e5⟩ (.inr fun e => ?_), q4⟩
      exact hne (h.d3 i j N L g hi hj e hown)
  · intro i t B N hi ht
    obtain ⟨N', hN⟩ := live t N ht
    exact h.d2 i t B N' hi hN
  · intro i t N O g' hi ht
    obtain ⟨N', hN⟩ := live i N hi
    obtain ⟨O', hO⟩ := live t O ht
    exact h.d3 i t N' O' g' hN hO
/-! Elements of own slices -/
theorem own_row (hT : RelT c M S a w) {j i : Nat} {L : Sl} {row : List AV} (hj : oget S.ss j = some L) (hr : L.rows[i]? = some row) :
    ∃ g cap cur vss vs, M.σ j = .slice (some ⟨g, 0, none⟩) L.rows.length cap ∧ w.heap[g]? = some (.cells cur L.T (0, 0)) ∧ cur.size = cap * L.n ∧ L.rows.length ≤ cap ∧ cap ≤ maxLen ∧ AV.isLL M.pure L.n L.rows vss ∧ cur.toList.take (L.rows.length * L.n) = vss.flatten ∧
      (∀ v ∈ vss.flatten, v.oneCell' = true) ∧ vss[i]? = some vs ∧ vs.length = L.n ∧ AV.isL M.pure row vs ∧ (∀ (m : Nat) v, vs[m]? = some v → cur[i * L.n + m]? = some v) := by
  obtain ⟨g0, vss, h1, h2, h3, h4⟩ := hT.st.slc j L hj
  have hlt := (List.getElem?_eq_some_iff.1 hr).1
  rcases h3.2 with ⟨_, e3⟩ | ⟨g, cap, cur, e2, _, e3, e4, e5, e6, e7⟩
  · omega
  · obtain ⟨vs, q1, q2, q3, q4⟩ := isLL_get h1 i row hr
    refine ⟨g, cap, cur, vss, vs, e2, e3, e6, e4, e5, h1, e7, h2, q1, q2, q3, fun m v hm => ?_⟩
    have := q4 m v hm
    rw [← e7, List.getElem?_take] at this
    split at this
    · simpa using this
    · simp at this
theorem sem_idxO {n j : Nat} {x i : X} {z : Int} {L : Sl} (hx : S.x x = .osl j) (hi : S.x i = .iv z) (hj : oget S.ss j = some L) (_ : L.n = n) (h0 : 0 ≤ z) (h1 : z < L.rows.length) : Sem1 c S (.idx n x i) (.oel j (z.toNat * n) 0) S := by
  intro ro hop M a w hT next Q hnx
  obtain ⟨dst, op, ty, pos, af, gd⟩ := ro
  dsimp only at hop
  obtain ⟨T, y, q, e, rfl, hu, hs, rfl, rfl⟩ := cO_idx hop
  have k1 := X_is hT y
  have k2 := X_is hT q
  rw [hx] at k1
  rw [hi] at k2
  obtain ⟨row, hr⟩ : ∃ row, L.rows[z.toNat]? = some row := ⟨_, List.getElem?_eq_getElem (by omega)⟩
  obtain ⟨g, cap, cur, _, _, e2, _, _, _, _, _⟩ := own_row hT hj hr
  have hrun := idx_run (P := c.P) (w := w) hu hs (k1.2.trans e2) k2 h0 h1 dst ty pos af gd
  unfold Oper.wp
  rw [hrun]
  refine hnx M w _ (.refl M) hT.st ⟨k1.1, g, _, cap, e2, ?_⟩
  rw [Addr.add_lit]; simp
theorem V_idxO {d : Option Nat} {g : Option (Nat × Bool)} {l : List EOp} {n j : Nat} {x i : X} {z : Int} {L : Sl} (hg : gm S g) (hx : S.x x = .osl j) (hi : S.x i = .iv z) (hj : oget S.ss j = some L) (hn : L.n = n) (h0 : 0 ≤ z) (h1 : z < L.rows.length)
    (h : V c fn K (.ops l :: k) (S.put d (.oel j (z.toNat * n) 0))) : V c fn K (.ops (⟨d, g, .idx n x i⟩ :: l) :: k) S :=
  V_sem hg (sem_idxO hx hi hj hn h0 h1) rfl h
theorem V_idxOM {α : Type} {l' : List α} {z : Int} {v : α} {d : Option Nat} {g : Option (Nat × Bool)} {l : List EOp} {T n j : Nat} {x i : X} (f : α → List AV) (hv : at_ l' z = some v) (hg : gm S g) (hx : S.x x = .osl j) (hi : S.x i = .iv z) (hj : oget S.ss j = some ⟨T, n, l'.map f⟩)
    (h : V c fn K (.ops l :: k) (S.put d (.oel j (z.toNat * n) 0))) : V c fn K (.ops (⟨d, g, .idx n x i⟩ :: l) :: k) S := by
  obtain ⟨h0, hr⟩ := at_some hv
  have := (List.getElem?_eq_some_iff.1 hr).1
  exact V_idxO hg hx hi hj rfl h0 (by simp; omega) h
theorem at_set {α : Type} {l : List α} {z : Int} {y y' : α} (h : at_ l z = some y) : at_ (l.set z.toNat y') z = some y' := by
  obtain ⟨h0, hr⟩ := at_some h
  have := (List.getElem?_eq_some_iff.1 hr).1
  unfold at_
  rw [if_pos h0]; simp [this]
theorem cO_load {P : Program} {op : Op} {x : X} (ho : cO P op = .load x) : ∃ T y, op = .load T y ∧ aggN P T = some none ∧ cX y = x := by
  cases op
  case load T y =>
    simp only [cO] at ho
    split at ho
    · rename_i h; simp only [EO.load.injEq] at ho; exact ⟨T, y, rfl, h, ho⟩
    · simp at ho
    · simp at ho
  all_goals (simp only [cO] at ho; (repeat' (split at ho)) <;> simp at ho)
theorem cO_loadA {P : Program} {op : Op} {n : Nat} {x : X} (ho : cO P op = .loadA n x) : ∃ T y, op = .load T y ∧ aggN P T = some (some n) ∧ cX y = x := by
  cases op
  case load T y =>
    simp only [cO] at ho
    split at ho
    · simp at ho
    · rename_i h; simp only [EO.loadA.injEq] at ho; exact ⟨T, y, rfl, by rw [h, ho.1], ho.2⟩
    · simp at ho
  all_goals (simp only [cO] at ho; (repeat' (split at ho)) <;> simp at ho)
theorem cO_storeX {P : Program} {op : Op} {n : Nat} {x y : X} (ho : cO P op = .store n x y) : ∃ T p q, op = .store T p q ∧ szOf P T = some n ∧ cX p = x ∧ cX q = y := by
  cases op
  case store T p q =>
    simp only [cO] at ho
    split at ho
    · rename_i n' h; simp only [EO.store.injEq] at ho; exact ⟨T, p, q, rfl, by rw [h, ho.1], ho.2.1, ho.2.2⟩
    · simp at ho
  all_goals (simp only [cO] at ho; (repeat' (split at ho)) <;> simp at ho)
/-- The cells behind a pointer into an own slice. -/
theorem oel_cells (hT : RelT c M S a w) {j i n off m : Nat} {L : Sl} {row l : List AV} {u : Value} (hu : (AV.oel j (i * n) off).is M u) (hj : oget S.ss j = some L) (hn : L.n = n) (hr : L.rows[i]? = some row) (hl : lsub row off m = some l) :
    ∃ g vs, u = .pointer (some ⟨g, i * n + off, none⟩) ∧ AV.isL M l vs ∧ vs.length = m ∧ ∀ (q : Nat) v, vs[q]? = some v → w.cell? ⟨g, i * n + off + q, none⟩ = some v := by
  subst hn
  obtain ⟨_, g', n', cap', e1, rfl⟩ := hu
  obtain ⟨g, cap, cur, vss, vs, e2, e3, _, _, _, _, _, _, _, q2, q3, q4⟩ := own_row hT hj hr
  rw [e2] at e1
  simp only [Value.slice.injEq, Option.some.injEq, Addr.mk.injEq] at e1
  obtain ⟨⟨rfl, _⟩, _⟩ := e1
  obtain ⟨rfl, hle⟩ := lsub_eq hl
  refine ⟨g, (vs.drop off).take m, rfl, isL_mono (pure_le M) _ _ (isL_take m (isL_drop off q3)), by have := isL_length q3; simp; omega, ?_⟩
  intro q v hq
  rw [List.getElem?_take] at hq
  split at hq
  · simp at hq
    have := q4 _ v hq
    simp only [World.cell?, e3]
    simp only [Option.isSome_none, Bool.false_eq_true, if_false]
    rw [Nat.add_assoc]; exact this
  · simp at hq
theorem sem_loadO {j i n off : Nat} {x : X} {L : Sl} {row : List AV} {v : AV} (hx : S.x x = .oel j (i * n) off) (hj : oget S.ss j = some L) (hn : L.n = n) (hr : L.rows[i]? = some row) (hl : lsub row off 1 = some [v]) : Sem1 c S (.load x) v S := by
  intro ro hop M a w hT next Q hnx
  obtain ⟨dst, op, ty, pos, af, gd⟩ := ro
  dsimp only at hop
  obtain ⟨T, y, rfl, hT1, rfl⟩ := cO_load hop
  have k1 := X_is hT y
  rw [hx] at k1
  obtain ⟨g, vs, hu, h2, h3, h4⟩ := oel_cells hT k1 hj hn hr hl
  obtain ⟨u, rfl⟩ : ∃ u, vs = [u] := by
    cases vs with
    | nil => simp at h3
    | cons u r => cases r with
      | nil => exact ⟨u, rfl⟩
      | cons _ _ => simp at h3
  have hc := h4 0 u (by simp)
  have hrun : (execOp a.eval ⟨dst, .load T y, ty, pos, af, gd⟩).run c.P w = .ok (.value u) w := by
    generalize a.eval = ρ at *
    simp only [Nat.add_zero] at hc
    simp [execOp, hu, Instr.loadAt, Instr.sureAddr, loadVar_one hT1 hc]
  unfold Oper.wp
  rw [hrun]
  refine hnx M w u (.refl M) hT.st ?_
  obtain ⟨_, _, h, hy, _⟩ := h2
  simp at h; obtain ⟨rfl, rfl⟩ := h; exact hy
theorem V_loadO {α : Type} {l' : List α} {z : Int} {y : α} {d : Option Nat} {g : Option (Nat × Bool)} {l : List EOp} {j T n off : Nat} {x : X} {v : AV} (f : α → List AV) (hv : at_ l' z = some y) (hg : gm S g) (hx : S.x x = .oel j (z.toNat * n) off) (hj : oget S.ss j = some ⟨T, n, l'.map f⟩)
    (hl : lsub (f y) off 1 = some [v]) (h : V c fn K (.ops l :: k) (S.put d v)) : V c fn K (.ops (⟨d, g, .load x⟩ :: l) :: k) S :=
  V_sem hg (sem_loadO hx hj rfl (row_map (at_some hv).2) hl) rfl h
theorem sem_loadAO {j i n off m : Nat} {x : X} {L : Sl} {row r : List AV} (hx : S.x x = .oel j (i * n) off) (hj : oget S.ss j = some L) (hn : L.n = n) (hr : L.rows[i]? = some row) (hl : lsub row off m = some r) : Sem1 c S (.loadA m x) (.agg r) S := by
  intro ro hop M a w hT next Q hnx
  obtain ⟨dst, op, ty, pos, af, gd⟩ := ro
  dsimp only at hop
  obtain ⟨T, y, rfl, hT1, rfl⟩ := cO_loadA hop
  have k1 := X_is hT y
  rw [hx] at k1
  obtain ⟨g, vs, hu, h2, h3, h4⟩ := oel_cells hT k1 hj hn hr hl
  have hrun : (execOp a.eval ⟨dst, .load T y, ty, pos, af, gd⟩).run c.P w = .ok (.value (.agg vs.toArray)) w := by
    generalize a.eval = ρ at *
    simp [execOp, hu, Instr.loadAt, Instr.sureAddr, loadVar_agg hT1 h3 h4]
  unfold Oper.wp
  rw [hrun]
  exact hnx M w _ (.refl M) hT.st ⟨vs, rfl, h2⟩
theorem V_loadAO {α : Type} {l' : List α} {z : Int} {y : α} {d : Option Nat} {g : Option (Nat × Bool)} {l : List EOp} {j T n off m : Nat} {x : X} {r : List AV} (f : α → List AV) (hv : at_ l' z = some y) (hg : gm S g) (hx : S.x x = .oel j (z.toNat * n) off) (hj : oget S.ss j = some ⟨T, n, l'.map f⟩)
    (hl : lsub (f y) off m = some r) (h : V c fn K (.ops l :: k) (S.put d (.agg r))) : V c fn K (.ops (⟨d, g, .loadA m x⟩ :: l) :: k) S :=
  V_sem hg (sem_loadAO hx hj rfl (row_map (at_some hv).2) hl) rfl h
theorem isLL_set {M : Mem} {n : Nat} : ∀ {rows : List (List AV)} {vss : List (List Value)} {i : Nat} {row : List AV} {vs : List Value}, AV.isLL M n rows vss → AV.isL M row vs → vs.length = n → AV.isLL M n (rows.set i row) (vss.set i vs)
  | [], _, i, _, _, h, _, _ => by simp [AV.isLL] at h; subst h; simp [AV.isLL]
  | r :: rows, _, 0, _, _, ⟨v, q, h0, h1, h2, h3⟩, hr, hl => by subst h0; exact ⟨_, _, rfl, hl, hr, h3⟩
  | r :: rows, _, i + 1, _, _, ⟨v, q, h0, h1, h2, h3⟩, hr, hl => by subst h0; exact ⟨v, _, rfl, h1, h2, isLL_set h3 hr hl⟩
theorem flatten_set {n off : Nat} {cs : List Value} : ∀ {vss : List (List Value)} {i : Nat} {vs : List Value}, (∀ v ∈ vss, v.length = n) → vss[i]? = some vs → off + cs.length ≤ n →
    (vss.set i (vs.take off ++ cs ++ vs.drop (off + cs.length))).flatten = vss.flatten.take (i * n + off) ++ cs ++ vss.flatten.drop (i * n + off + cs.length)
  | [], i, vs, _, h, _ => by simp at h
  | v :: vss, 0, vs, hn, h, hle => by
    simp at h; subst h
    have hv := hn v (by simp)
    simp only [List.set_cons_zero, List.flatten_cons, Nat.zero_mul, Nat.zero_add]
    rw [List.take_append_of_le_length (by omega), List.drop_append_of_le_length (by omega)]
    simp [List.append_assoc]
  | v :: vss, i + 1, vs, hn, h, hle => by
    have hv := hn v (by simp)
    have ih := flatten_set (n := n) (off := off) (cs := cs) (vss := vss) (i := i) (vs := vs) (fun u hu => hn u (by simp [hu])) (by simpa using h) hle
    simp only [List.set_cons_succ, List.flatten_cons]
    rw [ih, show (i + 1) * n + off = v.length + (i * n + off) by rw [hv, Nat.add_mul]; omega, show v.length + (i * n + off) + cs.length = v.length + (i * n + off + cs.length) by omega, List.take_length_add_append, List.drop_length_add_append]
    simp [List.append_assoc]
theorem isLL_len {M : Mem} {n : Nat} : ∀ {rows : List (List AV)} {vss : List (List Value)}, AV.isLL M n rows vss → (∀ v ∈ vss, v.length = n) ∧ vss.length = rows.length
  | [], _, h => by simp [AV.isLL] at h; subst h; simp
  | _ :: rows, _, ⟨v, q, h0, h1, h2, h3⟩ => by
    subst h0
    obtain ⟨k1, k2⟩ := isLL_len h3
    exact ⟨fun u hu => by rcases List.mem_cons.1 hu with rfl | hu; exact h1; exact k1 u hu, by simp [k2]⟩
theorem sem_storeO {j i n off m : Nat} {x y : X} {L : Sl} {row row' cs : List AV} (hx : S.x x = .oel j (i * n) off) (hj : oget S.ss j = some L) (hn : L.n = n) (hr : L.rows[i]? = some row) (hcs : (S.x y).cells = some cs) (hm : llen cs = m) (h1 : allOne cs = true) (hp : puL cs = true)
    (hl : lset row off cs = some row') : Sem1 c S (.store m x y) .un ⟨S.tm, S.bs, oput S.ss j (some ⟨L.T, L.n, L.rows.set i row'⟩)⟩ := by
  intro ro hop M a w hT next Q hnx
  obtain ⟨dst, op, ty, pos, af, gd⟩ := ro
  dsimp only at hop
  obtain ⟨T, p, q, rfl, hsz, rfl, rfl⟩ := cO_storeX hop
  have k1 := X_is hT p
  have k2 := X_is hT q
  subst hn
  rw [hx] at k1
  obtain ⟨_, g', n', cap', e1, hpv⟩ := k1
  obtain ⟨g, cap, cur, vss, vs, e2, e3, e4, e5, e6, e7, e8, e9, q1, q2, q3, q4⟩ := own_row hT hj hr
  rw [e2] at e1
  simp only [Value.slice.injEq, Option.some.injEq, Addr.mk.injEq] at e1
  obtain ⟨⟨rfl, _⟩, _⟩ := e1
  have hcl := cells_of (fun j e => by rw [e] at k2; rw [k2.2]; exact hT.st.so j k2.1) k2 hcs
  have hone := allOne_is hcl h1 hT.st.so
  have hclp := puL_is _ _ hcl hp
  obtain ⟨rfl, hle⟩ := lset_eq hl
  have hlen := isL_length hcl
  have hrl := isL_length q3
  have hlt := (List.getElem?_eq_some_iff.1 hr).1
  obtain ⟨hvn, hvl⟩ := isLL_len e7
  have hi2 : (i + 1) * L.n ≤ cap * L.n := Nat.mul_le_mul_right _ (by omega)
  have hi3 : (i + 1) * L.n ≤ L.rows.length * L.n := Nat.mul_le_mul_right _ (by omega)
  rw [Nat.add_mul, Nat.one_mul] at hi2 hi3
  have hbnd : i * L.n + off + (a.eval q).cells.toList.length ≤ cur.size := by rw [e4]; omega
  have hst := run_storeCells_at c.P g (i * L.n + off) L.T (a.eval q).cells.toList 0 cur w e3 (by omega) hone
  have hsz' : (a.eval q).cells.size = m := by rw [← Array.length_toList, hlen, ← llen_eq]; exact hm
  have hcur' : ∀ v, (cur.toList.take (i * L.n + off) ++ v ++ cur.toList.drop (i * L.n + off + v.length)).length = cur.toList.length ∨ True := fun _ => .inr trivial
  have hrun : (execOp a.eval ⟨dst, .store T p q, ty, pos, af, gd⟩).run c.P w = .ok .skip (w.setRow g (cur.toList.take (i * L.n + off) ++ (a.eval q).cells.toList ++ cur.toList.drop (i * L.n + off + (a.eval q).cells.toList.length)).toArray) := by
    generalize a.eval = ρ at *
    simp only [Nat.add_zero] at hst
    simp only [execOp, hpv, Instr.storeAt, Instr.sureAddr, Sem.run_bind, Sem.run_pure, Result.andThen_ok, storeVar, szOf_run hsz, hsz', ne_eq, not_true_eq_false, if_false]
    rw [hst]
    rfl
  unfold Oper.wp
  rw [hrun]
  refine hnx M _ _ (.refl M) ?_ rfl
  have hvs' : AV.isL M.pure (row.take off ++ cs ++ row.drop (off + cs.length)) (vs.take off ++ (a.eval q).cells.toList ++ vs.drop (off + (a.eval q).cells.toList.length)) :=
    isL_append (isL_append (isL_take off q3) hclp) (by rw [hlen]; exact isL_drop _ q3)
  have hfl := flatten_set (cs := (a.eval q).cells.toList) (off := off) hvn q1 (by omega)
  have hcl2 : cur.toList.length = cap * L.n := by simpa using e4
  have hbl : (w.setRow g (cur.toList.take (i * L.n + off) ++ (a.eval q).cells.toList ++ cur.toList.drop (i * L.n + off + (a.eval q).cells.toList.length)).toArray).heap[g]? = some (.cells (cur.toList.take (i * L.n + off) ++ (a.eval q).cells.toList ++ cur.toList.drop (i * L.n + off + (a.eval q).cells.toList.length)).toArray L.T (0, 0)) := by
    rw [heap_setRow, if_pos rfl, e3]; rfl
  refine hT.st.rewrite hj (g := g) (by rw [e2]; rfl) (w' := w.setRow g (cur.toList.take (i * L.n + off) ++ (a.eval q).cells.toList ++ cur.toList.drop (i * L.n + off + (a.eval q).cells.toList.length)).toArray)
    ⟨rfl, rfl, rfl, by simp [World.setRow], fun k _ hk => by rw [heap_setRow, if_neg (fun e => hk (by rw [e]))]⟩ (vss' := vss.set i (vs.take off ++ (a.eval q).cells.toList ++ vs.drop (off + (a.eval q).cells.toList.length))) ?_ ?_ ?_
  · exact isLL_set e7 hvs' (by simp only [List.length_append, List.length_take, List.length_drop]; omega)
  · intro v hv
    rw [hfl] at hv
    simp only [List.mem_append] at hv
    rcases hv with (hv | hv) | hv
    · exact e9 v (List.mem_of_mem_take hv)
    · exact hone v hv
    · exact e9 v (List.mem_of_mem_drop hv)
  · have hfl2 : vss.flatten.length = L.rows.length * L.n := isLL_flat e7
    refine ⟨?_, .inr ⟨g, cap, _, by rw [List.length_set]; exact e2, Nat.zero_le _, hbl, by rw [List.length_set]; exact e5, e6, ?_, ?_⟩⟩
    · rw [hfl, List.length_set]; simp only [List.length_append, List.length_take, List.length_drop]; omega
    · simp only [List.size_toArray, List.length_append, List.length_take, List.length_drop]; omega
    · rw [hfl, List.length_set, ← e8]
      simp only [List.toList_toArray]
      generalize hN : L.rows.length * L.n = N at *
      generalize hA : i * L.n + off = A at *
      generalize (a.eval q).cells.toList = C at *
      generalize cur.toList = D at *
      rw [List.append_assoc, List.append_assoc, List.take_append, List.take_of_length_le (by rw [List.length_take]; omega), List.take_append, List.take_of_length_le (l := C) (by rw [List.length_take]; omega), List.length_take, Nat.min_eq_left (by omega), List.take_take, Nat.min_eq_left (by omega), List.drop_take]
      congr 3
      omega
theorem V_storeO {α : Type} {l' : List α} {z : Int} {y y' : α} {d : Option Nat} {g : Option (Nat × Bool)} {l : List EOp} {j T n off m : Nat} {x v : X} {cs : List AV} (f : α → List AV) (hv : at_ l' z = some y) (hg : gm S g) (hx : S.x x = .oel j (z.toNat * n) off) (hj : oget S.ss j = some ⟨T, n, l'.map f⟩)
    (hcs : (S.x v).cells = some cs) (hm : llen cs = m) (h1 : allOne cs = true) (hp : puL cs = true) (hl : lset (f y) off cs = some (f y'))
    (h : V c fn K (.ops l :: k) ((⟨S.tm, S.bs, oput S.ss j (some ⟨T, n, (l'.set z.toNat y').map f⟩)⟩ : St).put d .un)) : V c fn K (.ops (⟨d, g, .store m x v⟩ :: l) :: k) S := by
  refine V_sem hg (sem_storeO hx hj rfl (row_map (at_some hv).2) hcs hm h1 hp hl) rfl ?_
  dsimp only
  rw [← List.map_set]
  exact h
end
end NX
end Go.Proofs.Ytadebhbiglmodaa
/-
  The program's data. No statement of the seat is proved here.
-/
namespace Go.Proofs.Ytadebhbiglmodaa
namespace NX
open Go
structure Side where
  Peer : Int
  Epoch : Int
  State : Int
  Fork : Bool
  Dirty : Bool
  Token : Bool
  Bottle : Bool
  Ask : Bool
  deriving DecidableEq, Inhabited
def Side.row (x : Side) : List AV := [.iv x.Peer, .iv x.Epoch, .iv x.State, .bv x.Fork, .bv x.Dirty, .bv x.Token, .bv x.Bottle, .bv x.Ask]
attribute [go_sem] Side.row
structure Diner where
  ID : Int
  Phase : Int
  Sides : (List Side)
  deriving DecidableEq, Inhabited
def Diner.row (x : Diner) : List AV := [.iv x.ID, .iv x.Phase, .sl 8 (List.map Side.row x.Sides)]
attribute [go_sem] Diner.row
structure Msg where
  Kind : Int
  Epoch : Int
  Num : Int
  deriving DecidableEq, Inhabited
def Msg.row (x : Msg) : List AV := [.iv x.Kind, .iv x.Epoch, .iv x.Num]
attribute [go_sem] Msg.row
structure Mail where
  From : Int
  To : Int
  Msg : Msg
  deriving DecidableEq, Inhabited
def Mail.row (x : Mail) : List AV := [.iv x.From, .iv x.To, .iv x.Msg.Kind, .iv x.Msg.Epoch, .iv x.Msg.Num]
attribute [go_sem] Mail.row
structure Scene where
  Diners : (List Diner)
  Mail : (List Mail)
  deriving DecidableEq, Inhabited
def Scene.row (x : Scene) : List AV := [.sl 3 (List.map Diner.row x.Diners), .sl 5 (List.map Mail.row x.Mail)]
attribute [go_sem] Scene.row
structure Edge where
  A : Int
  B : Int
  deriving DecidableEq, Inhabited
def Edge.row (x : Edge) : List AV := [.iv x.A, .iv x.B]
attribute [go_sem] Edge.row
structure Graph where
  N : Int
  Edges : (List Edge)
  deriving DecidableEq, Inhabited
def Graph.row (x : Graph) : List AV := [.iv x.N, .sl 2 (List.map Edge.row x.Edges)]
attribute [go_sem] Graph.row
structure Arc where
  From : Int
  To : Int
  deriving DecidableEq, Inhabited
def Arc.row (x : Arc) : List AV := [.iv x.From, .iv x.To]
attribute [go_sem] Arc.row
structure narthexlaw14_Act where
  K : Int
  A : Int
  B : Int
  deriving DecidableEq, Inhabited
def narthexlaw14_Act.row (x : narthexlaw14_Act) : List AV := [.iv x.K, .iv x.A, .iv x.B]
attribute [go_sem] narthexlaw14_Act.row
end NX
end Go.Proofs.Ytadebhbiglmodaa
/-
  The function slices.IndexFunc[[]narthex/api.Edge,narthex/api.Edge]: its code compiled, a model, and that the code answers as the model. Written by a program of ours (lb.py). No statement of the seat is proved here.
-/
namespace Go.Proofs.Ytadebhbiglmodaa
namespace NX
open Go
set_option maxRecDepth 100000
set_option maxHeartbeats 4000000
def e_slices_IndexFunc_Edge_L0 : EC := .seq (.reg [⟨(some 9), none, .bin .lss (.t 8) (.t 7)⟩]) (.seq (.ite (.t 9) (.skip) (.exit 0)) (.seq (.blk 1 (.seq (.reg [⟨(some 10), none, .mv (.t 8)⟩, ⟨(some 5), none, .mv (.t 10)⟩]) (.seq (.reg [⟨(some 11), none, .mv (.t 1)⟩, ⟨(some 12), none, .mv (.t 0)⟩, ⟨(some 13), none, .mv (.t 5)⟩, ⟨(some 14), none, .idx 2 (.t 12) (.t 13)⟩, ⟨(some 15), none, .loadA 2 (.t 14)⟩, ⟨(some 16), none, .callv (.t 11) [(.t 15)]⟩]) (.ite (.t 16) (.seq (.reg [⟨(some 17), none, .mv (.t 5)⟩, ⟨(some 4), none, .mv (.t 17)⟩]) (.ret)) (.skip))))) (.reg [⟨(some 18), none, .bin .add (.t 8) (.c (.iv 1))⟩, ⟨(some 8), none, .mv (.t 18)⟩])))
def e_slices_IndexFunc_Edge : EC := .seq (.reg [⟨(some 4), none, .mv (.c (.iv 0))⟩]) (.seq (.seq (.reg [⟨(some 6), none, .mv (.t 0)⟩, ⟨(some 7), none, .len (.t 6)⟩, ⟨(some 8), none, .mv (.c (.iv 0))⟩]) (.blk 0 (.loop e_slices_IndexFunc_Edge_L0))) (.seq (.reg [⟨(some 4), none, .mv (.c (.iv (-1)))⟩]) (.ret)))
theorem ok_slices_IndexFunc_Edge : FnOK Try.prog 108 Try.f108 e_slices_IndexFunc_Edge [.t 4] 2 17 := ⟨by kernel_rfl, ⟨_, rfl, by kernel_rfl⟩, by kernel_rfl, by kernel_rfl⟩
/- slices.IndexFunc[[]narthex/api.Edge,narthex/api.Edge] -/
noncomputable def m_slices_IndexFunc_Edge_j1  : Unit → Option Int
| () =>
 some (-1)
noncomputable def m_slices_IndexFunc_Edge_l1 (x1 : (List Edge)) (p1 : (Edge → Option Bool)) : Int → Option (Int ⊕ Int)
| x5 =>
 ifb (decide (x5 < (ln Edge.row x1))) (
 (at_ x1 x5).bind fun x6 =>
 (p1 x6).bind fun x7 =>
 ifb x7 (
 Option.map Sum.inr (some x5)) (
 some (.inl (wr (x5 + 1))))) (
 Option.map Sum.inr (m_slices_IndexFunc_Edge_j1 ()))
noncomputable def m_slices_IndexFunc_Edge (x1 : (List Edge)) (p1 : (Edge → Option Bool)) : Option Int :=
 loop (m_slices_IndexFunc_Edge_l1 x1 p1) 0
theorem k_slices_IndexFunc_Edge (x1 : (List Edge)) (g1 : Nat) (caps1 : List AV) (p1 : (Edge → Option Bool)) (hc1 : CloOK Try.prog g1 caps1 (fun z => [.agg (Edge.row z)]) p1 (fun z => .bv z)) (r : Int) (h : m_slices_IndexFunc_Edge x1 p1 = some r) : FunP Try.prog 108 [.sl 2 (List.map Edge.row x1), .clo g1 caps1] (.iv r) := by
  refine FunP_intro ok_slices_IndexFunc_Edge rfl rfl fun w0 H0 => ?_
  rw [m_slices_IndexFunc_Edge] at h
  refine V_go 11 ?_
  dsimp only [e_slices_IndexFunc_Edge, e_slices_IndexFunc_Edge_L0, go_sem, Nat.reduceBEq, Nat.reduceAdd]
  refine ⟨by simp, ?_⟩
  refine V_join (fun (_ : Unit) => (⟨(an 19 []), [], []⟩ : St)) m_slices_IndexFunc_Edge_j1 r ?_ fun J1 => ?_
  · rintro ⟨⟩ h
    rw [m_slices_IndexFunc_Edge_j1] at h
    try dsimp only
    refine V_go 4 ?_
    dsimp only [e_slices_IndexFunc_Edge, e_slices_IndexFunc_Edge_L0, go_sem, Nat.reduceBEq, Nat.reduceAdd]
    refine ⟨by simp, ?_⟩
    exact M_done (res := fun (r : Int) => .iv r) ok_slices_IndexFunc_Edge h (by first | exact le_refl _ | simp [go_sem])
  · refine V_go 1 ?_
    dsimp only [e_slices_IndexFunc_Edge, e_slices_IndexFunc_Edge_L0, go_sem, Nat.reduceBEq, Nat.reduceAdd]
    refine ⟨by simp, ?_⟩
    refine M_loop h (fun (x5 : Int) => (⟨(.sl 2 (List.map Edge.row x1) :: .clo g1 caps1 :: an 5 (.iv (ln Edge.row x1) :: .iv x5 :: an 10 [])), [], []⟩ : St)) (by simp [go_sem]) (by intro x5; first | rfl | simp [go_sem, puL_ok _ hc1.pu]) ?_
    rintro n1 x5 y1 h hin1 hout1
    rw [m_slices_IndexFunc_Edge_l1] at h
    try dsimp only
    refine V_go 5 ?_
    dsimp only [e_slices_IndexFunc_Edge, e_slices_IndexFunc_Edge_L0, go_sem, Nat.reduceBEq, Nat.reduceAdd]
    refine ⟨by simp, ?_⟩
    refine M_ite h rfl (fun hb h => ?_) (fun hb h => ?_)
    · refine V_go 13 ?_
      dsimp only [e_slices_IndexFunc_Edge, e_slices_IndexFunc_Edge_L0, go_sem, Nat.reduceBEq, Nat.reduceAdd]
      refine ⟨by simp, ?_⟩
      obtain ⟨x6, ex6, h⟩ := Option.bind_eq_some_iff.1 h
      refine V_idxM Edge.row ex6 trivial rfl rfl rfl ?_
      refine V_go 1 ?_
      dsimp only [e_slices_IndexFunc_Edge, e_slices_IndexFunc_Edge_L0, go_sem, Nat.reduceBEq, Nat.reduceAdd]
      refine ⟨by simp, ?_⟩
      obtain ⟨x7, ex7, h⟩ := Option.bind_eq_some_iff.1 h
      refine V_callp trivial rfl hc1 (x := x6) ex7 (by first | exact leL_refl _ | simp [go_sem]) (by first | rfl | simp [go_sem, hc1.pu]) ?_
      refine V_go 1 ?_
      dsimp only [e_slices_IndexFunc_Edge, e_slices_IndexFunc_Edge_L0, go_sem, Nat.reduceBEq, Nat.reduceAdd]
      refine ⟨by simp, ?_⟩
      refine M_ite h rfl (fun hb h => ?_) (fun hb h => ?_)
      · refine V_go 5 ?_
        dsimp only [e_slices_IndexFunc_Edge, e_slices_IndexFunc_Edge_L0, go_sem, Nat.reduceBEq, Nat.reduceAdd]
        refine ⟨by simp, ?_⟩
        exact M_done (res := fun (r : Int) => .iv r) ok_slices_IndexFunc_Edge (M_out h hout1) (by first | exact le_refl _ | simp [go_sem])
      · refine V_go 6 ?_
        dsimp only [e_slices_IndexFunc_Edge, e_slices_IndexFunc_Edge_L0, go_sem, Nat.reduceBEq, Nat.reduceAdd]
        refine ⟨by simp, ?_⟩
        exact M_back h hin1 (by simp [go_sem]) (by first | rfl | simp [go_sem, puL_ok _ hc1.pu])
    · refine V_go 1 ?_
      dsimp only [e_slices_IndexFunc_Edge, e_slices_IndexFunc_Edge_L0, go_sem, Nat.reduceBEq, Nat.reduceAdd]
      refine ⟨by simp, ?_⟩
      exact M_to J1 (s := ()) (M_out h hout1) (by simp [go_sem]) (by first | rfl | simp [go_sem, puL_ok _ hc1.pu])
def f_slices_IndexFunc_Edge_j1 (F : Nat)  : Unit → Option Int
| () =>
 some (-1)
theorem le_slices_IndexFunc_Edge_j1 {F : Nat} : ∀ s, ole (f_slices_IndexFunc_Edge_j1 F s) (m_slices_IndexFunc_Edge_j1 s) := by
  rintro ⟨⟩
  unfold f_slices_IndexFunc_Edge_j1 m_slices_IndexFunc_Edge_j1
  try dsimp only
  repeat' first | with_reducible exact ole_refl _ | assumption | intro _ | with_reducible refine ole_ifb ?_ ?_ | with_reducible refine ole_bind ?_ ?_ | with_reducible refine ole_map ?_ | with_reducible refine ole_loop ?_ | with_reducible apply h_p1
def f_slices_IndexFunc_Edge_l1 (F : Nat) (x1 : (List Edge)) (p1 : (Edge → Option Bool)) : Int → Option (Int ⊕ Int)
| x5 =>
 ifb (decide (x5 < (ln Edge.row x1))) (
 (at_ x1 x5).bind fun x6 =>
 (p1 x6).bind fun x7 =>
 ifb x7 (
 Option.map Sum.inr (some x5)) (
 some (.inl (wr (x5 + 1))))) (
 Option.map Sum.inr (f_slices_IndexFunc_Edge_j1 F ()))
theorem le_slices_IndexFunc_Edge_l1 {F : Nat} {x1 : (List Edge)} {p1 p1_ : (Edge → Option Bool)} (h_p1 : ∀ z, ole (p1 z) (p1_ z)) : ∀ s, ole (f_slices_IndexFunc_Edge_l1 F x1 p1 s) (m_slices_IndexFunc_Edge_l1 x1 p1_ s) := by
  intro x5
  unfold f_slices_IndexFunc_Edge_l1 m_slices_IndexFunc_Edge_l1
  try dsimp only
  repeat' first | with_reducible exact ole_refl _ | assumption | intro _ | with_reducible refine ole_ifb ?_ ?_ | with_reducible refine ole_bind ?_ ?_ | with_reducible refine ole_map ?_ | with_reducible refine ole_loop ?_ | with_reducible apply le_slices_IndexFunc_Edge_j1 | with_reducible apply h_p1
def f_slices_IndexFunc_Edge (F : Nat) (x1 : (List Edge)) (p1 : (Edge → Option Bool)) : Option Int :=
 loopF F (f_slices_IndexFunc_Edge_l1 F x1 p1) 0
theorem le_slices_IndexFunc_Edge {F : Nat} {x1 : (List Edge)} {p1 p1_ : (Edge → Option Bool)} (h_p1 : ∀ z, ole (p1 z) (p1_ z)) : ole (f_slices_IndexFunc_Edge F x1 p1) (m_slices_IndexFunc_Edge x1 p1_) := by
  unfold f_slices_IndexFunc_Edge m_slices_IndexFunc_Edge
  repeat' first | with_reducible exact ole_refl _ | assumption | intro _ | with_reducible refine ole_ifb ?_ ?_ | with_reducible refine ole_bind ?_ ?_ | with_reducible refine ole_map ?_ | with_reducible refine ole_loop ?_ | with_reducible apply le_slices_IndexFunc_Edge_j1 | with_reducible apply le_slices_IndexFunc_Edge_l1 | with_reducible apply h_p1
end NX
end Go.Proofs.Ytadebhbiglmodaa
/-
  The function slices.ContainsFunc[[]narthex/api.Edge,narthex/api.Edge]: its code compiled, a model, and that the code answers as the model. Written by a program of ours (lb.py). No statement of the seat is proved here.
-/
namespace Go.Proofs.Ytadebhbiglmodaa
namespace NX
open Go
set_option maxRecDepth 100000
set_option maxHeartbeats 4000000
def e_slices_ContainsFunc_Edge : EC := .seq (.reg [⟨(some 4), none, .mv (.c .ff)⟩]) (.seq (.reg [⟨(some 5), none, .mv (.t 0)⟩, ⟨(some 6), none, .mv (.t 1)⟩, ⟨(some 7), none, .call 108 [(.t 5), (.t 6)]⟩, ⟨(some 8), none, .bin .geq (.t 7) (.c (.iv 0))⟩, ⟨(some 4), none, .mv (.t 8)⟩]) (.ret))
theorem ok_slices_ContainsFunc_Edge : FnOK Try.prog 80 Try.f80 e_slices_ContainsFunc_Edge [.t 4] 2 7 := ⟨by kernel_rfl, ⟨_, rfl, by kernel_rfl⟩, by kernel_rfl, by kernel_rfl⟩
/- slices.ContainsFunc[[]narthex/api.Edge,narthex/api.Edge] -/
noncomputable def m_slices_ContainsFunc_Edge (x1 : (List Edge)) (p1 : (Edge → Option Bool)) : Option Bool :=
 (m_slices_IndexFunc_Edge x1 p1).bind fun x2 =>
 some (decide (0 ≤ x2))
theorem k_slices_ContainsFunc_Edge (x1 : (List Edge)) (g1 : Nat) (caps1 : List AV) (p1 : (Edge → Option Bool)) (hc1 : CloOK Try.prog g1 caps1 (fun z => [.agg (Edge.row z)]) p1 (fun z => .bv z)) (r : Bool) (h : m_slices_ContainsFunc_Edge x1 p1 = some r) : FunP Try.prog 80 [.sl 2 (List.map Edge.row x1), .clo g1 caps1] (.bv r) := by
  refine FunP_intro ok_slices_ContainsFunc_Edge rfl rfl fun w0 H0 => ?_
  rw [m_slices_ContainsFunc_Edge] at h
  refine V_go 8 ?_
  dsimp only [e_slices_ContainsFunc_Edge, go_sem, Nat.reduceBEq, Nat.reduceAdd]
  refine ⟨by simp, ?_⟩
  obtain ⟨x2, ex2, h⟩ := Option.bind_eq_some_iff.1 h
  refine V_call trivial (k_slices_IndexFunc_Edge x1 _ _ p1 hc1 _ ex2) (by first | exact leL_refl _ | simp [go_sem]) (by first | rfl | simp [go_sem, hc1.pu]) ?_
  refine V_go 3 ?_
  dsimp only [e_slices_ContainsFunc_Edge, go_sem, Nat.reduceBEq, Nat.reduceAdd]
  refine ⟨by simp, ?_⟩
  exact M_done (res := fun (r : Bool) => .bv r) ok_slices_ContainsFunc_Edge h (by first | exact le_refl _ | simp [go_sem])
def f_slices_ContainsFunc_Edge (F : Nat) (x1 : (List Edge)) (p1 : (Edge → Option Bool)) : Option Bool :=
 (f_slices_IndexFunc_Edge F x1 p1).bind fun x2 =>
 some (decide (0 ≤ x2))
theorem le_slices_ContainsFunc_Edge {F : Nat} {x1 : (List Edge)} {p1 p1_ : (Edge → Option Bool)} (h_p1 : ∀ z, ole (p1 z) (p1_ z)) : ole (f_slices_ContainsFunc_Edge F x1 p1) (m_slices_ContainsFunc_Edge x1 p1_) := by
  unfold f_slices_ContainsFunc_Edge m_slices_ContainsFunc_Edge
  repeat' first | with_reducible exact ole_refl _ | assumption | intro _ | with_reducible refine ole_ifb ?_ ?_ | with_reducible refine ole_bind ?_ ?_ | with_reducible refine ole_map ?_ | with_reducible refine ole_loop ?_ | with_reducible apply le_slices_IndexFunc_Edge | with_reducible apply h_p1
end NX
end Go.Proofs.Ytadebhbiglmodaa
/-
  The function slices.IndexFunc[[]int,int]: its code compiled, a model, and that the code answers as the model. Written by a program of ours (lb.py). No statement of the seat is proved here.
-/
namespace Go.Proofs.Ytadebhbiglmodaa
namespace NX
open Go
set_option maxRecDepth 100000
set_option maxHeartbeats 4000000
def e_slices_IndexFunc_int_L0 : EC := .seq (.reg [⟨(some 9), none, .bin .lss (.t 8) (.t 7)⟩]) (.seq (.ite (.t 9) (.skip) (.exit 0)) (.seq (.blk 1 (.seq (.reg [⟨(some 10), none, .mv (.t 8)⟩, ⟨(some 5), none, .mv (.t 10)⟩]) (.seq (.reg [⟨(some 11), none, .mv (.t 1)⟩, ⟨(some 12), none, .mv (.t 0)⟩, ⟨(some 13), none, .mv (.t 5)⟩, ⟨(some 14), none, .idx 1 (.t 12) (.t 13)⟩, ⟨(some 15), none, .load (.t 14)⟩, ⟨(some 16), none, .callv (.t 11) [(.t 15)]⟩]) (.ite (.t 16) (.seq (.reg [⟨(some 17), none, .mv (.t 5)⟩, ⟨(some 4), none, .mv (.t 17)⟩]) (.ret)) (.skip))))) (.reg [⟨(some 18), none, .bin .add (.t 8) (.c (.iv 1))⟩, ⟨(some 8), none, .mv (.t 18)⟩])))
def e_slices_IndexFunc_int : EC := .seq (.reg [⟨(some 4), none, .mv (.c (.iv 0))⟩]) (.seq (.seq (.reg [⟨(some 6), none, .mv (.t 0)⟩, ⟨(some 7), none, .len (.t 6)⟩, ⟨(some 8), none, .mv (.c (.iv 0))⟩]) (.blk 0 (.loop e_slices_IndexFunc_int_L0))) (.seq (.reg [⟨(some 4), none, .mv (.c (.iv (-1)))⟩]) (.ret)))
theorem ok_slices_IndexFunc_int : FnOK Try.prog 111 Try.f111 e_slices_IndexFunc_int [.t 4] 2 17 := ⟨by kernel_rfl, ⟨_, rfl, by kernel_rfl⟩, by kernel_rfl, by kernel_rfl⟩
/- slices.IndexFunc[[]int,int] -/
noncomputable def m_slices_IndexFunc_int_j1  : Unit → Option Int
| () =>
 some (-1)
noncomputable def m_slices_IndexFunc_int_l1 (x1 : (List Int)) (p1 : (Int → Option Bool)) : Int → Option (Int ⊕ Int)
| x5 =>
 ifb (decide (x5 < (ln intRow x1))) (
 (at_ x1 x5).bind fun x6 =>
 (p1 x6).bind fun x7 =>
 ifb x7 (
 Option.map Sum.inr (some x5)) (
 some (.inl (wr (x5 + 1))))) (
 Option.map Sum.inr (m_slices_IndexFunc_int_j1 ()))
noncomputable def m_slices_IndexFunc_int (x1 : (List Int)) (p1 : (Int → Option Bool)) : Option Int :=
 loop (m_slices_IndexFunc_int_l1 x1 p1) 0
theorem k_slices_IndexFunc_int (x1 : (List Int)) (g1 : Nat) (caps1 : List AV) (p1 : (Int → Option Bool)) (hc1 : CloOK Try.prog g1 caps1 (fun z => [.iv z]) p1 (fun z => .bv z)) (r : Int) (h : m_slices_IndexFunc_int x1 p1 = some r) : FunP Try.prog 111 [.sl 1 (List.map intRow x1), .clo g1 caps1] (.iv r) := by
  refine FunP_intro ok_slices_IndexFunc_int rfl rfl fun w0 H0 => ?_
  rw [m_slices_IndexFunc_int] at h
  refine V_go 11 ?_
  dsimp only [e_slices_IndexFunc_int, e_slices_IndexFunc_int_L0, go_sem, Nat.reduceBEq, Nat.reduceAdd]
  refine ⟨by simp, ?_⟩
  refine V_join (fun (_ : Unit) => (⟨(an 19 []), [], []⟩ : St)) m_slices_IndexFunc_int_j1 r ?_ fun J1 => ?_
  · rintro ⟨⟩ h
    rw [m_slices_IndexFunc_int_j1] at h
    try dsimp only
    refine V_go 4 ?_
    dsimp only [e_slices_IndexFunc_int, e_slices_IndexFunc_int_L0, go_sem, Nat.reduceBEq, Nat.reduceAdd]
    refine ⟨by simp, ?_⟩
    exact M_done (res := fun (r : Int) => .iv r) ok_slices_IndexFunc_int h (by first | exact le_refl _ | simp [go_sem])
  · refine V_go 1 ?_
    dsimp only [e_slices_IndexFunc_int, e_slices_IndexFunc_int_L0, go_sem, Nat.reduceBEq, Nat.reduceAdd]
    refine ⟨by simp, ?_⟩
    refine M_loop h (fun (x5 : Int) => (⟨(.sl 1 (List.map intRow x1) :: .clo g1 caps1 :: an 5 (.iv (ln intRow x1) :: .iv x5 :: an 10 [])), [], []⟩ : St)) (by simp [go_sem]) (by intro x5; first | rfl | simp [go_sem, puL_ok _ hc1.pu]) ?_
    rintro n1 x5 y1 h hin1 hout1
    rw [m_slices_IndexFunc_int_l1] at h
    try dsimp only
    refine V_go 5 ?_
    dsimp only [e_slices_IndexFunc_int, e_slices_IndexFunc_int_L0, go_sem, Nat.reduceBEq, Nat.reduceAdd]
    refine ⟨by simp, ?_⟩
    refine M_ite h rfl (fun hb h => ?_) (fun hb h => ?_)
    · refine V_go 13 ?_
      dsimp only [e_slices_IndexFunc_int, e_slices_IndexFunc_int_L0, go_sem, Nat.reduceBEq, Nat.reduceAdd]
      refine ⟨by simp, ?_⟩
      obtain ⟨x6, ex6, h⟩ := Option.bind_eq_some_iff.1 h
      refine V_idxM intRow ex6 trivial rfl rfl rfl ?_
      refine V_go 1 ?_
      dsimp only [e_slices_IndexFunc_int, e_slices_IndexFunc_int_L0, go_sem, Nat.reduceBEq, Nat.reduceAdd]
      refine ⟨by simp, ?_⟩
      obtain ⟨x7, ex7, h⟩ := Option.bind_eq_some_iff.1 h
      refine V_callp trivial rfl hc1 (x := x6) ex7 (by first | exact leL_refl _ | simp [go_sem]) (by first | rfl | simp [go_sem, hc1.pu]) ?_
      refine V_go 1 ?_
      dsimp only [e_slices_IndexFunc_int, e_slices_IndexFunc_int_L0, go_sem, Nat.reduceBEq, Nat.reduceAdd]
      refine ⟨by simp, ?_⟩
      refine M_ite h rfl (fun hb h => ?_) (fun hb h => ?_)
      · refine V_go 5 ?_
        dsimp only [e_slices_IndexFunc_int, e_slices_IndexFunc_int_L0, go_sem, Nat.reduceBEq, Nat.reduceAdd]
        refine ⟨by simp, ?_⟩
        exact M_done (res := fun (r : Int) => .iv r) ok_slices_IndexFunc_int (M_out h hout1) (by first | exact le_refl _ | simp [go_sem])
      · refine V_go 6 ?_
        dsimp only [e_slices_IndexFunc_int, e_slices_IndexFunc_int_L0, go_sem, Nat.reduceBEq, Nat.reduceAdd]
        refine ⟨by simp, ?_⟩
        exact M_back h hin1 (by simp [go_sem]) (by first | rfl | simp [go_sem, puL_ok _ hc1.pu])
    · refine V_go 1 ?_
      dsimp only [e_slices_IndexFunc_int, e_slices_IndexFunc_int_L0, go_sem, Nat.reduceBEq, Nat.reduceAdd]
      refine ⟨by simp, ?_⟩
      exact M_to J1 (s := ()) (M_out h hout1) (by simp [go_sem]) (by first | rfl | simp [go_sem, puL_ok _ hc1.pu])
def f_slices_IndexFunc_int_j1 (F : Nat)  : Unit → Option Int
| () =>
 some (-1)
theorem le_slices_IndexFunc_int_j1 {F : Nat} : ∀ s, ole (f_slices_IndexFunc_int_j1 F s) (m_slices_IndexFunc_int_j1 s) := by
  rintro ⟨⟩
  unfold f_slices_IndexFunc_int_j1 m_slices_IndexFunc_int_j1
  try dsimp only
  repeat' first | with_reducible exact ole_refl _ | assumption | intro _ | with_reducible refine ole_ifb ?_ ?_ | with_reducible refine ole_bind ?_ ?_ | with_reducible refine ole_map ?_ | with_reducible refine ole_loop ?_ | with_reducible apply h_p1
def f_slices_IndexFunc_int_l1 (F : Nat) (x1 : (List Int)) (p1 : (Int → Option Bool)) : Int → Option (Int ⊕ Int)
| x5 =>
 ifb (decide (x5 < (ln intRow x1))) (
 (at_ x1 x5).bind fun x6 =>
 (p1 x6).bind fun x7 =>
 ifb x7 (
 Option.map Sum.inr (some x5)) (
 some (.inl (wr (x5 + 1))))) (
 Option.map Sum.inr (f_slices_IndexFunc_int_j1 F ()))
theorem le_slices_IndexFunc_int_l1 {F : Nat} {x1 : (List Int)} {p1 p1_ : (Int → Option Bool)} (h_p1 : ∀ z, ole (p1 z) (p1_ z)) : ∀ s, ole (f_slices_IndexFunc_int_l1 F x1 p1 s) (m_slices_IndexFunc_int_l1 x1 p1_ s) := by
  intro x5
  unfold f_slices_IndexFunc_int_l1 m_slices_IndexFunc_int_l1
  try dsimp only
  repeat' first | with_reducible exact ole_refl _ | assumption | intro _ | with_reducible refine ole_ifb ?_ ?_ | with_reducible refine ole_bind ?_ ?_ | with_reducible refine ole_map ?_ | with_reducible refine ole_loop ?_ | with_reducible apply le_slices_IndexFunc_int_j1 | with_reducible apply h_p1
def f_slices_IndexFunc_int (F : Nat) (x1 : (List Int)) (p1 : (Int → Option Bool)) : Option Int :=
 loopF F (f_slices_IndexFunc_int_l1 F x1 p1) 0
theorem le_slices_IndexFunc_int {F : Nat} {x1 : (List Int)} {p1 p1_ : (Int → Option Bool)} (h_p1 : ∀ z, ole (p1 z) (p1_ z)) : ole (f_slices_IndexFunc_int F x1 p1) (m_slices_IndexFunc_int x1 p1_) := by
  unfold f_slices_IndexFunc_int m_slices_IndexFunc_int
  repeat' first | with_reducible exact ole_refl _ | assumption | intro _ | with_reducible refine ole_ifb ?_ ?_ | with_reducible refine ole_bind ?_ ?_ | with_reducible refine ole_map ?_ | with_reducible refine ole_loop ?_ | with_reducible apply le_slices_IndexFunc_int_j1 | with_reducible apply le_slices_IndexFunc_int_l1 | with_reducible apply h_p1
end NX
end Go.Proofs.Ytadebhbiglmodaa
/-
  The function slices.ContainsFunc[[]int,int]: its code compiled, a model, and that the code answers as the model. Written by a program of ours (lb.py). No statement of the seat is proved here.
-/
namespace Go.Proofs.Ytadebhbiglmodaa
namespace NX
open Go
set_option maxRecDepth 100000
set_option maxHeartbeats 4000000
def e_slices_ContainsFunc_int : EC := .seq (.reg [⟨(some 4), none, .mv (.c .ff)⟩]) (.seq (.reg [⟨(some 5), none, .mv (.t 0)⟩, ⟨(some 6), none, .mv (.t 1)⟩, ⟨(some 7), none, .call 111 [(.t 5), (.t 6)]⟩, ⟨(some 8), none, .bin .geq (.t 7) (.c (.iv 0))⟩, ⟨(some 4), none, .mv (.t 8)⟩]) (.ret))
theorem ok_slices_ContainsFunc_int : FnOK Try.prog 82 Try.f82 e_slices_ContainsFunc_int [.t 4] 2 7 := ⟨by kernel_rfl, ⟨_, rfl, by kernel_rfl⟩, by kernel_rfl, by kernel_rfl⟩
/- slices.ContainsFunc[[]int,int] -/
noncomputable def m_slices_ContainsFunc_int (x1 : (List Int)) (p1 : (Int → Option Bool)) : Option Bool :=
 (m_slices_IndexFunc_int x1 p1).bind fun x2 =>
 some (decide (0 ≤ x2))
theorem k_slices_ContainsFunc_int (x1 : (List Int)) (g1 : Nat) (caps1 : List AV) (p1 : (Int → Option Bool)) (hc1 : CloOK Try.prog g1 caps1 (fun z => [.iv z]) p1 (fun z => .bv z)) (r : Bool) (h : m_slices_ContainsFunc_int x1 p1 = some r) : FunP Try.prog 82 [.sl 1 (List.map intRow x1), .clo g1 caps1] (.bv r) := by
  refine FunP_intro ok_slices_ContainsFunc_int rfl rfl fun w0 H0 => ?_
  rw [m_slices_ContainsFunc_int] at h
  refine V_go 8 ?_
  dsimp only [e_slices_ContainsFunc_int, go_sem, Nat.reduceBEq, Nat.reduceAdd]
  refine ⟨by simp, ?_⟩
  obtain ⟨x2, ex2, h⟩ := Option.bind_eq_some_iff.1 h
  refine V_call trivial (k_slices_IndexFunc_int x1 _ _ p1 hc1 _ ex2) (by first | exact leL_refl _ | simp [go_sem]) (by first | rfl | simp [go_sem, hc1.pu]) ?_
  refine V_go 3 ?_
  dsimp only [e_slices_ContainsFunc_int, go_sem, Nat.reduceBEq, Nat.reduceAdd]
  refine ⟨by simp, ?_⟩
  exact M_done (res := fun (r : Bool) => .bv r) ok_slices_ContainsFunc_int h (by first | exact le_refl _ | simp [go_sem])
def f_slices_ContainsFunc_int (F : Nat) (x1 : (List Int)) (p1 : (Int → Option Bool)) : Option Bool :=
 (f_slices_IndexFunc_int F x1 p1).bind fun x2 =>
 some (decide (0 ≤ x2))
theorem le_slices_ContainsFunc_int {F : Nat} {x1 : (List Int)} {p1 p1_ : (Int → Option Bool)} (h_p1 : ∀ z, ole (p1 z) (p1_ z)) : ole (f_slices_ContainsFunc_int F x1 p1) (m_slices_ContainsFunc_int x1 p1_) := by
  unfold f_slices_ContainsFunc_int m_slices_ContainsFunc_int
  repeat' first | with_reducible exact ole_refl _ | assumption | intro _ | with_reducible refine ole_ifb ?_ ?_ | with_reducible refine ole_bind ?_ ?_ | with_reducible refine ole_map ?_ | with_reducible refine ole_loop ?_ | with_reducible apply le_slices_IndexFunc_int | with_reducible apply h_p1
end NX
end Go.Proofs.Ytadebhbiglmodaa
/-
  The function slices.IndexFunc[[]narthex/api.Side,narthex/api.Side]: its code compiled, a model, and that the code answers as the model. Written by a program of ours (lb.py). No statement of the seat is proved here.
-/
namespace Go.Proofs.Ytadebhbiglmodaa
namespace NX
open Go
set_option maxRecDepth 100000
set_option maxHeartbeats 4000000
def e_slices_IndexFunc_Side_L0 : EC := .seq (.reg [⟨(some 9), none, .bin .lss (.t 8) (.t 7)⟩]) (.seq (.ite (.t 9) (.skip) (.exit 0)) (.seq (.blk 1 (.seq (.reg [⟨(some 10), none, .mv (.t 8)⟩, ⟨(some 5), none, .mv (.t 10)⟩]) (.seq (.reg [⟨(some 11), none, .mv (.t 1)⟩, ⟨(some 12), none, .mv (.t 0)⟩, ⟨(some 13), none, .mv (.t 5)⟩, ⟨(some 14), none, .idx 8 (.t 12) (.t 13)⟩, ⟨(some 15), none, .loadA 8 (.t 14)⟩, ⟨(some 16), none, .callv (.t 11) [(.t 15)]⟩]) (.ite (.t 16) (.seq (.reg [⟨(some 17), none, .mv (.t 5)⟩, ⟨(some 4), none, .mv (.t 17)⟩]) (.ret)) (.skip))))) (.reg [⟨(some 18), none, .bin .add (.t 8) (.c (.iv 1))⟩, ⟨(some 8), none, .mv (.t 18)⟩])))
def e_slices_IndexFunc_Side : EC := .seq (.reg [⟨(some 4), none, .mv (.c (.iv 0))⟩]) (.seq (.seq (.reg [⟨(some 6), none, .mv (.t 0)⟩, ⟨(some 7), none, .len (.t 6)⟩, ⟨(some 8), none, .mv (.c (.iv 0))⟩]) (.blk 0 (.loop e_slices_IndexFunc_Side_L0))) (.seq (.reg [⟨(some 4), none, .mv (.c (.iv (-1)))⟩]) (.ret)))
theorem ok_slices_IndexFunc_Side : FnOK Try.prog 55 Try.f55 e_slices_IndexFunc_Side [.t 4] 2 17 := ⟨by kernel_rfl, ⟨_, rfl, by kernel_rfl⟩, by kernel_rfl, by kernel_rfl⟩
/- slices.IndexFunc[[]narthex/api.Side,narthex/api.Side] -/
noncomputable def m_slices_IndexFunc_Side_j1  : Unit → Option Int
| () =>
 some (-1)
noncomputable def m_slices_IndexFunc_Side_l1 (x1 : (List Side)) (p1 : (Side → Option Bool)) : Int → Option (Int ⊕ Int)
| x5 =>
 ifb (decide (x5 < (ln Side.row x1))) (
 (at_ x1 x5).bind fun x6 =>
 (p1 x6).bind fun x7 =>
 ifb x7 (
 Option.map Sum.inr (some x5)) (
 some (.inl (wr (x5 + 1))))) (
 Option.map Sum.inr (m_slices_IndexFunc_Side_j1 ()))
noncomputable def m_slices_IndexFunc_Side (x1 : (List Side)) (p1 : (Side → Option Bool)) : Option Int :=
 loop (m_slices_IndexFunc_Side_l1 x1 p1) 0
theorem k_slices_IndexFunc_Side (x1 : (List Side)) (g1 : Nat) (caps1 : List AV) (p1 : (Side → Option Bool)) (hc1 : CloOK Try.prog g1 caps1 (fun z => [.agg (Side.row z)]) p1 (fun z => .bv z)) (r : Int) (h : m_slices_IndexFunc_Side x1 p1 = some r) : FunP Try.prog 55 [.sl 8 (List.map Side.row x1), .clo g1 caps1] (.iv r) := by
  refine FunP_intro ok_slices_IndexFunc_Side rfl rfl fun w0 H0 => ?_
  rw [m_slices_IndexFunc_Side] at h
  refine V_go 11 ?_
  dsimp only [e_slices_IndexFunc_Side, e_slices_IndexFunc_Side_L0, go_sem, Nat.reduceBEq, Nat.reduceAdd]
  refine ⟨by simp, ?_⟩
  refine V_join (fun (_ : Unit) => (⟨(an 19 []), [], []⟩ : St)) m_slices_IndexFunc_Side_j1 r ?_ fun J1 => ?_
  · rintro ⟨⟩ h
    rw [m_slices_IndexFunc_Side_j1] at h
    try dsimp only
    refine V_go 4 ?_
    dsimp only [e_slices_IndexFunc_Side, e_slices_IndexFunc_Side_L0, go_sem, Nat.reduceBEq, Nat.reduceAdd]
    refine ⟨by simp, ?_⟩
    exact M_done (res := fun (r : Int) => .iv r) ok_slices_IndexFunc_Side h (by first | exact le_refl _ | simp [go_sem])
  · refine V_go 1 ?_
    dsimp only [e_slices_IndexFunc_Side, e_slices_IndexFunc_Side_L0, go_sem, Nat.reduceBEq, Nat.reduceAdd]
    refine ⟨by simp, ?_⟩
    refine M_loop h (fun (x5 : Int) => (⟨(.sl 8 (List.map Side.row x1) :: .clo g1 caps1 :: an 5 (.iv (ln Side.row x1) :: .iv x5 :: an 10 [])), [], []⟩ : St)) (by simp [go_sem]) (by intro x5; first | rfl | simp [go_sem, puL_ok _ hc1.pu]) ?_
    rintro n1 x5 y1 h hin1 hout1
    rw [m_slices_IndexFunc_Side_l1] at h
    try dsimp only
    refine V_go 5 ?_
    dsimp only [e_slices_IndexFunc_Side, e_slices_IndexFunc_Side_L0, go_sem, Nat.reduceBEq, Nat.reduceAdd]
    refine ⟨by simp, ?_⟩
    refine M_ite h rfl (fun hb h => ?_) (fun hb h => ?_)
    · refine V_go 13 ?_
      dsimp only [e_slices_IndexFunc_Side, e_slices_IndexFunc_Side_L0, go_sem, Nat.reduceBEq, Nat.reduceAdd]
      refine ⟨by simp, ?_⟩
      obtain ⟨x6, ex6, h⟩ := Option.bind_eq_some_iff.1 h
      refine V_idxM Side.row ex6 trivial rfl rfl rfl ?_
      refine V_go 1 ?_
      dsimp only [e_slices_IndexFunc_Side, e_slices_IndexFunc_Side_L0, go_sem, Nat.reduceBEq, Nat.reduceAdd]
      refine ⟨by simp, ?_⟩
      obtain ⟨x7, ex7, h⟩ := Option.bind_eq_some_iff.1 h
      refine V_callp trivial rfl hc1 (x := x6) ex7 (by first | exact leL_refl _ | simp [go_sem]) (by first | rfl | simp [go_sem, hc1.pu]) ?_
      refine V_go 1 ?_
      dsimp only [e_slices_IndexFunc_Side, e_slices_IndexFunc_Side_L0, go_sem, Nat.reduceBEq, Nat.reduceAdd]
      refine ⟨by simp, ?_⟩
      refine M_ite h rfl (fun hb h => ?_) (fun hb h => ?_)
      · refine V_go 5 ?_
        dsimp only [e_slices_IndexFunc_Side, e_slices_IndexFunc_Side_L0, go_sem, Nat.reduceBEq, Nat.reduceAdd]
        refine ⟨by simp, ?_⟩
        exact M_done (res := fun (r : Int) => .iv r) ok_slices_IndexFunc_Side (M_out h hout1) (by first | exact le_refl _ | simp [go_sem])
      · refine V_go 6 ?_
        dsimp only [e_slices_IndexFunc_Side, e_slices_IndexFunc_Side_L0, go_sem, Nat.reduceBEq, Nat.reduceAdd]
        refine ⟨by simp, ?_⟩
        exact M_back h hin1 (by simp [go_sem]) (by first | rfl | simp [go_sem, puL_ok _ hc1.pu])
    · refine V_go 1 ?_
      dsimp only [e_slices_IndexFunc_Side, e_slices_IndexFunc_Side_L0, go_sem, Nat.reduceBEq, Nat.reduceAdd]
      refine ⟨by simp, ?_⟩
      exact M_to J1 (s := ()) (M_out h hout1) (by simp [go_sem]) (by first | rfl | simp [go_sem, puL_ok _ hc1.pu])
def f_slices_IndexFunc_Side_j1 (F : Nat)  : Unit → Option Int
| () =>
 some (-1)
theorem le_slices_IndexFunc_Side_j1 {F : Nat} : ∀ s, ole (f_slices_IndexFunc_Side_j1 F s) (m_slices_IndexFunc_Side_j1 s) := by
  rintro ⟨⟩
  unfold f_slices_IndexFunc_Side_j1 m_slices_IndexFunc_Side_j1
  try dsimp only
  repeat' first | with_reducible exact ole_refl _ | assumption | intro _ | with_reducible refine ole_ifb ?_ ?_ | with_reducible refine ole_bind ?_ ?_ | with_reducible refine ole_map ?_ | with_reducible refine ole_loop ?_ | with_reducible apply h_p1
def f_slices_IndexFunc_Side_l1 (F : Nat) (x1 : (List Side)) (p1 : (Side → Option Bool)) : Int → Option (Int ⊕ Int)
| x5 =>
 ifb (decide (x5 < (ln Side.row x1))) (
 (at_ x1 x5).bind fun x6 =>
 (p1 x6).bind fun x7 =>
 ifb x7 (
 Option.map Sum.inr (some x5)) (
 some (.inl (wr (x5 + 1))))) (
 Option.map Sum.inr (f_slices_IndexFunc_Side_j1 F ()))
theorem le_slices_IndexFunc_Side_l1 {F : Nat} {x1 : (List Side)} {p1 p1_ : (Side → Option Bool)} (h_p1 : ∀ z, ole (p1 z) (p1_ z)) : ∀ s, ole (f_slices_IndexFunc_Side_l1 F x1 p1 s) (m_slices_IndexFunc_Side_l1 x1 p1_ s) := by
  intro x5
  unfold f_slices_IndexFunc_Side_l1 m_slices_IndexFunc_Side_l1
  try dsimp only
  repeat' first | with_reducible exact ole_refl _ | assumption | intro _ | with_reducible refine ole_ifb ?_ ?_ | with_reducible refine ole_bind ?_ ?_ | with_reducible refine ole_map ?_ | with_reducible refine ole_loop ?_ | with_reducible apply le_slices_IndexFunc_Side_j1 | with_reducible apply h_p1
def f_slices_IndexFunc_Side (F : Nat) (x1 : (List Side)) (p1 : (Side → Option Bool)) : Option Int :=
 loopF F (f_slices_IndexFunc_Side_l1 F x1 p1) 0
theorem le_slices_IndexFunc_Side {F : Nat} {x1 : (List Side)} {p1 p1_ : (Side → Option Bool)} (h_p1 : ∀ z, ole (p1 z) (p1_ z)) : ole (f_slices_IndexFunc_Side F x1 p1) (m_slices_IndexFunc_Side x1 p1_) := by
  unfold f_slices_IndexFunc_Side m_slices_IndexFunc_Side
  repeat' first | with_reducible exact ole_refl _ | assumption | intro _ | with_reducible refine ole_ifb ?_ ?_ | with_reducible refine ole_bind ?_ ?_ | with_reducible refine ole_map ?_ | with_reducible refine ole_loop ?_ | with_reducible apply le_slices_IndexFunc_Side_j1 | with_reducible apply le_slices_IndexFunc_Side_l1 | with_reducible apply h_p1
end NX
end Go.Proofs.Ytadebhbiglmodaa
/-
  The function narthex/graph.Check$1: its code compiled, a model, and that the code answers as the model. Written by a program of ours (lb.py). No statement of the seat is proved here.
-/
namespace Go.Proofs.Ytadebhbiglmodaa
namespace NX
open Go
set_option maxRecDepth 100000
set_option maxHeartbeats 4000000
def e_graph_Check_1 : EC := .seq (.reg [⟨(some 2), none, .box 58 2 (.t 0)⟩, ⟨(some 3), none, .mv (.c .ff)⟩]) (.seq (.reg [⟨(some 4), none, .fld 0 (.t 2)⟩, ⟨(some 5), none, .load (.t 4)⟩, ⟨(some 6), none, .bin .lss (.t 5) (.c (.iv 0))⟩, ⟨(some 7), none, .mv (.t 6)⟩, ⟨(some 8), (some (7, false)), .fld 0 (.t 2)⟩, ⟨(some 9), (some (7, false)), .load (.t 8)⟩, ⟨(some 10), (some (7, false)), .fld 1 (.t 2)⟩, ⟨(some 11), (some (7, false)), .load (.t 10)⟩, ⟨(some 12), (some (7, false)), .bin .geq (.t 9) (.t 11)⟩, ⟨(some 13), none, .pick (.t 7) (.c .tt) (.t 12)⟩, ⟨(some 14), none, .mv (.t 13)⟩, ⟨(some 15), (some (14, false)), .fld 1 (.t 2)⟩, ⟨(some 16), (some (14, false)), .load (.t 15)⟩, ⟨(some 17), (some (14, false)), .fld 0 (.t 1)⟩, ⟨(some 18), (some (14, false)), .load (.t 17)⟩, ⟨(some 19), (some (14, false)), .bin .geq (.t 16) (.t 18)⟩, ⟨(some 20), none, .pick (.t 14) (.c .tt) (.t 19)⟩, ⟨(some 3), none, .mv (.t 20)⟩]) (.ret))
theorem ok_graph_Check_1 : FnOK Try.prog 79 Try.f79 e_graph_Check_1 [.t 3] 2 19 := ⟨by kernel_rfl, ⟨_, rfl, by kernel_rfl⟩, by kernel_rfl, by kernel_rfl⟩
/- narthex/graph.Check$1 -/
noncomputable def m_graph_Check_1_j1  : Bool → Option Bool
| x3 =>
 some x3
noncomputable def m_graph_Check_1 (x1 : Edge) (x2 : Graph) : Option Bool :=
 ifb (decide (x1.A < 0)) (
 m_graph_Check_1_j1 true) (
 ifb (decide (x1.B ≤ x1.A)) (
 m_graph_Check_1_j1 true) (
 m_graph_Check_1_j1 (decide (x2.N ≤ x1.B))))
theorem k_graph_Check_1 (x1 : Edge) (x2 : Graph) (r : Bool) (h : m_graph_Check_1 x1 x2 = some r) : FunP Try.prog 79 [.agg (Edge.row x1), .elt (Graph.row x2) 0] (.bv r) := by
  refine FunP_intro ok_graph_Check_1 rfl rfl fun w0 H0 => ?_
  rw [m_graph_Check_1] at h
  refine V_go 11 ?_
  dsimp only [e_graph_Check_1, go_sem, Nat.reduceBEq, Nat.reduceAdd]
  refine ⟨by simp, ?_⟩
  refine V_join (fun (x3 : Bool) => (⟨(an 3 (.bv x3 :: an 17 [])), [], []⟩ : St)) m_graph_Check_1_j1 r ?_ fun J1 => ?_
  · intro x3 h
    rw [m_graph_Check_1_j1] at h
    try dsimp only
    exact M_done (res := fun (r : Bool) => .bv r) ok_graph_Check_1 h (by first | exact le_refl _ | simp [go_sem])
  · refine M_case 7 h rfl (fun hb h => ?_) (fun hb h => ?_)
    · dsimp only [go_sem, Nat.reduceBEq, Nat.reduceAdd]
      refine V_go 15 ?_
      dsimp only [e_graph_Check_1, go_sem, Nat.reduceBEq, Nat.reduceAdd]
      refine ⟨by simp, ?_⟩
      exact M_to J1 (s := true) h (by simp [go_sem]) (by first | rfl | simp [go_sem])
    · dsimp only [go_sem, Nat.reduceBEq, Nat.reduceAdd]
      refine V_go 7 ?_
      dsimp only [e_graph_Check_1, go_sem, Nat.reduceBEq, Nat.reduceAdd]
      refine ⟨by simp, ?_⟩
      refine M_case 14 h rfl (fun hb h => ?_) (fun hb h => ?_)
      · dsimp only [go_sem, Nat.reduceBEq, Nat.reduceAdd]
        refine V_go 8 ?_
        dsimp only [e_graph_Check_1, go_sem, Nat.reduceBEq, Nat.reduceAdd]
        refine ⟨by simp, ?_⟩
        exact M_to J1 (s := true) h (by simp [go_sem]) (by first | rfl | simp [go_sem])
      · dsimp only [go_sem, Nat.reduceBEq, Nat.reduceAdd]
        refine V_go 8 ?_
        dsimp only [e_graph_Check_1, go_sem, Nat.reduceBEq, Nat.reduceAdd]
        refine ⟨by simp, ?_⟩
        exact M_to J1 (s := decide (x2.N ≤ x1.B)) h (by simp [go_sem]) (by first | rfl | simp [go_sem])
def f_graph_Check_1_j1 (F : Nat)  : Bool → Option Bool
| x3 =>
 some x3
theorem le_graph_Check_1_j1 {F : Nat} : ∀ s, ole (f_graph_Check_1_j1 F s) (m_graph_Check_1_j1 s) := by
  intro x3
  unfold f_graph_Check_1_j1 m_graph_Check_1_j1
  try dsimp only
  repeat' first | with_reducible exact ole_refl _ | assumption | intro _ | with_reducible refine ole_ifb ?_ ?_ | with_reducible refine ole_bind ?_ ?_ | with_reducible refine ole_map ?_ | with_reducible refine ole_loop ?_
def f_graph_Check_1 (F : Nat) (x1 : Edge) (x2 : Graph) : Option Bool :=
 ifb (decide (x1.A < 0)) (
 f_graph_Check_1_j1 F true) (
 ifb (decide (x1.B ≤ x1.A)) (
 f_graph_Check_1_j1 F true) (
 f_graph_Check_1_j1 F (decide (x2.N ≤ x1.B))))
theorem le_graph_Check_1 {F : Nat} {x1 : Edge} {x2 : Graph} : ole (f_graph_Check_1 F x1 x2) (m_graph_Check_1 x1 x2) := by
  unfold f_graph_Check_1 m_graph_Check_1
  repeat' first | with_reducible exact ole_refl _ | assumption | intro _ | with_reducible refine ole_ifb ?_ ?_ | with_reducible refine ole_bind ?_ ?_ | with_reducible refine ole_map ?_ | with_reducible refine ole_loop ?_ | with_reducible apply le_graph_Check_1_j1
end NX
end Go.Proofs.Ytadebhbiglmodaa
/-
  The function cmp.isNaN[int]: its code compiled, a model, and that the code answers as the model. Written by a program of ours (lb.py). No statement of the seat is proved here.
-/
namespace Go.Proofs.Ytadebhbiglmodaa
namespace NX
open Go
set_option maxRecDepth 100000
set_option maxHeartbeats 4000000
def e_cmp_isNaN_int : EC := .seq (.reg [⟨(some 2), none, .mv (.c .ff)⟩]) (.seq (.reg [⟨(some 3), none, .mv (.t 0)⟩, ⟨(some 4), none, .mv (.t 0)⟩, ⟨(some 5), none, .bin .neq (.t 3) (.t 4)⟩, ⟨(some 2), none, .mv (.t 5)⟩]) (.ret))
theorem ok_cmp_isNaN_int : FnOK Try.prog 126 Try.f126 e_cmp_isNaN_int [.t 2] 1 5 := ⟨by kernel_rfl, ⟨_, rfl, by kernel_rfl⟩, by kernel_rfl, by kernel_rfl⟩
/- cmp.isNaN[int] -/
noncomputable def m_cmp_isNaN_int (x1 : Int) : Option Bool :=
 some (!decide (x1 = x1))
theorem k_cmp_isNaN_int (x1 : Int) (r : Bool) (h : m_cmp_isNaN_int x1 = some r) : FunP Try.prog 126 [.iv x1] (.bv r) := by
  refine FunP_intro ok_cmp_isNaN_int rfl rfl fun w0 H0 => ?_
  rw [m_cmp_isNaN_int] at h
  refine V_go 11 ?_
  dsimp only [e_cmp_isNaN_int, go_sem, Nat.reduceBEq, Nat.reduceAdd]
  refine ⟨by simp, ?_⟩
  exact M_done (res := fun (r : Bool) => .bv r) ok_cmp_isNaN_int h (by first | exact le_refl _ | simp [go_sem])
def f_cmp_isNaN_int (F : Nat) (x1 : Int) : Option Bool :=
 some (!decide (x1 = x1))
theorem le_cmp_isNaN_int {F : Nat} {x1 : Int} : ole (f_cmp_isNaN_int F x1) (m_cmp_isNaN_int x1) := by
  unfold f_cmp_isNaN_int m_cmp_isNaN_int
  repeat' first | with_reducible exact ole_refl _ | assumption | intro _ | with_reducible refine ole_ifb ?_ ?_ | with_reducible refine ole_bind ?_ ?_ | with_reducible refine ole_map ?_ | with_reducible refine ole_loop ?_
end NX
end Go.Proofs.Ytadebhbiglmodaa
/-
  The function cmp.Compare[int]: its code compiled, a model, and that the code answers as the model. Written by a program of ours (lb.py). No statement of the seat is proved here.
-/
namespace Go.Proofs.Ytadebhbiglmodaa
namespace NX
open Go
set_option maxRecDepth 100000
set_option maxHeartbeats 4000000
def e_cmp_Compare_int : EC := .seq (.reg [⟨(some 4), none, .mv (.c (.iv 0))⟩]) (.seq (.reg [⟨(some 7), none, .mv (.t 0)⟩, ⟨(some 8), none, .call 126 [(.t 7)]⟩, ⟨(some 5), none, .mv (.t 8)⟩]) (.seq (.reg [⟨(some 9), none, .mv (.t 1)⟩, ⟨(some 10), none, .call 126 [(.t 9)]⟩, ⟨(some 6), none, .mv (.t 10)⟩]) (.seq (.seq (.reg [⟨(some 11), none, .mv (.t 5)⟩]) (.ite (.t 11) (.seq (.seq (.reg [⟨(some 12), none, .mv (.t 6)⟩]) (.ite (.t 12) (.seq (.reg [⟨(some 4), none, .mv (.c (.iv 0))⟩]) (.ret)) (.skip))) (.seq (.reg [⟨(some 4), none, .mv (.c (.iv (-1)))⟩]) (.ret))) (.skip))) (.seq (.seq (.reg [⟨(some 13), none, .mv (.t 6)⟩]) (.ite (.t 13) (.seq (.reg [⟨(some 4), none, .mv (.c (.iv 1))⟩]) (.ret)) (.skip))) (.seq (.seq (.reg [⟨(some 14), none, .mv (.t 0)⟩, ⟨(some 15), none, .mv (.t 1)⟩, ⟨(some 16), none, .bin .lss (.t 14) (.t 15)⟩]) (.ite (.t 16) (.seq (.reg [⟨(some 4), none, .mv (.c (.iv (-1)))⟩]) (.ret)) (.skip))) (.seq (.seq (.reg [⟨(some 17), none, .mv (.t 0)⟩, ⟨(some 18), none, .mv (.t 1)⟩, ⟨(some 19), none, .bin .gtr (.t 17) (.t 18)⟩]) (.ite (.t 19) (.seq (.reg [⟨(some 4), none, .mv (.c (.iv 1))⟩]) (.ret)) (.skip))) (.seq (.reg [⟨(some 4), none, .mv (.c (.iv 0))⟩]) (.ret))))))))
theorem ok_cmp_Compare_int : FnOK Try.prog 110 Try.f110 e_cmp_Compare_int [.t 4] 2 18 := ⟨by kernel_rfl, ⟨_, rfl, by kernel_rfl⟩, by kernel_rfl, by kernel_rfl⟩
/- cmp.Compare[int] -/
noncomputable def m_cmp_Compare_int (x1 : Int) (x2 : Int) : Option Int :=
 (m_cmp_isNaN_int x1).bind fun x3 =>
 (m_cmp_isNaN_int x2).bind fun x4 =>
 ifb x3 (
 ifb x4 (
 some 0) (
 some (-1))) (
 ifb x4 (
 some 1) (
 ifb (decide (x1 < x2)) (
 some (-1)) (
 ifb (decide (x2 < x1)) (
 some 1) (
 some 0))))
theorem k_cmp_Compare_int (x1 : Int) (x2 : Int) (r : Int) (h : m_cmp_Compare_int x1 x2 = some r) : FunP Try.prog 110 [.iv x1, .iv x2] (.iv r) := by
  refine FunP_intro ok_cmp_Compare_int rfl rfl fun w0 H0 => ?_
  rw [m_cmp_Compare_int] at h
  refine V_go 7 ?_
  dsimp only [e_cmp_Compare_int, go_sem, Nat.reduceBEq, Nat.reduceAdd]
  refine ⟨by simp, ?_⟩
  obtain ⟨x3, ex3, h⟩ := Option.bind_eq_some_iff.1 h
  refine V_call trivial (k_cmp_isNaN_int x1 _ ex3) (by first | exact leL_refl _ | simp [go_sem]) (by first | rfl | simp [go_sem]) ?_
  refine V_go 5 ?_
  dsimp only [e_cmp_Compare_int, go_sem, Nat.reduceBEq, Nat.reduceAdd]
  refine ⟨by simp, ?_⟩
  obtain ⟨x4, ex4, h⟩ := Option.bind_eq_some_iff.1 h
  refine V_call trivial (k_cmp_isNaN_int x2 _ ex4) (by first | exact leL_refl _ | simp [go_sem]) (by first | rfl | simp [go_sem]) ?_
  refine V_go 7 ?_
  dsimp only [e_cmp_Compare_int, go_sem, Nat.reduceBEq, Nat.reduceAdd]
  refine ⟨by simp, ?_⟩
  refine M_ite h rfl (fun hb h => ?_) (fun hb h => ?_)
  · refine V_go 5 ?_
    dsimp only [e_cmp_Compare_int, go_sem, Nat.reduceBEq, Nat.reduceAdd]
    refine ⟨by simp, ?_⟩
    refine M_ite h rfl (fun hb h => ?_) (fun hb h => ?_)
    · refine V_go 4 ?_
      dsimp only [e_cmp_Compare_int, go_sem, Nat.reduceBEq, Nat.reduceAdd]
      refine ⟨by simp, ?_⟩
      exact M_done (res := fun (r : Int) => .iv r) ok_cmp_Compare_int h (by first | exact le_refl _ | simp [go_sem])
    · refine V_go 5 ?_
      dsimp only [e_cmp_Compare_int, go_sem, Nat.reduceBEq, Nat.reduceAdd]
      refine ⟨by simp, ?_⟩
      exact M_done (res := fun (r : Int) => .iv r) ok_cmp_Compare_int h (by first | exact le_refl _ | simp [go_sem])
  · refine V_go 6 ?_
    dsimp only [e_cmp_Compare_int, go_sem, Nat.reduceBEq, Nat.reduceAdd]
    refine ⟨by simp, ?_⟩
    refine M_ite h rfl (fun hb h => ?_) (fun hb h => ?_)
    · refine V_go 4 ?_
      dsimp only [e_cmp_Compare_int, go_sem, Nat.reduceBEq, Nat.reduceAdd]
      refine ⟨by simp, ?_⟩
      exact M_done (res := fun (r : Int) => .iv r) ok_cmp_Compare_int h (by first | exact le_refl _ | simp [go_sem])
    · refine V_go 8 ?_
      dsimp only [e_cmp_Compare_int, go_sem, Nat.reduceBEq, Nat.reduceAdd]
      refine ⟨by simp, ?_⟩
      refine M_ite h rfl (fun hb h => ?_) (fun hb h => ?_)
      · refine V_go 4 ?_
        dsimp only [e_cmp_Compare_int, go_sem, Nat.reduceBEq, Nat.reduceAdd]
        refine ⟨by simp, ?_⟩
        exact M_done (res := fun (r : Int) => .iv r) ok_cmp_Compare_int h (by first | exact le_refl _ | simp [go_sem])
      · refine V_go 8 ?_
        dsimp only [e_cmp_Compare_int, go_sem, Nat.reduceBEq, Nat.reduceAdd]
        refine ⟨by simp, ?_⟩
        refine M_ite h rfl (fun hb h => ?_) (fun hb h => ?_)
        · refine V_go 4 ?_
          dsimp only [e_cmp_Compare_int, go_sem, Nat.reduceBEq, Nat.reduceAdd]
          refine ⟨by simp, ?_⟩
          exact M_done (res := fun (r : Int) => .iv r) ok_cmp_Compare_int h (by first | exact le_refl _ | simp [go_sem])
        · refine V_go 5 ?_
          dsimp only [e_cmp_Compare_int, go_sem, Nat.reduceBEq, Nat.reduceAdd]
          refine ⟨by simp, ?_⟩
          exact M_done (res := fun (r : Int) => .iv r) ok_cmp_Compare_int h (by first | exact le_refl _ | simp [go_sem])
def f_cmp_Compare_int (F : Nat) (x1 : Int) (x2 : Int) : Option Int :=
 (f_cmp_isNaN_int F x1).bind fun x3 =>
 (f_cmp_isNaN_int F x2).bind fun x4 =>
 ifb x3 (
 ifb x4 (
 some 0) (
 some (-1))) (
 ifb x4 (
 some 1) (
 ifb (decide (x1 < x2)) (
 some (-1)) (
 ifb (decide (x2 < x1)) (
 some 1) (
 some 0))))
theorem le_cmp_Compare_int {F : Nat} {x1 : Int} {x2 : Int} : ole (f_cmp_Compare_int F x1 x2) (m_cmp_Compare_int x1 x2) := by
  unfold f_cmp_Compare_int m_cmp_Compare_int
  repeat' first | with_reducible exact ole_refl _ | assumption | intro _ | with_reducible refine ole_ifb ?_ ?_ | with_reducible refine ole_bind ?_ ?_ | with_reducible refine ole_map ?_ | with_reducible refine ole_loop ?_ | with_reducible apply le_cmp_isNaN_int
end NX
end Go.Proofs.Ytadebhbiglmodaa
/-
  The function cmp.Or[int]: its code compiled, a model, and that the code answers as the model. Written by a program of ours (lb.py). No statement of the seat is proved here.
-/
namespace Go.Proofs.Ytadebhbiglmodaa
namespace NX
open Go
set_option maxRecDepth 100000
set_option maxHeartbeats 4000000
def e_cmp_Or_int_L0 : EC := .seq (.reg [⟨(some 9), none, .bin .lss (.t 8) (.t 7)⟩]) (.seq (.ite (.t 9) (.skip) (.exit 0)) (.seq (.blk 1 (.seq (.reg [⟨(some 10), none, .idx 1 (.t 6) (.t 8)⟩, ⟨(some 11), none, .load (.t 10)⟩, ⟨(some 5), none, .mv (.t 11)⟩]) (.seq (.reg [⟨(some 12), none, .mv (.t 5)⟩, ⟨(some 13), none, .mv (.t 3)⟩, ⟨(some 14), none, .bin .neq (.t 12) (.t 13)⟩]) (.ite (.t 14) (.seq (.reg [⟨(some 15), none, .mv (.t 5)⟩, ⟨(some 2), none, .mv (.t 15)⟩]) (.ret)) (.skip))))) (.reg [⟨(some 16), none, .bin .add (.t 8) (.c (.iv 1))⟩, ⟨(some 8), none, .mv (.t 16)⟩])))
def e_cmp_Or_int : EC := .seq (.reg [⟨(some 2), none, .mv (.c (.iv 0))⟩]) (.seq (.reg [⟨(some 3), none, .mv (.c (.iv 0))⟩]) (.seq (.seq (.reg [⟨(some 6), none, .mv (.t 0)⟩, ⟨(some 7), none, .len (.t 6)⟩, ⟨(some 8), none, .mv (.c (.iv 0))⟩]) (.blk 0 (.loop e_cmp_Or_int_L0))) (.seq (.reg [⟨(some 17), none, .mv (.t 3)⟩, ⟨(some 2), none, .mv (.t 17)⟩]) (.ret))))
theorem ok_cmp_Or_int : FnOK Try.prog 109 Try.f109 e_cmp_Or_int [.t 2] 1 17 := ⟨by kernel_rfl, ⟨_, rfl, by kernel_rfl⟩, by kernel_rfl, by kernel_rfl⟩
/- cmp.Or[int] -/
noncomputable def m_cmp_Or_int_j1  : Unit → Option Int
| () =>
 some 0
noncomputable def m_cmp_Or_int_l1 (x1 : (List Int)) : Int → Option (Int ⊕ Int)
| x4 =>
 ifb (decide (x4 < (ln intRow x1))) (
 (at_ x1 x4).bind fun x5 =>
 ifb (!decide (x5 = 0)) (
 Option.map Sum.inr (some x5)) (
 some (.inl (wr (x4 + 1))))) (
 Option.map Sum.inr (m_cmp_Or_int_j1 ()))
noncomputable def m_cmp_Or_int (x1 : (List Int)) : Option Int :=
 loop (m_cmp_Or_int_l1 x1) 0
theorem k_cmp_Or_int (x1 : (List Int)) (r : Int) (h : m_cmp_Or_int x1 = some r) : FunP Try.prog 109 [.sl 1 (List.map intRow x1)] (.iv r) := by
  refine FunP_intro ok_cmp_Or_int rfl rfl fun w0 H0 => ?_
  rw [m_cmp_Or_int] at h
  refine V_go 15 ?_
  dsimp only [e_cmp_Or_int, e_cmp_Or_int_L0, go_sem, Nat.reduceBEq, Nat.reduceAdd]
  refine ⟨by simp, ?_⟩
  refine V_join (fun (_ : Unit) => (⟨(an 3 (.iv 0 :: an 14 [])), [], []⟩ : St)) m_cmp_Or_int_j1 r ?_ fun J1 => ?_
  · rintro ⟨⟩ h
    rw [m_cmp_Or_int_j1] at h
    try dsimp only
    refine V_go 5 ?_
    dsimp only [e_cmp_Or_int, e_cmp_Or_int_L0, go_sem, Nat.reduceBEq, Nat.reduceAdd]
    refine ⟨by simp, ?_⟩
    exact M_done (res := fun (r : Int) => .iv r) ok_cmp_Or_int h (by first | exact le_refl _ | simp [go_sem])
  · refine V_go 1 ?_
    dsimp only [e_cmp_Or_int, e_cmp_Or_int_L0, go_sem, Nat.reduceBEq, Nat.reduceAdd]
    refine ⟨by simp, ?_⟩
    refine M_loop h (fun (x4 : Int) => (⟨(an 3 (.iv 0 :: .any :: .any :: .sl 1 (List.map intRow x1) :: .iv (ln intRow x1) :: .iv x4 :: an 9 [])), [], []⟩ : St)) (by simp [go_sem]) (by intro x4; first | rfl | simp [go_sem]) ?_
    rintro n1 x4 y1 h hin1 hout1
    rw [m_cmp_Or_int_l1] at h
    try dsimp only
    refine V_go 5 ?_
    dsimp only [e_cmp_Or_int, e_cmp_Or_int_L0, go_sem, Nat.reduceBEq, Nat.reduceAdd]
    refine ⟨by simp, ?_⟩
    refine M_ite h rfl (fun hb h => ?_) (fun hb h => ?_)
    · refine V_go 5 ?_
      dsimp only [e_cmp_Or_int, e_cmp_Or_int_L0, go_sem, Nat.reduceBEq, Nat.reduceAdd]
      refine ⟨by simp, ?_⟩
      obtain ⟨x5, ex5, h⟩ := Option.bind_eq_some_iff.1 h
      refine V_idxM intRow ex5 trivial rfl rfl rfl ?_
      refine V_go 9 ?_
      dsimp only [e_cmp_Or_int, e_cmp_Or_int_L0, go_sem, Nat.reduceBEq, Nat.reduceAdd]
      refine ⟨by simp, ?_⟩
      refine M_ite h rfl (fun hb h => ?_) (fun hb h => ?_)
      · refine V_go 5 ?_
        dsimp only [e_cmp_Or_int, e_cmp_Or_int_L0, go_sem, Nat.reduceBEq, Nat.reduceAdd]
        refine ⟨by simp, ?_⟩
        exact M_done (res := fun (r : Int) => .iv r) ok_cmp_Or_int (M_out h hout1) (by first | exact le_refl _ | simp [go_sem])
      · refine V_go 6 ?_
        dsimp only [e_cmp_Or_int, e_cmp_Or_int_L0, go_sem, Nat.reduceBEq, Nat.reduceAdd]
        refine ⟨by simp, ?_⟩
        exact M_back h hin1 (by simp [go_sem]) (by first | rfl | simp [go_sem])
    · refine V_go 1 ?_
      dsimp only [e_cmp_Or_int, e_cmp_Or_int_L0, go_sem, Nat.reduceBEq, Nat.reduceAdd]
      refine ⟨by simp, ?_⟩
      exact M_to J1 (s := ()) (M_out h hout1) (by simp [go_sem]) (by first | rfl | simp [go_sem])
def f_cmp_Or_int_j1 (F : Nat)  : Unit → Option Int
| () =>
 some 0
theorem le_cmp_Or_int_j1 {F : Nat} : ∀ s, ole (f_cmp_Or_int_j1 F s) (m_cmp_Or_int_j1 s) := by
  rintro ⟨⟩
  unfold f_cmp_Or_int_j1 m_cmp_Or_int_j1
  try dsimp only
  repeat' first | with_reducible exact ole_refl _ | assumption | intro _ | with_reducible refine ole_ifb ?_ ?_ | with_reducible refine ole_bind ?_ ?_ | with_reducible refine ole_map ?_ | with_reducible refine ole_loop ?_
def f_cmp_Or_int_l1 (F : Nat) (x1 : (List Int)) : Int → Option (Int ⊕ Int)
| x4 =>
 ifb (decide (x4 < (ln intRow x1))) (
 (at_ x1 x4).bind fun x5 =>
 ifb (!decide (x5 = 0)) (
 Option.map Sum.inr (some x5)) (
 some (.inl (wr (x4 + 1))))) (
 Option.map Sum.inr (f_cmp_Or_int_j1 F ()))
theorem le_cmp_Or_int_l1 {F : Nat} {x1 : (List Int)} : ∀ s, ole (f_cmp_Or_int_l1 F x1 s) (m_cmp_Or_int_l1 x1 s) := by
  intro x4
  unfold f_cmp_Or_int_l1 m_cmp_Or_int_l1
  try dsimp only
  repeat' first | with_reducible exact ole_refl _ | assumption | intro _ | with_reducible refine ole_ifb ?_ ?_ | with_reducible refine ole_bind ?_ ?_ | with_reducible refine ole_map ?_ | with_reducible refine ole_loop ?_ | with_reducible apply le_cmp_Or_int_j1
def f_cmp_Or_int (F : Nat) (x1 : (List Int)) : Option Int :=
 loopF F (f_cmp_Or_int_l1 F x1) 0
theorem le_cmp_Or_int {F : Nat} {x1 : (List Int)} : ole (f_cmp_Or_int F x1) (m_cmp_Or_int x1) := by
  unfold f_cmp_Or_int m_cmp_Or_int
  repeat' first | with_reducible exact ole_refl _ | assumption | intro _ | with_reducible refine ole_ifb ?_ ?_ | with_reducible refine ole_bind ?_ ?_ | with_reducible refine ole_map ?_ | with_reducible refine ole_loop ?_ | with_reducible apply le_cmp_Or_int_j1 | with_reducible apply le_cmp_Or_int_l1
end NX
end Go.Proofs.Ytadebhbiglmodaa
/-
  The function narthex/graph.rank: its code compiled, a model, and that the code answers as the model. Written by a program of ours (lb.py). No statement of the seat is proved here.
-/
namespace Go.Proofs.Ytadebhbiglmodaa
namespace NX
open Go
set_option maxRecDepth 100000
set_option maxHeartbeats 4000000
def e_graph_rank : EC := .seq (.reg [⟨(some 2), none, .box 58 2 (.t 0)⟩, ⟨(some 3), none, .box 58 2 (.t 1)⟩, ⟨(some 4), none, .mv (.c (.iv 0))⟩]) (.seq (.drw [⟨(some 5), none, .fld 0 (.t 2)⟩, ⟨(some 6), none, .load (.t 5)⟩, ⟨(some 7), none, .fld 0 (.t 3)⟩, ⟨(some 8), none, .load (.t 7)⟩, ⟨(some 9), none, .call 110 [(.t 6), (.t 8)]⟩, ⟨(some 10), none, .fld 1 (.t 2)⟩, ⟨(some 11), none, .load (.t 10)⟩, ⟨(some 12), none, .fld 1 (.t 3)⟩, ⟨(some 13), none, .load (.t 12)⟩, ⟨(some 14), none, .call 110 [(.t 11), (.t 13)]⟩, ⟨(some 15), none, .bsl 3 1 2 [.iv 0] [(0, (.t 9)), (1, (.t 14))]⟩, ⟨(some 16), none, .call 109 [(.t 15)]⟩, ⟨(some 4), none, .mv (.t 16)⟩] [[], [0], [], [2], [1, 3], [], [5], [], [7], [6, 8, 4], [4, 9], [10, 9], [11, 11, 0, 1, 2, 3, 4, 5, 6, 7, 8, 9, 10, 11]] [[1], [0, 4], [3], [2, 4], [1, 3, 10], [6], [5, 9], [8], [7, 9], [6, 8, 10], [4, 9, 11], [10, 12], [11]]) (.ret))
theorem ok_graph_rank : FnOK Try.prog 81 Try.f81 e_graph_rank [.t 4] 2 15 := ⟨by kernel_rfl, ⟨_, rfl, by kernel_rfl⟩, by kernel_rfl, by kernel_rfl⟩
/- narthex/graph.rank -/
noncomputable def m_graph_rank (x1 : Edge) (x2 : Edge) : Option Int :=
 (m_cmp_Compare_int x1.A x2.A).bind fun x3 =>
 (m_cmp_Compare_int x1.B x2.B).bind fun x4 =>
 (m_cmp_Or_int ([x3, x4])).bind fun x5 =>
 some x5
theorem k_graph_rank (x1 : Edge) (x2 : Edge) (r : Int) (h : m_graph_rank x1 x2 = some r) : FunP Try.prog 81 [.agg (Edge.row x1), .agg (Edge.row x2)] (.iv r) := by
  refine FunP_intro ok_graph_rank rfl rfl fun w0 H0 => ?_
  rw [m_graph_rank] at h
  refine V_go 7 ?_
  dsimp only [e_graph_rank, go_sem, Nat.reduceBEq, Nat.reduceAdd]
  refine ⟨by simp, ?_⟩
  refine V_drw (by kernel_rfl) fun all hall hs hnap haf => ?_
  dsimp only [go_sem, Nat.reduceBEq, Nat.reduceAdd]
  refine G_goE hall hs haf hnap 8 5 [true, true, true, true, false, true, true, true, true, false, false, false, false] (⟨[.agg [.iv x1.A, .iv x1.B], .agg [.iv x2.A, .iv x2.B], .ptr 0 0, .ptr 1 0, .iv 0, .ptr 0 0, .iv x1.A, .ptr 1 0, .iv x2.A, .un, .ptr 0 1, .iv x1.B, .ptr 1 1, .iv x2.B, .un, .un, .un], [some ⟨58, [.iv x1.A, .iv x1.B]⟩, some ⟨58, [.iv x2.A, .iv x2.B]⟩], []⟩ : St) (by kernel_rfl) ?_
  refine G_one 4 rfl ?_
  obtain ⟨x3, ex3, h⟩ := Option.bind_eq_some_iff.1 h
  refine GO_call hall rfl trivial (k_cmp_Compare_int x1.A x2.A _ ex3) (by first | exact leL_refl _ | simp [go_sem]) (by first | rfl | simp [go_sem]) ?_
  dsimp only [go_sem, Nat.reduceBEq, Nat.reduceAdd]
  refine G_one 9 rfl ?_
  obtain ⟨x4, ex4, h⟩ := Option.bind_eq_some_iff.1 h
  refine GO_call hall rfl trivial (k_cmp_Compare_int x1.B x2.B _ ex4) (by first | exact leL_refl _ | simp [go_sem]) (by first | rfl | simp [go_sem]) ?_
  dsimp only [go_sem, Nat.reduceBEq, Nat.reduceAdd]
  refine G_one 10 rfl ?_
  refine GO_ev hall rfl trivial ?_
  dsimp only [go_sem, Nat.reduceBEq, Nat.reduceAdd]
  refine G_one 11 rfl ?_
  obtain ⟨x5, ex5, h⟩ := Option.bind_eq_some_iff.1 h
  refine GO_callL hall rfl trivial ((Lend.refl _).slice 0 rfl) (k_cmp_Or_int ([x3, x4]) _ ex5) (by first | exact leL_refl _ | simp [go_sem]) (by first | rfl | simp [go_sem]) rfl ?_
  dsimp only [go_sem, Nat.reduceBEq, Nat.reduceAdd]
  refine G_goN hall hs haf hnap 1 0 ?_
  dsimp only [go_sem, Nat.reduceBEq, Nat.reduceAdd]
  refine ⟨by simp, ?_⟩
  refine G_done rfl ?_ _
  exact M_done (res := fun (r : Int) => .iv r) ok_graph_rank h (by first | exact le_refl _ | simp [go_sem])
def f_graph_rank (F : Nat) (x1 : Edge) (x2 : Edge) : Option Int :=
 (f_cmp_Compare_int F x1.A x2.A).bind fun x3 =>
 (f_cmp_Compare_int F x1.B x2.B).bind fun x4 =>
 (f_cmp_Or_int F ([x3, x4])).bind fun x5 =>
 some x5
theorem le_graph_rank {F : Nat} {x1 : Edge} {x2 : Edge} : ole (f_graph_rank F x1 x2) (m_graph_rank x1 x2) := by
  unfold f_graph_rank m_graph_rank
  repeat' first | with_reducible exact ole_refl _ | assumption | intro _ | with_reducible refine ole_ifb ?_ ?_ | with_reducible refine ole_bind ?_ ?_ | with_reducible refine ole_map ?_ | with_reducible refine ole_loop ?_ | with_reducible apply le_cmp_Compare_int | with_reducible apply le_cmp_Or_int
end NX
end Go.Proofs.Ytadebhbiglmodaa
/-
  The function narthex/graph.Check: its code compiled, a model, and that the code answers as the model. Written by a program of ours (lb.py). No statement of the seat is proved here.
-/
namespace Go.Proofs.Ytadebhbiglmodaa
namespace NX
open Go
set_option maxRecDepth 100000
set_option maxHeartbeats 4000000
def e_graph_Check_L0 : EC := .seq (.reg [⟨(some 30), none, .bin .lss (.t 29) (.t 28)⟩]) (.seq (.ite (.t 30) (.skip) (.exit 0)) (.seq (.blk 1 (.seq (.reg [⟨(some 31), none, .mv (.t 29)⟩, ⟨(some 4), none, .mv (.t 31)⟩]) (.seq (.drw [⟨(some 32), none, .mv (.t 4)⟩, ⟨(some 33), none, .bin .gtr (.t 32) (.c (.iv 0))⟩, ⟨(some 34), none, .mv (.t 33)⟩, ⟨(some 35), (some (34, true)), .fld 1 (.t 1)⟩, ⟨(some 36), (some (34, true)), .load (.t 35)⟩, ⟨(some 37), (some (34, true)), .mv (.t 4)⟩, ⟨(some 38), (some (34, true)), .bin .sub (.t 37) (.c (.iv 1))⟩, ⟨(some 39), (some (34, true)), .idx 2 (.t 36) (.t 38)⟩, ⟨(some 40), (some (34, true)), .loadA 2 (.t 39)⟩, ⟨(some 41), (some (34, true)), .fld 1 (.t 1)⟩, ⟨(some 42), (some (34, true)), .load (.t 41)⟩, ⟨(some 43), (some (34, true)), .mv (.t 4)⟩, ⟨(some 44), (some (34, true)), .idx 2 (.t 42) (.t 43)⟩, ⟨(some 45), (some (34, true)), .loadA 2 (.t 44)⟩, ⟨(some 46), (some (34, true)), .call 81 [(.t 40), (.t 45)]⟩, ⟨(some 47), (some (34, true)), .bin .geq (.t 46) (.c (.iv 0))⟩, ⟨(some 48), none, .pick (.t 34) (.t 47) (.c .ff)⟩] [[], [0], [1], [2], [3, 2], [2], [5, 2], [4, 6, 2], [7, 2], [2], [9, 2], [2], [10, 11, 2], [12, 2], [8, 13, 2, 2], [14, 2], [2, 15]] [[1], [0, 2], [1, 3, 4, 5, 6, 7, 8, 9, 10, 11, 12, 13, 14, 15, 16], [2, 4], [2, 3, 7], [2, 6], [2, 5, 7], [2, 4, 6, 8], [2, 7, 14], [2, 10], [2, 9, 12], [2, 12], [2, 10, 11, 13], [2, 12, 14], [2, 8, 13, 15], [2, 14, 16], [2, 15]]) (.ite (.t 48) (.seq (.reg [⟨(some 2), none, .mv (.c (.iv 30))⟩]) (.ret)) (.skip))))) (.reg [⟨(some 49), none, .bin .add (.t 29) (.c (.iv 1))⟩, ⟨(some 29), none, .mv (.t 49)⟩])))
def e_graph_Check : EC := .seq (.reg [⟨(some 1), none, .box 24 2 (.t 0)⟩, ⟨(some 2), none, .mv (.c (.iv 0))⟩]) (.seq (.reg [⟨(some 5), none, .mkf 79 [(.t 1)]⟩, ⟨(some 3), none, .mv (.t 5)⟩]) (.seq (.seq (.reg [⟨(some 6), none, .fld 0 (.t 1)⟩, ⟨(some 7), none, .load (.t 6)⟩, ⟨(some 8), none, .bin .lss (.t 7) (.c (.iv 0))⟩, ⟨(some 9), none, .mv (.t 8)⟩, ⟨(some 10), (some (9, false)), .fld 0 (.t 1)⟩, ⟨(some 11), (some (9, false)), .load (.t 10)⟩, ⟨(some 12), (some (9, false)), .bin .gtr (.t 11) (.c (.iv 64))⟩, ⟨(some 13), none, .pick (.t 9) (.c .tt) (.t 12)⟩, ⟨(some 14), none, .mv (.t 13)⟩, ⟨(some 15), (some (14, false)), .fld 1 (.t 1)⟩, ⟨(some 16), (some (14, false)), .load (.t 15)⟩, ⟨(some 17), (some (14, false)), .len (.t 16)⟩, ⟨(some 18), (some (14, false)), .bin .gtr (.t 17) (.c (.iv 400))⟩, ⟨(some 19), none, .pick (.t 14) (.c .tt) (.t 18)⟩, ⟨(some 20), none, .mv (.t 19)⟩, ⟨(some 21), (some (20, false)), .fld 1 (.t 1)⟩, ⟨(some 22), (some (20, false)), .load (.t 21)⟩, ⟨(some 23), (some (20, false)), .mv (.t 3)⟩, ⟨(some 24), (some (20, false)), .call 80 [(.t 22), (.t 23)]⟩, ⟨(some 25), none, .pick (.t 20) (.c .tt) (.t 24)⟩]) (.ite (.t 25) (.seq (.reg [⟨(some 2), none, .mv (.c (.iv 30))⟩]) (.ret)) (.skip))) (.seq (.seq (.reg [⟨(some 26), none, .fld 1 (.t 1)⟩, ⟨(some 27), none, .load (.t 26)⟩, ⟨(some 28), none, .len (.t 27)⟩, ⟨(some 29), none, .mv (.c (.iv 0))⟩]) (.blk 0 (.loop e_graph_Check_L0))) (.seq (.reg [⟨(some 2), none, .mv (.c (.iv 0))⟩]) (.ret)))))
theorem ok_graph_Check : FnOK Try.prog 49 Try.f49 e_graph_Check [.t 2] 1 49 := ⟨by kernel_rfl, ⟨_, rfl, by kernel_rfl⟩, by kernel_rfl, by kernel_rfl⟩
/- narthex/graph.Check -/
noncomputable def m_graph_Check_j2  : Unit → Option Int
| () =>
 some 0
noncomputable def m_graph_Check_j3 (x9 : Int) : Bool → Option (Int ⊕ Int)
| x13 =>
 ifb x13 (
 Option.map Sum.inr (some 30)) (
 some (.inl (wr (x9 + 1))))
noncomputable def m_graph_Check_l1 (x1 : Graph) : Int → Option (Int ⊕ Int)
| x9 =>
 ifb (decide (x9 < (ln Edge.row x1.Edges))) (
 ifb (decide (0 < x9)) (
 (at_ x1.Edges (wr (x9 - 1))).bind fun x10 =>
 (at_ x1.Edges x9).bind fun x11 =>
 (m_graph_rank x10 x11).bind fun x12 =>
 (m_graph_Check_j3 x9) (decide (0 ≤ x12))) (
 (m_graph_Check_j3 x9) false)) (
 Option.map Sum.inr (m_graph_Check_j2 ()))
noncomputable def m_graph_Check_j1 (x1 : Graph) : Bool → Option Int
| x3 =>
 ifb x3 (
 some 30) (
 loop (m_graph_Check_l1 x1) 0)
noncomputable def m_graph_Check (x1 : Graph) : Option Int :=
 ifb (decide (x1.N < 0)) (
 (m_graph_Check_j1 x1) true) (
 ifb (decide (64 < x1.N)) (
 (m_graph_Check_j1 x1) true) (
 ifb (decide (400 < (ln Edge.row x1.Edges))) (
 (m_graph_Check_j1 x1) true) (
 (m_slices_ContainsFunc_Edge x1.Edges ((fun z => m_graph_Check_1 z x1))).bind fun x2 =>
 (m_graph_Check_j1 x1) x2)))
theorem k_graph_Check (x1 : Graph) (r : Int) (h : m_graph_Check x1 = some r) : FunP Try.prog 49 [.agg (Graph.row x1)] (.iv r) := by
  refine FunP_intro ok_graph_Check rfl rfl fun w0 H0 => ?_
  rw [m_graph_Check] at h
  refine V_go 17 ?_
  dsimp only [e_graph_Check, e_graph_Check_L0, go_sem, Nat.reduceBEq, Nat.reduceAdd]
  refine ⟨by simp, ?_⟩
  refine V_join (fun (x3 : Bool) => (⟨(.any :: .ptr 0 0 :: an 23 (.bv x3 :: an 24 [])), [some ⟨24, [.iv x1.N, .sl 2 (List.map Edge.row x1.Edges)]⟩], []⟩ : St)) (m_graph_Check_j1 x1) r ?_ fun J1 => ?_
  · intro x3 h
    rw [m_graph_Check_j1] at h
    try dsimp only
    refine M_ite h rfl (fun hb h => ?_) (fun hb h => ?_)
    · refine V_go 4 ?_
      dsimp only [e_graph_Check, e_graph_Check_L0, go_sem, Nat.reduceBEq, Nat.reduceAdd]
      refine ⟨by simp, ?_⟩
      exact M_done (res := fun (r : Int) => .iv r) ok_graph_Check h (by first | exact le_refl _ | simp [go_sem])
    · refine V_go 9 ?_
      dsimp only [e_graph_Check, e_graph_Check_L0, go_sem, Nat.reduceBEq, Nat.reduceAdd]
      refine ⟨by simp, ?_⟩
      refine V_join (fun (_ : Unit) => (⟨(an 50 []), [], []⟩ : St)) m_graph_Check_j2 r ?_ fun J2 => ?_
      · rintro ⟨⟩ h
        rw [m_graph_Check_j2] at h
        try dsimp only
        refine V_go 4 ?_
        dsimp only [e_graph_Check, e_graph_Check_L0, go_sem, Nat.reduceBEq, Nat.reduceAdd]
        refine ⟨by simp, ?_⟩
        exact M_done (res := fun (r : Int) => .iv r) ok_graph_Check h (by first | exact le_refl _ | simp [go_sem])
      · refine V_go 1 ?_
        dsimp only [e_graph_Check, e_graph_Check_L0, go_sem, Nat.reduceBEq, Nat.reduceAdd]
        refine ⟨by simp, ?_⟩
        refine M_loop h (fun (x9 : Int) => (⟨(.any :: .ptr 0 0 :: an 26 (.iv (ln Edge.row x1.Edges) :: .iv x9 :: an 20 [])), [some ⟨24, [.iv x1.N, .sl 2 (List.map Edge.row x1.Edges)]⟩], []⟩ : St)) (by simp [go_sem]) (by intro x9; first | rfl | simp [go_sem]) ?_
        rintro n1 x9 y1 h hin1 hout1
        rw [m_graph_Check_l1] at h
        try dsimp only
        refine V_go 5 ?_
        dsimp only [e_graph_Check, e_graph_Check_L0, go_sem, Nat.reduceBEq, Nat.reduceAdd]
        refine ⟨by simp, ?_⟩
        refine M_ite h rfl (fun hb h => ?_) (fun hb h => ?_)
        · refine V_go 9 ?_
          dsimp only [e_graph_Check, e_graph_Check_L0, go_sem, Nat.reduceBEq, Nat.reduceAdd]
          refine ⟨by simp, ?_⟩
          refine V_join (fun (x13 : Bool) => (⟨(.any :: .ptr 0 0 :: an 26 (.iv (ln Edge.row x1.Edges) :: .iv x9 :: an 18 [.bv x13, .any])), [some ⟨24, [.iv x1.N, .sl 2 (List.map Edge.row x1.Edges)]⟩], []⟩ : St)) (m_graph_Check_j3 x9) y1 ?_ fun J3 => ?_
          · intro x13 h
            rw [m_graph_Check_j3] at h
            try dsimp only
            refine M_ite h rfl (fun hb h => ?_) (fun hb h => ?_)
            · refine V_go 4 ?_
              dsimp only [e_graph_Check, e_graph_Check_L0, go_sem, Nat.reduceBEq, Nat.reduceAdd]
              refine ⟨by simp, ?_⟩
              exact M_done (res := fun (r : Int) => .iv r) ok_graph_Check (M_out h hout1) (by first | exact le_refl _ | simp [go_sem])
            · refine V_go 6 ?_
              dsimp only [e_graph_Check, e_graph_Check_L0, go_sem, Nat.reduceBEq, Nat.reduceAdd]
              refine ⟨by simp, ?_⟩
              exact M_back h hin1 (by simp [go_sem]) (by first | rfl | simp [go_sem])
          · refine V_drw (by kernel_rfl) fun all hall hs hnap haf => ?_
            dsimp only [go_sem, Nat.reduceBEq, Nat.reduceAdd]
            refine G_goN hall hs haf hnap 3 14 ?_
            dsimp only [go_sem, Nat.reduceBEq, Nat.reduceAdd]
            refine ⟨by simp, ?_⟩
            refine GM_case 34 h rfl (fun hb h => ?_) (fun hb h => ?_)
            · dsimp only [go_sem, Nat.reduceBEq, Nat.reduceAdd]
              refine G_goE hall hs haf hnap 7 7 [true, true, true, true, true, true, true, false, false, true, true, true, false, false, false, false, false] (⟨(.any :: .ptr 0 0 :: .any :: .any :: .iv x9 :: an 23 (.iv (ln Edge.row x1.Edges) :: .iv x9 :: .bv (decide (x9 < (ln Edge.row x1.Edges))) :: .iv x9 :: .iv x9 :: .bv (decide (0 < x9)) :: .tt :: .ptr 0 1 :: .sl 2 (List.map Edge.row x1.Edges) :: .iv x9 :: .iv (wr (x9 - 1)) :: .any :: .any :: .ptr 0 1 :: .sl 2 (List.map Edge.row x1.Edges) :: .iv x9 :: an 6 [])), [some ⟨24, [.iv x1.N, .sl 2 (List.map Edge.row x1.Edges)]⟩], []⟩ : St) (by kernel_rfl) ?_
              obtain ⟨x10, ex10, h⟩ := Option.bind_eq_some_iff.1 h
              refine G_idxM hall hs haf hnap 7 Edge.row ex10 rfl rfl trivial rfl rfl rfl rfl ?_
              refine G_goN hall hs haf hnap 1 5 ?_
              dsimp only [go_sem, Nat.reduceBEq, Nat.reduceAdd]
              refine ⟨by simp, ?_⟩
              obtain ⟨x11, ex11, h⟩ := Option.bind_eq_some_iff.1 h
              refine G_idxM hall hs haf hnap 12 Edge.row ex11 rfl rfl trivial rfl rfl rfl rfl ?_
              refine G_goN hall hs haf hnap 1 3 ?_
              dsimp only [go_sem, Nat.reduceBEq, Nat.reduceAdd]
              refine ⟨by simp, ?_⟩
              refine G_one 14 rfl ?_
              obtain ⟨x12, ex12, h⟩ := Option.bind_eq_some_iff.1 h
              refine GO_call hall rfl trivial (k_graph_rank x10 x11 _ ex12) (by first | exact leL_refl _ | simp [go_sem]) (by first | rfl | simp [go_sem]) ?_
              dsimp only [go_sem, Nat.reduceBEq, Nat.reduceAdd]
              refine G_goN hall hs haf hnap 2 0 ?_
              dsimp only [go_sem, Nat.reduceBEq, Nat.reduceAdd]
              refine ⟨by simp, ?_⟩
              refine G_done rfl ?_ _
              exact M_to J3 (s := decide (0 ≤ x12)) h (by simp [go_sem]) (by first | rfl | simp [go_sem])
            · dsimp only [go_sem, Nat.reduceBEq, Nat.reduceAdd]
              refine G_goE hall hs haf hnap 14 0 [true, true, true, true, true, true, true, true, true, true, true, true, true, true, true, true, true] (⟨(.any :: .ptr 0 0 :: .any :: .any :: .iv x9 :: an 23 [.iv (ln Edge.row x1.Edges), .iv x9, .bv (decide (x9 < (ln Edge.row x1.Edges))), .iv x9, .iv x9, .bv (decide (0 < x9)), .ff, .un, .un, .un, .un, .un, .un, .un, .un, .un, .un, .un, .un, .un, .ff, .any]), [some ⟨24, [.iv x1.N, .sl 2 (List.map Edge.row x1.Edges)]⟩], []⟩ : St) (by kernel_rfl) ?_
              refine G_done rfl ?_ _
              exact M_to J3 (s := false) h (by simp [go_sem]) (by first | rfl | simp [go_sem])
        · refine V_go 1 ?_
          dsimp only [e_graph_Check, e_graph_Check_L0, go_sem, Nat.reduceBEq, Nat.reduceAdd]
          refine ⟨by simp, ?_⟩
          exact M_to J2 (s := ()) (M_out h hout1) (by simp [go_sem]) (by first | rfl | simp [go_sem])
  · refine M_case 9 h rfl (fun hb h => ?_) (fun hb h => ?_)
    · dsimp only [go_sem, Nat.reduceBEq, Nat.reduceAdd]
      refine V_go 17 ?_
      dsimp only [e_graph_Check, e_graph_Check_L0, go_sem, Nat.reduceBEq, Nat.reduceAdd]
      refine ⟨by simp, ?_⟩
      exact M_to J1 (s := true) h (by simp [go_sem]) (by first | rfl | simp [go_sem])
    · dsimp only [go_sem, Nat.reduceBEq, Nat.reduceAdd]
      refine V_go 5 ?_
      dsimp only [e_graph_Check, e_graph_Check_L0, go_sem, Nat.reduceBEq, Nat.reduceAdd]
      refine ⟨by simp, ?_⟩
      refine M_case 14 h rfl (fun hb h => ?_) (fun hb h => ?_)
      · dsimp only [go_sem, Nat.reduceBEq, Nat.reduceAdd]
        refine V_go 12 ?_
        dsimp only [e_graph_Check, e_graph_Check_L0, go_sem, Nat.reduceBEq, Nat.reduceAdd]
        refine ⟨by simp, ?_⟩
        exact M_to J1 (s := true) h (by simp [go_sem]) (by first | rfl | simp [go_sem])
      · dsimp only [go_sem, Nat.reduceBEq, Nat.reduceAdd]
        refine V_go 6 ?_
        dsimp only [e_graph_Check, e_graph_Check_L0, go_sem, Nat.reduceBEq, Nat.reduceAdd]
        refine ⟨by simp, ?_⟩
        refine M_case 20 h rfl (fun hb h => ?_) (fun hb h => ?_)
        · dsimp only [go_sem, Nat.reduceBEq, Nat.reduceAdd]
          refine V_go 6 ?_
          dsimp only [e_graph_Check, e_graph_Check_L0, go_sem, Nat.reduceBEq, Nat.reduceAdd]
          refine ⟨by simp, ?_⟩
          exact M_to J1 (s := true) h (by simp [go_sem]) (by first | rfl | simp [go_sem])
        · dsimp only [go_sem, Nat.reduceBEq, Nat.reduceAdd]
          refine V_go 3 ?_
          dsimp only [e_graph_Check, e_graph_Check_L0, go_sem, Nat.reduceBEq, Nat.reduceAdd]
          refine ⟨by simp, ?_⟩
          obtain ⟨x2, ex2, h⟩ := Option.bind_eq_some_iff.1 h
          refine V_callL trivial ((Lend.refl _).block 0 rfl rfl) (k_slices_ContainsFunc_Edge x1.Edges _ _ ((fun z => m_graph_Check_1 z x1)) ⟨by kernel_rfl, rfl, fun z r hz => k_graph_Check_1 z x1 r hz⟩ _ ex2) (by first | exact leL_refl _ | simp [go_sem]) (by first | rfl | simp [go_sem]) rfl ?_
          refine V_go 2 ?_
          dsimp only [e_graph_Check, e_graph_Check_L0, go_sem, Nat.reduceBEq, Nat.reduceAdd]
          refine ⟨by simp, ?_⟩
          exact M_to J1 (s := x2) h (by simp [go_sem]) (by first | rfl | simp [go_sem])
def f_graph_Check_j2 (F : Nat)  : Unit → Option Int
| () =>
 some 0
theorem le_graph_Check_j2 {F : Nat} : ∀ s, ole (f_graph_Check_j2 F s) (m_graph_Check_j2 s) := by
  rintro ⟨⟩
  unfold f_graph_Check_j2 m_graph_Check_j2
  try dsimp only
  repeat' first | with_reducible exact ole_refl _ | assumption | intro _ | with_reducible refine ole_ifb ?_ ?_ | with_reducible refine ole_bind ?_ ?_ | with_reducible refine ole_map ?_ | with_reducible refine ole_loop ?_
def f_graph_Check_j3 (F : Nat) (x9 : Int) : Bool → Option (Int ⊕ Int)
| x13 =>
 ifb x13 (
 Option.map Sum.inr (some 30)) (
 some (.inl (wr (x9 + 1))))
theorem le_graph_Check_j3 {F : Nat} {x9 : Int} : ∀ s, ole (f_graph_Check_j3 F x9 s) (m_graph_Check_j3 x9 s) := by
  intro x13
  unfold f_graph_Check_j3 m_graph_Check_j3
  try dsimp only
  repeat' first | with_reducible exact ole_refl _ | assumption | intro _ | with_reducible refine ole_ifb ?_ ?_ | with_reducible refine ole_bind ?_ ?_ | with_reducible refine ole_map ?_ | with_reducible refine ole_loop ?_ | with_reducible apply le_graph_Check_j2
def f_graph_Check_l1 (F : Nat) (x1 : Graph) : Int → Option (Int ⊕ Int)
| x9 =>
 ifb (decide (x9 < (ln Edge.row x1.Edges))) (
 ifb (decide (0 < x9)) (
 (at_ x1.Edges (wr (x9 - 1))).bind fun x10 =>
 (at_ x1.Edges x9).bind fun x11 =>
 (f_graph_rank F x10 x11).bind fun x12 =>
 (f_graph_Check_j3 F x9) (decide (0 ≤ x12))) (
 (f_graph_Check_j3 F x9) false)) (
 Option.map Sum.inr (f_graph_Check_j2 F ()))
theorem le_graph_Check_l1 {F : Nat} {x1 : Graph} : ∀ s, ole (f_graph_Check_l1 F x1 s) (m_graph_Check_l1 x1 s) := by
  intro x9
  unfold f_graph_Check_l1 m_graph_Check_l1
  try dsimp only
  repeat' first | with_reducible exact ole_refl _ | assumption | intro _ | with_reducible refine ole_ifb ?_ ?_ | with_reducible refine ole_bind ?_ ?_ | with_reducible refine ole_map ?_ | with_reducible refine ole_loop ?_ | with_reducible apply le_graph_Check_j2 | with_reducible apply le_graph_Check_j3 | with_reducible apply le_graph_rank
def f_graph_Check_j1 (F : Nat) (x1 : Graph) : Bool → Option Int
| x3 =>
 ifb x3 (
 some 30) (
 loopF F (f_graph_Check_l1 F x1) 0)
theorem le_graph_Check_j1 {F : Nat} {x1 : Graph} : ∀ s, ole (f_graph_Check_j1 F x1 s) (m_graph_Check_j1 x1 s) := by
  intro x3
  unfold f_graph_Check_j1 m_graph_Check_j1
  try dsimp only
  repeat' first | with_reducible exact ole_refl _ | assumption | intro _ | with_reducible refine ole_ifb ?_ ?_ | with_reducible refine ole_bind ?_ ?_ | with_reducible refine ole_map ?_ | with_reducible refine ole_loop ?_ | with_reducible apply le_graph_Check_j2 | with_reducible apply le_graph_Check_j3 | with_reducible apply le_graph_rank | with_reducible apply le_graph_Check_l1
def f_graph_Check (F : Nat) (x1 : Graph) : Option Int :=
 ifb (decide (x1.N < 0)) (
 (f_graph_Check_j1 F x1) true) (
 ifb (decide (64 < x1.N)) (
 (f_graph_Check_j1 F x1) true) (
 ifb (decide (400 < (ln Edge.row x1.Edges))) (
 (f_graph_Check_j1 F x1) true) (
 (f_slices_ContainsFunc_Edge F x1.Edges ((fun z => f_graph_Check_1 F z x1))).bind fun x2 =>
 (f_graph_Check_j1 F x1) x2)))
theorem le_graph_Check {F : Nat} {x1 : Graph} : ole (f_graph_Check F x1) (m_graph_Check x1) := by
  unfold f_graph_Check m_graph_Check
  repeat' first | with_reducible exact ole_refl _ | assumption | intro _ | with_reducible refine ole_ifb ?_ ?_ | with_reducible refine ole_bind ?_ ?_ | with_reducible refine ole_map ?_ | with_reducible refine ole_loop ?_ | with_reducible apply le_graph_Check_j2 | with_reducible apply le_graph_Check_j3 | with_reducible apply le_graph_rank | with_reducible apply le_graph_Check_l1 | with_reducible apply le_graph_Check_j1 | with_reducible apply le_slices_ContainsFunc_Edge | with_reducible apply le_graph_Check_1
end NX
end Go.Proofs.Ytadebhbiglmodaa
/-
  The function narthex/colour.Right$1: its code compiled, a model, and that the code answers as the model. Written by a program of ours (lb.py). No statement of the seat is proved here.
-/
namespace Go.Proofs.Ytadebhbiglmodaa
namespace NX
open Go
set_option maxRecDepth 100000
set_option maxHeartbeats 4000000
def e_colour_Right_1 : EC := .seq (.reg [⟨(some 2), none, .mv (.c .ff)⟩]) (.seq (.reg [⟨(some 3), none, .mv (.t 0)⟩, ⟨(some 4), none, .bin .lss (.t 3) (.c (.iv 1))⟩, ⟨(some 2), none, .mv (.t 4)⟩]) (.ret))
theorem ok_colour_Right_1 : FnOK Try.prog 83 Try.f83 e_colour_Right_1 [.t 2] 1 4 := ⟨by kernel_rfl, ⟨_, rfl, by kernel_rfl⟩, by kernel_rfl, by kernel_rfl⟩
/- narthex/colour.Right$1 -/
noncomputable def m_colour_Right_1 (x1 : Int) : Option Bool :=
 some (decide (x1 < 1))
theorem k_colour_Right_1 (x1 : Int) (r : Bool) (h : m_colour_Right_1 x1 = some r) : FunP Try.prog 83 [.iv x1] (.bv r) := by
  refine FunP_intro ok_colour_Right_1 rfl rfl fun w0 H0 => ?_
  rw [m_colour_Right_1] at h
  refine V_go 10 ?_
  dsimp only [e_colour_Right_1, go_sem, Nat.reduceBEq, Nat.reduceAdd]
  refine ⟨by simp, ?_⟩
  exact M_done (res := fun (r : Bool) => .bv r) ok_colour_Right_1 h (by first | exact le_refl _ | simp [go_sem])
def f_colour_Right_1 (F : Nat) (x1 : Int) : Option Bool :=
 some (decide (x1 < 1))
theorem le_colour_Right_1 {F : Nat} {x1 : Int} : ole (f_colour_Right_1 F x1) (m_colour_Right_1 x1) := by
  unfold f_colour_Right_1 m_colour_Right_1
  repeat' first | with_reducible exact ole_refl _ | assumption | intro _ | with_reducible refine ole_ifb ?_ ?_ | with_reducible refine ole_bind ?_ ?_ | with_reducible refine ole_map ?_ | with_reducible refine ole_loop ?_
end NX
end Go.Proofs.Ytadebhbiglmodaa
/-
  The function narthex/colour.Right$2: its code compiled, a model, and that the code answers as the model. Written by a program of ours (lb.py). No statement of the seat is proved here.
-/
namespace Go.Proofs.Ytadebhbiglmodaa
namespace NX
open Go
set_option maxRecDepth 100000
set_option maxHeartbeats 4000000
def e_colour_Right_2 : EC := .seq (.reg [⟨(some 2), none, .box 58 2 (.t 0)⟩, ⟨(some 3), none, .mv (.c .ff)⟩]) (.seq (.drw [⟨(some 4), none, .load (.t 1)⟩, ⟨(some 5), none, .fld 0 (.t 2)⟩, ⟨(some 6), none, .load (.t 5)⟩, ⟨(some 7), none, .idx 1 (.t 4) (.t 6)⟩, ⟨(some 8), none, .load (.t 7)⟩, ⟨(some 9), none, .load (.t 1)⟩, ⟨(some 10), none, .fld 1 (.t 2)⟩, ⟨(some 11), none, .load (.t 10)⟩, ⟨(some 12), none, .idx 1 (.t 9) (.t 11)⟩, ⟨(some 13), none, .load (.t 12)⟩, ⟨(some 14), none, .bin .eql (.t 8) (.t 13)⟩, ⟨(some 3), none, .mv (.t 14)⟩] [[], [], [1], [0, 2], [3], [], [], [6], [5, 7], [8], [4, 9], [10, 0, 1, 2, 3, 4, 5, 6, 7, 8, 9, 10]] [[3], [2], [1, 3], [0, 2, 4], [3, 10], [8], [7], [6, 8], [5, 7, 9], [8, 10], [4, 9, 11], [10]]) (.ret))
theorem ok_colour_Right_2 : FnOK Try.prog 84 Try.f84 e_colour_Right_2 [.t 3] 2 13 := ⟨by kernel_rfl, ⟨_, rfl, by kernel_rfl⟩, by kernel_rfl, by kernel_rfl⟩
/- narthex/colour.Right$2 -/
noncomputable def m_colour_Right_2 (x1 : Edge) (x2 : (List Int)) : Option Bool :=
 (at_ x2 x1.A).bind fun x3 =>
 (at_ x2 x1.B).bind fun x4 =>
 some (decide (x3 = x4))
theorem k_colour_Right_2 (x1 : Edge) (x2 : (List Int)) (r : Bool) (h : m_colour_Right_2 x1 x2 = some r) : FunP Try.prog 84 [.agg (Edge.row x1), .elt ((slRow 1 intRow) x2) 0] (.bv r) := by
  refine FunP_intro ok_colour_Right_2 rfl rfl fun w0 H0 => ?_
  rw [m_colour_Right_2] at h
  refine V_go 6 ?_
  dsimp only [e_colour_Right_2, go_sem, Nat.reduceBEq, Nat.reduceAdd]
  refine ⟨by simp, ?_⟩
  refine V_drw (by kernel_rfl) fun all hall hs hnap haf => ?_
  dsimp only [go_sem, Nat.reduceBEq, Nat.reduceAdd]
  refine G_goE hall hs haf hnap 6 6 [true, true, true, false, false, true, true, true, false, false, false, false] (⟨[.agg [.iv x1.A, .iv x1.B], .elt [.sl 1 (List.map intRow x2)] 0, .ptr 0 0, .ff, .sl 1 (List.map intRow x2), .ptr 0 0, .iv x1.A, .un, .un, .sl 1 (List.map intRow x2), .ptr 0 1, .iv x1.B, .un, .un, .un], [some ⟨58, [.iv x1.A, .iv x1.B]⟩], []⟩ : St) (by kernel_rfl) ?_
  obtain ⟨x3, ex3, h⟩ := Option.bind_eq_some_iff.1 h
  refine G_idxM hall hs haf hnap 3 intRow ex3 rfl rfl trivial rfl rfl rfl rfl ?_
  refine G_goN hall hs haf hnap 1 4 ?_
  dsimp only [go_sem, Nat.reduceBEq, Nat.reduceAdd]
  refine ⟨by simp, ?_⟩
  obtain ⟨x4, ex4, h⟩ := Option.bind_eq_some_iff.1 h
  refine G_idxM hall hs haf hnap 8 intRow ex4 rfl rfl trivial rfl rfl rfl rfl ?_
  refine G_goN hall hs haf hnap 3 0 ?_
  dsimp only [go_sem, Nat.reduceBEq, Nat.reduceAdd]
  refine ⟨by simp, ?_⟩
  refine G_done rfl ?_ _
  exact M_done (res := fun (r : Bool) => .bv r) ok_colour_Right_2 h (by first | exact le_refl _ | simp [go_sem])
def f_colour_Right_2 (F : Nat) (x1 : Edge) (x2 : (List Int)) : Option Bool :=
 (at_ x2 x1.A).bind fun x3 =>
 (at_ x2 x1.B).bind fun x4 =>
 some (decide (x3 = x4))
theorem le_colour_Right_2 {F : Nat} {x1 : Edge} {x2 : (List Int)} : ole (f_colour_Right_2 F x1 x2) (m_colour_Right_2 x1 x2) := by
  unfold f_colour_Right_2 m_colour_Right_2
  repeat' first | with_reducible exact ole_refl _ | assumption | intro _ | with_reducible refine ole_ifb ?_ ?_ | with_reducible refine ole_bind ?_ ?_ | with_reducible refine ole_map ?_ | with_reducible refine ole_loop ?_
end NX
end Go.Proofs.Ytadebhbiglmodaa
/-
  The function narthex/colour.Right: its code compiled, a model, and that the code answers as the model. Written by a program of ours (lb.py). No statement of the seat is proved here.
-/
namespace Go.Proofs.Ytadebhbiglmodaa
namespace NX
open Go
set_option maxRecDepth 100000
set_option maxHeartbeats 4000000
def e_colour_Right : EC := .seq (.reg [⟨(some 2), none, .box 24 2 (.t 0)⟩, ⟨(some 3), none, .box 25 1 (.t 1)⟩, ⟨(some 4), none, .mv (.c .ff)⟩]) (.seq (.seq (.reg [⟨(some 5), none, .loadA 2 (.t 2)⟩, ⟨(some 6), none, .call 49 [(.t 5)]⟩, ⟨(some 7), none, .bin .neq (.t 6) (.c (.iv 0))⟩, ⟨(some 8), none, .mv (.t 7)⟩, ⟨(some 9), (some (8, false)), .load (.t 3)⟩, ⟨(some 10), (some (8, false)), .len (.t 9)⟩, ⟨(some 11), (some (8, false)), .fld 0 (.t 2)⟩, ⟨(some 12), (some (8, false)), .load (.t 11)⟩, ⟨(some 13), (some (8, false)), .bin .neq (.t 10) (.t 12)⟩, ⟨(some 14), none, .pick (.t 8) (.c .tt) (.t 13)⟩, ⟨(some 15), none, .mv (.t 14)⟩, ⟨(some 16), (some (15, false)), .load (.t 3)⟩, ⟨(some 17), (some (15, false)), .call 82 [(.t 16), (.c (.clo 83 []))]⟩, ⟨(some 18), none, .pick (.t 15) (.c .tt) (.t 17)⟩]) (.ite (.t 18) (.seq (.reg [⟨(some 4), none, .mv (.c .ff)⟩]) (.ret)) (.skip))) (.seq (.reg [⟨(some 19), none, .fld 1 (.t 2)⟩, ⟨(some 20), none, .load (.t 19)⟩, ⟨(some 21), none, .mkf 84 [(.t 3)]⟩, ⟨(some 22), none, .call 80 [(.t 20), (.t 21)]⟩, ⟨(some 23), none, .not (.t 22)⟩, ⟨(some 4), none, .mv (.t 23)⟩]) (.ret)))
theorem ok_colour_Right : FnOK Try.prog 50 Try.f50 e_colour_Right [.t 4] 2 22 := ⟨by kernel_rfl, ⟨_, rfl, by kernel_rfl⟩, by kernel_rfl, by kernel_rfl⟩
/- narthex/colour.Right -/
noncomputable def m_colour_Right_j1 (x1 : Graph) (x2 : (List Int)) : Bool → Option Bool
| x5 =>
 ifb x5 (
 some false) (
 (m_slices_ContainsFunc_Edge x1.Edges ((fun z => m_colour_Right_2 z x2))).bind fun x6 =>
 some (!x6))
noncomputable def m_colour_Right (x1 : Graph) (x2 : (List Int)) : Option Bool :=
 (m_graph_Check x1).bind fun x3 =>
 ifb (!decide (x3 = 0)) (
 (m_colour_Right_j1 x1 x2) true) (
 ifb (!decide ((ln intRow x2) = x1.N)) (
 (m_colour_Right_j1 x1 x2) true) (
 (m_slices_ContainsFunc_int x2 ((fun z => m_colour_Right_1 z))).bind fun x4 =>
 (m_colour_Right_j1 x1 x2) x4))
theorem k_colour_Right (x1 : Graph) (x2 : (List Int)) (r : Bool) (h : m_colour_Right x1 x2 = some r) : FunP Try.prog 50 [.agg (Graph.row x1), .sl 1 (List.map intRow x2)] (.bv r) := by
  refine FunP_intro ok_colour_Right rfl rfl fun w0 H0 => ?_
  rw [m_colour_Right] at h
  refine V_go 10 ?_
  dsimp only [e_colour_Right, go_sem, Nat.reduceBEq, Nat.reduceAdd]
  refine ⟨by simp, ?_⟩
  obtain ⟨x3, ex3, h⟩ := Option.bind_eq_some_iff.1 h
  refine V_call trivial (k_graph_Check x1 _ ex3) (by first | exact leL_refl _ | simp [go_sem]) (by first | rfl | simp [go_sem]) ?_
  refine V_go 2 ?_
  dsimp only [e_colour_Right, go_sem, Nat.reduceBEq, Nat.reduceAdd]
  refine ⟨by simp, ?_⟩
  refine V_join (fun (x5 : Bool) => (⟨(.any :: .any :: .ptr 0 0 :: .ptr 1 0 :: an 14 (.bv x5 :: an 5 [])), [some ⟨24, [.iv x1.N, .sl 2 (List.map Edge.row x1.Edges)]⟩, some ⟨25, [.sl 1 (List.map intRow x2)]⟩], []⟩ : St)) (m_colour_Right_j1 x1 x2) r ?_ fun J1 => ?_
  · intro x5 h
    rw [m_colour_Right_j1] at h
    try dsimp only
    refine M_ite h rfl (fun hb h => ?_) (fun hb h => ?_)
    · refine V_go 4 ?_
      dsimp only [e_colour_Right, go_sem, Nat.reduceBEq, Nat.reduceAdd]
      refine ⟨by simp, ?_⟩
      exact M_done (res := fun (r : Bool) => .bv r) ok_colour_Right h (by first | exact le_refl _ | simp [go_sem])
    · refine V_go 6 ?_
      dsimp only [e_colour_Right, go_sem, Nat.reduceBEq, Nat.reduceAdd]
      refine ⟨by simp, ?_⟩
      obtain ⟨x6, ex6, h⟩ := Option.bind_eq_some_iff.1 h
      refine V_callL trivial ((Lend.refl _).block 1 rfl rfl) (k_slices_ContainsFunc_Edge x1.Edges _ _ ((fun z => m_colour_Right_2 z x2)) ⟨by kernel_rfl, rfl, fun z r hz => k_colour_Right_2 z x2 r hz⟩ _ ex6) (by first | exact leL_refl _ | simp [go_sem]) (by first | rfl | simp [go_sem]) rfl ?_
      refine V_go 3 ?_
      dsimp only [e_colour_Right, go_sem, Nat.reduceBEq, Nat.reduceAdd]
      refine ⟨by simp, ?_⟩
      exact M_done (res := fun (r : Bool) => .bv r) ok_colour_Right h (by first | exact le_refl _ | simp [go_sem])
  · refine M_case 8 h rfl (fun hb h => ?_) (fun hb h => ?_)
    · dsimp only [go_sem, Nat.reduceBEq, Nat.reduceAdd]
      refine V_go 11 ?_
      dsimp only [e_colour_Right, go_sem, Nat.reduceBEq, Nat.reduceAdd]
      refine ⟨by simp, ?_⟩
      exact M_to J1 (s := true) h (by simp [go_sem]) (by first | rfl | simp [go_sem])
    · dsimp only [go_sem, Nat.reduceBEq, Nat.reduceAdd]
      refine V_go 7 ?_
      dsimp only [e_colour_Right, go_sem, Nat.reduceBEq, Nat.reduceAdd]
      refine ⟨by simp, ?_⟩
      refine M_case 15 h rfl (fun hb h => ?_) (fun hb h => ?_)
      · dsimp only [go_sem, Nat.reduceBEq, Nat.reduceAdd]
        refine V_go 4 ?_
        dsimp only [e_colour_Right, go_sem, Nat.reduceBEq, Nat.reduceAdd]
        refine ⟨by simp, ?_⟩
        exact M_to J1 (s := true) h (by simp [go_sem]) (by first | rfl | simp [go_sem])
      · dsimp only [go_sem, Nat.reduceBEq, Nat.reduceAdd]
        refine V_go 1 ?_
        dsimp only [e_colour_Right, go_sem, Nat.reduceBEq, Nat.reduceAdd]
        refine ⟨by simp, ?_⟩
        obtain ⟨x4, ex4, h⟩ := Option.bind_eq_some_iff.1 h
        refine V_call trivial (k_slices_ContainsFunc_int x2 _ _ ((fun z => m_colour_Right_1 z)) ⟨by kernel_rfl, rfl, fun z r hz => k_colour_Right_1 z r hz⟩ _ ex4) (by first | exact leL_refl _ | simp [go_sem]) (by first | rfl | simp [go_sem]) ?_
        refine V_go 2 ?_
        dsimp only [e_colour_Right, go_sem, Nat.reduceBEq, Nat.reduceAdd]
        refine ⟨by simp, ?_⟩
        exact M_to J1 (s := x4) h (by simp [go_sem]) (by first | rfl | simp [go_sem])
def f_colour_Right_j1 (F : Nat) (x1 : Graph) (x2 : (List Int)) : Bool → Option Bool
| x5 =>
 ifb x5 (
 some false) (
 (f_slices_ContainsFunc_Edge F x1.Edges ((fun z => f_colour_Right_2 F z x2))).bind fun x6 =>
 some (!x6))
theorem le_colour_Right_j1 {F : Nat} {x1 : Graph} {x2 : (List Int)} : ∀ s, ole (f_colour_Right_j1 F x1 x2 s) (m_colour_Right_j1 x1 x2 s) := by
  intro x5
  unfold f_colour_Right_j1 m_colour_Right_j1
  try dsimp only
  repeat' first | with_reducible exact ole_refl _ | assumption | intro _ | with_reducible refine ole_ifb ?_ ?_ | with_reducible refine ole_bind ?_ ?_ | with_reducible refine ole_map ?_ | with_reducible refine ole_loop ?_ | with_reducible apply le_slices_ContainsFunc_Edge | with_reducible apply le_colour_Right_2
def f_colour_Right (F : Nat) (x1 : Graph) (x2 : (List Int)) : Option Bool :=
 (f_graph_Check F x1).bind fun x3 =>
 ifb (!decide (x3 = 0)) (
 (f_colour_Right_j1 F x1 x2) true) (
 ifb (!decide ((ln intRow x2) = x1.N)) (
 (f_colour_Right_j1 F x1 x2) true) (
 (f_slices_ContainsFunc_int F x2 ((fun z => f_colour_Right_1 F z))).bind fun x4 =>
 (f_colour_Right_j1 F x1 x2) x4))
theorem le_colour_Right {F : Nat} {x1 : Graph} {x2 : (List Int)} : ole (f_colour_Right F x1 x2) (m_colour_Right x1 x2) := by
  unfold f_colour_Right m_colour_Right
  repeat' first | with_reducible exact ole_refl _ | assumption | intro _ | with_reducible refine ole_ifb ?_ ?_ | with_reducible refine ole_bind ?_ ?_ | with_reducible refine ole_map ?_ | with_reducible refine ole_loop ?_ | with_reducible apply le_slices_ContainsFunc_Edge | with_reducible apply le_colour_Right_2 | with_reducible apply le_colour_Right_j1 | with_reducible apply le_graph_Check | with_reducible apply le_slices_ContainsFunc_int | with_reducible apply le_colour_Right_1
end NX
end Go.Proofs.Ytadebhbiglmodaa
/-
  The function slices.Index[[]narthex/api.Mail,narthex/api.Mail]: its code compiled, a model, and that the code answers as the model. Written by a program of ours (lb.py). No statement of the seat is proved here.
-/
namespace Go.Proofs.Ytadebhbiglmodaa
namespace NX
open Go
set_option maxRecDepth 100000
set_option maxHeartbeats 4000000
def e_slices_Index_Mail_L0 : EC := .seq (.reg [⟨(some 9), none, .bin .lss (.t 8) (.t 7)⟩]) (.seq (.ite (.t 9) (.skip) (.exit 0)) (.seq (.blk 1 (.seq (.reg [⟨(some 10), none, .mv (.t 8)⟩, ⟨(some 5), none, .mv (.t 10)⟩]) (.seq (.drw [⟨(some 11), none, .loadA 5 (.t 3)⟩, ⟨(some 12), none, .mv (.t 0)⟩, ⟨(some 13), none, .mv (.t 5)⟩, ⟨(some 14), none, .idx 5 (.t 12) (.t 13)⟩, ⟨(some 15), none, .loadA 5 (.t 14)⟩, ⟨(some 16), none, .eqs false [true, true, true, true, true] (.t 11) (.t 15)⟩] [[], [], [], [1, 2], [3], [0, 4]] [[5], [3], [3], [1, 2, 4], [3, 5], [0, 4]]) (.ite (.t 16) (.seq (.reg [⟨(some 17), none, .mv (.t 5)⟩, ⟨(some 4), none, .mv (.t 17)⟩]) (.ret)) (.skip))))) (.reg [⟨(some 18), none, .bin .add (.t 8) (.c (.iv 1))⟩, ⟨(some 8), none, .mv (.t 18)⟩])))
def e_slices_Index_Mail : EC := .seq (.reg [⟨(some 3), none, .box 97 5 (.t 1)⟩, ⟨(some 4), none, .mv (.c (.iv 0))⟩]) (.seq (.seq (.reg [⟨(some 6), none, .mv (.t 0)⟩, ⟨(some 7), none, .len (.t 6)⟩, ⟨(some 8), none, .mv (.c (.iv 0))⟩]) (.blk 0 (.loop e_slices_Index_Mail_L0))) (.seq (.reg [⟨(some 4), none, .mv (.c (.iv (-1)))⟩]) (.ret)))
theorem ok_slices_Index_Mail : FnOK Try.prog 86 Try.f86 e_slices_Index_Mail [.t 4] 2 17 := ⟨by kernel_rfl, ⟨_, rfl, by kernel_rfl⟩, by kernel_rfl, by kernel_rfl⟩
/- slices.Index[[]narthex/api.Mail,narthex/api.Mail] -/
noncomputable def m_slices_Index_Mail_j1  : Unit → Option Int
| () =>
 some (-1)
noncomputable def m_slices_Index_Mail_l1 (x1 : (List Mail)) (x2 : Mail) : Int → Option (Int ⊕ Int)
| x5 =>
 ifb (decide (x5 < (ln Mail.row x1))) (
 (at_ x1 x5).bind fun x6 =>
 ifb (decide (x2.From = x6.From) && (decide (x2.To = x6.To) && (decide (x2.Msg.Kind = x6.Msg.Kind) && (decide (x2.Msg.Epoch = x6.Msg.Epoch) && (decide (x2.Msg.Num = x6.Msg.Num) && true))))) (
 Option.map Sum.inr (some x5)) (
 some (.inl (wr (x5 + 1))))) (
 Option.map Sum.inr (m_slices_Index_Mail_j1 ()))
noncomputable def m_slices_Index_Mail (x1 : (List Mail)) (x2 : Mail) : Option Int :=
 loop (m_slices_Index_Mail_l1 x1 x2) 0
theorem k_slices_Index_Mail (x1 : (List Mail)) (x2 : Mail) (r : Int) (h : m_slices_Index_Mail x1 x2 = some r) : FunP Try.prog 86 [.sl 5 (List.map Mail.row x1), .agg (Mail.row x2)] (.iv r) := by
  refine FunP_intro ok_slices_Index_Mail rfl rfl fun w0 H0 => ?_
  rw [m_slices_Index_Mail] at h
  refine V_go 12 ?_
  dsimp only [e_slices_Index_Mail, e_slices_Index_Mail_L0, go_sem, Nat.reduceBEq, Nat.reduceAdd]
  refine ⟨by simp, ?_⟩
  refine V_join (fun (_ : Unit) => (⟨(an 19 []), [], []⟩ : St)) m_slices_Index_Mail_j1 r ?_ fun J1 => ?_
  · rintro ⟨⟩ h
    rw [m_slices_Index_Mail_j1] at h
    try dsimp only
    refine V_go 4 ?_
    dsimp only [e_slices_Index_Mail, e_slices_Index_Mail_L0, go_sem, Nat.reduceBEq, Nat.reduceAdd]
    refine ⟨by simp, ?_⟩
    exact M_done (res := fun (r : Int) => .iv r) ok_slices_Index_Mail h (by first | exact le_refl _ | simp [go_sem])
  · refine V_go 1 ?_
    dsimp only [e_slices_Index_Mail, e_slices_Index_Mail_L0, go_sem, Nat.reduceBEq, Nat.reduceAdd]
    refine ⟨by simp, ?_⟩
    refine M_loop h (fun (x5 : Int) => (⟨(.sl 5 (List.map Mail.row x1) :: .any :: .any :: .ptr 0 0 :: an 3 (.iv (ln Mail.row x1) :: .iv x5 :: an 10 [])), [some ⟨97, [.iv x2.From, .iv x2.To, .iv x2.Msg.Kind, .iv x2.Msg.Epoch, .iv x2.Msg.Num]⟩], []⟩ : St)) (by simp [go_sem]) (by intro x5; first | rfl | simp [go_sem]) ?_
    rintro n1 x5 y1 h hin1 hout1
    rw [m_slices_Index_Mail_l1] at h
    try dsimp only
    refine V_go 5 ?_
    dsimp only [e_slices_Index_Mail, e_slices_Index_Mail_L0, go_sem, Nat.reduceBEq, Nat.reduceAdd]
    refine ⟨by simp, ?_⟩
    refine M_ite h rfl (fun hb h => ?_) (fun hb h => ?_)
    · refine V_go 9 ?_
      dsimp only [e_slices_Index_Mail, e_slices_Index_Mail_L0, go_sem, Nat.reduceBEq, Nat.reduceAdd]
      refine ⟨by simp, ?_⟩
      refine V_drw (by kernel_rfl) fun all hall hs hnap haf => ?_
      dsimp only [go_sem, Nat.reduceBEq, Nat.reduceAdd]
      refine G_goN hall hs haf hnap 3 3 ?_
      dsimp only [go_sem, Nat.reduceBEq, Nat.reduceAdd]
      refine ⟨by simp, ?_⟩
      obtain ⟨x6, ex6, h⟩ := Option.bind_eq_some_iff.1 h
      refine G_idxM hall hs haf hnap 3 Mail.row ex6 rfl rfl trivial rfl rfl rfl rfl ?_
      refine G_goN hall hs haf hnap 2 0 ?_
      dsimp only [go_sem, Nat.reduceBEq, Nat.reduceAdd]
      refine ⟨by simp, ?_⟩
      refine G_done rfl ?_ _
      refine M_ite h rfl (fun hb h => ?_) (fun hb h => ?_)
      · refine V_go 5 ?_
        dsimp only [e_slices_Index_Mail, e_slices_Index_Mail_L0, go_sem, Nat.reduceBEq, Nat.reduceAdd]
        refine ⟨by simp, ?_⟩
        exact M_done (res := fun (r : Int) => .iv r) ok_slices_Index_Mail (M_out h hout1) (by first | exact le_refl _ | simp [go_sem])
      · refine V_go 6 ?_
        dsimp only [e_slices_Index_Mail, e_slices_Index_Mail_L0, go_sem, Nat.reduceBEq, Nat.reduceAdd]
        refine ⟨by simp, ?_⟩
        exact M_back h hin1 (by simp [go_sem]) (by first | rfl | simp [go_sem])
    · refine V_go 1 ?_
      dsimp only [e_slices_Index_Mail, e_slices_Index_Mail_L0, go_sem, Nat.reduceBEq, Nat.reduceAdd]
      refine ⟨by simp, ?_⟩
      exact M_to J1 (s := ()) (M_out h hout1) (by simp [go_sem]) (by first | rfl | simp [go_sem])
def f_slices_Index_Mail_j1 (F : Nat)  : Unit → Option Int
| () =>
 some (-1)
theorem le_slices_Index_Mail_j1 {F : Nat} : ∀ s, ole (f_slices_Index_Mail_j1 F s) (m_slices_Index_Mail_j1 s) := by
  rintro ⟨⟩
  unfold f_slices_Index_Mail_j1 m_slices_Index_Mail_j1
  try dsimp only
  repeat' first | with_reducible exact ole_refl _ | assumption | intro _ | with_reducible refine ole_ifb ?_ ?_ | with_reducible refine ole_bind ?_ ?_ | with_reducible refine ole_map ?_ | with_reducible refine ole_loop ?_
def f_slices_Index_Mail_l1 (F : Nat) (x1 : (List Mail)) (x2 : Mail) : Int → Option (Int ⊕ Int)
| x5 =>
 ifb (decide (x5 < (ln Mail.row x1))) (
 (at_ x1 x5).bind fun x6 =>
 ifb (decide (x2.From = x6.From) && (decide (x2.To = x6.To) && (decide (x2.Msg.Kind = x6.Msg.Kind) && (decide (x2.Msg.Epoch = x6.Msg.Epoch) && (decide (x2.Msg.Num = x6.Msg.Num) && true))))) (
 Option.map Sum.inr (some x5)) (
 some (.inl (wr (x5 + 1))))) (
 Option.map Sum.inr (f_slices_Index_Mail_j1 F ()))
theorem le_slices_Index_Mail_l1 {F : Nat} {x1 : (List Mail)} {x2 : Mail} : ∀ s, ole (f_slices_Index_Mail_l1 F x1 x2 s) (m_slices_Index_Mail_l1 x1 x2 s) := by
  intro x5
  unfold f_slices_Index_Mail_l1 m_slices_Index_Mail_l1
  try dsimp only
  repeat' first | with_reducible exact ole_refl _ | assumption | intro _ | with_reducible refine ole_ifb ?_ ?_ | with_reducible refine ole_bind ?_ ?_ | with_reducible refine ole_map ?_ | with_reducible refine ole_loop ?_ | with_reducible apply le_slices_Index_Mail_j1
def f_slices_Index_Mail (F : Nat) (x1 : (List Mail)) (x2 : Mail) : Option Int :=
 loopF F (f_slices_Index_Mail_l1 F x1 x2) 0
theorem le_slices_Index_Mail {F : Nat} {x1 : (List Mail)} {x2 : Mail} : ole (f_slices_Index_Mail F x1 x2) (m_slices_Index_Mail x1 x2) := by
  unfold f_slices_Index_Mail m_slices_Index_Mail
  repeat' first | with_reducible exact ole_refl _ | assumption | intro _ | with_reducible refine ole_ifb ?_ ?_ | with_reducible refine ole_bind ?_ ?_ | with_reducible refine ole_map ?_ | with_reducible refine ole_loop ?_ | with_reducible apply le_slices_Index_Mail_j1 | with_reducible apply le_slices_Index_Mail_l1
end NX
end Go.Proofs.Ytadebhbiglmodaa
/-
  The function slices.Contains[[]narthex/api.Mail,narthex/api.Mail]: its code compiled, a model, and that the code answers as the model. Written by a program of ours (lb.py). No statement of the seat is proved here.
-/
namespace Go.Proofs.Ytadebhbiglmodaa
namespace NX
open Go
set_option maxRecDepth 100000
set_option maxHeartbeats 4000000
def e_slices_Contains_Mail : EC := .seq (.reg [⟨(some 3), none, .box 97 5 (.t 1)⟩, ⟨(some 4), none, .mv (.c .ff)⟩]) (.seq (.reg [⟨(some 5), none, .mv (.t 0)⟩, ⟨(some 6), none, .loadA 5 (.t 3)⟩, ⟨(some 7), none, .call 86 [(.t 5), (.t 6)]⟩, ⟨(some 8), none, .bin .geq (.t 7) (.c (.iv 0))⟩, ⟨(some 4), none, .mv (.t 8)⟩]) (.ret))
theorem ok_slices_Contains_Mail : FnOK Try.prog 61 Try.f61 e_slices_Contains_Mail [.t 4] 2 7 := ⟨by kernel_rfl, ⟨_, rfl, by kernel_rfl⟩, by kernel_rfl, by kernel_rfl⟩
/- slices.Contains[[]narthex/api.Mail,narthex/api.Mail] -/
noncomputable def m_slices_Contains_Mail (x1 : (List Mail)) (x2 : Mail) : Option Bool :=
 (m_slices_Index_Mail x1 x2).bind fun x3 =>
 some (decide (0 ≤ x3))
theorem k_slices_Contains_Mail (x1 : (List Mail)) (x2 : Mail) (r : Bool) (h : m_slices_Contains_Mail x1 x2 = some r) : FunP Try.prog 61 [.sl 5 (List.map Mail.row x1), .agg (Mail.row x2)] (.bv r) := by
  refine FunP_intro ok_slices_Contains_Mail rfl rfl fun w0 H0 => ?_
  rw [m_slices_Contains_Mail] at h
  refine V_go 9 ?_
  dsimp only [e_slices_Contains_Mail, go_sem, Nat.reduceBEq, Nat.reduceAdd]
  refine ⟨by simp, ?_⟩
  obtain ⟨x3, ex3, h⟩ := Option.bind_eq_some_iff.1 h
  refine V_call trivial (k_slices_Index_Mail x1 x2 _ ex3) (by first | exact leL_refl _ | simp [go_sem]) (by first | rfl | simp [go_sem]) ?_
  refine V_go 3 ?_
  dsimp only [e_slices_Contains_Mail, go_sem, Nat.reduceBEq, Nat.reduceAdd]
  refine ⟨by simp, ?_⟩
  exact M_done (res := fun (r : Bool) => .bv r) ok_slices_Contains_Mail h (by first | exact le_refl _ | simp [go_sem])
def f_slices_Contains_Mail (F : Nat) (x1 : (List Mail)) (x2 : Mail) : Option Bool :=
 (f_slices_Index_Mail F x1 x2).bind fun x3 =>
 some (decide (0 ≤ x3))
theorem le_slices_Contains_Mail {F : Nat} {x1 : (List Mail)} {x2 : Mail} : ole (f_slices_Contains_Mail F x1 x2) (m_slices_Contains_Mail x1 x2) := by
  unfold f_slices_Contains_Mail m_slices_Contains_Mail
  repeat' first | with_reducible exact ole_refl _ | assumption | intro _ | with_reducible refine ole_ifb ?_ ?_ | with_reducible refine ole_bind ?_ ?_ | with_reducible refine ole_map ?_ | with_reducible refine ole_loop ?_ | with_reducible apply le_slices_Index_Mail
end NX
end Go.Proofs.Ytadebhbiglmodaa
/-
  The function slices.EqualFunc[[]narthex/api.Diner,[]narthex/api.Diner,narthex/api.Diner,narthex/api.Diner]: its code compiled, a model, and that the code answers as the model. Written by a program of ours (lb.py). No statement of the seat is proved here.
-/
namespace Go.Proofs.Ytadebhbiglmodaa
namespace NX
open Go
set_option maxRecDepth 100000
set_option maxHeartbeats 4000000
def e_slices_EqualFunc_Diner_L0 : EC := .seq (.reg [⟨(some 18), none, .bin .lss (.t 17) (.t 16)⟩]) (.seq (.ite (.t 18) (.skip) (.exit 0)) (.seq (.blk 1 (.seq (.reg [⟨(some 19), none, .mv (.t 17)⟩, ⟨(some 20), none, .idx 3 (.t 15) (.t 17)⟩, ⟨(some 21), none, .loadA 3 (.t 20)⟩, ⟨(some 8), none, .alloc 39 [.iv 0, .iv 0, .nl]⟩, ⟨(some 7), none, .mv (.t 19)⟩, ⟨none, none, .store 3 (.t 8) (.t 21)⟩]) (.seq (.reg [⟨(some 22), none, .mv (.t 1)⟩, ⟨(some 23), none, .mv (.t 7)⟩, ⟨(some 24), none, .idx 3 (.t 22) (.t 23)⟩, ⟨(some 25), none, .loadA 3 (.t 24)⟩, ⟨(some 9), none, .alloc 39 [.iv 0, .iv 0, .nl]⟩, ⟨none, none, .store 3 (.t 9) (.t 25)⟩]) (.seq (.reg [⟨(some 26), none, .mv (.t 2)⟩, ⟨(some 27), none, .loadA 3 (.t 8)⟩, ⟨(some 28), none, .loadA 3 (.t 9)⟩, ⟨(some 29), none, .callv (.t 26) [(.t 27), (.t 28)]⟩, ⟨(some 30), none, .not (.t 29)⟩]) (.ite (.t 30) (.seq (.reg [⟨(some 6), none, .mv (.c .ff)⟩]) (.ret)) (.skip)))))) (.reg [⟨(some 31), none, .bin .add (.t 17) (.c (.iv 1))⟩, ⟨(some 17), none, .mv (.t 31)⟩])))
def e_slices_EqualFunc_Diner : EC := .seq (.reg [⟨(some 6), none, .mv (.c .ff)⟩]) (.seq (.seq (.reg [⟨(some 10), none, .mv (.t 0)⟩, ⟨(some 11), none, .len (.t 10)⟩, ⟨(some 12), none, .mv (.t 1)⟩, ⟨(some 13), none, .len (.t 12)⟩, ⟨(some 14), none, .bin .neq (.t 11) (.t 13)⟩]) (.ite (.t 14) (.seq (.reg [⟨(some 6), none, .mv (.c .ff)⟩]) (.ret)) (.skip))) (.seq (.seq (.reg [⟨(some 15), none, .mv (.t 0)⟩, ⟨(some 16), none, .len (.t 15)⟩, ⟨(some 17), none, .mv (.c (.iv 0))⟩]) (.blk 0 (.loop e_slices_EqualFunc_Diner_L0))) (.seq (.reg [⟨(some 6), none, .mv (.c .tt)⟩]) (.ret))))
theorem ok_slices_EqualFunc_Diner : FnOK Try.prog 57 Try.f57 e_slices_EqualFunc_Diner [.t 6] 3 29 := ⟨by kernel_rfl, ⟨_, rfl, by kernel_rfl⟩, by kernel_rfl, by kernel_rfl⟩
/- slices.EqualFunc[[]narthex/api.Diner,[]narthex/api.Diner,narthex/api.Diner,narthex/api.Diner] -/
noncomputable def m_slices_EqualFunc_Diner_j1  : Unit → Option Bool
| () =>
 some true
noncomputable def m_slices_EqualFunc_Diner_l1 (x1 : (List Diner)) (x2 : (List Diner)) (p2 : ((Diner × Diner) → Option Bool)) : Int → Option (Int ⊕ Bool)
| x7 =>
 ifb (decide (x7 < (ln Diner.row x1))) (
 (at_ x1 x7).bind fun x8 =>
 (at_ x2 x7).bind fun x9 =>
 (p2 (x8, x9)).bind fun x10 =>
 ifb (!x10) (
 Option.map Sum.inr (some false)) (
 some (.inl (wr (x7 + 1))))) (
 Option.map Sum.inr (m_slices_EqualFunc_Diner_j1 ()))
noncomputable def m_slices_EqualFunc_Diner (x1 : (List Diner)) (x2 : (List Diner)) (p2 : ((Diner × Diner) → Option Bool)) : Option Bool :=
 ifb (!decide ((ln Diner.row x1) = (ln Diner.row x2))) (
 some false) (
 loop (m_slices_EqualFunc_Diner_l1 x1 x2 p2) 0)
theorem k_slices_EqualFunc_Diner (x1 : (List Diner)) (x2 : (List Diner)) (g2 : Nat) (caps2 : List AV) (p2 : ((Diner × Diner) → Option Bool)) (hc2 : CloOK Try.prog g2 caps2 (fun z => [.agg (Diner.row z.1), .agg (Diner.row z.2)]) p2 (fun z => .bv z)) (r : Bool) (h : m_slices_EqualFunc_Diner x1 x2 p2 = some r) : FunP Try.prog 57 [.sl 3 (List.map Diner.row x1), .sl 3 (List.map Diner.row x2), .clo g2 caps2] (.bv r) := by
  refine FunP_intro ok_slices_EqualFunc_Diner rfl rfl fun w0 H0 => ?_
  rw [m_slices_EqualFunc_Diner] at h
  refine V_go 13 ?_
  dsimp only [e_slices_EqualFunc_Diner, e_slices_EqualFunc_Diner_L0, go_sem, Nat.reduceBEq, Nat.reduceAdd]
  refine ⟨by simp, ?_⟩
  refine M_ite h rfl (fun hb h => ?_) (fun hb h => ?_)
  · refine V_go 4 ?_
    dsimp only [e_slices_EqualFunc_Diner, e_slices_EqualFunc_Diner_L0, go_sem, Nat.reduceBEq, Nat.reduceAdd]
    refine ⟨by simp, ?_⟩
    exact M_done (res := fun (r : Bool) => .bv r) ok_slices_EqualFunc_Diner h (by first | exact le_refl _ | simp [go_sem])
  · refine V_go 8 ?_
    dsimp only [e_slices_EqualFunc_Diner, e_slices_EqualFunc_Diner_L0, go_sem, Nat.reduceBEq, Nat.reduceAdd]
    refine ⟨by simp, ?_⟩
    refine V_join (fun (_ : Unit) => (⟨(an 32 []), [], []⟩ : St)) m_slices_EqualFunc_Diner_j1 r ?_ fun J1 => ?_
    · rintro ⟨⟩ h
      rw [m_slices_EqualFunc_Diner_j1] at h
      try dsimp only
      refine V_go 4 ?_
      dsimp only [e_slices_EqualFunc_Diner, e_slices_EqualFunc_Diner_L0, go_sem, Nat.reduceBEq, Nat.reduceAdd]
      refine ⟨by simp, ?_⟩
      exact M_done (res := fun (r : Bool) => .bv r) ok_slices_EqualFunc_Diner h (by first | exact le_refl _ | simp [go_sem])
    · refine V_go 1 ?_
      dsimp only [e_slices_EqualFunc_Diner, e_slices_EqualFunc_Diner_L0, go_sem, Nat.reduceBEq, Nat.reduceAdd]
      refine ⟨by simp, ?_⟩
      refine M_loop h (fun (x7 : Int) => (⟨(.any :: .sl 3 (List.map Diner.row x2) :: .clo g2 caps2 :: an 12 (.sl 3 (List.map Diner.row x1) :: .iv (ln Diner.row x1) :: .iv x7 :: an 14 [])), [], []⟩ : St)) (by simp [go_sem]) (by intro x7; first | rfl | simp [go_sem, puL_ok _ hc2.pu]) ?_
      rintro n1 x7 y1 h hin1 hout1
      rw [m_slices_EqualFunc_Diner_l1] at h
      try dsimp only
      refine V_go 5 ?_
      dsimp only [e_slices_EqualFunc_Diner, e_slices_EqualFunc_Diner_L0, go_sem, Nat.reduceBEq, Nat.reduceAdd]
      refine ⟨by simp, ?_⟩
      refine M_ite h rfl (fun hb h => ?_) (fun hb h => ?_)
      · refine V_go 6 ?_
        dsimp only [e_slices_EqualFunc_Diner, e_slices_EqualFunc_Diner_L0, go_sem, Nat.reduceBEq, Nat.reduceAdd]
        refine ⟨by simp, ?_⟩
        obtain ⟨x8, ex8, h⟩ := Option.bind_eq_some_iff.1 h
        refine V_idxM Diner.row ex8 trivial rfl rfl rfl ?_
        refine V_go 9 ?_
        dsimp only [e_slices_EqualFunc_Diner, e_slices_EqualFunc_Diner_L0, go_sem, Nat.reduceBEq, Nat.reduceAdd]
        refine ⟨by simp, ?_⟩
        obtain ⟨x9, ex9, h⟩ := Option.bind_eq_some_iff.1 h
        refine V_idxM Diner.row ex9 trivial rfl rfl rfl ?_
        refine V_go 9 ?_
        dsimp only [e_slices_EqualFunc_Diner, e_slices_EqualFunc_Diner_L0, go_sem, Nat.reduceBEq, Nat.reduceAdd]
        refine ⟨by simp, ?_⟩
        obtain ⟨x10, ex10, h⟩ := Option.bind_eq_some_iff.1 h
        refine V_callp trivial rfl hc2 (x := (x8, x9)) ex10 (by first | exact leL_refl _ | simp [go_sem]) (by first | rfl | simp [go_sem, hc2.pu]) ?_
        refine V_go 2 ?_
        dsimp only [e_slices_EqualFunc_Diner, e_slices_EqualFunc_Diner_L0, go_sem, Nat.reduceBEq, Nat.reduceAdd]
        refine ⟨by simp, ?_⟩
        refine M_ite h rfl (fun hb h => ?_) (fun hb h => ?_)
        · refine V_go 4 ?_
          dsimp only [e_slices_EqualFunc_Diner, e_slices_EqualFunc_Diner_L0, go_sem, Nat.reduceBEq, Nat.reduceAdd]
          refine ⟨by simp, ?_⟩
          exact M_done (res := fun (r : Bool) => .bv r) ok_slices_EqualFunc_Diner (M_out h hout1) (by first | exact le_refl _ | simp [go_sem])
        · refine V_go 6 ?_
          dsimp only [e_slices_EqualFunc_Diner, e_slices_EqualFunc_Diner_L0, go_sem, Nat.reduceBEq, Nat.reduceAdd]
          refine ⟨by simp, ?_⟩
          exact M_back h hin1 (by simp [go_sem]) (by first | rfl | simp [go_sem, puL_ok _ hc2.pu])
      · refine V_go 1 ?_
        dsimp only [e_slices_EqualFunc_Diner, e_slices_EqualFunc_Diner_L0, go_sem, Nat.reduceBEq, Nat.reduceAdd]
        refine ⟨by simp, ?_⟩
        exact M_to J1 (s := ()) (M_out h hout1) (by simp [go_sem]) (by first | rfl | simp [go_sem, puL_ok _ hc2.pu])
def f_slices_EqualFunc_Diner_j1 (F : Nat)  : Unit → Option Bool
| () =>
 some true
theorem le_slices_EqualFunc_Diner_j1 {F : Nat} : ∀ s, ole (f_slices_EqualFunc_Diner_j1 F s) (m_slices_EqualFunc_Diner_j1 s) := by
  rintro ⟨⟩
  unfold f_slices_EqualFunc_Diner_j1 m_slices_EqualFunc_Diner_j1
  try dsimp only
  repeat' first | with_reducible exact ole_refl _ | assumption | intro _ | with_reducible refine ole_ifb ?_ ?_ | with_reducible refine ole_bind ?_ ?_ | with_reducible refine ole_map ?_ | with_reducible refine ole_loop ?_ | with_reducible apply h_p2
def f_slices_EqualFunc_Diner_l1 (F : Nat) (x1 : (List Diner)) (x2 : (List Diner)) (p2 : ((Diner × Diner) → Option Bool)) : Int → Option (Int ⊕ Bool)
| x7 =>
 ifb (decide (x7 < (ln Diner.row x1))) (
 (at_ x1 x7).bind fun x8 =>
 (at_ x2 x7).bind fun x9 =>
 (p2 (x8, x9)).bind fun x10 =>
 ifb (!x10) (
 Option.map Sum.inr (some false)) (
 some (.inl (wr (x7 + 1))))) (
 Option.map Sum.inr (f_slices_EqualFunc_Diner_j1 F ()))
theorem le_slices_EqualFunc_Diner_l1 {F : Nat} {x1 : (List Diner)} {x2 : (List Diner)} {p2 p2_ : ((Diner × Diner) → Option Bool)} (h_p2 : ∀ z, ole (p2 z) (p2_ z)) : ∀ s, ole (f_slices_EqualFunc_Diner_l1 F x1 x2 p2 s) (m_slices_EqualFunc_Diner_l1 x1 x2 p2_ s) := by
  intro x7
  unfold f_slices_EqualFunc_Diner_l1 m_slices_EqualFunc_Diner_l1
  try dsimp only
  repeat' first | with_reducible exact ole_refl _ | assumption | intro _ | with_reducible refine ole_ifb ?_ ?_ | with_reducible refine ole_bind ?_ ?_ | with_reducible refine ole_map ?_ | with_reducible refine ole_loop ?_ | with_reducible apply le_slices_EqualFunc_Diner_j1 | with_reducible apply h_p2
def f_slices_EqualFunc_Diner (F : Nat) (x1 : (List Diner)) (x2 : (List Diner)) (p2 : ((Diner × Diner) → Option Bool)) : Option Bool :=
 ifb (!decide ((ln Diner.row x1) = (ln Diner.row x2))) (
 some false) (
 loopF F (f_slices_EqualFunc_Diner_l1 F x1 x2 p2) 0)
theorem le_slices_EqualFunc_Diner {F : Nat} {x1 : (List Diner)} {x2 : (List Diner)} {p2 p2_ : ((Diner × Diner) → Option Bool)} (h_p2 : ∀ z, ole (p2 z) (p2_ z)) : ole (f_slices_EqualFunc_Diner F x1 x2 p2) (m_slices_EqualFunc_Diner x1 x2 p2_) := by
  unfold f_slices_EqualFunc_Diner m_slices_EqualFunc_Diner
  repeat' first | with_reducible exact ole_refl _ | assumption | intro _ | with_reducible refine ole_ifb ?_ ?_ | with_reducible refine ole_bind ?_ ?_ | with_reducible refine ole_map ?_ | with_reducible refine ole_loop ?_ | with_reducible apply le_slices_EqualFunc_Diner_j1 | with_reducible apply le_slices_EqualFunc_Diner_l1 | with_reducible apply h_p2
end NX
end Go.Proofs.Ytadebhbiglmodaa
/-
  The function slices.Equal[[]narthex/api.Side,narthex/api.Side]: its code compiled, a model, and that the code answers as the model. Written by a program of ours (lb.py). No statement of the seat is proved here.
-/
namespace Go.Proofs.Ytadebhbiglmodaa
namespace NX
open Go
set_option maxRecDepth 100000
set_option maxHeartbeats 4000000
def e_slices_Equal_Side_L0 : EC := .seq (.reg [⟨(some 14), none, .bin .lss (.t 13) (.t 12)⟩]) (.seq (.ite (.t 14) (.skip) (.exit 0)) (.seq (.blk 1 (.seq (.reg [⟨(some 15), none, .mv (.t 13)⟩, ⟨(some 5), none, .mv (.t 15)⟩]) (.seq (.drw [⟨(some 16), none, .mv (.t 0)⟩, ⟨(some 17), none, .mv (.t 5)⟩, ⟨(some 18), none, .idx 8 (.t 16) (.t 17)⟩, ⟨(some 19), none, .loadA 8 (.t 18)⟩, ⟨(some 20), none, .mv (.t 1)⟩, ⟨(some 21), none, .mv (.t 5)⟩, ⟨(some 22), none, .idx 8 (.t 20) (.t 21)⟩, ⟨(some 23), none, .loadA 8 (.t 22)⟩, ⟨(some 24), none, .eqs true [true, true, true, false, false, false, false, false] (.t 19) (.t 23)⟩] [[], [], [0, 1], [2], [], [], [4, 5], [6], [3, 7]] [[2], [2], [0, 1, 3], [2, 8], [6], [6], [4, 5, 7], [6, 8], [3, 7]]) (.ite (.t 24) (.seq (.reg [⟨(some 4), none, .mv (.c .ff)⟩]) (.ret)) (.skip))))) (.reg [⟨(some 25), none, .bin .add (.t 13) (.c (.iv 1))⟩, ⟨(some 13), none, .mv (.t 25)⟩])))
def e_slices_Equal_Side : EC := .seq (.reg [⟨(some 4), none, .mv (.c .ff)⟩]) (.seq (.seq (.reg [⟨(some 6), none, .mv (.t 0)⟩, ⟨(some 7), none, .len (.t 6)⟩, ⟨(some 8), none, .mv (.t 1)⟩, ⟨(some 9), none, .len (.t 8)⟩, ⟨(some 10), none, .bin .neq (.t 7) (.t 9)⟩]) (.ite (.t 10) (.seq (.reg [⟨(some 4), none, .mv (.c .ff)⟩]) (.ret)) (.skip))) (.seq (.seq (.reg [⟨(some 11), none, .mv (.t 0)⟩, ⟨(some 12), none, .len (.t 11)⟩, ⟨(some 13), none, .mv (.c (.iv 0))⟩]) (.blk 0 (.loop e_slices_Equal_Side_L0))) (.seq (.reg [⟨(some 4), none, .mv (.c .tt)⟩]) (.ret))))
theorem ok_slices_Equal_Side : FnOK Try.prog 59 Try.f59 e_slices_Equal_Side [.t 4] 2 24 := ⟨by kernel_rfl, ⟨_, rfl, by kernel_rfl⟩, by kernel_rfl, by kernel_rfl⟩
/- slices.Equal[[]narthex/api.Side,narthex/api.Side] -/
noncomputable def m_slices_Equal_Side_j1  : Unit → Option Bool
| () =>
 some true
noncomputable def m_slices_Equal_Side_l1 (x1 : (List Side)) (x2 : (List Side)) : Int → Option (Int ⊕ Bool)
| x6 =>
 ifb (decide (x6 < (ln Side.row x1))) (
 (at_ x1 x6).bind fun x7 =>
 (at_ x2 x6).bind fun x8 =>
 ifb (!(decide (x7.Peer = x8.Peer) && (decide (x7.Epoch = x8.Epoch) && (decide (x7.State = x8.State) && ((x7.Fork == x8.Fork) && ((x7.Dirty == x8.Dirty) && ((x7.Token == x8.Token) && ((x7.Bottle == x8.Bottle) && ((x7.Ask == x8.Ask) && true))))))))) (
 Option.map Sum.inr (some false)) (
 some (.inl (wr (x6 + 1))))) (
 Option.map Sum.inr (m_slices_Equal_Side_j1 ()))
noncomputable def m_slices_Equal_Side (x1 : (List Side)) (x2 : (List Side)) : Option Bool :=
 ifb (!decide ((ln Side.row x1) = (ln Side.row x2))) (
 some false) (
 loop (m_slices_Equal_Side_l1 x1 x2) 0)
theorem k_slices_Equal_Side (x1 : (List Side)) (x2 : (List Side)) (r : Bool) (h : m_slices_Equal_Side x1 x2 = some r) : FunP Try.prog 59 [.sl 8 (List.map Side.row x1), .sl 8 (List.map Side.row x2)] (.bv r) := by
  refine FunP_intro ok_slices_Equal_Side rfl rfl fun w0 H0 => ?_
  rw [m_slices_Equal_Side] at h
  refine V_go 13 ?_
  dsimp only [e_slices_Equal_Side, e_slices_Equal_Side_L0, go_sem, Nat.reduceBEq, Nat.reduceAdd]
  refine ⟨by simp, ?_⟩
  refine M_ite h rfl (fun hb h => ?_) (fun hb h => ?_)
  · refine V_go 4 ?_
    dsimp only [e_slices_Equal_Side, e_slices_Equal_Side_L0, go_sem, Nat.reduceBEq, Nat.reduceAdd]
    refine ⟨by simp, ?_⟩
    exact M_done (res := fun (r : Bool) => .bv r) ok_slices_Equal_Side h (by first | exact le_refl _ | simp [go_sem])
  · refine V_go 8 ?_
    dsimp only [e_slices_Equal_Side, e_slices_Equal_Side_L0, go_sem, Nat.reduceBEq, Nat.reduceAdd]
    refine ⟨by simp, ?_⟩
    refine V_join (fun (_ : Unit) => (⟨(an 26 []), [], []⟩ : St)) m_slices_Equal_Side_j1 r ?_ fun J1 => ?_
    · rintro ⟨⟩ h
      rw [m_slices_Equal_Side_j1] at h
      try dsimp only
      refine V_go 4 ?_
      dsimp only [e_slices_Equal_Side, e_slices_Equal_Side_L0, go_sem, Nat.reduceBEq, Nat.reduceAdd]
      refine ⟨by simp, ?_⟩
      exact M_done (res := fun (r : Bool) => .bv r) ok_slices_Equal_Side h (by first | exact le_refl _ | simp [go_sem])
    · refine V_go 1 ?_
      dsimp only [e_slices_Equal_Side, e_slices_Equal_Side_L0, go_sem, Nat.reduceBEq, Nat.reduceAdd]
      refine ⟨by simp, ?_⟩
      refine M_loop h (fun (x6 : Int) => (⟨(.sl 8 (List.map Side.row x1) :: .sl 8 (List.map Side.row x2) :: an 10 (.iv (ln Side.row x1) :: .iv x6 :: an 12 [])), [], []⟩ : St)) (by simp [go_sem]) (by intro x6; first | rfl | simp [go_sem]) ?_
      rintro n1 x6 y1 h hin1 hout1
      rw [m_slices_Equal_Side_l1] at h
      try dsimp only
      refine V_go 5 ?_
      dsimp only [e_slices_Equal_Side, e_slices_Equal_Side_L0, go_sem, Nat.reduceBEq, Nat.reduceAdd]
      refine ⟨by simp, ?_⟩
      refine M_ite h rfl (fun hb h => ?_) (fun hb h => ?_)
      · refine V_go 9 ?_
        dsimp only [e_slices_Equal_Side, e_slices_Equal_Side_L0, go_sem, Nat.reduceBEq, Nat.reduceAdd]
        refine ⟨by simp, ?_⟩
        refine V_drw (by kernel_rfl) fun all hall hs hnap haf => ?_
        dsimp only [go_sem, Nat.reduceBEq, Nat.reduceAdd]
        refine G_goN hall hs haf hnap 4 5 ?_
        dsimp only [go_sem, Nat.reduceBEq, Nat.reduceAdd]
        refine ⟨by simp, ?_⟩
        obtain ⟨x7, ex7, h⟩ := Option.bind_eq_some_iff.1 h
        refine G_idxM hall hs haf hnap 2 Side.row ex7 rfl rfl trivial rfl rfl rfl rfl ?_
        refine G_goN hall hs haf hnap 1 3 ?_
        dsimp only [go_sem, Nat.reduceBEq, Nat.reduceAdd]
        refine ⟨by simp, ?_⟩
        obtain ⟨x8, ex8, h⟩ := Option.bind_eq_some_iff.1 h
        refine G_idxM hall hs haf hnap 6 Side.row ex8 rfl rfl trivial rfl rfl rfl rfl ?_
        refine G_goN hall hs haf hnap 2 0 ?_
        dsimp only [go_sem, Nat.reduceBEq, Nat.reduceAdd]
        refine ⟨by simp, ?_⟩
        refine G_done rfl ?_ _
        refine M_ite h rfl (fun hb h => ?_) (fun hb h => ?_)
        · refine V_go 4 ?_
          dsimp only [e_slices_Equal_Side, e_slices_Equal_Side_L0, go_sem, Nat.reduceBEq, Nat.reduceAdd]
          refine ⟨by simp, ?_⟩
          exact M_done (res := fun (r : Bool) => .bv r) ok_slices_Equal_Side (M_out h hout1) (by first | exact le_refl _ | simp [go_sem])
        · refine V_go 6 ?_
          dsimp only [e_slices_Equal_Side, e_slices_Equal_Side_L0, go_sem, Nat.reduceBEq, Nat.reduceAdd]
          refine ⟨by simp, ?_⟩
          exact M_back h hin1 (by simp [go_sem]) (by first | rfl | simp [go_sem])
      · refine V_go 1 ?_
        dsimp only [e_slices_Equal_Side, e_slices_Equal_Side_L0, go_sem, Nat.reduceBEq, Nat.reduceAdd]
        refine ⟨by simp, ?_⟩
        exact M_to J1 (s := ()) (M_out h hout1) (by simp [go_sem]) (by first | rfl | simp [go_sem])
def f_slices_Equal_Side_j1 (F : Nat)  : Unit → Option Bool
| () =>
 some true
theorem le_slices_Equal_Side_j1 {F : Nat} : ∀ s, ole (f_slices_Equal_Side_j1 F s) (m_slices_Equal_Side_j1 s) := by
  rintro ⟨⟩
  unfold f_slices_Equal_Side_j1 m_slices_Equal_Side_j1
  try dsimp only
  repeat' first | with_reducible exact ole_refl _ | assumption | intro _ | with_reducible refine ole_ifb ?_ ?_ | with_reducible refine ole_bind ?_ ?_ | with_reducible refine ole_map ?_ | with_reducible refine ole_loop ?_
def f_slices_Equal_Side_l1 (F : Nat) (x1 : (List Side)) (x2 : (List Side)) : Int → Option (Int ⊕ Bool)
| x6 =>
 ifb (decide (x6 < (ln Side.row x1))) (
 (at_ x1 x6).bind fun x7 =>
 (at_ x2 x6).bind fun x8 =>
 ifb (!(decide (x7.Peer = x8.Peer) && (decide (x7.Epoch = x8.Epoch) && (decide (x7.State = x8.State) && ((x7.Fork == x8.Fork) && ((x7.Dirty == x8.Dirty) && ((x7.Token == x8.Token) && ((x7.Bottle == x8.Bottle) && ((x7.Ask == x8.Ask) && true))))))))) (
 Option.map Sum.inr (some false)) (
 some (.inl (wr (x6 + 1))))) (
 Option.map Sum.inr (f_slices_Equal_Side_j1 F ()))
theorem le_slices_Equal_Side_l1 {F : Nat} {x1 : (List Side)} {x2 : (List Side)} : ∀ s, ole (f_slices_Equal_Side_l1 F x1 x2 s) (m_slices_Equal_Side_l1 x1 x2 s) := by
  intro x6
  unfold f_slices_Equal_Side_l1 m_slices_Equal_Side_l1
  try dsimp only
  repeat' first | with_reducible exact ole_refl _ | assumption | intro _ | with_reducible refine ole_ifb ?_ ?_ | with_reducible refine ole_bind ?_ ?_ | with_reducible refine ole_map ?_ | with_reducible refine ole_loop ?_ | with_reducible apply le_slices_Equal_Side_j1
def f_slices_Equal_Side (F : Nat) (x1 : (List Side)) (x2 : (List Side)) : Option Bool :=
 ifb (!decide ((ln Side.row x1) = (ln Side.row x2))) (
 some false) (
 loopF F (f_slices_Equal_Side_l1 F x1 x2) 0)
theorem le_slices_Equal_Side {F : Nat} {x1 : (List Side)} {x2 : (List Side)} : ole (f_slices_Equal_Side F x1 x2) (m_slices_Equal_Side x1 x2) := by
  unfold f_slices_Equal_Side m_slices_Equal_Side
  repeat' first | with_reducible exact ole_refl _ | assumption | intro _ | with_reducible refine ole_ifb ?_ ?_ | with_reducible refine ole_bind ?_ ?_ | with_reducible refine ole_map ?_ | with_reducible refine ole_loop ?_ | with_reducible apply le_slices_Equal_Side_j1 | with_reducible apply le_slices_Equal_Side_l1
end NX
end Go.Proofs.Ytadebhbiglmodaa
/-
  The function narthex/place.Same$1: its code compiled, a model, and that the code answers as the model. Written by a program of ours (lb.py). No statement of the seat is proved here.
-/
namespace Go.Proofs.Ytadebhbiglmodaa
namespace NX
open Go
set_option maxRecDepth 100000
set_option maxHeartbeats 4000000
def e_place_Same_1 : EC := .seq (.reg [⟨(some 2), none, .box 39 3 (.t 0)⟩, ⟨(some 3), none, .box 39 3 (.t 1)⟩, ⟨(some 4), none, .mv (.c .ff)⟩]) (.seq (.reg [⟨(some 5), none, .fld 0 (.t 2)⟩, ⟨(some 6), none, .load (.t 5)⟩, ⟨(some 7), none, .fld 0 (.t 3)⟩, ⟨(some 8), none, .load (.t 7)⟩, ⟨(some 9), none, .bin .eql (.t 6) (.t 8)⟩, ⟨(some 10), none, .mv (.t 9)⟩, ⟨(some 11), (some (10, true)), .fld 1 (.t 2)⟩, ⟨(some 12), (some (10, true)), .load (.t 11)⟩, ⟨(some 13), (some (10, true)), .fld 1 (.t 3)⟩, ⟨(some 14), (some (10, true)), .load (.t 13)⟩, ⟨(some 15), (some (10, true)), .bin .eql (.t 12) (.t 14)⟩, ⟨(some 16), none, .pick (.t 10) (.t 15) (.c .ff)⟩, ⟨(some 17), none, .mv (.t 16)⟩, ⟨(some 18), (some (17, true)), .fld 2 (.t 2)⟩, ⟨(some 19), (some (17, true)), .load (.t 18)⟩, ⟨(some 20), (some (17, true)), .fld 2 (.t 3)⟩, ⟨(some 21), (some (17, true)), .load (.t 20)⟩, ⟨(some 22), (some (17, true)), .call 59 [(.t 19), (.t 21)]⟩, ⟨(some 23), none, .pick (.t 17) (.t 22) (.c .ff)⟩, ⟨(some 4), none, .mv (.t 23)⟩]) (.ret))
theorem ok_place_Same_1 : FnOK Try.prog 58 Try.f58 e_place_Same_1 [.t 4] 2 22 := ⟨by kernel_rfl, ⟨_, rfl, by kernel_rfl⟩, by kernel_rfl, by kernel_rfl⟩
/- narthex/place.Same$1 -/
noncomputable def m_place_Same_1_j1  : Bool → Option Bool
| x4 =>
 some x4
noncomputable def m_place_Same_1 (x1 : Diner) (x2 : Diner) : Option Bool :=
 ifb (decide (x1.ID = x2.ID)) (
 ifb (decide (x1.Phase = x2.Phase)) (
 (m_slices_Equal_Side x1.Sides x2.Sides).bind fun x3 =>
 m_place_Same_1_j1 x3) (
 m_place_Same_1_j1 false)) (
 m_place_Same_1_j1 false)
theorem k_place_Same_1 (x1 : Diner) (x2 : Diner) (r : Bool) (h : m_place_Same_1 x1 x2 = some r) : FunP Try.prog 58 [.agg (Diner.row x1), .agg (Diner.row x2)] (.bv r) := by
  refine FunP_intro ok_place_Same_1 rfl rfl fun w0 H0 => ?_
  rw [m_place_Same_1] at h
  refine V_go 14 ?_
  dsimp only [e_place_Same_1, go_sem, Nat.reduceBEq, Nat.reduceAdd]
  refine ⟨by simp, ?_⟩
  refine V_join (fun (x4 : Bool) => (⟨(an 4 (.bv x4 :: an 19 [])), [], []⟩ : St)) m_place_Same_1_j1 r ?_ fun J1 => ?_
  · intro x4 h
    rw [m_place_Same_1_j1] at h
    try dsimp only
    exact M_done (res := fun (r : Bool) => .bv r) ok_place_Same_1 h (by first | exact le_refl _ | simp [go_sem])
  · refine M_case 10 h rfl (fun hb h => ?_) (fun hb h => ?_)
    · dsimp only [go_sem, Nat.reduceBEq, Nat.reduceAdd]
      refine V_go 7 ?_
      dsimp only [e_place_Same_1, go_sem, Nat.reduceBEq, Nat.reduceAdd]
      refine ⟨by simp, ?_⟩
      refine M_case 17 h rfl (fun hb h => ?_) (fun hb h => ?_)
      · dsimp only [go_sem, Nat.reduceBEq, Nat.reduceAdd]
        refine V_go 4 ?_
        dsimp only [e_place_Same_1, go_sem, Nat.reduceBEq, Nat.reduceAdd]
        refine ⟨by simp, ?_⟩
        obtain ⟨x3, ex3, h⟩ := Option.bind_eq_some_iff.1 h
        refine V_call trivial (k_slices_Equal_Side x1.Sides x2.Sides _ ex3) (by first | exact leL_refl _ | simp [go_sem]) (by first | rfl | simp [go_sem]) ?_
        refine V_go 3 ?_
        dsimp only [e_place_Same_1, go_sem, Nat.reduceBEq, Nat.reduceAdd]
        refine ⟨by simp, ?_⟩
        exact M_to J1 (s := x3) h (by simp [go_sem]) (by first | rfl | simp [go_sem])
      · dsimp only [go_sem, Nat.reduceBEq, Nat.reduceAdd]
        refine V_go 8 ?_
        dsimp only [e_place_Same_1, go_sem, Nat.reduceBEq, Nat.reduceAdd]
        refine ⟨by simp, ?_⟩
        exact M_to J1 (s := false) h (by simp [go_sem]) (by first | rfl | simp [go_sem])
    · dsimp only [go_sem, Nat.reduceBEq, Nat.reduceAdd]
      refine V_go 15 ?_
      dsimp only [e_place_Same_1, go_sem, Nat.reduceBEq, Nat.reduceAdd]
      refine ⟨by simp, ?_⟩
      exact M_to J1 (s := false) h (by simp [go_sem]) (by first | rfl | simp [go_sem])
def f_place_Same_1_j1 (F : Nat)  : Bool → Option Bool
| x4 =>
 some x4
theorem le_place_Same_1_j1 {F : Nat} : ∀ s, ole (f_place_Same_1_j1 F s) (m_place_Same_1_j1 s) := by
  intro x4
  unfold f_place_Same_1_j1 m_place_Same_1_j1
  try dsimp only
  repeat' first | with_reducible exact ole_refl _ | assumption | intro _ | with_reducible refine ole_ifb ?_ ?_ | with_reducible refine ole_bind ?_ ?_ | with_reducible refine ole_map ?_ | with_reducible refine ole_loop ?_
def f_place_Same_1 (F : Nat) (x1 : Diner) (x2 : Diner) : Option Bool :=
 ifb (decide (x1.ID = x2.ID)) (
 ifb (decide (x1.Phase = x2.Phase)) (
 (f_slices_Equal_Side F x1.Sides x2.Sides).bind fun x3 =>
 f_place_Same_1_j1 F x3) (
 f_place_Same_1_j1 F false)) (
 f_place_Same_1_j1 F false)
theorem le_place_Same_1 {F : Nat} {x1 : Diner} {x2 : Diner} : ole (f_place_Same_1 F x1 x2) (m_place_Same_1 x1 x2) := by
  unfold f_place_Same_1 m_place_Same_1
  repeat' first | with_reducible exact ole_refl _ | assumption | intro _ | with_reducible refine ole_ifb ?_ ?_ | with_reducible refine ole_bind ?_ ?_ | with_reducible refine ole_map ?_ | with_reducible refine ole_loop ?_ | with_reducible apply le_place_Same_1_j1 | with_reducible apply le_slices_Equal_Side
end NX
end Go.Proofs.Ytadebhbiglmodaa
/-
  The function narthex/place.Same: its code compiled, a model, and that the code answers as the model. Written by a program of ours (lb.py). No statement of the seat is proved here.
-/
namespace Go.Proofs.Ytadebhbiglmodaa
namespace NX
open Go
set_option maxRecDepth 100000
set_option maxHeartbeats 4000000
def e_place_Same : EC := .seq (.reg [⟨(some 4), none, .mv (.c .ff)⟩]) (.seq (.reg [⟨(some 5), none, .mv (.t 0)⟩, ⟨(some 6), none, .mv (.t 1)⟩, ⟨(some 7), none, .call 57 [(.t 5), (.t 6), (.c (.clo 58 []))]⟩, ⟨(some 4), none, .mv (.t 7)⟩]) (.ret))
theorem ok_place_Same : FnOK Try.prog 27 Try.f27 e_place_Same [.t 4] 2 6 := ⟨by kernel_rfl, ⟨_, rfl, by kernel_rfl⟩, by kernel_rfl, by kernel_rfl⟩
/- narthex/place.Same -/
noncomputable def m_place_Same (x1 : (List Diner)) (x2 : (List Diner)) : Option Bool :=
 (m_slices_EqualFunc_Diner x1 x2 ((fun z => m_place_Same_1 z.1 z.2))).bind fun x3 =>
 some x3
theorem k_place_Same (x1 : (List Diner)) (x2 : (List Diner)) (r : Bool) (h : m_place_Same x1 x2 = some r) : FunP Try.prog 27 [.sl 3 (List.map Diner.row x1), .sl 3 (List.map Diner.row x2)] (.bv r) := by
  refine FunP_intro ok_place_Same rfl rfl fun w0 H0 => ?_
  rw [m_place_Same] at h
  refine V_go 8 ?_
  dsimp only [e_place_Same, go_sem, Nat.reduceBEq, Nat.reduceAdd]
  refine ⟨by simp, ?_⟩
  obtain ⟨x3, ex3, h⟩ := Option.bind_eq_some_iff.1 h
  refine V_call trivial (k_slices_EqualFunc_Diner x1 x2 _ _ ((fun z => m_place_Same_1 z.1 z.2)) ⟨by kernel_rfl, rfl, fun z r hz => k_place_Same_1 z.1 z.2 r hz⟩ _ ex3) (by first | exact leL_refl _ | simp [go_sem]) (by first | rfl | simp [go_sem]) ?_
  refine V_go 2 ?_
  dsimp only [e_place_Same, go_sem, Nat.reduceBEq, Nat.reduceAdd]
  refine ⟨by simp, ?_⟩
  exact M_done (res := fun (r : Bool) => .bv r) ok_place_Same h (by first | exact le_refl _ | simp [go_sem])
def f_place_Same (F : Nat) (x1 : (List Diner)) (x2 : (List Diner)) : Option Bool :=
 (f_slices_EqualFunc_Diner F x1 x2 ((fun z => f_place_Same_1 F z.1 z.2))).bind fun x3 =>
 some x3
theorem le_place_Same {F : Nat} {x1 : (List Diner)} {x2 : (List Diner)} : ole (f_place_Same F x1 x2) (m_place_Same x1 x2) := by
  unfold f_place_Same m_place_Same
  repeat' first | with_reducible exact ole_refl _ | assumption | intro _ | with_reducible refine ole_ifb ?_ ?_ | with_reducible refine ole_bind ?_ ?_ | with_reducible refine ole_map ?_ | with_reducible refine ole_loop ?_ | with_reducible apply le_slices_EqualFunc_Diner | with_reducible apply le_place_Same_1
end NX
end Go.Proofs.Ytadebhbiglmodaa
/-
  The function narthex/narthexref03.ahead: its code compiled, a model, and that the code answers as the model. Written by a program of ours (lb.py). No statement of the seat is proved here.
-/
namespace Go.Proofs.Ytadebhbiglmodaa
namespace NX
open Go
set_option maxRecDepth 100000
set_option maxHeartbeats 4000000
def e_narthexref03_ahead : EC := .seq (.reg [⟨(some 2), none, .box 58 2 (.t 0)⟩, ⟨(some 3), none, .box 58 2 (.t 1)⟩, ⟨(some 4), none, .mv (.c .ff)⟩]) (.seq (.reg [⟨(some 5), none, .fld 0 (.t 2)⟩, ⟨(some 6), none, .load (.t 5)⟩, ⟨(some 7), none, .fld 0 (.t 3)⟩, ⟨(some 8), none, .load (.t 7)⟩, ⟨(some 9), none, .bin .lss (.t 6) (.t 8)⟩, ⟨(some 10), none, .mv (.t 9)⟩, ⟨(some 11), (some (10, false)), .fld 0 (.t 2)⟩, ⟨(some 12), (some (10, false)), .load (.t 11)⟩, ⟨(some 13), (some (10, false)), .fld 0 (.t 3)⟩, ⟨(some 14), (some (10, false)), .load (.t 13)⟩, ⟨(some 15), (some (10, false)), .bin .eql (.t 12) (.t 14)⟩, ⟨(some 16), (some (10, false)), .mv (.t 15)⟩, ⟨(some 17), (some (16, true)), .fld 1 (.t 2)⟩, ⟨(some 18), (some (16, true)), .load (.t 17)⟩, ⟨(some 19), (some (16, true)), .fld 1 (.t 3)⟩, ⟨(some 20), (some (16, true)), .load (.t 19)⟩, ⟨(some 21), (some (16, true)), .bin .lss (.t 18) (.t 20)⟩, ⟨(some 22), (some (10, false)), .pick (.t 16) (.t 21) (.c .ff)⟩, ⟨(some 23), none, .pick (.t 10) (.c .tt) (.t 22)⟩, ⟨(some 4), none, .mv (.t 23)⟩]) (.ret))
theorem ok_narthexref03_ahead : FnOK Try.prog 52 Try.f52 e_narthexref03_ahead [.t 4] 2 22 := ⟨by kernel_rfl, ⟨_, rfl, by kernel_rfl⟩, by kernel_rfl, by kernel_rfl⟩
/- narthex/narthexref03.ahead -/
noncomputable def m_narthexref03_ahead_j1  : Bool → Option Bool
| x3 =>
 some x3
noncomputable def m_narthexref03_ahead (x1 : Edge) (x2 : Edge) : Option Bool :=
 ifb (decide (x1.A < x2.A)) (
 m_narthexref03_ahead_j1 true) (
 ifb (decide (x1.A = x2.A)) (
 m_narthexref03_ahead_j1 (decide (x1.B < x2.B))) (
 m_narthexref03_ahead_j1 false))
theorem k_narthexref03_ahead (x1 : Edge) (x2 : Edge) (r : Bool) (h : m_narthexref03_ahead x1 x2 = some r) : FunP Try.prog 52 [.agg (Edge.row x1), .agg (Edge.row x2)] (.bv r) := by
  refine FunP_intro ok_narthexref03_ahead rfl rfl fun w0 H0 => ?_
  rw [m_narthexref03_ahead] at h
  refine V_go 14 ?_
  dsimp only [e_narthexref03_ahead, go_sem, Nat.reduceBEq, Nat.reduceAdd]
  refine ⟨by simp, ?_⟩
  refine V_join (fun (x3 : Bool) => (⟨(an 4 (.bv x3 :: an 19 [])), [], []⟩ : St)) m_narthexref03_ahead_j1 r ?_ fun J1 => ?_
  · intro x3 h
    rw [m_narthexref03_ahead_j1] at h
    try dsimp only
    exact M_done (res := fun (r : Bool) => .bv r) ok_narthexref03_ahead h (by first | exact le_refl _ | simp [go_sem])
  · refine M_case 10 h rfl (fun hb h => ?_) (fun hb h => ?_)
    · dsimp only [go_sem, Nat.reduceBEq, Nat.reduceAdd]
      refine V_go 15 ?_
      dsimp only [e_narthexref03_ahead, go_sem, Nat.reduceBEq, Nat.reduceAdd]
      refine ⟨by simp, ?_⟩
      exact M_to J1 (s := true) h (by simp [go_sem]) (by first | rfl | simp [go_sem])
    · dsimp only [go_sem, Nat.reduceBEq, Nat.reduceAdd]
      refine V_go 6 ?_
      dsimp only [e_narthexref03_ahead, go_sem, Nat.reduceBEq, Nat.reduceAdd]
      refine ⟨by simp, ?_⟩
      refine M_case 16 h rfl (fun hb h => ?_) (fun hb h => ?_)
      · dsimp only [go_sem, Nat.reduceBEq, Nat.reduceAdd]
        refine V_go 9 ?_
        dsimp only [e_narthexref03_ahead, go_sem, Nat.reduceBEq, Nat.reduceAdd]
        refine ⟨by simp, ?_⟩
        exact M_to J1 (s := decide (x1.B < x2.B)) h (by simp [go_sem]) (by first | rfl | simp [go_sem])
      · dsimp only [go_sem, Nat.reduceBEq, Nat.reduceAdd]
        refine V_go 9 ?_
        dsimp only [e_narthexref03_ahead, go_sem, Nat.reduceBEq, Nat.reduceAdd]
        refine ⟨by simp, ?_⟩
        exact M_to J1 (s := false) h (by simp [go_sem]) (by first | rfl | simp [go_sem])
def f_narthexref03_ahead_j1 (F : Nat)  : Bool → Option Bool
| x3 =>
 some x3
theorem le_narthexref03_ahead_j1 {F : Nat} : ∀ s, ole (f_narthexref03_ahead_j1 F s) (m_narthexref03_ahead_j1 s) := by
  intro x3
  unfold f_narthexref03_ahead_j1 m_narthexref03_ahead_j1
  try dsimp only
  repeat' first | with_reducible exact ole_refl _ | assumption | intro _ | with_reducible refine ole_ifb ?_ ?_ | with_reducible refine ole_bind ?_ ?_ | with_reducible refine ole_map ?_ | with_reducible refine ole_loop ?_
def f_narthexref03_ahead (F : Nat) (x1 : Edge) (x2 : Edge) : Option Bool :=
 ifb (decide (x1.A < x2.A)) (
 f_narthexref03_ahead_j1 F true) (
 ifb (decide (x1.A = x2.A)) (
 f_narthexref03_ahead_j1 F (decide (x1.B < x2.B))) (
 f_narthexref03_ahead_j1 F false))
theorem le_narthexref03_ahead {F : Nat} {x1 : Edge} {x2 : Edge} : ole (f_narthexref03_ahead F x1 x2) (m_narthexref03_ahead x1 x2) := by
  unfold f_narthexref03_ahead m_narthexref03_ahead
  repeat' first | with_reducible exact ole_refl _ | assumption | intro _ | with_reducible refine ole_ifb ?_ ?_ | with_reducible refine ole_bind ?_ ?_ | with_reducible refine ole_map ?_ | with_reducible refine ole_loop ?_ | with_reducible apply le_narthexref03_ahead_j1
end NX
end Go.Proofs.Ytadebhbiglmodaa
/-
  The function narthex/narthexref03.Check: its code compiled, a model, and that the code answers as the model. Written by a program of ours (lb.py). No statement of the seat is proved here.
-/
namespace Go.Proofs.Ytadebhbiglmodaa
namespace NX
open Go
set_option maxRecDepth 100000
set_option maxHeartbeats 4000000
def e_narthexref03_Check_L0 : EC := .seq (.seq (.reg [⟨(some 19), none, .mv (.t 3)⟩, ⟨(some 20), none, .fld 1 (.t 1)⟩, ⟨(some 21), none, .load (.t 20)⟩, ⟨(some 22), none, .len (.t 21)⟩, ⟨(some 23), none, .bin .lss (.t 19) (.t 22)⟩]) (.ite (.t 23) (.skip) (.exit 0))) (.seq (.blk 1 (.seq (.reg [⟨(some 26), none, .fld 1 (.t 1)⟩, ⟨(some 27), none, .load (.t 26)⟩, ⟨(some 28), none, .mv (.t 3)⟩, ⟨(some 29), none, .idx 2 (.t 27) (.t 28)⟩, ⟨(some 30), none, .loadA 2 (.t 29)⟩, ⟨(some 4), none, .alloc 58 [.iv 0, .iv 0]⟩, ⟨none, none, .store 2 (.t 4) (.t 30)⟩]) (.seq (.drw [⟨(some 31), none, .fld 0 (.t 4)⟩, ⟨(some 32), none, .load (.t 31)⟩, ⟨(some 33), none, .bin .lss (.t 32) (.c (.iv 0))⟩, ⟨(some 34), none, .mv (.t 33)⟩, ⟨(some 35), (some (34, false)), .fld 0 (.t 4)⟩, ⟨(some 36), (some (34, false)), .load (.t 35)⟩, ⟨(some 37), (some (34, false)), .fld 1 (.t 4)⟩, ⟨(some 38), (some (34, false)), .load (.t 37)⟩, ⟨(some 39), (some (34, false)), .bin .geq (.t 36) (.t 38)⟩, ⟨(some 40), none, .pick (.t 34) (.c .tt) (.t 39)⟩, ⟨(some 41), none, .mv (.t 40)⟩, ⟨(some 42), (some (41, false)), .fld 1 (.t 4)⟩, ⟨(some 43), (some (41, false)), .load (.t 42)⟩, ⟨(some 44), (some (41, false)), .fld 0 (.t 1)⟩, ⟨(some 45), (some (41, false)), .load (.t 44)⟩, ⟨(some 46), (some (41, false)), .bin .geq (.t 43) (.t 45)⟩, ⟨(some 47), none, .pick (.t 41) (.c .tt) (.t 46)⟩, ⟨(some 48), none, .mv (.t 47)⟩, ⟨(some 49), (some (48, false)), .mv (.t 3)⟩, ⟨(some 50), (some (48, false)), .bin .gtr (.t 49) (.c (.iv 0))⟩, ⟨(some 51), (some (48, false)), .mv (.t 50)⟩, ⟨(some 52), (some (51, true)), .fld 1 (.t 1)⟩, ⟨(some 53), (some (51, true)), .load (.t 52)⟩, ⟨(some 54), (some (51, true)), .mv (.t 3)⟩, ⟨(some 55), (some (51, true)), .bin .sub (.t 54) (.c (.iv 1))⟩, ⟨(some 56), (some (51, true)), .idx 2 (.t 53) (.t 55)⟩, ⟨(some 57), (some (51, true)), .loadA 2 (.t 56)⟩, ⟨(some 58), (some (51, true)), .loadA 2 (.t 4)⟩, ⟨(some 59), (some (51, true)), .call 52 [(.t 57), (.t 58)]⟩, ⟨(some 60), (some (51, true)), .not (.t 59)⟩, ⟨(some 61), (some (48, false)), .pick (.t 51) (.t 60) (.c .ff)⟩, ⟨(some 62), none, .pick (.t 48) (.c .tt) (.t 61)⟩] [[], [0], [1], [2], [3], [4, 3], [3], [6, 3], [5, 7, 3], [3, 8], [9, 3], [10], [11, 10], [10], [13, 10], [12, 14, 10], [10, 15], [16, 10], [17], [18, 17], [19, 17, 17], [20], [21, 20], [20], [23, 20], [22, 24, 20], [25, 20], [20], [26, 27, 20, 20], [28, 20], [20, 29, 17], [17, 30]] [[1], [0, 2], [1, 3], [2, 4, 5, 6, 7, 8, 9], [3, 5], [3, 4, 8], [3, 7], [3, 6, 8], [3, 5, 7, 9], [3, 8, 10], [9, 11, 12, 13, 14, 15, 16], [10, 12], [10, 11, 15], [10, 14], [10, 13, 15], [10, 12, 14, 16], [10, 15, 17], [16, 18, 19, 20, 30, 31], [17, 19], [17, 18, 20], [17, 19, 21, 22, 23, 24, 25, 26, 27, 28, 29, 30], [20, 22], [20, 21, 25], [20, 24], [20, 23, 25], [20, 22, 24, 26], [20, 25, 28], [20, 28], [20, 26, 27, 29], [20, 28, 30], [17, 20, 29, 31], [17, 30]]) (.ite (.t 62) (.seq (.reg [⟨(some 2), none, .mv (.c .ff)⟩]) (.ret)) (.skip))))) (.reg [⟨(some 24), none, .mv (.t 3)⟩, ⟨(some 25), none, .bin .add (.t 24) (.c (.iv 1))⟩, ⟨(some 3), none, .mv (.t 25)⟩]))
def e_narthexref03_Check : EC := .seq (.reg [⟨(some 1), none, .box 24 2 (.t 0)⟩, ⟨(some 2), none, .mv (.c .ff)⟩]) (.seq (.seq (.reg [⟨(some 5), none, .fld 0 (.t 1)⟩, ⟨(some 6), none, .load (.t 5)⟩, ⟨(some 7), none, .bin .lss (.t 6) (.c (.iv 0))⟩, ⟨(some 8), none, .mv (.t 7)⟩, ⟨(some 9), (some (8, false)), .fld 0 (.t 1)⟩, ⟨(some 10), (some (8, false)), .load (.t 9)⟩, ⟨(some 11), (some (8, false)), .bin .gtr (.t 10) (.c (.iv 64))⟩, ⟨(some 12), none, .pick (.t 8) (.c .tt) (.t 11)⟩, ⟨(some 13), none, .mv (.t 12)⟩, ⟨(some 14), (some (13, false)), .fld 1 (.t 1)⟩, ⟨(some 15), (some (13, false)), .load (.t 14)⟩, ⟨(some 16), (some (13, false)), .len (.t 15)⟩, ⟨(some 17), (some (13, false)), .bin .gtr (.t 16) (.c (.iv 400))⟩, ⟨(some 18), none, .pick (.t 13) (.c .tt) (.t 17)⟩]) (.ite (.t 18) (.seq (.reg [⟨(some 2), none, .mv (.c .ff)⟩]) (.ret)) (.skip))) (.seq (.seq (.reg [⟨(some 3), none, .mv (.c (.iv 0))⟩]) (.blk 0 (.loop e_narthexref03_Check_L0))) (.seq (.reg [⟨(some 2), none, .mv (.c .tt)⟩]) (.ret))))
theorem ok_narthexref03_Check : FnOK Try.prog 16 Try.f16 e_narthexref03_Check [.t 2] 1 62 := ⟨by kernel_rfl, ⟨_, rfl, by kernel_rfl⟩, by kernel_rfl, by kernel_rfl⟩
/- narthex/narthexref03.Check -/
noncomputable def m_narthexref03_Check_j2  : Unit → Option Bool
| () =>
 some true
noncomputable def m_narthexref03_Check_j3 (x8 : Int) : Bool → Option (Int ⊕ Bool)
| x12 =>
 ifb x12 (
 Option.map Sum.inr (some false)) (
 some (.inl (wr (x8 + 1))))
noncomputable def m_narthexref03_Check_l1 (x1 : Graph) : Int → Option (Int ⊕ Bool)
| x8 =>
 ifb (decide (x8 < (ln Edge.row x1.Edges))) (
 (at_ x1.Edges x8).bind fun x9 =>
 ifb (decide (x9.A < 0)) (
 (m_narthexref03_Check_j3 x8) true) (
 ifb (decide (x9.B ≤ x9.A)) (
 (m_narthexref03_Check_j3 x8) true) (
 ifb (decide (x1.N ≤ x9.B)) (
 (m_narthexref03_Check_j3 x8) true) (
 ifb (decide (0 < x8)) (
 (at_ x1.Edges (wr (x8 - 1))).bind fun x10 =>
 (m_narthexref03_ahead x10 x9).bind fun x11 =>
 (m_narthexref03_Check_j3 x8) (!x11)) (
 (m_narthexref03_Check_j3 x8) false))))) (
 Option.map Sum.inr (m_narthexref03_Check_j2 ()))
noncomputable def m_narthexref03_Check_j1 (x1 : Graph) : Bool → Option Bool
| x2 =>
 ifb x2 (
 some false) (
 loop (m_narthexref03_Check_l1 x1) 0)
noncomputable def m_narthexref03_Check (x1 : Graph) : Option Bool :=
 ifb (decide (x1.N < 0)) (
 (m_narthexref03_Check_j1 x1) true) (
 ifb (decide (64 < x1.N)) (
 (m_narthexref03_Check_j1 x1) true) (
 (m_narthexref03_Check_j1 x1) (decide (400 < (ln Edge.row x1.Edges)))))
theorem k_narthexref03_Check (x1 : Graph) (r : Bool) (h : m_narthexref03_Check x1 = some r) : FunP Try.prog 16 [.agg (Graph.row x1)] (.bv r) := by
  refine FunP_intro ok_narthexref03_Check rfl rfl fun w0 H0 => ?_
  rw [m_narthexref03_Check] at h
  refine V_go 12 ?_
  dsimp only [e_narthexref03_Check, e_narthexref03_Check_L0, go_sem, Nat.reduceBEq, Nat.reduceAdd]
  refine ⟨by simp, ?_⟩
  refine V_join (fun (x2 : Bool) => (⟨(.any :: .ptr 0 0 :: an 16 (.bv x2 :: an 44 [])), [some ⟨24, [.iv x1.N, .sl 2 (List.map Edge.row x1.Edges)]⟩], []⟩ : St)) (m_narthexref03_Check_j1 x1) r ?_ fun J1 => ?_
  · intro x2 h
    rw [m_narthexref03_Check_j1] at h
    try dsimp only
    refine M_ite h rfl (fun hb h => ?_) (fun hb h => ?_)
    · refine V_go 4 ?_
      dsimp only [e_narthexref03_Check, e_narthexref03_Check_L0, go_sem, Nat.reduceBEq, Nat.reduceAdd]
      refine ⟨by simp, ?_⟩
      exact M_done (res := fun (r : Bool) => .bv r) ok_narthexref03_Check h (by first | exact le_refl _ | simp [go_sem])
    · refine V_go 6 ?_
      dsimp only [e_narthexref03_Check, e_narthexref03_Check_L0, go_sem, Nat.reduceBEq, Nat.reduceAdd]
      refine ⟨by simp, ?_⟩
      refine V_join (fun (_ : Unit) => (⟨(an 63 []), [], []⟩ : St)) m_narthexref03_Check_j2 r ?_ fun J2 => ?_
      · rintro ⟨⟩ h
        rw [m_narthexref03_Check_j2] at h
        try dsimp only
        refine V_go 4 ?_
        dsimp only [e_narthexref03_Check, e_narthexref03_Check_L0, go_sem, Nat.reduceBEq, Nat.reduceAdd]
        refine ⟨by simp, ?_⟩
        exact M_done (res := fun (r : Bool) => .bv r) ok_narthexref03_Check h (by first | exact le_refl _ | simp [go_sem])
      · refine V_go 1 ?_
        dsimp only [e_narthexref03_Check, e_narthexref03_Check_L0, go_sem, Nat.reduceBEq, Nat.reduceAdd]
        refine ⟨by simp, ?_⟩
        refine M_loop h (fun (x8 : Int) => (⟨(.any :: .ptr 0 0 :: .any :: .iv x8 :: an 59 []), [some ⟨24, [.iv x1.N, .sl 2 (List.map Edge.row x1.Edges)]⟩], []⟩ : St)) (by simp [go_sem]) (by intro x8; first | rfl | simp [go_sem]) ?_
        rintro n1 x8 y1 h hin1 hout1
        rw [m_narthexref03_Check_l1] at h
        try dsimp only
        refine V_go 9 ?_
        dsimp only [e_narthexref03_Check, e_narthexref03_Check_L0, go_sem, Nat.reduceBEq, Nat.reduceAdd]
        refine ⟨by simp, ?_⟩
        refine M_ite h rfl (fun hb h => ?_) (fun hb h => ?_)
        · refine V_go 8 ?_
          dsimp only [e_narthexref03_Check, e_narthexref03_Check_L0, go_sem, Nat.reduceBEq, Nat.reduceAdd]
          refine ⟨by simp, ?_⟩
          obtain ⟨x9, ex9, h⟩ := Option.bind_eq_some_iff.1 h
          refine V_idxM Edge.row ex9 trivial rfl rfl rfl ?_
          refine V_go 5 ?_
          dsimp only [e_narthexref03_Check, e_narthexref03_Check_L0, go_sem, Nat.reduceBEq, Nat.reduceAdd]
          refine ⟨by simp, ?_⟩
          refine V_join (fun (x12 : Bool) => (⟨(.any :: .ptr 0 0 :: .any :: .iv x8 :: an 58 [.bv x12]), [some ⟨24, [.iv x1.N, .sl 2 (List.map Edge.row x1.Edges)]⟩], []⟩ : St)) (m_narthexref03_Check_j3 x8) y1 ?_ fun J3 => ?_
          · intro x12 h
            rw [m_narthexref03_Check_j3] at h
            try dsimp only
            refine M_ite h rfl (fun hb h => ?_) (fun hb h => ?_)
            · refine V_go 4 ?_
              dsimp only [e_narthexref03_Check, e_narthexref03_Check_L0, go_sem, Nat.reduceBEq, Nat.reduceAdd]
              refine ⟨by simp, ?_⟩
              exact M_done (res := fun (r : Bool) => .bv r) ok_narthexref03_Check (M_out h hout1) (by first | exact le_refl _ | simp [go_sem])
            · refine V_go 7 ?_
              dsimp only [e_narthexref03_Check, e_narthexref03_Check_L0, go_sem, Nat.reduceBEq, Nat.reduceAdd]
              refine ⟨by simp, ?_⟩
              exact M_back h hin1 (by simp [go_sem]) (by first | rfl | simp [go_sem])
          · refine V_drw (by kernel_rfl) fun all hall hs hnap haf => ?_
            dsimp only [go_sem, Nat.reduceBEq, Nat.reduceAdd]
            refine G_goE hall hs haf hnap 4 28 [true, true, true, true, false, false, false, false, false, false, false, false, false, false, false, false, false, false, false, false, false, false, false, false, false, false, false, false, false, false, false, false] (⟨(.any :: .ptr 0 0 :: .any :: .iv x8 :: .ptr 1 0 :: an 14 (.iv x8 :: .ptr 0 1 :: .sl 2 (List.map Edge.row x1.Edges) :: .iv (ln Edge.row x1.Edges) :: .bv (decide (x8 < (ln Edge.row x1.Edges))) :: .any :: .any :: .ptr 0 1 :: .sl 2 (List.map Edge.row x1.Edges) :: .iv x8 :: .elt [.iv x9.A, .iv x9.B] 0 :: .agg [.iv x9.A, .iv x9.B] :: .ptr 1 0 :: .iv x9.A :: .bv (decide (x9.A < 0)) :: .bv (decide (x9.A < 0)) :: an 28 [])), [some ⟨24, [.iv x1.N, .sl 2 (List.map Edge.row x1.Edges)]⟩, some ⟨58, [.iv x9.A, .iv x9.B]⟩], []⟩ : St) (by kernel_rfl) ?_
            refine GM_case 34 h rfl (fun hb h => ?_) (fun hb h => ?_)
            · dsimp only [go_sem, Nat.reduceBEq, Nat.reduceAdd]
              refine G_goE hall hs haf hnap 28 0 [true, true, true, true, true, true, true, true, true, true, true, true, true, true, true, true, true, true, true, true, true, true, true, true, true, true, true, true, true, true, true, true] (⟨(.any :: .ptr 0 0 :: .any :: .iv x8 :: .ptr 1 0 :: an 14 (.iv x8 :: .ptr 0 1 :: .sl 2 (List.map Edge.row x1.Edges) :: .iv (ln Edge.row x1.Edges) :: .bv (decide (x8 < (ln Edge.row x1.Edges))) :: .any :: .any :: .ptr 0 1 :: .sl 2 (List.map Edge.row x1.Edges) :: .iv x8 :: .elt [.iv x9.A, .iv x9.B] 0 :: .agg [.iv x9.A, .iv x9.B] :: .ptr 1 0 :: .iv x9.A :: .bv (decide (x9.A < 0)) :: .tt :: .un :: .un :: .un :: .un :: .un :: .tt :: .tt :: .un :: .un :: .un :: .un :: .un :: .tt :: .tt :: .un :: .un :: .un :: .un :: .un :: .un :: .un :: .un :: .un :: .un :: .un :: .un :: .un :: .tt :: [])), [some ⟨24, [.iv x1.N, .sl 2 (List.map Edge.row x1.Edges)]⟩, some ⟨58, [.iv x9.A, .iv x9.B]⟩], []⟩ : St) (by kernel_rfl) ?_
              refine G_done rfl ?_ _
              exact M_to J3 (s := true) h (by simp [go_sem]) (by first | rfl | simp [go_sem])
            · dsimp only [go_sem, Nat.reduceBEq, Nat.reduceAdd]
              refine G_goE hall hs haf hnap 7 21 [true, true, true, true, true, true, true, true, true, true, true, false, false, false, false, false, false, false, false, false, false, false, false, false, false, false, false, false, false, false, false, false] (⟨(.any :: .ptr 0 0 :: .any :: .iv x8 :: .ptr 1 0 :: an 14 (.iv x8 :: .ptr 0 1 :: .sl 2 (List.map Edge.row x1.Edges) :: .iv (ln Edge.row x1.Edges) :: .bv (decide (x8 < (ln Edge.row x1.Edges))) :: .any :: .any :: .ptr 0 1 :: .sl 2 (List.map Edge.row x1.Edges) :: .iv x8 :: .elt [.iv x9.A, .iv x9.B] 0 :: .agg [.iv x9.A, .iv x9.B] :: .ptr 1 0 :: .iv x9.A :: .bv (decide (x9.A < 0)) :: .ff :: .ptr 1 0 :: .iv x9.A :: .ptr 1 1 :: .iv x9.B :: .bv (decide (x9.B ≤ x9.A)) :: .bv (decide (x9.B ≤ x9.A)) :: .bv (decide (x9.B ≤ x9.A)) :: an 21 [])), [some ⟨24, [.iv x1.N, .sl 2 (List.map Edge.row x1.Edges)]⟩, some ⟨58, [.iv x9.A, .iv x9.B]⟩], []⟩ : St) (by kernel_rfl) ?_
              refine GM_case 41 h rfl (fun hb h => ?_) (fun hb h => ?_)
              · dsimp only [go_sem, Nat.reduceBEq, Nat.reduceAdd]
                refine G_goE hall hs haf hnap 21 0 [true, true, true, true, true, true, true, true, true, true, true, true, true, true, true, true, true, true, true, true, true, true, true, true, true, true, true, true, true, true, true, true] (⟨(.any :: .ptr 0 0 :: .any :: .iv x8 :: .ptr 1 0 :: an 14 (.iv x8 :: .ptr 0 1 :: .sl 2 (List.map Edge.row x1.Edges) :: .iv (ln Edge.row x1.Edges) :: .bv (decide (x8 < (ln Edge.row x1.Edges))) :: .any :: .any :: .ptr 0 1 :: .sl 2 (List.map Edge.row x1.Edges) :: .iv x8 :: .elt [.iv x9.A, .iv x9.B] 0 :: .agg [.iv x9.A, .iv x9.B] :: .ptr 1 0 :: .iv x9.A :: .bv (decide (x9.A < 0)) :: .ff :: .ptr 1 0 :: .iv x9.A :: .ptr 1 1 :: .iv x9.B :: .bv (decide (x9.B ≤ x9.A)) :: .bv (decide (x9.B ≤ x9.A)) :: .tt :: .un :: .un :: .un :: .un :: .un :: .tt :: .tt :: .un :: .un :: .un :: .un :: .un :: .un :: .un :: .un :: .un :: .un :: .un :: .un :: .un :: .tt :: [])), [some ⟨24, [.iv x1.N, .sl 2 (List.map Edge.row x1.Edges)]⟩, some ⟨58, [.iv x9.A, .iv x9.B]⟩], []⟩ : St) (by kernel_rfl) ?_
                refine G_done rfl ?_ _
                exact M_to J3 (s := true) h (by simp [go_sem]) (by first | rfl | simp [go_sem])
              · dsimp only [go_sem, Nat.reduceBEq, Nat.reduceAdd]
                refine G_goE hall hs haf hnap 7 14 [true, true, true, true, true, true, true, true, true, true, true, true, true, true, true, true, true, true, false, false, false, false, false, false, false, false, false, false, false, false, false, false] (⟨(.any :: .ptr 0 0 :: .any :: .iv x8 :: .ptr 1 0 :: an 14 (.iv x8 :: .ptr 0 1 :: .sl 2 (List.map Edge.row x1.Edges) :: .iv (ln Edge.row x1.Edges) :: .bv (decide (x8 < (ln Edge.row x1.Edges))) :: .any :: .any :: .ptr 0 1 :: .sl 2 (List.map Edge.row x1.Edges) :: .iv x8 :: .elt [.iv x9.A, .iv x9.B] 0 :: .agg [.iv x9.A, .iv x9.B] :: .ptr 1 0 :: .iv x9.A :: .bv (decide (x9.A < 0)) :: .ff :: .ptr 1 0 :: .iv x9.A :: .ptr 1 1 :: .iv x9.B :: .bv (decide (x9.B ≤ x9.A)) :: .bv (decide (x9.B ≤ x9.A)) :: .ff :: .ptr 1 1 :: .iv x9.B :: .ptr 0 0 :: .iv x1.N :: .bv (decide (x1.N ≤ x9.B)) :: .bv (decide (x1.N ≤ x9.B)) :: .bv (decide (x1.N ≤ x9.B)) :: an 14 [])), [some ⟨24, [.iv x1.N, .sl 2 (List.map Edge.row x1.Edges)]⟩, some ⟨58, [.iv x9.A, .iv x9.B]⟩], []⟩ : St) (by kernel_rfl) ?_
                refine GM_case 48 h rfl (fun hb h => ?_) (fun hb h => ?_)
                · dsimp only [go_sem, Nat.reduceBEq, Nat.reduceAdd]
                  refine G_goE hall hs haf hnap 14 0 [true, true, true, true, true, true, true, true, true, true, true, true, true, true, true, true, true, true, true, true, true, true, true, true, true, true, true, true, true, true, true, true] (⟨(.any :: .ptr 0 0 :: .any :: .iv x8 :: .ptr 1 0 :: an 14 (.iv x8 :: .ptr 0 1 :: .sl 2 (List.map Edge.row x1.Edges) :: .iv (ln Edge.row x1.Edges) :: .bv (decide (x8 < (ln Edge.row x1.Edges))) :: .any :: .any :: .ptr 0 1 :: .sl 2 (List.map Edge.row x1.Edges) :: .iv x8 :: .elt [.iv x9.A, .iv x9.B] 0 :: .agg [.iv x9.A, .iv x9.B] :: .ptr 1 0 :: .iv x9.A :: .bv (decide (x9.A < 0)) :: .ff :: .ptr 1 0 :: .iv x9.A :: .ptr 1 1 :: .iv x9.B :: .bv (decide (x9.B ≤ x9.A)) :: .bv (decide (x9.B ≤ x9.A)) :: .ff :: .ptr 1 1 :: .iv x9.B :: .ptr 0 0 :: .iv x1.N :: .bv (decide (x1.N ≤ x9.B)) :: .bv (decide (x1.N ≤ x9.B)) :: .tt :: .un :: .un :: .un :: .un :: .un :: .un :: .un :: .un :: .un :: .un :: .un :: .un :: .un :: .tt :: [])), [some ⟨24, [.iv x1.N, .sl 2 (List.map Edge.row x1.Edges)]⟩, some ⟨58, [.iv x9.A, .iv x9.B]⟩], []⟩ : St) (by kernel_rfl) ?_
                  refine G_done rfl ?_ _
                  exact M_to J3 (s := true) h (by simp [go_sem]) (by first | rfl | simp [go_sem])
                · dsimp only [go_sem, Nat.reduceBEq, Nat.reduceAdd]
                  refine G_goE hall hs haf hnap 3 11 [true, true, true, true, true, true, true, true, true, true, true, true, true, true, true, true, true, true, true, true, true, false, false, false, false, false, false, false, false, false, false, false] (⟨(.any :: .ptr 0 0 :: .any :: .iv x8 :: .ptr 1 0 :: an 14 (.iv x8 :: .ptr 0 1 :: .sl 2 (List.map Edge.row x1.Edges) :: .iv (ln Edge.row x1.Edges) :: .bv (decide (x8 < (ln Edge.row x1.Edges))) :: .any :: .any :: .ptr 0 1 :: .sl 2 (List.map Edge.row x1.Edges) :: .iv x8 :: .elt [.iv x9.A, .iv x9.B] 0 :: .agg [.iv x9.A, .iv x9.B] :: .ptr 1 0 :: .iv x9.A :: .bv (decide (x9.A < 0)) :: .ff :: .ptr 1 0 :: .iv x9.A :: .ptr 1 1 :: .iv x9.B :: .bv (decide (x9.B ≤ x9.A)) :: .bv (decide (x9.B ≤ x9.A)) :: .ff :: .ptr 1 1 :: .iv x9.B :: .ptr 0 0 :: .iv x1.N :: .bv (decide (x1.N ≤ x9.B)) :: .bv (decide (x1.N ≤ x9.B)) :: .ff :: .iv x8 :: .bv (decide (0 < x8)) :: .bv (decide (0 < x8)) :: an 11 [])), [some ⟨24, [.iv x1.N, .sl 2 (List.map Edge.row x1.Edges)]⟩, some ⟨58, [.iv x9.A, .iv x9.B]⟩], []⟩ : St) (by kernel_rfl) ?_
                  refine GM_case 51 h rfl (fun hb h => ?_) (fun hb h => ?_)
                  · dsimp only [go_sem, Nat.reduceBEq, Nat.reduceAdd]
                    refine G_goE hall hs haf hnap 5 6 [true, true, true, true, true, true, true, true, true, true, true, true, true, true, true, true, true, true, true, true, true, true, true, true, true, false, false, true, false, false, false, false] (⟨(.any :: .ptr 0 0 :: .any :: .iv x8 :: .ptr 1 0 :: an 14 (.iv x8 :: .ptr 0 1 :: .sl 2 (List.map Edge.row x1.Edges) :: .iv (ln Edge.row x1.Edges) :: .bv (decide (x8 < (ln Edge.row x1.Edges))) :: .any :: .any :: .ptr 0 1 :: .sl 2 (List.map Edge.row x1.Edges) :: .iv x8 :: .elt [.iv x9.A, .iv x9.B] 0 :: .agg [.iv x9.A, .iv x9.B] :: .ptr 1 0 :: .iv x9.A :: .bv (decide (x9.A < 0)) :: .ff :: .ptr 1 0 :: .iv x9.A :: .ptr 1 1 :: .iv x9.B :: .bv (decide (x9.B ≤ x9.A)) :: .bv (decide (x9.B ≤ x9.A)) :: .ff :: .ptr 1 1 :: .iv x9.B :: .ptr 0 0 :: .iv x1.N :: .bv (decide (x1.N ≤ x9.B)) :: .bv (decide (x1.N ≤ x9.B)) :: .ff :: .iv x8 :: .bv (decide (0 < x8)) :: .tt :: .ptr 0 1 :: .sl 2 (List.map Edge.row x1.Edges) :: .iv x8 :: .iv (wr (x8 - 1)) :: .any :: .any :: .agg [.iv x9.A, .iv x9.B] :: an 4 [])), [some ⟨24, [.iv x1.N, .sl 2 (List.map Edge.row x1.Edges)]⟩, some ⟨58, [.iv x9.A, .iv x9.B]⟩], []⟩ : St) (by kernel_rfl) ?_
                    obtain ⟨x10, ex10, h⟩ := Option.bind_eq_some_iff.1 h
                    refine G_idxM hall hs haf hnap 25 Edge.row ex10 rfl rfl trivial rfl rfl rfl rfl ?_
                    refine G_goN hall hs haf hnap 1 4 ?_
                    dsimp only [go_sem, Nat.reduceBEq, Nat.reduceAdd]
                    refine ⟨by simp, ?_⟩
                    refine G_one 28 rfl ?_
                    obtain ⟨x11, ex11, h⟩ := Option.bind_eq_some_iff.1 h
                    refine GO_call hall rfl trivial (k_narthexref03_ahead x10 x9 _ ex11) (by first | exact leL_refl _ | simp [go_sem]) (by first | rfl | simp [go_sem]) ?_
                    dsimp only [go_sem, Nat.reduceBEq, Nat.reduceAdd]
                    refine G_goE hall hs haf hnap 3 0 [true, true, true, true, true, true, true, true, true, true, true, true, true, true, true, true, true, true, true, true, true, true, true, true, true, true, true, true, true, true, true, true] (⟨(.any :: .ptr 0 0 :: .any :: .iv x8 :: .ptr 1 0 :: an 14 (.iv x8 :: .ptr 0 1 :: .sl 2 (List.map Edge.row x1.Edges) :: .iv (ln Edge.row x1.Edges) :: .bv (decide (x8 < (ln Edge.row x1.Edges))) :: .any :: .any :: .ptr 0 1 :: .sl 2 (List.map Edge.row x1.Edges) :: .iv x8 :: .elt [.iv x9.A, .iv x9.B] 0 :: .agg [.iv x9.A, .iv x9.B] :: .ptr 1 0 :: .iv x9.A :: .bv (decide (x9.A < 0)) :: .ff :: .ptr 1 0 :: .iv x9.A :: .ptr 1 1 :: .iv x9.B :: .bv (decide (x9.B ≤ x9.A)) :: .bv (decide (x9.B ≤ x9.A)) :: .ff :: .ptr 1 1 :: .iv x9.B :: .ptr 0 0 :: .iv x1.N :: .bv (decide (x1.N ≤ x9.B)) :: .bv (decide (x1.N ≤ x9.B)) :: .ff :: .iv x8 :: .bv (decide (0 < x8)) :: .tt :: .ptr 0 1 :: .sl 2 (List.map Edge.row x1.Edges) :: .iv x8 :: .iv (wr (x8 - 1)) :: .elt [.iv x10.A, .iv x10.B] 0 :: .agg [.iv x10.A, .iv x10.B] :: .agg [.iv x9.A, .iv x9.B] :: .bv x11 :: .bv (!x11) :: .bv (!x11) :: .bv (!x11) :: [])), [some ⟨24, [.iv x1.N, .sl 2 (List.map Edge.row x1.Edges)]⟩, some ⟨58, [.iv x9.A, .iv x9.B]⟩], []⟩ : St) (by kernel_rfl) ?_
                    refine G_done rfl ?_ _
                    exact M_to J3 (s := !x11) h (by simp [go_sem]) (by first | rfl | simp [go_sem])
                  · dsimp only [go_sem, Nat.reduceBEq, Nat.reduceAdd]
                    refine G_goE hall hs haf hnap 11 0 [true, true, true, true, true, true, true, true, true, true, true, true, true, true, true, true, true, true, true, true, true, true, true, true, true, true, true, true, true, true, true, true] (⟨(.any :: .ptr 0 0 :: .any :: .iv x8 :: .ptr 1 0 :: an 14 (.iv x8 :: .ptr 0 1 :: .sl 2 (List.map Edge.row x1.Edges) :: .iv (ln Edge.row x1.Edges) :: .bv (decide (x8 < (ln Edge.row x1.Edges))) :: .any :: .any :: .ptr 0 1 :: .sl 2 (List.map Edge.row x1.Edges) :: .iv x8 :: .elt [.iv x9.A, .iv x9.B] 0 :: .agg [.iv x9.A, .iv x9.B] :: .ptr 1 0 :: .iv x9.A :: .bv (decide (x9.A < 0)) :: .ff :: .ptr 1 0 :: .iv x9.A :: .ptr 1 1 :: .iv x9.B :: .bv (decide (x9.B ≤ x9.A)) :: .bv (decide (x9.B ≤ x9.A)) :: .ff :: .ptr 1 1 :: .iv x9.B :: .ptr 0 0 :: .iv x1.N :: .bv (decide (x1.N ≤ x9.B)) :: .bv (decide (x1.N ≤ x9.B)) :: .ff :: .iv x8 :: .bv (decide (0 < x8)) :: .ff :: .un :: .un :: .un :: .un :: .un :: .un :: .un :: .un :: .un :: .ff :: .ff :: [])), [some ⟨24, [.iv x1.N, .sl 2 (List.map Edge.row x1.Edges)]⟩, some ⟨58, [.iv x9.A, .iv x9.B]⟩], []⟩ : St) (by kernel_rfl) ?_
                    refine G_done rfl ?_ _
                    exact M_to J3 (s := false) h (by simp [go_sem]) (by first | rfl | simp [go_sem])
        · refine V_go 1 ?_
          dsimp only [e_narthexref03_Check, e_narthexref03_Check_L0, go_sem, Nat.reduceBEq, Nat.reduceAdd]
          refine ⟨by simp, ?_⟩
          exact M_to J2 (s := ()) (M_out h hout1) (by simp [go_sem]) (by first | rfl | simp [go_sem])
  · refine M_case 8 h rfl (fun hb h => ?_) (fun hb h => ?_)
    · dsimp only [go_sem, Nat.reduceBEq, Nat.reduceAdd]
      refine V_go 11 ?_
      dsimp only [e_narthexref03_Check, e_narthexref03_Check_L0, go_sem, Nat.reduceBEq, Nat.reduceAdd]
      refine ⟨by simp, ?_⟩
      exact M_to J1 (s := true) h (by simp [go_sem]) (by first | rfl | simp [go_sem])
    · dsimp only [go_sem, Nat.reduceBEq, Nat.reduceAdd]
      refine V_go 5 ?_
      dsimp only [e_narthexref03_Check, e_narthexref03_Check_L0, go_sem, Nat.reduceBEq, Nat.reduceAdd]
      refine ⟨by simp, ?_⟩
      refine M_case 13 h rfl (fun hb h => ?_) (fun hb h => ?_)
      · dsimp only [go_sem, Nat.reduceBEq, Nat.reduceAdd]
        refine V_go 6 ?_
        dsimp only [e_narthexref03_Check, e_narthexref03_Check_L0, go_sem, Nat.reduceBEq, Nat.reduceAdd]
        refine ⟨by simp, ?_⟩
        exact M_to J1 (s := true) h (by simp [go_sem]) (by first | rfl | simp [go_sem])
      · dsimp only [go_sem, Nat.reduceBEq, Nat.reduceAdd]
        refine V_go 6 ?_
        dsimp only [e_narthexref03_Check, e_narthexref03_Check_L0, go_sem, Nat.reduceBEq, Nat.reduceAdd]
        refine ⟨by simp, ?_⟩
        exact M_to J1 (s := decide (400 < (ln Edge.row x1.Edges))) h (by simp [go_sem]) (by first | rfl | simp [go_sem])
def f_narthexref03_Check_j2 (F : Nat)  : Unit → Option Bool
| () =>
 some true
theorem le_narthexref03_Check_j2 {F : Nat} : ∀ s, ole (f_narthexref03_Check_j2 F s) (m_narthexref03_Check_j2 s) := by
  rintro ⟨⟩
  unfold f_narthexref03_Check_j2 m_narthexref03_Check_j2
  try dsimp only
  repeat' first | with_reducible exact ole_refl _ | assumption | intro _ | with_reducible refine ole_ifb ?_ ?_ | with_reducible refine ole_bind ?_ ?_ | with_reducible refine ole_map ?_ | with_reducible refine ole_loop ?_
def f_narthexref03_Check_j3 (F : Nat) (x8 : Int) : Bool → Option (Int ⊕ Bool)
| x12 =>
 ifb x12 (
 Option.map Sum.inr (some false)) (
 some (.inl (wr (x8 + 1))))
theorem le_narthexref03_Check_j3 {F : Nat} {x8 : Int} : ∀ s, ole (f_narthexref03_Check_j3 F x8 s) (m_narthexref03_Check_j3 x8 s) := by
  intro x12
  unfold f_narthexref03_Check_j3 m_narthexref03_Check_j3
  try dsimp only
  repeat' first | with_reducible exact ole_refl _ | assumption | intro _ | with_reducible refine ole_ifb ?_ ?_ | with_reducible refine ole_bind ?_ ?_ | with_reducible refine ole_map ?_ | with_reducible refine ole_loop ?_ | with_reducible apply le_narthexref03_Check_j2
def f_narthexref03_Check_l1 (F : Nat) (x1 : Graph) : Int → Option (Int ⊕ Bool)
| x8 =>
 ifb (decide (x8 < (ln Edge.row x1.Edges))) (
 (at_ x1.Edges x8).bind fun x9 =>
 ifb (decide (x9.A < 0)) (
 (f_narthexref03_Check_j3 F x8) true) (
 ifb (decide (x9.B ≤ x9.A)) (
 (f_narthexref03_Check_j3 F x8) true) (
 ifb (decide (x1.N ≤ x9.B)) (
 (f_narthexref03_Check_j3 F x8) true) (
 ifb (decide (0 < x8)) (
 (at_ x1.Edges (wr (x8 - 1))).bind fun x10 =>
 (f_narthexref03_ahead F x10 x9).bind fun x11 =>
 (f_narthexref03_Check_j3 F x8) (!x11)) (
 (f_narthexref03_Check_j3 F x8) false))))) (
 Option.map Sum.inr (f_narthexref03_Check_j2 F ()))
theorem le_narthexref03_Check_l1 {F : Nat} {x1 : Graph} : ∀ s, ole (f_narthexref03_Check_l1 F x1 s) (m_narthexref03_Check_l1 x1 s) := by
  intro x8
  unfold f_narthexref03_Check_l1 m_narthexref03_Check_l1
  try dsimp only
  repeat' first | with_reducible exact ole_refl _ | assumption | intro _ | with_reducible refine ole_ifb ?_ ?_ | with_reducible refine ole_bind ?_ ?_ | with_reducible refine ole_map ?_ | with_reducible refine ole_loop ?_ | with_reducible apply le_narthexref03_Check_j2 | with_reducible apply le_narthexref03_Check_j3 | with_reducible apply le_narthexref03_ahead
def f_narthexref03_Check_j1 (F : Nat) (x1 : Graph) : Bool → Option Bool
| x2 =>
 ifb x2 (
 some false) (
 loopF F (f_narthexref03_Check_l1 F x1) 0)
theorem le_narthexref03_Check_j1 {F : Nat} {x1 : Graph} : ∀ s, ole (f_narthexref03_Check_j1 F x1 s) (m_narthexref03_Check_j1 x1 s) := by
  intro x2
  unfold f_narthexref03_Check_j1 m_narthexref03_Check_j1
  try dsimp only
  repeat' first | with_reducible exact ole_refl _ | assumption | intro _ | with_reducible refine ole_ifb ?_ ?_ | with_reducible refine ole_bind ?_ ?_ | with_reducible refine ole_map ?_ | with_reducible refine ole_loop ?_ | with_reducible apply le_narthexref03_Check_j2 | with_reducible apply le_narthexref03_Check_j3 | with_reducible apply le_narthexref03_ahead | with_reducible apply le_narthexref03_Check_l1
def f_narthexref03_Check (F : Nat) (x1 : Graph) : Option Bool :=
 ifb (decide (x1.N < 0)) (
 (f_narthexref03_Check_j1 F x1) true) (
 ifb (decide (64 < x1.N)) (
 (f_narthexref03_Check_j1 F x1) true) (
 (f_narthexref03_Check_j1 F x1) (decide (400 < (ln Edge.row x1.Edges)))))
theorem le_narthexref03_Check {F : Nat} {x1 : Graph} : ole (f_narthexref03_Check F x1) (m_narthexref03_Check x1) := by
  unfold f_narthexref03_Check m_narthexref03_Check
  repeat' first | with_reducible exact ole_refl _ | assumption | intro _ | with_reducible refine ole_ifb ?_ ?_ | with_reducible refine ole_bind ?_ ?_ | with_reducible refine ole_map ?_ | with_reducible refine ole_loop ?_ | with_reducible apply le_narthexref03_Check_j2 | with_reducible apply le_narthexref03_Check_j3 | with_reducible apply le_narthexref03_ahead | with_reducible apply le_narthexref03_Check_l1 | with_reducible apply le_narthexref03_Check_j1
end NX
end Go.Proofs.Ytadebhbiglmodaa
/-
  The function narthex/narthexref03.Has: its code compiled, a model, and that the code answers as the model. Written by a program of ours (lb.py). No statement of the seat is proved here.
-/
namespace Go.Proofs.Ytadebhbiglmodaa
namespace NX
open Go
set_option maxRecDepth 100000
set_option maxHeartbeats 4000000
def e_narthexref03_Has_L0 : EC := .seq (.seq (.reg [⟨(some 9), none, .mv (.t 7)⟩, ⟨(some 10), none, .fld 1 (.t 3)⟩, ⟨(some 11), none, .load (.t 10)⟩, ⟨(some 12), none, .len (.t 11)⟩, ⟨(some 13), none, .bin .lss (.t 9) (.t 12)⟩]) (.ite (.t 13) (.skip) (.exit 0))) (.seq (.blk 1 (.seq (.reg [⟨(some 16), none, .fld 1 (.t 3)⟩, ⟨(some 17), none, .load (.t 16)⟩, ⟨(some 18), none, .mv (.t 7)⟩, ⟨(some 19), none, .idx 2 (.t 17) (.t 18)⟩, ⟨(some 20), none, .loadA 2 (.t 19)⟩, ⟨(some 8), none, .alloc 58 [.iv 0, .iv 0]⟩, ⟨none, none, .store 2 (.t 8) (.t 20)⟩]) (.seq (.reg [⟨(some 21), none, .fld 0 (.t 8)⟩, ⟨(some 22), none, .load (.t 21)⟩, ⟨(some 23), none, .mv (.t 1)⟩, ⟨(some 24), none, .bin .eql (.t 22) (.t 23)⟩, ⟨(some 25), none, .mv (.t 24)⟩, ⟨(some 26), (some (25, true)), .fld 1 (.t 8)⟩, ⟨(some 27), (some (25, true)), .load (.t 26)⟩, ⟨(some 28), (some (25, true)), .mv (.t 2)⟩, ⟨(some 29), (some (25, true)), .bin .eql (.t 27) (.t 28)⟩, ⟨(some 30), none, .pick (.t 25) (.t 29) (.c .ff)⟩, ⟨(some 31), none, .mv (.t 30)⟩, ⟨(some 32), (some (31, true)), .mv (.t 1)⟩, ⟨(some 33), (some (31, true)), .mv (.t 2)⟩, ⟨(some 34), (some (31, true)), .bin .leq (.t 32) (.t 33)⟩, ⟨(some 35), none, .pick (.t 31) (.t 34) (.c .ff)⟩, ⟨(some 36), none, .mv (.t 35)⟩, ⟨(some 37), (some (36, false)), .fld 0 (.t 8)⟩, ⟨(some 38), (some (36, false)), .load (.t 37)⟩, ⟨(some 39), (some (36, false)), .mv (.t 2)⟩, ⟨(some 40), (some (36, false)), .bin .eql (.t 38) (.t 39)⟩, ⟨(some 41), (some (36, false)), .mv (.t 40)⟩, ⟨(some 42), (some (41, true)), .fld 1 (.t 8)⟩, ⟨(some 43), (some (41, true)), .load (.t 42)⟩, ⟨(some 44), (some (41, true)), .mv (.t 1)⟩, ⟨(some 45), (some (41, true)), .bin .eql (.t 43) (.t 44)⟩, ⟨(some 46), (some (36, false)), .pick (.t 41) (.t 45) (.c .ff)⟩, ⟨(some 47), (some (36, false)), .mv (.t 46)⟩, ⟨(some 48), (some (47, true)), .mv (.t 2)⟩, ⟨(some 49), (some (47, true)), .mv (.t 1)⟩, ⟨(some 50), (some (47, true)), .bin .lss (.t 48) (.t 49)⟩, ⟨(some 51), (some (36, false)), .pick (.t 47) (.t 50) (.c .ff)⟩, ⟨(some 52), none, .pick (.t 36) (.c .tt) (.t 51)⟩]) (.ite (.t 52) (.seq (.reg [⟨(some 6), none, .mv (.c .tt)⟩]) (.ret)) (.skip))))) (.reg [⟨(some 14), none, .mv (.t 7)⟩, ⟨(some 15), none, .bin .add (.t 14) (.c (.iv 1))⟩, ⟨(some 7), none, .mv (.t 15)⟩]))
def e_narthexref03_Has : EC := .seq (.reg [⟨(some 3), none, .box 24 2 (.t 0)⟩, ⟨(some 6), none, .mv (.c .ff)⟩]) (.seq (.seq (.reg [⟨(some 7), none, .mv (.c (.iv 0))⟩]) (.blk 0 (.loop e_narthexref03_Has_L0))) (.seq (.reg [⟨(some 6), none, .mv (.c .ff)⟩]) (.ret)))
theorem ok_narthexref03_Has : FnOK Try.prog 32 Try.f32 e_narthexref03_Has [.t 6] 3 50 := ⟨by kernel_rfl, ⟨_, rfl, by kernel_rfl⟩, by kernel_rfl, by kernel_rfl⟩
/- narthex/narthexref03.Has -/
noncomputable def m_narthexref03_Has_j1  : Unit → Option Bool
| () =>
 some false
noncomputable def m_narthexref03_Has_j2 (x7 : Int) : Bool → Option (Int ⊕ Bool)
| x9 =>
 ifb x9 (
 Option.map Sum.inr (some true)) (
 some (.inl (wr (x7 + 1))))
noncomputable def m_narthexref03_Has_l1 (x1 : Graph) (x2 : Int) (x3 : Int) : Int → Option (Int ⊕ Bool)
| x7 =>
 ifb (decide (x7 < (ln Edge.row x1.Edges))) (
 (at_ x1.Edges x7).bind fun x8 =>
 ifb (decide (x8.A = x2)) (
 ifb (decide (x8.B = x3)) (
 ifb (decide (x2 ≤ x3)) (
 (m_narthexref03_Has_j2 x7) true) (
 ifb (decide (x8.A = x3)) (
 ifb (decide (x8.B = x2)) (
 (m_narthexref03_Has_j2 x7) (decide (x3 < x2))) (
 (m_narthexref03_Has_j2 x7) false)) (
 (m_narthexref03_Has_j2 x7) false))) (
 ifb (decide (x8.A = x3)) (
 ifb (decide (x8.B = x2)) (
 (m_narthexref03_Has_j2 x7) (decide (x3 < x2))) (
 (m_narthexref03_Has_j2 x7) false)) (
 (m_narthexref03_Has_j2 x7) false))) (
 ifb (decide (x8.A = x3)) (
 ifb (decide (x8.B = x2)) (
 (m_narthexref03_Has_j2 x7) (decide (x3 < x2))) (
 (m_narthexref03_Has_j2 x7) false)) (
 (m_narthexref03_Has_j2 x7) false))) (
 Option.map Sum.inr (m_narthexref03_Has_j1 ()))
noncomputable def m_narthexref03_Has (x1 : Graph) (x2 : Int) (x3 : Int) : Option Bool :=
 loop (m_narthexref03_Has_l1 x1 x2 x3) 0
theorem k_narthexref03_Has (x1 : Graph) (x2 : Int) (x3 : Int) (r : Bool) (h : m_narthexref03_Has x1 x2 x3 = some r) : FunP Try.prog 32 [.agg (Graph.row x1), .iv x2, .iv x3] (.bv r) := by
  refine FunP_intro ok_narthexref03_Has rfl rfl fun w0 H0 => ?_
  rw [m_narthexref03_Has] at h
  refine V_go 10 ?_
  dsimp only [e_narthexref03_Has, e_narthexref03_Has_L0, go_sem, Nat.reduceBEq, Nat.reduceAdd]
  refine ⟨by simp, ?_⟩
  refine V_join (fun (_ : Unit) => (⟨(an 53 []), [], []⟩ : St)) m_narthexref03_Has_j1 r ?_ fun J1 => ?_
  · rintro ⟨⟩ h
    rw [m_narthexref03_Has_j1] at h
    try dsimp only
    refine V_go 4 ?_
    dsimp only [e_narthexref03_Has, e_narthexref03_Has_L0, go_sem, Nat.reduceBEq, Nat.reduceAdd]
    refine ⟨by simp, ?_⟩
    exact M_done (res := fun (r : Bool) => .bv r) ok_narthexref03_Has h (by first | exact le_refl _ | simp [go_sem])
  · refine V_go 1 ?_
    dsimp only [e_narthexref03_Has, e_narthexref03_Has_L0, go_sem, Nat.reduceBEq, Nat.reduceAdd]
    refine ⟨by simp, ?_⟩
    refine M_loop h (fun (x7 : Int) => (⟨(.any :: .iv x2 :: .iv x3 :: .ptr 0 0 :: an 3 (.iv x7 :: an 45 [])), [some ⟨24, [.iv x1.N, .sl 2 (List.map Edge.row x1.Edges)]⟩], []⟩ : St)) (by simp [go_sem]) (by intro x7; first | rfl | simp [go_sem]) ?_
    rintro n1 x7 y1 h hin1 hout1
    rw [m_narthexref03_Has_l1] at h
    try dsimp only
    refine V_go 9 ?_
    dsimp only [e_narthexref03_Has, e_narthexref03_Has_L0, go_sem, Nat.reduceBEq, Nat.reduceAdd]
    refine ⟨by simp, ?_⟩
    refine M_ite h rfl (fun hb h => ?_) (fun hb h => ?_)
    · refine V_go 8 ?_
      dsimp only [e_narthexref03_Has, e_narthexref03_Has_L0, go_sem, Nat.reduceBEq, Nat.reduceAdd]
      refine ⟨by simp, ?_⟩
      obtain ⟨x8, ex8, h⟩ := Option.bind_eq_some_iff.1 h
      refine V_idxM Edge.row ex8 trivial rfl rfl rfl ?_
      refine V_go 11 ?_
      dsimp only [e_narthexref03_Has, e_narthexref03_Has_L0, go_sem, Nat.reduceBEq, Nat.reduceAdd]
      refine ⟨by simp, ?_⟩
      refine V_join (fun (x9 : Bool) => (⟨(.any :: .iv x2 :: .iv x3 :: .ptr 0 0 :: an 3 (.iv x7 :: an 44 [.bv x9])), [some ⟨24, [.iv x1.N, .sl 2 (List.map Edge.row x1.Edges)]⟩], []⟩ : St)) (m_narthexref03_Has_j2 x7) y1 ?_ fun J2 => ?_
      · intro x9 h
        rw [m_narthexref03_Has_j2] at h
        try dsimp only
        refine M_ite h rfl (fun hb h => ?_) (fun hb h => ?_)
        · refine V_go 4 ?_
          dsimp only [e_narthexref03_Has, e_narthexref03_Has_L0, go_sem, Nat.reduceBEq, Nat.reduceAdd]
          refine ⟨by simp, ?_⟩
          exact M_done (res := fun (r : Bool) => .bv r) ok_narthexref03_Has (M_out h hout1) (by first | exact le_refl _ | simp [go_sem])
        · refine V_go 7 ?_
          dsimp only [e_narthexref03_Has, e_narthexref03_Has_L0, go_sem, Nat.reduceBEq, Nat.reduceAdd]
          refine ⟨by simp, ?_⟩
          exact M_back h hin1 (by simp [go_sem]) (by first | rfl | simp [go_sem])
      · refine M_case 25 h rfl (fun hb h => ?_) (fun hb h => ?_)
        · dsimp only [go_sem, Nat.reduceBEq, Nat.reduceAdd]
          refine V_go 6 ?_
          dsimp only [e_narthexref03_Has, e_narthexref03_Has_L0, go_sem, Nat.reduceBEq, Nat.reduceAdd]
          refine ⟨by simp, ?_⟩
          refine M_case 31 h rfl (fun hb h => ?_) (fun hb h => ?_)
          · dsimp only [go_sem, Nat.reduceBEq, Nat.reduceAdd]
            refine V_go 5 ?_
            dsimp only [e_narthexref03_Has, e_narthexref03_Has_L0, go_sem, Nat.reduceBEq, Nat.reduceAdd]
            refine ⟨by simp, ?_⟩
            refine M_case 36 h rfl (fun hb h => ?_) (fun hb h => ?_)
            · dsimp only [go_sem, Nat.reduceBEq, Nat.reduceAdd]
              refine V_go 17 ?_
              dsimp only [e_narthexref03_Has, e_narthexref03_Has_L0, go_sem, Nat.reduceBEq, Nat.reduceAdd]
              refine ⟨by simp, ?_⟩
              exact M_to J2 (s := true) h (by simp [go_sem]) (by first | rfl | simp [go_sem])
            · dsimp only [go_sem, Nat.reduceBEq, Nat.reduceAdd]
              refine V_go 5 ?_
              dsimp only [e_narthexref03_Has, e_narthexref03_Has_L0, go_sem, Nat.reduceBEq, Nat.reduceAdd]
              refine ⟨by simp, ?_⟩
              refine M_case 41 h rfl (fun hb h => ?_) (fun hb h => ?_)
              · dsimp only [go_sem, Nat.reduceBEq, Nat.reduceAdd]
                refine V_go 6 ?_
                dsimp only [e_narthexref03_Has, e_narthexref03_Has_L0, go_sem, Nat.reduceBEq, Nat.reduceAdd]
                refine ⟨by simp, ?_⟩
                refine M_case 47 h rfl (fun hb h => ?_) (fun hb h => ?_)
                · dsimp only [go_sem, Nat.reduceBEq, Nat.reduceAdd]
                  refine V_go 6 ?_
                  dsimp only [e_narthexref03_Has, e_narthexref03_Has_L0, go_sem, Nat.reduceBEq, Nat.reduceAdd]
                  refine ⟨by simp, ?_⟩
                  exact M_to J2 (s := decide (x3 < x2)) h (by simp [go_sem]) (by first | rfl | simp [go_sem])
                · dsimp only [go_sem, Nat.reduceBEq, Nat.reduceAdd]
                  refine V_go 6 ?_
                  dsimp only [e_narthexref03_Has, e_narthexref03_Has_L0, go_sem, Nat.reduceBEq, Nat.reduceAdd]
                  refine ⟨by simp, ?_⟩
                  exact M_to J2 (s := false) h (by simp [go_sem]) (by first | rfl | simp [go_sem])
              · dsimp only [go_sem, Nat.reduceBEq, Nat.reduceAdd]
                refine V_go 12 ?_
                dsimp only [e_narthexref03_Has, e_narthexref03_Has_L0, go_sem, Nat.reduceBEq, Nat.reduceAdd]
                refine ⟨by simp, ?_⟩
                exact M_to J2 (s := false) h (by simp [go_sem]) (by first | rfl | simp [go_sem])
          · dsimp only [go_sem, Nat.reduceBEq, Nat.reduceAdd]
            refine V_go 10 ?_
            dsimp only [e_narthexref03_Has, e_narthexref03_Has_L0, go_sem, Nat.reduceBEq, Nat.reduceAdd]
            refine ⟨by simp, ?_⟩
            refine M_case 41 h rfl (fun hb h => ?_) (fun hb h => ?_)
            · dsimp only [go_sem, Nat.reduceBEq, Nat.reduceAdd]
              refine V_go 6 ?_
              dsimp only [e_narthexref03_Has, e_narthexref03_Has_L0, go_sem, Nat.reduceBEq, Nat.reduceAdd]
              refine ⟨by simp, ?_⟩
              refine M_case 47 h rfl (fun hb h => ?_) (fun hb h => ?_)
              · dsimp only [go_sem, Nat.reduceBEq, Nat.reduceAdd]
                refine V_go 6 ?_
                dsimp only [e_narthexref03_Has, e_narthexref03_Has_L0, go_sem, Nat.reduceBEq, Nat.reduceAdd]
                refine ⟨by simp, ?_⟩
                exact M_to J2 (s := decide (x3 < x2)) h (by simp [go_sem]) (by first | rfl | simp [go_sem])
              · dsimp only [go_sem, Nat.reduceBEq, Nat.reduceAdd]
                refine V_go 6 ?_
                dsimp only [e_narthexref03_Has, e_narthexref03_Has_L0, go_sem, Nat.reduceBEq, Nat.reduceAdd]
                refine ⟨by simp, ?_⟩
                exact M_to J2 (s := false) h (by simp [go_sem]) (by first | rfl | simp [go_sem])
            · dsimp only [go_sem, Nat.reduceBEq, Nat.reduceAdd]
              refine V_go 12 ?_
              dsimp only [e_narthexref03_Has, e_narthexref03_Has_L0, go_sem, Nat.reduceBEq, Nat.reduceAdd]
              refine ⟨by simp, ?_⟩
              exact M_to J2 (s := false) h (by simp [go_sem]) (by first | rfl | simp [go_sem])
        · dsimp only [go_sem, Nat.reduceBEq, Nat.reduceAdd]
          refine V_go 16 ?_
          dsimp only [e_narthexref03_Has, e_narthexref03_Has_L0, go_sem, Nat.reduceBEq, Nat.reduceAdd]
          refine ⟨by simp, ?_⟩
          refine M_case 41 h rfl (fun hb h => ?_) (fun hb h => ?_)
          · dsimp only [go_sem, Nat.reduceBEq, Nat.reduceAdd]
            refine V_go 6 ?_
            dsimp only [e_narthexref03_Has, e_narthexref03_Has_L0, go_sem, Nat.reduceBEq, Nat.reduceAdd]
            refine ⟨by simp, ?_⟩
            refine M_case 47 h rfl (fun hb h => ?_) (fun hb h => ?_)
            · dsimp only [go_sem, Nat.reduceBEq, Nat.reduceAdd]
              refine V_go 6 ?_
              dsimp only [e_narthexref03_Has, e_narthexref03_Has_L0, go_sem, Nat.reduceBEq, Nat.reduceAdd]
              refine ⟨by simp, ?_⟩
              exact M_to J2 (s := decide (x3 < x2)) h (by simp [go_sem]) (by first | rfl | simp [go_sem])
            · dsimp only [go_sem, Nat.reduceBEq, Nat.reduceAdd]
              refine V_go 6 ?_
              dsimp only [e_narthexref03_Has, e_narthexref03_Has_L0, go_sem, Nat.reduceBEq, Nat.reduceAdd]
              refine ⟨by simp, ?_⟩
              exact M_to J2 (s := false) h (by simp [go_sem]) (by first | rfl | simp [go_sem])
          · dsimp only [go_sem, Nat.reduceBEq, Nat.reduceAdd]
            refine V_go 12 ?_
            dsimp only [e_narthexref03_Has, e_narthexref03_Has_L0, go_sem, Nat.reduceBEq, Nat.reduceAdd]
            refine ⟨by simp, ?_⟩
            exact M_to J2 (s := false) h (by simp [go_sem]) (by first | rfl | simp [go_sem])
    · refine V_go 1 ?_
      dsimp only [e_narthexref03_Has, e_narthexref03_Has_L0, go_sem, Nat.reduceBEq, Nat.reduceAdd]
      refine ⟨by simp, ?_⟩
      exact M_to J1 (s := ()) (M_out h hout1) (by simp [go_sem]) (by first | rfl | simp [go_sem])
def f_narthexref03_Has_j1 (F : Nat)  : Unit → Option Bool
| () =>
 some false
theorem le_narthexref03_Has_j1 {F : Nat} : ∀ s, ole (f_narthexref03_Has_j1 F s) (m_narthexref03_Has_j1 s) := by
  rintro ⟨⟩
  unfold f_narthexref03_Has_j1 m_narthexref03_Has_j1
  try dsimp only
  repeat' first | with_reducible exact ole_refl _ | assumption | intro _ | with_reducible refine ole_ifb ?_ ?_ | with_reducible refine ole_bind ?_ ?_ | with_reducible refine ole_map ?_ | with_reducible refine ole_loop ?_
def f_narthexref03_Has_j2 (F : Nat) (x7 : Int) : Bool → Option (Int ⊕ Bool)
| x9 =>
 ifb x9 (
 Option.map Sum.inr (some true)) (
 some (.inl (wr (x7 + 1))))
theorem le_narthexref03_Has_j2 {F : Nat} {x7 : Int} : ∀ s, ole (f_narthexref03_Has_j2 F x7 s) (m_narthexref03_Has_j2 x7 s) := by
  intro x9
  unfold f_narthexref03_Has_j2 m_narthexref03_Has_j2
  try dsimp only
  repeat' first | with_reducible exact ole_refl _ | assumption | intro _ | with_reducible refine ole_ifb ?_ ?_ | with_reducible refine ole_bind ?_ ?_ | with_reducible refine ole_map ?_ | with_reducible refine ole_loop ?_ | with_reducible apply le_narthexref03_Has_j1
def f_narthexref03_Has_l1 (F : Nat) (x1 : Graph) (x2 : Int) (x3 : Int) : Int → Option (Int ⊕ Bool)
| x7 =>
 ifb (decide (x7 < (ln Edge.row x1.Edges))) (
 (at_ x1.Edges x7).bind fun x8 =>
 ifb (decide (x8.A = x2)) (
 ifb (decide (x8.B = x3)) (
 ifb (decide (x2 ≤ x3)) (
 (f_narthexref03_Has_j2 F x7) true) (
 ifb (decide (x8.A = x3)) (
 ifb (decide (x8.B = x2)) (
 (f_narthexref03_Has_j2 F x7) (decide (x3 < x2))) (
 (f_narthexref03_Has_j2 F x7) false)) (
 (f_narthexref03_Has_j2 F x7) false))) (
 ifb (decide (x8.A = x3)) (
 ifb (decide (x8.B = x2)) (
 (f_narthexref03_Has_j2 F x7) (decide (x3 < x2))) (
 (f_narthexref03_Has_j2 F x7) false)) (
 (f_narthexref03_Has_j2 F x7) false))) (
 ifb (decide (x8.A = x3)) (
 ifb (decide (x8.B = x2)) (
 (f_narthexref03_Has_j2 F x7) (decide (x3 < x2))) (
 (f_narthexref03_Has_j2 F x7) false)) (
 (f_narthexref03_Has_j2 F x7) false))) (
 Option.map Sum.inr (f_narthexref03_Has_j1 F ()))
theorem le_narthexref03_Has_l1 {F : Nat} {x1 : Graph} {x2 : Int} {x3 : Int} : ∀ s, ole (f_narthexref03_Has_l1 F x1 x2 x3 s) (m_narthexref03_Has_l1 x1 x2 x3 s) := by
  intro x7
  unfold f_narthexref03_Has_l1 m_narthexref03_Has_l1
  try dsimp only
  repeat' first | with_reducible exact ole_refl _ | assumption | intro _ | with_reducible refine ole_ifb ?_ ?_ | with_reducible refine ole_bind ?_ ?_ | with_reducible refine ole_map ?_ | with_reducible refine ole_loop ?_ | with_reducible apply le_narthexref03_Has_j1 | with_reducible apply le_narthexref03_Has_j2
def f_narthexref03_Has (F : Nat) (x1 : Graph) (x2 : Int) (x3 : Int) : Option Bool :=
 loopF F (f_narthexref03_Has_l1 F x1 x2 x3) 0
theorem le_narthexref03_Has {F : Nat} {x1 : Graph} {x2 : Int} {x3 : Int} : ole (f_narthexref03_Has F x1 x2 x3) (m_narthexref03_Has x1 x2 x3) := by
  unfold f_narthexref03_Has m_narthexref03_Has
  repeat' first | with_reducible exact ole_refl _ | assumption | intro _ | with_reducible refine ole_ifb ?_ ?_ | with_reducible refine ole_bind ?_ ?_ | with_reducible refine ole_map ?_ | with_reducible refine ole_loop ?_ | with_reducible apply le_narthexref03_Has_j1 | with_reducible apply le_narthexref03_Has_j2 | with_reducible apply le_narthexref03_Has_l1
end NX
end Go.Proofs.Ytadebhbiglmodaa
