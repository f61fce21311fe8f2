/-
  The symbolic machine: slices made; own slices cut; elements of own slices in drawn regions. No statement of the seat is proved here.
-/
import Derived.Laws.OwnMore
import Derived.Lib.AppendZeros
import Derived.ProofKit
import Derived.OpenShut
import Derived.Carry
import Derived.KernelRfl
import Derived.Test.YtadebhbiglmodaaR1
namespace Go.Proofs.Ytadebhbiglmodaa
namespace NX
open Go Go.RowKit

/-- A slice of zeros. -/
def mk_ {α : Type} (b : Nat) (n : Int) (z : α) : Option (List α) := if 0 ≤ n ∧ b * n ≤ 281474976710656 ∧ n ≤ 9223372036854775807 then some (List.replicate n.toNat z) else none
theorem mk_some {α : Type} {b : Nat} {n : Int} {z : α} {l : List α} (h : mk_ b n z = some l) : l = List.replicate n.toNat z ∧ 0 ≤ n ∧ b * n ≤ 281474976710656 ∧ n ≤ 9223372036854775807 := by
  unfold mk_ at h
  split at h
  · rename_i h1
    simp at h; exact ⟨h.symm, h1⟩
  · simp at h
theorem cO_mks {P : Program} {op : Op} {e n b : Nat} {z : List AV} {x y : X} (ho : cO P op = .mks e n b z x y) :
    ∃ T p q i u, op = .makeSlice T p q ∧ P.underlying T = some (.slice e) ∧ P.info? e = some i ∧ i.zero = some u ∧ u.cells.size = n ∧ i.size = n ∧ 0 < n ∧ i.bytes = b ∧ z = u.cells.toList.map zav ∧ cX p = x ∧ cX q = y := by
  cases op
  case makeSlice T p q =>
    simp only [cO] at ho
    split at ho
    · rename_i e' hu
      split at ho
      · rename_i i hi
        split at ho
        · rename_i u hz
          split at ho
          · rename_i hs
            simp only [EO.mks.injEq] at ho
            obtain ⟨rfl, rfl, rfl, rfl, rfl, rfl⟩ := ho
            exact ⟨T, p, q, i, u, rfl, hu, hi, hz, hs.1, rfl, hs.2, rfl, rfl, rfl, rfl⟩
          · simp at ho
        · simp at ho
      · simp at ho
    · simp at ho
  all_goals (simp only [cO] at ho; (repeat' (split at ho)) <;> simp at ho)
theorem isLL_rep {M : Mem} {z : List AV} {vs : List Value} (h : AV.isL M z vs) : ∀ k, AV.isLL M vs.length (List.replicate k z) (List.replicate k vs)
  | 0 => rfl
  | k + 1 => ⟨vs, _, rfl, rfl, h, isLL_rep h k⟩
section
variable {c : Ctx} {M : Mem} {S S' : St} {a : Act} {w : World} {fn : Func} {K : AV → List (Option Blk) → List (Option Sl) → Prop} {k : List It}
theorem zav_one {v : Value} (h : (zav v).one = true) : v.oneCell' = true := by
  unfold zav at h
  split at h <;> first | rfl | simp [AV.one] at h
theorem sem_mks {e n b : Nat} {z : List AV} {x y : X} {m : Int} (hx : S.x x = .iv m) (hy : S.x y = .iv m) (h0 : 0 ≤ m) (hb : b * m ≤ 281474976710656) (h63 : m ≤ 9223372036854775807) (hone : allOne z = true) :
    Sem1 c S (.mks e n b z x y) (.osl (llen S.ss)) ⟨S.tm, S.bs, S.ss ++ [some ⟨e, n, List.replicate m.toNat z⟩]⟩ := by
  intro ro hop M a w hRT next Q hnx
  obtain ⟨dst, op, ty, pos, af, gd⟩ := ro
  dsimp only at hop
  obtain ⟨T, p, q, i, u, rfl, hu, hi, hz, hn, hsz, hn0, rfl, rfl, rfl, rfl⟩ := cO_mks hop
  have k1 := X_is hRT p
  have k2 := X_is hRT q
  rw [hx] at k1
  rw [hy] at k2
  obtain ⟨k, rfl⟩ : ∃ k : Nat, m = k := ⟨m.toNat, by omega⟩
  have hS := hRT.st
  have hb' : i.bytes * k ≤ 281474976710656 := by
    have : ((i.bytes * k : Nat) : Int) ≤ 281474976710656 := by rw [Int.natCast_mul]; exact hb
    omega
  obtain ⟨w', r1, r2, r3⟩ := run_make_full (P := c.P) (w := w) 0 T e i u n hu hi hz hsz .i64 .i64 k hb' (by unfold maxLen; omega) (Nat.zero_le _)
  have hrun : (execOp a.eval ⟨dst, .makeSlice T p q, ty, pos, af, gd⟩).run c.P w = .ok (.value (.slice (some ⟨w.heap.size, 0, none⟩) k k)) w' := by
    generalize a.eval = ρ at *
    simp [execOp, show ρ p = .int .i64 k from k1, show ρ q = .int .i64 k from k2, r1]
  unfold Oper.wp
  rw [hrun]
  have hfl : (madeCells u.cells (k * n)).toList = (List.replicate k u.cells.toList).flatten := by
    rw [← hn]; exact zero_cells u.cells k
  have hlen : u.cells.toList.length = n := by simpa using hn
  have hv := isLL_rep (zav_isL M.pure u.cells.toList) k
  rw [hlen] at hv
  have hcells : ∀ v ∈ u.cells.toList, v.oneCell' = true := by
    have : ∀ l : List Value, allOne (l.map zav) = true → ∀ v ∈ l, v.oneCell' = true := by
      intro l
      induction l with
      | nil => simp
      | cons v l ih =>
        intro h u hu
        simp only [List.map_cons, allOne, andb_iff] at h
        rcases List.mem_cons.1 hu with rfl | hu
        · exact zav_one h.1
        · exact ih h.2 u hu
    exact this _ hone
  have hr : RelS c (M.addS (.slice (some ⟨w.heap.size, 0, none⟩) k k)) S.bs (S.ss ++ [some (⟨e, n, List.replicate k (u.cells.toList.map zav)⟩ : Sl)]) w' := by
    refine RelS.grown (v := .slice none 0 0) (vss := List.replicate k u.cells.toList) hS rfl ?_ (.inl rfl) ?_ r3 (.inr fun g hg => ?_) hn0 hv ?_ ?_
    · intro i N hi; exact ⟨hi, fun g hg => by simp [Value.ownBlock] at hg⟩
    · intro g hg; simp [Value.ownBlock] at hg
    · simp [Value.ownBlock] at hg; omega
    · intro v hv
      simp only [List.mem_flatten, List.mem_replicate] at hv
      obtain ⟨l, ⟨_, rfl⟩, hv⟩ := hv
      exact hcells v hv
    · rw [← hfl, List.length_replicate]; exact r2
  refine hnx _ w' _ (Mem.le_addS M _) (by simpa using hr) ?_
  rw [llen_eq, ← hS.ns]
  exact ⟨Nat.lt_succ_self _, by simp [Mem.addS]⟩
theorem V_mksM {α : Type} {l' : List α} {m : Int} {y : α} {d : Option Nat} {g : Option (Nat × Bool)} {l : List EOp} {e n b : Nat} {z : List AV} {p q : X} (f : α → List AV) (hv : mk_ b m y = some l') (hg : gm S g) (hx : S.x p = .iv m) (hy : S.x q = .iv m) (hz : f y = z) (hone : allOne z = true)
    (h : V c fn K (.ops l :: k) ((⟨S.tm, S.bs, S.ss ++ [some ⟨e, n, l'.map f⟩]⟩ : St).put d (.osl (llen S.ss)))) : V c fn K (.ops (⟨d, g, .mks e n b z p q⟩ :: l) :: k) S := by
  obtain ⟨rfl, h0, h1, h2⟩ := mk_some hv
  rw [List.map_replicate, hz] at h
  exact V_sem hg (sem_mks hx hy h0 h1 h2 hone) rfl h
/-- An own slice is cut at its end: it has another name then. -/
theorem sem_cut {n j : Nat} {x : X} {lo hi : Option X} {m : Int} {L : Sl} (hx : S.x x = .osl j) (hj : oget S.ss j = some L) (hn : L.n = n) (hlo : bnd S lo 0 = some 0) (hhi : bnd S hi L.rows.length = some m) (h0 : 0 ≤ m) (h1 : m ≤ L.rows.length) :
    Sem1 c S (.slice n x lo hi) (.osl (llen S.ss)) ⟨S.tm, S.bs, oput S.ss j none ++ [some ⟨L.T, n, L.rows.take m.toNat⟩]⟩ := by
  subst hn
  intro ro hop M a w hRT next Q hnx
  obtain ⟨dst, op, ty, pos, af, gd⟩ := ro
  dsimp only at hop
  obtain ⟨T, y, l, h, e, rfl, hu, hs, rfl, rfl, rfl⟩ := cO_slice hop
  have hS := hRT.st
  have k1 := X_is hRT y
  rw [hx] at k1
  obtain ⟨g0, vss, q1, q2, q3, q4⟩ := hS.slc j L hj
  have hbl : ∀ (o : Option Operand) (z r : Int), bnd S (o.map cX) z = some r → match o with | none => r = z | some o => a.eval o = .int .i64 r := by
    intro o z r hb
    cases o with
    | none => simpa [bnd] using hb.symm
    | some o =>
      simp only [Option.map_some, bnd] at hb
      have := X_is hRT o
      split at hb
      · rename_i n' hn'
        rw [hn'] at this
        simp at hb; subst hb; exact this
      · simp at hb
  have e1 := hbl l 0 0 hlo
  have e2 := hbl h L.rows.length m hhi
  obtain ⟨hvn, hvl⟩ := isLL_len q1
  have hown : ∃ v', (execOp a.eval ⟨dst, .slice T y l h none, ty, pos, af, gd⟩).run c.P w = .ok (.value v') w ∧ v'.ownBlock = (M.σ j).ownBlock ∧ w.ownsRow 0 L.T L.n v' (L.rows.take m.toNat).length (vss.take m.toNat).flatten := by
    have htl : (L.rows.take m.toNat).length = m.toNat := by rw [List.length_take]; omega
    have hflt : (vss.take m.toNat).flatten = vss.flatten.take (m.toNat * L.n) := by
      have : ∀ (q : List (List Value)) (k : Nat), (∀ v ∈ q, v.length = L.n) → (q.take k).flatten = q.flatten.take (k * L.n) := by
        intro q
        induction q with
        | nil => intro k _; simp
        | cons v q ih =>
          intro k hq
          cases k with
          | zero => simp
          | succ k =>
            have hv := hq v (by simp)
            rw [List.take_succ_cons, List.flatten_cons, List.flatten_cons, ih k fun u hu => hq u (by simp [hu]), show (k + 1) * L.n = v.length + k * L.n by rw [hv, Nat.add_mul]; omega, List.take_length_add_append]
      exact this vss m.toNat hvn
    have hlen2 : (vss.take m.toNat).flatten.length = m.toNat * L.n := by
      have := isLL_flat (isLL_sub q1 0 m.toNat)
      simp only [List.drop_zero] at this
      rw [this, htl]
    rcases q3.2 with ⟨r1, r2⟩ | ⟨g, cap, cur, r1, r2, r3, r4, r5, r6, r7⟩
    · have hm : m = 0 := by omega
      subst hm
      have hrun := slice_run (P := c.P) (w := w) hu hs (ρ := a.eval) (ad := none) (len := 0) (cp := 0) (lo := 0) (hi := 0) (k1.2.trans r1) (Nat.le_refl _) e1 (by rw [r2] at e2; exact e2) (by omega) (by omega) (by omega) dst ty pos af gd
      refine ⟨_, hrun, by rw [r1]; simp [Value.ownBlock], ⟨by rw [hlen2, htl], .inl ⟨by simp, by simp⟩⟩⟩
    · have hrun := slice_run (P := c.P) (w := w) hu hs (ρ := a.eval) (ad := some ⟨g, 0, none⟩) (len := L.rows.length) (cp := cap) (lo := 0) (hi := m) (k1.2.trans r1) r4 e1 e2 (by omega) h0 h1 dst ty pos af gd
      refine ⟨_, hrun, by rw [r1]; simp only [Option.map]; split <;> simp [Value.ownBlock, Addr.add], ⟨by rw [hlen2, htl], .inr ⟨g, cap, cur, ?_, r2, r3, by rw [htl]; omega, r5, r6, ?_⟩⟩⟩
      · rw [htl]
        simp only [Option.map, Int.toNat_zero, Nat.zero_mul, Nat.sub_zero]
        split <;> simp [Addr.add]
      · rw [htl, hflt, ← r7, List.take_take, Nat.min_eq_left (Nat.mul_le_mul_right _ (by omega))]
  obtain ⟨v', hrun, hb, ho⟩ := hown
  unfold Oper.wp
  rw [hrun]
  have hr : RelS c (M.addS v') S.bs (oput S.ss j none ++ [some (⟨L.T, L.n, L.rows.take m.toNat⟩ : Sl)]) w := by
    refine RelS.grown (v := M.σ j) (vss := vss.take m.toNat) hS (length_oput _ _ _) ?_ (.inr fun i B hi => hS.d2 i j B L hi hj) q4 ⟨rfl, rfl, rfl, Nat.le_refl _, fun _ _ _ => rfl⟩ (.inl hb) g0 (by have := isLL_sub q1 0 m.toNat; simpa using this) ?_ ho
    · intro i N hi
      rw [oget_oput] at hi
      split at hi
      · simp at hi
      · rename_i e
        refine ⟨hi, fun g hg e2 => e ⟨?_, oget_lt hj⟩⟩
        exact hS.d3 i j N L g hi hj e2 hg
    · intro v hv
      simp only [List.mem_flatten] at hv
      obtain ⟨r, hr, hv⟩ := hv
      exact q2 v (List.mem_flatten.2 ⟨r, List.mem_of_mem_take hr, hv⟩)
  refine hnx _ w _ (Mem.le_addS M _) hr ?_
  rw [llen_eq, ← hS.ns]
  exact ⟨Nat.lt_succ_self _, by simp [Mem.addS]⟩
theorem V_cutM {α : Type} {l' v : List α} {m : Int} {d : Option Nat} {g : Option (Nat × Bool)} {l : List EOp} {T n j : Nat} {x : X} {lo hi : Option X} (f : α → List AV) (hv : sub_ l' 0 m = some v) (hg : gm S g) (hx : S.x x = .osl j) (hj : oget S.ss j = some ⟨T, n, l'.map f⟩) (hlo : bnd S lo 0 = some 0) (hhi : bnd S hi (ln f l') = some m)
    (h : V c fn K (.ops l :: k) ((⟨S.tm, S.bs, oput S.ss j none ++ [some ⟨T, n, v.map f⟩]⟩ : St).put d (.osl (llen S.ss)))) : V c fn K (.ops (⟨d, g, .slice n x lo hi⟩ :: l) :: k) S := by
  unfold sub_ at hv
  split at hv
  · rename_i h1
    simp at hv
    subst hv
    rw [List.map_take] at h
    exact V_sem hg (sem_cut hx hj rfl hlo hhi h1.2.1 (by simpa using h1.2.2)) rfl h
  · simp at hv
theorem sem_sliceN {n : Nat} {x : X} {lo hi : Option X} (hx : S.x x = .nl) (hlo : bnd S lo 0 = some 0) (hhi : bnd S hi 0 = some 0) : Sem1 c S (.slice n x lo hi) .nl S := by
  intro ro hop M a w hRT next Q hnx
  obtain ⟨dst, op, ty, pos, af, gd⟩ := ro
  dsimp only at hop
  obtain ⟨T, y, l, h, e, rfl, hu, hs, rfl, rfl, rfl⟩ := cO_slice hop
  have k1 := X_is hRT y
  rw [hx] at k1
  have hbl : ∀ (o : Option Operand) (z r : Int), bnd S (o.map cX) z = some r → match o with | none => r = z | some o => a.eval o = .int .i64 r := by
    intro o z r hb
    cases o with
    | none => simpa [bnd] using hb.symm
    | some o =>
      simp only [Option.map_some, bnd] at hb
      have := X_is hRT o
      split at hb
      · rename_i n' hn'
        rw [hn'] at this
        simp at hb; subst hb; exact this
      · simp at hb
  have hrun := slice_run (P := c.P) (w := w) hu hs (ρ := a.eval) (ad := none) (len := 0) (cp := 0) (lo := 0) (hi := 0) k1 (Nat.le_refl _) (hbl l 0 0 hlo) (hbl h 0 0 hhi) (by omega) (by omega) (by omega) dst ty pos af gd
  unfold Oper.wp
  rw [hrun]
  exact hnx M w _ (.refl M) hRT.st (by simp [AV.is])
theorem V_sliceN {d : Option Nat} {g : Option (Nat × Bool)} {l : List EOp} {n : Nat} {x : X} {lo hi : Option X} (hg : gm S g) (hx : S.x x = .nl) (hlo : bnd S lo 0 = some 0) (hhi : bnd S hi 0 = some 0) (h : V c fn K (.ops l :: k) (S.put d .nl)) : V c fn K (.ops (⟨d, g, .slice n x lo hi⟩ :: l) :: k) S :=
  V_sem hg (sem_sliceN hx hlo hhi) rfl h
theorem cO_cap {P : Program} {op : Op} {x : X} (ho : cO P op = .cap x) : ∃ q ats t0 e, op = .call ⟨.builtin .cap, #[q], ats⟩ ∧ ats[0]? = some t0 ∧ P.underlying t0 = some (.slice e) ∧ cX q = x := by
  cases op
  case call ci =>
    obtain ⟨callee, cargs, argTypes⟩ := ci
    cases callee with
    | value o =>
      cases o with
      | func f' => simp only [cO] at ho; (repeat' (split at ho)) <;> simp at ho
      | _ => simp [cO] at ho
    | invoke _ _ => simp [cO] at ho
    | builtin b =>
      cases b
      case cap =>
        simp only [cO] at ho
        split at ho
        · rename_i t0 q h1 h2
          split at ho
          · rename_i e hu
            simp only [EO.cap.injEq] at ho
            have e1 : cargs = #[q] := by apply Array.ext'; simpa using h2
            subst e1
            exact ⟨q, argTypes, t0, e, rfl, h1, hu, ho⟩
          · simp at ho
        · simp at ho
      all_goals (simp only [cO] at ho; (repeat' (split at ho)) <;> simp at ho)
  all_goals (simp only [cO] at ho; (repeat' (split at ho)) <;> simp at ho)
theorem sem_capN {x : X} (hx : S.x x = .nl) : Sem1 c S (.cap x) (.iv 0) S := by
  intro ro hop M a w hRT next Q hnx
  obtain ⟨dst, op, ty, pos, af, gd⟩ := ro
  dsimp only at hop
  obtain ⟨q, ats, t0, e, rfl, h0, hu, rfl⟩ := cO_cap hop
  have k1 := X_is hRT q
  rw [hx] at k1
  simp only [AV.is] at k1
  have hrun : (execOp a.eval ⟨dst, .call ⟨.builtin .cap, #[q], ats⟩, ty, pos, af, gd⟩).run c.P w = .ok (.value (.int .i64 0)) w := by
    generalize a.eval = ρ at *
    simp [execOp, resolve, invoke, builtin, Builtin.cap_, h0, run_underlying hu, k1]
    rfl
  unfold Oper.wp
  rw [hrun]
  exact hnx M w _ (.refl M) hRT.st rfl
theorem V_capN {d : Option Nat} {g : Option (Nat × Bool)} {l : List EOp} {x : X} (hg : gm S g) (hx : S.x x = .nl) (h : V c fn K (.ops l :: k) (S.put d (.iv 0))) : V c fn K (.ops (⟨d, g, .cap x⟩ :: l) :: k) S :=
  V_sem hg (sem_capN hx) rfl h
theorem cO_apz {P : Program} {op : Op} {e n b : Nat} {z : List AV} {x y : X} (ho : cO P op = .apz e n b z x y) :
    ∃ t tn k p q i u, op = .call ⟨.builtin .append, #[p, q], #[t, tn]⟩ ∧ P.underlying t = some (.slice e) ∧ P.underlying tn = some (.int k) ∧ P.info? e = some i ∧ i.zero = some u ∧ u.cells.size = n ∧ i.size = n ∧ 0 < n ∧ i.bytes = b ∧ z = u.cells.toList.map zav ∧ cX p = x ∧ cX q = y := by
  cases op
  case call ci =>
    obtain ⟨callee, cargs, argTypes⟩ := ci
    cases callee with
    | value o =>
      cases o with
      | func f' => simp only [cO] at ho; (repeat' (split at ho)) <;> simp at ho
      | _ => simp [cO] at ho
    | invoke _ _ => simp [cO] at ho
    | builtin b =>
      cases b
      case append =>
        simp only [cO] at ho
        split at ho
        · rename_i t0 t1 p q h1 h2
          split at ho
          · (repeat' (split at ho)) <;> simp at ho
          · split at ho
            · rename_i e' k hu hk
              split at ho
              · rename_i i hi
                split at ho
                · rename_i u hz
                  split at ho
                  · rename_i hs
                    simp only [EO.apz.injEq] at ho
                    obtain ⟨rfl, rfl, rfl, rfl, rfl, rfl⟩ := ho
                    have e1 : cargs = #[p, q] := by apply Array.ext'; simpa using h2
                    have e2 : argTypes = #[t0, t1] := by apply Array.ext'; simpa using h1
                    subst e1; subst e2
                    exact ⟨t0, t1, k, p, q, i, u, rfl, hu, hk, hi, hz, hs.1, rfl, hs.2, rfl, rfl, rfl, rfl⟩
                  · simp at ho
                · simp at ho
              · simp at ho
            · simp at ho
        · simp at ho
      all_goals (simp only [cO] at ho; (repeat' (split at ho)) <;> simp at ho)
  all_goals (simp only [cO] at ho; (repeat' (split at ho)) <;> simp at ho)
/-- Zeros laid behind nothing. -/
def apz_ {α : Type} (b : Nat) (n : Int) (z : α) : Option (List α) := if 0 < n ∧ n * b ≤ 140737488355328 ∧ n ≤ 9223372036854775807 then some (List.replicate n.toNat z) else none
theorem sem_apz {e n b : Nat} {z : List AV} {x y : X} {m : Int} (hx : S.x x = .nl) (hy : S.x y = .iv m) (h0 : 0 < m) (hb : m * b ≤ 140737488355328) (h63 : m ≤ 9223372036854775807) (hone : allOne z = true) :
    Sem1 c S (.apz e n b z x y) (.osl (llen S.ss)) ⟨S.tm, S.bs, S.ss ++ [some ⟨e, n, List.replicate m.toNat z⟩]⟩ := by
  intro ro hop M a w hRT next Q hnx
  obtain ⟨dst, op, ty, pos, af, gd⟩ := ro
  dsimp only at hop
  obtain ⟨t, tn, kk, p, q, i, u, rfl, hu, hk, hi, hz, hn, hsz, hn0, rfl, rfl, rfl, rfl⟩ := cO_apz hop
  have k1 := X_is hRT p
  have k2 := X_is hRT q
  rw [hx] at k1
  rw [hy] at k2
  simp only [AV.is] at k1 k2
  obtain ⟨k, rfl⟩ : ∃ k : Nat, m = k := ⟨m.toNat, by omega⟩
  have hS := hRT.st
  have hb' : k * i.bytes ≤ 140737488355328 := by
    have : ((k * i.bytes : Nat) : Int) ≤ 140737488355328 := by rw [Int.natCast_mul]; exact hb
    omega
  have r1 := Lib.run_append_nil_zeros (P := c.P) w t tn ty e i u .i64 kk hu hk hi hz k (by omega) (by omega) h63 (by omega)
  have hrun : (execOp a.eval ⟨dst, .call ⟨.builtin .append, #[p, q], #[t, tn]⟩, ty, pos, af, gd⟩).run c.P w = .ok (.value (.slice (some ⟨w.heap.size, 0, none⟩) k (grownCap w k 0 e))) (w.drew.alloc (.cells (Builtin.zeroCells u.cells k ++ Builtin.zeroCells u.cells (grownCap w k 0 e - k)) e)) := by
    generalize a.eval = ρ at *
    simp [execOp, resolve, invoke, builtin, k1, k2, r1]
  unfold Oper.wp
  rw [hrun]
  have hfl : ∀ k, (Builtin.zeroCells u.cells k).toList = (List.replicate k u.cells.toList).flatten := fun k => zero_cells u.cells k
  have hlen : u.cells.toList.length = n := by simpa using hn
  have hv := isLL_rep (zav_isL M.pure u.cells.toList) k
  rw [hlen] at hv
  have hcells : ∀ v ∈ u.cells.toList, v.oneCell' = true := by
    have : ∀ l : List Value, allOne (l.map zav) = true → ∀ v ∈ l, v.oneCell' = true := by
      intro l
      induction l with
      | nil => simp
      | cons v l ih =>
        intro h u hu
        simp only [List.map_cons, allOne, andb_iff] at h
        rcases List.mem_cons.1 hu with rfl | hu
        · exact zav_one h.1
        · exact ih h.2 u hu
    exact this _ hone
  have hge := grownCap_ge w k 0 e
  have hmax := grownCap_le_maxLen w k 0 e (by unfold maxLen; omega)
  have hsz0 : ∀ q, (Builtin.zeroCells u.cells q).size = q * n := by intro q; simp [Builtin.zeroCells, hn]
  have hg : w.grownBy (w.drew.alloc (.cells (Builtin.zeroCells u.cells k ++ Builtin.zeroCells u.cells (grownCap w k 0 e - k)) e)) none := by
    refine ⟨rfl, rfl, rfl, ?_, fun j hj _ => ?_⟩
    · show w.heap.size ≤ (w.heap.push _).size; simp
    · show (w.heap.push _)[j]? = _
      rw [Array.getElem?_push, if_neg (by omega)]
  have hr : RelS c (M.addS (.slice (some ⟨w.heap.size, 0, none⟩) k (grownCap w k 0 e))) S.bs (S.ss ++ [some (⟨e, n, List.replicate k (u.cells.toList.map zav)⟩ : Sl)]) (w.drew.alloc (.cells (Builtin.zeroCells u.cells k ++ Builtin.zeroCells u.cells (grownCap w k 0 e - k)) e)) := by
    refine RelS.grown (v := .slice none 0 0) (vss := List.replicate k u.cells.toList) hS rfl ?_ (.inl rfl) ?_ hg (.inr fun g hg => ?_) hn0 hv ?_ ?_
    · intro i N hi; exact ⟨hi, fun g hg => by simp [Value.ownBlock] at hg⟩
    · intro g hg; simp [Value.ownBlock] at hg
    · simp [Value.ownBlock] at hg; omega
    · intro v hv
      simp only [List.mem_flatten, List.mem_replicate] at hv
      obtain ⟨l, ⟨_, rfl⟩, hv⟩ := hv
      exact hcells v hv
    · rw [List.length_replicate]
      refine ⟨by rw [← hfl]; simp [hsz0], .inr ⟨w.heap.size, grownCap w k 0 e, Builtin.zeroCells u.cells k ++ Builtin.zeroCells u.cells (grownCap w k 0 e - k), rfl, Nat.zero_le _, ?_, hge, hmax, ?_, ?_⟩⟩
      · show (w.heap.push _)[w.heap.size]? = _
        rw [Array.getElem?_push, if_pos rfl]
      · rw [Array.size_append, hsz0, hsz0, ← Nat.add_mul]; congr 1; omega
      · rw [Array.toList_append, hfl, List.take_left']
        rw [← hfl]; simp [hsz0]
  refine hnx _ _ _ (Mem.le_addS M _) (by simpa using hr) ?_
  rw [llen_eq, ← hS.ns]
  exact ⟨Nat.lt_succ_self _, by simp [Mem.addS]⟩
theorem V_apzM {α : Type} {l' : List α} {m : Int} {y : α} {d : Option Nat} {g : Option (Nat × Bool)} {l : List EOp} {e n b : Nat} {z : List AV} {p q : X} (f : α → List AV) (hv : apz_ b m y = some l') (hg : gm S g) (hx : S.x p = .nl) (hy : S.x q = .iv m) (hz : f y = z) (hone : allOne z = true)
    (h : V c fn K (.ops l :: k) ((⟨S.tm, S.bs, S.ss ++ [some ⟨e, n, l'.map f⟩]⟩ : St).put d (.osl (llen S.ss)))) : V c fn K (.ops (⟨d, g, .apz e n b z p q⟩ :: l) :: k) S := by
  unfold apz_ at hv
  split at hv
  · rename_i h1
    simp at hv
    subst hv
    rw [List.map_replicate, hz] at h
    exact V_sem hg (sem_apz hx hy h1.1 h1.2.1 h1.2.2 hone) rfl h
  · simp at hv
theorem V_storeOS {α : Type} {l' : List α} {z : Int} {y y' : α} {d : Option Nat} {g : Option (Nat × Bool)} {l : List EOp} {j T n off m : Nat} {x v : X} {cs0 : List AV} (cs : List AV) (f : α → List AV) (hv : at_ (l'.set z.toNat y) z = some y) (hg : gm S g) (hx : S.x x = .oel j (z.toNat * n) off) (hj : oget S.ss j = some ⟨T, n, (l'.set z.toNat y).map f⟩)
    (hcs : (S.x v).cells = some cs0) (hce : AV.le.leL cs0 cs) (hm : llen cs = m) (h1 : allOne cs = true) (hp : puL cs = true) (hl : lset (f y) off cs = some (f y'))
    (h : V c fn K (.ops l :: k) ((⟨S.tm, S.bs, oput S.ss j (some ⟨T, n, (l'.set z.toNat y').map f⟩)⟩ : St).put d .un)) : V c fn K (.ops (⟨d, g, .store m x v⟩ :: l) :: k) S :=
  V_storeO cs f hv hg hx hj hcs hce hm h1 hp hl (by rw [List.set_set]; exact h)
section
variable {all : Array Oper} {ops : List EOp} {af : List (List Nat)} {Φ : St → Prop} {m : Nat} {ld : List Bool}
theorem GO_idxOM (hall : all.toList.mapM (cOp c.P all) = some ops) {i : Nat} {α : Type} {l' : List α} {z : Int} {v : α} {T n j : Nat} {x y : X} (f : α → List AV) (hv : at_ l' z = some v) (ho : (eget ops i).o = .idx n x y) (hg : gm S (eget ops i).g) (hx : S.x x = .osl j) (hi : S.x y = .iv z) (hj : oget S.ss j = some ⟨T, n, l'.map f⟩)
    (h : G c all ops af Φ m (bset ld i) (S.put (eget ops i).d (.oel j (z.toNat * n) 0))) : GO c all ops af Φ m ld S i := by
  obtain ⟨h0, hr⟩ := at_some hv
  have := (List.getElem?_eq_some_iff.1 hr).1
  exact GO_sem hall hg (by rw [ho]; exact sem_idxO hx hi hj rfl h0 (by simp; omega)) rfl (keeps_refl _ _) h
theorem GO_loadO (hall : all.toList.mapM (cOp c.P all) = some ops) {i : Nat} {α : Type} {l' : List α} {z : Int} {y : α} {j T n off : Nat} {x : X} {v : AV} (f : α → List AV) (hv : at_ l' z = some y) (ho : (eget ops i).o = .load x) (hg : gm S (eget ops i).g) (hx : S.x x = .oel j (z.toNat * n) off) (hj : oget S.ss j = some ⟨T, n, l'.map f⟩)
    (hl : lsub (f y) off 1 = some [v]) (h : G c all ops af Φ m (bset ld i) (S.put (eget ops i).d v)) : GO c all ops af Φ m ld S i :=
  GO_sem hall hg (by rw [ho]; exact sem_loadO hx hj rfl (row_map (at_some hv).2) hl) rfl (keeps_refl _ _) h
theorem GO_loadAO (hall : all.toList.mapM (cOp c.P all) = some ops) {i : Nat} {α : Type} {l' : List α} {z : Int} {y : α} {j T n off q : Nat} {x : X} {r : List AV} (f : α → List AV) (hv : at_ l' z = some y) (ho : (eget ops i).o = .loadA q x) (hg : gm S (eget ops i).g) (hx : S.x x = .oel j (z.toNat * n) off) (hj : oget S.ss j = some ⟨T, n, l'.map f⟩)
    (hl : lsub (f y) off q = some r) (h : G c all ops af Φ m (bset ld i) (S.put (eget ops i).d (.agg r))) : GO c all ops af Φ m ld S i :=
  GO_sem hall hg (by rw [ho]; exact sem_loadAO hx hj rfl (row_map (at_some hv).2) hl) rfl (keeps_refl _ _) h
theorem GO_storeO (hall : all.toList.mapM (cOp c.P all) = some ops) {i : Nat} {α : Type} {l' : List α} {z : Int} {y y' : α} {j T n off q : Nat} {x v : X} {cs0 : List AV} (cs : List AV) (f : α → List AV) (hv : at_ l' z = some y) (ho : (eget ops i).o = .store q x v) (hg : gm S (eget ops i).g) (hx : S.x x = .oel j (z.toNat * n) off) (hj : oget S.ss j = some ⟨T, n, l'.map f⟩)
    (hcs : (S.x v).cells = some cs0) (hce : AV.le.leL cs0 cs) (hm : llen cs = q) (h1 : allOne cs = true) (hp : puL cs = true) (hl : lset (f y) off cs = some (f y'))
    (h : G c all ops af Φ m (bset ld i) ((⟨S.tm, S.bs, oput S.ss j (some ⟨T, n, (l'.set z.toNat y').map f⟩)⟩ : St).put (eget ops i).d .un)) : GO c all ops af Φ m ld S i := by
  refine GO_sem (S1 := ⟨S.tm, S.bs, oput S.ss j (some ⟨T, n, (l'.set z.toNat y').map f⟩)⟩) hall hg ?_ rfl (by rw [ho]; exact fun _ _ _ _ h _ _ => h) h
  rw [ho, List.map_set]
  exact sem_storeO hx hj rfl (row_map (at_some hv).2) hcs hce hm h1 hp hl
theorem GO_storeOS (hall : all.toList.mapM (cOp c.P all) = some ops) {i : Nat} {α : Type} {l' : List α} {z : Int} {y y' : α} {j T n off q : Nat} {x v : X} {cs0 : List AV} (cs : List AV) (f : α → List AV) (hv : at_ (l'.set z.toNat y) z = some y) (ho : (eget ops i).o = .store q x v) (hg : gm S (eget ops i).g) (hx : S.x x = .oel j (z.toNat * n) off) (hj : oget S.ss j = some ⟨T, n, (l'.set z.toNat y).map f⟩)
    (hcs : (S.x v).cells = some cs0) (hce : AV.le.leL cs0 cs) (hm : llen cs = q) (h1 : allOne cs = true) (hp : puL cs = true) (hl : lset (f y) off cs = some (f y'))
    (h : G c all ops af Φ m (bset ld i) ((⟨S.tm, S.bs, oput S.ss j (some ⟨T, n, (l'.set z.toNat y').map f⟩)⟩ : St).put (eget ops i).d .un)) : GO c all ops af Φ m ld S i :=
  GO_storeO hall cs f hv ho hg hx hj hcs hce hm h1 hp hl (by rw [List.set_set]; exact h)
theorem GO_callp {α β : Type} (hall : all.toList.mapM (cOp c.P all) = some ops) {i f : Nat} {o : X} {xs : List X} {caps : List AV} {ar : α → List AV} {p : α → Option β} {rs : β → AV} (hg : gm S (eget ops i).g) (hoo : (eget ops i).o = .callv o xs) (ho : S.x o = .clo f caps) (hc : CloOK c.P f caps ar p rs) {x : α} {v : β} (hv : p x = some v)
    (ha : AV.le.leL (mapX S xs) (ar x)) (hp : puL (ar x) = true) (h : G c all ops af Φ m (bset ld i) (S.put (eget ops i).d (rs v))) : GO c all ops af Φ m ld S i := by
  have key : ∀ {a b c : List AV}, AV.le.leL a b → AV.le.leL (a ++ c) (b ++ c) := by
    intro a
    induction a with
    | nil => intro b c h; cases b with
      | nil => exact leL_refl c
      | cons _ _ => simp [AV.le.leL] at h
    | cons y a ih => intro b c h; cases b with
      | nil => simp [AV.le.leL] at h
      | cons z b => exact ⟨h.1, ih h.2⟩
  have kp : ∀ {a : List AV}, puL a = true → puL (a ++ caps) = true := by
    intro a
    induction a with
    | nil => intro _; exact hc.pu
    | cons y a ih => intro h; simp only [puL, andb_iff, List.cons_append] at h ⊢; exact ⟨h.1, ih h.2⟩
  exact GO_callv hall hoo hg ho (hc.h x v hv) hc.b (key ha) (kp hp) h
end
end
end NX
end Go.Proofs.Ytadebhbiglmodaa
/-
  From what a machine computes to what a row says: arguments as data, and what is left of them. No statement of the seat is proved here.
-/
namespace Go.Proofs.Ytadebhbiglmodaa
namespace NX
open Go Go.RowKit Go.ChangeShapes Go.WideShapes

/-- What reads as data of a type is told by a row. -/
def Opn (P : Program) (t : TypeId) {α : Type} (row : α → List AV) : Prop :=
  ∀ {H : Type} (enc : TypeId × Value → H) (w : World) (base : Nat) (sp : Nat → Bool) (held : Bool) (fuel : Nat) (cs : List Value) (x : DataW H × List MemPlace),
    DataW.trod enc P w base sp held fuel t cs = some x → ∃ v : α, AV.isL (pureM fun k => w.heap[k]?) (row v) cs
theorem opn_int {P : Program} {t : TypeId} (ht : P.underlying t = some (.int .i64)) : Opn P t intRow := by
  intro H enc w base sp held fuel cs x h
  obtain ⟨n, rfl, _, _⟩ := DataW.trod_int ht h
  exact ⟨n, _, _, rfl, rfl, rfl⟩
theorem opn_bool {P : Program} {t : TypeId} (ht : P.underlying t = some .bool) : Opn P t boolRow := by
  intro H enc w base sp held fuel cs x h
  obtain ⟨n, rfl, _⟩ := DataW.trod_bool ht h
  exact ⟨n, _, _, rfl, rfl, rfl⟩
theorem opn_string {P : Program} {t : TypeId} (ht : P.underlying t = some .string) : Opn P t strRow := by
  intro H enc w base sp held fuel cs x h
  obtain ⟨n, rfl, _⟩ := DataW.trod_string ht h
  exact ⟨n, _, _, rfl, rfl, rfl⟩
theorem cells?_get {w : World} {base : Nat} {a : Addr} {n : Nat} {l : List Value} (h : w.cells? base a n = some l) : l.length = n ∧ ∀ i v, l[i]? = some v → w.cell? (a.add i) = some v := by
  unfold World.cells? at h
  split at h
  · obtain ⟨h1, h2⟩ := mapM_get h
    refine ⟨by simpa using h1, fun i v hv => ?_⟩
    have hlt : i < n := by have := (List.getElem?_eq_some_iff.1 hv).1; simp at h1; omega
    obtain ⟨y, hy1, hy2⟩ := h2 i i (by simp [hlt])
    rw [hv] at hy1
    simp at hy1; subst hy1
    exact hy2
  · simp at h
theorem cell?_none {w : World} {a : Addr} {v : Value} (h : w.cell? a = some v) : a.spot = none ∧ ∃ cs T fr, w.heap[a.block]? = some (.cells cs T fr) ∧ cs[a.off]? = some v := by
  unfold World.cell? at h
  split at h
  · rename_i cs T fr hc
    split at h
    · simp at h
    · rename_i hs
      exact ⟨by cases hsp : a.spot <;> simp_all, cs, T, fr, hc, h⟩
  · simp at h
theorem isL_one {M : Mem} {l : List AV} {vs : List Value} (h : AV.isL M l vs) (hp : allOne l = true) (ho : puL l = true) : ∀ v ∈ vs, v.oneCell' = true := by
  induction l generalizing vs with
  | nil => simp [AV.isL] at h; subst h; simp
  | cons x l ih =>
    obtain ⟨v, r, rfl, h1, h2⟩ := h
    simp only [allOne, andb_iff] at hp
    simp only [puL, andb_iff] at ho
    intro u hu
    rcases List.mem_cons.1 hu with rfl | hu
    · exact one_is h1 hp.1 (fun j e => by subst e; simp [AV.pu] at ho)
    · exact ih h2 hp.2 ho.2 u hu
theorem add_add (a : Addr) (i k : Nat) (ha : a.spot = none) : (a.add i).add k = ⟨a.block, a.off + i + k, none⟩ := by
  obtain ⟨b, o, sp⟩ := a
  dsimp only at ha
  subst ha
  simp [Addr.add]
  split <;> split <;> simp_all [Nat.add_assoc]
theorem opn_slice {P : Program} {t e : TypeId} {n : Nat} {α : Type} {row : α → List AV} (ht : P.underlying t = some (.slice e)) (hn : P.cellsOf e = n) (hpos : 0 < n) (hrow : ∀ v, (row v).length = n ∧ allOne (row v) = true ∧ puL (row v) = true) (he : Opn P e row) : Opn P t (slRow n row) := by
  intro H enc w base sp held fuel cs x h
  rcases DataW.trod_slice ht h with ⟨rfl, _⟩ | ⟨a, len, cap, elems, rest, m, _, rfl, _, hb, hlc, hcm, hel, hget, _, _⟩
  · exact ⟨[], _, _, rfl, ⟨none, 0, rfl, ⟨Nat.le_refl _, fun _ => rfl⟩, fun hne => absurd rfl hne⟩, rfl⟩
  · rw [hn] at hget
    have each : ∀ i, i < len → ∃ v : α, ∃ l, w.cells? base (a.add (i * n)) n = some l ∧ AV.isL (pureM fun k => w.heap[k]?) (row v) l := by
      intro i hi
      have hg := hget i hi
      have hsome : ∃ y, elems[i]? = some y := ⟨_, List.getElem?_eq_getElem (by omega)⟩
      obtain ⟨y, hy⟩ := hsome
      rw [hy, Option.bind_eq_some_iff] at hg
      obtain ⟨l, hl, hd⟩ := hg
      obtain ⟨v, hv⟩ := he enc w base sp held m l y hd
      exact ⟨v, l, hl, hv⟩
    have build : ∀ k, k ≤ len → ∃ (vs : List α) (vss : List (List Value)), vs.length = k ∧ AV.isLL (pureM fun k => w.heap[k]?) n (vs.map row) vss ∧ (∀ v ∈ vss.flatten, v.oneCell' = true) ∧
        ∀ j u, vss.flatten[j]? = some u → ∃ i q, i < k ∧ q < n ∧ j = i * n + q ∧ w.cell? ((a.add (i * n)).add q) = some u := by
      intro k
      induction k with
      | zero => intro _; exact ⟨[], [], rfl, rfl, by simp, by simp⟩
      | succ k ih =>
        intro hk
        obtain ⟨vs, vss, h1, h2, h3, h4⟩ := ih (by omega)
        obtain ⟨v, l, hl, hv⟩ := each k (by omega)
        obtain ⟨hl1, hl2⟩ := cells?_get hl
        refine ⟨vs ++ [v], vss ++ [l], by simp [h1], ?_, ?_, ?_⟩
        · rw [List.map_append]
          exact isLL_append h2 ⟨l, [], rfl, hl1, hv, rfl⟩
        · intro u hu
          rw [List.flatten_append, List.mem_append] at hu
          rcases hu with hu | hu
          · exact h3 u hu
          · exact isL_one hv (hrow v).2.1 (hrow v).2.2 u (by simpa using hu)
        · intro j u hj
          have hfl : vss.flatten.length = k * n := by have := isLL_flat h2; simpa [h1] using this
          rw [List.flatten_append] at hj
          by_cases hjl : j < vss.flatten.length
          · rw [List.getElem?_append_left hjl] at hj
            obtain ⟨i, q, g1, g2, g3, g4⟩ := h4 j u hj
            exact ⟨i, q, by omega, g2, g3, g4⟩
          · rw [List.getElem?_append_right (by omega), hfl] at hj
            simp only [List.flatten_cons, List.flatten_nil, List.append_nil] at hj
            have hq := (List.getElem?_eq_some_iff.1 hj).1
            exact ⟨k, j - k * n, by omega, by omega, by omega, hl2 _ _ hj⟩
    obtain ⟨vs, vss, h1, h2, h3, h4⟩ := build len (Nat.le_refl _)
    refine ⟨vs, _, [], rfl, ⟨some a, cap, by simp [h1], ⟨by simpa [h1] using hlc, fun h => by simp at h⟩, fun hne => ⟨a, vss, rfl, h2, ?_⟩⟩, rfl⟩
    have hlen : 0 < len := by
      rcases Nat.eq_zero_or_pos len with h0 | h0
      · exfalso; apply hne; rw [List.map_eq_nil_iff]; exact List.length_eq_zero_iff.1 (by omega)
      · exact h0
    have hfl : vss.flatten.length = len * n := by have := isLL_flat h2; simpa [h1] using this
    have hpos2 : 0 < len * n := Nat.mul_pos hlen hpos
    obtain ⟨u0, hu0⟩ : ∃ u, vss.flatten[0]? = some u := ⟨_, List.getElem?_eq_getElem (by omega)⟩
    obtain ⟨i0, q0, _, _, e0, g0⟩ := h4 0 u0 hu0
    have hi0 : i0 * n = 0 := by omega
    have hq0 : q0 = 0 := by omega
    rw [hi0, hq0] at g0
    have hsp : a.spot = none := (cell?_none (a := a) (by simpa [Addr.add] using g0)).1
    obtain ⟨_, cs0, T0, fr0, hblk, _⟩ := cell?_none (a := a) (by simpa [Addr.add] using g0)
    refine ⟨hsp, h3, cs0, T0, fr0, hblk, fun j u hj => ?_⟩
    obtain ⟨i, q, g1, g2, g3, g4⟩ := h4 j u hj
    rw [add_add a _ _ hsp] at g4
    obtain ⟨_, cs1, T1, fr1, hb1, hc1⟩ := cell?_none g4
    dsimp only at hb1 hc1
    rw [hblk] at hb1
    simp only [Option.some.injEq, Obj.cells.injEq] at hb1
    obtain ⟨rfl, _, _⟩ := hb1
    rw [g3, ← Nat.add_assoc]; exact hc1
theorem take_drop_append {α : Type} (cs : List α) (a b : Nat) : (cs.drop a).take b ++ cs.drop (a + b) = cs.drop a := by
  rw [← List.drop_drop]; exact List.take_append_drop b (cs.drop a)
/-- An argument's value. -/
theorem arg_agg {P : Program} {t : TypeId} {α : Type} {row : α → List AV} (ho : Opn P t row) {fs : Array Field} (ht : P.underlying t = some (.struct fs)) {H : Type} {enc : TypeId × Value → H} {w : World} {b0 : Nat} {r : Reach} {base : Nat} {sp : Nat → Bool} {held : Bool} {v : Value} {d : DataW H} {ps : List MemPlace}
    (hv : Value.okWide P w r b0 t v) (hd : DataW.Trod enc P w base sp held t v d ps) : ∃ x : α, AV.is (pureM fun k => w.heap[k]?) (.agg (row x)) v := by
  obtain ⟨fuel, hf⟩ := hd
  obtain ⟨x, hx⟩ := ho enc w base sp held fuel _ _ hf
  unfold Value.okWide at hv
  rw [ht] at hv
  obtain ⟨cs, rfl, _, _⟩ := hv
  exact ⟨x, cs.toList, by simp, hx⟩
theorem arg_int {P : Program} {t : TypeId} (ht : P.underlying t = some (.int .i64)) {H : Type} {enc : TypeId × Value → H} {w : World} {b0 : Nat} {r : Reach} {base : Nat} {sp : Nat → Bool} {held : Bool} {v : Value} {d : DataW H} {ps : List MemPlace}
    (hv : Value.okWide P w r b0 t v) (hd : DataW.Trod enc P w base sp held t v d ps) : ∃ x : Int, AV.is (pureM fun k => w.heap[k]?) (.iv x) v := by
  obtain ⟨n, rfl, _⟩ := open_int ht hv hd
  exact ⟨n, rfl⟩
theorem arg_slice {P : Program} {t e : TypeId} {n : Nat} {α : Type} {row : α → List AV} (ho : Opn P t (slRow n row)) (ht : P.underlying t = some (.slice e)) {H : Type} {enc : TypeId × Value → H} {w : World} {b0 : Nat} {r : Reach} {base : Nat} {sp : Nat → Bool} {held : Bool} {v : Value} {d : DataW H} {ps : List MemPlace}
    (hv : Value.okWide P w r b0 t v) (hd : DataW.Trod enc P w base sp held t v d ps) : ∃ x : List α, AV.is (pureM fun k => w.heap[k]?) (.sl n (x.map row)) v := by
  obtain ⟨fuel, hf⟩ := hd
  obtain ⟨x, hx⟩ := ho enc w base sp held fuel _ _ hf
  obtain ⟨a0, len, cap, rfl⟩ := okWide_slice ht hv
  obtain ⟨u, q, h1, h2, _⟩ := hx
  simp [Value.cells] at h1
  exact ⟨x, by rw [h1.1]; exact h2⟩
theorem trodAll_below {P : Program} {H : Type} {enc : TypeId × Value → H} (hl : laidOutB P = true) {W W' : World} (hB : Below W.heap.size W W') : ∀ {ts : List TypeId} {vs : List Value} {ds : List (DataW H)} {ps : List MemPlace},
    (ts.all fun t => P.readableRec t && decide (t < P.types.size)) = true → DataW.TrodAll enc P W 0 (fun _ => true) true ts vs ds ps → (∀ x ∈ ps, x.block < W.heap.size) →
    DataW.TrodAll enc P W' 0 (fun b => decide (b < W.heap.size)) true ts vs ds ps
  | [], [], [], ps, _, h, _ => h
  | t :: ts, v :: vs, d :: ds, ps, hr, ⟨p, q, h1, h2, e⟩, hlt => by
    simp only [List.all_cons, Bool.and_eq_true, decide_eq_true_eq] at hr
    subst e
    exact ⟨p, q, Below.trod hl hr.1.1 hr.1.2 h1 hB (fun x hx => hlt x (List.mem_append_left _ hx)), trodAll_below hl hB (by simpa using hr.2) h2 (fun x hx => hlt x (List.mem_append_right _ hx)), rfl⟩
  | [], _ :: _, _, _, _, h, _ => by simp [DataW.TrodAll] at h
  | [], [], _ :: _, _, _, h, _ => by simp [DataW.TrodAll] at h
  | _ :: _, [], _, _, _, h, _ => by simp [DataW.TrodAll] at h
  | _ :: _, _ :: _, [], _, _, h, _ => by simp [DataW.TrodAll] at h
theorem trodAll_len {P : Program} {H : Type} {enc : TypeId × Value → H} {w : World} {b : Nat} {sp : Nat → Bool} {held : Bool} : ∀ {ts : List TypeId} {vs : List Value} {ds : List (DataW H)} {ps : List MemPlace}, DataW.TrodAll enc P w b sp held ts vs ds ps → ds.length = ts.length ∧ vs.length = ts.length
  | [], [], [], _, _ => ⟨rfl, rfl⟩
  | _ :: _, _ :: _, _ :: _, _, ⟨_, _, _, h, _⟩ => by have := trodAll_len h; simp [this]
  | [], _ :: _, _, _, h => by simp [DataW.TrodAll] at h
  | [], [], _ :: _, _, h => by simp [DataW.TrodAll] at h
  | _ :: _, [], _, _, h => by simp [DataW.TrodAll] at h
  | _ :: _, _ :: _, [], _, h => by simp [DataW.TrodAll] at h
/-- What a law's row asks behind the call. -/
theorem law_post {P : Program} {fn : Func} {s : ChangeSpec} (hl : laidOutB P = true) (hr : (fn.params.toList.all fun t => P.readableRec t && decide (t < P.types.size)) = true) (hv : s.vars = []) {tb : TypeId} (hres : fn.resultTypes = #[tb]) (hb : P.underlying tb = some .bool)
    {H : Type} {enc : TypeId × Value → H} {W W' : World} {args : Array Value} {ds gs : List (DataW H)} {before : List MemPlace}
    (hs : ds.length = fn.params.size → s.fn H ds = { results := [.lit (.bool true)], args := ds })
    (hW : DataW.Whole enc P fn.params.toList s.vars false W args.toList ds gs before) (hB : Below W.heap.size W W') : s.post enc P fn false true false false W args (.bool true) W' := by
  have hW' := hW
  obtain ⟨p, q, hA, hV, rfl, hfz, hnd⟩ := hW
  rw [hv] at hV
  obtain ⟨rfl, rfl⟩ := trodVars_none hV
  have hlen := (trodAll_len hA).1
  have e1 : s.fn H (ds ++ []) = { results := [.lit (.bool true)], args := ds } := by rw [List.append_nil]; exact hs (by simpa using hlen)
  refine ⟨ds, [], p ++ [], [], p, [], hW', ?_, ?_, ?_, hB.frame _, fun h => by cases h⟩
  · rw [e1, hres]; exact trodAll_mk1 (shut_bool hb _)
  · rw [e1]; exact trodAll_below hl hB hr hA (fun x hx => hW'.lt x (List.mem_append_left _ hx))
  · rw [e1, hv]; rfl
end NX
end Go.Proofs.Ytadebhbiglmodaa
/-
  Plain laws: loops of models over lists and ranges. No statement of the seat is proved here.
-/
namespace Go.Proofs.Ytadebhbiglmodaa
namespace NX
open Go
@[simp] theorem ifb_true {α : Type} (a b : Option α) : ifb true a b = a := rfl
@[simp] theorem ifb_false {α : Type} (a b : Option α) : ifb false a b = b := rfl
theorem ifb_not {α : Type} (e : Bool) (a b : Option α) : ifb (!e) a b = ifb e b a := by cases e <;> rfl
theorem wr_id {n : Int} (h1 : -9223372036854775808 ≤ n) (h2 : n ≤ 9223372036854775807) : wr n = n := IntWalk.i64_in n ⟨h1, h2⟩
theorem at_get {α : Type} {l : List α} {k : Nat} {x : α} (h : l[k]? = some x) : at_ l (k : Int) = some x := by
  unfold at_; rw [if_pos (Int.natCast_nonneg k)]; simpa using h
theorem at_lt {α : Type} {l : List α} {i : Int} (h0 : 0 ≤ i) (h : i < l.length) : ∃ x, at_ l i = some x ∧ l[i.toNat]? = some x := by
  have hlt : i.toNat < l.length := by omega
  exact ⟨l[i.toNat], by unfold at_; rw [if_pos h0, List.getElem?_eq_getElem hlt], List.getElem?_eq_getElem hlt⟩
theorem app_ok {α : Type} {b : Nat} (l m : List α) (hb : b ≤ 1000) (h : l.length + m.length ≤ 100000000) : app_ b l m = some (l ++ m) := by
  unfold app_
  rw [if_pos]
  exact ⟨by
    have h1 : (l.length + m.length) * b ≤ 100000000 * 1000 := Nat.mul_le_mul h hb
    omega, by omega⟩
theorem lt_len {α : Type} {f : α → List AV} {l : List α} {k : Nat} {x : α} (h : l[k]? = some x) : decide ((k : Int) < ln f l) = true := by
  have := (List.getElem?_eq_some_iff.1 h).1
  rw [ln_eq]; simp; omega
theorem nlt_len {α : Type} {f : α → List AV} {l : List α} : decide ((l.length : Int) < ln f l) = false := by rw [ln_eq]; simp
theorem wr_succ {k : Nat} (h : k ≤ 4000000000000000000) : wr ((k : Int) + 1) = ((k + 1 : Nat) : Int) := wr_id (by omega) (by omega)
theorem wr_succ' {α : Type} {l : List α} {k : Nat} {x : α} (h : l[k]? = some x) (hl : l.length ≤ 4000000000000000000) : wr ((k : Int) + 1) = ((k + 1 : Nat) : Int) := by
  have := (List.getElem?_eq_some_iff.1 h).1
  exact wr_succ (by omega)
/-- A range's loop: so many rounds from 'k' on. -/
def forR {σ β : Type} (f : Nat → σ → Option (σ ⊕ β)) (fin : σ → Option β) : Nat → Nat → σ → Option β
  | 0, _, s => fin s
  | m + 1, k, s => match f k s with
    | none => none
    | some (.inl s') => forR f fin m (k + 1) s'
    | some (.inr r) => some r
/-- A loop with a counter. -/
theorem loop_range {σ β τ : Type} (body : τ → Option (τ ⊕ β)) (mk : Int → σ → τ) (f : Nat → σ → Option (σ ⊕ β)) (fin : σ → Option β) (n : Nat) (hn : n ≤ 4000000000000000000)
    (hb : ∀ (k : Nat) s, k < n → body (mk k s) = (f k s).map (fun | .inl s' => .inl (mk (k + 1 : Nat) s') | .inr r => .inr r)) (he : ∀ s, body (mk n s) = (fin s).map .inr) :
    ∀ (m k : Nat) (s : σ), m + k = n → loop body (mk k s) = forR f fin m k s
  | 0, k, s, h => by
    have : k = n := by omega
    subst this
    rw [loop_eq, he]
    cases hf : fin s <;> simp [forR, hf]
  | m + 1, k, s, h => by
    rw [loop_eq, hb k s (by omega)]
    simp only [forR]
    cases hf : f k s with
    | none => rfl
    | some y =>
      cases y with
      | inl s' => exact loop_range body mk f fin n hn hb he m (k + 1) s' (by omega)
      | inr r => rfl
/-- .. over a list. -/
def forL {α σ β : Type} (f : α → σ → Option (σ ⊕ β)) (fin : σ → Option β) : List α → σ → Option β
  | [], s => fin s
  | x :: l, s => match f x s with
    | none => none
    | some (.inl s') => forL f fin l s'
    | some (.inr r) => some r
theorem forR_forL {α σ β : Type} (f : α → σ → Option (σ ⊕ β)) (fin : σ → Option β) (l : List α) : ∀ (r : List α) (k : Nat) (s : σ), l.drop k = r → forR (fun k s => (l[k]?).bind fun x => f x s) fin r.length k s = forL f fin r s
  | [], k, s, _ => rfl
  | x :: r, k, s, h => by
    have hx : l[k]? = some x := by
      have := congrArg (·[0]?) h
      simpa using this
    have hr : l.drop (k + 1) = r := by
      rw [← List.drop_drop, h]; rfl
    simp only [List.length_cons, forR, forL, hx, Option.bind_some]
    cases hf : f x s with
    | none => rfl
    | some y =>
      cases y with
      | inl s' => exact forR_forL f fin l r (k + 1) s' hr
      | inr r => rfl
theorem loop_forL {α σ β τ : Type} (l : List α) (body : τ → Option (τ ⊕ β)) (mk : Int → σ → τ) (f : α → σ → Option (σ ⊕ β)) (fin : σ → Option β) (hl : l.length ≤ 4000000000000000000)
    (hb : ∀ (k : Nat) x s, l[k]? = some x → body (mk k s) = (f x s).map (fun | .inl s' => .inl (mk (k + 1 : Nat) s') | .inr r => .inr r)) (he : ∀ s, body (mk l.length s) = (fin s).map .inr) (s : σ) :
    loop body (mk 0 s) = forL f fin l s := by
  have := loop_range body mk (fun k s => (l[k]?).bind fun x => f x s) fin l.length hl (fun k s hk => by
    have hx : l[k]? = some l[k] := List.getElem?_eq_getElem hk
    rw [hx, Option.bind_some]; exact hb k _ s hx) he l.length 0 s (by omega)
  rw [show ((0 : Nat) : Int) = 0 from rfl] at this
  rw [this]
  exact forR_forL f fin l l 0 s rfl
/-- A search: the first that says something. -/
theorem forL_find {α β : Type} (f : α → Option (Unit ⊕ β)) (q : α → Bool) (g : α → β) (fin : Option β) (l : List α) (hf : ∀ x ∈ l, f x = if q x then some (.inr (g x)) else some (.inl ())) :
    forL (fun x _ => f x) (fun _ => fin) l () = match l.find? q with | some x => some (g x) | none => fin := by
  induction l with
  | nil => rfl
  | cons x l ih =>
    simp only [forL, hf x (by simp), List.find?_cons]
    cases hq : q x with
    | true => simp
    | false =>
      simp only [Bool.false_eq_true, if_false]
      exact ih fun y hy => hf y (List.mem_cons_of_mem _ hy)
/-- A fold: no way out. -/
theorem forL_fold {α σ β : Type} (f : α → σ → Option (σ ⊕ β)) (g : σ → α → σ) (fin : σ → Option β) (l : List α) (s : σ) (hf : ∀ x ∈ l, ∀ s, f x s = some (.inl (g s x))) : forL f fin l s = fin (l.foldl g s) := by
  induction l generalizing s with
  | nil => rfl
  | cons x l ih =>
    simp only [forL, hf x (by simp), List.foldl_cons]
    exact ih _ fun y hy => hf y (List.mem_cons_of_mem _ hy)
/-- A place told, or -1. -/
def plc : Option Nat → Int
  | some i => i
  | none => -1
theorem plc_nonneg (o : Option Nat) : decide (0 ≤ plc o) = o.isSome := by cases o <;> simp [plc]
theorem plc_neg (o : Option Nat) : decide (plc o < 0) = o.isNone := by
  cases o with
  | none => rfl
  | some n => exact decide_eq_false (by show ¬ ((n : Int) < 0); omega)
/-- The search for a place. -/
theorem forR_place {α : Type} (l : List α) (q : α → Bool) : ∀ (r : List α) (k : Nat), l.drop k = r →
    forR (β := Int) (fun k (_ : Unit) => (l[k]?).bind fun x => if q x then some (.inr (k : Int)) else some (.inl ())) (fun _ => some (-1)) r.length k () = some (plc ((r.findIdx? q).map (· + k)))
  | [], k, _ => by simp [forR, plc]
  | x :: r, k, h => by
    have hx : l[k]? = some x := by have := congrArg (·[0]?) h; simpa using this
    have hr : l.drop (k + 1) = r := by rw [← List.drop_drop, h]; rfl
    simp only [List.length_cons, forR, hx, Option.bind_some, List.findIdx?_cons]
    cases hq : q x with
    | true => simp [plc]
    | false =>
      simp only [Bool.false_eq_true, if_false]
      rw [forR_place l q r (k + 1) hr]
      cases r.findIdx? q with
      | none => rfl
      | some n => simp only [Option.map_some, plc]; congr 2; omega
theorem loop_place {α : Type} (l : List α) (body : Int → Option (Int ⊕ Int)) (q : α → Bool) (hl : l.length ≤ 4000000000000000000)
    (hb : ∀ (k : Nat) x, l[k]? = some x → body k = some (if q x then .inr (k : Int) else .inl ((k + 1 : Nat) : Int))) (he : body l.length = some (.inr (-1))) : loop body 0 = some (plc (l.findIdx? q)) := by
  have := loop_range body (fun k (_ : Unit) => k) (fun k _ => (l[k]?).bind fun x => if q x then some (.inr (k : Int)) else some (.inl ())) (fun _ => some (-1)) l.length hl (fun k s hk => by
    have hx : l[k]? = some l[k] := List.getElem?_eq_getElem hk
    rw [hx, Option.bind_some, hb k _ hx]
    cases q l[k] <;> rfl) (fun _ => he) l.length 0 () (by omega)
  rw [show ((0 : Nat) : Int) = 0 from rfl] at this
  rw [this, forR_place l q l 0 rfl]
  simp
theorem findIdx_any {α : Type} (l : List α) (q : α → Bool) : (l.findIdx? q).isSome = l.any q := by rw [List.findIdx?_isSome]
/-- Does one say so? -/
theorem loop_any {α β : Type} (l : List α) (body : Int → Option (Int ⊕ β)) (q : α → Bool) (yes no : β) (hl : l.length ≤ 4000000000000000000)
    (hb : ∀ (k : Nat) x, l[k]? = some x → body k = some (if q x then .inr yes else .inl ((k + 1 : Nat) : Int))) (he : body l.length = some (.inr no)) : loop body 0 = some (if l.any q then yes else no) := by
  have := loop_forL l body (fun k (_ : Unit) => k) (fun x _ => if q x then some (.inr yes) else some (.inl ())) (fun _ => some no) hl (fun k x s hx => by
    rw [hb k x hx]
    cases q x <;> rfl) (fun _ => he) ()
  rw [this, forL_find (fun x => if q x then some (.inr yes) else some (.inl ())) q (fun _ => yes) (some no) l (fun x _ => rfl)]
  cases h : l.find? q with
  | none =>
    rw [List.find?_eq_none] at h
    have : l.any q = false := by rw [List.any_eq_false]; exact h
    simp [this]
  | some x =>
    have : l.any q = true := by rw [List.any_eq_true]; exact ⟨x, List.mem_of_find?_eq_some h, List.find?_some h⟩
    simp [this]
end NX
end Go.Proofs.Ytadebhbiglmodaa
/-
  The program's data. No statement of the seat is proved here.
-/
namespace Go.Proofs.Ytadebhbiglmodaa
namespace NX
open Go
structure Side where
  Peer : Int
  Epoch : Int
  State : Int
  Fork : Bool
  Dirty : Bool
  Token : Bool
  Bottle : Bool
  Ask : Bool
  deriving DecidableEq, Inhabited
def Side.row (x : Side) : List AV := [.iv x.Peer, .iv x.Epoch, .iv x.State, .bv x.Fork, .bv x.Dirty, .bv x.Token, .bv x.Bottle, .bv x.Ask]
attribute [go_sem] Side.row
structure Diner where
  ID : Int
  Phase : Int
  Sides : (List Side)
  deriving DecidableEq, Inhabited
def Diner.row (x : Diner) : List AV := [.iv x.ID, .iv x.Phase, .sl 8 (List.map Side.row x.Sides)]
attribute [go_sem] Diner.row
structure Msg where
  Kind : Int
  Epoch : Int
  Num : Int
  deriving DecidableEq, Inhabited
def Msg.row (x : Msg) : List AV := [.iv x.Kind, .iv x.Epoch, .iv x.Num]
attribute [go_sem] Msg.row
structure Mail where
  From : Int
  To : Int
  Msg : Msg
  deriving DecidableEq, Inhabited
def Mail.row (x : Mail) : List AV := [.iv x.From, .iv x.To, .iv x.Msg.Kind, .iv x.Msg.Epoch, .iv x.Msg.Num]
attribute [go_sem] Mail.row
structure Scene where
  Diners : (List Diner)
  Mail : (List Mail)
  deriving DecidableEq, Inhabited
def Scene.row (x : Scene) : List AV := [.sl 3 (List.map Diner.row x.Diners), .sl 5 (List.map Mail.row x.Mail)]
attribute [go_sem] Scene.row
structure Edge where
  A : Int
  B : Int
  deriving DecidableEq, Inhabited
def Edge.row (x : Edge) : List AV := [.iv x.A, .iv x.B]
attribute [go_sem] Edge.row
structure Graph where
  N : Int
  Edges : (List Edge)
  deriving DecidableEq, Inhabited
def Graph.row (x : Graph) : List AV := [.iv x.N, .sl 2 (List.map Edge.row x.Edges)]
attribute [go_sem] Graph.row
structure Arc where
  From : Int
  To : Int
  deriving DecidableEq, Inhabited
def Arc.row (x : Arc) : List AV := [.iv x.From, .iv x.To]
attribute [go_sem] Arc.row
structure narthexlaw14_Act where
  K : Int
  A : Int
  B : Int
  deriving DecidableEq, Inhabited
def narthexlaw14_Act.row (x : narthexlaw14_Act) : List AV := [.iv x.K, .iv x.A, .iv x.B]
attribute [go_sem] narthexlaw14_Act.row
end NX
end Go.Proofs.Ytadebhbiglmodaa
/-
  The function slices.IndexFunc[[]narthex/api.Edge,narthex/api.Edge]: its code compiled, a model, and that the code answers as the model. Written by a program of ours (lb.py). No statement of the seat is proved here.
-/
namespace Go.Proofs.Ytadebhbiglmodaa
namespace NX
open Go
set_option maxRecDepth 100000
set_option maxHeartbeats 4000000
def e108_L0 : EC := .seq (.reg [⟨(some 9), none, .bin .lss (.t 8) (.t 7)⟩]) (.seq (.ite (.t 9) (.skip) (.exit 0)) (.seq (.blk 1 (.seq (.reg [⟨(some 10), none, .mv (.t 8)⟩, ⟨(some 5), none, .mv (.t 10)⟩]) (.seq (.reg [⟨(some 11), none, .mv (.t 1)⟩, ⟨(some 12), none, .mv (.t 0)⟩, ⟨(some 13), none, .mv (.t 5)⟩, ⟨(some 14), none, .idx 2 (.t 12) (.t 13)⟩, ⟨(some 15), none, .loadA 2 (.t 14)⟩, ⟨(some 16), none, .callv (.t 11) [(.t 15)]⟩]) (.ite (.t 16) (.seq (.reg [⟨(some 17), none, .mv (.t 5)⟩, ⟨(some 4), none, .mv (.t 17)⟩]) (.ret)) (.skip))))) (.reg [⟨(some 18), none, .bin .add (.t 8) (.c (.iv 1))⟩, ⟨(some 8), none, .mv (.t 18)⟩])))
def e108 : EC := .seq (.reg [⟨(some 4), none, .mv (.c (.iv 0))⟩]) (.seq (.seq (.reg [⟨(some 6), none, .mv (.t 0)⟩, ⟨(some 7), none, .len (.t 6)⟩, ⟨(some 8), none, .mv (.c (.iv 0))⟩]) (.blk 0 (.loop e108_L0))) (.seq (.reg [⟨(some 4), none, .mv (.c (.iv (-1)))⟩]) (.ret)))
theorem ok108 : FnOK Try.prog 108 Try.f108 e108 [.t 4] 2 17 := ⟨by kernel_rfl, ⟨_, rfl, by kernel_rfl⟩, by kernel_rfl, by kernel_rfl⟩
/- slices.IndexFunc[[]narthex/api.Edge,narthex/api.Edge] -/
noncomputable def m_slices_IndexFunc_Edge_j1  : Unit → Option Int
| () =>
 some (-1)
noncomputable def m_slices_IndexFunc_Edge_l1 (x1 : (List Edge)) (p1 : (Edge → Option Bool)) : Int → Option (Int ⊕ Int)
| x5 =>
 ifb (decide (x5 < (ln Edge.row x1))) (
 (at_ x1 x5).bind fun x6 =>
 (p1 x6).bind fun x7 =>
 ifb x7 (
 Option.map Sum.inr (some x5)) (
 some (.inl (wr (x5 + 1))))) (
 Option.map Sum.inr (m_slices_IndexFunc_Edge_j1 ()))
noncomputable def m_slices_IndexFunc_Edge (x1 : (List Edge)) (p1 : (Edge → Option Bool)) : Option Int :=
 loop (m_slices_IndexFunc_Edge_l1 x1 p1) 0
theorem k_slices_IndexFunc_Edge (x1 : (List Edge)) (g1 : Nat) (caps1 : List AV) (p1 : (Edge → Option Bool)) (hc1 : CloOK Try.prog g1 caps1 (fun z => [.agg (Edge.row z)]) p1 (fun z => .bv z)) (r : Int) (h : m_slices_IndexFunc_Edge x1 p1 = some r) : FunP Try.prog 108 [.sl 2 (List.map Edge.row x1), .clo g1 caps1] (.iv r) := by
  refine FunP_intro ok108 rfl rfl fun w0 H0 => ?_
  rw [m_slices_IndexFunc_Edge] at h
  refine V_go 11 ?_; dsimp only [e108, e108_L0, go_sem, Nat.reduceBEq, Nat.reduceAdd]; refine ⟨by simp, ?_⟩; refine V_join (fun (_ : Unit) => (⟨(an 19 []), [], []⟩ : St)) m_slices_IndexFunc_Edge_j1 r ?_ fun J1 => ?_
  ·rintro ⟨⟩ h; rw [m_slices_IndexFunc_Edge_j1] at h; (try dsimp only); refine V_go 4 ?_; dsimp only [e108, e108_L0, go_sem, Nat.reduceBEq, Nat.reduceAdd]; refine ⟨by simp, ?_⟩; exact M_done (res := fun (r : Int) => .iv r) ok108 h
  ·refine V_go 1 ?_; dsimp only [e108, e108_L0, go_sem, Nat.reduceBEq, Nat.reduceAdd]; refine ⟨by simp, ?_⟩; refine M_loop h (fun (x5 : Int) => (⟨(.sl 2 (List.map Edge.row x1) :: .clo g1 caps1 :: an 5 (.iv (ln Edge.row x1) :: .iv x5 :: an 10 [])), [], []⟩ : St)) (by simp [go_sem]) (by intro x5; first | rfl | simp [go_sem, puL_ok _ hc1.pu]) ?_; rintro n1 x5 y1 h hin1 hout1; rw [m_slices_IndexFunc_Edge_l1] at h; (try dsimp only); refine V_go 5 ?_; dsimp only [e108, e108_L0, go_sem, Nat.reduceBEq, Nat.reduceAdd]; refine ⟨by simp, ?_⟩; refine M_ite h rfl (fun _ h => ?_) fun _ h => ?_
   ·refine V_go 13 ?_; dsimp only [e108, e108_L0, go_sem, Nat.reduceBEq, Nat.reduceAdd]; refine ⟨by simp, ?_⟩; obtain ⟨x6, ex6, h⟩ := Option.bind_eq_some_iff.1 h; refine V_idxM Edge.row ex6 trivial rfl rfl rfl ?_; refine V_go 1 ?_; dsimp only [e108, e108_L0, go_sem, Nat.reduceBEq, Nat.reduceAdd]; refine ⟨by simp, ?_⟩; obtain ⟨x7, ex7, h⟩ := Option.bind_eq_some_iff.1 h; refine V_callp trivial rfl hc1 (x := x6) ex7 (by first | exact leL_refl _ | simp [go_sem]) (by first | rfl | simp [go_sem, hc1.pu]) ?_; refine V_go 1 ?_; dsimp only [e108, e108_L0, go_sem, Nat.reduceBEq, Nat.reduceAdd]
    refine ⟨by simp, ?_⟩; refine M_ite h rfl (fun _ h => ?_) fun _ h => ?_
    ·refine V_go 5 ?_; dsimp only [e108, e108_L0, go_sem, Nat.reduceBEq, Nat.reduceAdd]; refine ⟨by simp, ?_⟩; exact M_done (res := fun (r : Int) => .iv r) ok108 (M_out h hout1)
    ·refine V_go 6 ?_; dsimp only [e108, e108_L0, go_sem, Nat.reduceBEq, Nat.reduceAdd]; refine ⟨by simp, ?_⟩; exact M_back h hin1 (hok := by first | rfl | simp [go_sem, puL_ok _ hc1.pu])
   ·refine V_go 1 ?_; dsimp only [e108, e108_L0, go_sem, Nat.reduceBEq, Nat.reduceAdd]; refine ⟨by simp, ?_⟩; exact M_to J1 (s := ()) (M_out h hout1) (hok := by first | rfl | simp [go_sem, puL_ok _ hc1.pu])
def f_slices_IndexFunc_Edge_j1 (_F : Nat)  : Unit → Option Int
| () =>
 some (-1)
theorem le_slices_IndexFunc_Edge_j1 {F : Nat} : ∀ s, ole (f_slices_IndexFunc_Edge_j1 F s) (m_slices_IndexFunc_Edge_j1 s) := by
  rintro ⟨⟩
  unfold f_slices_IndexFunc_Edge_j1 m_slices_IndexFunc_Edge_j1
  try dsimp only
  with_reducible repeat' first | exact ole_refl _ | assumption | intro _ | refine ole_ifb ?_ ?_ | refine ole_bind ?_ ?_ | refine ole_map ?_ | refine ole_loop ?_ | apply h_p1
def f_slices_IndexFunc_Edge_l1 (F : Nat) (x1 : (List Edge)) (p1 : (Edge → Option Bool)) : Int → Option (Int ⊕ Int)
| x5 =>
 ifb (decide (x5 < (ln Edge.row x1))) (
 (at_ x1 x5).bind fun x6 =>
 (p1 x6).bind fun x7 =>
 ifb x7 (
 Option.map Sum.inr (some x5)) (
 some (.inl (wr (x5 + 1))))) (
 Option.map Sum.inr (f_slices_IndexFunc_Edge_j1 F ()))
theorem le_slices_IndexFunc_Edge_l1 {F : Nat} {x1 : (List Edge)} {p1 q1 : (Edge → Option Bool)} (h_p1 : ∀ z, ole (p1 z) (q1 z)) : ∀ s, ole (f_slices_IndexFunc_Edge_l1 F x1 p1 s) (m_slices_IndexFunc_Edge_l1 x1 q1 s) := by
  intro x5
  unfold f_slices_IndexFunc_Edge_l1 m_slices_IndexFunc_Edge_l1
  try dsimp only
  with_reducible repeat' first | exact ole_refl _ | assumption | intro _ | refine ole_ifb ?_ ?_ | refine ole_bind ?_ ?_ | refine ole_map ?_ | refine ole_loop ?_ | apply le_slices_IndexFunc_Edge_j1 | apply h_p1
def f_slices_IndexFunc_Edge (F : Nat) (x1 : (List Edge)) (p1 : (Edge → Option Bool)) : Option Int :=
 loopF F (f_slices_IndexFunc_Edge_l1 F x1 p1) 0
theorem le_slices_IndexFunc_Edge {F : Nat} {x1 : (List Edge)} {p1 q1 : (Edge → Option Bool)} (h_p1 : ∀ z, ole (p1 z) (q1 z)) : ole (f_slices_IndexFunc_Edge F x1 p1) (m_slices_IndexFunc_Edge x1 q1) := by
  unfold f_slices_IndexFunc_Edge m_slices_IndexFunc_Edge
  with_reducible repeat' first | exact ole_refl _ | assumption | intro _ | refine ole_ifb ?_ ?_ | refine ole_bind ?_ ?_ | refine ole_map ?_ | refine ole_loop ?_ | apply le_slices_IndexFunc_Edge_j1 | apply le_slices_IndexFunc_Edge_l1 | apply h_p1
end NX
end Go.Proofs.Ytadebhbiglmodaa
/-
  The function slices.ContainsFunc[[]narthex/api.Edge,narthex/api.Edge]: its code compiled, a model, and that the code answers as the model. Written by a program of ours (lb.py). No statement of the seat is proved here.
-/
namespace Go.Proofs.Ytadebhbiglmodaa
namespace NX
open Go
set_option maxRecDepth 100000
set_option maxHeartbeats 4000000
def e80 : EC := .seq (.reg [⟨(some 4), none, .mv (.c .ff)⟩]) (.seq (.reg [⟨(some 5), none, .mv (.t 0)⟩, ⟨(some 6), none, .mv (.t 1)⟩, ⟨(some 7), none, .call 108 [(.t 5), (.t 6)]⟩, ⟨(some 8), none, .bin .geq (.t 7) (.c (.iv 0))⟩, ⟨(some 4), none, .mv (.t 8)⟩]) (.ret))
theorem ok80 : FnOK Try.prog 80 Try.f80 e80 [.t 4] 2 7 := ⟨by kernel_rfl, ⟨_, rfl, by kernel_rfl⟩, by kernel_rfl, by kernel_rfl⟩
/- slices.ContainsFunc[[]narthex/api.Edge,narthex/api.Edge] -/
noncomputable def m_slices_ContainsFunc_Edge (x1 : (List Edge)) (p1 : (Edge → Option Bool)) : Option Bool :=
 (m_slices_IndexFunc_Edge x1 p1).bind fun x2 =>
 some (decide (0 ≤ x2))
theorem k_slices_ContainsFunc_Edge (x1 : (List Edge)) (g1 : Nat) (caps1 : List AV) (p1 : (Edge → Option Bool)) (hc1 : CloOK Try.prog g1 caps1 (fun z => [.agg (Edge.row z)]) p1 (fun z => .bv z)) (r : Bool) (h : m_slices_ContainsFunc_Edge x1 p1 = some r) : FunP Try.prog 80 [.sl 2 (List.map Edge.row x1), .clo g1 caps1] (.bv r) := by
  refine FunP_intro ok80 rfl rfl fun w0 H0 => ?_
  rw [m_slices_ContainsFunc_Edge] at h
  refine V_go 8 ?_; dsimp only [e80, go_sem, Nat.reduceBEq, Nat.reduceAdd]; refine ⟨by simp, ?_⟩; obtain ⟨x2, ex2, h⟩ := Option.bind_eq_some_iff.1 h; refine V_call trivial (k_slices_IndexFunc_Edge x1 _ _ p1 hc1 _ ex2) (hp := (by first | rfl | simp [go_sem, hc1.pu])) (h := ?_); refine V_go 3 ?_; dsimp only [e80, go_sem, Nat.reduceBEq, Nat.reduceAdd]; refine ⟨by simp, ?_⟩; exact M_done (res := fun (r : Bool) => .bv r) ok80 h
def f_slices_ContainsFunc_Edge (F : Nat) (x1 : (List Edge)) (p1 : (Edge → Option Bool)) : Option Bool :=
 (f_slices_IndexFunc_Edge F x1 p1).bind fun x2 =>
 some (decide (0 ≤ x2))
theorem le_slices_ContainsFunc_Edge {F : Nat} {x1 : (List Edge)} {p1 q1 : (Edge → Option Bool)} (h_p1 : ∀ z, ole (p1 z) (q1 z)) : ole (f_slices_ContainsFunc_Edge F x1 p1) (m_slices_ContainsFunc_Edge x1 q1) := by
  unfold f_slices_ContainsFunc_Edge m_slices_ContainsFunc_Edge
  with_reducible repeat' first | exact ole_refl _ | assumption | intro _ | refine ole_ifb ?_ ?_ | refine ole_bind ?_ ?_ | refine ole_map ?_ | refine ole_loop ?_ | apply le_slices_IndexFunc_Edge | apply h_p1
end NX
end Go.Proofs.Ytadebhbiglmodaa
/-
  The function slices.IndexFunc[[]narthex/api.Side,narthex/api.Side]: its code compiled, a model, and that the code answers as the model. Written by a program of ours (lb.py). No statement of the seat is proved here.
-/
namespace Go.Proofs.Ytadebhbiglmodaa
namespace NX
open Go
set_option maxRecDepth 100000
set_option maxHeartbeats 4000000
def e55_L0 : EC := .seq (.reg [⟨(some 9), none, .bin .lss (.t 8) (.t 7)⟩]) (.seq (.ite (.t 9) (.skip) (.exit 0)) (.seq (.blk 1 (.seq (.reg [⟨(some 10), none, .mv (.t 8)⟩, ⟨(some 5), none, .mv (.t 10)⟩]) (.seq (.reg [⟨(some 11), none, .mv (.t 1)⟩, ⟨(some 12), none, .mv (.t 0)⟩, ⟨(some 13), none, .mv (.t 5)⟩, ⟨(some 14), none, .idx 8 (.t 12) (.t 13)⟩, ⟨(some 15), none, .loadA 8 (.t 14)⟩, ⟨(some 16), none, .callv (.t 11) [(.t 15)]⟩]) (.ite (.t 16) (.seq (.reg [⟨(some 17), none, .mv (.t 5)⟩, ⟨(some 4), none, .mv (.t 17)⟩]) (.ret)) (.skip))))) (.reg [⟨(some 18), none, .bin .add (.t 8) (.c (.iv 1))⟩, ⟨(some 8), none, .mv (.t 18)⟩])))
def e55 : EC := .seq (.reg [⟨(some 4), none, .mv (.c (.iv 0))⟩]) (.seq (.seq (.reg [⟨(some 6), none, .mv (.t 0)⟩, ⟨(some 7), none, .len (.t 6)⟩, ⟨(some 8), none, .mv (.c (.iv 0))⟩]) (.blk 0 (.loop e55_L0))) (.seq (.reg [⟨(some 4), none, .mv (.c (.iv (-1)))⟩]) (.ret)))
theorem ok55 : FnOK Try.prog 55 Try.f55 e55 [.t 4] 2 17 := ⟨by kernel_rfl, ⟨_, rfl, by kernel_rfl⟩, by kernel_rfl, by kernel_rfl⟩
/- slices.IndexFunc[[]narthex/api.Side,narthex/api.Side] -/
noncomputable def m_slices_IndexFunc_Side_j1  : Unit → Option Int
| () =>
 some (-1)
noncomputable def m_slices_IndexFunc_Side_l1 (x1 : (List Side)) (p1 : (Side → Option Bool)) : Int → Option (Int ⊕ Int)
| x5 =>
 ifb (decide (x5 < (ln Side.row x1))) (
 (at_ x1 x5).bind fun x6 =>
 (p1 x6).bind fun x7 =>
 ifb x7 (
 Option.map Sum.inr (some x5)) (
 some (.inl (wr (x5 + 1))))) (
 Option.map Sum.inr (m_slices_IndexFunc_Side_j1 ()))
noncomputable def m_slices_IndexFunc_Side (x1 : (List Side)) (p1 : (Side → Option Bool)) : Option Int :=
 loop (m_slices_IndexFunc_Side_l1 x1 p1) 0
theorem k_slices_IndexFunc_Side (x1 : (List Side)) (g1 : Nat) (caps1 : List AV) (p1 : (Side → Option Bool)) (hc1 : CloOK Try.prog g1 caps1 (fun z => [.agg (Side.row z)]) p1 (fun z => .bv z)) (r : Int) (h : m_slices_IndexFunc_Side x1 p1 = some r) : FunP Try.prog 55 [.sl 8 (List.map Side.row x1), .clo g1 caps1] (.iv r) := by
  refine FunP_intro ok55 rfl rfl fun w0 H0 => ?_
  rw [m_slices_IndexFunc_Side] at h
  refine V_go 11 ?_; dsimp only [e55, e55_L0, go_sem, Nat.reduceBEq, Nat.reduceAdd]; refine ⟨by simp, ?_⟩; refine V_join (fun (_ : Unit) => (⟨(an 19 []), [], []⟩ : St)) m_slices_IndexFunc_Side_j1 r ?_ fun J1 => ?_
  ·rintro ⟨⟩ h; rw [m_slices_IndexFunc_Side_j1] at h; (try dsimp only); refine V_go 4 ?_; dsimp only [e55, e55_L0, go_sem, Nat.reduceBEq, Nat.reduceAdd]; refine ⟨by simp, ?_⟩; exact M_done (res := fun (r : Int) => .iv r) ok55 h
  ·refine V_go 1 ?_; dsimp only [e55, e55_L0, go_sem, Nat.reduceBEq, Nat.reduceAdd]; refine ⟨by simp, ?_⟩; refine M_loop h (fun (x5 : Int) => (⟨(.sl 8 (List.map Side.row x1) :: .clo g1 caps1 :: an 5 (.iv (ln Side.row x1) :: .iv x5 :: an 10 [])), [], []⟩ : St)) (by simp [go_sem]) (by intro x5; first | rfl | simp [go_sem, puL_ok _ hc1.pu]) ?_; rintro n1 x5 y1 h hin1 hout1; rw [m_slices_IndexFunc_Side_l1] at h; (try dsimp only); refine V_go 5 ?_; dsimp only [e55, e55_L0, go_sem, Nat.reduceBEq, Nat.reduceAdd]; refine ⟨by simp, ?_⟩; refine M_ite h rfl (fun _ h => ?_) fun _ h => ?_
   ·refine V_go 13 ?_; dsimp only [e55, e55_L0, go_sem, Nat.reduceBEq, Nat.reduceAdd]; refine ⟨by simp, ?_⟩; obtain ⟨x6, ex6, h⟩ := Option.bind_eq_some_iff.1 h; refine V_idxM Side.row ex6 trivial rfl rfl rfl ?_; refine V_go 1 ?_; dsimp only [e55, e55_L0, go_sem, Nat.reduceBEq, Nat.reduceAdd]; refine ⟨by simp, ?_⟩; obtain ⟨x7, ex7, h⟩ := Option.bind_eq_some_iff.1 h; refine V_callp trivial rfl hc1 (x := x6) ex7 (by first | exact leL_refl _ | simp [go_sem]) (by first | rfl | simp [go_sem, hc1.pu]) ?_; refine V_go 1 ?_; dsimp only [e55, e55_L0, go_sem, Nat.reduceBEq, Nat.reduceAdd]
    refine ⟨by simp, ?_⟩; refine M_ite h rfl (fun _ h => ?_) fun _ h => ?_
    ·refine V_go 5 ?_; dsimp only [e55, e55_L0, go_sem, Nat.reduceBEq, Nat.reduceAdd]; refine ⟨by simp, ?_⟩; exact M_done (res := fun (r : Int) => .iv r) ok55 (M_out h hout1)
    ·refine V_go 6 ?_; dsimp only [e55, e55_L0, go_sem, Nat.reduceBEq, Nat.reduceAdd]; refine ⟨by simp, ?_⟩; exact M_back h hin1 (hok := by first | rfl | simp [go_sem, puL_ok _ hc1.pu])
   ·refine V_go 1 ?_; dsimp only [e55, e55_L0, go_sem, Nat.reduceBEq, Nat.reduceAdd]; refine ⟨by simp, ?_⟩; exact M_to J1 (s := ()) (M_out h hout1) (hok := by first | rfl | simp [go_sem, puL_ok _ hc1.pu])
def f_slices_IndexFunc_Side_j1 (_F : Nat)  : Unit → Option Int
| () =>
 some (-1)
theorem le_slices_IndexFunc_Side_j1 {F : Nat} : ∀ s, ole (f_slices_IndexFunc_Side_j1 F s) (m_slices_IndexFunc_Side_j1 s) := by
  rintro ⟨⟩
  unfold f_slices_IndexFunc_Side_j1 m_slices_IndexFunc_Side_j1
  try dsimp only
  with_reducible repeat' first | exact ole_refl _ | assumption | intro _ | refine ole_ifb ?_ ?_ | refine ole_bind ?_ ?_ | refine ole_map ?_ | refine ole_loop ?_ | apply h_p1
def f_slices_IndexFunc_Side_l1 (F : Nat) (x1 : (List Side)) (p1 : (Side → Option Bool)) : Int → Option (Int ⊕ Int)
| x5 =>
 ifb (decide (x5 < (ln Side.row x1))) (
 (at_ x1 x5).bind fun x6 =>
 (p1 x6).bind fun x7 =>
 ifb x7 (
 Option.map Sum.inr (some x5)) (
 some (.inl (wr (x5 + 1))))) (
 Option.map Sum.inr (f_slices_IndexFunc_Side_j1 F ()))
theorem le_slices_IndexFunc_Side_l1 {F : Nat} {x1 : (List Side)} {p1 q1 : (Side → Option Bool)} (h_p1 : ∀ z, ole (p1 z) (q1 z)) : ∀ s, ole (f_slices_IndexFunc_Side_l1 F x1 p1 s) (m_slices_IndexFunc_Side_l1 x1 q1 s) := by
  intro x5
  unfold f_slices_IndexFunc_Side_l1 m_slices_IndexFunc_Side_l1
  try dsimp only
  with_reducible repeat' first | exact ole_refl _ | assumption | intro _ | refine ole_ifb ?_ ?_ | refine ole_bind ?_ ?_ | refine ole_map ?_ | refine ole_loop ?_ | apply le_slices_IndexFunc_Side_j1 | apply h_p1
def f_slices_IndexFunc_Side (F : Nat) (x1 : (List Side)) (p1 : (Side → Option Bool)) : Option Int :=
 loopF F (f_slices_IndexFunc_Side_l1 F x1 p1) 0
theorem le_slices_IndexFunc_Side {F : Nat} {x1 : (List Side)} {p1 q1 : (Side → Option Bool)} (h_p1 : ∀ z, ole (p1 z) (q1 z)) : ole (f_slices_IndexFunc_Side F x1 p1) (m_slices_IndexFunc_Side x1 q1) := by
  unfold f_slices_IndexFunc_Side m_slices_IndexFunc_Side
  with_reducible repeat' first | exact ole_refl _ | assumption | intro _ | refine ole_ifb ?_ ?_ | refine ole_bind ?_ ?_ | refine ole_map ?_ | refine ole_loop ?_ | apply le_slices_IndexFunc_Side_j1 | apply le_slices_IndexFunc_Side_l1 | apply h_p1
end NX
end Go.Proofs.Ytadebhbiglmodaa
/-
  The function narthex/graph.Check$1: its code compiled, a model, and that the code answers as the model. Written by a program of ours (lb.py). No statement of the seat is proved here.
-/
namespace Go.Proofs.Ytadebhbiglmodaa
namespace NX
open Go
set_option maxRecDepth 100000
set_option maxHeartbeats 4000000
def e79 : EC := .seq (.reg [⟨(some 2), none, .box 58 2 (.t 0)⟩, ⟨(some 3), none, .mv (.c .ff)⟩]) (.seq (.reg [⟨(some 4), none, .fld 0 (.t 2)⟩, ⟨(some 5), none, .load (.t 4)⟩, ⟨(some 6), none, .bin .lss (.t 5) (.c (.iv 0))⟩, ⟨(some 7), none, .mv (.t 6)⟩, ⟨(some 8), (some (7, false)), .fld 0 (.t 2)⟩, ⟨(some 9), (some (7, false)), .load (.t 8)⟩, ⟨(some 10), (some (7, false)), .fld 1 (.t 2)⟩, ⟨(some 11), (some (7, false)), .load (.t 10)⟩, ⟨(some 12), (some (7, false)), .bin .geq (.t 9) (.t 11)⟩, ⟨(some 13), none, .pick (.t 7) (.c .tt) (.t 12)⟩, ⟨(some 14), none, .mv (.t 13)⟩, ⟨(some 15), (some (14, false)), .fld 1 (.t 2)⟩, ⟨(some 16), (some (14, false)), .load (.t 15)⟩, ⟨(some 17), (some (14, false)), .fld 0 (.t 1)⟩, ⟨(some 18), (some (14, false)), .load (.t 17)⟩, ⟨(some 19), (some (14, false)), .bin .geq (.t 16) (.t 18)⟩, ⟨(some 20), none, .pick (.t 14) (.c .tt) (.t 19)⟩, ⟨(some 3), none, .mv (.t 20)⟩]) (.ret))
theorem ok79 : FnOK Try.prog 79 Try.f79 e79 [.t 3] 2 19 := ⟨by kernel_rfl, ⟨_, rfl, by kernel_rfl⟩, by kernel_rfl, by kernel_rfl⟩
/- narthex/graph.Check$1 -/
noncomputable def m_graph_Check_1_j1  : Bool → Option Bool
| x3 =>
 some x3
noncomputable def m_graph_Check_1 (x1 : Edge) (x2 : Graph) : Option Bool :=
 ifb (decide (x1.A < 0)) (
 m_graph_Check_1_j1 true) (
 ifb (decide (x1.B ≤ x1.A)) (
 m_graph_Check_1_j1 true) (
 m_graph_Check_1_j1 (decide (x2.N ≤ x1.B))))
theorem k_graph_Check_1 (x1 : Edge) (x2 : Graph) (r : Bool) (h : m_graph_Check_1 x1 x2 = some r) : FunP Try.prog 79 [.agg (Edge.row x1), .elt (Graph.row x2) 0] (.bv r) := by
  refine FunP_intro ok79 rfl rfl fun w0 H0 => ?_
  rw [m_graph_Check_1] at h
  refine V_go 11 ?_; dsimp only [e79, go_sem, Nat.reduceBEq, Nat.reduceAdd]; refine ⟨by simp, ?_⟩; refine V_join (fun (x3 : Bool) => (⟨(an 3 (.bv x3 :: an 17 [])), [], []⟩ : St)) m_graph_Check_1_j1 r ?_ fun J1 => ?_
  ·intro x3 h; rw [m_graph_Check_1_j1] at h; (try dsimp only); exact M_done (res := fun (r : Bool) => .bv r) ok79 h
  ·refine M_case 7 h rfl (fun _ h => ?_) fun _ h => ?_
   ·dsimp only [go_sem, Nat.reduceBEq, Nat.reduceAdd]; refine V_go 15 ?_; dsimp only [e79, go_sem, Nat.reduceBEq, Nat.reduceAdd]; refine ⟨by simp, ?_⟩; exact M_to J1 (s := true) h
   ·dsimp only [go_sem, Nat.reduceBEq, Nat.reduceAdd]; refine V_go 7 ?_; dsimp only [e79, go_sem, Nat.reduceBEq, Nat.reduceAdd]; refine ⟨by simp, ?_⟩; refine M_case 14 h rfl (fun _ h => ?_) fun _ h => ?_
    ·dsimp only [go_sem, Nat.reduceBEq, Nat.reduceAdd]; refine V_go 8 ?_; dsimp only [e79, go_sem, Nat.reduceBEq, Nat.reduceAdd]; refine ⟨by simp, ?_⟩; exact M_to J1 (s := true) h
    ·dsimp only [go_sem, Nat.reduceBEq, Nat.reduceAdd]; refine V_go 8 ?_; dsimp only [e79, go_sem, Nat.reduceBEq, Nat.reduceAdd]; refine ⟨by simp, ?_⟩; exact M_to J1 (s := decide (x2.N ≤ x1.B)) h
def f_graph_Check_1_j1 (_F : Nat)  : Bool → Option Bool
| x3 =>
 some x3
theorem le_graph_Check_1_j1 {F : Nat} : ∀ s, ole (f_graph_Check_1_j1 F s) (m_graph_Check_1_j1 s) := by
  intro x3
  unfold f_graph_Check_1_j1 m_graph_Check_1_j1
  try dsimp only
  with_reducible repeat' first | exact ole_refl _ | assumption | intro _ | refine ole_ifb ?_ ?_ | refine ole_bind ?_ ?_ | refine ole_map ?_ | refine ole_loop ?_
def f_graph_Check_1 (F : Nat) (x1 : Edge) (x2 : Graph) : Option Bool :=
 ifb (decide (x1.A < 0)) (
 f_graph_Check_1_j1 F true) (
 ifb (decide (x1.B ≤ x1.A)) (
 f_graph_Check_1_j1 F true) (
 f_graph_Check_1_j1 F (decide (x2.N ≤ x1.B))))
theorem le_graph_Check_1 {F : Nat} {x1 : Edge} {x2 : Graph} : ole (f_graph_Check_1 F x1 x2) (m_graph_Check_1 x1 x2) := by
  unfold f_graph_Check_1 m_graph_Check_1
  with_reducible repeat' first | exact ole_refl _ | assumption | intro _ | refine ole_ifb ?_ ?_ | refine ole_bind ?_ ?_ | refine ole_map ?_ | refine ole_loop ?_ | apply le_graph_Check_1_j1
end NX
end Go.Proofs.Ytadebhbiglmodaa
/-
  The function cmp.isNaN[int]: its code compiled, a model, and that the code answers as the model. Written by a program of ours (lb.py). No statement of the seat is proved here.
-/
namespace Go.Proofs.Ytadebhbiglmodaa
namespace NX
open Go
set_option maxRecDepth 100000
set_option maxHeartbeats 4000000
def e126 : EC := .seq (.reg [⟨(some 2), none, .mv (.c .ff)⟩]) (.seq (.reg [⟨(some 3), none, .mv (.t 0)⟩, ⟨(some 4), none, .mv (.t 0)⟩, ⟨(some 5), none, .bin .neq (.t 3) (.t 4)⟩, ⟨(some 2), none, .mv (.t 5)⟩]) (.ret))
theorem ok126 : FnOK Try.prog 126 Try.f126 e126 [.t 2] 1 5 := ⟨by kernel_rfl, ⟨_, rfl, by kernel_rfl⟩, by kernel_rfl, by kernel_rfl⟩
/- cmp.isNaN[int] -/
noncomputable def m_cmp_isNaN_int (x1 : Int) : Option Bool :=
 some (!decide (x1 = x1))
theorem k_cmp_isNaN_int (x1 : Int) (r : Bool) (h : m_cmp_isNaN_int x1 = some r) : FunP Try.prog 126 [.iv x1] (.bv r) := by
  refine FunP_intro ok126 rfl rfl fun w0 H0 => ?_
  rw [m_cmp_isNaN_int] at h
  refine V_go 11 ?_; dsimp only [e126, go_sem, Nat.reduceBEq, Nat.reduceAdd]; refine ⟨by simp, ?_⟩; exact M_done (res := fun (r : Bool) => .bv r) ok126 h
def f_cmp_isNaN_int (_F : Nat) (x1 : Int) : Option Bool :=
 some (!decide (x1 = x1))
theorem le_cmp_isNaN_int {F : Nat} {x1 : Int} : ole (f_cmp_isNaN_int F x1) (m_cmp_isNaN_int x1) := by
  unfold f_cmp_isNaN_int m_cmp_isNaN_int
  with_reducible repeat' first | exact ole_refl _ | assumption | intro _ | refine ole_ifb ?_ ?_ | refine ole_bind ?_ ?_ | refine ole_map ?_ | refine ole_loop ?_
end NX
end Go.Proofs.Ytadebhbiglmodaa
/-
  The function cmp.Compare[int]: its code compiled, a model, and that the code answers as the model. Written by a program of ours (lb.py). No statement of the seat is proved here.
-/
namespace Go.Proofs.Ytadebhbiglmodaa
namespace NX
open Go
set_option maxRecDepth 100000
set_option maxHeartbeats 4000000
def e110 : EC := .seq (.reg [⟨(some 4), none, .mv (.c (.iv 0))⟩]) (.seq (.reg [⟨(some 7), none, .mv (.t 0)⟩, ⟨(some 8), none, .call 126 [(.t 7)]⟩, ⟨(some 5), none, .mv (.t 8)⟩]) (.seq (.reg [⟨(some 9), none, .mv (.t 1)⟩, ⟨(some 10), none, .call 126 [(.t 9)]⟩, ⟨(some 6), none, .mv (.t 10)⟩]) (.seq (.seq (.reg [⟨(some 11), none, .mv (.t 5)⟩]) (.ite (.t 11) (.seq (.seq (.reg [⟨(some 12), none, .mv (.t 6)⟩]) (.ite (.t 12) (.seq (.reg [⟨(some 4), none, .mv (.c (.iv 0))⟩]) (.ret)) (.skip))) (.seq (.reg [⟨(some 4), none, .mv (.c (.iv (-1)))⟩]) (.ret))) (.skip))) (.seq (.seq (.reg [⟨(some 13), none, .mv (.t 6)⟩]) (.ite (.t 13) (.seq (.reg [⟨(some 4), none, .mv (.c (.iv 1))⟩]) (.ret)) (.skip))) (.seq (.seq (.reg [⟨(some 14), none, .mv (.t 0)⟩, ⟨(some 15), none, .mv (.t 1)⟩, ⟨(some 16), none, .bin .lss (.t 14) (.t 15)⟩]) (.ite (.t 16) (.seq (.reg [⟨(some 4), none, .mv (.c (.iv (-1)))⟩]) (.ret)) (.skip))) (.seq (.seq (.reg [⟨(some 17), none, .mv (.t 0)⟩, ⟨(some 18), none, .mv (.t 1)⟩, ⟨(some 19), none, .bin .gtr (.t 17) (.t 18)⟩]) (.ite (.t 19) (.seq (.reg [⟨(some 4), none, .mv (.c (.iv 1))⟩]) (.ret)) (.skip))) (.seq (.reg [⟨(some 4), none, .mv (.c (.iv 0))⟩]) (.ret))))))))
theorem ok110 : FnOK Try.prog 110 Try.f110 e110 [.t 4] 2 18 := ⟨by kernel_rfl, ⟨_, rfl, by kernel_rfl⟩, by kernel_rfl, by kernel_rfl⟩
/- cmp.Compare[int] -/
noncomputable def m_cmp_Compare_int (x1 : Int) (x2 : Int) : Option Int :=
 (m_cmp_isNaN_int x1).bind fun x3 =>
 (m_cmp_isNaN_int x2).bind fun x4 =>
 ifb x3 (
 ifb x4 (
 some 0) (
 some (-1))) (
 ifb x4 (
 some 1) (
 ifb (decide (x1 < x2)) (
 some (-1)) (
 ifb (decide (x2 < x1)) (
 some 1) (
 some 0))))
theorem k_cmp_Compare_int (x1 : Int) (x2 : Int) (r : Int) (h : m_cmp_Compare_int x1 x2 = some r) : FunP Try.prog 110 [.iv x1, .iv x2] (.iv r) := by
  refine FunP_intro ok110 rfl rfl fun w0 H0 => ?_
  rw [m_cmp_Compare_int] at h
  refine V_go 7 ?_; dsimp only [e110, go_sem, Nat.reduceBEq, Nat.reduceAdd]; refine ⟨by simp, ?_⟩; obtain ⟨x3, ex3, h⟩ := Option.bind_eq_some_iff.1 h; refine V_call trivial (k_cmp_isNaN_int x1 _ ex3) (h := ?_); refine V_go 5 ?_; dsimp only [e110, go_sem, Nat.reduceBEq, Nat.reduceAdd]; refine ⟨by simp, ?_⟩; obtain ⟨x4, ex4, h⟩ := Option.bind_eq_some_iff.1 h; refine V_call trivial (k_cmp_isNaN_int x2 _ ex4) (h := ?_); refine V_go 7 ?_; dsimp only [e110, go_sem, Nat.reduceBEq, Nat.reduceAdd]; refine ⟨by simp, ?_⟩; refine M_ite h rfl (fun _ h => ?_) fun _ h => ?_
  ·refine V_go 5 ?_; dsimp only [e110, go_sem, Nat.reduceBEq, Nat.reduceAdd]; refine ⟨by simp, ?_⟩; refine M_ite h rfl (fun _ h => ?_) fun _ h => ?_
   ·refine V_go 4 ?_; dsimp only [e110, go_sem, Nat.reduceBEq, Nat.reduceAdd]; refine ⟨by simp, ?_⟩; exact M_done (res := fun (r : Int) => .iv r) ok110 h
   ·refine V_go 5 ?_; dsimp only [e110, go_sem, Nat.reduceBEq, Nat.reduceAdd]; refine ⟨by simp, ?_⟩; exact M_done (res := fun (r : Int) => .iv r) ok110 h
  ·refine V_go 6 ?_; dsimp only [e110, go_sem, Nat.reduceBEq, Nat.reduceAdd]; refine ⟨by simp, ?_⟩; refine M_ite h rfl (fun _ h => ?_) fun _ h => ?_
   ·refine V_go 4 ?_; dsimp only [e110, go_sem, Nat.reduceBEq, Nat.reduceAdd]; refine ⟨by simp, ?_⟩; exact M_done (res := fun (r : Int) => .iv r) ok110 h
   ·refine V_go 8 ?_; dsimp only [e110, go_sem, Nat.reduceBEq, Nat.reduceAdd]; refine ⟨by simp, ?_⟩; refine M_ite h rfl (fun _ h => ?_) fun _ h => ?_
    ·refine V_go 4 ?_; dsimp only [e110, go_sem, Nat.reduceBEq, Nat.reduceAdd]; refine ⟨by simp, ?_⟩; exact M_done (res := fun (r : Int) => .iv r) ok110 h
    ·refine V_go 8 ?_; dsimp only [e110, go_sem, Nat.reduceBEq, Nat.reduceAdd]; refine ⟨by simp, ?_⟩; refine M_ite h rfl (fun _ h => ?_) fun _ h => ?_
     ·refine V_go 4 ?_; dsimp only [e110, go_sem, Nat.reduceBEq, Nat.reduceAdd]; refine ⟨by simp, ?_⟩; exact M_done (res := fun (r : Int) => .iv r) ok110 h
     ·refine V_go 5 ?_; dsimp only [e110, go_sem, Nat.reduceBEq, Nat.reduceAdd]; refine ⟨by simp, ?_⟩; exact M_done (res := fun (r : Int) => .iv r) ok110 h
def f_cmp_Compare_int (F : Nat) (x1 : Int) (x2 : Int) : Option Int :=
 (f_cmp_isNaN_int F x1).bind fun x3 =>
 (f_cmp_isNaN_int F x2).bind fun x4 =>
 ifb x3 (
 ifb x4 (
 some 0) (
 some (-1))) (
 ifb x4 (
 some 1) (
 ifb (decide (x1 < x2)) (
 some (-1)) (
 ifb (decide (x2 < x1)) (
 some 1) (
 some 0))))
theorem le_cmp_Compare_int {F : Nat} {x1 : Int} {x2 : Int} : ole (f_cmp_Compare_int F x1 x2) (m_cmp_Compare_int x1 x2) := by
  unfold f_cmp_Compare_int m_cmp_Compare_int
  with_reducible repeat' first | exact ole_refl _ | assumption | intro _ | refine ole_ifb ?_ ?_ | refine ole_bind ?_ ?_ | refine ole_map ?_ | refine ole_loop ?_ | apply le_cmp_isNaN_int
end NX
end Go.Proofs.Ytadebhbiglmodaa
/-
  The function cmp.Or[int]: its code compiled, a model, and that the code answers as the model. Written by a program of ours (lb.py). No statement of the seat is proved here.
-/
namespace Go.Proofs.Ytadebhbiglmodaa
namespace NX
open Go
set_option maxRecDepth 100000
set_option maxHeartbeats 4000000
def e109_L0 : EC := .seq (.reg [⟨(some 9), none, .bin .lss (.t 8) (.t 7)⟩]) (.seq (.ite (.t 9) (.skip) (.exit 0)) (.seq (.blk 1 (.seq (.reg [⟨(some 10), none, .idx 1 (.t 6) (.t 8)⟩, ⟨(some 11), none, .load (.t 10)⟩, ⟨(some 5), none, .mv (.t 11)⟩]) (.seq (.reg [⟨(some 12), none, .mv (.t 5)⟩, ⟨(some 13), none, .mv (.t 3)⟩, ⟨(some 14), none, .bin .neq (.t 12) (.t 13)⟩]) (.ite (.t 14) (.seq (.reg [⟨(some 15), none, .mv (.t 5)⟩, ⟨(some 2), none, .mv (.t 15)⟩]) (.ret)) (.skip))))) (.reg [⟨(some 16), none, .bin .add (.t 8) (.c (.iv 1))⟩, ⟨(some 8), none, .mv (.t 16)⟩])))
def e109 : EC := .seq (.reg [⟨(some 2), none, .mv (.c (.iv 0))⟩]) (.seq (.reg [⟨(some 3), none, .mv (.c (.iv 0))⟩]) (.seq (.seq (.reg [⟨(some 6), none, .mv (.t 0)⟩, ⟨(some 7), none, .len (.t 6)⟩, ⟨(some 8), none, .mv (.c (.iv 0))⟩]) (.blk 0 (.loop e109_L0))) (.seq (.reg [⟨(some 17), none, .mv (.t 3)⟩, ⟨(some 2), none, .mv (.t 17)⟩]) (.ret))))
theorem ok109 : FnOK Try.prog 109 Try.f109 e109 [.t 2] 1 17 := ⟨by kernel_rfl, ⟨_, rfl, by kernel_rfl⟩, by kernel_rfl, by kernel_rfl⟩
/- cmp.Or[int] -/
noncomputable def m_cmp_Or_int_j1  : Unit → Option Int
| () =>
 some 0
noncomputable def m_cmp_Or_int_l1 (x1 : (List Int)) : Int → Option (Int ⊕ Int)
| x4 =>
 ifb (decide (x4 < (ln intRow x1))) (
 (at_ x1 x4).bind fun x5 =>
 ifb (!decide (x5 = 0)) (
 Option.map Sum.inr (some x5)) (
 some (.inl (wr (x4 + 1))))) (
 Option.map Sum.inr (m_cmp_Or_int_j1 ()))
noncomputable def m_cmp_Or_int (x1 : (List Int)) : Option Int :=
 loop (m_cmp_Or_int_l1 x1) 0
theorem k_cmp_Or_int (x1 : (List Int)) (r : Int) (h : m_cmp_Or_int x1 = some r) : FunP Try.prog 109 [.sl 1 (List.map intRow x1)] (.iv r) := by
  refine FunP_intro ok109 rfl rfl fun w0 H0 => ?_
  rw [m_cmp_Or_int] at h
  refine V_go 15 ?_; dsimp only [e109, e109_L0, go_sem, Nat.reduceBEq, Nat.reduceAdd]; refine ⟨by simp, ?_⟩; refine V_join (fun (_ : Unit) => (⟨(an 3 (.iv 0 :: an 14 [])), [], []⟩ : St)) m_cmp_Or_int_j1 r ?_ fun J1 => ?_
  ·rintro ⟨⟩ h; rw [m_cmp_Or_int_j1] at h; (try dsimp only); refine V_go 5 ?_; dsimp only [e109, e109_L0, go_sem, Nat.reduceBEq, Nat.reduceAdd]; refine ⟨by simp, ?_⟩; exact M_done (res := fun (r : Int) => .iv r) ok109 h
  ·refine V_go 1 ?_; dsimp only [e109, e109_L0, go_sem, Nat.reduceBEq, Nat.reduceAdd]; refine ⟨by simp, ?_⟩; refine M_loop h (fun (x4 : Int) => (⟨(an 3 (.iv 0 :: .any :: .any :: .sl 1 (List.map intRow x1) :: .iv (ln intRow x1) :: .iv x4 :: an 9 [])), [], []⟩ : St)) (by simp [go_sem]) (by intro x4; first | rfl | simp [go_sem]) ?_; rintro n1 x4 y1 h hin1 hout1; rw [m_cmp_Or_int_l1] at h; (try dsimp only); refine V_go 5 ?_; dsimp only [e109, e109_L0, go_sem, Nat.reduceBEq, Nat.reduceAdd]; refine ⟨by simp, ?_⟩; refine M_ite h rfl (fun _ h => ?_) fun _ h => ?_
   ·refine V_go 5 ?_; dsimp only [e109, e109_L0, go_sem, Nat.reduceBEq, Nat.reduceAdd]; refine ⟨by simp, ?_⟩; obtain ⟨x5, ex5, h⟩ := Option.bind_eq_some_iff.1 h; refine V_idxM intRow ex5 trivial rfl rfl rfl ?_; refine V_go 9 ?_; dsimp only [e109, e109_L0, go_sem, Nat.reduceBEq, Nat.reduceAdd]; refine ⟨by simp, ?_⟩; refine M_ite h rfl (fun _ h => ?_) fun _ h => ?_
    ·refine V_go 5 ?_; dsimp only [e109, e109_L0, go_sem, Nat.reduceBEq, Nat.reduceAdd]; refine ⟨by simp, ?_⟩; exact M_done (res := fun (r : Int) => .iv r) ok109 (M_out h hout1)
    ·refine V_go 6 ?_; dsimp only [e109, e109_L0, go_sem, Nat.reduceBEq, Nat.reduceAdd]; refine ⟨by simp, ?_⟩; exact M_back h hin1
   ·refine V_go 1 ?_; dsimp only [e109, e109_L0, go_sem, Nat.reduceBEq, Nat.reduceAdd]; refine ⟨by simp, ?_⟩; exact M_to J1 (s := ()) (M_out h hout1)
def f_cmp_Or_int_j1 (_F : Nat)  : Unit → Option Int
| () =>
 some 0
theorem le_cmp_Or_int_j1 {F : Nat} : ∀ s, ole (f_cmp_Or_int_j1 F s) (m_cmp_Or_int_j1 s) := by
  rintro ⟨⟩
  unfold f_cmp_Or_int_j1 m_cmp_Or_int_j1
  try dsimp only
  with_reducible repeat' first | exact ole_refl _ | assumption | intro _ | refine ole_ifb ?_ ?_ | refine ole_bind ?_ ?_ | refine ole_map ?_ | refine ole_loop ?_
def f_cmp_Or_int_l1 (F : Nat) (x1 : (List Int)) : Int → Option (Int ⊕ Int)
| x4 =>
 ifb (decide (x4 < (ln intRow x1))) (
 (at_ x1 x4).bind fun x5 =>
 ifb (!decide (x5 = 0)) (
 Option.map Sum.inr (some x5)) (
 some (.inl (wr (x4 + 1))))) (
 Option.map Sum.inr (f_cmp_Or_int_j1 F ()))
theorem le_cmp_Or_int_l1 {F : Nat} {x1 : (List Int)} : ∀ s, ole (f_cmp_Or_int_l1 F x1 s) (m_cmp_Or_int_l1 x1 s) := by
  intro x4
  unfold f_cmp_Or_int_l1 m_cmp_Or_int_l1
  try dsimp only
  with_reducible repeat' first | exact ole_refl _ | assumption | intro _ | refine ole_ifb ?_ ?_ | refine ole_bind ?_ ?_ | refine ole_map ?_ | refine ole_loop ?_ | apply le_cmp_Or_int_j1
def f_cmp_Or_int (F : Nat) (x1 : (List Int)) : Option Int :=
 loopF F (f_cmp_Or_int_l1 F x1) 0
theorem le_cmp_Or_int {F : Nat} {x1 : (List Int)} : ole (f_cmp_Or_int F x1) (m_cmp_Or_int x1) := by
  unfold f_cmp_Or_int m_cmp_Or_int
  with_reducible repeat' first | exact ole_refl _ | assumption | intro _ | refine ole_ifb ?_ ?_ | refine ole_bind ?_ ?_ | refine ole_map ?_ | refine ole_loop ?_ | apply le_cmp_Or_int_j1 | apply le_cmp_Or_int_l1
end NX
end Go.Proofs.Ytadebhbiglmodaa
/-
  The function narthex/graph.rank: its code compiled, a model, and that the code answers as the model. Written by a program of ours (lb.py). No statement of the seat is proved here.
-/
namespace Go.Proofs.Ytadebhbiglmodaa
namespace NX
open Go
set_option maxRecDepth 100000
set_option maxHeartbeats 4000000
def e81 : EC := .seq (.reg [⟨(some 2), none, .box 58 2 (.t 0)⟩, ⟨(some 3), none, .box 58 2 (.t 1)⟩, ⟨(some 4), none, .mv (.c (.iv 0))⟩]) (.seq (.drw [⟨(some 5), none, .fld 0 (.t 2)⟩, ⟨(some 6), none, .load (.t 5)⟩, ⟨(some 7), none, .fld 0 (.t 3)⟩, ⟨(some 8), none, .load (.t 7)⟩, ⟨(some 9), none, .call 110 [(.t 6), (.t 8)]⟩, ⟨(some 10), none, .fld 1 (.t 2)⟩, ⟨(some 11), none, .load (.t 10)⟩, ⟨(some 12), none, .fld 1 (.t 3)⟩, ⟨(some 13), none, .load (.t 12)⟩, ⟨(some 14), none, .call 110 [(.t 11), (.t 13)]⟩, ⟨(some 15), none, .bsl 3 1 2 [.iv 0] [(0, (.t 9)), (1, (.t 14))]⟩, ⟨(some 16), none, .call 109 [(.t 15)]⟩, ⟨(some 4), none, .mv (.t 16)⟩] [[], [0], [], [2], [1, 3], [], [5], [], [7], [6, 8, 4], [4, 9], [10, 9], [11, 11, 0, 1, 2, 3, 4, 5, 6, 7, 8, 9, 10, 11]] [[1], [0, 4], [3], [2, 4], [1, 3, 10], [6], [5, 9], [8], [7, 9], [6, 8, 10], [4, 9, 11], [10, 12], [11]]) (.ret))
theorem ok81 : FnOK Try.prog 81 Try.f81 e81 [.t 4] 2 15 := ⟨by kernel_rfl, ⟨_, rfl, by kernel_rfl⟩, by kernel_rfl, by kernel_rfl⟩
/- narthex/graph.rank -/
noncomputable def m_graph_rank (x1 : Edge) (x2 : Edge) : Option Int :=
 (m_cmp_Compare_int x1.A x2.A).bind fun x3 =>
 (m_cmp_Compare_int x1.B x2.B).bind fun x4 =>
 (m_cmp_Or_int ([x3, x4])).bind fun x5 =>
 some x5
theorem k_graph_rank (x1 : Edge) (x2 : Edge) (r : Int) (h : m_graph_rank x1 x2 = some r) : FunP Try.prog 81 [.agg (Edge.row x1), .agg (Edge.row x2)] (.iv r) := by
  refine FunP_intro ok81 rfl rfl fun w0 H0 => ?_
  rw [m_graph_rank] at h
  refine V_go 7 ?_; dsimp only [e81, go_sem, Nat.reduceBEq, Nat.reduceAdd]; refine ⟨by simp, ?_⟩; refine V_drw (by kernel_rfl) fun all hall hs hnap haf => ?_; dsimp only [go_sem, Nat.reduceBEq, Nat.reduceAdd]
  refine G_goE hall hs haf hnap 8 5 [true, true, true, true, false, true, true, true, true, false, false, false, false] (⟨[.agg [.iv x1.A, .iv x1.B], .agg [.iv x2.A, .iv x2.B], .ptr 0 0, .ptr 1 0, .iv 0, .ptr 0 0, .iv x1.A, .ptr 1 0, .iv x2.A, .un, .ptr 0 1, .iv x1.B, .ptr 1 1, .iv x2.B, .un, .un, .un], [some ⟨58, [.iv x1.A, .iv x1.B]⟩, some ⟨58, [.iv x2.A, .iv x2.B]⟩], []⟩ : St) (by kernel_rfl) ?_; refine G_one 4 rfl ?_; obtain ⟨x3, ex3, h⟩ := Option.bind_eq_some_iff.1 h; refine GO_call hall rfl trivial (k_cmp_Compare_int x1.A x2.A _ ex3) (h := ?_)
  dsimp only [go_sem, Nat.reduceBEq, Nat.reduceAdd]; refine G_one 9 rfl ?_; obtain ⟨x4, ex4, h⟩ := Option.bind_eq_some_iff.1 h; refine GO_call hall rfl trivial (k_cmp_Compare_int x1.B x2.B _ ex4) (h := ?_); dsimp only [go_sem, Nat.reduceBEq, Nat.reduceAdd]; refine G_one 10 rfl ?_; refine GO_ev hall rfl trivial ?_; dsimp only [go_sem, Nat.reduceBEq, Nat.reduceAdd]; refine G_one 11 rfl ?_; obtain ⟨x5, ex5, h⟩ := Option.bind_eq_some_iff.1 h; refine GO_callL hall rfl trivial ((Lend.refl _).slice 0 rfl) (k_cmp_Or_int ([x3, x4]) _ ex5) (h := ?_); dsimp only [go_sem, Nat.reduceBEq, Nat.reduceAdd]
  refine G_goN hall hs haf hnap 1 0 ?_; dsimp only [go_sem, Nat.reduceBEq, Nat.reduceAdd]; refine ⟨by simp, ?_⟩; refine G_done rfl ?_ _; exact M_done (res := fun (r : Int) => .iv r) ok81 h
def f_graph_rank (F : Nat) (x1 : Edge) (x2 : Edge) : Option Int :=
 (f_cmp_Compare_int F x1.A x2.A).bind fun x3 =>
 (f_cmp_Compare_int F x1.B x2.B).bind fun x4 =>
 (f_cmp_Or_int F ([x3, x4])).bind fun x5 =>
 some x5
theorem le_graph_rank {F : Nat} {x1 : Edge} {x2 : Edge} : ole (f_graph_rank F x1 x2) (m_graph_rank x1 x2) := by
  unfold f_graph_rank m_graph_rank
  with_reducible repeat' first | exact ole_refl _ | assumption | intro _ | refine ole_ifb ?_ ?_ | refine ole_bind ?_ ?_ | refine ole_map ?_ | refine ole_loop ?_ | apply le_cmp_Compare_int | apply le_cmp_Or_int
end NX
end Go.Proofs.Ytadebhbiglmodaa
/-
  The function narthex/graph.Check: its code compiled, a model, and that the code answers as the model. Written by a program of ours (lb.py). No statement of the seat is proved here.
-/
namespace Go.Proofs.Ytadebhbiglmodaa
namespace NX
open Go
set_option maxRecDepth 100000
set_option maxHeartbeats 4000000
def e49_L0 : EC := .seq (.reg [⟨(some 30), none, .bin .lss (.t 29) (.t 28)⟩]) (.seq (.ite (.t 30) (.skip) (.exit 0)) (.seq (.blk 1 (.seq (.reg [⟨(some 31), none, .mv (.t 29)⟩, ⟨(some 4), none, .mv (.t 31)⟩]) (.seq (.drw [⟨(some 32), none, .mv (.t 4)⟩, ⟨(some 33), none, .bin .gtr (.t 32) (.c (.iv 0))⟩, ⟨(some 34), none, .mv (.t 33)⟩, ⟨(some 35), (some (34, true)), .fld 1 (.t 1)⟩, ⟨(some 36), (some (34, true)), .load (.t 35)⟩, ⟨(some 37), (some (34, true)), .mv (.t 4)⟩, ⟨(some 38), (some (34, true)), .bin .sub (.t 37) (.c (.iv 1))⟩, ⟨(some 39), (some (34, true)), .idx 2 (.t 36) (.t 38)⟩, ⟨(some 40), (some (34, true)), .loadA 2 (.t 39)⟩, ⟨(some 41), (some (34, true)), .fld 1 (.t 1)⟩, ⟨(some 42), (some (34, true)), .load (.t 41)⟩, ⟨(some 43), (some (34, true)), .mv (.t 4)⟩, ⟨(some 44), (some (34, true)), .idx 2 (.t 42) (.t 43)⟩, ⟨(some 45), (some (34, true)), .loadA 2 (.t 44)⟩, ⟨(some 46), (some (34, true)), .call 81 [(.t 40), (.t 45)]⟩, ⟨(some 47), (some (34, true)), .bin .geq (.t 46) (.c (.iv 0))⟩, ⟨(some 48), none, .pick (.t 34) (.t 47) (.c .ff)⟩] [[], [0], [1], [2], [3, 2], [2], [5, 2], [4, 6, 2], [7, 2], [2], [9, 2], [2], [10, 11, 2], [12, 2], [8, 13, 2, 2], [14, 2], [2, 15]] [[1], [0, 2], [1, 3, 4, 5, 6, 7, 8, 9, 10, 11, 12, 13, 14, 15, 16], [2, 4], [2, 3, 7], [2, 6], [2, 5, 7], [2, 4, 6, 8], [2, 7, 14], [2, 10], [2, 9, 12], [2, 12], [2, 10, 11, 13], [2, 12, 14], [2, 8, 13, 15], [2, 14, 16], [2, 15]]) (.ite (.t 48) (.seq (.reg [⟨(some 2), none, .mv (.c (.iv 30))⟩]) (.ret)) (.skip))))) (.reg [⟨(some 49), none, .bin .add (.t 29) (.c (.iv 1))⟩, ⟨(some 29), none, .mv (.t 49)⟩])))
def e49 : EC := .seq (.reg [⟨(some 1), none, .box 24 2 (.t 0)⟩, ⟨(some 2), none, .mv (.c (.iv 0))⟩]) (.seq (.reg [⟨(some 5), none, .mkf 79 [(.t 1)]⟩, ⟨(some 3), none, .mv (.t 5)⟩]) (.seq (.seq (.reg [⟨(some 6), none, .fld 0 (.t 1)⟩, ⟨(some 7), none, .load (.t 6)⟩, ⟨(some 8), none, .bin .lss (.t 7) (.c (.iv 0))⟩, ⟨(some 9), none, .mv (.t 8)⟩, ⟨(some 10), (some (9, false)), .fld 0 (.t 1)⟩, ⟨(some 11), (some (9, false)), .load (.t 10)⟩, ⟨(some 12), (some (9, false)), .bin .gtr (.t 11) (.c (.iv 64))⟩, ⟨(some 13), none, .pick (.t 9) (.c .tt) (.t 12)⟩, ⟨(some 14), none, .mv (.t 13)⟩, ⟨(some 15), (some (14, false)), .fld 1 (.t 1)⟩, ⟨(some 16), (some (14, false)), .load (.t 15)⟩, ⟨(some 17), (some (14, false)), .len (.t 16)⟩, ⟨(some 18), (some (14, false)), .bin .gtr (.t 17) (.c (.iv 400))⟩, ⟨(some 19), none, .pick (.t 14) (.c .tt) (.t 18)⟩, ⟨(some 20), none, .mv (.t 19)⟩, ⟨(some 21), (some (20, false)), .fld 1 (.t 1)⟩, ⟨(some 22), (some (20, false)), .load (.t 21)⟩, ⟨(some 23), (some (20, false)), .mv (.t 3)⟩, ⟨(some 24), (some (20, false)), .call 80 [(.t 22), (.t 23)]⟩, ⟨(some 25), none, .pick (.t 20) (.c .tt) (.t 24)⟩]) (.ite (.t 25) (.seq (.reg [⟨(some 2), none, .mv (.c (.iv 30))⟩]) (.ret)) (.skip))) (.seq (.seq (.reg [⟨(some 26), none, .fld 1 (.t 1)⟩, ⟨(some 27), none, .load (.t 26)⟩, ⟨(some 28), none, .len (.t 27)⟩, ⟨(some 29), none, .mv (.c (.iv 0))⟩]) (.blk 0 (.loop e49_L0))) (.seq (.reg [⟨(some 2), none, .mv (.c (.iv 0))⟩]) (.ret)))))
theorem ok49 : FnOK Try.prog 49 Try.f49 e49 [.t 2] 1 49 := ⟨by kernel_rfl, ⟨_, rfl, by kernel_rfl⟩, by kernel_rfl, by kernel_rfl⟩
/- narthex/graph.Check -/
noncomputable def m_graph_Check_j2  : Unit → Option Int
| () =>
 some 0
noncomputable def m_graph_Check_j3 (x9 : Int) : Bool → Option (Int ⊕ Int)
| x13 =>
 ifb x13 (
 Option.map Sum.inr (some 30)) (
 some (.inl (wr (x9 + 1))))
noncomputable def m_graph_Check_l1 (x1 : Graph) : Int → Option (Int ⊕ Int)
| x9 =>
 ifb (decide (x9 < (ln Edge.row x1.Edges))) (
 ifb (decide (0 < x9)) (
 (at_ x1.Edges (wr (x9 - 1))).bind fun x10 =>
 (at_ x1.Edges x9).bind fun x11 =>
 (m_graph_rank x10 x11).bind fun x12 =>
 (m_graph_Check_j3 x9) (decide (0 ≤ x12))) (
 (m_graph_Check_j3 x9) false)) (
 Option.map Sum.inr (m_graph_Check_j2 ()))
noncomputable def m_graph_Check_j1 (x1 : Graph) : Bool → Option Int
| x3 =>
 ifb x3 (
 some 30) (
 loop (m_graph_Check_l1 x1) 0)
noncomputable def m_graph_Check (x1 : Graph) : Option Int :=
 ifb (decide (x1.N < 0)) (
 (m_graph_Check_j1 x1) true) (
 ifb (decide (64 < x1.N)) (
 (m_graph_Check_j1 x1) true) (
 ifb (decide (400 < (ln Edge.row x1.Edges))) (
 (m_graph_Check_j1 x1) true) (
 (m_slices_ContainsFunc_Edge x1.Edges ((fun z => m_graph_Check_1 z x1))).bind fun x2 =>
 (m_graph_Check_j1 x1) x2)))
theorem k_graph_Check (x1 : Graph) (r : Int) (h : m_graph_Check x1 = some r) : FunP Try.prog 49 [.agg (Graph.row x1)] (.iv r) := by
  refine FunP_intro ok49 rfl rfl fun w0 H0 => ?_
  rw [m_graph_Check] at h
  refine V_go 17 ?_; dsimp only [e49, e49_L0, go_sem, Nat.reduceBEq, Nat.reduceAdd]; refine ⟨by simp, ?_⟩; refine V_join (fun (x3 : Bool) => (⟨(.any :: .ptr 0 0 :: an 23 (.bv x3 :: an 24 [])), [some ⟨24, [.iv x1.N, .sl 2 (List.map Edge.row x1.Edges)]⟩], []⟩ : St)) (m_graph_Check_j1 x1) r ?_ fun J1 => ?_
  ·intro x3 h; rw [m_graph_Check_j1] at h; (try dsimp only); refine M_ite h rfl (fun _ h => ?_) fun _ h => ?_
   ·refine V_go 4 ?_; dsimp only [e49, e49_L0, go_sem, Nat.reduceBEq, Nat.reduceAdd]; refine ⟨by simp, ?_⟩; exact M_done (res := fun (r : Int) => .iv r) ok49 h
   ·refine V_go 9 ?_; dsimp only [e49, e49_L0, go_sem, Nat.reduceBEq, Nat.reduceAdd]; refine ⟨by simp, ?_⟩; refine V_join (fun (_ : Unit) => (⟨(an 50 []), [], []⟩ : St)) m_graph_Check_j2 r ?_ fun J2 => ?_
    ·rintro ⟨⟩ h; rw [m_graph_Check_j2] at h; (try dsimp only); refine V_go 4 ?_; dsimp only [e49, e49_L0, go_sem, Nat.reduceBEq, Nat.reduceAdd]; refine ⟨by simp, ?_⟩; exact M_done (res := fun (r : Int) => .iv r) ok49 h
    ·refine V_go 1 ?_; dsimp only [e49, e49_L0, go_sem, Nat.reduceBEq, Nat.reduceAdd]; refine ⟨by simp, ?_⟩; refine M_loop h (fun (x9 : Int) => (⟨(.any :: .ptr 0 0 :: an 26 (.iv (ln Edge.row x1.Edges) :: .iv x9 :: an 20 [])), [some ⟨24, [.iv x1.N, .sl 2 (List.map Edge.row x1.Edges)]⟩], []⟩ : St)) (by simp [go_sem]) (by intro x9; first | rfl | simp [go_sem]) ?_; rintro n1 x9 y1 h hin1 hout1; rw [m_graph_Check_l1] at h; (try dsimp only); refine V_go 5 ?_; dsimp only [e49, e49_L0, go_sem, Nat.reduceBEq, Nat.reduceAdd]; refine ⟨by simp, ?_⟩; refine M_ite h rfl (fun _ h => ?_) fun _ h => ?_
     ·refine V_go 9 ?_; dsimp only [e49, e49_L0, go_sem, Nat.reduceBEq, Nat.reduceAdd]; refine ⟨by simp, ?_⟩; refine V_join (fun (x13 : Bool) => (⟨(.any :: .ptr 0 0 :: an 26 (.iv (ln Edge.row x1.Edges) :: .iv x9 :: an 18 [.bv x13, .any])), [some ⟨24, [.iv x1.N, .sl 2 (List.map Edge.row x1.Edges)]⟩], []⟩ : St)) (m_graph_Check_j3 x9) y1 ?_ fun J3 => ?_
      ·intro x13 h; rw [m_graph_Check_j3] at h; (try dsimp only); refine M_ite h rfl (fun _ h => ?_) fun _ h => ?_
       ·refine V_go 4 ?_; dsimp only [e49, e49_L0, go_sem, Nat.reduceBEq, Nat.reduceAdd]; refine ⟨by simp, ?_⟩; exact M_done (res := fun (r : Int) => .iv r) ok49 (M_out h hout1)
       ·refine V_go 6 ?_; dsimp only [e49, e49_L0, go_sem, Nat.reduceBEq, Nat.reduceAdd]; refine ⟨by simp, ?_⟩; exact M_back h hin1
      ·refine V_drw (by kernel_rfl) fun all hall hs hnap haf => ?_; dsimp only [go_sem, Nat.reduceBEq, Nat.reduceAdd]; refine G_goN hall hs haf hnap 3 14 ?_; dsimp only [go_sem, Nat.reduceBEq, Nat.reduceAdd]; refine ⟨by simp, ?_⟩; refine GM_case 34 h rfl (fun _ h => ?_) fun _ h => ?_
       ·dsimp only [go_sem, Nat.reduceBEq, Nat.reduceAdd]
        refine G_goE hall hs haf hnap 7 7 [true, true, true, true, true, true, true, false, false, true, true, true, false, false, false, false, false] (⟨(.any :: .ptr 0 0 :: .any :: .any :: .iv x9 :: an 23 (.iv (ln Edge.row x1.Edges) :: .iv x9 :: .bv (decide (x9 < (ln Edge.row x1.Edges))) :: .iv x9 :: .iv x9 :: .bv (decide (0 < x9)) :: .tt :: .ptr 0 1 :: .sl 2 (List.map Edge.row x1.Edges) :: .iv x9 :: .iv (wr (x9 - 1)) :: .any :: .any :: .ptr 0 1 :: .sl 2 (List.map Edge.row x1.Edges) :: .iv x9 :: an 6 [])), [some ⟨24, [.iv x1.N, .sl 2 (List.map Edge.row x1.Edges)]⟩], []⟩ : St) (by kernel_rfl) ?_
        obtain ⟨x10, ex10, h⟩ := Option.bind_eq_some_iff.1 h; refine G_idxM hall hs haf hnap 7 Edge.row ex10 rfl rfl trivial rfl rfl rfl rfl ?_; refine G_goN hall hs haf hnap 1 5 ?_; dsimp only [go_sem, Nat.reduceBEq, Nat.reduceAdd]; refine ⟨by simp, ?_⟩; obtain ⟨x11, ex11, h⟩ := Option.bind_eq_some_iff.1 h; refine G_idxM hall hs haf hnap 12 Edge.row ex11 rfl rfl trivial rfl rfl rfl rfl ?_; refine G_goN hall hs haf hnap 1 3 ?_; dsimp only [go_sem, Nat.reduceBEq, Nat.reduceAdd]; refine ⟨by simp, ?_⟩; refine G_one 14 rfl ?_; obtain ⟨x12, ex12, h⟩ := Option.bind_eq_some_iff.1 h
        refine GO_call hall rfl trivial (k_graph_rank x10 x11 _ ex12) (h := ?_); dsimp only [go_sem, Nat.reduceBEq, Nat.reduceAdd]; refine G_goN hall hs haf hnap 2 0 ?_; dsimp only [go_sem, Nat.reduceBEq, Nat.reduceAdd]; refine ⟨by simp, ?_⟩; refine G_done rfl ?_ _; exact M_to J3 (s := decide (0 ≤ x12)) h
       ·dsimp only [go_sem, Nat.reduceBEq, Nat.reduceAdd]; refine G_goE hall hs haf hnap 14 0 [true, true, true, true, true, true, true, true, true, true, true, true, true, true, true, true, true] (⟨(.any :: .ptr 0 0 :: .any :: .any :: .iv x9 :: an 23 [.iv (ln Edge.row x1.Edges), .iv x9, .bv (decide (x9 < (ln Edge.row x1.Edges))), .iv x9, .iv x9, .bv (decide (0 < x9)), .ff, .un, .un, .un, .un, .un, .un, .un, .un, .un, .un, .un, .un, .un, .ff, .any]), [some ⟨24, [.iv x1.N, .sl 2 (List.map Edge.row x1.Edges)]⟩], []⟩ : St) (by kernel_rfl) ?_; refine G_done rfl ?_ _
        exact M_to J3 (s := false) h
     ·refine V_go 1 ?_; dsimp only [e49, e49_L0, go_sem, Nat.reduceBEq, Nat.reduceAdd]; refine ⟨by simp, ?_⟩; exact M_to J2 (s := ()) (M_out h hout1)
  ·refine M_case 9 h rfl (fun _ h => ?_) fun _ h => ?_
   ·dsimp only [go_sem, Nat.reduceBEq, Nat.reduceAdd]; refine V_go 17 ?_; dsimp only [e49, e49_L0, go_sem, Nat.reduceBEq, Nat.reduceAdd]; refine ⟨by simp, ?_⟩; exact M_to J1 (s := true) h
   ·dsimp only [go_sem, Nat.reduceBEq, Nat.reduceAdd]; refine V_go 5 ?_; dsimp only [e49, e49_L0, go_sem, Nat.reduceBEq, Nat.reduceAdd]; refine ⟨by simp, ?_⟩; refine M_case 14 h rfl (fun _ h => ?_) fun _ h => ?_
    ·dsimp only [go_sem, Nat.reduceBEq, Nat.reduceAdd]; refine V_go 12 ?_; dsimp only [e49, e49_L0, go_sem, Nat.reduceBEq, Nat.reduceAdd]; refine ⟨by simp, ?_⟩; exact M_to J1 (s := true) h
    ·dsimp only [go_sem, Nat.reduceBEq, Nat.reduceAdd]; refine V_go 6 ?_; dsimp only [e49, e49_L0, go_sem, Nat.reduceBEq, Nat.reduceAdd]; refine ⟨by simp, ?_⟩; refine M_case 20 h rfl (fun _ h => ?_) fun _ h => ?_
     ·dsimp only [go_sem, Nat.reduceBEq, Nat.reduceAdd]; refine V_go 6 ?_; dsimp only [e49, e49_L0, go_sem, Nat.reduceBEq, Nat.reduceAdd]; refine ⟨by simp, ?_⟩; exact M_to J1 (s := true) h
     ·dsimp only [go_sem, Nat.reduceBEq, Nat.reduceAdd]; refine V_go 3 ?_; dsimp only [e49, e49_L0, go_sem, Nat.reduceBEq, Nat.reduceAdd]; refine ⟨by simp, ?_⟩; obtain ⟨x2, ex2, h⟩ := Option.bind_eq_some_iff.1 h; refine V_callL trivial ((Lend.refl _).block 0 rfl rfl) (k_slices_ContainsFunc_Edge x1.Edges _ _ ((fun z => m_graph_Check_1 z x1)) ⟨by kernel_rfl, rfl, fun z r hz => k_graph_Check_1 z x1 r hz⟩ _ ex2) (h := ?_); refine V_go 2 ?_; dsimp only [e49, e49_L0, go_sem, Nat.reduceBEq, Nat.reduceAdd]; refine ⟨by simp, ?_⟩; exact M_to J1 (s := x2) h
def f_graph_Check_j2 (_F : Nat)  : Unit → Option Int
| () =>
 some 0
theorem le_graph_Check_j2 {F : Nat} : ∀ s, ole (f_graph_Check_j2 F s) (m_graph_Check_j2 s) := by
  rintro ⟨⟩
  unfold f_graph_Check_j2 m_graph_Check_j2
  try dsimp only
  with_reducible repeat' first | exact ole_refl _ | assumption | intro _ | refine ole_ifb ?_ ?_ | refine ole_bind ?_ ?_ | refine ole_map ?_ | refine ole_loop ?_
def f_graph_Check_j3 (_F : Nat) (x9 : Int) : Bool → Option (Int ⊕ Int)
| x13 =>
 ifb x13 (
 Option.map Sum.inr (some 30)) (
 some (.inl (wr (x9 + 1))))
theorem le_graph_Check_j3 {F : Nat} {x9 : Int} : ∀ s, ole (f_graph_Check_j3 F x9 s) (m_graph_Check_j3 x9 s) := by
  intro x13
  unfold f_graph_Check_j3 m_graph_Check_j3
  try dsimp only
  with_reducible repeat' first | exact ole_refl _ | assumption | intro _ | refine ole_ifb ?_ ?_ | refine ole_bind ?_ ?_ | refine ole_map ?_ | refine ole_loop ?_ | apply le_graph_Check_j2
def f_graph_Check_l1 (F : Nat) (x1 : Graph) : Int → Option (Int ⊕ Int)
| x9 =>
 ifb (decide (x9 < (ln Edge.row x1.Edges))) (
 ifb (decide (0 < x9)) (
 (at_ x1.Edges (wr (x9 - 1))).bind fun x10 =>
 (at_ x1.Edges x9).bind fun x11 =>
 (f_graph_rank F x10 x11).bind fun x12 =>
 (f_graph_Check_j3 F x9) (decide (0 ≤ x12))) (
 (f_graph_Check_j3 F x9) false)) (
 Option.map Sum.inr (f_graph_Check_j2 F ()))
theorem le_graph_Check_l1 {F : Nat} {x1 : Graph} : ∀ s, ole (f_graph_Check_l1 F x1 s) (m_graph_Check_l1 x1 s) := by
  intro x9
  unfold f_graph_Check_l1 m_graph_Check_l1
  try dsimp only
  with_reducible repeat' first | exact ole_refl _ | assumption | intro _ | refine ole_ifb ?_ ?_ | refine ole_bind ?_ ?_ | refine ole_map ?_ | refine ole_loop ?_ | apply le_graph_Check_j2 | apply le_graph_Check_j3 | apply le_graph_rank
def f_graph_Check_j1 (F : Nat) (x1 : Graph) : Bool → Option Int
| x3 =>
 ifb x3 (
 some 30) (
 loopF F (f_graph_Check_l1 F x1) 0)
theorem le_graph_Check_j1 {F : Nat} {x1 : Graph} : ∀ s, ole (f_graph_Check_j1 F x1 s) (m_graph_Check_j1 x1 s) := by
  intro x3
  unfold f_graph_Check_j1 m_graph_Check_j1
  try dsimp only
  with_reducible repeat' first | exact ole_refl _ | assumption | intro _ | refine ole_ifb ?_ ?_ | refine ole_bind ?_ ?_ | refine ole_map ?_ | refine ole_loop ?_ | apply le_graph_Check_j2 | apply le_graph_Check_j3 | apply le_graph_rank | apply le_graph_Check_l1
def f_graph_Check (F : Nat) (x1 : Graph) : Option Int :=
 ifb (decide (x1.N < 0)) (
 (f_graph_Check_j1 F x1) true) (
 ifb (decide (64 < x1.N)) (
 (f_graph_Check_j1 F x1) true) (
 ifb (decide (400 < (ln Edge.row x1.Edges))) (
 (f_graph_Check_j1 F x1) true) (
 (f_slices_ContainsFunc_Edge F x1.Edges ((fun z => f_graph_Check_1 F z x1))).bind fun x2 =>
 (f_graph_Check_j1 F x1) x2)))
theorem le_graph_Check {F : Nat} {x1 : Graph} : ole (f_graph_Check F x1) (m_graph_Check x1) := by
  unfold f_graph_Check m_graph_Check
  with_reducible repeat' first | exact ole_refl _ | assumption | intro _ | refine ole_ifb ?_ ?_ | refine ole_bind ?_ ?_ | refine ole_map ?_ | refine ole_loop ?_ | apply le_graph_Check_j2 | apply le_graph_Check_j3 | apply le_graph_rank | apply le_graph_Check_l1 | apply le_graph_Check_j1 | apply le_slices_ContainsFunc_Edge | apply le_graph_Check_1
end NX
end Go.Proofs.Ytadebhbiglmodaa
/-
  The function slices.IndexFunc[[]int,int]: its code compiled, a model, and that the code answers as the model. Written by a program of ours (lb.py). No statement of the seat is proved here.
-/
namespace Go.Proofs.Ytadebhbiglmodaa
namespace NX
open Go
set_option maxRecDepth 100000
set_option maxHeartbeats 4000000
def e111_L0 : EC := .seq (.reg [⟨(some 9), none, .bin .lss (.t 8) (.t 7)⟩]) (.seq (.ite (.t 9) (.skip) (.exit 0)) (.seq (.blk 1 (.seq (.reg [⟨(some 10), none, .mv (.t 8)⟩, ⟨(some 5), none, .mv (.t 10)⟩]) (.seq (.reg [⟨(some 11), none, .mv (.t 1)⟩, ⟨(some 12), none, .mv (.t 0)⟩, ⟨(some 13), none, .mv (.t 5)⟩, ⟨(some 14), none, .idx 1 (.t 12) (.t 13)⟩, ⟨(some 15), none, .load (.t 14)⟩, ⟨(some 16), none, .callv (.t 11) [(.t 15)]⟩]) (.ite (.t 16) (.seq (.reg [⟨(some 17), none, .mv (.t 5)⟩, ⟨(some 4), none, .mv (.t 17)⟩]) (.ret)) (.skip))))) (.reg [⟨(some 18), none, .bin .add (.t 8) (.c (.iv 1))⟩, ⟨(some 8), none, .mv (.t 18)⟩])))
def e111 : EC := .seq (.reg [⟨(some 4), none, .mv (.c (.iv 0))⟩]) (.seq (.seq (.reg [⟨(some 6), none, .mv (.t 0)⟩, ⟨(some 7), none, .len (.t 6)⟩, ⟨(some 8), none, .mv (.c (.iv 0))⟩]) (.blk 0 (.loop e111_L0))) (.seq (.reg [⟨(some 4), none, .mv (.c (.iv (-1)))⟩]) (.ret)))
theorem ok111 : FnOK Try.prog 111 Try.f111 e111 [.t 4] 2 17 := ⟨by kernel_rfl, ⟨_, rfl, by kernel_rfl⟩, by kernel_rfl, by kernel_rfl⟩
/- slices.IndexFunc[[]int,int] -/
noncomputable def m_slices_IndexFunc_int_j1  : Unit → Option Int
| () =>
 some (-1)
noncomputable def m_slices_IndexFunc_int_l1 (x1 : (List Int)) (p1 : (Int → Option Bool)) : Int → Option (Int ⊕ Int)
| x5 =>
 ifb (decide (x5 < (ln intRow x1))) (
 (at_ x1 x5).bind fun x6 =>
 (p1 x6).bind fun x7 =>
 ifb x7 (
 Option.map Sum.inr (some x5)) (
 some (.inl (wr (x5 + 1))))) (
 Option.map Sum.inr (m_slices_IndexFunc_int_j1 ()))
noncomputable def m_slices_IndexFunc_int (x1 : (List Int)) (p1 : (Int → Option Bool)) : Option Int :=
 loop (m_slices_IndexFunc_int_l1 x1 p1) 0
theorem k_slices_IndexFunc_int (x1 : (List Int)) (g1 : Nat) (caps1 : List AV) (p1 : (Int → Option Bool)) (hc1 : CloOK Try.prog g1 caps1 (fun z => [.iv z]) p1 (fun z => .bv z)) (r : Int) (h : m_slices_IndexFunc_int x1 p1 = some r) : FunP Try.prog 111 [.sl 1 (List.map intRow x1), .clo g1 caps1] (.iv r) := by
  refine FunP_intro ok111 rfl rfl fun w0 H0 => ?_
  rw [m_slices_IndexFunc_int] at h
  refine V_go 11 ?_; dsimp only [e111, e111_L0, go_sem, Nat.reduceBEq, Nat.reduceAdd]; refine ⟨by simp, ?_⟩; refine V_join (fun (_ : Unit) => (⟨(an 19 []), [], []⟩ : St)) m_slices_IndexFunc_int_j1 r ?_ fun J1 => ?_
  ·rintro ⟨⟩ h; rw [m_slices_IndexFunc_int_j1] at h; (try dsimp only); refine V_go 4 ?_; dsimp only [e111, e111_L0, go_sem, Nat.reduceBEq, Nat.reduceAdd]; refine ⟨by simp, ?_⟩; exact M_done (res := fun (r : Int) => .iv r) ok111 h
  ·refine V_go 1 ?_; dsimp only [e111, e111_L0, go_sem, Nat.reduceBEq, Nat.reduceAdd]; refine ⟨by simp, ?_⟩; refine M_loop h (fun (x5 : Int) => (⟨(.sl 1 (List.map intRow x1) :: .clo g1 caps1 :: an 5 (.iv (ln intRow x1) :: .iv x5 :: an 10 [])), [], []⟩ : St)) (by simp [go_sem]) (by intro x5; first | rfl | simp [go_sem, puL_ok _ hc1.pu]) ?_; rintro n1 x5 y1 h hin1 hout1; rw [m_slices_IndexFunc_int_l1] at h; (try dsimp only); refine V_go 5 ?_; dsimp only [e111, e111_L0, go_sem, Nat.reduceBEq, Nat.reduceAdd]; refine ⟨by simp, ?_⟩; refine M_ite h rfl (fun _ h => ?_) fun _ h => ?_
   ·refine V_go 13 ?_; dsimp only [e111, e111_L0, go_sem, Nat.reduceBEq, Nat.reduceAdd]; refine ⟨by simp, ?_⟩; obtain ⟨x6, ex6, h⟩ := Option.bind_eq_some_iff.1 h; refine V_idxM intRow ex6 trivial rfl rfl rfl ?_; refine V_go 1 ?_; dsimp only [e111, e111_L0, go_sem, Nat.reduceBEq, Nat.reduceAdd]; refine ⟨by simp, ?_⟩; obtain ⟨x7, ex7, h⟩ := Option.bind_eq_some_iff.1 h; refine V_callp trivial rfl hc1 (x := x6) ex7 (by first | exact leL_refl _ | simp [go_sem]) (by first | rfl | simp [go_sem, hc1.pu]) ?_; refine V_go 1 ?_; dsimp only [e111, e111_L0, go_sem, Nat.reduceBEq, Nat.reduceAdd]
    refine ⟨by simp, ?_⟩; refine M_ite h rfl (fun _ h => ?_) fun _ h => ?_
    ·refine V_go 5 ?_; dsimp only [e111, e111_L0, go_sem, Nat.reduceBEq, Nat.reduceAdd]; refine ⟨by simp, ?_⟩; exact M_done (res := fun (r : Int) => .iv r) ok111 (M_out h hout1)
    ·refine V_go 6 ?_; dsimp only [e111, e111_L0, go_sem, Nat.reduceBEq, Nat.reduceAdd]; refine ⟨by simp, ?_⟩; exact M_back h hin1 (hok := by first | rfl | simp [go_sem, puL_ok _ hc1.pu])
   ·refine V_go 1 ?_; dsimp only [e111, e111_L0, go_sem, Nat.reduceBEq, Nat.reduceAdd]; refine ⟨by simp, ?_⟩; exact M_to J1 (s := ()) (M_out h hout1) (hok := by first | rfl | simp [go_sem, puL_ok _ hc1.pu])
def f_slices_IndexFunc_int_j1 (_F : Nat)  : Unit → Option Int
| () =>
 some (-1)
theorem le_slices_IndexFunc_int_j1 {F : Nat} : ∀ s, ole (f_slices_IndexFunc_int_j1 F s) (m_slices_IndexFunc_int_j1 s) := by
  rintro ⟨⟩
  unfold f_slices_IndexFunc_int_j1 m_slices_IndexFunc_int_j1
  try dsimp only
  with_reducible repeat' first | exact ole_refl _ | assumption | intro _ | refine ole_ifb ?_ ?_ | refine ole_bind ?_ ?_ | refine ole_map ?_ | refine ole_loop ?_ | apply h_p1
def f_slices_IndexFunc_int_l1 (F : Nat) (x1 : (List Int)) (p1 : (Int → Option Bool)) : Int → Option (Int ⊕ Int)
| x5 =>
 ifb (decide (x5 < (ln intRow x1))) (
 (at_ x1 x5).bind fun x6 =>
 (p1 x6).bind fun x7 =>
 ifb x7 (
 Option.map Sum.inr (some x5)) (
 some (.inl (wr (x5 + 1))))) (
 Option.map Sum.inr (f_slices_IndexFunc_int_j1 F ()))
theorem le_slices_IndexFunc_int_l1 {F : Nat} {x1 : (List Int)} {p1 q1 : (Int → Option Bool)} (h_p1 : ∀ z, ole (p1 z) (q1 z)) : ∀ s, ole (f_slices_IndexFunc_int_l1 F x1 p1 s) (m_slices_IndexFunc_int_l1 x1 q1 s) := by
  intro x5
  unfold f_slices_IndexFunc_int_l1 m_slices_IndexFunc_int_l1
  try dsimp only
  with_reducible repeat' first | exact ole_refl _ | assumption | intro _ | refine ole_ifb ?_ ?_ | refine ole_bind ?_ ?_ | refine ole_map ?_ | refine ole_loop ?_ | apply le_slices_IndexFunc_int_j1 | apply h_p1
def f_slices_IndexFunc_int (F : Nat) (x1 : (List Int)) (p1 : (Int → Option Bool)) : Option Int :=
 loopF F (f_slices_IndexFunc_int_l1 F x1 p1) 0
theorem le_slices_IndexFunc_int {F : Nat} {x1 : (List Int)} {p1 q1 : (Int → Option Bool)} (h_p1 : ∀ z, ole (p1 z) (q1 z)) : ole (f_slices_IndexFunc_int F x1 p1) (m_slices_IndexFunc_int x1 q1) := by
  unfold f_slices_IndexFunc_int m_slices_IndexFunc_int
  with_reducible repeat' first | exact ole_refl _ | assumption | intro _ | refine ole_ifb ?_ ?_ | refine ole_bind ?_ ?_ | refine ole_map ?_ | refine ole_loop ?_ | apply le_slices_IndexFunc_int_j1 | apply le_slices_IndexFunc_int_l1 | apply h_p1
end NX
end Go.Proofs.Ytadebhbiglmodaa
/-
  The function slices.ContainsFunc[[]int,int]: its code compiled, a model, and that the code answers as the model. Written by a program of ours (lb.py). No statement of the seat is proved here.
-/
namespace Go.Proofs.Ytadebhbiglmodaa
namespace NX
open Go
set_option maxRecDepth 100000
set_option maxHeartbeats 4000000
def e82 : EC := .seq (.reg [⟨(some 4), none, .mv (.c .ff)⟩]) (.seq (.reg [⟨(some 5), none, .mv (.t 0)⟩, ⟨(some 6), none, .mv (.t 1)⟩, ⟨(some 7), none, .call 111 [(.t 5), (.t 6)]⟩, ⟨(some 8), none, .bin .geq (.t 7) (.c (.iv 0))⟩, ⟨(some 4), none, .mv (.t 8)⟩]) (.ret))
theorem ok82 : FnOK Try.prog 82 Try.f82 e82 [.t 4] 2 7 := ⟨by kernel_rfl, ⟨_, rfl, by kernel_rfl⟩, by kernel_rfl, by kernel_rfl⟩
/- slices.ContainsFunc[[]int,int] -/
noncomputable def m_slices_ContainsFunc_int (x1 : (List Int)) (p1 : (Int → Option Bool)) : Option Bool :=
 (m_slices_IndexFunc_int x1 p1).bind fun x2 =>
 some (decide (0 ≤ x2))
theorem k_slices_ContainsFunc_int (x1 : (List Int)) (g1 : Nat) (caps1 : List AV) (p1 : (Int → Option Bool)) (hc1 : CloOK Try.prog g1 caps1 (fun z => [.iv z]) p1 (fun z => .bv z)) (r : Bool) (h : m_slices_ContainsFunc_int x1 p1 = some r) : FunP Try.prog 82 [.sl 1 (List.map intRow x1), .clo g1 caps1] (.bv r) := by
  refine FunP_intro ok82 rfl rfl fun w0 H0 => ?_
  rw [m_slices_ContainsFunc_int] at h
  refine V_go 8 ?_; dsimp only [e82, go_sem, Nat.reduceBEq, Nat.reduceAdd]; refine ⟨by simp, ?_⟩; obtain ⟨x2, ex2, h⟩ := Option.bind_eq_some_iff.1 h; refine V_call trivial (k_slices_IndexFunc_int x1 _ _ p1 hc1 _ ex2) (hp := (by first | rfl | simp [go_sem, hc1.pu])) (h := ?_); refine V_go 3 ?_; dsimp only [e82, go_sem, Nat.reduceBEq, Nat.reduceAdd]; refine ⟨by simp, ?_⟩; exact M_done (res := fun (r : Bool) => .bv r) ok82 h
def f_slices_ContainsFunc_int (F : Nat) (x1 : (List Int)) (p1 : (Int → Option Bool)) : Option Bool :=
 (f_slices_IndexFunc_int F x1 p1).bind fun x2 =>
 some (decide (0 ≤ x2))
theorem le_slices_ContainsFunc_int {F : Nat} {x1 : (List Int)} {p1 q1 : (Int → Option Bool)} (h_p1 : ∀ z, ole (p1 z) (q1 z)) : ole (f_slices_ContainsFunc_int F x1 p1) (m_slices_ContainsFunc_int x1 q1) := by
  unfold f_slices_ContainsFunc_int m_slices_ContainsFunc_int
  with_reducible repeat' first | exact ole_refl _ | assumption | intro _ | refine ole_ifb ?_ ?_ | refine ole_bind ?_ ?_ | refine ole_map ?_ | refine ole_loop ?_ | apply le_slices_IndexFunc_int | apply h_p1
end NX
end Go.Proofs.Ytadebhbiglmodaa
/-
  Plain laws: Go's library over the program's data, and packages graph and colour. No statement of the seat is proved here.
-/
namespace Go.Proofs.Ytadebhbiglmodaa
namespace NX
open Go
theorem s_IndexFunc_Edge (l : List Edge) (p : Edge → Option Bool) (q : Edge → Bool) (hl : l.length ≤ 4000000000000000000) (hp : ∀ x ∈ l, p x = some (q x)) : m_slices_IndexFunc_Edge l p = some (plc (l.findIdx? q)) := by
  unfold m_slices_IndexFunc_Edge
  refine loop_place l _ q hl (fun k x hx => ?_) ?_
  · simp only [m_slices_IndexFunc_Edge_l1, lt_len hx, ifb_true, at_get hx, Option.bind_some, hp x (List.mem_iff_getElem?.2 ⟨k, hx⟩), wr_succ' hx hl]
    cases q x <;> rfl
  · simp only [m_slices_IndexFunc_Edge_l1, nlt_len, ifb_false, m_slices_IndexFunc_Edge_j1, Option.map_some]
theorem s_IndexFunc_int (l : List Int) (p : Int → Option Bool) (q : Int → Bool) (hl : l.length ≤ 4000000000000000000) (hp : ∀ x ∈ l, p x = some (q x)) : m_slices_IndexFunc_int l p = some (plc (l.findIdx? q)) := by
  unfold m_slices_IndexFunc_int
  refine loop_place l _ q hl (fun k x hx => ?_) ?_
  · simp only [m_slices_IndexFunc_int_l1, lt_len hx, ifb_true, at_get hx, Option.bind_some, hp x (List.mem_iff_getElem?.2 ⟨k, hx⟩), wr_succ' hx hl]
    cases q x <;> rfl
  · simp only [m_slices_IndexFunc_int_l1, nlt_len, ifb_false, m_slices_IndexFunc_int_j1, Option.map_some]
theorem s_IndexFunc_Side (l : List Side) (p : Side → Option Bool) (q : Side → Bool) (hl : l.length ≤ 4000000000000000000) (hp : ∀ x ∈ l, p x = some (q x)) : m_slices_IndexFunc_Side l p = some (plc (l.findIdx? q)) := by
  unfold m_slices_IndexFunc_Side
  refine loop_place l _ q hl (fun k x hx => ?_) ?_
  · simp only [m_slices_IndexFunc_Side_l1, lt_len hx, ifb_true, at_get hx, Option.bind_some, hp x (List.mem_iff_getElem?.2 ⟨k, hx⟩), wr_succ' hx hl]
    cases q x <;> rfl
  · simp only [m_slices_IndexFunc_Side_l1, nlt_len, ifb_false, m_slices_IndexFunc_Side_j1, Option.map_some]
theorem s_ContainsFunc_Edge (l : List Edge) (p : Edge → Option Bool) (q : Edge → Bool) (hl : l.length ≤ 4000000000000000000) (hp : ∀ x ∈ l, p x = some (q x)) : m_slices_ContainsFunc_Edge l p = some (l.any q) := by
  unfold m_slices_ContainsFunc_Edge
  rw [s_IndexFunc_Edge l p q hl hp, Option.bind_some, plc_nonneg, findIdx_any]
theorem s_ContainsFunc_int (l : List Int) (p : Int → Option Bool) (q : Int → Bool) (hl : l.length ≤ 4000000000000000000) (hp : ∀ x ∈ l, p x = some (q x)) : m_slices_ContainsFunc_int l p = some (l.any q) := by
  unfold m_slices_ContainsFunc_int
  rw [s_IndexFunc_int l p q hl hp, Option.bind_some, plc_nonneg, findIdx_any]
def cmpI (a b : Int) : Int := if a < b then -1 else if b < a then 1 else 0
theorem s_Compare (a b : Int) : m_cmp_Compare_int a b = some (cmpI a b) := by
  simp only [m_cmp_Compare_int, m_cmp_isNaN_int, Option.bind_some, cmpI]
  by_cases h1 : a < b <;> by_cases h2 : b < a <;> simp [h1, h2, ifb]
theorem s_Or (a b : Int) : m_cmp_Or_int [a, b] = some (if a ≠ 0 then a else b) := by
  unfold m_cmp_Or_int
  rw [loop_eq]
  simp only [m_cmp_Or_int_l1, ln_eq, List.length_cons, List.length_nil]
  by_cases ha : a = 0
  · subst ha
    simp [at_]
    rw [show wr 1 = 1 from wr_id (by omega) (by omega), loop_eq]
    simp only [m_cmp_Or_int_l1, ln_eq, List.length_cons, List.length_nil]
    by_cases hb : b = 0
    · subst hb
      simp [at_]
      rw [show wr 2 = 2 from wr_id (by omega) (by omega), loop_eq]
      simp [m_cmp_Or_int_l1, ln_eq, m_cmp_Or_int_j1]
    · simp [at_, hb]
  · simp [at_, ha]
/-- The order of edges. -/
def Edge.lt (x y : Edge) : Bool := decide (x.A < y.A) || (decide (x.A = y.A) && decide (x.B < y.B))
theorem s_rank (x y : Edge) : ∃ n, m_graph_rank x y = some n ∧ decide (0 ≤ n) = !x.lt y := by
  refine ⟨if cmpI x.A y.A ≠ 0 then cmpI x.A y.A else cmpI x.B y.B, by simp only [m_graph_rank, s_Compare, Option.bind_some, s_Or], ?_⟩
  unfold cmpI Edge.lt
  by_cases h1 : x.A < y.A
  · simp [h1]
  · by_cases h2 : y.A < x.A
    · have : x.A ≠ y.A := by omega
      simp [h1, h2, this]
    · have : x.A = y.A := by omega
      simp [this]
      by_cases h3 : x.B < y.B
      · simp [h3]
      · by_cases h4 : y.B < x.B <;> simp [h3, h4] <;> omega
def Edge.ok (n : Int) (e : Edge) : Bool := decide (0 ≤ e.A) && (decide (e.A < e.B) && decide (e.B < n))
/-- Each one lies ahead of the next one. -/
def risB : List Edge → Bool
  | x :: y :: l => x.lt y && risB (y :: l)
  | _ => true
theorem risB_iff (l : List Edge) : risB l = true ↔ ∀ k x y, l[k]? = some x → l[k + 1]? = some y → x.lt y = true := by
  induction l with
  | nil => simp [risB]
  | cons a l ih =>
    cases l with
    | nil => simp [risB]
    | cons b l =>
      simp only [risB, Bool.and_eq_true, ih]
      constructor
      · rintro ⟨h1, h2⟩ k x y hx hy
        cases k with
        | zero => simp at hx hy; subst hx; subst hy; exact h1
        | succ k => exact h2 k x y (by simpa using hx) (by simpa using hy)
      · intro h
        exact ⟨h 0 a b (by simp) (by simp), fun k x y hx hy => h (k + 1) x y (by simpa using hx) (by simpa using hy)⟩
/-- A graph that may be. -/
def okG (g : Graph) : Bool := decide (0 ≤ g.N) && (decide (g.N ≤ 64) && (decide (g.Edges.length ≤ 400) && (g.Edges.all (Edge.ok g.N) && risB g.Edges)))
theorem s_Check1 (e : Edge) (g : Graph) : m_graph_Check_1 e g = some (!e.ok g.N) := by
  simp only [m_graph_Check_1, m_graph_Check_1_j1, Edge.ok]
  by_cases h1 : e.A < 0
  · have : ¬ 0 ≤ e.A := by omega
    simp [h1, this]
  · have h1' : 0 ≤ e.A := by omega
    by_cases h2 : e.B ≤ e.A
    · have : ¬ e.A < e.B := by omega
      simp [h1, h2, this]
    · have h2' : e.A < e.B := by omega
      by_cases h3 : g.N ≤ e.B
      · have : ¬ e.B < g.N := by omega
        simp [h1, h2, h3, this]
      · have : e.B < g.N := by omega
        simp [h1, h2, h3, this, h1', h2']
/-- A loop that asks each one and the one ahead of it. -/
theorem loop_pairs {β : Type} (l : List Edge) (body : Int → Option (Int ⊕ β)) (yes no : β) (q : Edge → Bool) (_ : l.length ≤ 4000000000000000000)
    (hb : ∀ (k : Nat) x, l[k]? = some x → body k = some (if q x || (match k with | 0 => false | k + 1 => match l[k]? with | some y => !y.lt x | none => false) then .inr yes else .inl ((k + 1 : Nat) : Int))) (he : body l.length = some (.inr no)) :
    loop body 0 = some (if l.all (fun x => !q x) && risB l then no else yes) := by
  have key : ∀ m k, m + k = l.length → (∀ j x, j < k → l[j]? = some x → q x = false) → (∀ j x y, j + 1 < k → l[j]? = some x → l[j + 1]? = some y → x.lt y = true) → loop body (k : Int) = some (if l.all (fun x => !q x) && risB l then no else yes) := by
    intro m
    induction m with
    | zero =>
      intro k hk h1 h2
      have : k = l.length := by omega
      subst this
      rw [loop_eq, he]
      have a1 : l.all (fun x => !q x) = true := by
        rw [List.all_eq_true]
        intro x hx
        obtain ⟨j, hj⟩ := List.mem_iff_getElem?.1 hx
        simp [h1 j x (List.getElem?_eq_some_iff.1 hj).1 hj]
      have a2 : risB l = true := by
        rw [risB_iff]
        intro j x y hx hy
        exact h2 j x y (List.getElem?_eq_some_iff.1 hy).1 hx hy
      simp [a1, a2]
    | succ m ih =>
      intro k hk h1 h2
      have hlt : k < l.length := by omega
      have hx : l[k]? = some l[k] := List.getElem?_eq_getElem hlt
      rw [loop_eq, hb k _ hx]
      by_cases hq : q l[k] = true
      · have : l.all (fun x => !q x) = false := by
          rw [List.all_eq_false]
          exact ⟨l[k], List.getElem_mem hlt, by simp [hq]⟩
        simp [hq, this]
      · have hq : q l[k] = false := by simpa using hq
        cases k with
        | zero =>
          simp only [hq, Bool.or_false, Bool.false_eq_true, if_false]
          refine ih 1 (by omega) (fun j x hj hjx => ?_) (fun j x y hj => by omega)
          have : j = 0 := by omega
          subst this
          rw [hx] at hjx; simp at hjx; rw [← hjx]; exact hq
        | succ k =>
          have hy : l[k]? = some l[k] := List.getElem?_eq_getElem (by omega)
          simp only [hq, hy, Bool.false_or]
          by_cases hr : l[k].lt l[k + 1] = true
          · simp only [hr, Bool.not_true, Bool.false_eq_true, if_false]
            refine ih (k + 1 + 1) (by omega) (fun j x hj hjx => ?_) (fun j x y hj hjx hjy => ?_)
            · rcases Nat.lt_succ_iff_lt_or_eq.1 hj with h | rfl
              · exact h1 j x h hjx
              · rw [hx] at hjx; simp at hjx; rw [← hjx]; exact hq
            · rcases Nat.lt_succ_iff_lt_or_eq.1 (Nat.succ_lt_succ_iff.1 hj) with h | rfl
              · exact h2 j x y (by omega) hjx hjy
              · rw [hy] at hjx; rw [hx] at hjy; simp at hjx hjy; rw [← hjx, ← hjy]; exact hr
          · have hr : l[k].lt l[k + 1] = false := by simpa using hr
            have : risB l = false := by
              cases h : risB l with
              | false => rfl
              | true => rw [risB_iff] at h; have := h k _ _ hy hx; rw [hr] at this; exact absurd this (by simp)
            simp [hr, this]
  exact key l.length 0 (by omega) (fun j x hj => by omega) (fun j x y hj => by omega)
theorem wr_pred {k : Nat} (h : k ≤ 4000000000000000000) : wr (((k + 1 : Nat) : Int) - 1) = (k : Int) := by
  rw [wr_id (by omega) (by omega)]; omega
theorem s_Check (g : Graph) : m_graph_Check g = some (if okG g then 0 else 30) := by
  simp only [m_graph_Check, m_graph_Check_j1]
  by_cases h1 : g.N < 0
  · have : ¬ 0 ≤ g.N := by omega
    simp [h1, okG, this]
  by_cases h2 : 64 < g.N
  · have : ¬ g.N ≤ 64 := by omega
    simp [h1, h2, okG, this]
  by_cases h3 : 400 < g.Edges.length
  · have : ¬ g.Edges.length ≤ 400 := by omega
    have h3' : (400 : Int) < ln Edge.row g.Edges := by rw [ln_eq]; omega
    simp [h1, h2, h3', okG, this]
  have h3' : ¬ (400 : Int) < ln Edge.row g.Edges := by rw [ln_eq]; omega
  rw [s_ContainsFunc_Edge g.Edges _ (fun e => !e.ok g.N) (by omega) (fun x _ => s_Check1 x g)]
  have e1 : 0 ≤ g.N := by omega
  have e2 : g.N ≤ 64 := by omega
  have e3 : g.Edges.length ≤ 400 := by omega
  simp only [h1, h2, h3', decide_false, ifb_false, Option.bind_some, okG, e1, e2, e3, decide_true, Bool.true_and]
  by_cases h4 : g.Edges.any (fun e => !e.ok g.N) = true
  · have h5 : g.Edges.all (Edge.ok g.N) = false := by
      rw [List.any_eq_true] at h4
      obtain ⟨x, hx, hq⟩ := h4
      rw [List.all_eq_false]; exact ⟨x, hx, by simpa using hq⟩
    simp [h4, h5]
  · have h4 : g.Edges.any (fun e => !e.ok g.N) = false := by simpa using h4
    have h5 : g.Edges.all (Edge.ok g.N) = true := by
      rw [List.any_eq_false] at h4
      rw [List.all_eq_true]; intro x hx; simpa using h4 x hx
    simp only [h4, h5, ifb_false, Bool.true_and]
    have key := loop_pairs g.Edges (m_graph_Check_l1 g) 30 0 (fun _ => false) (by omega) (fun k x hx => by
      cases k with
      | zero =>
        have := lt_len (f := Edge.row) hx
        simp only [m_graph_Check_l1, this, ifb_true, m_graph_Check_j3]
        simp
        exact wr_succ' hx (by omega)
      | succ k =>
        have hk := (List.getElem?_eq_some_iff.1 hx).1
        have hy : g.Edges[k]? = some g.Edges[k] := List.getElem?_eq_getElem (by omega)
        obtain ⟨n, hn1, hn2⟩ := s_rank g.Edges[k] x
        have h0 : decide ((0 : Int) < ((k + 1 : Nat) : Int)) = true := decide_eq_true (by omega)
        simp only [m_graph_Check_l1, lt_len hx, ifb_true, h0, wr_pred (show k ≤ 4000000000000000000 by omega), at_get hy, at_get hx, Option.bind_some, hn1, hn2, m_graph_Check_j3, hy, Bool.false_or]
        cases g.Edges[k].lt x
        · simp
        · simp only [Bool.not_true, Bool.false_eq_true, if_false, ifb_false]; rw [wr_succ' hx (show g.Edges.length ≤ 4000000000000000000 by omega)])
      (by simp only [m_graph_Check_l1, nlt_len, ifb_false, m_graph_Check_j2, Option.map_some])
    rw [key]
    simp
theorem okG_parts {g : Graph} (h : okG g = true) : 0 ≤ g.N ∧ g.N ≤ 64 ∧ g.Edges.length ≤ 400 ∧ (∀ e ∈ g.Edges, 0 ≤ e.A ∧ e.A < e.B ∧ e.B < g.N) ∧ risB g.Edges = true := by
  simp only [okG, Bool.and_eq_true, decide_eq_true_eq, List.all_eq_true, Edge.ok] at h
  exact ⟨h.1, h.2.1, h.2.2.1, fun e he => h.2.2.2.1 e he, h.2.2.2.2⟩
theorem all_not_any {α : Type} (l : List α) (p : α → Bool) : l.all (fun x => !p x) = !l.any p := by
  induction l with
  | nil => rfl
  | cons x l ih => simp [ih]
theorem any_not_all {α : Type} (l : List α) (p q : α → Bool) (h : ∀ x, p x = !q x) : l.any p = !l.all q := by
  induction l with
  | nil => rfl
  | cons x l ih => simp [ih, h]
end NX
end Go.Proofs.Ytadebhbiglmodaa
/-
  The function slices.EqualFunc[[]narthex/api.Diner,[]narthex/api.Diner,narthex/api.Diner,narthex/api.Diner]: its code compiled, a model, and that the code answers as the model. Written by a program of ours (lb.py). No statement of the seat is proved here.
-/
namespace Go.Proofs.Ytadebhbiglmodaa
namespace NX
open Go
set_option maxRecDepth 100000
set_option maxHeartbeats 4000000
def e57_L0 : EC := .seq (.reg [⟨(some 18), none, .bin .lss (.t 17) (.t 16)⟩]) (.seq (.ite (.t 18) (.skip) (.exit 0)) (.seq (.blk 1 (.seq (.reg [⟨(some 19), none, .mv (.t 17)⟩, ⟨(some 20), none, .idx 3 (.t 15) (.t 17)⟩, ⟨(some 21), none, .loadA 3 (.t 20)⟩, ⟨(some 8), none, .alloc 39 [.iv 0, .iv 0, .nl]⟩, ⟨(some 7), none, .mv (.t 19)⟩, ⟨none, none, .store 3 (.t 8) (.t 21)⟩]) (.seq (.reg [⟨(some 22), none, .mv (.t 1)⟩, ⟨(some 23), none, .mv (.t 7)⟩, ⟨(some 24), none, .idx 3 (.t 22) (.t 23)⟩, ⟨(some 25), none, .loadA 3 (.t 24)⟩, ⟨(some 9), none, .alloc 39 [.iv 0, .iv 0, .nl]⟩, ⟨none, none, .store 3 (.t 9) (.t 25)⟩]) (.seq (.reg [⟨(some 26), none, .mv (.t 2)⟩, ⟨(some 27), none, .loadA 3 (.t 8)⟩, ⟨(some 28), none, .loadA 3 (.t 9)⟩, ⟨(some 29), none, .callv (.t 26) [(.t 27), (.t 28)]⟩, ⟨(some 30), none, .not (.t 29)⟩]) (.ite (.t 30) (.seq (.reg [⟨(some 6), none, .mv (.c .ff)⟩]) (.ret)) (.skip)))))) (.reg [⟨(some 31), none, .bin .add (.t 17) (.c (.iv 1))⟩, ⟨(some 17), none, .mv (.t 31)⟩])))
def e57 : EC := .seq (.reg [⟨(some 6), none, .mv (.c .ff)⟩]) (.seq (.seq (.reg [⟨(some 10), none, .mv (.t 0)⟩, ⟨(some 11), none, .len (.t 10)⟩, ⟨(some 12), none, .mv (.t 1)⟩, ⟨(some 13), none, .len (.t 12)⟩, ⟨(some 14), none, .bin .neq (.t 11) (.t 13)⟩]) (.ite (.t 14) (.seq (.reg [⟨(some 6), none, .mv (.c .ff)⟩]) (.ret)) (.skip))) (.seq (.seq (.reg [⟨(some 15), none, .mv (.t 0)⟩, ⟨(some 16), none, .len (.t 15)⟩, ⟨(some 17), none, .mv (.c (.iv 0))⟩]) (.blk 0 (.loop e57_L0))) (.seq (.reg [⟨(some 6), none, .mv (.c .tt)⟩]) (.ret))))
theorem ok57 : FnOK Try.prog 57 Try.f57 e57 [.t 6] 3 29 := ⟨by kernel_rfl, ⟨_, rfl, by kernel_rfl⟩, by kernel_rfl, by kernel_rfl⟩
/- slices.EqualFunc[[]narthex/api.Diner,[]narthex/api.Diner,narthex/api.Diner,narthex/api.Diner] -/
noncomputable def m_slices_EqualFunc_Diner_j1  : Unit → Option Bool
| () =>
 some true
noncomputable def m_slices_EqualFunc_Diner_l1 (x1 : (List Diner)) (x2 : (List Diner)) (p2 : ((Diner × Diner) → Option Bool)) : Int → Option (Int ⊕ Bool)
| x7 =>
 ifb (decide (x7 < (ln Diner.row x1))) (
 (at_ x1 x7).bind fun x8 =>
 (at_ x2 x7).bind fun x9 =>
 (p2 (x8, x9)).bind fun x10 =>
 ifb (!x10) (
 Option.map Sum.inr (some false)) (
 some (.inl (wr (x7 + 1))))) (
 Option.map Sum.inr (m_slices_EqualFunc_Diner_j1 ()))
noncomputable def m_slices_EqualFunc_Diner (x1 : (List Diner)) (x2 : (List Diner)) (p2 : ((Diner × Diner) → Option Bool)) : Option Bool :=
 ifb (!decide ((ln Diner.row x1) = (ln Diner.row x2))) (
 some false) (
 loop (m_slices_EqualFunc_Diner_l1 x1 x2 p2) 0)
theorem k_slices_EqualFunc_Diner (x1 : (List Diner)) (x2 : (List Diner)) (g2 : Nat) (caps2 : List AV) (p2 : ((Diner × Diner) → Option Bool)) (hc2 : CloOK Try.prog g2 caps2 (fun z => [.agg (Diner.row z.1), .agg (Diner.row z.2)]) p2 (fun z => .bv z)) (r : Bool) (h : m_slices_EqualFunc_Diner x1 x2 p2 = some r) : FunP Try.prog 57 [.sl 3 (List.map Diner.row x1), .sl 3 (List.map Diner.row x2), .clo g2 caps2] (.bv r) := by
  refine FunP_intro ok57 rfl rfl fun w0 H0 => ?_
  rw [m_slices_EqualFunc_Diner] at h
  refine V_go 13 ?_; dsimp only [e57, e57_L0, go_sem, Nat.reduceBEq, Nat.reduceAdd]; refine ⟨by simp, ?_⟩; refine M_ite h rfl (fun _ h => ?_) fun _ h => ?_
  ·refine V_go 4 ?_; dsimp only [e57, e57_L0, go_sem, Nat.reduceBEq, Nat.reduceAdd]; refine ⟨by simp, ?_⟩; exact M_done (res := fun (r : Bool) => .bv r) ok57 h
  ·refine V_go 8 ?_; dsimp only [e57, e57_L0, go_sem, Nat.reduceBEq, Nat.reduceAdd]; refine ⟨by simp, ?_⟩; refine V_join (fun (_ : Unit) => (⟨(an 32 []), [], []⟩ : St)) m_slices_EqualFunc_Diner_j1 r ?_ fun J1 => ?_
   ·rintro ⟨⟩ h; rw [m_slices_EqualFunc_Diner_j1] at h; (try dsimp only); refine V_go 4 ?_; dsimp only [e57, e57_L0, go_sem, Nat.reduceBEq, Nat.reduceAdd]; refine ⟨by simp, ?_⟩; exact M_done (res := fun (r : Bool) => .bv r) ok57 h
   ·refine V_go 1 ?_; dsimp only [e57, e57_L0, go_sem, Nat.reduceBEq, Nat.reduceAdd]; refine ⟨by simp, ?_⟩; refine M_loop h (fun (x7 : Int) => (⟨(.any :: .sl 3 (List.map Diner.row x2) :: .clo g2 caps2 :: an 12 (.sl 3 (List.map Diner.row x1) :: .iv (ln Diner.row x1) :: .iv x7 :: an 14 [])), [], []⟩ : St)) (by simp [go_sem]) (by intro x7; first | rfl | simp [go_sem, puL_ok _ hc2.pu]) ?_; rintro n1 x7 y1 h hin1 hout1; rw [m_slices_EqualFunc_Diner_l1] at h; (try dsimp only); refine V_go 5 ?_; dsimp only [e57, e57_L0, go_sem, Nat.reduceBEq, Nat.reduceAdd]; refine ⟨by simp, ?_⟩
    refine M_ite h rfl (fun _ h => ?_) fun _ h => ?_
    ·refine V_go 6 ?_; dsimp only [e57, e57_L0, go_sem, Nat.reduceBEq, Nat.reduceAdd]; refine ⟨by simp, ?_⟩; obtain ⟨x8, ex8, h⟩ := Option.bind_eq_some_iff.1 h; refine V_idxM Diner.row ex8 trivial rfl rfl rfl ?_; refine V_go 9 ?_; dsimp only [e57, e57_L0, go_sem, Nat.reduceBEq, Nat.reduceAdd]; refine ⟨by simp, ?_⟩; obtain ⟨x9, ex9, h⟩ := Option.bind_eq_some_iff.1 h; refine V_idxM Diner.row ex9 trivial rfl rfl rfl ?_; refine V_go 9 ?_; dsimp only [e57, e57_L0, go_sem, Nat.reduceBEq, Nat.reduceAdd]; refine ⟨by simp, ?_⟩; obtain ⟨x10, ex10, h⟩ := Option.bind_eq_some_iff.1 h
     refine V_callp trivial rfl hc2 (x := (x8, x9)) ex10 (by first | exact leL_refl _ | simp [go_sem]) (by first | rfl | simp [go_sem, hc2.pu]) ?_; refine V_go 2 ?_; dsimp only [e57, e57_L0, go_sem, Nat.reduceBEq, Nat.reduceAdd]; refine ⟨by simp, ?_⟩; refine M_ite h rfl (fun _ h => ?_) fun _ h => ?_
     ·refine V_go 4 ?_; dsimp only [e57, e57_L0, go_sem, Nat.reduceBEq, Nat.reduceAdd]; refine ⟨by simp, ?_⟩; exact M_done (res := fun (r : Bool) => .bv r) ok57 (M_out h hout1)
     ·refine V_go 6 ?_; dsimp only [e57, e57_L0, go_sem, Nat.reduceBEq, Nat.reduceAdd]; refine ⟨by simp, ?_⟩; exact M_back h hin1 (hok := by first | rfl | simp [go_sem, puL_ok _ hc2.pu])
    ·refine V_go 1 ?_; dsimp only [e57, e57_L0, go_sem, Nat.reduceBEq, Nat.reduceAdd]; refine ⟨by simp, ?_⟩; exact M_to J1 (s := ()) (M_out h hout1) (hok := by first | rfl | simp [go_sem, puL_ok _ hc2.pu])
def f_slices_EqualFunc_Diner_j1 (_F : Nat)  : Unit → Option Bool
| () =>
 some true
theorem le_slices_EqualFunc_Diner_j1 {F : Nat} : ∀ s, ole (f_slices_EqualFunc_Diner_j1 F s) (m_slices_EqualFunc_Diner_j1 s) := by
  rintro ⟨⟩
  unfold f_slices_EqualFunc_Diner_j1 m_slices_EqualFunc_Diner_j1
  try dsimp only
  with_reducible repeat' first | exact ole_refl _ | assumption | intro _ | refine ole_ifb ?_ ?_ | refine ole_bind ?_ ?_ | refine ole_map ?_ | refine ole_loop ?_ | apply h_p2
def f_slices_EqualFunc_Diner_l1 (F : Nat) (x1 : (List Diner)) (x2 : (List Diner)) (p2 : ((Diner × Diner) → Option Bool)) : Int → Option (Int ⊕ Bool)
| x7 =>
 ifb (decide (x7 < (ln Diner.row x1))) (
 (at_ x1 x7).bind fun x8 =>
 (at_ x2 x7).bind fun x9 =>
 (p2 (x8, x9)).bind fun x10 =>
 ifb (!x10) (
 Option.map Sum.inr (some false)) (
 some (.inl (wr (x7 + 1))))) (
 Option.map Sum.inr (f_slices_EqualFunc_Diner_j1 F ()))
theorem le_slices_EqualFunc_Diner_l1 {F : Nat} {x1 : (List Diner)} {x2 : (List Diner)} {p2 q2 : ((Diner × Diner) → Option Bool)} (h_p2 : ∀ z, ole (p2 z) (q2 z)) : ∀ s, ole (f_slices_EqualFunc_Diner_l1 F x1 x2 p2 s) (m_slices_EqualFunc_Diner_l1 x1 x2 q2 s) := by
  intro x7
  unfold f_slices_EqualFunc_Diner_l1 m_slices_EqualFunc_Diner_l1
  try dsimp only
  with_reducible repeat' first | exact ole_refl _ | assumption | intro _ | refine ole_ifb ?_ ?_ | refine ole_bind ?_ ?_ | refine ole_map ?_ | refine ole_loop ?_ | apply le_slices_EqualFunc_Diner_j1 | apply h_p2
def f_slices_EqualFunc_Diner (F : Nat) (x1 : (List Diner)) (x2 : (List Diner)) (p2 : ((Diner × Diner) → Option Bool)) : Option Bool :=
 ifb (!decide ((ln Diner.row x1) = (ln Diner.row x2))) (
 some false) (
 loopF F (f_slices_EqualFunc_Diner_l1 F x1 x2 p2) 0)
theorem le_slices_EqualFunc_Diner {F : Nat} {x1 : (List Diner)} {x2 : (List Diner)} {p2 q2 : ((Diner × Diner) → Option Bool)} (h_p2 : ∀ z, ole (p2 z) (q2 z)) : ole (f_slices_EqualFunc_Diner F x1 x2 p2) (m_slices_EqualFunc_Diner x1 x2 q2) := by
  unfold f_slices_EqualFunc_Diner m_slices_EqualFunc_Diner
  with_reducible repeat' first | exact ole_refl _ | assumption | intro _ | refine ole_ifb ?_ ?_ | refine ole_bind ?_ ?_ | refine ole_map ?_ | refine ole_loop ?_ | apply le_slices_EqualFunc_Diner_j1 | apply le_slices_EqualFunc_Diner_l1 | apply h_p2
end NX
end Go.Proofs.Ytadebhbiglmodaa
/-
  The function slices.Equal[[]narthex/api.Side,narthex/api.Side]: its code compiled, a model, and that the code answers as the model. Written by a program of ours (lb.py). No statement of the seat is proved here.
-/
namespace Go.Proofs.Ytadebhbiglmodaa
namespace NX
open Go
set_option maxRecDepth 100000
set_option maxHeartbeats 4000000
def e59_L0 : EC := .seq (.reg [⟨(some 14), none, .bin .lss (.t 13) (.t 12)⟩]) (.seq (.ite (.t 14) (.skip) (.exit 0)) (.seq (.blk 1 (.seq (.reg [⟨(some 15), none, .mv (.t 13)⟩, ⟨(some 5), none, .mv (.t 15)⟩]) (.seq (.drw [⟨(some 16), none, .mv (.t 0)⟩, ⟨(some 17), none, .mv (.t 5)⟩, ⟨(some 18), none, .idx 8 (.t 16) (.t 17)⟩, ⟨(some 19), none, .loadA 8 (.t 18)⟩, ⟨(some 20), none, .mv (.t 1)⟩, ⟨(some 21), none, .mv (.t 5)⟩, ⟨(some 22), none, .idx 8 (.t 20) (.t 21)⟩, ⟨(some 23), none, .loadA 8 (.t 22)⟩, ⟨(some 24), none, .eqs true [true, true, true, false, false, false, false, false] (.t 19) (.t 23)⟩] [[], [], [0, 1], [2], [], [], [4, 5], [6], [3, 7]] [[2], [2], [0, 1, 3], [2, 8], [6], [6], [4, 5, 7], [6, 8], [3, 7]]) (.ite (.t 24) (.seq (.reg [⟨(some 4), none, .mv (.c .ff)⟩]) (.ret)) (.skip))))) (.reg [⟨(some 25), none, .bin .add (.t 13) (.c (.iv 1))⟩, ⟨(some 13), none, .mv (.t 25)⟩])))
def e59 : EC := .seq (.reg [⟨(some 4), none, .mv (.c .ff)⟩]) (.seq (.seq (.reg [⟨(some 6), none, .mv (.t 0)⟩, ⟨(some 7), none, .len (.t 6)⟩, ⟨(some 8), none, .mv (.t 1)⟩, ⟨(some 9), none, .len (.t 8)⟩, ⟨(some 10), none, .bin .neq (.t 7) (.t 9)⟩]) (.ite (.t 10) (.seq (.reg [⟨(some 4), none, .mv (.c .ff)⟩]) (.ret)) (.skip))) (.seq (.seq (.reg [⟨(some 11), none, .mv (.t 0)⟩, ⟨(some 12), none, .len (.t 11)⟩, ⟨(some 13), none, .mv (.c (.iv 0))⟩]) (.blk 0 (.loop e59_L0))) (.seq (.reg [⟨(some 4), none, .mv (.c .tt)⟩]) (.ret))))
theorem ok59 : FnOK Try.prog 59 Try.f59 e59 [.t 4] 2 24 := ⟨by kernel_rfl, ⟨_, rfl, by kernel_rfl⟩, by kernel_rfl, by kernel_rfl⟩
/- slices.Equal[[]narthex/api.Side,narthex/api.Side] -/
noncomputable def m_slices_Equal_Side_j1  : Unit → Option Bool
| () =>
 some true
noncomputable def m_slices_Equal_Side_l1 (x1 : (List Side)) (x2 : (List Side)) : Int → Option (Int ⊕ Bool)
| x6 =>
 ifb (decide (x6 < (ln Side.row x1))) (
 (at_ x1 x6).bind fun x7 =>
 (at_ x2 x6).bind fun x8 =>
 ifb (!(decide (x7.Peer = x8.Peer) && (decide (x7.Epoch = x8.Epoch) && (decide (x7.State = x8.State) && ((x7.Fork == x8.Fork) && ((x7.Dirty == x8.Dirty) && ((x7.Token == x8.Token) && ((x7.Bottle == x8.Bottle) && ((x7.Ask == x8.Ask) && true))))))))) (
 Option.map Sum.inr (some false)) (
 some (.inl (wr (x6 + 1))))) (
 Option.map Sum.inr (m_slices_Equal_Side_j1 ()))
noncomputable def m_slices_Equal_Side (x1 : (List Side)) (x2 : (List Side)) : Option Bool :=
 ifb (!decide ((ln Side.row x1) = (ln Side.row x2))) (
 some false) (
 loop (m_slices_Equal_Side_l1 x1 x2) 0)
theorem k_slices_Equal_Side (x1 : (List Side)) (x2 : (List Side)) (r : Bool) (h : m_slices_Equal_Side x1 x2 = some r) : FunP Try.prog 59 [.sl 8 (List.map Side.row x1), .sl 8 (List.map Side.row x2)] (.bv r) := by
  refine FunP_intro ok59 rfl rfl fun w0 H0 => ?_
  rw [m_slices_Equal_Side] at h
  refine V_go 13 ?_; dsimp only [e59, e59_L0, go_sem, Nat.reduceBEq, Nat.reduceAdd]; refine ⟨by simp, ?_⟩; refine M_ite h rfl (fun _ h => ?_) fun _ h => ?_
  ·refine V_go 4 ?_; dsimp only [e59, e59_L0, go_sem, Nat.reduceBEq, Nat.reduceAdd]; refine ⟨by simp, ?_⟩; exact M_done (res := fun (r : Bool) => .bv r) ok59 h
  ·refine V_go 8 ?_; dsimp only [e59, e59_L0, go_sem, Nat.reduceBEq, Nat.reduceAdd]; refine ⟨by simp, ?_⟩; refine V_join (fun (_ : Unit) => (⟨(an 26 []), [], []⟩ : St)) m_slices_Equal_Side_j1 r ?_ fun J1 => ?_
   ·rintro ⟨⟩ h; rw [m_slices_Equal_Side_j1] at h; (try dsimp only); refine V_go 4 ?_; dsimp only [e59, e59_L0, go_sem, Nat.reduceBEq, Nat.reduceAdd]; refine ⟨by simp, ?_⟩; exact M_done (res := fun (r : Bool) => .bv r) ok59 h
   ·refine V_go 1 ?_; dsimp only [e59, e59_L0, go_sem, Nat.reduceBEq, Nat.reduceAdd]; refine ⟨by simp, ?_⟩; refine M_loop h (fun (x6 : Int) => (⟨(.sl 8 (List.map Side.row x1) :: .sl 8 (List.map Side.row x2) :: an 10 (.iv (ln Side.row x1) :: .iv x6 :: an 12 [])), [], []⟩ : St)) (by simp [go_sem]) (by intro x6; first | rfl | simp [go_sem]) ?_; rintro n1 x6 y1 h hin1 hout1; rw [m_slices_Equal_Side_l1] at h; (try dsimp only); refine V_go 5 ?_; dsimp only [e59, e59_L0, go_sem, Nat.reduceBEq, Nat.reduceAdd]; refine ⟨by simp, ?_⟩; refine M_ite h rfl (fun _ h => ?_) fun _ h => ?_
    ·refine V_go 9 ?_; dsimp only [e59, e59_L0, go_sem, Nat.reduceBEq, Nat.reduceAdd]; refine ⟨by simp, ?_⟩; refine V_drw (by kernel_rfl) fun all hall hs hnap haf => ?_; dsimp only [go_sem, Nat.reduceBEq, Nat.reduceAdd]; refine G_goN hall hs haf hnap 4 5 ?_; dsimp only [go_sem, Nat.reduceBEq, Nat.reduceAdd]; refine ⟨by simp, ?_⟩; obtain ⟨x7, ex7, h⟩ := Option.bind_eq_some_iff.1 h; refine G_idxM hall hs haf hnap 2 Side.row ex7 rfl rfl trivial rfl rfl rfl rfl ?_; refine G_goN hall hs haf hnap 1 3 ?_; dsimp only [go_sem, Nat.reduceBEq, Nat.reduceAdd]; refine ⟨by simp, ?_⟩
     obtain ⟨x8, ex8, h⟩ := Option.bind_eq_some_iff.1 h; refine G_idxM hall hs haf hnap 6 Side.row ex8 rfl rfl trivial rfl rfl rfl rfl ?_; refine G_goN hall hs haf hnap 2 0 ?_; dsimp only [go_sem, Nat.reduceBEq, Nat.reduceAdd]; refine ⟨by simp, ?_⟩; refine G_done rfl ?_ _; refine M_ite h rfl (fun _ h => ?_) fun _ h => ?_
     ·refine V_go 4 ?_; dsimp only [e59, e59_L0, go_sem, Nat.reduceBEq, Nat.reduceAdd]; refine ⟨by simp, ?_⟩; exact M_done (res := fun (r : Bool) => .bv r) ok59 (M_out h hout1)
     ·refine V_go 6 ?_; dsimp only [e59, e59_L0, go_sem, Nat.reduceBEq, Nat.reduceAdd]; refine ⟨by simp, ?_⟩; exact M_back h hin1
    ·refine V_go 1 ?_; dsimp only [e59, e59_L0, go_sem, Nat.reduceBEq, Nat.reduceAdd]; refine ⟨by simp, ?_⟩; exact M_to J1 (s := ()) (M_out h hout1)
def f_slices_Equal_Side_j1 (_F : Nat)  : Unit → Option Bool
| () =>
 some true
theorem le_slices_Equal_Side_j1 {F : Nat} : ∀ s, ole (f_slices_Equal_Side_j1 F s) (m_slices_Equal_Side_j1 s) := by
  rintro ⟨⟩
  unfold f_slices_Equal_Side_j1 m_slices_Equal_Side_j1
  try dsimp only
  with_reducible repeat' first | exact ole_refl _ | assumption | intro _ | refine ole_ifb ?_ ?_ | refine ole_bind ?_ ?_ | refine ole_map ?_ | refine ole_loop ?_
def f_slices_Equal_Side_l1 (F : Nat) (x1 : (List Side)) (x2 : (List Side)) : Int → Option (Int ⊕ Bool)
| x6 =>
 ifb (decide (x6 < (ln Side.row x1))) (
 (at_ x1 x6).bind fun x7 =>
 (at_ x2 x6).bind fun x8 =>
 ifb (!(decide (x7.Peer = x8.Peer) && (decide (x7.Epoch = x8.Epoch) && (decide (x7.State = x8.State) && ((x7.Fork == x8.Fork) && ((x7.Dirty == x8.Dirty) && ((x7.Token == x8.Token) && ((x7.Bottle == x8.Bottle) && ((x7.Ask == x8.Ask) && true))))))))) (
 Option.map Sum.inr (some false)) (
 some (.inl (wr (x6 + 1))))) (
 Option.map Sum.inr (f_slices_Equal_Side_j1 F ()))
theorem le_slices_Equal_Side_l1 {F : Nat} {x1 : (List Side)} {x2 : (List Side)} : ∀ s, ole (f_slices_Equal_Side_l1 F x1 x2 s) (m_slices_Equal_Side_l1 x1 x2 s) := by
  intro x6
  unfold f_slices_Equal_Side_l1 m_slices_Equal_Side_l1
  try dsimp only
  with_reducible repeat' first | exact ole_refl _ | assumption | intro _ | refine ole_ifb ?_ ?_ | refine ole_bind ?_ ?_ | refine ole_map ?_ | refine ole_loop ?_ | apply le_slices_Equal_Side_j1
def f_slices_Equal_Side (F : Nat) (x1 : (List Side)) (x2 : (List Side)) : Option Bool :=
 ifb (!decide ((ln Side.row x1) = (ln Side.row x2))) (
 some false) (
 loopF F (f_slices_Equal_Side_l1 F x1 x2) 0)
theorem le_slices_Equal_Side {F : Nat} {x1 : (List Side)} {x2 : (List Side)} : ole (f_slices_Equal_Side F x1 x2) (m_slices_Equal_Side x1 x2) := by
  unfold f_slices_Equal_Side m_slices_Equal_Side
  with_reducible repeat' first | exact ole_refl _ | assumption | intro _ | refine ole_ifb ?_ ?_ | refine ole_bind ?_ ?_ | refine ole_map ?_ | refine ole_loop ?_ | apply le_slices_Equal_Side_j1 | apply le_slices_Equal_Side_l1
end NX
end Go.Proofs.Ytadebhbiglmodaa
/-
  The function narthex/place.Same$1: its code compiled, a model, and that the code answers as the model. Written by a program of ours (lb.py). No statement of the seat is proved here.
-/
namespace Go.Proofs.Ytadebhbiglmodaa
namespace NX
open Go
set_option maxRecDepth 100000
set_option maxHeartbeats 4000000
def e58 : EC := .seq (.reg [⟨(some 2), none, .box 39 3 (.t 0)⟩, ⟨(some 3), none, .box 39 3 (.t 1)⟩, ⟨(some 4), none, .mv (.c .ff)⟩]) (.seq (.reg [⟨(some 5), none, .fld 0 (.t 2)⟩, ⟨(some 6), none, .load (.t 5)⟩, ⟨(some 7), none, .fld 0 (.t 3)⟩, ⟨(some 8), none, .load (.t 7)⟩, ⟨(some 9), none, .bin .eql (.t 6) (.t 8)⟩, ⟨(some 10), none, .mv (.t 9)⟩, ⟨(some 11), (some (10, true)), .fld 1 (.t 2)⟩, ⟨(some 12), (some (10, true)), .load (.t 11)⟩, ⟨(some 13), (some (10, true)), .fld 1 (.t 3)⟩, ⟨(some 14), (some (10, true)), .load (.t 13)⟩, ⟨(some 15), (some (10, true)), .bin .eql (.t 12) (.t 14)⟩, ⟨(some 16), none, .pick (.t 10) (.t 15) (.c .ff)⟩, ⟨(some 17), none, .mv (.t 16)⟩, ⟨(some 18), (some (17, true)), .fld 2 (.t 2)⟩, ⟨(some 19), (some (17, true)), .load (.t 18)⟩, ⟨(some 20), (some (17, true)), .fld 2 (.t 3)⟩, ⟨(some 21), (some (17, true)), .load (.t 20)⟩, ⟨(some 22), (some (17, true)), .call 59 [(.t 19), (.t 21)]⟩, ⟨(some 23), none, .pick (.t 17) (.t 22) (.c .ff)⟩, ⟨(some 4), none, .mv (.t 23)⟩]) (.ret))
theorem ok58 : FnOK Try.prog 58 Try.f58 e58 [.t 4] 2 22 := ⟨by kernel_rfl, ⟨_, rfl, by kernel_rfl⟩, by kernel_rfl, by kernel_rfl⟩
/- narthex/place.Same$1 -/
noncomputable def m_place_Same_1_j1  : Bool → Option Bool
| x4 =>
 some x4
noncomputable def m_place_Same_1 (x1 : Diner) (x2 : Diner) : Option Bool :=
 ifb (decide (x1.ID = x2.ID)) (
 ifb (decide (x1.Phase = x2.Phase)) (
 (m_slices_Equal_Side x1.Sides x2.Sides).bind fun x3 =>
 m_place_Same_1_j1 x3) (
 m_place_Same_1_j1 false)) (
 m_place_Same_1_j1 false)
theorem k_place_Same_1 (x1 : Diner) (x2 : Diner) (r : Bool) (h : m_place_Same_1 x1 x2 = some r) : FunP Try.prog 58 [.agg (Diner.row x1), .agg (Diner.row x2)] (.bv r) := by
  refine FunP_intro ok58 rfl rfl fun w0 H0 => ?_
  rw [m_place_Same_1] at h
  refine V_go 14 ?_; dsimp only [e58, go_sem, Nat.reduceBEq, Nat.reduceAdd]; refine ⟨by simp, ?_⟩; refine V_join (fun (x4 : Bool) => (⟨(an 4 (.bv x4 :: an 19 [])), [], []⟩ : St)) m_place_Same_1_j1 r ?_ fun J1 => ?_
  ·intro x4 h; rw [m_place_Same_1_j1] at h; (try dsimp only); exact M_done (res := fun (r : Bool) => .bv r) ok58 h
  ·refine M_case 10 h rfl (fun _ h => ?_) fun _ h => ?_
   ·dsimp only [go_sem, Nat.reduceBEq, Nat.reduceAdd]; refine V_go 7 ?_; dsimp only [e58, go_sem, Nat.reduceBEq, Nat.reduceAdd]; refine ⟨by simp, ?_⟩; refine M_case 17 h rfl (fun _ h => ?_) fun _ h => ?_
    ·dsimp only [go_sem, Nat.reduceBEq, Nat.reduceAdd]; refine V_go 4 ?_; dsimp only [e58, go_sem, Nat.reduceBEq, Nat.reduceAdd]; refine ⟨by simp, ?_⟩; obtain ⟨x3, ex3, h⟩ := Option.bind_eq_some_iff.1 h; refine V_call trivial (k_slices_Equal_Side x1.Sides x2.Sides _ ex3) (h := ?_); refine V_go 3 ?_; dsimp only [e58, go_sem, Nat.reduceBEq, Nat.reduceAdd]; refine ⟨by simp, ?_⟩; exact M_to J1 (s := x3) h
    ·dsimp only [go_sem, Nat.reduceBEq, Nat.reduceAdd]; refine V_go 8 ?_; dsimp only [e58, go_sem, Nat.reduceBEq, Nat.reduceAdd]; refine ⟨by simp, ?_⟩; exact M_to J1 (s := false) h
   ·dsimp only [go_sem, Nat.reduceBEq, Nat.reduceAdd]; refine V_go 15 ?_; dsimp only [e58, go_sem, Nat.reduceBEq, Nat.reduceAdd]; refine ⟨by simp, ?_⟩; exact M_to J1 (s := false) h
def f_place_Same_1_j1 (_F : Nat)  : Bool → Option Bool
| x4 =>
 some x4
theorem le_place_Same_1_j1 {F : Nat} : ∀ s, ole (f_place_Same_1_j1 F s) (m_place_Same_1_j1 s) := by
  intro x4
  unfold f_place_Same_1_j1 m_place_Same_1_j1
  try dsimp only
  with_reducible repeat' first | exact ole_refl _ | assumption | intro _ | refine ole_ifb ?_ ?_ | refine ole_bind ?_ ?_ | refine ole_map ?_ | refine ole_loop ?_
def f_place_Same_1 (F : Nat) (x1 : Diner) (x2 : Diner) : Option Bool :=
 ifb (decide (x1.ID = x2.ID)) (
 ifb (decide (x1.Phase = x2.Phase)) (
 (f_slices_Equal_Side F x1.Sides x2.Sides).bind fun x3 =>
 f_place_Same_1_j1 F x3) (
 f_place_Same_1_j1 F false)) (
 f_place_Same_1_j1 F false)
theorem le_place_Same_1 {F : Nat} {x1 : Diner} {x2 : Diner} : ole (f_place_Same_1 F x1 x2) (m_place_Same_1 x1 x2) := by
  unfold f_place_Same_1 m_place_Same_1
  with_reducible repeat' first | exact ole_refl _ | assumption | intro _ | refine ole_ifb ?_ ?_ | refine ole_bind ?_ ?_ | refine ole_map ?_ | refine ole_loop ?_ | apply le_place_Same_1_j1 | apply le_slices_Equal_Side
end NX
end Go.Proofs.Ytadebhbiglmodaa
/-
  The function narthex/place.Same: its code compiled, a model, and that the code answers as the model. Written by a program of ours (lb.py). No statement of the seat is proved here.
-/
namespace Go.Proofs.Ytadebhbiglmodaa
namespace NX
open Go
set_option maxRecDepth 100000
set_option maxHeartbeats 4000000
def e27 : EC := .seq (.reg [⟨(some 4), none, .mv (.c .ff)⟩]) (.seq (.reg [⟨(some 5), none, .mv (.t 0)⟩, ⟨(some 6), none, .mv (.t 1)⟩, ⟨(some 7), none, .call 57 [(.t 5), (.t 6), (.c (.clo 58 []))]⟩, ⟨(some 4), none, .mv (.t 7)⟩]) (.ret))
theorem ok27 : FnOK Try.prog 27 Try.f27 e27 [.t 4] 2 6 := ⟨by kernel_rfl, ⟨_, rfl, by kernel_rfl⟩, by kernel_rfl, by kernel_rfl⟩
/- narthex/place.Same -/
noncomputable def m_place_Same (x1 : (List Diner)) (x2 : (List Diner)) : Option Bool :=
 (m_slices_EqualFunc_Diner x1 x2 ((fun z => m_place_Same_1 z.1 z.2))).bind fun x3 =>
 some x3
theorem k_place_Same (x1 : (List Diner)) (x2 : (List Diner)) (r : Bool) (h : m_place_Same x1 x2 = some r) : FunP Try.prog 27 [.sl 3 (List.map Diner.row x1), .sl 3 (List.map Diner.row x2)] (.bv r) := by
  refine FunP_intro ok27 rfl rfl fun w0 H0 => ?_
  rw [m_place_Same] at h
  refine V_go 8 ?_; dsimp only [e27, go_sem, Nat.reduceBEq, Nat.reduceAdd]; refine ⟨by simp, ?_⟩; obtain ⟨x3, ex3, h⟩ := Option.bind_eq_some_iff.1 h; refine V_call trivial (k_slices_EqualFunc_Diner x1 x2 _ _ ((fun z => m_place_Same_1 z.1 z.2)) ⟨by kernel_rfl, rfl, fun z r hz => k_place_Same_1 z.1 z.2 r hz⟩ _ ex3) (h := ?_); refine V_go 2 ?_; dsimp only [e27, go_sem, Nat.reduceBEq, Nat.reduceAdd]; refine ⟨by simp, ?_⟩; exact M_done (res := fun (r : Bool) => .bv r) ok27 h
def f_place_Same (F : Nat) (x1 : (List Diner)) (x2 : (List Diner)) : Option Bool :=
 (f_slices_EqualFunc_Diner F x1 x2 ((fun z => f_place_Same_1 F z.1 z.2))).bind fun x3 =>
 some x3
theorem le_place_Same {F : Nat} {x1 : (List Diner)} {x2 : (List Diner)} : ole (f_place_Same F x1 x2) (m_place_Same x1 x2) := by
  unfold f_place_Same m_place_Same
  with_reducible repeat' first | exact ole_refl _ | assumption | intro _ | refine ole_ifb ?_ ?_ | refine ole_bind ?_ ?_ | refine ole_map ?_ | refine ole_loop ?_ | apply le_slices_EqualFunc_Diner | apply le_place_Same_1
end NX
end Go.Proofs.Ytadebhbiglmodaa
/-
  The function narthex/narthexref03.Same: its code compiled, a model, and that the code answers as the model. Written by a program of ours (lb.py). No statement of the seat is proved here.
-/
namespace Go.Proofs.Ytadebhbiglmodaa
namespace NX
open Go
set_option maxRecDepth 100000
set_option maxHeartbeats 4000000
def e26_L0 : EC := .seq (.seq (.reg [⟨(some 20), none, .mv (.t 5)⟩, ⟨(some 21), none, .fld 1 (.t 2)⟩, ⟨(some 22), none, .load (.t 21)⟩, ⟨(some 23), none, .len (.t 22)⟩, ⟨(some 24), none, .bin .lss (.t 20) (.t 23)⟩]) (.ite (.t 24) (.skip) (.exit 0))) (.seq (.blk 1 (.seq (.drw [⟨(some 27), none, .fld 1 (.t 2)⟩, ⟨(some 28), none, .load (.t 27)⟩, ⟨(some 29), none, .mv (.t 5)⟩, ⟨(some 30), none, .idx 2 (.t 28) (.t 29)⟩, ⟨(some 31), none, .loadA 2 (.t 30)⟩, ⟨(some 32), none, .fld 1 (.t 3)⟩, ⟨(some 33), none, .load (.t 32)⟩, ⟨(some 34), none, .mv (.t 5)⟩, ⟨(some 35), none, .idx 2 (.t 33) (.t 34)⟩, ⟨(some 36), none, .loadA 2 (.t 35)⟩, ⟨(some 37), none, .eqs true [true, true] (.t 31) (.t 36)⟩] [[], [0], [], [1, 2], [3], [], [5], [], [6, 7], [8], [4, 9]] [[1], [0, 3], [3], [1, 2, 4], [3, 10], [6], [5, 8], [8], [6, 7, 9], [8, 10], [4, 9]]) (.ite (.t 37) (.seq (.reg [⟨(some 4), none, .mv (.c .ff)⟩]) (.ret)) (.skip)))) (.reg [⟨(some 25), none, .mv (.t 5)⟩, ⟨(some 26), none, .bin .add (.t 25) (.c (.iv 1))⟩, ⟨(some 5), none, .mv (.t 26)⟩]))
def e26 : EC := .seq (.reg [⟨(some 2), none, .box 24 2 (.t 0)⟩, ⟨(some 3), none, .box 24 2 (.t 1)⟩, ⟨(some 4), none, .mv (.c .ff)⟩]) (.seq (.seq (.reg [⟨(some 6), none, .fld 0 (.t 2)⟩, ⟨(some 7), none, .load (.t 6)⟩, ⟨(some 8), none, .fld 0 (.t 3)⟩, ⟨(some 9), none, .load (.t 8)⟩, ⟨(some 10), none, .bin .neq (.t 7) (.t 9)⟩, ⟨(some 11), none, .mv (.t 10)⟩, ⟨(some 12), (some (11, false)), .fld 1 (.t 2)⟩, ⟨(some 13), (some (11, false)), .load (.t 12)⟩, ⟨(some 14), (some (11, false)), .len (.t 13)⟩, ⟨(some 15), (some (11, false)), .fld 1 (.t 3)⟩, ⟨(some 16), (some (11, false)), .load (.t 15)⟩, ⟨(some 17), (some (11, false)), .len (.t 16)⟩, ⟨(some 18), (some (11, false)), .bin .neq (.t 14) (.t 17)⟩, ⟨(some 19), none, .pick (.t 11) (.c .tt) (.t 18)⟩]) (.ite (.t 19) (.seq (.reg [⟨(some 4), none, .mv (.c .ff)⟩]) (.ret)) (.skip))) (.seq (.seq (.reg [⟨(some 5), none, .mv (.c (.iv 0))⟩]) (.blk 0 (.loop e26_L0))) (.seq (.reg [⟨(some 4), none, .mv (.c .tt)⟩]) (.ret))))
theorem ok26 : FnOK Try.prog 26 Try.f26 e26 [.t 4] 2 36 := ⟨by kernel_rfl, ⟨_, rfl, by kernel_rfl⟩, by kernel_rfl, by kernel_rfl⟩
/- narthex/narthexref03.Same -/
noncomputable def m_narthexref03_Same_j2  : Unit → Option Bool
| () =>
 some true
noncomputable def m_narthexref03_Same_l1 (x1 : Graph) (x2 : Graph) : Int → Option (Int ⊕ Bool)
| x7 =>
 ifb (decide (x7 < (ln Edge.row x1.Edges))) (
 (at_ x1.Edges x7).bind fun x8 =>
 (at_ x2.Edges x7).bind fun x9 =>
 ifb (!(decide (x8.A = x9.A) && (decide (x8.B = x9.B) && true))) (
 Option.map Sum.inr (some false)) (
 some (.inl (wr (x7 + 1))))) (
 Option.map Sum.inr (m_narthexref03_Same_j2 ()))
noncomputable def m_narthexref03_Same_j1 (x1 : Graph) (x2 : Graph) : Bool → Option Bool
| x3 =>
 ifb x3 (
 some false) (
 loop (m_narthexref03_Same_l1 x1 x2) 0)
noncomputable def m_narthexref03_Same (x1 : Graph) (x2 : Graph) : Option Bool :=
 ifb (!decide (x1.N = x2.N)) (
 (m_narthexref03_Same_j1 x1 x2) true) (
 (m_narthexref03_Same_j1 x1 x2) (!decide ((ln Edge.row x1.Edges) = (ln Edge.row x2.Edges))))
theorem k_narthexref03_Same (x1 : Graph) (x2 : Graph) (r : Bool) (h : m_narthexref03_Same x1 x2 = some r) : FunP Try.prog 26 [.agg (Graph.row x1), .agg (Graph.row x2)] (.bv r) := by
  refine FunP_intro ok26 rfl rfl fun w0 H0 => ?_
  rw [m_narthexref03_Same] at h
  refine V_go 15 ?_; dsimp only [e26, e26_L0, go_sem, Nat.reduceBEq, Nat.reduceAdd]; refine ⟨by simp, ?_⟩; refine V_join (fun (x3 : Bool) => (⟨(.any :: .any :: .ptr 0 0 :: .ptr 1 0 :: an 15 (.bv x3 :: an 18 [])), [some ⟨24, [.iv x1.N, .sl 2 (List.map Edge.row x1.Edges)]⟩, some ⟨24, [.iv x2.N, .sl 2 (List.map Edge.row x2.Edges)]⟩], []⟩ : St)) (m_narthexref03_Same_j1 x1 x2) r ?_ fun J1 => ?_
  ·intro x3 h; rw [m_narthexref03_Same_j1] at h; (try dsimp only); refine M_ite h rfl (fun _ h => ?_) fun _ h => ?_
   ·refine V_go 4 ?_; dsimp only [e26, e26_L0, go_sem, Nat.reduceBEq, Nat.reduceAdd]; refine ⟨by simp, ?_⟩; exact M_done (res := fun (r : Bool) => .bv r) ok26 h
   ·refine V_go 6 ?_; dsimp only [e26, e26_L0, go_sem, Nat.reduceBEq, Nat.reduceAdd]; refine ⟨by simp, ?_⟩; refine V_join (fun (_ : Unit) => (⟨(an 38 []), [], []⟩ : St)) m_narthexref03_Same_j2 r ?_ fun J2 => ?_
    ·rintro ⟨⟩ h; rw [m_narthexref03_Same_j2] at h; (try dsimp only); refine V_go 4 ?_; dsimp only [e26, e26_L0, go_sem, Nat.reduceBEq, Nat.reduceAdd]; refine ⟨by simp, ?_⟩; exact M_done (res := fun (r : Bool) => .bv r) ok26 h
    ·refine V_go 1 ?_; dsimp only [e26, e26_L0, go_sem, Nat.reduceBEq, Nat.reduceAdd]; refine ⟨by simp, ?_⟩; refine M_loop h (fun (x7 : Int) => (⟨(.any :: .any :: .ptr 0 0 :: .ptr 1 0 :: .any :: .iv x7 :: an 32 []), [some ⟨24, [.iv x1.N, .sl 2 (List.map Edge.row x1.Edges)]⟩, some ⟨24, [.iv x2.N, .sl 2 (List.map Edge.row x2.Edges)]⟩], []⟩ : St)) (by simp [go_sem]) (by intro x7; first | rfl | simp [go_sem]) ?_; rintro n1 x7 y1 h hin1 hout1; rw [m_narthexref03_Same_l1] at h; (try dsimp only); refine V_go 9 ?_; dsimp only [e26, e26_L0, go_sem, Nat.reduceBEq, Nat.reduceAdd]; refine ⟨by simp, ?_⟩
     refine M_ite h rfl (fun _ h => ?_) fun _ h => ?_
     ·refine V_go 4 ?_; dsimp only [e26, e26_L0, go_sem, Nat.reduceBEq, Nat.reduceAdd]; refine ⟨by simp, ?_⟩; refine V_drw (by kernel_rfl) fun all hall hs hnap haf => ?_; dsimp only [go_sem, Nat.reduceBEq, Nat.reduceAdd]
      refine G_goE hall hs haf hnap 6 5 [true, true, true, false, false, true, true, true, false, false, false] (⟨(.any :: .any :: .ptr 0 0 :: .ptr 1 0 :: .any :: .iv x7 :: an 14 (.iv x7 :: .ptr 0 1 :: .sl 2 (List.map Edge.row x1.Edges) :: .iv (ln Edge.row x1.Edges) :: .bv (decide (x7 < (ln Edge.row x1.Edges))) :: .any :: .any :: .ptr 0 1 :: .sl 2 (List.map Edge.row x1.Edges) :: .iv x7 :: .any :: .any :: .ptr 1 1 :: .sl 2 (List.map Edge.row x2.Edges) :: .iv x7 :: an 3 [])), [some ⟨24, [.iv x1.N, .sl 2 (List.map Edge.row x1.Edges)]⟩, some ⟨24, [.iv x2.N, .sl 2 (List.map Edge.row x2.Edges)]⟩], []⟩ : St) (by kernel_rfl) ?_
      obtain ⟨x8, ex8, h⟩ := Option.bind_eq_some_iff.1 h; refine G_idxM hall hs haf hnap 3 Edge.row ex8 rfl rfl trivial rfl rfl rfl rfl ?_; refine G_goN hall hs haf hnap 1 3 ?_; dsimp only [go_sem, Nat.reduceBEq, Nat.reduceAdd]; refine ⟨by simp, ?_⟩; obtain ⟨x9, ex9, h⟩ := Option.bind_eq_some_iff.1 h; refine G_idxM hall hs haf hnap 8 Edge.row ex9 rfl rfl trivial rfl rfl rfl rfl ?_; refine G_goN hall hs haf hnap 2 0 ?_; dsimp only [go_sem, Nat.reduceBEq, Nat.reduceAdd]; refine ⟨by simp, ?_⟩; refine G_done rfl ?_ _; refine M_ite h rfl (fun _ h => ?_) fun _ h => ?_
      ·refine V_go 4 ?_; dsimp only [e26, e26_L0, go_sem, Nat.reduceBEq, Nat.reduceAdd]; refine ⟨by simp, ?_⟩; exact M_done (res := fun (r : Bool) => .bv r) ok26 (M_out h hout1)
      ·refine V_go 7 ?_; dsimp only [e26, e26_L0, go_sem, Nat.reduceBEq, Nat.reduceAdd]; refine ⟨by simp, ?_⟩; exact M_back h hin1
     ·refine V_go 1 ?_; dsimp only [e26, e26_L0, go_sem, Nat.reduceBEq, Nat.reduceAdd]; refine ⟨by simp, ?_⟩; exact M_to J2 (s := ()) (M_out h hout1)
  ·refine M_case 11 h rfl (fun _ h => ?_) fun _ h => ?_
   ·dsimp only [go_sem, Nat.reduceBEq, Nat.reduceAdd]; refine V_go 9 ?_; dsimp only [e26, e26_L0, go_sem, Nat.reduceBEq, Nat.reduceAdd]; refine ⟨by simp, ?_⟩; exact M_to J1 (s := true) h
   ·dsimp only [go_sem, Nat.reduceBEq, Nat.reduceAdd]; refine V_go 9 ?_; dsimp only [e26, e26_L0, go_sem, Nat.reduceBEq, Nat.reduceAdd]; refine ⟨by simp, ?_⟩; exact M_to J1 (s := !decide ((ln Edge.row x1.Edges) = (ln Edge.row x2.Edges))) h
def f_narthexref03_Same_j2 (_F : Nat)  : Unit → Option Bool
| () =>
 some true
theorem le_narthexref03_Same_j2 {F : Nat} : ∀ s, ole (f_narthexref03_Same_j2 F s) (m_narthexref03_Same_j2 s) := by
  rintro ⟨⟩
  unfold f_narthexref03_Same_j2 m_narthexref03_Same_j2
  try dsimp only
  with_reducible repeat' first | exact ole_refl _ | assumption | intro _ | refine ole_ifb ?_ ?_ | refine ole_bind ?_ ?_ | refine ole_map ?_ | refine ole_loop ?_
def f_narthexref03_Same_l1 (F : Nat) (x1 : Graph) (x2 : Graph) : Int → Option (Int ⊕ Bool)
| x7 =>
 ifb (decide (x7 < (ln Edge.row x1.Edges))) (
 (at_ x1.Edges x7).bind fun x8 =>
 (at_ x2.Edges x7).bind fun x9 =>
 ifb (!(decide (x8.A = x9.A) && (decide (x8.B = x9.B) && true))) (
 Option.map Sum.inr (some false)) (
 some (.inl (wr (x7 + 1))))) (
 Option.map Sum.inr (f_narthexref03_Same_j2 F ()))
theorem le_narthexref03_Same_l1 {F : Nat} {x1 : Graph} {x2 : Graph} : ∀ s, ole (f_narthexref03_Same_l1 F x1 x2 s) (m_narthexref03_Same_l1 x1 x2 s) := by
  intro x7
  unfold f_narthexref03_Same_l1 m_narthexref03_Same_l1
  try dsimp only
  with_reducible repeat' first | exact ole_refl _ | assumption | intro _ | refine ole_ifb ?_ ?_ | refine ole_bind ?_ ?_ | refine ole_map ?_ | refine ole_loop ?_ | apply le_narthexref03_Same_j2
def f_narthexref03_Same_j1 (F : Nat) (x1 : Graph) (x2 : Graph) : Bool → Option Bool
| x3 =>
 ifb x3 (
 some false) (
 loopF F (f_narthexref03_Same_l1 F x1 x2) 0)
theorem le_narthexref03_Same_j1 {F : Nat} {x1 : Graph} {x2 : Graph} : ∀ s, ole (f_narthexref03_Same_j1 F x1 x2 s) (m_narthexref03_Same_j1 x1 x2 s) := by
  intro x3
  unfold f_narthexref03_Same_j1 m_narthexref03_Same_j1
  try dsimp only
  with_reducible repeat' first | exact ole_refl _ | assumption | intro _ | refine ole_ifb ?_ ?_ | refine ole_bind ?_ ?_ | refine ole_map ?_ | refine ole_loop ?_ | apply le_narthexref03_Same_j2 | apply le_narthexref03_Same_l1
def f_narthexref03_Same (F : Nat) (x1 : Graph) (x2 : Graph) : Option Bool :=
 ifb (!decide (x1.N = x2.N)) (
 (f_narthexref03_Same_j1 F x1 x2) true) (
 (f_narthexref03_Same_j1 F x1 x2) (!decide ((ln Edge.row x1.Edges) = (ln Edge.row x2.Edges))))
theorem le_narthexref03_Same {F : Nat} {x1 : Graph} {x2 : Graph} : ole (f_narthexref03_Same F x1 x2) (m_narthexref03_Same x1 x2) := by
  unfold f_narthexref03_Same m_narthexref03_Same
  with_reducible repeat' first | exact ole_refl _ | assumption | intro _ | refine ole_ifb ?_ ?_ | refine ole_bind ?_ ?_ | refine ole_map ?_ | refine ole_loop ?_ | apply le_narthexref03_Same_j2 | apply le_narthexref03_Same_l1 | apply le_narthexref03_Same_j1
end NX
end Go.Proofs.Ytadebhbiglmodaa
/-
  The function narthex/narthexref12.SameOne: its code compiled, a model, and that the code answers as the model. Written by a program of ours (lb.py). No statement of the seat is proved here.
-/
namespace Go.Proofs.Ytadebhbiglmodaa
namespace NX
open Go
set_option maxRecDepth 100000
set_option maxHeartbeats 4000000
def e48_L0 : EC := .seq (.seq (.reg [⟨(some 27), none, .mv (.t 5)⟩, ⟨(some 28), none, .fld 2 (.t 2)⟩, ⟨(some 29), none, .load (.t 28)⟩, ⟨(some 30), none, .len (.t 29)⟩, ⟨(some 31), none, .bin .lss (.t 27) (.t 30)⟩]) (.ite (.t 31) (.skip) (.exit 0))) (.seq (.blk 1 (.seq (.drw [⟨(some 34), none, .fld 2 (.t 2)⟩, ⟨(some 35), none, .load (.t 34)⟩, ⟨(some 36), none, .mv (.t 5)⟩, ⟨(some 37), none, .idx 8 (.t 35) (.t 36)⟩, ⟨(some 38), none, .loadA 8 (.t 37)⟩, ⟨(some 39), none, .fld 2 (.t 3)⟩, ⟨(some 40), none, .load (.t 39)⟩, ⟨(some 41), none, .mv (.t 5)⟩, ⟨(some 42), none, .idx 8 (.t 40) (.t 41)⟩, ⟨(some 43), none, .loadA 8 (.t 42)⟩, ⟨(some 44), none, .eqs true [true, true, true, false, false, false, false, false] (.t 38) (.t 43)⟩] [[], [0], [], [1, 2], [3], [], [5], [], [6, 7], [8], [4, 9]] [[1], [0, 3], [3], [1, 2, 4], [3, 10], [6], [5, 8], [8], [6, 7, 9], [8, 10], [4, 9]]) (.ite (.t 44) (.seq (.reg [⟨(some 4), none, .mv (.c .ff)⟩]) (.ret)) (.skip)))) (.reg [⟨(some 32), none, .mv (.t 5)⟩, ⟨(some 33), none, .bin .add (.t 32) (.c (.iv 1))⟩, ⟨(some 5), none, .mv (.t 33)⟩]))
def e48 : EC := .seq (.reg [⟨(some 2), none, .box 39 3 (.t 0)⟩, ⟨(some 3), none, .box 39 3 (.t 1)⟩, ⟨(some 4), none, .mv (.c .ff)⟩]) (.seq (.seq (.reg [⟨(some 6), none, .fld 0 (.t 2)⟩, ⟨(some 7), none, .load (.t 6)⟩, ⟨(some 8), none, .fld 0 (.t 3)⟩, ⟨(some 9), none, .load (.t 8)⟩, ⟨(some 10), none, .bin .neq (.t 7) (.t 9)⟩, ⟨(some 11), none, .mv (.t 10)⟩, ⟨(some 12), (some (11, false)), .fld 1 (.t 2)⟩, ⟨(some 13), (some (11, false)), .load (.t 12)⟩, ⟨(some 14), (some (11, false)), .fld 1 (.t 3)⟩, ⟨(some 15), (some (11, false)), .load (.t 14)⟩, ⟨(some 16), (some (11, false)), .bin .neq (.t 13) (.t 15)⟩, ⟨(some 17), none, .pick (.t 11) (.c .tt) (.t 16)⟩, ⟨(some 18), none, .mv (.t 17)⟩, ⟨(some 19), (some (18, false)), .fld 2 (.t 2)⟩, ⟨(some 20), (some (18, false)), .load (.t 19)⟩, ⟨(some 21), (some (18, false)), .len (.t 20)⟩, ⟨(some 22), (some (18, false)), .fld 2 (.t 3)⟩, ⟨(some 23), (some (18, false)), .load (.t 22)⟩, ⟨(some 24), (some (18, false)), .len (.t 23)⟩, ⟨(some 25), (some (18, false)), .bin .neq (.t 21) (.t 24)⟩, ⟨(some 26), none, .pick (.t 18) (.c .tt) (.t 25)⟩]) (.ite (.t 26) (.seq (.reg [⟨(some 4), none, .mv (.c .ff)⟩]) (.ret)) (.skip))) (.seq (.seq (.reg [⟨(some 5), none, .mv (.c (.iv 0))⟩]) (.blk 0 (.loop e48_L0))) (.seq (.reg [⟨(some 4), none, .mv (.c .tt)⟩]) (.ret))))
theorem ok48 : FnOK Try.prog 48 Try.f48 e48 [.t 4] 2 43 := ⟨by kernel_rfl, ⟨_, rfl, by kernel_rfl⟩, by kernel_rfl, by kernel_rfl⟩
/- narthex/narthexref12.SameOne -/
noncomputable def m_narthexref12_SameOne_j2  : Unit → Option Bool
| () =>
 some true
noncomputable def m_narthexref12_SameOne_l1 (x1 : Diner) (x2 : Diner) : Int → Option (Int ⊕ Bool)
| x7 =>
 ifb (decide (x7 < (ln Side.row x1.Sides))) (
 (at_ x1.Sides x7).bind fun x8 =>
 (at_ x2.Sides x7).bind fun x9 =>
 ifb (!(decide (x8.Peer = x9.Peer) && (decide (x8.Epoch = x9.Epoch) && (decide (x8.State = x9.State) && ((x8.Fork == x9.Fork) && ((x8.Dirty == x9.Dirty) && ((x8.Token == x9.Token) && ((x8.Bottle == x9.Bottle) && ((x8.Ask == x9.Ask) && true))))))))) (
 Option.map Sum.inr (some false)) (
 some (.inl (wr (x7 + 1))))) (
 Option.map Sum.inr (m_narthexref12_SameOne_j2 ()))
noncomputable def m_narthexref12_SameOne_j1 (x1 : Diner) (x2 : Diner) : Bool → Option Bool
| x3 =>
 ifb x3 (
 some false) (
 loop (m_narthexref12_SameOne_l1 x1 x2) 0)
noncomputable def m_narthexref12_SameOne (x1 : Diner) (x2 : Diner) : Option Bool :=
 ifb (!decide (x1.ID = x2.ID)) (
 (m_narthexref12_SameOne_j1 x1 x2) true) (
 ifb (!decide (x1.Phase = x2.Phase)) (
 (m_narthexref12_SameOne_j1 x1 x2) true) (
 (m_narthexref12_SameOne_j1 x1 x2) (!decide ((ln Side.row x1.Sides) = (ln Side.row x2.Sides)))))
theorem k_narthexref12_SameOne (x1 : Diner) (x2 : Diner) (r : Bool) (h : m_narthexref12_SameOne x1 x2 = some r) : FunP Try.prog 48 [.agg (Diner.row x1), .agg (Diner.row x2)] (.bv r) := by
  refine FunP_intro ok48 rfl rfl fun w0 H0 => ?_
  rw [m_narthexref12_SameOne] at h
  refine V_go 15 ?_; dsimp only [e48, e48_L0, go_sem, Nat.reduceBEq, Nat.reduceAdd]; refine ⟨by simp, ?_⟩; refine V_join (fun (x3 : Bool) => (⟨(.any :: .any :: .ptr 0 0 :: .ptr 1 0 :: an 22 (.bv x3 :: an 18 [])), [some ⟨39, [.iv x1.ID, .iv x1.Phase, .sl 8 (List.map Side.row x1.Sides)]⟩, some ⟨39, [.iv x2.ID, .iv x2.Phase, .sl 8 (List.map Side.row x2.Sides)]⟩], []⟩ : St)) (m_narthexref12_SameOne_j1 x1 x2) r ?_ fun J1 => ?_
  ·intro x3 h; rw [m_narthexref12_SameOne_j1] at h; (try dsimp only); refine M_ite h rfl (fun _ h => ?_) fun _ h => ?_
   ·refine V_go 4 ?_; dsimp only [e48, e48_L0, go_sem, Nat.reduceBEq, Nat.reduceAdd]; refine ⟨by simp, ?_⟩; exact M_done (res := fun (r : Bool) => .bv r) ok48 h
   ·refine V_go 6 ?_; dsimp only [e48, e48_L0, go_sem, Nat.reduceBEq, Nat.reduceAdd]; refine ⟨by simp, ?_⟩; refine V_join (fun (_ : Unit) => (⟨(an 45 []), [], []⟩ : St)) m_narthexref12_SameOne_j2 r ?_ fun J2 => ?_
    ·rintro ⟨⟩ h; rw [m_narthexref12_SameOne_j2] at h; (try dsimp only); refine V_go 4 ?_; dsimp only [e48, e48_L0, go_sem, Nat.reduceBEq, Nat.reduceAdd]; refine ⟨by simp, ?_⟩; exact M_done (res := fun (r : Bool) => .bv r) ok48 h
    ·refine V_go 1 ?_; dsimp only [e48, e48_L0, go_sem, Nat.reduceBEq, Nat.reduceAdd]; refine ⟨by simp, ?_⟩; refine M_loop h (fun (x7 : Int) => (⟨(.any :: .any :: .ptr 0 0 :: .ptr 1 0 :: .any :: .iv x7 :: an 39 []), [some ⟨39, [.iv x1.ID, .iv x1.Phase, .sl 8 (List.map Side.row x1.Sides)]⟩, some ⟨39, [.iv x2.ID, .iv x2.Phase, .sl 8 (List.map Side.row x2.Sides)]⟩], []⟩ : St)) (by simp [go_sem]) (by intro x7; first | rfl | simp [go_sem]) ?_; rintro n1 x7 y1 h hin1 hout1; rw [m_narthexref12_SameOne_l1] at h; (try dsimp only); refine V_go 9 ?_
     dsimp only [e48, e48_L0, go_sem, Nat.reduceBEq, Nat.reduceAdd]; refine ⟨by simp, ?_⟩; refine M_ite h rfl (fun _ h => ?_) fun _ h => ?_
     ·refine V_go 4 ?_; dsimp only [e48, e48_L0, go_sem, Nat.reduceBEq, Nat.reduceAdd]; refine ⟨by simp, ?_⟩; refine V_drw (by kernel_rfl) fun all hall hs hnap haf => ?_; dsimp only [go_sem, Nat.reduceBEq, Nat.reduceAdd]
      refine G_goE hall hs haf hnap 6 5 [true, true, true, false, false, true, true, true, false, false, false] (⟨(.any :: .any :: .ptr 0 0 :: .ptr 1 0 :: .any :: .iv x7 :: an 21 (.iv x7 :: .ptr 0 2 :: .sl 8 (List.map Side.row x1.Sides) :: .iv (ln Side.row x1.Sides) :: .bv (decide (x7 < (ln Side.row x1.Sides))) :: .any :: .any :: .ptr 0 2 :: .sl 8 (List.map Side.row x1.Sides) :: .iv x7 :: .any :: .any :: .ptr 1 2 :: .sl 8 (List.map Side.row x2.Sides) :: .iv x7 :: an 3 [])), [some ⟨39, [.iv x1.ID, .iv x1.Phase, .sl 8 (List.map Side.row x1.Sides)]⟩, some ⟨39, [.iv x2.ID, .iv x2.Phase, .sl 8 (List.map Side.row x2.Sides)]⟩], []⟩ : St) (by kernel_rfl) ?_
      obtain ⟨x8, ex8, h⟩ := Option.bind_eq_some_iff.1 h; refine G_idxM hall hs haf hnap 3 Side.row ex8 rfl rfl trivial rfl rfl rfl rfl ?_; refine G_goN hall hs haf hnap 1 3 ?_; dsimp only [go_sem, Nat.reduceBEq, Nat.reduceAdd]; refine ⟨by simp, ?_⟩; obtain ⟨x9, ex9, h⟩ := Option.bind_eq_some_iff.1 h; refine G_idxM hall hs haf hnap 8 Side.row ex9 rfl rfl trivial rfl rfl rfl rfl ?_; refine G_goN hall hs haf hnap 2 0 ?_; dsimp only [go_sem, Nat.reduceBEq, Nat.reduceAdd]; refine ⟨by simp, ?_⟩; refine G_done rfl ?_ _; refine M_ite h rfl (fun _ h => ?_) fun _ h => ?_
      ·refine V_go 4 ?_; dsimp only [e48, e48_L0, go_sem, Nat.reduceBEq, Nat.reduceAdd]; refine ⟨by simp, ?_⟩; exact M_done (res := fun (r : Bool) => .bv r) ok48 (M_out h hout1)
      ·refine V_go 7 ?_; dsimp only [e48, e48_L0, go_sem, Nat.reduceBEq, Nat.reduceAdd]; refine ⟨by simp, ?_⟩; exact M_back h hin1
     ·refine V_go 1 ?_; dsimp only [e48, e48_L0, go_sem, Nat.reduceBEq, Nat.reduceAdd]; refine ⟨by simp, ?_⟩; exact M_to J2 (s := ()) (M_out h hout1)
  ·refine M_case 11 h rfl (fun _ h => ?_) fun _ h => ?_
   ·dsimp only [go_sem, Nat.reduceBEq, Nat.reduceAdd]; refine V_go 16 ?_; dsimp only [e48, e48_L0, go_sem, Nat.reduceBEq, Nat.reduceAdd]; refine ⟨by simp, ?_⟩; exact M_to J1 (s := true) h
   ·dsimp only [go_sem, Nat.reduceBEq, Nat.reduceAdd]; refine V_go 7 ?_; dsimp only [e48, e48_L0, go_sem, Nat.reduceBEq, Nat.reduceAdd]; refine ⟨by simp, ?_⟩; refine M_case 18 h rfl (fun _ h => ?_) fun _ h => ?_
    ·dsimp only [go_sem, Nat.reduceBEq, Nat.reduceAdd]; refine V_go 9 ?_; dsimp only [e48, e48_L0, go_sem, Nat.reduceBEq, Nat.reduceAdd]; refine ⟨by simp, ?_⟩; exact M_to J1 (s := true) h
    ·dsimp only [go_sem, Nat.reduceBEq, Nat.reduceAdd]; refine V_go 9 ?_; dsimp only [e48, e48_L0, go_sem, Nat.reduceBEq, Nat.reduceAdd]; refine ⟨by simp, ?_⟩; exact M_to J1 (s := !decide ((ln Side.row x1.Sides) = (ln Side.row x2.Sides))) h
end NX
end Go.Proofs.Ytadebhbiglmodaa
/-
  The function narthex/narthexref12.Same: its code compiled, a model, and that the code answers as the model. Written by a program of ours (lb.py). No statement of the seat is proved here.
-/
namespace Go.Proofs.Ytadebhbiglmodaa
namespace NX
open Go
set_option maxRecDepth 100000
set_option maxHeartbeats 4000000
def e18_L0 : EC := .seq (.seq (.reg [⟨(some 11), none, .mv (.t 5)⟩, ⟨(some 12), none, .mv (.t 0)⟩, ⟨(some 13), none, .len (.t 12)⟩, ⟨(some 14), none, .bin .lss (.t 11) (.t 13)⟩]) (.ite (.t 14) (.skip) (.exit 0))) (.seq (.blk 1 (.seq (.drw [⟨(some 17), none, .mv (.t 0)⟩, ⟨(some 18), none, .mv (.t 5)⟩, ⟨(some 19), none, .idx 3 (.t 17) (.t 18)⟩, ⟨(some 20), none, .loadA 3 (.t 19)⟩, ⟨(some 21), none, .mv (.t 1)⟩, ⟨(some 22), none, .mv (.t 5)⟩, ⟨(some 23), none, .idx 3 (.t 21) (.t 22)⟩, ⟨(some 24), none, .loadA 3 (.t 23)⟩, ⟨(some 25), none, .call 48 [(.t 20), (.t 24)]⟩, ⟨(some 26), none, .not (.t 25)⟩] [[], [], [0, 1], [2], [], [], [4, 5], [6], [3, 7], [8]] [[2], [2], [0, 1, 3], [2, 8], [6], [6], [4, 5, 7], [6, 8], [3, 7, 9], [8]]) (.ite (.t 26) (.seq (.reg [⟨(some 4), none, .mv (.c .ff)⟩]) (.ret)) (.skip)))) (.reg [⟨(some 15), none, .mv (.t 5)⟩, ⟨(some 16), none, .bin .add (.t 15) (.c (.iv 1))⟩, ⟨(some 5), none, .mv (.t 16)⟩]))
def e18 : EC := .seq (.reg [⟨(some 4), none, .mv (.c .ff)⟩]) (.seq (.seq (.reg [⟨(some 6), none, .mv (.t 0)⟩, ⟨(some 7), none, .len (.t 6)⟩, ⟨(some 8), none, .mv (.t 1)⟩, ⟨(some 9), none, .len (.t 8)⟩, ⟨(some 10), none, .bin .neq (.t 7) (.t 9)⟩]) (.ite (.t 10) (.seq (.reg [⟨(some 4), none, .mv (.c .ff)⟩]) (.ret)) (.skip))) (.seq (.seq (.reg [⟨(some 5), none, .mv (.c (.iv 0))⟩]) (.blk 0 (.loop e18_L0))) (.seq (.reg [⟨(some 4), none, .mv (.c .tt)⟩]) (.ret))))
theorem ok18 : FnOK Try.prog 18 Try.f18 e18 [.t 4] 2 25 := ⟨by kernel_rfl, ⟨_, rfl, by kernel_rfl⟩, by kernel_rfl, by kernel_rfl⟩
/- narthex/narthexref12.Same -/
noncomputable def m_narthexref12_Same_j1  : Unit → Option Bool
| () =>
 some true
noncomputable def m_narthexref12_Same_l1 (x1 : (List Diner)) (x2 : (List Diner)) : Int → Option (Int ⊕ Bool)
| x7 =>
 ifb (decide (x7 < (ln Diner.row x1))) (
 (at_ x1 x7).bind fun x8 =>
 (at_ x2 x7).bind fun x9 =>
 (m_narthexref12_SameOne x8 x9).bind fun x10 =>
 ifb (!x10) (
 Option.map Sum.inr (some false)) (
 some (.inl (wr (x7 + 1))))) (
 Option.map Sum.inr (m_narthexref12_Same_j1 ()))
noncomputable def m_narthexref12_Same (x1 : (List Diner)) (x2 : (List Diner)) : Option Bool :=
 ifb (!decide ((ln Diner.row x1) = (ln Diner.row x2))) (
 some false) (
 loop (m_narthexref12_Same_l1 x1 x2) 0)
theorem k_narthexref12_Same (x1 : (List Diner)) (x2 : (List Diner)) (r : Bool) (h : m_narthexref12_Same x1 x2 = some r) : FunP Try.prog 18 [.sl 3 (List.map Diner.row x1), .sl 3 (List.map Diner.row x2)] (.bv r) := by
  refine FunP_intro ok18 rfl rfl fun w0 H0 => ?_
  rw [m_narthexref12_Same] at h
  refine V_go 13 ?_; dsimp only [e18, e18_L0, go_sem, Nat.reduceBEq, Nat.reduceAdd]; refine ⟨by simp, ?_⟩; refine M_ite h rfl (fun _ h => ?_) fun _ h => ?_
  ·refine V_go 4 ?_; dsimp only [e18, e18_L0, go_sem, Nat.reduceBEq, Nat.reduceAdd]; refine ⟨by simp, ?_⟩; exact M_done (res := fun (r : Bool) => .bv r) ok18 h
  ·refine V_go 6 ?_; dsimp only [e18, e18_L0, go_sem, Nat.reduceBEq, Nat.reduceAdd]; refine ⟨by simp, ?_⟩; refine V_join (fun (_ : Unit) => (⟨(an 27 []), [], []⟩ : St)) m_narthexref12_Same_j1 r ?_ fun J1 => ?_
   ·rintro ⟨⟩ h; rw [m_narthexref12_Same_j1] at h; (try dsimp only); refine V_go 4 ?_; dsimp only [e18, e18_L0, go_sem, Nat.reduceBEq, Nat.reduceAdd]; refine ⟨by simp, ?_⟩; exact M_done (res := fun (r : Bool) => .bv r) ok18 h
   ·refine V_go 1 ?_; dsimp only [e18, e18_L0, go_sem, Nat.reduceBEq, Nat.reduceAdd]; refine ⟨by simp, ?_⟩; refine M_loop h (fun (x7 : Int) => (⟨(.sl 3 (List.map Diner.row x1) :: .sl 3 (List.map Diner.row x2) :: an 3 (.iv x7 :: an 21 [])), [], []⟩ : St)) (by simp [go_sem]) (by intro x7; first | rfl | simp [go_sem]) ?_; rintro n1 x7 y1 h hin1 hout1; rw [m_narthexref12_Same_l1] at h; (try dsimp only); refine V_go 8 ?_; dsimp only [e18, e18_L0, go_sem, Nat.reduceBEq, Nat.reduceAdd]; refine ⟨by simp, ?_⟩; refine M_ite h rfl (fun _ h => ?_) fun _ h => ?_
    ·refine V_go 4 ?_; dsimp only [e18, e18_L0, go_sem, Nat.reduceBEq, Nat.reduceAdd]; refine ⟨by simp, ?_⟩; refine V_drw (by kernel_rfl) fun all hall hs hnap haf => ?_; dsimp only [go_sem, Nat.reduceBEq, Nat.reduceAdd]; refine G_goN hall hs haf hnap 4 6 ?_; dsimp only [go_sem, Nat.reduceBEq, Nat.reduceAdd]; refine ⟨by simp, ?_⟩; obtain ⟨x8, ex8, h⟩ := Option.bind_eq_some_iff.1 h; refine G_idxM hall hs haf hnap 2 Diner.row ex8 rfl rfl trivial rfl rfl rfl rfl ?_; refine G_goN hall hs haf hnap 1 4 ?_; dsimp only [go_sem, Nat.reduceBEq, Nat.reduceAdd]; refine ⟨by simp, ?_⟩
     obtain ⟨x9, ex9, h⟩ := Option.bind_eq_some_iff.1 h; refine G_idxM hall hs haf hnap 6 Diner.row ex9 rfl rfl trivial rfl rfl rfl rfl ?_; refine G_goN hall hs haf hnap 1 2 ?_; dsimp only [go_sem, Nat.reduceBEq, Nat.reduceAdd]; refine ⟨by simp, ?_⟩; refine G_one 8 rfl ?_; obtain ⟨x10, ex10, h⟩ := Option.bind_eq_some_iff.1 h; refine GO_call hall rfl trivial (k_narthexref12_SameOne x8 x9 _ ex10) (h := ?_); dsimp only [go_sem, Nat.reduceBEq, Nat.reduceAdd]; refine G_goN hall hs haf hnap 1 0 ?_; dsimp only [go_sem, Nat.reduceBEq, Nat.reduceAdd]; refine ⟨by simp, ?_⟩; refine G_done rfl ?_ _
     refine M_ite h rfl (fun _ h => ?_) fun _ h => ?_
     ·refine V_go 4 ?_; dsimp only [e18, e18_L0, go_sem, Nat.reduceBEq, Nat.reduceAdd]; refine ⟨by simp, ?_⟩; exact M_done (res := fun (r : Bool) => .bv r) ok18 (M_out h hout1)
     ·refine V_go 7 ?_; dsimp only [e18, e18_L0, go_sem, Nat.reduceBEq, Nat.reduceAdd]; refine ⟨by simp, ?_⟩; exact M_back h hin1
    ·refine V_go 1 ?_; dsimp only [e18, e18_L0, go_sem, Nat.reduceBEq, Nat.reduceAdd]; refine ⟨by simp, ?_⟩; exact M_to J1 (s := ()) (M_out h hout1)
end NX
end Go.Proofs.Ytadebhbiglmodaa
/-
  The function narthex/place.Side$1: its code compiled, a model, and that the code answers as the model. Written by a program of ours (lb.py). No statement of the seat is proved here.
-/
namespace Go.Proofs.Ytadebhbiglmodaa
namespace NX
open Go
set_option maxRecDepth 100000
set_option maxHeartbeats 4000000
def e56 : EC := .seq (.reg [⟨(some 2), none, .box 49 8 (.t 0)⟩, ⟨(some 3), none, .mv (.c .ff)⟩]) (.seq (.reg [⟨(some 4), none, .fld 0 (.t 2)⟩, ⟨(some 5), none, .load (.t 4)⟩, ⟨(some 6), none, .load (.t 1)⟩, ⟨(some 7), none, .bin .eql (.t 5) (.t 6)⟩, ⟨(some 3), none, .mv (.t 7)⟩]) (.ret))
theorem ok56 : FnOK Try.prog 56 Try.f56 e56 [.t 3] 2 6 := ⟨by kernel_rfl, ⟨_, rfl, by kernel_rfl⟩, by kernel_rfl, by kernel_rfl⟩
/- narthex/place.Side$1 -/
noncomputable def m_place_Side_1 (x1 : Side) (x2 : Int) : Option Bool :=
 some (decide (x1.Peer = x2))
theorem k_place_Side_1 (x1 : Side) (x2 : Int) (r : Bool) (h : m_place_Side_1 x1 x2 = some r) : FunP Try.prog 56 [.agg (Side.row x1), .elt (intRow x2) 0] (.bv r) := by
  refine FunP_intro ok56 rfl rfl fun w0 H0 => ?_
  rw [m_place_Side_1] at h
  refine V_go 13 ?_; dsimp only [e56, go_sem, Nat.reduceBEq, Nat.reduceAdd]; refine ⟨by simp, ?_⟩; exact M_done (res := fun (r : Bool) => .bv r) ok56 h
def f_place_Side_1 (_F : Nat) (x1 : Side) (x2 : Int) : Option Bool :=
 some (decide (x1.Peer = x2))
theorem le_place_Side_1 {F : Nat} {x1 : Side} {x2 : Int} : ole (f_place_Side_1 F x1 x2) (m_place_Side_1 x1 x2) := by
  unfold f_place_Side_1 m_place_Side_1
  with_reducible repeat' first | exact ole_refl _ | assumption | intro _ | refine ole_ifb ?_ ?_ | refine ole_bind ?_ ?_ | refine ole_map ?_ | refine ole_loop ?_
end NX
end Go.Proofs.Ytadebhbiglmodaa
/-
  The function narthex/place.Side: its code compiled, a model, and that the code answers as the model. Written by a program of ours (lb.py). No statement of the seat is proved here.
-/
namespace Go.Proofs.Ytadebhbiglmodaa
namespace NX
open Go
set_option maxRecDepth 100000
set_option maxHeartbeats 4000000
def e24 : EC := .seq (.reg [⟨(some 2), none, .box 39 3 (.t 0)⟩, ⟨(some 3), none, .box 3 1 (.t 1)⟩, ⟨(some 4), none, .alloc 49 [.iv 0, .iv 0, .iv 0, .ff, .ff, .ff, .ff, .ff]⟩, ⟨(some 5), none, .mv (.c .ff)⟩]) (.seq (.reg [⟨(some 7), none, .fld 2 (.t 2)⟩, ⟨(some 8), none, .load (.t 7)⟩, ⟨(some 9), none, .mkf 56 [(.t 3)]⟩, ⟨(some 10), none, .call 55 [(.t 8), (.t 9)]⟩, ⟨(some 6), none, .mv (.t 10)⟩]) (.seq (.seq (.reg [⟨(some 11), none, .mv (.t 6)⟩, ⟨(some 12), none, .bin .lss (.t 11) (.c (.iv 0))⟩]) (.ite (.t 12) (.seq (.reg [⟨(some 13), none, .build [.iv 0, .iv 0, .iv 0, .ff, .ff, .ff, .ff, .ff] []⟩, ⟨none, none, .store 8 (.t 4) (.t 13)⟩, ⟨(some 5), none, .mv (.c .ff)⟩]) (.ret)) (.skip))) (.seq (.reg [⟨(some 14), none, .fld 2 (.t 2)⟩, ⟨(some 15), none, .load (.t 14)⟩, ⟨(some 16), none, .mv (.t 6)⟩, ⟨(some 17), none, .idx 8 (.t 15) (.t 16)⟩, ⟨(some 18), none, .loadA 8 (.t 17)⟩, ⟨none, none, .store 8 (.t 4) (.t 18)⟩, ⟨(some 5), none, .mv (.c .tt)⟩]) (.ret))))
theorem ok24 : FnOK Try.prog 24 Try.f24 e24 [.c 4 (some 8), .t 5] 2 17 := ⟨by kernel_rfl, ⟨_, rfl, by kernel_rfl⟩, by kernel_rfl, by kernel_rfl⟩
/- narthex/place.Side -/
noncomputable def m_place_Side (x1 : Diner) (x2 : Int) : Option (Side × Bool) :=
 (m_slices_IndexFunc_Side x1.Sides ((fun z => m_place_Side_1 z x2))).bind fun x3 =>
 ifb (decide (x3 < 0)) (
 some ((Side.mk 0 0 0 false false false false false), false)) (
 (at_ x1.Sides x3).bind fun x4 =>
 some (x4, true))
theorem k_place_Side (x1 : Diner) (x2 : Int) (r : (Side × Bool)) (h : m_place_Side x1 x2 = some r) : FunP Try.prog 24 [.agg (Diner.row x1), .iv x2] (.tup [.agg (Side.row r.1), .bv r.2]) := by
  refine FunP_intro ok24 rfl rfl fun w0 H0 => ?_
  rw [m_place_Side] at h
  refine V_go 12 ?_; dsimp only [e24, go_sem, Nat.reduceBEq, Nat.reduceAdd]; refine ⟨by simp, ?_⟩; obtain ⟨x3, ex3, h⟩ := Option.bind_eq_some_iff.1 h; refine V_callL trivial ((Lend.refl _).block 1 rfl rfl) (k_slices_IndexFunc_Side x1.Sides _ _ ((fun z => m_place_Side_1 z x2)) ⟨by kernel_rfl, rfl, fun z r hz => k_place_Side_1 z x2 r hz⟩ _ ex3) (h := ?_); refine V_go 8 ?_; dsimp only [e24, go_sem, Nat.reduceBEq, Nat.reduceAdd]; refine ⟨by simp, ?_⟩; refine M_ite h rfl (fun _ h => ?_) fun _ h => ?_
  ·refine V_go 6 ?_; dsimp only [e24, go_sem, Nat.reduceBEq, Nat.reduceAdd]; refine ⟨by simp, ?_⟩; exact M_done (res := fun (r : (Side × Bool)) => .tup [.agg (Side.row r.1), .bv r.2]) ok24 h
  ·refine V_go 6 ?_; dsimp only [e24, go_sem, Nat.reduceBEq, Nat.reduceAdd]; refine ⟨by simp, ?_⟩; obtain ⟨x4, ex4, h⟩ := Option.bind_eq_some_iff.1 h; refine V_idxM Side.row ex4 trivial rfl rfl rfl ?_; refine V_go 4 ?_; dsimp only [e24, go_sem, Nat.reduceBEq, Nat.reduceAdd]; refine ⟨by simp, ?_⟩; exact M_done (res := fun (r : (Side × Bool)) => .tup [.agg (Side.row r.1), .bv r.2]) ok24 h
def f_place_Side (F : Nat) (x1 : Diner) (x2 : Int) : Option (Side × Bool) :=
 (f_slices_IndexFunc_Side F x1.Sides ((fun z => f_place_Side_1 F z x2))).bind fun x3 =>
 ifb (decide (x3 < 0)) (
 some ((Side.mk 0 0 0 false false false false false), false)) (
 (at_ x1.Sides x3).bind fun x4 =>
 some (x4, true))
theorem le_place_Side {F : Nat} {x1 : Diner} {x2 : Int} : ole (f_place_Side F x1 x2) (m_place_Side x1 x2) := by
  unfold f_place_Side m_place_Side
  with_reducible repeat' first | exact ole_refl _ | assumption | intro _ | refine ole_ifb ?_ ?_ | refine ole_bind ?_ ?_ | refine ole_map ?_ | refine ole_loop ?_ | apply le_slices_IndexFunc_Side | apply le_place_Side_1
end NX
end Go.Proofs.Ytadebhbiglmodaa
/-
  The function narthex/narthexref12.Side: its code compiled, a model, and that the code answers as the model. Written by a program of ours (lb.py). No statement of the seat is proved here.
-/
namespace Go.Proofs.Ytadebhbiglmodaa
namespace NX
open Go
set_option maxRecDepth 100000
set_option maxHeartbeats 4000000
def e25_L0 : EC := .seq (.seq (.reg [⟨(some 7), none, .mv (.t 6)⟩, ⟨(some 8), none, .fld 2 (.t 2)⟩, ⟨(some 9), none, .load (.t 8)⟩, ⟨(some 10), none, .len (.t 9)⟩, ⟨(some 11), none, .bin .lss (.t 7) (.t 10)⟩]) (.ite (.t 11) (.skip) (.exit 0))) (.seq (.blk 1 (.seq (.reg [⟨(some 14), none, .fld 2 (.t 2)⟩, ⟨(some 15), none, .load (.t 14)⟩, ⟨(some 16), none, .mv (.t 6)⟩, ⟨(some 17), none, .idx 8 (.t 15) (.t 16)⟩, ⟨(some 18), none, .fld 0 (.t 17)⟩, ⟨(some 19), none, .load (.t 18)⟩, ⟨(some 20), none, .mv (.t 1)⟩, ⟨(some 21), none, .bin .eql (.t 19) (.t 20)⟩]) (.ite (.t 21) (.seq (.reg [⟨(some 22), none, .fld 2 (.t 2)⟩, ⟨(some 23), none, .load (.t 22)⟩, ⟨(some 24), none, .mv (.t 6)⟩, ⟨(some 25), none, .idx 8 (.t 23) (.t 24)⟩, ⟨(some 26), none, .loadA 8 (.t 25)⟩, ⟨none, none, .store 8 (.t 4) (.t 26)⟩, ⟨(some 5), none, .mv (.c .tt)⟩]) (.ret)) (.skip)))) (.reg [⟨(some 12), none, .mv (.t 6)⟩, ⟨(some 13), none, .bin .add (.t 12) (.c (.iv 1))⟩, ⟨(some 6), none, .mv (.t 13)⟩]))
def e25 : EC := .seq (.reg [⟨(some 2), none, .box 39 3 (.t 0)⟩, ⟨(some 4), none, .alloc 49 [.iv 0, .iv 0, .iv 0, .ff, .ff, .ff, .ff, .ff]⟩, ⟨(some 5), none, .mv (.c .ff)⟩]) (.seq (.seq (.reg [⟨(some 6), none, .mv (.c (.iv 0))⟩]) (.blk 0 (.loop e25_L0))) (.seq (.reg [⟨(some 27), none, .build [.iv 0, .iv 0, .iv 0, .ff, .ff, .ff, .ff, .ff] []⟩, ⟨none, none, .store 8 (.t 4) (.t 27)⟩, ⟨(some 5), none, .mv (.c .ff)⟩]) (.ret)))
theorem ok25 : FnOK Try.prog 25 Try.f25 e25 [.c 4 (some 8), .t 5] 2 26 := ⟨by kernel_rfl, ⟨_, rfl, by kernel_rfl⟩, by kernel_rfl, by kernel_rfl⟩
/- narthex/narthexref12.Side -/
noncomputable def m_narthexref12_Side_j1  : Unit → Option (Side × Bool)
| () =>
 some ((Side.mk 0 0 0 false false false false false), false)
noncomputable def m_narthexref12_Side_l1 (x1 : Diner) (x2 : Int) : Int → Option (Int ⊕ (Side × Bool))
| x6 =>
 ifb (decide (x6 < (ln Side.row x1.Sides))) (
 (at_ x1.Sides x6).bind fun x7 =>
 ifb (decide (x7.Peer = x2)) (
 (at_ x1.Sides x6).bind fun x8 =>
 Option.map Sum.inr (some (x8, true))) (
 some (.inl (wr (x6 + 1))))) (
 Option.map Sum.inr (m_narthexref12_Side_j1 ()))
noncomputable def m_narthexref12_Side (x1 : Diner) (x2 : Int) : Option (Side × Bool) :=
 loop (m_narthexref12_Side_l1 x1 x2) 0
theorem k_narthexref12_Side (x1 : Diner) (x2 : Int) (r : (Side × Bool)) (h : m_narthexref12_Side x1 x2 = some r) : FunP Try.prog 25 [.agg (Diner.row x1), .iv x2] (.tup [.agg (Side.row r.1), .bv r.2]) := by
  refine FunP_intro ok25 rfl rfl fun w0 H0 => ?_
  rw [m_narthexref12_Side] at h
  refine V_go 11 ?_; dsimp only [e25, e25_L0, go_sem, Nat.reduceBEq, Nat.reduceAdd]; refine ⟨by simp, ?_⟩; refine V_join (fun (_ : Unit) => (⟨(an 4 (.ptr 1 0 :: an 23 [])), [none, some ⟨49, [.iv 0, .iv 0, .iv 0, .ff, .ff, .ff, .ff, .ff]⟩], []⟩ : St)) m_narthexref12_Side_j1 r ?_ fun J1 => ?_
  ·rintro ⟨⟩ h; rw [m_narthexref12_Side_j1] at h; (try dsimp only); refine V_go 6 ?_; dsimp only [e25, e25_L0, go_sem, Nat.reduceBEq, Nat.reduceAdd]; refine ⟨by simp, ?_⟩; exact M_done (res := fun (r : (Side × Bool)) => .tup [.agg (Side.row r.1), .bv r.2]) ok25 h
  ·refine V_go 1 ?_; dsimp only [e25, e25_L0, go_sem, Nat.reduceBEq, Nat.reduceAdd]; refine ⟨by simp, ?_⟩; refine M_loop h (fun (x6 : Int) => (⟨(.any :: .iv x2 :: .ptr 0 0 :: .any :: .ptr 1 0 :: .any :: .iv x6 :: an 21 []), [some ⟨39, [.iv x1.ID, .iv x1.Phase, .sl 8 (List.map Side.row x1.Sides)]⟩, some ⟨49, [.iv 0, .iv 0, .iv 0, .ff, .ff, .ff, .ff, .ff]⟩], []⟩ : St)) (by simp [go_sem]) (by intro x6; first | rfl | simp [go_sem]) ?_; rintro n1 x6 y1 h hin1 hout1; rw [m_narthexref12_Side_l1] at h; (try dsimp only); refine V_go 9 ?_; dsimp only [e25, e25_L0, go_sem, Nat.reduceBEq, Nat.reduceAdd]
   refine ⟨by simp, ?_⟩; refine M_ite h rfl (fun _ h => ?_) fun _ h => ?_
   ·refine V_go 8 ?_; dsimp only [e25, e25_L0, go_sem, Nat.reduceBEq, Nat.reduceAdd]; refine ⟨by simp, ?_⟩; obtain ⟨x7, ex7, h⟩ := Option.bind_eq_some_iff.1 h; refine V_idxM Side.row ex7 trivial rfl rfl rfl ?_; refine V_go 5 ?_; dsimp only [e25, e25_L0, go_sem, Nat.reduceBEq, Nat.reduceAdd]; refine ⟨by simp, ?_⟩; refine M_ite h rfl (fun _ h => ?_) fun _ h => ?_
    ·refine V_go 5 ?_; dsimp only [e25, e25_L0, go_sem, Nat.reduceBEq, Nat.reduceAdd]; refine ⟨by simp, ?_⟩; obtain ⟨x8, ex8, h⟩ := Option.bind_eq_some_iff.1 h; refine V_idxM Side.row ex8 trivial rfl rfl rfl ?_; refine V_go 4 ?_; dsimp only [e25, e25_L0, go_sem, Nat.reduceBEq, Nat.reduceAdd]; refine ⟨by simp, ?_⟩; exact M_done (res := fun (r : (Side × Bool)) => .tup [.agg (Side.row r.1), .bv r.2]) ok25 (M_out h hout1)
    ·refine V_go 7 ?_; dsimp only [e25, e25_L0, go_sem, Nat.reduceBEq, Nat.reduceAdd]; refine ⟨by simp, ?_⟩; exact M_back h hin1
   ·refine V_go 1 ?_; dsimp only [e25, e25_L0, go_sem, Nat.reduceBEq, Nat.reduceAdd]; refine ⟨by simp, ?_⟩; exact M_to J1 (s := ()) (M_out h hout1)
end NX
end Go.Proofs.Ytadebhbiglmodaa
/-
  The function narthex/narthexref12.Few: its code compiled, a model, and that the code answers as the model. Written by a program of ours (lb.py). No statement of the seat is proved here.
-/
namespace Go.Proofs.Ytadebhbiglmodaa
namespace NX
open Go
set_option maxRecDepth 100000
set_option maxHeartbeats 4000000
def e20_L0 : EC := .seq (.seq (.reg [⟨(some 4), none, .mv (.t 3)⟩, ⟨(some 5), none, .fld 0 (.t 1)⟩, ⟨(some 6), none, .load (.t 5)⟩, ⟨(some 7), none, .len (.t 6)⟩, ⟨(some 8), none, .bin .lss (.t 4) (.t 7)⟩, ⟨(some 9), none, .mv (.t 8)⟩, ⟨(some 10), (some (9, true)), .mv (.t 3)⟩, ⟨(some 11), (some (9, true)), .bin .lss (.t 10) (.c (.iv 25))⟩, ⟨(some 12), none, .pick (.t 9) (.t 11) (.c .ff)⟩]) (.ite (.t 12) (.skip) (.exit 0))) (.seq (.blk 1 (.seq (.reg [⟨(some 15), none, .fld 0 (.t 1)⟩, ⟨(some 16), none, .load (.t 15)⟩, ⟨(some 17), none, .mv (.t 3)⟩, ⟨(some 18), none, .idx 3 (.t 16) (.t 17)⟩, ⟨(some 19), none, .fld 2 (.t 18)⟩, ⟨(some 20), none, .load (.t 19)⟩, ⟨(some 21), none, .len (.t 20)⟩, ⟨(some 22), none, .bin .gtr (.t 21) (.c (.iv 24))⟩]) (.ite (.t 22) (.seq (.reg [⟨(some 2), none, .mv (.c .ff)⟩]) (.ret)) (.skip)))) (.reg [⟨(some 13), none, .mv (.t 3)⟩, ⟨(some 14), none, .bin .add (.t 13) (.c (.iv 1))⟩, ⟨(some 3), none, .mv (.t 14)⟩]))
def e20 : EC := .seq (.reg [⟨(some 1), none, .box 43 2 (.t 0)⟩, ⟨(some 2), none, .mv (.c .ff)⟩]) (.seq (.seq (.reg [⟨(some 3), none, .mv (.c (.iv 0))⟩]) (.blk 0 (.loop e20_L0))) (.seq (.reg [⟨(some 23), none, .fld 0 (.t 1)⟩, ⟨(some 24), none, .load (.t 23)⟩, ⟨(some 25), none, .len (.t 24)⟩, ⟨(some 26), none, .bin .leq (.t 25) (.c (.iv 24))⟩, ⟨(some 27), none, .mv (.t 26)⟩, ⟨(some 28), (some (27, true)), .fld 1 (.t 1)⟩, ⟨(some 29), (some (27, true)), .load (.t 28)⟩, ⟨(some 30), (some (27, true)), .len (.t 29)⟩, ⟨(some 31), (some (27, true)), .bin .leq (.t 30) (.c (.iv 40))⟩, ⟨(some 32), none, .pick (.t 27) (.t 31) (.c .ff)⟩, ⟨(some 2), none, .mv (.t 32)⟩]) (.ret)))
theorem ok20 : FnOK Try.prog 20 Try.f20 e20 [.t 2] 1 32 := ⟨by kernel_rfl, ⟨_, rfl, by kernel_rfl⟩, by kernel_rfl, by kernel_rfl⟩
/- narthex/narthexref12.Few -/
noncomputable def m_narthexref12_Few_j3  : Bool → Option Bool
| x11 =>
 some x11
noncomputable def m_narthexref12_Few_j1 (x1 : Scene) : Unit → Option Bool
| () =>
 ifb (decide ((ln Diner.row x1.Diners) ≤ 24)) (
 m_narthexref12_Few_j3 (decide ((ln Mail.row x1.Mail) ≤ 40))) (
 m_narthexref12_Few_j3 false)
noncomputable def m_narthexref12_Few_j2 (x1 : Scene) (x5 : Int) : Bool → Option (Int ⊕ Bool)
| x6 =>
 ifb x6 (
 (at_ x1.Diners x5).bind fun x7 =>
 ifb (decide (24 < (ln Side.row x7.Sides))) (
 Option.map Sum.inr (some false)) (
 some (.inl (wr (x5 + 1))))) (
 Option.map Sum.inr ((m_narthexref12_Few_j1 x1) ()))
noncomputable def m_narthexref12_Few_l1 (x1 : Scene) : Int → Option (Int ⊕ Bool)
| x5 =>
 ifb (decide (x5 < (ln Diner.row x1.Diners))) (
 (m_narthexref12_Few_j2 x1 x5) (decide (x5 < 25))) (
 (m_narthexref12_Few_j2 x1 x5) false)
noncomputable def m_narthexref12_Few (x1 : Scene) : Option Bool :=
 loop (m_narthexref12_Few_l1 x1) 0
theorem k_narthexref12_Few (x1 : Scene) (r : Bool) (h : m_narthexref12_Few x1 = some r) : FunP Try.prog 20 [.agg (Scene.row x1)] (.bv r) := by
  refine FunP_intro ok20 rfl rfl fun w0 H0 => ?_
  rw [m_narthexref12_Few] at h
  refine V_go 10 ?_; dsimp only [e20, e20_L0, go_sem, Nat.reduceBEq, Nat.reduceAdd]; refine ⟨by simp, ?_⟩; refine V_join (fun (_ : Unit) => (⟨(.any :: .ptr 0 0 :: an 31 []), [some ⟨43, [.sl 3 (List.map Diner.row x1.Diners), .sl 5 (List.map Mail.row x1.Mail)]⟩], []⟩ : St)) (m_narthexref12_Few_j1 x1) r ?_ fun J1 => ?_
  ·rintro ⟨⟩ h; rw [m_narthexref12_Few_j1] at h; (try dsimp only); refine V_go 7 ?_; dsimp only [e20, e20_L0, go_sem, Nat.reduceBEq, Nat.reduceAdd]; refine ⟨by simp, ?_⟩; refine V_join (fun (x11 : Bool) => (⟨(.any :: .any :: .bv x11 :: an 30 []), [], []⟩ : St)) m_narthexref12_Few_j3 r ?_ fun J3 => ?_
   ·intro x11 h; rw [m_narthexref12_Few_j3] at h; (try dsimp only); exact M_done (res := fun (r : Bool) => .bv r) ok20 h
   ·refine M_case 27 h rfl (fun _ h => ?_) fun _ h => ?_
    ·dsimp only [go_sem, Nat.reduceBEq, Nat.reduceAdd]; refine V_go 7 ?_; dsimp only [e20, e20_L0, go_sem, Nat.reduceBEq, Nat.reduceAdd]; refine ⟨by simp, ?_⟩; exact M_to J3 (s := decide ((ln Mail.row x1.Mail) ≤ 40)) h
    ·dsimp only [go_sem, Nat.reduceBEq, Nat.reduceAdd]; refine V_go 7 ?_; dsimp only [e20, e20_L0, go_sem, Nat.reduceBEq, Nat.reduceAdd]; refine ⟨by simp, ?_⟩; exact M_to J3 (s := false) h
  ·refine V_go 1 ?_; dsimp only [e20, e20_L0, go_sem, Nat.reduceBEq, Nat.reduceAdd]; refine ⟨by simp, ?_⟩; refine M_loop h (fun (x5 : Int) => (⟨(.any :: .ptr 0 0 :: .any :: .iv x5 :: an 29 []), [some ⟨43, [.sl 3 (List.map Diner.row x1.Diners), .sl 5 (List.map Mail.row x1.Mail)]⟩], []⟩ : St)) (by simp [go_sem]) (by intro x5; first | rfl | simp [go_sem]) ?_; rintro n1 x5 y1 h hin1 hout1; rw [m_narthexref12_Few_l1] at h; (try dsimp only); refine V_go 9 ?_; dsimp only [e20, e20_L0, go_sem, Nat.reduceBEq, Nat.reduceAdd]; refine ⟨by simp, ?_⟩
   refine V_join (fun (x6 : Bool) => (⟨(.any :: .ptr 0 0 :: .any :: .iv x5 :: an 8 (.bv x6 :: an 20 [])), [some ⟨43, [.sl 3 (List.map Diner.row x1.Diners), .sl 5 (List.map Mail.row x1.Mail)]⟩], []⟩ : St)) (m_narthexref12_Few_j2 x1 x5) y1 ?_ fun J2 => ?_
   ·intro x6 h; rw [m_narthexref12_Few_j2] at h; (try dsimp only); refine M_ite h rfl (fun _ h => ?_) fun _ h => ?_
    ·refine V_go 8 ?_; dsimp only [e20, e20_L0, go_sem, Nat.reduceBEq, Nat.reduceAdd]; refine ⟨by simp, ?_⟩; obtain ⟨x7, ex7, h⟩ := Option.bind_eq_some_iff.1 h; refine V_idxM Diner.row ex7 trivial rfl rfl rfl ?_; refine V_go 5 ?_; dsimp only [e20, e20_L0, go_sem, Nat.reduceBEq, Nat.reduceAdd]; refine ⟨by simp, ?_⟩; refine M_ite h rfl (fun _ h => ?_) fun _ h => ?_
     ·refine V_go 4 ?_; dsimp only [e20, e20_L0, go_sem, Nat.reduceBEq, Nat.reduceAdd]; refine ⟨by simp, ?_⟩; exact M_done (res := fun (r : Bool) => .bv r) ok20 (M_out h hout1)
     ·refine V_go 7 ?_; dsimp only [e20, e20_L0, go_sem, Nat.reduceBEq, Nat.reduceAdd]; refine ⟨by simp, ?_⟩; exact M_back h hin1
    ·refine V_go 1 ?_; dsimp only [e20, e20_L0, go_sem, Nat.reduceBEq, Nat.reduceAdd]; refine ⟨by simp, ?_⟩; exact M_to J1 (s := ()) (M_out h hout1)
   ·refine M_case 9 h rfl (fun _ h => ?_) fun _ h => ?_
    ·dsimp only [go_sem, Nat.reduceBEq, Nat.reduceAdd]; refine V_go 4 ?_; dsimp only [e20, e20_L0, go_sem, Nat.reduceBEq, Nat.reduceAdd]; refine ⟨by simp, ?_⟩; exact M_to J2 (s := decide (x5 < 25)) h
    ·dsimp only [go_sem, Nat.reduceBEq, Nat.reduceAdd]; refine V_go 4 ?_; dsimp only [e20, e20_L0, go_sem, Nat.reduceBEq, Nat.reduceAdd]; refine ⟨by simp, ?_⟩; exact M_to J2 (s := false) h
end NX
end Go.Proofs.Ytadebhbiglmodaa
/-
  The function narthex/narthexlaw12.Own: its code compiled, a model, and that the code answers as the model. Written by a program of ours (lb.py). No statement of the seat is proved here.
-/
namespace Go.Proofs.Ytadebhbiglmodaa
namespace NX
open Go
set_option maxRecDepth 100000
set_option maxHeartbeats 4000000
def e22_L0 : EC := .seq (.seq (.reg [⟨(some 7), none, .mv (.t 4)⟩, ⟨(some 8), none, .mv (.t 0)⟩, ⟨(some 9), none, .len (.t 8)⟩, ⟨(some 10), none, .bin .lss (.t 7) (.t 9)⟩]) (.ite (.t 10) (.skip) (.exit 0))) (.seq (.blk 1 (.seq (.reg [⟨(some 13), none, .mv (.t 0)⟩, ⟨(some 14), none, .mv (.t 4)⟩, ⟨(some 15), none, .idx 3 (.t 13) (.t 14)⟩, ⟨(some 16), none, .loadA 3 (.t 15)⟩, ⟨(some 5), none, .alloc 39 [.iv 0, .iv 0, .nl]⟩, ⟨none, none, .store 3 (.t 5) (.t 16)⟩]) (.seq (.reg [⟨(some 17), none, .bsl 49 8 0 [.iv 0, .iv 0, .iv 0, .ff, .ff, .ff, .ff, .ff] []⟩, ⟨(some 18), none, .fld 2 (.t 5)⟩, ⟨(some 19), none, .load (.t 18)⟩, ⟨(some 20), none, .app 49 8 32 (.t 17) (.t 19)⟩, ⟨(some 21), none, .fld 2 (.t 5)⟩, ⟨none, none, .store 1 (.t 21) (.t 20)⟩]) (.reg [⟨(some 22), none, .mv (.t 3)⟩, ⟨(some 23), none, .loadA 3 (.t 5)⟩, ⟨(some 24), none, .bsl 39 3 1 [.iv 0, .iv 0, .nl] [(0, (.t 23))]⟩, ⟨(some 25), none, .app 39 3 40 (.t 22) (.t 24)⟩, ⟨(some 3), none, .mv (.t 25)⟩])))) (.reg [⟨(some 11), none, .mv (.t 4)⟩, ⟨(some 12), none, .bin .add (.t 11) (.c (.iv 1))⟩, ⟨(some 4), none, .mv (.t 12)⟩]))
def e22 : EC := .seq (.reg [⟨(some 2), none, .mv (.c .nl)⟩]) (.seq (.reg [⟨(some 6), none, .bsl 39 3 0 [.iv 0, .iv 0, .nl] []⟩, ⟨(some 3), none, .mv (.t 6)⟩]) (.seq (.seq (.reg [⟨(some 4), none, .mv (.c (.iv 0))⟩]) (.blk 0 (.loop e22_L0))) (.seq (.reg [⟨(some 26), none, .mv (.t 3)⟩, ⟨(some 2), none, .mv (.t 26)⟩]) (.ret))))
theorem ok22 : FnOK Try.prog 22 Try.f22 e22 [.t 2] 1 26 := ⟨by kernel_rfl, ⟨_, rfl, by kernel_rfl⟩, by kernel_rfl, by kernel_rfl⟩
/- narthex/narthexlaw12.Own -/
noncomputable def m_narthexlaw12_Own_j1  : (List Diner) → Option (List Diner)
| x17 =>
 some x17
noncomputable def m_narthexlaw12_Own_l1 (x1 : (List Diner)) : (Int × (List Diner)) → Option ((Int × (List Diner)) ⊕ (List Diner))
| (x7, x8) =>
 ifb (decide (x7 < (ln Diner.row x1))) (
 (at_ x1 x7).bind fun x9 =>
 (app_ 32 (([] : List Side)) x9.Sides).bind fun x10 =>
 (app_ 40 x8 ([(Diner.mk x9.ID x9.Phase x10)])).bind fun x11 =>
 some (.inl (wr (x7 + 1), x11))) (
 Option.map Sum.inr (m_narthexlaw12_Own_j1 x8))
noncomputable def m_narthexlaw12_Own (x1 : (List Diner)) : Option (List Diner) :=
 loop (m_narthexlaw12_Own_l1 x1) (0, ([] : List Diner))
theorem o_narthexlaw12_Own (x1 : (List Diner)) (r : (List Diner)) (h : m_narthexlaw12_Own x1 = some r) : FunO Try.prog 22 [.sl 3 (List.map Diner.row x1)] 39 3 (List.map Diner.row r) := by
  refine FunO_intro ok22 rfl fun w0 H0 => ?_
  rw [m_narthexlaw12_Own] at h
  refine V_go 14 ?_; dsimp only [e22, e22_L0, go_sem, Nat.reduceBEq, Nat.reduceAdd]; refine ⟨by simp, ?_⟩; refine V_join (fun (x17 : (List Diner)) => (⟨(an 3 (.osl 0 :: an 23 [])), [], [some ⟨39, 3, List.map Diner.row x17⟩]⟩ : St)) m_narthexlaw12_Own_j1 r ?_ fun J1 => ?_
  ·intro x17 h; rw [m_narthexlaw12_Own_j1] at h; (try dsimp only); refine V_go 5 ?_; dsimp only [e22, e22_L0, go_sem, Nat.reduceBEq, Nat.reduceAdd]; refine ⟨by simp, ?_⟩; exact O_doneM Diner.row ok22 h rfl rfl
  ·refine V_go 1 ?_; dsimp only [e22, e22_L0, go_sem, Nat.reduceBEq, Nat.reduceAdd]; refine ⟨by simp, ?_⟩; refine M_loop h (fun ((x7, x8) : (Int × (List Diner))) => (⟨(.sl 3 (List.map Diner.row x1) :: .any :: .any :: .osl 0 :: .iv x7 :: an 22 []), [], [some ⟨39, 3, List.map Diner.row x8⟩]⟩ : St)) (by simp [go_sem]) (by rintro ⟨x7, x8⟩; first | rfl | simp [go_sem]) ?_; rintro n1 ⟨x7, x8⟩ y1 h hin1 hout1; rw [m_narthexlaw12_Own_l1] at h; (try dsimp only); refine V_go 8 ?_; dsimp only [e22, e22_L0, go_sem, Nat.reduceBEq, Nat.reduceAdd]; refine ⟨by simp, ?_⟩
   refine M_ite h rfl (fun _ h => ?_) fun _ h => ?_
   ·refine V_go 7 ?_; dsimp only [e22, e22_L0, go_sem, Nat.reduceBEq, Nat.reduceAdd]; refine ⟨by simp, ?_⟩; obtain ⟨x9, ex9, h⟩ := Option.bind_eq_some_iff.1 h; refine V_idxM Diner.row ex9 trivial rfl rfl rfl ?_; refine V_go 9 ?_; dsimp only [e22, e22_L0, go_sem, Nat.reduceBEq, Nat.reduceAdd]; refine ⟨by simp, ?_⟩; obtain ⟨x10, ex10, h⟩ := Option.bind_eq_some_iff.1 h; refine V_appM Side.row ex10 trivial rfl rfl rfl ?_; refine V_go 6 ?_; dsimp only [e22, e22_L0, go_sem, Nat.reduceBEq, Nat.reduceAdd]; refine ⟨by simp, ?_⟩; refine V_seal 2 rfl ?_; dsimp only [go_sem, Nat.reduceBEq, Nat.reduceAdd]
    refine V_go 1 ?_; dsimp only [e22, e22_L0, go_sem, Nat.reduceBEq, Nat.reduceAdd]; refine ⟨by simp, ?_⟩; obtain ⟨x11, ex11, h⟩ := Option.bind_eq_some_iff.1 h; refine V_appM Diner.row ex11 trivial rfl rfl rfl ?_; refine V_go 8 ?_; dsimp only [e22, e22_L0, go_sem, Nat.reduceBEq, Nat.reduceAdd]; refine ⟨by simp, ?_⟩; refine V_ren 4 0 rfl rfl rfl ?_; dsimp only [go_sem, Nat.reduceBEq, Nat.reduceAdd]; exact M_back h hin1
   ·refine V_go 1 ?_; dsimp only [e22, e22_L0, go_sem, Nat.reduceBEq, Nat.reduceAdd]; refine ⟨by simp, ?_⟩; exact M_to J1 (s := x8) (M_out h hout1)
theorem k_narthexlaw12_Own (x1 : (List Diner)) (r : (List Diner)) (h : m_narthexlaw12_Own x1 = some r) : FunP Try.prog 22 [.sl 3 (List.map Diner.row x1)] (.sl 3 (List.map Diner.row r)) := (o_narthexlaw12_Own x1 r h).sealed
end NX
end Go.Proofs.Ytadebhbiglmodaa
/-
  The function narthex/narthexlaw03.Own: its code compiled, a model, and that the code answers as the model. Written by a program of ours (lb.py). No statement of the seat is proved here.
-/
namespace Go.Proofs.Ytadebhbiglmodaa
namespace NX
open Go
set_option maxRecDepth 100000
set_option maxHeartbeats 4000000
def e15 : EC := .seq (.reg [⟨(some 1), none, .box 24 2 (.t 0)⟩, ⟨(some 2), none, .alloc 24 [.iv 0, .nl]⟩]) (.seq (.drw [⟨(some 3), none, .fld 0 (.t 1)⟩, ⟨(some 4), none, .load (.t 3)⟩, ⟨(some 5), none, .bsl 58 2 0 [.iv 0, .iv 0] []⟩, ⟨(some 6), none, .fld 1 (.t 1)⟩, ⟨(some 7), none, .load (.t 6)⟩, ⟨(some 8), none, .app 58 2 16 (.t 5) (.t 7)⟩, ⟨(some 9), none, .build [.iv 0, .nl] [(0, 1, (.t 4)), (1, 1, (.t 8))]⟩, ⟨none, none, .store 2 (.t 2) (.t 9)⟩] [[], [0], [], [], [3], [2, 4], [1, 5], [6, 5, 0, 1, 2, 3, 4, 5, 6]] [[1], [0, 6], [5], [4], [3, 5], [2, 4, 6], [1, 5, 7], [6]]) (.ret))
theorem ok15 : FnOK Try.prog 15 Try.f15 e15 [.c 2 (some 2)] 1 9 := ⟨by kernel_rfl, ⟨_, rfl, by kernel_rfl⟩, by kernel_rfl, by kernel_rfl⟩
/- narthex/narthexlaw03.Own -/
noncomputable def m_narthexlaw03_Own (x1 : Graph) : Option Graph :=
 (app_ 16 (([] : List Edge)) x1.Edges).bind fun x2 =>
 some (Graph.mk x1.N x2)
theorem k_narthexlaw03_Own (x1 : Graph) (r : Graph) (h : m_narthexlaw03_Own x1 = some r) : FunP Try.prog 15 [.agg (Graph.row x1)] (.agg (Graph.row r)) := by
  refine FunP_intro ok15 rfl rfl fun w0 H0 => ?_
  rw [m_narthexlaw03_Own] at h
  refine V_go 6 ?_; dsimp only [e15, go_sem, Nat.reduceBEq, Nat.reduceAdd]; refine ⟨by simp, ?_⟩; refine V_drw (by kernel_rfl) fun all hall hs hnap haf => ?_; dsimp only [go_sem, Nat.reduceBEq, Nat.reduceAdd]; refine G_goN hall hs haf hnap 4 4 ?_; dsimp only [go_sem, Nat.reduceBEq, Nat.reduceAdd]; refine ⟨by simp, ?_⟩; refine G_one 2 rfl ?_; refine GO_ev hall rfl trivial ?_; dsimp only [go_sem, Nat.reduceBEq, Nat.reduceAdd]; refine G_one 5 rfl ?_; obtain ⟨x2, ex2, h⟩ := Option.bind_eq_some_iff.1 h; refine GO_appM Edge.row ex2 hall rfl trivial rfl rfl rfl ?_
  dsimp only [go_sem, Nat.reduceBEq, Nat.reduceAdd]; refine G_goN hall hs haf hnap 1 1 ?_; dsimp only [go_sem, Nat.reduceBEq, Nat.reduceAdd]; refine ⟨by simp, ?_⟩; refine G_one 7 rfl ?_; refine GO_ev hall rfl trivial ?_; dsimp only [go_sem, Nat.reduceBEq, Nat.reduceAdd]; refine G_done rfl ?_ _; refine V_seal 1 rfl ?_; dsimp only [go_sem, Nat.reduceBEq, Nat.reduceAdd]; exact M_done (res := fun (r : Graph) => .agg (Graph.row r)) ok15 h
end NX
end Go.Proofs.Ytadebhbiglmodaa
/-
  Plain laws: nodes: their sides, whether they are the same, few, copied. No statement of the seat is proved here.
-/
namespace Go.Proofs.Ytadebhbiglmodaa
namespace NX
open Go
/-- A loop over a list, its state told by what lies behind. -/
theorem loop_pp {α τ β : Type} (l : List α) (body : τ → Option (τ ⊕ β)) (st : List α → τ) (R : List α → List α → Option β)
    (hb : ∀ pre x post, l = pre ++ x :: post → (body (st pre) = some (.inl (st (pre ++ [x]))) ∧ R pre (x :: post) = R (pre ++ [x]) post) ∨ ∃ r, body (st pre) = some (.inr r) ∧ R pre (x :: post) = some r)
    (he : body (st l) = (R l []).map .inr) : ∀ post pre, l = pre ++ post → loop body (st pre) = R pre post
  | [], pre, h => by
    have : pre = l := by simpa using h.symm
    subst this
    rw [loop_eq, he]
    cases R pre [] <;> rfl
  | x :: post, pre, h => by
    rw [loop_eq]
    rcases hb pre x post h with ⟨h1, h2⟩ | ⟨r, h1, h2⟩
    · rw [h1, h2]
      exact loop_pp l body st R hb he post (pre ++ [x]) (by simpa using h)
    · rw [h1, h2]
theorem loop_pp0 {α τ β : Type} (l : List α) (body : τ → Option (τ ⊕ β)) (st : List α → τ) (R : List α → List α → Option β)
    (hb : ∀ pre x post, l = pre ++ x :: post → (body (st pre) = some (.inl (st (pre ++ [x]))) ∧ R pre (x :: post) = R (pre ++ [x]) post) ∨ ∃ r, body (st pre) = some (.inr r) ∧ R pre (x :: post) = some r)
    (he : body (st l) = (R l []).map .inr) : loop body (st []) = R [] l := loop_pp l body st R hb he l [] rfl
/-- .. behind which something always holds. -/
theorem loop_ppI {α τ β : Type} (l : List α) (body : τ → Option (τ ⊕ β)) (st : List α → τ) (R : List α → List α → Option β) (I : List α → Prop)
    (hb : ∀ pre x post, l = pre ++ x :: post → I pre → (body (st pre) = some (.inl (st (pre ++ [x]))) ∧ I (pre ++ [x]) ∧ R pre (x :: post) = R (pre ++ [x]) post) ∨ ∃ r, body (st pre) = some (.inr r) ∧ R pre (x :: post) = some r)
    (he : I l → body (st l) = (R l []).map .inr) : ∀ post pre, l = pre ++ post → I pre → loop body (st pre) = R pre post
  | [], pre, h, hI => by
    have : pre = l := by simpa using h.symm
    subst this
    rw [loop_eq, he hI]
    cases R pre [] <;> rfl
  | x :: post, pre, h, hI => by
    rw [loop_eq]
    rcases hb pre x post h hI with ⟨h1, h3, h2⟩ | ⟨r, h1, h2⟩
    · rw [h1, h2]
      exact loop_ppI l body st R I hb he post (pre ++ [x]) (by simpa using h) h3
    · rw [h1, h2]
/-- .. that goes to its end. -/
theorem loop_pre {α τ β : Type} (l : List α) (body : τ → Option (τ ⊕ β)) (st : List α → τ) (r : β)
    (hb : ∀ pre x post, l = pre ++ x :: post → body (st pre) = some (.inl (st (pre ++ [x])))) (he : body (st l) = some (.inr r)) : loop body (st []) = some r :=
  loop_pp0 l body st (fun _ _ => some r) (fun pre x post h => .inl ⟨hb pre x post h, rfl⟩) he
theorem mid_get {α : Type} {l pre post : List α} {x : α} (h : l = pre ++ x :: post) : l[pre.length]? = some x := by subst h; simp
theorem mid_len {α : Type} {l pre post : List α} {x : α} (h : l = pre ++ x :: post) : pre.length < l.length := by subst h; simp
theorem mid_mem {α : Type} {l pre post : List α} {x : α} (h : l = pre ++ x :: post) : x ∈ l := by subst h; simp
theorem at_mid {α : Type} {l a b : List α} {x : α} (h : l = a ++ x :: b) : at_ l (a.length : Int) = some x := at_get (mid_get h)
theorem set_mid {α : Type} (a b : List α) (x y : α) : (a ++ x :: b).set ((a.length : Int)).toNat y = a ++ y :: b := by simp
theorem len_snoc {α : Type} (pre : List α) (x : α) : (pre ++ [x]).length = pre.length + 1 := by simp
/-- A loop with a counter, its state told by it. -/
theorem loop_nat {τ β : Type} (n : Nat) (body : τ → Option (τ ⊕ β)) (st : Nat → τ) (r : β) (hb : ∀ k, k < n → body (st k) = some (.inl (st (k + 1)))) (he : body (st n) = some (.inr r)) : loop body (st 0) = some r := by
  have key : ∀ m k, m + k = n → loop body (st k) = some r := by
    intro m
    induction m with
    | zero => intro k hk; have : k = n := by omega
              subst this; rw [loop_eq, he]
    | succ m ih => intro k hk; rw [loop_eq, hb k (by omega)]; exact ih (k + 1) (by omega)
  exact key n 0 rfl
theorem loop_natI {τ β : Type} (n : Nat) (body : τ → Option (τ ⊕ β)) (st : Nat → τ) (R : Nat → Option β) (hb : ∀ k, k < n → (body (st k) = some (.inl (st (k + 1))) ∧ R k = R (k + 1)) ∨ ∃ r, body (st k) = some (.inr r) ∧ R k = some r) (he : body (st n) = (R n).map .inr) : loop body (st 0) = R 0 := by
  have key : ∀ m k, m + k = n → loop body (st k) = R k := by
    intro m
    induction m with
    | zero =>
      intro k hk
      have : k = n := by omega
      subst this
      rw [loop_eq, he]
      cases R k <;> rfl
    | succ m ih =>
      intro k hk
      rw [loop_eq]
      rcases hb k (by omega) with ⟨h1, h2⟩ | ⟨r, h1, h2⟩
      · rw [h1, h2]; exact ih (k + 1) (by omega)
      · rw [h1, h2]
  exact key n 0 rfl
/-- Two lists, one beside the other. -/
theorem loop_all2 {α : Type} (l m : List α) (body : Int → Option (Int ⊕ Bool)) (eqv : α → α → Bool) (hlm : l.length = m.length) (hl : l.length ≤ 4000000000000000000)
    (hb : ∀ (k : Nat) x y, l[k]? = some x → m[k]? = some y → body k = some (if eqv x y then .inl ((k + 1 : Nat) : Int) else .inr false)) (he : body l.length = some (.inr true)) : loop body 0 = some ((l.zip m).all fun p => eqv p.1 p.2) := by
  rw [loop_any (l.zip m) body (fun p => !eqv p.1 p.2) false true (by simp; omega) (fun k x hx => by
    obtain ⟨x1, x2⟩ := x
    rw [List.getElem?_zip_eq_some] at hx
    rw [hb k x1 x2 hx.1 hx.2]
    cases eqv x1 x2 <;> rfl) (by rw [show (l.zip m).length = l.length by simp [hlm]]; exact he)]
  have : ∀ (q : List (α × α)), (if q.any (fun p => !eqv p.1 p.2) then some false else some true) = some (q.all fun p => eqv p.1 p.2) := by
    intro q
    induction q with
    | nil => rfl
    | cons p q ih =>
      rw [List.any_cons, List.all_cons]
      cases h : eqv p.1 p.2 with
      | true => exact ih
      | false => rfl
  have h2 := this (l.zip m)
  rw [← h2]
  cases (l.zip m).any (fun p => !eqv p.1 p.2) <;> rfl
theorem zip_all_eq {α : Type} [DecidableEq α] : ∀ (l m : List α), l.length = m.length → (l.zip m).all (fun p => decide (p.1 = p.2)) = decide (l = m)
  | [], [], _ => rfl
  | [], _ :: _, h => by simp at h
  | _ :: _, [], h => by simp at h
  | x :: l, y :: m, h => by
    have ih := zip_all_eq l m (by simpa using h)
    simp only [List.zip_cons_cons, List.all_cons, ih]
    by_cases h1 : x = y <;> simp [h1]
theorem len_ne {α : Type} [DecidableEq α] {l m : List α} (h : l.length ≠ m.length) : decide (l = m) = false := decide_eq_false (by rintro rfl; exact h rfl)
theorem Side_eqB (x y : Side) : (decide (x.Peer = y.Peer) && (decide (x.Epoch = y.Epoch) && (decide (x.State = y.State) && ((x.Fork == y.Fork) && ((x.Dirty == y.Dirty) && ((x.Token == y.Token) && ((x.Bottle == y.Bottle) && ((x.Ask == y.Ask) && true)))))))) = decide (x = y) := by
  rw [Bool.eq_iff_iff]; cases x; cases y; simp [Side.mk.injEq]
theorem Mail_eqB (x y : Mail) : (decide (x.From = y.From) && (decide (x.To = y.To) && (decide (x.Msg.Kind = y.Msg.Kind) && (decide (x.Msg.Epoch = y.Msg.Epoch) && (decide (x.Msg.Num = y.Msg.Num) && true))))) = decide (x = y) := by
  rw [Bool.eq_iff_iff]
  obtain ⟨x1, x2, x3, x4, x5⟩ := x
  obtain ⟨y1, y2, y3, y4, y5⟩ := y
  simp [Mail.mk.injEq, Msg.mk.injEq]
theorem Edge_eqB (x y : Edge) : (decide (x.A = y.A) && (decide (x.B = y.B) && true)) = decide (x = y) := by
  rw [Bool.eq_iff_iff]; cases x; cases y; simp [Edge.mk.injEq]
theorem Arc_eqB (x y : Arc) : (decide (x.From = y.From) && (decide (x.To = y.To) && true)) = decide (x = y) := by
  rw [Bool.eq_iff_iff]; cases x; cases y; simp [Arc.mk.injEq]
theorem ln_dec {α β : Type} (f : α → List AV) (g : β → List AV) (l : List α) (m : List β) : decide (ln f l = ln g m) = decide (l.length = m.length) := by
  rw [ln_eq, ln_eq, decide_eq_decide]; omega
theorem s_EqualSide (l m : List Side) (hl : l.length ≤ 1000000) : m_slices_Equal_Side l m = some (decide (l = m)) := by
  simp only [m_slices_Equal_Side, ln_dec]
  by_cases h : l.length = m.length
  · simp only [h, decide_true, Bool.not_true, ifb_false]
    rw [loop_all2 l m _ (fun x y => decide (x = y)) h (by omega) (fun k x y hx hy => by
      simp only [m_slices_Equal_Side_l1, lt_len hx, ifb_true, at_get hx, at_get hy, Option.bind_some, Side_eqB, wr_succ' hx (show l.length ≤ 4000000000000000000 by omega), ifb_not]
      cases decide (x = y) <;> rfl) (by simp only [m_slices_Equal_Side_l1, nlt_len, ifb_false, m_slices_Equal_Side_j1, Option.map_some]), zip_all_eq l m h]
  · simp [h, len_ne h]
theorem s_r12SameOne (a b : Diner) (hl : a.Sides.length ≤ 1000000) : m_narthexref12_SameOne a b = some (decide (a = b)) := by
  obtain ⟨a1, a2, l⟩ := a
  obtain ⟨b1, b2, m⟩ := b
  dsimp only at hl
  simp only [m_narthexref12_SameOne, m_narthexref12_SameOne_j1, ln_dec, Diner.mk.injEq]
  by_cases h1 : a1 = b1
  · by_cases h2 : a2 = b2
    · by_cases h : l.length = m.length
      · simp only [h1, h2, h, decide_true, Bool.not_true, ifb_false, true_and]
        rw [loop_all2 l m _ (fun x y => decide (x = y)) h (by omega) (fun k x y hx hy => by
          simp only [m_narthexref12_SameOne_l1, lt_len hx, ifb_true, at_get hx, at_get hy, Option.bind_some, Side_eqB, wr_succ' hx (show l.length ≤ 4000000000000000000 by omega), ifb_not, Option.map_some]
          cases decide (x = y) <;> rfl) (by simp only [m_narthexref12_SameOne_l1, nlt_len, ifb_false, m_narthexref12_SameOne_j2, Option.map_some]), zip_all_eq l m h]
      · have := len_ne h
        simp [h1, h2, h]; rintro rfl; exact h rfl
    · simp [h1, h2]
  · simp [h1]
theorem s_placeSame1 (a b : Diner) (hl : a.Sides.length ≤ 1000000) : m_place_Same_1 a b = some (decide (a = b)) := by
  obtain ⟨a1, a2, l⟩ := a
  obtain ⟨b1, b2, m⟩ := b
  dsimp only at hl
  simp only [m_place_Same_1, m_place_Same_1_j1, s_EqualSide l m hl, Diner.mk.injEq]
  by_cases h1 : a1 = b1 <;> by_cases h2 : a2 = b2 <;> simp [h1, h2]
/-- Nodes that aren't too many. -/
def fewD (l : List Diner) : Prop := l.length ≤ 5000 ∧ ∀ d ∈ l, d.Sides.length ≤ 5000
theorem s_placeSame (l m : List Diner) (hl : fewD l) : m_place_Same l m = some (decide (l = m)) := by
  simp only [m_place_Same, m_slices_EqualFunc_Diner, ln_dec]
  by_cases h : l.length = m.length
  · simp only [h, decide_true, Bool.not_true, ifb_false]
    rw [loop_all2 l m _ (fun x y => decide (x = y)) h (by have := hl.1; omega) (fun k x y hx hy => by
      simp only [m_slices_EqualFunc_Diner_l1, lt_len hx, ifb_true, at_get hx, at_get hy, Option.bind_some, s_placeSame1 x y (by have := hl.2 x (List.mem_iff_getElem?.2 ⟨k, hx⟩); omega), wr_succ' hx (show l.length ≤ 4000000000000000000 by have := hl.1; omega), ifb_not, Option.map_some]
      cases decide (x = y) <;> rfl) (by simp only [m_slices_EqualFunc_Diner_l1, nlt_len, ifb_false, m_slices_EqualFunc_Diner_j1, Option.map_some]), zip_all_eq l m h]
    rfl
  · simp [h, len_ne h]
theorem s_r12Same (l m : List Diner) (hl : fewD l) : m_narthexref12_Same l m = some (decide (l = m)) := by
  simp only [m_narthexref12_Same, ln_dec]
  by_cases h : l.length = m.length
  · simp only [h, decide_true, Bool.not_true, ifb_false]
    rw [loop_all2 l m _ (fun x y => decide (x = y)) h (by have := hl.1; omega) (fun k x y hx hy => by
      simp only [m_narthexref12_Same_l1, lt_len hx, ifb_true, at_get hx, at_get hy, Option.bind_some, s_r12SameOne x y (by have := hl.2 x (List.mem_iff_getElem?.2 ⟨k, hx⟩); omega), wr_succ' hx (show l.length ≤ 4000000000000000000 by have := hl.1; omega), ifb_not, Option.map_some]
      cases decide (x = y) <;> rfl) (by simp only [m_narthexref12_Same_l1, nlt_len, ifb_false, m_narthexref12_Same_j1, Option.map_some]), zip_all_eq l m h]
  · simp [h, len_ne h]
theorem s_r03Same (g h : Graph) (hl : g.Edges.length ≤ 1000000) : m_narthexref03_Same g h = some (decide (g = h)) := by
  obtain ⟨n, l⟩ := g
  obtain ⟨n', m⟩ := h
  dsimp only at hl
  simp only [m_narthexref03_Same, m_narthexref03_Same_j1, ln_dec, Graph.mk.injEq]
  by_cases h1 : n = n'
  · by_cases h : l.length = m.length
    · simp only [h1, h, decide_true, Bool.not_true, ifb_false, true_and]
      rw [loop_all2 l m _ (fun x y => decide (x = y)) h (by omega) (fun k x y hx hy => by
        simp only [m_narthexref03_Same_l1, lt_len hx, ifb_true, at_get hx, at_get hy, Option.bind_some, Edge_eqB, wr_succ' hx (show l.length ≤ 4000000000000000000 by omega), ifb_not, Option.map_some]
        cases decide (x = y) <;> rfl) (by simp only [m_narthexref03_Same_l1, nlt_len, ifb_false, m_narthexref03_Same_j2, Option.map_some]), zip_all_eq l m h]
    · simp [h1, h]; rintro rfl; exact h rfl
  · simp [h1]
/-- The side to a peer. -/
def side0 : Side := ⟨0, 0, 0, false, false, false, false, false⟩
def sideO (d : Diner) (p : Int) : Option Side := d.Sides.find? fun x => decide (x.Peer = p)
def sideP (o : Option Side) : Side × Bool := match o with | some x => (x, true) | none => (side0, false)
theorem find_idx {α : Type} (q : α → Bool) : ∀ l : List α, match l.findIdx? q with
    | some i => ∃ x, l[i]? = some x ∧ l.find? q = some x
    | none => l.find? q = none
  | [] => rfl
  | x :: l => by
    have ih := find_idx q l
    rw [List.findIdx?_cons, List.find?_cons]
    cases h : q x with
    | true => exact ⟨x, rfl, by simp⟩
    | false =>
      simp only [Bool.false_eq_true, if_false]
      cases hf : l.findIdx? q with
      | none => rw [hf] at ih; simpa using ih
      | some i => rw [hf] at ih; obtain ⟨y, h1, h2⟩ := ih; exact ⟨y, by simpa using h1, by simpa using h2⟩
theorem s_Side (d : Diner) (p : Int) (hl : d.Sides.length ≤ 1000000) : m_place_Side d p = some (sideP (sideO d p)) := by
  simp only [m_place_Side]
  rw [s_IndexFunc_Side d.Sides (fun z => m_place_Side_1 z p) (fun x => decide (x.Peer = p)) (by omega) (fun x _ => rfl), Option.bind_some, plc_neg]
  have := find_idx (fun x : Side => decide (x.Peer = p)) d.Sides
  unfold sideO
  cases h : d.Sides.findIdx? (fun x => decide (x.Peer = p)) with
  | none => rw [h] at this; simp only at this; rw [this]; rfl
  | some i =>
    rw [h] at this
    obtain ⟨x, h1, h2⟩ := this
    rw [h2]
    simp only [Option.isNone_some, ifb_false, plc, at_get h1, Option.bind_some, sideP]
theorem s_r12Side (d : Diner) (p : Int) (hl : d.Sides.length ≤ 1000000) : m_narthexref12_Side d p = some (sideP (sideO d p)) := by
  unfold m_narthexref12_Side
  have := loop_forL d.Sides (m_narthexref12_Side_l1 d p) (fun k (_ : Unit) => k) (fun x _ => if decide (x.Peer = p) then some (.inr (x, true)) else some (.inl ())) (fun _ => some (side0, false)) (by omega) (fun k x s hx => by
    simp only [m_narthexref12_Side_l1, lt_len hx, ifb_true, at_get hx, Option.bind_some, wr_succ' hx (show d.Sides.length ≤ 4000000000000000000 by omega), Option.map_some]
    cases decide (x.Peer = p) <;> rfl) (fun _ => by simp only [m_narthexref12_Side_l1, nlt_len, ifb_false, m_narthexref12_Side_j1, Option.map_some]; rfl) ()
  rw [this, forL_find (fun x => if decide (x.Peer = p) then some (.inr (x, true)) else some (.inl ())) (fun x => decide (x.Peer = p)) (fun x => (x, true)) (some (side0, false)) d.Sides (fun x _ => rfl)]
  unfold sideO
  cases d.Sides.find? (fun x => decide (x.Peer = p)) <;> rfl
/-- Few: nodes, sides, mail. -/
def fewB (s : Scene) : Bool := decide (s.Diners.length ≤ 24) && (decide (s.Mail.length ≤ 40) && s.Diners.all fun d => decide (d.Sides.length ≤ 24))
theorem s_Few (s : Scene) : m_narthexref12_Few s = some (fewB s) := by
  unfold m_narthexref12_Few
  by_cases h24 : s.Diners.length ≤ 24
  · rw [loop_any s.Diners (m_narthexref12_Few_l1 s) (fun d => !decide (d.Sides.length ≤ 24)) false (decide (s.Mail.length ≤ 40)) (by omega) (fun k x hx => by
      have hk := (List.getElem?_eq_some_iff.1 hx).1
      have h25 : decide ((k : Int) < 25) = true := decide_eq_true (by omega)
      have e : decide (24 < ln Side.row x.Sides) = !decide (x.Sides.length ≤ 24) := by
        rw [ln_eq, ← decide_not, decide_eq_decide]; omega
      simp only [m_narthexref12_Few_l1, lt_len hx, ifb_true, m_narthexref12_Few_j2, h25, at_get hx, Option.bind_some, e, wr_succ' hx (show s.Diners.length ≤ 4000000000000000000 by omega), Option.map_some]
      cases decide (x.Sides.length ≤ 24) <;> rfl) (by
      have e1 : decide (ln Diner.row s.Diners ≤ 24) = true := by rw [ln_eq]; exact decide_eq_true (by omega)
      have e2 : decide (ln Mail.row s.Mail ≤ 40) = decide (s.Mail.length ≤ 40) := by rw [ln_eq, decide_eq_decide]; omega
      simp only [m_narthexref12_Few_l1, nlt_len, ifb_false, m_narthexref12_Few_j2, m_narthexref12_Few_j1, m_narthexref12_Few_j3, e1, e2, ifb_true, Option.map_some])]
    unfold fewB
    have : s.Diners.any (fun d => !decide (d.Sides.length ≤ 24)) = !s.Diners.all (fun d => decide (d.Sides.length ≤ 24)) := any_not_all _ _ _ fun _ => rfl
    rw [this]
    cases s.Diners.all (fun d => decide (d.Sides.length ≤ 24)) <;> simp [h24]
  · -- too many: whatever the first ones have
    have hf : fewB s = false := by simp [fewB, h24]
    rw [hf]
    have key : ∀ m k : Nat, m + k = 25 → loop (m_narthexref12_Few_l1 s) (k : Int) = some false := by
      intro m
      induction m with
      | zero =>
        intro k hk
        have : k = 25 := by omega
        subst this
        rw [loop_eq]
        have e1 : decide (ln Diner.row s.Diners ≤ 24) = false := by rw [ln_eq]; exact decide_eq_false (by omega)
        simp only [m_narthexref12_Few_l1, m_narthexref12_Few_j2, m_narthexref12_Few_j1, m_narthexref12_Few_j3, e1, ifb_false, Option.map_some]
        cases decide (((25 : Nat) : Int) < ln Diner.row s.Diners) <;> rfl
      | succ m ih =>
        intro k hk
        have hx : s.Diners[k]? = some s.Diners[k] := List.getElem?_eq_getElem (by omega)
        have h25 : decide ((k : Int) < 25) = true := decide_eq_true (by omega)
        rw [loop_eq]
        simp only [m_narthexref12_Few_l1, lt_len hx, ifb_true, m_narthexref12_Few_j2, h25, at_get hx, Option.bind_some, wr_succ (show k ≤ 4000000000000000000 by omega), Option.map_some]
        cases decide (24 < ln Side.row s.Diners[k].Sides) with
        | true => rfl
        | false => exact ih (k + 1) (by omega)
    exact key 25 0 rfl
theorem fewB_iff {s : Scene} (h : fewB s = true) : s.Diners.length ≤ 24 ∧ s.Mail.length ≤ 40 ∧ ∀ d ∈ s.Diners, d.Sides.length ≤ 24 := by
  simp only [fewB, Bool.and_eq_true, decide_eq_true_eq, List.all_eq_true] at h
  exact h
theorem fewB_D {s : Scene} (h : fewB s = true) : fewD s.Diners := by
  obtain ⟨h1, _, h3⟩ := fewB_iff h
  exact ⟨by omega, fun d hd => by have := h3 d hd; omega⟩
theorem s_Own (l : List Diner) (hl : fewD l) : m_narthexlaw12_Own l = some l := by
  unfold m_narthexlaw12_Own
  refine loop_pre l _ (fun pre => ((pre.length : Int), pre)) l (fun pre x post h => ?_) ?_
  · have hx := mid_get h
    have hm := mid_len h
    have h1 := hl.1
    have h2 := hl.2 x (mid_mem h)
    dsimp only [m_narthexlaw12_Own_l1]
    rw [lt_len hx, ifb_true, at_get hx, Option.bind_some, app_ok _ _ (by omega) (by simp; omega), Option.bind_some, app_ok _ _ (by omega) (by simp; omega), Option.bind_some, wr_succ (by omega), len_snoc]
    rfl
  · dsimp only [m_narthexlaw12_Own_l1]
    rw [nlt_len, ifb_false]; rfl
theorem s_Own03 (g : Graph) (hl : g.Edges.length ≤ 1000000) : m_narthexlaw03_Own g = some g := by
  simp only [m_narthexlaw03_Own]
  rw [app_ok _ _ (by omega) (by simp; omega)]
  rfl
end NX
end Go.Proofs.Ytadebhbiglmodaa
