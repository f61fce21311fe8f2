/-
  A part of the proof of ScriptJoins: no statement of the seat is proved here.
-/
import Derived.Test.YtncijcfnjepooaaGreatDoorK09
set_option linter.unusedVariables false
set_option linter.unusedSimpArgs false
set_option linter.unnecessarySimpa false
set_option linter.unusedSectionVars false
set_option linter.constructorNameAsVariable false
set_option linter.deprecated false
section
set_option linter.unusedVariables false
namespace Go.X
open Go Go.RowKit
/-! Lending: a contract by names, used by a caller with names of its own -/
section
variable {P : Program} {B : Ban} {lo g : Nat} {args argsc : List Value} {v vc : Value} {s s' c c' : XS} {rn : List (Nat × Nat)}
/-- Back: what was lent, and what is new. -/
def Bk (rn : List (Nat × Nat)) (s s' c : XS) : List (Nat × Nat) := rn.map (fun p => (p.2, p.1)) ++ (List.range (s'.nx - s.nx)).map fun j => (s.nx + j, c.nx + j)
theorem Bk_mem {k n : Nat} : (k, n) ∈ Bk rn s s' c ↔ (n, k) ∈ rn ∨ ∃ j, j < s'.nx - s.nx ∧ k = s.nx + j ∧ n = c.nx + j := by
  unfold Bk
  rw [List.mem_append, List.mem_map, List.mem_map]
  constructor
  · rintro (⟨⟨a, b⟩, h1, h2⟩ | ⟨j, h1, h2⟩)
    · simp at h2; obtain ⟨rfl, rfl⟩ := h2; exact .inl h1
    · simp at h2; obtain ⟨rfl, rfl⟩ := h2; exact .inr ⟨j, List.mem_range.1 h1, rfl, rfl⟩
  · rintro (h | ⟨j, h1, rfl, rfl⟩)
    · exact .inl ⟨(n, k), h, rfl⟩
    · exact .inr ⟨j, List.mem_range.2 h1, rfl⟩
structure Lend (P : Program) (B : Ban) (rn : List (Nat × Nat)) (s s' c c' : XS) : Prop where
  gc : P.globals.size ≤ c.nx
  nam : ∀ n k, (n, k) ∈ rn → P.globals.size ≤ k ∧ k < s.nx ∧ n < c.nx
  inj : ∀ n n' k, (n, k) ∈ rn → (n', k) ∈ rn → n = n'
  inj2 : ∀ n k k', (n, k) ∈ rn → (n, k') ∈ rn → k = k'
  vis : ∀ n k, (n, k) ∈ rn → ∃ o oc, look [] s k = some o ∧ look B c n = some oc ∧ RObj P.globals.size rn [] o oc
  all : ∀ k o, look [] s k = some o → ∃ n, (n, k) ∈ rn
  nx : c'.nx = c.nx + (s'.nx - s.nx)
  ob : ∀ n oc', look B c' n = some oc' → (look B c n = some oc' ∧ ∀ k, (n, k) ∉ rn) ∨ ∃ k o', (k, n) ∈ Bk rn s s' c ∧ look [] s' k = some o' ∧ RObj P.globals.size (Bk rn s s' c) [] oc' o'
theorem ZCb.lend {p : Bool} (h : ZCb p P g args s v s') (l : Lend P B rn s s' c c') (sf : SF B lo c c') (ha : RVL P.globals.size rn [] args argsc) (hv : RV P.globals.size (Bk rn s s' c) [] vc v) : TCb p P B lo g argsc c vc c' := by
  intro hfr
  refine ⟨sf, fun M args' w hargs hw hf => ?_⟩
  let M0 : Cx := ⟨fun k => if k < P.globals.size then M k else match rn.find? (fun p => p.2 == k) with
    | some p => M p.1
    | none => none, M.S⟩
  have low : ∀ k, k < P.globals.size → M0 k = M k := fun k hk => if_pos hk
  have hrn : ∀ {n k}, (n, k) ∈ rn → M0 k = M n := by
    intro n k h1
    show (if k < P.globals.size then M k else match rn.find? (fun p => p.2 == k) with
      | some p => M p.1
      | none => none) = M n
    rw [if_neg (by have := (l.nam n k h1).1; omega)]
    cases q : rn.find? (fun p => p.2 == k) with
    | none => have := List.find?_eq_none.1 q (n, k) h1; simp at this
    | some p =>
      have h4 := List.find?_some q
      have h5 := List.mem_of_find?_eq_some q
      obtain ⟨n', k'⟩ := p
      simp at h4
      subst h4
      rw [l.inj n n' k' h1 h5]
  have g0 : G P.globals.size rn [] M M0 := ⟨fun n k L hr e => by
    rcases hr with ⟨h1, rfl⟩ | h1
    · rw [low _ h1]; exact e
    · rw [hrn h1]; exact e, fun _ _ _ e => e, fun n c h => by simp at h⟩
  have see : ∀ k o, look [] s k = some o → ∃ n oc, (n, k) ∈ rn ∧ look B c n = some oc ∧ M0 k = M n ∧ RObj P.globals.size rn [] o oc := by
    intro k o e
    obtain ⟨n, h1⟩ := l.all k o e
    obtain ⟨o2, oc, h2, h3, h4⟩ := l.vis n k h1
    rw [e] at h2; simp at h2; subst h2
    exact ⟨n, oc, h1, h3, hrn h1, h4⟩
  have hw0 : WR P M0 (look [] s) w := by
    refine ⟨hw.rows, fun k o L i e hL => ?_, fun k o e => ?_, fun k k' o o' L K e1 e2 hL hK hb => ?_, fun k hk => by rw [low k hk]; exact hw.glob k hk, hw.amb⟩
    · obtain ⟨n, oc, h1, h2, h3, _⟩ := see k o e
      rw [h3] at hL
      exact hw.apart n oc L i h2 hL
    · obtain ⟨n, oc, h1, h2, h3, h4⟩ := see k o e
      obtain ⟨L, h5, h6⟩ := hw.live n oc h2
      exact ⟨L, by rw [h3]; exact h5, h4 P M M0 L w g0 h6⟩
    · obtain ⟨n, oc, h1, h2, h3, _⟩ := see k o e1
      obtain ⟨n', oc', h1', h2', h3', _⟩ := see k' o' e2
      rw [h3] at hL; rw [h3'] at hK
      obtain rfl := hw.inj n n' oc oc' L K h2 h2' hL hK hb
      exact l.inj2 n k k' h1 h1'
  have free0 : ∀ k, s.nx ≤ k → M0 k = none := by
    intro k hk
    show (if k < P.globals.size then M k else match rn.find? (fun p => p.2 == k) with
      | some p => M p.1
      | none => none) = none
    have := h.gl
    rw [if_neg (by omega)]
    cases q : rn.find? (fun p => p.2 == k) with
    | none => rfl
    | some p =>
      have h4 := List.find?_some q
      have h5 := List.mem_of_find?_eq_some q
      obtain ⟨n', k'⟩ := p
      simp at h4
      subst h4
      have := (l.nam n' k' h5).2.1
      omega
  refine Calls.mono (h.run M0 args' w (ha.vrl g0 hargs) hw0 free0) fun e w' he => ?_
  obtain ⟨v', M', rfl, hp, hvr⟩ := he
  let M2 : Cx := ⟨fun n => if n < c.nx then M n else if n < c'.nx then M' (s.nx + (n - c.nx)) else M n, M'.S⟩
  have old : ∀ n, n < c.nx → M2 n = M n := fun n hn => if_pos hn
  have new : ∀ j, j < s'.nx - s.nx → M2 (c.nx + j) = M' (s.nx + j) := by
    intro j hj
    show (if c.nx + j < c.nx then _ else if c.nx + j < c'.nx then _ else _) = _
    rw [if_neg (by omega), if_pos (by rw [l.nx]; omega), Nat.add_sub_cancel_left]
  have vis : ∀ n o, look B c n = some o → n < c.nx := fun n o e => by
    rcases Nat.lt_or_ge n c.nx with h1 | h1
    · exact h1
    · have := (look_some e).1; rw [hfr n h1] at this; simp at this
  have lentL : ∀ {n k}, (n, k) ∈ rn → ∃ L oc, M n = some L ∧ M' k = some L ∧ look B c n = some oc := by
    intro n k h1
    obtain ⟨o, oc, h2, h3, _⟩ := l.vis n k h1
    obtain ⟨L, h4, _⟩ := hw.live n oc h3
    exact ⟨L, oc, h4, hp.ext.n k L (by rw [hrn h1]; exact h4), h3⟩
  have g1 : G P.globals.size (Bk rn s s' c) [] M' M2 := by
    refine ⟨fun k n L hr e => ?_, fun _ _ _ e => e, fun n c h => by simp at h⟩
    rcases hr with ⟨h1, rfl⟩ | h1
    · have h2 := hp.ext.n n _ (by rw [low n h1]; exact hw.glob n h1)
      rw [e] at h2; simp at h2; subst h2
      rw [old n (Nat.lt_of_lt_of_le h1 l.gc)]; exact hw.glob n h1
    · rcases Bk_mem.1 h1 with h1 | ⟨j, hj, rfl, rfl⟩
      · obtain ⟨L0, oc, h2, h3, _⟩ := lentL h1
        rw [e] at h3; simp at h3; subst h3
        rw [old n (l.nam n k h1).2.2]; exact h2
      · rw [new j hj]; exact e
  have hx : Ext M M2 := ⟨fun n L e => by
    rcases Nat.lt_or_ge n c.nx with h1 | h1
    · rw [old n h1]; exact e
    · rcases Nat.lt_or_ge n c'.nx with h2 | h2
      · rw [hf n h1 h2] at e; simp at e
      · show (if n < c.nx then _ else if n < c'.nx then _ else _) = _
        rw [if_neg (by omega), if_neg (by omega)]; exact e, hp.ext.s⟩
  have lent : ∀ k o K, look [] s k = some o → M0 k = some K → ∃ n oc, (n, k) ∈ rn ∧ look B c n = some oc ∧ M n = some K := by
    intro k o K e e'
    obtain ⟨n, oc, h1, h2, h3, _⟩ := see k o e
    exact ⟨n, oc, h1, h2, by rw [← h3]; exact e'⟩
  have hsl : ∀ b i u, M'.S b i = some u → M.S b i = some u ∨ w.heap.size ≤ b ∨ ∃ n k oc K, (n, k) ∈ rn ∧ look B c n = some oc ∧ M n = some K ∧ K.b = b := by
    intro b i u e
    rcases hp.sl b i u e with h1 | h1 | ⟨k, o, K, h1, h2, h3⟩
    · exact .inl h1
    · exact .inr (.inl h1)
    · obtain ⟨n, oc, h4, h5, h6⟩ := lent k o K h1 h2
      exact .inr (.inr ⟨n, k, oc, K, h4, h5, h6, h3⟩)
  have hblk : ∀ j L, j < s'.nx - s.nx → M' (s.nx + j) = some L → w.heap.size ≤ L.b ∨ ∃ n k oc K, (n, k) ∈ rn ∧ look B c n = some oc ∧ M n = some K ∧ K.b = L.b := by
    intro j L hj e
    rcases hp.blk (s.nx + j) L (free0 _ (by omega)) e with h1 | ⟨k, o, K, h1, h2, h3⟩
    · exact .inl h1
    · obtain ⟨n, oc, h4, h5, h6⟩ := lent k o K h1 h2
      exact .inr ⟨n, k, oc, K, h4, h5, h6, h3⟩
  -- a name that is not lent
  have far : ∀ n oc L, look B c n = some oc → (∀ k, (n, k) ∉ rn) → M n = some L → ∀ n' k' oc' K, (n', k') ∈ rn → look B c n' = some oc' → M n' = some K → K.b ≠ L.b := by
    intro n oc L e hn hL n' k' oc' K h1 h2 h3 h4
    obtain rfl := hw.inj n' n oc' oc K L h2 e h3 hL h4
    exact hn k' h1
  refine ⟨v', M2, rfl, ⟨hw, hx, fun n e e' => ?_, fun b i u e => ?_, fun n L e e' => ?_, fun n o e => ?_, ?_, fun b hb hk => ?_, hp.kept⟩, hv M' M2 v' g1 hvr⟩
  · rcases Nat.lt_or_ge n c.nx with h1 | h1
    · rw [old n h1] at e'; exact absurd e e'
    · rcases Nat.lt_or_ge n c'.nx with h2 | h2
      · exact ⟨h1, h2⟩
      · refine absurd ?_ e'
        show (if n < c.nx then _ else if n < c'.nx then _ else _) = _
        rw [if_neg (by omega), if_neg (by omega)]; exact e
  · rcases hsl b i u e with h1 | h1 | ⟨n, k, oc, K, _, h1, h2, h3⟩
    · exact .inl h1
    · exact .inr (.inl h1)
    · exact .inr (.inr ⟨n, oc, K, h1, h2, h3⟩)
  · rcases Nat.lt_or_ge n c.nx with h1 | h1
    · rw [old n h1, e] at e'; simp at e'
    · rcases Nat.lt_or_ge n c'.nx with h2 | h2
      · obtain ⟨j, rfl⟩ : ∃ j, n = c.nx + j := ⟨n - c.nx, by omega⟩
        have hj : j < s'.nx - s.nx := by have := l.nx; omega
        rw [new j hj] at e'
        rcases hblk j L hj e' with h3 | ⟨n', k, oc, K, _, h3, h4, h5⟩
        · exact .inl h3
        · exact .inr ⟨n', oc, K, h3, h4, h5⟩
      · have : M2 n = M n := by
          show (if n < c.nx then _ else if n < c'.nx then _ else _) = _
          rw [if_neg (by omega), if_neg (by omega)]
        rw [this, e] at e'; simp at e'
  · rcases l.ob n o e with ⟨h1, _⟩ | ⟨k, o', h1, _⟩
    · exact .inl ⟨o, h1⟩
    · rcases Bk_mem.1 h1 with h1 | ⟨j, hj, rfl, rfl⟩
      · obtain ⟨_, oc, _, _, h2⟩ := lentL h1
        exact .inl ⟨oc, h2⟩
      · exact .inr (hf _ (by omega) (by rw [l.nx]; omega))
  · have liveU : ∀ n oc, look B c n = some oc → (∀ k, (n, k) ∉ rn) → ∃ L, M n = some L ∧ M2 n = some L ∧ ObR P M2 L w' oc := by
      intro n oc e hn
      obtain ⟨L, h1, h2⟩ := hw.live n oc e
      refine ⟨L, h1, by rw [old n (vis n oc e)]; exact h1, h2.mono hx (hp.keep L.b h2.lt fun k o K h3 h4 h5 => ?_)⟩
      obtain ⟨n', oc', h6, h7, h8⟩ := lent k o K h3 h4
      exact far n oc L e hn h1 n' k oc' K h6 h7 h8 h5
    have liveB : ∀ k n o', (k, n) ∈ Bk rn s s' c → look [] s' k = some o' → ∃ L, M' k = some L ∧ M2 n = some L ∧ ObR P M' L w' o' := by
      intro k n o' h1 h2
      obtain ⟨L, h3, h4⟩ := hp.wr.live k o' h2
      exact ⟨L, h3, g1.n k n L (.inr h1) h3, h4⟩
    refine ⟨hp.wr.rows, fun n o L i e hL => ?_, fun n o e => ?_, fun n n' o o' L K e1 e2 hL hK hb => ?_, fun k hk => by rw [old k (Nat.lt_of_lt_of_le hk l.gc)]; exact hw.glob k hk, hp.wr.amb⟩
    · rcases l.ob n o e with ⟨h1, h2⟩ | ⟨k, o', h1, h2, _⟩
      · obtain ⟨L', h3, h4, _⟩ := liveU n o h1 h2
        rw [hL] at h4; simp at h4; subst h4
        cases q : M2.S L.b i with
        | none => rfl
        | some u =>
          rcases hsl _ _ _ q with h5 | h5 | ⟨n', k', oc', K, h5, h6, h7, h8⟩
          · have := hw.apart n o L i h1 h3; rw [h5] at this; simp at this
          · obtain ⟨L2, h6, h7⟩ := hw.live n o h1
            rw [h3] at h6; simp at h6; subst h6
            have := h7.lt; omega
          · exact absurd h8 (far n o L h1 h2 h3 n' k' oc' K h5 h6 h7)
      · obtain ⟨L', h3, h4, _⟩ := liveB k n o' h1 h2
        rw [hL] at h4; simp at h4; subst h4
        exact hp.wr.apart k o' L i h2 h3
    · rcases l.ob n o e with ⟨h1, h2⟩ | ⟨k, o', h1, h2, h3⟩
      · obtain ⟨L, _, h4, h5⟩ := liveU n o h1 h2
        exact ⟨L, h4, h5⟩
      · obtain ⟨L, _, h5, h6⟩ := liveB k n o' h1 h2
        exact ⟨L, h5, h3 P M' M2 L w' g1 h6⟩
    · -- a name that isn't lent, and one of the call's
      have mix : ∀ n oc L k n' o' K, look B c n = some oc → (∀ k, (n, k) ∉ rn) → M n = some L → (k, n') ∈ Bk rn s s' c → look [] s' k = some o' → M' k = some K → K.b ≠ L.b := by
        intro n oc L k n' o' K h1 h2 h3 h4 h5 h6 h7
        rcases Bk_mem.1 h4 with h4 | ⟨j, hj, rfl, rfl⟩
        · obtain ⟨K', oc', h8, h9, h10⟩ := lentL h4
          rw [h6] at h9; simp at h9; subst h9
          exact far n oc L h1 h2 h3 n' k oc' K h4 h10 h8 h7
        · rcases hblk j K hj h6 with h8 | ⟨n2, k2, oc2, K2, h8, h9, h10, h11⟩
          · obtain ⟨L2, h12, h13⟩ := hw.live n oc h1
            rw [h3] at h12; simp at h12; subst h12
            have := h13.lt; omega
          · exact far n oc L h1 h2 h3 n2 k2 oc2 K2 h8 h9 h10 (h11.trans h7)
      rcases l.ob n o e1 with ⟨h1, h2⟩ | ⟨k, q, h1, h2, _⟩
      · obtain ⟨L', h3, h4, _⟩ := liveU n o h1 h2
        rw [hL] at h4; simp at h4; subst h4
        rcases l.ob n' o' e2 with ⟨h5, h6⟩ | ⟨k', q', h5, h6, _⟩
        · obtain ⟨K', h7, h8, _⟩ := liveU n' o' h5 h6
          rw [hK] at h8; simp at h8; subst h8
          exact hw.inj n n' o o' L K h1 h5 h3 h7 hb
        · obtain ⟨K', h7, h8, _⟩ := liveB k' n' q' h5 h6
          rw [hK] at h8; simp at h8; subst h8
          exact absurd hb.symm (mix n o L k' n' q' K h1 h2 h3 h5 h6 h7)
      · obtain ⟨L', h3, h4, _⟩ := liveB k n q h1 h2
        rw [hL] at h4; simp at h4; subst h4
        rcases l.ob n' o' e2 with ⟨h5, h6⟩ | ⟨k', q', h5, h6, _⟩
        · obtain ⟨K', h7, h8, _⟩ := liveU n' o' h5 h6
          rw [hK] at h8; simp at h8; subst h8
          exact absurd hb (mix n' o' K k n q L h5 h6 h7 h1 h2 h3)
        · obtain ⟨K', h7, h8, _⟩ := liveB k' n' q' h5 h6
          rw [hK] at h8; simp at h8; subst h8
          obtain rfl := hp.wr.inj k k' q q' L K h2 h6 h3 h7 hb
          rcases Bk_mem.1 h1 with h1 | ⟨j, hj, rfl, rfl⟩
          · rcases Bk_mem.1 h5 with h5 | ⟨j', hj', h9, _⟩
            · exact l.inj n n' k h1 h5
            · have := (l.nam n k h1).2.1; omega
          · rcases Bk_mem.1 h5 with h5 | ⟨j', hj', h9, rfl⟩
            · have := (l.nam n' _ h5).2.1; omega
            · omega
  · exact hp.keep b hb fun k o L h1 h2 h3 => by
      obtain ⟨n, oc, h4, h5, h6⟩ := lent k o L h1 h2
      exact hk n oc L h5 h6 h3
end
end Go.X
end
section
set_option linter.unusedVariables false
namespace Go.X
open Go Go.RowKit
/-! Shapes: frames and heaps as they are written -/
noncomputable def tmL : List (Nat × Value) → T4 Value
  | [] => .e
  | (t, v) :: l => T4.put (some v) (dg 10 t) (tmL l)
noncomputable def zf (l : List (Nat × Value)) : Fr := ⟨tmL l, []⟩
noncomputable def hpL : List (Option Ob) → Nat → T4 Ob
  | [], _ => .e
  | o :: l, k => T4.put o (dg 10 k) (hpL l (k + 1))
/-- Objects, named from g on. -/
noncomputable def hp (g : Nat) (l : List (Option Ob)) : XS := ⟨hpL l g, g + l.length, []⟩
/-- The same, with a counter that holds no objects. -/
noncomputable def hpK (l : List (Option Ob)) : Nat → (Nat → XS) → XS := List.rec (motive := fun _ => Nat → (Nat → XS) → XS) (fun N k => k N) (fun _ _ ih N k => ih (Nat.succ N) k) l
noncomputable def hpc (g : Nat) (l : List (Option Ob)) : XS := hpK l g fun N => ⟨hpL l g, N, []⟩
theorem hpK_eq : ∀ (l : List (Option Ob)) (N : Nat) (k : Nat → XS), hpK l N k = k (N + l.length)
  | [], _, _ => rfl
  | o :: l, N, k => (hpK_eq l (Nat.succ N) k).trans (by rw [List.length_cons, show Nat.succ N + l.length = N + (l.length + 1) from by omega])
theorem hpc_eq (g : Nat) (l : List (Option Ob)) : hpc g l = hp g l := hpK_eq l g _
theorem tmL_ev : ∀ (l : List (Nat × Value)) (t : Nat), t < tops → (∀ p ∈ l, p.1 < tops) → ev (tmL l) (.tmp t) = jnk ∨ (t, ev (tmL l) (.tmp t)) ∈ l
  | [], t, _, _ => .inl (by rw [ev_tmp]; show (T4.get (dg 10 t) T4.e).getD jnk = jnk; rw [get_e]; rfl)
  | (u, v) :: l, t, ht, hl => by
    have hu := hl (u, v) (List.mem_cons_self ..)
    have e := ev_put (v := v) (tm := tmL l) hu ht
    show ev (T4.put (some v) (dg 10 u) (tmL l)) (.tmp t) = jnk ∨ _
    by_cases c : t = u
    · rw [if_pos c] at e
      subst c
      exact .inr (by
        show (t, ev (T4.put (some v) (dg 10 t) (tmL l)) (.tmp t)) ∈ _
        rw [e]; exact List.mem_cons_self ..)
    · rw [if_neg c] at e
      rcases tmL_ev l t ht fun p hp => hl p (List.mem_cons_of_mem _ hp) with h | h
      · exact .inl (e.trans h)
      · exact .inr (by
          show (t, ev (T4.put (some v) (dg 10 u) (tmL l)) (.tmp t)) ∈ _
          rw [e]; exact List.mem_cons_of_mem _ h)
theorem hpL_get : ∀ (l : List (Option Ob)) (g k : Nat), g + l.length ≤ tops → k < tops → T4.get (dg 10 k) (hpL l g) = if g ≤ k then (l[k - g]?).join else none
  | [], g, k, _, _ => by rw [show hpL [] g = T4.e from rfl, get_e]; simp
  | o :: l, g, k, hg, hk => by
    simp only [List.length_cons] at hg
    show T4.get (dg 10 k) (T4.put o (dg 10 g) (hpL l (g + 1))) = _
    by_cases c : k = g
    · subst c; rw [get_put_same]; simp
    · rw [get_put_ne _ _ _ _ fun e => c ((dg_ne (by omega) hk).1 e).symm, hpL_get l (g + 1) k (by omega) hk]
      by_cases c2 : g + 1 ≤ k
      · rw [if_pos c2, if_pos (by omega), show k - g = (k - (g + 1)) + 1 from by omega]; simp
      · rw [if_neg c2, if_neg (by omega)]
theorem look_hp {g : Nat} {l : List (Option Ob)} (hl : g + l.length ≤ tops) (k : Nat) : look [] (hp g l) k = if g ≤ k then (l[k - g]?).join else none := by
  rw [look_eq]; simp only [bn, Bool.false_eq_true, if_false]
  rw [hget_eq]
  by_cases c : tops ≤ k
  · rw [if_pos c]
    have : l[k - g]? = none := List.getElem?_eq_none (by omega)
    rw [this]; simp
  · rw [if_neg c]
    exact hpL_get l g k hl (by omega)
theorem fre_hp {g : Nat} {l : List (Option Ob)} (hl : g + l.length ≤ tops) : Fre (hp g l) := fun n hn => by
  have hn : g + l.length ≤ n := hn
  have := look_hp hl n
  rw [look_eq] at this; simp only [bn, Bool.false_eq_true, if_false] at this
  rw [this, if_pos (by omega), List.getElem?_eq_none (by omega)]; rfl
/-! Moves to shapes -/
section
variable {P : Program} {m n g : Nat} {sl : List (Nat × List Value)} {s s1 : XS} {f f1 : Fr}
/-- Old names and new ones, from m on. -/
def zipN : List Nat → Nat → List (Nat × Nat)
  | [], _ => []
  | n :: l, k => (n, k) :: zipN l (k + 1)
theorem zipN_mem : ∀ {l : List Nat} {m n k : Nat}, (n, k) ∈ zipN l m ↔ ∃ j, l[j]? = some n ∧ k = m + j
  | [], m, n, k => by simp [zipN]
  | a :: l, m, n, k => by
    simp only [zipN, List.mem_cons, Prod.mk.injEq]
    rw [zipN_mem]
    constructor
    · rintro (⟨rfl, rfl⟩ | ⟨j, h1, rfl⟩)
      · exact ⟨0, by simp, by simp⟩
      · exact ⟨j + 1, by simpa using h1, by omega⟩
    · rintro ⟨j, h1, rfl⟩
      cases j with
      | zero => simp at h1; exact .inl ⟨h1.symm, by simp⟩
      | succ j => exact .inr ⟨j, by simpa using h1, by omega⟩
/-- Each name once, all from m on. -/
noncomputable def okN (m : Nat) : List Nat → Bool
  | [] => true
  | n :: l => match Nat.ble m n with
    | true => match mem l n with
      | true => false
      | false => okN m l
    | false => false
theorem okN_spec {m : Nat} : ∀ {l : List Nat}, okN m l = true → (∀ n ∈ l, m ≤ n) ∧ l.Nodup
  | [], _ => ⟨by simp, List.nodup_nil⟩
  | a :: l, h => by
    simp only [okN] at h
    split at h
    · rename_i h1
      split at h
      · simp at h
      · rename_i h2
        obtain ⟨h3, h4⟩ := okN_spec h
        refine ⟨fun n hn => ?_, List.nodup_cons.2 ⟨fun hm => ?_, h4⟩⟩
        · rcases List.mem_cons.1 hn with rfl | hn
          · exact Nat.le_of_ble_eq_true h1
          · exact h3 n hn
        · rw [(mem_iff l a).2 hm] at h2; simp at h2
    · simp at h
def oldN (m : Nat) (ns : List Nat) (k : Nat) : Option Nat := match Nat.blt k m with
  | true => some k
  | false => ns[k - m]?
theorem oldN_rn {m : Nat} {ns : List Nat} {k n : Nat} (h : oldN m ns k = some n) : Rn m (zipN ns m) n k := by
  unfold oldN at h
  split at h
  · rename_i h1; simp at h; subst h; exact .inl ⟨Nat.le_of_ble_eq_true h1, rfl⟩
  · rename_i h1
    have : m ≤ k := by
      rcases Nat.lt_or_ge k m with c | c
      · rw [show Nat.blt k m = true from Nat.ble_eq_true_of_le c] at h1; simp at h1
      · exact c
    exact .inr (zipN_mem.2 ⟨k - m, h, by omega⟩)
/-- All objects of the new heap come from old ones. -/
def AllO (m : Nat) (ns : List Nat) (sl : List (Nat × List Value)) (s : XS) : List (Option Ob) → Nat → Prop
  | [], _ => True
  | none :: l, k => AllO m ns sl s l (k + 1)
  | some o1 :: l, k => (∃ n o, oldN m ns k = some n ∧ look [] s n = some o ∧ RObj m (zipN ns m) sl o1 o) ∧ AllO m ns sl s l (k + 1)
theorem AllO.get {m : Nat} {ns : List Nat} : ∀ {l : List (Option Ob)} {k : Nat}, AllO m ns sl s l k → ∀ (j : Nat) o1, l[j]? = some (some o1) → ∃ n o, oldN m ns (k + j) = some n ∧ look [] s n = some o ∧ RObj m (zipN ns m) sl o1 o
  | [], k, _, j, o1, e => by simp at e
  | none :: l, k, h, 0, o1, e => by simp at e
  | none :: l, k, h, j + 1, o1, e => by
    have := AllO.get (l := l) (k := k + 1) h j o1 (by simpa using e)
    rwa [show k + 1 + j = k + (j + 1) from by omega] at this
  | some o :: l, k, h, 0, o1, e => by simp at e; subst e; exact h.1
  | some o :: l, k, h, j + 1, o1, e => by
    have := AllO.get (l := l) (k := k + 1) h.2 j o1 (by simpa using e)
    rwa [show k + 1 + j = k + (j + 1) from by omega] at this
/-- What is sealed: cells that hold no names, of an object that is dropped. -/
def AllS (m g : Nat) (ns : List Nat) (l1 : List (Option Ob)) (s : XS) : List (Nat × List Value) → Prop
  | [] => True
  | (n, c) :: sl => ((∃ j T q, look [] s n = some (.cells c j T q)) ∧ (∀ v ∈ c, of1 v = true) ∧ mem ns n = false ∧ (m ≤ n ∨ (l1[n - g]?).join = none)) ∧ AllS m g ns l1 s sl
theorem AllS.get {m g : Nat} {ns : List Nat} {l1 : List (Option Ob)} : ∀ {sl : List (Nat × List Value)}, AllS m g ns l1 s sl → ∀ n c, (n, c) ∈ sl → (∃ j T q, look [] s n = some (.cells c j T q)) ∧ (∀ v ∈ c, of1 v = true) ∧ mem ns n = false ∧ (m ≤ n ∨ (l1[n - g]?).join = none)
  | (a, b) :: sl, h, n, c, hm => by
    rcases List.mem_cons.1 hm with e | e
    · simp at e; obtain ⟨rfl, rfl⟩ := e; exact h.1
    · exact AllS.get h.2 n c e
def AllT (m : Nat) (ns : List Nat) (sl : List (Nat × List Value)) (tm : T4 Value) : List (Nat × Value) → Prop
  | [] => True
  | (t, v1) :: l => RV m (zipN ns m) sl v1 (ev tm (.tmp t)) ∧ AllT m ns sl tm l
theorem AllT.get {m : Nat} {ns : List Nat} {tm : T4 Value} : ∀ {l : List (Nat × Value)}, AllT m ns sl tm l → ∀ t v1, (t, v1) ∈ l → RV m (zipN ns m) sl v1 (ev tm (.tmp t))
  | (a, b) :: l, h, t, v1, hm => by
    rcases List.mem_cons.1 hm with e | e
    · simp at e; obtain ⟨rfl, rfl⟩ := e; exact h.1
    · exact AllT.get h.2 t v1 e
def ltT : List (Nat × Value) → Bool
  | [] => true
  | (t, _) :: l => match Nat.blt t 1024 with
    | true => ltT l
    | false => false
theorem ltT_spec : ∀ {l : List (Nat × Value)}, ltT l = true → ∀ p ∈ l, p.1 < tops
  | (t, v) :: l, h, p, hp => by
    simp only [ltT] at h
    split at h
    · rename_i h1
      rcases List.mem_cons.1 hp with rfl | hp
      · have : t < 1024 := Nat.le_of_ble_eq_true h1
        unfold tops; show t < 300000; omega
      · exact ltT_spec h p hp
    · simp at h
/-- Numbers that must fit. -/
noncomputable def fit (m g : Nat) (ns : List Nat) (l1 : List (Option Ob)) : Bool := match Nat.ble g m with
  | true => match Nat.beq (Nat.add m (len ns)) (Nat.add g (len l1)) with
    | true => match Nat.ble (Nat.add g (len l1)) tops with
      | true => okN m ns
      | false => false
    | false => false
  | false => false
theorem Mv.shape {ns : List Nat} {l1 : List (Option Ob)} (h : fit m g ns l1 = true) (ho : AllO m ns sl s l1 g) (hs : AllS m g ns l1 s sl) : Mv m (zipN ns m) sl s (hp g l1) := by
  unfold fit at h
  split at h
  · rename_i h1
    split at h
    · rename_i h2
      split at h
      · rename_i h3
        have h1 := Nat.le_of_ble_eq_true h1
        have h2 := Nat.eq_of_beq_eq_true h2
        have h3 := Nat.le_of_ble_eq_true h3
        rw [len_eq, len_eq] at h2
        rw [len_eq] at h3
        have h2 : m + ns.length = g + l1.length := h2
        have h3 : g + l1.length ≤ tops := h3
        obtain ⟨h4, h5⟩ := okN_spec h
        refine ⟨fre_hp h3, by show m ≤ g + l1.length; omega, fun n k hm => ?_, fun n n' k a b => ?_, fun n k k' a b => ?_, fun k o1 e => ?_, fun n c hm => ?_⟩
        · obtain ⟨j, hj, rfl⟩ := zipN_mem.1 hm
          have := (List.getElem?_eq_some_iff.1 hj).1
          exact ⟨h4 n (List.mem_of_getElem? hj), by omega, by show m + j < g + l1.length; omega⟩
        · obtain ⟨j, hj, rfl⟩ := zipN_mem.1 a
          obtain ⟨j', hj', e⟩ := zipN_mem.1 b
          have : j' = j := by omega
          subst this
          rw [hj] at hj'; simpa using hj'
        · obtain ⟨j, hj, rfl⟩ := zipN_mem.1 a
          obtain ⟨j', hj', rfl⟩ := zipN_mem.1 b
          obtain ⟨q1, q2⟩ := List.getElem?_eq_some_iff.1 hj
          obtain ⟨q3, q4⟩ := List.getElem?_eq_some_iff.1 hj'
          have := (List.getElem_inj (h₀ := q1) (h₁ := q3) h5).1 (q2.trans q4.symm)
          omega
        · rw [look_hp h3] at e
          split at e
          · rename_i hk
            cases q : l1[k - g]? with
            | none => rw [q] at e; simp at e
            | some o2 =>
              rw [q] at e; simp at e; subst e
              obtain ⟨n, o, q1, q2, q3⟩ := ho.get (k - g) o1 q
              rw [show g + (k - g) = k from by omega] at q1
              exact ⟨n, o, oldN_rn q1, q2, q3⟩
          · simp at e
        · obtain ⟨q1, q2, q3, q4⟩ := hs.get n c hm
          refine ⟨q1, q2, fun k o hr e => ?_⟩
          rcases hr with ⟨q5, rfl⟩ | q5
          · rcases q4 with q4 | q4
            · omega
            · rw [look_hp h3] at e
              split at e
              · rw [q4] at e; simp at e
              · simp at e
          · obtain ⟨j, hj, rfl⟩ := zipN_mem.1 q5
            have := (mem_iff ns n).2 (List.mem_of_getElem? hj)
            rw [this] at q3; simp at q3
      · simp at h
    · simp at h
  · simp at h
/-- Code goes on from a shape. -/
theorem CS.shapeD {x : Code} {Q : Ex → Fr → XS → Prop} {L : List (Nat × Value)} {l1 : List (Option Ob)} {d : List Deferred} (ns : List Nat) (sl : List (Nat × List Value)) (hg : P.globals.size ≤ m) (h : fit m g ns l1 = true) (hL : ltT L = true) (hd : RDL m (zipN ns m) sl d f.df) (ho : AllO m ns sl s l1 g) (hs : AllS m g ns l1 s sl) (ht : AllT m ns sl f.tm L)
    (k : CS P m n x ⟨tmL L, d⟩ (hp g l1) Q) : CS P m n x f s Q := by
  intro hc hn
  refine CS.move hg (Mv.shape h ho hs) (fun t htn => ?_) hd k hc hn
  rcases tmL_ev L t (by unfold tops; omega) (ltT_spec hL) with e | e
  · rw [e]; exact RV.jnk _
  · exact ht.get t _ e
theorem CS.shape {x : Code} {Q : Ex → Fr → XS → Prop} {L : List (Nat × Value)} {l1 : List (Option Ob)} (ns : List Nat) (sl : List (Nat × List Value)) (hg : P.globals.size ≤ m) (h : fit m g ns l1 = true) (hL : ltT L = true) (hd : f.df = []) (ho : AllO m ns sl s l1 g) (hs : AllS m g ns l1 s sl) (ht : AllT m ns sl f.tm L)
    (k : CS P m n x (zf L) (hp g l1) Q) : CS P m n x f s Q :=
  CS.shapeD ns sl hg h hL (by rw [hd]; exact RDL.nil) ho hs ht k
/-- What code leaves may be told by a shape. -/
def To (m n : Nat) (f : Fr) (s : XS) (K : Fr → XS → Prop) : Prop := ∃ (g : Nat) (L : List (Nat × Value)) (l1 : List (Option Ob)) (ns : List Nat) (sl : List (Nat × List Value)) (d : List Deferred), fit m g ns l1 = true ∧ ltT L = true ∧ RDL m (zipN ns m) sl d f.df ∧ AllO m ns sl s l1 g ∧ AllS m g ns l1 s sl ∧ AllT m ns sl f.tm L ∧ K ⟨tmL L, d⟩ (hp g l1)
theorem To.mkd {L : List (Nat × Value)} {l1 : List (Option Ob)} {d : List Deferred} (ns : List Nat) (sl : List (Nat × List Value)) (ho : AllO m ns sl s l1 g) (ht : AllT m ns sl f.tm L) (hs : AllS m g ns l1 s sl) (h : fit m g ns l1 = true) (hL : ltT L = true) (hd : RDL m (zipN ns m) sl d f.df) : To m n f s fun f s => f = ⟨tmL L, d⟩ ∧ s = hp g l1 :=
  ⟨g, L, l1, ns, sl, d, h, hL, hd, ho, hs, ht, rfl, rfl⟩
theorem To.mk {L : List (Nat × Value)} {l1 : List (Option Ob)} (ns : List Nat) (sl : List (Nat × List Value)) (ho : AllO m ns sl s l1 g) (ht : AllT m ns sl f.tm L) (hs : AllS m g ns l1 s sl) (h : fit m g ns l1 = true) (hL : ltT L = true) (hd : f.df = []) : To m n f s fun f s => f = zf L ∧ s = hp g l1 :=
  To.mkd ns sl ho ht hs h hL (by rw [hd]; exact RDL.nil)
theorem AllO.non {ns : List Nat} {l : List (Option Ob)} {k : Nat} (h : AllO m ns sl s l (k + 1)) : AllO m ns sl s (none :: l) k := h
theorem AllO.som {ns : List Nat} {l : List (Option Ob)} {k n : Nat} {o o1 : Ob} (h1 : oldN m ns k = some n) (h2 : look [] s n = some o) (h3 : RObj m (zipN ns m) sl o1 o) (h : AllO m ns sl s l (k + 1)) : AllO m ns sl s (some o1 :: l) k := ⟨⟨n, o, h1, h2, h3⟩, h⟩
theorem AllO.nil {ns : List Nat} {k : Nat} : AllO m ns sl s [] k := trivial
theorem AllT.nil {ns : List Nat} {tm : T4 Value} : AllT m ns sl tm [] := trivial
theorem AllT.con {ns : List Nat} {tm : T4 Value} {t : Nat} {v1 : Value} {l : List (Nat × Value)} (h : RV m (zipN ns m) sl v1 (ev tm (.tmp t))) (k : AllT m ns sl tm l) : AllT m ns sl tm ((t, v1) :: l) := ⟨h, k⟩
theorem RV.pn {ns : List Nat} {n k off : Nat} (h : oldN m ns k = some n) : RV m (zipN ns m) sl (.pointer (some ⟨k, off, none⟩)) (.pointer (some ⟨n, off, none⟩)) := RV.ptr (oldN_rn h)
theorem RV.sn {ns : List Nat} {n k off l c : Nat} (h : oldN m ns k = some n) : RV m (zipN ns m) sl (.slice (some ⟨k, off, none⟩) l c) (.slice (some ⟨n, off, none⟩) l c) := RV.slc (oldN_rn h)
theorem RV.mn {ns : List Nat} {n k : Nat} (h : oldN m ns k = some n) : RV m (zipN ns m) sl (.map (some k)) (.map (some n)) := RV.map (oldN_rn h)
theorem CS.to {x : Code} {Q : Ex → Fr → XS → Prop} (hg : P.globals.size ≤ m) (h : CS P m n x f s fun e f s => Q e f s ∨ To m n f s fun f s => Q e f s) : CS P m n x f s Q := by
  intro hc hn M0 h0 w0 M a w R hi ha hR
  refine h hc hn M0 h0 w0 M a w R hi ha fun e f' s' M' a' w' h1 h2 h3 => ?_
  rcases h3 with h3 | h3
  · exact hR e f' s' M' a' w' h1 h2 h3
  obtain ⟨g, L, l1, ns, sl, d, k1, k2, k3, k4, k5, k6, k7⟩ := h3
  obtain ⟨M1, h4, h5⟩ := (Mv.shape k1 k4 k5).hs h1 hg
  refine hR e ⟨tmL L, d⟩ (hp g l1) M1 a' w' h4 ⟨h2.size, fun t ht => ?_, k3 M' M1 _ h5 h2.df⟩ k7
  have := h2.tm t ht
  rcases tmL_ev L t (by unfold tops; omega) (ltT_spec k2) with e | e
  · rw [e]; exact .junk _
  · exact k6.get t _ e M' M1 _ h5 this
end
end Go.X
end
section
set_option linter.unusedVariables false
namespace Go.X
open Go Go.RowKit
section
variable {P : Program} {B : Ban} {lo g fid : Nat} {args argsc : List Value} {v vc : Value} {c : XS} {l l' : List (Option Ob)}
/-- A function, from its body to its contract. -/
theorem ZC.fn {fn : Func} {x : Code} (hb : body? P fid = some (fn, x)) (hT : fnT P.globals.size fn x = true) (hl : Nat.ble args.length fn.ntmps = true) (hn : (Nat.ble P.globals.size g && Nat.ble (g + l'.length) tops && Nat.ble l.length l'.length) = true)
    (h : CS P (g + l.length) fn.ntmps x ⟨enter args 0 .e, []⟩ (hp g l) fun e f1 s1 => (e = .normal ∨ e = .ret) ∧ f1.df = [] ∧ ∃ v1, r_res s1 (resV P [] s1 f1.tm fn.results.toList) = .ret v1 s1 ∧ ∃ ns sl, fit (g + l.length) g ns l' = true ∧ AllO (g + l.length) ns sl s1 l' g ∧ AllS (g + l.length) g ns l' s1 sl ∧ RV (g + l.length) (zipN ns (g + l.length)) sl v v1) : ZC P fid args (hp g l) v (hp g l') := by
  simp only [Bool.and_eq_true] at hn
  have h1 := Nat.le_of_ble_eq_true hn.1.1
  have h2 := Nat.le_of_ble_eq_true hn.1.2
  have h3 := Nat.le_of_ble_eq_true hn.2
  refine ZC.body hb hT hl (by show P.globals.size ≤ g + l.length; omega) (by show g + l.length ≤ g + l'.length; omega) (fre_hp (by omega)) (fre_hp h2) (h.mono fun e f1 s1 hq => ?_)
  obtain ⟨q1, q2, v1, q3, ns, sl, q4, q5, q6, q7⟩ := hq
  exact ⟨q1, q2, v1, q3, _, sl, Mv.shape q4 q5 q6, q7⟩
theorem ZP.fn {fn : Func} {x : Code} (hb : body? P fid = some (fn, x)) (hT : fnT P.globals.size fn x = true) (hl : Nat.ble args.length fn.ntmps = true) (hn : (Nat.ble P.globals.size g && Nat.ble (g + l'.length) tops && Nat.ble l.length l'.length) = true) (hv : nad v = true)
    (h : CS P (g + l.length) fn.ntmps x ⟨enter args 0 .e, []⟩ (hp g l) fun e f1 s1 => e = .pan v ∧ f1.df = [] ∧ ∃ ns sl, fit (g + l.length) g ns l' = true ∧ AllO (g + l.length) ns sl s1 l' g ∧ AllS (g + l.length) g ns l' s1 sl) : ZP P fid args (hp g l) v (hp g l') := by
  simp only [Bool.and_eq_true] at hn
  have h1 := Nat.le_of_ble_eq_true hn.1.1
  have h2 := Nat.le_of_ble_eq_true hn.1.2
  have h3 := Nat.le_of_ble_eq_true hn.2
  refine ZP.body hb hT hl (by show P.globals.size ≤ g + l.length; omega) (by show g + l.length ≤ g + l'.length; omega) (fre_hp (by omega)) (fre_hp h2) hv (h.mono fun e f1 s1 hq => ?_)
  obtain ⟨q1, q2, ns, sl, q4, q5, q6⟩ := hq
  exact ⟨q1, q2, _, sl, Mv.shape q4 q5 q6⟩
/-! A contract at its caller's -/
/-- What was lent, as it is now (none: untouched). -/
noncomputable def giveL (lo : Nat) : List Nat → List (Option (Option Ob)) → XS → XS
  | n :: ns, some o :: l, c => giveL lo ns l (wrt lo c n o)
  | _ :: ns, none :: l, c => giveL lo ns l c
  | _, _, c => c
noncomputable def push (c : XS) (o : Option Ob) : XS := XS.rec (motive := fun _ => XS) (fun h nx lg => ⟨T4.put o (dg 10 nx) h, Nat.succ nx, lg⟩) c
/-- What is new. -/
noncomputable def giveF : List (Option Ob) → XS → XS
  | [], c => c
  | o :: l, c => giveF l (push c o)
theorem giveL_snd : ∀ (ns : List Nat) (ll : List (Option (Option Ob))) (c : XS), (∀ n ∈ ns, ∃ o, look B c n = some o) → ns.Nodup → ll.length = ns.length →
    SF B lo c (giveL lo ns ll c) ∧ (giveL lo ns ll c).nx = c.nx ∧ (∀ n, n ∉ ns → look B (giveL lo ns ll c) n = look B c n) ∧ ∀ (i : Nat) n, ns[i]? = some n → look B (giveL lo ns ll c) n = match ll[i]? with | some (some o) => o | _ => look B c n
  | [], ll, c, _, _, hl => by
    have e : giveL lo [] ll c = c := by cases ll <;> rfl
    rw [e]
    exact ⟨SF.refl B lo c, rfl, fun _ _ => rfl, fun i n h => by simp at h⟩
  | a :: ns, [], c, _, _, hl => by simp at hl
  | a :: ns, o :: ll, c, hv, hd, hl => by
    obtain ⟨hna, hd'⟩ := List.nodup_cons.1 hd
    obtain ⟨o0, h0⟩ := hv a (List.mem_cons_self ..)
    cases o with
    | none =>
      have e : giveL lo (a :: ns) (none :: ll) c = giveL lo ns ll c := rfl
      rw [e]
      obtain ⟨h1, h2, h3, h4⟩ := giveL_snd ns ll c (fun n hn => hv n (List.mem_cons_of_mem _ hn)) hd' (by simpa using hl)
      refine ⟨h1, h2, fun n hn => h3 n fun q => hn (List.mem_cons_of_mem _ q), fun i n hi => ?_⟩
      cases i with
      | zero => simp at hi; subst hi; simpa using h3 _ hna
      | succ i => simpa using h4 i n (by simpa using hi)
    | some o =>
      have e : giveL lo (a :: ns) (some o :: ll) c = giveL lo ns ll (wrt lo c a o) := rfl
      rw [e]
      have hw := look_wrt (lo := lo) o h0
      have hne : ∀ n, n ≠ a → look B (wrt lo c a o) n = look B c n := fun n hn => by rw [hw, setH, if_neg hn]
      obtain ⟨h1, h2, h3, h4⟩ := giveL_snd ns ll (wrt lo c a o) (fun n hn => by
        obtain ⟨o', h⟩ := hv n (List.mem_cons_of_mem _ hn)
        exact ⟨o', by rw [hne n fun q => hna (q ▸ hn)]; exact h⟩) hd' (by simpa using hl)
      refine ⟨(SF.wrt o h0).trans h1, h2, fun n hn => ?_, fun i n hi => ?_⟩
      · rw [h3 n fun q => hn (List.mem_cons_of_mem _ q), hne n fun q => hn (q ▸ List.mem_cons_self ..)]
      · cases i with
        | zero =>
          simp at hi; subst hi
          rw [h3 _ hna, hw, setH, if_pos rfl]; simp
        | succ i =>
          have hi' : ns[i]? = some n := by simpa using hi
          have hn : n ≠ a := fun q => hna (q ▸ List.mem_of_getElem? hi')
          rw [h4 i n hi', hne n hn]; simp
theorem giveF_snd : ∀ (lf : List (Option Ob)) (c : XS), c.nx + lf.length ≤ tops →
    SF B lo c (giveF lf c) ∧ (giveF lf c).nx = c.nx + lf.length ∧ (∀ n, n < c.nx → look B (giveF lf c) n = look B c n) ∧ ∀ (j : Nat) o, look B (giveF lf c) (c.nx + j) = some o → j < lf.length → lf[j]? = some (some o)
  | [], c, _ => ⟨SF.refl B lo c, rfl, fun _ _ => rfl, fun j o _ h => by simp at h⟩
  | o :: lf, c, hl => by
    simp only [List.length_cons] at hl
    have hn : c.nx < tops := by omega
    have hg : ∀ m, hget (push c o) m = if m = c.nx then o else hget c m := by
      intro m
      rw [hget_eq, hget_eq]
      by_cases q : m = c.nx
      · subst q
        rw [if_neg (by omega), if_pos rfl]
        exact get_put_same _ _ _
      · rw [if_neg q]
        split
        · rfl
        · rename_i hm
          exact get_put_ne _ _ _ _ (fun e => q ((dg_ne hn (by omega)).1 e).symm)
    have hk : ∀ m, m ≠ c.nx → look B (push c o) m = look B c m := fun m hm => by rw [look_eq, look_eq, hg, if_neg hm]
    have hsf : SF B lo c (push c o) := by
      refine ⟨Nat.le_succ _, fun hf m hm => ?_, fun m h4 h5 h6 => by rw [hg, if_neg (by omega)], fun m hm => hm, fun m h4 h5 => by rw [hg, if_neg (by omega)]⟩
      have hm' : c.nx + 1 ≤ m := hm
      rw [hg, if_neg (by omega)]
      exact hf m (by omega)
    have hx : (push c o).nx = c.nx + 1 := rfl
    obtain ⟨h1, h2, h3, h4⟩ := giveF_snd lf (push c o) (by rw [hx]; omega)
    have e1 : (giveF (o :: lf) c).nx = c.nx + (o :: lf).length := by
      have : (giveF (o :: lf) c).nx = (giveF lf (push c o)).nx := rfl
      rw [this, h2, hx, List.length_cons]; omega
    refine ⟨hsf.trans h1, e1, fun n hn' => ?_, fun j o' e hj => ?_⟩
    · show look B (giveF lf (push c o)) n = _
      rw [h3 n (by rw [hx]; omega), hk n (by omega)]
    · have e : look B (giveF lf (push c o)) (c.nx + j) = some o' := e
      cases j with
      | zero =>
        rw [h3 _ (by rw [hx]; omega), look_eq, Nat.add_zero, hg] at e
        by_cases hb : bn B c.nx = true
        · rw [if_pos hb] at e; simp at e
        · rw [if_neg hb, if_pos rfl] at e
          simp [e]
      | succ j =>
        have := h4 j o' (by rw [hx, show c.nx + 1 + j = c.nx + (j + 1) from by omega]; exact e) (by simpa using hj)
        simpa using this
/-- Where a contract's names go. -/
def toN (gl g : Nat) (ns : List Nat) (nl nl' cx : Nat) (k : Nat) : Option Nat := match Nat.blt k gl with
  | true => some k
  | false => match Nat.blt k (Nat.add g nl) with
    | true => match Nat.ble g k with
      | true => ns[k - g]?
      | false => none
    | false => match Nat.blt k (Nat.add g nl') with
      | true => some (Nat.add cx (k - Nat.add g nl))
      | false => none
/-- What was lent: an object of the contract's, and the caller's. -/
def AllV (P : Program) (B : Ban) (rn : List (Nat × Nat)) (c : XS) : List (Option Ob) → List Nat → Prop
  | [], [] => True
  | some o :: l, n :: ns => (∃ oc, look B c n = some oc ∧ RObj P.globals.size rn [] o oc) ∧ AllV P B rn c l ns
  | _, _ => False
/-- What comes back. -/
def AllB (gl : Nat) (bk : List (Nat × Nat)) (B : Ban) (c : XS) : List (Option Ob) → List Nat → List (Option (Option Ob)) → List (Option Ob) → Prop
  | o' :: l', n :: ns, q :: ll, lf => (match q with
      | none => ∃ oc o, o' = some o ∧ look B c n = some oc ∧ RObj gl bk [] oc o
      | some none => True
      | some (some oc) => ∃ o, o' = some o ∧ RObj gl bk [] oc o) ∧ AllB gl bk B c l' ns ll lf
  | o' :: l', [], [], q :: lf => (match q with
      | none => True
      | some oc => ∃ o, o' = some o ∧ RObj gl bk [] oc o) ∧ AllB gl bk B c l' [] [] lf
  | [], [], [], [] => True
  | _, _, _, _ => False
theorem AllV.get {rn : List (Nat × Nat)} : ∀ {l : List (Option Ob)} {ns : List Nat}, AllV P B rn c l ns → l.length = ns.length ∧ ∀ (i : Nat) n, ns[i]? = some n → ∃ o oc, l[i]? = some (some o) ∧ look B c n = some oc ∧ RObj P.globals.size rn [] o oc
  | [], [], _ => ⟨rfl, fun i n h => by simp at h⟩
  | some o :: l, n :: ns, h => by
    obtain ⟨h1, h2⟩ := AllV.get h.2
    refine ⟨by simp [h1], fun i n' hi => ?_⟩
    cases i with
    | zero => simp at hi; subst hi; obtain ⟨oc, h3, h4⟩ := h.1; exact ⟨o, oc, by simp, h3, h4⟩
    | succ i => simpa using h2 i n' (by simpa using hi)
theorem AllB.get {gl : Nat} {bk : List (Nat × Nat)} : ∀ {l' : List (Option Ob)} {ns : List Nat} {ll : List (Option (Option Ob))} {lf : List (Option Ob)}, AllB gl bk B c l' ns ll lf → ll.length = ns.length ∧ l'.length = ns.length + lf.length ∧
    (∀ (i : Nat) n oc, ns[i]? = some n → (match ll[i]? with | some (some o) => o | _ => look B c n) = some oc → ∃ o, l'[i]? = some (some o) ∧ RObj gl bk [] oc o) ∧ ∀ (j : Nat) oc, lf[j]? = some (some oc) → ∃ o, l'[ns.length + j]? = some (some o) ∧ RObj gl bk [] oc o
  | [], [], [], [], _ => ⟨rfl, rfl, fun i n oc h => by simp at h, fun j oc h => by simp at h⟩
  | o' :: l', n :: ns, q :: ll, lf, h => by
    obtain ⟨h1, h2, h3, h4⟩ := AllB.get h.2
    refine ⟨by simp [h1], by simp [h2]; omega, fun i n' oc hi e => ?_, fun j oc e => ?_⟩
    · cases i with
      | zero =>
        simp at hi; subst hi
        cases q with
        | none =>
          obtain ⟨oc', o, rfl, h5, h6⟩ := h.1
          simp at e
          rw [h5] at e; simp at e; subst e
          exact ⟨o, by simp, h6⟩
        | some q =>
          cases q with
          | none => simp at e
          | some oc' =>
            obtain ⟨o, rfl, h6⟩ := h.1
            simp at e; subst e
            exact ⟨o, by simp, h6⟩
      | succ i => simpa using h3 i n' oc (by simpa using hi) (by simpa using e)
    · obtain ⟨o, h5, h6⟩ := h4 j oc e
      exact ⟨o, by rw [List.length_cons, show ns.length + 1 + j = (ns.length + j) + 1 from by omega]; simpa using h5, h6⟩
  | o' :: l', [], [], q :: lf, h => by
    obtain ⟨h1, h2, h3, h4⟩ := AllB.get h.2
    refine ⟨rfl, by simp at h2 ⊢; omega, fun i n oc hi => by simp at hi, fun j oc e => ?_⟩
    cases j with
    | zero =>
      simp at e; subst e
      obtain ⟨o, rfl, h5⟩ := h.1
      exact ⟨o, by simp, h5⟩
    | succ j =>
      obtain ⟨o, h5, h6⟩ := h4 j oc (by simpa using e)
      exact ⟨o, by simpa using h5, h6⟩
noncomputable def fitU (gl g : Nat) (ns : List Nat) (l l' : List (Option Ob)) (lf : List (Option Ob)) (cx : Nat) : Bool := match Nat.ble gl g, Nat.ble gl cx with
  | true, true => match Nat.ble (Nat.add g (len l)) tops, Nat.ble (Nat.add g (len l')) tops with
    | true, true => match Nat.ble (Nat.add cx (len lf)) tops with
      | true => okN gl ns
      | false => false
    | _, _ => false
  | _, _ => false
/-- A call by contract. -/
theorem ZCb.use {p : Bool} (h : ZCb p P fid args (hp g l) v (hp g l')) (ns : List Nat) (ll : List (Option (Option Ob))) (lf : List (Option Ob)) (hfit : fitU P.globals.size g ns l l' lf c.nx = true) (hvis : AllV P B (zipN ns g) c l ns)
    (hback : AllB P.globals.size (Bk (zipN ns g) (hp g l) (hp g l') c) B c l' ns ll lf) (ha : RVL P.globals.size (zipN ns g) [] args argsc) (hv : RV P.globals.size (Bk (zipN ns g) (hp g l) (hp g l') c) [] vc v) : TCb p P B lo fid argsc c vc (giveF lf (giveL lo ns ll c)) := by
  intro hfr
  unfold fitU at hfit
  split at hfit
  · rename_i h1 h2
    split at hfit
    · rename_i h3 h4
      split at hfit
      · rename_i h5
        have h1 := Nat.le_of_ble_eq_true h1
        have h2 := Nat.le_of_ble_eq_true h2
        have h3 := Nat.le_of_ble_eq_true h3
        have h4 := Nat.le_of_ble_eq_true h4
        have h5 := Nat.le_of_ble_eq_true h5
        rw [len_eq] at h3 h4 h5
        have h3 : g + l.length ≤ tops := h3
        have h4 : g + l'.length ≤ tops := h4
        have h5 : c.nx + lf.length ≤ tops := h5
        obtain ⟨h6, h7⟩ := okN_spec hfit
        obtain ⟨v1, v2⟩ := hvis.get
        obtain ⟨b1, b2, b3, b4⟩ := hback.get
        have vis : ∀ n ∈ ns, ∃ o, look B c n = some o := fun n hn => by
          obtain ⟨i, hi⟩ := List.getElem?_of_mem hn
          obtain ⟨o, oc, _, q, _⟩ := v2 i n hi
          exact ⟨oc, q⟩
        have lt : ∀ n o, look B c n = some o → n < c.nx := fun n o e => by
          rcases Nat.lt_or_ge n c.nx with q | q
          · exact q
          · have := (look_some e).1; rw [hfr n q] at this; simp at this
        obtain ⟨s1, s2, s3, s4⟩ := giveL_snd (lo := lo) ns ll c vis h7 b1
        obtain ⟨t1, t2, t3, t4⟩ := giveF_snd (B := B) (lo := lo) lf (giveL lo ns ll c) (by rw [s2]; exact h5)
        have hnx : (giveF lf (giveL lo ns ll c)).nx = c.nx + ((hp g l').nx - (hp g l).nx) := by
          rw [t2, s2]
          show c.nx + lf.length = c.nx + (g + l'.length - (g + l.length))
          omega
        refine (h.lend (B := B) (lo := lo) (rn := zipN ns g) (c' := giveF lf (giveL lo ns ll c)) ⟨h2, fun n k hm => ?_, fun n n' k a b => ?_, fun n k k' a b => ?_, fun n k hm => ?_, fun k o e => ?_, hnx, fun n oc e => ?_⟩ (s1.trans t1) ha hv) hfr
        · obtain ⟨j, hj, rfl⟩ := zipN_mem.1 hm
          have := (List.getElem?_eq_some_iff.1 hj).1
          obtain ⟨o, oc, _, q, _⟩ := v2 j n hj
          exact ⟨by omega, by show g + j < g + l.length; omega, lt n oc q⟩
        · obtain ⟨j, hj, rfl⟩ := zipN_mem.1 a
          obtain ⟨j', hj', e⟩ := zipN_mem.1 b
          have : j' = j := by omega
          subst this
          rw [hj] at hj'; simpa using hj'
        · obtain ⟨j, hj, rfl⟩ := zipN_mem.1 a
          obtain ⟨j', hj', rfl⟩ := zipN_mem.1 b
          obtain ⟨q1, q2⟩ := List.getElem?_eq_some_iff.1 hj
          obtain ⟨q3, q4⟩ := List.getElem?_eq_some_iff.1 hj'
          have := (List.getElem_inj (h₀ := q1) (h₁ := q3) h7).1 (q2.trans q4.symm)
          omega
        · obtain ⟨j, hj, rfl⟩ := zipN_mem.1 hm
          obtain ⟨o, oc, q1, q2, q3⟩ := v2 j n hj
          exact ⟨o, oc, by rw [look_hp h3, if_pos (by omega), Nat.add_sub_cancel_left, q1]; rfl, q2, q3⟩
        · rw [look_hp h3] at e
          split at e
          · rename_i hk
            cases q : l[k - g]? with
            | none => rw [q] at e; simp at e
            | some o2 =>
              have := (List.getElem?_eq_some_iff.1 q).1
              obtain ⟨n, hn⟩ : ∃ n, ns[k - g]? = some n := ⟨ns[k - g], by simp⟩
              exact ⟨n, zipN_mem.2 ⟨k - g, hn, by omega⟩⟩
          · simp at e
        · rcases Nat.lt_or_ge n c.nx with q | q
          · rw [t3 n (by rw [s2]; exact q)] at e
            by_cases hn : n ∈ ns
            · obtain ⟨i, hi⟩ := List.getElem?_of_mem hn
              rw [s4 i n hi] at e
              obtain ⟨o, q1, q2⟩ := b3 i n oc hi e
              have := (List.getElem?_eq_some_iff.1 q1).1
              exact .inr ⟨g + i, o, Bk_mem.2 (.inl (zipN_mem.2 ⟨i, hi, rfl⟩)), by rw [look_hp h4, if_pos (by omega), Nat.add_sub_cancel_left, q1]; rfl, q2⟩
            · rw [s3 n hn] at e
              refine .inl ⟨e, fun k hm => ?_⟩
              obtain ⟨j, hj, _⟩ := zipN_mem.1 hm
              exact hn (List.mem_of_getElem? hj)
          · obtain ⟨j, rfl⟩ : ∃ j, n = c.nx + j := ⟨n - c.nx, by omega⟩
            have hj : j < lf.length := by
              rcases Nat.lt_or_ge j lf.length with r | r
              · exact r
              · exfalso
                have f1 := s1.fre hfr
                have f2 := t1.fre f1
                have := (look_some e).1
                rw [f2 (c.nx + j) (by rw [t2, s2]; omega)] at this; simp at this
            have e' := t4 j oc (by rw [s2]; exact e) hj
            obtain ⟨o, q1, q2⟩ := b4 j oc e'
            refine .inr ⟨g + l.length + j, o, Bk_mem.2 (.inr ⟨j, ?_, rfl, rfl⟩), ?_, q2⟩
            · show j < g + l'.length - (g + l.length); omega
            · rw [look_hp h4, if_pos (by omega), show g + l.length + j - g = ns.length + j from by omega, q1]; rfl
      · simp at hfit
    · simp at hfit
  · simp at hfit
theorem ZC.use (h : ZC P fid args (hp g l) v (hp g l')) (ns : List Nat) (ll : List (Option (Option Ob))) (lf : List (Option Ob)) (hfit : fitU P.globals.size g ns l l' lf c.nx = true) (hvis : AllV P B (zipN ns g) c l ns)
    (hback : AllB P.globals.size (Bk (zipN ns g) (hp g l) (hp g l') c) B c l' ns ll lf) (ha : RVL P.globals.size (zipN ns g) [] args argsc) (hv : RV P.globals.size (Bk (zipN ns g) (hp g l) (hp g l') c) [] vc v) : TC P B lo fid argsc c vc (giveF lf (giveL lo ns ll c)) := ZCb.use h ns ll lf hfit hvis hback ha hv
end
end Go.X
end
section
set_option linter.unusedVariables false
namespace Go.X
open Go Go.RowKit
section
variable {P : Program} {m n g : Nat} {s : XS} {f : Fr} {x : Code}
/-- A loop: its least fixed point. -/
noncomputable def lp {σ β : Type} (body : σ → Option (σ ⊕ β)) (z : σ) : Option β := open Classical in if h : ∃ r n, loopN body n z = some r then some h.choose else none
theorem lp_some {σ β : Type} {body : σ → Option (σ ⊕ β)} {z : σ} {r : β} (h : lp body z = some r) : ∃ n, loopN body n z = some r := by
  unfold lp at h
  split at h
  · rename_i hx; simp at h; subst h; exact hx.choose_spec
  · simp at h
/-- What a round of a loop leaves. -/
def LQ {σ β : Type} (m n : Nat) (F : σ → Fr) (S : σ → XS) (Q : Ex → Fr → XS → Prop) (y : σ ⊕ β) : Ex → Fr → XS → Prop
  | .normal, f, s => match y with
    | .inl z => To m n f s fun f s => f = F z ∧ s = S z
    | .inr _ => False
  | e, f, s => Q e f s
theorem CS.lp {σ β : Type} {F : σ → Fr} {S : σ → XS} {body : σ → Option (σ ⊕ β)} {r : β} {z0 : σ} {Q : Ex → Fr → XS → Prop} (hg : P.globals.size ≤ m) (h : lp body z0 = some r) (hb : ∀ z y, body z = some y → (∀ r', y = .inr r' → r' = r) → CS P m n x (F z) (S z) (LQ m n F S Q y)) : CS P m n (.loop x) (F z0) (S z0) Q := by
  obtain ⟨N, hN⟩ := lp_some h
  refine CS.loopN (F := F) (S := S) (body := body) (r := r) (fun z y hy N hk => ?_) N z0 hN
  have hr : ∀ r', y = .inr r' → r' = r := by
    intro r' e
    subst e
    rcases hk with e | ⟨z', e, _⟩
    · simp at e; exact e
    · simp at e
  refine CS.to hg ((hb z y hy hr).mono fun e f s hq => ?_)
  cases e with
  | normal =>
    cases y with
    | inl z' =>
      obtain ⟨g, L, l1, ns, sl, d, k1, k2, k3, k4, k5, k6, k7⟩ := (show To m n f s fun f s => f = F z' ∧ s = S z' from hq)
      exact .inr ⟨g, L, l1, ns, sl, d, k1, k2, k3, k4, k5, k6, .inl ⟨rfl, z', rfl, k7.1, k7.2⟩⟩
    | inr _ => exact hq.elim
  | exit i => exact .inl (.inr ⟨by simp, hq⟩)
  | goto i => exact .inl (.inr ⟨by simp, hq⟩)
  | ret => exact .inl (.inr ⟨by simp, hq⟩)
  | pan v => exact .inl (.inr ⟨by simp, hq⟩)
/-- A loop, from wherever to its shape. -/
theorem CS.loop {σ β : Type} {L : σ → List (Nat × Value)} {l : σ → List (Option Ob)} {body : σ → Option (σ ⊕ β)} {r : β} {z0 : σ} {Q : Ex → Fr → XS → Prop} (h : X.lp body z0 = some r) (ns : List Nat) (sl : List (Nat × List Value)) (hg : P.globals.size ≤ m) (hfit : fit m g ns (l z0) = true) (hL : ltT (L z0) = true) (hd : f.df = []) (ho : AllO m ns sl s (l z0) g) (hs : AllS m g ns (l z0) s sl) (ht : AllT m ns sl f.tm (L z0))
    (hb : ∀ z y, body z = some y → (∀ r', y = .inr r' → r' = r) → CS P m n x (zf (L z)) (hp g (l z)) (LQ m n (fun z => zf (L z)) (fun z => hp g (l z)) Q y)) : CS P m n (.loop x) f s Q :=
  CS.shape ns sl hg hfit hL hd ho hs ht (CS.lp (F := fun z => zf (L z)) (S := fun z => hp g (l z)) hg h hb)
/-! What is open in operations -/
variable {B : Ban} {lo : Nat} {o : Oper} {K : Value → XS → List Deferred → Prop} {tm : T4 Value}
/-- An index into a sealed row. -/
theorem ia_rsl {T E : TypeId} {x i : Operand} {e off N k j : Nat} {q : IntKind} {c : List Value} (hx : ev tm x = slv e c off N) (hi : ev tm i = .int q (j : Int)) (hu : P.underlying T = some (.slice E)) (hk : szT P E = some k) (he : Nat.ble 2 e = false) (hj : j < N) : x_ia P T (ev tm x) (ev tm i) s = .val (slv 2 c (Nat.add off (Nat.mul j k)) 0) s := by
  have hb : Nat.ble N j = false := by
    cases hb : Nat.ble N j
    · rfl
    · have := Nat.le_of_ble_eq_true hb; omega
  have h1 : natV (ev tm i) = some j := by rw [hi]; rfl
  simp [x_ia, h1, hu, hx, hk, he, hb, slv, sv, sv1]
end
end Go.X
end
section
set_option linter.unusedVariables false
namespace Go.X
open Go Go.RowKit
/-- Code's judgement, closed: what is computed stops here. -/
structure CW (P : Program) (m n : Nat) (c : Code) (f : Fr) (s : XS) (Q : Ex → Fr → XS → Prop) : Prop where
  o : CS P m n c f s Q
section
variable {P : Program} {m n g fid : Nat} {s : XS} {f : Fr} {x y : Code} {Q : Ex → Fr → XS → Prop}
theorem CW.skip (h : Q .normal f s) : CW P m n .skip f s Q := ⟨CS.skip h⟩
theorem CW.label {l : Nat} (h : Q .normal f s) : CW P m n (.label l) f s Q := ⟨CS.label h⟩
theorem CW.exit {i : Nat} (h : Q (.exit i) f s) : CW P m n (.exit i) f s Q := ⟨CS.exit h⟩
theorem CW.ret (h : Q .ret f s) : CW P m n .ret f s Q := ⟨CS.ret h⟩
theorem CW.seq (h : CW P m n x f s fun e f s => match e with | .normal => CW P m n y f s Q | e => Q e f s) : CW P m n (.seq x y) f s Q :=
  ⟨CS.seq (h.o.mono fun e f s q => by cases e with | normal => exact q.o | _ => exact q)⟩
theorem CW.block {i : Nat} (h : CW P m n x f s fun e f s => match e with | .exit j => (match Nat.beq j i with | true => Q .normal f s | false => Q (.exit j) f s) | e => Q e f s) : CW P m n (.block i x) f s Q := ⟨CS.block h.o⟩
theorem CW.cond {c : Operand} (b : Bool) (hb : ev f.tm c = .bool b) (h1 : b = true → CW P m n x f s Q) (h2 : b = false → CW P m n y f s Q) : CW P m n (.cond c x y) f s Q := ⟨CS.cond hb (fun e => (h1 e).o) fun e => (h2 e).o⟩
theorem CW.ops {id : Nat} {ops : Array Oper} (h : wOps P ops [] m (fun v f s => Q (.pan v) f s) ops.toList f s fun f s => Q .normal f s) : CW P m n (.region id ops false) f s Q := ⟨CS.ops h⟩
theorem CW.drw (hm : P.follows .mixedOrders = true) {id : Nat} {ops : Array Oper} (ms : List (List Nat)) (hok : drawOk ops = true) (h : wDr P ops ms [] m ops.toList (uns ops) [] [] f s fun f s md => WE (empt md || subs md ms) (Q .normal f s)) : CW P m n (.region id ops true) f s Q := ⟨CS.drw hm ms hok h⟩
theorem CW.shape {L : List (Nat × Value)} {l1 : List (Option Ob)} (ns : List Nat) (sl : List (Nat × List Value)) (hg : P.globals.size ≤ m) (h : fit m g ns l1 = true) (hL : ltT L = true) (hd : f.df = []) (ho : AllO m ns sl s l1 g) (hs : AllS m g ns l1 s sl) (ht : AllT m ns sl f.tm L)
    (k : CW P m n x (zf L) (hpc g l1) Q) : CW P m n x f s Q := ⟨CS.shape ns sl hg h hL hd ho hs ht (hpc_eq g l1 ▸ k.o)⟩
theorem CW.loop {σ β : Type} {L : σ → List (Nat × Value)} {l : σ → List (Option Ob)} {body : σ → Option (σ ⊕ β)} {r : β} {z0 : σ} (h : X.lp body z0 = some r) (ns : List Nat) (sl : List (Nat × List Value)) (hg : P.globals.size ≤ m) (hfit : fit m g ns (l z0) = true) (hL : ltT (L z0) = true) (hd : f.df = []) (ho : AllO m ns sl s (l z0) g) (hs : AllS m g ns (l z0) s sl) (ht : AllT m ns sl f.tm (L z0))
    (hb : ∀ z y, body z = some y → (∀ r', y = .inr r' → r' = r) → CW P m n x (zf (L z)) (hpc g (l z)) (LQ m n (fun z => zf (L z)) (fun z => hp g (l z)) Q y)) : CW P m n (.loop x) f s Q :=
  ⟨CS.loop h ns sl hg hfit hL hd ho hs ht fun z y a b => hpc_eq g (l z) ▸ (hb z y a b).o⟩
theorem ZC.cw {fn : Func} {args : List Value} {v : Value} {l l' : List (Option Ob)} (hb : body? P fid = some (fn, x)) (hT : fnT P.globals.size fn x = true) (hl : Nat.ble args.length fn.ntmps = true) (hn : (Nat.ble P.globals.size g && Nat.ble (g + l'.length) tops && Nat.ble l.length l'.length) = true)
    (h : CW P (g + l.length) fn.ntmps x ⟨enter args 0 .e, []⟩ (hpc g l) fun e f1 s1 => (e = .normal ∨ e = .ret) ∧ f1.df = [] ∧ ∃ v1, r_res s1 (resV P [] s1 f1.tm fn.results.toList) = .ret v1 s1 ∧ ∃ ns sl, fit (g + l.length) g ns l' = true ∧ AllO (g + l.length) ns sl s1 l' g ∧ AllS (g + l.length) g ns l' s1 sl ∧ RV (g + l.length) (zipN ns (g + l.length)) sl v v1) : ZC P fid args (hp g l) v (hp g l') := ZC.fn hb hT hl hn (hpc_eq g l ▸ h.o)
theorem ZP.cw {fn : Func} {args : List Value} {v : Value} {l l' : List (Option Ob)} (hb : body? P fid = some (fn, x)) (hT : fnT P.globals.size fn x = true) (hl : Nat.ble args.length fn.ntmps = true) (hn : (Nat.ble P.globals.size g && Nat.ble (g + l'.length) tops && Nat.ble l.length l'.length) = true) (hv : nad v = true)
    (h : CW P (g + l.length) fn.ntmps x ⟨enter args 0 .e, []⟩ (hpc g l) fun e f1 s1 => e = .pan v ∧ f1.df = [] ∧ ∃ ns sl, fit (g + l.length) g ns l' = true ∧ AllO (g + l.length) ns sl s1 l' g ∧ AllS (g + l.length) g ns l' s1 sl) : ZP P fid args (hp g l) v (hp g l') := ZP.fn hb hT hl hn hv (hpc_eq g l ▸ h.o)
end
end Go.X
end
