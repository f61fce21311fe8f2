/-
  Plain laws: the nodes of a graph are of that graph; its forks. No statement of the seat is proved here.
-/
import Derived.Test.YtadebhbiglmodaaP4
namespace Go.Proofs.Ytadebhbiglmodaa
namespace NX
open Go
theorem okFrom_iff (l : List Diner) (i : Nat) : ∀ (xs : List Side) (p : Option Int), okFrom l i p xs = true ↔ (∀ x ∈ xs, sideB l i x = true) ∧ xs.Pairwise (fun x y => x.Peer < y.Peer) ∧ ∀ q, p = some q → ∀ x ∈ xs, q < x.Peer
  | [], p => by simp [okFrom]
  | x :: r, p => by
    simp only [okFrom, Bool.and_eq_true, okFrom_iff l i r (some x.Peer)]
    constructor
    · rintro ⟨h1, h2, h3, h4, h5⟩
      refine ⟨fun y hy => ?_, List.pairwise_cons.2 ⟨fun y hy => h5 _ rfl y hy, h4⟩, ?_⟩
      · rcases List.mem_cons.1 hy with rfl | hy
        · exact h2
        · exact h3 y hy
      · rintro q rfl y hy
        have hq : q < x.Peer := by simpa [riseB] using h1
        rcases List.mem_cons.1 hy with rfl | hy
        · exact hq
        · have := h5 _ rfl y hy; omega
    · rintro ⟨h1, h2, h3⟩
      rw [List.pairwise_cons] at h2
      refine ⟨?_, h1 x (by simp), fun y hy => h1 y (by simp [hy]), h2.2, ?_⟩
      · cases p with
        | none => rfl
        | some q => simpa [riseB] using h3 q rfl x (by simp)
      · rintro q e y hy
        simp at e; subst e; exact h2.1 y hy
theorem okAll_iff (l : List Diner) : ∀ (r : List Diner) (i : Nat), okAll l i r = true ↔ ∀ k d, r[k]? = some d → d.ID = ((i + k : Nat) : Int) ∧ okFrom l (i + k) none d.Sides = true
  | [], i => by simp [okAll]
  | d :: r, i => by
    simp only [okAll, Bool.and_eq_true, decide_eq_true_eq, okAll_iff l r (i + 1)]
    constructor
    · rintro ⟨h1, h2, h3⟩ k e he
      cases k with
      | zero => simp at he; subst he; exact ⟨by simpa using h1, by simpa using h2⟩
      | succ k =>
        have := h3 k e (by simpa using he)
        rw [show i + (k + 1) = i + 1 + k by omega]; exact this
    · intro h
      refine ⟨by simpa using (h 0 d (by simp)).1, by simpa using (h 0 d (by simp)).2, fun k e he => ?_⟩
      have := h (k + 1) e (by simpa using he)
      rw [show i + 1 + k = i + (k + 1) by omega]; exact this
theorem mem_edgesD {i : Nat} {xs : List Side} {e : Edge} : e ∈ edgesD i xs ↔ e.A = i ∧ (i : Int) < e.B ∧ ∃ x ∈ xs, x.Peer = e.B := by
  unfold edgesD
  simp only [List.mem_map, List.mem_filter, decide_eq_true_eq]
  constructor
  · rintro ⟨x, ⟨h1, h2⟩, rfl⟩; exact ⟨rfl, h2, x, h1, rfl⟩
  · rintro ⟨h1, h2, x, h3, h4⟩
    obtain ⟨a, b⟩ := e
    dsimp only at *
    subst h1; subst h4; exact ⟨x, ⟨h3, h2⟩, rfl⟩
theorem mem_edgesL : ∀ {r : List Diner} {i : Nat} {e : Edge}, e ∈ edgesL i r ↔ ∃ k d, r[k]? = some d ∧ e ∈ edgesD (i + k) d.Sides
  | [], i, e => by simp [edgesL]
  | d :: r, i, e => by
    simp only [edgesL, List.mem_append, mem_edgesL (r := r)]
    constructor
    · rintro (h | ⟨k, f, h1, h2⟩)
      · exact ⟨0, d, by simp, by simpa using h⟩
      · exact ⟨k + 1, f, by simpa using h1, by rw [show i + (k + 1) = i + 1 + k by omega]; exact h2⟩
    · rintro ⟨k, f, h1, h2⟩
      cases k with
      | zero => simp at h1; subst h1; exact .inl (by simpa using h2)
      | succ k => exact .inr ⟨k, f, by simpa using h1, by rw [show i + 1 + k = i + (k + 1) by omega]; exact h2⟩
theorem edgesD_pw {i : Nat} {xs : List Side} (h : xs.Pairwise fun x y => x.Peer < y.Peer) : (edgesD i xs).Pairwise fun x y => x.lt y = true := by
  unfold edgesD
  rw [List.pairwise_map]
  refine (List.Pairwise.filter _ h).imp fun hxy => ?_
  simp [Edge.lt, hxy]
theorem edgesL_pw : ∀ {r : List Diner} {i : Nat}, (∀ d ∈ r, d.Sides.Pairwise fun x y => x.Peer < y.Peer) → (edgesL i r).Pairwise fun x y => x.lt y = true
  | [], _, _ => List.Pairwise.nil
  | d :: r, i, h => by
    simp only [edgesL]
    rw [List.pairwise_append]
    refine ⟨edgesD_pw (h d (by simp)), edgesL_pw fun e he => h e (by simp [he]), fun x hx y hy => ?_⟩
    obtain ⟨h1, _, _⟩ := mem_edgesD.1 hx
    obtain ⟨k, e, _, hy⟩ := mem_edgesL.1 hy
    obtain ⟨h2, _, _⟩ := mem_edgesD.1 hy
    have : x.A < y.A := by rw [h1, h2]; omega
    simp [Edge.lt, this]
theorem risB_of : ∀ {l : List Edge}, l.Pairwise (fun x y => x.lt y = true) → risB l = true
  | [], _ => rfl
  | [x], _ => rfl
  | x :: y :: l, h => by
    rw [List.pairwise_cons] at h
    simp only [risB, Bool.and_eq_true]
    exact ⟨h.1 y (by simp), risB_of h.2⟩
theorem tableT_get {g : Graph} {c : List Int} {a : Int} (h0 : 0 ≤ a) (h : a < g.N) : (tableT g c)[a.toNat]? = some (dinerT g c a.toNat) := by
  unfold tableT
  rw [List.getElem?_map, List.getElem?_range (by omega)]; rfl
theorem tableT_len {g : Graph} (hg : okG g = true) (c : List Int) : ((tableT g c).length : Int) = g.N := by
  have := (okG_parts hg).1
  simp [tableT]; omega
theorem tableT_at {g : Graph} {c : List Int} {a : Int} (h0 : 0 ≤ a) (h : a < g.N) : at_ (tableT g c) a = some (dinerT g c a.toNat) := by
  have := at_get (tableT_get (c := c) h0 h)
  rwa [Int.toNat_of_nonneg h0] at this
theorem sideO_T (g : Graph) (c : List Int) (a : Nat) (b : Int) : sideO (dinerT g c a) b = if b ∈ nearL g a then some (sideT c a b) else none := by
  unfold sideO dinerT
  dsimp only
  rw [List.find?_map]
  have e : ((fun x : Side => decide (x.Peer = b)) ∘ sideT c a) = fun z => decide (z = b) := rfl
  rw [e]
  by_cases h : b ∈ nearL g a
  · rw [if_pos h]
    have : (nearL g a).find? (fun z => decide (z = b)) = some b := by
      cases hf : (nearL g a).find? (fun z => decide (z = b)) with
      | none => rw [List.find?_eq_none] at hf; exact absurd (by simp) (hf b h)
      | some z => have := List.find?_some hf; simp at this; rw [this]
    rw [this]; rfl
  · rw [if_neg h]
    have : (nearL g a).find? (fun z => decide (z = b)) = none := by
      rw [List.find?_eq_none]; intro z hz; simp; rintro rfl; exact h hz
    rw [this]; rfl
theorem near_symm {g : Graph} (hg : okG g = true) {a b : Int} (h : b ∈ nearL g a) : a ∈ nearL g b := by
  rw [mem_nearL hg] at *; exact h.symm
theorem tableT_pw {g : Graph} (hg : okG g = true) (c : List Int) (d : Diner) (hd : d ∈ tableT g c) : d.Sides.Pairwise fun x y => x.Peer < y.Peer := by
  obtain ⟨a, _, rfl⟩ := List.mem_map.1 hd
  simp only [dinerT, List.pairwise_map]
  exact nearL_pw hg a
/-- The nodes of a graph are of that graph. -/
theorem graphP_T {g : Graph} (hg : okG g = true) (c : List Int) : graphP (tableT g c) = (g, true) := by
  obtain ⟨g1, g2, g3, g4, g5⟩ := okG_parts hg
  have hlen := tableT_len hg c
  have hall : okAll (tableT g c) 0 (tableT g c) = true := by
    rw [okAll_iff]
    intro k d hd
    have hk := (List.getElem?_eq_some_iff.1 hd).1
    have e := tableT_get (g := g) (c := c) (a := (k : Int)) (by omega) (by omega)
    rw [Int.toNat_natCast, hd] at e
    simp at e; subst e
    refine ⟨by simp [dinerT], ?_⟩
    rw [Nat.zero_add, okFrom_iff]
    refine ⟨fun x hx => ?_, tableT_pw hg c _ (List.mem_iff_getElem?.2 ⟨_, hd⟩), by simp⟩
    obtain ⟨b, hb, rfl⟩ := List.mem_map.1 hx
    obtain ⟨b1, b2, b3, _, _⟩ := near_range hg hb
    have hs : sideO (dinerT g c b.toNat) k = some (sideT c b.toNat k) := by
      rw [sideO_T, if_pos]
      rw [Int.toNat_of_nonneg b1]; exact near_symm hg hb
    have hs' : (sideO (dinerT g c b.toNat) (k : Int)).isSome = true := by rw [hs]; rfl
    show (decide (0 ≤ b) && (decide (b < ((tableT g c).length : Int)) && (!decide (b = (k : Int)) && (match (tableT g c)[b.toNat]? with | some e => (sideO e k).isSome | none => false)))) = true
    rw [decide_eq_true b1, decide_eq_true (by omega), decide_eq_false b3, tableT_get (c := c) b1 b2]
    simpa using hs'
  have hedges : edgesL 0 (tableT g c) = g.Edges := by
    refine pw_ext (R := fun x y => x.lt y = true) Edge.lt_irr (fun x y h1 h2 => Edge.lt_irr x (Edge.lt_trans h1 h2)) (edgesL_pw (tableT_pw hg c)) (okG_pw hg) fun e => ?_
    rw [mem_edgesL]
    constructor
    · rintro ⟨k, d, hd, he⟩
      have hk := (List.getElem?_eq_some_iff.1 hd).1
      have e' := tableT_get (g := g) (c := c) (a := (k : Int)) (by omega) (by omega)
      rw [Int.toNat_natCast, hd] at e'
      simp at e'; subst e'
      obtain ⟨h1, h2, x, hx, h3⟩ := mem_edgesD.1 he
      obtain ⟨b, hb, rfl⟩ := List.mem_map.1 hx
      simp only [sideT] at h3
      subst h3
      rw [Nat.zero_add] at h1 h2
      rcases (mem_nearL hg).1 hb with hb | hb
      · obtain ⟨e1, e2⟩ := e; dsimp only at h1 hb; rw [h1]; exact hb
      · have := g4 _ hb; dsimp only at this; omega
    · intro he
      have h := g4 e he
      refine ⟨e.A.toNat, dinerT g c e.A.toNat, tableT_get h.1 (by omega), mem_edgesD.2 ⟨by omega, by omega, sideT c e.A.toNat e.B, ?_, rfl⟩⟩
      simp only [dinerT]
      refine List.mem_map_of_mem ?_
      rw [mem_nearL hg, Int.toNat_of_nonneg h.1]
      exact .inl he
  have hG : (⟨(tableT g c).length, edgesL 0 (tableT g c)⟩ : Graph) = g := by
    rw [hedges, hlen]
  unfold graphP
  rw [hG, hall, hg]; rfl
theorem cg_map3 (c : List Int) (i : Int) : cg (c.map (3 * ·)) i = 3 * cg c i := by
  unfold cg
  rw [List.getElem?_map]
  cases c[i.toNat]? <;> simp
theorem rightB_map3 (g : Graph) (c : List Int) : rightB g (c.map (3 * ·)) = rightB g c := by
  unfold rightB
  rw [List.length_map, List.all_map]
  have e1 : (c.all ((fun x : Int => decide (1 ≤ x)) ∘ fun x => 3 * x)) = c.all fun x => decide (1 ≤ x) := by
    congr 1; funext x
    simp only [Function.comp]
    rw [decide_eq_decide]; omega
  have e2 : (g.Edges.all fun e => !decide (cg (c.map (3 * ·)) e.A = cg (c.map (3 * ·)) e.B)) = g.Edges.all fun e => !decide (cg c e.A = cg c e.B) := by
    congr 1; funext e
    rw [cg_map3, cg_map3]
    congr 1
    rw [decide_eq_decide]; omega
  rw [e1, e2]
theorem tableT_map3 (g : Graph) (c : List Int) : tableT g (c.map (3 * ·)) = tableT g c := by
  unfold tableT dinerT sideT
  simp only [cg_map3]
  have e : ∀ a b : Int, decide (3 * cg c b < 3 * cg c a) = decide (cg c b < cg c a) := fun a b => by rw [decide_eq_decide]; omega
  simp only [e]
theorem p_narthexlaw12_PlaceOrder (g : Graph) (c : List Int) : m_narthexlaw12_PlaceOrder g c = some true := by
  have yes : m_narthexlaw12_PlaceOrder_j1 g c true = some true := by
    simp only [m_narthexlaw12_PlaceOrder_j1, ifb_true, s_awake12, Option.bind_some]
  simp only [m_narthexlaw12_PlaceOrder, s_awake12, Option.bind_some, Bool.not_true, ifb_false, yes, ln_eq]
  by_cases h60 : (60 : Int) < g.Edges.length
  · rw [decide_eq_true h60, ifb_true]
  rw [decide_eq_false h60, ifb_false]
  by_cases h70 : (70 : Int) < c.length
  · rw [decide_eq_true h70, yes]
  rw [decide_eq_false h70]
  simp only [m_narthexlaw12_PlaceOrder_j1, ifb_false]
  have fin : m_narthexlaw12_PlaceOrder_j2 g c (c.map (3 * ·)) = some true := by
    simp only [m_narthexlaw12_PlaceOrder_j2, s_Own03 g (by omega), Option.bind_some]
    rw [app_ok _ _ (by omega) (by simp; omega), Option.bind_some, List.nil_append, s_Table g c (by omega), Option.bind_some, s_Table g _ (by simp; omega), Option.bind_some, rightB_map3, tableT_map3, decide_eq_true rfl, ifb_true]
    have hf : fewD (if okG g then (if rightB g c then (tableT g c, (0 : Int)) else ([], 120)) else ([], 30)).1 := by
      cases hg : okG g with
      | false => exact ⟨by simp, by simp⟩
      | true => cases rightB g c with
        | false => exact ⟨by simp, by simp⟩
        | true => exact tableT_few hg c
    rw [s_placeSame _ _ hf]
    simp [m_narthexlaw12_PlaceOrder_j4]
  refine (loop_pp0 c (m_narthexlaw12_PlaceOrder_l1 g c) (fun pre => ((pre.length : Int), pre.map (3 * ·))) (fun _ _ => some true) (fun pre x post h => ?_) ?_)
  · have hx := mid_get h
    have hm := mid_len h
    dsimp only [m_narthexlaw12_PlaceOrder_l1]
    rw [lt_len hx, ifb_true, at_get hx, Option.bind_some, Option.bind_some]
    have bad : m_narthexlaw12_PlaceOrder_j3 c pre.length (pre.map (3 * ·)) true = some (.inr true) := rfl
    by_cases h1 : x < 0
    · right; exact ⟨_, by rw [decide_eq_true h1, ifb_true, bad], rfl⟩
    rw [decide_eq_false h1, ifb_false]
    by_cases h2 : 1000 < x
    · right; exact ⟨_, by rw [decide_eq_true h2, bad], rfl⟩
    left
    rw [decide_eq_false h2]
    dsimp only [m_narthexlaw12_PlaceOrder_j3]
    rw [ifb_false, at_get hx, Option.bind_some, wr_id (by omega) (by omega), app_ok _ _ (by omega) (by simp; omega), Option.bind_some, len_snoc, wr_succ (by omega)]
    simp
  · dsimp only [m_narthexlaw12_PlaceOrder_l1]
    rw [nlt_len, ifb_false, fin]
theorem p_narthexlaw12_PlaceOne (g : Graph) (c : List Int) : m_narthexlaw12_PlaceOne g c = some true := by
  have yes : m_narthexlaw12_PlaceOne_j1 g c true = some true := by
    simp only [m_narthexlaw12_PlaceOne_j1, ifb_true, s_awake12, Option.bind_some]
  simp only [m_narthexlaw12_PlaceOne, s_awake12, Option.bind_some, Bool.not_true, ifb_false, yes, ln_eq]
  by_cases h60 : (60 : Int) < g.Edges.length
  · rw [decide_eq_true h60, ifb_true]
  rw [decide_eq_false h60, ifb_false]
  by_cases h70 : (70 : Int) < c.length
  · rw [decide_eq_true h70, yes]
  rw [decide_eq_false h70]
  simp only [m_narthexlaw12_PlaceOne_j1, ifb_false, s_Own03 g (by omega), Option.bind_some]
  rw [app_ok _ _ (by omega) (by simp; omega), Option.bind_some, List.nil_append, s_Table g c (by omega), Option.bind_some]
  cases hg : okG g with
  | false => rfl
  | true =>
    obtain ⟨g1, g2, g3, g4, g5⟩ := okG_parts hg
    cases hr : rightB g c with
    | false => rfl
    | true =>
      have hD := tableT_few hg c
      simp only [if_true, decide_true, Bool.not_true, ifb_false, s_Own _ hD, s_Graph _ hD, graphP_T hg c, Option.bind_some]
      refine loop_pre g.Edges _ (fun pre => (pre.length : Int)) true (fun pre e post h => ?_) ?_
      · have hx := mid_get h
        have hm := mid_len h
        have he := mid_mem h
        obtain ⟨e1, e2, e3⟩ := g4 e he
        have nB : e.B ∈ nearL g e.A := (mem_nearL hg).2 (.inl he)
        have nA : e.A ∈ nearL g e.B := near_symm hg nB
        have hne := rightB_ne hg hr nB
        have sA : sideO (dinerT g c e.A.toNat) e.B = some (sideT c e.A e.B) := by rw [sideO_T, Int.toNat_of_nonneg e1, if_pos nB]
        have sB : sideO (dinerT g c e.B.toNat) e.A = some (sideT c e.B e.A) := by rw [sideO_T, Int.toNat_of_nonneg (by omega), if_pos nA]
        have lA := hD.2 _ (List.mem_iff_getElem?.2 ⟨_, tableT_get (c := c) e1 (by omega)⟩)
        have lB := hD.2 _ (List.mem_iff_getElem?.2 ⟨_, tableT_get (c := c) (show 0 ≤ e.B by omega) (by omega)⟩)
        dsimp only [m_narthexlaw12_PlaceOne_l1]
        rw [lt_len hx, ifb_true, at_get hx, Option.bind_some, tableT_at e1 (by omega), Option.bind_some, Option.bind_some, s_Side _ _ (by omega), Option.bind_some, sA]
        dsimp only [sideP, m_narthexlaw12_PlaceOne_j3]
        rw [at_get hx, Option.bind_some, tableT_at (by omega) (by omega), Option.bind_some, Option.bind_some, s_Side _ _ (by omega), Option.bind_some, sB]
        dsimp only [sideP, m_narthexlaw12_PlaceOne_j4, m_narthexlaw12_PlaceOne_j5, sideT]
        have hlt : decide (cg c e.A < cg c e.B) = !decide (cg c e.B < cg c e.A) := by
          rw [← decide_not, decide_eq_decide]; omega
        rw [hlt, len_snoc, wr_succ (by omega)]
        cases decide (cg c e.B < cg c e.A) <;> rfl
      · dsimp only [m_narthexlaw12_PlaceOne_l1]
        rw [nlt_len, ifb_false, m_narthexlaw12_PlaceOne_j2]
        simp only [ifb_true, s_r03Same g g (by omega), Option.bind_some, m_narthexlaw12_PlaceOne_j6, decide_true, Option.map_some]
end NX
end Go.Proofs.Ytadebhbiglmodaa
