/-
  A part of the proof of ScriptJoins: no statement of the seat is proved here.
-/
import Derived.Test.YtncijcfnjepooaaGreatDoorK07
set_option linter.unusedVariables false
set_option linter.unusedSimpArgs false
set_option linter.unnecessarySimpa false
set_option linter.unusedSectionVars false
set_option linter.constructorNameAsVariable false
set_option linter.deprecated false
section
set_option linter.unusedVariables false
namespace Go.X
open Go Go.RowKit
section
variable {P : Program} {all : Array Oper} {B : Ban} {lo : Nat} {k : Tk → Ban → Nat → XS → RR}
/-! Which ones touch memory -/
theorem heavy_mem : ∀ (l : List Oper) (ps : List Nat) (i : Nat) (x : Nat × Nat), x ∈ heavy l ps i ↔ ∃ j o, x.1 = i + j ∧ l[j]? = some o ∧ ps[j]? = some x.2 ∧ pureO o.op = false
  | [], ps, i, x => by simp [heavy]
  | o :: l, [], i, x => by simp [heavy]
  | o :: l, p :: ps, i, x => by
    have ih := heavy_mem l ps (i + 1) x
    have up : (∃ j o', x.1 = i + 1 + j ∧ l[j]? = some o' ∧ ps[j]? = some x.2 ∧ pureO o'.op = false) ↔ ∃ j o', x.1 = i + (j + 1) ∧ (o :: l)[j + 1]? = some o' ∧ (p :: ps)[j + 1]? = some x.2 ∧ pureO o'.op = false := by
      constructor <;> rintro ⟨j, o', h1, h2, h3, h4⟩ <;> exact ⟨j, o', by omega, by simpa using h2, by simpa using h3, h4⟩
    simp only [heavy]
    split
    · rename_i hp
      rw [show heavy l ps (Nat.succ i) = heavy l ps (i + 1) from rfl, ih, up]
      constructor
      · rintro ⟨j, o', h⟩; exact ⟨j + 1, o', h⟩
      · rintro ⟨j, o', h1, h2, h3, h4⟩
        cases j with
        | zero => simp at h2; subst h2; rw [hp] at h4; simp at h4
        | succ j => exact ⟨j, o', h1, h2, h3, h4⟩
    · rename_i hp
      rw [List.mem_cons, show heavy l ps (Nat.succ i) = heavy l ps (i + 1) from rfl, ih, up]
      constructor
      · rintro (rfl | ⟨j, o', h⟩)
        · exact ⟨0, o, rfl, by simp, by simp, hp⟩
        · exact ⟨j + 1, o', h⟩
      · rintro ⟨j, o', h1, h2, h3, h4⟩
        cases j with
        | zero =>
          simp at h2 h3
          left
          ext
          · simpa using h1
          · exact h3.symm
        | succ j => exact .inr ⟨j, o', h1, h2, h3, h4⟩
theorem unsH_mem {i p : Nat} : ∀ {hv : List (Nat × Nat)} {j : Nat}, j ∈ unsH i p hv ↔ ∃ q, (j, q) ∈ hv ∧ i ≠ j ∧ tb p j = false ∧ tb q i = false
  | [], j => by simp [unsH]
  | (j', q') :: hv, j => by
    have ih := unsH_mem (i := i) (p := p) (hv := hv) (j := j)
    simp only [unsH]
    split
    · rename_i h
      have := Nat.eq_of_beq_eq_true h
      subst this
      rw [ih]
      constructor
      · rintro ⟨q, h1, h2⟩; exact ⟨q, by simp [h1], h2⟩
      · rintro ⟨q, h1, h2, h3⟩
        rcases List.mem_cons.1 h1 with h1 | h1
        · simp at h1; exact absurd h1.1.symm h2
        · exact ⟨q, h1, h2, h3⟩
    · rename_i hne
      have hne : i ≠ j' := fun e => by subst e; simp at hne
      split
      · rename_i h
        rw [ih]
        constructor
        · rintro ⟨q, h1, h2⟩; exact ⟨q, by simp [h1], h2⟩
        · rintro ⟨q, h1, h2, h3, h4⟩
          rcases List.mem_cons.1 h1 with h1 | h1
          · simp at h1; obtain ⟨rfl, rfl⟩ := h1; rw [h] at h3; simp at h3
          · exact ⟨q, h1, h2, h3, h4⟩
      · rename_i h
        split
        · rename_i h'
          rw [ih]
          constructor
          · rintro ⟨q, h1, h2⟩; exact ⟨q, by simp [h1], h2⟩
          · rintro ⟨q, h1, h2, h3, h4⟩
            rcases List.mem_cons.1 h1 with h1 | h1
            · simp at h1; obtain ⟨rfl, rfl⟩ := h1; rw [h'] at h4; simp at h4
            · exact ⟨q, h1, h2, h3, h4⟩
        · rename_i h'
          rw [List.mem_cons, ih]
          constructor
          · rintro (rfl | ⟨q, h1, h2⟩)
            · exact ⟨q', by simp, hne, h, h'⟩
            · exact ⟨q, by simp [h1], h2⟩
          · rintro ⟨q, h1, h2, h3, h4⟩
            rcases List.mem_cons.1 h1 with h1 | h1
            · simp at h1; exact .inl h1.1
            · exact .inr ⟨q, h1, h2, h3, h4⟩
theorem unsL_get {hv : List (Nat × Nat)} : ∀ (l : List Oper) (ps : List Nat) (i j : Nat) (u : Option (List Nat)), (unsL hv l ps i)[j]? = some u → ∃ o p, l[j]? = some o ∧ ps[j]? = some p ∧ u = (match pureO o.op with | true => none | false => some (unsH (i + j) p hv))
  | [], ps, i, j, u, h => by simp [unsL] at h
  | o :: l, [], i, j, u, h => by simp [unsL] at h
  | o :: l, p :: ps, i, j, u, h => by
    simp only [unsL] at h
    cases j with
    | zero =>
      refine ⟨o, p, by simp, by simp, ?_⟩
      split at h
      · rename_i hp; simp at h; rw [hp]; exact h.symm
      · rename_i hp; simp at h; rw [hp]; exact h.symm
    | succ j =>
      have : (unsL hv l ps (i + 1))[j]? = some u := by
        split at h <;> simpa using h
      obtain ⟨o', p', h1, h2, h3⟩ := unsL_get l ps (i + 1) j u this
      exact ⟨o', p', by simpa using h1, by simpa using h2, by rw [h3, show i + 1 + j = i + (j + 1) from by omega]⟩
/-- Two that touch memory: each is with the other's open ones, or they are ordered. -/
theorem uns_spec {i j : Nat} {oi oj : Oper} {u : List Nat} (hi : all[i]? = some oi) (hj : all[j]? = some oj) (hu : (uns all)[i]? = some (some u)) (hpj : pureO oj.op = false) (hne : j ≠ i) :
    (j ∈ u ∧ ∀ u', (uns all)[j]? = some u' → ∃ v, u' = some v ∧ i ∈ v) ∨ Wt all i j ∨ Wt all j i := by
  obtain ⟨o, p, h1, h2, h3⟩ := unsL_get _ _ _ _ _ hu
  have hoi : o = oi := by
    have : all[i]? = some o := by simpa using h1
    rw [hi] at this; simpa using this.symm
  subst hoi
  split at h3
  · simp at h3
  · rename_i hpi
    simp at h3
    have hjs := (Array.getElem?_eq_some_iff.1 hj).1
    have hq : (preds all)[j]? = some ((preds all)[j]'(by rw [preds_len]; exact hjs)) := by simp
    generalize (preds all)[j]'(by rw [preds_len]; exact hjs) = q at hq
    cases hpj' : tb p j with
    | true => exact .inr (.inl (preds_spec h2 hpj'))
    | false =>
      cases hqi : tb q i with
      | true => exact .inr (.inr (preds_spec hq hqi))
      | false =>
        left
        refine ⟨?_, fun u' hu' => ?_⟩
        · rw [h3, unsH_mem]
          exact ⟨q, (heavy_mem _ _ _ _).2 ⟨j, oj, by simp, by simpa using hj, hq, hpj⟩, by omega, hpj', hqi⟩
        · obtain ⟨o', q', g1, g2, g3⟩ := unsL_get _ _ _ _ _ hu'
          have hoj : o' = oj := by
            have : all[j]? = some o' := by simpa using g1
            rw [hj] at this; simpa using this.symm
          subst hoj
          rw [hpj] at g3
          rw [hq] at g2; simp at g2; subst g2
          refine ⟨_, g3, ?_⟩
          rw [unsH_mem]
          exact ⟨p, (heavy_mem _ _ _ _).2 ⟨i, o, by simp, h1, h2, hpi⟩, by omega, by simpa using hqi, by simpa using hpj'⟩
/-! Bans -/
theorem bn_cons (a b : Nat) (l : Ban) (n : Nat) : bn ((a, b) :: l) n = (decide (a ≤ n ∧ n < b) || bn l n) := by
  simp only [bn]
  cases h1 : Nat.ble a n with
  | false =>
    have : ¬ a ≤ n := fun e => by rw [Nat.ble_eq_true_of_le e] at h1; simp at h1
    simp [this]
  | true =>
    have h1 := Nat.le_of_ble_eq_true h1
    cases h2 : Nat.ble b n with
    | true =>
      have h2 := Nat.le_of_ble_eq_true h2
      have : ¬ n < b := by omega
      simp [this]
    | false =>
      have : n < b := by
        rcases Nat.lt_or_ge n b with h | h
        · exact h
        · rw [Nat.ble_eq_true_of_le h] at h2; simp at h2
      simp [h1, this]
theorem bn_single {n : Nat} : ∀ {l : List Nat}, bn (single l B) n = true ↔ n ∈ l ∨ bn B n = true
  | [] => by simp [single]
  | m :: l => by
    simp only [single]
    rw [bn_cons, Bool.or_eq_true, bn_single, decide_eq_true_eq, List.mem_cons]
    constructor
    · rintro (⟨h1, h2⟩ | h | h)
      · exact .inl (.inl (by omega))
      · exact .inl (.inr h)
      · exact .inr h
    · rintro ((rfl | h) | h)
      · exact .inl ⟨Nat.le_refl _, Nat.lt_succ_self _⟩
      · exact .inr (.inl h)
      · exact .inr (.inr h)
theorem bn_bans {rg : List (Nat × Nat)} {ms : List (List Nat)} {n : Nat} : ∀ {u : List Nat} {B : Ban}, bn (bans rg ms u B) n = true ↔ bn B n = true ∨ ∃ j ∈ u, (∃ r, rg[j]? = some r ∧ r.1 ≤ n ∧ n < r.2) ∨ ∃ m, ms[j]? = some m ∧ n ∈ m
  | [], B => by simp [bans]
  | j :: u, B => by
    simp only [bans, nth_eq]
    have fin : ∀ B', (bn B' n = true ↔ bn B n = true ∨ ((∃ r, rg[j]? = some r ∧ r.1 ≤ n ∧ n < r.2) ∨ ∃ m, ms[j]? = some m ∧ n ∈ m)) → (bn (bans rg ms u B') n = true ↔ bn B n = true ∨ ∃ j' ∈ j :: u, (∃ r, rg[j']? = some r ∧ r.1 ≤ n ∧ n < r.2) ∨ ∃ m, ms[j']? = some m ∧ n ∈ m) := by
      intro B' hB'
      rw [bn_bans, hB']
      simp only [List.mem_cons, exists_eq_or_imp]
      constructor
      · rintro ((h | h) | h)
        · exact .inl h
        · exact .inr (.inl h)
        · exact .inr (.inr h)
      · rintro (h | h | h)
        · exact .inl (.inl h)
        · exact .inl (.inr h)
        · exact .inr h
    split
    · rename_i r m h1 h2
      obtain ⟨a, b⟩ := r
      refine fin _ ?_
      rw [bn_cons, Bool.or_eq_true, bn_single, decide_eq_true_eq]
      simp only [h1, h2, Option.some.injEq, exists_eq_left']
      constructor
      · rintro (h | h | h)
        · exact .inr (.inl h)
        · exact .inr (.inr h)
        · exact .inl h
      · rintro (h | h | h)
        · exact .inr (.inr h)
        · exact .inl h
        · exact .inr (.inl h)
    · rename_i r h1 h2
      obtain ⟨a, b⟩ := r
      refine fin _ ?_
      rw [bn_cons, Bool.or_eq_true, decide_eq_true_eq]
      simp only [h1, h2, Option.some.injEq, exists_eq_left', reduceCtorEq, false_and, exists_false, or_false]
      exact or_comm
    · rename_i m h1 h2
      refine fin _ ?_
      rw [bn_single]
      simp only [h1, h2, Option.some.injEq, exists_eq_left', reduceCtorEq, false_and, exists_false, false_or]
      exact or_comm
    · rename_i h1 h2
      refine fin _ ?_
      simp only [h1, h2, reduceCtorEq, false_and, exists_false, or_false]
theorem outR_spec {a b : Nat} : ∀ {l : List Nat}, outR a b l = true → ∀ n ∈ l, ¬ (a ≤ n ∧ n < b)
  | [], _, n, h => by simp at h
  | x :: l, h, n, hn => by
    simp only [outR] at h
    have tail : outR a b l = true := by
      split at h
      · split at h
        · exact h
        · simp at h
      · exact h
    rcases List.mem_cons.1 hn with rfl | hn
    · split at h
      · split at h
        · rename_i h2; have := Nat.le_of_ble_eq_true h2; omega
        · simp at h
      · rename_i h1
        intro ⟨e, _⟩
        rw [Nat.ble_eq_true_of_le e] at h1; simp at h1
    · exact outR_spec tail n hn
theorem outU_spec {ms : List (List Nat)} {a b : Nat} : ∀ {u : List Nat}, outU ms a b u = true → ∀ j ∈ u, ∀ m, ms[j]? = some m → ∀ n ∈ m, ¬ (a ≤ n ∧ n < b)
  | [], _, j, h => by simp at h
  | x :: u, h, j, hj => by
    simp only [outU, nth_eq] at h
    split at h
    · rename_i m0 hm
      split at h
      · rename_i h0
        rcases List.mem_cons.1 hj with rfl | hj
        · intro m hm'
          rw [hm] at hm'; simp at hm'; subst hm'
          exact outR_spec h0
        · exact outU_spec h j hj
      · simp at h
    · rename_i hm
      rcases List.mem_cons.1 hj with rfl | hj
      · intro m hm'
        rw [hm] at hm'; simp at hm'
      · exact outU_spec h j hj
theorem below_mem {n : Nat} : ∀ {xs l : List Nat}, (n ∈ l ∨ (n ∈ xs ∧ n < lo)) → n ∈ below lo xs l
  | [], l, h => by rcases h with h | ⟨h, _⟩; exact h; simp at h
  | x :: xs, l, h => by
    show n ∈ below lo xs (logged lo l x)
    refine below_mem ?_
    rcases h with h | ⟨h, hl⟩
    · exact .inl (logged_lg h)
    · rcases List.mem_cons.1 h with rfl | h
      · exact .inl (logged_mem hl)
      · exact .inr ⟨h, hl⟩
end
end Go.X
end
section
set_option linter.unusedVariables false
namespace Go.X
open Go Go.RowKit
section
variable {P : Program} {all : Array Oper} {B : Ban} {lo : Nat} {k : Tk → Ban → Nat → XS → RR} {ms : List (List Nat)} {us : List (Option (List Nat))}
/-- One operation's step in a drawn region. -/
inductive DS (P : Program) (N : Nat) (all : Array Oper) (ms : List (List Nat)) (us : List (Option (List Nat))) (B : Ban) (lo : Nat) (md : List (List Nat)) (F : Nat → Fr) (S : Nat → XS) (i : Nat) : Prop
  | pure (k : Tk → Ban → Nat → XS → RR) (hk : KS P N k) (o : Oper) (s1 : XS) : all[i]? = some o → us[i]? = some none → r_op P k all allB lo o (F i) (S i) = .ok (F (i + 1)) s1 → s1.nx = (S i).nx → S (i + 1) = S i → DS P N all ms us B lo md F S i
  | non (k : Tk → Ban → Nat → XS → RR) (hk : KS P N k) (o : Oper) : all[i]? = some o → us[i]? = some (some []) → r_op P k all B lo o (F i) (S i) = .ok (F (i + 1)) (S (i + 1)) → DS P N all ms us B lo md F S i
  | uns (k : Tk → Ban → Nat → XS → RR) (hk : KS P N k) (o : Oper) (u : List Nat) (rg : List (Nat × Nat)) (s1 : XS) : all[i]? = some o → us[i]? = some (some u) → rg.length = i → (∀ j, j < i → rg[j]? = some ((S j).nx, (S (j + 1)).nx)) →
      r_op P k all (bans rg ms u B) (S i).nx o (F i) ⟨(S i).h, (S i).nx, []⟩ = .ok (F (i + 1)) s1 → outU ms (S i).nx s1.nx u = true → S (i + 1) = ⟨s1.h, s1.nx, below lo s1.lg (S i).lg⟩ → md[i]? = some s1.lg → DS P N all ms us B lo md F S i
theorem trace {N : Nat} (hk : KS P N k) : ∀ (l : List Oper) (us' : List (Option (List Nat))) (i0 : Nat) (rg : List (Nat × Nat)) (md : List (List Nat)) (f : Fr) (s : XS) (f' : Fr) (s' : XS) (mdf : List (List Nat)), all.toList.drop i0 = l → us.drop i0 = us' → rg.length = i0 → md.length = i0 →
    r_dr P k all ms B lo l us' rg md f s = .ok f' s' mdf → ∀ (F0 : Nat → Fr) (S0 : Nat → XS), F0 i0 = f → S0 i0 = s → (∀ j, j < i0 → rg[j]? = some ((S0 j).nx, (S0 (j + 1)).nx)) → i0 ≤ all.size →
    ∃ (F : Nat → Fr) (S : Nat → XS), (∀ j, j ≤ i0 → F j = F0 j ∧ S j = S0 j) ∧ F all.size = f' ∧ S all.size = s' ∧ (∀ j, j < i0 → mdf[j]? = md[j]?) ∧ mdf.length = all.size ∧ ∀ i, i0 ≤ i → i < all.size → DS P N all ms us B lo mdf F S i
  | [], us', i0, rg, md, f, s, f', s', mdf, hl, hu, hrg, hmd, h, F0, S0, hF, hS, hr, hi0 => by
    have h' : RD.ok f s md = .ok f' s' mdf := h
    simp at h'
    obtain ⟨rfl, rfl, rfl⟩ := h'
    have hsz : i0 = all.size := by
      have := congrArg List.length hl
      rw [List.length_drop] at this
      simp only [List.length_nil, Array.length_toList] at this
      omega
    subst hsz
    exact ⟨F0, S0, fun j _ => ⟨rfl, rfl⟩, hF, hS, fun j _ => rfl, hmd, fun i h1 h2 => by omega⟩
  | o :: l, us', i0, rg, md, f, s, f', s', mdf, hl, hu, hrg, hmd, h, F0, S0, hF, hS, hr, hi0 => by
    have ho : all[i0]? = some o := by
      have := congrArg (·[0]?) hl
      simpa using this
    have hlt := (Array.getElem?_eq_some_iff.1 ho).1
    have hl' : all.toList.drop (i0 + 1) = l := by
      have := congrArg List.tail hl
      simpa using this
    cases us' with
    | nil => exact absurd (show RD.bad "draw" = _ from h) (by simp)
    | cons u us' =>
      have hui : us[i0]? = some u := by
        have := congrArg (·[0]?) hu
        simpa using this
      have hu' : us.drop (i0 + 1) = us' := by
        have := congrArg List.tail hu
        simpa using this
      -- the rest
      have rest : ∀ (f1 : Fr) (s1 : XS) (m1 : List Nat), r_dr P k all ms B lo l us' (app rg [(s.nx, s1.nx)]) (app md [m1]) f1 s1 = .ok f' s' mdf →
          (∀ (F : Nat → Fr) (S : Nat → XS), F i0 = f → S i0 = s → F (i0 + 1) = f1 → S (i0 + 1) = s1 → (∀ j, j < i0 → rg[j]? = some ((S j).nx, (S (j + 1)).nx)) → mdf[i0]? = some m1 → DS P N all ms us B lo mdf F S i0) →
          ∃ (F : Nat → Fr) (S : Nat → XS), (∀ j, j ≤ i0 → F j = F0 j ∧ S j = S0 j) ∧ F all.size = f' ∧ S all.size = s' ∧ (∀ j, j < i0 → mdf[j]? = md[j]?) ∧ mdf.length = all.size ∧ ∀ i, i0 ≤ i → i < all.size → DS P N all ms us B lo mdf F S i := by
        intro f1 s1 m1 h1 hDS
        rw [app_eq, app_eq] at h1
        obtain ⟨F, S, g1, g2, g3, g4, g5, g6⟩ := trace hk l us' (i0 + 1) _ _ f1 s1 f' s' mdf hl' hu' (by simp; exact hrg) (by simp; exact hmd) h1 (fun j => if j = i0 + 1 then f1 else F0 j) (fun j => if j = i0 + 1 then s1 else S0 j) (by simp) (by simp)
          (fun j hj => by
            rcases Nat.lt_or_ge j i0 with hj' | hj'
            · rw [List.getElem?_append_left (by omega), hr j hj', if_neg (by omega), if_neg (by omega)]
            · have : j = i0 := by omega
              subst this
              rw [List.getElem?_append_right (by omega), hrg, if_neg (by omega), if_pos rfl, hS]
              simp) hlt
        have hFe : ∀ j, j ≤ i0 → F j = F0 j ∧ S j = S0 j := by
          intro j hj
          obtain ⟨a, b⟩ := g1 j (by omega)
          rw [if_neg (by omega)] at a b
          exact ⟨a, b⟩
        have hm0 : mdf[i0]? = some m1 := by
          rw [g4 i0 (by omega), List.getElem?_append_right (by omega), hmd]; simp
        refine ⟨F, S, hFe, g2, g3, fun j hj => ?_, g5, fun i h2 h3 => ?_⟩
        · rw [g4 j (by omega), List.getElem?_append_left (by omega)]
        · rcases Nat.eq_or_lt_of_le h2 with rfl | h2
          · obtain ⟨a, b⟩ := g1 (i0 + 1) (by omega)
            rw [if_pos rfl] at a b
            exact hDS F S ((hFe i0 (by omega)).1.trans hF) ((hFe i0 (by omega)).2.trans hS) a b (fun j hj => by rw [hr j hj, (hFe j (by omega)).2, (hFe (j + 1) (by omega)).2]) hm0
          · exact g6 i h2 h3
      cases u with
      | none =>
        have h' : r_dp (r_dr P k all ms B lo l us') rg md s (r_op P k all allB lo o f s) = .ok f' s' mdf := h
        cases hq : r_op P k all allB lo o f s with
        | bad w => rw [hq] at h'; exact absurd (show RD.bad w = _ from h') (by simp)
        | ok f1 s1 =>
          rw [hq] at h'
          have h' : (match Nat.beq s1.nx s.nx with | true => r_dr P k all ms B lo l us' (app rg [(s.nx, s.nx)]) (app md [[]]) f1 s | false => .bad "pure") = .ok f' s' mdf := h'
          split at h'
          · rename_i hnx
            have hnx := Nat.eq_of_beq_eq_true hnx
            exact rest f1 s [] h' fun F S e1 e2 e3 e4 e5 e6 => .pure k hk o s1 ho hui (by rw [e1, e2, e3]; exact hq) (by rw [e2]; exact hnx) (by rw [e4, e2])
          · simp at h'
      | some u =>
        cases u with
        | nil =>
          have h' : r_dn (r_dr P k all ms B lo l us') rg md s (r_op P k all B lo o f s) = .ok f' s' mdf := h
          cases hq : r_op P k all B lo o f s with
          | bad w => rw [hq] at h'; exact absurd (show RD.bad w = _ from h') (by simp)
          | ok f1 s1 =>
            rw [hq] at h'
            exact rest f1 s1 [] h' fun F S e1 e2 e3 e4 e5 e6 => .non k hk o ho hui (by rw [e1, e2, e3, e4]; exact hq)
        | cons x u =>
          have h' : r_du (r_dr P k all ms B lo l us') rg ms md (x :: u) lo s (r_op P k all (bans rg ms (x :: u) B) s.nx o f ⟨s.h, s.nx, []⟩) = .ok f' s' mdf := h
          cases hq : r_op P k all (bans rg ms (x :: u) B) s.nx o f ⟨s.h, s.nx, []⟩ with
          | bad w => rw [hq] at h'; exact absurd (show RD.bad w = _ from h') (by simp)
          | ok f1 s1 =>
            rw [hq] at h'
            have h' : (match outU ms s.nx s1.nx (x :: u) with | true => r_dr P k all ms B lo l us' (app rg [(s.nx, s1.nx)]) (app md [s1.lg]) f1 ⟨s1.h, s1.nx, below lo s1.lg s.lg⟩ | false => .bad "draw names") = .ok f' s' mdf := h'
            split at h'
            · rename_i hout
              exact rest f1 ⟨s1.h, s1.nx, below lo s1.lg s.lg⟩ s1.lg h' fun F S e1 e2 e3 e4 e5 e6 => .uns k hk o (x :: u) rg s1 ho hui hrg e5 (by rw [e1, e2, e3]; exact hq) (by rw [e2]; exact hout) (by rw [e4, e2]) e6
            · simp at h'
theorem hget_h {s t : XS} (h : s.h = t.h) (n : Nat) : hget s n = hget t n := by rw [hget_eq, hget_eq, h]
variable {N : Nat} {md : List (List Nat)} {F : Nat → Fr} {S : Nat → XS}
theorem DS.sf {i : Nat} (hfre : Fre (S i)) (d : DS P N all ms us B lo md F S i) : SF B lo (S i) (S (i + 1)) := by
  cases d with
  | pure k hk o s1 h1 h2 h3 h4 h5 => rw [h5]; exact SF.refl B lo _
  | non k hk o h1 h2 h3 => obtain ⟨_, _, _, h, _⟩ := r_op_snd hk hfre h3; exact h
  | uns k hk o u rg s1 h1 h2 h3 h4 h5 h6 h7 h8 =>
    obtain ⟨_, _, _, h, _⟩ := r_op_snd hk (s := ⟨(S i).h, (S i).nx, []⟩) (fun n hn => hfre n hn) h5
    rw [h7]
    refine ⟨h.nx, fun hf => ?_, fun n a b c => ?_, fun n hn => below_mem (.inl hn), fun n a b => ?_⟩
    · exact fun n hn => h.fre (fun n hn => hf n hn) n hn
    · have hc : n ∉ s1.lg := fun e => c (below_mem (.inr ⟨e, a⟩))
      exact h.log n b b hc
    · exact h.ban n a (bn_bans.2 (.inl b))
theorem fre_all (h0 : Fre (S 0)) (ds : ∀ i, i < all.size → DS P N all ms us B lo md F S i) : ∀ i, i ≤ all.size → Fre (S i)
  | 0, _ => h0
  | i + 1, h => (DS.sf (fre_all h0 ds i (by omega)) (ds i (by omega))).fre (fre_all h0 ds i (by omega))
theorem sf_all (h0 : Fre (S 0)) (ds : ∀ i, i < all.size → DS P N all ms us B lo md F S i) : ∀ i, i ≤ all.size → SF B lo (S 0) (S i)
  | 0, _ => SF.refl B lo _
  | i + 1, h => (sf_all h0 ds i (by omega)).trans (DS.sf (fre_all h0 ds i (by omega)) (ds i (by omega)))
theorem nx_all (h0 : Fre (S 0)) (ds : ∀ i, i < all.size → DS P N all ms us B lo md F S i) {i : Nat} : ∀ q, i + q ≤ all.size → (S i).nx ≤ (S (i + q)).nx
  | 0, _ => Nat.le_refl _
  | q + 1, h => Nat.le_trans (nx_all h0 ds q (by omega)) (DS.sf (fre_all h0 ds (i + q) (by omega)) (ds (i + q) (by omega))).nx
theorem nx_le (h0 : Fre (S 0)) (ds : ∀ i, i < all.size → DS P N all ms us B lo md F S i) {i j : Nat} (h : i ≤ j) (hj : j ≤ all.size) : (S i).nx ≤ (S j).nx := by
  have := nx_all h0 ds (i := i) (j - i) (by omega)
  rwa [show i + (j - i) = j from by omega] at this
theorem cg_lt {i n : Nat} (h1 : Fre (S (i + 1))) (h2 : (S i).nx ≤ (S (i + 1)).nx) (h0 : Fre (S i)) (h : Cg B S i n) : n < (S (i + 1)).nx := by
  rcases Nat.lt_or_ge n (S (i + 1)).nx with h' | h'
  · exact h'
  · exfalso
    apply h
    rw [look_eq, look_eq, h1 n h', h0 n (by omega)]
theorem cg_bn {i n : Nat} (h : Cg B S i n) : bn B n = false := by
  cases hb : bn B n with
  | false => rfl
  | true => exact absurd (by rw [look_eq, look_eq, if_pos hb, if_pos hb]) h
theorem cg_get {i n : Nat} (h : Cg B S i n) : hget (S (i + 1)) n ≠ hget (S i) n := fun e => h (by rw [look_eq, look_eq, e])
end
end Go.X
end
section
set_option linter.unusedVariables false
namespace Go.X
open Go Go.RowKit
section
variable {P : Program} {all : Array Oper} {B : Ban} {lo : Nat} {k : Tk → Ban → Nat → XS → RR} {ms : List (List Nat)} {N : Nat} {md : List (List Nat)} {F : Nat → Fr} {S : Nat → XS}
theorem uns_heavy {i : Nat} {u : List Nat} (h : (uns all)[i]? = some (some u)) : ∃ o, all[i]? = some o ∧ pureO o.op = false := by
  obtain ⟨o, p, h1, h2, h3⟩ := unsL_get _ _ _ _ _ h
  refine ⟨o, by simpa using h1, ?_⟩
  cases hp : pureO o.op with
  | false => rfl
  | true => rw [hp] at h3; simp at h3
theorem cg_heavy {j n : Nat} (d : DS P N all ms (uns all) B lo md F S j) (h : Cg B S j n) : ∃ o, all[j]? = some o ∧ pureO o.op = false := by
  cases d with
  | pure k hk o s1 h1 h2 h3 h4 h5 => exact absurd (by rw [h5]) h
  | non k hk o h1 h2 h3 => exact uns_heavy h2
  | uns k hk o u rg s1 h1 h2 h3 h4 h5 h6 h7 h8 => exact uns_heavy h2
/-- What an open operation changes is not looked at. -/
theorem ban_of (h0 : Fre (S 0)) (ds : ∀ i, i < all.size → DS P N all ms (uns all) B lo md F S i) (hms : ∀ (j : Nat) l x, md[j]? = some l → x ∈ l → ∃ m, ms[j]? = some m ∧ x ∈ m)
    {i j n : Nat} {u : List Nat} {rg : List (Nat × Nat)} (hi : i < all.size) (hj : j < all.size) (hrg : ∀ j, j < i → rg[j]? = some ((S j).nx, (S (j + 1)).nx)) (hju : j ∈ u) (hne : j ≠ i) (hij : ∀ u', (uns all)[j]? = some u' → ∃ v, u' = some v ∧ i ∈ v) (hC : Cg B S j n) (hn : n < (S i).nx) : bn (bans rg ms u B) n = true := by
  rw [bn_bans]
  refine .inr ⟨j, hju, ?_⟩
  have hlt := cg_lt (fre_all h0 ds (j + 1) (by omega)) (nx_le h0 ds (Nat.le_succ j) (by omega)) (fre_all h0 ds j (by omega)) hC
  rcases Nat.lt_or_ge n (S j).nx with hlo | hge
  · cases ds j hj with
    | pure k hk o s1 h1 h2 h3 h4 h5 => obtain ⟨v, h, _⟩ := hij _ h2; simp at h
    | non k hk o h1 h2 h3 => obtain ⟨v, h, h'⟩ := hij _ h2; simp at h; subst h; simp at h'
    | uns k hk o u' rg' s1 h1 h2 h3 h4 h5 h6 h7 h8 =>
      obtain ⟨_, _, _, h, _⟩ := r_op_snd hk (s := ⟨(S j).h, (S j).nx, []⟩) (fun n hn => fre_all h0 ds j (by omega) n hn) h5
      have hmem : n ∈ s1.lg := by
        apply Classical.byContradiction
        intro hc
        have := h.log n hlo hlo hc
        refine cg_get hC ?_
        rw [h7]
        exact this
      exact .inr (hms j _ n h8 hmem)
  · have hji : j < i := by
      rcases Nat.lt_or_ge j i with h | h
      · exact h
      · have := nx_le h0 ds h (by omega)
        omega
    exact .inl ⟨_, hrg j hji, hge, hlt⟩
theorem mk_dop (hnd : noDef all.toList = true) (h0 : Fre (S 0)) (ds : ∀ i, i < all.size → DS P N all ms (uns all) B lo md F S i) (hms : ∀ (j : Nat) l x, md[j]? = some l → x ∈ l → ∃ m, ms[j]? = some m ∧ x ∈ m)
    (i : Nat) (hi : i < all.size) : Nonempty (DOp P all B F S i) := by
  have hfi := fre_all h0 ds i (by omega)
  have hfi' := fre_all h0 ds (i + 1) (by omega)
  have hle := nx_le h0 ds (Nat.le_succ i) hi
  have nodef : ∀ {o : Oper}, all[i]? = some o → ∀ c, o.op ≠ .defer c := by
    intro o ho
    have : all.toList[i]? = some o := by simpa using ho
    exact noDef_spec hnd o (List.mem_of_getElem? this)
  cases ds i hi with
  | pure k hk o s1 h1 h2 h3 h4 h5 =>
    obtain ⟨v, df', g1, g2, g3, g4⟩ := r_op_snd hk hfi h3
    have hdf := g3 (nodef h1)
    subst hdf
    have hnone : ∀ (s : XS) n, look allB s n = none := by
      intro s n
      rw [look_eq]
      by_cases h : bn allB n = true
      · rw [if_pos h]
      · rw [if_neg h, hget_eq]
        have : tops ≤ n := by
          rcases Nat.lt_or_ge n tops with h' | h'
          · exact absurd (by unfold allB; rw [bn_cons]; simp [h']) h
          · exact h'
        rw [if_pos this]
    have hnc : ∀ n, ¬ Cg B S i n := fun n h => h (by rw [h5])
    exact ⟨{
      o := o, Bi := allB, si := S i, so := s1, v := v, ho := h1, hF := g1, nx := rfl, nx' := by rw [h4, h5], le := hle
      tr := fun M a w Q K q1 q2 q3 q4 q5 q6 => g4 M a w Q K i h1 q1 q2 q3 q4 q5 q6
      inn := fun n p h => by rw [hnone] at h; simp at h
      ch := fun n h => absurd h (hnc n)
      ch2 := fun n h => absurd h (hnc n)
      st := fun n p _ h => by rw [hnone] at h; simp at h
      cr := fun n p h => absurd h (hnc n)
      crn := fun n h => absurd h (hnc n) }⟩
  | non k hk o h1 h2 h3 =>
    obtain ⟨v, df', g1, g2, g3, g4⟩ := r_op_snd hk hfi h3
    have hdf := g3 (nodef h1)
    subst hdf
    have ord : ∀ n j, j < all.size → Cg B S j n → j = i ∨ Wt all j i ∨ Wt all i j := by
      intro n j hj hC
      by_cases hne : j = i
      · exact .inl hne
      · obtain ⟨oj, hoj, hp⟩ := cg_heavy (ds j hj) hC
        rcases uns_spec h1 hoj h2 hp hne with ⟨h, _⟩ | h | h
        · simp at h
        · exact .inr (.inr h)
        · exact .inr (.inl h)
    exact ⟨{
      o := o, Bi := B, si := S i, so := S (i + 1), v := v, ho := h1, hF := g1, nx := rfl, nx' := rfl, le := hle
      tr := fun M a w Q K q1 q2 q3 q4 q5 q6 => g4 M a w Q K i h1 q1 q2 q3 q4 q5 q6
      inn := fun n p h => ⟨h, ord n⟩
      ch := fun n h => rfl
      ch2 := fun n h => ord n
      st := fun n p h hp => by rw [Cg_eq h]; exact hp
      cr := fun n p h _ hp => ⟨p, hp⟩
      crn := fun n h => cg_lt hfi' hle hfi h }⟩
  | uns k hk o u rg s1 h1 h2 h3 h4 h5 h6 h7 h8 =>
    obtain ⟨v, df', g1, g2, g3, g4⟩ := r_op_snd hk (s := ⟨(S i).h, (S i).nx, []⟩) (fun n hn => hfi n hn) h5
    have hdf := g3 (nodef h1)
    subst hdf
    have hget' : ∀ n, hget s1 n = hget (S (i + 1)) n := fun n => by rw [h7]; rfl
    have hgeti : ∀ n, hget (⟨(S i).h, (S i).nx, []⟩ : XS) n = hget (S i) n := fun n => rfl
    -- what it changes it looks at
    have seen : ∀ n, Cg B S i n → n < (S i).nx → bn (bans rg ms u B) n = false := by
      intro n hC hn
      cases hb : bn (bans rg ms u B) n with
      | false => rfl
      | true =>
        have := g2.ban n hn hb
        exact absurd (by rw [← hget', this]; rfl) (cg_get hC)
    have seen' : ∀ n, Cg B S i n → bn (bans rg ms u B) n = false := by
      intro n hC
      rcases Nat.lt_or_ge n (S i).nx with hn | hn
      · exact seen n hC hn
      · have hlt := cg_lt hfi' hle hfi hC
        cases hb : bn (bans rg ms u B) n with
        | false => rfl
        | true =>
          exfalso
          rcases bn_bans.1 hb with hb | ⟨j, hj, ⟨r, hr, r1, r2⟩ | ⟨m, hm, hnm⟩⟩
          · rw [cg_bn hC] at hb; simp at hb
          · have hji : j < i := by rw [← h3]; exact (List.getElem?_eq_some_iff.1 hr).1
            rw [h4 j hji] at hr; simp at hr; subst hr
            have := nx_le h0 ds (i := j + 1) (j := i) (by omega) (by omega)
            simp at r2; omega
          · refine outU_spec h6 j hj m hm n hnm ⟨hn, ?_⟩
            rw [h7] at hlt; exact hlt
    -- open ones
    have ord : ∀ n j, j < all.size → Cg B S j n → (j = i ∨ Wt all j i ∨ Wt all i j) ∨ (j ≠ i ∧ j ∈ u ∧ ∀ u', (uns all)[j]? = some u' → ∃ v, u' = some v ∧ i ∈ v) := by
      intro n j hj hC
      by_cases hne : j = i
      · exact .inl (.inl hne)
      · obtain ⟨oj, hoj, hp⟩ := cg_heavy (ds j hj) hC
        rcases uns_spec h1 hoj h2 hp hne with h | h | h
        · exact .inr ⟨hne, h⟩
        · exact .inl (.inr (.inr h))
        · exact .inl (.inr (.inl h))
    exact ⟨{
      o := o, Bi := bans rg ms u B, si := ⟨(S i).h, (S i).nx, []⟩, so := s1, v := v, ho := h1, hF := g1, nx := rfl, nx' := by rw [h7], le := hle
      tr := fun M a w Q K q1 q2 q3 q4 q5 q6 => g4 M a w Q K i h1 q1 q2 q3 q4 q5 q6
      inn := fun n p h => by
        obtain ⟨e1, e2, e3⟩ := look_some h
        have hB : bn B n = false := by
          cases hb : bn B n with
          | false => rfl
          | true => rw [bn_bans.2 (.inl hb)] at e2; simp at e2
        refine ⟨by rw [look_eq, hB]; exact e1, fun j hj hC => ?_⟩
        rcases ord n j hj hC with h | ⟨hne, hu, hs⟩
        · exact h
        · have hn : n < (S i).nx := by
            rcases Nat.lt_or_ge n (S i).nx with h' | h'
            · exact h'
            · have := hfi n h'
              rw [hgeti] at e1
              rw [this] at e1; simp at e1
          rw [ban_of h0 ds hms hi hj h4 hu hne hs hC hn] at e2
          simp at e2
      ch := fun n h => by rw [look_eq, look_eq, seen' n h, cg_bn h, hget']
      ch2 := fun n h j hj hC => by
        rcases ord n j hj hC with h' | ⟨hne, hu, hs⟩
        · exact h'
        · exfalso
          rcases Nat.lt_or_ge n (S i).nx with hn | hn
          · have := ban_of h0 ds hms hi hj h4 hu hne hs hC hn
            rw [seen n h hn] at this; simp at this
          · have hlt := cg_lt hfi' hle hfi h
            have hltj := cg_lt (fre_all h0 ds (j + 1) (by omega)) (nx_le h0 ds (Nat.le_succ j) (by omega)) (fre_all h0 ds j (by omega)) hC
            rcases Nat.lt_or_ge j i with hji | hji
            · have := nx_le h0 ds (i := j + 1) (j := i) (by omega) (by omega)
              omega
            · have hnj : n < (S j).nx := by
                have := nx_le h0 ds (i := i + 1) (j := j) (by omega) (by omega)
                omega
              cases ds j hj with
              | pure k hk o s1 k1 k2 k3 k4 k5 => obtain ⟨v, e, _⟩ := hs _ k2; simp at e
              | non k hk o k1 k2 k3 => obtain ⟨v, e, e'⟩ := hs _ k2; simp at e; subst e; simp at e'
              | uns k hk o' u' rg' s1' k1 k2 k3 k4 k5 k6 k7 k8 =>
                obtain ⟨v', e, e'⟩ := hs _ k2
                simp at e; subst e
                have hb := ban_of h0 ds hms hj hi k4 e' (Ne.symm hne) (fun u2 hu2 => by rw [h2] at hu2; simp at hu2; subst hu2; exact ⟨u, rfl, hu⟩) h hnj
                obtain ⟨_, _, _, q, _⟩ := r_op_snd hk (s := ⟨(S j).h, (S j).nx, []⟩) (fun n hn => fre_all h0 ds j (by omega) n hn) k5
                have := q.ban n hnj hb
                refine cg_get hC ?_
                rw [k7]; exact this
      st := fun n p h hp => by
        obtain ⟨e1, e2, e3⟩ := look_some hp
        have hB : bn B n = false := by
          cases hb : bn B n with
          | false => rfl
          | true => rw [bn_bans.2 (.inl hb)] at e2; simp at e2
        have := Cg_eq h
        rw [look_eq, look_eq, hB] at this
        simp only [Bool.false_eq_true, if_false] at this
        rw [look_eq, e2]
        simp only [Bool.false_eq_true, if_false]
        rw [hget', this]; exact e1
      cr := fun n p h hn hp => by
        obtain ⟨e1, e2, e3⟩ := look_some hp
        exact ⟨p, by rw [look_eq, seen n h hn]; exact e1⟩
      crn := fun n h => cg_lt hfi' hle hfi h }⟩
theorem empt_spec : ∀ {l : List (List Nat)}, empt l = true → ∀ (j : Nat) x, l[j]? = some x → x = []
  | [], _, j, x, h => by simp at h
  | [] :: l, h, j, x, hx => by
    cases j with
    | zero => simpa using hx.symm
    | succ j => exact empt_spec (l := l) h j x (by simpa using hx)
  | (_ :: _) :: _, h, j, x, hx => by simp [empt] at h
theorem subs_spec : ∀ {l m : List (List Nat)}, subs l m = true → ∀ (j : Nat) a x, l[j]? = some a → x ∈ a → ∃ b, m[j]? = some b ∧ x ∈ b
  | [], _, _, j, a, x, h, _ => by simp at h
  | a0 :: l, [], h, j, a, x, ha, hx => by simp [subs] at h
  | a0 :: l, b0 :: m, h, j, a, x, ha, hx => by
    simp only [subs] at h
    split at h
    · rename_i hall
      cases j with
      | zero =>
        simp at ha; subst ha
        exact ⟨b0, by simp, (mem_iff b0 x).1 (List.all_eq_true.1 hall x hx)⟩
      | succ j =>
        obtain ⟨b, h1, h2⟩ := subs_spec h j a x (by simpa using ha) hx
        exact ⟨b, by simpa using h1, h2⟩
    · simp at h
theorem draw_ans {e : Ex} {f f' : Fr} {s s' : XS} (h : r_draw P k all B lo f s = .code e f' s') : drawOk all = true ∧ e = .normal ∧ ∃ ms md, r_dr P k all ms B lo all.toList (uns all) [] [] f s = .ok f' s' md ∧ ∀ (j : Nat) l x, md[j]? = some l → x ∈ l → ∃ m, ms[j]? = some m ∧ x ∈ m := by
  unfold r_draw at h
  split at h
  · rename_i hok
    refine ⟨hok, ?_⟩
    cases h1 : r_dr P k all [] B lo all.toList (uns all) [] [] f s with
    | bad w => rw [h1] at h; exact absurd (show RR.bad w = _ from h) (by simp)
    | ok f1 s1 md1 =>
      rw [h1] at h
      have h : (match empt md1 with | true => RR.code .normal f1 s1 | false => r_d2 md1 (r_dr P k all md1 B lo all.toList (uns all) [] [] f s)) = .code e f' s' := h
      split at h
      · rename_i hem
        simp at h
        obtain ⟨rfl, rfl, rfl⟩ := h
        refine ⟨rfl, [], md1, h1, fun j l x hl hx => ?_⟩
        have := empt_spec hem j l hl
        subst this; simp at hx
      · cases h2 : r_dr P k all md1 B lo all.toList (uns all) [] [] f s with
        | bad w => rw [h2] at h; exact absurd (show RR.bad w = _ from h) (by simp)
        | ok f2 s2 md2 =>
          rw [h2] at h
          have h : (match subs md2 md1 with | true => RR.code .normal f2 s2 | false => .bad "draw mods") = .code e f' s' := h
          split at h
          · rename_i hsub
            simp at h
            obtain ⟨rfl, rfl, rfl⟩ := h
            exact ⟨rfl, md1, md2, h2, subs_spec hsub⟩
          · simp at h
  · simp at h
theorem draw_ret {f : Fr} {s s' : XS} {v : Value} (h : r_draw P k all B lo f s = .ret v s') : False := by
  unfold r_draw at h
  split at h
  · cases h1 : r_dr P k all [] B lo all.toList (uns all) [] [] f s with
    | bad w => rw [h1] at h; exact absurd (show RR.bad w = _ from h) (by simp)
    | ok f1 s1 md1 =>
      rw [h1] at h
      have h : (match empt md1 with | true => RR.code .normal f1 s1 | false => r_d2 md1 (r_dr P k all md1 B lo all.toList (uns all) [] [] f s)) = .ret v s' := h
      split at h
      · simp at h
      · cases h2 : r_dr P k all md1 B lo all.toList (uns all) [] [] f s with
        | bad w => rw [h2] at h; exact absurd (show RR.bad w = _ from h) (by simp)
        | ok f2 s2 md2 =>
          rw [h2] at h
          have h : (match subs md2 md1 with | true => RR.code .normal f2 s2 | false => .bad "draw mods") = .ret v s' := h
          split at h <;> simp at h
  · simp at h
end
end Go.X
end
section
set_option linter.unusedVariables false
namespace Go.X
open Go Go.RowKit
section
variable {P : Program} {B : Ban} {lo : Nat} {k : Tk → Ban → Nat → XS → RR} {N : Nat}
theorem WR.drew {M : Cx} {h : Hp} {w : World} (hw : WR P M h w) (d : Nat) : WR P M h { w with drawn := d } where
  live n o e := let ⟨L, h1, h2⟩ := hw.live n o e; ⟨L, h1, h2.mono (Ext.refl M) rfl⟩
  inj := hw.inj
  glob := hw.glob
  amb := hw.amb.upd fun _ _ _ _ => rfl
  rows := hw.rows
  apart := hw.apart
theorem Post.undrew {M M' : Cx} {h h' : Hp} {lo hi d : Nat} {w w' : World} (hw : WR P M h w) (k : Post P M M' h h' lo hi { w with drawn := d } w') : Post P M M' h h' lo hi w w' :=
  ⟨hw, k.ext, k.new, k.sl, k.blk, k.dom, k.wr, k.keep, ⟨k.kept.os, k.kept.tape, k.kept.output, k.kept.size, k.kept.shape⟩⟩
theorem Post.heap {M M' : Cx} {h h1 h2 : Hp} {lo hi : Nat} {w w' : World} (k : Post P M M' h h1 lo hi w w') (e : h1 = h2) : Post P M M' h h2 lo hi w w' := e ▸ k
theorem none_listed (m : Nat) (i : Nat) : ¬ Ls (Array.replicate m false) i := by
  unfold Ls
  rw [Array.getD_eq_getD_getElem?]
  by_cases h : i < m
  · simp [h]
  · simp [h]
theorem last_no {β : Type} {D : Nat → Prop} {C : Nat → Nat → Prop} {L : Nat → Nat → β} (h : ∀ i, ¬ D i) (n : Nat) : ∀ m, lastH D C L m n = L 0 n
  | 0 => rfl
  | m + 1 => by
    simp only [lastH]
    rw [if_neg (fun e => h m e.1), last_no h n m]
/-- A region that draws, out of its operations' steps. -/
theorem draw_core (hm : P.follows .mixedOrders = true) {ops : Array Oper} {ms md : List (List Nat)} {F : Nat → Fr} {S : Nat → XS} {id : Nat} (hok : drawOk ops = true) (h0 : Fre (S 0)) (ds : ∀ i, i < ops.size → DS P N ops ms (uns ops) B lo md F S i) (hms : ∀ (j : Nat) l x, md[j]? = some l → x ∈ l → ∃ m, ms[j]? = some m ∧ x ∈ m) :
    SF B lo (S 0) (S ops.size) ∧ ∀ (n : Nat) (M : Cx) (a : Act) (w : World) (Q : Exit → Act → World → Prop), codeT n P.globals.size (.region id ops true) = true → n ≤ 1024 → AR M n (F 0) a → WR P M (look B (S 0)) w → Fresh M (S 0).nx (S ops.size).nx →
      (∀ a' w' M', Post P M M' (look B (S 0)) (look B (S ops.size)) (S 0).nx (S ops.size).nx w w' → AR M' n (F ops.size) a' → Q .normal a' w') → (Code.region id ops true).wp P Q a w := by
  obtain ⟨hb, hnd, _⟩ := drawOk_spec hok
  have dop : ∀ i, i < ops.size → DOp P ops B F S i := fun i hi => Classical.choice (mk_dop hnd h0 ds hms i hi)
  refine ⟨sf_all h0 ds ops.size (Nat.le_refl _), fun n M a w Q hc hn hA hw hf hQ => wp_region_any hm ?_⟩
  have hT : ops.toList.all (opT n P.globals.size) = true := hc
  have back := back_spec (all := ops) hb
  refine draw_any (n := n) (M0 := M) (w0 := { w with drawn := w.drawn + 1 }) dop back (draw_apart hok) hn hT (fun D M' a' w' hall I => ?_) ops.size _ M a _ (by simp) ?_ (fun i o e hi => absurd hi (none_listed _ _)) ?_
  · have hH : lastH D (Cg B S) (fun i n => look B (S i) n) ops.size = look B (S ops.size) := by
      funext x
      rw [last_all (L := fun i n => look B (S i) n) ops.size (fun j _ h => Cg_eq h) (fun j hj _ => hall j hj)]
    have hp := I.post
    rw [hH] at hp
    refine hQ a' w' M' (hp.undrew hw) ⟨I.size, fun t ht => ?_, ?_⟩
    · have := I.tm t ht
      rw [last_all (L := fun i t => ev (F i).tm (.tmp t)) ops.size (fun j hj h => tmp_same dop hn hT hj ht h) (fun j hj _ => hall j hj)] at this
      exact this
    · rw [df_const dop ops.size (Nat.le_refl _)]; exact I.df
  · refine Nat.le_trans (List.length_filter_le _ _) ?_
    simp
  · refine ⟨hA.size, fun t ht => ?_, hA.df, ?_, fun i hi _ x hx1 hx2 => ?_⟩
    · rw [last_no (none_listed _)]; exact hA.tm t ht
    · refine (Post.refl _ _ (hw.drew _)).heap ?_
      funext x
      rw [last_no (none_listed _)]
    · refine hf x ?_ ?_
      · have := nx_le h0 ds (Nat.zero_le i) (by omega)
        omega
      · have := nx_le h0 ds (i := i + 1) (j := ops.size) (by omega) (Nat.le_refl _)
        omega
theorem reg_snd (hm : P.follows .mixedOrders = true) (hk : KS P N k) : RegS P k := by
  intro N' id ops d f B lo s hfre
  cases d with
  | false =>
    suffices h : TS P N' (.code (.region id ops false) f) B lo s (r_ops P k ops B lo ops.toList f s) from h hfre
    intro _
    cases hr : r_ops P k ops B lo ops.toList f s with
    | ret v s' => exact r_ops_ret ops _ _ _ _ _ hr
    | bad w => trivial
    | code e f' s' =>
      obtain ⟨rfl, h1, h2⟩ := r_ops_snd hk ops.toList 0 f s e f' s' hfre rfl hr
      refine ⟨h1, fun n M a w Q hc hn hA hw hf hQ => wp_region ?_⟩
      have := h2 n M a w Q hc hn hA hw hf hQ
      rw [List.range_eq_range']
      simpa using this
  | true =>
    suffices h : TS P N' (.code (.region id ops true) f) B lo s (r_draw P k ops B lo f s) from h hfre
    intro _
    cases hr : r_draw P k ops B lo f s with
    | ret v s' => exact draw_ret hr
    | bad w => trivial
    | code e f' s' =>
      obtain ⟨hok, rfl, ms, md, hdr, hms⟩ := draw_ans hr
      obtain ⟨F, S, g1, g2, g3, _, _, ds⟩ := trace hk ops.toList (uns ops) 0 [] [] f s f' s' md rfl rfl rfl rfl hdr (fun _ => f) (fun _ => s) rfl rfl (fun j hj => by omega) (Nat.zero_le _)
      have ds : ∀ i, i < ops.size → DS P N ops ms (uns ops) B lo md F S i := fun i hi => ds i (Nat.zero_le _) hi
      obtain ⟨hF0, hS0⟩ := g1 0 (Nat.le_refl _)
      have := draw_core (id := id) hm hok (by rw [hS0]; exact hfre) ds hms
      rw [hF0, hS0, g2, g3] at this
      exact this
/-- The executor is right. -/
theorem sound (hm : P.follows .mixedOrders = true) (n : Nat) : KS P n (run P n) := run_snd (fun N k hk => reg_snd hm hk) n
/-- A call that the executor has run. -/
theorem call_sound (hm : P.follows .mixedOrders = true) {n : Nat} {f : FuncId} {args args' : List Value} {s s' : XS} {v : Value} {M : Cx} {w : World} (h : run P n (.call f args) [] 0 s = .ret v s') (hv : VRL M args args') (hfre : Fre s) (hw : WR P M (look [] s) w) (hf : ∀ x, s.nx ≤ x → M x = none) :
    Calls P f args'.toArray w fun e w' => ∃ v' M', e = .returned v' ∧ Post P M M' (look [] s) (look [] s') s.nx s'.nx w w' ∧ VR M' v v' := by
  have := sound hm n (.call f args) [] 0 s hfre
  rw [h] at this
  exact this.2 M args' w hv hw fun x h1 _ => hf x h1
end
end Go.X
end
section
set_option linter.unusedVariables false
namespace Go.X
open Go Go.RowKit
/-! How things stand within a function: against how they stood at its beginning -/
/-- A block that came later, or was lent. -/
def Far (M0 : Cx) (h0 : Hp) (w0 : World) (b : Nat) : Prop := w0.heap.size ≤ b ∨ ∃ n o L, h0 n = some o ∧ M0 n = some L ∧ L.b = b
structure HS (P : Program) (m : Nat) (M0 : Cx) (h0 : Hp) (w0 : World) (M : Cx) (s : XS) (w : World) : Prop where
  fre : Fre s
  le : m ≤ s.nx
  wr : WR P M (look [] s) w
  free : ∀ n, s.nx ≤ n → M n = none
  lent : ∀ n, n < m → M n = M0 n
  dom : ∀ n o, n < m → look [] s n = some o → ∃ o, h0 n = some o
  far : ∀ n L, m ≤ n → M n = some L → Far M0 h0 w0 L.b
  sx : ∀ b i v, M0.S b i = some v → M.S b i = some v
  sl : ∀ b i v, M.S b i = some v → M0.S b i = some v ∨ Far M0 h0 w0 b
  keep : ∀ b, b < w0.heap.size → (∀ n o L, h0 n = some o → M0 n = some L → L.b ≠ b) → w.heap[b]? = w0.heap[b]?
  kept : Kept w0 w
section
variable {P : Program} {m n : Nat} {M0 M M' : Cx} {h0 : Hp} {w0 w w' : World} {s s' : XS} {f f' : Fr}
theorem HS.start (hw : WR P M (look [] s) w) (hf : Fre s) (hn : ∀ n, s.nx ≤ n → M n = none) : HS P s.nx M (look [] s) w M s w where
  fre := hf
  le := Nat.le_refl _
  wr := hw
  free := hn
  lent n _ := rfl
  dom n o _ e := ⟨o, e⟩
  far n L h e := by rw [hn n h] at e; simp at e
  sx _ _ _ e := e
  sl _ _ _ e := .inl e
  keep _ _ _ := rfl
  kept := Kept.refl w
theorem HS.blk (h : HS P m M0 h0 w0 M s w) {k : Nat} {o : Ob} {K : Loc} (h1 : look [] s k = some o) (h2 : M k = some K) : Far M0 h0 w0 K.b := by
  rcases Nat.lt_or_ge k m with hk | hk
  · obtain ⟨o', h3⟩ := h.dom k o hk h1
    exact .inr ⟨k, o', K, h3, by rw [← h.lent k hk]; exact h2, rfl⟩
  · exact h.far k K hk h2
theorem HS.step (h : HS P m M0 h0 w0 M s w) (sf : SF [] m s s') (hp : Post P M M' (look [] s) (look [] s') s.nx s'.nx w w') : HS P m M0 h0 w0 M' s' w' where
  fre := sf.fre h.fre
  le := Nat.le_trans h.le sf.nx
  wr := hp.wr
  free n hn := by
    cases q : M' n with
    | none => rfl
    | some L =>
      have := hp.new n (h.free n (Nat.le_trans sf.nx hn)) (by rw [q]; simp)
      omega
  lent n hn := by
    cases q : M n with
    | some L => rw [hp.ext.n n L q, ← h.lent n hn, q]
    | none =>
      rw [← h.lent n hn, q]
      cases q' : M' n with
      | none => rfl
      | some L =>
        have := hp.new n q (by rw [q']; simp)
        have := h.le
        omega
  dom n o hn e := by
    rcases hp.dom n o e with ⟨o', h1⟩ | h1
    · exact h.dom n o' hn h1
    · exfalso
      obtain ⟨L, h2, _⟩ := hp.wr.live n o e
      have := hp.new n h1 (by rw [h2]; simp)
      have := h.le
      omega
  far n L hn e := by
    cases q : M n with
    | some K =>
      have := hp.ext.n n K q
      rw [e] at this; simp at this; subst this
      exact h.far n L hn q
    | none =>
      rcases hp.blk n L q e with h1 | ⟨k, o, K, h1, h2, h3⟩
      · exact .inl (Nat.le_trans h.kept.size h1)
      · rw [← h3]; exact h.blk h1 h2
  sx b i v e := hp.ext.s b i v (h.sx b i v e)
  sl b i v e := by
    rcases hp.sl b i v e with h1 | h1 | ⟨k, o, K, h1, h2, h3⟩
    · exact h.sl b i v h1
    · exact .inr (.inl (Nat.le_trans h.kept.size h1))
    · exact .inr (by rw [← h3]; exact h.blk h1 h2)
  keep b hb hn := by
    rw [hp.keep b (Nat.lt_of_lt_of_le hb h.kept.size) fun k o L h1 h2 h3 => ?_, h.keep b hb hn]
    subst h3
    rcases h.blk h1 h2 with h3 | ⟨k', o', K, h3, h4, h5⟩
    · omega
    · exact hn k' o' K h3 h4 h5
  kept := h.kept.trans hp.kept
/-- What became of memory at a function's end. -/
theorem HS.post (h : HS P m M0 h0 w0 M s w) (hw : WR P M0 h0 w0) (hn : ∀ n, m ≤ n → M0 n = none) : Post P M0 M h0 (look [] s) m s.nx w0 w where
  pre := hw
  ext := ⟨fun n L e => by
    rcases Nat.lt_or_ge n m with hk | hk
    · rw [h.lent n hk]; exact e
    · rw [hn n hk] at e; simp at e, h.sx⟩
  new n e e' := by
    constructor
    · rcases Nat.lt_or_ge n m with hk | hk
      · rw [h.lent n hk] at e'; exact absurd e e'
      · exact hk
    · rcases Nat.lt_or_ge n s.nx with hk | hk
      · exact hk
      · exact absurd (h.free n hk) e'
  sl b i v e := h.sl b i v e
  blk n L e e' := by
    rcases Nat.lt_or_ge n m with hk | hk
    · rw [h.lent n hk, e] at e'; simp at e'
    · exact h.far n L hk e'
  dom n o e := by
    rcases Nat.lt_or_ge n m with hk | hk
    · exact .inl (h.dom n o hk e)
    · exact .inr (hn n hk)
  wr := h.wr
  keep := h.keep
  kept := h.kept
/-! Code -/
/-- Code, from such a frame and such names, comes to its end so. -/
def CS (P : Program) (m n : Nat) (c : Code) (f : Fr) (s : XS) (Q : Ex → Fr → XS → Prop) : Prop :=
  codeT n P.globals.size c = true → n ≤ 1024 → ∀ (M0 : Cx) (h0 : Hp) (w0 : World) (M : Cx) (a : Act) (w : World) (R : Exit → Act → World → Prop), HS P m M0 h0 w0 M s w → AR M n f a →
    (∀ e f' s' M' a' w', HS P m M0 h0 w0 M' s' w' → AR M' n f' a' → Q e f' s' → R (exOf e) a' w') → c.wp P R a w
variable {Q Q' : Ex → Fr → XS → Prop} {x y : Code}
theorem CS.mono (h : CS P m n x f s Q) (k : ∀ e f s, Q e f s → Q' e f s) : CS P m n x f s Q' :=
  fun hc hn M0 h0 w0 M a w R hi ha hR => h hc hn M0 h0 w0 M a w R hi ha fun e f' s' M' a' w' h1 h2 h3 => hR e f' s' M' a' w' h1 h2 (k e f' s' h3)
theorem CS.skip (h : Q .normal f s) : CS P m n .skip f s Q := fun _ _ M0 h0 w0 M a w R hi ha hR => wp_skip (hR .normal f s M a w hi ha h)
theorem CS.label {l : Nat} (h : Q .normal f s) : CS P m n (.label l) f s Q := fun _ _ M0 h0 w0 M a w R hi ha hR => wp_label (hR .normal f s M a w hi ha h)
theorem CS.exit {i : Nat} (h : Q (.exit i) f s) : CS P m n (.exit i) f s Q := fun _ _ M0 h0 w0 M a w R hi ha hR => wp_exit (hR (.exit i) f s M a w hi ha h)
theorem CS.ret (h : Q .ret f s) : CS P m n .ret f s Q := fun _ _ M0 h0 w0 M a w R hi ha hR => wp_ret (hR .ret f s M a w hi ha h)
theorem CS.seq (h : CS P m n x f s fun e f s => match e with | .normal => CS P m n y f s Q | e => Q e f s) : CS P m n (.seq x y) f s Q := by
  intro hc hn M0 h0 w0 M a w R hi ha hR
  simp only [codeT, Bool.and_eq_true] at hc
  refine wp_seq (h hc.1 hn M0 h0 w0 M a w _ hi ha fun e f' s' M' a' w' h1 h2 h3 => ?_)
  cases e with
  | normal => exact h3 hc.2 hn M0 h0 w0 M' a' w' R h1 h2 hR
  | exit i => exact hR (.exit i) f' s' M' a' w' h1 h2 h3
  | goto i => exact hR (.goto i) f' s' M' a' w' h1 h2 h3
  | ret => exact hR .ret f' s' M' a' w' h1 h2 h3
  | pan v => exact hR (.pan v) f' s' M' a' w' h1 h2 h3
theorem CS.block {i : Nat} (h : CS P m n x f s fun e f s => match e with | .exit j => (match Nat.beq j i with | true => Q .normal f s | false => Q (.exit j) f s) | e => Q e f s) : CS P m n (.block i x) f s Q := by
  intro hc hn M0 h0 w0 M a w R hi ha hR
  simp only [codeT] at hc
  refine wp_block (h hc hn M0 h0 w0 M a w _ hi ha fun e f' s' M' a' w' h1 h2 h3 => ?_)
  cases e with
  | normal => exact hR .normal f' s' M' a' w' h1 h2 h3
  | goto j => exact hR (.goto j) f' s' M' a' w' h1 h2 h3
  | ret => exact hR .ret f' s' M' a' w' h1 h2 h3
  | pan v => exact hR (.pan v) f' s' M' a' w' h1 h2 h3
  | exit j =>
    dsimp only at h3
    cases q : Nat.beq j i with
    | true =>
      rw [q] at h3
      obtain rfl := Nat.eq_of_beq_eq_true q
      simpa [exOf, Exit.inBlock] using hR .normal f' s' M' a' w' h1 h2 h3
    | false =>
      rw [q] at h3
      have hne : j ≠ i := fun e => by subst e; simp at q
      simpa [exOf, Exit.inBlock, hne] using hR (.exit j) f' s' M' a' w' h1 h2 h3
theorem CS.cond {c : Operand} {b : Bool} (hb : ev f.tm c = .bool b) (h1 : b = true → CS P m n x f s Q) (h2 : b = false → CS P m n y f s Q) : CS P m n (.cond c x y) f s Q := by
  intro hc hn M0 h0 w0 M a w R hi ha hR
  simp only [codeT, Bool.and_eq_true] at hc
  have hv := opd_VR (a := a) (tm := f.tm) hc.1 rfl hi.wr fun t e => ha.tm t (by subst e; exact blt_lt hc.1)
  rw [hb] at hv
  have hv' : a.eval c = .bool b := by
    generalize a.eval c = u at hv
    cases hv; rfl
  refine wp_cond hv' ?_
  cases b with
  | true => exact h1 rfl hc.2.1 hn M0 h0 w0 M a w R hi ha hR
  | false => exact h2 rfl hc.2.2 hn M0 h0 w0 M a w R hi ha hR
/-- A piece of code that the executor runs. -/
theorem CS.task {N : Nat} {e : Ex} (ht : TS P N (.code x f) [] m s (.code e f' s')) (h : Q e f' s') : CS P m n x f s Q := by
  intro hc hn M0 h0 w0 M a w R hi ha hR
  obtain ⟨sf, h1⟩ := ht hi.fre
  exact wpx_wp (h1 n M a w R hc hn ha hi.wr (fun k h _ => hi.free k h) fun a' w' M' hp ha' => hR e f' s' M' a' w' (hi.step sf hp) ha' h)
/-- So many rounds of a loop's model. -/
def loopN {σ β : Type} (body : σ → Option (σ ⊕ β)) : Nat → σ → Option β
  | 0, _ => none
  | n + 1, s => match body s with
    | none => none
    | some (.inl s') => loopN body n s'
    | some (.inr r) => some r
/-- A loop: its model tells how often it goes round. -/
theorem CS.loopN {σ β : Type} {F : σ → Fr} {S : σ → XS} {body : σ → Option (σ ⊕ β)} {r : β} (h : ∀ z y, body z = some y → (∀ N, y = .inr r ∨ (∃ z', y = .inl z' ∧ loopN body N z' = some r) → CS P m n x (F z) (S z) fun e f s => (e = .normal ∧ ∃ z', y = .inl z' ∧ f = F z' ∧ s = S z') ∨ (e ≠ .normal ∧ Q e f s))) :
    ∀ (N : Nat) (z : σ), loopN body N z = some r → CS P m n (.loop x) (F z) (S z) Q := by
  intro N z hN hc hn M0 h0 w0 M a w R hi ha hR
  have hc' : codeT n P.globals.size x = true := hc
  refine wp_loop_rounds N ?_
  induction N generalizing z M a w with
  | zero => simp [X.loopN] at hN
  | succ N ih =>
    simp only [X.loopN] at hN
    cases hb : body z with
    | none => rw [hb] at hN; simp at hN
    | some y =>
      rw [hb] at hN
      have hy : y = .inr r ∨ ∃ z', y = .inl z' ∧ X.loopN body N z' = some r := by
        cases y with
        | inl z' => exact .inr ⟨z', rfl, hN⟩
        | inr r' => simp at hN; subst hN; exact .inl rfl
      refine h z y hb N hy hc' hn M0 h0 w0 M a w _ hi ha fun e f' s' M' a' w' h1 h2 h3 => ?_
      rcases h3 with ⟨rfl, z', rfl, rfl, rfl⟩ | ⟨he, hq⟩
      · refine ih z' ?_ M' a' w' h1 h2
        rcases hy with hy | ⟨z2, hy, h4⟩
        · simp at hy
        · simp at hy; subst hy; exact h4
      · have := hR e f' s' M' a' w' h1 h2 hq
        cases e with
        | normal => exact absurd rfl he
        | _ => exact this
end
end Go.X
end
