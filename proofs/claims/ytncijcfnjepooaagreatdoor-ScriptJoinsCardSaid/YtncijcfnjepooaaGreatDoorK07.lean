/-
  A part of the proof of ScriptJoins: no statement of the seat is proved here.
-/
import Derived.Test.YtncijcfnjepooaaGreatDoorK06
import Derived.Orders
set_option linter.unusedVariables false
set_option linter.unusedSimpArgs false
set_option linter.unnecessarySimpa false
set_option linter.unusedSectionVars false
set_option linter.constructorNameAsVariable false
set_option linter.deprecated false
section
set_option linter.unusedVariables false
namespace Go.X
open Go Go.RowKit
section
variable {P : Program} {B : Ban} {lo : Nat} {s s' : XS} {v : Value} {M M' : Cx} {n : Nat} {f f' : Fr} {a : Act} {w : World} {k : Tk → Ban → Nat → XS → RR}
theorem get_enter : ∀ (l : List Value) (i : Nat) (t : T4 Value) (j : Nat), j < tops → i + l.length ≤ tops → T4.get (dg 10 j) (enter l i t) = if i ≤ j ∧ j < i + l.length then l[j - i]? else T4.get (dg 10 j) t
  | [], i, t, j, hj, hl => by
    rw [if_neg (by simp)]; rfl
  | v :: l, i, t, j, hj, hl => by
    have e : enter (v :: l) i t = enter l (Nat.succ i) (T4.put (some v) (dg 10 i) t) := rfl
    simp only [List.length_cons] at hl ⊢
    rw [e, get_enter l (i + 1) _ j hj (by omega)]
    by_cases h1 : j = i
    · subst h1
      rw [if_neg (by omega), if_pos (by omega), get_put_same]; simp
    · by_cases h2 : i + 1 ≤ j ∧ j < i + 1 + l.length
      · rw [if_pos h2, if_pos (by omega), show j - i = (j - (i + 1)) + 1 from by omega]; simp
      · rw [if_neg h2, if_neg (by omega), get_put_ne _ _ _ _ fun e => h1 ((dg_ne (by omega) hj).1 e).symm]
theorem AR.enter {args args' : List Value} (hv : VRL M args args') (hl : args.length ≤ n) (hn : n ≤ 1024) : AR M n ⟨enter args 0 .e, []⟩ { tmps := args'.toArray ++ Array.replicate (n - args'.toArray.size) undef, defers := [] } where
  size := by have := hv.length; simp; omega
  tm t ht := by
    have hlen := hv.length
    rw [ev_tmp, get_enter args 0 .e t (by unfold tops; omega) (by unfold tops; omega)]
    show VR M _ ((args'.toArray ++ Array.replicate (n - args'.toArray.size) undef).getD t undef)
    by_cases h : t < args.length
    · rw [if_pos ⟨by omega, by omega⟩]
      have h' : t < args'.length := by omega
      have := hv.get' t args[t] args'[t] (by simp) (by simp)
      simpa [Array.getD_eq_getD_getElem?, Array.getElem?_append, h, h'] using this
    · rw [if_neg (by omega), get_e]
      have h' : ¬ t < args'.length := by omega
      have h2 : t - args'.length < n - args'.length := by omega
      have : ((args'.toArray ++ Array.replicate (n - args'.toArray.size) undef).getD t undef) = undef := by
        simp [Array.getD_eq_getD_getElem?, Array.getElem?_append, h', h2]
      exact .junk _
  df := .nil
/-! Results -/
def resOne (tmps : Array Value) : ResultVar → Sem Value
  | .tmp t => pure (tmps.getD t undef)
  | .cell a t => do loadVar t (← asAddr (tmps.getD a undef))
theorem results_eq (fn : Func) (tmps : Array Value) : results fn tmps = (do
    let vs ← fn.results.mapM (resOne tmps)
    pure (if h : vs.size = 1 then vs[0] else .tuple vs)) := by
  unfold results
  congr 1
theorem res_run {h : Hp} (hw : WR P M (look B s) w) {tm : T4 Value} {a : Act} (hs : a.tmps.size = n) (ht : ∀ t, t < n → VR M (ev tm (.tmp t)) (a.eval (.tmp t))) : ∀ (rs : List ResultVar) (vs : List Value), resT n rs = true → resV P B s tm rs = some vs →
    ∃ vs', (rs.mapM (resOne a.tmps)).run P w = .ok vs' w ∧ VRL M vs vs'
  | [], vs, _, h => by simp [resV] at h; subst h; exact ⟨[], rfl, .nil⟩
  | r :: rs, vs, hT, h => by
    simp only [resV] at h
    split at h
    · rename_i v hv
      split at h
      · rename_i vs1 hvs
        simp at h; subst h
        have one : ∃ v', (resOne a.tmps r).run P w = .ok v' w ∧ VR M v v' ∧ resT n rs = true := by
          cases r with
          | tmp t =>
            simp only [resT, Bool.and_eq_true] at hT
            simp at hv; subst hv
            exact ⟨_, rfl, ht t (blt_lt hT.1), hT.2⟩
          | cell t T =>
            simp only [resT, Bool.and_eq_true] at hT
            have hp := ht t (blt_lt hT.1)
            simp only at hv
            split at hv
            · rename_i b off hb
              split at hv
              · rename_i c m T0 g hl
                rw [hb] at hp
                obtain ⟨L, hL, _⟩ := hw.live b _ hl
                obtain ⟨v', h1, h2⟩ := part_load hw hl hL hv
                refine ⟨v', ?_, h2, hT.2⟩
                have he : a.eval (.tmp t) = .pointer (some ⟨L.b, L.s + off, none⟩) := by
                  generalize a.eval (.tmp t) = u at hp
                  cases hp
                  rename_i K hK
                  rw [hL] at hK; simp at hK; subst hK; rfl
                have he' : a.tmps.getD t undef = .pointer (some ⟨L.b, L.s + off, none⟩) := he
                simp only [resOne, he', Sem.run_bind]
                show Result.andThen (.ok _ w) _ = _
                exact h1
              · simp at hv
            · simp at hv
        obtain ⟨v', h1, h2, h3⟩ := one
        obtain ⟨vs', h4, h5⟩ := res_run (h := h) hw hs ht rs vs1 h3 hvs
        exact ⟨v' :: vs', by simp [List.mapM_cons, h1, h4], .cons h2 h5⟩
      · simp at h
    · simp at h
theorem results_run (hw : WR P M (look B s) w) {fn : Func} {tm : T4 Value} {a : Act} (hs : a.tmps.size = n) (ht : ∀ t, t < n → VR M (ev tm (.tmp t)) (a.eval (.tmp t))) (hT : resT n fn.results.toList = true) (h : r_res s (resV P B s tm fn.results.toList) = .ret v s') :
    s' = s ∧ ∃ v', (results fn a.tmps).run P w = .ok v' w ∧ VR M v v' := by
  unfold r_res at h
  split at h
  · rename_i l hl
    obtain ⟨vs', h1, h2⟩ := res_run (h := look B s) hw hs ht _ _ hT hl
    have hr : (fn.results.mapM (resOne a.tmps)).run P w = .ok vs'.toArray w := by
      rw [Array.mapM_eq_mapM_toList]
      simp [h1]
    rw [results_eq]
    simp only [Sem.run_bind, hr, Result.andThen_ok]
    split at h
    · rename_i u
      simp at h
      obtain ⟨rfl, rfl⟩ := h
      cases h2 with
      | cons hv hn => cases hn; exact ⟨rfl, _, rfl, hv⟩
    · rename_i l' hne
      simp at h
      obtain ⟨rfl, rfl⟩ := h
      refine ⟨rfl, .tuple vs'.toArray, ?_, .tup h2⟩
      have : ¬ vs'.toArray.size = 1 := by
        have hlen := h2.length
        intro e
        simp at e
        rw [e] at hlen
        match l, hlen, hne with
        | [x], _, hne => exact hne x rfl
      rw [dif_neg this]
      rfl
  · simp at h
/-! Calls -/
theorem r_fin_cons (fn : Func) (tm : T4 Value) (d : Deferred) (ds : List Deferred) (s : XS) : r_fin P k B lo fn tm (d :: ds) s = match d.target with
    | .fn (.func g) cap => r_dfr (r_fin P k B lo fn tm ds) (k (.dcall g (app d.args.toList cap.toList)) B lo s)
    | _ => .bad "deferred" := by
  simp only [r_fin]
  obtain ⟨t, a⟩ := d
  cases t <;> rfl
theorem r_fin_snd {N : Nat} (hk : KS P N k) {fn : Func} {tm : T4 Value} : ∀ (ds : List Deferred) (s : XS) (v : Value) (s' : XS), Fre s → r_fin P k B lo fn tm ds s = .ret v s' →
    SF B lo s s' ∧ ∀ (n : Nat) (M : Cx) (a : Act) (w : World) (ds' : List Deferred) (R : Ending → World → Prop), resT n fn.results.toList = true → a.tmps.size = n → (∀ t, t < n → VR M (ev tm (.tmp t)) (a.eval (.tmp t))) → DRL M ds ds' → WR P M (look B s) w → Fresh M s.nx s'.nx →
      (∀ v' M' w', Post P M M' (look B s) (look B s') s.nx s'.nx w w' → VR M' v v' → R (.returned v') w') → Leaves P fn a.tmps R ds' .returning w
  | [], s, v, s', hfr, h => by
    have h' : r_res s (resV P B s tm fn.results.toList) = .ret v s' := h
    have hs : s' = s := by
      unfold r_res at h'
      split at h'
      · split at h' <;> simp at h' <;> exact h'.2.symm
      · simp at h'
    subst hs
    refine ⟨SF.refl B lo s', fun n M a w ds' R hT hs ht hd hw hf hR => ?_⟩
    obtain ⟨_, v', h1, h2⟩ := results_run hw hs ht hT h'
    cases hd
    exact ⟨v', h1, hR v' M w (Post.refl _ _ hw) h2⟩
  | d :: ds, s, v, s', hfr, h => by
    rw [r_fin_cons] at h
    split at h
    · rename_i g cap htar
      have h1 := hk (.dcall g (app d.args.toList cap.toList)) B lo s hfr
      generalize k (.dcall g (app d.args.toList cap.toList)) B lo s = r at h h1
      cases r with
      | bad wh => exact absurd (show RR.bad wh = _ from h) (by simp)
      | code e f s2 => exact h1.elim
      | ret u s1 =>
        have h : r_fin P k B lo fn tm ds s1 = .ret v s' := h
        obtain ⟨⟨q, hq⟩, g1, g2⟩ := h1
        obtain ⟨q1, q2⟩ := r_fin_snd hk ds s1 v s' (g1.fre hfr) h
        refine ⟨g1.trans q1, fun n M a w ds' R hT hs ht hd hw hf hR => ?_⟩
        cases hd with
        | cons hd hds =>
          rename_i d' l'
          obtain ⟨g', c, c', e1, e2, e3, e4⟩ := hd
          rw [htar] at e1
          simp at e1
          obtain ⟨rfl, rfl⟩ := e1
          refine ⟨by simp, .func g, c', g, (d'.args ++ c'), e2, ?_, ?_⟩
          · rw [e2]
            obtain ⟨fn', cd⟩ := q
            exact callFunc_run hq _ w
          · have := g2 M (d'.args ++ c').toList w .returning (by rw [app_eq, Array.toList_append]; exact e4.append e3) hw (hf.le (Nat.le_refl _) q1.nx)
            refine CallsD.mono this fun e u' w' he => ?_
            obtain ⟨rfl, v', M', rfl, hp, hv⟩ := he
            exact q2 n M' a w' l' R hT hs (fun t h => (ht t h).mono hp.ext) (hds.mono hp.ext) hp.wr (hp.fresh hf g1.nx) fun v2 M2 w2 hp2 hv2 => hR v2 M2 w2 (hp.trans g1.nx q1.nx hp2) hv2
    · simp at h
theorem r_fin_code {N : Nat} (hk : KS P N k) {fn : Func} {tm : T4 Value} {e : Ex} {f : Fr} : ∀ (ds : List Deferred) (s s' : XS), r_fin P k B lo fn tm ds s ≠ .code e f s'
  | [], s, s', h => by
    have h' : r_res s (resV P B s tm fn.results.toList) = .code e f s' := h
    unfold r_res at h'
    split at h'
    · split at h' <;> simp at h'
    · simp at h'
  | d :: ds, s, s', h => by
    rw [r_fin_cons] at h
    split at h
    · rename_i g cap htar
      generalize k (.dcall g (app d.args.toList cap.toList)) B lo s = r at h
      cases r with
      | bad wh => exact absurd (show RR.bad wh = _ from h) (by simp)
      | code e f s2 => exact absurd (show RR.bad "?" = _ from h) (by simp)
      | ret u s1 => exact r_fin_code hk ds s1 s' h
    · simp at h
theorem fnT_spec {g : Nat} {fn : Func} {c : Code} (h : fnT g fn c = true) : fn.ntmps ≤ 1024 ∧ codeT fn.ntmps g c = true ∧ resT fn.ntmps fn.results.toList = true := by
  unfold fnT at h
  rw [Bool.and_eq_true, Bool.and_eq_true] at h
  exact ⟨Nat.le_of_ble_eq_true h.1, h.2.1, h.2.2⟩
theorem r_call_snd {N : Nat} (hk : KS P N k) (g : FuncId) (args : List Value) : TS P (N + 1) (.call g args) B lo s (r_call P k (r_end P k B lo) g args B lo s) := by
  unfold r_call
  split
  · rename_i fn c hb
    split
    · rename_i hT
      split
      · rename_i hl
        obtain ⟨hn, hc, hr⟩ := fnT_spec hT
        have hl : args.length ≤ fn.ntmps := by rw [← len_eq]; exact Nat.le_of_ble_eq_true hl
        obtain ⟨b1, b2, b3⟩ := body_spec hb
        intro hfr
        have h1 := hk (.code c ⟨enter args 0 .e, []⟩) B lo s hfr
        generalize k (.code c ⟨enter args 0 .e, []⟩) B lo s = r at h1
        cases r with
        | ret v s' => exact h1.elim
        | bad w => trivial
        | code e f1 s1 =>
          obtain ⟨g1, g2⟩ := h1
          have main : (exOf e = .normal ∨ exOf e = .ret) → TS P (N + 1) (.call g args) B lo s (r_fin P k B lo fn f1.tm f1.df s1) := by
            intro he _
            cases hq : r_fin P k B lo fn f1.tm f1.df s1 with
            | bad w => trivial
            | code e2 f2 s2 => exact (r_fin_code hk _ _ _ hq).elim
            | ret v s' =>
              obtain ⟨q1, q2⟩ := r_fin_snd hk _ _ _ _ (g1.fre hfr) hq
              refine ⟨g1.trans q1, fun M args' w hv hw hf => calls_of_wp_defers b1 b2 (wpx_wp (N := N) ?_)⟩
              refine g2 fn.ntmps M _ w _ hc hn (AR.enter hv hl hn) hw (hf.le (Nat.le_refl _) q1.nx) fun a' w' M' hp hA => ?_
              have hL : Leaves P fn a'.tmps (fun e w' => ∃ v' M', e = .returned v' ∧ Post P M M' (look B s) (look B s') s.nx s'.nx w w' ∧ VR M' v v') a'.defers .returning w' :=
                q2 fn.ntmps M' a' w' a'.defers _ hr hA.size hA.tm hA.df hp.wr (hp.fresh hf g1.nx) fun v' M2 w2 hp2 hv2 => ⟨v', M2, rfl, hp.trans g1.nx q1.nx hp2, hv2⟩
              rcases he with he | he <;> rw [he] <;> exact hL
          cases e with
          | normal => exact main (.inl rfl) hfr
          | ret => exact main (.inr rfl) hfr
          | exit i => trivial
          | goto l => trivial
          | pan v => trivial
      · exact fun _ => trivial
    · exact fun _ => trivial
  · exact fun _ => trivial
theorem r_dcall_snd {N : Nat} (hk : KS P N k) (g : FuncId) (args : List Value) : TS P (N + 1) (.dcall g args) B lo s (r_call P k (r_endD P B) g args B lo s) := by
  unfold r_call
  split
  · rename_i fn c hb
    split
    · rename_i hT
      split
      · rename_i hl
        obtain ⟨hn, hc, hr⟩ := fnT_spec hT
        have hl : args.length ≤ fn.ntmps := by rw [← len_eq]; exact Nat.le_of_ble_eq_true hl
        obtain ⟨b1, b2, b3⟩ := body_spec hb
        intro hfr
        have h1 := hk (.code c ⟨enter args 0 .e, []⟩) B lo s hfr
        generalize k (.code c ⟨enter args 0 .e, []⟩) B lo s = r at h1
        cases r with
        | ret v s' => exact h1.elim
        | bad w => trivial
        | code e f1 s1 =>
          obtain ⟨g1, g2⟩ := h1
          have main : (exOf e = .normal ∨ exOf e = .ret) → TS P (N + 1) (.dcall g args) B lo s (r_finD P B fn f1.tm s1 f1.df) := by
            intro he _
            cases hd : f1.df with
            | cons d ds => trivial
            | nil =>
              suffices h : TS P (N + 1) (.dcall g args) B lo s (r_res s1 (resV P B s1 f1.tm fn.results.toList)) from h hfr
              intro _
              cases hq : r_res s1 (resV P B s1 f1.tm fn.results.toList) with
              | bad w => trivial
              | code e2 f2 s2 =>
                unfold r_res at hq
                split at hq
                · split at hq <;> simp at hq
                · simp at hq
              | ret v s' =>
                have hs : s' = s1 := by
                  unfold r_res at hq
                  split at hq
                  · split at hq <;> simp at hq <;> exact hq.2.symm
                  · simp at hq
                subst hs
                refine ⟨⟨_, hb⟩, g1, fun M args' w u hv hw hf => callsD_of_wp b1 b2 (wpx_wp (N := N) ?_)⟩
                refine g2 fn.ntmps M _ w _ hc hn (AR.enter hv hl hn) hw hf fun a' w' M' hp hA => ?_
                obtain ⟨_, v', h1, h2⟩ := results_run hp.wr hA.size hA.tm hr hq
                have hdf : a'.defers = [] := by
                  have := hA.df
                  rw [hd] at this
                  cases hq : a'.defers with
                  | nil => rfl
                  | cons x l => rw [hq] at this; cases this
                have hL : a'.defers = [] ∧ ∃ v2, (results fn a'.tmps).run P w' = .ok v2 w' ∧ ∃ v' M', Ending.returned v2 = .returned v' ∧ Post P M M' (look B s) (look B s') s.nx s'.nx w w' ∧ VR M' v v' := ⟨hdf, v', h1, v', M', rfl, hp, h2⟩
                rcases he with he | he <;> rw [he] <;> exact hL
          cases e with
          | normal => exact main (.inl rfl) hfr
          | ret => exact main (.inr rfl) hfr
          | exit i => trivial
          | goto l => trivial
          | pan v => trivial
      · exact fun _ => trivial
    · exact fun _ => trivial
  · exact fun _ => trivial
theorem step_eq (P : Program) (k : Tk → Ban → Nat → XS → RR) (t : Tk) (B : Ban) (lo : Nat) (s : XS) : step P k t B lo s = match t with
    | .code c f => r_code P k c f B lo s
    | .call g args => r_call P k (r_end P k B lo) g args B lo s
    | .dcall g args => r_call P k (r_endD P B) g args B lo s := by
  cases t <;> rfl
theorem run_snd (hreg : ∀ N k, KS P N k → RegS P k) : ∀ N, KS P N (run P N)
  | 0 => fun t B lo s _ => by cases t <;> trivial
  | N + 1 => fun t B lo s => by
    have ih := run_snd hreg N
    show TS P (N + 1) t B lo s (step P (run P N) t B lo s)
    rw [step_eq]
    cases t with
    | code c f => exact r_code_snd ih (hreg N _ ih) c f
    | call g args => exact r_call_snd ih g args
    | dcall g args => exact r_dcall_snd ih g args
end
end Go.X
end
section
set_option linter.unusedVariables false
namespace Go.X
open Go Go.RowKit
open Classical in
/-- What the last one that is done has left. -/
noncomputable def lastH {β : Type} (D : Nat → Prop) (C : Nat → Nat → Prop) (L : Nat → Nat → β) : Nat → Nat → β
  | 0, n => L 0 n
  | i + 1, n => if D i ∧ C i n then L (i + 1) n else lastH D C L i n
section
variable {β : Type} {D D' : Nat → Prop} {C : Nat → Nat → Prop} {L : Nat → Nat → β}
theorem last_all {n : Nat} : ∀ i, (∀ j, j < i → ¬ C j n → L (j + 1) n = L j n) → (∀ j, j < i → C j n → D j) → lastH D C L i n = L i n
  | 0, _, _ => rfl
  | i + 1, hL, h => by
    simp only [lastH]
    by_cases hc : C i n
    · rw [if_pos ⟨h i (by omega) hc, hc⟩]
    · rw [if_neg (fun e => hc e.2), hL i (by omega) hc]
      exact last_all i (fun j hj => hL j (by omega)) fun j hj => h j (by omega)
theorem last_none {n i : Nat} : ∀ m, (∀ j, i ≤ j → j < i + m → D j → ¬ C j n) → lastH D C L (i + m) n = lastH D C L i n
  | 0, _ => rfl
  | m + 1, h => by
    show lastH D C L (i + m + 1) n = _
    simp only [lastH]
    rw [if_neg (fun e => h (i + m) (by omega) (by omega) e.1 e.2)]
    exact last_none m fun j h1 h2 => h j h1 (by omega)
theorem last_at {n i m : Nat} (hi : i ≤ m) (hL : ∀ j, j < i → ¬ C j n → L (j + 1) n = L j n) (h1 : ∀ j, j < i → C j n → D j) (h2 : ∀ j, i ≤ j → j < m → D j → ¬ C j n) : lastH D C L m n = L i n := by
  obtain ⟨k, rfl⟩ : ∃ k, m = i + k := ⟨m - i, by omega⟩
  rw [last_none k h2]
  exact last_all i hL h1
theorem last_put {n i m : Nat} (hD : ∀ j, D' j ↔ D j ∨ j = i) (hi : i < m) (hc : C i n) (h2 : ∀ j, i < j → j < m → D j → ¬ C j n) : lastH D' C L m n = L (i + 1) n := by
  obtain ⟨k, rfl⟩ : ∃ k, m = (i + 1) + k := ⟨m - (i + 1), by omega⟩
  rw [last_none k fun j h3 h4 h5 => by
    rcases (hD j).1 h5 with h5 | h5
    · exact h2 j (by omega) h4 h5
    · omega]
  simp only [lastH]
  rw [if_pos ⟨(hD i).2 (.inr rfl), hc⟩]
theorem last_same {n i : Nat} (hD : ∀ j, D' j ↔ D j ∨ j = i) (hc : ¬ C i n) : ∀ m, lastH D' C L m n = lastH D C L m n
  | 0 => rfl
  | m + 1 => by
    simp only [lastH]
    have : (D' m ∧ C m n) ↔ (D m ∧ C m n) := by
      rw [hD]
      constructor
      · rintro ⟨h | h, h'⟩
        · exact ⟨h, h'⟩
        · subst h; exact absurd h' hc
      · rintro ⟨h, h'⟩; exact ⟨.inl h, h'⟩
    by_cases h : D m ∧ C m n
    · rw [if_pos h, if_pos (this.2 h)]
    · rw [if_neg h, if_neg (fun e => h (this.1 e)), last_same hD hc m]
end
section
variable {P : Program} {M M' : Cx} {h h' H : Hp} {lo hi : Nat} {w w' : World}
theorem WR.sub (hw : WR P M H w) (hs : ∀ n o, h n = some o → H n = some o) : WR P M h w where
  live n o e := hw.live n o (hs n o e)
  inj n m o p L K e1 e2 e3 e4 e5 := hw.inj n m o p L K (hs n o e1) (hs m p e2) e3 e4 e5
  glob := hw.glob
  amb := hw.amb
  rows := hw.rows
  apart n o L i e := hw.apart n o L i (hs n o e)
open Classical in
/-- A change in a part of memory, seen in the whole. -/
theorem Post.frame (k : Post P M M' h h' lo hi w w') (hw : WR P M H w) (hs : ∀ n o, h n = some o → H n = some o) (C : Nat → Prop) (hC : ∀ n, C n → (∃ o, h n = some o) ∨ M n = none) (hN : ∀ n o, ¬ C n → h n = some o → h' n = some o) :
    Post P M M' H (fun n => if C n then h' n else H n) lo hi w w' where
  pre := hw
  ext := k.ext
  new := k.new
  sl b i v e := by
    rcases k.sl b i v e with h1 | h1 | ⟨m, o, K, h1, h2, h3⟩
    · exact .inl h1
    · exact .inr (.inl h1)
    · exact .inr (.inr ⟨m, o, K, hs m o h1, h2, h3⟩)
  blk n L e e' := by
    rcases k.blk n L e e' with hb | ⟨m, o, K, h1, h2, h3⟩
    · exact .inl hb
    · exact .inr ⟨m, o, K, hs m o h1, h2, h3⟩
  dom n o e := by
    by_cases hc : C n
    · rw [if_pos hc] at e
      rcases k.dom n o e with ⟨o', h1⟩ | h1
      · exact .inl ⟨o', hs n o' h1⟩
      · exact .inr h1
    · rw [if_neg hc] at e
      exact .inl ⟨o, e⟩
  wr := by
    -- where a name that is not looked at lies, nothing has changed
    have far : ∀ n o, ¬ C n → H n = some o → (h n = some o ∧ h' n = some o) ∨ (h n = none ∧ ∀ L, M n = some L → w'.heap[L.b]? = w.heap[L.b]?) := by
      intro n o hc e
      cases hq : h n with
      | some o' =>
        have := hs n o' hq
        rw [e] at this; simp at this; subst this
        exact .inl ⟨rfl, hN n o hc hq⟩
      | none =>
        refine .inr ⟨rfl, fun L hL => k.keep L.b ?_ fun m p K e1 e2 e3 => ?_⟩
        · obtain ⟨K, a1, a2⟩ := hw.live n o e
          rw [hL] at a1; simp at a1; subst a1
          exact a2.lt
        · have := hw.inj m n p o K L (hs m p e1) e e2 hL e3
          subst this
          rw [hq] at e1; simp at e1
    -- of a name that is looked at and one that isn't
    have mix : ∀ n m o p L K, h' n = some o → ¬ C m → H m = some p → h m = none → M' n = some L → M' m = some K → L.b ≠ K.b := by
      intro n m o p L K e1 hc e2 e3 e4 e5 e6
      obtain ⟨K', a1, a2⟩ := hw.live m p e2
      have := k.ext.n m K' a1
      rw [e5] at this; simp at this; subst this
      have old : ∀ q Q p', h q = some p' → M q = some Q → Q.b = K.b → False := by
        intro q Q p' b1 b2 b3
        have := hw.inj q m p' p Q K (hs q p' b1) e2 b2 a1 b3
        subst this
        rw [e3] at b1; simp at b1
      rcases k.dom n o e1 with ⟨o', c1⟩ | c1
      · obtain ⟨L', d1, _⟩ := k.pre.live n o' c1
        have := k.ext.n n L' d1
        rw [e4] at this; simp at this; subst this
        exact old n L o' c1 d1 e6
      · rcases k.blk n L c1 e4 with hb | ⟨q, o', Q, d1, d2, d3⟩
        · have := a2.lt; omega
        · exact old q Q o' d1 d2 (d3.trans e6)
    refine ⟨k.wr.rows, ?_, ?_, ?_, ?_, ?_⟩
    · intro n o L i e hL
      by_cases hc : C n
      · simp only [if_pos hc] at e
        exact k.wr.apart n o L i e hL
      · simp only [if_neg hc] at e
        rcases far n o hc e with ⟨h1, h2⟩ | ⟨h1, h2⟩
        · exact k.wr.apart n o L i h2 hL
        · obtain ⟨L', a1, a2⟩ := hw.live n o e
          have := k.ext.n n L' a1; rw [hL] at this; simp at this; subst this
          cases q : M'.S L.b i with
          | none => rfl
          | some v =>
            rcases k.sl L.b i v q with h3 | h3 | ⟨m, o', K, h3, h4, h5⟩
            · have := hw.apart n o L i e a1; rw [h3] at this; simp at this
            · have := a2.lt; omega
            · have := hw.inj m n o' o K L (hs m o' h3) e h4 a1 h5
              subst this
              rw [h1] at h3; simp at h3
    · intro n o e
      by_cases hc : C n
      · simp only [if_pos hc] at e
        exact k.wr.live n o e
      · simp only [if_neg hc] at e
        rcases far n o hc e with ⟨h1, h2⟩ | ⟨h1, h2⟩
        · exact k.wr.live n o h2
        · obtain ⟨L, a1, a2⟩ := hw.live n o e
          exact ⟨L, k.ext.n n L a1, a2.mono k.ext (h2 L a1)⟩
    · intro n m o p L K e1 e2 e3 e4 e5
      by_cases hc : C n
      · simp only [if_pos hc] at e1
        by_cases hd : C m
        · simp only [if_pos hd] at e2
          exact k.wr.inj n m o p L K e1 e2 e3 e4 e5
        · simp only [if_neg hd] at e2
          rcases far m p hd e2 with ⟨h1, h2⟩ | ⟨h1, h2⟩
          · exact k.wr.inj n m o p L K e1 h2 e3 e4 e5
          · exact absurd e5 (mix n m o p L K e1 hd e2 h1 e3 e4)
      · simp only [if_neg hc] at e1
        rcases far n o hc e1 with ⟨h1, h2⟩ | ⟨h1, h2⟩
        · by_cases hd : C m
          · simp only [if_pos hd] at e2
            exact k.wr.inj n m o p L K h2 e2 e3 e4 e5
          · simp only [if_neg hd] at e2
            rcases far m p hd e2 with ⟨g1, g2⟩ | ⟨g1, g2⟩
            · exact k.wr.inj n m o p L K h2 g2 e3 e4 e5
            · exact absurd e5 (mix n m o p L K h2 hd e2 g1 e3 e4)
        · by_cases hd : C m
          · simp only [if_pos hd] at e2
            exact absurd e5.symm (mix m n p o K L e2 hc e1 h1 e4 e3)
          · simp only [if_neg hd] at e2
            obtain ⟨L', a1, _⟩ := hw.live n o e1
            obtain ⟨K', b1, _⟩ := hw.live m p e2
            have := k.ext.n n L' a1; rw [e3] at this; simp at this; subst this
            have := k.ext.n m K' b1; rw [e4] at this; simp at this; subst this
            exact hw.inj n m o p L K e1 e2 a1 b1 e5
    · exact k.wr.glob
    · exact k.wr.amb
  keep b hb hk := k.keep b hb fun n o L e1 e2 => hk n o L (hs n o e1) e2
  kept := k.kept
end
end Go.X
end
section
set_option linter.unusedVariables false
namespace Go.X
open Go Go.RowKit
section
variable {P : Program} {M M' : Cx} {h h' H : Hp} {lo hi : Nat} {w w' : World}
theorem Post.widen {lo' hi' : Nat} (k : Post P M M' h h' lo' hi' w w') (h1 : lo ≤ lo') (h2 : hi' ≤ hi) : Post P M M' h h' lo hi w w' :=
  { k with new := fun n a b => by have := k.new n a b; omega }
theorem Post.join {A B C : Cx} {h0 h1 h2 : Hp} {a b c : World} (h : Post P A B h0 h1 lo hi a b) (k : Post P B C h1 h2 lo hi b c) : Post P A C h0 h2 lo hi a c := by
  have h3 : Post P A B h0 h1 0 (lo + hi) a b := h.widen (by omega) (by omega)
  have k3 : Post P B C h1 h2 (lo + hi) (lo + hi) b c ∨ True := .inr trivial
  refine
    { pre := h.pre, ext := h.ext.trans k.ext, new := ?_, sl := ?_, blk := ?_, dom := ?_, wr := k.wr, keep := ?_, kept := h.kept.trans k.kept }
  · intro n e e'
    by_cases hB : B n = none
    · exact k.new n hB e'
    · exact h.new n e hB
  · intro x i v e
    rcases k.sl x i v e with h1 | h1 | ⟨m, o, K, h1, h2, h3⟩
    · exact h.sl x i v h1
    · exact .inr (.inl (Nat.le_trans h.kept.size h1))
    · rcases h.dom m o h1 with ⟨o', h4⟩ | h4
      · obtain ⟨K0, h6, _⟩ := h.pre.live m o' h4
        exact .inr (.inr ⟨m, o', K0, h4, h6, by have := h.ext.n m K0 h6; rw [h2] at this; simp at this; rw [← this]; exact h3⟩)
      · rcases h.blk m K h4 h2 with hb | ⟨m', o', K', g1, g2, g3⟩
        · exact .inr (.inl (by omega))
        · exact .inr (.inr ⟨m', o', K', g1, g2, g3.trans h3⟩)
  · intro n L e e'
    cases hB : B n with
    | none =>
      rcases k.blk n L hB e' with hb | ⟨m, o, K, h1, h2, h3⟩
      · exact .inl (Nat.le_trans h.kept.size hb)
      · rcases h.dom m o h1 with ⟨o', h4⟩ | h4
        · obtain ⟨K0, h6, _⟩ := h.pre.live m o' h4
          exact .inr ⟨m, o', K0, h4, h6, by have := h.ext.n m K0 h6; rw [h2] at this; simp at this; rw [← this]; exact h3⟩
        · rcases h.blk m K h4 h2 with hb | ⟨m', o', K', g1, g2, g3⟩
          · exact .inl (by omega)
          · exact .inr ⟨m', o', K', g1, g2, g3.trans h3⟩
    | some L' =>
      have := k.ext.n n L' hB
      rw [e'] at this; simp at this; subst this
      exact h.blk n L e hB
  · intro n o e
    rcases k.dom n o e with ⟨o', h'⟩ | h'
    · exact h.dom n o' h'
    · cases hA : A n with
      | none => exact .inr rfl
      | some L => have := h.ext.n n L hA; rw [h'] at this; simp at this
  · intro x hx hn
    rw [k.keep x (Nat.lt_of_lt_of_le hx h.kept.size) ?_, h.keep x hx hn]
    intro n o L e1 e2 e3
    rcases h.dom n o e1 with ⟨o', h'⟩ | h'
    · cases hA : A n with
      | some L0 =>
        have := h.ext.n n L0 hA
        rw [e2] at this; simp at this; subst this
        exact hn n o' L h' hA e3
      | none =>
        rcases h.blk n L hA e2 with hb | ⟨m, o', K, g1, g2, g3⟩
        · omega
        · exact hn m o' K g1 g2 (g3.trans e3)
    · rcases h.blk n L h' e2 with hb | ⟨m, o', K, g1, g2, g3⟩
      · omega
      · exact hn m o' K g1 g2 (g3.trans e3)
end
/-- What an operation waits for, at last. -/
inductive Wt (all : Array Oper) : Nat → Nat → Prop
  | edge {i : Nat} {o : Oper} {e : Edge} : all[i]? = some o → e ∈ o.after → Region.binds .any e = true → Wt all i e.on
  | more {i j : Nat} {o : Oper} {e : Edge} : all[i]? = some o → e ∈ o.after → Region.binds .any e = true → Wt all e.on j → Wt all i j
/-- What an operation changes. -/
def Cg (B : Ban) (S : Nat → XS) (i n : Nat) : Prop := look B (S (i + 1)) n ≠ look B (S i) n
def Td (all : Array Oper) (i t : Nat) : Prop := ∃ o, all[i]? = some o ∧ o.dst = some t
def Nm (all : Array Oper) (i t : Nat) : Prop := ∃ o, all[i]? = some o ∧ (Operand.tmp t ∈ o.op.operands.toList ∨ gTmp all o t ∨ o.dst = some t)
/-- An operation of a drawn region. -/
structure DOp (P : Program) (all : Array Oper) (B : Ban) (F : Nat → Fr) (S : Nat → XS) (i : Nat) where
  o : Oper
  Bi : Ban
  si : XS
  so : XS
  v : Value
  ho : all[i]? = some o
  hF : F (i + 1) = dstF o.dst v (F i)
  nx : si.nx = (S i).nx
  nx' : so.nx = (S (i + 1)).nx
  le : (S i).nx ≤ (S (i + 1)).nx
  tr : ∀ (M : Cx) (a : Act) (w : World) (Q : Exit → Act → World → Prop) (K : Act → World → Prop),
      (∀ x ∈ o.op.operands.toList, VR M (ev (F i).tm x) (a.eval x)) → (∀ t, gTmp all o t → t < a.tmps.size ∧ VR M (ev (F i).tm (.tmp t)) (a.eval (.tmp t))) → DRL M (F i).df a.defers → WR P M (look Bi si) w → Fresh M si.nx so.nx →
      (∀ v' dd' w' M', Post P M M' (look Bi si) (look Bi so) si.nx so.nx w w' → VR M' v v' → DRL M' (F i).df dd' → K (({ a with defers := dd' } : Act).put o.dst v') w') → wpOp P all Q i K a w
  inn : ∀ n p, look Bi si n = some p → look B (S i) n = some p ∧ ∀ j, j < all.size → Cg B S j n → j = i ∨ Wt all j i ∨ Wt all i j
  ch : ∀ n, Cg B S i n → look Bi so n = look B (S (i + 1)) n
  ch2 : ∀ n, Cg B S i n → ∀ j, j < all.size → Cg B S j n → j = i ∨ Wt all j i ∨ Wt all i j
  st : ∀ n p, ¬ Cg B S i n → look Bi si n = some p → look Bi so n = some p
  cr : ∀ n p, Cg B S i n → n < (S i).nx → look B (S i) n = some p → ∃ q, look Bi si n = some q
  crn : ∀ n, Cg B S i n → n < (S (i + 1)).nx
section
variable {P : Program} {all : Array Oper} {B : Ban} {F : Nat → Fr} {S : Nat → XS} {n : Nat} {M0 : Cx} {w0 : World}
/-- Some operations are done. -/
structure Inv (P : Program) (all : Array Oper) (B : Ban) (F : Nat → Fr) (S : Nat → XS) (n : Nat) (M0 : Cx) (w0 : World) (D : Nat → Prop) (M : Cx) (a : Act) (w : World) : Prop where
  size : a.tmps.size = n
  tm : ∀ t, t < n → VR M (lastH D (Td all) (fun i t => ev (F i).tm (.tmp t)) all.size t) (a.eval (.tmp t))
  df : DRL M (F 0).df a.defers
  post : Post P M0 M (look B (S 0)) (lastH D (Cg B S) (fun i n => look B (S i) n) all.size) (S 0).nx (S all.size).nx w0 w
  fr : ∀ i, i < all.size → ¬ D i → ∀ x, (S i).nx ≤ x → x < (S (i + 1)).nx → M x = none
theorem wt_lt (hb : ∀ (i : Nat) (o : Oper) (e : Edge), all[i]? = some o → e ∈ o.after → Region.binds .any e = true → e.on < i) {i j : Nat} (h : Wt all i j) : j < i := by
  induction h with
  | edge h1 h2 h3 => exact hb _ _ _ h1 h2 h3
  | more h1 h2 h3 _ ih => have := hb _ _ _ h1 h2 h3; omega
theorem wt_closed {D : Nat → Prop} (hc : ∀ (i : Nat) (o : Oper) (e : Edge), D i → all[i]? = some o → e ∈ o.after → Region.binds .any e = true → D e.on) {i j : Nat} (h : Wt all i j) : D i → D j := by
  induction h with
  | edge h1 h2 h3 => exact fun hd => hc _ _ _ hd h1 h2 h3
  | more h1 h2 h3 _ ih => exact fun hd => ih (hc _ _ _ hd h1 h2 h3)
theorem df_const (dop : ∀ i, i < all.size → DOp P all B F S i) : ∀ i, i ≤ all.size → (F i).df = (F 0).df
  | 0, _ => rfl
  | i + 1, h => by rw [(dop i (by omega)).hF, dstF_df]; exact df_const dop i (by omega)
theorem nx_mono (dop : ∀ i, i < all.size → DOp P all B F S i) {i : Nat} : ∀ k, i + k ≤ all.size → (S i).nx ≤ (S (i + k)).nx
  | 0, _ => Nat.le_refl _
  | k + 1, h => Nat.le_trans (nx_mono dop k (by omega)) (dop (i + k) (by omega)).le
theorem Cg_eq {B : Ban} {S : Nat → XS} {j n : Nat} (h : ¬ Cg B S j n) : look B (S (j + 1)) n = look B (S j) n := Classical.not_not.1 h
theorem tmp_same (dop : ∀ i, i < all.size → DOp P all B F S i) (hn : n ≤ 1024) (hT : all.toList.all (opT n P.globals.size) = true) {j t : Nat} (hj : j < all.size) (ht : t < n) (h : ¬ Td all j t) : ev (F (j + 1)).tm (.tmp t) = ev (F j).tm (.tmp t) := by
  have d := dop j hj
  rw [d.hF, dstF_ev hn (opT_dst (opT_mem hT d.ho)) ht, if_neg fun e => h ⟨d.o, d.ho, e⟩]
open Classical in
theorem draw_step (dop : ∀ i, i < all.size → DOp P all B F S i) (hb : ∀ (i : Nat) (o : Oper) (e : Edge), all[i]? = some o → e ∈ o.after → Region.binds .any e = true → e.on < i)
    (hap : ∀ i j t, i < all.size → j < all.size → i ≠ j → Td all j t → Nm all i t → Wt all i j ∨ Wt all j i) (hn : n ≤ 1024) (hT : all.toList.all (opT n P.globals.size) = true)
    {D D' : Nat → Prop} {M : Cx} {a : Act} {w : World} {i : Nat} (hi : i < all.size) (hnd : ¬ D i) (hpre : ∀ j, Wt all i j → D j) (hcl : ∀ i j, D i → Wt all i j → D j) (hD : ∀ j, D' j ↔ D j ∨ j = i)
    (I : Inv P all B F S n M0 w0 D M a w) {Q : Exit → Act → World → Prop} {K : Act → World → Prop} (hK : ∀ M' a' w', Inv P all B F S n M0 w0 D' M' a' w' → K a' w') : wpOp P all Q i K a w := by
  have d := dop i hi
  have hoT := opT_mem hT d.ho
  have hdst := opT_dst hoT
  -- temporaries that it names are as they were for it
  have tmEq : ∀ t, t < n → Nm all i t → lastH D (Td all) (fun i t => ev (F i).tm (.tmp t)) all.size t = ev (F i).tm (.tmp t) := by
    intro t ht hN
    refine last_at (L := fun i t => ev (F i).tm (.tmp t)) (C := Td all) (Nat.le_of_lt hi) (fun j hj h => tmp_same dop hn hT (by omega) ht h) ?_ ?_
    · intro j hj hTd
      rcases hap i j t hi (by omega) (by omega) hTd hN with h | h
      · exact hpre j h
      · have := wt_lt hb h; omega
    · intro j h1 h2 hDj hTd
      by_cases e : j = i
      · subst e; exact hnd hDj
      · rcases hap i j t hi h2 (Ne.symm e) hTd hN with h | h
        · have := wt_lt hb h; omega
        · exact hnd (hcl j i hDj h)
  have tmVR : ∀ t, t < n → Nm all i t → VR M (ev (F i).tm (.tmp t)) (a.eval (.tmp t)) := fun t ht hN => by rw [← tmEq t ht hN]; exact I.tm t ht
  -- no later one that is done changes what it changes
  have later : ∀ x, Cg B S i x → ∀ j, i < j → j < all.size → D j → ¬ Cg B S j x := by
    intro x hx j h1 h2 hDj hC
    rcases d.ch2 x hx j h2 hC with h | h | h
    · omega
    · exact hnd (hcl j i hDj h)
    · have := wt_lt hb h; omega
  have hsub : ∀ x p, look d.Bi d.si x = some p → lastH D (Cg B S) (fun i n => look B (S i) n) all.size x = some p := by
    intro x p hx
    obtain ⟨h1, h2⟩ := d.inn x p hx
    rw [← h1]
    refine last_at (L := fun i n => look B (S i) n) (Nat.le_of_lt hi) (fun j _ h => Cg_eq h) ?_ ?_
    · intro j hj hC
      rcases h2 j (by omega) hC with h | h | h
      · omega
      · have := wt_lt hb h; omega
      · exact hpre j h
    · intro j h3 h4 hDj hC
      rcases h2 j h4 hC with h | h | h
      · subst h; exact hnd hDj
      · exact hnd (hcl j i hDj h)
      · have := wt_lt hb h; omega
  have hdf : (F i).df = (F 0).df := df_const dop i (Nat.le_of_lt hi)
  have nm0 : (S 0).nx ≤ (S i).nx := by have := nx_mono dop (i := 0) i (by omega); simpa using this
  have nm1 : (S (i + 1)).nx ≤ (S all.size).nx := by
    have := nx_mono dop (i := i + 1) (all.size - (i + 1)) (by omega)
    rwa [show i + 1 + (all.size - (i + 1)) = all.size from by omega] at this
  refine d.tr M a w Q K (opT_VR hoT rfl I.post.wr fun t ht => tmVR t (opT_ops hoT t ht) ⟨d.o, d.ho, .inl ht⟩) (fun t ht => ?_) (by rw [hdf]; exact I.df) (I.post.wr.sub hsub) (by rw [d.nx, d.nx']; exact I.fr i hi hnd) fun v' dd' w' M' hp hv hdd => hK M' _ w' ?_
  · obtain ⟨j, b, q, h1, h2, h3⟩ := ht
    have htn := opT_dst (opT_mem hT h2) t h3
    exact ⟨by rw [I.size]; exact htn, tmVR t htn ⟨d.o, d.ho, .inr (.inl ⟨j, b, q, h1, h2, h3⟩)⟩⟩
  · have hfr := hp.frame I.post.wr hsub (Cg B S i) (fun x hx => by
      rcases Nat.lt_or_ge x (S i).nx with hlt | hge
      · cases hq : look B (S (i + 1)) x with
        | some p =>
          rcases hp.dom x p (by rw [d.ch x hx]; exact hq) with h | h
          · exact .inl h
          · exact .inr h
        | none =>
          cases hq2 : look B (S i) x with
          | none => exact absurd (hq.trans hq2.symm) hx
          | some p => exact .inl (d.cr x p hx hlt hq2)
      · exact .inr (I.fr i hi hnd x hge (d.crn x hx))) d.st
    have hH : (fun x => if Cg B S i x then look d.Bi d.so x else lastH D (Cg B S) (fun i n => look B (S i) n) all.size x) = lastH D' (Cg B S) (fun i n => look B (S i) n) all.size := by
      funext x
      by_cases hx : Cg B S i x
      · rw [if_pos hx, last_put (L := fun i n => look B (S i) n) hD hi hx (later x hx)]
        exact d.ch x hx
      · rw [if_neg hx, last_same hD hx]
    refine ⟨by rw [put_size]; exact I.size, fun t ht => ?_, by rw [put_defers, ← hdf]; exact hdd, ?_, fun j hj hnj x hx1 hx2 => ?_⟩
    · rw [eval_put (by show t < a.tmps.size; rw [I.size]; exact ht)]
      by_cases hTd : Td all i t
      · have he : d.o.dst = some t := by
          obtain ⟨o', h1, h2⟩ := hTd
          rw [d.ho] at h1; simp at h1; subst h1; exact h2
        rw [last_put (L := fun i t => ev (F i).tm (.tmp t)) hD hi hTd fun j h1 h2 hDj hC => by
          rcases hap i j t hi h2 (by omega) hC ⟨d.o, d.ho, .inr (.inr he)⟩ with h | h
          · have := wt_lt hb h; omega
          · exact hnd (hcl j i hDj h)]
        show VR M' (ev (F (i + 1)).tm (.tmp t)) _
        rw [d.hF, dstF_ev hn hdst ht, if_pos he, if_pos he]
        exact hv
      · have he : ¬ d.o.dst = some t := fun e => hTd ⟨d.o, d.ho, e⟩
        rw [last_same hD hTd, if_neg he]
        exact (I.tm t ht).mono hp.ext
    · rw [← hH]
      refine I.post.join (hfr.widen ?_ ?_)
      · rw [d.nx]; exact nm0
      · rw [d.nx']; exact nm1
    · have hnd' : ¬ D j := fun e => hnj ((hD j).2 (.inl e))
      have hne : j ≠ i := fun e => hnj ((hD j).2 (.inr e))
      have h0 := I.fr j hj hnd' x hx1 hx2
      cases hq : M' x with
      | none => rfl
      | some L =>
        have := hp.new x h0 (by rw [hq]; simp)
        rw [d.nx, d.nx'] at this
        rcases Nat.lt_or_ge j i with h | h
        · have h1 := nx_mono dop (i := j + 1) (i - (j + 1)) (by omega)
          rw [show j + 1 + (i - (j + 1)) = i from by omega] at h1
          omega
        · have h1 := nx_mono dop (i := i + 1) (j - (i + 1)) (by omega)
          rw [show i + 1 + (j - (i + 1)) = j from by omega] at h1
          omega
/-! All orders -/
def Ls (listed : Array Bool) (i : Nat) : Prop := listed.getD i false = true
theorem ls_lt {listed : Array Bool} {i : Nat} (h : Ls listed i) : i < listed.size := by
  rcases Nat.lt_or_ge i listed.size with h' | h'
  · exact h'
  · simp [Ls, Array.getElem?_eq_none h'] at h
theorem ls_set {listed : Array Bool} {i j : Nat} (hi : i < listed.size) : Ls (listed.setIfInBounds i true) j ↔ Ls listed j ∨ j = i := by
  unfold Ls
  by_cases h : i = j
  · subst h; simp [hi]
  · rw [getD_set_ne false h]
    constructor
    · exact .inl
    · rintro (h' | h')
      · exact h'
      · exact absurd h'.symm h
theorem ready_nil {listed : Array Bool} (hs : listed.size = all.size) (hb : ∀ (i : Nat) (o : Oper) (e : Edge), all[i]? = some o → e ∈ o.after → Region.binds .any e = true → e.on < i)
    (hr : Region.ready .any all listed = []) : ∀ i, i < all.size → Ls listed i := by
  intro i
  induction i using Nat.strongRecOn with
  | _ i ih =>
    intro hi
    cases hq : listed.getD i false with
    | true => exact hq
    | false =>
      exfalso
      have ho : all[i]? = some all[i] := by simp [hi]
      have : i ∈ Region.ready .any all listed := mem_ready.2 ⟨by
        have h1 : i < listed.size := by omega
        simp [h1] at hq ⊢; exact hq, all[i], ho, fun e he hbd => ih e.on (hb i _ e ho he hbd) (by have := hb i _ e ho he hbd; omega)⟩
      rw [hr] at this
      simp at this
theorem filter_less {l : List Nat} {p q : Nat → Bool} {i : Nat} (hi : i ∈ l) (hp : p i = true) (hq : q i = false) (h : ∀ j, q j = true → p j = true) : (l.filter q).length < (l.filter p).length := by
  induction l with
  | nil => simp at hi
  | cons x l ih =>
    have le : (l.filter q).length ≤ (l.filter p).length := by
      have : l.filter q = (l.filter p).filter q := by
        rw [List.filter_filter]
        congr 1
        funext j
        cases hj : q j
        · simp
        · simp [h j hj]
      rw [this]
      exact List.length_filter_le _ _
    rcases List.mem_cons.1 hi with rfl | hi
    · rw [List.filter_cons, List.filter_cons, hp, hq]
      simp; omega
    · have := ih hi
      rw [List.filter_cons, List.filter_cons]
      cases hq' : q x
      · cases hp' : p x <;> simp <;> omega
      · rw [h x hq']; simp; omega
theorem draw_any (dop : ∀ i, i < all.size → DOp P all B F S i) (hb : ∀ (i : Nat) (o : Oper) (e : Edge), all[i]? = some o → e ∈ o.after → Region.binds .any e = true → e.on < i)
    (hap : ∀ i j t, i < all.size → j < all.size → i ≠ j → Td all j t → Nm all i t → Wt all i j ∨ Wt all j i) (hn : n ≤ 1024) (hT : all.toList.all (opT n P.globals.size) = true) {Q : Exit → Act → World → Prop}
    (hQ : ∀ D M a w, (∀ i, i < all.size → D i) → Inv P all B F S n M0 w0 D M a w → Q .normal a w) :
    ∀ (fuel : Nat) (listed : Array Bool) (M : Cx) (a : Act) (w : World), listed.size = all.size → ((List.range all.size).filter fun i => !listed.getD i false).length ≤ fuel → (∀ (i : Nat) (o : Oper) (e : Edge), Ls listed i → all[i]? = some o → e ∈ o.after → Region.binds .any e = true → Ls listed e.on) →
      Inv P all B F S n M0 w0 (Ls listed) M a w → wpAny P .any all Q fuel listed a w
  | 0, listed, M, a, w, hs, hf, hc, I => by
    have hall : ∀ i, i < all.size → Ls listed i := by
      intro i hi
      cases hq : listed.getD i false with
      | true => exact hq
      | false =>
        have : i ∈ (List.range all.size).filter fun i => !listed.getD i false := List.mem_filter.2 ⟨List.mem_range.2 hi, by rw [hq]; rfl⟩
        have := List.length_pos_of_mem this
        omega
    refine ⟨?_, hQ _ M a w hall I⟩
    cases hr : Region.ready .any all listed with
    | nil => rfl
    | cons i l =>
      have hm : i ∈ Region.ready .any all listed := by rw [hr]; simp
      obtain ⟨h1, o, h2, _⟩ := mem_ready.1 hm
      have := hall i (Array.getElem?_eq_some_iff.1 h2).1
      have h3 := ls_lt this
      unfold Ls at this
      simp [h3] at h1 this
      rw [h1] at this; simp at this
  | fuel + 1, listed, M, a, w, hs, hf, hc, I => by
    refine ⟨fun hr => hQ _ M a w (ready_nil hs hb hr) I, fun i hm => ?_⟩
    obtain ⟨h1, o, h2, h3⟩ := mem_ready.1 hm
    have hi : i < all.size := (Array.getElem?_eq_some_iff.1 h2).1
    have hil : i < listed.size := by omega
    have hni : listed.getD i false = false := by simp [hil] at h1 ⊢; exact h1
    have hnl : ¬ Ls listed i := by unfold Ls; rw [hni]; simp
    have hcl : ∀ i j, Ls listed i → Wt all i j → Ls listed j := fun i j hd h => wt_closed hc h hd
    refine draw_step dop hb hap hn hT hi hnl (fun j h => ?_) hcl (fun j => ls_set hil) I fun M' a' w' I' => ?_
    · cases h with
      | edge g1 g2 g3 => rw [h2] at g1; simp at g1; subst g1; exact h3 _ g2 g3
      | more g1 g2 g3 g4 => rw [h2] at g1; simp at g1; subst g1; exact hcl _ _ (h3 _ g2 g3) g4
    · refine draw_any dop hb hap hn hT hQ fuel _ M' a' w' (by simpa using hs) ?_ ?_ I'
      · have := filter_less (l := List.range all.size) (p := fun i => !listed.getD i false) (q := fun j => !(listed.setIfInBounds i true).getD j false) (List.mem_range.2 hi) (by rw [hni]; rfl)
          (by have := (ls_set (j := i) hil).2 (.inr rfl); unfold Ls at this; rw [this]; rfl) (fun j hj => by
            cases hq : listed.getD j false with
            | false => rfl
            | true =>
              have := (ls_set (j := j) hil).2 (.inl hq)
              unfold Ls at this
              rw [this] at hj; simp at hj)
        omega
      · intro j o' e hj ho' he hbd
        rcases (ls_set hil).1 hj with hj | rfl
        · exact (ls_set hil).2 (.inl (hc j o' e hj ho' he hbd))
        · rw [h2] at ho'; simp at ho'; subst ho'
          exact (ls_set hil).2 (.inl (h3 e he hbd))
end
end Go.X
end
section
set_option linter.unusedVariables false
namespace Go.X
open Go Go.RowKit
/-! Masks -/
theorem tb_eq (m j : Nat) : tb m j = m.testBit j := by
  unfold tb
  show Nat.beq (Nat.land (Nat.shiftRight m j) 1) 1 = _
  rw [Nat.testBit_eq_decide_div_mod_eq]
  have h1 : Nat.land (Nat.shiftRight m j) 1 = m / 2 ^ j % 2 := by
    show (m >>> j) &&& 1 = _
    rw [Nat.and_one_is_mod, Nat.shiftRight_eq_div_pow]
  rw [h1]
  cases hq : Nat.beq (m / 2 ^ j % 2) 1 with
  | true => have := Nat.eq_of_beq_eq_true hq; simp [this]
  | false =>
    have : ¬ m / 2 ^ j % 2 = 1 := fun e => by rw [e] at hq; simp at hq
    simp [this]
theorem tb_or (a b j : Nat) : tb (Nat.lor a b) j = (tb a j || tb b j) := by
  rw [tb_eq, tb_eq, tb_eq]; exact Nat.testBit_or a b j
theorem tb_bit (t j : Nat) : tb (Nat.shiftLeft 1 t) j = true ↔ j = t := by
  rw [tb_eq]
  show (1 <<< t).testBit j = true ↔ _
  rw [Nat.testBit_shiftLeft]
  constructor
  · intro h
    simp only [Bool.and_eq_true, decide_eq_true_eq] at h
    have h2 := h.2
    rcases Nat.eq_zero_or_pos (j - t) with h0 | h0
    · omega
    · have : Nat.testBit 1 (j - t) = false := by
        rw [Nat.testBit_eq_decide_div_mod_eq]
        have : 1 / 2 ^ (j - t) = 0 := Nat.div_eq_of_lt (Nat.one_lt_two_pow (by omega))
        simp [this]
      rw [this] at h2; simp at h2
  · rintro rfl
    simp
theorem tb_zero (j : Nat) : tb 0 j = false := by rw [tb_eq]; simp
theorem tb_apart {a b : Nat} (h : Nat.beq (Nat.land a b) 0 = true) {j : Nat} (h1 : tb a j = true) (h2 : tb b j = true) : False := by
  have := Nat.eq_of_beq_eq_true h
  have h3 : (a &&& b).testBit j = true := by
    rw [Nat.testBit_and, ← tb_eq, ← tb_eq, h1, h2]; rfl
  have h4 : a &&& b = 0 := this
  rw [h4] at h3; simp at h3
/-! What is waited for -/
theorem orE_spec {acc : List Nat} {k : Nat} : ∀ (w : List Nat) (m : Nat), tb (orE acc w m) k = true → tb m k = true ∨ ∃ j ∈ w, k = j ∨ ∃ x, nth acc j = some x ∧ tb x k = true
  | [], m, h => .inl h
  | j :: w, m, h => by
    simp only [orE] at h
    split at h
    · rename_i x hx
      rcases orE_spec w _ h with h | ⟨j', h1, h2⟩
      · rw [tb_or, tb_or] at h
        simp only [Bool.or_eq_true] at h
        rcases h with h | h | h
        · exact .inl h
        · exact .inr ⟨j, by simp, .inl ((tb_bit j k).1 h)⟩
        · exact .inr ⟨j, by simp, .inr ⟨x, hx, h⟩⟩
      · exact .inr ⟨j', by simp [h1], h2⟩
    · rcases orE_spec w _ h with h | ⟨j', h1, h2⟩
      · rw [tb_or] at h
        simp only [Bool.or_eq_true] at h
        rcases h with h | h
        · exact .inl h
        · exact .inr ⟨j, by simp, .inl ((tb_bit j k).1 h)⟩
      · exact .inr ⟨j', by simp [h1], h2⟩
section
variable {all : Array Oper}
def edgesOf (o : Oper) : List Nat := o.after.toList.filterMap fun e => match Region.binds .any e with | true => some e.on | false => none
theorem edges_get : ∀ (l : List Oper) (i : Nat), (edges l)[i]? = (l[i]?).map edgesOf
  | [], i => by simp [edges]
  | o :: l, 0 => rfl
  | o :: l, i + 1 => by simp [edges, edges_get l i]
theorem edgesOf_mem {o : Oper} {j : Nat} (h : j ∈ edgesOf o) : ∃ e ∈ o.after, Region.binds .any e = true ∧ e.on = j := by
  unfold edgesOf at h
  obtain ⟨e, h1, h2⟩ := List.mem_filterMap.1 h
  refine ⟨e, by simpa using h1, ?_⟩
  cases hb : Region.binds .any e
  · rw [hb] at h2; simp at h2
  · rw [hb] at h2; simp at h2; exact ⟨rfl, h2⟩
theorem mem_edgesOf {o : Oper} {e : Edge} (h : e ∈ o.after) (hb : Region.binds .any e = true) : e.on ∈ edgesOf o := by
  unfold edgesOf
  exact List.mem_filterMap.2 ⟨e, by simpa using h, by rw [hb]⟩
theorem prs_spec : ∀ (l : List (List Nat)) (acc : List Nat), (edges all.toList).drop acc.length = l → (∀ i x k, acc[i]? = some x → tb x k = true → Wt all i k) →
    (∀ i x k, (prs acc l)[i]? = some x → tb x k = true → Wt all i k) ∧ (prs acc l).length = acc.length + l.length
  | [], acc, hl, h => ⟨h, by simp [prs]⟩
  | w :: l, acc, hl, h => by
    have hw : (edges all.toList)[acc.length]? = some w := by
      have := congrArg (·[0]?) hl
      simpa using this
    rw [edges_get] at hw
    obtain ⟨o, ho, rfl⟩ := Option.map_eq_some_iff.1 hw
    have ho' : all[acc.length]? = some o := by simpa using ho
    have key := prs_spec l (app acc [orE acc (edgesOf o) 0]) (by
      rw [app_eq]
      have := congrArg List.tail hl
      simpa using this) (by
      intro i x k hx hk
      rw [app_eq] at hx
      rcases Nat.lt_or_ge i acc.length with hi | hi
      · rw [List.getElem?_append_left hi] at hx
        exact h i x k hx hk
      · rw [List.getElem?_append_right hi] at hx
        cases hq : i - acc.length with
        | succ q => rw [hq] at hx; simp at hx
        | zero =>
          have hi' : i = acc.length := by omega
          subst hi'
          rw [hq] at hx; simp at hx; subst hx
          rcases orE_spec _ _ hk with h0 | ⟨j, hj, h2⟩
          · rw [tb_zero] at h0; simp at h0
          · obtain ⟨e, he, hb, rfl⟩ := edgesOf_mem hj
            rcases h2 with rfl | ⟨y, hy, hyk⟩
            · exact .edge ho' he hb
            · rw [nth_eq] at hy
              exact .more ho' he hb (h _ y k hy hyk))
    have e : prs acc (edgesOf o :: l) = prs (app acc [orE acc (edgesOf o) 0]) l := rfl
    rw [e]
    refine ⟨key.1, ?_⟩
    rw [key.2, app_eq]; simp; omega
theorem edges_len : ∀ l : List Oper, (edges l).length = l.length
  | [] => rfl
  | o :: l => by simp [edges, edges_len l]
theorem preds_spec {i x k : Nat} (h : (preds all)[i]? = some x) (hk : tb x k = true) : Wt all i k :=
  (prs_spec _ [] rfl (fun i x k h => by simp at h)).1 i x k h hk
theorem preds_len : (preds all).length = all.size := by
  have := (prs_spec (all := all) (edges all.toList) [] rfl (fun i x k h => by simp at h)).2
  unfold preds
  rw [this, edges_len]; simp
theorem backW_spec {i : Nat} : ∀ {w : List Nat}, backW i w = true → ∀ j ∈ w, j < i
  | [], _, j, h => by simp at h
  | x :: w, h, j, hj => by
    simp only [backW] at h
    split at h
    · rename_i hx
      rcases List.mem_cons.1 hj with rfl | hj
      · exact blt_lt hx
      · exact backW_spec h j hj
    · simp at h
theorem backL_spec : ∀ {l : List (List Nat)} {i : Nat}, backL l i = true → ∀ (j : Nat) w, l[j]? = some w → ∀ x ∈ w, x < i + j
  | [], i, _, j, w, h => by simp at h
  | u :: l, i, h, j, w, hj => by
    simp only [backL] at h
    split at h
    · rename_i hu
      cases j with
      | zero => simp at hj; subst hj; exact backW_spec hu
      | succ j =>
        intro x hx
        have := backL_spec h j w (by simpa using hj) x hx
        omega
    · simp at h
theorem back_spec (h : backL (edges all.toList) 0 = true) (i : Nat) (o : Oper) (e : Edge) (ho : all[i]? = some o) (he : e ∈ o.after) (hb : Region.binds .any e = true) : e.on < i := by
  have := backL_spec h i (edgesOf o) (by rw [edges_get]; simp [ho]) e.on (mem_edgesOf he hb)
  omega
/-! What is apart -/
theorem maskO_spec {t : Nat} : ∀ (l : List Operand) (m : Nat), (tb m t = true ∨ Operand.tmp t ∈ l) → tb (maskO l m) t = true
  | [], m, h => by rcases h with h | h; exact h; simp at h
  | x :: l, m, h => by
    cases x with
    | tmp t' =>
      show tb (maskO l (Nat.lor m (Nat.shiftLeft 1 t'))) t = true
      refine maskO_spec l _ ?_
      rcases h with h | h
      · left; rw [tb_or, h]; rfl
      · rcases List.mem_cons.1 h with h | h
        · left
          injection h with h
          rw [tb_or, (tb_bit t' t).2 h]; simp
        · exact .inr h
    | const v => exact maskO_spec l m (by rcases h with h | h; exact .inl h; exact .inr (by simpa using h))
    | global g => exact maskO_spec l m (by rcases h with h | h; exact .inl h; exact .inr (by simpa using h))
    | func g => exact maskO_spec l m (by rcases h with h | h; exact .inl h; exact .inr (by simpa using h))
theorem maskD_spec {o : Oper} {t : Nat} (h : o.dst = some t) : tb (maskD o) t = true := by
  unfold maskD
  rw [h]
  exact (tb_bit t t).2 rfl
theorem maskN_spec {o : Oper} {t : Nat} (h : Operand.tmp t ∈ o.op.operands.toList ∨ gTmp all o t ∨ o.dst = some t) : tb (maskN all.toList o) t = true := by
  unfold maskN
  refine maskO_spec _ _ ?_
  rcases h with h | ⟨j, b, q, h1, h2, h3⟩ | h
  · exact .inr h
  · left
    rw [tb_or]
    have : tb (maskG all.toList o) t = true := by
      unfold maskG
      rw [h1]
      have : nth all.toList j = some q := by rw [nth_eq]; simpa using h2
      simp only [this]
      exact maskD_spec h3
    rw [this]; simp
  · left
    rw [tb_or, maskD_spec h]; rfl
theorem ahead_spec {p : Nat} : ∀ (l : List (Nat × Nat)) (j a b : Nat), (∀ t, tb a t = true → tb (ahead p l j a b).1 t = true) ∧ (∀ t, tb b t = true → tb (ahead p l j a b).2 t = true) ∧
    ∀ (i : Nat) d n, l[i]? = some (d, n) → tb p (j + i) = false → (∀ t, tb d t = true → tb (ahead p l j a b).1 t = true) ∧ ∀ t, tb n t = true → tb (ahead p l j a b).2 t = true
  | [], j, a, b => ⟨fun _ h => h, fun _ h => h, fun i d n h => by simp at h⟩
  | (d0, n0) :: l, j, a, b => by
    simp only [ahead]
    split
    · rename_i hp
      obtain ⟨h1, h2, h3⟩ := ahead_spec (p := p) l (j + 1) a b
      refine ⟨h1, h2, fun i d n hi hpi => ?_⟩
      cases i with
      | zero => rw [Nat.add_zero] at hpi; rw [hp] at hpi; simp at hpi
      | succ i => exact h3 i d n (by simpa using hi) (by rw [show j + 1 + i = j + (i + 1) from by omega]; exact hpi)
    · obtain ⟨h1, h2, h3⟩ := ahead_spec (p := p) l (j + 1) (Nat.lor a d0) (Nat.lor b n0)
      refine ⟨fun t ht => h1 t (by rw [tb_or, ht]; rfl), fun t ht => h2 t (by rw [tb_or, ht]; rfl), fun i d n hi hpi => ?_⟩
      cases i with
      | zero =>
        simp at hi
        obtain ⟨rfl, rfl⟩ := hi
        exact ⟨fun t ht => h1 t (by rw [tb_or, ht]; simp), fun t ht => h2 t (by rw [tb_or, ht]; simp)⟩
      | succ i => exact h3 i d n (by simpa using hi) (by rw [show j + 1 + i = j + (i + 1) from by omega]; exact hpi)
theorem apart_spec : ∀ (l : List Oper) (ps : List Nat) (acc : List (Nat × Nat)), apart all.toList acc l ps = true → all.toList.drop acc.length = l → (∀ (j : Nat) x, acc[j]? = some x → ∃ o, all[j]? = some o ∧ x = (maskD o, maskN all.toList o)) →
    ∀ (i j : Nat) o q p, acc.length ≤ i → j < i → all[i]? = some o → all[j]? = some q → ps[i - acc.length]? = some p → tb p j = false → (∀ t, tb (maskD q) t = true → tb (maskN all.toList o) t = true → False) ∧ ∀ t, tb (maskN all.toList q) t = true → tb (maskD o) t = true → False
  | [], ps, acc, h, hl, ha, i, j, o, q, p, hi, hj, ho, hq, hp, ht => by
    exfalso
    have h1 : all.toList.length ≤ acc.length := by
      have := congrArg List.length hl
      rw [List.length_drop] at this
      simp only [List.length_nil] at this
      omega
    have := (Array.getElem?_eq_some_iff.1 ho).1
    simp at h1; omega
  | o0 :: l, [], acc, h, hl, ha, i, j, o, q, p, hi, hj, ho, hq, hp, ht => by simp [apart] at h
  | o0 :: l, p0 :: ps, acc, h, hl, ha, i, j, o, q, p, hi, hj, ho, hq, hp, ht => by
    have ho0 : all[acc.length]? = some o0 := by
      have := congrArg (·[0]?) hl
      simpa using this
    simp only [apart] at h
    generalize hA : ahead p0 acc 0 0 0 = ab at h
    obtain ⟨a, b⟩ := ab
    simp only at h
    split at h
    · rename_i h1
      split at h
      · rename_i h2
        rcases Nat.eq_or_lt_of_le hi with he | hlt
        · subst he
          rw [ho0] at ho; simp at ho; subst ho
          simp at hp; subst hp
          have hx : ∃ x, acc[j]? = some x := ⟨acc[j], by simp [hj]⟩
          obtain ⟨x, hx⟩ := hx
          obtain ⟨q', g1, g2⟩ := ha j x hx
          rw [hq] at g1; simp at g1; subst g1
          subst g2
          obtain ⟨k1, k2⟩ := (ahead_spec (p := p0) acc 0 0 0).2.2 j _ _ hx (by rw [Nat.zero_add]; exact ht)
          rw [hA] at k1 k2
          exact ⟨fun t e1 e2 => tb_apart h1 (k1 t e1) e2, fun t e1 e2 => tb_apart h2 (k2 t e1) e2⟩
        · refine apart_spec l ps (app acc [(maskD o0, maskN all.toList o0)]) h ?_ ?_ i j o q p ?_ hj ho hq ?_ ht
          · rw [app_eq]
            have := congrArg List.tail hl
            simpa using this
          · intro j x hx
            rw [app_eq] at hx
            rcases Nat.lt_or_ge j acc.length with hj' | hj'
            · rw [List.getElem?_append_left hj'] at hx
              exact ha j x hx
            · rw [List.getElem?_append_right hj'] at hx
              cases hq' : j - acc.length with
              | succ n => rw [hq'] at hx; simp at hx
              | zero =>
                have : j = acc.length := by omega
                subst this
                rw [hq'] at hx; simp at hx
                exact ⟨o0, ho0, hx.symm⟩
          · rw [app_eq]; simp; omega
          · rw [app_eq]
            have : i - acc.length = (i - (acc.length + 1)) + 1 := by omega
            rw [this] at hp
            simpa using hp
      · simp at h
    · simp at h
theorem drawOk_spec (h : drawOk all = true) : backL (edges all.toList) 0 = true ∧ noDef all.toList = true ∧ apart all.toList [] all.toList (preds all) = true := by
  unfold drawOk at h
  split at h
  · exact ⟨by assumption, by assumption, h⟩
  · simp at h
theorem draw_apart (h : drawOk all = true) (i j t : Nat) (hi : i < all.size) (hj : j < all.size) (hne : i ≠ j) (hd : Td all j t) (hn : Nm all i t) : Wt all i j ∨ Wt all j i := by
  obtain ⟨h1, h2, h3⟩ := drawOk_spec h
  obtain ⟨q, g1, g2⟩ := hd
  obtain ⟨o, k1, k2⟩ := hn
  have key := apart_spec _ _ _ h3 rfl (fun j x hx => by simp at hx)
  rcases Nat.lt_or_ge j i with hlt | hge
  · have hp : (preds all)[i]? = some ((preds all)[i]'(by rw [preds_len]; exact hi)) := by simp
    cases hq : tb ((preds all)[i]'(by rw [preds_len]; exact hi)) j with
    | true => exact .inl (preds_spec hp hq)
    | false => exact ((key i j o q _ (by simp) hlt k1 g1 (by simpa using hp) hq).1 t (maskD_spec g2) (maskN_spec k2)).elim
  · have hlt : i < j := by omega
    have hp : (preds all)[j]? = some ((preds all)[j]'(by rw [preds_len]; exact hj)) := by simp
    cases hq : tb ((preds all)[j]'(by rw [preds_len]; exact hj)) i with
    | true => exact .inr (preds_spec hp hq)
    | false => exact ((key j i q o _ (by simp) hlt g1 k1 (by simpa using hp) hq).2 t (maskN_spec k2) (maskD_spec g2)).elim
theorem noDef_spec : ∀ {l : List Oper}, noDef l = true → ∀ o ∈ l, ∀ c, o.op ≠ .defer c
  | [], _, o, h, c => by simp at h
  | x :: l, h, o, ho, c => by
    simp only [noDef] at h
    split at h
    · simp at h
    · rename_i hx
      rcases List.mem_cons.1 ho with rfl | ho
      · exact fun e => hx c e
      · exact noDef_spec h o ho c
end
end Go.X
end
