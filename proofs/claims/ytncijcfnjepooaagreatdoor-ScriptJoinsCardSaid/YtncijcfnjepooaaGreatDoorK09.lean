/-
  A part of the proof of ScriptJoins: no statement of the seat is proved here.
-/
import Derived.Test.YtncijcfnjepooaaGreatDoorK08
set_option linter.unusedVariables false
set_option linter.unusedSimpArgs false
set_option linter.unnecessarySimpa false
set_option linter.unusedSectionVars false
set_option linter.constructorNameAsVariable false
set_option linter.deprecated false
section
set_option linter.unusedVariables false
namespace Go.X
open Go Go.RowKit
/-! Names that go over, memory that is sealed -/
/-- Names below m stay; others go over by a list (old, new). -/
def Rn (m : Nat) (rn : List (Nat × Nat)) (n k : Nat) : Prop := (n < m ∧ k = n) ∨ (n, k) ∈ rn
structure G (m : Nat) (rn : List (Nat × Nat)) (sl : List (Nat × List Value)) (M M1 : Cx) : Prop where
  n : ∀ n k L, Rn m rn n k → M n = some L → M1 k = some L
  s : ∀ b i v, M.S b i = some v → M1.S b i = some v
  sld : ∀ n c, (n, c) ∈ sl → ∃ L c', M n = some L ∧ VRL M1 c c' ∧ (∀ v ∈ c, of1 v = true) ∧ Sld M1 L.b L.s c'
section
variable {P : Program} {m n : Nat} {rn : List (Nat × Nat)} {sl : List (Nat × List Value)} {v v1 : Value}
/-- What a value becomes. -/
def RV (m : Nat) (rn : List (Nat × Nat)) (sl : List (Nat × List Value)) (v1 v : Value) : Prop := ∀ M M1 v', G m rn sl M M1 → VR M v v' → VR M1 v1 v'
def RVL (m : Nat) (rn : List (Nat × Nat)) (sl : List (Nat × List Value)) : List Value → List Value → Prop
  | [], [] => True
  | v1 :: l1, v :: l => RV m rn sl v1 v ∧ RVL m rn sl l1 l
  | _, _ => False
theorem RV.of (h : of1 v = true) : RV m rn sl v v := fun M M1 v' g k => k.base g.s h
theorem RV.jnk (v : Value) : RV m rn sl jnk v := fun M M1 v' g k => .junk v'
theorem RVL.vrl {M M1 : Cx} (g : G m rn sl M M1) : ∀ {l1 l l' : List Value}, RVL m rn sl l1 l → VRL M l l' → VRL M1 l1 l'
  | [], [], _, _, .nil => .nil
  | v1 :: l1, v :: l, _, h, .cons a b => .cons (h.1 M M1 _ g a) (RVL.vrl g h.2 b)
theorem RVL.of : ∀ {l : List Value}, (∀ v ∈ l, of1 v = true) → RVL m rn sl l l
  | [], _ => trivial
  | v :: l, h => ⟨RV.of (h v (List.mem_cons_self ..)), RVL.of fun u hu => h u (List.mem_cons_of_mem _ hu)⟩
theorem RVL.length : ∀ {l1 l : List Value}, RVL m rn sl l1 l → l1.length = l.length
  | [], [], _ => rfl
  | v1 :: l1, v :: l, h => by simp [RVL.length h.2]
theorem RV.agg {c1 c : List Value} (h : RVL m rn sl c1 c) (ho : ∀ v ∈ c1, one v = true) : RV m rn sl (.agg ⟨c1⟩) (.agg ⟨c⟩) := fun M M1 v' g k => by
  cases k with
  | agg a b => exact .agg (h.vrl g a) ho
theorem RV.tup {c1 c : List Value} (h : RVL m rn sl c1 c) : RV m rn sl (.tuple ⟨c1⟩) (.tuple ⟨c⟩) := fun M M1 v' g k => by
  obtain ⟨c', rfl, a⟩ := tup_inv k
  exact .tup (h.vrl g a)
theorem RV.ptr {n k off : Nat} (h : Rn m rn n k) : RV m rn sl (.pointer (some ⟨k, off, none⟩)) (.pointer (some ⟨n, off, none⟩)) := fun M M1 v' g q => by
  cases q with
  | ptr off e => exact .ptr off (g.n _ _ _ h e)
theorem RV.map {n k : Nat} (h : Rn m rn n k) : RV m rn sl (.map (some k)) (.map (some n)) := fun M M1 v' g q => by
  cases q with
  | map e => exact .map (g.n _ _ _ h e)
theorem RV.slc {n k off l c : Nat} (h : Rn m rn n k) : RV m rn sl (.slice (some ⟨k, off, none⟩) l c) (.slice (some ⟨n, off, none⟩) l c) := fun M M1 v' g q => by
  cases q with
  | sl e s => exact .sl (g.n _ _ _ h e) s
theorem RV.func {f : Nat} {a a1 b b1 : List Value} (h : RVL m rn sl a1 a) (k : RVL m rn sl b1 b) : RV m rn sl (.func (.func f) ⟨a1⟩ ⟨b1⟩) (.func (.func f) ⟨a⟩ ⟨b⟩) := fun M M1 v' g q => by
  cases q with
  | func f x y => exact .func f (h.vrl g x) (k.vrl g y)
theorem RV.iface {t : TypeId} (h : RV m rn sl v1 v) : RV m rn sl (.iface t v1) (.iface t v) := fun M M1 v' g q => by
  cases q with
  | iface t a => exact .iface t (h M M1 _ g a)
theorem RV.rsl {n off l cp : Nat} {c : List Value} (h : (n, c) ∈ sl) (hl : l ≤ cp) : RV m rn sl (slv 0 c off l) (.slice (some ⟨n, off, none⟩) l cp) := fun M M1 v' g q => by
  cases q with
  | sl e s =>
    rename_i L off' c'
    obtain ⟨L', c2, h1, h2, h3, h4⟩ := g.sld n c h
    rw [e] at h1; simp at h1; subst h1
    by_cases h0 : l = 0
    · subst h0
      exact .rsl0 (a := some (L.b, L.s + off')) (by omega) (by simp)
    · have hoff : off' = off ∧ cp ≤ c' := by
        rcases s with ⟨h1, h2⟩ | ⟨_, _, _, h1, h2 | ⟨h2, _⟩, _⟩
        · exact ⟨h1, by omega⟩
        · exact ⟨h2, h1⟩
        · exact absurd h2 h0
      obtain ⟨rfl, hc⟩ := hoff
      exact .rsl h2 h3 h4 (by omega) (by omega) (by simp)
/-- What an object becomes. -/
def RObj (m : Nat) (rn : List (Nat × Nat)) (sl : List (Nat × List Value)) (o1 o : Ob) : Prop := ∀ P M M1 L w, G m rn sl M M1 → ObR P M L w o → ObR P M1 L w o1
theorem RObj.cells {c1 c : List Value} {k : Nat} {T : TypeId} {g : Bool} (h : RVL m rn sl c1 c) (ho : ∀ v ∈ c1, one v = true) : RObj m rn sl (.cells c1 k T g) (.cells c k T g) := fun P M M1 L w gg q => by
  obtain ⟨h1, h2, cs, T', fr, h3, h4, h5, h6⟩ := q
  have hl := h.length
  refine ⟨by omega, ho, cs, T', fr, h3, fun i v e => ?_, fun i hi => h5 i (by omega), h6⟩
  have key : ∀ (l1 l : List Value) (j : Nat), RVL m rn sl l1 l → (∀ i v, l[i]? = some v → ∃ v', cs[j + i]? = some v' ∧ VR M v v') → ∀ i v, l1[i]? = some v → ∃ v', cs[j + i]? = some v' ∧ VR M1 v v' := by
    intro l1
    induction l1 with
    | nil => intro l j _ _ i v e; simp at e
    | cons u1 l1 ih =>
      intro l j hr hc i v e
      cases l with
      | nil => exact hr.elim
      | cons u l =>
        cases i with
        | zero =>
          simp at e; subst e
          obtain ⟨v', a, b⟩ := hc 0 u (by simp)
          exact ⟨v', a, hr.1 M M1 v' gg b⟩
        | succ i =>
          obtain ⟨v', a, b⟩ := ih l (j + 1) hr.2 (fun i v e => by
            obtain ⟨v', a, b⟩ := hc (i + 1) v (by simpa using e)
            exact ⟨v', by rw [show j + 1 + i = j + (i + 1) from by omega]; exact a, b⟩) i v (by simpa using e)
          exact ⟨v', by rw [show j + (i + 1) = j + 1 + i from by omega]; exact a, b⟩
  exact key c1 c L.s h h4 i v e
theorem RObj.same {c : List Value} {k : Nat} {T : TypeId} {g : Bool} (h : ∀ v ∈ c, of1 v = true) : RObj m rn sl (.cells c k T g) (.cells c k T g) := RObj.cells (RVL.of h) fun v hv => of1_one (h v hv)
/-- Entries of a map. -/
def REL (m : Nat) (rn : List (Nat × Nat)) (sl : List (Nat × List Value)) : List MapEntry → List MapEntry → Prop
  | [], [] => True
  | e1 :: l1, e :: l => (e1.key = e.key ∧ e1.born = e.born ∧ RV m rn sl e1.val e.val) ∧ REL m rn sl l1 l
  | _, _ => False
theorem RObj.map {es1 es : List MapEntry} {ck : Nat} (h : REL m rn sl es1 es) : RObj m rn sl (.map es1 ck) (.map es ck) := fun P M M1 L w gg q => by
  obtain ⟨es', h1, h2⟩ := q
  refine ⟨es', h1, ?_⟩
  have key : ∀ (l1 l l' : List MapEntry), REL m rn sl l1 l → ERL M l l' → ERL M1 l1 l' := by
    intro l1
    induction l1 with
    | nil =>
      intro l l' hr hl
      cases l with
      | nil => exact ⟨hl.1, fun i e e' a _ => by simp at a⟩
      | cons _ _ => exact hr.elim
    | cons u1 l1 ih =>
      intro l l' hr hl
      cases l with
      | nil => exact hr.elim
      | cons u l =>
        cases l' with
        | nil => have := hl.1; simp at this
        | cons u' l' =>
          have h0 := hl.2 0 u u' (by simp) (by simp)
          obtain ⟨t1, t2⟩ := ih l l' hr.2 ⟨by have := hl.1; simpa using this, fun i e e' a b => hl.2 (i + 1) e e' (by simpa using a) (by simpa using b)⟩
          refine ⟨by simp [t1], fun i e e' a b => ?_⟩
          cases i with
          | zero =>
            simp at a b; subst a; subst b
            obtain ⟨⟨q1, q2, q3⟩, _⟩ := hr
            exact ⟨by rw [q1]; exact h0.key, by rw [q1]; exact h0.nad, by rw [q2]; exact h0.born, q3 M M1 _ gg h0.val⟩
          | succ i => exact t2 i e e' (by simpa using a) (by simpa using b)
  exact key es1 es es'.toList h h2
theorem RObj.iter {b : ByteArray} {p : Nat} : RObj m rn sl (.iter b p) (.iter b p) := fun P M M1 L w gg q => q
/-- A state becomes another one. -/
structure Mv (m : Nat) (rn : List (Nat × Nat)) (sl : List (Nat × List Value)) (s s1 : XS) : Prop where
  fre : Fre s1
  le : m ≤ s1.nx
  nam : ∀ n k, (n, k) ∈ rn → m ≤ n ∧ m ≤ k ∧ k < s1.nx
  inj : ∀ n n' k, (n, k) ∈ rn → (n', k) ∈ rn → n = n'
  inj2 : ∀ n k k', (n, k) ∈ rn → (n, k') ∈ rn → k = k'
  ob : ∀ k o1, look [] s1 k = some o1 → ∃ n o, Rn m rn n k ∧ look [] s n = some o ∧ RObj m rn sl o1 o
  sld : ∀ n c, (n, c) ∈ sl → (∃ j T g, look [] s n = some (.cells c j T g)) ∧ (∀ v ∈ c, of1 v = true) ∧ ∀ k o, Rn m rn n k → look [] s1 k = some o → False
/-- A cell that is sealed now. -/
def InS (sl : List (Nat × List Value)) (M : Cx) (b i : Nat) : Prop := ∃ n c L, (n, c) ∈ sl ∧ M n = some L ∧ L.b = b ∧ L.s ≤ i ∧ i < L.s + c.length
open Classical in
noncomputable def mvM (m : Nat) (rn : List (Nat × Nat)) (sl : List (Nat × List Value)) (M : Cx) (w : World) : Cx where
  f k := if k < m then M k else match rn.find? (fun p => p.2 == k) with
    | some p => M p.1
    | none => none
  S b i := if InS sl M b i then (match w.heap[b]? with
    | some (.cells cs _ _) => cs[i]?
    | _ => none) else M.S b i
theorem mvM_in {M : Cx} {w : World} {b i : Nat} (h : InS sl M b i) : (mvM m rn sl M w).S b i = match w.heap[b]? with
    | some (.cells cs _ _) => cs[i]?
    | _ => none := if_pos h
theorem mvM_out {M : Cx} {w : World} {b i : Nat} (h : ¬ InS sl M b i) : (mvM m rn sl M w).S b i = M.S b i := if_neg h
theorem mvM_rn {s s1 : XS} (h : Mv m rn sl s s1) (M : Cx) (w : World) {n k : Nat} (hr : Rn m rn n k) : (mvM m rn sl M w) k = M n := by
  show (if k < m then M k else match rn.find? (fun p => p.2 == k) with
    | some p => M p.1
    | none => none) = M n
  rcases hr with ⟨h1, rfl⟩ | h1
  · rw [if_pos h1]
  · obtain ⟨h2, h3, _⟩ := h.nam n k h1
    rw [if_neg (by omega)]
    cases q : rn.find? (fun p => p.2 == k) with
    | none =>
      have := List.find?_eq_none.1 q (n, k) h1
      simp at this
    | some p =>
      have h4 := List.find?_some q
      have h5 := List.mem_of_find?_eq_some q
      obtain ⟨n', k'⟩ := p
      simp at h4
      subst h4
      rw [h.inj n n' k' h1 h5]
theorem Mv.hs {M0 M : Cx} {h0 : Hp} {w0 w : World} {s s1 : XS} (hi : HS P m M0 h0 w0 M s w) (hg : P.globals.size ≤ m) (h : Mv m rn sl s s1) : ∃ M1, HS P m M0 h0 w0 M1 s1 w ∧ G m rn sl M M1 := by
  have hw := hi.wr
  have hrn := fun {n k : Nat} (hr : Rn m rn n k) => mvM_rn h M w hr
  have hS : ∀ b i v, M.S b i = some v → (mvM m rn sl M w).S b i = some v := by
    intro b i v e
    rw [mvM_out]
    · exact e
    · rintro ⟨n, c, L, h1, h2, h3, _⟩
      obtain ⟨⟨j, T, g, h4⟩, _⟩ := h.sld n c h1
      have := hw.apart n _ L i h4 h2
      rw [h3, e] at this; simp at this
  have hG : G m rn sl M (mvM m rn sl M w) := by
    refine ⟨fun n k L hr e => by rw [hrn hr]; exact e, hS, fun n c hm => ?_⟩
    obtain ⟨⟨j, T, g, h4⟩, h5, _⟩ := h.sld n c hm
    obtain ⟨L, hL, _⟩ := hw.live n _ h4
    obtain ⟨hj, hrow⟩ := own_row hw h4 hL
    obtain ⟨l', g1, g2⟩ := hrow.part c.length 0 (by omega)
    simp only [List.drop_zero, List.take_length, Nat.add_zero] at g1 g2
    refine ⟨L, l', hL, g1.base hS h5, h5, fun i v e => ?_⟩
    have hlen := g1.length
    have hi' := (List.getElem?_eq_some_iff.1 e).1
    rw [mvM_in ⟨n, c, L, hm, hL, rfl, by omega, by omega⟩]
    have := g2 i v e
    unfold World.cell? at this
    split at this <;> simp_all
  refine ⟨mvM m rn sl M w, ?_, hG⟩
  have back : ∀ k L, m ≤ k → (mvM m rn sl M w) k = some L → ∃ n, (n, k) ∈ rn ∧ M n = some L := by
    intro k L hk e
    have e2 : (if k < m then M k else match rn.find? (fun p => p.2 == k) with
      | some p => M p.1
      | none => none) = some L := e
    rw [if_neg (by omega)] at e2
    cases q : rn.find? (fun p => p.2 == k) with
    | none => rw [q] at e2; simp at e2
    | some p =>
      rw [q] at e2
      have h4 := List.find?_some q
      have h5 := List.mem_of_find?_eq_some q
      obtain ⟨n', k'⟩ := p
      simp at h4
      subst h4
      exact ⟨n', h5, e2⟩
  have low : ∀ k, k < m → (mvM m rn sl M w) k = M k := fun k hk => hrn (.inl ⟨hk, rfl⟩)
  refine ⟨h.fre, h.le, ?_, ?_, fun k hk => by rw [low k hk]; exact hi.lent k hk, ?_, ?_, fun b i v e => hS b i v (hi.sx b i v e), ?_, hi.keep, hi.kept⟩
  · refine ⟨fun b i v e => ?_, fun k o1 L i e hL => ?_, fun k o1 e => ?_, fun k k' o1 o2 L K e1 e2 hL hK hb => ?_, fun g hgs => by rw [low g (by omega)]; exact hw.glob g hgs, hw.amb.mono hS⟩
    · by_cases q : InS sl M b i
      · rw [mvM_in q] at e
        split at e
        · rename_i cs T fr hb; exact ⟨cs, T, fr, hb, e⟩
        · simp at e
      · rw [mvM_out q] at e
        exact hw.rows b i v e
    · obtain ⟨n, o, hr, hl, _⟩ := h.ob k o1 e
      rw [hrn hr] at hL
      rw [mvM_out]
      · exact hw.apart n o L i hl hL
      · rintro ⟨n', c, L', h1, h2, h3, _⟩
        obtain ⟨⟨j, T, g, h4⟩, _, h5⟩ := h.sld n' c h1
        obtain rfl := hw.inj n' n _ o L' L h4 hl h2 hL h3
        exact h5 k o1 hr e
    · obtain ⟨n, o, hr, hl, hro⟩ := h.ob k o1 e
      obtain ⟨L, h1, h2⟩ := hw.live n o hl
      exact ⟨L, by rw [hrn hr]; exact h1, hro P M _ L w hG h2⟩
    · obtain ⟨n, o, hr, hl, _⟩ := h.ob k o1 e1
      obtain ⟨n', o', hr', hl', _⟩ := h.ob k' o2 e2
      rw [hrn hr] at hL
      rw [hrn hr'] at hK
      obtain rfl := hw.inj n n' o o' L K hl hl' hL hK hb
      rcases hr with ⟨a, rfl⟩ | a
      · rcases hr' with ⟨b, rfl⟩ | b
        · rfl
        · have := (h.nam _ _ b).1; omega
      · rcases hr' with ⟨b, rfl⟩ | b
        · have := (h.nam _ _ a).1; omega
        · exact h.inj2 n k k' a b
  · intro k hk
    cases q : (mvM m rn sl M w) k with
    | none => rfl
    | some L =>
      obtain ⟨n, h1, _⟩ := back k L (by have := h.le; omega) q
      have := (h.nam n k h1).2.2
      omega
  · intro k o hk e
    obtain ⟨n, o', hr, hl, _⟩ := h.ob k o e
    rcases hr with ⟨a, rfl⟩ | a
    · exact hi.dom _ o' a hl
    · have := (h.nam n k a).2.1; omega
  · intro k L hk e
    obtain ⟨n, h1, h2⟩ := back k L hk e
    exact hi.far n L (h.nam n k h1).1 h2
  · intro b i v e
    by_cases q : InS sl M b i
    · obtain ⟨n, c, L, h1, h2, h3, _⟩ := q
      obtain ⟨⟨j, T, g, h4⟩, _⟩ := h.sld n c h1
      exact .inr (by rw [← h3]; exact hi.blk h4 h2)
    · rw [mvM_out q] at e
      exact hi.sl b i v e
/-- What deferred calls become. -/
def RDL (m : Nat) (rn : List (Nat × Nat)) (sl : List (Nat × List Value)) (d1 d : List Deferred) : Prop := ∀ M M1 d', G m rn sl M M1 → DRL M d d' → DRL M1 d1 d'
theorem RDL.nil : RDL m rn sl [] [] := fun M M1 d' g h => by cases h; exact .nil
theorem RDL.of {d : List Deferred} (h : d = []) : RDL m rn sl d d := by subst h; exact RDL.nil
theorem RDL.one {g : Nat} {cap cap1 args args1 : List Value} (h : RVL m rn sl cap1 cap) (k : RVL m rn sl args1 args) : RDL m rn sl [⟨.fn (.func g) ⟨cap1⟩, ⟨args1⟩⟩] [⟨.fn (.func g) ⟨cap⟩, ⟨args⟩⟩] := fun M M1 d' gg q => by
  cases q with
  | cons a b =>
    cases b
    obtain ⟨g', c, c', e1, e2, e3, e4⟩ := a
    simp at e1
    obtain ⟨rfl, rfl⟩ := e1
    exact .cons ⟨g, ⟨cap1⟩, c', rfl, e2, h.vrl gg e3, k.vrl gg e4⟩ .nil
/-- Code goes on from what things have become. -/
theorem CS.move {x : Code} {f f1 : Fr} {s s1 : XS} {Q : Ex → Fr → XS → Prop} (hg : P.globals.size ≤ m) (h : Mv m rn sl s s1) (hf : ∀ t, t < n → RV m rn sl (ev f1.tm (.tmp t)) (ev f.tm (.tmp t))) (hd : RDL m rn sl f1.df f.df) (k : CS P m n x f1 s1 Q) : CS P m n x f s Q := by
  intro hc hn M0 h0 w0 M a w R hi ha hR
  obtain ⟨M1, h1, h2⟩ := h.hs hi hg
  exact k hc hn M0 h0 w0 M1 a w R h1 ⟨ha.size, fun t ht => hf t ht M M1 _ h2 (ha.tm t ht), hd M M1 _ h2 ha.df⟩ hR
/-! A function's contract, by names -/
/-- How a call ends: it returns, or panics (b). -/
def End (b : Bool) (v : Value) : Ending := match b with
  | true => .panicked [{ v := v, recovered := false }]
  | false => .returned v
structure ZCb (b : Bool) (P : Program) (g : FuncId) (args : List Value) (s : XS) (v : Value) (s' : XS) : Prop where
  gl : P.globals.size ≤ s.nx
  le : s.nx ≤ s'.nx
  fre : Fre s'
  run : ∀ (M : Cx) (args' : List Value) (w : World), VRL M args args' → WR P M (look [] s) w → (∀ n, s.nx ≤ n → M n = none) → Calls P g args'.toArray w fun e w' => ∃ v' M', e = End b v' ∧ Post P M M' (look [] s) (look [] s') s.nx s'.nx w w' ∧ VR M' v v'
abbrev ZC := ZCb false
abbrev ZP := ZCb true
theorem ZC.body {g : FuncId} {fn : Func} {c : Code} {args : List Value} {s s' : XS} (hb : body? P g = some (fn, c)) (hT : fnT P.globals.size fn c = true) (hl : Nat.ble args.length fn.ntmps = true) (hg : P.globals.size ≤ s.nx) (hle : s.nx ≤ s'.nx) (hfr : Fre s) (hfr' : Fre s')
    (h : CS P s.nx fn.ntmps c ⟨enter args 0 .e, []⟩ s fun e f1 s1 => (e = .normal ∨ e = .ret) ∧ f1.df = [] ∧ ∃ v1, r_res s1 (resV P [] s1 f1.tm fn.results.toList) = .ret v1 s1 ∧ ∃ rn sl, Mv s.nx rn sl s1 s' ∧ RV s.nx rn sl v v1) : ZC P g args s v s' := by
  refine ⟨hg, hle, hfr', fun M args' w hv hw hf => ?_⟩
  obtain ⟨hn, hc, hr⟩ := fnT_spec hT
  have hl : args.length ≤ fn.ntmps := Nat.le_of_ble_eq_true hl
  obtain ⟨b1, b2, b3⟩ := body_spec hb
  refine calls_of_wp_defers b1 b2 (h hc hn M (look [] s) w M _ w _ (HS.start hw hfr hf) (AR.enter hv hl hn) fun e f1 s1 M1 a1 w1 hi ha hq => ?_)
  obtain ⟨he, hdf, v1, hres, rn, sl, hm, hrv⟩ := hq
  obtain ⟨_, v', h1, h2⟩ := results_run hi.wr ha.size ha.tm hr hres
  obtain ⟨M2, h3, h4⟩ := hm.hs hi hg
  have hd : a1.defers = [] := by
    have := ha.df
    rw [hdf] at this
    cases hq : a1.defers with
    | nil => rfl
    | cons x l => rw [hq] at this; cases this
  have hL : Leaves P fn a1.tmps (fun e w' => ∃ v' M', e = .returned v' ∧ Post P M M' (look [] s) (look [] s') s.nx s'.nx w w' ∧ VR M' v v') a1.defers .returning w1 := by
    rw [hd]
    exact ⟨v', h1, v', M2, rfl, h3.post hw hf, hrv M1 M2 v' h4 h2⟩
  rcases he with rfl | rfl <;> exact hL
/-- A function that panics. -/
theorem ZP.body {g : FuncId} {fn : Func} {c : Code} {args : List Value} {s s' : XS} (hb : body? P g = some (fn, c)) (hT : fnT P.globals.size fn c = true) (hl : Nat.ble args.length fn.ntmps = true) (hg : P.globals.size ≤ s.nx) (hle : s.nx ≤ s'.nx) (hfr : Fre s) (hfr' : Fre s') (hv0 : nad v = true)
    (h : CS P s.nx fn.ntmps c ⟨enter args 0 .e, []⟩ s fun e f1 s1 => e = .pan v ∧ f1.df = [] ∧ ∃ rn sl, Mv s.nx rn sl s1 s') : ZP P g args s v s' := by
  refine ⟨hg, hle, hfr', fun M args' w hv hw hf => ?_⟩
  obtain ⟨hn, hc, hr⟩ := fnT_spec hT
  have hl : args.length ≤ fn.ntmps := Nat.le_of_ble_eq_true hl
  obtain ⟨b1, b2, b3⟩ := body_spec hb
  refine calls_of_wp_defers b1 b2 (h hc hn M (look [] s) w M _ w _ (HS.start hw hfr hf) (AR.enter hv hl hn) fun e f1 s1 M1 a1 w1 hi ha hq => ?_)
  obtain ⟨rfl, hdf, rn, sl, hm⟩ := hq
  obtain ⟨M2, h3, h4⟩ := hm.hs hi hg
  have hd : a1.defers = [] := by
    have := ha.df
    rw [hdf] at this
    cases hq : a1.defers with
    | nil => rfl
    | cons x l => rw [hq] at this; cases this
  have hL : Leaves P fn a1.tmps (fun e w' => ∃ v' M', e = End true v' ∧ Post P M M' (look [] s) (look [] s') s.nx s'.nx w w' ∧ VR M' v v') a1.defers (.panicking [{ v := v, recovered := false }]) w1 := by
    rw [hd]
    exact ⟨v, M2, rfl, h3.post hw hf, nad_VR hv0⟩
  exact hL
end
end Go.X
end
section
set_option linter.unusedVariables false
namespace Go.X
open Go Go.RowKit
/-! The executor's run as a proposition: what computes is computed, what is open is asked -/
inductive WIf (b : Bool) (A B : Prop) : Prop
  | t : b = true → A → WIf b A B
  | f : b = false → B → WIf b A B
theorem WIf.c {b : Bool} {A B : Prop} (h : b = true → A) (k : b = false → B) : WIf b A B := by
  cases b
  · exact .f rfl (k rfl)
  · exact .t rfl (h rfl)
/-- An index within bounds. -/
structure WI (v : Value) (n : Nat) (K : Nat → Prop) : Prop where
  o : ∃ j : Nat, intV v = some (j : Int) ∧ j < n ∧ K j
/-- A part of a row. -/
structure WP (P : Program) (T : TypeId) (c : List Value) (m off : Nat) (K : Value → Prop) : Prop where
  o : ∃ v, partV P T c m off = some v ∧ K v
/-- There is room. -/
structure WL (a b : Nat) (K : Prop) : Prop where
  l : a ≤ b
  k : K
/-- So it is. -/
structure WE (b : Bool) (K : Prop) : Prop where
  e : b = true
  k : K
/-- An answer that is asked for. -/
structure WQ (r : OR) (K : OR → Prop) : Prop where
  o : ∃ r', r = r' ∧ K r'
/-- A call's answer. -/
def TC (P : Program) (B : Ban) (lo : Nat) (g : FuncId) (args : List Value) (s : XS) (v : Value) (s' : XS) : Prop := TS P 0 (.call g args) B lo s (.ret v s')
/-- A call's answer, or that it panics (b). -/
def TCb (b : Bool) (P : Program) (B : Ban) (lo : Nat) (g : FuncId) (args : List Value) (s : XS) (v : Value) (s' : XS) : Prop := Fre s → SF B lo s s' ∧ ∀ (M : Cx) (args' : List Value) (w : World), VRL M args args' → WR P M (look B s) w → Fresh M s.nx s'.nx → Calls P g args'.toArray w fun e w' => ∃ v' M', e = End b v' ∧ Post P M M' (look B s) (look B s') s.nx s'.nx w w' ∧ VR M' v v'
/-- A call panics. -/
def TP (P : Program) (B : Ban) (lo : Nat) (g : FuncId) (args : List Value) (s : XS) (v : Value) (s' : XS) : Prop := Fre s → SF B lo s s' ∧ ∀ (M : Cx) (args' : List Value) (w : World), VRL M args args' → WR P M (look B s) w → Fresh M s.nx s'.nx → Calls P g args'.toArray w fun e w' => ∃ M', e = .panicked [{ v := v, recovered := false }] ∧ Post P M M' (look B s) (look B s') s.nx s'.nx w w'
theorem TP.of {P : Program} {B : Ban} {lo : Nat} {g : FuncId} {args : List Value} {s s' : XS} {v : Value} (h : TCb true P B lo g args s v s') (hv : nad v = true) : TP P B lo g args s v s' := fun hf =>
  ⟨(h hf).1, fun M args' w a b c => Calls.mono ((h hf).2 M args' w a b c) fun _ _ ⟨_, M', e, hp, hr⟩ => ⟨M', by rw [e, nad_eq hv hr]; rfl, hp⟩⟩
structure WC (P : Program) (B : Ban) (lo : Nat) (g : FuncId) (args : List Value) (s : XS) (K Kp : Value → XS → Prop) : Prop where
  o : (∃ v s', TC P B lo g args s v s' ∧ K v s') ∨ ∃ v s', TP P B lo g args s v s' ∧ Kp v s'
def wAns (P : Program) (B : Ban) (lo : Nat) (s : XS) (K : Value → XS → List Deferred → Prop) (Kp : Value → XS → Prop) : OR → Prop
  | .val v s' => K v s' []
  | .call g args => WC P B lo g args s (fun v s' => K v s' []) Kp
  | .dfr d => K undef s [d]
  | .bad _ => False
def wIa (P : Program) (T : TypeId) (x i : Value) (s : XS) (K : Value → XS → Prop) : Prop := match P.underlying T with
  | some (.slice E) => match szT P E with
    | some k => match x with
      | .slice (some ⟨b, off, none⟩) n _ => WI i n fun j => K (ptr b (Nat.add off (Nat.mul j k))) s
      | x => match sv x with
        | some (e, c, off, n) => match Nat.ble 2 e with
          | false => WI i n fun j => K (slv 2 c (Nat.add off (Nat.mul j k)) 0) s
          | true => False
        | none => False
    | none => False
  | some (.array n E) => match szT P E with
    | some k => match x with
      | .pointer (some ⟨b, off, none⟩) => WI i n fun j => K (ptr b (Nat.add off (Nat.mul j k))) s
      | _ => False
    | none => False
  | _ => False
def wLoad (P : Program) (B : Ban) (T : TypeId) (a : Value) (s : XS) (K : Value → XS → Prop) : Prop := match a with
  | .pointer (some ⟨n, off, none⟩) => match look B s n with
    | some (.cells c m _ _) => WP P T c m off fun v => K v s
    | some _ => False
    | none => match ro n with
      | some c => WP P T c (len c) off fun v => K v s
      | none => False
  | a => match sv a with
    | some (2, c, off, _) => WP P T c (len c) off fun v => K v s
    | _ => False
def wStore (P : Program) (B : Ban) (lo : Nat) (T : TypeId) (a v : Value) (s : XS) (K : Value → XS → Prop) : Prop := match a with
  | .pointer (some ⟨n, off, none⟩) => match look B s n, szT P T with
    | some (.cells c m e g), some k => match ntup v with
      | true => match Nat.beq (len v.cells.toList) k with
        | true => WL (Nat.add off k) m (K undef (wrt lo s n (some (.cells (ovl c off v.cells.toList) m e g))))
        | false => False
      | false => False
    | _, _ => False
  | _ => False
/-- How an operation is asked for: 0 computed, 1 its answer is asked. -/
def kindB : BinOp → Bool
  | .quo => false
  | .rem => false
  | .shl => false
  | .shr => false
  | _ => true
def kindO : Op → Bool
  | .move _ => true
  | .assign _ => true
  | .alloc _ => true
  | .box _ _ => true
  | .nilCheck _ => true
  | .fieldAddr _ _ _ => true
  | .field _ _ _ => true
  | .extract _ _ => true
  | .makeInterface _ _ => true
  | .makeFunc _ _ _ => true
  | .makeMap _ _ => true
  | .build _ _ => true
  | .buildSlice _ _ _ => true
  | .unOp _ _ _ => true
  | .binOp b _ _ _ _ => kindB b
  | .call c => match c.callee with
    | .builtin .len => false
    | .builtin _ => false
    | _ => true
  | _ => false
def wPick (c : Value) (A B : Prop) : Prop := match c with
  | .bool b => WIf b A B
  | _ => False
def wPan (v : Value) (K : Value → Prop) : Prop := match v with
  | .iface t v => match nad (.iface t v) with
    | true => K (.iface t v)
    | false => False
  | _ => False
/-- Sums of strings are asked for. -/
noncomputable def kindS (op : Op) (tm : T4 Value) : Bool := match op with
  | .binOp .add _ x _ _ => match ev tm x with
    | .string _ => false
    | _ => true
  | op => kindO op
def wOr (P : Program) (B : Ban) (lo : Nat) (o : Oper) (f : Fr) (s : XS) (K : Value → XS → List Deferred → Prop) (Kp : Value → XS → Prop) : Prop := match o.op with
  | .load T a => wLoad P B T (ev f.tm a) s fun v s => K v s []
  | .store T a x => wStore P B lo T (ev f.tm a) (ev f.tm x) s fun v s => K v s []
  | .indexAddr T x i => wIa P T (ev f.tm x) (ev f.tm i) s fun v s => K v s []
  | .pick c a b => wPick (ev f.tm c) (K (ev f.tm a) s []) (K (ev f.tm b) s [])
  | .panic x => wPan (ev f.tm x) fun v => Kp v s
  | op => match kindS op f.tm with
    | true => wAns P B lo s K Kp (opx P B lo o f.tm s)
    | false => WQ (opx P B lo o f.tm s) fun r => wAns P B lo s K Kp r
def wOp (P : Program) (all : Array Oper) (B : Ban) (lo : Nat) (o : Oper) (f : Fr) (s : XS) (K : Fr → XS → Prop) (Kp : Value → Fr → XS → Prop) : Prop := match gjunk all o.guard f.tm with
  | true => False
  | false => match o.guard with
    | none => wOr P B lo o f s (fun v s' d => K (dstF o.dst v ⟨f.tm, app d f.df⟩) s') fun v s' => Kp v f s'
    | some g => WIf (want all (some g) f.tm) (wOr P B lo o f s (fun v s' d => K (dstF o.dst v ⟨f.tm, app d f.df⟩) s') fun v s' => Kp v f s') (K (dstF o.dst undef f) s)
def wOps (P : Program) (all : Array Oper) (B : Ban) (lo : Nat) (Kp : Value → Fr → XS → Prop) : List Oper → Fr → XS → (Fr → XS → Prop) → Prop
  | [], f, s, K => K f s
  | o :: l, f, s, K => wOp P all B lo o f s (fun f s => wOps P all B lo Kp l f s K) Kp
section
variable {P : Program} {all : Array Oper} {B : Ban} {lo m n : Nat} {o : Oper} {f f' : Fr} {s s' : XS}
open Classical in
/-- One call's answer, as a sound executor of tasks. -/
noncomputable def oneK (g : FuncId) (args : List Value) (B : Ban) (lo : Nat) (s : XS) (v : Value) (s' : XS) : Tk → Ban → Nat → XS → RR := fun t B' lo' s1 =>
  if t = .call g args ∧ B' = B ∧ lo' = lo ∧ s1 = s then .ret v s' else .bad ""
theorem oneK_self {g : FuncId} {args : List Value} {v : Value} : oneK g args B lo s v s' (.call g args) B lo s = .ret v s' := if_pos ⟨rfl, rfl, rfl, rfl⟩
theorem TS.bad {N : Nat} {t : Tk} {w : String} : TS P N t B lo s (.bad w) := fun _ => by cases t <;> trivial
theorem oneK_snd {g : FuncId} {args : List Value} {v : Value} (h : TC P B lo g args s v s') (N : Nat) : KS P N (oneK g args B lo s v s') := by
  intro t B' lo' s1
  by_cases c : t = .call g args ∧ B' = B ∧ lo' = lo ∧ s1 = s
  · obtain ⟨rfl, rfl, rfl, rfl⟩ := c
    rw [oneK_self]; exact h
  · have : oneK g args B lo s v s' t B' lo' s1 = .bad "" := if_neg c
    rw [this]; exact TS.bad
theorem bad_snd (N : Nat) : KS P N fun _ _ _ _ => .bad "" := fun t B lo s => TS.bad
theorem WI_nat {v : Value} {k : Nat} {K : Nat → Prop} (h : WI v k K) : ∃ j, natV v = some j ∧ Nat.ble k j = false ∧ K j := by
  obtain ⟨j, h1, h2, h3⟩ := h.o
  refine ⟨j, ?_, ?_, h3⟩
  · unfold natV; rw [h1]
  · cases q : Nat.ble k j
    · rfl
    · have := Nat.le_of_ble_eq_true q; omega
/-- An operation that panics. -/
def OPan (P : Program) (B : Ban) (lo : Nat) (o : Oper) (f : Fr) (s : XS) (v : Value) (s' : XS) : Prop := Fre s → SF B lo s s' ∧ ∀ (M : Cx) (a : Act) (w : World) (Q : Exit → Act → World → Prop) (K : Act → World → Prop), (∀ x ∈ o.op.operands.toList, VR M (ev f.tm x) (a.eval x)) → WR P M (look B s) w → Fresh M s.nx s'.nx →
  (∀ M' w', Post P M M' (look B s) (look B s') s.nx s'.nx w w' → Q (.panic [{ v := v, recovered := false }]) a w') → o.wp P a w K Q
theorem OPan.call {g : FuncId} {args : List Value} {v : Value} (ho : opx P B lo o f.tm s = .call g args) (ht : TP P B lo g args s v s') : OPan P B lo o f s v s' := by
  intro hf
  refine ⟨(ht hf).1, fun M a w Q K hv hwr hfr hQ => ?_⟩
  have hs := opx_snd (P := P) (B := B) (lo := lo) (o := o) (tm := f.tm) (s := s)
  rw [ho] at hs
  obtain ⟨args', g1, g2⟩ := hs M a w hv
  unfold Oper.wp
  rw [g1]
  refine Calls.mono ((ht hf).2 M args'.toList w g2 hwr hfr) fun e w' he => ?_
  obtain ⟨M', rfl, g3⟩ := he
  exact hQ M' w' g3
theorem OPan.op {x : Operand} {t : TypeId} {v : Value} (ho : o.op = .panic x) (hx : ev f.tm x = .iface t v) (hn : nad (.iface t v) = true) : OPan P B lo o f s (.iface t v) s := by
  intro hf
  refine ⟨SF.refl B lo s, fun M a w Q K hv hwr hfr hQ => ?_⟩
  have h1 := hv x (by rw [ho]; simp [Op.operands])
  rw [hx] at h1
  have h1 := nad_eq hn h1
  have e : (execOp a.eval o).run P w = .halt (.panic (.iface t v)) w := by
    unfold execOp
    rw [ho]
    simp only [h1]
    rfl
  unfold Oper.wp
  rw [e]
  exact hQ M w (Post.refl _ _ hwr)
theorem wLoad_snd {K : Value → XS → List Deferred → Prop} {Kp : Value → XS → Prop} {T : TypeId} {a : Value} (h : wLoad P B T a s fun v s => K v s []) : wAns P B lo s K Kp (x_load P B T a s) := by
  unfold wLoad at h
  split at h
  · split at h
    · rename_i hl
      obtain ⟨v, h1, h2⟩ := h.o
      simp only [x_load, hl, h1]
      exact h2
    · exact h.elim
    · rename_i hl
      split at h
      · rename_i hro
        obtain ⟨v, h1, h2⟩ := h.o
        simp only [x_load, hl, hro, h1]
        exact h2
      · exact h.elim
  · split at h
    · rename_i hs
      obtain ⟨v, h1, h2⟩ := h.o
      have hs := sv_eq hs
      subst hs
      show wAns P B lo s K Kp (optV (partV P T _ (len _) _) s "load")
      rw [h1]
      exact h2
    · exact h.elim
theorem wStore_snd {K : Value → XS → List Deferred → Prop} {Kp : Value → XS → Prop} {T : TypeId} {a v : Value} (h : wStore P B lo T a v s fun v s => K v s []) : wAns P B lo s K Kp (x_store P B lo T a v s) := by
  unfold wStore at h
  split at h
  · split at h
    · rename_i h1 h2
      split at h
      · rename_i h3
        split at h
        · rename_i h4
          obtain ⟨h5, h6⟩ := h
          simp only [x_store, h1, h2, h3, h4]
          rw [Nat.ble_eq_true_of_le h5]
          exact h6
        · exact h.elim
      · exact h.elim
    · exact h.elim
  · exact h.elim
theorem wIa_snd {K : Value → XS → List Deferred → Prop} {Kp : Value → XS → Prop} {T : TypeId} {x i : Value} (h : wIa P T x i s fun v s => K v s []) : wAns P B lo s K Kp (x_ia P T x i s) := by
  unfold wIa at h
  split at h
  · rename_i hu
    split at h
    · rename_i hk
      split at h
      · obtain ⟨j, h1, h2, h3⟩ := WI_nat h
        simp only [x_ia, h1, hu, hk, h2]
        exact h3
      · split at h
        · rename_i hs
          split at h
          · rename_i he
            obtain ⟨j, h1, h2, h3⟩ := WI_nat h
            have hs := sv_eq hs
            subst hs
            simp only [x_ia, h1, hu, hk, slv, sv, sv1, he, h2]
            exact h3
          · exact h.elim
        · exact h.elim
    · exact h.elim
  · rename_i hu
    split at h
    · rename_i hk
      split at h
      · obtain ⟨j, h1, h2, h3⟩ := WI_nat h
        simp only [x_ia, h1, hu, hk, h2]
        exact h3
      · exact h.elim
    · exact h.elim
  · exact h.elim
theorem wOr_snd {K : Value → XS → List Deferred → Prop} {Kp : Value → XS → Prop} (h : wOr P B lo o f s K Kp) : (∃ k, (∀ N, KS P N k) ∧ ∃ v s' d, r_or k B lo o f s (opx P B lo o f.tm s) = .ok (dstF o.dst v ⟨f.tm, app d f.df⟩) s' ∧ K v s' d) ∨ ∃ v s', OPan P B lo o f s v s' ∧ Kp v s' := by
  by_cases hp : ∃ x, o.op = .panic x
  · obtain ⟨x, ho⟩ := hp
    unfold wOr at h
    rw [ho] at h
    have h : wPan (ev f.tm x) fun v => Kp v s := h
    unfold wPan at h
    split at h
    · rename_i hx
      split at h
      · rename_i hn
        exact .inr ⟨_, _, OPan.op ho hx hn, h⟩
      · exact h.elim
    · exact h.elim
  have h : wAns P B lo s K Kp (opx P B lo o f.tm s) := by
    have e : opx P B lo o f.tm s = opxd o.op P B lo o f.tm s := rfl
    unfold wOr at h
    split at h
    · rename_i T a ho
      rw [e, ho]
      exact wLoad_snd h
    · rename_i T a x ho
      rw [e, ho]
      exact wStore_snd h
    · rename_i T x i ho
      rw [e, ho]
      exact wIa_snd h
    · rename_i c a b ho
      rw [e, ho]
      show wAns P B lo s K Kp (x_pick (ev f.tm c) (ev f.tm a) (ev f.tm b) s)
      unfold wPick at h
      split at h
      · rename_i q hq
        rw [hq]
        cases h with
        | t hb h => subst hb; exact h
        | f hb h => subst hb; exact h
      · exact h.elim
    · rename_i x ho
      exact absurd ⟨x, ho⟩ hp
    · split at h
      · exact h
      · obtain ⟨r, h1, h2⟩ := h.o
        rw [h1]; exact h2
  generalize hr : opx P B lo o f.tm s = r at h
  cases r with
  | val v s' => exact .inl ⟨_, bad_snd, v, s', [], rfl, h⟩
  | call g args =>
    rcases h.o with ⟨v, s', h1, h2⟩ | ⟨v, s', h1, h2⟩
    · refine .inl ⟨_, oneK_snd h1, v, s', [], ?_, h2⟩
      show r_ret o.dst f (oneK g args B lo s v s' (.call g args) B lo s) = _
      rw [oneK_self]; rfl
    · exact .inr ⟨v, s', OPan.call hr h1, h2⟩
  | dfr d => exact .inl ⟨_, bad_snd, undef, s, [d], rfl, h⟩
  | bad w => exact h.elim
theorem wOp_snd {K : Fr → XS → Prop} {Kp : Value → Fr → XS → Prop} (h : wOp P all B lo o f s K Kp) : (∃ k, (∀ N, KS P N k) ∧ ∃ f' s', r_op P k all B lo o f s = .ok f' s' ∧ K f' s') ∨ (gjunk all o.guard f.tm = false ∧ want all o.guard f.tm = true ∧ ∃ v s', OPan P B lo o f s v s' ∧ Kp v f s') := by
  unfold wOp at h
  split at h
  · exact h.elim
  · rename_i hj
    split at h
    · rename_i hg
      rcases wOr_snd h with ⟨k, hk, v, s', d, h1, h2⟩ | h
      · refine .inl ⟨k, hk, _, _, ?_, h2⟩
        rw [r_op_eq, if_neg (by rw [hj]; simp), if_pos (by rw [hg]; rfl)]
        exact h1
      · exact .inr ⟨hj, by rw [hg]; rfl, h⟩
    · rename_i g hg
      cases h with
      | t hb h =>
        rcases wOr_snd h with ⟨k, hk, v, s', d, h1, h2⟩ | h
        · refine .inl ⟨k, hk, _, _, ?_, h2⟩
          rw [r_op_eq, if_neg (by rw [hj]; simp), if_pos (by rw [hg]; exact hb)]
          exact h1
        · exact .inr ⟨hj, by rw [hg]; exact hb, h⟩
      | f hb h =>
        refine .inl ⟨_, bad_snd, _, _, ?_, h⟩
        rw [r_op_eq, if_neg (by rw [hj]; simp), if_neg (by rw [hg, hb]; simp)]
theorem wOp_no {K : Fr → XS → Prop} (h : wOp P all B lo o f s K fun _ _ _ => False) : ∃ k, (∀ N, KS P N k) ∧ ∃ f' s', r_op P k all B lo o f s = .ok f' s' ∧ K f' s' := by
  rcases wOp_snd h with h | ⟨_, _, _, _, _, h⟩
  · exact h
  · exact h.elim
theorem op_pan {M : Cx} {a : Act} {w : World} {i : Nat} {v : Value} {Q : Exit → Act → World → Prop} {K : Act → World → Prop} (hi : all[i]? = some o) (hj : gjunk all o.guard f.tm = false) (hw : want all o.guard f.tm = true) (ho : OPan P B lo o f s v s')
    (hfre : Fre s) (hv : ∀ x ∈ o.op.operands.toList, VR M (ev f.tm x) (a.eval x)) (hg : ∀ t, gTmp all o t → t < a.tmps.size ∧ VR M (ev f.tm (.tmp t)) (a.eval (.tmp t))) (hwr : WR P M (look B s) w) (hf : Fresh M s.nx s'.nx)
    (hQ : ∀ M' w', Post P M M' (look B s) (look B s') s.nx s'.nx w w' → Q (.panic [{ v := v, recovered := false }]) a w') : wpOp P all Q i K a w := by
  unfold wpOp
  simp only [hi]
  rw [if_pos (by rw [← want_spec hj hg]; exact hw)]
  left
  exact (ho hfre).2 M a w Q K hv hwr hf hQ
/-- Operations in their order. -/
theorem wOps_snd {ops : Array Oper} {Q : Ex → Fr → XS → Prop} {M0 : Cx} {h0 : Hp} {w0 : World} {R : Exit → Act → World → Prop} (hT : ops.toList.all (opT n P.globals.size) = true) (hn : n ≤ 1024) (hR : ∀ e f' s' M' a' w', HS P m M0 h0 w0 M' s' w' → AR M' n f' a' → Q e f' s' → R (exOf e) a' w') :
    ∀ (l : List Oper) (j : Nat) (f : Fr) (s : XS) (M : Cx) (a : Act) (w : World), ops.toList.drop j = l → wOps P ops [] m (fun v f s => Q (.pan v) f s) l f s (fun f s => Q .normal f s) → HS P m M0 h0 w0 M s w → AR M n f a → wpOps P ops R (List.range' j l.length) a w := by
  intro l
  induction l with
  | nil => intro j f s M a w _ h hi ha; exact hR .normal f s M a w hi ha h
  | cons o l ih =>
    intro j f s M a w hl h hi ha
    have hj : ops[j]? = some o := by
      have := congrArg (·[0]?) hl
      simpa using this
    rcases wOp_snd h with ⟨k, hk, f1, s1, h1, h2⟩ | ⟨hgj, hwa, v, s1, ho, hq⟩
    rotate_left
    · rw [List.length_cons, List.range'_succ, wpOps_cons]
      have hoT := opT_mem hT hj
      refine op_pan hj hgj hwa ho hi.fre (opT_VR hoT rfl hi.wr fun t ht => ha.tm t (opT_ops hoT t ht)) (fun t ht => gTmp_AR hT ha ht) hi.wr (fun k h _ => hi.free k h) fun M' w' hp => ?_
      exact hR (.pan v) f s1 M' a w' (hi.step (ho hi.fre).1 hp) ⟨ha.size, fun t ht => (ha.tm t ht).mono hp.ext, ha.df.mono hp.ext⟩ hq
    have hl' : ops.toList.drop (j + 1) = l := by
      have := congrArg List.tail hl
      simpa using this
    obtain ⟨v, df', rfl, g1, _, g2⟩ := r_op_snd (hk 0) hi.fre h1
    rw [List.length_cons, List.range'_succ, wpOps_cons]
    have hoT := opT_mem hT hj
    refine g2 M a w R _ j hj (opT_VR hoT rfl hi.wr fun t ht => ha.tm t (opT_ops hoT t ht)) (fun t ht => gTmp_AR hT ha ht) ha.df hi.wr (fun k h _ => hi.free k h) fun v' dd' w' M' hp hv' hd' => ?_
    have hA' : AR M' n ⟨f.tm, df'⟩ { a with defers := dd' } := ⟨ha.size, fun t ht => (ha.tm t ht).mono hp.ext, hd'⟩
    exact ih (j + 1) _ s1 M' _ w' hl' h2 (hi.step g1 hp) (hA'.put hn (opT_dst hoT) hv')
/-- A region in its order. -/
theorem CS.ops {id : Nat} {ops : Array Oper} {Q : Ex → Fr → XS → Prop} (h : wOps P ops [] m (fun v f s => Q (.pan v) f s) ops.toList f s fun f s => Q .normal f s) : CS P m n (.region id ops false) f s Q := by
  intro hc hn M0 h0 w0 M a w R hi ha hR
  refine wp_region ?_
  have hT : ops.toList.all (opT n P.globals.size) = true := hc
  have := wOps_snd hT hn hR ops.toList 0 f s M a w rfl h hi ha
  rw [List.range_eq_range']
  simpa using this
/-- Without what has been written; with it. -/
noncomputable def noL (s : XS) : XS := XS.rec (motive := fun _ => XS) (fun h nx _ => ⟨h, nx, []⟩) s
noncomputable def wiL (lo : Nat) (s s0 : XS) : XS := XS.rec (motive := fun _ => XS) (fun h nx lg => ⟨h, nx, below lo lg s0.lg⟩) s
/-! Regions that draw -/
noncomputable def wDr (P : Program) (all : Array Oper) (ms : List (List Nat)) (B : Ban) (lo : Nat) : List Oper → List (Option (List Nat)) → List (Nat × Nat) → List (List Nat) → Fr → XS → (Fr → XS → List (List Nat) → Prop) → Prop
  | [], _, _, md, f, s, K => K f s md
  | o :: l, u :: us, rg, md, f, s, K => match u with
    | none => wOp P all allB lo o f s (fun f1 s1 => WE (Nat.beq s1.nx s.nx) <| wDr P all ms B lo l us (app rg [(s.nx, s.nx)]) (app md [[]]) f1 s K) fun _ _ _ => False
    | some [] => wOp P all B lo o f s (fun f1 s1 => wDr P all ms B lo l us (app rg [(s.nx, s1.nx)]) (app md [[]]) f1 s1 K) fun _ _ _ => False
    | some (x :: u) => wOp P all (bans rg ms (x :: u) B) s.nx o f (noL s) (fun f1 s1 => WE (outU ms s.nx s1.nx (x :: u)) <| wDr P all ms B lo l us (app rg [(s.nx, s1.nx)]) (app md [s1.lg]) f1 (wiL lo s1 s) K) fun _ _ _ => False
  | _ :: _, [], _, _, _, _, _ => False
theorem wDr_trace {ms : List (List Nat)} {us : List (Option (List Nat))} : ∀ (l : List Oper) (us' : List (Option (List Nat))) (i0 : Nat) (rg : List (Nat × Nat)) (md : List (List Nat)) (f : Fr) (s : XS) (K : Fr → XS → List (List Nat) → Prop), all.toList.drop i0 = l → us.drop i0 = us' → rg.length = i0 → md.length = i0 →
    wDr P all ms B lo l us' rg md f s K → ∀ (F0 : Nat → Fr) (S0 : Nat → XS), F0 i0 = f → S0 i0 = s → (∀ j, j < i0 → rg[j]? = some ((S0 j).nx, (S0 (j + 1)).nx)) → i0 ≤ all.size →
    ∃ (F : Nat → Fr) (S : Nat → XS) (mdf : List (List Nat)), (∀ j, j ≤ i0 → F j = F0 j ∧ S j = S0 j) ∧ K (F all.size) (S all.size) mdf ∧ (∀ j, j < i0 → mdf[j]? = md[j]?) ∧ mdf.length = all.size ∧ ∀ i, i0 ≤ i → i < all.size → DS P 0 all ms us B lo mdf F S i
  | [], us', i0, rg, md, f, s, K, hl, hu, hrg, hmd, h, F0, S0, hF, hS, hr, hi0 => by
    have h : K f s md := h
    have hsz : i0 = all.size := by
      have := congrArg List.length hl
      rw [List.length_drop] at this
      simp only [List.length_nil, Array.length_toList] at this
      omega
    subst hsz
    exact ⟨F0, S0, md, fun j _ => ⟨rfl, rfl⟩, by rw [hF, hS]; exact h, fun j _ => rfl, hmd, fun i h1 h2 => by omega⟩
  | o :: l, us', i0, rg, md, f, s, K, hl, hu, hrg, hmd, h, F0, S0, hF, hS, hr, hi0 => by
    have ho : all[i0]? = some o := by
      have := congrArg (·[0]?) hl
      simpa using this
    have hlt := (Array.getElem?_eq_some_iff.1 ho).1
    have hl' : all.toList.drop (i0 + 1) = l := by
      have := congrArg List.tail hl
      simpa using this
    cases us' with
    | nil => exact (show False from h).elim
    | cons u us' =>
      have hui : us[i0]? = some u := by
        have := congrArg (·[0]?) hu
        simpa using this
      have hu' : us.drop (i0 + 1) = us' := by
        have := congrArg List.tail hu
        simpa using this
      -- the rest
      have rest : ∀ (f1 : Fr) (s1 : XS) (m1 : List Nat), wDr P all ms B lo l us' (app rg [(s.nx, s1.nx)]) (app md [m1]) f1 s1 K →
          (∀ (F : Nat → Fr) (S : Nat → XS) (mdf : List (List Nat)), F i0 = f → S i0 = s → F (i0 + 1) = f1 → S (i0 + 1) = s1 → (∀ j, j < i0 → rg[j]? = some ((S j).nx, (S (j + 1)).nx)) → mdf[i0]? = some m1 → DS P 0 all ms us B lo mdf F S i0) →
          ∃ (F : Nat → Fr) (S : Nat → XS) (mdf : List (List Nat)), (∀ j, j ≤ i0 → F j = F0 j ∧ S j = S0 j) ∧ K (F all.size) (S all.size) mdf ∧ (∀ j, j < i0 → mdf[j]? = md[j]?) ∧ mdf.length = all.size ∧ ∀ i, i0 ≤ i → i < all.size → DS P 0 all ms us B lo mdf F S i := by
        intro f1 s1 m1 h1 hDS
        rw [app_eq, app_eq] at h1
        obtain ⟨F, S, mdf, g1, g2, g4, g5, g6⟩ := wDr_trace l us' (i0 + 1) _ _ f1 s1 K hl' hu' (by simp; exact hrg) (by simp; exact hmd) h1 (fun j => if j = i0 + 1 then f1 else F0 j) (fun j => if j = i0 + 1 then s1 else S0 j) (by simp) (by simp)
          (fun j hj => by
            rcases Nat.lt_or_ge j i0 with hj' | hj'
            · rw [List.getElem?_append_left (by omega), hr j hj', if_neg (by omega), if_neg (by omega)]
            · have : j = i0 := by omega
              subst this
              rw [List.getElem?_append_right (by omega), hrg, if_neg (by omega), if_pos rfl, hS]
              simp) hlt
        have hFe : ∀ j, j ≤ i0 → F j = F0 j ∧ S j = S0 j := by
          intro j hj
          obtain ⟨a, b⟩ := g1 j (by omega)
          rw [if_neg (by omega)] at a b
          exact ⟨a, b⟩
        have hm0 : mdf[i0]? = some m1 := by
          rw [g4 i0 (by omega), List.getElem?_append_right (by omega), hmd]; simp
        refine ⟨F, S, mdf, hFe, g2, fun j hj => ?_, g5, fun i h2 h3 => ?_⟩
        · rw [g4 j (by omega), List.getElem?_append_left (by omega)]
        · rcases Nat.eq_or_lt_of_le h2 with rfl | h2
          · obtain ⟨a, b⟩ := g1 (i0 + 1) (by omega)
            rw [if_pos rfl] at a b
            exact hDS F S mdf ((hFe i0 (by omega)).1.trans hF) ((hFe i0 (by omega)).2.trans hS) a b (fun j hj => by rw [hr j hj, (hFe j (by omega)).2, (hFe (j + 1) (by omega)).2]) hm0
          · exact g6 i h2 h3
      cases u with
      | none =>
        have h : wOp P all allB lo o f s (fun f1 s1 => WE (Nat.beq s1.nx s.nx) <| wDr P all ms B lo l us' (app rg [(s.nx, s.nx)]) (app md [[]]) f1 s K) (fun _ _ _ => False) := h
        obtain ⟨k, hk, f1, s1, hq, hnx, h2⟩ := wOp_no h
        have hnx := Nat.eq_of_beq_eq_true hnx
        exact rest f1 s [] h2 fun F S mdf e1 e2 e3 e4 e5 e6 => .pure k (hk 0) o s1 ho hui (by rw [e1, e2, e3]; exact hq) (by rw [e2]; exact hnx) (by rw [e4, e2])
      | some u =>
        cases u with
        | nil =>
          have h : wOp P all B lo o f s (fun f1 s1 => wDr P all ms B lo l us' (app rg [(s.nx, s1.nx)]) (app md [[]]) f1 s1 K) (fun _ _ _ => False) := h
          obtain ⟨k, hk, f1, s1, hq, h2⟩ := wOp_no h
          exact rest f1 s1 [] h2 fun F S mdf e1 e2 e3 e4 e5 e6 => .non k (hk 0) o ho hui (by rw [e1, e2, e3, e4]; exact hq)
        | cons x u =>
          have h : wOp P all (bans rg ms (x :: u) B) s.nx o f ⟨s.h, s.nx, []⟩ (fun f1 s1 => WE (outU ms s.nx s1.nx (x :: u)) <| wDr P all ms B lo l us' (app rg [(s.nx, s1.nx)]) (app md [s1.lg]) f1 ⟨s1.h, s1.nx, below lo s1.lg s.lg⟩ K) (fun _ _ _ => False) := h
          obtain ⟨k, hk, f1, s1, hq, hout, h2⟩ := wOp_no h
          exact rest f1 ⟨s1.h, s1.nx, below lo s1.lg s.lg⟩ s1.lg h2 fun F S mdf e1 e2 e3 e4 e5 e6 => .uns k (hk 0) o (x :: u) rg s1 ho hui hrg e5 (by rw [e1, e2, e3]; exact hq) (by rw [e2]; exact hout) (by rw [e4, e2]) e6
/-- A region that draws its order; what each operation writes is told ahead (ms). -/
theorem CS.drw (hm : P.follows .mixedOrders = true) {id : Nat} {ops : Array Oper} {Q : Ex → Fr → XS → Prop} (ms : List (List Nat)) (hok : drawOk ops = true)
    (h : wDr P ops ms [] m ops.toList (uns ops) [] [] f s fun f s md => WE (empt md || subs md ms) (Q .normal f s)) : CS P m n (.region id ops true) f s Q := by
  intro hc hn M0 h0 w0 M a w R hi ha hR
  obtain ⟨F, S, mdf, g1, ⟨g2, g3⟩, _, _, ds⟩ := wDr_trace (us := uns ops) ops.toList (uns ops) 0 [] [] f s _ rfl rfl rfl rfl h (fun _ => f) (fun _ => s) rfl rfl (fun j hj => by omega) (Nat.zero_le _)
  obtain ⟨hF0, hS0⟩ := g1 0 (Nat.le_refl _)
  rw [Bool.or_eq_true] at g2
  have hms : ∀ (j : Nat) l x, mdf[j]? = some l → x ∈ l → ∃ m, ms[j]? = some m ∧ x ∈ m := by
    rcases g2 with g2 | g2
    · intro j l x h1 h2
      exfalso
      have : ∀ (md : List (List Nat)) (j : Nat), empt md = true → md[j]? = some l → False := by
        intro md
        induction md with
        | nil => intro j _ e; simp at e
        | cons a md ih =>
          intro j he e
          cases a with
          | nil =>
            cases j with
            | zero => simp at e; subst e; simp at h2
            | succ j => exact ih j he (by simpa using e)
          | cons _ _ => simp [empt] at he
      exact this mdf j g2 h1
    · exact subs_spec g2
  obtain ⟨sf, hd⟩ := draw_core (id := id) hm hok (by rw [hS0]; exact hi.fre) (fun i hi' => ds i (Nat.zero_le _) hi') hms
  rw [hF0, hS0] at hd
  rw [hS0] at sf
  exact hd n M a w R hc hn ha hi.wr (fun k h _ => hi.free k h) fun a' w' M' hp ha' => hR .normal _ _ M' a' w' (hi.step sf hp) ha' g3
end
end Go.X
end
section
set_option linter.unusedVariables false
namespace Go.X
open Go Go.RowKit
/-- Nothing is looked at but the names of globals. -/
noncomputable def st0 (g : Nat) : XS := ⟨.e, g, []⟩
theorem st0_get (g n : Nat) : hget (st0 g) n = none := by
  rw [hget_eq]
  split
  · rfl
  · exact get_e _
/-- The globals that are only read lie in memory. -/
structure HasRo (P : Program) (w : World) : Prop where
  r : ∀ k c, ro k = some c → k < P.globals.size ∧ c ≠ [] ∧ (∀ v ∈ c, one v = true) ∧ ∃ (c' : List Value) (T : TypeId) (fr : Nat × Nat), VRL ⟨fun _ => none, fun _ _ => none⟩ c c' ∧ w.heap[k]? = some (.cells ⟨c'⟩ T fr)
  i : ∀ k ∈ roI, ∃ (m : Int) (cs : Array Value) (T : TypeId) (fr : Nat × Nat), w.heap[k]? = some (.cells cs T fr) ∧ cs[0]? = some (.int .i64 m)
  f : ∀ k ∈ roF, ∃ (u : TypeId) (v : Value) (cs : Array Value) (T : TypeId) (fr : Nat × Nat), w.heap[k]? = some (.cells cs T fr) ∧ cs[0]? = some (.iface u v)
open Classical in
noncomputable def roS (w : World) (k i : Nat) : Option Value := if (∃ c, ro k = some c) ∨ k ∈ roI ∨ k ∈ roF then (match w.heap[k]? with
    | some (.cells cs _ _) => cs[i]?
    | _ => none) else none
theorem roS_rows {w : World} (b i : Nat) (v : Value) (h : roS w b i = some v) : ∃ cs T fr, w.heap[b]? = some (.cells cs T fr) ∧ cs[i]? = some v := by
  unfold roS at h
  split at h
  · split at h
    · rename_i cs T fr hb; exact ⟨cs, T, fr, hb, h⟩
    · simp at h
  · simp at h
theorem roS_amb {P : Program} {w : World} (h : HasRo P w) : Amb P (roS w) w := by
  refine ⟨fun k c e => ?_, fun k hk => ?_, fun k hk => ?_⟩
  · obtain ⟨h1, h0, h2, c', T, fr, h3, h4⟩ := h.r k c e
    refine ⟨h1, h0, h2, c', T, fr, h3, fun i v q => ?_, h4⟩
    unfold roS
    rw [if_pos (.inl ⟨c, e⟩)]
    simp only [h4]
    simpa using q
  · obtain ⟨m, cs, T, fr, h1, h2⟩ := h.i k hk
    refine ⟨m, ?_⟩
    unfold roS
    rw [if_pos (.inr (.inl hk))]
    simp only [h1]
    exact h2
  · obtain ⟨m, u, cs, T, fr, h1, h2⟩ := h.f k hk
    refine ⟨m, u, ?_⟩
    unfold roS
    rw [if_pos (.inr (.inr hk))]
    simp only [h1]
    exact h2
/-- An anchor: a function without arguments that the executor runs to 'true' does so in whatever memory, and leaves what was there. -/
theorem anchor {P : Program} (hm : P.follows .mixedOrders = true) {n f g : Nat} (hg : P.globals.size ≤ g) (h : isTrue (run P n (.call f []) [] 0 (st0 g)) = true) (w : World) (hro : HasRo P w) :
    Calls P f #[] w fun e w' => e = .returned (.bool true) ∧ (∀ b, b < w.heap.size → w'.heap[b]? = w.heap[b]?) ∧ Kept w w' := by
  unfold isTrue at h
  split at h
  · rename_i s' hr
    have hn : ∀ x o, look [] (st0 g) x = some o → False := by
      intro x o e
      have := (look_some e).1
      rw [st0_get] at this; simp at this
    have := call_sound (M := ⟨fun x => if x < P.globals.size then some ⟨x, 0, none⟩ else none, roS w⟩) (w := w) hm hr .nil (fun x _ => st0_get g x) ⟨roS_rows, fun n o L i e => (hn n o e).elim, fun x o e => (hn x o e).elim, fun x y o p L K e => (hn x o e).elim, fun x hx => if_pos hx, roS_amb hro⟩ (fun x hx => if_neg (by have : g ≤ x := hx; omega))
    refine Calls.mono this fun e w' he => ?_
    obtain ⟨v', M', rfl, hp, hv⟩ := he
    cases hv
    exact ⟨rfl, fun b hb => hp.keep b hb fun x o L e => (hn x o e).elim, hp.kept⟩
  · simp at h
end Go.X
end
section
set_option linter.unusedVariables false
namespace Go.X
open Go Go.RowKit
section
variable {P : Program} {B : Ban} {lo : Nat} {s : XS} {g b : Nat} {args argsc : List Value} {v : Value}
theorem look_st0 (b n : Nat) : look [] (st0 b) n = none := by
  rw [look_eq]; simp only [bn, Bool.false_eq_true, if_false]; exact st0_get b n
theorem fre_st0 (b : Nat) : Fre (st0 b) := fun n _ => st0_get b n
/-- A function that is lent nothing, called wherever. -/
theorem ZCb.pure {p : Bool} (h : ZCb p P g args (st0 b) v (st0 b)) (ha : RVL 0 [] [] args argsc) (hv : RV 0 [] [] v v) : TCb p P B lo g argsc s v s := by
  intro hfr
  refine ⟨SF.refl B lo s, fun M args' w hargs hw hf => ?_⟩
  let M0 : Cx := ⟨fun k => if k < P.globals.size then some ⟨k, 0, none⟩ else none, M.S⟩
  have g0 : G 0 [] [] M M0 := ⟨fun n k L hr _ => by rcases hr with ⟨h, _⟩ | h; omega; simp at h, fun _ _ _ e => e, fun n c h => by simp at h⟩
  have hw0 : WR P M0 (look [] (st0 b)) w := ⟨hw.rows, fun n o L i e => by rw [look_st0] at e; simp at e, fun n o e => by rw [look_st0] at e; simp at e, fun n m o p L K e => by rw [look_st0] at e; simp at e, fun k hk => if_pos hk, hw.amb⟩
  have hgl : P.globals.size ≤ b := h.gl
  refine Calls.mono (h.run M0 args' w (ha.vrl g0 hargs) hw0 fun n hn => if_neg (by have : b ≤ n := hn; omega)) fun e w' he => ?_
  obtain ⟨v', M', rfl, hp, hvr⟩ := he
  have nov : ∀ n o, look [] (st0 b) n = some o → False := fun n o e => by rw [look_st0] at e; simp at e
  have same : ∀ k, k < w.heap.size → w'.heap[k]? = w.heap[k]? := fun k hk => hp.keep k hk fun n o L e => (nov n o e).elim
  let M2 : Cx := ⟨M.f, M'.S⟩
  have hx : Ext M M2 := ⟨fun _ _ e => e, hp.ext.s⟩
  have g1 : G 0 [] [] M' M2 := ⟨fun n k L hr _ => by rcases hr with ⟨h, _⟩ | h; omega; simp at h, fun _ _ _ e => e, fun n c h => by simp at h⟩
  have hsl : ∀ b i u, M'.S b i = some u → M.S b i = some u ∨ w.heap.size ≤ b := fun b i u e => by
    rcases hp.sl b i u e with h1 | h1 | ⟨n, o, L, h1, _⟩
    · exact .inl h1
    · exact .inr h1
    · exact (nov n o h1).elim
  refine ⟨v', M2, rfl, ⟨hw, hx, fun n e e' => absurd e e', fun b i u e => by rcases hsl b i u e with h1 | h1; exact .inl h1; exact .inr (.inl h1), fun n L e e' => by rw [show M2 n = M n from rfl, e] at e'; simp at e', fun n o e => .inl ⟨o, e⟩, ?_, fun k hk _ => same k hk, hp.kept⟩, hv M' M2 v' g1 hvr⟩
  refine ⟨hp.wr.rows, fun n o L i e hL => ?_, fun n o e => ?_, hw.inj, hw.glob, hp.wr.amb⟩
  · cases q : M2.S L.b i with
    | none => rfl
    | some u =>
      rcases hsl _ _ _ q with h1 | h1
      · have := hw.apart n o L i e hL; rw [h1] at this; simp at this
      · obtain ⟨L', h2, h3⟩ := hw.live n o e
        have hL : M n = some L := hL
        rw [hL] at h2; simp at h2; subst h2
        have := h3.lt; omega
  · obtain ⟨L, h2, h3⟩ := hw.live n o e
    exact ⟨L, h2, h3.mono hx (same L.b h3.lt)⟩
theorem ZC.pure (h : ZC P g args (st0 b) v (st0 b)) (ha : RVL 0 [] [] args argsc) (hv : RV 0 [] [] v v) : TC P B lo g argsc s v s := ZCb.pure h ha hv
end
end Go.X
end
