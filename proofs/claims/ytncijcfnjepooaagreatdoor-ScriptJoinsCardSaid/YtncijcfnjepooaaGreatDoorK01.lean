/-
  A part of the proof of ScriptJoins: no statement of the seat is proved here.
-/
import Derived.Test.YtncijcfnjepooaaGreatDoorK00
import Derived.Calls
import Derived.WalkKit
import Derived.WalkLawsBesides
set_option linter.unusedVariables false
set_option linter.unusedSimpArgs false
set_option linter.unnecessarySimpa false
set_option linter.unusedSectionVars false
set_option linter.constructorNameAsVariable false
set_option linter.deprecated false
section
set_option linter.unusedVariables false
namespace Go.X
open Go
section
variable {α β : Type}
theorem get_nil_e : T4.get [] (T4.e : T4 α) = none := rfl
theorem get_nil_n (v : Option α) (a b c d : T4 α) : T4.get [] (.n v a b c d) = v := rfl
theorem get_cons_e (x : D) (p : List D) : T4.get (x :: p) (T4.e : T4 α) = none := rfl
def ch (x : D) (a b c d : T4 α) : T4 α := match x with | .a => a | .b => b | .c => c | .d => d
theorem get_cons_n (x : D) (p : List D) (v : Option α) (a b c d : T4 α) : T4.get (x :: p) (.n v a b c d) = T4.get p (ch x a b c d) := by cases x <;> rfl
theorem put_nil_e (s : Option α) : T4.put s [] (T4.e : T4 α) = .n s .e .e .e .e := rfl
theorem put_nil_n (s v : Option α) (a b c d : T4 α) : T4.put s [] (.n v a b c d) = .n s a b c d := rfl
def st (x : D) (v : Option α) (a b c d y : T4 α) : T4 α := match x with | .a => .n v y b c d | .b => .n v a y c d | .c => .n v a b y d | .d => .n v a b c y
theorem put_cons_n (s : Option α) (x : D) (p : List D) (v : Option α) (a b c d : T4 α) : T4.put s (x :: p) (.n v a b c d) = st x v a b c d (T4.put s p (ch x a b c d)) := by cases x <;> rfl
theorem put_cons_e (s : Option α) (x : D) (p : List D) : T4.put s (x :: p) (T4.e : T4 α) = st x none .e .e .e .e (T4.put s p .e) := by cases x <;> rfl
theorem get_st_same (x : D) (p : List D) (v : Option α) (a b c d y : T4 α) : T4.get (x :: p) (st x v a b c d y) = T4.get p y := by cases x <;> rfl
theorem get_st_ne {x z : D} (h : x ≠ z) (p : List D) (v : Option α) (a b c d y : T4 α) : T4.get (z :: p) (st x v a b c d y) = T4.get p (ch z a b c d) := by cases x <;> cases z <;> first | exact absurd rfl h | rfl
theorem get_st_nil (x : D) (v : Option α) (a b c d y : T4 α) : T4.get [] (st x v a b c d y) = v := by cases x <;> rfl
theorem get_e (p : List D) : T4.get p (T4.e : T4 α) = none := by cases p <;> rfl
theorem get_put_same (s : Option α) : ∀ (p : List D) (t : T4 α), T4.get p (T4.put s p t) = s
  | [], .e => rfl
  | [], .n _ _ _ _ _ => rfl
  | x :: p, .e => by rw [put_cons_e, get_st_same, get_put_same]
  | x :: p, .n _ _ _ _ _ => by rw [put_cons_n, get_st_same, get_put_same]
theorem ch_e (x : D) : ch x (.e : T4 α) .e .e .e = .e := by cases x <;> rfl
theorem get_put_ne (s : Option α) : ∀ (p q : List D) (t : T4 α), p ≠ q → T4.get q (T4.put s p t) = T4.get q t
  | [], [], _, h => absurd rfl h
  | [], y :: q, .e, _ => by rw [put_nil_e, get_cons_n, ch_e, get_e, get_e]
  | [], y :: q, .n _ _ _ _ _, _ => by rw [put_nil_n, get_cons_n, get_cons_n]
  | x :: p, [], .e, _ => by rw [put_cons_e, get_st_nil, get_e]
  | x :: p, [], .n _ _ _ _ _, _ => by rw [put_cons_n, get_st_nil, get_nil_n]
  | x :: p, y :: q, .e, h => by
    rw [put_cons_e]
    by_cases e : x = y
    · subst e
      rw [get_st_same, get_put_ne s p q .e (fun e => h (by rw [e])), get_e, get_e]
    · rw [get_st_ne e, ch_e, get_e, get_e]
  | x :: p, y :: q, .n _ _ _ _ _, h => by
    rw [put_cons_n]
    by_cases e : x = y
    · subst e
      rw [get_st_same, get_put_ne s p q _ (fun e => h (by rw [e])), get_cons_n]
    · rw [get_st_ne e, get_cons_n]
def bnd4 : Nat → Nat
  | 0 => 1
  | f + 1 => 4 * bnd4 f + 1
theorem dD_inj {i j : Nat} (hi : i < 4) (hj : j < 4) (h : dD i = dD j) : i = j := by
  have : ∀ i < 4, ∀ j < 4, dD i = dD j → i = j := by
    intro i hi j hj
    rcases i with _ | _ | _ | _ | i <;> rcases j with _ | _ | _ | _ | j <;> first | omega | (intro h; simp [dD] at h) | (intro _; rfl)
  exact this i hi j hj h
theorem dg_inj : ∀ (f k j : Nat), k < bnd4 f → j < bnd4 f → dg f k = dg f j → k = j
  | 0, k, j, hk, hj, _ => by simp [bnd4] at hk hj; omega
  | f + 1, 0, 0, _, _, _ => rfl
  | f + 1, 0, j + 1, _, _, h => by simp [dg] at h
  | f + 1, k + 1, 0, _, _, h => by simp [dg] at h
  | f + 1, k + 1, j + 1, hk, hj, h => by
    have h' : dD (k % 4) :: dg f (k / 4) = dD (j % 4) :: dg f (j / 4) := h
    simp only [List.cons.injEq] at h'
    simp only [bnd4] at hk hj
    have h1 := dD_inj (Nat.mod_lt _ (by omega)) (Nat.mod_lt _ (by omega)) h'.1
    have h2 := dg_inj f (k / 4) (j / 4) (by omega) (by omega) h'.2
    omega
theorem dg_ne {k j : Nat} (hk : k < tops) (hj : j < tops) : dg 10 k = dg 10 j ↔ k = j :=
  ⟨fun h => dg_inj 10 k j (Nat.lt_of_lt_of_le hk (by decide)) (Nat.lt_of_lt_of_le hj (by decide)) h, fun h => by rw [h]⟩
theorem nth_eq : ∀ (l : List α) (n : Nat), nth l n = l[n]?
  | [], n => by simp [nth]
  | x :: l, 0 => by simp [nth]
  | x :: l, n + 1 => by
    have := nth_eq l n
    have e : nth (x :: l) (n + 1) = nth l n := rfl
    simp [e, this]
theorem tkl_eq : ∀ (n : Nat) (l : List α), tkl n l = l.take n
  | 0, l => rfl
  | n + 1, [] => rfl
  | n + 1, x :: l => by
    have e : tkl (n + 1) (x :: l) = x :: tkl n l := rfl
    simp [e, tkl_eq n l]
theorem dr_eq : ∀ (n : Nat) (l : List α), dr n l = l.drop n
  | 0, l => rfl
  | n + 1, [] => rfl
  | n + 1, x :: l => by
    have e : dr (n + 1) (x :: l) = dr n l := rfl
    simp [e, dr_eq n l]
theorem ovg_eq : ∀ (x l : List α), x.length ≤ l.length → ovg x l = x ++ l.drop x.length
  | [], l, _ => rfl
  | y :: x, [], h => by simp at h
  | y :: x, z :: l, h => by
    have e : ovg (y :: x) (z :: l) = y :: ovg x l := rfl
    simp [e, ovg_eq x l (by simpa using h)]
theorem ovl_eq : ∀ (l : List α) (n : Nat) (x : List α), n + x.length ≤ l.length → ovl l n x = l.take n ++ x ++ l.drop (n + x.length)
  | l, 0, x, h => by
    have e : ovl l 0 x = ovg x l := rfl
    simp [e, ovg_eq x l (by omega)]
  | [], n + 1, x, h => by simp at h
  | y :: l, n + 1, x, h => by
    have e : ovl (y :: l) (n + 1) x = y :: ovl l n x := rfl
    have := ovl_eq l n x (by simp at h; omega)
    simp [e, this]
    rw [show n + 1 + x.length = (n + x.length) + 1 from by omega]
    simp
theorem len_eq : ∀ l : List α, len l = l.length
  | [] => rfl
  | x :: l => by
    have e : len (x :: l) = Nat.succ (len l) := rfl
    simp [e, len_eq l]
theorem app_eq : ∀ l m : List α, app l m = l ++ m
  | [], m => rfl
  | x :: l, m => by
    have e : app (x :: l) m = x :: app l m := rfl
    simp [e, app_eq l m]
theorem map_eq (f : α → β) : ∀ l : List α, X.map f l = l.map f
  | [] => rfl
  | x :: l => by
    have e : X.map f (x :: l) = f x :: X.map f l := rfl
    simp [e, map_eq f l]
theorem rep_succ (n : Nat) (z : List α) : rep (n + 1) z = z ++ rep n z := by
  have e : rep (n + 1) z = app z (rep n z) := rfl
  rw [e, app_eq]
theorem rep_length : ∀ (n : Nat) (z : List α), (rep n z).length = n * z.length
  | 0, z => by show ([] : List α).length = 0 * z.length; simp
  | n + 1, z => by rw [rep_succ, List.length_append, rep_length n z, Nat.add_mul]; omega
end
end Go.X
end
section
set_option linter.unusedVariables false
namespace Go.X
open Go
/-- Where a name lies: its block, how far in; and, where there may be more room: how many cells, of which size an element is. -/
structure Loc where
  b : Nat
  s : Nat
  g : Option (Nat × Nat)
/-- Where names lie; and what lies sealed: its cells, never to change. -/
structure Cx where
  f : Nat → Option Loc
  S : Nat → Nat → Option Value
instance : CoeFun Cx fun _ => Nat → Option Loc := ⟨Cx.f⟩
/-- A sealed row lies there. -/
def Sld (M : Cx) (b t : Nat) (c' : List Value) : Prop := ∀ i v, c'[i]? = some v → M.S b (t + i) = some v
/-- A slice's room, as it is told, and in truth. -/
def SlOk (L : Loc) (off off' m c c' : Nat) : Prop := (off' = off ∧ c' = c) ∨ ∃ N k, L.g = some (N, k) ∧ c ≤ c' ∧ (off' = off ∨ (m = 0 ∧ c = 0)) ∧ L.s + off' + c' * k ≤ N
mutual
/-- A value by names, and in truth. -/
inductive VR (M : Cx) : Value → Value → Prop
  | bool (b : Bool) : VR M (.bool b) (.bool b)
  | int (k : IntKind) (n : Int) : VR M (.int k n) (.int k n)
  | string (s : ByteArray) : VR M (.string s) (.string s)
  | ptrn : VR M (.pointer none) (.pointer none)
  | ptr {n : Nat} {L : Loc} (off : Nat) : M n = some L → VR M (.pointer (some ⟨n, off, none⟩)) (.pointer (some ⟨L.b, L.s + off, none⟩))
  | sln (n c : Nat) : VR M (.slice none n c) (.slice none n c)
  | sl {n : Nat} {L : Loc} {off off' m c c' : Nat} : M n = some L → SlOk L off off' m c c' → VR M (.slice (some ⟨n, off, none⟩) m c) (.slice (some ⟨L.b, L.s + off', none⟩) m c')
  | mapn : VR M (.map none) (.map none)
  | map {n : Nat} {L : Loc} : M n = some L → VR M (.map (some n)) (.map (some L.b))
  | nilf : VR M .nilFunc .nilFunc
  | nili : VR M .nilIface .nilIface
  | func (f : Nat) {a b a' b' : List Value} : VRL M a a' → VRL M b b' → VR M (.func (.func f) ⟨a⟩ ⟨b⟩) (.func (.func f) ⟨a'⟩ ⟨b'⟩)
  | iface (t : TypeId) {v v' : Value} : VR M v v' → VR M (.iface t v) (.iface t v')
  | agg {c c' : List Value} : VRL M c c' → (∀ v ∈ c, one v = true) → VR M (.agg ⟨c⟩) (.agg ⟨c'⟩)
  | tup {c c' : List Value} : VRL M c c' → VR M (.tuple ⟨c⟩) (.tuple ⟨c'⟩)
  | junk (v : Value) : VR M (.func (.yield 0) ⟨[]⟩ ⟨[]⟩) v
  | rsl {c c' : List Value} {e b t off n cap : Nat} : VRL M c c' → (∀ v ∈ c, of1 v = true) → Sld M b t c' → e < 2 → n ≤ cap → (e = 1 → cap = n) → VR M (slv e c off n) (.slice (some ⟨b, t + off, none⟩) n cap)
  | rsl0 {c : List Value} {e off cap : Nat} {a : Option (Nat × Nat)} : e < 2 → (e = 1 → cap = 0) → VR M (slv e c off 0) (.slice (a.map fun p => ⟨p.1, p.2, none⟩) 0 cap)
  | rpt {c c' : List Value} {b t off n : Nat} : VRL M c c' → (∀ v ∈ c, of1 v = true) → Sld M b t c' → VR M (slv 2 c off n) (.pointer (some ⟨b, t + off, none⟩))
inductive VRL (M : Cx) : List Value → List Value → Prop
  | nil : VRL M [] []
  | cons {v v' : Value} {l l' : List Value} : VR M v v' → VRL M l l' → VRL M (v :: l) (v' :: l')
end
structure Ext (M M' : Cx) : Prop where
  n : ∀ n L, M n = some L → M' n = some L
  s : ∀ b i v, M.S b i = some v → M'.S b i = some v
theorem Ext.refl (M : Cx) : Ext M M := ⟨fun _ _ h => h, fun _ _ _ h => h⟩
theorem Ext.trans {A B C : Cx} (h : Ext A B) (k : Ext B C) : Ext A C := ⟨fun n L x => k.n n L (h.n n L x), fun b i v x => k.s b i v (h.s b i v x)⟩
theorem Sld.mono {M M' : Cx} (h : Ext M M') {b t : Nat} {c : List Value} (k : Sld M b t c) : Sld M' b t c := fun i v e => h.s _ _ _ (k i v e)
mutual
theorem VR.mono {M M' : Cx} (h : Ext M M') : ∀ {v v' : Value}, VR M v v' → VR M' v v'
  | _, _, .bool b => .bool b
  | _, _, .int k n => .int k n
  | _, _, .string s => .string s
  | _, _, .ptrn => .ptrn
  | _, _, .ptr off e => .ptr off (h.n _ _ e)
  | _, _, .sln n c => .sln n c
  | _, _, .sl e s => .sl (h.n _ _ e) s
  | _, _, .mapn => .mapn
  | _, _, .map e => .map (h.n _ _ e)
  | _, _, .nilf => .nilf
  | _, _, .nili => .nili
  | _, _, .func f a b => .func f (VRL.mono h a) (VRL.mono h b)
  | _, _, .iface t v => .iface t (VR.mono h v)
  | _, _, .agg c o => .agg (VRL.mono h c) o
  | _, _, .tup c => .tup (VRL.mono h c)
  | _, _, .junk v => .junk v
  | _, _, .rsl c o s a b d => .rsl (VRL.mono h c) o (s.mono h) a b d
  | _, _, .rsl0 a b => .rsl0 a b
  | _, _, .rpt c o s => .rpt (VRL.mono h c) o (s.mono h)
theorem VRL.mono {M M' : Cx} (h : Ext M M') : ∀ {l l' : List Value}, VRL M l l' → VRL M' l l'
  | _, _, .nil => .nil
  | _, _, .cons v l => .cons (VR.mono h v) (VRL.mono h l)
end
theorem VRL.length {M : Cx} : ∀ {l l' : List Value}, VRL M l l' → l'.length = l.length
  | _, _, .nil => rfl
  | _, _, .cons _ h => by simp [VRL.length h]
theorem VRL.get {M : Cx} : ∀ {l l' : List Value}, VRL M l l' → ∀ (i : Nat) (v : Value), l[i]? = some v → ∃ v', l'[i]? = some v' ∧ VR M v v'
  | _, _, .nil, i, v, h => by simp at h
  | _, _, .cons (v' := x) a h, 0, v, e => by simp at e; subst e; exact ⟨x, by simp, a⟩
  | _, _, .cons a h, i + 1, v, e => by simpa using VRL.get h i v (by simpa using e)
theorem VRL.get' {M : Cx} {l l' : List Value} (h : VRL M l l') (i : Nat) (v v' : Value) (e : l[i]? = some v) (e' : l'[i]? = some v') : VR M v v' := by
  obtain ⟨x, hx, hv⟩ := h.get i v e
  rw [e'] at hx; simp at hx; subst hx; exact hv
theorem VRL.mk {M : Cx} : ∀ {l l' : List Value}, l'.length = l.length → (∀ (i : Nat) (v v' : Value), l[i]? = some v → l'[i]? = some v' → VR M v v') → VRL M l l'
  | [], [], _, _ => .nil
  | [], _ :: _, h, _ => by simp at h
  | _ :: _, [], h, _ => by simp at h
  | v :: l, v' :: l', h, k => .cons (k 0 v v' (by simp) (by simp)) (VRL.mk (by simpa using h) fun i a b ha hb => k (i + 1) a b (by simpa using ha) (by simpa using hb))
theorem VRL.append {M : Cx} : ∀ {a a' b b' : List Value}, VRL M a a' → VRL M b b' → VRL M (a ++ b) (a' ++ b')
  | _, _, _, _, .nil, h => h
  | _, _, _, _, .cons v l, h => .cons v (VRL.append l h)
theorem VRL.take {M : Cx} : ∀ {a a' : List Value} (n : Nat), VRL M a a' → VRL M (a.take n) (a'.take n)
  | _, _, 0, _ => by simp; exact .nil
  | _, _, n + 1, .nil => by simp; exact .nil
  | _, _, n + 1, .cons v l => by simp; exact .cons v (VRL.take n l)
theorem VRL.drop {M : Cx} : ∀ {a a' : List Value} (n : Nat), VRL M a a' → VRL M (a.drop n) (a'.drop n)
  | _, _, 0, h => by simpa using h
  | _, _, n + 1, .nil => by simp; exact .nil
  | _, _, n + 1, .cons v l => by simp; exact VRL.drop n l
/-! Values without addresses are what they are -/
theorem nad1_VR {M : Cx} {v : Value} (h : nad1 v = true) : VR M v v ∧ one v = true := by
  unfold nad1 at h
  split at h <;> try simp at h
  · exact ⟨.bool _, rfl⟩
  · exact ⟨.int _ _, rfl⟩
  · exact ⟨.string _, rfl⟩
  · exact ⟨.ptrn, rfl⟩
  · exact ⟨.sln 0 0, rfl⟩
  · exact ⟨.mapn, rfl⟩
  · exact ⟨.nilf, rfl⟩
  · exact ⟨.nili, rfl⟩
  · rename_i f a b
    split at h
    · rename_i ha hb
      obtain ⟨a⟩ := a; obtain ⟨b⟩ := b
      simp at ha hb; subst ha; subst hb
      exact ⟨.func f .nil .nil, rfl⟩
    · simp at h
theorem all1_VR {M : Cx} : ∀ {l : List Value}, all1 l = true → VRL M l l ∧ ∀ v ∈ l, one v = true
  | [], _ => ⟨.nil, by simp⟩
  | v :: l, h => by
    simp only [all1] at h
    split at h
    · rename_i hv
      obtain ⟨h1, h2⟩ := nad1_VR (M := M) hv
      obtain ⟨h3, h4⟩ := all1_VR (M := M) h
      exact ⟨.cons h1 h3, by simpa using ⟨h2, h4⟩⟩
    · simp at h
theorem nad2_VR {M : Cx} {v : Value} (h : nad2 v = true) : VR M v v := by
  unfold nad2 at h
  split at h
  · rename_i c
    obtain ⟨c⟩ := c
    obtain ⟨h1, h2⟩ := all1_VR (M := M) h
    exact .agg h1 h2
  · exact (nad1_VR h).1
theorem all2_VR {M : Cx} : ∀ {l : List Value}, all2 l = true → VRL M l l
  | [], _ => .nil
  | v :: l, h => by
    simp only [all2] at h
    split at h
    · rename_i hv; exact .cons (nad2_VR hv) (all2_VR h)
    · simp at h
theorem nad_VR {M : Cx} {v : Value} (h : nad v = true) : VR M v v := by
  unfold nad at h
  split at h
  · rename_i c; obtain ⟨c⟩ := c; exact .tup (all2_VR h)
  · exact .iface _ (nad2_VR h)
  · exact nad2_VR h
/-- .. and nothing else. -/
theorem nad1_eq {M : Cx} {v v' : Value} (h : nad1 v = true) (k : VR M v v') : v' = v := by
  unfold nad1 at h
  split at h <;> try simp at h
  all_goals try (cases k; rfl)
  · rename_i f a b
    split at h
    · rename_i ha hb
      cases k with
      | func f ka kb => simp at ha hb; subst ha; subst hb; cases ka; cases kb; rfl
    · simp at h
theorem all1_eq {M : Cx} : ∀ {l l' : List Value}, all1 l = true → VRL M l l' → l' = l
  | [], _, _, .nil => rfl
  | v :: l, _, h, .cons a b => by
    simp only [all1] at h
    split at h
    · rename_i hv; rw [nad1_eq hv a, all1_eq h b]
    · simp at h
theorem nad2_eq {M : Cx} {v v' : Value} (h : nad2 v = true) (k : VR M v v') : v' = v := by
  unfold nad2 at h
  split at h
  · cases k with
    | agg a o => rw [all1_eq h a]
  · exact nad1_eq h k
theorem all2_eq {M : Cx} : ∀ {l l' : List Value}, all2 l = true → VRL M l l' → l' = l
  | [], _, _, .nil => rfl
  | v :: l, _, h, .cons a b => by
    simp only [all2] at h
    split at h
    · rename_i hv; rw [nad2_eq hv a, all2_eq h b]
    · simp at h
theorem nad_eq {M : Cx} {v v' : Value} (h : nad v = true) (k : VR M v v') : v' = v := by
  unfold nad at h
  split at h
  · cases k with
    | tup a => rw [all2_eq h a]
  · cases k with
    | iface t a => rw [nad2_eq h a]
  · exact nad2_eq h k
theorem VR.one_eq {M : Cx} {v v' : Value} (h : VR M v v') (k : X.one v = true) : X.one v' = true := by cases h <;> first | rfl | exact k | simp [X.one] at k
theorem VR.cells {M : Cx} {v v' : Value} (h : VR M v v') (hu : X.ntup v = true) : VRL M v.cells.toList v'.cells.toList := by
  cases h with
  | junk => simp [ntup] at hu
  | rsl a b c d e f => exact .cons (.rsl a b c d e f) .nil
  | rsl0 a b => exact .cons (.rsl0 a b) .nil
  | rpt a b c => exact .cons (.rpt a b c) .nil
  | agg c o => exact c
  | bool b => exact .cons (.bool b) .nil
  | int k n => exact .cons (.int k n) .nil
  | string s => exact .cons (.string s) .nil
  | ptrn => exact .cons .ptrn .nil
  | ptr off e => exact .cons (.ptr off e) .nil
  | sln n c => exact .cons (.sln n c) .nil
  | sl e s => exact .cons (.sl e s) .nil
  | mapn => exact .cons .mapn .nil
  | map e => exact .cons (.map e) .nil
  | nilf => exact .cons .nilf .nil
  | nili => exact .cons .nili .nil
  | func f a b => exact .cons (.func f a b) .nil
  | iface t a => exact .cons (.iface t a) .nil
  | tup a => exact .cons (.tup a) .nil
theorem nad1_one {v : Value} (h : nad1 v = true) : X.one v = true := (nad1_VR (M := ⟨fun _ => none, fun _ _ => none⟩) h).2
theorem of1_one {v : Value} (h : of1 v = true) : X.one v = true := by
  unfold of1 at h
  split at h
  · exact h
  · rfl
  · exact nad1_one h
mutual
/-- What names no memory is what it is wherever the same rows lie sealed. -/
theorem VR.base {M M' : Cx} (hs : ∀ b i v, M.S b i = some v → M'.S b i = some v) : ∀ {v v' : Value}, VR M v v' → of1 v = true → VR M' v v'
  | _, _, .bool b, _ => .bool b
  | _, _, .int k n, _ => .int k n
  | _, _, .string s, _ => .string s
  | _, _, .ptrn, _ => .ptrn
  | _, _, .ptr off e, h => by simp [of1, nad1] at h
  | _, _, .sln n c, _ => .sln n c
  | _, _, .sl e s, h => by simp [of1, nad1] at h
  | _, _, .mapn, _ => .mapn
  | _, _, .map e, h => by simp [of1, nad1] at h
  | _, _, .nilf, _ => .nilf
  | _, _, .nili, _ => .nili
  | _, _, .func f a b, h => by
    have h : nad1 (.func (.func f) ⟨_⟩ ⟨_⟩) = true := h
    have := nad1_VR (M := M') h
    have e := nad1_eq (M := M) h (.func f a b)
    rw [e]; exact this.1
  | _, _, .iface t v, h => by
    have h : nad2 _ = true := h
    rw [nad2_eq h v]; exact .iface t (nad2_VR h)
  | _, _, .agg c o, h => by simp [of1, nad1] at h
  | _, _, .tup c, h => by simp [of1, nad1] at h
  | _, _, .junk v, h => by simp [of1] at h
  | _, _, .rsl c o s a b d, _ => .rsl (VRL.base hs c o) o (fun i v e => hs _ _ _ (s i v e)) a b d
  | _, _, .rsl0 a b, _ => .rsl0 a b
  | _, _, .rpt c o s, _ => .rpt (VRL.base hs c o) o (fun i v e => hs _ _ _ (s i v e))
theorem VRL.base {M M' : Cx} (hs : ∀ b i v, M.S b i = some v → M'.S b i = some v) : ∀ {l l' : List Value}, VRL M l l' → (∀ v ∈ l, of1 v = true) → VRL M' l l'
  | _, _, .nil, _ => .nil
  | _, _, .cons v l, h => .cons (VR.base hs v (h _ (List.mem_cons_self ..))) (VRL.base hs l fun u hu => h u (List.mem_cons_of_mem _ hu))
end
theorem tup_inv {M : Cx} {l : Array Value} {v' : Value} (h : VR M (.tuple l) v') : ∃ c', v' = .tuple ⟨c'⟩ ∧ VRL M l.toList c' := by
  generalize e : Value.tuple l = u at h
  cases h with
  | tup a => simp at e; subst e; exact ⟨_, rfl, a⟩
  | _ => simp [slv] at e
/-! Memory -/
abbrev Hp := Nat → Option Ob
def frz (fr : Nat × Nat) (i : Nat) : Prop := fr.1 ≤ i ∧ i < fr.2
/-- An entry by names, and in truth. -/
structure ER (M : Cx) (e e' : MapEntry) : Prop where
  key : e'.key = e.key
  nad : nad e.key = true
  born : e'.born = e.born
  val : VR M e.val e'.val
def ERL (M : Cx) (l l' : List MapEntry) : Prop := l'.length = l.length ∧ ∀ (i : Nat) (e e' : MapEntry), l[i]? = some e → l'[i]? = some e' → ER M e e'
def ObR (P : Program) (M : Cx) (L : Loc) (w : World) : Ob → Prop
  | .cells c n T g => n = c.length ∧ (∀ v ∈ c, one v = true) ∧ ∃ (cs : Array Value) (T' : {t : TypeId // t = T ∧ (g = false → L.s = 0)}) (fr : Nat × Nat), w.heap[L.b]? = some (.cells cs T' fr) ∧
      (∀ (i : Nat) (v : Value), c[i]? = some v → ∃ v', cs[L.s + i]? = some v' ∧ VR M v v') ∧ (∀ i, i < c.length → ¬ frz fr (L.s + i)) ∧
      (g = false → L.g = none) ∧ (g = true → ∃ k, szT P T = some k ∧ L.g = some (cs.size, k) ∧ ∀ i, L.s ≤ i → i < cs.size → ¬ frz fr i)
  | .map es ck => ∃ es', w.heap[L.b]? = some (.map es' ck) ∧ ERL M es es'.toList
  | .iter s pos => L.s = 0 ∧ w.heap[L.b]? = some (.stringIter s pos)
/-- Globals that are only read lie sealed. -/
structure Amb (P : Program) (S : Nat → Nat → Option Value) (w : World) : Prop where
  r : ∀ k c, ro k = some c → k < P.globals.size ∧ c ≠ [] ∧ (∀ v ∈ c, one v = true) ∧ ∃ (c' : List Value) (T : TypeId) (fr : Nat × Nat), VRL ⟨fun _ => none, fun _ _ => none⟩ c c' ∧ (∀ (i : Nat) (v : Value), c'[i]? = some v → S k i = some v) ∧ w.heap[k]? = some (.cells ⟨c'⟩ T fr)
  i : ∀ k ∈ roI, ∃ m : Int, S k 0 = some (.int .i64 m)
  f : ∀ k ∈ roF, ∃ u v, S k 0 = some (.iface u v)
theorem Amb.mono {P : Program} {S S' : Nat → Nat → Option Value} {w : World} (h : Amb P S w) (k : ∀ b i v, S b i = some v → S' b i = some v) : Amb P S' w := ⟨fun j c e => let ⟨h1, h0, h2, c', T, fr, h3, h4, h5⟩ := h.r j c e; ⟨h1, h0, h2, c', T, fr, h3, fun i v q => k _ _ _ (h4 i v q), h5⟩, fun j hj => let ⟨m, e⟩ := h.i j hj; ⟨m, k _ _ _ e⟩, fun j hj => let ⟨m, v, e⟩ := h.f j hj; ⟨m, v, k _ _ _ e⟩⟩
theorem Amb.upd {P : Program} {S : Nat → Nat → Option Value} {w w' : World} (h : Amb P S w) (k : ∀ b i v, S b i = some v → w'.heap[b]? = w.heap[b]?) : Amb P S w' := ⟨fun j c e => by
  obtain ⟨h1, h0, h2, c', T, fr, h3, h4, h5⟩ := h.r j c e
  refine ⟨h1, h0, h2, c', T, fr, h3, h4, ?_⟩
  cases h3 with
  | nil => exact absurd rfl h0
  | cons a b => rw [k _ _ _ (h4 0 _ rfl)]; exact h5, h.i, h.f⟩
structure WR (P : Program) (M : Cx) (h : Hp) (w : World) : Prop where
  rows : ∀ b i v, M.S b i = some v → ∃ cs T fr, w.heap[b]? = some (.cells cs T fr) ∧ cs[i]? = some v
  apart : ∀ n o L i, h n = some o → M n = some L → M.S L.b i = none
  live : ∀ n o, h n = some o → ∃ L, M n = some L ∧ ObR P M L w o
  inj : ∀ n m o p L K, h n = some o → h m = some p → M n = some L → M m = some K → L.b = K.b → n = m
  glob : ∀ g, g < P.globals.size → M g = some ⟨g, 0, none⟩
  amb : Amb P M.S w
structure Kept (w w' : World) : Prop where
  os : w'.os = w.os
  tape : w'.tape = w.tape
  output : w'.output = w.output
  size : w.heap.size ≤ w'.heap.size
  shape : ∀ (b : Nat) (cs : Array Value) (T : TypeId) (fr : Nat × Nat), w.heap[b]? = some (.cells cs T fr) → ∃ cs' : Array Value, (∃ fr', w'.heap[b]? = some (.cells cs' T fr')) ∧ cs'.size = cs.size
theorem Kept.refl (w : World) : Kept w w := ⟨rfl, rfl, rfl, Nat.le_refl _, fun _ cs _ fr e => ⟨cs, ⟨fr, e⟩, rfl⟩⟩
theorem Kept.trans {a b c : World} (h : Kept a b) (k : Kept b c) : Kept a c := ⟨k.os.trans h.os, k.tape.trans h.tape, k.output.trans h.output, Nat.le_trans h.size k.size, fun b cs T fr e => let ⟨_, ⟨_, h1⟩, s1⟩ := h.shape b cs T fr e; let ⟨c2, h2, s2⟩ := k.shape b _ T _ h1; ⟨c2, h2, s2.trans s1⟩⟩
/-- What became of memory: it is as it is told, and all that isn't named is as it was. -/
structure Post (P : Program) (M M' : Cx) (h h' : Hp) (lo hi : Nat) (w w' : World) : Prop where
  pre : WR P M h w
  ext : Ext M M'
  new : ∀ n, M n = none → M' n ≠ none → lo ≤ n ∧ n < hi
  sl : ∀ b i v, M'.S b i = some v → M.S b i = some v ∨ w.heap.size ≤ b ∨ ∃ m o K, h m = some o ∧ M m = some K ∧ K.b = b
  blk : ∀ n L, M n = none → M' n = some L → w.heap.size ≤ L.b ∨ ∃ m o K, h m = some o ∧ M m = some K ∧ K.b = L.b
  dom : ∀ n o, h' n = some o → (∃ o, h n = some o) ∨ M n = none
  wr : WR P M' h' w'
  keep : ∀ b, b < w.heap.size → (∀ n o L, h n = some o → M n = some L → L.b ≠ b) → w'.heap[b]? = w.heap[b]?
  kept : Kept w w'
def Fresh (M : Cx) (lo hi : Nat) : Prop := ∀ n, lo ≤ n → n < hi → M n = none
theorem ObR.lt {P : Program} {M : Cx} {L : Loc} {w : World} {o : Ob} (h : ObR P M L w o) : L.b < w.heap.size := by
  cases o with
  | cells => obtain ⟨_, _, cs, T', fr, h, _⟩ := h; exact (Array.getElem?_eq_some_iff.1 h).1
  | map => obtain ⟨_, h, _⟩ := h; exact (Array.getElem?_eq_some_iff.1 h).1
  | iter => exact (Array.getElem?_eq_some_iff.1 h.2).1
theorem Post.refl {P : Program} {M : Cx} {h : Hp} {w : World} (lo hi : Nat) (hw : WR P M h w) : Post P M M h h lo hi w w :=
  ⟨hw, Ext.refl M, fun n a b => absurd a b, fun b i v e => .inl e, fun n L a b => by rw [a] at b; simp at b, fun n o e => .inl ⟨o, e⟩, hw, fun _ _ _ => rfl, Kept.refl w⟩
theorem Post.trans {P : Program} {A B C : Cx} {h0 h1 h2 : Hp} {lo mi hi : Nat} {a b c : World} (hm : lo ≤ mi) (hh : mi ≤ hi) (h : Post P A B h0 h1 lo mi a b) (k : Post P B C h1 h2 mi hi b c) : Post P A C h0 h2 lo hi a c where
  pre := h.pre
  ext := h.ext.trans k.ext
  new n e e' := by
    by_cases hB : B n = none
    · have := k.new n hB e'; omega
    · have := h.new n e hB; omega
  sl x i v e := by
    rcases k.sl x i v e with h1 | h1 | ⟨m, o, K, h1, h2, h3⟩
    · exact h.sl x i v h1
    · exact .inr (.inl (Nat.le_trans h.kept.size h1))
    · rcases h.dom m o h1 with ⟨o', h4⟩ | h4
      · obtain ⟨K0, h6, _⟩ := h.pre.live m o' h4
        exact .inr (.inr ⟨m, o', K0, h4, h6, by have := h.ext.n m K0 h6; rw [h2] at this; simp at this; rw [← this]; exact h3⟩)
      · rcases h.blk m K h4 h2 with hb | ⟨m', o', K', g1, g2, g3⟩
        · exact .inr (.inl (by omega))
        · exact .inr (.inr ⟨m', o', K', g1, g2, g3.trans h3⟩)
  blk n L e e' := by
    cases hB : B n with
    | none =>
      rcases k.blk n L hB e' with hb | ⟨m, o, K, h1, h2, h3⟩
      · exact .inl (Nat.le_trans h.kept.size hb)
      · rcases h.dom m o h1 with ⟨o', h4⟩ | h4
        · obtain ⟨K0, h6, _⟩ := h.pre.live m o' h4
          exact .inr ⟨m, o', K0, h4, h6, by have := h.ext.n m K0 h6; rw [h2] at this; simp at this; rw [← this]; exact h3⟩
        · rcases h.blk m K h4 h2 with hb | ⟨m', o', K', g1, g2, g3⟩
          · exact .inl (by omega)
          · exact .inr ⟨m', o', K', g1, g2, g3.trans h3⟩
    | some L' =>
      have := k.ext.n n L' hB
      rw [e'] at this; simp at this; subst this
      exact h.blk n L e hB
  dom n o e := by
    rcases k.dom n o e with ⟨o', h'⟩ | h'
    · exact h.dom n o' h'
    · cases hA : A n with
      | none => exact .inr rfl
      | some L => have := h.ext.n n L hA; rw [h'] at this; simp at this
  wr := k.wr
  keep x hx hn := by
    rw [k.keep x (Nat.lt_of_lt_of_le hx h.kept.size) ?_, h.keep x hx hn]
    intro n o L e1 e2 e3
    rcases h.dom n o e1 with ⟨o', h'⟩ | h'
    · cases hA : A n with
      | some L0 =>
        have := h.ext.n n L0 hA
        rw [e2] at this; simp at this; subst this
        exact hn n o' L h' hA e3
      | none =>
        rcases h.blk n L hA e2 with hb | ⟨m, o', K, g1, g2, g3⟩
        · omega
        · exact hn m o' K g1 g2 (g3.trans e3)
    · rcases h.blk n L h' e2 with hb | ⟨m, o', K, g1, g2, g3⟩
      · omega
      · exact hn m o' K g1 g2 (g3.trans e3)
  kept := h.kept.trans k.kept
end Go.X
end
section
set_option linter.unusedVariables false
namespace Go.X
open Go Go.RowKit
variable {P : Program} {M M' : Cx} {h h' : Hp} {w w' : World}
theorem ObR.mono {L : Loc} {o : Ob} (hx : Ext M M') (hb : w'.heap[L.b]? = w.heap[L.b]?) (k : ObR P M L w o) : ObR P M' L w' o := by
  cases o with
  | cells c n T g =>
    obtain ⟨h1, h2, cs, T', fr, h3, h4, h5⟩ := k
    exact ⟨h1, h2, cs, T', fr, hb.trans h3, fun i v e => let ⟨v', a, b⟩ := h4 i v e; ⟨v', a, b.mono hx⟩, h5⟩
  | map es ck =>
    obtain ⟨es', h1, h2, h3⟩ := k
    exact ⟨es', hb.trans h1, h2, fun i e e' a b => let q := h3 i e e' a b; ⟨q.key, q.nad, q.born, q.val.mono hx⟩⟩
  | iter s pos => exact ⟨k.1, hb.trans k.2⟩
/-- Memory behind a change. -/
theorem WR.upd (hw : WR P M h w) (hx : Ext M M') (hS : M'.S = M.S) (hk : ∀ b i v, M.S b i = some v → w'.heap[b]? = w.heap[b]?)
    (hd : ∀ n o, h' n = some o → (h n = some o ∧ ∀ L, M n = some L → w'.heap[L.b]? = w.heap[L.b]?) ∨ (∃ L, M' n = some L ∧ ObR P M' L w' o ∧ (∀ i, M.S L.b i = none) ∧ ∀ m p K, h' m = some p → m ≠ n → M' m = some K → K.b ≠ L.b)) : WR P M' h' w' where
  rows b i v e := by
    rw [hS] at e
    rw [hk b i v e]; exact hw.rows b i v e
  apart n o L i e hL := by
    rw [hS]
    rcases hd n o e with ⟨h1, _⟩ | ⟨L', h1, _, h2, _⟩
    · obtain ⟨L0, a1, _⟩ := hw.live n o h1
      have := hx.n n L0 a1; rw [hL] at this; simp at this; subst this
      exact hw.apart n o L i h1 a1
    · rw [hL] at h1; simp at h1; subst h1; exact h2 i
  live n o e := by
    rcases hd n o e with ⟨h1, h2⟩ | ⟨L, h1, h2, _⟩
    · obtain ⟨L, h3, h4⟩ := hw.live n o h1
      exact ⟨L, hx.n n L h3, h4.mono hx (h2 L h3)⟩
    · exact ⟨L, h1, h2⟩
  inj n m o p L K e1 e2 e3 e4 e5 := by
    rcases hd n o e1 with ⟨h1, h2⟩ | ⟨L', h1, h2, _, h3⟩
    · rcases hd m p e2 with ⟨g1, g2⟩ | ⟨K', g1, g2, _, g3⟩
      · obtain ⟨L0, a1, _⟩ := hw.live n o h1
        obtain ⟨K0, b1, _⟩ := hw.live m p g1
        have := hx.n n L0 a1; rw [e3] at this; simp at this; subst this
        have := hx.n m K0 b1; rw [e4] at this; simp at this; subst this
        exact hw.inj n m o p L K h1 g1 a1 b1 e5
      · rw [e4] at g1; simp at g1; subst g1
        by_cases c : n = m
        · exact c
        · exact absurd e5 (g3 n o L e1 c e3)
    · rw [e3] at h1; simp at h1; subst h1
      by_cases c : n = m
      · exact c
      · exact absurd e5.symm (h3 m p K e2 (fun e => c e.symm) e4)
  glob g hg := hx.n g _ (hw.glob g hg)
  amb := by rw [hS]; exact hw.amb.upd hk
/-- One block has changed. -/
structure Chg1 (w w' : World) (b : Nat) (o : Obj) : Prop where
  at_ : w'.heap[b]? = some o
  oth : ∀ k, k ≠ b → w'.heap[k]? = w.heap[k]?
  kept : Kept w w'
/-- A block more. -/
theorem chg_new (w : World) (o : Obj) : Chg1 w { w with heap := w.heap.push o } w.heap.size o where
  at_ := by simp
  oth k hk := by
    simp only [Array.getElem?_push]
    split
    · rename_i e; exact absurd e hk
    · rfl
  kept := ⟨rfl, rfl, rfl, by simp, fun b cs T fr e => ⟨cs, ⟨fr, by
    have := (Array.getElem?_eq_some_iff.1 e).1
    rw [Array.getElem?_push, if_neg (by omega)]; exact e⟩, rfl⟩⟩
def setH (h : Hp) (n : Nat) (o : Option Ob) : Hp := fun m => if m = n then o else h m
def setM (M : Cx) (n : Nat) (L : Loc) : Cx := ⟨fun m => if m = n then some L else M m, M.S⟩
theorem WR.lt (hw : WR P M h w) {b i : Nat} {v : Value} (e : M.S b i = some v) : b < w.heap.size := by
  obtain ⟨cs, T, fr, h1, _⟩ := hw.rows b i v e
  exact (Array.getElem?_eq_some_iff.1 h1).1
theorem WR.no (hw : WR P M h w) {b i : Nat} (e : w.heap.size ≤ b) : M.S b i = none := by
  cases c : M.S b i with
  | none => rfl
  | some v => have := hw.lt c; omega
theorem setM_ext {n : Nat} {L : Loc} (hn : M n = none) : Ext M (setM M n L) := by
  refine ⟨fun m K e => ?_, fun _ _ _ e => e⟩
  dsimp only [setM]
  split
  · rename_i c; subst c; rw [hn] at e; simp at e
  · exact e
/-- A named block has changed. -/
theorem Post.write {n : Nat} {o p : Ob} {L : Loc} {obj : Obj} (lo hi : Nat) (hw : WR P M h w) (hn : h n = some o) (hL : M n = some L) (hc : Chg1 w w' L.b obj) (hp : ObR P M L w' p) :
    Post P M M h (setH h n (some p)) lo hi w w' where
  pre := hw
  ext := Ext.refl M
  new m a b := absurd a b
  sl b i v e := .inl e
  blk m K a b := by rw [a] at b; simp at b
  dom m q e := by
    unfold setH at e
    split at e
    · rename_i c; subst c; exact .inl ⟨o, hn⟩
    · exact .inl ⟨q, e⟩
  wr := by
    refine hw.upd (Ext.refl M) rfl (fun b i v e => hc.oth b fun c => by subst c; have := hw.apart n o L i hn hL; rw [e] at this; simp at this) fun m q e => ?_
    unfold setH at e
    split at e
    · rename_i c; subst c
      simp at e; subst e
      refine .inr ⟨L, hL, hp, fun i => hw.apart m o L i hn hL, fun k q K e1 e2 e3 e4 => ?_⟩
      simp only [setH, if_neg e2] at e1
      exact e2 (hw.inj k m q o K L e1 hn e3 hL e4)
    · rename_i c
      exact .inl ⟨e, fun K hK => hc.oth K.b fun e' => c (hw.inj m n q o K L e hn hK hL e')⟩
  keep b hb hk := hc.oth b fun e => hk n o L hn hL e.symm
  kept := hc.kept
/-- A named block has changed, and its name dies. -/
theorem Post.die {n : Nat} {o : Ob} {L : Loc} {obj : Obj} (lo hi : Nat) (hw : WR P M h w) (hn : h n = some o) (hL : M n = some L) (hc : Chg1 w w' L.b obj) :
    Post P M M h (setH h n none) lo hi w w' where
  pre := hw
  ext := Ext.refl M
  new m a b := absurd a b
  sl b i v e := .inl e
  blk m K a b := by rw [a] at b; simp at b
  dom m q e := by
    unfold setH at e
    split at e
    · simp at e
    · exact .inl ⟨q, e⟩
  wr := by
    refine hw.upd (Ext.refl M) rfl (fun b i v e => hc.oth b fun c => by subst c; have := hw.apart n o L i hn hL; rw [e] at this; simp at this) fun m q e => ?_
    unfold setH at e
    split at e
    · simp at e
    · rename_i c
      exact .inl ⟨e, fun K hK => hc.oth K.b fun e' => c (hw.inj m n q o K L e hn hK hL e')⟩
  keep b hb hk := hc.oth b fun e => hk n o L hn hL e.symm
  kept := hc.kept
/-- A name more. -/
theorem Post.new_ {n : Nat} {p : Option Ob} {L : Loc} {obj : Obj} (hw : WR P M h w) (hn : M n = none) (hb : L.b = w.heap.size) (hc : Chg1 w w' w.heap.size obj) (hp : ∀ q, p = some q → ObR P (setM M n L) L w' q) :
    Post P M (setM M n L) h (setH h n p) n (n + 1) w w' where
  pre := hw
  ext := setM_ext hn
  new m a b := by
    dsimp only [setM] at b
    split at b
    · rename_i c; omega
    · exact absurd a b
  sl b i v e := .inl e
  blk m K a b := by
    dsimp only [setM] at b
    split at b
    · simp at b; subst b; exact .inl (by omega)
    · rw [a] at b; simp at b
  dom m q e := by
    unfold setH at e
    split at e
    · rename_i c; subst c; exact .inr hn
    · exact .inl ⟨q, e⟩
  wr := by
    refine hw.upd (setM_ext hn) rfl (fun b i v e => hc.oth b fun c => by subst c; have := hw.lt e; omega) fun m q e => ?_
    unfold setH at e
    split at e
    · rename_i c; subst c
      refine .inr ⟨L, by simp [setM], hp q e, fun i => hw.no (by omega), fun k q K e1 e2 e3 e4 => ?_⟩
      simp only [setH, if_neg e2] at e1
      simp only [setM, if_neg e2] at e3
      obtain ⟨K', a1, a2⟩ := hw.live k q e1
      rw [e3] at a1; simp at a1; subst a1
      have := a2.lt; omega
    · exact .inl ⟨e, fun K hK => hc.oth K.b (by obtain ⟨K', a1, a2⟩ := hw.live m q e; rw [hK] at a1; simp at a1; subst a1; have := a2.lt; omega)⟩
  keep b hb hk := hc.oth b (by omega)
  kept := hc.kept
/-- A name dies, another one comes: in its block, or in a new one. -/
theorem Post.turn {n j : Nat} {o : Ob} {p : Option Ob} {K L : Loc} {obj : Obj} (hw : WR P M h w) (hj : h j = some o) (hK : M j = some K) (hn : M n = none) (hb : L.b = w.heap.size ∨ L.b = K.b) (hc : Chg1 w w' L.b obj) (hp : ∀ q, p = some q → ObR P (setM M n L) L w' q) :
    Post P M (setM M n L) h (setH (setH h j none) n p) n (n + 1) w w' where
  pre := hw
  ext := setM_ext hn
  new m a b := by
    dsimp only [setM] at b
    split at b
    · rename_i c; omega
    · exact absurd a b
  sl b i v e := .inl e
  blk m Q a b := by
    dsimp only [setM] at b
    split at b
    · simp at b; subst b
      rcases hb with hb | hb
      · exact .inl (by omega)
      · exact .inr ⟨j, o, K, hj, hK, hb.symm⟩
    · rw [a] at b; simp at b
  dom m q e := by
    unfold setH at e
    split at e
    · rename_i c; subst c; exact .inr hn
    · split at e
      · simp at e
      · exact .inl ⟨q, e⟩
  wr := by
    have key : ∀ m q Q, m ≠ j → h m = some q → M m = some Q → Q.b ≠ L.b := by
      intro m q Q c e hQ e'
      rcases hb with hb | hb
      · obtain ⟨K', a1, a2⟩ := hw.live m q e
        rw [hQ] at a1; simp at a1; subst a1
        have := a2.lt; omega
      · exact c (hw.inj m j q o Q K e hj hQ hK (e'.trans hb))
    have nS : ∀ i, M.S L.b i = none := fun i => by
      rcases hb with hb | hb
      · exact hw.no (by omega)
      · rw [hb]; exact hw.apart j o K i hj hK
    refine hw.upd (setM_ext hn) rfl (fun b i v e => hc.oth b fun c => by subst c; rw [nS] at e; simp at e) fun m q e => ?_
    unfold setH at e
    split at e
    · rename_i c; subst c
      refine .inr ⟨L, by simp [setM], hp q e, nS, fun k q Q e1 e2 e3 => ?_⟩
      simp only [setH, if_neg e2] at e1
      simp only [setM, if_neg e2] at e3
      split at e1
      · simp at e1
      · rename_i c; exact key k q Q c e1 e3
    · split at e
      · simp at e
      · rename_i c; exact .inl ⟨e, fun Q hQ => hc.oth Q.b (key m q Q c e hQ)⟩
  keep b hb' hk := hc.oth b (by
    intro e
    rcases hb with hb | hb
    · omega
    · exact hk j o K hj hK (hb.symm.trans e.symm))
  kept := hc.kept
/-! The executor's memory -/
theorem look_eq (B : Ban) (s : XS) (n : Nat) : look B s n = if bn B n = true then none else hget s n := by
  unfold look
  cases B with
  | nil => simp [bn]
  | cons b B => dsimp only; split <;> simp_all
theorem hget_eq (s : XS) (n : Nat) : hget s n = if tops ≤ n then none else T4.get (dg 10 n) s.h := by
  have e : hget s n = Bool.rec (T4.get (dg 10 n) s.h) none (Nat.ble tops n) := rfl
  rw [e]
  by_cases c : tops ≤ n
  · rw [if_pos c, Nat.ble_eq_true_of_le c]
  · rw [if_neg c]
    have : Nat.ble tops n = false := by
      cases q : Nat.ble tops n
      · rfl
      · exact absurd (Nat.le_of_ble_eq_true q) c
    rw [this]
theorem hget_lt {s : XS} {n : Nat} {o : Ob} (e : hget s n = some o) : n < tops := by
  rw [hget_eq] at e
  split at e
  · simp at e
  · omega
theorem look_some {B : Ban} {s : XS} {n : Nat} {o : Ob} (e : look B s n = some o) : hget s n = some o ∧ bn B n = false ∧ n < tops := by
  rw [look_eq] at e
  split at e
  · simp at e
  · rename_i c; exact ⟨e, by simpa using c, hget_lt e⟩
theorem hget_wrt {lo : Nat} {s : XS} {n : Nat} (o : Option Ob) (hn : n < tops) (m : Nat) : hget (wrt lo s n o) m = if m = n then o else hget s m := by
  rw [hget_eq, hget_eq]
  by_cases c : m = n
  · subst c
    rw [if_neg (by omega), if_pos rfl]
    exact get_put_same _ _ _
  · rw [if_neg c]
    split
    · rfl
    · rename_i hm
      exact get_put_ne _ _ _ _ (fun e => c ((dg_ne hn (by omega)).1 e).symm)
theorem look_wrt {B : Ban} {lo : Nat} {s : XS} {n : Nat} {o0 : Ob} (o : Option Ob) (e : look B s n = some o0) : look B (wrt lo s n o) = setH (look B s) n o := by
  funext m
  obtain ⟨h1, h2, h3⟩ := look_some e
  rw [look_eq, hget_wrt o h3, setH, look_eq]
  by_cases c : m = n
  · subst c; simp [h2]
  · simp [c]
/-- The state with a name more. -/
noncomputable def more (s : XS) (o : Ob) : XS := ⟨T4.put (some o) (dg 10 s.nx) s.h, Nat.succ s.nx, s.lg⟩
theorem hget_more {s : XS} (o : Ob) (hn : s.nx < tops) (m : Nat) : hget (more s o) m = if m = s.nx then some o else hget s m := by
  rw [hget_eq, hget_eq]
  by_cases c : m = s.nx
  · subst c
    rw [if_neg (by omega), if_pos rfl]
    exact get_put_same _ _ _
  · rw [if_neg c]
    split
    · rfl
    · rename_i hm
      exact get_put_ne _ _ _ _ (fun e => c ((dg_ne hn (by omega)).1 e).symm)
theorem look_more {B : Ban} {s : XS} (o : Ob) (hn : s.nx < tops) : look B (more s o) = setH (look B s) s.nx (if bn B s.nx = true then none else some o) := by
  funext m
  rw [look_eq, hget_more o hn, setH, look_eq]
  by_cases c : m = s.nx
  · subst c; simp
  · simp [c]
theorem new_eq {s : XS} {o : Ob} {k : Nat → XS → OR} {r : OR} (e : new s o k = r) : (s.nx < tops ∧ k s.nx (more s o) = r) ∨ r = .bad "room" := by
  have e' : new s o k = Bool.rec (k s.nx (more s o)) (.bad "room") (Nat.ble tops s.nx) := rfl
  rw [e'] at e
  cases c : Nat.ble tops s.nx
  · rw [c] at e
    refine .inl ⟨?_, e⟩
    rcases Nat.lt_or_ge s.nx tops with h | h
    · exact h
    · rw [Nat.ble_eq_true_of_le h] at c; simp at c
  · rw [c] at e; exact .inr e.symm
/-! What an executor's step does to its memory -/
structure SF (B : Ban) (lo : Nat) (s s' : XS) : Prop where
  nx : s.nx ≤ s'.nx
  fre : (∀ n, s.nx ≤ n → hget s n = none) → ∀ n, s'.nx ≤ n → hget s' n = none
  log : ∀ n, n < lo → n < s.nx → n ∉ s'.lg → hget s' n = hget s n
  lg : ∀ n, n ∈ s.lg → n ∈ s'.lg
  ban : ∀ n, n < s.nx → bn B n = true → hget s' n = hget s n
theorem SF.refl (B : Ban) (lo : Nat) (s : XS) : SF B lo s s := ⟨Nat.le_refl _, fun h => h, fun _ _ _ _ => rfl, fun _ h => h, fun _ _ _ => rfl⟩
theorem SF.trans {B : Ban} {lo : Nat} {a b c : XS} (h : SF B lo a b) (k : SF B lo b c) : SF B lo a c where
  nx := Nat.le_trans h.nx k.nx
  fre e := k.fre (h.fre e)
  log n h1 h2 h3 := (k.log n h1 (Nat.lt_of_lt_of_le h2 h.nx) h3).trans (h.log n h1 h2 fun e => h3 (k.lg n e))
  lg n e := k.lg n (h.lg n e)
  ban n h1 h2 := (k.ban n (Nat.lt_of_lt_of_le h1 h.nx) h2).trans (h.ban n h1 h2)
theorem mem_iff : ∀ (l : List Nat) (n : Nat), mem l n = true ↔ n ∈ l
  | [], n => by simp [mem]
  | a :: l, n => by
    have ih := mem_iff l n
    unfold mem
    cases c : Nat.beq a n
    · have : a ≠ n := fun e => by subst e; simp at c
      simp [ih, Ne.symm this]
    · have : a = n := Nat.eq_of_beq_eq_true c
      simp [this]
theorem logged_lg {lo : Nat} {l : List Nat} {n m : Nat} (e : m ∈ l) : m ∈ logged lo l n := by
  unfold logged
  split
  · exact e
  · split
    · exact e
    · exact List.mem_cons_of_mem _ e
theorem logged_mem {lo : Nat} {l : List Nat} {n : Nat} (hn : n < lo) : n ∈ logged lo l n := by
  unfold logged
  split
  · rename_i c; exact absurd (Nat.le_of_ble_eq_true c) (by omega)
  · split
    · rename_i c; exact (mem_iff l n).1 c
    · simp
theorem SF.wrt {B : Ban} {lo : Nat} {s : XS} {n : Nat} {o0 : Ob} (o : Option Ob) (e : look B s n = some o0) : SF B lo s (wrt lo s n o) := by
  obtain ⟨h1, h2, h3⟩ := look_some e
  refine ⟨Nat.le_refl _, fun hf m hm => ?_, fun m h4 h5 h6 => ?_, fun m hm => logged_lg hm, fun m h4 h5 => ?_⟩
  · rw [hget_wrt o h3]
    have := hf m hm
    split
    · rename_i c; subst c; rw [h1] at this; simp at this
    · exact this
  · rw [hget_wrt o h3, if_neg]
    rintro rfl
    exact h6 (logged_mem h4)
  · rw [hget_wrt o h3, if_neg]
    rintro rfl
    rw [h2] at h5; simp at h5
theorem SF.more {B : Ban} {lo : Nat} {s : XS} (o : Ob) (hn : s.nx < tops) : SF B lo s (more s o) := by
  refine ⟨Nat.le_succ _, fun hf m hm => ?_, fun m h4 h5 h6 => ?_, fun m hm => hm, fun m h4 h5 => ?_⟩
  · have hm' : s.nx + 1 ≤ m := hm
    rw [hget_more o hn, if_neg (by omega)]
    exact hf m (by omega)
  · rw [hget_more o hn, if_neg (by omega)]
  · rw [hget_more o hn, if_neg (by omega)]
end Go.X
end
