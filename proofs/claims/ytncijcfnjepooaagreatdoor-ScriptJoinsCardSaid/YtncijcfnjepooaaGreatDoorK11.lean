/-
  A part of the proof of ScriptJoins: no statement of the seat is proved here.
-/
import Derived.Test.YtncijcfnjepooaaGreatDoorK10
import Derived.Recover
import Derived.Deep.Draws
set_option linter.unusedVariables false
set_option linter.unusedSimpArgs false
set_option linter.unnecessarySimpa false
set_option linter.unusedSectionVars false
set_option linter.constructorNameAsVariable false
set_option linter.deprecated false
section
set_option linter.unusedVariables false
namespace Go.X
open Go Go.RowKit
/-! Models' words, and what they tell of the code -/
def ifb {α : Type} (e : Bool) (a b : Option α) : Option α := match e with | true => a | false => b
def at_ {α : Type} (l : List α) (i : Int) : Option α := if 0 ≤ i then l[i.toNat]? else none
theorem Bs {α β : Type} {x : Option α} {f : α → Option β} {r : β} (h : x.bind f = some r) : ∃ y, x = some y ∧ f y = some r := Option.bind_eq_some_iff.1 h
theorem at_lt {α : Type} {l : List α} {i : Int} {x : α} (h : at_ l i = some x) : i = (i.toNat : Int) ∧ l[i.toNat]? = some x ∧ i.toNat < l.length := by
  unfold at_ at h
  split at h
  · exact ⟨by omega, h, (List.getElem?_eq_some_iff.1 h).1⟩
  · simp at h
theorem Mo {σ β : Type} {X : Option β} {y : σ ⊕ β} {r : β} (h : Option.map Sum.inr X = some y) (k : ∀ r', y = .inr r' → r' = r) : X = some r := by
  cases X with
  | none => simp at h
  | some x => simp at h; rw [k x h.symm]
/-- What a model answers at last. -/
theorem Eqs {α : Type} {a r : α} {K : α → Prop} (h : some a = some r) (k : K a) : K r := by
  have := Option.some.inj h
  subst this
  exact k
/-- A list as cells. -/
noncomputable def fl {α : Type} (row : α → List Value) (l : List α) : List Value := (l.map row).flatten
/-- Rows of so many cells each, that hold no names. -/
class RowW {α : Type} (row : α → List Value) (k : outParam Nat) : Prop where
  w : ∀ x, (row x).length = k
  o : ∀ x, ∀ v ∈ row x, of1 v = true
theorem fl_of {α : Type} {row : α → List Value} {k : Nat} [r : RowW row k] (l : List α) : ∀ v ∈ fl row l, of1 v = true := by
  intro v hv
  obtain ⟨c, hc, h⟩ := List.mem_flatten.1 hv
  obtain ⟨x, _, rfl⟩ := List.mem_map.1 hc
  exact r.o x v h
theorem fl_len {α : Type} {row : α → List Value} {k : Nat} [r : RowW row k] (l : List α) : (fl row l).length = l.length * k := by
  unfold fl
  induction l with
  | nil => simp
  | cons x l ih => rw [List.map_cons, List.flatten_cons, List.length_append, ih, r.w, List.length_cons, Nat.add_mul]; omega
theorem fl_drop {α : Type} {row : α → List Value} {k : Nat} [r : RowW row k] : ∀ (l : List α) (j : Nat), (fl row l).drop (j * k) = fl row (l.drop j)
  | l, 0 => by simp
  | [], j + 1 => by simp [fl]
  | x :: l, j + 1 => by
    have := fl_drop (row := row) (k := k) l j
    rw [List.drop_succ_cons, ← this]
    show ((row x) ++ fl row l).drop ((j + 1) * k) = _
    rw [Nat.add_mul, Nat.one_mul, Nat.add_comm, ← List.drop_drop, List.drop_left' (r.w x)]
theorem fl_at {α : Type} {row : α → List Value} {k : Nat} [r : RowW row k] {l : List α} {j fo : Nat} {x : α} (h : l[j]? = some x) (hf : fo < k) : (fl row l)[j * k + fo]? = (row x)[fo]? := by
  rw [← List.getElem?_drop, fl_drop]
  obtain ⟨hj, e⟩ := List.getElem?_eq_some_iff.1 h
  rw [List.drop_eq_getElem_cons hj, e]
  show ((row x) ++ fl row _)[fo]? = _
  rw [List.getElem?_append_left (by rw [r.w]; exact hf)]
/-- A sealed list. -/
noncomputable def sl {α : Type} (row : α → List Value) (l : List α) : Value := slv 0 (fl row l) 0 l.length
section
variable {P : Program} {m n g : Nat} {s : XS} {f : Fr} {x y : Code} {Q : Ex → Fr → XS → Prop} {α : Type}
theorem CW.ite {c : Operand} {b : Bool} {X Y : Option α} {r : α} (h : ifb b X Y = some r) (hb : ev f.tm c = .bool b) (h1 : b = true → X = some r → CW P m n x f s Q) (h2 : b = false → Y = some r → CW P m n y f s Q) : CW P m n (.cond c x y) f s Q :=
  CW.cond b hb (fun e => h1 e (by subst e; exact h)) fun e => h2 e (by subst e; exact h)
theorem WIf.mo {b : Bool} {A B : Prop} {X Y : Option α} {r : α} (h : ifb b X Y = some r) (h1 : b = true → X = some r → A) (h2 : b = false → Y = some r → B) : WIf b A B :=
  WIf.c (fun e => h1 e (by subst e; exact h)) fun e => h2 e (by subst e; exact h)
theorem WI.at {v : Value} {N : Nat} {K : Nat → Prop} {l : List α} {i : Int} {z : α} (e : at_ l i = some z) (hv : intV v = some i) (hN : N = l.length) (k : K i.toNat) : WI v N K := by
  obtain ⟨h1, h2, h3⟩ := at_lt e
  exact ⟨⟨i.toNat, by rw [hv, ← h1], by rw [hN]; exact h3, k⟩⟩
theorem WP.sc {T : TypeId} {row : α → List Value} {k fo M : Nat} [rw_ : RowW row k] {l : List α} {i : Int} {z : α} {v : Value} {K : Value → Prop} (ha : isAg P T = some false) (e : at_ l i = some z) (hv : (row z)[fo]? = some v) (h : K v) : WP P T (fl row l) M (Nat.add (Nat.add 0 (Nat.mul i.toNat k)) fo) K := by
  obtain ⟨_, h2, _⟩ := at_lt e
  have hf : fo < k := by rw [← rw_.w z]; exact (List.getElem?_eq_some_iff.1 hv).1
  refine ⟨⟨v, ?_, h⟩⟩
  unfold partV
  rw [ha]
  show nth (fl row l) (0 + i.toNat * k + fo) = some v
  rw [nth_eq, Nat.zero_add, fl_at h2 hf, hv]
theorem WP.sc0 {T : TypeId} {row : α → List Value} {k M : Nat} [rw_ : RowW row k] {l : List α} {i : Int} {z : α} {v : Value} {K : Value → Prop} (ha : isAg P T = some false) (e : at_ l i = some z) (hv : (row z)[0]? = some v) (h : K v) : WP P T (fl row l) M (Nat.add 0 (Nat.mul i.toNat k)) K := by
  have := WP.sc (P := P) (M := M) (fo := 0) ha e hv h
  exact this
theorem WP.ag {T : TypeId} {row : α → List Value} {k q fo : Nat} [rw_ : RowW row k] {l : List α} {i : Int} {z : α} {K : Value → Prop} (ha : isAg P T = some true) (hq : szT P T = some q) (e : at_ l i = some z) (hf : Nat.ble (Nat.add fo q) k = true) (h : K (.agg ⟨((row z).drop fo).take q⟩)) : WP P T (fl row l) (len (fl row l)) (Nat.add (Nat.add 0 (Nat.mul i.toNat k)) fo) K := by
  obtain ⟨_, h2, h3⟩ := at_lt e
  have hf : fo + q ≤ k := Nat.le_of_ble_eq_true hf
  have hle : i.toNat * k + k ≤ l.length * k := by
    have : (i.toNat + 1) * k ≤ l.length * k := Nat.mul_le_mul_right k h3
    rw [Nat.add_mul] at this; omega
  refine ⟨⟨_, ?_, h⟩⟩
  unfold partV
  rw [ha]
  simp only [hq]
  rw [len_eq, fl_len, Nat.ble_eq_true_of_le (by show 0 + i.toNat * k + fo + q ≤ _; omega)]
  show some (Value.agg ⟨tkl q (dr (0 + i.toNat * k + fo) (fl row l))⟩) = _
  rw [tkl_eq, dr_eq, Nat.zero_add, ← List.drop_drop, fl_drop]
  obtain ⟨hj, e'⟩ := List.getElem?_eq_some_iff.1 h2
  rw [List.drop_eq_getElem_cons hj, e']
  show some (Value.agg ⟨(((row z) ++ fl row _).drop fo).take q⟩) = _
  rw [List.drop_append_of_le_length (by rw [rw_.w]; omega), List.take_append_of_le_length (by rw [List.length_drop, rw_.w]; omega)]
theorem WP.ag0 {T : TypeId} {row : α → List Value} {k q : Nat} [rw_ : RowW row k] {l : List α} {i : Int} {z : α} {K : Value → Prop} (ha : isAg P T = some true) (hq : szT P T = some q) (e : at_ l i = some z) (hf : Nat.ble (Nat.add 0 q) k = true) (h : K (.agg ⟨((row z).drop 0).take q⟩)) : WP P T (fl row l) (len (fl row l)) (Nat.add 0 (Nat.mul i.toNat k)) K :=
  WP.ag (fo := 0) ha hq e hf h
/-! What computes -/
theorem WI.c {v : Value} {N j : Nat} {K : Nat → Prop} (hv : intV v = some (Int.ofNat j)) (hj : Nat.blt j N = true) (k : K j) : WI v N K := ⟨⟨j, hv, Nat.le_of_ble_eq_true hj, k⟩⟩
theorem WP.c {T : TypeId} {c : List Value} {M off : Nat} {v : Value} {K : Value → Prop} (h : partV P T c M off = some v) (k : K v) : WP P T c M off K := ⟨⟨v, h, k⟩⟩
theorem WP.go {T : TypeId} {c : List Value} {M off : Nat} {K : Value → Prop} (h : WP P T c M off K) : WP P T c M off K := h
theorem WL.c {a b : Nat} {K : Prop} (h : Nat.ble a b = true) (k : K) : WL a b K := ⟨Nat.le_of_ble_eq_true h, k⟩
theorem WQ.c {r : OR} {K : OR → Prop} (k : K r) : WQ r K := ⟨⟨r, rfl, k⟩⟩
theorem WIf.b {A B : Prop} (b : Bool) (h : b = true → (!b) = false → A) (k : b = false → (!b) = true → B) : WIf b A B := by
  cases b
  · exact .f rfl (k rfl rfl)
  · exact .t rfl (h rfl rfl)
theorem WIf.nb {A B : Prop} (b : Bool) (h : b = true → (!b) = false → B) (k : b = false → (!b) = true → A) : WIf (!b) A B := by
  cases b
  · exact .t rfl (k rfl rfl)
  · exact .f rfl (h rfl rfl)
theorem CW.cb {c : Operand} (b : Bool) (hb : ev f.tm c = .bool b) (h1 : b = true → (!b) = false → CW P m n x f s Q) (h2 : b = false → (!b) = true → CW P m n y f s Q) : CW P m n (.cond c x y) f s Q := CW.cond b hb (fun e => h1 e (by rw [e]; rfl)) fun e => h2 e (by rw [e]; rfl)
theorem WIf.go {b : Bool} {A B : Prop} (k : WIf b A B) : WIf b A B := k
theorem WQ.go {r : OR} {K : OR → Prop} (k : WQ r K) : WQ r K := k
theorem WQ.v {r : OR} {v : Value} {s' : XS} {K : OR → Prop} (h : r = .val v s') (k : K (.val v s')) : WQ r K := ⟨⟨_, h, k⟩⟩
theorem WQ.dd {r : OR} {d : Deferred} {K : OR → Prop} (h : r = .dfr d) (k : K (.dfr d)) : WQ r K := ⟨⟨_, h, k⟩⟩
theorem WC.c {B : Ban} {lo fid : Nat} {args : List Value} {s s' : XS} {v : Value} {K Kp : Value → XS → Prop} (h : TC P B lo fid args s v s') (k : K v s') : WC P B lo fid args s K Kp := ⟨.inl ⟨v, s', h, k⟩⟩
theorem WC.p {B : Ban} {lo fid : Nat} {args : List Value} {s s' : XS} {v : Value} {K Kp : Value → XS → Prop} (h : TP P B lo fid args s v s') (k : Kp v s') : WC P B lo fid args s K Kp := ⟨.inr ⟨v, s', h, k⟩⟩
theorem Fn.mk {e : Ex} {f1 : Fr} {s1 : XS} {v1 : Value} {R : RR} {K : Value → Prop} (h1 : e = .normal ∨ e = .ret) (h2 : f1.df = []) (h3 : R = .ret v1 s1) (h4 : K v1) : (e = .normal ∨ e = .ret) ∧ f1.df = [] ∧ ∃ v1, R = .ret v1 s1 ∧ K v1 := ⟨h1, h2, v1, h3, h4⟩
end
end Go.X
end
section
set_option linter.unusedVariables false
namespace Go.X
open Go Go.RowKit
section
variable {P : Program} {m n g : Nat} {s : XS} {f : Fr} {x : Code} {Q : Ex → Fr → XS → Prop}
/-- What a round leaves, by an invariant. -/
def LI {σ : Type} (m n : Nat) (F : σ → Fr) (S : σ → XS) (Q : Ex → Fr → XS → Prop) (J : σ → Prop) : Ex → Fr → XS → Prop
  | .normal, f, s => ∃ z, J z ∧ To m n f s fun f s => f = F z ∧ s = S z
  | e, f, s => Q e f s
theorem CS.inv {σ : Type} {F : σ → Fr} {S : σ → XS} (I : σ → Prop) (μ : σ → Nat) (hg : P.globals.size ≤ m) (hb : ∀ z, I z → CS P m n x (F z) (S z) (LI m n F S Q fun z' => I z' ∧ μ z' < μ z)) (z : σ) (hz : I z) : CS P m n (.loop x) (F z) (S z) Q := by
  intro hc hn M0 h0 w0 M a w R hi ha hR
  have hc' : codeT n P.globals.size x = true := hc
  refine wp_loop_rounds (μ z + 1) ?_
  have key : ∀ (N : Nat) (z : σ) (M : Cx) (a : Act) (w : World), μ z < N → I z → HS P m M0 h0 w0 M (S z) w → AR M n (F z) a → Code.rounds P x R N a w := by
   intro N
   induction N with
   | zero => intro z M a w h; omega
   | succ N ih =>
    intro z M a w hN hz hi ha
    have h1 := CS.to (Q := fun e f s => (e = .normal ∧ ∃ z', (I z' ∧ μ z' < μ z) ∧ f = F z' ∧ s = S z') ∨ (e ≠ .normal ∧ Q e f s)) hg ((hb z hz).mono fun e f s hq => by
      cases e with
      | normal =>
        obtain ⟨z', hz', g, L, l1, ns, sl, d, k1, k2, k3, k4, k5, k6, k7⟩ := (show ∃ z', (I z' ∧ μ z' < μ z) ∧ To m n f s fun f s => f = F z' ∧ s = S z' from hq)
        exact .inr ⟨g, L, l1, ns, sl, d, k1, k2, k3, k4, k5, k6, .inl ⟨rfl, z', hz', k7.1, k7.2⟩⟩
      | exit i => exact .inl (.inr ⟨by simp, hq⟩)
      | goto i => exact .inl (.inr ⟨by simp, hq⟩)
      | ret => exact .inl (.inr ⟨by simp, hq⟩)
      | pan v => exact .inl (.inr ⟨by simp, hq⟩))
    refine h1 hc' hn M0 h0 w0 M a w _ hi ha fun e f' s' M' a' w' h1 h2 h3 => ?_
    rcases h3 with ⟨rfl, z', ⟨hz', hm⟩, rfl, rfl⟩ | ⟨he, hq⟩
    · exact ih z' M' a' w' (by omega) hz' h1 h2
    · have := hR e f' s' M' a' w' h1 h2 hq
      cases e with
      | normal => exact absurd rfl he
      | _ => exact this
  exact key (μ z + 1) z M a w (by omega) hz hi ha
theorem CW.inv {σ : Type} {L : σ → List (Nat × Value)} {l : σ → List (Option Ob)} (I : σ → Prop) (μ : σ → Nat) (z0 : σ) (h0 : I z0) (ns : List Nat) (sl : List (Nat × List Value)) (hg : P.globals.size ≤ m) (hfit : fit m g ns (l z0) = true) (hL : ltT (L z0) = true) (hd : f.df = []) (ho : AllO m ns sl s (l z0) g) (hs : AllS m g ns (l z0) s sl) (ht : AllT m ns sl f.tm (L z0))
    (hb : ∀ z, I z → CW P m n x (zf (L z)) (hpc g (l z)) (LI m n (fun z => zf (L z)) (fun z => hp g (l z)) Q fun z' => I z' ∧ μ z' < μ z)) : CW P m n (.loop x) f s Q :=
  ⟨CS.shape ns sl hg hfit hL hd ho hs ht (CS.inv (F := fun z => zf (L z)) (S := fun z => hp g (l z)) I μ hg (fun z hz => hpc_eq g (l z) ▸ (hb z hz).o) z0 h0)⟩
/-- As 'inv', beneath deferred calls. -/
theorem CW.invD {σ : Type} {L : σ → List (Nat × Value)} {l : σ → List (Option Ob)} {d : List Deferred} (I : σ → Prop) (μ : σ → Nat) (z0 : σ) (h0 : I z0) (ns : List Nat) (sl : List (Nat × List Value)) (hg : P.globals.size ≤ m) (hfit : fit m g ns (l z0) = true) (hL : ltT (L z0) = true) (hd : RDL m (zipN ns m) sl d f.df) (ho : AllO m ns sl s (l z0) g) (hs : AllS m g ns (l z0) s sl) (ht : AllT m ns sl f.tm (L z0))
    (hb : ∀ z, I z → CW P m n x ⟨tmL (L z), d⟩ (hpc g (l z)) (LI m n (fun z => ⟨tmL (L z), d⟩) (fun z => hp g (l z)) Q fun z' => I z' ∧ μ z' < μ z)) : CW P m n (.loop x) f s Q :=
  ⟨CS.shapeD ns sl hg hfit hL hd ho hs ht (CS.inv (F := fun z => ⟨tmL (L z), d⟩) (S := fun z => hp g (l z)) I μ hg (fun z hz => hpc_eq g (l z) ▸ (hb z hz).o) z0 h0)⟩
/-- So many rounds at most, each one walked. -/
def CRn (P : Program) (m n : Nat) (x : Code) (Q : Ex → Fr → XS → Prop) : Nat → Fr → XS → Prop
  | 0, _, _ => False
  | N + 1, f, s => CW P m n x f s fun e f s => match e with | .normal => CRn P m n x Q N f s | e => Q e f s
theorem CW.rnd (N : Nat) (h : CRn P m n x Q N f s) : CW P m n (.loop x) f s Q := by
  refine ⟨?_⟩
  intro hc hn M0 h0 w0 M a w R hi ha hR
  have hc' : codeT n P.globals.size x = true := hc
  refine wp_loop_rounds N ?_
  induction N generalizing f s M a w with
  | zero => exact h.elim
  | succ N ih =>
    refine CS.mono (CW.o h) (fun e f s q => q) hc' hn M0 h0 w0 M a w _ hi ha fun e f' s' M' a' w' h1 h2 h3 => ?_
    cases e with
    | normal => exact ih h3 M' a' w' h1 h2
    | exit i => exact hR (.exit i) f' s' M' a' w' h1 h2 h3
    | goto i => exact hR (.goto i) f' s' M' a' w' h1 h2 h3
    | ret => exact hR .ret f' s' M' a' w' h1 h2 h3
    | pan v => exact hR (.pan v) f' s' M' a' w' h1 h2 h3
theorem CW.shapeD {L : List (Nat × Value)} {l1 : List (Option Ob)} {d : List Deferred} (ns : List Nat) (sl : List (Nat × List Value)) (hg : P.globals.size ≤ m) (h : fit m g ns l1 = true) (hL : ltT L = true) (hd : RDL m (zipN ns m) sl d f.df) (ho : AllO m ns sl s l1 g) (hs : AllS m g ns l1 s sl) (ht : AllT m ns sl f.tm L)
    (k : CW P m n x ⟨tmL L, d⟩ (hpc g l1) Q) : CW P m n x f s Q := ⟨CS.shapeD ns sl hg h hL hd ho hs ht (hpc_eq g l1 ▸ k.o)⟩
end
end Go.X
end
section
set_option linter.unusedVariables false
namespace Go.X
open Go Go.RowKit
/-! The run, as far as it computes: tactics as default arguments -/
section
variable {P : Program} {A B B1 B2 : Prop}
/-- What is left. -/
structure Lf (B : Prop) : Prop where
  k : B
theorem Zz (t : Lf B → A := by
    intro k
    conv => whnf
    repeat ((first
      | with_reducible refine CW.seq ?_ | with_reducible refine CW.ops ?_ | with_reducible refine CW.drw (by kernel_rfl) [] (by kernel_rfl) ?_ | with_reducible refine CW.block ?_ | with_reducible refine CW.skip ?_ | with_reducible refine CW.exit ?_ | with_reducible refine CW.label ?_ | with_reducible refine CW.ret ?_
      | with_reducible refine WE.mk (by with_unfolding_all rfl) ?_
      | ((with_reducible refine WQ.go ?_); first | refine WQ.v (by with_unfolding_all rfl) ?_ | refine WQ.dd (by with_unfolding_all rfl) ?_)
      | with_reducible refine WL.c (by with_unfolding_all rfl) ?_
      | ((with_reducible refine WP.go ?_); first | refine WP.sc rfl (by assumption) rfl ?_ | refine WP.sc0 rfl (by assumption) rfl ?_ | refine WP.ag rfl rfl (by assumption) rfl ?_ | refine WP.ag0 rfl rfl (by assumption) rfl ?_ | refine WP.c rfl ?_)
      | with_reducible refine WI.c (by with_unfolding_all rfl) (by with_unfolding_all rfl) ?_
      | ((with_reducible refine WIf.go ?_); first | refine WIf.t (by with_unfolding_all rfl) ?_ | refine WIf.f (by with_unfolding_all rfl) ?_ | refine WIf.t (by assumption) ?_ | refine WIf.f (by assumption) ?_)
      | with_reducible refine CW.cond true (by with_unfolding_all rfl) (fun _ => ?_) (fun h => nomatch h) | with_reducible refine CW.cond false (by with_unfolding_all rfl) (fun h => nomatch h) (fun _ => ?_)); conv => whnf)
    exact k.k) (k : B) : A := t ⟨k⟩
/-- The same, within one region. -/
theorem Zo (t : Lf B → A := by
    intro k
    conv => whnf
    repeat ((first
      | with_reducible refine WE.mk (by with_unfolding_all rfl) ?_
      | ((with_reducible refine WQ.go ?_); first | refine WQ.v (by with_unfolding_all rfl) ?_ | refine WQ.dd (by with_unfolding_all rfl) ?_)
      | with_reducible refine WL.c (by with_unfolding_all rfl) ?_
      | ((with_reducible refine WP.go ?_); first | refine WP.sc rfl (by assumption) rfl ?_ | refine WP.sc0 rfl (by assumption) rfl ?_ | refine WP.ag rfl rfl (by assumption) rfl ?_ | refine WP.ag0 rfl rfl (by assumption) rfl ?_ | refine WP.c rfl ?_)
      | with_reducible refine WI.c (by with_unfolding_all rfl) (by with_unfolding_all rfl) ?_
      | ((with_reducible refine WIf.go ?_); first | refine WIf.t (by with_unfolding_all rfl) ?_ | refine WIf.f (by with_unfolding_all rfl) ?_ | refine WIf.t (by assumption) ?_ | refine WIf.f (by assumption) ?_)); conv => whnf)
    exact k.k) (k : B) : A := t ⟨k⟩
end
end Go.X
end
section
set_option linter.unusedVariables false
namespace Go.X
open Go Go.RowKit
/-! Strings -/
noncomputable def str (l : List UInt8) : Value := .string ⟨⟨l⟩⟩
theorem pv_und {P : Program} {α : Type} {T : TypeId} {d : TypeDesc} {f : TypeDesc → Sem α} (h : P.underlying T = some d) : pv P (underlying T >>= f) = pv P (f d) := by
  show pv P ((match P.underlying T with | some d => (pure d : Sem TypeDesc) | none => stuck "no such type") >>= f) = _
  rw [h]
  rfl
section
variable {P : Program} {B : Ban} {lo : Nat} {o : Oper} {tm : T4 Value} {s : XS} {K : OR → Prop} {l : List UInt8}
theorem WQ.sat {T : TypeId} {x i : Operand} {z : Int} {c : UInt8} {q : IntKind} (ho : o.op = .index T x i) (hT : P.underlying T = some .string) (hx : ev tm x = .string ⟨⟨l⟩⟩) (hi : ev tm i = .int q z) (e : at_ l z = some c) (k : K (.val (.int .u8 c.toNat) s)) : WQ (opx P B lo o tm s) K := by
  obtain ⟨h1, h2, h3⟩ := at_lt e
  refine ⟨⟨_, ?_, k⟩⟩
  have e1 : opx P B lo o tm s = gp P o tm s "index" := by
    show opxd o.op P B lo o tm s = _
    rw [ho]
    show opx2d o.op P B lo o tm s = _
    rw [ho]
    show x_index P T (ev tm x) (ev tm i) o tm s = _
    rw [hx]; rfl
  have e2 : nadO tm o.op.operands.toList = true := by
    rw [ho]
    show nadO tm [x, i] = true
    simp only [nadO, hx, hi]; rfl
  have e3 : pv P (execOp (ev tm) o) = some (.value (.int .u8 c.toNat)) := by
    unfold execOp
    rw [ho]
    have hz : 0 ≤ z := by omega
    have hb : (⟨⟨l⟩⟩ : ByteArray)[z.toNat]? = some c := by
      obtain ⟨h4, h5⟩ := List.getElem?_eq_some_iff.1 h2
      have h4 : z.toNat < (⟨⟨l⟩⟩ : ByteArray).size := h4
      rw [getElem?_pos (⟨⟨l⟩⟩ : ByteArray) z.toNat h4]
      exact congrArg some h5
    simp only [Instr.index, hx, hi, asIntOf, pure_bind]
    rw [bind_assoc, pv_und hT]
    simp only [if_pos hz, hb]
    rfl
  rw [e1]; unfold gp; rw [e2, e3]; rfl
/-- A bound: a default, or what it is. -/
def BndI (x : Option Value) (d hi r : Nat) : Prop := (x = none ∧ r = d) ∨ ∃ q z, x = some (.int q z) ∧ z = (r : Int) ∧ r ≤ hi
theorem BndI.no {d hi : Nat} : BndI none d hi d := .inl ⟨rfl, rfl⟩
theorem BndI.so {q : IntKind} {z : Int} {d hi r : Nat} (h : z = (r : Int)) (k : r ≤ hi) : BndI (some (.int q z)) d hi r := .inr ⟨q, z, rfl, h, k⟩
theorem sliceBound_ok {v : Value} {y r : Nat} {c : BoundsCode} {q : IntKind} {z : Int} (hv : v = .int q z) (hz : z = (r : Int)) (h : r ≤ y) : Instr.sliceBound v y c = pure r := by
  subst hv hz
  unfold Instr.sliceBound
  simp only [asIntOf, pure_bind]
  rw [if_pos ⟨by omega, by omega⟩, Int.toNat_natCast]
theorem extract_str (l : List UInt8) (a h : Nat) (hh : h ≤ l.length) : (⟨⟨l⟩⟩ : ByteArray).extract a h = ⟨⟨(l.take h).drop a⟩⟩ := by
  apply ByteArray.ext
  apply Array.ext'
  simp [ByteArray.data_extract, List.drop_take]
theorem WQ.ssl {T : TypeId} {x : Operand} {l0 hi : Option Operand} {a h : Nat} (ho : o.op = .slice T x l0 hi none) (hT : P.underlying T = some .string) (hx : ev tm x = .string ⟨⟨l⟩⟩) (hh : BndI (hi.map (ev tm)) l.length l.length h) (hl : h ≤ l.length) (ha : BndI (l0.map (ev tm)) 0 h a) (k : K (.val (str ((l.take h).drop a)) s)) : WQ (opx P B lo o tm s) K := by
  refine ⟨⟨_, ?_, k⟩⟩
  have e1 : opx P B lo o tm s = gp P o tm s "slice" := by
    show opxd o.op P B lo o tm s = _
    rw [ho]
    show opx2d o.op P B lo o tm s = _
    rw [ho]
    show x_slice P B T (ev tm x) _ _ _ o tm s = _
    rw [hx]; rfl
  have e2 : nadO tm o.op.operands.toList = true := by
    have key : ∀ (q : Option Operand) d hi r, BndI (q.map (ev tm)) d hi r → ∀ y, q = some y → nad (ev tm y) = true := by
      intro q d hi r hb y e
      subst e
      rcases hb with ⟨e, _⟩ | ⟨q, z, e, _, _⟩
      · simp at e
      · simp at e; rw [e]; rfl
    have k1 := key _ _ _ _ hh
    have k2 := key _ _ _ _ ha
    rw [ho]
    cases l0 with
    | none =>
      cases hi with
      | none => show nadO tm [x] = true; simp only [nadO, hx]; rfl
      | some y => show nadO tm [x, y] = true; simp only [nadO, hx, k1 y rfl]; rfl
    | some y0 =>
      cases hi with
      | none => show nadO tm [x, y0] = true; simp only [nadO, hx, k2 y0 rfl]; rfl
      | some y => show nadO tm [x, y0, y] = true; simp only [nadO, hx, k1 y rfl, k2 y0 rfl]; rfl
  have e3 : pv P (execOp (ev tm) o) = some (.value (str ((l.take h).drop a))) := by
    unfold execOp
    rw [ho]
    have hb : Instr.sliceBounds false l.length l.length (l0.map (ev tm)) (hi.map (ev tm)) none = pure (a, h, l.length) := by
      unfold Instr.sliceBounds
      rcases hh with ⟨e, rfl⟩ | ⟨q, z, e, rfl, g⟩ <;> rcases ha with ⟨e', rfl⟩ | ⟨q', z', e', rfl, g'⟩
      · simp only [e, e', pure_bind]
      · simp only [e, e', pure_bind, sliceBound_ok rfl rfl g']
      · simp only [e, e', pure_bind, sliceBound_ok rfl rfl g]
      · simp only [e, e', pure_bind, sliceBound_ok rfl rfl g, sliceBound_ok rfl rfl g']
    have hz : (⟨⟨l⟩⟩ : ByteArray).size = l.length := rfl
    simp only [Instr.sliceAt, Instr.slice, hx]
    rw [bind_assoc, pv_und hT]
    simp only [Option.map_none, Option.isSome_none, Bool.false_eq_true, if_false]
    rw [bind_assoc, pv_und hT]
    simp only []
    rw [hz, hb]
    simp only [pure_bind, extract_str l a h hl]
    rfl
  rw [e1]; unfold gp; rw [e2, e3]; rfl
theorem WQ.sad {T : TypeId} {x y : Operand} {u : TypeId} {l2 : List UInt8} (ho : o.op = .binOp .add T x y u) (hx : ev tm x = .string ⟨⟨l⟩⟩) (hy : ev tm y = .string ⟨⟨l2⟩⟩) (hn : l.length + l2.length ≤ 9223372036854775807) (k : K (.val (str (l ++ l2)) s)) : WQ (opx P B lo o tm s) K := by
  refine ⟨⟨_, ?_, k⟩⟩
  have e1 : opx P B lo o tm s = x_bin P .add T x y (ev tm x) (ev tm y) o tm s := by
    show opxd o.op P B lo o tm s = _
    rw [ho]; rfl
  have e2 : pv P (binOp .add T (.string ⟨⟨l⟩⟩) (.string ⟨⟨l2⟩⟩)) = some (str (l ++ l2)) := by
    show pv P (Op.stringOp .add ⟨⟨l⟩⟩ ⟨⟨l2⟩⟩) = _
    unfold Op.stringOp
    have h1 : (⟨⟨l⟩⟩ : ByteArray).size + (⟨⟨l2⟩⟩ : ByteArray).size = l.length + l2.length := rfl
    have h2 : IntKind.i64.max = 9223372036854775807 := by decide
    simp only []
    rw [h1, h2, if_neg (by omega)]
    have h3 : (⟨⟨l⟩⟩ : ByteArray) ++ ⟨⟨l2⟩⟩ = ⟨⟨l ++ l2⟩⟩ := by
      apply ByteArray.ext
      apply Array.ext'
      simp
    rw [h3]; rfl
  rw [e1, hx, hy]
  unfold x_bin
  rw [show scal (.string ⟨⟨l⟩⟩) = true from rfl, show scal (.string ⟨⟨l2⟩⟩) = true from rfl]
  simp only [e2]
  rfl
theorem toL (l : List UInt8) : (⟨⟨l⟩⟩ : ByteArray).toList = l := by
  simp [ByteArray.toList_eq]
theorem str_eqb (a b : List UInt8) : ((⟨⟨a⟩⟩ : ByteArray).toList == (⟨⟨b⟩⟩ : ByteArray).toList) = decide (a = b) := by
  rw [toL, toL]
  by_cases h : a = b
  · subst h; simp
  · simp [h]
theorem CW.ceq {m n : Nat} {x y : Code} {f : Fr} {Q : Ex → Fr → XS → Prop} {c : Operand} (a b : List UInt8) (hb : ev f.tm c = .bool ((⟨⟨a⟩⟩ : ByteArray).toList == (⟨⟨b⟩⟩ : ByteArray).toList)) (h1 : a = b → CW P m n x f s Q) (h2 : a ≠ b → CW P m n y f s Q) : CW P m n (.cond c x y) f s Q :=
  CW.cond _ hb (fun e => h1 (by rw [str_eqb] at e; exact of_decide_eq_true e)) fun e => h2 (by rw [str_eqb] at e; exact of_decide_eq_false e)
theorem CW.cne {m n : Nat} {x y : Code} {f : Fr} {Q : Ex → Fr → XS → Prop} {c : Operand} (a b : List UInt8) (hb : ev f.tm c = .bool ((⟨⟨a⟩⟩ : ByteArray).toList != (⟨⟨b⟩⟩ : ByteArray).toList)) (h1 : a ≠ b → CW P m n x f s Q) (h2 : a = b → CW P m n y f s Q) : CW P m n (.cond c x y) f s Q :=
  CW.cond _ hb (fun e => h1 (by
    intro q; subst q; simp at e)) fun e => h2 (by
    rw [bne, str_eqb] at e
    simp at e; exact e)
theorem RV.eqv {m : Nat} {rn : List (Nat × Nat)} {sl : List (Nat × List Value)} {v1 v : Value} (h : v1 = v) (k : of1 v1 = true) : RV m rn sl v1 v := by
  subst h; exact RV.of k
theorem RV.iw {m : Nat} {rn : List (Nat × Nat)} {sl : List (Nat × List Value)} {x y : Int} (e : y = x) (h : -9223372036854775808 ≤ x ∧ x ≤ 9223372036854775807) : RV m rn sl (.int .i64 y) (.int .i64 (IntKind.i64.wrap x)) := by
  subst e
  rw [IntKind.wrap_i64, show (y + 9223372036854775808) % 18446744073709551616 - 9223372036854775808 = y from by omega]
  exact RV.of rfl
theorem RV.ofe {m : Nat} {rn : List (Nat × Nat)} {sl : List (Nat × List Value)} {v1 v2 v : Value} (e : v1 = v2) (h : RV m rn sl v2 v) : RV m rn sl v1 v := e ▸ h
theorem RV.snE {m : Nat} {ns : List Nat} {sl : List (Nat × List Value)} {n k off l1 l : Nat} (h : oldN m ns k = some n) (e : l1 = l) : RV m (zipN ns m) sl (.slice (some ⟨k, off, none⟩) l1 l1) (.slice (some ⟨n, off, none⟩) l l) := e ▸ RV.sn h
theorem RObj.eqc {m : Nat} {rn : List (Nat × Nat)} {sl : List (Nat × List Value)} {c1 c : List Value} {k1 k : Nat} {T : TypeId} {g : Bool} (hc : c1 = c) (hk : k1 = k) (h : ∀ v ∈ c1, of1 v = true) : RObj m rn sl (.cells c1 k1 T g) (.cells c k T g) := by
  subst hc; subst hk; exact RObj.same h
theorem AllO.ofe {m : Nat} {ns : List Nat} {sl : List (Nat × List Value)} {s : XS} {l : List (Option Ob)} {k n : Nat} {q : Option Ob} {o o1 : Ob} (e : q = some o1) (h1 : oldN m ns k = some n) (h2 : look [] s n = some o) (h3 : RObj m (zipN ns m) sl o1 o) (h : AllO m ns sl s l (k + 1)) : AllO m ns sl s (q :: l) k := by
  subst e; exact AllO.som h1 h2 h3 h
/-- A list of one's own that grows from nothing: how it is told, what lies there. -/
noncomputable def ouV {α : Type} (g : Nat) (l : List α) : Value := match l with
  | [] => .slice none 0 0
  | _ :: l => .slice (some ⟨g, 0, none⟩) (l.length + 1) (l.length + 1)
noncomputable def ouO {α : Type} (row : α → List Value) (k : Nat) (T : TypeId) (l : List α) : Option Ob := match l with
  | [] => none
  | x :: l => some (.cells (fl row (x :: l)) ((l.length + 1) * k) T true)
theorem ouV_app {α : Type} (g : Nat) (l : List α) (x : α) : ouV g (l ++ [x]) = .slice (some ⟨g, 0, none⟩) (l.length + 1) (l.length + 1) := by
  cases l <;> simp [ouV]
theorem ouO_app {α : Type} (row : α → List Value) (k : Nat) (T : TypeId) (l : List α) (x : α) : ouO row k T (l ++ [x]) = some (.cells (fl row l ++ row x) ((l.length + 1) * k) T true) := by
  cases l <;> simp [ouO, fl]
/-- A part of a sealed list, as a list. -/
theorem RV.sld {m : Nat} {rn : List (Nat × Nat)} {sl : List (Nat × List Value)} {c c2 : List Value} {off n n2 : Nat} (h : c2 = c.drop off) (hn : n2 = n) : RV m rn sl (slv 0 c2 0 n2) (slv 0 c off n) := fun M M1 v' g k => by
  subst h; subst hn
  have k := k.base g.s (by simp [of1, slv])
  rcases rsl_inv (by omega) k with ⟨c', b, t, cap, h1, h2, h3, h4, h5, rfl⟩ | ⟨cap, a, rfl, h1, rfl⟩
  · have h6 : ∀ (l l' : List Value) (j : Nat), VRL M1 l l' → VRL M1 (l.drop j) (l'.drop j) := by
      intro l
      induction l with
      | nil => intro l' j hl; cases hl; simp; exact .nil
      | cons x l ih => intro l' j hl; cases hl with
        | cons a b => cases j with
          | zero => exact .cons a b
          | succ j => exact ih _ j b
    have h6 := h6 c c' off h1
    have := VR.rsl (M := M1) (e := 0) (b := b) (t := t + off) (off := 0) (n := n2) (cap := cap) h6 (fun v hv => h2 v (List.mem_of_mem_drop hv)) (fun i v e => by
      rw [List.getElem?_drop] at e
      have := h3 _ v e
      rw [show t + off + i = t + (off + i) from by omega]; exact this) (by omega) h4 (by simp)
    exact this
  · exact .rsl0 (by omega) (by simp)
/-- Nothing, as a list. -/
theorem RV.nils {m : Nat} {rn : List (Nat × Nat)} {sl : List (Nat × List Value)} : RV m rn sl (slv 0 [] 0 0) (.slice none 0 0) := fun M M1 v' g k => by
  cases k
  exact .rsl0 (a := none) (by omega) (by simp)
/-- The rest of a sealed list. -/
theorem WQ.sls {T E : TypeId} {x l0 : Operand} {c : List Value} {off N j k : Nat} {q : IntKind} (ho : o.op = .slice T x (some l0) none none) (hT : P.underlying T = some (.slice E)) (hk : szT P E = some k) (hx : ev tm x = slv 0 c off N) (hl : ev tm l0 = .int q (j : Int)) (hj : j ≤ N) (h : K (.val (slv 0 c (off + j * k) (N - j)) s)) : WQ (opx P B lo o tm s) K := by
  refine ⟨⟨_, ?_, h⟩⟩
  have e1 : opx P B lo o tm s = x_slice P B T (slv 0 c off N) (some (.int q (j : Int))) none none o tm s := by
    show opxd o.op P B lo o tm s = _
    rw [ho]
    show opx2d o.op P B lo o tm s = _
    rw [ho]
    show x_slice P B T (ev tm x) (some (ev tm l0)) none none o tm s = _
    rw [hx, hl]
  rw [e1]
  show x_sslice P T 0 c off N (some (.int q (j : Int))) none none s = _
  unfold x_sslice
  have h1 : bnd none N N = some N := rfl
  have h2 : bndH none none N N = some N := by
    unfold bndH
    rw [Nat.ble_eq_true_of_le (Nat.le_refl N)]
  have h3 : bnd (some (.int q (j : Int))) 0 N = some j := by
    show (match natV (.int q (j : Int)) with
      | some k => match Nat.ble k N with
        | true => some k
        | false => none
      | none => none) = _
    show (match Nat.ble j N with
        | true => some j
        | false => none) = _
    rw [Nat.ble_eq_true_of_le hj]
  rw [show Nat.ble 2 0 = false from rfl]
  simp only [hT, hk, h1, h2, h3, sExact]
  cases Nat.beq N N <;> rfl
/-- A string's length. -/
theorem WQ.slen {c : Call} {t : TypeId} {x : Operand} (ho : o.op = .call c) (hc : c.callee = .builtin .len) (hts : c.argTypes.toList = [t]) (hal : c.args.toList = [x]) (has : ev tm x = .string ⟨⟨l⟩⟩) (hT : P.underlying t = some .string) (k : K (.val (.int .i64 l.length) s)) : WQ (opx P B lo o tm s) K := by
  refine ⟨⟨_, ?_, k⟩⟩
  have e1 : opx P B lo o tm s = gp P o tm s "len" := by
    show opxd o.op P B lo o tm s = _
    rw [ho]
    show x_call P B lo c o tm s = _
    unfold x_call
    rw [hc]
    show x_builtin P B lo .len c.argTypes.toList (X.map (ev tm) c.args.toList) o tm s = _
    rw [hts, hal]
    show x_len P B t (ev tm x) o tm s = _
    rw [has]; rfl
  have hcargs : c.args = #[x] := by
    apply Array.ext'
    simpa using hal
  have hcts : c.argTypes = #[t] := by
    apply Array.ext'
    simpa using hts
  have e2 : nadO tm o.op.operands.toList = true := by
    rw [ho]
    have : (Op.call c).operands.toList = [x] := by simp [Op.operands, Call.operands, hc, hcargs]
    rw [this]
    simp only [nadO, has]; rfl
  have e3 : pv P (execOp (ev tm) o) = some (.value (.int .i64 l.length)) := by
    unfold execOp
    rw [ho]
    simp only [resolve, hc, hcargs, hcts]
    have ha : Array.map (ev tm) #[x] = #[.string ⟨⟨l⟩⟩] := by simp [has]
    rw [ha]
    simp only [pure_bind, invoke, builtin]
    unfold Builtin.len_
    simp only [bind_assoc, List.getElem?_toArray, List.getElem?_cons_zero]
    rw [pv_und hT]
    rfl
  rw [e1]; unfold gp; rw [e2, e3]; rfl
end
end Go.X
end
section
set_option linter.unusedVariables false
namespace Go.X
open Go Go.RowKit
/-! Deferred closures, that may recover -/
section
variable {P : Program} {m n lo : Nat} {x y : Code} {u u1 u2 : FrameMode} {f f1 f2 : Fr} {s s1 s2 : XS} {e : Ex}
/-- Code of a deferred closure, above a frame that is left in such a way (u): what becomes of it. -/
def TD (P : Program) (lo : Nat) (c : Code) (u : FrameMode) (f : Fr) (s : XS) (e : Ex) (u' : FrameMode) (f' : Fr) (s' : XS) : Prop := Fre s → SF [] lo s s' ∧ ∀ (n : Nat) (M : Cx) (a : Act) (w : World) (c0 : Frame) (cs : List Frame) (R : Exit → FrameMode → Act → World → Prop), codeT n P.globals.size c = true → n ≤ 1024 → c0.mode = u → AR M n f a → WR P M (look [] s) w → Fresh M s.nx s'.nx →
    (∀ a' w' M', Post P M M' (look [] s) (look [] s') s.nx s'.nx w w' → AR M' n f' a' → R (exOf e) u' a' w') → c.wpS P (fun e a cs' w => ∃ u', cs' = { c0 with mode := u' } :: cs ∧ R e u' a w) a (c0 :: cs) w
theorem TD.of {N : Nat} (h : TS P N (.code x f) [] lo s (.code e f1 s1)) : TD P lo x u f s e u f1 s1 := by
  intro hf
  obtain ⟨h1, h2⟩ := h hf
  refine ⟨h1, fun n M a w c0 cs R hc hn hu ha hw hfr hR => wpS_of_wp (wpx_wp (N := N) ?_)⟩
  exact h2 n M a w _ hc hn ha hw hfr fun a' w' M' hp hA => ⟨u, by subst hu; rfl, hR a' w' M' hp hA⟩
theorem TD.seq (h : TD P lo x u f s .normal u1 f1 s1) (k : TD P lo y u1 f1 s1 e u2 f2 s2) : TD P lo (.seq x y) u f s e u2 f2 s2 := by
  intro hf
  obtain ⟨h1, h2⟩ := h hf
  obtain ⟨k1, k2⟩ := k (h1.fre hf)
  refine ⟨h1.trans k1, fun n M a w c0 cs R hc hn hu ha hw hfr hR => wpS_seq fun b q hb hr => ?_⟩
  simp only [codeT, Bool.and_eq_true] at hc
  have := h2 n M a w c0 cs (fun e u' a w => e = .normal ∧ y.wpS P (fun e a cs' w => ∃ u', cs' = { c0 with mode := u' } :: cs ∧ R e u' a w) a ({ c0 with mode := u' } :: cs) w) hc.1 hn hu ha hw (hfr.le (Nat.le_refl _) k1.nx) fun a' w' M' hp hA =>
    ⟨rfl, k2 n M' a' w' { c0 with mode := u1 } cs R hc.2 hn rfl hA hp.wr (hp.fresh hfr h1.nx) fun a2 w2 M2 hp2 hA2 => hR a2 w2 M2 (hp.trans h1.nx k1.nx hp2) hA2⟩
  obtain ⟨e', a', cs', w', ⟨u', rfl, rfl, hq⟩, harr⟩ := this b q hb hr
  exact ⟨.normal, a', _, w', hq, harr⟩
theorem TD.cond {c : Operand} {b : Bool} (hb : ev f.tm c = .bool b) (h : TD P lo (match b with | true => x | false => y) u f s e u1 f1 s1) : TD P lo (.cond c x y) u f s e u1 f1 s1 := by
  intro hf
  obtain ⟨h1, h2⟩ := h hf
  refine ⟨h1, fun n M a w c0 cs R hc hn hu ha hw hfr hR => ?_⟩
  simp only [codeT, Bool.and_eq_true] at hc
  have hv := opd_VR (a := a) (tm := f.tm) hc.1 rfl hw fun t e => ha.tm t (by subst e; exact blt_lt hc.1)
  rw [hb] at hv
  have hv' : a.eval c = .bool b := by
    generalize a.eval c = u at hv
    cases hv; rfl
  refine wpS_cond hv' ?_
  cases b with
  | true => exact h2 n M a w c0 cs R hc.2.1 hn hu ha hw hfr hR
  | false => exact h2 n M a w c0 cs R hc.2.2 hn hu ha hw hfr hR
theorem wpS_rec {id : Nat} {ops : Array Oper} {o : Oper} {rest : List Nat} {Q : Exit → Act → List Frame → World → Prop} {a : Act} {cs cs' : List Frame} {w : World} {v : Value} (hr : List.range ops.size = 0 :: rest) (ho : ops[0]? = some o) (hw : Region.wanted o (yielded ops a.tmps) = true) (he : (execOp a.eval o).run P w = .ok .recover w)
    (hv : recoverD cs = some (v, cs') ∨ recoverD cs = none ∧ v = .nilIface ∧ cs' = cs) (h : wpOps P ops (fun e a w => Q e a cs' w) rest (a.put o.dst v) w) : (Code.region id ops false).wpS P Q a cs w := by
  intro b k hb hro
  obtain ⟨e, a', w', hq, harr⟩ := wp_ops rest (a.put o.dst v) w h b k cs'
  refine ⟨e, a', cs', w', hq, .of_steps (.one step_region) ?_⟩
  rw [hr]
  have hg := stepG_op (P := P) (b := b) (k := k) (cs := cs) (w := w) (rest := rest) ho hw
  have hfin : ∀ v, (b.at a (.inRegion ops (0 :: rest) :: k)).finish v = b.at (a.put o.dst v) (.inRegion ops rest :: k) := by
    intro v; rw [Frame.finish_at, ho]; rfl
  have hk : (b.at a (.inRegion ops (0 :: rest) :: k)).kind = .deferred := hb
  have htr := tryRecover_deferred hk cs
  refine .of_steps (.one (step_lone_go ?_)) harr
  rw [hg, ← hfin]
  simp only [Frame.at] at htr ⊢
  rcases hv with hv | ⟨hv, rfl, rfl⟩
  · simp [stepG.apply, he, htr, hv]
  · simp [stepG.apply, he, htr, hv]
/-- What recover answers, and how the frame above is left then. -/
def Rec (u : FrameMode) (v : Value) (u' : FrameMode) : Prop := (∃ older, u = .panicking ({ v := v, recovered := false } :: older) ∧ u' = .panicking ({ v := v, recovered := true } :: older)) ∨ (u = .returning ∧ v = .nilIface ∧ u' = u)
theorem Rec.pan {v : Value} : Rec (.panicking [{ v := v, recovered := false }]) v (.panicking [{ v := v, recovered := true }]) := .inl ⟨[], rfl, rfl⟩
theorem Rec.ret : Rec .returning .nilIface .returning := .inr ⟨rfl, rfl, rfl⟩
/-- A region that begins with recover. -/
theorem TD.rec {N : Nat} {k : Tk → Ban → Nat → XS → RR} (hk : KS P N k) {id : Nat} {ops : Array Oper} {o : Oper} {l : List Oper} {c : Call} {v : Value} (hl : ops.toList = o :: l) (ho : o.op = .call c) (hc : c.callee = .builtin .recover) (hg : o.guard = none) (hu : Rec u v u1) (hv : nad v = true)
    (h : r_ops P k ops [] lo l (dstF o.dst v f) s = .code e f1 s1) : TD P lo (.region id ops false) u f s e u1 f1 s1 := by
  intro hf
  obtain ⟨rfl, h1, h2⟩ := r_ops_snd hk l 1 (dstF o.dst v f) s e f1 s1 hf (by rw [hl]; rfl) h
  refine ⟨h1, fun n M a w c0 cs R hc' hn hcu ha hw hfr hR => ?_⟩
  have hT : ops.toList.all (opT n P.globals.size) = true := hc'
  have hsz : ops.size = l.length + 1 := by rw [← Array.length_toList, hl]; rfl
  have h00 : ops[0]? = some o := by rw [← Array.getElem?_toList, hl]; rfl
  have hr : List.range ops.size = 0 :: List.range' 1 l.length := by rw [hsz, List.range_eq_range', List.range'_succ]
  have hoT := opT_mem hT h00
  have hw' : Region.wanted o (yielded ops a.tmps) = true := by
    unfold Region.wanted
    rw [hg]
  have he : (execOp a.eval o).run P w = .ok .recover w := by
    unfold execOp
    rw [ho]
    simp only [resolve, hc]
    rfl
  have h3 := h2 n M (a.put o.dst v) w (fun e a w => ∃ u2, ({ c0 with mode := u1 } :: cs : List Frame) = { c0 with mode := u2 } :: cs ∧ R e u2 a w) hT hn (ha.put hn (opT_dst hoT) (nad_VR hv)) hw hfr fun a' w' M' hp hA => ⟨u1, rfl, hR a' w' M' hp hA⟩
  refine wpS_rec (cs' := { c0 with mode := u1 } :: cs) hr h00 hw' he ?_ h3 (v := v)
  rcases hu with ⟨older, rfl, rfl⟩ | ⟨rfl, rfl, rfl⟩
  · left
    simp only [recoverD, hcu]
  · right
    refine ⟨?_, rfl, ?_⟩
    · simp only [recoverD, hcu]
    · rw [← hcu]
/-- How a frame is left. -/
def modeOf : Ex → Option FrameMode
  | .normal => some .returning
  | .ret => some .returning
  | .pan v => some (.panicking [{ v := v, recovered := false }])
  | _ => none
/-- A function that leaves one deferred closure, which takes back whatever it panicked with. -/
theorem ZC.dfr {fid g : Nat} {fn : Func} {args : List Value} {v : Value} {l l' : List (Option Ob)} (hb : body? P fid = some (fn, x)) (hT : fnT P.globals.size fn x = true) (hl : Nat.ble args.length fn.ntmps = true) (hn : (Nat.ble P.globals.size g && Nat.ble (g + l'.length) tops && Nat.ble l.length l'.length) = true)
    (h : CW P (g + l.length) fn.ntmps x ⟨enter args 0 .e, []⟩ (hpc g l) fun e f1 s1 => ∃ (gd : Nat) (cap dargs : List Value) (fnd : Func) (xd : Code) (u u2 : FrameMode) (e2 : Ex) (f2 : Fr) (s2 : XS), f1.df = [⟨.fn (.func gd) ⟨cap⟩, ⟨dargs⟩⟩] ∧ body? P gd = some (fnd, xd) ∧ fnT P.globals.size fnd xd = true ∧ Nat.ble (dargs ++ cap).length fnd.ntmps = true ∧ modeOf e = some u ∧
      TD P (g + l.length) xd u ⟨enter (dargs ++ cap) 0 .e, []⟩ s1 e2 u2 f2 s2 ∧ (e2 = .normal ∨ e2 = .ret) ∧ f2.df = [] ∧ settle u2 = .returning ∧ (∃ v2, r_res s2 (resV P [] s2 f2.tm fnd.results.toList) = .ret v2 s2) ∧
        ∃ v1, r_res s2 (resV P [] s2 f1.tm fn.results.toList) = .ret v1 s2 ∧ ∃ ns sl, fit (g + l.length) g ns l' = true ∧ AllO (g + l.length) ns sl s2 l' g ∧ AllS (g + l.length) g ns l' s2 sl ∧ RV (g + l.length) (zipN ns (g + l.length)) sl v v1) : ZC P fid args (hp g l) v (hp g l') := by
  simp only [Bool.and_eq_true] at hn
  have h1 := Nat.le_of_ble_eq_true hn.1.1
  have h2 := Nat.le_of_ble_eq_true hn.1.2
  have h3 := Nat.le_of_ble_eq_true hn.2
  have hgs : P.globals.size ≤ (hp g l).nx := by show P.globals.size ≤ g + l.length; omega
  refine ⟨hgs, by show g + l.length ≤ g + l'.length; omega, fre_hp h2, fun M args' w hv hw hf => ?_⟩
  obtain ⟨hnt, hc, hr⟩ := fnT_spec hT
  have hl : args.length ≤ fn.ntmps := Nat.le_of_ble_eq_true hl
  obtain ⟨b1, b2, b3⟩ := body_spec hb
  have h := hpc_eq g l ▸ h.o
  refine calls_of_wp_defers b1 b2 (h hc hnt M (look [] (hp g l)) w M _ w _ (HS.start hw (fre_hp (by omega)) hf) (AR.enter hv hl hnt) fun e f1 s1 M1 a1 w1 hi ha hq => ?_)
  obtain ⟨gd, cap, dargs, fnd, xd, u, u2, e2, f2, s2, hdf, hbd, hTd, hld, hmo, htd, he2, hdf2, hset, ⟨v2, hres2⟩, v1, hres1, ns, sl, q4, q5, q6, q7⟩ := hq
  have hL : Leaves P fn a1.tmps (fun e w' => ∃ v' M', e = End false v' ∧ Post P M M' (look [] (hp g l)) (look [] (hp g l')) (hp g l).nx (hp g l').nx w w' ∧ VR M' v v') a1.defers u w1 := by
    have hd := ha.df
    rw [hdf] at hd
    cases hq : a1.defers with
    | nil => rw [hq] at hd; cases hd
    | cons d' l2 =>
      rw [hq] at hd
      cases hd with
      | cons hd hds =>
        cases hds
        obtain ⟨g', c, c', e1, e2', e3, e4⟩ := hd
        simp at e1
        obtain ⟨rfl, rfl⟩ := e1
        obtain ⟨d1, d2, d3⟩ := body_spec hbd
        obtain ⟨hntd, hcdd, hrd⟩ := fnT_spec hTd
        have hld : (dargs ++ cap).length ≤ fnd.ntmps := Nat.le_of_ble_eq_true hld
        refine ⟨?_, .func gd, c', gd, (d'.args ++ c'), e2', ?_, ?_⟩
        · intro e; subst e
          cases e <;> simp [modeOf] at hmo
        · rw [e2']
          exact callFunc_run hbd _ w1
        · have hva : VRL M1 (dargs ++ cap) (d'.args ++ c').toList := by rw [Array.toList_append]; exact e4.append e3
          obtain ⟨t1, t2⟩ := htd hi.fre
          refine callsD_of_wpS d1 d2 fun c0 cs hu => ?_
          have key := t2 fnd.ntmps M1 _ w1 c0 cs (fun e u2 a2 w2 => (e = .normal ∨ e = .ret) ∧ a2.defers = [] ∧ (∃ v, (results fnd a2.tmps).run P w2 = .ok v w2) ∧ Leaves P fn a1.tmps (fun e w' => ∃ v' M', e = End false v' ∧ Post P M M' (look [] (hp g l)) (look [] (hp g l')) (hp g l).nx (hp g l').nx w w' ∧ VR M' v v') [] (settle u2) w2) hcdd hntd hu (AR.enter hva hld hntd) hi.wr (fun k a _ => hi.free k a) fun a2 w2 M2 hp2 hA2 => by
            have hi2 := hi.step t1 hp2
            have hdf2' : a2.defers = [] := by
              have := hA2.df
              rw [hdf2] at this
              cases hq : a2.defers with
              | nil => rfl
              | cons x l => rw [hq] at this; cases this
            obtain ⟨_, v2', r1, _⟩ := results_run hp2.wr hA2.size hA2.tm hrd hres2
            obtain ⟨_, v1', r2, r3⟩ := results_run hp2.wr ha.size (fun t ht => (ha.tm t ht).mono hp2.ext) hr hres1
            obtain ⟨M3, h5, h6⟩ := (Mv.shape q4 q5 q6).hs hi2 (by omega)
            refine ⟨by rcases he2 with rfl | rfl <;> simp [exOf], hdf2', ⟨v2', r1⟩, ?_⟩
            rw [hset]
            exact ⟨v1', r2, v1', M3, rfl, h5.post hw hf, q7 M2 M3 v1' h6 r3⟩
          intro b q hb hr'
          obtain ⟨e', a', cs', w', ⟨u', rfl, he', hda, ⟨vr, hres⟩, hlv⟩, harr⟩ := key b q hb hr'
          refine ⟨e', a', _, w', ?_, harr⟩
          rcases he' with rfl | rfl <;> exact ⟨hda, u', rfl, vr, hres, hlv⟩
  cases e with
  | normal => simp [modeOf] at hmo; subst hmo; exact hL
  | ret => simp [modeOf] at hmo; subst hmo; exact hL
  | pan v => simp [modeOf] at hmo; subst hmo; exact hL
  | exit i => simp [modeOf] at hmo
  | goto i => simp [modeOf] at hmo
end
end Go.X
end
section
set_option linter.unusedVariables false
namespace Go.X
open Go Go.RowKit
/-! Contracts of the kit's, that only compute -/
section
variable {P : Program} {B : Ban} {lo g : Nat} {args : List Value} {v : Value} {s : XS} {M : Cx} {w : World} {h : Hp}
theorem Post.drewN (lo hi : Nat) (hw : WR P M h w) (k : Nat) : Post P M M h h lo hi w (w.drewN k) :=
  ⟨hw, Ext.refl M, fun n a b => absurd a b, fun b i v e => .inl e, fun n L a b => by rw [a] at b; simp at b, fun n o e => .inl ⟨o, e⟩, hw.drew (w.drawn + k), fun _ _ _ => rfl, ⟨rfl, rfl, rfl, Nat.le_refl _, fun b cs T fr e => ⟨cs, ⟨fr, e⟩, rfl⟩⟩⟩
theorem nadL_eq : ∀ {l l' : List Value}, (∀ a ∈ l, nad a = true) → VRL M l l' → l' = l
  | [], _, _, .nil => rfl
  | a :: l, _, h, .cons x y => by rw [nad_eq (h a (List.mem_cons_self ..)) x, nadL_eq (fun b hb => h b (List.mem_cons_of_mem _ hb)) y]
theorem TC.kit (hn : ∀ a ∈ args, nad a = true) (hv : nad v = true) (h : ∀ w, Calls P g args.toArray w fun e w' => e = .returned v ∧ ∃ k, w' = w.drewN k) : TC P B lo g args s v s := by
  intro hf
  refine ⟨SF.refl B lo s, fun M args' w ha hw hfr => ?_⟩
  rw [nadL_eq hn ha]
  refine Calls.mono (h w) fun e w' he => ?_
  obtain ⟨rfl, k, rfl⟩ := he
  exact ⟨v, M, rfl, Post.drewN _ _ hw k, nad_VR hv⟩
end
end Go.X
end
section
set_option linter.unusedVariables false
namespace Go.X
open Go Go.RowKit
/-! A law's call -/
theorem VRL.nad {M : Cx} : ∀ {l : List Value}, (∀ a ∈ l, nad a = true) → VRL M l l
  | [], _ => .nil
  | a :: l, h => .cons (nad_VR (h a (List.mem_cons_self ..))) (VRL.nad fun b hb => h b (List.mem_cons_of_mem _ hb))
/-- A law without addresses among its arguments, whatever memory: it answers true, and all is as it was. -/
theorem ZC.law {P : Program} {n g : Nat} {args : List Value} (h : ZC P n args (st0 g) (.bool true) (st0 g)) (hn : ∀ a ∈ args, nad a = true) (w : World) (hro : HasRo P w) : Calls P n args.toArray w fun e w' => e = .returned (.bool true) ∧ (∀ k, k < w.heap.size → w'.heap[k]? = w.heap[k]?) ∧ Kept w w' := by
  let M : Cx := ⟨fun k => if k < P.globals.size then some ⟨k, 0, none⟩ else none, roS w⟩
  have hw : WR P M (look [] (st0 g)) w := ⟨roS_rows, fun n o L i e => by rw [look_st0] at e; simp at e, fun n o e => by rw [look_st0] at e; simp at e, fun n m o p L K e => by rw [look_st0] at e; simp at e, fun k hk => if_pos hk, roS_amb hro⟩
  have hgl : P.globals.size ≤ g := h.gl
  refine Calls.mono (h.run M args w (VRL.nad hn) hw fun n hn => if_neg (by have : g ≤ n := hn; omega)) fun e w' he => ?_
  obtain ⟨v', M', rfl, hp, hvr⟩ := he
  have hv := nad_eq rfl hvr
  subst hv
  exact ⟨rfl, fun k hk => hp.keep k hk fun n o L e => by rw [look_st0] at e; simp at e, hp.kept⟩
end Go.X
end
section
set_option linter.unusedVariables false
namespace Go.X
open Go Go.RowKit
/-! Appends to lists of one's own; what the kit tells of library functions -/
section
variable {P : Program} {B : Ban} {lo : Nat} {o : Oper} {tm : T4 Value} {s : XS} {K : OR → Prop}
theorem x_append_own {t t2 e : TypeId} {k m n b j : Nat} {i : TypeInfo} {d2 : TypeDesc} {cs l : List Value} {y : Value} {z : List Value × Nat} (hu : P.underlying t = some (.slice e)) (hk : szT P e = some k) (hi : P.info? e = some i) (hd : P.underlying t2 = some d2) (hd2 : ∀ q, d2 ≠ .int q)
    (hsrc : srcOf B s (some d2) k y = some (l, m)) (hl : look B s b = some (.cells cs j e true)) (hcs : cs.length = n * k) (hj : j = n * k) (hm : 0 < m) (hb1 : n + m ≤ 9223372036854775807) (hb2 : (n + m) * i.bytes ≤ 140737488355328) (hz : zc P e = some z) (ht : Nat.ble tops s.nx = false) :
    x_append P B lo t t2 (.slice (some ⟨b, 0, none⟩) n n) y s = .val (.slice (some ⟨s.nx, 0, none⟩) (n + m) (n + m)) (push (wrt lo s b none) (some (.cells (cs ++ l) ((n + m) * k) e true))) := by
  have h1 : Nat.ble (Nat.add n m) n = false := by
    cases q : Nat.ble (Nat.add n m) n
    · rfl
    · have : n + m ≤ n := Nat.le_of_ble_eq_true q
      omega
  have h2 : Nat.ble (Nat.add n m) 9223372036854775807 = true := Nat.ble_eq_true_of_le hb1
  have h3 : Nat.ble (Nat.mul (Nat.add n m) i.bytes) 140737488355328 = true := Nat.ble_eq_true_of_le hb2
  have h4 : cellsAt B s (some ⟨b, 0, none⟩) (Nat.mul n k) = some cs := by
    simp only [cellsAt, hl]
    rw [show Nat.ble (Nat.add 0 (Nat.mul n k)) j = true from Nat.ble_eq_true_of_le (by show 0 + n * k ≤ j; omega)]
    simp only []
    rw [tkl_eq, dr_eq]
    rw [List.drop_zero, List.take_of_length_le (by rw [hcs]; exact Nat.le_refl _)]
  have hnew : ∀ (s1 : XS) (o : Ob) (f : Nat → XS → OR), s1.nx = s.nx → new s1 o f = f s.nx ⟨T4.put (some o) (dg 10 s.nx) s1.h, Nat.succ s.nx, s1.lg⟩ := by
    intro s1 o f e
    have e' : new s1 o f = Bool.rec (motive := fun _ => OR) (f s1.nx ⟨T4.put (some o) (dg 10 s1.nx) s1.h, Nat.succ s1.nx, s1.lg⟩) (.bad "room") (Nat.ble tops s1.nx) := rfl
    rw [e', e, ht]
  have h5 : x_append P B lo t t2 (.slice (some ⟨b, 0, none⟩) n n) y s = x_grow B lo e (some ⟨b, 0, none⟩) n m k l s := by
    unfold x_append
    rw [hu]
    simp only [hk, hi, hd]
    cases d2 with
    | int q => exact absurd rfl (hd2 q)
    | _ => simp only [hsrc, h1, h2, h3, hz]
  rw [h5]
  unfold x_grow
  simp only [h4, hl]
  rw [show Nat.beq e e = true from Nat.beq_refl e]
  simp only []
  rw [hnew (wrt lo s b none) _ _ rfl, app_eq]
  rfl
/-- Behind a list of one's own. -/
theorem WQ.apo {c : Call} {t t2 e : TypeId} {k m n b j : Nat} {i : TypeInfo} {d2 : TypeDesc} {cs l : List Value} {y : Value} {z : List Value × Nat} (ho : o.op = .call c) (hc : c.callee = .builtin .append) (hts : c.argTypes.toList = [t, t2]) (has : X.map (ev tm) c.args.toList = [.slice (some ⟨b, 0, none⟩) n n, y])
    (hu : P.underlying t = some (.slice e)) (hk : szT P e = some k) (hi : P.info? e = some i) (hd : P.underlying t2 = some d2)
    (hsrc : srcOf B s (some d2) k y = some (l, m)) (hl : look B s b = some (.cells cs j e true)) (hz : zc P e = some z) (ht : Nat.ble tops s.nx = false) (hd2 : ∀ q, d2 ≠ .int q) (hcs : cs.length = n * k) (hj : j = n * k) (hm : 0 < m) (hb1 : n + m ≤ 9223372036854775807) (hb2 : (n + m) * i.bytes ≤ 140737488355328)
    (q : K (.val (.slice (some ⟨s.nx, 0, none⟩) (n + m) (n + m)) (push (wrt lo s b none) (some (.cells (cs ++ l) ((n + m) * k) e true))))) : WQ (opx P B lo o tm s) K := by
  refine ⟨⟨_, ?_, q⟩⟩
  have e1 : opx P B lo o tm s = x_append P B lo t t2 (.slice (some ⟨b, 0, none⟩) n n) y s := by
    show opxd o.op P B lo o tm s = _
    rw [ho]
    show x_call P B lo c o tm s = _
    unfold x_call
    rw [hc]
    show x_builtin P B lo .append c.argTypes.toList (X.map (ev tm) c.args.toList) o tm s = _
    rw [hts, has]
    rfl
  rw [e1]
  exact x_append_own hu hk hi hd hd2 hsrc hl hcs hj hm hb1 hb2 hz ht
/-- What becomes of strings' runes. -/
theorem WQ.nxt {x : Operand} {n pos : Nat} {b : ByteArray} (ho : o.op = .next x true) (hx : ev tm x = .pointer (some ⟨n, 0, none⟩)) (hl : look B s n = some (.iter b pos)) (h1 : pos < b.size → K (.val (.tuple ⟨[.bool true, .int .i64 pos, .int .i32 (Utf8.decode b pos).1]⟩) (wrt lo s n (some (.iter b (pos + (Utf8.decode b pos).2)))))) (h2 : b.size ≤ pos → K (.val (.tuple ⟨[.bool false]⟩) s)) : WQ (opx P B lo o tm s) K := by
  have e1 : opx P B lo o tm s = x_next B lo true (ev tm x) s := by
    show opxd o.op P B lo o tm s = _
    rw [ho]
    show opx2d o.op P B lo o tm s = _
    rw [ho]
    rfl
  have hs : len b.data.toList = b.size := by rw [len_eq]; rfl
  rw [e1, hx]
  unfold x_next
  simp only [hl, hs]
  by_cases h : pos < b.size
  · refine ⟨⟨_, ?_, h1 h⟩⟩
    rw [show Nat.blt pos b.size = true from Nat.ble_eq_true_of_le h]
    rfl
  · refine ⟨⟨_, ?_, h2 (by omega)⟩⟩
    have : Nat.blt pos b.size = false := by
      cases q : Nat.blt pos b.size
      · rfl
      · exact absurd (Nat.le_of_ble_eq_true q) h
    rw [this]
/-! The kit's -/
def nilC : Cx := ⟨fun _ => none, fun _ _ => none⟩
theorem nilC_ext (M : Cx) : Ext nilC M := ⟨fun _ _ e => by simp [nilC] at e, fun _ _ _ e => by simp [nilC] at e⟩
/-- What is known of globals. -/
structure RoW (w : World) : Prop where
  r : ∀ k c, ro k = some c → ∃ (c' : List Value) (T : TypeId) (fr : Nat × Nat), VRL nilC c c' ∧ w.heap[k]? = some (.cells ⟨c'⟩ T fr)
  i : ∀ k ∈ roI, ∃ m : Int, w.cell? ⟨k, 0, none⟩ = some (.int .i64 m)
  f : ∀ k ∈ roF, ∃ u v, w.cell? ⟨k, 0, none⟩ = some (.iface u v)
theorem WR.row {M : Cx} {h : Hp} {w : World} (hw : WR P M h w) : RoW w := by
  refine ⟨fun k c e => ?_, fun k hk => ?_, fun k hk => ?_⟩
  · obtain ⟨_, _, _, c', T, fr, h1, _, h2⟩ := hw.amb.r k _ e
    exact ⟨c', T, fr, h1, h2⟩
  · obtain ⟨m, h1⟩ := hw.amb.i k hk
    obtain ⟨cs, T, fr, h3, h4⟩ := hw.rows _ _ _ h1
    exact ⟨m, by simp [World.cell?, h3, h4]⟩
  · obtain ⟨u, m, h1⟩ := hw.amb.f k hk
    obtain ⟨cs, T, fr, h3, h4⟩ := hw.rows _ _ _ h1
    exact ⟨u, m, by simp [World.cell?, h3, h4]⟩
theorem Kept.below {w w' : World} (h : Below w.heap.size w w') : Kept w w' := ⟨h.os, h.tape, h.output, h.size, fun b cs T fr e => ⟨cs, ⟨fr, by rw [h.block b (Array.getElem?_eq_some_iff.1 e).1]; exact e⟩, rfl⟩⟩
theorem WR.below {M : Cx} {h : Hp} {w w' : World} (hw : WR P M h w) (hb : Below w.heap.size w w') : WR P M h w' where
  live n o e := let ⟨L, h1, h2⟩ := hw.live n o e; ⟨L, h1, h2.mono (Ext.refl M) (hb.block _ h2.lt)⟩
  inj := hw.inj
  glob := hw.glob
  rows b i v e := by rw [hb.block b (hw.lt e)]; exact hw.rows b i v e
  apart := hw.apart
  amb := hw.amb.upd fun b i v e => hb.block b (hw.lt e)
theorem TC.out {g : FuncId} {args : List Value} {v : Value} (hn : ∀ a ∈ args, nad a = true) (h : ∀ w, RoW w → Calls P g args.toArray w fun e w' => (∃ v', e = .returned v' ∧ VR nilC v v') ∧ Below w.heap.size w w') : TC P B lo g args s v s := by
  intro hf
  refine ⟨SF.refl B lo s, fun M args' w ha hw hfr => ?_⟩
  rw [nadL_eq hn ha]
  refine Calls.mono (h w hw.row) fun e w' he => ?_
  obtain ⟨⟨v', rfl, hv⟩, hb⟩ := he
  exact ⟨v', M, rfl, ⟨hw, Ext.refl M, fun n a b => absurd a b, fun b i v e => .inl e, fun n L a b => by rw [a] at b; simp at b, fun n o e => .inl ⟨o, e⟩, hw.below hb, fun b h _ => hb.block b h, Kept.below hb⟩, hv.mono (nilC_ext M)⟩
/-- A library function that answers a new list. -/
theorem TC.list {g : FuncId} {args c : List Value} {n : Nat} (hn : ∀ a ∈ args, nad a = true) (ho : ∀ v ∈ c, of1 v = true) (h : ∀ w, RoW w → Calls P g args.toArray w fun e w' => ∃ (N cap : Nat) (cs : Array Value) (T : TypeId) (fr : Nat × Nat) (c' : List Value), e = .returned (.slice (some ⟨N, 0, none⟩) n cap) ∧ n ≤ cap ∧ w.heap.size ≤ N ∧ w'.heap[N]? = some (.cells cs T fr) ∧ VRL nilC c c' ∧ (∀ (i : Nat) (v : Value), c'[i]? = some v → cs[i]? = some v) ∧ Below w.heap.size w w') : TC P B lo g args s (slv 0 c 0 n) s := by
  intro hf
  refine ⟨SF.refl B lo s, fun M args' w ha hw hfr => ?_⟩
  rw [nadL_eq hn ha]
  refine Calls.mono (h w hw.row) fun e w' he => ?_
  obtain ⟨N, cap, cs, T, fr, c', rfl, hnc, hN, hb, hv, hc, hbl⟩ := he
  have hS : ∀ i, M.S N i = none := fun i => hw.no hN
  let M' : Cx := ⟨M.f, fun b i => if b = N then c'[i]? else M.S b i⟩
  have hx : Ext M M' := ⟨fun _ _ e => e, fun b i v e => by
    show (if b = N then c'[i]? else M.S b i) = some v
    by_cases q : b = N
    · subst q; rw [hS] at e; simp at e
    · rw [if_neg q]; exact e⟩
  have hsl : ∀ b i v, M'.S b i = some v → (b = N ∧ c'[i]? = some v) ∨ M.S b i = some v := fun b i v e => by
    have e : (if b = N then c'[i]? else M.S b i) = some v := e
    by_cases q : b = N
    · rw [if_pos q] at e; exact .inl ⟨q, e⟩
    · rw [if_neg q] at e; exact .inr e
  refine ⟨_, M', rfl, ⟨hw, hx, fun n a b => absurd a b, fun b i v e => ?_, fun n L a b => by rw [show M' n = M n from rfl, a] at b; simp at b, fun n o e => .inl ⟨o, e⟩, ?_, fun b h _ => hbl.block b h, Kept.below hbl⟩, ?_⟩
  · rcases hsl b i v e with ⟨rfl, _⟩ | h1
    · exact .inr (.inl hN)
    · exact .inl h1
  · have hw' := hw.below hbl
    refine ⟨fun b i v e => ?_, fun n o L i e hL => ?_, fun n o e => ?_, hw.inj, hw.glob, hw'.amb.mono hx.s⟩
    · rcases hsl b i v e with ⟨rfl, h1⟩ | h1
      · exact ⟨cs, T, fr, hb, hc i v h1⟩
      · exact hw'.rows b i v h1
    · obtain ⟨L', h1, h2⟩ := hw.live n o e
      have hL : M n = some L := hL
      rw [hL] at h1; simp at h1; subst h1
      show (if L.b = N then c'[i]? else M.S L.b i) = none
      rw [if_neg (by have := h2.lt; omega)]
      exact hw.apart n o L i e hL
    · obtain ⟨L, h1, h2⟩ := hw'.live n o e
      exact ⟨L, h1, h2.mono hx rfl⟩
  · have := VR.rsl (M := M') (c := c) (c' := c') (e := 0) (b := N) (t := 0) (off := 0) (n := n) (cap := cap) (hv.mono (nilC_ext M')) ho (fun i v e => by
      show (if N = N then c'[0 + i]? else M.S N (0 + i)) = some v
      rw [if_pos rfl, Nat.zero_add]; exact e) (by omega) hnc (by simp)
    exact this
/-- A function's end: it returns, or panics. -/
def QZ (P : Program) (m g : Nat) (fn : Func) (l' : List (Option Ob)) (b : Bool) (v : Value) (e : Ex) (f1 : Fr) (s1 : XS) : Prop := match b with
  | false => (e = .normal ∨ e = .ret) ∧ f1.df = [] ∧ ∃ v1, r_res s1 (resV P [] s1 f1.tm fn.results.toList) = .ret v1 s1 ∧ ∃ ns sl, fit m g ns l' = true ∧ AllO m ns sl s1 l' g ∧ AllS m g ns l' s1 sl ∧ RV m (zipN ns m) sl v v1
  | true => e = .pan v ∧ f1.df = [] ∧ ∃ ns sl, fit m g ns l' = true ∧ AllO m ns sl s1 l' g ∧ AllS m g ns l' s1 sl
theorem ZCb.cw {b : Bool} {g fid : Nat} {fn : Func} {x : Code} {args : List Value} {v : Value} {l l' : List (Option Ob)} (hb : body? P fid = some (fn, x)) (hT : fnT P.globals.size fn x = true) (hl : Nat.ble args.length fn.ntmps = true) (hn : (Nat.ble P.globals.size g && Nat.ble (g + l'.length) tops && Nat.ble l.length l'.length) = true) (hv : b = true → nad v = true)
    (h : CW P (g + l.length) fn.ntmps x ⟨enter args 0 .e, []⟩ (hpc g l) (QZ P (g + l.length) g fn l' b v)) : ZCb b P fid args (hp g l) v (hp g l') := by
  cases b
  · exact ZC.cw hb hT hl hn h
  · exact ZP.cw hb hT hl hn (hv rfl) h
theorem QZ.pn {m g : Nat} {fn : Func} {l' : List (Option Ob)} {b : Bool} {v v' : Value} {e : Ex} {f1 : Fr} {s1 : XS} (h : (true, v') = (b, v)) (k : e = .pan v' ∧ f1.df = [] ∧ ∃ ns sl, fit m g ns l' = true ∧ AllO m ns sl s1 l' g ∧ AllS m g ns l' s1 sl) : QZ P m g fn l' b v e f1 s1 := by
  obtain ⟨rfl, rfl⟩ := Prod.mk.inj h; exact k
theorem QZ.rt {m g : Nat} {fn : Func} {l' : List (Option Ob)} {b : Bool} {v v' : Value} {e : Ex} {f1 : Fr} {s1 : XS} (h : (false, v') = (b, v)) (k : (e = .normal ∨ e = .ret) ∧ f1.df = [] ∧ ∃ v1, r_res s1 (resV P [] s1 f1.tm fn.results.toList) = .ret v1 s1 ∧ ∃ ns sl, fit m g ns l' = true ∧ AllO m ns sl s1 l' g ∧ AllS m g ns l' s1 sl ∧ RV m (zipN ns m) sl v' v1) : QZ P m g fn l' b v e f1 s1 := by
  obtain ⟨rfl, rfl⟩ := Prod.mk.inj h; exact k
end
end Go.X
end
