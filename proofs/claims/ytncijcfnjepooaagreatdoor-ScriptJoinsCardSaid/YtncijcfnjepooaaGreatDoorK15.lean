/-
  A part of the proof of ScriptJoins: no statement of the seat is proved here.
-/
import Derived.Test.YtncijcfnjepooaaGreatDoorK12
import Derived.Test.YtncijcfnjepooaaGreatDoorK14
import Derived.Shelf.Strings.OnBuilder
import Derived.Lib.ItoaLen
set_option linter.unusedVariables false
set_option linter.unusedSimpArgs false
set_option linter.unnecessarySimpa false
set_option linter.unusedSectionVars false
set_option linter.constructorNameAsVariable false
set_option linter.deprecated false
section
set_option linter.unusedVariables false
namespace Go.X
open Go Go.RowKit
/-! A contract without memory of its own, as the kit's calls: over what lies sealed -/
/-- What lies sealed. -/
structure Seal (P : Program) (S : Nat → Nat → Option Value) (w : World) : Prop where
  rows : ∀ b i v, S b i = some v → ∃ cs T fr, w.heap[b]? = some (.cells cs T fr) ∧ cs[i]? = some v
  amb : Amb P S w
def glC (P : Program) (S : Nat → Nat → Option Value) : Cx := ⟨fun k => if k < P.globals.size then some ⟨k, 0, none⟩ else none, S⟩
theorem look_hp0 (g n : Nat) : look [] (hp g []) n = none := by
  rw [look_eq]; simp only [bn, Bool.false_eq_true, if_false]
  rw [hget_eq]
  split
  · rfl
  · exact get_e _
theorem ZC.calls {P : Program} {n g : Nat} {args args' : List Value} {v : Value} {S : Nat → Nat → Option Value} {w : World} (h : ZC P n args (hp g []) v (hp g [])) (hs : Seal P S w) (ha : VRL (glC P S) args args') :
    Calls P n args'.toArray w fun e w' => ∃ v' S', e = .returned v' ∧ VR (glC P S') v v' ∧ (∀ b i u, S b i = some u → S' b i = some u) ∧ Seal P S' w' ∧ Below w.heap.size w w' := by
  have hgl : P.globals.size ≤ g := h.gl
  have hw : WR P (glC P S) (look [] (hp g [])) w := ⟨hs.rows, fun n o L i e => by rw [look_hp0] at e; simp at e, fun n o e => by rw [look_hp0] at e; simp at e, fun n m o p L K e => by rw [look_hp0] at e; simp at e, fun k hk => if_pos hk, hs.amb⟩
  refine Calls.mono (h.run (glC P S) args' w ha hw fun n hn => if_neg (by have : g ≤ n := hn; omega)) fun e w' he => ?_
  obtain ⟨v', M', rfl, hp, hvr⟩ := he
  have hM : M'.f = (glC P S).f := by
    funext k
    cases q : (glC P S).f k with
    | some L => exact hp.ext.n k L q
    | none =>
      cases q' : M'.f k with
      | none => rfl
      | some L =>
        have hne : M' k ≠ none := by rw [show M' k = M'.f k from rfl, q']; simp
        have hb := hp.new k q hne
        have h1 : g ≤ k := hb.1
        have h2 : k < g := hb.2
        omega
  have hC : M' = glC P M'.S := by
    cases M'; simp only [glC] at hM ⊢; simp [hM]
  refine ⟨v', M'.S, rfl, hC ▸ hvr, hp.ext.s, ⟨hp.wr.rows, hp.wr.amb⟩, ⟨hp.kept.os, hp.kept.tape, hp.kept.output, hp.kept.size, fun k hk => hp.keep k hk fun n o L e => by rw [look_hp0] at e; simp at e⟩⟩
/-- All that lies in memory, as sealed. -/
def allS (w : World) (b i : Nat) : Option Value := match w.heap[b]? with
  | some (.cells cs _ _) => cs[i]?
  | _ => none
theorem Seal.all {P : Program} {w : World} (h : HasRo P w) : Seal P (allS w) w := by
  refine ⟨fun b i v e => ?_, ⟨fun k c e => ?_, fun k hk => ?_, fun k hk => ?_⟩⟩
  · unfold allS at e
    split at e
    · rename_i cs T fr hb; exact ⟨cs, T, fr, hb, e⟩
    · simp at e
  · obtain ⟨h1, h0, h2, c', T, fr, h3, h4⟩ := h.r k c e
    refine ⟨h1, h0, h2, c', T, fr, h3, fun i v q => ?_, h4⟩
    unfold allS
    simp only [h4]
    simpa using q
  · obtain ⟨m, cs, T, fr, h1, h2⟩ := h.i k hk
    refine ⟨m, ?_⟩
    unfold allS
    simp only [h1]
    exact h2
  · obtain ⟨m, u, cs, T, fr, h1, h2⟩ := h.f k hk
    refine ⟨m, u, ?_⟩
    unfold allS
    simp only [h1]
    exact h2
/-- A list that lies in memory, by its cells. -/
theorem VR.all {P : Program} {w : World} {c c' : List Value} {b t n cap : Nat} (hv : VRL (glC P (allS w)) c c') (ho : ∀ v ∈ c, of1 v = true) (hc : ∀ i v, c'[i]? = some v → allS w b (t + i) = some v) (hn : n ≤ cap) : VR (glC P (allS w)) (slv 0 c 0 n) (.slice (some ⟨b, t, none⟩) n cap) := by
  have := VR.rsl (M := glC P (allS w)) (e := 0) (b := b) (t := t) (off := 0) (n := n) (cap := cap) hv ho hc (by omega) hn (by simp)
  exact this
end Go.X
end
section
set_option linter.unusedVariables false
namespace Go.X
open Go Go.RowKit
/-! Appends to nothing; strings of a row's bytes -/
noncomputable def u8R (b : UInt8) : List Value := [.int .u8 b.toNat]
instance : RowW u8R 1 := ⟨fun _ => rfl, fun _ v h => by simp [u8R] at h; subst h; rfl⟩
theorem toBx_u8 : ∀ l : List UInt8, toBx (fl u8R l) = some l
  | [] => rfl
  | b :: l => by
    have h : toBx (fl u8R (b :: l)) = (match Nat.ble b.toNat 255, toBx (fl u8R l) with
      | true, some r => some (UInt8.ofNat b.toNat :: r)
      | _, _ => none) := rfl
    rw [h, toBx_u8 l, Nat.ble_eq_true_of_le (by have := b.toNat_lt; omega)]
    simp
theorem bytesV_u8 (l : List UInt8) : bytesV ⟨⟨l⟩⟩ = fl u8R l := by
  unfold bytesV
  rw [map_eq]
  show l.map _ = _
  induction l with
  | nil => rfl
  | cons b l ih => rw [List.map_cons, ih]; rfl
section
variable {P : Program} {B : Ban} {lo : Nat} {o : Oper} {tm : T4 Value} {s : XS} {K : OR → Prop}
theorem WQ.ust {c : Call} {t t2 e : TypeId} {n m : Nat} {l : List UInt8} {cs : List Value} {g : Bool} (ho : o.op = .call c) (hc : c.callee = .builtin .unsafeString) (hts : c.argTypes.toList = [t, t2]) (has : X.map (ev tm) c.args.toList = [ptr n 0, .int .i64 (l.length : Int)]) (hp : P.underlying t = some (.pointer e)) (hu : isU8 P e = true)
    (hl : look B s n = some (.cells cs m e g)) (hcs : cs = fl u8R l) (hm : m = l.length) (h0 : l ≠ []) (h1 : l.length ≤ 9223372036854775807) (q : K (.val (str l) (wrt lo s n none))) : WQ (opx P B lo o tm s) K := by
  refine ⟨⟨_, ?_, q⟩⟩
  subst hcs; subst hm
  have e1 : opx P B lo o tm s = x_ustr P B lo t (ptr n 0) (.int .i64 (l.length : Int)) s := by
    show opxd o.op P B lo o tm s = _
    rw [ho]
    show x_call P B lo c o tm s = _
    unfold x_call
    rw [hc]
    show x_builtin P B lo .unsafeString c.argTypes.toList (X.map (ev tm) c.args.toList) o tm s = _
    rw [hts, has]
    rfl
  rw [e1]
  cases l with
  | nil => exact absurd rfl h0
  | cons b l =>
    show (match P.underlying t with
      | some (.pointer e) => match isU8 P e, look B s n with
        | true, some (.cells c m e' _) => match (Nat.beq e' e && Nat.ble (Nat.add 0 (l.length + 1)) m && Nat.ble (l.length + 1) 9223372036854775807), toBx (tkl (l.length + 1) (dr 0 c)) with
          | true, some b => OR.val (.string ⟨⟨b⟩⟩) (wrt lo s n none)
          | _, _ => .bad "String"
        | _, _ => .bad "String"
      | _ => .bad "String") = _
    rw [hp]
    simp only [hu, hl]
    have h2 : tkl (l.length + 1) (dr 0 (fl u8R (b :: l))) = fl u8R (b :: l) := by
      rw [tkl_eq, dr_eq, List.drop_zero, List.take_of_length_le]
      rw [fl_len (row := u8R) (b :: l)]
      simp
    rw [h2, toBx_u8, show Nat.beq e e = true from Nat.beq_refl e, Nat.ble_eq_true_of_le (show Nat.add 0 (l.length + 1) ≤ (b :: l).length by show 0 + (l.length + 1) ≤ _; simp), Nat.ble_eq_true_of_le (show l.length + 1 ≤ 9223372036854775807 from h1)]
    rfl
theorem x_append_nil {t t2 e : TypeId} {k m : Nat} {i : TypeInfo} {d2 : TypeDesc} {l : List Value} {y : Value} {z : List Value × Nat} (hu : P.underlying t = some (.slice e)) (hk : szT P e = some k) (hi : P.info? e = some i) (hd : P.underlying t2 = some d2) (hd2 : ∀ q, d2 ≠ .int q)
    (hsrc : srcOf B s (some d2) k y = some (l, m)) (hm : 0 < m) (hb1 : m ≤ 9223372036854775807) (hb2 : m * i.bytes ≤ 140737488355328) (hz : zc P e = some z) (ht : Nat.ble tops s.nx = false) :
    x_append P B lo t t2 (.slice none 0 0) y s = .val (.slice (some ⟨s.nx, 0, none⟩) m m) (push s (some (.cells l (m * k) e true))) := by
  have h0 : Nat.add 0 m = m := Nat.zero_add m
  have h1 : Nat.ble m 0 = false := by
    cases q : Nat.ble m 0
    · rfl
    · have : m ≤ 0 := Nat.le_of_ble_eq_true q
      omega
  have h2 : Nat.ble m 9223372036854775807 = true := Nat.ble_eq_true_of_le hb1
  have h3 : Nat.ble (Nat.mul m i.bytes) 140737488355328 = true := Nat.ble_eq_true_of_le hb2
  have h4 : cellsAt B s none (Nat.mul 0 k) = some [] := by
    have : Nat.mul 0 k = 0 := Nat.zero_mul k
    rw [this]; rfl
  have hnew : ∀ (o : Ob) (f : Nat → XS → OR), new s o f = f s.nx ⟨T4.put (some o) (dg 10 s.nx) s.h, Nat.succ s.nx, s.lg⟩ := by
    intro o f
    have e' : new s o f = Bool.rec (motive := fun _ => OR) (f s.nx ⟨T4.put (some o) (dg 10 s.nx) s.h, Nat.succ s.nx, s.lg⟩) (.bad "room") (Nat.ble tops s.nx) := rfl
    rw [e', ht]
  have h5 : x_append P B lo t t2 (.slice none 0 0) y s = x_grow B lo e none 0 m k l s := by
    unfold x_append
    rw [hu]
    simp only [hk, hi, hd]
    cases d2 with
    | int q => exact absurd rfl (hd2 q)
    | _ => simp only [hsrc, h0, h1, h2, h3, hz]
  rw [h5]
  unfold x_grow
  simp only [h4, h0]
  rw [hnew, app_eq]
  rfl
/-- Behind nothing. -/
theorem WQ.apn {c : Call} {t t2 e : TypeId} {k m : Nat} {i : TypeInfo} {d2 : TypeDesc} {l : List Value} {y : Value} {z : List Value × Nat} (ho : o.op = .call c) (hc : c.callee = .builtin .append) (hts : c.argTypes.toList = [t, t2]) (has : X.map (ev tm) c.args.toList = [.slice none 0 0, y])
    (hu : P.underlying t = some (.slice e)) (hk : szT P e = some k) (hi : P.info? e = some i) (hd : P.underlying t2 = some d2)
    (hsrc : srcOf B s (some d2) k y = some (l, m)) (hz : zc P e = some z) (ht : Nat.ble tops s.nx = false) (hd2 : ∀ q, d2 ≠ .int q) (hm : 0 < m) (hb1 : m ≤ 9223372036854775807) (hb2 : m * i.bytes ≤ 140737488355328)
    (q : K (.val (.slice (some ⟨s.nx, 0, none⟩) m m) (push s (some (.cells l (m * k) e true))))) : WQ (opx P B lo o tm s) K := by
  refine ⟨⟨_, ?_, q⟩⟩
  have e1 : opx P B lo o tm s = x_append P B lo t t2 (.slice none 0 0) y s := by
    show opxd o.op P B lo o tm s = _
    rw [ho]
    show x_call P B lo c o tm s = _
    unfold x_call
    rw [hc]
    show x_builtin P B lo .append c.argTypes.toList (X.map (ev tm) c.args.toList) o tm s = _
    rw [hts, has]
    rfl
  rw [e1]
  exact x_append_nil hu hk hi hd hd2 hsrc hm hb1 hb2 hz ht
theorem x_append_fix {t t2 e T : TypeId} {k m n b j : Nat} {i : TypeInfo} {d2 : TypeDesc} {cs l : List Value} {y : Value} {z : List Value × Nat} (hu : P.underlying t = some (.slice e)) (hk : szT P e = some k) (hi : P.info? e = some i) (hd : P.underlying t2 = some d2) (hd2 : ∀ q, d2 ≠ .int q)
    (hsrc : srcOf B s (some d2) k y = some (l, m)) (hl : look B s b = some (.cells cs j T false)) (hcs : cs.length = n * k) (hj : j = n * k) (hm : 0 < m) (hb1 : n + m ≤ 9223372036854775807) (hb2 : (n + m) * i.bytes ≤ 140737488355328) (hz : zc P e = some z) (ht : Nat.ble tops s.nx = false) :
    x_append P B lo t t2 (.slice (some ⟨b, 0, none⟩) n n) y s = .val (.slice (some ⟨s.nx, 0, none⟩) (n + m) (n + m)) (push s (some (.cells (cs ++ l) ((n + m) * k) e true))) := by
  have h1 : Nat.ble (Nat.add n m) n = false := by
    cases q : Nat.ble (Nat.add n m) n
    · rfl
    · have : n + m ≤ n := Nat.le_of_ble_eq_true q
      omega
  have h2 : Nat.ble (Nat.add n m) 9223372036854775807 = true := Nat.ble_eq_true_of_le hb1
  have h3 : Nat.ble (Nat.mul (Nat.add n m) i.bytes) 140737488355328 = true := Nat.ble_eq_true_of_le hb2
  have h4 : cellsAt B s (some ⟨b, 0, none⟩) (Nat.mul n k) = some cs := by
    simp only [cellsAt, hl]
    rw [show Nat.ble (Nat.add 0 (Nat.mul n k)) j = true from Nat.ble_eq_true_of_le (by show 0 + n * k ≤ j; omega)]
    simp only []
    rw [tkl_eq, dr_eq]
    rw [List.drop_zero, List.take_of_length_le (by rw [hcs]; exact Nat.le_refl _)]
  have hnew : ∀ (o : Ob) (f : Nat → XS → OR), new s o f = f s.nx ⟨T4.put (some o) (dg 10 s.nx) s.h, Nat.succ s.nx, s.lg⟩ := by
    intro o f
    have e' : new s o f = Bool.rec (motive := fun _ => OR) (f s.nx ⟨T4.put (some o) (dg 10 s.nx) s.h, Nat.succ s.nx, s.lg⟩) (.bad "room") (Nat.ble tops s.nx) := rfl
    rw [e', ht]
  have h5 : x_append P B lo t t2 (.slice (some ⟨b, 0, none⟩) n n) y s = x_grow B lo e (some ⟨b, 0, none⟩) n m k l s := by
    unfold x_append
    rw [hu]
    simp only [hk, hi, hd]
    cases d2 with
    | int q => exact absurd rfl (hd2 q)
    | _ => simp only [hsrc, h1, h2, h3, hz]
  rw [h5]
  unfold x_grow
  simp only [h4, hl]
  rw [hnew, app_eq]
  rfl
/-- Behind a list without room. -/
theorem WQ.apf {c : Call} {t t2 e T : TypeId} {k m n b j : Nat} {i : TypeInfo} {d2 : TypeDesc} {cs l : List Value} {y : Value} {z : List Value × Nat} (ho : o.op = .call c) (hc : c.callee = .builtin .append) (hts : c.argTypes.toList = [t, t2]) (has : X.map (ev tm) c.args.toList = [.slice (some ⟨b, 0, none⟩) n n, y])
    (hu : P.underlying t = some (.slice e)) (hk : szT P e = some k) (hi : P.info? e = some i) (hd : P.underlying t2 = some d2)
    (hsrc : srcOf B s (some d2) k y = some (l, m)) (hl : look B s b = some (.cells cs j T false)) (hz : zc P e = some z) (ht : Nat.ble tops s.nx = false) (hd2 : ∀ q, d2 ≠ .int q) (hcs : cs.length = n * k) (hj : j = n * k) (hm : 0 < m) (hb1 : n + m ≤ 9223372036854775807) (hb2 : (n + m) * i.bytes ≤ 140737488355328)
    (q : K (.val (.slice (some ⟨s.nx, 0, none⟩) (n + m) (n + m)) (push s (some (.cells (cs ++ l) ((n + m) * k) e true))))) : WQ (opx P B lo o tm s) K := by
  refine ⟨⟨_, ?_, q⟩⟩
  have e1 : opx P B lo o tm s = x_append P B lo t t2 (.slice (some ⟨b, 0, none⟩) n n) y s := by
    show opxd o.op P B lo o tm s = _
    rw [ho]
    show x_call P B lo c o tm s = _
    unfold x_call
    rw [hc]
    show x_builtin P B lo .append c.argTypes.toList (X.map (ev tm) c.args.toList) o tm s = _
    rw [hts, has]
    rfl
  rw [e1]
  exact x_append_fix hu hk hi hd hd2 hsrc hl hcs hj hm hb1 hb2 hz ht
/-- Nothing behind a list. -/
theorem WQ.apz {c : Call} {t t2 e T : TypeId} {k n b j : Nat} {i : TypeInfo} {d2 : TypeDesc} {cs : List Value} {y : Value} {g : Bool} (ho : o.op = .call c) (hc : c.callee = .builtin .append) (hts : c.argTypes.toList = [t, t2]) (has : X.map (ev tm) c.args.toList = [.slice (some ⟨b, 0, none⟩) n n, y])
    (hu : P.underlying t = some (.slice e)) (hk : szT P e = some k) (hi : P.info? e = some i) (hd : P.underlying t2 = some d2)
    (hsrc : srcOf B s (some d2) k y = some ([], 0)) (hl : look B s b = some (.cells cs j T g)) (hd2 : ∀ q, d2 ≠ .int q) (hcs : cs.length = n * k) (hj : j = n * k)
    (q : K (.val (.slice (some ⟨b, 0, none⟩) n n) (wrt lo s b (some (.cells cs j T g))))) : WQ (opx P B lo o tm s) K := by
  refine ⟨⟨_, ?_, q⟩⟩
  have e1 : opx P B lo o tm s = x_append P B lo t t2 (.slice (some ⟨b, 0, none⟩) n n) y s := by
    show opxd o.op P B lo o tm s = _
    rw [ho]
    show x_call P B lo c o tm s = _
    unfold x_call
    rw [hc]
    show x_builtin P B lo .append c.argTypes.toList (X.map (ev tm) c.args.toList) o tm s = _
    rw [hts, has]
    rfl
  rw [e1]
  have h0 : Nat.add n 0 = n := rfl
  have h1 : Nat.ble n n = true := Nat.ble_eq_true_of_le (Nat.le_refl n)
  have h2 : Nat.ble (Nat.add (Nat.add 0 (Nat.mul n k)) (Nat.mul 0 k)) j = true := Nat.ble_eq_true_of_le (by show 0 + n * k + 0 * k ≤ j; omega)
  have h3 : ovl cs (Nat.add 0 (Nat.mul n k)) [] = cs := by
    rw [ovl_eq cs _ [] (by show 0 + n * k + 0 ≤ cs.length; omega)]
    simp
  unfold x_append
  rw [hu]
  simp only [hk, hi, hd]
  cases d2 with
  | int q => exact absurd rfl (hd2 q)
  | _ => simp only [hsrc, h0, h1, hl, h2, h3]
theorem WP.agM {α : Type} {T : TypeId} {row : α → List Value} {k q M : Nat} [rw_ : RowW row k] {l : List α} {i : Int} {z : α} {K : Value → Prop} (hM : M = l.length * k) (ha : isAg P T = some true) (hq : szT P T = some q) (e : at_ l i = some z) (hf : Nat.ble (Nat.add 0 q) k = true) (h : K (.agg ⟨((row z).drop 0).take q⟩)) : WP P T (fl row l) M (Nat.add 0 (Nat.mul i.toNat k)) K := by
  subst hM
  have h1 : len (fl row l) = l.length * k := by rw [len_eq, fl_len]
  rw [← h1]
  exact WP.ag0 ha hq e hf h
/-- A sealed list's cells, to be appended. -/
theorem src_sl {α : Type} {row : α → List Value} {k : Nat} [RowW row k] {e : TypeId} (l : List α) (h : 0 < l.length) : srcOf B s (some (.slice e)) k (sl row l) = some (fl row l, l.length) := by
  show (match cellsV B s l.length k (slv 0 (fl row l) 0 l.length) with
    | some l' => some (l', l.length)
    | none => none) = _
  have hv : cellsV B s l.length k (slv 0 (fl row l) 0 l.length) = some (fl row l) := by
    obtain ⟨m, hm⟩ : ∃ m, l.length = m + 1 := ⟨l.length - 1, by omega⟩
    rw [hm]
    show sCells (fl row l) 0 (Nat.mul (m + 1) k) = _
    have hl := fl_len (row := row) (k := k) l
    unfold sCells
    rw [len_eq, hl, hm, show Nat.ble (Nat.add 0 (Nat.mul (m + 1) k)) ((m + 1) * k) = true from Nat.ble_eq_true_of_le (by show 0 + (m + 1) * k ≤ _; omega)]
    simp only []
    rw [tkl_eq, dr_eq, List.drop_zero, List.take_of_length_le (by rw [hl, hm]; exact Nat.le_refl _)]
  rw [hv]
/-- A call over a sealed list of strings, that only computes. -/
theorem TC.strs {g : FuncId} {n : Nat} {c : List Value} {l2 : List Value} {v : Value} (hl2 : ∀ a ∈ l2, nad a = true) (hv : nad v = true) (hn : n = 0 ∨ n = c.length) (hc : ∀ a ∈ c, nad a = true)
    (h0 : n = 0 → ∀ a cp w, RoW w → Calls P g (.slice a 0 cp :: l2).toArray w fun e w' => e = .returned v ∧ Below w.heap.size w w') (h : ∀ b t cp w, RoW w → n ≤ cp → b < w.heap.size → (∀ (j : Nat) u, c[j]? = some u → w.cell? ⟨b, t + j, none⟩ = some u) → 0 < n → Calls P g (.slice (some ⟨b, t, none⟩) n cp :: l2).toArray w fun e w' => e = .returned v ∧ Below w.heap.size w w') : TC P B lo g (slv 0 c 0 n :: l2) s v s := by
  intro hf
  refine ⟨SF.refl B lo s, fun M args' w ha hw hfr => ?_⟩
  cases ha with
  | cons a1 a2 =>
    have h2 := nadL_eq hl2 a2
    subst h2
    have fin : ∀ {e : Ending} {w' : World}, (e = .returned v ∧ Below w.heap.size w w') → ∃ v' M', e = .returned v' ∧ Post P M M' (look B s) (look B s) s.nx s.nx w w' ∧ VR M' v v' := by
      rintro e w' ⟨rfl, hb⟩
      exact ⟨v, M, rfl, ⟨hw, Ext.refl M, fun n a b => absurd a b, fun b i v e => .inl e, fun n L a b => by rw [a] at b; simp at b, fun n o e => .inl ⟨o, e⟩, hw.below hb, fun b h _ => hb.block b h, Kept.below hb⟩, nad_VR hv⟩
    rcases rsl_inv (by omega) a1 with ⟨c', b, t, cap, q1, q2, q3, q4, q5, rfl⟩ | ⟨cap, a, rfl, q1, rfl⟩
    · have hce := nadL_eq hc q1
      subst hce
      rcases Nat.eq_zero_or_pos n with rfl | hpos
      · exact Calls.mono (h0 rfl _ _ w hw.row) fun e w' he => fin he
      · have hnc : n = c'.length := by omega
        have hcell : ∀ (j : Nat) u, c'[j]? = some u → w.cell? ⟨b, t + j, none⟩ = some u := by
          intro j u hj
          obtain ⟨cs, T, fr, r1, r2⟩ := hw.rows _ _ _ (q3 j u hj)
          simp [World.cell?, r1, r2]
        have hlt : b < w.heap.size := by
          have : c'[0]? = some c'[0] := by simp
          obtain ⟨cs, T, fr, r1, r2⟩ := hw.rows _ _ _ (q3 0 _ this)
          exact (Array.getElem?_eq_some_iff.1 r1).1
        exact Calls.mono (h b t cap w hw.row q4 hlt hcell hpos) fun e w' he => fin he
    · exact Calls.mono (h0 rfl _ _ w hw.row) fun e w' he => fin he
/-- The same, over a list of one's own. -/
theorem TC.strsO {g : FuncId} {n k j : Nat} {c : List Value} {T : TypeId} {gg : Bool} {l2 : List Value} {v : Value} (hlk : look B s n = some (.cells c j T gg)) (hl2 : ∀ a ∈ l2, nad a = true) (hv : nad v = true) (hn : k = c.length) (hc : ∀ a ∈ c, nad a = true) (h0 : 0 < k)
    (h : ∀ b t cp w, RoW w → k ≤ cp → b < w.heap.size → (∀ (j : Nat) u, c[j]? = some u → w.cell? ⟨b, t + j, none⟩ = some u) → Calls P g (.slice (some ⟨b, t, none⟩) k cp :: l2).toArray w fun e w' => e = .returned v ∧ Below w.heap.size w w') : TC P B lo g (.slice (some ⟨n, 0, none⟩) k k :: l2) s v s := by
  intro hf
  refine ⟨SF.refl B lo s, fun M args' w ha hw hfr => ?_⟩
  cases ha with
  | cons a1 a2 =>
    have h2 := nadL_eq hl2 a2
    subst h2
    obtain ⟨K, hK, ho⟩ := hw.live n _ hlk
    have hlt := ho.lt
    obtain ⟨_, _, cs, T', fr, g1, g2, _⟩ := ho
    cases a1 with
    | sl hL hs =>
      rename_i L off' cp
      rw [hK] at hL; simp at hL; subst hL
      obtain ⟨rfl, hcp⟩ : off' = 0 ∧ k ≤ cp := by
        rcases hs with ⟨q1, q2⟩ | ⟨_, _, _, q1, q2 | ⟨q2, _⟩, _⟩
        · exact ⟨q1, by omega⟩
        · exact ⟨q2, by omega⟩
        · omega
      refine Calls.mono (h K.b (K.s + 0) cp w hw.row hcp hlt fun j u hj => ?_) fun e w' he => ?_
      · obtain ⟨v', q1, q2⟩ := g2 j u hj
        rw [nad_eq (hc u (List.mem_of_getElem? hj)) q2] at q1
        simp [World.cell?, g1, q1]
      · obtain ⟨rfl, hb⟩ := he
        exact ⟨v, M, rfl, ⟨hw, Ext.refl M, fun n a b => absurd a b, fun b i v e => .inl e, fun n L a b => by rw [a] at b; simp at b, fun n o e => .inl ⟨o, e⟩, hw.below hb, fun b h _ => hb.block b h, Kept.below hb⟩, nad_VR hv⟩
end
end Go.X
end
section
set_option maxRecDepth 100000
set_option maxHeartbeats 0
open Go.X Go.Proofs Go Go.RowKit
namespace T
/-- A builder: fresh, or with the bytes that lie in the next name. -/
noncomputable def bldF : Option Ob := some (.cells [.pointer none, .slice none 0 0] 2 70 false)
noncomputable def bldE : Option Ob := some (.cells [ptr 100 0, .slice none 0 0] 2 70 false)
noncomputable def bldU (k : Nat) (l : List UInt8) : Option Ob := some (.cells [ptr 100 0, .slice (some ⟨k, 0, none⟩) l.length l.length] 2 70 false)
noncomputable def rowU (l : List UInt8) : Option Ob := some (.cells (fl u8R l) l.length 5 true)
theorem k49a : ZC Tryz.prog 49 [ptr 100 0] (hp 100 [bldF]) (.tuple ⟨[]⟩) (hp 100 [bldE]) := by
  refine ZC.cw (fn := Tryz.f49) (x := cod Tryz.f49) (by kernel_rfl) (by kernel_rfl) (by kernel_rfl) (by kernel_rfl) ?_; conv => arg 4; whnf
  refine Zz (k := ?_)
  refine Fn.mk (by first | exact .inl rfl | exact .inr rfl) rfl rfl ?_
  refine ⟨[], [], by kernel_rfl, AllO.som rfl (by with_unfolding_all rfl) ?_ AllO.nil, trivial, RV.tup trivial⟩
  exact RObj.cells ⟨RV.pn rfl, RV.of rfl, trivial⟩ (by intro v hv; simp at hv; rcases hv with rfl | rfl <;> rfl)
theorem k49b (l : List UInt8) : ZC Tryz.prog 49 [ptr 100 0] (hp 100 [bldU 101 l, rowU l]) (.tuple ⟨[]⟩) (hp 100 [bldU 101 l, rowU l]) := by
  refine ZC.cw (fn := Tryz.f49) (x := cod Tryz.f49) (by kernel_rfl) (by kernel_rfl) (by kernel_rfl) (by kernel_rfl) ?_; conv => arg 4; whnf
  refine Zz (k := ?_)
  refine Fn.mk (by first | exact .inl rfl | exact .inr rfl) rfl rfl ?_
  refine ⟨[], [], by kernel_rfl, AllO.som rfl (by with_unfolding_all rfl) ?_ (AllO.som rfl (by with_unfolding_all rfl) (RObj.same (fl_of _)) AllO.nil), trivial, RV.tup trivial⟩
  exact RObj.cells ⟨RV.pn rfl, RV.sn rfl, trivial⟩ (by intro v hv; simp at hv; rcases hv with rfl | rfl <;> rfl)
theorem ac_used (k : Nat) (l : List UInt8) : ∀ v ∈ [ptr 100 0, Value.slice (some ⟨k, 0, none⟩) l.length l.length], one v = true := by
  intro v hv; simp at hv; rcases hv with rfl | rfl <;> rfl
theorem ac_fresh : ∀ v ∈ [Value.pointer none, Value.slice none 0 0], of1 v = true := by
  intro v hv; simp at hv; rcases hv with rfl | rfl <;> rfl
theorem rb_used {m : Nat} {rn : List (Nat × Nat)} {sl : List (Nat × List Value)} {n k : Nat} (h : Rn m rn n k := by exact .inr (by decide)) : RObj m rn sl (.cells [ptr k 0, .slice none 0 0] 2 70 false) (.cells [ptr n 0, .slice none 0 0] 2 70 false) :=
  RObj.cells ⟨RV.ptr h, RV.of rfl, trivial⟩ (by intro v hv; simp at hv; rcases hv with rfl | rfl <;> rfl)
theorem src_str {B : Ban} {st : XS} (s : List UInt8) : srcOf B st (some .string) 1 (str s) = some (fl u8R s, s.length) := by
  show some (bytesV ⟨⟨s⟩⟩, len s) = _
  rw [bytesV_u8, len_eq]
theorem k27a (s : List UInt8) (h0 : s ≠ []) (h1 : s.length ≤ 100000000) : ZC Tryz.prog 27 [ptr 100 0, str s] (hp 100 [bldF]) (.tuple ⟨[iv s.length, .nilIface]⟩) (hp 100 [bldU 101 s, rowU s]) := by
  have hm : 0 < s.length := List.length_pos_iff.2 h0
  refine ZC.cw (fn := Tryz.f27) (x := cod Tryz.f27) (by kernel_rfl) (by kernel_rfl) (by kernel_rfl) (by kernel_rfl) ?_; conv => arg 4; whnf
  refine Zz (k := ?_)
  refine WC.c (ZC.use k49a [100] [some bldE] [] (by kernel_rfl) ⟨⟨_, by with_unfolding_all rfl, RObj.same ac_fresh⟩, trivial⟩ ⟨⟨_, rfl, rb_used⟩, trivial⟩ ⟨RV.ptr (.inr (by decide)), trivial⟩ (RV.tup (c1 := []) trivial)) ?_
  refine Zz (k := ?_)
  refine WQ.apn (k := 1) (m := s.length) (l := fl u8R s) rfl rfl rfl rfl rfl rfl rfl rfl (by with_unfolding_all exact src_str s) (by with_unfolding_all rfl) rfl (fun _ h => nomatch h) hm (by omega) (by show _ * 1 ≤ _; omega) ?_
  refine Zz (k := ?_)
  refine Fn.mk (by first | exact .inl rfl | exact .inr rfl) rfl rfl ?_
  refine ⟨[101], [], by kernel_rfl, AllO.som rfl (by with_unfolding_all rfl) ?_ (AllO.som rfl (by with_unfolding_all rfl) ?_ AllO.nil), trivial, RV.tup ⟨RV.of rfl, RV.of rfl, trivial⟩⟩
  · exact RObj.cells ⟨RV.pn rfl, RV.sn rfl, trivial⟩ (ac_used 101 s)
  · exact RObj.eqc rfl (Nat.mul_one _).symm (fl_of _)
theorem rb_u {m : Nat} {rn : List (Nat × Nat)} {sl : List (Nat × List Value)} {n k n2 k2 : Nat} {l : List UInt8} (h : Rn m rn n k := by exact .inr (by first | decide | (with_unfolding_all exact List.Mem.head _) | (with_unfolding_all exact List.Mem.tail _ (List.Mem.head _)) | (with_unfolding_all exact List.Mem.tail _ (List.Mem.tail _ (List.Mem.head _))))) (h2 : Rn m rn n2 k2 := by exact .inr (by first | decide | (with_unfolding_all exact List.Mem.head _) | (with_unfolding_all exact List.Mem.tail _ (List.Mem.head _)) | (with_unfolding_all exact List.Mem.tail _ (List.Mem.tail _ (List.Mem.head _))))) : RObj m rn sl (.cells [ptr k 0, .slice (some ⟨k2, 0, none⟩) l.length l.length] 2 70 false) (.cells [ptr n 0, .slice (some ⟨n2, 0, none⟩) l.length l.length] 2 70 false) :=
  RObj.cells ⟨RV.ptr h, RV.slc h2, trivial⟩ (by intro v hv; simp at hv; rcases hv with rfl | rfl <;> rfl)
theorem k27b (l s : List UInt8) (h0 : s ≠ []) (h1 : l.length + s.length ≤ 100000000) : ZC Tryz.prog 27 [ptr 100 0, str s] (hp 100 [bldU 101 l, rowU l]) (.tuple ⟨[iv s.length, .nilIface]⟩) (hp 100 [bldU 102 (l ++ s), none, rowU (l ++ s)]) := by
  have hm : 0 < s.length := List.length_pos_iff.2 h0
  refine ZC.cw (fn := Tryz.f27) (x := cod Tryz.f27) (by kernel_rfl) (by kernel_rfl) (by kernel_rfl) (by kernel_rfl) ?_; conv => arg 4; whnf
  refine Zz (k := ?_)
  refine WC.c (ZC.use (k49b l) [100, 101] [none, none] [] (by kernel_rfl) ⟨⟨_, by with_unfolding_all rfl, rb_u⟩, ⟨_, by with_unfolding_all rfl, RObj.same (fl_of _)⟩, trivial⟩ ⟨⟨_, _, rfl, by with_unfolding_all rfl, rb_u⟩, ⟨_, _, rfl, by with_unfolding_all rfl, RObj.same (fl_of _)⟩, trivial⟩ ⟨RV.ptr (.inr (by decide)), trivial⟩ (RV.tup (c1 := []) trivial)) ?_
  refine Zz (k := ?_)
  refine WQ.apo (k := 1) (n := l.length) (m := s.length) (cs := fl u8R l) (l := fl u8R s) rfl rfl rfl rfl rfl rfl rfl rfl (by with_unfolding_all exact src_str s) (by with_unfolding_all rfl) (by with_unfolding_all rfl) rfl (fun _ h => nomatch h) (fl_len _) (Nat.mul_one _).symm hm (by omega) (by show _ * 1 ≤ _; omega) ?_
  refine Zz (k := ?_)
  refine Fn.mk (by first | exact .inl rfl | exact .inr rfl) rfl rfl ?_
  refine ⟨[102], [], by kernel_rfl, AllO.som rfl (by with_unfolding_all rfl) ?_ (AllO.non (AllO.som rfl (by with_unfolding_all rfl) ?_ AllO.nil)), trivial, RV.tup ⟨RV.of rfl, RV.of rfl, trivial⟩⟩
  · exact RObj.cells ⟨RV.pn rfl, RV.snE rfl (by simp), trivial⟩ (ac_used 102 (l ++ s))
  · exact RObj.eqc (by simp [fl]) (by simp) (fl_of _)
theorem k29 (l : List UInt8) : ZC Tryz.prog 29 [ptr 100 0] (hp 100 [bldU 101 l, rowU l]) (iv l.length) (hp 100 [bldU 101 l, rowU l]) := by
  refine ZC.cw (fn := Tryz.f29) (x := cod Tryz.f29) (by kernel_rfl) (by kernel_rfl) (by kernel_rfl) (by kernel_rfl) ?_; conv => arg 4; whnf
  refine Zz (k := ?_)
  refine Fn.mk (by first | exact .inl rfl | exact .inr rfl) rfl rfl ?_
  refine ⟨[], [], by kernel_rfl, AllO.som rfl (by with_unfolding_all rfl) ?_ (AllO.som rfl (by with_unfolding_all rfl) (RObj.same (fl_of _)) AllO.nil), trivial, RV.of rfl⟩
  exact RObj.cells ⟨RV.pn rfl, RV.sn rfl, trivial⟩ (ac_used 101 l)
theorem k29f : ZC Tryz.prog 29 [ptr 100 0] (hp 100 [bldF]) (iv 0) (hp 100 [bldF]) := by
  refine ZC.cw (fn := Tryz.f29) (x := cod Tryz.f29) (by kernel_rfl) (by kernel_rfl) (by kernel_rfl) (by kernel_rfl) ?_; conv => arg 4; whnf
  refine Zz (k := ?_)
  refine Fn.mk (by first | exact .inl rfl | exact .inr rfl) rfl rfl ?_
  exact ⟨[], [], by kernel_rfl, AllO.som rfl (by with_unfolding_all rfl) (RObj.same ac_fresh) AllO.nil, trivial, RV.of rfl⟩
theorem k30f : ZC Tryz.prog 30 [ptr 100 0] (hp 100 [bldF]) (str []) (hp 100 [none]) := by
  refine ZC.cw (fn := Tryz.f30) (x := cod Tryz.f30) (by kernel_rfl) (by kernel_rfl) (by kernel_rfl) (by kernel_rfl) ?_; conv => arg 4; whnf
  refine Zz (k := ?_)
  refine Fn.mk (by first | exact .inl rfl | exact .inr rfl) rfl rfl ?_; exact ⟨[], [], by kernel_rfl, trivial, trivial, RV.of rfl⟩
theorem k30 (b : UInt8) (l : List UInt8) (h : l.length ≤ 100000000) : ZC Tryz.prog 30 [ptr 100 0] (hp 100 [bldU 101 (b :: l), rowU (b :: l)]) (str (b :: l)) (hp 100 [none, none]) := by
  refine ZC.cw (fn := Tryz.f30) (x := cod Tryz.f30) (by kernel_rfl) (by kernel_rfl) (by kernel_rfl) (by kernel_rfl) ?_; conv => arg 4; whnf
  refine Zz (k := ?_)
  refine WQ.ust (n := 101) (l := b :: l) rfl rfl rfl rfl rfl rfl (by with_unfolding_all rfl) rfl rfl (by simp) (by simp; omega) ?_
  refine Zz (k := ?_)
  refine Fn.mk (by first | exact .inl rfl | exact .inr rfl) rfl rfl ?_; exact ⟨[], [], by kernel_rfl, trivial, trivial, RV.of rfl⟩
end T
end
section
set_option maxRecDepth 100000
set_option maxHeartbeats 0
open Go.X Go.Proofs Go Go.RowKit
namespace T
def lJoin_ren : Go.Shelf.Ren := ⟨(fun | 156 => 50 | 165 => 71 | 166 => 27 | 169 => 30 | 240 => 49 | 241 => 97 | 276 => 70 | 277 => 137 | n => n), (fun | 31 => 60 | 9 => 9 | 3 => 3 | 4 => 4 | 0 => 0 | 20 => 20 | 72 => 70 | 76 => 73 | 70 => 67 | 37 => 68 | 75 => 72 | 127 => 107 | 164 => 137 | 5 => 5 | 80 => 77 | n => n), (fun  | n => n)⟩
theorem lJoin : Lays.n156 Tryz.prog lJoin_ren where
  mixed := by kernel_rfl
  f156 := Tryz.func50.trans (congrArg some (by kernel_rfl))
  f165 := Tryz.func71.trans (congrArg some (by kernel_rfl))
  f166 := Tryz.func27.trans (congrArg some (by kernel_rfl))
  f169 := Tryz.func30.trans (congrArg some (by kernel_rfl))
  f240 := Tryz.func49.trans (congrArg some (by kernel_rfl))
  f241 := Tryz.func97.trans (congrArg some (by kernel_rfl))
  f276 := Tryz.func70.trans (congrArg some (by kernel_rfl))
  f277 := Tryz.func137.trans (congrArg some (by kernel_rfl))
  t0 := Tryz.underlying0
  a0 := Tryz.isAgg0
  z0 := Tryz.sizeOf0
  v0 := Tryz.zeroValue0
  t3 := Tryz.underlying3
  a3 := Tryz.isAgg3
  z3 := Tryz.sizeOf3
  v3 := Tryz.zeroValue3
  t4 := Tryz.underlying4
  a4 := Tryz.isAgg4
  z4 := Tryz.sizeOf4
  v4 := Tryz.zeroValue4
  t9 := Tryz.underlying9
  a9 := Tryz.isAgg9
  z9 := Tryz.sizeOf9
  v9 := Tryz.zeroValue9
  t20 := Tryz.underlying20
  a20 := Tryz.isAgg20
  z20 := Tryz.sizeOf20
  v20 := Tryz.zeroValue20
  t31 := Tryz.underlying60
  a31 := Tryz.isAgg60
  z31 := Tryz.sizeOf60
  v31 := Tryz.zeroValue60
  t37 := Tryz.underlying68
  a37 := Tryz.isAgg68
  z37 := Tryz.sizeOf68
  v37 := Tryz.zeroValue68
  t70 := Tryz.underlying67
  a70 := Tryz.isAgg67
  z70 := Tryz.sizeOf67
  v70 := Tryz.zeroValue67
  t72 := Tryz.underlying70
  a72 := Tryz.isAgg70
  z72 := Tryz.sizeOf70
  v72 := Tryz.zeroValue70
  t75 := Tryz.underlying72
  a75 := Tryz.isAgg72
  z75 := Tryz.sizeOf72
  v75 := Tryz.zeroValue72
  t76 := Tryz.underlying73
  a76 := Tryz.isAgg73
  z76 := Tryz.sizeOf73
  v76 := Tryz.zeroValue73
  t127 := Tryz.underlying107
  a127 := Tryz.isAgg107
  z127 := Tryz.sizeOf107
  v127 := Tryz.zeroValue107
  t164 := Tryz.underlying137
  a164 := Tryz.isAgg137
  z164 := Tryz.sizeOf137
  v164 := Tryz.zeroValue137
theorem lJoinX : Builder.Extra Tryz.prog lJoin_ren where
  sizeBuilder := by kernel_rfl
  liesBuilder := by kernel_rfl
  t5 := Tryz.underlying5
  a5 := Tryz.isAgg5
  z5 := Tryz.sizeOf5
  v5 := Tryz.zeroValue5
  infoByte := by kernel_rfl
  cellsByte := by kernel_rfl
  sizeByte := by kernel_rfl
  neB5 := by decide
/-- Strings, one behind the other, with a byte between them. -/
def joinC (c : UInt8) : List (List UInt8) → List UInt8
  | [] => []
  | [x] => x
  | x :: y :: l => x ++ c :: joinC c (y :: l)
theorem join_joinC (c : UInt8) : ∀ l, Lib.join l [c] = joinC c l
  | [] => rfl
  | [x] => by simp [joinC, Lib.join_one]
  | x :: y :: l => by
    rw [joinC, ← join_joinC c (y :: l)]
    rfl
theorem fl_str {l : List UInt8} : ∀ {xs : List (List UInt8)} {j : Nat}, xs[j]? = some l → (fl strR xs)[j]? = some (str l)
  | [], j, h => by simp at h
  | x :: xs, 0, h => by simp at h; subst h; rfl
  | x :: xs, j + 1, h => fl_str (xs := xs) (j := j) (by simpa using h)
variable {B : Ban} {lo : Nat} {st : XS}
/-- strings.Join, of a sealed list. -/
theorem c50 (c : UInt8) (xs : List (List UInt8)) (hn : xs.length ≤ 100000) (hj : (joinC c xs).length ≤ 1000000) : TC Tryz.prog B lo 50 [sl strR xs, str [c]] st (str (joinC c xs)) st := by
  refine TC.strs (c := fl strR xs) (n := xs.length) (l2 := [str [c]]) (by intro a ha; simp at ha; subst ha; rfl) rfl (.inr (by rw [fl_len]; simp)) (fun a ha => ?_) (fun h0 a cp w hr => ?_) (fun b t cp w hr hcp hb hc hp => ?_)
  · obtain ⟨y, hy, h⟩ := List.mem_flatten.1 ha
    obtain ⟨x, _, rfl⟩ := List.mem_map.1 hy
    simp [strR] at h
    subst h
    rfl
  · have hx : xs = [] := List.eq_nil_of_length_eq_zero h0
    subst hx
    have := Any.strings_Join_none lJoin lJoinX a cp ⟨⟨[c]⟩⟩ w
    rw [show lJoin_ren.f 156 = 50 from by kernel_rfl] at this
    exact Calls.mono this fun e w' he => ⟨he.1, he.2 ▸ Below.refl _ _⟩
  · have hcell : ∀ (j : Nat) x, (xs.map fun l => (⟨⟨l⟩⟩ : ByteArray))[j]? = some x → w.cell? ⟨b, t + j, none⟩ = some (.string x) := by
      intro j x hj
      rw [List.getElem?_map] at hj
      obtain ⟨l, h1, rfl⟩ := Option.map_eq_some_iff.1 hj
      refine hc j _ ?_
      exact fl_str h1
    have hm : (xs.map fun l => (⟨⟨l⟩⟩ : ByteArray)).map (·.data.toList) = xs := by
      rw [List.map_map]
      exact List.map_id' _
    have := Any.strings_Join lJoin lJoinX b t cp (xs.map fun l => (⟨⟨l⟩⟩ : ByteArray)) ⟨⟨[c]⟩⟩ w hcell hb (by simp; omega) (by simp; omega) (by
      rw [hm]
      show (Lib.join xs [c]).length ≤ _
      rw [join_joinC]; omega)
    rw [show lJoin_ren.f 156 = 50 from by kernel_rfl, hm] at this
    have hl : (xs.map fun l => (⟨⟨l⟩⟩ : ByteArray)).length = xs.length := by simp
    rw [hl] at this
    refine Calls.mono this fun e w' he => ⟨?_, he.2⟩
    rw [he.1]
    show _ = Ending.returned (str (joinC c xs))
    rw [← join_joinC]
    rfl
/-- The same, of a list of one's own. -/
theorem c50o (c : UInt8) (xs : List (List UInt8)) {n j : Nat} {T : TypeId} {gg : Bool} (hlk : X.look B st n = some (.cells (fl strR xs) j T gg)) (h0 : xs ≠ []) (hn : xs.length ≤ 100000) (hj : (joinC c xs).length ≤ 1000000) : TC Tryz.prog B lo 50 [.slice (some ⟨n, 0, none⟩) xs.length xs.length, str [c]] st (str (joinC c xs)) st := by
  refine TC.strsO (c := fl strR xs) (l2 := [str [c]]) hlk (by intro a ha; simp at ha; subst ha; rfl) rfl (by rw [fl_len]; simp) (fun a ha => ?_) (List.length_pos_iff.2 h0) (fun b t cp w hr hcp hb hc => ?_)
  · obtain ⟨y, hy, h⟩ := List.mem_flatten.1 ha
    obtain ⟨x, _, rfl⟩ := List.mem_map.1 hy
    simp [strR] at h
    subst h
    rfl
  · have hcell : ∀ (j : Nat) x, (xs.map fun l => (⟨⟨l⟩⟩ : ByteArray))[j]? = some x → w.cell? ⟨b, t + j, none⟩ = some (.string x) := by
      intro j x hj
      rw [List.getElem?_map] at hj
      obtain ⟨l, h1, rfl⟩ := Option.map_eq_some_iff.1 hj
      exact hc j _ (fl_str h1)
    have hm : (xs.map fun l => (⟨⟨l⟩⟩ : ByteArray)).map (·.data.toList) = xs := by
      rw [List.map_map]
      exact List.map_id' _
    have := Any.strings_Join lJoin lJoinX b t cp (xs.map fun l => (⟨⟨l⟩⟩ : ByteArray)) ⟨⟨[c]⟩⟩ w hcell hb (by simp; omega) (by simp; omega) (by
      rw [hm]
      show (Lib.join xs [c]).length ≤ _
      rw [join_joinC]; omega)
    rw [show lJoin_ren.f 156 = 50 from by kernel_rfl, hm] at this
    have hl : (xs.map fun l => (⟨⟨l⟩⟩ : ByteArray)).length = xs.length := by simp
    rw [hl] at this
    refine Calls.mono this fun e w' he => ⟨?_, he.2⟩
    rw [he.1]
    show _ = Ending.returned (str (joinC c xs))
    rw [← join_joinC]
    rfl
end T
end
section
set_option maxRecDepth 100000
set_option maxHeartbeats 0
open Go.X Go.Proofs Go Go.RowKit
namespace T
theorem joinC_len (c : UInt8) (k : Nat) : ∀ xs : List (List UInt8), (∀ x ∈ xs, x.length ≤ k) → (joinC c xs).length ≤ (k + 1) * xs.length
  | [], _ => by simp [joinC]
  | [x], h => by have := h x (by simp); simp [joinC]; omega
  | x :: y :: l, h => by
    have h1 := h x (by simp)
    have h2 := joinC_len c k (y :: l) fun z hz => h z (List.mem_cons_of_mem _ hz)
    simp only [joinC, List.length_append, List.length_cons] at h2 ⊢
    rw [Nat.mul_add (k + 1) (l.length + 1) 1, Nat.mul_one]
    omega
/-- Numbers as a text. -/
def needB (l : List Int) : List UInt8 := if l = [] then [45] else joinC 44 (l.map Lib.itoa)
def fitI (n : Int) : Prop := -9223372036854775808 ≤ n ∧ n ≤ 9223372036854775807
theorem needB_len (l : List Int) (hl : l.length ≤ 10000) (h : ∀ n ∈ l, fitI n) : (needB l).length ≤ 22 * l.length + 1 := by
  unfold needB
  split
  · simp
  · have := joinC_len 44 21 (l.map Lib.itoa) fun x hx => by
      obtain ⟨n, hn, rfl⟩ := List.mem_map.1 hx
      exact Lib.itoa_length_le n (h n hn).1 (h n hn).2
    rw [List.length_map] at this
    omega
theorem k39n : ZC Tryz.prog 39 [sl intR []] (hp 100 []) (str [45]) (hp 100 []) := by
  refine ZC.cw (fn := Tryz.f39) (x := cod Tryz.f39) (by kernel_rfl) (by kernel_rfl) (by kernel_rfl) (by kernel_rfl) ?_; conv => arg 4; whnf
  refine Zz (k := ?_)
  refine Fn.mk (by first | exact .inl rfl | exact .inr rfl) rfl rfl ?_; exact ⟨[], [], by kernel_rfl, trivial, trivial, RV.of rfl⟩
theorem k39c (R : List Int) (h0 : R ≠ []) (hl : R.length ≤ 10000) (hx : ∀ n ∈ R, fitI n) : ZC Tryz.prog 39 [sl intR R] (hp 100 []) (str (joinC 44 (R.map Lib.itoa))) (hp 100 []) := by
  have hr : 0 < R.length := List.length_pos_iff.2 h0
  have hj := joinC_len 44 21 (R.map Lib.itoa) fun x hq => by
    obtain ⟨n, hn, rfl⟩ := List.mem_map.1 hq
    exact Lib.itoa_length_le n (hx n hn).1 (hx n hn).2
  rw [List.length_map] at hj
  refine ZC.cw (fn := Tryz.f39) (x := cod Tryz.f39) (by kernel_rfl) (by kernel_rfl) (by kernel_rfl) (by kernel_rfl) ?_; conv => arg 4; whnf
  refine Zz (k := ?_)
  refine CW.cb ((R.length : Int) == 0) rfl (fun q q' => ?_) (fun q q' => ?_)
  · exfalso; have : (R.length : Int) = 0 := by simpa only [beq_iff_eq] using q
    omega
  refine Zz (k := ?_)
  refine CW.inv (σ := List (List UInt8)) (g := 100) (L := fun z => [(3, ouV 100 z), (9, sl intR R), (10, iv R.length), (11, iv z.length)]) (l := fun z => [ouO strR 1 9 z]) (fun z => ∃ r, z ++ r.map Lib.itoa = R.map Lib.itoa ∧ R.drop z.length = r) (fun z => R.length - z.length) [] ⟨R, rfl, rfl⟩ [100] [] (gl _) (by kernel_rfl) rfl rfl trivial trivial ⟨RV.of rfl, RV.of rfl, RV.of rfl, RV.of rfl, trivial⟩ ?_
  rintro z ⟨r, h1, h2⟩
  have hlen : z.length + r.length = R.length := by have := congrArg List.length h1; simpa using this
  refine Zz (k := ?_)
  refine CW.cb (decide ((z.length : Int) < R.length)) rfl (fun g g' => ?_) (fun g g' => ?_)
  · have g : z.length < R.length := by simpa using g
    have e : at_ R (z.length : Int) = some R[z.length] := by unfold at_; rw [if_pos (by omega)]; simp [g]
    have hf := hx R[z.length] (by simp)
    have h3 : R.drop z.length = R[z.length] :: R.drop (z.length + 1) := List.drop_eq_getElem_cons g
    rw [h2] at h3
    generalize R[z.length] = n at *
    subst h3
    have h4 : ∀ q : List UInt8, q = Lib.itoa n → z ++ [q] ++ (R.drop (z.length + 1)).map Lib.itoa = R.map Lib.itoa := fun q e => by subst e; rw [← h1]; simp
    have h4 := h4 _ rfl
    have hc : ∀ {B : Ban} {lo : Nat} {st : XS}, TC Tryz.prog B lo 38 [iv n] st (str (Lib.itoa n)) st := c38 n hf.1 hf.2
    generalize Lib.itoa n = w at *
    rcases z with _ | ⟨x, z⟩
    · refine Zz (k := ?_)
      refine WI.at e rfl rfl ?_
      refine Zz (k := ?_)
      refine WC.c hc ?_
      refine Zz (k := ?_)
      refine ⟨[w], ⟨⟨R.drop 1, h4, rfl⟩, by simp; omega⟩, To.mk [102] [] (AllO.som rfl rfl (RObj.same (by intro v hv; simp [fl, strR] at hv; subst hv; rfl)) AllO.nil) ⟨RV.sn rfl, RV.of rfl, RV.of rfl, RV.iw rfl (by omega), trivial⟩ trivial (by kernel_rfl) rfl rfl⟩
    · refine Zz (k := ?_)
      refine WI.at e rfl rfl ?_
      refine Zz (k := ?_)
      refine WC.c hc ?_
      refine Zz (k := ?_)
      simp only [List.length_cons] at hlen g
      refine WQ.apo (k := 1) (n := z.length + 1) (m := 1) (cs := fl strR (x :: z)) (l := [str w]) rfl rfl rfl rfl rfl rfl rfl rfl rfl rfl rfl rfl (fun _ h => nomatch h) (fl_len _) rfl (by omega) (by omega) (by show _ * 16 ≤ _; omega) ?_
      refine Zz (k := ?_)
      refine ⟨x :: z ++ [w], ⟨⟨R.drop (z.length + 2), h4, by simp⟩, by simp; omega⟩, To.mk [102] [] (AllO.ofe (ouO_app strR 1 9 (x :: z) w) rfl (by with_unfolding_all rfl) (RObj.same (by intro v hv; rcases List.mem_append.1 hv with hv | hv; exact fl_of _ v hv; exact RowW.o w v hv)) AllO.nil) ⟨RV.ofe (ouV_app 100 (x :: z) w) (RV.sn rfl), RV.of rfl, RV.of rfl, RV.iw (by simp) (by simp; omega), trivial⟩ trivial (by kernel_rfl) rfl rfl⟩
  · have hz : r = [] := List.eq_nil_of_length_eq_zero (by simp at g; omega)
    subst hz
    have h1 : z = R.map Lib.itoa := by simpa using h1
    have hc : ∀ {B : Ban} {lo : Nat} {st : XS}, TC Tryz.prog B lo 50 [sl strR z, str [44]] st (str (joinC 44 (R.map Lib.itoa))) st := by
      rw [← h1]
      exact c50 44 z (by rw [h1]; simp; omega) (by rw [h1]; omega)
    rcases z with _ | ⟨x, z⟩
    · simp at hlen; omega
    refine CW.exit ?_
    conv => whnf
    refine CW.shape (g := 100) (L := [(3, sl strR (x :: z))]) (l1 := []) [] [(100, fl strR (x :: z))] (gl _) (by kernel_rfl) rfl rfl AllO.nil ⟨⟨⟨_, _, _, rfl⟩, fl_of _, rfl, .inl (by decide)⟩, trivial⟩ ⟨RV.rsl (List.mem_singleton.2 rfl) (Nat.le_refl _), trivial⟩ ?_
    refine Zz (k := ?_)
    refine WC.c hc ?_
    refine Zz (k := ?_)
    refine Fn.mk (by first | exact .inl rfl | exact .inr rfl) rfl rfl ?_; exact ⟨[], [], by kernel_rfl, trivial, trivial, RV.of rfl⟩
theorem k39 (l : List Int) (hl : l.length ≤ 10000) (hx : ∀ n ∈ l, fitI n) : ZC Tryz.prog 39 [sl intR l] (hp 100 []) (str (needB l)) (hp 100 []) := by
  unfold needB
  split
  · rename_i h; subst h; exact k39n
  · rename_i h; exact k39c l h hl hx
end T
end
