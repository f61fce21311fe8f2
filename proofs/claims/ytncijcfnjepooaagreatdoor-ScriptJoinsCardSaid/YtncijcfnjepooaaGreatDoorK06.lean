/-
  A part of the proof of ScriptJoins: no statement of the seat is proved here.
-/
import Derived.Test.YtncijcfnjepooaaGreatDoorK05
import Derived.Defers
import Derived.LoopN
import Derived.Scope
set_option linter.unusedVariables false
set_option linter.unusedSimpArgs false
set_option linter.unnecessarySimpa false
set_option linter.unusedSectionVars false
set_option linter.constructorNameAsVariable false
set_option linter.deprecated false
section
set_option linter.unusedVariables false
namespace Go.X
open Go Go.RowKit
section
variable {P : Program} {B : Ban} {lo : Nat} {o : Oper} {tm : T4 Value} {s s' : XS} {v : Value}
/-- A deferred call by names, and in truth. -/
def DR (M : Cx) (d d' : Deferred) : Prop := ∃ g cap cap', d.target = .fn (.func g) cap ∧ d'.target = .fn (.func g) cap' ∧ VRL M cap.toList cap'.toList ∧ VRL M d.args.toList d'.args.toList
def OpD (P : Program) (o : Oper) (tm : T4 Value) (d : Deferred) : Prop :=
  ∀ (M : Cx) (a : Act) (w : World), (∀ x ∈ o.op.operands.toList, VR M (ev tm x) (a.eval x)) → ∃ d', (execOp a.eval o).run P w = .ok (.defer d') w ∧ DR M d d'
theorem body_spec {f : FuncId} {fn : Func} {c : Code} (h : body? P f = some (fn, c)) : P.funcs[f]? = some fn ∧ fn.body = some c ∧ (fn.name == "runtime.NumGoroutine") = false := by
  unfold body? at h
  split at h
  · rename_i fn' hf
    split at h
    · rename_i c' hc
      split at h <;> simp at h
      rename_i hn
      obtain ⟨rfl, rfl⟩ := h
      exact ⟨by simpa using hf, hc, hn⟩
    · simp at h
  · simp at h
theorem callFunc_run {f : FuncId} {fn : Func} {c : Code} (h : body? P f = some (fn, c)) (args : Array Value) (w : World) : (callFunc f args).run P w = .ok (.enter f args) w := by
  obtain ⟨h1, h2, h3⟩ := body_spec h
  have h3' : fn.name ≠ "runtime.NumGoroutine" := by simpa using h3
  simp [callFunc, Go.program, Sem.run, h1, h2, h3']
/-- The function that is called, in truth. -/
theorem callee_VR {M : Cx} {u u' : Value} {f : Nat} {a b : Array Value} (hu : u = .func (.func f) a b) (h : VR M u u') : ∃ a' b', u' = .func (.func f) a' b' ∧ VRL M a.toList a'.toList ∧ VRL M b.toList b'.toList := by
  subst hu
  cases h with
  | func f ha hb => exact ⟨⟨_⟩, ⟨_⟩, rfl, ha, hb⟩
theorem adrV_spec {l : List Value} {v : Value} (h : adrV l = some v) : ∃ a, l = [v] ∧ v = .pointer (some a) := by
  unfold adrV at h
  split at h
  · simp at h; exact ⟨_, by rw [h], h.symm⟩
  · simp at h
theorem s_callf {c : Call} {f : Operand} {g : Nat} {a0 b0 : Array Value} (e : o.op = .call c) (hc : c.callee = .value f) (hf : ev tm f = .func (.func g) a0 b0) {r : OR}
    (h : x_callf P g (app a0.toList (app (X.map (ev tm) c.args.toList) b0.toList)) o tm s = r) :
    (∀ v s', r = .val v s' → OpV P B lo o tm s v s') ∧ (∀ f args, r = .call f args → OpC P o tm f args) ∧ ∀ d, r ≠ .dfr d := by
  unfold x_callf at h
  split at h
  · rename_i q hb
    subst h
    refine ⟨fun v s' hh => by simp at hh, fun f' args hh => ?_, fun d hh => by simp at hh⟩
    simp at hh
    obtain ⟨rfl, rfl⟩ := hh
    intro M a w hv
    obtain ⟨a', b', h1, h2, h3⟩ := callee_VR hf (hv f (by simp [e, Op.operands, Call.operands, hc]))
    refine ⟨a' ++ c.args.map a.eval ++ b', ?_, ?_⟩
    · generalize a.eval = ρ at *
      obtain ⟨fn, cd⟩ := q
      simp [execOp, e, resolve, hc, h1, Deferred.ofValue, invoke, callFunc_run hb]
    · rw [app_eq, app_eq, map_eq]
      simp only [Array.toList_append, Array.toList_map, List.append_assoc]
      exact h2.append ((VRL.map_ fun x hx => hv x (by simp [e, Op.operands, Call.operands, hc]; exact .inr (by simpa using hx))).append h3)
  · split at h
    · rename_i u hadr
      split at h
      · rename_i hne
        subst h
        refine ⟨fun v s' hh => ?_, fun f' args hh => by simp at hh, fun d hh => by simp at hh⟩
        simp at hh
        obtain ⟨rfl, rfl⟩ := hh
        refine .same fun M a w hv hw => ?_
        obtain ⟨a', b', h1, h2, h3⟩ := callee_VR hf (hv f (by simp [e, Op.operands, Call.operands, hc]))
        have hall : VRL M (app a0.toList (app (X.map (ev tm) c.args.toList) b0.toList)) (a' ++ c.args.map a.eval ++ b').toList := by
          rw [app_eq, app_eq, map_eq]
          simp only [Array.toList_append, Array.toList_map, List.append_assoc]
          exact h2.append ((VRL.map_ fun x hx => hv x (by simp [e, Op.operands, Call.operands, hc]; exact .inr (by simpa using hx))).append h3)
        obtain ⟨ad, h4, rfl⟩ := adrV_spec hadr
        obtain ⟨x', h5, h6⟩ := one1 h4 hall
        refine ⟨x', ?_, h6⟩
        have hrun := isNE_spec hne x' w
        rw [← h5] at hrun
        generalize a.eval = ρ at *
        simp only [execOp, e, resolve, hc, h1, Deferred.ofValue, invoke]
        simpa using hrun
      · subst h
        exact ⟨fun v s' hh => by simp at hh, fun f' args hh => by simp at hh, fun d hh => by simp at hh⟩
    have hg : ∀ q, gp P o tm s "extern" = q → (∃ v s', q = .val v s') ∨ ∃ w, q = .bad w := by
      intro q hq
      unfold gp at hq
      split at hq
      · split at hq
        · split at hq
          · exact .inl ⟨_, _, hq.symm⟩
          · exact .inr ⟨_, hq.symm⟩
        · exact .inr ⟨_, hq.symm⟩
      · exact .inr ⟨_, hq.symm⟩
    refine ⟨fun v s' hh => gp_val (by rw [e]; simp) (h.trans hh), fun f' args hh => ?_, fun d hh => ?_⟩
    · rcases hg _ h with ⟨_, _, hq⟩ | ⟨_, hq⟩ <;> rw [hq] at hh <;> simp at hh
    · rcases hg _ h with ⟨_, _, hq⟩ | ⟨_, hq⟩ <;> rw [hq] at hh <;> simp at hh
theorem s_defer {c : Call} {d : Deferred} (e : o.op = .defer c) (h : x_defer c tm = .dfr d) : OpD P o tm d := by
  unfold x_defer at h
  split at h
  · rename_i f hc
    split at h
    · rename_i g a0 b0 hf
      simp at h
      subst h
      intro M a w hv
      obtain ⟨a', b', h1, h2, h3⟩ := callee_VR hf (hv f (by simp [e, Op.operands, Call.operands, hc]))
      refine ⟨⟨.fn (.func g) b', a' ++ c.args.map a.eval⟩, ?_, g, b0, b', rfl, rfl, h3, ?_⟩
      · generalize a.eval = ρ at *
        simp [execOp, e, resolve, hc, h1, Deferred.ofValue]
      · rw [app_eq, map_eq]
        simp only [Array.toList_append, Array.toList_map]
        exact h2.append (VRL.map_ fun x hx => hv x (by simp [e, Op.operands, Call.operands, hc]; exact .inr (by simpa using hx)))
    · simp at h
  · simp at h
/-- What an operation's answer says. -/
def Snd (P : Program) (B : Ban) (lo : Nat) (o : Oper) (tm : T4 Value) (s : XS) : OR → Prop
  | .val v s' => OpV P B lo o tm s v s'
  | .call f args => OpC P o tm f args
  | .dfr d => (∃ c, o.op = .defer c) ∧ OpD P o tm d
  | .bad _ => True
theorem snd_val {r : OR} (hr : (∃ v s', r = .val v s') ∨ ∃ w, r = .bad w) (h : ∀ v s', r = .val v s' → OpV P B lo o tm s v s') : Snd P B lo o tm s r := by
  rcases hr with ⟨v, s', rfl⟩ | ⟨w, rfl⟩
  · exact h _ _ rfl
  · trivial
def vb (r : OR) : Prop := (∃ v s', r = .val v s') ∨ ∃ w, r = .bad w
theorem vb_val {v : Value} {s : XS} : vb (.val v s) := .inl ⟨_, _, rfl⟩
theorem vb_bad {w : String} : vb (.bad w) := .inr ⟨_, rfl⟩
theorem vb_optV {x : Option Value} {w : String} : vb (optV x s w) := by
  cases x
  · exact vb_bad
  · exact vb_val
theorem vb_new {ob : Ob} {k : Nat → XS → OR} (h : ∀ n s, vb (k n s)) : vb (new s ob k) := by
  rcases new_eq (rfl : new s ob k = _) with ⟨_, h'⟩ | h'
  · rw [← h']; exact h _ _
  · rw [h']; exact vb_bad
theorem vb_gp {w : String} : vb (gp P o tm s w) := by
  unfold gp
  split
  · split
    · split
      · exact vb_val
      · exact vb_bad
    · exact vb_bad
  · exact vb_bad
theorem vb_x_load (P : Program) (B : Ban) (T : TypeId) (a : Value) (s : XS)  : vb (x_load P B T a s) := by
  unfold x_load
  repeat' split
  all_goals first | exact vb_val | exact vb_bad | exact vb_optV | exact vb_gp | exact vb_new (fun _ _ => vb_val)
theorem vb_x_store (P : Program) (B : Ban) (lo : Nat) (T : TypeId) (a v : Value) (s : XS)  : vb (x_store P B lo T a v s) := by
  unfold x_store
  repeat' split
  all_goals first | exact vb_val | exact vb_bad | exact vb_optV | exact vb_gp | exact vb_new (fun _ _ => vb_val)
theorem vb_x_nil (v : Value) (s : XS)  : vb (x_nil v s) := by
  unfold x_nil
  repeat' split
  all_goals first | exact vb_val | exact vb_bad | exact vb_optV | exact vb_gp | exact vb_new (fun _ _ => vb_val)
theorem vb_x_fld (P : Program) (T : TypeId) (x : Value) (f : Nat) (s : XS)  : vb (x_fld P T x f s) := by
  unfold x_fld
  repeat' split
  all_goals first | exact vb_val | exact vb_bad | exact vb_optV | exact vb_gp | exact vb_new (fun _ _ => vb_val)
theorem vb_x_field (P : Program) (T : TypeId) (x : Value) (f : Nat) (s : XS)  : vb (x_field P T x f s) := by
  unfold x_field
  repeat' split
  all_goals first | exact vb_val | exact vb_bad | exact vb_optV | exact vb_gp | exact vb_new (fun _ _ => vb_val)
theorem vb_x_ia (P : Program) (T : TypeId) (x i : Value) (s : XS)  : vb (x_ia P T x i s) := by
  unfold x_ia
  repeat' split
  all_goals first | exact vb_val | exact vb_bad | exact vb_optV | exact vb_gp | exact vb_new (fun _ _ => vb_val)
theorem vb_x_index (P : Program) (T : TypeId) (x i : Value) (o : Oper) (tm : T4 Value) (s : XS)  : vb (x_index P T x i o tm s) := by
  unfold x_index
  repeat' split
  all_goals first | exact vb_val | exact vb_bad | exact vb_optV | exact vb_gp | exact vb_new (fun _ _ => vb_val)
theorem vb_x_lookup (P : Program) (B : Ban) (T : TypeId) (x k : Value) (ok : Bool) (s : XS)  : vb (x_lookup P B T x k ok s) := by
  unfold x_lookup
  repeat' split
  all_goals first | exact vb_val | exact vb_bad | exact vb_optV | exact vb_gp | exact vb_new (fun _ _ => vb_val)
theorem vb_x_mapUpdate (P : Program) (B : Ban) (lo : Nat) (T : TypeId) (x k v : Value) (s : XS)  : vb (x_mapUpdate P B lo T x k v s) := by
  unfold x_mapUpdate
  repeat' split
  all_goals first | exact vb_val | exact vb_bad | exact vb_optV | exact vb_gp | exact vb_new (fun _ _ => vb_val)
theorem vb_x_build (P : Program) (T : TypeId) (ps : List (Nat × Value)) (s : XS)  : vb (x_build P T ps s) := by
  unfold x_build
  repeat' split
  all_goals first | exact vb_val | exact vb_bad | exact vb_optV | exact vb_gp | exact vb_new (fun _ _ => vb_val)
theorem vb_x_buildSlice (P : Program) (T : TypeId) (n : Nat) (ps : List (Nat × Value)) (s : XS)  : vb (x_buildSlice P T n ps s) := by
  unfold x_buildSlice
  repeat' split
  all_goals first | exact vb_val | exact vb_bad | exact vb_optV | exact vb_gp | exact vb_new (fun _ _ => vb_val)
theorem vb_x_extract (x : Value) (i : Nat) (s : XS)  : vb (x_extract x i s) := by
  unfold x_extract
  repeat' split
  all_goals first | exact vb_val | exact vb_bad | exact vb_optV | exact vb_gp | exact vb_new (fun _ _ => vb_val)
theorem vb_x_len (P : Program) (B : Ban) (t : TypeId) (x : Value) (o : Oper) (tm : T4 Value) (s : XS)  : vb (x_len P B t x o tm s) := by
  unfold x_len
  repeat' split
  all_goals first | exact vb_val | exact vb_bad | exact vb_optV | exact vb_gp | exact vb_new (fun _ _ => vb_val)
theorem vb_x_cap (P : Program) (B : Ban) (t : TypeId) (x : Value) (s : XS)  : vb (x_cap P B t x s) := by
  unfold x_cap
  repeat' split
  all_goals first | exact vb_val | exact vb_bad | exact vb_optV | exact vb_gp | exact vb_new (fun _ _ => vb_val)
theorem vb_x_appz (P : Program) (e : TypeId) (y : Value) (a : Option Addr) (n c : Nat) (i : TypeInfo) (s : XS)  : vb (x_appz P e y a n c i s) := by
  unfold x_appz
  repeat' split
  all_goals first | exact vb_val | exact vb_bad | exact vb_optV | exact vb_gp | exact vb_new (fun _ _ => vb_val)
theorem vb_x_grow (B : Ban) (lo : Nat) (e : TypeId) (a : Option Addr) (n m k : Nat) (l : List Value) (s : XS)  : vb (x_grow B lo e a n m k l s) := by
  unfold x_grow
  repeat' split
  all_goals first | exact vb_val | exact vb_bad | exact vb_optV | exact vb_gp | exact vb_new (fun _ _ => vb_val)
theorem vb_x_copy2 (B : Ban) (lo : Nat) (k : Nat) (a : Option Addr) (j : Nat) (src : Option (List Value)) (s : XS)  : vb (x_copy2 B lo k a j src s) := by
  unfold x_copy2
  repeat' split
  all_goals first | exact vb_val | exact vb_bad | exact vb_optV | exact vb_gp | exact vb_new (fun _ _ => vb_val)
theorem vb_x_copy (P : Program) (B : Ban) (lo : Nat) (t : TypeId) (x y : Value) (s : XS)  : vb (x_copy P B lo t x y s) := by
  unfold x_copy
  repeat' split
  all_goals first | exact vb_val | exact vb_bad | exact vb_optV | exact vb_gp | exact vb_new (fun _ _ => vb_val) | exact vb_x_copy2 ..
theorem vb_x_clear (P : Program) (B : Ban) (lo : Nat) (t : TypeId) (x : Value) (s : XS)  : vb (x_clear P B lo t x s) := by
  unfold x_clear
  repeat' split
  all_goals first | exact vb_val | exact vb_bad | exact vb_optV | exact vb_gp | exact vb_new (fun _ _ => vb_val)
theorem vb_x_sslice (P : Program) (T : TypeId) (e : Nat) (c : List Value) (off n : Nat) (lo hi mx : Option Value) (s : XS) : vb (x_sslice P T e c off n lo hi mx s) := by
  unfold x_sslice
  repeat' split
  all_goals first | exact vb_val | exact vb_bad
theorem vb_x_sapp (P : Program) (B : Ban) (e : TypeId) (k : Nat) (i : TypeInfo) (x : Value) (c : List Value) (off n : Nat) (l : List Value) (m : Nat) (s : XS) : vb (x_sapp P B e k i x c off n l m s) := by
  unfold x_sapp
  repeat' split
  all_goals first | exact vb_val | exact vb_bad | exact vb_new (fun _ _ => vb_val)
theorem vb_x_slice (P : Program) (B : Ban) (T : TypeId) (x : Value) (lo hi mx : Option Value) (o : Oper) (tm : T4 Value) (s : XS)  : vb (x_slice P B T x lo hi mx o tm s) := by
  unfold x_slice
  repeat' split
  all_goals first | exact vb_val | exact vb_bad | exact vb_optV | exact vb_gp | exact vb_x_sslice .. | exact vb_new (fun _ _ => vb_val)
theorem vb_x_makeSlice (P : Program) (T : TypeId) (l c : Value) (s : XS)  : vb (x_makeSlice P T l c s) := by
  unfold x_makeSlice
  repeat' split
  all_goals first | exact vb_val | exact vb_bad | exact vb_optV | exact vb_gp | exact vb_new (fun _ _ => vb_val)
theorem vb_x_uconv (P : Program) (B : Ban) (S T : TypeId) (n off : Nat) (s : XS) : vb (x_uconv P B S T n off s) := by
  unfold x_uconv
  repeat' split
  all_goals first | exact vb_val | exact vb_bad
theorem vb_x_conv (P : Program) (B : Ban) (S T : TypeId) (v : Value) (o : Oper) (tm : T4 Value) (s : XS)  : vb (x_conv P B S T v o tm s) := by
  unfold x_conv
  repeat' split
  all_goals first | exact vb_val | exact vb_bad | exact vb_optV | exact vb_gp | exact vb_new (fun _ _ => vb_val) | exact vb_x_uconv ..
theorem vb_x_pick (c a b : Value) (s : XS)  : vb (x_pick c a b s) := by
  unfold x_pick
  repeat' split
  all_goals first | exact vb_val | exact vb_bad | exact vb_optV | exact vb_gp | exact vb_new (fun _ _ => vb_val)
theorem vb_x_alloc (P : Program) (T : TypeId) (s : XS)  : vb (x_alloc P T s) := by
  unfold x_alloc
  repeat' split
  all_goals first | exact vb_val | exact vb_bad | exact vb_optV | exact vb_gp | exact vb_new (fun _ _ => vb_val)
theorem vb_x_box (T : TypeId) (v : Value) (s : XS)  : vb (x_box T v s) := by
  unfold x_box
  repeat' split
  all_goals first | exact vb_val | exact vb_bad | exact vb_optV | exact vb_gp | exact vb_new (fun _ _ => vb_val)
theorem vb_eqR {b : Bool} {x : Option Bool} : vb (eqR b x s) := by
  cases x
  · exact vb_bad
  · exact vb_val
theorem vb_x_bin (P : Program) (op : BinOp) (T : TypeId) (x y : Operand) (vx vy : Value) (o : Oper) (tm : T4 Value) (s : XS)  : vb (x_bin P op T x y vx vy o tm s) := by
  unfold x_bin
  repeat' split
  all_goals first | exact vb_val | exact vb_bad | exact vb_optV | exact vb_gp | exact vb_new (fun _ _ => vb_val) | exact vb_eqR
theorem vb_x_append (P : Program) (B : Ban) (lo : Nat) (t t2 : TypeId) (x y : Value) (s : XS) : vb (x_append P B lo t t2 x y s) := by
  unfold x_append
  repeat' split
  all_goals first | exact vb_val | exact vb_bad | exact vb_x_appz .. | exact vb_x_grow .. | exact vb_x_sapp ..
theorem vb_x_usd (x : Value) (s : XS) : vb (x_usd x s) := by
  unfold x_usd
  repeat' split
  all_goals first | exact vb_val | exact vb_bad
theorem vb_x_ustr (P : Program) (B : Ban) (lo : Nat) (t : TypeId) (x y : Value) (s : XS) : vb (x_ustr P B lo t x y s) := by
  unfold x_ustr
  repeat' split
  all_goals first | exact vb_val | exact vb_bad
theorem vb_x_builtin (P : Program) (B : Ban) (lo : Nat) (b : Builtin) (ts : List TypeId) (l : List Value) (o : Oper) (tm : T4 Value) (s : XS) : vb (x_builtin P B lo b ts l o tm s) := by
  unfold x_builtin
  repeat' split
  all_goals first | exact vb_bad | exact vb_gp | exact vb_x_len .. | exact vb_x_cap .. | exact vb_x_append .. | exact vb_x_copy .. | exact vb_x_clear .. | exact vb_x_usd .. | exact vb_x_ustr ..
theorem s_builtin {c : Call} {b : Builtin} (e : o.op = .call c) (hc : c.callee = .builtin b) (h : x_builtin P B lo b c.argTypes.toList (X.map (ev tm) c.args.toList) o tm s = .val v s') : OpV P B lo o tm s v s' := by
  unfold x_builtin at h
  split at h
  · split at h
    · rename_i ht ha; exact s_len e hc ha ht h
    · simp at h
  · split at h
    · rename_i ht ha; exact s_cap e hc ha ht h
    · simp at h
  · split at h
    · rename_i ht ha; exact s_append e hc ha ht h
    · simp at h
  · split at h
    · rename_i ht ha; exact s_copy e hc ha ht h
    · simp at h
  · split at h
    · rename_i ht ha; exact s_clear e hc ha ht h
    · simp at h
  · exact gp_val (by rw [e]; simp) h
  · exact gp_val (by rw [e]; simp) h
  · split at h
    · rename_i ha; exact s_usd e hc ha h
    · simp at h
  · split at h
    · rename_i ht ha; exact s_ustr e hc ha ht h
    · simp at h
  · simp at h
theorem opx2_snd : Snd P B lo o tm s (opx2 P B lo o tm s) := by
  unfold opx2
  cases e : o.op
  case convert S T x => exact snd_val (vb_x_conv ..) fun v s' h => s_conv e h
  case makeInterface T x =>
    refine snd_val ?_ fun v s' h => s_iface e (by unfold opx2; rw [e]; exact h)
    unfold opx2d; dsimp only; split <;> first | exact vb_val | exact vb_bad
  case makeFunc fn x y =>
    refine snd_val ?_ fun v s' h => s_mkf e (by unfold opx2; rw [e]; exact h)
    unfold opx2d; dsimp only; split <;> first | exact vb_val | exact vb_bad
  case makeMap T r =>
    refine snd_val ?_ fun v s' h => s_mkm e (by unfold opx2; rw [e]; exact h)
    unfold opx2d; dsimp only; split <;> first | exact vb_bad | exact vb_new (fun _ _ => vb_val)
  case makeSlice T l c => exact snd_val (vb_x_makeSlice ..) fun v s' h => s_mks e h
  case slice T x l hi m => exact snd_val (vb_x_slice ..) fun v s' h => s_slice e h
  case field T x f => exact snd_val (vb_x_field ..) fun v s' h => s_field e h
  case index T x i => exact snd_val (vb_x_index ..) fun v s' h => s_index e h
  case lookup T x k ok => exact snd_val (vb_x_lookup ..) fun v s' h => s_lookup e h
  case mapUpdate T x k u => exact snd_val (vb_x_mapUpdate ..) fun v s' h => s_mapUpdate (.inl e) h
  case insert T x k u => exact snd_val (vb_x_mapUpdate ..) fun v s' h => s_mapUpdate (.inr e) h
  case build T ps => exact snd_val (vb_x_build ..) fun v s' h => s_build e h
  case buildSlice T n ps => exact snd_val (vb_x_buildSlice ..) fun v s' h => s_buildSlice e h
  case unOp op T x => exact snd_val vb_gp fun v s' h => gp_val (by rw [e]; simp) h
  case range T x =>
    refine snd_val ?_ fun v s' h => s_range e h
    show vb (x_range P T (ev tm x) s)
    unfold x_range; repeat' split
    all_goals first | exact vb_bad | exact vb_new (fun _ _ => vb_val)
  case next x is =>
    refine snd_val ?_ fun v s' h => s_next e h
    show vb (x_next B lo is (ev tm x) s)
    unfold x_next; repeat' split
    all_goals first | exact vb_val | exact vb_bad
  case typeAssert x t a ok => exact snd_val vb_gp fun v s' h => gp_val (by rw [e]; simp) h
  case defer c =>
    show Snd P B lo o tm s (x_defer c tm)
    cases hd : x_defer c tm
    case dfr d => exact ⟨⟨c, e⟩, s_defer e hd⟩
    case bad w => trivial
    all_goals
      exfalso
      unfold x_defer at hd
      split at hd
      · split at hd <;> simp at hd
      · simp at hd
  all_goals trivial
theorem opx_snd : Snd P B lo o tm s (opx P B lo o tm s) := by
  unfold opx
  cases e : o.op
  case move x => exact s_move (.inl e)
  case assign x => exact s_move (.inr e)
  case pick c x y => exact snd_val (vb_x_pick ..) fun v s' h => s_pick e h
  case alloc T => exact snd_val (vb_x_alloc ..) fun v s' h => s_alloc e h
  case box T x => exact snd_val (vb_x_box ..) fun v s' h => s_box e h
  case load T x => exact snd_val (vb_x_load ..) fun v s' h => s_load e h
  case store T x y => exact snd_val (vb_x_store ..) fun v s' h => s_store e h
  case nilCheck x => exact snd_val (vb_x_nil ..) fun v s' h => s_nil e h
  case binOp op T x y b => exact snd_val (vb_x_bin ..) fun v s' h => s_bin e h
  case fieldAddr T x f => exact snd_val (vb_x_fld ..) fun v s' h => s_fld e h
  case indexAddr T x i => exact snd_val (vb_x_ia ..) fun v s' h => s_ia e h
  case extract x i => exact snd_val (vb_x_extract ..) fun v s' h => s_extract e h
  case call c =>
    show Snd P B lo o tm s (x_call P B lo c o tm s)
    unfold x_call
    split
    · rename_i f hc
      split
      · rename_i g a0 b0 hf
        obtain ⟨h1, h2, h3⟩ := s_callf (B := B) (lo := lo) e hc hf rfl
        cases hr : x_callf P g (app a0.toList (app (X.map (ev tm) c.args.toList) b0.toList)) o tm s
        case val v s' => exact h1 _ _ hr
        case call f args => exact h2 _ _ hr
        case dfr d => exact absurd hr (h3 d)
        case bad w => trivial
      · trivial
    · rename_i b hc
      exact snd_val (vb_x_builtin ..) fun v s' h => s_builtin e hc h
    · trivial
  all_goals exact opx2_snd
end
end Go.X
end
section
set_option linter.unusedVariables false
namespace Go.X
open Go Go.RowKit
section
variable {P : Program} {B : Ban} {lo : Nat} {o : Oper} {tm : T4 Value} {s s' : XS} {v : Value} {M M' : Cx} {n : Nat} {f f' : Fr} {a : Act} {w : World}
inductive DRL (M : Cx) : List Deferred → List Deferred → Prop
  | nil : DRL M [] []
  | cons {d d' : Deferred} {l l' : List Deferred} : DR M d d' → DRL M l l' → DRL M (d :: l) (d' :: l')
theorem DR.mono (h : Ext M M') {d d' : Deferred} (k : DR M d d') : DR M' d d' := by
  obtain ⟨g, c, c', h1, h2, h3, h4⟩ := k
  exact ⟨g, c, c', h1, h2, h3.mono h, h4.mono h⟩
theorem DRL.mono (h : Ext M M') : ∀ {l l' : List Deferred}, DRL M l l' → DRL M' l l'
  | _, _, .nil => .nil
  | _, _, .cons d l => .cons (d.mono h) (DRL.mono h l)
/-- A frame by names, and in truth. -/
structure AR (M : Cx) (n : Nat) (f : Fr) (a : Act) : Prop where
  size : a.tmps.size = n
  tm : ∀ t, t < n → VR M (ev f.tm (.tmp t)) (a.eval (.tmp t))
  df : DRL M f.df a.defers
theorem AR.mono (h : Ext M M') (k : AR M n f a) : AR M' n f a := ⟨k.size, fun t ht => (k.tm t ht).mono h, k.df.mono h⟩
theorem ev_tmp (tm : T4 Value) (t : Nat) : ev tm (.tmp t) = (T4.get (dg 10 t) tm).getD jnk := by
  have : ev tm (.tmp t) = Option.rec jnk (fun v => v) (T4.get (dg 10 t) tm) := rfl
  rw [this]
  cases T4.get (dg 10 t) tm <;> rfl
theorem ev_put {d t : Nat} (hd : d < tops) (ht : t < tops) : ev (T4.put (some v) (dg 10 d) tm) (.tmp t) = if t = d then v else ev tm (.tmp t) := by
  rw [ev_tmp, ev_tmp]
  by_cases h : t = d
  · subst h; rw [if_pos rfl, get_put_same]; rfl
  · rw [if_neg h, get_put_ne _ _ _ _ fun e => h ((dg_ne hd ht).1 e).symm]
theorem eval_put {a : Act} {d : Option Nat} {v : Value} {t : Nat} (ht : t < a.tmps.size) : (a.put d v).eval (.tmp t) = if d = some t then v else a.eval (.tmp t) := by
  cases d with
  | none => rfl
  | some d =>
    simp only [Act.put, Act.eval, Array.getD_eq_getD_getElem?, Array.getElem?_setIfInBounds]
    by_cases h : d = t
    · subst h; simp [ht]
    · simp [h]
theorem put_size (a : Act) (d : Option Nat) (v : Value) : (a.put d v).tmps.size = a.tmps.size := by
  cases d <;> simp [Act.put]
theorem put_defers (a : Act) (d : Option Nat) (v : Value) : (a.put d v).defers = a.defers := by
  cases d <;> rfl
theorem dstF_eq (d : Option Nat) (v : Value) (f : Fr) : dstF d v f = match d with | some d => ⟨T4.put (some v) (dg 10 d) f.tm, f.df⟩ | none => f := by
  cases d <;> rfl
theorem dstF_ev {d : Option Nat} {t : Nat} (hn : n ≤ 1024) (hd : ∀ x, d = some x → x < n) (ht : t < n) : ev (dstF d v f).tm (.tmp t) = if d = some t then v else ev f.tm (.tmp t) := by
  rw [dstF_eq]
  cases d with
  | none => rfl
  | some d =>
    have := hd d rfl
    have h1 : d < tops := by unfold tops; omega
    have h2 : t < tops := by unfold tops; omega
    show ev (T4.put (some v) (dg 10 d) f.tm) (.tmp t) = _
    rw [ev_put h1 h2]
    by_cases h : t = d
    · subst h; simp
    · have : ¬ some d = some t := fun e => h (by simpa using e.symm)
      rw [if_neg h, if_neg this]
theorem dstF_df (d : Option Nat) (v : Value) (f : Fr) : (dstF d v f).df = f.df := by rw [dstF_eq]; cases d <;> rfl
theorem AR.put {d : Option Nat} {v v' : Value} (hn : n ≤ 1024) (hd : ∀ x, d = some x → x < n) (k : AR M n f a) (hv : VR M v v') : AR M n (dstF d v f) (a.put d v') where
  size := by rw [put_size]; exact k.size
  tm t ht := by
    rw [dstF_ev hn hd ht, eval_put (by rw [k.size]; exact ht)]
    by_cases h : d = some t
    · rw [if_pos h, if_pos h]; exact hv
    · rw [if_neg h, if_neg h]; exact k.tm t ht
  df := by rw [dstF_df, put_defers]; exact k.df
theorem blt_lt {a b : Nat} (h : Nat.blt a b = true) : a < b := Nat.le_of_ble_eq_true h
theorem opT_dst {g : Nat} (h : opT n g o = true) : ∀ x, o.dst = some x → x < n := by
  intro x hx
  unfold opT at h
  rw [Bool.and_eq_true] at h
  rw [hx] at h
  exact blt_lt h.1
/-- An operand, in truth. -/
theorem opd_VR {h : Hp} {x : Operand} {g : Nat} (hx : opdT n g x = true) (hg : g = P.globals.size) (hw : WR P M h w) (ht : ∀ t, x = .tmp t → VR M (ev tm (.tmp t)) (a.eval (.tmp t))) : VR M (ev tm x) (a.eval x) := by
  cases x with
  | tmp t => exact ht t rfl
  | const v => exact nad_VR hx
  | global g' =>
    have := hw.glob g' (by rw [← hg]; exact blt_lt hx)
    have := VR.ptr (M := M) (n := g') (L := ⟨g', 0, none⟩) 0 this
    exact this
  | func f => exact .func f .nil .nil
theorem opT_VR {h : Hp} {g : Nat} (ho : opT n g o = true) (hg : g = P.globals.size) (hw : WR P M h w) (ht : ∀ t, Operand.tmp t ∈ o.op.operands.toList → VR M (ev tm (.tmp t)) (a.eval (.tmp t))) : ∀ x ∈ o.op.operands.toList, VR M (ev tm x) (a.eval x) := by
  intro x hx
  unfold opT at ho
  rw [Bool.and_eq_true] at ho
  have h1 := List.all_eq_true.1 ho.2 x hx
  exact opd_VR h1 hg hw fun t e => ht t (e ▸ hx)
theorem want_eq (all : Array Oper) (g : Option (Nat × Bool)) (tm : T4 Value) : want all g tm = match g with
    | none => true
    | some (j, b) => match all.toList[j]? with
      | some o => match o.dst with
        | some t => wantB b (ev tm (.tmp t))
        | none => false
      | none => false := by
  have e : want all g tm = Option.rec true (fun g => Option.rec false (fun o => Option.rec false (fun t => wantB g.2 (ev tm (.tmp t))) o.dst) (nth all.toList g.1)) g := rfl
  rw [e]
  cases g with
  | none => rfl
  | some g =>
    obtain ⟨j, b⟩ := g
    simp only [nth_eq]
    cases all.toList[j]? with
    | none => rfl
    | some o => simp only []; cases o.dst <;> rfl
/-- The operation that a guard asks. -/
def gTmp (all : Array Oper) (o : Oper) (t : Nat) : Prop := ∃ j b q, o.guard = some (j, b) ∧ all[j]? = some q ∧ q.dst = some t
theorem gjunk_eq (all : Array Oper) (g : Option (Nat × Bool)) (tm : T4 Value) : gjunk all g tm = match g with
    | none => false
    | some (j, b) => match all.toList[j]? with
      | some o => match o.dst with
        | some t => isJ (ev tm (.tmp t))
        | none => false
      | none => false := by
  have e : gjunk all g tm = Option.rec false (fun g => Option.rec false (fun o => Option.rec false (fun t => isJ (ev tm (.tmp t))) o.dst) (nth all.toList g.1)) g := rfl
  rw [e]
  cases g with
  | none => rfl
  | some g =>
    obtain ⟨j, b⟩ := g
    simp only [nth_eq]
    cases all.toList[j]? with
    | none => rfl
    | some o => simp only []; cases o.dst <;> rfl
theorem want_spec {all : Array Oper} (hj : gjunk all o.guard tm = false) (hs : ∀ t, gTmp all o t → t < a.tmps.size ∧ VR M (ev tm (.tmp t)) (a.eval (.tmp t))) : want all o.guard tm = Region.wanted o (yielded all a.tmps) := by
  rw [want_eq]
  rw [gjunk_eq] at hj
  unfold Region.wanted
  cases hg : o.guard with
  | none => rfl
  | some jb =>
    obtain ⟨j, b⟩ := jb
    rw [hg] at hj
    simp only [Array.getElem?_toList, yielded] at hj ⊢
    cases hq : all[j]? with
    | none => rfl
    | some q =>
      simp only [Option.bind_some]
      cases ht : q.dst with
      | none => rfl
      | some t =>
        obtain ⟨h1, h2⟩ := hs t ⟨j, b, q, hg, hq, ht⟩
        have he : a.eval (.tmp t) = a.tmps[t] := by simp [Act.eval, h1]
        rw [he] at h2
        simp only [Option.bind_some, Array.getElem?_eq_getElem h1]
        generalize a.tmps[t] = u at h2
        simp only [hq, ht] at hj
        generalize ev tm (.tmp t) = u0 at h2 hj
        cases h2 <;> first | rfl | (simp [isJ] at hj; done) | (rename_i x; cases b <;> cases x <;> rfl)
/-! What a task's answer says -/
def exOf : Ex → Exit
  | .normal => .normal
  | .exit i => .exit i
  | .goto l => .goto l
  | .ret => .ret
  | .pan v => .panic [{ v := v, recovered := false }]
/-- As code's wp; a loop comes to its end within so many rounds. -/
def wpx (P : Program) (N : Nat) (c : Code) (Q : Exit → Act → World → Prop) (a : Act) (w : World) : Prop := match c with
  | .loop x => Code.rounds P x Q N a w
  | c => c.wp P Q a w
theorem wpx_wp {N : Nat} {c : Code} {Q : Exit → Act → World → Prop} (h : wpx P N c Q a w) : c.wp P Q a w := by
  cases c with
  | loop x => exact wp_loop_rounds N h
  | _ => exact h
/-- Names that are to come are free. -/
def Fre (s : XS) : Prop := ∀ n, s.nx ≤ n → hget s n = none
def TS (P : Program) (N : Nat) (t : Tk) (B : Ban) (lo : Nat) (s : XS) (r : RR) : Prop := Fre s → match t with
  | .call g args => match r with
    | .ret v s' => SF B lo s s' ∧ ∀ (M : Cx) (args' : List Value) (w : World), VRL M args args' → WR P M (look B s) w → Fresh M s.nx s'.nx → Calls P g args'.toArray w fun e w' => ∃ v' M', e = .returned v' ∧ Post P M M' (look B s) (look B s') s.nx s'.nx w w' ∧ VR M' v v'
    | .code _ _ _ => False
    | .bad _ => True
  | .dcall g args => match r with
    | .ret v s' => (∃ q, body? P g = some q) ∧ SF B lo s s' ∧ ∀ (M : Cx) (args' : List Value) (w : World) (u : FrameMode), VRL M args args' → WR P M (look B s) w → Fresh M s.nx s'.nx → CallsD P g args'.toArray u w fun e u' w' => u' = u ∧ ∃ v' M', e = .returned v' ∧ Post P M M' (look B s) (look B s') s.nx s'.nx w w' ∧ VR M' v v'
    | .code _ _ _ => False
    | .bad _ => True
  | .code c f => match r with
    | .code e f' s' => SF B lo s s' ∧ ∀ (n : Nat) (M : Cx) (a : Act) (w : World) (Q : Exit → Act → World → Prop), codeT n P.globals.size c = true → n ≤ 1024 → AR M n f a → WR P M (look B s) w → Fresh M s.nx s'.nx →
        (∀ a' w' M', Post P M M' (look B s) (look B s') s.nx s'.nx w w' → AR M' n f' a' → Q (exOf e) a' w') → wpx P N c Q a w
    | .ret _ _ => False
    | .bad _ => True
def KS (P : Program) (N : Nat) (k : Tk → Ban → Nat → XS → RR) : Prop := ∀ t B lo s, TS P N t B lo s (k t B lo s)
theorem Fresh.le {lo hi lo' hi' : Nat} (h : Fresh M lo hi) (h1 : lo ≤ lo') (h2 : hi' ≤ hi) : Fresh M lo' hi' := fun n a b => h n (by omega) (by omega)
/-- Names that come later are free still. -/
theorem Post.fresh {h h' : Hp} {lo mi hi : Nat} {w w' : World} (k : Post P M M' h h' lo mi w w') (hf : Fresh M lo hi) (hm : lo ≤ mi) : Fresh M' mi hi := by
  intro n h1 h2
  cases hq : M' n with
  | none => rfl
  | some L =>
    have := k.new n (hf n (by omega) h2) (by rw [hq]; simp)
    omega
theorem r_op_eq (P : Program) (k : Tk → Ban → Nat → XS → RR) (all : Array Oper) (B : Ban) (lo : Nat) (o : Oper) (f : Fr) (s : XS) : r_op P k all B lo o f s = if gjunk all o.guard f.tm = true then .bad "guard" else if want all o.guard f.tm = true then r_or k B lo o f s (opx P B lo o f.tm s) else .ok (dstF o.dst undef f) s := by
  have e : r_op P k all B lo o f s = Bool.rec (Bool.rec (.ok (dstF o.dst undef f) s) (r_or k B lo o f s (opx P B lo o f.tm s)) (want all o.guard f.tm)) (.bad "guard") (gjunk all o.guard f.tm) := rfl
  rw [e]
  cases gjunk all o.guard f.tm <;> cases want all o.guard f.tm <;> rfl
theorem r_op_snd {k : Tk → Ban → Nat → XS → RR} {N : Nat} (hk : KS P N k) {all : Array Oper} (hfre : Fre s) (h : r_op P k all B lo o f s = .ok f' s') :
    ∃ v df', f' = dstF o.dst v ⟨f.tm, df'⟩ ∧ SF B lo s s' ∧ ((∀ c, o.op ≠ .defer c) → df' = f.df) ∧ ∀ (M : Cx) (a : Act) (w : World) (Q : Exit → Act → World → Prop) (K : Act → World → Prop) (i : Nat), all[i]? = some o →
      (∀ x ∈ o.op.operands.toList, VR M (ev f.tm x) (a.eval x)) → (∀ t, gTmp all o t → t < a.tmps.size ∧ VR M (ev f.tm (.tmp t)) (a.eval (.tmp t))) → DRL M f.df a.defers → WR P M (look B s) w → Fresh M s.nx s'.nx →
      (∀ v' dd' w' M', Post P M M' (look B s) (look B s') s.nx s'.nx w w' → VR M' v v' → DRL M' df' dd' → K (({ a with defers := dd' } : Act).put o.dst v') w') → wpOp P all Q i K a w := by
  rw [r_op_eq] at h
  split at h
  · simp at h
  rename_i hgj
  have hgj : gjunk all o.guard f.tm = false := by simpa using hgj
  split at h
  · rename_i hwant
    have hs := opx_snd (P := P) (B := B) (lo := lo) (o := o) (tm := f.tm) (s := s)
    generalize opx P B lo o f.tm s = r at h hs
    cases r with
    | val v s2 =>
      have h' : RO.ok (dstF o.dst v f) s2 = .ok f' s' := h
      simp at h'
      obtain ⟨rfl, rfl⟩ := h'
      obtain ⟨h1, h2⟩ := hs
      refine ⟨v, f.df, rfl, h1, fun _ => rfl, fun M a w Q K i hi hv hg hd hw hf hK => ?_⟩
      obtain ⟨r, v', w', M', g1, g2, g3, g4⟩ := h2 M a w hv hw hf
      unfold wpOp
      simp only [hi]
      rw [if_pos (by rw [← want_spec hgj hg]; exact hwant)]
      left
      unfold Oper.wp
      rw [g1]
      have := hK v' a.defers w' M' g3 g4 (hd.mono g3.ext)
      rcases g2 with rfl | ⟨rfl, rfl⟩ <;> exact this
    | call g args =>
      have h' : r_ret o.dst f (k (.call g args) B lo s) = .ok f' s' := h
      have hk' := hk (.call g args) B lo s hfre
      generalize k (.call g args) B lo s = r at h' hk'
      cases r with
      | ret v s2 =>
        have h' : RO.ok (dstF o.dst v f) s2 = .ok f' s' := h'
        simp at h'
        obtain ⟨rfl, rfl⟩ := h'
        obtain ⟨h1, h2⟩ := hk'
        refine ⟨v, f.df, rfl, h1, fun _ => rfl, fun M a w Q K i hi hv hg hd hw hf hK => ?_⟩
        obtain ⟨args', g1, g2⟩ := hs M a w hv
        unfold wpOp
        simp only [hi]
        rw [if_pos (by rw [← want_spec hgj hg]; exact hwant)]
        left
        unfold Oper.wp
        rw [g1]
        refine Calls.mono (h2 M args'.toList w g2 hw hf) fun e w' he => ?_
        obtain ⟨v', M', rfl, g3, g4⟩ := he
        exact hK v' a.defers w' M' g3 g4 (hd.mono g3.ext)
      | bad wh => exact absurd (show RO.bad wh = _ from h') (by simp)
      | code e f2 s2 => exact hk'.elim
    | dfr d =>
      have h' : RO.ok (dstF o.dst undef ⟨f.tm, d :: f.df⟩) s = .ok f' s' := h
      simp at h'
      obtain ⟨rfl, rfl⟩ := h'
      refine ⟨undef, d :: f.df, rfl, SF.refl B lo s, fun hc => ?_, fun M a w Q K i hi hv hg hd hw hf hK => ?_⟩
      · exfalso
        obtain ⟨⟨c, hd⟩, _⟩ := hs
        exact hc c hd
      obtain ⟨d', g1, g2⟩ := hs.2 M a w hv
      unfold wpOp
      simp only [hi]
      rw [if_pos (by rw [← want_spec hgj hg]; exact hwant)]
      left
      unfold Oper.wp
      rw [g1]
      exact hK undef (d' :: a.defers) w M (Post.refl _ _ hw) (.tup .nil) (.cons g2 hd)
    | bad wh => exact absurd (show RO.bad wh = _ from h) (by simp)
  · rename_i hwant
    simp at h
    obtain ⟨rfl, rfl⟩ := h
    refine ⟨undef, f.df, rfl, SF.refl B lo s, fun _ => rfl, fun M a w Q K i hi hv hg hd hw hf hK => ?_⟩
    unfold wpOp
    simp only [hi]
    rw [if_neg (by rw [← want_spec hgj hg]; exact hwant)]
    exact hK undef a.defers w M (Post.refl _ _ hw) (.tup .nil) hd
end
end Go.X
end
section
set_option linter.unusedVariables false
namespace Go.X
open Go Go.RowKit
section
variable {P : Program} {B : Ban} {lo : Nat} {s s' : XS} {v : Value} {M M' : Cx} {n : Nat} {f f' : Fr} {a : Act} {w : World} {k : Tk → Ban → Nat → XS → RR}
theorem gTmp_AR {ops : Array Oper} {g : Nat} (ho : ops.toList.all (opT n g) = true) (hA : AR M n f a) {o : Oper} {t : Nat} (h : gTmp ops o t) : t < a.tmps.size ∧ VR M (ev f.tm (.tmp t)) (a.eval (.tmp t)) := by
  obtain ⟨j, b, q, h1, h2, h3⟩ := h
  have hq : q ∈ ops.toList := by
    have : ops.toList[j]? = some q := by simpa using h2
    exact List.mem_of_getElem? this
  have := opT_dst (List.all_eq_true.1 ho q hq) t h3
  exact ⟨by rw [hA.size]; exact this, hA.tm t this⟩
theorem opT_mem {ops : Array Oper} {g j : Nat} {o : Oper} (ho : ops.toList.all (opT n g) = true) (hj : ops[j]? = some o) : opT n g o = true := by
  have : ops.toList[j]? = some o := by simpa using hj
  exact List.all_eq_true.1 ho o (List.mem_of_getElem? this)
theorem opT_ops {g : Nat} {o : Oper} (h : opT n g o = true) : ∀ t, Operand.tmp t ∈ o.op.operands.toList → t < n := by
  intro t ht
  unfold opT at h
  rw [Bool.and_eq_true] at h
  exact blt_lt (List.all_eq_true.1 h.2 _ ht)
theorem r_next_ok {g : Fr → XS → RR} {r : RO} {e : Ex} (h : r_next g r = .code e f' s') : ∃ f1 s1, r = .ok f1 s1 ∧ g f1 s1 = .code e f' s' := by
  cases r with
  | ok f1 s1 => exact ⟨f1, s1, rfl, h⟩
  | bad w => exact absurd (show RR.bad w = _ from h) (by simp)
theorem r_ops_snd {N : Nat} (hk : KS P N k) {ops : Array Oper} : ∀ (l : List Oper) (j : Nat) (f : Fr) (s : XS) (e : Ex) (f' : Fr) (s' : XS), Fre s → ops.toList.drop j = l → r_ops P k ops B lo l f s = .code e f' s' →
    e = .normal ∧ SF B lo s s' ∧ ∀ (n : Nat) (M : Cx) (a : Act) (w : World) (Q : Exit → Act → World → Prop), ops.toList.all (opT n P.globals.size) = true → n ≤ 1024 → AR M n f a → WR P M (look B s) w → Fresh M s.nx s'.nx →
      (∀ a' w' M', Post P M M' (look B s) (look B s') s.nx s'.nx w w' → AR M' n f' a' → Q .normal a' w') → wpOps P ops Q (List.range' j l.length) a w
  | [], j, f, s, e, f', s', hfr, hl, h => by
    have h' : RR.code .normal f s = .code e f' s' := h
    simp at h'
    obtain ⟨rfl, rfl, rfl⟩ := h'
    exact ⟨rfl, SF.refl B lo s, fun n M a w Q ho hn hA hw hf hQ => hQ a w M (Post.refl _ _ hw) hA⟩
  | o :: l, j, f, s, e, f', s', hfr, hl, h => by
    have h' : r_next (r_ops P k ops B lo l) (r_op P k ops B lo o f s) = .code e f' s' := h
    obtain ⟨f1, s1, h1, h2⟩ := r_next_ok h'
    have hj : ops[j]? = some o := by
      have := congrArg (·[0]?) hl
      simpa using this
    have hl' : ops.toList.drop (j + 1) = l := by
      have := congrArg List.tail hl
      simpa using this
    obtain ⟨v, df', rfl, g1, _, g2⟩ := r_op_snd hk hfr h1
    obtain ⟨q1, q2, q3⟩ := r_ops_snd hk l (j + 1) _ s1 e f' s' (g1.fre hfr) hl' h2
    refine ⟨q1, g1.trans q2, fun n M a w Q ho hn hA hw hf hQ => ?_⟩
    rw [List.length_cons, List.range'_succ, wpOps_cons]
    have hoT := opT_mem ho hj
    refine g2 M a w Q _ j hj (opT_VR hoT rfl hw fun t ht => hA.tm t (opT_ops hoT t ht)) (fun t ht => gTmp_AR ho hA ht) hA.df hw (hf.le (Nat.le_refl _) q2.nx) fun v' dd' w' M' hp hv' hd' => ?_
    have hA' : AR M' n ⟨f.tm, df'⟩ { a with defers := dd' } := ⟨hA.size, fun t ht => (hA.tm t ht).mono hp.ext, hd'⟩
    refine q3 n M' _ w' Q ho hn (hA'.put hn (opT_dst hoT) hv') hp.wr (hp.fresh hf g1.nx) fun a' w2 M2 hp2 hA2 => ?_
    exact hQ a' w2 M2 (hp.trans g1.nx q2.nx hp2) hA2
theorem r_ops_ret (ops : Array Oper) : ∀ (l : List Oper) (f : Fr) (s : XS) (v : Value) (s' : XS), r_ops P k ops B lo l f s ≠ .ret v s'
  | [], f, s, v, s', h => absurd (show RR.code .normal f s = _ from h) (by simp)
  | o :: l, f, s, v, s', h => by
    have h' : r_next (r_ops P k ops B lo l) (r_op P k ops B lo o f s) = .ret v s' := h
    cases hr : r_op P k ops B lo o f s with
    | ok f1 s1 => rw [hr] at h'; exact r_ops_ret ops l f1 s1 v s' h'
    | bad w => rw [hr] at h'; exact absurd (show RR.bad w = _ from h') (by simp)
/-! Control, but for regions that draw -/
/-- What a region's answer says. -/
def RegS (P : Program) (k : Tk → Ban → Nat → XS → RR) : Prop := ∀ N id ops d f B lo s, TS P N (.code (.region id ops d) f) B lo s (r_reg P k ops d f B lo s)
theorem r_seq_eq (k : Tk → Ban → Nat → XS → RR) (B : Ban) (lo : Nat) (y : Code) (r : RR) : r_seq k B lo y r = match r with
    | .code .normal f s => k (.code y f) B lo s
    | r => r := by
  cases r with
  | code e f s => cases e <;> rfl
  | _ => rfl
/-- One piece of code and then another, or the first one's leaving. -/
theorem seq_snd {N : Nat} {x y z : Code} (hk : KS P N k) (hz : ∀ n g, codeT n g z = true → codeT n g x = true ∧ codeT n g y = true) (hwp : ∀ Q a w, x.wp P (Exit.then (wpx P N y Q) Q) a w → wpx P (N + 1) z Q a w) : TS P (N + 1) (.code z f) B lo s (r_seq k B lo y (k (.code x f) B lo s)) := by
  rw [r_seq_eq]
  intro hfr
  have h1 := hk (.code x f) B lo s hfr
  generalize k (.code x f) B lo s = r at h1
  cases r with
  | ret v s' => exact h1.elim
  | bad w => trivial
  | code e f1 s1 =>
    obtain ⟨g1, g2⟩ := h1
    have leave : ∀ e, (∀ (Q : Exit → Act → World → Prop) a w, Exit.then (wpx P N y Q) Q (exOf e) a w = Q (exOf e) a w) → SF B lo s s1 ∧ (∀ (n : Nat) (M : Cx) (a : Act) (w : World) (Q : Exit → Act → World → Prop), codeT n P.globals.size x = true → n ≤ 1024 → AR M n f a → WR P M (look B s) w → Fresh M s.nx s1.nx →
        (∀ a' w' M', Post P M M' (look B s) (look B s1) s.nx s1.nx w w' → AR M' n f1 a' → Q (exOf e) a' w') → wpx P N x Q a w) → TS P (N + 1) (.code z f) B lo s (.code e f1 s1) := by
      intro e he hh _
      refine ⟨hh.1, fun n M a w Q hc hn hA hw hf hQ => hwp Q a w (wpx_wp (N := N) ?_)⟩
      exact hh.2 n M a w _ (hz _ _ hc).1 hn hA hw hf fun a' w' M' hp hA' => by rw [he]; exact hQ a' w' M' hp hA'
    cases e with
    | normal =>
      have h2 := hk (.code y f1) B lo s1 (g1.fre hfr)
      suffices h : TS P (N + 1) (.code z f) B lo s (k (.code y f1) B lo s1) from h hfr
      intro _
      generalize k (.code y f1) B lo s1 = r at h2
      cases r with
      | ret v s' => exact h2.elim
      | bad w => trivial
      | code e f2 s2 =>
        obtain ⟨q1, q2⟩ := h2
        refine ⟨g1.trans q1, fun n M a w Q hc hn hA hw hf hQ => hwp Q a w (wpx_wp (N := N) ?_)⟩
        refine g2 n M a w _ (hz _ _ hc).1 hn hA hw (hf.le (Nat.le_refl _) q1.nx) fun a' w' M' hp hA' => ?_
        exact q2 n M' a' w' Q (hz _ _ hc).2 hn hA' hp.wr (hp.fresh hf g1.nx) fun a2 w2 M2 hp2 hA2 => hQ a2 w2 M2 (hp.trans g1.nx q1.nx hp2) hA2
    | exit i => exact leave (.exit i) (fun _ _ _ => rfl) ⟨g1, g2⟩ hfr
    | goto l => exact leave (.goto l) (fun _ _ _ => rfl) ⟨g1, g2⟩ hfr
    | ret => exact leave .ret (fun _ _ _ => rfl) ⟨g1, g2⟩ hfr
    | pan v => exact leave (.pan v) (fun _ _ _ => rfl) ⟨g1, g2⟩ hfr
theorem wp_scope_ng {x : Code} {Q : Exit → Act → World → Prop} (h : x.wp P (fun e a w => (∀ l, e ≠ .goto l) ∧ Q e a w) a w) : (Code.scope x).wp P Q a w := by
  intro b k cs
  obtain ⟨e, a₁, w₁, ⟨hl, hq⟩, harr⟩ := h b (.inScope x :: k) cs
  cases e with
  | normal => exact ⟨.normal, a₁, w₁, hq, .head step_scope (Steps.trans harr (.one step_inScope))⟩
  | exit id => exact ⟨.exit id, a₁, w₁, hq, fun k' hk => .head step_scope (harr k' (by simp [exitTo, hk]))⟩
  | goto l' => exact absurd rfl (hl l')
  | ret => exact ⟨_, a₁, w₁, hq, .of_steps (.one step_scope) harr⟩
  | panic ch => exact ⟨_, a₁, w₁, hq, .of_steps (.one step_scope) harr⟩
  | outgrown => exact ⟨_, a₁, w₁, hq, .of_steps (.one step_scope) harr⟩
theorem r_code_snd {N : Nat} (hk : KS P N k) (hreg : RegS P k) (c : Code) (f : Fr) : TS P (N + 1) (.code c f) B lo s (r_code P k c f B lo s) := by
  intro hfr
  cases c with
  | skip => exact ⟨SF.refl B lo s, fun n M a w Q hc hn hA hw hf hQ => wp_skip (hQ a w M (Post.refl _ _ hw) hA)⟩
  | label l => exact ⟨SF.refl B lo s, fun n M a w Q hc hn hA hw hf hQ => wp_label (hQ a w M (Post.refl _ _ hw) hA)⟩
  | exit i => exact ⟨SF.refl B lo s, fun n M a w Q hc hn hA hw hf hQ => wp_exit (hQ a w M (Post.refl _ _ hw) hA)⟩
  | goto l => exact ⟨SF.refl B lo s, fun n M a w Q hc hn hA hw hf hQ => wp_goto (hQ a w M (Post.refl _ _ hw) hA)⟩
  | ret => exact ⟨SF.refl B lo s, fun n M a w Q hc hn hA hw hf hQ => wp_ret (hQ a w M (Post.refl _ _ hw) hA)⟩
  | region id ops d => exact hreg (N + 1) id ops d f B lo s hfr
  | seq x y => exact seq_snd hk (fun n g h => by simpa [codeT] using h) (fun Q a w h => wp_seq (wp_mono h fun e a w hq => by
      cases e <;> first | exact wpx_wp hq | exact hq)) hfr
  | loop x => exact seq_snd hk (fun n g h => by simpa [codeT] using h) (fun Q a w h => h) hfr
  | block id x =>
    suffices h : TS P (N + 1) (.code (.block id x) f) B lo s (r_blk id (k (.code x f) B lo s)) from h hfr
    have h1 := hk (.code x f) B lo s hfr
    generalize k (.code x f) B lo s = r at h1
    cases r with
    | ret v s' => exact h1.elim
    | bad w => exact fun _ => trivial
    | code e f1 s1 =>
      obtain ⟨g1, g2⟩ := h1
      have leave : ∀ e2, (∀ (Q : Exit → Act → World → Prop) a w, Q (exOf e2) a w → Exit.inBlock id Q (exOf e) a w) → TS P (N + 1) (.code (.block id x) f) B lo s (.code e2 f1 s1) := by
        intro e2 he _
        refine ⟨g1, fun n M a w Q hc hn hA hw hf hQ => wp_block (wpx_wp (N := N) ?_)⟩
        exact g2 n M a w _ (by simpa [codeT] using hc) hn hA hw hf fun a' w' M' hp hA' => he _ _ _ (hQ a' w' M' hp hA')
      cases e with
      | normal => exact leave .normal fun _ _ _ h => h
      | goto l => exact leave (.goto l) fun _ _ _ h => h
      | ret => exact leave .ret fun _ _ _ h => h
      | pan v => exact leave (.pan v) fun _ _ _ h => h
      | exit i =>
        show TS P _ _ B lo s (match Nat.beq i id with | true => .code .normal f1 s1 | false => .code (.exit i) f1 s1)
        cases hq : Nat.beq i id with
        | true =>
          have := Nat.eq_of_beq_eq_true hq
          subst this
          exact leave .normal fun Q a w h => by simpa [exOf, Exit.inBlock] using h
        | false =>
          have hne : i ≠ id := fun e => by subst e; simp at hq
          exact leave (.exit i) fun Q a w h => by simpa [exOf, Exit.inBlock, hne] using h
  | cond c x y =>
    suffices h : TS P (N + 1) (.code (.cond c x y) f) B lo s (r_cond k B lo (ev f.tm c) x y f s) from h hfr
    unfold r_cond
    split
    · rename_i b hb
      have main : ∀ b z, (if b = true then x else y) = z → ev f.tm c = .bool b → TS P (N + 1) (.code (.cond c x y) f) B lo s (k (.code z f) B lo s) := by
        intro b z hz hb _
        have h1 := hk (.code z f) B lo s hfr
        generalize k (.code z f) B lo s = r at h1
        cases r with
        | ret v s' => exact h1.elim
        | bad w => trivial
        | code e f1 s1 =>
          obtain ⟨g1, g2⟩ := h1
          refine ⟨g1, fun n M a w Q hc hn hA hw hf hQ => ?_⟩
          simp only [codeT, Bool.and_eq_true] at hc
          have hv := opd_VR (a := a) (tm := f.tm) hc.1 rfl hw fun t e => hA.tm t (by subst e; exact blt_lt hc.1)
          rw [hb] at hv
          have hv' : a.eval c = .bool b := by
            generalize a.eval c = u at hv
            cases hv; rfl
          refine wp_cond hv' (wpx_wp (N := N) ?_)
          rw [hz]
          exact g2 n M a w Q (by rw [← hz]; cases b; exact hc.2.2; exact hc.2.1) hn hA hw hf hQ
      cases b
      · exact main false y rfl hb
      · exact main true x rfl hb
    · exact fun _ => trivial
  | scope x =>
    suffices h : TS P (N + 1) (.code (.scope x) f) B lo s (r_scope (k (.code x f) B lo s)) from h hfr
    have h1 := hk (.code x f) B lo s hfr
    generalize k (.code x f) B lo s = r at h1
    cases r with
    | ret v s' => exact h1.elim
    | bad w => exact fun _ => trivial
    | code e f1 s1 =>
      obtain ⟨g1, g2⟩ := h1
      have leave : ∀ e, (∀ l, exOf e ≠ .goto l) → SF B lo s s1 ∧ (∀ (n : Nat) (M : Cx) (a : Act) (w : World) (Q : Exit → Act → World → Prop), codeT n P.globals.size x = true → n ≤ 1024 → AR M n f a → WR P M (look B s) w → Fresh M s.nx s1.nx →
          (∀ a' w' M', Post P M M' (look B s) (look B s1) s.nx s1.nx w w' → AR M' n f1 a' → Q (exOf e) a' w') → wpx P N x Q a w) → TS P (N + 1) (.code (.scope x) f) B lo s (.code e f1 s1) := by
        intro e he hh _
        refine ⟨hh.1, fun n M a w Q hc hn hA hw hf hQ => wp_scope_ng (wpx_wp (N := N) ?_)⟩
        exact hh.2 n M a w _ (by simpa [codeT] using hc) hn hA hw hf fun a' w' M' hp hA' => ⟨he, hQ a' w' M' hp hA'⟩
      cases e with
      | normal => exact leave .normal (by simp [exOf]) ⟨g1, g2⟩
      | exit i => exact leave (.exit i) (by simp [exOf]) ⟨g1, g2⟩
      | ret => exact leave .ret (by simp [exOf]) ⟨g1, g2⟩
      | pan v => exact leave (.pan v) (by simp [exOf]) ⟨g1, g2⟩
      | goto l => exact fun _ => trivial
  | _ => trivial
end
end Go.X
end
