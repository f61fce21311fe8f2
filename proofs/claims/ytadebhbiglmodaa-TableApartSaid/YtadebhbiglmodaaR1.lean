/-
  The symbolic machine: regions that draw their order. No statement of the seat is proved here.
-/
import Derived.StillTail
import Derived.Laws.Cover3
import Derived.Test.YtadebhbiglmodaaR0
namespace Go.Proofs.Ytadebhbiglmodaa
namespace NX
open Go Go.RowKit

theorem bget_eq : ∀ (l : List Bool) (i : Nat), bget l i = l.toArray.getD i true
  | [], i => by simp [bget]
  | b :: l, 0 => by simp [bget]
  | b :: l, i + 1 => by
    have := bget_eq l i
    simp [bget] at this ⊢
    exact this
theorem bgf_eq : ∀ (l : List Bool) (i : Nat), bgf l i = l.toArray.getD i false
  | [], i => by simp [bgf]
  | b :: l, 0 => by simp [bgf]
  | b :: l, i + 1 => by
    have := bgf_eq l i
    simp [bgf] at this ⊢
    exact this
theorem bset_eq : ∀ (l : List Bool) (i : Nat), (bset l i).toArray = l.toArray.setIfInBounds i true
  | [], i => by simp [bset]
  | b :: l, 0 => by simp [bset]
  | b :: l, i + 1 => by
    have := bset_eq l i
    simp at this
    simp [bset, this]
theorem allDone_iff (ld : List Bool) : ∀ l : List Nat, allDone ld l = true ↔ ∀ j ∈ l, bgf ld j = true
  | [] => by simp [allDone]
  | j :: l => by simp [allDone, andb_iff, allDone_iff ld l]
theorem rdy_mem (ld : List Bool) : ∀ (af : List (List Nat)) (at_ i : Nat), i ∈ rdy ld af at_ ↔ at_ ≤ i ∧ ∃ w, af[i - at_]? = some w ∧ bget ld i = false ∧ allDone ld w = true
  | [], at_, i => by simp [rdy]
  | w :: af, at_, i => by
    have ih := rdy_mem ld af (at_ + 1) i
    have step : (at_ + 1 ≤ i ∧ ∃ w, af[i - (at_ + 1)]? = some w ∧ bget ld i = false ∧ allDone ld w = true) ↔ (at_ ≤ i ∧ i ≠ at_ ∧ ∃ w', (w :: af)[i - at_]? = some w' ∧ bget ld i = false ∧ allDone ld w' = true) := by
      constructor
      · rintro ⟨h1, w', h2, h3⟩
        exact ⟨by omega, by omega, w', by rw [show i - at_ = (i - (at_ + 1)) + 1 from by omega]; simpa using h2, h3⟩
      · rintro ⟨h1, h2, w', h3, h4⟩
        rw [show i - at_ = (i - (at_ + 1)) + 1 from by omega] at h3
        exact ⟨by omega, w', by simpa using h3, h4⟩
    simp only [rdy]
    split
    · rename_i hb
      rw [ih, step]
      constructor
      · rintro ⟨h1, _, h3⟩; exact ⟨h1, h3⟩
      · rintro ⟨h1, w', h2, h3, h4⟩
        refine ⟨h1, ?_, w', h2, h3, h4⟩
        rintro rfl; rw [hb] at h3; simp at h3
    · rename_i hb
      split
      · rename_i hd
        rw [List.mem_cons, ih, step]
        constructor
        · rintro (rfl | ⟨h1, _, h3⟩)
          · exact ⟨Nat.le_refl _, w, by simp, hb, hd⟩
          · exact ⟨h1, h3⟩
        · rintro ⟨h1, h2⟩
          by_cases e : i = at_
          · exact .inl e
          · exact .inr ⟨h1, e, h2⟩
      · rename_i hd
        rw [ih, step]
        constructor
        · rintro ⟨h1, _, h3⟩; exact ⟨h1, h3⟩
        · rintro ⟨h1, w', h2, h3, h4⟩
          refine ⟨h1, ?_, w', h2, h3, h4⟩
          rintro rfl
          simp at h2; subst h2; rw [h4] at hd; simp at hd
theorem memN_iff (i : Nat) : ∀ l : List Nat, memN i l = true ↔ i ∈ l
  | [] => by simp [memN]
  | j :: l => by
    simp only [memN]
    split
    · rename_i h; simp at h; simp [h]
    · rename_i h; simp at h; simp [h, memN_iff i l]
theorem nget_eq (l : List (List Nat)) (i : Nat) : nget l i = l.getD i [] := by
  induction l generalizing i with
  | nil => simp [nget]
  | cons x l ih => cases i <;> simp [nget, ih]
theorem eget_eq {l : List EOp} {i : Nat} (h : i < l.length) : l[i]? = some (eget l i) := by
  induction l generalizing i with
  | nil => simp at h
  | cons x l ih => cases i with
    | zero => simp [eget]
    | succ i => simpa [eget] using ih (by simpa using h)
theorem rdy_ready {all : Array Oper} {ld : List Bool} {i : Nat} : i ∈ Region.ready .any all ld.toArray ↔ i ∈ rdy ld (cAf all) 0 := by
  rw [mem_ready, rdy_mem]
  simp only [Nat.zero_le, true_and, Nat.sub_zero, cAf, List.getElem?_map, Option.map_eq_some_iff, ← bget_eq]
  constructor
  · rintro ⟨h0, o, ho, hall⟩
    refine ⟨_, ⟨o, by simpa using ho, rfl⟩, h0, (allDone_iff _ _).2 ?_⟩
    intro j hj
    rw [List.mem_filterMap] at hj
    obtain ⟨e, he, hb⟩ := hj
    split at hb
    · rename_i hbb
      simp at hb; subst hb
      rw [bgf_eq]
      exact hall e (by simpa using he) hbb
    · simp at hb
  · rintro ⟨w, ⟨o, ho, rfl⟩, h0, hd⟩
    rw [allDone_iff] at hd
    refine ⟨h0, o, by simpa using ho, fun e he hb => ?_⟩
    have := hd e.on (List.mem_filterMap.2 ⟨e, by simpa using he, by simp [hb]⟩)
    rw [bgf_eq] at this
    exact this

/-- Rows of one's own blocks stay, as far as they name no own memory. -/
def keeps (S S1 : St) (o : EO) : Prop :=
  ∀ j off n l, rowOf S (.ptr j off) n = some l → puL l = true → (∀ n a v j' off', o = .store n a v → S.x a = .ptr j' off' → j' ≠ j) → rowOf S1 (.ptr j off) n = some l
/-- Is the guard known not to be met? -/
def gno (S : St) : Option (Nat × Bool) → Prop
  | none => False
  | some (t, f) => match lgt S.tm t, f with
    | .tt, false => True
    | .ff, true => True
    | .un, _ => True
    | _, _ => False
/-- An operation's meaning, of this very one. -/
def SemR (c : Ctx) (S : St) (ro : Oper) (v : AV) (S1 : St) : Prop :=
  ∀ M a w, RelT c M S a w → ∀ (next : Act → World → Prop) (Q : Exit → Act → World → Prop),
    (∀ M' w' x, M.le M' → RelS c M' S1.bs S1.ss w' → v.is M' x → next (a.put ro.dst x) w') → ro.wp c.P a w next Q
section
variable (c : Ctx) (all : Array Oper) (ops : List EOp) (af : List (List Nat)) (Φ : St → Prop)
/-- Whatever may run next, runs well; and so on. -/
def G : Nat → List Bool → St → Prop
  | 0, ld, S => rdy ld af 0 = [] ∧ Φ S
  | m + 1, ld, S => (rdy ld af 0 = [] → Φ S) ∧ ∀ i ∈ rdy ld af 0,
    (gno S (eget ops i).g ∧ G m (bset ld i) (S.put (eget ops i).d .un)) ∨
    (gm S (eget ops i).g ∧ ∃ v S1, (∀ ro, all[i]? = some ro → SemR c S ro v S1) ∧ S1.tm = S.tm ∧ keeps S S1 (eget ops i).o ∧ G m (bset ld i) (S1.put (eget ops i).d v))
end
theorem gno_wanted {c : Ctx} {M : Mem} {S : St} {a : Act} {w : World} {all : Array Oper} {ro : Oper} {o : EOp} (hT : RelT c M S a w) (hc : cOp c.P all ro = some o) (h : gno S o.g) : Region.wanted ro (yielded all a.tmps) = false := by
  unfold cOp at hc
  cases hg : ro.guard with
  | none => rw [hg] at hc; simp at hc; subst hc; exact h.elim
  | some jf =>
    obtain ⟨j, f⟩ := jf
    rw [hg] at hc
    dsimp only at hc
    split at hc
    · rename_i t ht
      simp at hc; subst hc
      have hyl := yielded_of (a := a) ht
      have htm := lgt_is (hT.tm t)
      simp only [gno] at h
      split at h
      · rename_i hv
        rw [hv] at htm
        rw [show a.tmps.getD t undef = .bool true from htm] at hyl; simp [Region.wanted, hg, hyl]
      · rename_i hv
        rw [hv] at htm
        rw [show a.tmps.getD t undef = .bool false from htm] at hyl; simp [Region.wanted, hg, hyl]
      · rename_i hv
        rw [hv] at htm
        rw [show a.tmps.getD t undef = undef from htm] at hyl; simp [undef] at hyl; simp [Region.wanted, hg, hyl]
      · exact h.elim
    · simp at hc
theorem gm_wanted {c : Ctx} {M : Mem} {S : St} {a : Act} {w : World} {all : Array Oper} {ro : Oper} {o : EOp} (hT : RelT c M S a w) (hc : cOp c.P all ro = some o) (h : gm S o.g) : Region.wanted ro (yielded all a.tmps) = true := by
  unfold cOp at hc
  cases hg : ro.guard with
  | none => simp [Region.wanted, hg]
  | some jf =>
    obtain ⟨j, f⟩ := jf
    rw [hg] at hc
    dsimp only at hc
    split at hc
    · rename_i t ht
      simp at hc; subst hc
      have hyl := yielded_of (a := a) ht
      have htm := lgt_is (hT.tm t)
      simp only [gm] at h
      split at h
      · rename_i hv
        rw [hv] at htm
        rw [show a.tmps.getD t undef = .bool true from htm] at hyl; simp [Region.wanted, hg, hyl]
      · rename_i hv
        rw [hv] at htm
        rw [show a.tmps.getD t undef = .bool false from htm] at hyl; simp [Region.wanted, hg, hyl]
      · exact h.elim
    · simp at hc
theorem cOp_parts {P : Program} {all : Array Oper} {ro : Oper} {o : EOp} (hc : cOp P all ro = some o) : ro.dst = o.d ∧ cO P ro.op = o.o := by
  unfold cOp at hc
  split at hc
  · simp at hc; subst hc; exact ⟨rfl, rfl⟩
  · split at hc
    · simp at hc; subst hc; exact ⟨rfl, rfl⟩
    · simp at hc
theorem op_at {P : Program} {all : Array Oper} {ops : List EOp} (hall : all.toList.mapM (cOp P all) = some ops) {i : Nat} {ro : Oper} (hi : all[i]? = some ro) : cOp P all ro = some (eget ops i) := by
  obtain ⟨h1, h2⟩ := mapM_get hall
  obtain ⟨y, h3, h4⟩ := h2 i ro (by simpa using hi)
  have := eget_eq (l := ops) (i := i) (List.getElem?_eq_some_iff.1 h3).1
  rw [h3] at this
  simp at this
  rw [h4, this]
theorem G_sound {c : Ctx} {all : Array Oper} {ops : List EOp} (hall : all.toList.mapM (cOp c.P all) = some ops) {Φ : St → Prop} {Q : Exit → Act → World → Prop}
    (hΦ : ∀ S, Φ S → ∀ M a w, RelT c M S a w → Q .normal a w) : ∀ (m : Nat) (ld : List Bool) (S : St), G c all ops (cAf all) Φ m ld S → ∀ M a w, RelT c M S a w → wpAny c.P .any all Q m ld.toArray a w
  | 0, ld, S, h, M, a, w, hT => by
    refine ⟨?_, hΦ S h.2 M a w hT⟩
    cases hr : Region.ready .any all ld.toArray with
    | nil => rfl
    | cons i r =>
      have := rdy_ready.1 (show i ∈ Region.ready .any all ld.toArray by rw [hr]; simp)
      rw [h.1] at this; simp at this
  | m + 1, ld, S, h, M, a, w, hT => by
    refine ⟨fun hr => hΦ S (h.1 ?_) M a w hT, fun i hi => ?_⟩
    · cases hr' : rdy ld (cAf all) 0 with
      | nil => rfl
      | cons i r =>
        have := rdy_ready.2 (show i ∈ rdy ld (cAf all) 0 by rw [hr']; simp)
        rw [hr] at this; simp at this
    · have hi2 := rdy_ready.1 hi
      obtain ⟨_, ro, hro, _⟩ := mem_ready.1 hi
      have hc := op_at hall hro
      obtain ⟨hd, _⟩ := cOp_parts hc
      unfold wpOp
      rw [hro]
      dsimp only
      rcases h.2 i hi2 with ⟨hg, hG⟩ | ⟨hg, v, S1, hs, htm, _, hG⟩
      · rw [if_neg (by simp [gno_wanted hT hc hg]), ← bset_eq]
        refine G_sound hall hΦ m _ _ hG M _ w ?_
        rw [← hd]
        exact hT.put ro.dst (.refl M) hT.st (v := .un) rfl
      · rw [if_pos (gm_wanted hT hc hg)]
        refine .inl (hs ro hro M a w hT _ _ fun M' w' x h1 h2 h3 => ?_)
        rw [← bset_eq]
        refine G_sound hall hΦ m _ _ hG M' _ w' ?_
        rw [← hd]
        have := hT.put ro.dst h1 h2 h3
        rw [← htm] at this
        exact this
theorem RelT.drew {c : Ctx} {M : Mem} {S : St} {a : Act} {w : World} (h : RelT c M S a w) : RelT c M S a { w with drawn := w.drawn + 1 } := ⟨h.len, h.tm, h.df, h.st.drew⟩
def falses : Nat → List Bool
  | 0 => []
  | n + 1 => false :: falses n
theorem falses_list : ∀ n, falses n = List.replicate n false
  | 0 => rfl
  | n + 1 => by simp [falses, falses_list n, List.replicate_succ]
theorem falses_eq (n : Nat) : (falses n).toArray = Array.replicate n false := by
  rw [falses_list, List.toArray_replicate]
/-- A region that draws its order. -/
theorem V_drw {c : Ctx} {S : St} {fn : Func} {K : AV → List (Option Blk) → List (Option Sl) → Prop} {k : List It} {ops : List EOp} {af nap : List (List Nat)} (hm : c.P.follows .mixedOrders = true)
    (h : ∀ all, all.toList.mapM (cOp c.P all) = some ops → Region.noSelect all = true → nap = cNap all → af = cAf all → G c all ops af (fun S' => V c fn K k S') (llen ops) (falses (llen ops)) S) : V c fn K (.code (.drw ops af nap) :: k) S :=
  V_code fun x hx rk M s w hr hT => by
    obtain ⟨id, all, rfl, hall, hs, haf, hnap⟩ := cC_drw hx
    have hn : all.size = llen ops := by
      rw [llen_eq, (mapM_get hall).1]; simp
    refine wp_region_any hm ?_
    rw [hn, ← falses_eq]
    have h0 := h all hall hs hnap haf
    subst haf
    exact G_sound hall (fun S' hV M a w hT => hV rk M a w hr hT) _ _ _ h0 M s _ hT.drew

/-! What may run first: operations that only read -/
/-- What an operation gives that only reads. -/
def rd (S : St) (o : EO) : Option (AV × Prop) :=
  match o with
  | .mv x => some (S.x x, True)
  | .pick c a b => match tf (S.x c) with
    | .tt => some (S.x a, True)
    | .ff => some (S.x b, True)
    | _ => none
  | .load x => match rowOf S (S.x x) 1 with
    | some l => match puL l with
      | true => some (lget l 0, True)
      | false => none
    | none => none
  | .loadA n x => match rowOf S (S.x x) n with
    | some l => match puL l with
      | true => some (.agg l, True)
      | false => none
    | none => none
  | .nilchk x => match S.x x with
    | .ptr j off => some (.ptr j off, True)
    | .elt row off => some (.elt row off, True)
    | .oel j k off => some (.oel j k off, True)
    | .clo f caps => some (.clo f caps, True)
    | _ => none
  | .bin op x y => match S.x x, S.x y with
    | .iv a, .iv b => binI op a b
    | _, _ => none
  | .eqs ng ks x y => match S.x x, S.x y with
    | .agg l, .agg r => (eqA ks l r).map fun e => (.bv (ngB ng e), True)
    | _, _ => none
  | .bq ng x y => match boolA (S.x x), boolA (S.x y) with
    | some a, some b => some (.bv (ngB ng (a == b)), True)
    | _, _ => none
  | .not x => match S.x x with
    | .tt => some (.ff, True)
    | .ff => some (.tt, True)
    | .bv e => some (.bv (!e), True)
    | _ => none
  | .fld off x => match S.x x with
    | .ptr j o => some (.ptr j (o + off), True)
    | .elt row o => some (.elt row (o + off), True)
    | .oel j k o => some (.oel j k (o + off), True)
    | _ => none
  | .build z ps => (fillA z (mapX3 S ps)).map fun l => (.agg l, True)
  | .ext x k => match S.x x with
    | .tup l => (lsub l k 1).map fun r => (lget r 0, True)
    | _ => none
  | .mkf f caps => some (.clo f (mapX S caps), True)
  | .len x => match S.x x with
    | .nl => some (.iv 0, True)
    | .sl _ rows => some (.iv rows.length, True)
    | _ => none
  | _ => none
theorem rd_ev {S : St} {o : EO} {v : AV} {q : Prop} (h : rd S o = some (v, q)) : ev S o = some (v, S, q) := by
  cases o <;> simp only [rd, reduceCtorEq] at h <;> simp only [ev]
  case mv x => simp at h; simp [h]
  case pick c a b => split at h <;> simp_all
  case load x =>
    split at h
    · rename_i l hl
      split at h <;> simp at h
      rw [hl]; simp [h]
    · simp at h
  case loadA n x =>
    split at h
    · rename_i l hl
      split at h <;> simp at h
      rw [hl]; simp [h]
    · simp at h
  case nilchk x => split at h <;> rename_i he <;> (try (simp at h; done)) <;> rw [he] <;> simp at h <;> simp [h]
  case bin op x y =>
    split at h
    · rename_i e1 e2
      rw [e1, e2]; simp [h]
    · simp at h
  case eqs ng ks x y =>
    split at h
    · rename_i e1 e2
      rw [e1, e2]
      simp only [Option.map_eq_some_iff, Prod.mk.injEq] at h
      obtain ⟨e, h1, rfl, rfl⟩ := h
      simp [h1]
    · simp at h
  case bq ng x y =>
    split at h
    · rename_i e1 e2
      rw [e1, e2]
      simp at h; simp [h]
    · simp at h
  case not x => split at h <;> simp_all
  case fld off x => split at h <;> rename_i he <;> (try (simp at h; done)) <;> rw [he] <;> simp at h <;> simp [h]
  case build z ps =>
    simp only [Option.map_eq_some_iff, Prod.mk.injEq] at h
    obtain ⟨l, hl, rfl, rfl⟩ := h
    rw [hl]; rfl
  case ext x k =>
    split at h
    · rename_i e
      simp only [Option.map_eq_some_iff, Prod.mk.injEq] at h
      obtain ⟨l, hl, rfl, rfl⟩ := h
      rw [e]; simp [hl]
    · simp at h
  case mkf f caps => simp at h; simp [h]
  case len x => split at h <;> simp_all
def isLd : EO → Bool
  | .load _ => true
  | .loadA _ _ => true
  | _ => false
def isSt : EO → Bool
  | .store _ _ _ => true
  | _ => false
def orb : Bool → Bool → Bool
  | true, _ => true
  | false, b => b
theorem orb_iff (a b : Bool) : orb a b = true ↔ a = true ∨ b = true := by cases a <;> simp [orb]
/-- Do all that have slots in common with 'i', and have not run, wait for it? -/
def frB (ld : List Bool) (af : List (List Nat)) (i : Nat) : List Nat → Bool
  | [] => true
  | j :: l => andb (orb (bget ld j) (memN i (nget af j))) (frB ld af i l)
/-- Do all stores that have not run wait for it? -/
def stB (ld : List Bool) (af : List (List Nat)) (i : Nat) : List EOp → Nat → Bool
  | [], _ => true
  | o :: l, j => andb (orb (bget ld j) (match isSt o.o with | true => memN i (nget af j) | false => true)) (stB ld af i l (j + 1))
theorem frB_iff {ld : List Bool} {af : List (List Nat)} {i : Nat} : ∀ {l : List Nat}, frB ld af i l = true ↔ ∀ j ∈ l, bget ld j = true ∨ i ∈ nget af j
  | [] => by simp [frB]
  | j :: l => by simp [frB, andb_iff, orb_iff, memN_iff, frB_iff (l := l)]
theorem stB_get {ld : List Bool} {af : List (List Nat)} {i : Nat} : ∀ {l : List EOp} {at_ : Nat}, stB ld af i l at_ = true → ∀ j, j < l.length → bget ld (at_ + j) = true ∨ isSt (eget l j).o = false ∨ i ∈ nget af (at_ + j)
  | [], _, _, j, h => by simp at h
  | o :: l, at_, h, 0, _ => by
    simp only [stB, andb_iff, orb_iff] at h
    rcases h.1 with h1 | h1
    · exact .inl h1
    · cases hs : isSt o.o
      · exact .inr (.inl hs)
      · rw [hs] at h1; exact .inr (.inr ((memN_iff _ _).1 h1))
  | o :: l, at_, h, j + 1, hj => by
    simp only [stB, andb_iff] at h
    have := stB_get h.2 j (by simpa using hj)
    rw [show at_ + (j + 1) = at_ + 1 + j from by omega]
    exact this
theorem stB_mk {ld : List Bool} {af : List (List Nat)} {i : Nat} : ∀ {l : List EOp} {at_ : Nat}, (∀ j, j < l.length → bget ld (at_ + j) = true ∨ isSt (eget l j).o = false ∨ i ∈ nget af (at_ + j)) → stB ld af i l at_ = true
  | [], _, _ => rfl
  | o :: l, at_, h => by
    simp only [stB, andb_iff, orb_iff]
    refine ⟨?_, stB_mk fun j hj => ?_⟩
    · rcases h 0 (by simp) with h1 | h1 | h1
      · exact .inl h1
      · right; rw [show isSt o.o = false from h1]
      · right; cases isSt o.o
        · rfl
        · exact (memN_iff _ _).2 h1
    · have := h (j + 1) (by simpa using hj)
      rw [show at_ + 1 + j = at_ + (j + 1) from by omega]
      exact this
theorem bget_bset_ne {ld : List Bool} {i j : Nat} (h : i ≠ j) : bget (bset ld i) j = bget ld j := by
  rw [bget_eq, bset_eq, bget_eq]
  exact getD_set_ne true h
theorem bget_bset_mono : ∀ {ld : List Bool} {i j : Nat}, bget ld j = true → bget (bset ld i) j = true
  | [], _, _, h => h
  | _ :: _, 0, 0, _ => rfl
  | _ :: _, 0, _ + 1, h => h
  | _ :: _, _ + 1, 0, h => h
  | _ :: ld, i + 1, j + 1, h => bget_bset_mono (ld := ld) (i := i) (j := j) h
theorem bset_comm (ld : List Bool) {i j : Nat} (h : i ≠ j) : bset (bset ld i) j = bset (bset ld j) i := by
  apply List.toArray_inj
  rw [bset_eq, bset_eq, bset_eq, bset_eq, Array.setIfInBounds_comm _ _ h]
theorem put_comm (S : St) (bs ss) {d e : Option Nat} (v u : AV) (h : ∀ x, d = some x → e ≠ some x) :
    (⟨(S.put d v).tm, bs, ss⟩ : St).put e u = (⟨(S.put e u).tm, bs, ss⟩ : St).put d v := by
  cases d with
  | none => cases e <;> rfl
  | some d => cases e with
    | none => rfl
    | some e =>
      have hne : d ≠ e := fun x => h d rfl (by rw [x])
      simp only [St.put, St.mk.injEq, and_true]
      clear h
      generalize S.tm = l
      revert d e
      induction l with
      | nil => intro d e _; rfl
      | cons y l ih =>
        intro d e hne
        cases d with
        | zero => cases e with
          | zero => omega
          | succ e => rfl
        | succ d => cases e with
          | zero => rfl
          | succ e => simp only [lput, List.cons.injEq, true_and]; exact ih d e (by omega)
/-- An operation that does not look at a slot runs as well without it. -/
theorem wp_unput {P : Program} {all : Array Oper} {o : Oper} (hsel : ∀ cs b, o.op ≠ .select cs b) {a : Act} {w : World} {d : Tmp} {x : Value} (hl : d ∉ o.looksAt all) (hd : o.dst ≠ some d)
    {next : Act → World → Prop} {Q : Exit → Act → World → Prop} (h : o.wp P (a.put (some d) x) w (fun b w' => next (b.put (some d) (a.tmps.getD d undef)) w') fun _ _ _ => False) : o.wp P a w next Q := by
  have hback : ∀ (ds : List Deferred) (y : Value), (((⟨a.tmps, ds⟩ : Act).put (some d) x).put o.dst y).put (some d) (a.tmps.getD d undef) = (⟨a.tmps, ds⟩ : Act).put o.dst y := by
    intro ds y
    have h1 : ((⟨a.tmps, ds⟩ : Act).put (some d) x).put (some d) (a.tmps.getD d undef) = ⟨a.tmps, ds⟩ := by
      obtain ⟨tm, df⟩ := a
      simp only [Act.put, Act.mk.injEq, and_true]
      rw [Array.setIfInBounds_setIfInBounds]
      apply Array.ext'
      simp only [Array.toList_setIfInBounds]
      apply List.ext_getElem?
      intro j
      rw [List.getElem?_set]
      split
      · rename_i e; subst e
        split
        · rename_i h; simp at h; simp [h]
        · rename_i h; simp at h; simp [h]
      · rfl
    cases hdst : o.dst with
    | none => exact h1
    | some e =>
      have hne : e ≠ d := fun x => hd (by rw [hdst, x])
      have h2 : (((⟨a.tmps, ds⟩ : Act).put (some d) x).put (some e) y).put (some d) (a.tmps.getD d undef) = (((⟨a.tmps, ds⟩ : Act).put (some d) x).put (some d) (a.tmps.getD d undef)).put (some e) y := by
        simp only [Act.put, Act.mk.injEq, and_true]
        rw [Array.setIfInBounds_comm _ _ hne]
      rw [h2, h1]
  unfold Oper.wp at h ⊢
  rw [execOp_put (ops := all) o hsel a (some d) x (fun e he => by simp at he; subst he; exact hl)] at h
  cases hrun : (execOp a.eval o).run P w with
  | halt hh w' =>
    rw [hrun] at h
    cases hh <;> first | exact h.elim | exact h
  | ok n w' =>
    rw [hrun] at h
    cases n <;> first | exact h.elim | skip
    case value v => have := hback a.defers v; simp only [Oper.upon] at h ⊢; rw [this] at h; exact h
    case skip => have := hback a.defers undef; simp only [Oper.upon] at h ⊢; rw [this] at h; exact h
    case defer q => have := hback (q :: a.defers) undef; simp only [Oper.upon] at h ⊢; rw [← this]; exact h
    case enter f args =>
      simp only [Oper.upon] at h ⊢
      refine h.mono ?_
      intro e w'' he
      cases e with
      | returned v => have := hback a.defers v; dsimp only at he ⊢; rw [this] at he; exact he
      | panicked ch => exact he.elim
      | outgrown => obtain ⟨_, _, he⟩ := he; exact he.elim
    case row r args =>
      simp only [Oper.upon] at h ⊢
      refine h.mono ?_
      intro v w'' he
      have := hback a.defers v
      rw [this] at he; exact he

theorem X_tmp {o : Operand} {t : Nat} (h : cX o = .t t) : o = .tmp t := by
  cases o <;> simp [cX] at h; rw [h]
/-- Two states that are alike at the slots that an operation looks at. -/
def agree (S S' : St) (ro : Op) : Prop := ∀ o ∈ ro.operands, S'.x (cX o) = S.x (cX o)
theorem mapX_agree {S S' : St} : ∀ {l : List Operand}, (∀ o ∈ l, S'.x (cX o) = S.x (cX o)) → mapX S' (l.map cX) = mapX S (l.map cX)
  | [], _ => rfl
  | o :: l, h => by
    simp only [List.map_cons, mapX]
    rw [h o (by simp), mapX_agree (fun x hx => h x (by simp [hx]))]
theorem mapX3_agree {S S' : St} : ∀ {l : List (Nat × Nat × X)}, (∀ p ∈ l, S'.x p.2.2 = S.x p.2.2) → mapX3 S' l = mapX3 S l
  | [], _ => rfl
  | (i, n, x) :: l, h => by
    simp only [mapX3]
    rw [h (i, n, x) (by simp), mapX3_agree (fun p hp => h p (by simp [hp]))]
theorem rd_agree {P : Program} {S S' : St} {ro : Op} {v : AV} {q : Prop} (ha : agree S S' ro) (hr : isLd (cO P ro) = true → ∀ x n l, x ∈ ro.operands → rowOf S (S.x (cX x)) n = some l → puL l = true → rowOf S' (S.x (cX x)) n = some l)
    (h : rd S (cO P ro) = some (v, q)) : rd S' (cO P ro) = some (v, q) := by
  cases ro with
  | move x => simp only [cO, rd] at h ⊢; rw [ha x (by simp [Op.operands])]; exact h
  | assign x => simp only [cO, rd] at h ⊢; rw [ha x (by simp [Op.operands])]; exact h
  | pick c a b =>
    simp only [cO, rd] at h ⊢
    rw [ha c (by simp [Op.operands]), ha a (by simp [Op.operands]), ha b (by simp [Op.operands])]; exact h
  | load T x =>
    have hx := ha x (by simp [Op.operands])
    simp only [cO] at h hr ⊢
    split at h
    · rename_i h1
      simp only [h1] at hr ⊢
      simp only [rd] at h ⊢
      rw [hx]
      split at h
      · rename_i l hl
        split at h
        · rename_i hp
          rw [hr rfl x 1 l (by simp [Op.operands]) hl hp]
          simp only [hp]; exact h
        · simp at h
      · simp at h
    · rename_i h1
      simp only [h1] at hr ⊢
      simp only [rd] at h ⊢
      rw [hx]
      split at h
      · rename_i l hl
        split at h
        · rename_i hp
          rw [hr rfl x _ l (by simp [Op.operands]) hl hp]
          simp only [hp]; exact h
        · simp at h
      · simp at h
    · simp [rd] at h
  | nilCheck x => simp only [cO, rd] at h ⊢; rw [ha x (by simp [Op.operands])]; exact h
  | binOp op T x y T2 =>
    have hx := ha x (by simp [Op.operands])
    have hy := ha y (by simp [Op.operands])
    simp only [cO] at h ⊢
    split at h
    · rename_i h1
      split at h
      · rename_i h2
        simp only [h2, if_true]
        simp only [rd] at h ⊢; rw [hx, hy]; exact h
      · simp [rd] at h
    · split at h
      · rename_i h3 h4
        cases op <;> simp only [rd, reduceCtorEq] at h ⊢ <;> rw [hx, hy] <;> exact h
      · simp [rd] at h
    · cases op <;> simp only [rd, reduceCtorEq] at h ⊢ <;> rw [hx, hy] <;> exact h
    · split at h
      · split at h <;> simp [rd] at h
      · simp [rd] at h
    · simp [rd] at h
    · simp [rd] at h
  | unOp op T x =>
    have hx := ha x (by simp [Op.operands])
    cases op <;> simp only [cO, rd, reduceCtorEq] at h ⊢
    rw [hx]; exact h
  | convert A B x =>
    simp only [cO] at h
    split at h <;> simp [rd] at h
  | fieldAddr T x f =>
    have hx := ha x (by simp [Op.operands])
    simp only [cO] at h ⊢
    split at h
    · rename_i h1
      split at h
      · rename_i h2
        split at h
        · rename_i h3
          simp only [h3, if_true]
          simp only [rd] at h ⊢; rw [hx]; exact h
        · simp [rd] at h
      · simp [rd] at h
    · simp [rd] at h
  | build T ps =>
    have hps : ∀ p ∈ ps.toList, S'.x (cX p.2) = S.x (cX p.2) := fun p hp => ha p.2 (by simp [Op.operands]; exact ⟨p.1, by simpa using hp⟩)
    simp only [cO] at h ⊢
    split at h
    · rename_i h1 h2
      split at h
      · rename_i pl hpl
        split at h
        · rename_i l hl
          simp only [rd] at h ⊢
          rw [mapX3_agree (S := S) (S' := S') (l := l)]
          · exact h
          · intro p hp
            obtain ⟨k, hk⟩ := List.mem_iff_getElem?.1 hp
            obtain ⟨g1, g2⟩ := mapM_get hl
            have hlt : k < ps.toList.length := by rw [← g1]; exact (List.getElem?_eq_some_iff.1 hk).1
            obtain ⟨y, hy, hf⟩ := g2 k _ (List.getElem?_eq_getElem hlt)
            rw [hk] at hy
            simp only [Option.some.injEq] at hy
            subst hy
            simp only [Option.map_eq_some_iff] at hf
            obtain ⟨on, _, rfl⟩ := hf
            exact hps _ (List.getElem_mem hlt)
        · simp [rd] at h
      · simp [rd] at h
    · rename_i h1 h2
      split at h
      · rename_i h3
        simp only [rd] at h ⊢
        rw [mapX3_agree (S := S) (S' := S')]
        · exact h
        · intro p hp
          rw [List.mem_map] at hp
          obtain ⟨q, hq, rfl⟩ := hp
          exact hps q hq
      · simp [rd] at h
    · simp [rd] at h
  | extract x k => simp only [cO, rd] at h ⊢; rw [ha x (by simp [Op.operands])]; exact h
  | makeFunc f fi cs =>
    simp only [cO] at h ⊢
    split at h
    · split at h
      · rename_i h2
        simp only [h2, if_true]
        simp only [rd] at h ⊢
        rw [mapX_agree (fun o ho => ha o (by simp [Op.operands]; right; simpa using ho))]; exact h
      · simp [rd] at h
    · simp [rd] at h
  | call ci =>
    obtain ⟨callee, cargs, argTypes⟩ := ci
    have hx : ∀ o ∈ cargs.toList, S'.x (cX o) = S.x (cX o) := fun o ho => ha o (by simp [Op.operands, Call.operands]; right; simpa using ho)
    cases callee with
    | value o => cases o <;> (simp only [cO] at h) <;> (try split at h) <;> simp [rd] at h
    | invoke _ _ => simp [cO, rd] at h
    | builtin b =>
      cases b <;> simp only [cO] at h ⊢ <;> (try (simp [rd] at h; done))
      · split at h
        · repeat' (split at h)
          all_goals simp [rd] at h
        · simp [rd] at h
      · repeat' (split at h)
        all_goals simp [rd] at h
      · split at h
        · rename_i t0 x h0 hargs
          split at h
          · rename_i h1
            simp only [rd] at h ⊢
            rw [hx x (by rw [hargs]; simp)]; exact h
          · simp [rd] at h
        · simp [rd] at h
  | alloc T => simp only [cO] at h; split at h <;> simp [rd] at h
  | box T x => simp only [cO] at h; split at h <;> simp [rd] at h
  | buildSlice T n ps => simp only [cO] at h; (repeat' (split at h)) <;> simp [rd] at h
  | store T x y => simp only [cO] at h; (repeat' (split at h)) <;> simp [rd] at h
  | field T x f => simp only [cO] at h; (repeat' (split at h)) <;> simp [rd] at h
  | indexAddr T x f => simp only [cO] at h; (repeat' (split at h)) <;> simp [rd] at h
  | slice T x lo hi mx => simp only [cO] at h; (repeat' (split at h)) <;> simp [rd] at h
  | makeSlice T x y => simp only [cO] at h; (repeat' (split at h)) <;> simp [rd] at h
  | _ => simp [cO, rd] at h

theorem fillA_ex {M : Mem} : ∀ {avs : List (Nat × Nat × AV)} {zs : List AV} {z : List Value} {l : List AV}, AV.isL M zs z → (∀ p ∈ avs, ∀ cs, p.2.2.cells = some cs → ∃ vs, AV.isL M cs vs) → fillA zs avs = some l → ∃ r, AV.isL M l r
  | [], zs, z, l, hz, _, h => by simp [fillA] at h; subst h; exact ⟨z, hz⟩
  | (o, n, x) :: avs, zs, z, l, hz, hp, h => by
    simp only [fillA] at h
    split at h
    · rename_i cs hcs
      split at h
      · split at h
        · rename_i z' hz'
          obtain ⟨rfl, hle⟩ := lset_eq hz'
          obtain ⟨vs, hvs⟩ := hp (o, n, x) (by simp) cs hcs
          have hl := isL_length hvs
          refine fillA_ex (z := z.take o ++ vs ++ z.drop (o + cs.length)) (isL_append (isL_append (isL_take o hz) hvs) (isL_drop _ hz)) (fun p hq => hp p (by simp [hq])) h
        · simp at h
      · simp at h
    · simp at h
theorem head_ex {M : Mem} {l : List AV} {vs : List Value} (h : AV.isL M l vs) (h1 : 0 < l.length) : ∃ x, (lget l 0).is M x := by
  cases l with
  | nil => simp at h1
  | cons y l => obtain ⟨v, _, _, hv, _⟩ := h; exact ⟨v, hv⟩
/-- What a reading operation gives, is. -/
theorem rd_ex {c : Ctx} {M : Mem} {S : St} {a : Act} {w : World} (hT : RelT c M S a w) {ro : Op} {v : AV} {q : Prop} (h : rd S (cO c.P ro) = some (v, q)) : ∃ x, v.is M x := by
  have X0 : ∀ x : X, (∃ o : Operand, cX o = x) → ∃ u, (S.x x).is M u := by
    rintro x ⟨o, rfl⟩; exact ⟨_, X_is hT o⟩
  cases ro with
  | move x => simp only [cO, rd, Option.some.injEq, Prod.mk.injEq] at h; rw [← h.1]; exact ⟨_, X_is hT x⟩
  | assign x => simp only [cO, rd, Option.some.injEq, Prod.mk.injEq] at h; rw [← h.1]; exact ⟨_, X_is hT x⟩
  | pick p x y =>
    simp only [cO, rd] at h
    split at h <;> simp at h
    · rw [← h.1]; exact ⟨_, X_is hT x⟩
    · rw [← h.1]; exact ⟨_, X_is hT y⟩
  | load T x =>
    have hx := X_is hT x
    simp only [cO] at h
    split at h <;> simp only [rd, reduceCtorEq] at h
    · split at h
      · rename_i l hl
        split at h <;> simp at h
        rw [← h.1]
        obtain ⟨_, _, vs, _, h2, h3, _⟩ := row_at hT hx hl
        exact head_ex h2 (by have := isL_length h2; omega)
      · simp at h
    · split at h
      · rename_i l hl
        split at h <;> simp at h
        rw [← h.1]
        obtain ⟨_, _, vs, _, h2, h3, _⟩ := row_at hT hx hl
        exact ⟨_, vs, rfl, h2⟩
      · simp at h
  | nilCheck x =>
    have hx := X_is hT x
    simp only [cO, rd] at h
    split at h <;> rename_i hv <;> simp at h <;> (rw [← h.1]; rw [hv] at hx; exact ⟨_, hx⟩)
  | binOp op T x y T2 =>
    simp only [cO] at h
    split at h
    · split at h
      · simp only [rd] at h
        split at h
        · rename_i m n _ _
          cases op <;> simp only [binI, Option.some.injEq, Prod.mk.injEq, reduceCtorEq] at h <;> rw [← h.1] <;> exact ⟨_, rfl⟩
        · simp at h
      · simp [rd] at h
    · split at h
      · split at h <;> simp only [rd, reduceCtorEq] at h
        all_goals
          split at h
          · simp only [Option.map_eq_some_iff, Prod.mk.injEq] at h
            obtain ⟨e, h1, rfl, _⟩ := h
            exact ⟨_, rfl⟩
          · simp at h
      · simp [rd] at h
    · split at h <;> simp only [rd, reduceCtorEq] at h
      all_goals
        split at h <;> simp only [Option.some.injEq, Prod.mk.injEq, reduceCtorEq] at h
        rw [← h.1]; exact ⟨_, rfl⟩
    · split at h
      · split at h <;> simp [rd] at h
      · simp [rd] at h
    · simp [rd] at h
    · simp [rd] at h
  | unOp op T x =>
    cases op <;> simp only [cO, rd, reduceCtorEq] at h
    split at h <;> simp at h <;> rw [← h.1] <;> exact ⟨_, rfl⟩
  | fieldAddr T x f =>
    have hx := X_is hT x
    simp only [cO] at h
    split at h
    · split at h
      · split at h
        · simp only [rd] at h
          split at h <;> rename_i hv <;> simp at h <;> rw [← h.1] <;> rw [hv] at hx
          · exact ⟨_, hx.1, rfl⟩
          · obtain ⟨ad, vs, _, h2, h3⟩ := hx; exact ⟨_, ad, vs, rfl, h2, h3⟩
          · obtain ⟨h0, g, n, cp, h1, _⟩ := hx; exact ⟨_, h0, g, n, cp, h1, rfl⟩
        · simp [rd] at h
      · simp [rd] at h
    · simp [rd] at h
  | build T ps =>
    have key : ∀ {z : List AV} {zs : List Value} {l : List (Nat × Nat × X)}, AV.isL M z zs → (∀ p ∈ l, ∃ o : Operand, cX o = p.2.2) → rd S (.build z l) = some (v, q) → ∃ x, v.is M x := by
      intro z zs l hz hl h
      simp only [rd, Option.map_eq_some_iff, Prod.mk.injEq] at h
      obtain ⟨r, hr, rfl, _⟩ := h
      obtain ⟨u, hu⟩ := fillA_ex hz (fun p hp cs hc => by
        obtain ⟨k, hk⟩ := List.mem_iff_getElem?.1 hp
        have hlt : k < l.length := by rw [← mapX3_length S l]; exact (List.getElem?_eq_some_iff.1 hk).1
        have h1 := mapX3_get S l k l[k].1 l[k].2.1 l[k].2.2 (List.getElem?_eq_getElem hlt)
        rw [hk] at h1
        simp at h1
        obtain ⟨o, ho⟩ := hl _ (List.getElem_mem hlt)
        subst h1
        dsimp only at hc
        rw [← ho] at hc
        exact ⟨_, cellsX hT o cs hc⟩) hr
      exact ⟨_, u, rfl, hu⟩
    simp only [cO] at h
    split at h
    · rename_i hz
      obtain ⟨_, u, _, _, _, rfl⟩ := zcells_spec hz
      split at h
      · split at h
        · rename_i l hl
          refine key (zav_isL M _) ?_ h
          intro p hp
          obtain ⟨k, hk⟩ := List.mem_iff_getElem?.1 hp
          obtain ⟨g1, g2⟩ := mapM_get hl
          have hlt : k < ps.toList.length := by rw [← g1]; exact (List.getElem?_eq_some_iff.1 hk).1
          obtain ⟨y, hy, hf⟩ := g2 k _ (List.getElem?_eq_getElem hlt)
          rw [hk] at hy
          simp only [Option.some.injEq] at hy
          subst hy
          simp only [Option.map_eq_some_iff] at hf
          obtain ⟨on, _, rfl⟩ := hf
          exact ⟨_, rfl⟩
        · simp [rd] at h
      · simp [rd] at h
    · rename_i hz
      obtain ⟨_, u, _, _, _, rfl⟩ := zcells_spec hz
      split at h
      · refine key (zav_isL M _) ?_ h
        intro p hp
        rw [List.mem_map] at hp
        obtain ⟨q, _, rfl⟩ := hp
        exact ⟨_, rfl⟩
      · simp [rd] at h
    · simp [rd] at h
  | extract x k =>
    have hx := X_is hT x
    simp only [cO, rd] at h
    split at h
    · rename_i l hv
      simp only [Option.map_eq_some_iff, Prod.mk.injEq] at h
      obtain ⟨r, hr, rfl, _⟩ := h
      obtain ⟨rfl, hle⟩ := lsub_eq hr
      rw [hv] at hx
      obtain ⟨vs, _, h2⟩ := hx
      exact head_ex (isL_take 1 (isL_drop k h2)) (by simp; omega)
    · simp at h
  | makeFunc f fi cs =>
    simp only [cO] at h
    split at h
    · split at h
      · simp only [rd, Option.some.injEq, Prod.mk.injEq] at h
        rw [← h.1]
        exact ⟨_, _, rfl, mapX_is hT cs.toList⟩
      · simp [rd] at h
    · simp [rd] at h
  | call ci =>
    obtain ⟨callee, cargs, argTypes⟩ := ci
    cases callee with
    | value o => cases o <;> (simp only [cO] at h) <;> (try split at h) <;> simp [rd] at h
    | invoke _ _ => simp [cO, rd] at h
    | builtin b =>
      cases b <;> simp only [cO] at h <;> (try (simp [rd] at h; done))
      · repeat' (split at h)
        all_goals simp [rd] at h
      · repeat' (split at h)
        all_goals simp [rd] at h
      · split at h
        · split at h
          · simp only [rd] at h
            split at h <;> simp at h <;> rw [← h.1] <;> exact ⟨_, rfl⟩
          · simp [rd] at h
        · simp [rd] at h
  | convert A B x => simp only [cO] at h; split at h <;> simp [rd] at h
  | alloc T => simp only [cO] at h; split at h <;> simp [rd] at h
  | box T x => simp only [cO] at h; split at h <;> simp [rd] at h
  | buildSlice T n ps => simp only [cO] at h; (repeat' (split at h)) <;> simp [rd] at h
  | store T x y => simp only [cO] at h; (repeat' (split at h)) <;> simp [rd] at h
  | field T x f => simp only [cO] at h; (repeat' (split at h)) <;> simp [rd] at h
  | indexAddr T x f => simp only [cO] at h; (repeat' (split at h)) <;> simp [rd] at h
  | slice T x lo hi mx => simp only [cO] at h; (repeat' (split at h)) <;> simp [rd] at h
  | makeSlice T x y => simp only [cO] at h; (repeat' (split at h)) <;> simp [rd] at h
  | _ => simp [cO, rd] at h

theorem lget_put_ne {S : St} {d : Option Nat} {v : AV} {t : Nat} (h : d ≠ some t) : lget (S.put d v).tm t = lget S.tm t := by
  cases d with
  | none => rfl
  | some d => simp only [St.put, lget_lput]; rw [if_neg (fun e => h (by rw [e.1]))]
theorem x_put_ne {S : St} {d : Option Nat} {v : AV} {x : X} (h : ∀ t, x = .t t → d ≠ some t) : (S.put d v).x x = S.x x := by
  cases x with
  | t n => exact lget_put_ne (h n rfl)
  | c a => rfl
  | bad => rfl
theorem put_mem (S : St) (d : Option Nat) (v : AV) : (S.put d v).bs = S.bs ∧ (S.put d v).ss = S.ss := by cases d <;> exact ⟨rfl, rfl⟩
theorem rowOf_mem {S S' : St} (h : S'.bs = S.bs) (x : AV) (n : Nat) : rowOf S' x n = rowOf S x n := by
  unfold rowOf
  rw [h]
theorem operand_looks {all : Array Oper} {ro : Oper} {t : Tmp} (h : Operand.tmp t ∈ ro.op.operands) : t ∈ ro.looksAt all :=
  List.mem_append_left _ (List.mem_filterMap.2 ⟨.tmp t, by simpa using h, rfl⟩)
theorem guard_looks {P : Program} {all : Array Oper} {ro : Oper} {o : EOp} (hc : cOp P all ro = some o) {t : Nat} {f : Bool} (hg : o.g = some (t, f)) : t ∈ ro.looksAt all := by
  unfold cOp at hc
  cases h : ro.guard with
  | none => rw [h] at hc; simp at hc; subst hc; simp at hg
  | some jf =>
    obtain ⟨j, f'⟩ := jf
    rw [h] at hc
    dsimp only at hc
    split at hc
    · rename_i t' ht
      simp at hc; subst hc
      simp at hg
      obtain ⟨rfl, rfl⟩ := hg
      exact List.mem_append_right _ (by simp [h, ht])
    · simp at hc
theorem agree_put {all : Array Oper} {ro : Oper} {S : St} {d : Option Nat} {v : AV} (h : ∀ t, d = some t → t ∉ ro.looksAt all) : agree S (S.put d v) ro.op := by
  intro o ho
  refine x_put_ne fun t ht hd => ?_
  have := X_tmp ht
  subst this
  exact h t hd (operand_looks ho)
theorem gm_agree {S S' : St} {g : Option (Nat × Bool)} (h : ∀ t f, g = some (t, f) → lget S'.tm t = lget S.tm t) : gm S' g = gm S g ∧ gno S' g = gno S g := by
  cases g with
  | none => exact ⟨rfl, rfl⟩
  | some tf => obtain ⟨t, f⟩ := tf; simp only [gm, gno, lgt, h t f rfl, and_self]
theorem nap_apart {all : Array Oper} {i j : Nat} {x y : Oper} (hi : all[i]? = some x) (hj : all[j]? = some y) (hne : j ≠ i) (h : j ∉ nget (cNap all) i) : x.apart all y = true := by
  have hi' : i < all.size := (Array.getElem?_eq_some_iff.1 hi).1
  have hj' : j < all.size := (Array.getElem?_eq_some_iff.1 hj).1
  rw [nget_eq, cNap, List.getD_eq_getElem?_getD, List.getElem?_map, List.getElem?_range hi'] at h
  simp only [Option.map_some, Option.getD_some, List.mem_filter, List.mem_range, hj', true_and, hi, hj] at h
  cases hh : x.apart all y
  · exact absurd (by simp [hh, hne.symm]) h
  · rfl
theorem keeps_refl (S : St) (o : EO) : keeps S S o := fun _ _ _ _ h _ _ => h
theorem bget_false {ld : List Bool} {i : Nat} (h : bget ld i = false) : bgf ld i = false := by
  rw [bget_eq] at h
  rw [bgf_eq]
  exact getD_both h
theorem nget_af {all : Array Oper} {j : Nat} : nget (cAf all) j = (cAf all).getD j [] := nget_eq _ _
theorem rdy_parts {all : Array Oper} {ld : List Bool} {j : Nat} (h : j ∈ rdy ld (cAf all) 0) : bget ld j = false ∧ (∀ i ∈ nget (cAf all) j, bgf ld i = true) ∧ ∃ ro, all[j]? = some ro := by
  obtain ⟨_, ro, hro, _⟩ := mem_ready.1 (rdy_ready.2 h)
  rw [rdy_mem] at h
  obtain ⟨_, w, h1, h2, h3⟩ := h
  refine ⟨h2, ?_, ro, hro⟩
  rw [allDone_iff] at h3
  rw [nget_eq, List.getD_eq_getElem?_getD]
  simp only [Nat.sub_zero] at h1
  rw [h1]
  exact h3
theorem rdy_bset {all : Array Oper} {ld : List Bool} {i j : Nat} (h : j ∈ rdy ld (cAf all) 0) (hne : j ≠ i) : j ∈ rdy (bset ld i) (cAf all) 0 := by
  have := ready_mono (rdy_ready.2 h) hne
  rw [← bset_eq] at this
  exact rdy_ready.1 this
theorem cO_store {P : Program} {op : Op} {n t : Nat} {v : X} (h : cO P op = .store n (.t t) v) : Operand.tmp t ∈ op.operands := by
  cases op
  case store T x y =>
    simp only [cO] at h
    split at h
    · simp only [EO.store.injEq] at h
      have := X_tmp h.2.1
      subst this
      simp [Op.operands]
    · simp at h
  all_goals (simp only [cO] at h; (repeat' (split at h)) <;> simp at h)
/-- An operation that only reads, or that its guard leaves out. -/
def tk (S : St) (o : EOp) (v : AV) (q : Prop) : Prop := (gm S o.g ∧ rd S o.o = some (v, q)) ∨ (gno S o.g ∧ v = .un) ∨
  (gm S o.g ∧ ∃ n x y m rows j row, o.o = .idx n x y ∧ S.x x = .sl m rows ∧ S.x y = .iv j ∧ m = n ∧ 0 ≤ j ∧ rows[j.toNat]? = some row ∧ v = .elt row 0)
theorem elt_ex {M : Mem} {m : Nat} {rows : List (List AV)} {u : Value} (h : AV.is M (.sl m rows) u) {k : Nat} {row : List AV} (hr : rows[k]? = some row) : ∃ x, AV.is M (.elt row 0) x := by
  obtain ⟨ad, cp, g1, g2, g3⟩ := h
  have hlt := (List.getElem?_eq_some_iff.1 hr).1
  obtain ⟨ad, vss, rfl, g4, g5⟩ := g3 (by intro e; subst e; simp at hlt)
  obtain ⟨vs, q1, q2, q3, q4⟩ := isLL_get g4 _ row hr
  obtain ⟨s1, s2, cs, T', fr, s3, s4⟩ := g5
  refine ⟨_, ⟨ad.block, ad.off + k * m, none⟩, vs, rfl, q3, rfl, ?_, cs, T', fr, s3, ?_⟩
  · intro v hv
    obtain ⟨t, ht⟩ := List.mem_iff_getElem?.1 hv
    exact s2 v (List.mem_iff_getElem?.2 ⟨_, q4 t v ht⟩)
  · intro t v ht
    have := s4 _ v (q4 t v ht)
    dsimp only
    rw [show ad.off + k * m + t = ad.off + (k * m + t) from by omega]
    exact this
/-- An operation that only reads may run first. -/
theorem G_take {c : Ctx} {all : Array Oper} {ops : List EOp} (hall : all.toList.mapM (cOp c.P all) = some ops) (hsel : Region.noSelect all = true) {Φ : St → Prop} (i : Nat) {v : AV} {q : Prop} (hq : q) :
    ∀ (m : Nat) (ld : List Bool) (S : St), i ∈ rdy ld (cAf all) 0 → tk S (eget ops i) v q → frB ld (cAf all) i (nget (cNap all) i) = true →
      (isLd (eget ops i).o = true → stB ld (cAf all) i ops 0 = true) → G c all ops (cAf all) Φ m (bset ld i) (S.put (eget ops i).d v) → G c all ops (cAf all) Φ (m + 1) ld S
  | m, ld, S, hi, hg, hf, hst, h => by
    obtain ⟨hib, hia, ri, hri⟩ := rdy_parts hi
    have hci := op_at hall hri
    obtain ⟨hdi, hoi⟩ := cOp_parts hci
    refine ⟨fun h0 => by rw [h0] at hi; simp at hi, fun j hj => ?_⟩
    by_cases hji : j = i
    · subst hji
      rcases hg with ⟨hg, hr⟩ | ⟨hg, rfl⟩ | ⟨hg, n, x, y, m', rows, jj, row, h1, h2, h3, h4, h5, h6, rfl⟩
      case inr.inl => exact .inl ⟨hg, h⟩
      case inr.inr =>
        refine .inr ⟨hg, .elt row 0, S, fun ro hro => ?_, rfl, keeps_refl _ _, h⟩
        have : ro = ri := by rw [hri] at hro; simpa using hro.symm
        subst this
        exact sem_idx row h2 h3 h4 h5 h6 ro (by rw [hoi]; exact h1)
      refine .inr ⟨hg, v, S, fun ro hro M a w hT next Q hn => ?_, rfl, keeps_refl _ _, h⟩
      have : ro = ri := by rw [hri] at hro; simpa using hro.symm
      subst this
      exact sem_ev (rd_ev hr) hq ro hoi M a w hT next Q hn
    · obtain ⟨hjb, hja, rj, hrj⟩ := rdy_parts hj
      have hcj := op_at hall hrj
      obtain ⟨hdj, hoj⟩ := cOp_parts hcj
      have hnw : i ∉ nget (cAf all) j := fun e => by
        have h1 := hja i e
        rw [bget_false hib] at h1; simp at h1
      have hap : ri.apart all rj = true := by
        refine nap_apart hri hrj hji fun e => ?_
        rcases (frB_iff.1 hf) j e with h1 | h1
        · rw [hjb] at h1; simp at h1
        · exact hnw h1
      obtain ⟨p1, p2, ap2⟩ := Oper.apart_spec hap
      have ap1 : ∀ d, ri.dst = some d → d ∉ rj.looksAt all ∧ rj.dst ≠ some d := fun d hd => ⟨p1 d hd, p2 d hd⟩
      have hj2 := rdy_bset hj hji
      have hi2 := rdy_bset hi (Ne.symm hji)
      have hcomm := bset_comm ld (Ne.symm hji)
      have hlen : j < ops.length := by
        obtain ⟨h1, h2⟩ := mapM_get hall
        rw [h1]; simpa using (Array.getElem?_eq_some_iff.1 hrj).1
      have hf' : frB (bset ld j) (cAf all) i (nget (cNap all) i) = true := frB_iff.2 fun k hk => (frB_iff.1 hf k hk).imp bget_bset_mono id
      have hst' : isLd (eget ops i).o = true → stB (bset ld j) (cAf all) i ops 0 = true := fun hl => stB_mk fun k hk => by
        rcases stB_get (hst hl) k hk with h1 | h1 | h1
        · exact .inl (bget_bset_mono h1)
        · exact .inr (.inl h1)
        · exact .inr (.inr h1)
      have hgj : gm (S.put (eget ops i).d v) (eget ops j).g = gm S (eget ops j).g ∧ gno (S.put (eget ops i).d v) (eget ops j).g = gno S (eget ops j).g :=
        gm_agree fun t f ht => lget_put_ne fun e => (ap1 t (by rw [hdi]; exact e)).1 (guard_looks hcj ht)
      have next_ok : ∀ (u : AV) (bs ss), (∀ j' off n l, rowOf S (.ptr j' off) n = some l → puL l = true → isLd (eget ops i).o = true → rowOf ⟨S.tm, bs, ss⟩ (.ptr j' off) n = some l) →
          tk ((⟨S.tm, bs, ss⟩ : St).put (eget ops j).d u) (eget ops i) v q := by
        intro u bs ss hrow
        have e1 : agree S ((⟨S.tm, bs, ss⟩ : St).put (eget ops j).d u) ri.op := by
          intro o ho
          have : (⟨S.tm, bs, ss⟩ : St).x (cX o) = S.x (cX o) := by cases cX o <;> rfl
          rw [← this]
          exact agree_put (all := all) (ro := ri) (S := ⟨S.tm, bs, ss⟩) (fun t ht => ap2 t (by rw [hdj]; exact ht)) o ho
        have e2 := gm_agree (S := S) (S' := (⟨S.tm, bs, ss⟩ : St).put (eget ops j).d u) (g := (eget ops i).g) fun t f ht =>
          lget_put_ne (S := ⟨S.tm, bs, ss⟩) fun e => ap2 t (by rw [hdj]; exact e) (guard_looks hci ht)
        rcases hg with ⟨hg, hr⟩ | ⟨hg, hv⟩ | ⟨hg, n, x, y, m', rows, jj, row, h1, h2, h3, h4, h5, h6, hv⟩
        · refine .inl ⟨by rw [e2.1]; exact hg, ?_⟩
          rw [← hoi] at hr ⊢
          refine rd_agree e1 (fun hl x n l _ hrw hp => ?_) hr
          have hb := (put_mem (⟨S.tm, bs, ss⟩ : St) (eget ops j).d u).1
          rw [rowOf_mem hb]
          cases hx : S.x (cX x) with
          | ptr j' off => rw [hx] at hrw; exact hrow j' off n l hrw hp (by rw [← hoi]; exact hl)
          | elt row off => rw [hx] at hrw; exact hrw
          | _ => rw [hx] at hrw; simp [rowOf] at hrw
        · exact .inr (.inl ⟨by rw [e2.2]; exact hg, hv⟩)
        · refine .inr (.inr ⟨by rw [e2.1]; exact hg, n, x, y, m', rows, jj, row, h1, ?_, ?_, h4, h5, h6, hv⟩)
          · rw [← hoi] at h1
            obtain ⟨T, y1, z1, e, hop, _, _, hy, hz⟩ := cO_idx h1
            rw [← hy, e1 y1 (by rw [hop]; simp [Op.operands]), hy]; exact h2
          · rw [← hoi] at h1
            obtain ⟨T, y1, z1, e, hop, _, _, hy, hz⟩ := cO_idx h1
            rw [← hz, e1 z1 (by rw [hop]; simp [Op.operands]), hz]; exact h3
      have hdne : ∀ x, (eget ops i).d = some x → (eget ops j).d ≠ some x := fun x hx => by
        have := (ap1 x (by rw [hdi]; exact hx)).2
        rw [hdj] at this; exact this
      cases m with
      | zero => have := h.1; rw [this] at hj2; simp at hj2
      | succ m =>
        rcases h.2 j hj2 with ⟨g1, g2⟩ | ⟨g1, u, S1, g2, g3, g4, g5⟩
        · refine .inl ⟨by rw [← hgj.2]; exact g1, ?_⟩
          have n1 := next_ok .un S.bs S.ss (fun _ _ _ _ h _ _ => h)
          refine G_take hall hsel i hq m (bset ld j) _ hi2 n1 hf' hst' ?_
          rw [← hcomm]
          have e := put_comm S S.bs S.ss (d := (eget ops i).d) (e := (eget ops j).d) v .un hdne
          have e2 : (⟨(S.put (eget ops i).d v).tm, S.bs, S.ss⟩ : St) = S.put (eget ops i).d v := by cases (eget ops i).d <;> rfl
          have e3 : (⟨(S.put (eget ops j).d .un).tm, S.bs, S.ss⟩ : St) = S.put (eget ops j).d .un := by cases (eget ops j).d <;> rfl
          rw [e2, e3] at e
          rw [← e]; exact g2
        · refine .inr ⟨by rw [← hgj.1]; exact g1, u, ⟨S.tm, S1.bs, S1.ss⟩, fun ro hro M a w hT next Q hn => ?_, rfl, ?_, ?_⟩
          · have : ro = rj := by rw [hrj] at hro; simpa using hro.symm
            subst this
            cases hd : (eget ops i).d with
            | none =>
              rw [hd] at g2
              exact g2 ro hrj M a w hT next Q hn
            | some d =>
              rw [hd] at g2
              obtain ⟨x, hx⟩ : ∃ x, v.is M x := by
                rcases hg with ⟨_, hr⟩ | ⟨_, rfl⟩ | ⟨_, n, x, y, m', rows, jj, row, h1, h2, h3, h4, h5, h6, rfl⟩
                · exact rd_ex hT (by rw [hoi]; exact hr)
                · exact ⟨undef, rfl⟩
                · rw [← hoi] at h1
                  obtain ⟨T, y1, z1, e, hop, _, _, hy, hz⟩ := cO_idx h1
                  have := X_is hT y1
                  rw [hy, h2] at this
                  exact elt_ex this h6
              have hT' : RelT c M (S.put (some d) v) (a.put (some d) x) w := hT.put (some d) (.refl M) hT.st hx
              have ap := ap1 d (by rw [hdi]; exact hd)
              refine wp_unput (all := all) (fun cs b => Region.noSelect_spec hsel j ro cs b hrj) ap.1 ap.2 (x := x) (g2 ro hrj M _ w hT' _ _ fun M' w' y h1 h2 h3 => ?_)
              have hb := hn M' w' y h1 h2 h3
              have key : ((a.put (some d) x).put ro.dst y).put (some d) (a.tmps.getD d undef) = a.put ro.dst y := by
                have h1 : (a.put (some d) x).put (some d) (a.tmps.getD d undef) = a := by
                  obtain ⟨tm, df⟩ := a
                  simp only [Act.put, Act.mk.injEq, and_true]
                  rw [Array.setIfInBounds_setIfInBounds]
                  apply Array.ext'
                  simp only [Array.toList_setIfInBounds]
                  apply List.ext_getElem?
                  intro j
                  rw [List.getElem?_set]
                  split
                  · rename_i e; subst e
                    split
                    · rename_i h; simp at h; simp [h]
                    · rename_i h; simp at h; simp [h]
                  · rfl
                cases hdst : ro.dst with
                | none => exact h1
                | some e =>
                  have hne : e ≠ d := fun x => ap.2 (by rw [hdst, x])
                  have h2 : ((a.put (some d) x).put (some e) y).put (some d) (a.tmps.getD d undef) = ((a.put (some d) x).put (some d) (a.tmps.getD d undef)).put (some e) y := by
                    simp only [Act.put, Act.mk.injEq, and_true]
                    rw [Array.setIfInBounds_comm _ _ hne]
                  rw [h2, h1]
              rw [key]; exact hb
          · intro j' off n l h1 h2 h3
            have hb := (put_mem S (eget ops i).d v).1
            have := g4 j' off n l (by rw [rowOf_mem hb]; exact h1) h2 (fun n a' v' j2 off' ho hx => h3 n a' v' j2 off' ho (by
              rw [x_put_ne] at hx
              · exact hx
              · intro t ht e
                subst ht
                have : Operand.tmp t ∈ rj.op.operands := by
                  rw [← hoj] at ho
                  exact cO_store ho
                exact (ap1 t (by rw [hdi]; exact e)).1 (operand_looks this)))
            rw [rowOf_mem (S := S1) (S' := ⟨S.tm, S1.bs, S1.ss⟩) rfl]; exact this
          · have n1 := next_ok u S1.bs S1.ss (fun j' off n l h1 h2 hl => by
              have hb := (put_mem S (eget ops i).d v).1
              have := g4 j' off n l (by rw [rowOf_mem hb]; exact h1) h2 (fun n a' v' j2 off' ho _ => by
                exfalso
                rcases stB_get (hst hl) j hlen with h1 | h1 | h1
                · rw [Nat.zero_add, hjb] at h1; simp at h1
                · rw [ho] at h1; simp [isSt] at h1
                · rw [Nat.zero_add] at h1; exact hnw h1)
              rw [rowOf_mem (S := S1) (S' := ⟨S.tm, S1.bs, S1.ss⟩) rfl]; exact this)
            refine G_take hall hsel i hq m (bset ld j) _ hi2 n1 hf' hst' ?_
            rw [← hcomm]
            have e := put_comm S S1.bs S1.ss (d := (eget ops i).d) (e := (eget ops j).d) v u hdne
            have e2 : (⟨(S.put (eget ops i).d v).tm, S1.bs, S1.ss⟩ : St) = S1 := by rw [← g3]
            have e3 : (⟨(S.put (eget ops j).d u).tm, S1.bs, S1.ss⟩ : St) = (⟨S.tm, S1.bs, S1.ss⟩ : St).put (eget ops j).d u := by cases (eget ops j).d <;> rfl
            rw [e2, e3] at e
            rw [← e]; exact g5

/-! The run of a region -/
/-- Is a guard met (some true), not met (some false), or not known? -/
def gst (S : St) : Option (Nat × Bool) → Option Bool
  | none => some true
  | some (t, f) => match lgt S.tm t, f with
    | .tt, true => some true
    | .ff, false => some true
    | .tt, false => some false
    | .ff, true => some false
    | .un, _ => some false
    | _, _ => none
theorem gst_true {S : St} {g : Option (Nat × Bool)} (h : gst S g = some true) : gm S g := by
  cases g with
  | none => trivial
  | some tf =>
    obtain ⟨t, f⟩ := tf
    simp only [gst] at h
    split at h <;> simp at h
    · rename_i e; simp only [gm, e]
    · rename_i e; simp only [gm, e]
theorem gst_false {S : St} {g : Option (Nat × Bool)} (h : gst S g = some false) : gno S g := by
  cases g with
  | none => simp [gst] at h
  | some tf =>
    obtain ⟨t, f⟩ := tf
    simp only [gst] at h
    split at h <;> simp at h
    · rename_i e; simp only [gno, e]
    · rename_i e; simp only [gno, e]
    · rename_i e; simp only [gno, e]
def tkv (S : St) (o : EOp) : Option (AV × Prop) :=
  match gst S o.g with
  | some true => rd S o.o
  | some false => some (.un, True)
  | none => none
theorem tkv_tk {S : St} {o : EOp} {v : AV} {q : Prop} (h : tkv S o = some (v, q)) : tk S o v q := by
  unfold tkv at h
  split at h
  · rename_i e; exact .inl ⟨gst_true e, h⟩
  · rename_i e; simp at h; exact .inr (.inl ⟨gst_false e, h.1.symm⟩)
  · simp at h
/-- The first one that may be taken. -/
def gpick (ops : List EOp) (af nap : List (List Nat)) (ld : List Bool) (S : St) : List Nat → Option (Nat × AV × Prop)
  | [] => none
  | i :: l => match tkv S (eget ops i) with
    | some r => match andb (frB ld af i (nget nap i)) (match isLd (eget ops i).o with | true => stB ld af i ops 0 | false => true) with
      | true => some (i, r.1, r.2)
      | false => gpick ops af nap ld S l
    | none => gpick ops af nap ld S l
def grun (ops : List EOp) (af nap : List (List Nat)) : Nat → List Bool → St → Prop → Nat × List Bool × St × Prop
  | 0, ld, S, p => (0, ld, S, p)
  | m + 1, ld, S, p => match gpick ops af nap ld S (rdy ld af 0) with
    | some r => grun ops af nap m (bset ld r.1) (S.put (eget ops r.1).d r.2.1) (p ∧ r.2.2)
    | none => (m + 1, ld, S, p)
theorem gpick_spec {ops : List EOp} {af nap : List (List Nat)} {ld : List Bool} {S : St} : ∀ {l : List Nat} {i : Nat} {v : AV} {q : Prop}, gpick ops af nap ld S l = some (i, v, q) →
    i ∈ l ∧ tk S (eget ops i) v q ∧ frB ld af i (nget nap i) = true ∧ (isLd (eget ops i).o = true → stB ld af i ops 0 = true)
  | [], i, v, q, h => by simp [gpick] at h
  | j :: l, i, v, q, h => by
    simp only [gpick] at h
    split at h
    · rename_i r hr
      split at h
      · rename_i hc
        rw [andb_iff] at hc
        simp only [Option.some.injEq, Prod.mk.injEq] at h
        obtain ⟨rfl, rfl, rfl⟩ := h
        refine ⟨by simp, tkv_tk hr, hc.1, fun hl => ?_⟩
        have := hc.2
        rw [hl] at this; exact this
      · obtain ⟨h1, h2⟩ := gpick_spec h
        exact ⟨by simp [h1], h2⟩
    · obtain ⟨h1, h2⟩ := gpick_spec h
      exact ⟨by simp [h1], h2⟩
theorem G_run {c : Ctx} {all : Array Oper} {ops : List EOp} (hall : all.toList.mapM (cOp c.P all) = some ops) (hsel : Region.noSelect all = true) {Φ : St → Prop} :
    ∀ (m : Nat) (ld : List Bool) (S : St) (p : Prop), (grun ops (cAf all) (cNap all) m ld S p).2.2.2 →
      G c all ops (cAf all) Φ (grun ops (cAf all) (cNap all) m ld S p).1 (grun ops (cAf all) (cNap all) m ld S p).2.1 (grun ops (cAf all) (cNap all) m ld S p).2.2.1 → p ∧ G c all ops (cAf all) Φ m ld S
  | 0, ld, S, p, hp, h => ⟨hp, h⟩
  | m + 1, ld, S, p, hp, h => by
    simp only [grun] at hp h
    split at hp
    · rename_i r hr
      rw [hr] at h
      obtain ⟨i, v, q⟩ := r
      obtain ⟨h1, h2⟩ := G_run hall hsel m _ _ _ hp h
      obtain ⟨g1, g2, g3, g4⟩ := gpick_spec hr
      exact ⟨h1.1, G_take hall hsel i h1.2 m ld S g1 g2 g3 g4 h2⟩
    · rename_i hr
      rw [hr] at h
      exact ⟨hp, h⟩
/-- A region, its reading operations run. -/
theorem V_draw {c : Ctx} {S : St} {fn : Func} {K : AV → List (Option Blk) → List (Option Sl) → Prop} {k : List It} {ops : List EOp} {af nap : List (List Nat)} (hm : c.P.follows .mixedOrders = true)
    (h : ∀ all, all.toList.mapM (cOp c.P all) = some ops → Region.noSelect all = true → af = cAf all → nap = cNap all →
      (grun ops af nap (llen ops) (falses (llen ops)) S True).2.2.2 ∧ G c all ops af (fun S' => V c fn K k S') (grun ops af nap (llen ops) (falses (llen ops)) S True).1 (grun ops af nap (llen ops) (falses (llen ops)) S True).2.1 (grun ops af nap (llen ops) (falses (llen ops)) S True).2.2.1) :
    V c fn K (.code (.drw ops af nap) :: k) S :=
  V_drw hm fun all hall hs hnap haf => by
    have h0 := h all hall hs haf hnap
    subst haf; subst hnap
    exact (G_run hall hs _ _ _ True h0.1 h0.2).2
/-- Nothing is left to run. -/
theorem G_done {c : Ctx} {all : Array Oper} {ops : List EOp} {af : List (List Nat)} {Φ : St → Prop} {ld : List Bool} {S : St} (hr : rdy ld af 0 = []) (h : Φ S) : ∀ m, G c all ops af Φ m ld S
  | 0 => ⟨hr, h⟩
  | _ + 1 => ⟨fun _ => h, fun i hi => by rw [hr] at hi; simp at hi⟩

/-- On with the region. -/
theorem G_go {c : Ctx} {all : Array Oper} {ops : List EOp} {af nap : List (List Nat)} (hall : all.toList.mapM (cOp c.P all) = some ops) (hsel : Region.noSelect all = true) (haf : af = cAf all) (hnap : nap = cNap all) {Φ : St → Prop}
    {m : Nat} {ld : List Bool} {S : St} (h : (grun ops af nap m ld S True).2.2.2 ∧ G c all ops af Φ (grun ops af nap m ld S True).1 (grun ops af nap m ld S True).2.1 (grun ops af nap m ld S True).2.2.1) : G c all ops af Φ m ld S := by
  subst haf; subst hnap
  exact (G_run hall hsel _ _ _ True h.1 h.2).2
/-- One that may run next. -/
def GO (c : Ctx) (all : Array Oper) (ops : List EOp) (af : List (List Nat)) (Φ : St → Prop) (m : Nat) (ld : List Bool) (S : St) (i : Nat) : Prop :=
  (gno S (eget ops i).g ∧ G c all ops af Φ m (bset ld i) (S.put (eget ops i).d .un)) ∨
  (gm S (eget ops i).g ∧ ∃ v S1, (∀ ro, all[i]? = some ro → SemR c S ro v S1) ∧ S1.tm = S.tm ∧ keeps S S1 (eget ops i).o ∧ G c all ops af Φ m (bset ld i) (S1.put (eget ops i).d v))
section
variable {c : Ctx} {all : Array Oper} {ops : List EOp} {af : List (List Nat)} {Φ : St → Prop} {m : Nat} {ld : List Bool} {S : St}
theorem G_one (i : Nat) (hr : rdy ld af 0 = [i]) (h : GO c all ops af Φ m ld S i) : G c all ops af Φ (m + 1) ld S :=
  ⟨fun h0 => by rw [h0] at hr; simp at hr, fun j hj => by rw [hr] at hj; simp at hj; subst hj; exact h⟩
theorem G_two (i j : Nat) (hr : rdy ld af 0 = [i, j]) (h : GO c all ops af Φ m ld S i) (h2 : GO c all ops af Φ m ld S j) : G c all ops af Φ (m + 1) ld S :=
  ⟨fun h0 => by rw [h0] at hr; simp at hr, fun k hk => by rw [hr] at hk; simp at hk; rcases hk with rfl | rfl; exact h; exact h2⟩
theorem G_three (i j k : Nat) (hr : rdy ld af 0 = [i, j, k]) (h : GO c all ops af Φ m ld S i) (h2 : GO c all ops af Φ m ld S j) (h3 : GO c all ops af Φ m ld S k) : G c all ops af Φ (m + 1) ld S :=
  ⟨fun h0 => by rw [h0] at hr; simp at hr, fun l hl => by rw [hr] at hl; simp at hl; rcases hl with rfl | rfl | rfl; exact h; exact h2; exact h3⟩
theorem GO_sem (hall : all.toList.mapM (cOp c.P all) = some ops) {i : Nat} {v : AV} {S1 : St} (hg : gm S (eget ops i).g) (hs : Sem1 c S (eget ops i).o v S1) (htm : S1.tm = S.tm) (hk : keeps S S1 (eget ops i).o)
    (h : G c all ops af Φ m (bset ld i) (S1.put (eget ops i).d v)) : GO c all ops af Φ m ld S i :=
  .inr ⟨hg, v, S1, fun ro hro => hs ro (cOp_parts (op_at hall hro)).2, htm, hk, h⟩
theorem rowOf_append (S : St) (B : Option Blk) (tm ss) (j off n : Nat) (l : List AV) (h : rowOf S (.ptr j off) n = some l) : rowOf ⟨tm, S.bs ++ [B], ss⟩ (.ptr j off) n = some l := by
  simp only [rowOf] at h ⊢
  split at h
  · rename_i C hC
    have hlt := oget_lt hC
    rw [oget_append, if_neg (by omega), hC]; exact h
  · simp at h
theorem ev_tm {o : EO} {v : AV} {S1 : St} {q : Prop} (h : ev S o = some (v, S1, q)) : S1.tm = S.tm ∧ keeps S S1 o := by
  have same : S1 = S → S1.tm = S.tm ∧ keeps S S1 o := fun e => by subst e; exact ⟨rfl, keeps_refl _ _⟩
  cases o <;> simp only [ev, reduceCtorEq] at h
  case alloc T z =>
    split at h <;> simp at h
    obtain ⟨_, rfl, _⟩ := h
    exact ⟨rfl, fun j off n l h1 _ _ => rowOf_append S _ _ _ j off n l h1⟩
  case box T n x =>
    split at h
    · split at h <;> simp at h
      obtain ⟨_, rfl, _⟩ := h
      exact ⟨rfl, fun j off n l h1 _ _ => rowOf_append S _ _ _ j off n l h1⟩
    · simp at h
  case store n a x =>
    split at h
    · rename_i j off hj
      split at h
      · rename_i B hB
        split at h
        · split at h
          · simp only [Option.map_eq_some_iff, Prod.mk.injEq] at h
            obtain ⟨_, _, _, rfl, _⟩ := h
            refine ⟨rfl, fun j' off' n' l h1 _ h3 => ?_⟩
            have hne := h3 n a x j off rfl hj
            simp only [rowOf] at h1 ⊢
            rw [oget_oput, if_neg (fun e => hne e.1.symm)]
            exact h1
          · simp at h
        · simp at h
      · simp at h
    · simp at h
  case eqs ng ks x y =>
    split at h
    · simp only [Option.map_eq_some_iff, Prod.mk.injEq] at h
      obtain ⟨_, _, _, rfl, _⟩ := h
      exact same rfl
    · simp at h
  case bq ng x y => split at h <;> simp at h; exact same h.2.1.symm
  case bsl T n len z ps =>
    split at h
    · split at h <;> simp at h
      obtain ⟨_, rfl, _⟩ := h
      exact ⟨rfl, fun j off n l h1 _ _ => h1⟩
    · simp at h
  case conv k x => cases k <;> simp only [reduceCtorEq] at h; split at h <;> simp at h; exact same h.2.1.symm
  case field off n x =>
    cases n <;> simp only at h <;> split at h <;> simp at h <;> obtain ⟨_, _, _, h, _⟩ := h <;> exact same h.symm
  case mv x => simp at h; exact same h.2.1.symm
  case pick p x y => split at h <;> simp at h <;> exact same h.2.1.symm
  case load x => simp at h; obtain ⟨_, _, _, h, _⟩ := h; exact same h.symm
  case loadA n x => simp at h; obtain ⟨_, _, _, h, _⟩ := h; exact same h.symm
  case nilchk x => split at h <;> simp at h <;> exact same h.2.1.symm
  case bin op x y => split at h <;> simp at h; obtain ⟨_, _, _, _, h, _⟩ := h; exact same h.symm
  case not x => split at h <;> simp at h <;> exact same h.2.1.symm
  case neg x => split at h <;> simp at h; exact same h.2.1.symm
  case fld off x => split at h <;> simp at h <;> exact same h.2.1.symm
  case build z ps => simp at h; obtain ⟨_, _, _, h, _⟩ := h; exact same h.symm
  case ext x k => split at h <;> simp at h; obtain ⟨_, _, _, h, _⟩ := h; exact same h.symm
  case mkf f caps => simp at h; exact same h.2.1.symm
  case len x =>
    split at h
    · simp at h; exact same h.2.1.symm
    · simp at h; exact same h.2.1.symm
    · split at h <;> simp at h; exact same h.2.1.symm
    · simp at h
  case mm mx xs => split at h <;> simp at h; obtain ⟨_, _, _, h, _⟩ := h; exact same h.symm
def geO (S : St) (o : EOp) : Option (AV × St × Prop) :=
  match gst S o.g with
  | some true => ev S o.o
  | _ => none
/-- It runs by the state alone. -/
theorem GO_ev (hall : all.toList.mapM (cOp c.P all) = some ops) {i : Nat} {v : AV} {S1 : St} {q : Prop} (he : geO S (eget ops i) = some (v, S1, q)) (hq : q)
    (h : G c all ops af Φ m (bset ld i) (S1.put (eget ops i).d v)) : GO c all ops af Φ m ld S i := by
  unfold geO at he
  split at he
  · rename_i hg
    exact GO_sem hall (gst_true hg) (sem_ev he hq) (ev_tm he).1 (ev_tm he).2 h
  · simp at he
/-- It is a call of a function that only computes. -/
theorem GO_call (hall : all.toList.mapM (cOp c.P all) = some ops) {i f : Nat} {xs : List X} {args : List AV} {res : AV} (ho : (eget ops i).o = .call f xs) (hg : gm S (eget ops i).g) (hf : FunP c.P f args res)
    (ha : AV.le.leL (mapX S xs) args := by first | exact leL_refl _ | simp [go_sem]) (hp : puL args = true := by first | rfl | simp [go_sem]) (h : G c all ops af Φ m (bset ld i) (S.put (eget ops i).d res)) : GO c all ops af Φ m ld S i :=
  GO_sem hall hg (by rw [ho]; exact sem_call hf ha hp) rfl (keeps_refl _ _) h
theorem GO_callv (hall : all.toList.mapM (cOp c.P all) = some ops) {i f : Nat} {o : X} {xs : List X} {caps args : List AV} {res : AV} (ho : (eget ops i).o = .callv o xs) (hg : gm S (eget ops i).g) (hx : S.x o = .clo f caps) (hf : FunP c.P f args res)
    (hfn : (c.P.funcs[f]?).any (fun fn => fn.body.isSome && !(fn.name == "runtime.NumGoroutine")) = true) (ha : AV.le.leL (mapX S xs ++ caps) args := by first | exact leL_refl _ | simp [go_sem]) (hp : puL args = true := by first | rfl | simp [go_sem])
    (h : G c all ops af Φ m (bset ld i) (S.put (eget ops i).d res)) : GO c all ops af Φ m ld S i :=
  GO_sem hall hg (by rw [ho]; exact sem_callv hx hf hfn ha hp) rfl (keeps_refl _ _) h
theorem GO_idx (hall : all.toList.mapM (cOp c.P all) = some ops) {i n k : Nat} {x y : X} {rows : List (List AV)} {j : Int} (row : List AV) (ho : (eget ops i).o = .idx n x y) (hg : gm S (eget ops i).g) (hx : S.x x = .sl k rows) (hi : S.x y = .iv j) (hmn : k = n)
    (h0 : 0 ≤ j) (hr : rows[j.toNat]? = some row) (h : G c all ops af Φ m (bset ld i) (S.put (eget ops i).d (.elt row 0))) : GO c all ops af Φ m ld S i :=
  GO_sem hall hg (by rw [ho]; exact sem_idx row hx hi hmn h0 hr) rfl (keeps_refl _ _) h
/-- An element of a slice that nobody writes, taken first. -/
theorem G_idx {nap : List (List Nat)} (hall : all.toList.mapM (cOp c.P all) = some ops) (hsel : Region.noSelect all = true) (haf : af = cAf all) (hnap : nap = cNap all) (i : Nat) {n k : Nat} {x y : X} {rows : List (List AV)} {j : Int} (row : List AV)
    (hi : memN i (rdy ld af 0) = true) (ho : (eget ops i).o = .idx n x y) (hg : gm S (eget ops i).g) (hx : S.x x = .sl k rows) (hy : S.x y = .iv j) (hmn : k = n) (h0 : 0 ≤ j) (hr : rows[j.toNat]? = some row)
    (hf : frB ld af i (nget nap i) = true) (h : G c all ops af Φ m (bset ld i) (S.put (eget ops i).d (.elt row 0))) : G c all ops af Φ (m + 1) ld S := by
  subst haf; subst hnap
  exact G_take hall hsel i (q := True) trivial m ld S ((memN_iff _ _).1 hi) (.inr (.inr ⟨hg, n, x, y, k, rows, j, row, ho, hx, hy, hmn, h0, hr, rfl⟩)) hf (fun hl => by rw [ho] at hl; simp [isLd] at hl) h
end
end NX
end Go.Proofs.Ytadebhbiglmodaa
/-
  The symbolic machine: what grows. No statement of the seat is proved here.
-/
namespace Go.Proofs.Ytadebhbiglmodaa
namespace NX
open Go Go.RowKit

theorem ownsRow_base {w : World} {b b' e sz n : Nat} {v : Value} {xs : List Value} (h : w.ownsRow b e sz v n xs) (hb : ∀ g, v.ownBlock = some g → b' ≤ g) : w.ownsRow b' e sz v n xs := by
  refine ⟨h.1, h.2.imp id ?_⟩
  rintro ⟨g, cap, cur, rfl, h2, h3⟩
  exact ⟨g, cap, cur, rfl, hb g rfl, h3⟩
/-- What is appended: nothing, or rows in memory. -/
def Src (w : World) (sz : Nat) (u : Value) (m : Nat) (news : List Value) : Prop :=
  news.length = m * sz ∧ (u = .slice none 0 0 ∧ m = 0 ∨ ∃ a c, u = .slice (some a) m c ∧ ∀ (j : Nat) x, news[j]? = some x → w.cell? (a.add j) = some x)
theorem app_run {P : Program} {w : World} {t ty e : TypeId} {i : TypeInfo} {z : Value} (hu : P.underlying t = some (.slice e)) (hi : P.info? e = some i) (hz : i.zero = some z) (hsz : z.cells.size = i.size) (h0 : 0 < i.size)
    {v : Value} {len : Nat} {xs : List Value} (hown : w.ownsRow 0 e i.size v len xs) {u : Value} {m : Nat} {news : List Value} (hsrc : Src w i.size u m news) (h1 : ∀ x ∈ news, x.oneCell' = true)
    (h63 : len + m ≤ maxLen) (hb : (len + m) * i.bytes ≤ 140737488355328) :
    ∃ v' w', (Builtin.append_ #[t, t] ty #[v, u]).run P w = .ok v' w' ∧ w'.ownsRow 0 e i.size v' (len + m) (xs ++ news) ∧ w.grownBy w' v.ownBlock ∧ (v'.ownBlock = v.ownBlock ∨ ∀ g, v'.ownBlock = some g → w.heap.size ≤ g) := by
  obtain ⟨hl, hs⟩ := hsrc
  rcases hs with ⟨rfl, rfl⟩ | ⟨a, c, rfl, hc⟩
  · have hn : news = [] := List.length_eq_zero_iff.1 (by simpa using hl)
    subst hn
    refine ⟨v, w, run_append_owned_none w 0 t ty e i i.size hu hi v len xs hown, by simpa using hown, ⟨rfl, rfl, rfl, Nat.le_refl _, fun _ _ _ => rfl⟩, .inl rfl⟩
  · obtain ⟨v', w', r1, r2, r3, _⟩ := run_append_own (P := P) w 0 t ty e i z i.size i.bytes hu hi hz rfl rfl hsz h0 v len xs hown a m c news hl hc h1 h63 hb (Nat.zero_le _)
    refine ⟨v', w', r1, r2, r3, ?_⟩
    rcases hown.2 with ⟨rfl, rfl⟩ | ⟨g, cap, cur, rfl, hbg, hg, hnc, hcm, hcs, htake⟩
    · obtain ⟨v2, w2, q1, q2, _, _⟩ := run_append_own (P := P) w w.heap.size t ty e i z i.size i.bytes hu hi hz rfl rfl hsz h0 (.slice none 0 0) 0 xs ⟨hown.1, .inl ⟨rfl, rfl⟩⟩ a m c news hl hc h1 h63 hb (Nat.le_refl _)
      rw [r1] at q1
      simp only [Result.ok.injEq] at q1
      obtain ⟨rfl, rfl⟩ := q1
      right
      intro g hg
      exact (World.ownsRow.lt q2 g hg).1
    · by_cases hroom : len + m ≤ cap
      · have hfit : len * i.size + news.length ≤ cur.size := by rw [hl, hcs, ← Nat.add_mul]; exact Nat.mul_le_mul_right _ hroom
        have hr := run_append_room (P := P) w t ty e i hu hi g len cap cur hg a m c news hl hc h1 hroom hfit
        rw [r1] at hr
        simp only [Result.ok.injEq] at hr
        obtain ⟨rfl, _⟩ := hr
        exact .inl rfl
      · have holds : ∀ j u, xs[j]? = some u → w.cell? ((⟨g, 0, none⟩ : Addr).add j) = some u := hown.cells (g := g) rfl
        have hr := run_append_grow (P := P) w t ty e i z hu hi hz ⟨g, 0, none⟩ len cap xs hown.1 holds a m c news hl hc (by omega) (by simp only [maxLen] at h63; omega) (growslice_fits (by omega) hb)
        rw [r1] at hr
        simp only [Result.ok.injEq] at hr
        obtain ⟨rfl, _⟩ := hr
        right
        intro g' hg'
        simp [Value.ownBlock] at hg'
        omega
theorem isLL_append {M : Mem} {n : Nat} : ∀ {a b : List (List AV)} {x y : List (List Value)}, AV.isLL M n a x → AV.isLL M n b y → AV.isLL M n (a ++ b) (x ++ y)
  | [], _, _, _, h, k => by simp [AV.isLL] at h; subst h; simpa using k
  | _ :: _, _, _, _, ⟨v, r, h0, h1, h2, h3⟩, k => by subst h0; exact ⟨v, r ++ _, rfl, h1, h2, isLL_append h3 k⟩
theorem isLL_flat {M : Mem} {n : Nat} : ∀ {a : List (List AV)} {x : List (List Value)}, AV.isLL M n a x → x.flatten.length = a.length * n
  | [], _, h => by simp [AV.isLL] at h; subst h; simp
  | _ :: a, _, ⟨v, r, h0, h1, h2, h3⟩ => by
    subst h0
    have := isLL_flat h3
    rw [List.flatten_cons, List.length_append, this, h1, List.length_cons, Nat.add_mul, Nat.one_mul, Nat.add_comm]

section
variable {c : Ctx} {M : Mem} {S S' : St} {a : Act} {w : World} {fn : Func} {K : AV → List (Option Blk) → List (Option Sl) → Prop} {k : List It}
/-- What 'srcRows' says, in memory. -/
theorem src_of (hT : RelT c M S a w) {x : AV} {u : Value} (hx : x.is M u) {n : Nat} {rows : List (List AV)} (h : srcRows S n x = some rows) :
    ∃ vss, AV.isLL M.pure n rows vss ∧ Src w n u rows.length vss.flatten ∧ ∀ v ∈ vss.flatten, v.oneCell' = true := by
  unfold srcRows at h
  split at h
  · simp at h; subst h
    simp only [AV.is] at hx; subst hx
    exact ⟨[], rfl, ⟨by simp, .inl ⟨rfl, rfl⟩⟩, by simp⟩
  · rename_i m rows'
    split at h <;> simp at h
    rename_i hm
    simp at hm
    subst h; subst hm
    obtain ⟨ad, cp, rfl, ⟨h1, h2⟩, h3⟩ := hx
    by_cases hne : rows' = []
    · subst hne
      refine ⟨[], rfl, ⟨by simp, ?_⟩, by simp⟩
      cases ad with
      | none => left; rw [h2 rfl]; exact ⟨rfl, rfl⟩
      | some ad => right; exact ⟨ad, cp, rfl, by simp⟩
    · obtain ⟨ad, vss, rfl, g1, g2⟩ := h3 hne
      refine ⟨vss, g1, ⟨isLL_flat g1, .inr ⟨ad, cp, rfl, fun j x hj => ?_⟩⟩, g2.2.1⟩
      have hsp := g2.1
      have := cell_at hT.st g2 j x hj
      obtain ⟨b, o, sp⟩ := ad
      dsimp only at hsp
      subst hsp
      rw [Addr.add_lit]; exact this
  · rename_i j
    split at h
    · rename_i L hL
      split at h <;> simp at h
      rename_i hm
      simp at hm
      subst h; subst hm
      obtain ⟨_, vss, g1, g2, g3, _⟩ := hT.st.slc j L hL
      refine ⟨vss, g1, ⟨isLL_flat g1, ?_⟩, g2⟩
      rw [hx.2]
      rcases g3.2 with ⟨e1, e2⟩ | ⟨g, cp, cur, e1, _⟩
      · left; exact ⟨e1, e2⟩
      · right
        refine ⟨⟨g, 0, none⟩, cp, e1, fun j x hj => ?_⟩
        exact World.ownsRow.cells g3 (g := g) (by rw [e1]; rfl) j x hj
    · simp at h
  · simp at h
theorem app_exec {P : Program} {w w' : World} {t : TypeId} {p q : Operand} {ρ : Operand → Value} {v : Value} (d : Option Tmp) (ty : TypeId) (pos : String) (af : Array Edge) (gg : Option (Nat × Bool))
    (h : (Builtin.append_ #[t, t] ty #[ρ p, ρ q]).run P w = .ok v w') : (execOp ρ ⟨d, .call ⟨.builtin .append, #[p, q], #[t, t]⟩, ty, pos, af, gg⟩).run P w = .ok (.value v) w' := by
  simp [execOp, resolve, invoke, builtin, h]
/-- Behind an append: the old slice is not known any more, the new one is. -/
theorem RelS.grown (h : RelS c M S.bs S.ss w) {w' : World} {v v' : Value} {L : Sl} {vss : List (List Value)} {ss : List (Option Sl)}
    (hlen : ss.length = S.ss.length) (hsub : ∀ j N, oget ss j = some N → oget S.ss j = some N ∧ ∀ g, v.ownBlock = some g → (M.σ j).ownBlock ≠ some g)
    (hv : v.ownBlock = none ∨ ∀ i B, oget S.bs i = some B → v.ownBlock ≠ some (M.ρ i)) (hvm : ∀ g, v.ownBlock = some g → Mine c g ∧ M.H g = none)
    (hg : w.grownBy w' v.ownBlock) (hnew : v'.ownBlock = v.ownBlock ∨ ∀ g, v'.ownBlock = some g → w.heap.size ≤ g)
    (h0 : 0 < L.n) (h1 : AV.isLL M.pure L.n L.rows vss) (h2 : ∀ x ∈ vss.flatten, x.oneCell' = true) (h3 : w'.ownsRow 0 L.T L.n v' L.rows.length vss.flatten) :
    RelS c (M.addS v') S.bs (ss ++ [some L]) w' := by
  have hkeep : ∀ k, k < w.heap.size → v.ownBlock ≠ some k → w'.heap[k]? = w.heap[k]? := fun k hk hne => hg.block k hk (fun e => hne e.symm)
  have base : RelS c M S.bs ss w' := by
    refine ⟨h.nb, by rw [h.ns, hlen], h.so, hg.os.trans h.os, hg.tape.trans h.tape, hg.output.trans h.output, Nat.le_trans h.size hg.size, ?_, ?_, h.hold, ?_, ?_, h.d1, ?_, ?_, h.pin⟩
    · intro k hk hb
      rw [hkeep k (Nat.lt_of_lt_of_le hk h.size)]
      · exact h.block k hk hb
      · intro e
        rcases (hvm k e).1 with h | h
        · omega
        · exact hb h
    · intro k o hk
      rw [hkeep k (Array.getElem?_eq_some_iff.1 (h.hle k o hk)).1]
      · exact h.hle k o hk
      · intro e; rw [(hvm k e).2] at hk; simp at hk
    · intro j B hj
      obtain ⟨g1, g2, vs, g3, g4, g5⟩ := h.blk j B hj
      refine ⟨g1, g2, vs, g3, ?_, g5⟩
      rw [hkeep _ (h.blk_lt hj)]
      · exact g4
      · rcases hv with hv | hv
        · rw [hv]; simp
        · exact hv j B hj
    · intro j N hj
      obtain ⟨hj, hne⟩ := hsub j N hj
      obtain ⟨q0, us, q1, q2, q3, q4⟩ := h.slc j N hj
      refine ⟨q0, us, q1, q2, World.ownsRow.kept q3 hg ?_, q4⟩
      cases hvb : v.ownBlock with
      | none => 
        cases ho : (M.σ j).ownBlock with
        | none => exact .inl rfl
        | some g => right; simp
      | some g => right; exact hne g hvb
    · intro i j B N hi hj
      exact h.d2 i j B N hi (hsub j N hj).1
    · intro i j N O g hi hj e1 e2
      exact h.d3 i j N O g (hsub i N hi).1 (hsub j O hj).1 e1 e2
  refine base.name L v' vss h0 h1 h2 h3 ?_ ?_ ?_
  · intro g hgb
    rcases hnew with e | e
    · exact hvm g (by rw [← e]; exact hgb)
    · exact ⟨.inl (Nat.le_trans h.size (e g hgb)), h.Hnew (e g hgb)⟩
  · intro i B hi e
    rcases hnew with e1 | e1
    · rw [e1] at e
      rcases hv with hv | hv
      · rw [hv] at e; simp at e
      · exact hv i B hi e
    · have := e1 _ e
      have := h.blk_lt hi
      omega
  · intro j N g hj e1 e2
    obtain ⟨hj, hne⟩ := hsub j N hj
    rcases hnew with e3 | e3
    · exact hne g (by rw [← e3]; exact e1) e2
    · have := e3 g e1
      have := h.slc_lt hj e2
      omega
/-- The state behind an append onto the own slice 'j'. -/
def St.app (S : St) (j : Nat) (L : Sl) : St := ⟨S.tm, S.bs, oput S.ss j none ++ [some L]⟩
def St.app0 (S : St) (L : Sl) : St := ⟨S.tm, S.bs, S.ss ++ [some L]⟩
attribute [go_sem] St.app St.app0
theorem sem_app {e n b j : Nat} {x y : X} {L : Sl} {rows : List (List AV)} (hx : S.x x = .osl j) (hj : oget S.ss j = some L) (hT : L.T = e) (hn : L.n = n) (hy : srcRows S n (S.x y) = some rows)
    (hb : (L.rows.length + rows.length) * b ≤ 140737488355328) (hb2 : L.rows.length + rows.length ≤ 9223372036854775807) : Sem1 c S (.app e n b x y) (.osl (llen S.ss)) (S.app j ⟨e, n, L.rows ++ rows⟩) := by
  intro ro hop M a w hRT next Q hnx
  obtain ⟨dst, op, ty, pos, af, gd⟩ := ro
  dsimp only at hop
  obtain ⟨t, p, q, i, z, rfl, hu, hi, hz, hsz, hbz, hzc, hn0, rfl, rfl⟩ := cO_app hop
  subst hT; subst hn
  have h1 := X_is hRT p
  have h2 := X_is hRT q
  rw [hx] at h1
  obtain ⟨vss, g1, g2, g3⟩ := src_of hRT h2 hy
  have hS := hRT.st
  obtain ⟨k0, us, k1, k2, k3, k4⟩ := hS.slc j L hj
  have k3' := k3
  rw [← h1.2] at k3'
  obtain ⟨v', w', r1, r2, r3, r4⟩ := app_run (ty := ty) hu hi hz (by rw [hzc, hsz]) (by omega) (by rw [hsz]; exact k3') (by rw [hsz]; exact g2) g3 (by unfold maxLen; omega) (by rw [hbz]; exact hb)
  rw [hsz] at r2
  have hrun := app_exec dst ty pos af gd r1
  unfold Oper.wp
  rw [hrun]
  rw [h1.2] at r3 r4
  have hr : RelS c (M.addS v') S.bs (oput S.ss j none ++ [some (⟨L.T, L.n, L.rows ++ rows⟩ : Sl)]) w' := by
    refine RelS.grown (v := M.σ j) (vss := us ++ vss) hS (length_oput _ _ _) ?_ ?_ k4 r3 r4 k0 (isLL_append k1 g1) ?_ ?_
    · intro i N hi
      rw [oget_oput] at hi
      split at hi
      · simp at hi
      · rename_i e
        refine ⟨hi, fun g hg e2 => e ⟨?_, oget_lt hj⟩⟩
        exact hS.d3 i j N L g hi hj e2 hg
    · right; intro i B hi; exact hS.d2 i j B L hi hj
    · intro x hx
      rw [List.flatten_append, List.mem_append] at hx
      rcases hx with hx | hx
      · exact k2 x hx
      · exact g3 x hx
    · rw [List.flatten_append, List.length_append]; exact r2
  refine hnx (M.addS v') w' v' (Mem.le_addS M v') hr ?_
  rw [llen_eq, ← hS.ns]
  exact ⟨Nat.lt_succ_self _, by simp [Mem.addS]⟩
/-- .. onto nothing. -/
theorem sem_app0 {e n b : Nat} {x y : X} {rows : List (List AV)} (hx : S.x x = .nl) (hy : srcRows S n (S.x y) = some rows)
    (hb : rows.length * b ≤ 140737488355328) (hb2 : rows.length ≤ 9223372036854775807) : Sem1 c S (.app e n b x y) (.osl (llen S.ss)) (S.app0 ⟨e, n, rows⟩) := by
  intro ro hop M a w hRT next Q hnx
  obtain ⟨dst, op, ty, pos, af, gd⟩ := ro
  dsimp only at hop
  obtain ⟨t, p, q, i, z, rfl, hu, hi, hz, hsz, hbz, hzc, hn0, rfl, rfl⟩ := cO_app hop
  have h1 := X_is hRT p
  have h2 := X_is hRT q
  rw [hx] at h1
  simp only [AV.is] at h1
  obtain ⟨vss, g1, g2, g3⟩ := src_of hRT h2 hy
  have hS := hRT.st
  obtain ⟨v', w', r1, r2, r3, r4⟩ := app_run (w := w) (ty := ty) (v := a.eval p) (len := 0) (xs := []) hu hi hz (by rw [hzc, hsz]) (by omega) (by rw [h1]; exact World.ownsRow_nil _ _ _ _) (by rw [hsz]; exact g2) g3 (by unfold maxLen; omega) (by rw [hbz, Nat.zero_add]; exact hb)
  rw [hsz, Nat.zero_add, List.nil_append] at r2
  have hrun := app_exec dst ty pos af gd r1
  unfold Oper.wp
  rw [hrun]
  rw [h1] at r3 r4
  have hr : RelS c (M.addS v') S.bs (S.ss ++ [some (⟨e, n, rows⟩ : Sl)]) w' := by
    refine RelS.grown (v := .slice none 0 0) (vss := vss) hS rfl ?_ (.inl rfl) ?_ r3 r4 hn0 g1 g3 r2
    · intro i N hi; exact ⟨hi, fun g hg => by simp [Value.ownBlock] at hg⟩
    · intro g hg; simp [Value.ownBlock] at hg
  refine hnx (M.addS v') w' v' (Mem.le_addS M v') hr ?_
  rw [llen_eq, ← hS.ns]
  exact ⟨Nat.lt_succ_self _, by simp [Mem.addS]⟩
theorem V_app {d : Option Nat} {g : Option (Nat × Bool)} {l : List EOp} {e n b j : Nat} {x y : X} {L : Sl} {rows : List (List AV)} (hg : gm S g) (hx : S.x x = .osl j) (hj : oget S.ss j = some L) (hT : L.T = e) (hn : L.n = n) (hy : srcRows S n (S.x y) = some rows)
    (hb : (L.rows.length + rows.length) * b ≤ 140737488355328) (hb2 : L.rows.length + rows.length ≤ 9223372036854775807)
    (h : V c fn K (.ops l :: k) ((S.app j ⟨e, n, L.rows ++ rows⟩).put d (.osl (llen S.ss)))) : V c fn K (.ops (⟨d, g, .app e n b x y⟩ :: l) :: k) S :=
  V_sem hg (sem_app hx hj hT hn hy hb hb2) rfl h
theorem V_app0 {d : Option Nat} {g : Option (Nat × Bool)} {l : List EOp} {e n b : Nat} {x y : X} {rows : List (List AV)} (hg : gm S g) (hx : S.x x = .nl) (hy : srcRows S n (S.x y) = some rows)
    (hb : rows.length * b ≤ 140737488355328) (hb2 : rows.length ≤ 9223372036854775807)
    (h : V c fn K (.ops l :: k) ((S.app0 ⟨e, n, rows⟩).put d (.osl (llen S.ss)))) : V c fn K (.ops (⟨d, g, .app e n b x y⟩ :: l) :: k) S :=
  V_sem hg (sem_app0 hx hy hb hb2) rfl h
theorem GO_app {all : Array Oper} {ops : List EOp} {af : List (List Nat)} {Φ : St → Prop} {m : Nat} {ld : List Bool} (hall : all.toList.mapM (cOp c.P all) = some ops) {i e n b j : Nat} {x y : X} {L : Sl} {rows : List (List AV)} (ho : (eget ops i).o = .app e n b x y) (hg : gm S (eget ops i).g)
    (hx : S.x x = .osl j) (hj : oget S.ss j = some L) (hT : L.T = e) (hn : L.n = n) (hy : srcRows S n (S.x y) = some rows)
    (hb : (L.rows.length + rows.length) * b ≤ 140737488355328) (hb2 : L.rows.length + rows.length ≤ 9223372036854775807)
    (h : G c all ops af Φ m (bset ld i) ((S.app j ⟨e, n, L.rows ++ rows⟩).put (eget ops i).d (.osl (llen S.ss)))) : GO c all ops af Φ m ld S i :=
  GO_sem (S1 := S.app j ⟨e, n, L.rows ++ rows⟩) hall hg (by rw [ho]; exact sem_app hx hj hT hn hy hb hb2) rfl (by rw [ho]; exact fun _ _ _ _ h _ _ => h) h
end
mutual
/-- An own slice gets another name. -/
theorem ren_is {M M' : Mem} {p q : Nat} (hM : M'.pure = M.pure) (hb : M'.nb = M.nb) (hs : M'.ns = M.ns) (hρ : ∀ i, M'.ρ i = M.ρ i) (hσ : ∀ i, i ≠ q → M'.σ i = M.σ i) (hq : M'.σ q = M.σ p) (hqn : q < M.ns) (hH : M'.H = M.H) :
    ∀ (x : AV) (v : Value), x.is M v → (AV.ren p q x).is M' v
  | .any, _, _ => trivial
  | .un, _, k => k
  | .tt, _, k => k
  | .ff, _, k => k
  | .bv _, _, k => k
  | .iv _, _, k => k
  | .kv _ _, _, k => k
  | .sv _, _, k => k
  | .nl, _, k => k
  | .nlp, _, k => k
  | .fn _, _, k => k
  | .ptr i o, _, k => ⟨by rw [hb]; exact k.1, by rw [hρ i]; exact k.2⟩
  | .osl i, v, k => by
    simp only [AV.ren]
    split
    · rename_i h; simp at h; subst h; exact ⟨by rw [hs]; exact hqn, by rw [hq]; exact k.2⟩
    · split
      · trivial
      · rename_i h; simp at h; exact ⟨by rw [hs]; exact k.1, by rw [hσ i h]; exact k.2⟩
  | .oel i a b, v, k => by
    simp only [AV.ren]
    split
    · rename_i h; simp at h; subst h; exact ⟨by rw [hs]; exact hqn, by rw [hq]; exact k.2⟩
    · split
      · trivial
      · rename_i h; simp at h; exact ⟨by rw [hs]; exact k.1, by rw [hσ i h]; exact k.2⟩
  | .elt row o, _, ⟨a, vs, h1, h2, h3⟩ => ⟨a, vs, h1, by rw [hM]; exact h2, by rw [hH]; exact h3⟩
  | .sl n rows, _, ⟨a, c, h1, h2, h3⟩ => ⟨a, c, h1, h2, fun hne => let ⟨ad, vss, g1, g2, g3⟩ := h3 hne; ⟨ad, vss, g1, by rw [hM]; exact g2, by rw [hH]; exact g3⟩⟩
  | .agg l, _, ⟨vs, h1, h2⟩ => ⟨vs, h1, renL_is hM hb hs hρ hσ hq hqn hH l vs h2⟩
  | .tup l, _, ⟨vs, h1, h2⟩ => ⟨vs, h1, renL_is hM hb hs hρ hσ hq hqn hH l vs h2⟩
  | .clo _ l, _, ⟨vs, h1, h2⟩ => ⟨vs, h1, renL_is hM hb hs hρ hσ hq hqn hH l vs h2⟩
theorem renL_is {M M' : Mem} {p q : Nat} (hM : M'.pure = M.pure) (hb : M'.nb = M.nb) (hs : M'.ns = M.ns) (hρ : ∀ i, M'.ρ i = M.ρ i) (hσ : ∀ i, i ≠ q → M'.σ i = M.σ i) (hq : M'.σ q = M.σ p) (hqn : q < M.ns) (hH : M'.H = M.H) :
    ∀ (l : List AV) (vs : List Value), AV.isL M l vs → AV.isL M' (renL p q l) vs
  | [], _, k => k
  | x :: l, _, ⟨v, vs, h1, h2, h3⟩ => ⟨v, vs, h1, ren_is hM hb hs hρ hσ hq hqn hH x v h2, renL_is hM hb hs hρ hσ hq hqn hH l vs h3⟩
end
theorem renL_get (p q : Nat) : ∀ (l : List AV) (t : Nat), lget (renL p q l) t = AV.ren p q (lget l t)
  | [], _ => rfl
  | _ :: _, 0 => rfl
  | _ :: l, t + 1 => renL_get p q l t
theorem renL_length (p q : Nat) : ∀ (l : List AV), (renL p q l).length = l.length
  | [] => rfl
  | _ :: l => by simp [renL, renL_length p q l]
section
variable {c : Ctx} {S : St} {fn : Func} {K : AV → List (Option Blk) → List (Option Sl) → Prop} {k : List It}
/-- The own slice 'p' is called 'q' from now on. -/
theorem V_ren (p q : Nat) {L : Sl} (hp : oget S.ss p = some L) (hq : leb (q + 1) (llen S.ss) = true) (hpq : (p == q) = false) (h : V c fn K k (S.renS p q L)) (hqn : leb c.nq q = true := by rfl) : V c fn K k S := by
  intro rk M a w hc hT
  have hS := hT.st
  rw [leb_iff, llen_eq] at hq
  have hne : p ≠ q := by simpa using hpq
  have hpn := oget_lt hp
  let M' : Mem := { M with σ := fun i => if i = q then M.σ p else M.σ i }
  have hq' : M'.σ q = M.σ p := if_pos rfl
  have hσ : ∀ i, i ≠ q → M'.σ i = M.σ i := fun i hi => if_neg hi
  have hsub := ren_is (M := M) (M' := M') (p := p) (q := q) rfl rfl rfl (fun _ => rfl) hσ hq' (by rw [hS.ns]; omega) rfl
  have hsubL := renL_is (M := M) (M' := M') (p := p) (q := q) rfl rfl rfl (fun _ => rfl) hσ hq' (by rw [hS.ns]; omega) rfl
  have live : ∀ i N, oget (oput (oput S.ss p none) q (some L)) i = some N → (i = q ∧ N = L) ∨ (i ≠ q ∧ i ≠ p ∧ oget S.ss i = some N) := by
    intro i N hi
    rw [oget_oput, oget_oput, length_oput] at hi
    split at hi
    · rename_i e; left; exact ⟨e.1, by simpa using hi.symm⟩
    · rename_i e
      split at hi
      · simp at hi
      · rename_i e2
        right; exact ⟨fun x => e ⟨x, by omega⟩, fun x => e2 ⟨x, hpn⟩, hi⟩
  have back : ∀ i N, oget (oput (oput S.ss p none) q (some L)) i = some N → ∃ i', oget S.ss i' = some N ∧ M'.σ i = M.σ i' ∧ (i = q → i' = p) ∧ (i ≠ q → i' = i ∧ i ≠ p) := by
    intro i N hi
    rcases live i N hi with ⟨rfl, rfl⟩ | ⟨h1, h2, h3⟩
    · exact ⟨p, hp, hq', fun _ => rfl, fun h => absurd rfl h⟩
    · exact ⟨i, h3, hσ i h1, fun h => absurd h h1, fun _ => ⟨rfl, h2⟩⟩
  refine h rk M' a w hc ⟨by simp only [St.renS, renL_length]; exact hT.len, fun t => ?_, hT.df, ?_⟩
  · simp only [St.renS, renL_get]
    exact hsub _ _ (hT.tm t)
  refine ⟨by simp only [St.renS, mapB_length]; exact hS.nb, by simp only [St.renS, length_oput]; exact hS.ns, ?_, hS.os, hS.tape, hS.output, hS.size, hS.block, hS.hle, hS.hold, ?_, ?_, ?_, ?_, ?_, ⟨hS.pin.nb, hS.pin.ρ, hS.pin.ns, fun j hj => by rw [hσ j (by rw [leb_iff] at hqn; omega)]; exact hS.pin.σ j hj⟩⟩
  · intro i hi
    by_cases e : i = q
    · rw [e, hq']; exact hS.so p (by rw [hS.ns]; exact hpn)
    · rw [hσ i e]; exact hS.so i hi
  · intro i B hi
    obtain ⟨C, hC, rfl⟩ := mapB_get _ _ _ _ hi
    obtain ⟨g1, g2, vs, g3, g4, g5⟩ := hS.blk i C hC
    exact ⟨g1, g2, vs, hsubL _ _ g3, g4, g5⟩
  · intro i N hi
    obtain ⟨i', h1, h2, _⟩ := back i N hi
    rw [h2]; exact hS.slc i' N h1
  · intro i t B C hi ht e
    obtain ⟨B', hB, _⟩ := mapB_get _ _ _ _ hi
    obtain ⟨C', hC, _⟩ := mapB_get _ _ _ _ ht
    exact hS.d1 i t B' C' hB hC e
  · intro i t B N hi ht
    obtain ⟨B', hB, _⟩ := mapB_get _ _ _ _ hi
    obtain ⟨t', h1, h2, _⟩ := back t N ht
    rw [h2]; exact hS.d2 i t' B' N hB h1
  · intro i t N O g hi ht e1 e2
    obtain ⟨i', h1, h2, h3, h4⟩ := back i N hi
    obtain ⟨t', k1, k2, k3, k4⟩ := back t O ht
    rw [h2] at e1; rw [k2] at e2
    have e := hS.d3 i' t' N O g h1 k1 e1 e2
    by_cases hiq : i = q <;> by_cases htq : t = q
    · rw [hiq, htq]
    · have := h3 hiq; have := (k4 htq).1; have := (k4 htq).2; omega
    · have := k3 htq; have := (h4 hiq).1; have := (h4 hiq).2; omega
    · have := (h4 hiq).1; have := (k4 htq).1; omega
/-- A nil slice is taken for an own one, of no rows. -/
theorem V_own (t T n : Nat) (ht : lget S.tm t = .nl) (hn : leb 1 n = true) (h : V c fn K k ⟨lput S.tm t (.osl (llen S.ss)), S.bs, S.ss ++ [some ⟨T, n, []⟩]⟩) : V c fn K k S := by
  intro rk M a w hc hT
  have hS := hT.st
  rw [leb_iff] at hn
  have hr := hS.name ⟨T, n, []⟩ (.slice none 0 0) [] hn rfl (by simp) (World.ownsRow_nil w 0 T n) (fun g hg => by simp [Value.ownBlock] at hg) (fun i B _ => by simp [Value.ownBlock]) (fun j N g _ hg => by simp [Value.ownBlock] at hg)
  have hle := Mem.le_addS M (.slice none 0 0)
  refine h rk _ a w hc ⟨by rw [length_lput]; exact hT.len, fun u => ?_, hT.df, hr⟩
  rw [lget_lput]
  split
  · rename_i e
    have := hT.tm t
    rw [ht] at this
    rw [e.1, llen_eq, ← hS.ns]
    refine ⟨Nat.lt_succ_self _, ?_⟩
    simp only [Mem.addS, if_true]
    exact this
  · exact is_mono hle _ _ (hT.tm u)
/-- .. where it lies in a block of one's own. -/
theorem V_ownB (j o T n : Nat) {B : Blk} (hj : oget S.bs j = some B) (ho : lget B.cells o = .nl) (hn : leb 1 n = true) (h : V c fn K k ⟨S.tm, oput S.bs j (some ⟨B.T, lput B.cells o (.osl (llen S.ss))⟩), S.ss ++ [some ⟨T, n, []⟩]⟩) : V c fn K k S := by
  intro rk M a w hc hT
  have hS := hT.st
  rw [leb_iff] at hn
  have hr := hS.name ⟨T, n, []⟩ (.slice none 0 0) [] hn rfl (by simp) (World.ownsRow_nil w 0 T n) (fun g hg => by simp [Value.ownBlock] at hg) (fun i B _ => by simp [Value.ownBlock]) (fun j N g _ hg => by simp [Value.ownBlock] at hg)
  have hle := Mem.le_addS M (.slice none 0 0)
  obtain ⟨m1, m2, vs, m3, m4, m5⟩ := hr.blk j B hj
  have hcells : AV.isL (M.addS (.slice none 0 0)) (lput B.cells o (.osl (llen S.ss))) vs := by
    have hl := isL_length m3
    refine isL_mk (by rw [length_lput]; exact hl.symm) fun i x v hx hv => ?_
    have hlt : i < B.cells.length := by rw [← hl]; exact (List.getElem?_eq_some_iff.1 hv).1
    have gl : ∀ (l : List AV) (i : Nat) (x : AV), l[i]? = some x → lget l i = x := by
      intro l
      induction l with
      | nil => intro i x h; simp at h
      | cons y l ih => intro i x h; cases i with
        | zero => simpa [lget] using h
        | succ i => exact ih i x (by simpa using h)
    have e1 := gl _ _ _ hx
    rw [lget_lput] at e1
    split at e1
    · rename_i e
      obtain ⟨rfl, _⟩ := e
      subst e1
      have hc0 : B.cells[i]? = some (.nl) := by
        rw [List.getElem?_eq_getElem hlt]
        have := gl _ _ _ (List.getElem?_eq_getElem hlt)
        rw [← this, ho]
      have := isL_get m3 i .nl v hc0 hv
      rw [llen_eq, ← hS.ns]
      refine ⟨Nat.lt_succ_self _, ?_⟩
      simp only [Mem.addS, if_true]
      exact this
    · have := isL_lget m3 i hlt
      rw [e1] at this
      rw [List.getD_eq_getElem?_getD, hv] at this
      exact this
  have hlt := oget_lt hj
  refine h rk _ a w hc ⟨hT.len, fun u => is_mono hle _ _ (hT.tm u), hT.df, ?_⟩
  have old : ∀ i C, oget (oput S.bs j (some (⟨B.T, lput B.cells o (.osl (llen S.ss))⟩ : Blk))) i = some C → (i = j ∧ C = ⟨B.T, lput B.cells o (.osl (llen S.ss))⟩) ∨ (i ≠ j ∧ oget S.bs i = some C) := by
    intro i C hi
    rw [oget_oput] at hi
    split at hi
    · rename_i e; left; exact ⟨e.1, by simpa using hi.symm⟩
    · rename_i e; right; exact ⟨fun x => e ⟨x, hlt⟩, hi⟩
  have live : ∀ i C, oget (oput S.bs j (some (⟨B.T, lput B.cells o (.osl (llen S.ss))⟩ : Blk))) i = some C → ∃ D, oget S.bs i = some D := by
    intro i C hi
    rcases old i C hi with ⟨rfl, _⟩ | ⟨_, h⟩
    · exact ⟨B, hj⟩
    · exact ⟨_, h⟩
  refine ⟨by rw [length_oput]; exact hr.nb, hr.ns, hr.so, hr.os, hr.tape, hr.output, hr.size, hr.block, hr.hle, hr.hold, ?_, hr.slc, ?_, ?_, hr.d3, hr.pin⟩
  · intro i C hi
    rcases old i C hi with ⟨rfl, rfl⟩ | ⟨_, h⟩
    · exact ⟨m1, m2, vs, hcells, m4, m5⟩
    · exact hr.blk i C h
  · intro i t C D hi ht e
    obtain ⟨C', hC⟩ := live i C hi
    obtain ⟨D', hD⟩ := live t D ht
    exact hr.d1 i t C' D' hC hD e
  · intro i t C N hi ht
    obtain ⟨C', hC⟩ := live i C hi
    exact hr.d2 i t C' N hC ht
end
end NX
end Go.Proofs.Ytadebhbiglmodaa
/-
  The symbolic machine: a slice that is built and sealed at once. No statement of the seat is proved here.
-/
namespace Go.Proofs.Ytadebhbiglmodaa
namespace NX
open Go Go.RowKit
section
variable {c : Ctx} {S : St}
mutual
theorem subO_pu (j : Nat) (r : AV) : ∀ (x : AV), x.pu = true → AV.subO j r x = x := by
  intro x h
  cases x <;> simp_all [AV.pu, AV.subO]
  all_goals exact subOL_pu j r _ h
theorem subOL_pu (j : Nat) (r : AV) : ∀ (l : List AV), puL l = true → subOL j r l = l
  | [], _ => rfl
  | x :: l, h => by
    simp only [puL] at h
    cases hx : x.pu <;> simp [hx, andb] at h
    simp [subOL, subO_pu j r x hx, subOL_pu j r l h]
end
theorem sem_bslS {T n len : Nat} {z : List AV} {ps : List (Nat × X)} {S1 : St} {j : Nat} {L : Sl} {q : Prop} (he : ev S (.bsl T n len z ps) = some (.osl j, S1, q)) (hq : q) (hj : oget S1.ss j = some L) :
    Sem1 c S (.bsl T n len z ps) (.sl L.n L.rows) ⟨S.tm, mapB (subOL j (.sl L.n L.rows)) S1.bs, oput S1.ss j none⟩ := by
  intro ro hro M a w hT next Q hn
  refine sem_ev he hq ro hro M a w hT next Q fun M' w' x h1 h2 h3 => ?_
  obtain ⟨M2, k1, k2, k3⟩ := seal_rel (S := ⟨[], S1.bs, S1.ss⟩) (a := a) j hj ⟨by simp, fun t => by cases t <;> trivial, hT.df, h2⟩
  refine hn M2 w' x (h1.trans k1) k2.st ?_
  simp only [AV.is] at h3
  rw [h3.2]; exact k3
theorem oget_mapB (f : List AV → List AV) : ∀ (l : List (Option Blk)) (j : Nat), oget (mapB f l) j = (oget l j).map fun B => ⟨B.T, f B.cells⟩
  | [], j => by simp [mapB, oget]
  | none :: l, 0 => by simp [mapB, oget]
  | some C :: l, 0 => by simp [mapB, oget]
  | none :: l, j + 1 => by simpa [mapB, oget] using oget_mapB f l j
  | some _ :: l, j + 1 => by simpa [mapB, oget] using oget_mapB f l j
theorem ltk_subOL (j : Nat) (r : AV) : ∀ (n : Nat) (l s : List AV), ltk n l = some s → ltk n (subOL j r l) = some (subOL j r s)
  | 0, l, s, h => by simp [ltk] at h ⊢; subst h; rfl
  | n + 1, [], s, h => by simp [ltk] at h
  | n + 1, x :: l, s, h => by
    simp only [ltk, Option.map_eq_some_iff] at h
    obtain ⟨t, ht, rfl⟩ := h
    simp [subOL, ltk, ltk_subOL j r n l t ht]
theorem ldr_subOL (j : Nat) (r : AV) : ∀ (n : Nat) (l s : List AV), ldr n l = some s → ldr n (subOL j r l) = some (subOL j r s)
  | 0, l, s, h => by simp [ldr] at h ⊢; subst h; rfl
  | n + 1, [], s, h => by simp [ldr] at h
  | n + 1, x :: l, s, h => by
    simp only [ldr] at h
    simp [subOL, ldr, ldr_subOL j r n l s h]
theorem lsub_subOL (j : Nat) (r : AV) {l s : List AV} {o n : Nat} (h : lsub l o n = some s) : lsub (subOL j r l) o n = some (subOL j r s) := by
  unfold lsub at h ⊢
  split at h
  · rename_i t ht
    rw [ldr_subOL j r o l t ht]
    exact ltk_subOL j r n t s h
  · simp at h
theorem keeps_bslS {T n len : Nat} {z : List AV} {ps : List (Nat × X)} (j : Nat) (r : AV) (ss : List (Option Sl)) : keeps S ⟨S.tm, mapB (subOL j r) S.bs, ss⟩ (.bsl T n len z ps) := by
  intro i off m l h1 h2 _
  simp only [rowOf] at h1 ⊢
  rw [oget_mapB]
  split at h1
  · rename_i B hB
    rw [hB]
    have := lsub_subOL j r h1
    rw [subOL_pu j r l h2] at this
    exact this
  · simp at h1
section
variable {all : Array Oper} {ops : List EOp} {af : List (List Nat)} {Φ : St → Prop} {m : Nat} {ld : List Bool}
/-- A slice is built, and sealed at once. -/
theorem GO_bslS (hall : all.toList.mapM (cOp c.P all) = some ops) {i T n len : Nat} {z : List AV} {ps : List (Nat × X)} {L : Sl} {q : Prop} (ho : (eget ops i).o = .bsl T n len z ps) (hg : gm S (eget ops i).g)
    (he : ev S (.bsl T n len z ps) = some (.osl (llen S.ss), ⟨S.tm, S.bs, S.ss ++ [some L]⟩, q)) (hq : q) (h : G c all ops af Φ m (bset ld i) (St.put ⟨S.tm, mapB (subOL (llen S.ss) (.sl L.n L.rows)) S.bs, S.ss ++ [none]⟩ (eget ops i).d (.sl L.n L.rows))) : GO c all ops af Φ m ld S i := by
  have hj : oget (S.ss ++ [some L]) (llen S.ss) = some L := by rw [llen_eq, oget_append, if_pos rfl]
  have hp : oput (S.ss ++ [some L]) (llen S.ss) none = S.ss ++ [none] := by
    rw [llen_eq]
    generalize S.ss = l
    induction l with
    | nil => rfl
    | cons x l ih => simp [oput, ih]
  have hs := sem_bslS (c := c) he hq hj
  dsimp only at hs
  rw [hp] at hs
  exact GO_sem (S1 := ⟨S.tm, mapB (subOL (llen S.ss) (.sl L.n L.rows)) S.bs, S.ss ++ [none]⟩) hall hg (by rw [ho]; exact hs) rfl (by rw [ho]; exact keeps_bslS _ _ _) h
end
end
end NX
end Go.Proofs.Ytadebhbiglmodaa
/-
  The symbolic machine: all of it. No statement of the seat is proved here.
-/
namespace Go.Proofs.Ytadebhbiglmodaa
namespace NX
attribute [go_sem] St.init lun run ev1 ev St.x St.put lget lput AV.cells llen allOne AV.one rowOf oget oput lsub tf lgt eqA eqLeaf intA boolA ngB ltk ldr lwr lset binI andb leb fillA mapX mapX2 mapX3 mmI ltake ldrop chunk lrep AV.pu puL unw AV.ok okL okB St.ok resL resV AV.subO subOL AV.subB subBL mapB St.sealS St.sealB AV.ren renL St.renS srcRows AV.le.leL leT leB leS St.le List.cons_append List.nil_append Option.map gm gst tkv gpick grun geO rd isLd isSt orb frB stB bget bgf bset allDone rdy memN nget eget falses
def leO : Option AV → AV → Prop
  | some x, y => x.le y
  | none, _ => False
attribute [go_sem] leO
/-- The end of a body, for a function that only computes. -/
theorem V_done {P : Program} {w0 : World} {H0 : Frag} {f : Nat} {fn : Func} {body : EC} {rs : List ERes} {np nt : Nat} {k : List It} {S : St} {res : AV} (ok : FnOK P f fn body rs np nt)
    (h : leO (resV S rs) res) : V (Ctx.of P w0 H0) fn (fun x _ _ => x.le res) (.code .ret :: k) S := by
  cases hx : resV S rs with
  | none => rw [hx] at h; exact h.elim
  | some x => rw [hx] at h; exact V_ret ok.r hx h
theorem V_stop {P : Program} {w0 : World} {H0 : Frag} {f : Nat} {fn : Func} {body : EC} {rs : List ERes} {np nt : Nat} {S : St} {res : AV} (ok : FnOK P f fn body rs np nt)
    (h : leO (resV S rs) res) : V (Ctx.of P w0 H0) fn (fun x _ _ => x.le res) [] S := by
  cases hx : resV S rs with
  | none => rw [hx] at h; exact h.elim
  | some x => rw [hx] at h; exact V_end ok.r hx h
mutual
theorem pu_ok {nb ns : Nat} : ∀ x : AV, x.pu = true → x.ok nb ns = true
  | .any, _ | .un, _ | .tt, _ | .ff, _ | .bv _, _ | .iv _, _ | .kv _ _, _ | .sv _, _ | .nl, _ | .nlp, _ | .fn _, _ | .elt _ _, _ | .sl _ _, _ => rfl
  | .ptr _ _, h | .osl _, h | .oel _ _ _, h => by simp [AV.pu] at h
  | .agg l, h => puL_ok l h
  | .tup l, h => puL_ok l h
  | .clo _ l, h => puL_ok l h
theorem puL_ok {nb ns : Nat} : ∀ l : List AV, puL l = true → okL nb ns l = true
  | [], _ => rfl
  | x :: l, h => by
    simp only [puL, andb_iff] at h
    simp only [okL, andb_iff]
    exact ⟨pu_ok x h.1, puL_ok l h.2⟩
end
mutual
theorem le_refl : ∀ x : AV, x.le x
  | .any | .un | .tt | .ff | .bv _ | .iv _ | .kv _ _ | .sv _ | .nl | .nlp | .fn _ | .ptr _ _ | .osl _ | .oel _ _ _ => by simp [AV.le]
  | .elt row _ => ⟨leL_refl row, rfl⟩
  | .sl _ _ => ⟨rfl, rfl, fun _ _ h => h⟩
  | .agg l => leL_refl l
  | .tup l => leL_refl l
  | .clo _ l => ⟨rfl, leL_refl l⟩
theorem leL_refl : ∀ l : List AV, AV.le.leL l l
  | [] => trivial
  | x :: l => ⟨le_refl x, leL_refl l⟩
end
theorem le_any (x : AV) : x.le .any = True := by simp [AV.le]
theorem le_self (x : AV) : x.le x = True := by simp [le_refl]
theorem leL_self (l : List AV) : AV.le.leL l l = True := by simp [leL_refl]
theorem le_iv (a b : Int) : AV.le (.iv a) (.iv b) = (a = b) := by simp [AV.le]
theorem le_bv (a b : Bool) : AV.le (.bv a) (.bv b) = (a = b) := by simp [AV.le]
theorem le_tt_bv (b : Bool) : AV.le .tt (.bv b) = (b = true) := by simp [AV.le]
theorem le_ff_bv (b : Bool) : AV.le .ff (.bv b) = (b = false) := by simp [AV.le]
theorem le_bv_tt (b : Bool) : AV.le (.bv b) .tt = (b = true) := by simp [AV.le]
theorem le_bv_ff (b : Bool) : AV.le (.bv b) .ff = (b = false) := by simp [AV.le]
theorem le_nl_sl (n : Nat) (d : List (List AV)) : AV.le .nl (.sl n d) = (d = []) := by simp [AV.le]
theorem le_sl (n m : Nat) (d e : List (List AV)) : AV.le (.sl n d) (.sl m e) = (n = m ∧ leRows n d e) := by simp [AV.le]
theorem le_agg (a b : List AV) : AV.le (.agg a) (.agg b) = AV.le.leL a b := by simp [AV.le]
theorem le_tup (a b : List AV) : AV.le (.tup a) (.tup b) = AV.le.leL a b := by simp [AV.le]
theorem le_elt (a b : List AV) (i j : Nat) : AV.le (.elt a i) (.elt b j) = (AV.le.leL a b ∧ i = j) := by simp [AV.le]
theorem le_clo (a b : List AV) (i j : Nat) : AV.le (.clo i a) (.clo j b) = (i = j ∧ AV.le.leL a b) := by simp [AV.le]
theorem leRows_self (n : Nat) (d : List (List AV)) : leRows n d d = True := by simp [leRows]
attribute [go_sem] le_any le_self leL_self le_iv le_bv le_tt_bv le_ff_bv le_bv_tt le_bv_ff le_nl_sl le_sl le_agg le_tup le_elt le_clo leRows_self
theorem leRows_refl (n : Nat) (d : List (List AV)) : leRows n d d := ⟨rfl, fun _ _ h => h⟩
end NX
end Go.Proofs.Ytadebhbiglmodaa
/-
  The symbolic machine: rules that walk the code and a model of it at once. No statement of the seat is proved here.
-/
namespace Go.Proofs.Ytadebhbiglmodaa
namespace NX
open Go Go.RowKit

/-! What models are made of -/
def ifb {α : Type} (e : Bool) (a b : Option α) : Option α := match e with | true => a | false => b
def at_ {α : Type} (l : List α) (i : Int) : Option α := if 0 ≤ i then l[i.toNat]? else none
def app_ {α : Type} (bytes : Nat) (l m : List α) : Option (List α) := if (l.length + m.length) * bytes ≤ 140737488355328 ∧ l.length + m.length ≤ 9223372036854775807 then some (l ++ m) else none
def set_ {α : Type} (l : List α) (i : Int) (x : α) : Option (List α) := if 0 ≤ i ∧ i < l.length then some (l.set i.toNat x) else none
def sub_ {α : Type} (l : List α) (lo hi : Int) : Option (List α) := if 0 ≤ lo ∧ lo ≤ hi ∧ hi ≤ l.length then some ((l.take hi.toNat).drop lo.toNat) else none
def nz_ (y : Int) : Option Unit := if y = 0 then none else some ()
def loopN {σ β : Type} (body : σ → Option (σ ⊕ β)) : Nat → σ → Option β
  | 0, _ => none
  | n + 1, s => match body s with
    | none => none
    | some (.inl s') => loopN body n s'
    | some (.inr r) => some r
theorem loopN_mono {σ β : Type} {body : σ → Option (σ ⊕ β)} : ∀ {n : Nat} {s : σ} {r : β}, loopN body n s = some r → ∀ m, n ≤ m → loopN body m s = some r
  | 0, _, _, h, _, _ => by simp [loopN] at h
  | n + 1, s, r, h, m, hm => by
    obtain ⟨m, rfl⟩ : ∃ k, m = k + 1 := ⟨m - 1, by omega⟩
    simp only [loopN] at h ⊢
    split at h <;> simp_all
    exact loopN_mono h m (by omega)
open Classical in
/-- A loop: its least fixed point. -/
noncomputable def loop {σ β : Type} (body : σ → Option (σ ⊕ β)) (s : σ) : Option β :=
  if h : ∃ r n, loopN body n s = some r then some h.choose else none
theorem loop_iff {σ β : Type} {body : σ → Option (σ ⊕ β)} {s : σ} {r : β} : loop body s = some r ↔ ∃ n, loopN body n s = some r := by
  unfold loop
  constructor
  · intro h
    split at h
    · rename_i hx
      simp at h; subst h
      exact hx.choose_spec
    · simp at h
  · rintro ⟨n, h⟩
    have hx : ∃ r n, loopN body n s = some r := ⟨r, n, h⟩
    rw [dif_pos hx]
    obtain ⟨m, hm⟩ := hx.choose_spec
    have h1 := loopN_mono h (max n m) (Nat.le_max_left _ _)
    have h2 := loopN_mono hm (max n m) (Nat.le_max_right _ _)
    rw [h1] at h2
    exact h2.symm
theorem loop_eq {σ β : Type} (body : σ → Option (σ ⊕ β)) (s : σ) : loop body s = match body s with | none => none | some (.inl s') => loop body s' | some (.inr r) => some r := by
  apply Option.ext
  intro r
  rw [loop_iff]
  cases hb : body s with
  | none =>
    constructor
    · rintro ⟨n, h⟩
      cases n <;> simp [loopN, hb] at h
    · intro h; simp at h
  | some y =>
    cases y with
    | inl s' =>
      dsimp only
      rw [loop_iff]
      constructor
      · rintro ⟨n, h⟩
        cases n with
        | zero => simp [loopN] at h
        | succ n => exact ⟨n, by simpa [loopN, hb] using h⟩
      · rintro ⟨n, h⟩
        exact ⟨n + 1, by simpa [loopN, hb] using h⟩
    | inr r' =>
      constructor
      · rintro ⟨n, h⟩
        cases n with
        | zero => simp [loopN] at h
        | succ n => simpa [loopN, hb] using h
      · intro h
        exact ⟨1, by simpa [loopN, hb] using h⟩
/-! Models with fuel, that can be computed -/
structure ole {α : Type} (a b : Option α) : Prop where
  h : ∀ r, a = some r → b = some r
theorem ole_refl {α : Type} (a : Option α) : ole a a := ⟨fun _ h => h⟩
theorem ole_ifb {α : Type} {e : Bool} {a a' b b' : Option α} (h1 : ole a a') (h2 : ole b b') : ole (ifb e a b) (ifb e a' b') := by cases e <;> assumption
theorem ole_bind {α β : Type} {a a' : Option α} {f f' : α → Option β} (h1 : ole a a') (h2 : ∀ x, ole (f x) (f' x)) : ole (a.bind f) (a'.bind f') := by
  refine ⟨fun r h => ?_⟩
  obtain ⟨x, hx, h⟩ := Option.bind_eq_some_iff.1 h
  exact Option.bind_eq_some_iff.2 ⟨x, h1.h x hx, (h2 x).h r h⟩
theorem ole_map {α β : Type} {a a' : Option α} {f : α → β} (h1 : ole a a') : ole (a.map f) (a'.map f) := by
  refine ⟨fun r h => ?_⟩
  obtain ⟨x, hx, h⟩ := Option.map_eq_some_iff.1 h
  exact Option.map_eq_some_iff.2 ⟨x, h1.h x hx, h⟩
def loopF (F : Nat) {σ β : Type} (body : σ → Option (σ ⊕ β)) (s : σ) : Option β := loopN body F s
theorem ole_loop {F : Nat} {σ β : Type} {body body' : σ → Option (σ ⊕ β)} {s : σ} (h : ∀ s, ole (body s) (body' s)) : ole (loopF F body s) (loop body' s) := by
  refine ⟨fun r hr => ?_⟩
  rw [loop_iff]
  refine ⟨F, ?_⟩
  unfold loopF at hr
  revert s
  induction F with
  | zero => intro s hr; simp [loopN] at hr
  | succ F ih =>
    intro s hr
    simp only [loopN] at hr ⊢
    cases hb : body s with
    | none => rw [hb] at hr; simp at hr
    | some y =>
      rw [hb] at hr
      rw [(h s).h y hb]
      cases y with
      | inl s' => exact ih hr
      | inr r' => exact hr
theorem M_out {α β : Type} {m : Option β} {y : α ⊕ β} {r : β} (h : m.map Sum.inr = some y) (ho : ∀ r', y = .inr r' → r' = r) : m = some r := by
  cases m with
  | none => simp at h
  | some v => simp at h; rw [ho v h.symm]

section
variable {c : Ctx} {fn : Func} {K : AV → List (Option Blk) → List (Option Sl) → Prop} {k : List It} {S : St} {α β σ : Type} {b : Nat}
theorem V_join {x : It} (Sx : σ → St) (m : σ → Option β) (r : β) (hJ : ∀ s, m s = some r → V c fn K k (Sx s)) (h : (∀ s, m s = some r → V c fn K k (Sx s)) → V c fn K (x :: k) S) : V c fn K (x :: k) S := h hJ
theorem M_loop {b : EC} {body : σ → Option (σ ⊕ β)} {s0 : σ} {r : β} (h : loop body s0 = some r) (Sx : σ → St) (h0 : S.le (Sx s0)) (hok : ∀ s, (Sx s).ok = true)
    (hb : ∀ n s y, body s = some y → (∀ s', y = .inl s' → V c fn K (.lp b n :: k) (Sx s')) → (∀ r', y = .inr r' → r' = r) → V c fn K (.code b :: .lp b n :: k) (Sx s)) (hpn : leb c.np (llen (Sx s0).bs) = true := by rfl) (hqn : leb c.nq (llen (Sx s0).ss) = true := by rfl) : V c fn K (.code (.loop b) :: k) S := by
  obtain ⟨n, hn⟩ := loop_iff.1 h
  refine V_loop (X := Nat × σ) (fun x => loopN body x.1 x.2 = some r) (fun x => Sx x.2) (fun x => x.1) (n, s0) h0 (hok _) hpn hqn hn ?_
  rintro m ⟨n, s⟩ hx ih
  cases n with
  | zero => simp [loopN] at hx
  | succ n =>
    simp only [loopN] at hx
    cases hy : body s with
    | none => simp [hy] at hx
    | some y =>
      refine hb m s y hy ?_ ?_
      · rintro s' rfl
        rw [hy] at hx
        exact ih (n, s') hx (Nat.lt_succ_self _)
      · rintro r' rfl
        rw [hy] at hx
        simpa using hx
theorem M_ite {o : X} {a b : EC} {e : Bool} {A B : Option β} {r : β} (h : ifb e A B = some r) (hx : S.x o = .bv e) (h1 : e = true → A = some r → V c fn K (.code a :: k) S) (h2 : e = false → B = some r → V c fn K (.code b :: k) S) : V c fn K (.code (.ite o a b) :: k) S :=
  V_ite hx (fun e1 => h1 e1 (by subst e1; exact h)) (fun e1 => h2 e1 (by subst e1; exact h))
theorem at_some {l : List α} {i : Int} {v : α} (h : at_ l i = some v) : 0 ≤ i ∧ l[i.toNat]? = some v := by
  unfold at_ at h
  split at h
  · exact ⟨by assumption, h⟩
  · simp at h
theorem row_map {f : α → List AV} {l : List α} {n : Nat} {v : α} (h : l[n]? = some v) : (l.map f)[n]? = some (f v) := by rw [List.getElem?_map, h]; rfl
theorem V_idxM {l' : List α} {i : Int} {v : α} {d : Option Nat} {g : Option (Nat × Bool)} {n m : Nat} {x y : X} {l : List EOp} (f : α → List AV) (hv : at_ l' i = some v) (hg : gm S g) (hx : S.x x = .sl m (l'.map f)) (hi : S.x y = .iv i) (hmn : m = n)
    (h' : V c fn K (.ops l :: k) (S.put d (.elt (f v) 0))) : V c fn K (.ops (⟨d, g, .idx n x y⟩ :: l) :: k) S := by
  obtain ⟨h0, hr⟩ := at_some hv
  exact V_idx (f v) hg hx hi hmn h0 (row_map hr) h'
theorem G_idxM {all : Array Oper} {ops : List EOp} {af : List (List Nat)} {Φ : St → Prop} {m : Nat} {ld : List Bool} {nap : List (List Nat)} (hall : all.toList.mapM (cOp c.P all) = some ops) (hsel : Region.noSelect all = true) (haf : af = cAf all) (hnap : nap = cNap all) (i : Nat) {l' : List α} {j : Int} {v : α} {n k : Nat} {x y : X} (f : α → List AV) (hv : at_ l' j = some v)
    (hi : memN i (rdy ld af 0) = true) (ho : (eget ops i).o = .idx n x y) (hg : gm S (eget ops i).g) (hx : S.x x = .sl k (l'.map f)) (hy : S.x y = .iv j) (hmn : k = n)
    (hf : frB ld af i (nget nap i) = true) (h : G c all ops af Φ m (bset ld i) (S.put (eget ops i).d (.elt (f v) 0))) : G c all ops af Φ (m + 1) ld S := by
  obtain ⟨h0, hr⟩ := at_some hv
  exact G_idx hall hsel haf hnap i (f v) hi ho hg hx hy hmn h0 (row_map hr) hf h
theorem app_some {b : Nat} {l m v : List α} (h : app_ b l m = some v) : v = l ++ m ∧ (l.length + m.length) * b ≤ 140737488355328 ∧ l.length + m.length ≤ 9223372036854775807 := by
  unfold app_ at h
  split at h
  · rename_i h1
    simp at h; exact ⟨h.symm, h1⟩
  · simp at h
theorem V_appM {l' m' v : List α} {d : Option Nat} {g : Option (Nat × Bool)} {l : List EOp} {e n b j : Nat} {x y : X} (f : α → List AV) (hv : app_ b l' m' = some v) (hg : gm S g) (hx : S.x x = .osl j) (hj : oget S.ss j = some ⟨e, n, l'.map f⟩) (hy : srcRows S n (S.x y) = some (m'.map f))
    (h' : V c fn K (.ops l :: k) ((S.app j ⟨e, n, v.map f⟩).put d (.osl (llen S.ss)))) : V c fn K (.ops (⟨d, g, .app e n b x y⟩ :: l) :: k) S := by
  obtain ⟨h0, h1, h2⟩ := app_some hv
  subst h0
  rw [List.map_append] at h'
  exact V_app hg hx hj rfl rfl hy (by simpa using h1) (by simpa using h2) h'
theorem V_app0M {m' v : List α} {d : Option Nat} {g : Option (Nat × Bool)} {l : List EOp} {e n b : Nat} {x y : X} (f : α → List AV) (hv : app_ b [] m' = some v) (hg : gm S g) (hx : S.x x = .nl) (hy : srcRows S n (S.x y) = some (m'.map f))
    (h' : V c fn K (.ops l :: k) ((S.app0 ⟨e, n, v.map f⟩).put d (.osl (llen S.ss)))) : V c fn K (.ops (⟨d, g, .app e n b x y⟩ :: l) :: k) S := by
  obtain ⟨h0, h1, h2⟩ := app_some hv
  rw [List.nil_append] at h0
  subst h0
  exact V_app0 hg hx hy (by simpa using h1) (by simpa using h2) h'
theorem GO_appM {all : Array Oper} {ops : List EOp} {af : List (List Nat)} {Φ : St → Prop} {m : Nat} {ld : List Bool} {l' m' v : List α} (f : α → List AV) (hv : app_ b l' m' = some v) (hall : all.toList.mapM (cOp c.P all) = some ops) {i e n j : Nat} {x y : X} (ho : (eget ops i).o = .app e n b x y) (hg : gm S (eget ops i).g)
    (hx : S.x x = .osl j) (hj : oget S.ss j = some ⟨e, n, l'.map f⟩) (hy : srcRows S n (S.x y) = some (m'.map f))
    (h : G c all ops af Φ m (bset ld i) ((S.app j ⟨e, n, v.map f⟩).put (eget ops i).d (.osl (llen S.ss)))) : GO c all ops af Φ m ld S i := by
  obtain ⟨h0, h1, h2⟩ := app_some hv
  subst h0
  rw [List.map_append] at h
  exact GO_app hall ho hg hx hj rfl rfl hy (by simpa using h1) (by simpa using h2) h
theorem GO_app0M {all : Array Oper} {ops : List EOp} {af : List (List Nat)} {Φ : St → Prop} {m : Nat} {ld : List Bool} {m' v : List α} (f : α → List AV) (hv : app_ b [] m' = some v) (hall : all.toList.mapM (cOp c.P all) = some ops) {i e n : Nat} {x y : X} (ho : (eget ops i).o = .app e n b x y) (hg : gm S (eget ops i).g)
    (hx : S.x x = .nl) (hy : srcRows S n (S.x y) = some (m'.map f))
    (h : G c all ops af Φ m (bset ld i) ((S.app0 ⟨e, n, v.map f⟩).put (eget ops i).d (.osl (llen S.ss)))) : GO c all ops af Φ m ld S i := by
  obtain ⟨h0, h1, h2⟩ := app_some hv
  rw [List.nil_append] at h0
  subst h0
  exact GO_sem (S1 := S.app0 ⟨e, n, v.map f⟩) hall hg (by rw [ho]; exact sem_app0 hx hy (by simpa using h1) (by simpa using h2)) rfl (by rw [ho]; exact fun _ _ _ _ h _ _ => h) h
/-- A bool in a slot is told apart. -/
theorem V_case (t : Nat) {e : Bool} (ht : lget S.tm t = .bv e) (h1 : e = true → V c fn K k ⟨lput S.tm t .tt, S.bs, S.ss⟩) (h2 : e = false → V c fn K k ⟨lput S.tm t .ff, S.bs, S.ss⟩) : V c fn K k S := by
  intro rk M a w hc hT
  have key : ∀ x : AV, (∀ v, (AV.bv e).is M v → x.is M v) → RelT c M ⟨lput S.tm t x, S.bs, S.ss⟩ a w := by
    intro x hx
    refine ⟨by rw [length_lput]; exact hT.len, fun u => ?_, hT.df, hT.st⟩
    simp only [lget_lput]
    split
    · rename_i hu
      obtain ⟨rfl, _⟩ := hu
      have := hT.tm u
      rw [ht] at this
      exact hx _ this
    · exact hT.tm u
  cases e with
  | true => exact h1 rfl rk M a w hc (key _ fun v hv => hv)
  | false => exact h2 rfl rk M a w hc (key _ fun v hv => hv)
theorem M_case (t : Nat) {e : Bool} {A B : Option β} {r : β} (h : ifb e A B = some r) (ht : lget S.tm t = .bv e) (h1 : e = true → A = some r → V c fn K k ⟨lput S.tm t .tt, S.bs, S.ss⟩) (h2 : e = false → B = some r → V c fn K k ⟨lput S.tm t .ff, S.bs, S.ss⟩) : V c fn K k S :=
  V_case t ht (fun e1 => h1 e1 (by subst e1; exact h)) (fun e1 => h2 e1 (by subst e1; exact h))
theorem M_done {P : Program} {w0 : World} {H0 : Frag} {f : Nat} {fn : Func} {body : EC} {rs : List ERes} {np nt : Nat} {e r : β} {res : β → AV} (ok : FnOK P f fn body rs np nt) (h : some e = some r)
    (hl : leO (resV S rs) (res e) := by first | exact le_refl _ | simp [go_sem]) : V (Ctx.of P w0 H0) fn (fun x _ _ => x.le (res r)) (.code .ret :: k) S := by
  obtain rfl := Option.some.inj h
  exact V_done ok hl
theorem M_stop {P : Program} {w0 : World} {H0 : Frag} {f : Nat} {fn : Func} {body : EC} {rs : List ERes} {np nt : Nat} {e r : β} {res : β → AV} (ok : FnOK P f fn body rs np nt) (h : some e = some r)
    (hl : leO (resV S rs) (res e) := by first | exact le_refl _ | simp [go_sem]) : V (Ctx.of P w0 H0) fn (fun x _ _ => x.le (res r)) [] S := by
  obtain rfl := Option.some.inj h
  exact V_stop ok hl
theorem M_back {s' : σ} {y : σ ⊕ β} {b : EC} {n : Nat} {Sx : σ → St} (h : some (Sum.inl s') = some y) (hin : ∀ s', y = .inl s' → V c fn K (.lp b n :: k) (Sx s')) (hle : S.le (Sx s') := by simp [go_sem]) (hok : (Sx s').ok = true := by first | rfl | simp [go_sem]) (hpn : leb c.np (llen (Sx s').bs) = true := by rfl) (hqn : leb c.nq (llen (Sx s').ss) = true := by rfl) : V c fn K (.lp b n :: k) S :=
  V_weak _ hle hok hpn hqn (hin s' (Option.some.inj h).symm)
theorem M_to {m : σ → Option β} {r : β} {s : σ} {Sx : σ → St} (J : ∀ s, m s = some r → V c fn K k (Sx s)) (h : m s = some r) (hle : S.le (Sx s) := by simp [go_sem]) (hok : (Sx s).ok = true := by first | rfl | simp [go_sem]) (hpn : leb c.np (llen (Sx s).bs) = true := by rfl) (hqn : leb c.nq (llen (Sx s).ss) = true := by rfl) : V c fn K k S :=
  V_weak _ hle hok hpn hqn (J s h)
end
/-- A closure: called, it answers as 'p' says. -/
structure CloOK (P : Program) (g : Nat) (caps : List AV) {α β : Type} (ar : α → List AV) (p : α → Option β) (rs : β → AV) : Prop where
  b : (P.funcs[g]?).any (fun fn => fn.body.isSome && !(fn.name == "runtime.NumGoroutine")) = true
  pu : puL caps = true
  h : ∀ x r, p x = some r → FunP P g (ar x ++ caps) (rs r)
end NX
end Go.Proofs.Ytadebhbiglmodaa
/-
  The symbolic machine: own memory lent to a call, slices of slices, own elements. No statement of the seat is proved here.
-/
namespace Go.Proofs.Ytadebhbiglmodaa
namespace NX
open Go Go.RowKit

mutual
/-- No address in it at all. -/
def AV.flat : AV → Bool
  | .ptr _ _ | .osl _ | .oel _ _ _ | .elt _ _ | .sl _ _ | .clo _ _ => false
  | .agg l => flatL l
  | .tup l => flatL l
  | .any | .un | .tt | .ff | .bv _ | .iv _ | .kv _ _ | .sv _ | .nl | .nlp | .fn _ => true
def flatL : List AV → Bool
  | [] => true
  | x :: l => andb x.flat (flatL l)
end
attribute [go_sem] AV.flat flatL
mutual
theorem flat_is {M M' : Mem} : ∀ (x : AV) (v : Value), x.is M v → x.flat = true → x.is M' v
  | .any, _, _, _ => trivial
  | .un, _, k, _ | .tt, _, k, _ | .ff, _, k, _ | .bv _, _, k, _ | .iv _, _, k, _ | .kv _ _, _, k, _ | .sv _, _, k, _ | .nl, _, k, _ | .nlp, _, k, _ | .fn _, _, k, _ => k
  | .ptr _ _, _, _, h | .osl _, _, _, h | .oel _ _ _, _, _, h | .elt _ _, _, _, h | .sl _ _, _, _, h | .clo _ _, _, _, h => by simp [AV.flat] at h
  | .agg l, _, ⟨vs, h1, h2⟩, h => ⟨vs, h1, flatL_is l vs h2 (by simpa [AV.flat] using h)⟩
  | .tup l, _, ⟨vs, h1, h2⟩, h => ⟨vs, h1, flatL_is l vs h2 (by simpa [AV.flat] using h)⟩
theorem flatL_is {M M' : Mem} : ∀ (l : List AV) (vs : List Value), AV.isL M l vs → flatL l = true → AV.isL M' l vs
  | [], _, k, _ => k
  | x :: l, _, ⟨v, r, h1, h2, h3⟩, h => by
    simp only [flatL, andb_iff] at h
    exact ⟨v, r, h1, flat_is x v h2 h.1, flatL_is l r h3 h.2⟩
end
/-- Another view of the same memory: more of it sealed. -/
def Lend (S S' : St) : Prop := ∀ (c : Ctx) M a w, RelT c M S a w → ∃ M', M.le M' ∧ RelT c M' S' a w
theorem Lend.refl (S : St) : Lend S S := fun _ M _ _ h => ⟨M, .refl M, h⟩
theorem Lend.slice {S S1 : St} (h : Lend S S1) (j : Nat) {L : Sl} (hj : oget S1.ss j = some L) : Lend S (S1.sealS j L) := fun c M a w hT =>
  let ⟨_, h1, h2⟩ := h c M a w hT
  let ⟨M2, h3, h4, _⟩ := seal_rel j hj h2
  ⟨M2, h1.trans h3, h4⟩
theorem Lend.block {S S1 : St} (h : Lend S S1) (j : Nat) {B : Blk} (hj : oget S1.bs j = some B) (hp : puL B.cells = true) : Lend S (S1.sealB j B.cells) := fun c M a w hT =>
  let ⟨_, h1, h2⟩ := h c M a w hT
  let ⟨M2, h3, h4⟩ := sealB_rel j hj hp h2
  ⟨M2, h1.trans h3, h4⟩
section
variable {c : Ctx} {M : Mem} {S S' : St} {a : Act} {w : World} {fn : Func} {K : AV → List (Option Blk) → List (Option Sl) → Prop} {k : List It}
theorem V_lend (h : Lend S S') (hV : V c fn K k S') : V c fn K k S := by
  intro rk M a w hc hT
  obtain ⟨M', _, h1⟩ := h c M a w hT
  exact hV rk M' a w hc h1
/-- A call that answers something flat: own memory is lent. -/
theorem sem_callL {f : Nat} {xs : List X} {args : List AV} {res : AV} (hs : Lend S S') (hf : FunP c.P f args res)
    (ha : AV.le.leL (mapX S' xs) args) (hp : puL args = true) (hfl : res.flat = true) : Sem1 c S (.call f xs) res S := by
  intro ro ho M a w hT next Q hn
  obtain ⟨dst, op, ty, pos, af, gd⟩ := ro
  dsimp only at ho
  obtain ⟨cargs, argTypes, rfl, hfn, rfl⟩ := cO_call ho
  obtain ⟨M1, _, hT1⟩ := hs c M a w hT
  have hm := puL_is _ _ (leL_is _ _ _ ha (mapX_is hT1 cargs.toList)) hp
  have hc := hf M1.H w _ hT1.st.hle hm
  have hrun : (execOp a.eval ⟨dst, .call ⟨.value (.func f), cargs, argTypes⟩, ty, pos, af, gd⟩).run c.P w = .ok (.enter f (cargs.map a.eval)) w := by
    have he : a.eval (.func f) = .func (.func f) #[] #[] := rfl
    generalize a.eval = ρ at *
    simp [execOp, resolve, Deferred.ofValue, invoke, he, callFunc_run hfn]
  unfold Oper.wp
  rw [hrun]
  show Calls c.P f (cargs.map a.eval) w _
  have e1 : (cargs.toList.map a.eval).toArray = cargs.map a.eval := by apply Array.ext'; simp
  rw [← e1]
  refine hc.mono ?_
  rintro e w' ⟨v, H', rfl, hb, h1, h2, h3⟩
  exact hn M w' v (.refl M) (hT.st.grow hb) (flat_is _ _ h3 hfl)
theorem sem_callvL {f : Nat} {o : X} {xs : List X} {caps args : List AV} {res : AV} (hs : Lend S S') (ho : S'.x o = .clo f caps) (hf : FunP c.P f args res)
    (hfn : (c.P.funcs[f]?).any (fun fn => fn.body.isSome && !(fn.name == "runtime.NumGoroutine")) = true)
    (ha : AV.le.leL (mapX S' xs ++ caps) args) (hp : puL args = true) (hfl : res.flat = true) : Sem1 c S (.callv o xs) res S := by
  intro ro hop M a w hT next Q hn
  obtain ⟨dst, op, ty, pos, af, gd⟩ := ro
  dsimp only at hop
  obtain ⟨t, cargs, argTypes, rfl, rfl, rfl⟩ := cO_callv hop
  obtain ⟨M1, _, hT1⟩ := hs c M a w hT
  have hx := X_is hT1 (.tmp t)
  rw [show S'.x (cX (.tmp t)) = .clo f caps from ho] at hx
  obtain ⟨cv, hx1, hx2⟩ := hx
  have hm := puL_is _ _ (leL_is _ _ _ ha (isL_append (mapX_is hT1 cargs.toList) hx2)) hp
  have hc := hf M1.H w _ hT1.st.hle hm
  have hrun : (execOp a.eval ⟨dst, .call ⟨.value (.tmp t), cargs, argTypes⟩, ty, pos, af, gd⟩).run c.P w = .ok (.enter f (cargs.map a.eval ++ cv.toArray)) w := by
    generalize a.eval = ρ at *
    simp [execOp, resolve, Deferred.ofValue, invoke, hx1, callFunc_run hfn]
  unfold Oper.wp
  rw [hrun]
  show Calls c.P f (cargs.map a.eval ++ cv.toArray) w _
  have e1 : (cargs.toList.map a.eval ++ cv).toArray = cargs.map a.eval ++ cv.toArray := by apply Array.ext'; simp
  rw [← e1]
  refine hc.mono ?_
  rintro e w' ⟨v, H', rfl, hb, h1, h2, h3⟩
  exact hn M w' v (.refl M) (hT.st.grow hb) (flat_is _ _ h3 hfl)
theorem V_callL {d : Option Nat} {g : Option (Nat × Bool)} {f : Nat} {xs : List X} {l : List EOp} {args : List AV} {res : AV} (hg : gm S g) (hs : Lend S S') (hf : FunP c.P f args res)
    (ha : AV.le.leL (mapX S' xs) args := by first | exact leL_refl _ | simp [go_sem]) (hp : puL args = true := by first | rfl | simp [go_sem]) (hfl : res.flat = true := by rfl) (h : V c fn K (.ops l :: k) (S.put d res)) : V c fn K (.ops (⟨d, g, .call f xs⟩ :: l) :: k) S :=
  V_sem hg (sem_callL hs hf ha hp hfl) rfl h
theorem V_callvL {d : Option Nat} {g : Option (Nat × Bool)} {f : Nat} {o : X} {xs : List X} {l : List EOp} {caps args : List AV} {res : AV} (hg : gm S g) (hs : Lend S S') (ho : S'.x o = .clo f caps) (hf : FunP c.P f args res)
    (hfn : (c.P.funcs[f]?).any (fun fn => fn.body.isSome && !(fn.name == "runtime.NumGoroutine")) = true)
    (ha : AV.le.leL (mapX S' xs ++ caps) args := by first | exact leL_refl _ | simp [go_sem]) (hp : puL args = true := by first | rfl | simp [go_sem]) (hfl : res.flat = true := by rfl) (h : V c fn K (.ops l :: k) (S.put d res)) : V c fn K (.ops (⟨d, g, .callv o xs⟩ :: l) :: k) S :=
  V_sem hg (sem_callvL hs ho hf hfn ha hp hfl) rfl h
section
variable {all : Array Oper} {ops : List EOp} {af : List (List Nat)} {Φ : St → Prop} {m : Nat} {ld : List Bool}
theorem GO_callL (hall : all.toList.mapM (cOp c.P all) = some ops) {i f : Nat} {xs : List X} {args : List AV} {res : AV} (ho : (eget ops i).o = .call f xs) (hg : gm S (eget ops i).g) (hs : Lend S S') (hf : FunP c.P f args res)
    (ha : AV.le.leL (mapX S' xs) args := by first | exact leL_refl _ | simp [go_sem]) (hp : puL args = true := by first | rfl | simp [go_sem]) (hfl : res.flat = true := by rfl) (h : G c all ops af Φ m (bset ld i) (S.put (eget ops i).d res)) : GO c all ops af Φ m ld S i :=
  GO_sem hall hg (by rw [ho]; exact sem_callL hs hf ha hp hfl) rfl (keeps_refl _ _) h
theorem GO_callvL (hall : all.toList.mapM (cOp c.P all) = some ops) {i f : Nat} {o : X} {xs : List X} {caps args : List AV} {res : AV} (ho : (eget ops i).o = .callv o xs) (hg : gm S (eget ops i).g) (hs : Lend S S') (hx : S'.x o = .clo f caps) (hf : FunP c.P f args res)
    (hfn : (c.P.funcs[f]?).any (fun fn => fn.body.isSome && !(fn.name == "runtime.NumGoroutine")) = true) (ha : AV.le.leL (mapX S' xs ++ caps) args := by first | exact leL_refl _ | simp [go_sem]) (hp : puL args = true := by first | rfl | simp [go_sem]) (hfl : res.flat = true := by rfl)
    (h : G c all ops af Φ m (bset ld i) (S.put (eget ops i).d res)) : GO c all ops af Φ m ld S i :=
  GO_sem hall hg (by rw [ho]; exact sem_callvL hs hx hf hfn ha hp hfl) rfl (keeps_refl _ _) h
end
/-- .. that came in as an argument. -/
theorem V_callp {α β : Type} {d : Option Nat} {g : Option (Nat × Bool)} {f : Nat} {o : X} {xs : List X} {l : List EOp} {caps : List AV} {ar : α → List AV} {p : α → Option β} {rs : β → AV} (hg : gm S g) (ho : S.x o = .clo f caps) (hc : CloOK c.P f caps ar p rs) {x : α} {v : β} (hv : p x = some v)
    (ha : AV.le.leL (mapX S xs) (ar x) := by first | exact leL_refl _ | simp [go_sem]) (hp : puL (ar x) = true := by first | rfl | simp [go_sem]) (h : V c fn K (.ops l :: k) (S.put d (rs v))) : V c fn K (.ops (⟨d, g, .callv o xs⟩ :: l) :: k) S := by
  have key : ∀ {a b c : List AV}, AV.le.leL a b → AV.le.leL (a ++ c) (b ++ c) := by
    intro a
    induction a with
    | nil => intro b c h; cases b with
      | nil => exact leL_refl c
      | cons _ _ => simp [AV.le.leL] at h
    | cons y a ih => intro b c h; cases b with
      | nil => simp [AV.le.leL] at h
      | cons z b => exact ⟨h.1, ih h.2⟩
  have kp : ∀ {a : List AV}, puL a = true → puL (a ++ caps) = true := by
    intro a
    induction a with
    | nil => intro _; exact hc.pu
    | cons y a ih => intro h; simp only [puL, andb_iff, List.cons_append] at h ⊢; exact ⟨h.1, ih h.2⟩
  exact V_callv hg ho (hc.h x v hv) hc.b (key ha) (kp hp) h
end
def intRow (n : Int) : List AV := [.iv n]
def boolRow (b : Bool) : List AV := [.bv b]
def strRow (x : ByteArray) : List AV := [.sv x]
def kvRow (k : IntKind) (n : Int) : List AV := [.kv k n]
def slRow {α : Type} (n : Nat) (f : α → List AV) (l : List α) : List AV := [.sl n (l.map f)]
/-- A slice's length, as the machine says it. -/
def ln {α : Type} (f : α → List AV) (l : List α) : Int := ((l.map f).length : Int)
theorem ln_eq {α : Type} (f : α → List AV) (l : List α) : ln f l = l.length := by simp [ln]
attribute [go_sem] intRow boolRow strRow kvRow slRow ln
end NX
end Go.Proofs.Ytadebhbiglmodaa
/-
  The symbolic machine: slices of slices, tests for nil, ways that part inside a drawn region, fresh results. No statement of the seat is proved here.
-/
namespace Go.Proofs.Ytadebhbiglmodaa
namespace NX
open Go Go.RowKit

/-! States that tell the same, one of them more plainly -/
structure Fine (S S' : St) : Prop where
  bs : S'.bs = S.bs
  ss : S'.ss = S.ss
  len : S'.tm.length = S.tm.length
  is : ∀ M t v, (lget S.tm t).is M v → (lget S'.tm t).is M v
  lg : ∀ t, lgt S'.tm t = lgt S.tm t
  pt : ∀ t j off, lget S'.tm t = .ptr j off → lget S.tm t = .ptr j off
theorem Fine.relT {S S' : St} (h : Fine S S') {c : Ctx} {M : Mem} {a : Act} {w : World} (hT : RelT c M S a w) : RelT c M S' a w :=
  ⟨by rw [h.len]; exact hT.len, fun t => h.is M t _ (hT.tm t), hT.df, by rw [h.bs, h.ss]; exact hT.st⟩
theorem Fine.put {S S' : St} (h : Fine S S') (bs ss) (d : Option Nat) (v : AV) : Fine ((⟨S.tm, bs, ss⟩ : St).put d v) ((⟨S'.tm, bs, ss⟩ : St).put d v) := by
  cases d with
  | none => exact ⟨rfl, rfl, h.len, h.is, h.lg, h.pt⟩
  | some d =>
    refine ⟨rfl, rfl, by simp only [St.put, length_lput]; exact h.len, fun M t x hx => ?_, fun t => ?_, fun t j off => ?_⟩
    · simp only [St.put, lget_lput, h.len] at hx ⊢
      split <;> rename_i e
      · rw [if_pos e] at hx; exact hx
      · rw [if_neg e] at hx; exact h.is M t x hx
    · simp only [St.put, lgt, lget_lput, h.len]
      split
      · rfl
      · exact h.lg t
    · simp only [St.put, lget_lput, h.len]
      split
      · exact id
      · exact h.pt t j off
theorem Fine.gm {S S' : St} (h : Fine S S') (g : Option (Nat × Bool)) : NX.gm S' g = NX.gm S g ∧ gno S' g = gno S g := by
  cases g with
  | none => exact ⟨rfl, rfl⟩
  | some tf => obtain ⟨t, f⟩ := tf; simp only [NX.gm, gno, h.lg t, and_self]
theorem G_fine {c : Ctx} {all : Array Oper} {ops : List EOp} {af : List (List Nat)} {Φ : St → Prop} (hΦ : ∀ S S', Fine S S' → Φ S' → Φ S) : ∀ (m : Nat) (ld : List Bool) (S S' : St), Fine S S' → G c all ops af Φ m ld S' → G c all ops af Φ m ld S
  | 0, _, S, S', hf, h => ⟨h.1, hΦ S S' hf h.2⟩
  | m + 1, ld, S, S', hf, h => by
    refine ⟨fun h0 => hΦ S S' hf (h.1 h0), fun i hi => ?_⟩
    rcases h.2 i hi with ⟨h1, h2⟩ | ⟨h1, v, S1, h2, h3, h4, h5⟩
    · left
      refine ⟨by rw [← (hf.gm _).2]; exact h1, G_fine hΦ m _ _ _ ?_ h2⟩
      have := hf.put S.bs S.ss (eget ops i).d .un
      rw [show (⟨S'.tm, S.bs, S.ss⟩ : St) = S' from by rw [← hf.bs, ← hf.ss]] at this
      exact this
    · right
      refine ⟨by rw [← (hf.gm _).1]; exact h1, v, ⟨S.tm, S1.bs, S1.ss⟩, fun ro hro M a w hT next Q hn => h2 ro hro M a w (hf.relT hT) next Q hn, rfl, ?_, G_fine hΦ m _ _ _ ?_ h5⟩
      · intro j off n l k1 k2 k3
        have := h4 j off n l (by rw [rowOf_mem hf.bs]; exact k1) k2 (fun n a x j' off' ho hx => k3 n a x j' off' ho (by
          cases a with
          | t t => exact hf.pt t j' off' hx
          | c _ => exact hx
          | bad => exact hx))
        rw [rowOf_mem (S := S1) (S' := ⟨S.tm, S1.bs, S1.ss⟩) rfl]; exact this
      · have := hf.put S1.bs S1.ss (eget ops i).d v
        rw [← h3] at this
        exact this
section
variable {c : Ctx} {M : Mem} {S S' : St} {a : Act} {w : World} {fn : Func} {K : AV → List (Option Blk) → List (Option Sl) → Prop} {k : List It} {β : Type}
theorem V_fine (hf : Fine S S') (h : V c fn K k S') : V c fn K k S := fun rk M a w hc hT => h rk M a w hc (hf.relT hT)
def bvOf (e : Bool) : AV := match e with | true => .tt | false => .ff
theorem fine_case {t : Nat} {e : Bool} (ht : lget S.tm t = .bv e) : Fine S ⟨lput S.tm t (bvOf e), S.bs, S.ss⟩ := by
  refine ⟨rfl, rfl, length_lput _ _ _, fun M u v hv => ?_, fun u => ?_, fun u j off => ?_⟩
  · simp only [lget_lput]
    split
    · rename_i h; obtain ⟨rfl, _⟩ := h
      rw [ht] at hv
      cases e <;> exact hv
    · exact hv
  · simp only [lgt, lget_lput]
    split
    · rename_i h; obtain ⟨rfl, _⟩ := h
      rw [ht]; cases e <;> rfl
    · rfl
  · simp only [lget_lput]
    split
    · cases e <;> simp [bvOf]
    · exact id
theorem GM_case {all : Array Oper} {ops : List EOp} {af : List (List Nat)} {m : Nat} {ld : List Bool} (t : Nat) {e : Bool} {A B : Option β} {r : β} (h : ifb e A B = some r) (ht : lget S.tm t = .bv e)
    (h1 : e = true → A = some r → G c all ops af (fun S' => V c fn K k S') m ld ⟨lput S.tm t .tt, S.bs, S.ss⟩) (h2 : e = false → B = some r → G c all ops af (fun S' => V c fn K k S') m ld ⟨lput S.tm t .ff, S.bs, S.ss⟩) :
    G c all ops af (fun S' => V c fn K k S') m ld S := by
  refine G_fine (fun S S' hf h => V_fine hf h) m ld S _ (fine_case ht) ?_
  cases e with
  | true => exact h1 rfl h
  | false => exact h2 rfl h

/-! A slice of a slice -/
theorem cO_slice {P : Program} {op : Op} {n : Nat} {x : X} {lo hi : Option X} (ho : cO P op = .slice n x lo hi) :
    ∃ T y l h e, op = .slice T y l h none ∧ P.underlying T = some (.slice e) ∧ szOf P e = some n ∧ cX y = x ∧ l.map cX = lo ∧ h.map cX = hi := by
  cases op
  case slice T y l h mx =>
    simp only [cO] at ho
    split at ho
    · rename_i e hu
      split at ho
      · rename_i n' hn
        simp only [EO.slice.injEq] at ho
        obtain ⟨rfl, rfl, rfl, rfl⟩ := ho
        exact ⟨T, y, l, h, e, rfl, hu, hn, rfl, rfl, rfl⟩
      · simp at ho
    · simp at ho
  all_goals (simp only [cO] at ho; (repeat' (split at ho)) <;> simp at ho)
/-- What a bound is: given, or the end. -/
def bnd (S : St) (x : Option X) (z : Int) : Option Int :=
  match x with
  | none => some z
  | some x => match S.x x with
    | .iv n => some n
    | _ => none
attribute [go_sem] bnd
theorem slice_run {P : Program} {w : World} {T e n : Nat} (hu : P.underlying T = some (.slice e)) (hs : szOf P e = some n) {x : Operand} {l h : Option Operand} {ρ : Operand → Value} {ad : Option Addr} {len cp : Nat} {lo hi : Int}
    (hx : ρ x = .slice ad len cp) (hlc : len ≤ cp) (hl : match l with | none => lo = 0 | some o => ρ o = .int .i64 lo) (hh : match h with | none => hi = len | some o => ρ o = .int .i64 hi) (h0 : 0 ≤ lo) (h1 : lo ≤ hi) (h2 : hi ≤ len)
    (d : Option Tmp) (ty : TypeId) (pos : String) (af : Array Edge) (gg : Option (Nat × Bool)) :
    (execOp ρ ⟨d, .slice T x l h none, ty, pos, af, gg⟩).run P w = .ok (.value (.slice (if cp = lo.toNat then ad else ad.map (·.add (lo.toNat * n))) (hi.toNat - lo.toNat) (cp - lo.toNat))) w := by
  have hc : hi ≤ cp := by omega
  have key : (Instr.sliceBounds true len cp (l.map ρ) (h.map ρ) none).run P w = .ok (lo.toNat, hi.toNat, cp) w := by
    cases l <;> cases h <;> simp only at hl hh <;> simp only [Option.map, Instr.sliceBounds]
    · subst hl; simp [hh]
    · subst hl; simp [Instr.sliceBound, asIntOf, hh, hc, show 0 ≤ hi by omega]
    · subst hh; simp [Instr.sliceBound, asIntOf, hl, h0, h1]
    · simp [Instr.sliceBound, asIntOf, hl, hh, h0, h1, hc, show 0 ≤ hi by omega, Int.toNat_of_nonneg (show 0 ≤ hi by omega)]
  simp [execOp, Instr.sliceAt, Instr.slice, hx, run_underlying hu, key, szOf_run hs]
theorem isLL_sub {M : Mem} {n : Nat} {rows : List (List AV)} {vss : List (List Value)} (h : AV.isLL M n rows vss) (a b : Nat) : AV.isLL M n ((rows.take b).drop a) ((vss.take b).drop a) := by
  have ht : ∀ (rows : List (List AV)) (vss : List (List Value)) (b : Nat), AV.isLL M n rows vss → AV.isLL M n (rows.take b) (vss.take b) := by
    intro rows
    induction rows with
    | nil => intro vss b h; simp [AV.isLL] at h; subst h; simp [AV.isLL]
    | cons r rows ih =>
      rintro vss b ⟨v, q, rfl, h1, h2, h3⟩
      cases b with
      | zero => simp [AV.isLL]
      | succ b => exact ⟨v, q.take b, by simp, h1, h2, ih q b h3⟩
  have hd : ∀ (rows : List (List AV)) (vss : List (List Value)) (b : Nat), AV.isLL M n rows vss → AV.isLL M n (rows.drop b) (vss.drop b) := by
    intro rows
    induction rows with
    | nil => intro vss b h; simp [AV.isLL] at h; subst h; simp [AV.isLL]
    | cons r rows ih =>
      rintro vss b ⟨v, q, rfl, h1, h2, h3⟩
      cases b with
      | zero => exact ⟨v, q, rfl, h1, h2, h3⟩
      | succ b => simpa using ih q b h3
  exact hd _ _ a (ht _ _ b h)
theorem flatten_drop_at {n : Nat} : ∀ (vss : List (List Value)) (a : Nat), (∀ v ∈ vss, v.length = n) → a ≤ vss.length → (vss.drop a).flatten = vss.flatten.drop (a * n)
  | vss, 0, _, _ => by simp
  | [], a + 1, _, h => by simp at h
  | v :: vss, a + 1, hv, h => by
    have := flatten_drop_at vss a (fun x hx => hv x (List.mem_cons_of_mem _ hx)) (by simpa using h)
    simp only [List.drop_succ_cons, List.flatten_cons, this]
    rw [List.drop_append, show v.length = n from hv v (by simp), show (a + 1) * n - n = a * n from by rw [Nat.add_mul]; omega]
    rw [show List.drop ((a + 1) * n) v = [] from List.drop_eq_nil_of_le (by rw [hv v (by simp), Nat.add_mul]; omega)]
    simp
theorem flatten_take_pre : ∀ (vss : List (List Value)) (b : Nat), ∃ t, vss.flatten = (vss.take b).flatten ++ t
  | vss, b => ⟨(vss.drop b).flatten, by rw [← List.flatten_append, List.take_append_drop]⟩
theorem isLL_lens {M : Mem} {n : Nat} : ∀ {rows : List (List AV)} {vss : List (List Value)}, AV.isLL M n rows vss → vss.length = rows.length ∧ ∀ v ∈ vss, v.length = n
  | [], _, h => by simp [AV.isLL] at h; subst h; simp
  | _ :: rows, _, ⟨v, q, h0, h1, h2, h3⟩ => by
    subst h0
    obtain ⟨g1, g2⟩ := isLL_lens h3
    exact ⟨by simp [g1], fun x hx => by rcases List.mem_cons.1 hx with rfl | hx; exact h1; exact g2 x hx⟩
theorem sl_sub {M : Mem} {n : Nat} {rows : List (List AV)} {ad : Option Addr} {cp : Nat} (h : AV.is M (.sl n rows) (.slice ad rows.length cp)) (lo hi : Nat) (h1 : lo ≤ hi) (h2 : hi ≤ rows.length) :
    AV.is M (.sl n ((rows.take hi).drop lo)) (.slice (if cp = lo then ad else ad.map (·.add (lo * n))) (hi - lo) (cp - lo)) := by
  obtain ⟨a', c', he, ⟨hlc, hn⟩, hr⟩ := h
  simp only [Value.slice.injEq] at he
  obtain ⟨rfl, _, rfl⟩ := he
  have hlen : ((rows.take hi).drop lo).length = hi - lo := by simp; omega
  refine ⟨if cp = lo then ad else ad.map (·.add (lo * n)), cp - lo, by rw [hlen], ⟨by rw [hlen]; omega, fun e => ?_⟩, fun hne => ?_⟩
  · split at e
    · rename_i hcl; omega
    · have : ad = none := by cases ad <;> simp_all
      have := hn this; omega
  · have hlt : lo < hi := by
      rcases Nat.lt_or_ge lo hi with h | h
      · exact h
      · exfalso; apply hne; apply List.length_eq_zero_iff.1; rw [hlen]; omega
    obtain ⟨a, vss, rfl, g1, g2, g3, cs, T, fr, g4, g5⟩ := hr (by intro e; subst e; simp at h2; omega)
    obtain ⟨l1, l2⟩ := isLL_lens g1
    have hsub := isLL_sub g1 lo hi
    refine ⟨a.add (lo * n), (vss.take hi).drop lo, by rw [if_neg (by omega)]; rfl, hsub, ?_⟩
    have hadd : a.add (lo * n) = ⟨a.block, a.off + lo * n, none⟩ := by
      obtain ⟨b, o, sp⟩ := a; dsimp only at g2; subst g2; exact Addr.add_lit _ _ _
    rw [hadd]
    have hfl : ∃ t, vss.flatten = (vss.take lo).flatten ++ ((vss.take hi).drop lo).flatten ++ t := by
      refine ⟨(vss.drop hi).flatten, ?_⟩
      rw [← List.flatten_append, ← List.flatten_append]
      congr 1
      have : vss.take lo ++ (vss.take hi).drop lo = vss.take hi := by
        have := List.take_append_drop lo (vss.take hi)
        rw [List.take_take, Nat.min_eq_left h1] at this
        exact this
      rw [this, List.take_append_drop]
    obtain ⟨t, hfl⟩ := hfl
    have hpl : (vss.take lo).flatten.length = lo * n := by
      have := isLL_flat (isLL_sub g1 0 lo)
      simp only [List.drop_zero] at this
      rw [this, List.length_take, Nat.min_eq_left (by omega)]
    refine ⟨rfl, fun v hv => g3 v ?_, cs, T, fr, g4, fun k v hk => ?_⟩
    · rw [hfl]; exact List.mem_append_left _ (List.mem_append_right _ hv)
    · have := g5 (lo * n + k) v (by
        rw [hfl, List.append_assoc, List.getElem?_append_right (by omega), hpl, show lo * n + k - lo * n = k by omega]
        rw [List.getElem?_append_left (List.getElem?_eq_some_iff.1 hk).1]; exact hk)
      dsimp only
      rw [show a.off + lo * n + k = a.off + (lo * n + k) by omega]; exact this
theorem sem_slice {n m : Nat} {x : X} {lo hi : Option X} {rows : List (List AV)} {l h : Int} (hx : S.x x = .sl m rows) (hmn : m = n) (hl : bnd S lo 0 = some l) (hh : bnd S hi rows.length = some h) (h0 : 0 ≤ l) (h1 : l ≤ h) (h2 : h ≤ rows.length) :
    Sem1 c S (.slice n x lo hi) (.sl m ((rows.take h.toNat).drop l.toNat)) S := by
  intro ro hop M a w hT next Q hn
  obtain ⟨dst, op, ty, pos, af, gd⟩ := ro
  dsimp only at hop
  subst hmn
  obtain ⟨T, y, lo', hi', e, rfl, hu, hs, rfl, rfl, rfl⟩ := cO_slice hop
  have hv := X_is hT y
  rw [hx] at hv
  have hv' := hv
  obtain ⟨ad, cp, g1, ⟨g2, g2'⟩, g3⟩ := hv
  rw [g1] at hv'
  have hrun := slice_run (P := c.P) (w := w) hu hs (l := lo') (h := hi') (lo := l) (hi := h) g1 g2 (by
    cases lo' with
    | none => simp [bnd] at hl; exact hl.symm
    | some o => 
      have := X_is hT o
      simp only [Option.map, bnd] at hl
      split at hl <;> simp at hl
      rename_i hxx; rw [hxx] at this; subst hl; exact this) (by
    cases hi' with
    | none => simp [bnd] at hh; exact hh.symm
    | some o => 
      have := X_is hT o
      simp only [Option.map, bnd] at hh
      split at hh <;> simp at hh
      rename_i hxx; rw [hxx] at this; subst hh; exact this) h0 h1 h2 dst ty pos af gd
  unfold Oper.wp
  rw [hrun]
  refine hn M w _ (.refl M) hT.st ?_
  exact sl_sub hv' l.toNat h.toNat (by omega) (by omega)
theorem sub_some {α : Type} {l v : List α} {lo hi : Int} (h : sub_ l lo hi = some v) : v = (l.take hi.toNat).drop lo.toNat ∧ 0 ≤ lo ∧ lo ≤ hi ∧ hi ≤ l.length := by
  unfold sub_ at h
  split at h
  · rename_i h1; simp at h; exact ⟨h.symm, h1⟩
  · simp at h
theorem V_sliceM {α : Type} {l' v : List α} {d : Option Nat} {g : Option (Nat × Bool)} {ol : List EOp} {n m : Nat} {x : X} {lo hi : Option X} {l h : Int} (f : α → List AV) (hv : sub_ l' l h = some v) (hg : gm S g) (hx : S.x x = .sl m (l'.map f)) (hmn : m = n) (hl : bnd S lo 0 = some l) (hh : bnd S hi ((l'.map f).length) = some h)
    (hV : V c fn K (.ops ol :: k) (S.put d (.sl m (v.map f)))) : V c fn K (.ops (⟨d, g, .slice n x lo hi⟩ :: ol) :: k) S := by
  obtain ⟨h0, h1, h2, h3⟩ := sub_some hv
  subst h0
  rw [List.map_drop, List.map_take] at hV
  exact V_sem hg (sem_slice hx hmn hl hh h1 h2 (by simpa using h3)) rfl hV
theorem GO_sliceM {all : Array Oper} {ops : List EOp} {af : List (List Nat)} {Φ : St → Prop} {m' : Nat} {ld : List Bool} {α : Type} {l' v : List α} {n m i : Nat} {x : X} {lo hi : Option X} {l h : Int} (f : α → List AV) (hv : sub_ l' l h = some v) (hall : all.toList.mapM (cOp c.P all) = some ops) (ho : (eget ops i).o = .slice n x lo hi) (hg : gm S (eget ops i).g) (hx : S.x x = .sl m (l'.map f)) (hmn : m = n) (hl : bnd S lo 0 = some l) (hh : bnd S hi ((l'.map f).length) = some h)
    (hV : G c all ops af Φ m' (bset ld i) (S.put (eget ops i).d (.sl m (v.map f)))) : GO c all ops af Φ m' ld S i := by
  obtain ⟨h0, h1, h2, h3⟩ := sub_some hv
  subst h0
  rw [List.map_drop, List.map_take] at hV
  exact GO_sem hall hg (by rw [ho]; exact sem_slice hx hmn hl hh h1 h2 (by simpa using h3)) rfl (keeps_refl _ _) hV

/-! A test for nil -/
def ngv (ng b : Bool) : Bool := match ng with | true => !b | false => b
def nilOp (ng : Bool) : BinOp := match ng with | true => .neq | false => .eql
theorem cO_isnil {P : Program} {op : Op} {ng : Bool} {x : X} (ho : cO P op = .isnil ng x) :
    ∃ T y T2 e, op = .binOp (nilOp ng) T y (.const (.slice none 0 0)) T2 ∧ P.underlying T = some (.slice e) ∧ cX y = x := by
  cases op
  case binOp o T y z T2 =>
    simp only [cO] at ho
    split at ho
    · split at ho <;> simp at ho
    · split at ho
      · split at ho <;> simp at ho
      · simp at ho
    · split at ho <;> simp at ho
    · rename_i e hu
      split at ho
      · split at ho <;> simp at ho
        · obtain ⟨rfl, rfl⟩ := ho; exact ⟨T, y, T2, e, rfl, hu, rfl⟩
        · obtain ⟨rfl, rfl⟩ := ho; exact ⟨T, y, T2, e, rfl, hu, rfl⟩
      · simp at ho
    · simp at ho
    · simp at ho
  all_goals (simp only [cO] at ho; (repeat' (split at ho)) <;> simp at ho)
/-- Is a slice nil? It may be, if it has no element. -/
theorem V_isnil {d : Option Nat} {g : Option (Nat × Bool)} {ng : Bool} {x : X} {m : Nat} {rows : List (List AV)} {l : List EOp} (hg : gm S g) (hx : S.x x = .sl m rows)
    (h1 : rows = [] → V c fn K (.ops l :: k) (S.put d (match ng with | true => .ff | false => .tt))) (h2 : V c fn K (.ops l :: k) (S.put d (match ng with | true => .tt | false => .ff))) : V c fn K (.ops (⟨d, g, .isnil ng x⟩ :: l) :: k) S := by
  refine V_op hg fun ro hd hop M a w hT next Q hn => ?_
  obtain ⟨dst, op, ty, pos, af, gd⟩ := ro
  dsimp only at hop hd
  subst hd
  obtain ⟨T, y, T2, e, rfl, hu, rfl⟩ := cO_isnil hop
  have hv := X_is hT y
  rw [hx] at hv
  obtain ⟨ad, cp, g1, ⟨g2, g2'⟩, g3⟩ := hv
  have hr : (Op.equal T (.slice ad rows.length cp) (.slice none 0 0)).run c.P w = .ok ad.isNone w := run_equal_slice_nil w T e ad rows.length cp hu
  have hgd : ∀ o : BinOp, (eqGuard o T y (.const (.slice none 0 0)) (.slice ad rows.length cp) (.slice none 0 0)).run c.P w = .ok () w := fun o => by unfold eqGuard; split <;> rfl
  have hrun : (execOp a.eval ⟨dst, .binOp (nilOp ng) T y (.const (.slice none 0 0)) T2, ty, pos, af, gd⟩).run c.P w = .ok (.value (.bool (ngv ng ad.isNone))) w := by
    have he : a.eval (.const (.slice none 0 0)) = .slice none 0 0 := rfl
    generalize a.eval = ρ at *
    cases ng <;> simp [nilOp, ngv, execOp, g1, he, hgd, binOp, hr]
  unfold Oper.wp
  rw [hrun]
  cases had : ad with
  | none =>
    have hr0 : rows = [] := by
      have := g2' had
      exact List.length_eq_zero_iff.1 (by omega)
    have hv2 := h1 hr0
    cases ng
    · exact hn M w .tt (.bool true) S.bs S.ss (.refl M) hT.st rfl hv2
    · exact hn M w .ff (.bool false) S.bs S.ss (.refl M) hT.st rfl hv2
  | some b =>
    cases ng
    · exact hn M w .ff (.bool false) S.bs S.ss (.refl M) hT.st rfl h2
    · exact hn M w .tt (.bool true) S.bs S.ss (.refl M) hT.st rfl h2

/-! A fresh slice as a result -/
/-- A function whose result is a slice of its own making, that nobody else has. -/
def FunO (P : Program) (f : Nat) (args : List AV) (T n : Nat) (rows : List (List AV)) : Prop :=
  ∀ (H : Frag) (w : World) (vs : List Value), (∀ k o, H k = some o → w.heap[k]? = some o) → AV.isL (pureM H) args vs →
    Calls P f vs.toArray w fun e w' => ∃ v H' vss, e = .returned v ∧ Below w.heap.size w w' ∧ (∀ k o, H' k = some o → w'.heap[k]? = some o) ∧
      (∀ k, k < w.heap.size → H' k = H k) ∧ 0 < n ∧ AV.isLL (pureM H') n rows vss ∧ (∀ v ∈ vss.flatten, v.oneCell' = true) ∧ w'.ownsRow 0 T n v rows.length vss.flatten ∧ ∀ g, v.ownBlock = some g → w.heap.size ≤ g ∧ H' g = none
theorem FunO_intro {P : Program} {f : Nat} {fn : Func} {body : EC} {rs : List ERes} {np nt : Nat} (hf : FnOK P f fn body rs np nt) {args : List AV} {T n : Nat} {rows : List (List AV)} (hn : args.length = np)
    (h : ∀ w0 H0, V (Ctx.of P w0 H0) fn (fun x _ ss => ∃ j, x = .osl j ∧ oget ss j = some ⟨T, n, rows⟩) [.code body] (St.init args nt)) : FunO P f args T n rows := by
  intro H w vs hH ha
  obtain ⟨x, hb, hx⟩ := hf.b
  have hl := isL_length ha
  refine calls_of_wp hf.h hb ?_
  have hT := init_rel (P := P) (nt := nt) hH ha
  have e1 : fn.ntmps - vs.toArray.size = nt := by rw [hf.t]; simp; omega
  rw [e1]
  refine wp_mono (h w H [.code x] _ _ w ⟨_, _, rfl, hx, rfl⟩ hT) ?_
  have mono : ∀ e w', RK (Ctx.of P w H) (fun x _ ss => ∃ j, x = .osl j ∧ oget ss j = some ⟨T, n, rows⟩) e w' → ∃ v H' vss, e = .returned v ∧ Below w.heap.size w w' ∧ (∀ k o, H' k = some o → w'.heap[k]? = some o) ∧
      (∀ k, k < w.heap.size → H' k = H k) ∧ 0 < n ∧ AV.isLL (pureM H') n rows vss ∧ (∀ v ∈ vss.flatten, v.oneCell' = true) ∧ w'.ownsRow 0 T n v rows.length vss.flatten ∧ ∀ g, v.ownBlock = some g → w.heap.size ≤ g ∧ H' g = none := by
    rintro e w' ⟨v, M, bs, ss, y, rfl, hS, hv, j, rfl, hj⟩
    obtain ⟨q0, vss, q1, q2, q3, q4⟩ := hS.slc j _ hj
    have hv2 : v = M.σ j := hv.2
    subst hv2
    refine ⟨M.σ j, M.H, vss, rfl, ⟨hS.os, hS.tape, hS.output, hS.size, fun k hk => hS.block k hk (fun h => h)⟩, hS.hle, fun k hk => hS.hold k hk (fun h => h), q0, q1, q2, q3, fun g hg => ?_⟩
    obtain ⟨k1, k2⟩ := q4 g hg
    rcases k1 with k1 | k1
    · exact ⟨k1, k2⟩
    · exact k1.elim
  intro e a w' hq
  cases e with
  | normal => obtain ⟨h1, v, h2, h3⟩ := hq; exact ⟨h1, v, h2, mono _ _ h3⟩
  | ret => obtain ⟨h1, v, h2, h3⟩ := hq; exact ⟨h1, v, h2, mono _ _ h3⟩
  | panic ch => obtain ⟨h1, h2⟩ := hq; exact ⟨h1, mono _ _ h2⟩
  | outgrown => exact mono _ _ hq
  | exit id => exact hq
  | goto l => exact hq
theorem O_done {P : Program} {w0 : World} {H0 : Frag} {f : Nat} {fn : Func} {body : EC} {rs : List ERes} {np nt : Nat} {k : List It} {S : St} {T n j : Nat} {rows : List (List AV)} (ok : FnOK P f fn body rs np nt)
    (h : resV S rs = some (.osl j)) (hj : oget S.ss j = some ⟨T, n, rows⟩) : V (Ctx.of P w0 H0) fn (fun x _ ss => ∃ j, x = .osl j ∧ oget ss j = some ⟨T, n, rows⟩) (.code .ret :: k) S := V_ret ok.r h ⟨j, rfl, hj⟩
/-- Sealed at once, it is an answer as any other. -/
theorem FunO.sealed {P : Program} {f : Nat} {args : List AV} {T n : Nat} {rows : List (List AV)} (h : FunO P f args T n rows) : FunP P f args (.sl n rows) := by
  intro H w vs hH ha
  refine (h H w vs hH ha).mono ?_
  rintro e w' ⟨v, H', vss, rfl, hb, h1, h2, h3, h4, h5, h6, h7⟩
  refine ⟨v, fun k => if v.ownBlock = some k then w'.heap[k]? else H' k, rfl, hb, ?_, ?_, ?_⟩
  · intro k o hk
    dsimp only at hk
    split at hk
    · exact hk
    · exact h1 k o hk
  · intro k hk
    dsimp only
    rw [if_neg]
    · exact h2 k hk
    · intro e; have := (h7 k e).1; omega
  · rcases h6.2 with ⟨rfl, e2⟩ | ⟨g, cp, cur, rfl, _, e3, e4, _, e5, e6⟩
    · refine ⟨none, 0, by rw [e2], ⟨by omega, fun _ => rfl⟩, fun hne => absurd (List.length_eq_zero_iff.1 e2) hne⟩
    · refine ⟨some ⟨g, 0, none⟩, cp, rfl, ⟨e4, fun h => by simp at h⟩, fun _ => ⟨⟨g, 0, none⟩, vss, rfl, ?_, rfl, h5, cur, T, (0, 0), ?_, ?_⟩⟩
      · refine isLL_pure (H := H') ?_ h4
        intro k o hk
        show (if (Value.slice (some ⟨g, 0, none⟩) rows.length cp).ownBlock = some k then w'.heap[k]? else H' k) = some o
        split
        · rename_i e
          simp [Value.ownBlock] at e
          subst e
          rw [(h7 g rfl).2] at hk; simp at hk
        · exact hk
      · simp [pureM, Value.ownBlock]; exact e3
      · intro t v ht
        rw [← e6] at ht
        simp only [Nat.zero_add]
        rw [List.getElem?_take] at ht
        split at ht
        · simpa using ht
        · simp at ht
theorem sem_callO {f : Nat} {xs : List X} {args : List AV} {T n : Nat} {rows : List (List AV)} (hf : FunO c.P f args T n rows)
    (ha : AV.le.leL (mapX S xs) args) (hp : puL args = true) : Sem1 c S (.call f xs) (.osl (llen S.ss)) ⟨S.tm, S.bs, S.ss ++ [some ⟨T, n, rows⟩]⟩ := by
  intro ro ho M a w hT next Q hn
  obtain ⟨dst, op, ty, pos, af, gd⟩ := ro
  dsimp only at ho
  obtain ⟨cargs, argTypes, rfl, hfn, rfl⟩ := cO_call ho
  have hm := puL_is _ _ (leL_is _ _ _ ha (mapX_is hT cargs.toList)) hp
  have hc := hf M.H w _ hT.st.hle hm
  have hrun : (execOp a.eval ⟨dst, .call ⟨.value (.func f), cargs, argTypes⟩, ty, pos, af, gd⟩).run c.P w = .ok (.enter f (cargs.map a.eval)) w := by
    have he : a.eval (.func f) = .func (.func f) #[] #[] := rfl
    generalize a.eval = ρ at *
    simp [execOp, resolve, Deferred.ofValue, invoke, he, callFunc_run hfn]
  unfold Oper.wp
  rw [hrun]
  show Calls c.P f (cargs.map a.eval) w _
  have e1 : (cargs.toList.map a.eval).toArray = cargs.map a.eval := by apply Array.ext'; simp
  rw [← e1]
  refine hc.mono ?_
  rintro e w' ⟨v, H', vss, rfl, hb, h1, h2, h3, h4, h5, h6, h7⟩
  obtain ⟨hS, hle⟩ := hT.st.sealed hb h1 h2
  have hN := hS.name ⟨T, n, rows⟩ v vss h3 h4 h5 h6 (fun g hg => ⟨.inl (Nat.le_trans hT.st.size (h7 g hg).1), (h7 g hg).2⟩)
    (fun i B hi e => by have h8 : w.heap.size ≤ M.ρ i := (h7 _ e).1; have := hT.st.blk_lt hi; omega)
    (fun j N g hj e1 e2 => by have h8 := (h7 _ e1).1; have := hT.st.slc_lt hj e2; omega)
  refine hn _ w' v (hle.trans (Mem.le_addS _ v)) hN ?_
  rw [llen_eq, ← hT.st.ns]
  exact ⟨Nat.lt_succ_self _, by simp [Mem.addS]⟩
theorem V_callO {d : Option Nat} {g : Option (Nat × Bool)} {f : Nat} {xs : List X} {l : List EOp} {args : List AV} {T n : Nat} {rows : List (List AV)} (hg : gm S g) (hf : FunO c.P f args T n rows)
    (ha : AV.le.leL (mapX S xs) args := by first | exact leL_refl _ | simp [go_sem]) (hp : puL args = true := by first | rfl | simp [go_sem]) (h : V c fn K (.ops l :: k) ((⟨S.tm, S.bs, S.ss ++ [some ⟨T, n, rows⟩]⟩ : St).put d (.osl (llen S.ss)))) : V c fn K (.ops (⟨d, g, .call f xs⟩ :: l) :: k) S :=
  V_sem hg (sem_callO hf ha hp) rfl h
theorem GO_callO {all : Array Oper} {ops : List EOp} {af : List (List Nat)} {Φ : St → Prop} {m : Nat} {ld : List Bool} (hall : all.toList.mapM (cOp c.P all) = some ops) {i f : Nat} {xs : List X} {args : List AV} {T n : Nat} {rows : List (List AV)} (ho : (eget ops i).o = .call f xs) (hg : gm S (eget ops i).g) (hf : FunO c.P f args T n rows)
    (ha : AV.le.leL (mapX S xs) args := by first | exact leL_refl _ | simp [go_sem]) (hp : puL args = true := by first | rfl | simp [go_sem]) (h : G c all ops af Φ m (bset ld i) ((⟨S.tm, S.bs, S.ss ++ [some ⟨T, n, rows⟩]⟩ : St).put (eget ops i).d (.osl (llen S.ss)))) : GO c all ops af Φ m ld S i :=
  GO_sem (S1 := ⟨S.tm, S.bs, S.ss ++ [some ⟨T, n, rows⟩]⟩) hall hg (by rw [ho]; exact sem_callO hf ha hp) rfl (by rw [ho]; exact fun _ _ _ _ h _ _ => h) h
end
end NX
end Go.Proofs.Ytadebhbiglmodaa
/-
  The symbolic machine: own blocks change their names; what is appended is sealed at once. No statement of the seat is proved here.
-/
namespace Go.Proofs.Ytadebhbiglmodaa
namespace NX
open Go Go.RowKit

def swN (p q i : Nat) : Nat := match i == p with
  | true => q
  | false => match i == q with
    | true => p
    | false => i
theorem swN_eq (p q i : Nat) : swN p q i = if i = p then q else if i = q then p else i := by
  unfold swN
  cases h : i == p
  · have h1 : i ≠ p := by simpa using h
    rw [if_neg h1]
    cases h2 : i == q
    · have h3 : i ≠ q := by simpa using h2
      rw [if_neg h3]
    · have h3 : i = q := by simpa using h2
      rw [if_pos h3]
  · have h1 : i = p := by simpa using h
    rw [if_pos h1]
theorem swN_swN (p q i : Nat) : swN p q (swN p q i) = i := by
  simp only [swN_eq]
  by_cases h1 : i = p
  · rw [if_pos h1]
    by_cases h2 : q = p
    · rw [if_pos h2, h1, h2]
    · rw [if_neg h2, if_pos rfl, h1]
  · rw [if_neg h1]
    by_cases h2 : i = q
    · rw [if_pos h2, if_pos rfl, h2]
    · rw [if_neg h2, if_neg h1, if_neg h2]
theorem swN_lt {p q i n : Nat} (hp : p < n) (hq : q < n) (hi : i < n) : swN p q i < n := by
  rw [swN_eq]; split
  · exact hq
  · split
    · exact hp
    · exact hi
mutual
/-- Two own blocks change their names. -/
def AV.swB (p q : Nat) : AV → AV
  | .ptr i o => .ptr (swN p q i) o
  | .agg l => .agg (swBL p q l)
  | .tup l => .tup (swBL p q l)
  | .clo f l => .clo f (swBL p q l)
  | .any => .any
  | .un => .un
  | .tt => .tt
  | .ff => .ff
  | .bv e => .bv e
  | .iv n => .iv n
  | .kv k n => .kv k n
  | .sv x => .sv x
  | .nl => .nl
  | .nlp => .nlp
  | .fn f => .fn f
  | .osl i => .osl i
  | .oel i a b => .oel i a b
  | .elt row o => .elt row o
  | .sl n rows => .sl n rows
def swBL (p q : Nat) : List AV → List AV
  | [] => []
  | x :: l => x.swB p q :: swBL p q l
end
def St.swB (S : St) (p q : Nat) : St := ⟨swBL p q S.tm, oput (oput (mapB (swBL p q) S.bs) p (oget (mapB (swBL p q) S.bs) q)) q (oget (mapB (swBL p q) S.bs) p), S.ss⟩
attribute [go_sem] AV.swB swBL St.swB swN
theorem swBL_length (p q : Nat) : ∀ l, (swBL p q l).length = l.length
  | [] => rfl
  | _ :: l => by simp [swBL, swBL_length p q l]
theorem swBL_get (p q : Nat) : ∀ (l : List AV) (t : Nat), lget (swBL p q l) t = (lget l t).swB p q
  | [], _ => by simp [swBL, lget, AV.swB]
  | _ :: _, 0 => rfl
  | _ :: l, t + 1 => swBL_get p q l t
section
variable {c : Ctx} {M : Mem} {S S' : St} {a : Act} {w : World} {fn : Func} {K : AV → List (Option Blk) → List (Option Sl) → Prop} {k : List It}
mutual
theorem swB_is {M M' : Mem} {p q : Nat} (hp : p < M.nb) (hq : q < M.nb) (hρ : ∀ i, M'.ρ i = M.ρ (swN p q i)) (hnb : M'.nb = M.nb) (hns : M'.ns = M.ns) (hσ : M'.σ = M.σ) (hH : M'.H = M.H) : ∀ (x : AV) (v : Value), x.is M v → (x.swB p q).is M' v
  | .any, _, _ => trivial
  | .un, _, k | .tt, _, k | .ff, _, k | .bv _, _, k | .iv _, _, k | .kv _ _, _, k | .sv _, _, k | .nl, _, k | .nlp, _, k | .fn _, _, k => k
  | .ptr j off, x, k => ⟨by rw [hnb]; exact swN_lt hp hq k.1, by rw [hρ, swN_swN]; exact k.2⟩
  | .osl j, x, k => ⟨by rw [hns]; exact k.1, by rw [hσ]; exact k.2⟩
  | .oel j a off, x, k => ⟨by rw [hns]; exact k.1, by rw [hσ]; exact k.2⟩
  | .elt row off, x, ⟨a, vs, h1, h2, h3⟩ => ⟨a, vs, h1, by rw [show M'.pure = M.pure by simp [Mem.pure, hH]]; exact h2, by rw [hH]; exact h3⟩
  | .sl n rows, x, ⟨a, c, h1, h2, h3⟩ => ⟨a, c, h1, h2, by rw [show M'.pure = M.pure by simp [Mem.pure, hH], hH]; exact h3⟩
  | .agg l, x, ⟨vs, h1, h2⟩ => ⟨vs, h1, swBL_is hp hq hρ hnb hns hσ hH l vs h2⟩
  | .tup l, x, ⟨vs, h1, h2⟩ => ⟨vs, h1, swBL_is hp hq hρ hnb hns hσ hH l vs h2⟩
  | .clo f l, x, ⟨vs, h1, h2⟩ => ⟨vs, h1, swBL_is hp hq hρ hnb hns hσ hH l vs h2⟩
theorem swBL_is {M M' : Mem} {p q : Nat} (hp : p < M.nb) (hq : q < M.nb) (hρ : ∀ i, M'.ρ i = M.ρ (swN p q i)) (hnb : M'.nb = M.nb) (hns : M'.ns = M.ns) (hσ : M'.σ = M.σ) (hH : M'.H = M.H) : ∀ (l : List AV) (vs : List Value), AV.isL M l vs → AV.isL M' (swBL p q l) vs
  | [], _, k => k
  | x :: l, _, ⟨v, r, h1, h2, h3⟩ => ⟨v, r, h1, swB_is hp hq hρ hnb hns hσ hH x v h2, swBL_is hp hq hρ hnb hns hσ hH l r h3⟩
end
theorem V_swB (p q : Nat) (hp : leb (p + 1) (llen S.bs) = true) (hq : leb (q + 1) (llen S.bs) = true) (h : V c fn K k (S.swB p q)) (hpn : leb c.np p = true := by rfl) (hqn : leb c.np q = true := by rfl) : V c fn K k S := by
  intro rk M a w hc hT
  rw [leb_iff, llen_eq] at hp hq
  have hS := hT.st
  have hp' : p < M.nb := by rw [hS.nb]; exact hp
  have hq' : q < M.nb := by rw [hS.nb]; exact hq
  let M' : Mem := { M with ρ := fun i => M.ρ (swN p q i) }
  have hx := fun x v => swB_is (M := M) (M' := M') hp' hq' (fun _ => rfl) rfl rfl rfl rfl x v
  have hxL := fun x v => swBL_is (M := M) (M' := M') hp' hq' (fun _ => rfl) rfl rfl rfl rfl x v
  have get : ∀ i B, oget (S.swB p q).bs i = some B → ∃ C, oget S.bs (swN p q i) = some C ∧ B = ⟨C.T, swBL p q C.cells⟩ := by
    intro i B hi
    simp only [St.swB] at hi
    rw [oget_oput] at hi
    split at hi
    · rename_i e
      obtain ⟨rfl, _⟩ := e
      have : swN p i i = p := by rw [swN_eq]; by_cases h : i = p <;> simp [h]
      rw [this]; exact mapB_get _ _ _ _ hi
    · rename_i e
      rw [oget_oput] at hi
      split at hi
      · rename_i e2
        obtain ⟨rfl, _⟩ := e2
        have : swN i q i = q := by simp [swN_eq]
        rw [this]; exact mapB_get _ _ _ _ hi
      · rename_i e2
        have n1 : i ≠ q := fun h => e ⟨h, by rw [length_oput, mapB_length]; exact hq⟩
        have n2 : i ≠ p := fun h => e2 ⟨h, by rw [mapB_length]; exact hp⟩
        have : swN p q i = i := by rw [swN_eq, if_neg n2, if_neg n1]
        rw [this]; exact mapB_get _ _ _ _ hi
  refine h rk M' a w hc ⟨by simp only [St.swB, swBL_length]; exact hT.len, fun t => by simp only [St.swB, swBL_get]; exact hx _ _ (hT.tm t), hT.df, ?_⟩
  refine ⟨by simp only [St.swB, length_oput, mapB_length]; exact hS.nb, hS.ns, hS.so, hS.os, hS.tape, hS.output, hS.size, hS.block, hS.hle, hS.hold, ?_, hS.slc, ?_, ?_, hS.d3, ⟨hS.pin.nb, fun j hj => by
    rw [leb_iff] at hpn hqn
    show M.ρ (swN p q j) = _
    rw [swN_eq, if_neg (by omega), if_neg (by omega)]; exact hS.pin.ρ j hj, hS.pin.ns, hS.pin.σ⟩⟩
  · intro i B hi
    obtain ⟨C, hC, rfl⟩ := get i B hi
    obtain ⟨g1, g2, vs, g3, g4, g5⟩ := hS.blk _ C hC
    exact ⟨g1, g2, vs, hxL _ _ g3, g4, g5⟩
  · intro i j B C hi hj e
    obtain ⟨B', hB, _⟩ := get i B hi
    obtain ⟨C', hC, _⟩ := get j C hj
    have := hS.d1 _ _ B' C' hB hC e
    rw [← swN_swN p q i, this, swN_swN]
  · intro i j B L hi hj
    obtain ⟨B', hB, _⟩ := get i B hi
    exact hS.d2 _ j B' L hB hj
/-- What is appended to is sealed at once. -/
theorem sem_appS {e n b j : Nat} {x y : X} {L : Sl} {rows : List (List AV)} (hx : S.x x = .osl j) (hj : oget S.ss j = some L) (hT : L.T = e) (hn : L.n = n) (hy : srcRows S n (S.x y) = some rows)
    (hb : (L.rows.length + rows.length) * b ≤ 140737488355328) (hb2 : L.rows.length + rows.length ≤ 9223372036854775807) :
    Sem1 c S (.app e n b x y) (.sl n (L.rows ++ rows)) ⟨S.tm, mapB (subOL (llen S.ss) (.sl n (L.rows ++ rows))) S.bs, oput (oput S.ss j none ++ [some ⟨e, n, L.rows ++ rows⟩]) (llen S.ss) none⟩ := by
  intro ro hro M a w hT' next Q hnx
  have hlen : oget (oput S.ss j none ++ [some (⟨e, n, L.rows ++ rows⟩ : Sl)]) (llen S.ss) = some ⟨e, n, L.rows ++ rows⟩ := by
    rw [oget_append, length_oput, llen_eq, if_pos rfl]
  refine sem_app hx hj hT hn hy hb hb2 ro hro M a w hT' next Q fun M' w' u h1 h2 h3 => ?_
  obtain ⟨M2, k1, k2, k3⟩ := seal_rel (S := ⟨[], S.bs, oput S.ss j none ++ [some ⟨e, n, L.rows ++ rows⟩]⟩) (a := a) (llen S.ss) hlen ⟨by simp, fun t => by cases t <;> trivial, hT'.df, h2⟩
  refine hnx M2 w' u (h1.trans k1) k2.st ?_
  simp only [AV.is] at h3
  rw [h3.2]; exact k3
theorem keeps_map {o : EO} (j : Nat) (r : AV) (ss : List (Option Sl)) (tm : List AV) : keeps S ⟨tm, mapB (subOL j r) S.bs, ss⟩ o := by
  intro i off m l h1 h2 _
  simp only [rowOf] at h1 ⊢
  rw [oget_mapB]
  split at h1
  · rename_i B hB
    rw [hB]
    have := lsub_subOL j r h1
    rw [subOL_pu j r l h2] at this
    exact this
  · simp at h1
theorem GO_appSM {all : Array Oper} {ops : List EOp} {af : List (List Nat)} {Φ : St → Prop} {m : Nat} {ld : List Bool} {α : Type} {l' m' v : List α} {b : Nat} (f : α → List AV) (hv : app_ b l' m' = some v) (hall : all.toList.mapM (cOp c.P all) = some ops) {i e n j : Nat} {x y : X} (ho : (eget ops i).o = .app e n b x y) (hg : gm S (eget ops i).g)
    (hx : S.x x = .osl j) (hj : oget S.ss j = some ⟨e, n, l'.map f⟩) (hy : srcRows S n (S.x y) = some (m'.map f))
    (h : G c all ops af Φ m (bset ld i) ((⟨S.tm, mapB (subOL (llen S.ss) (.sl n (v.map f))) S.bs, oput (oput S.ss j none ++ [some ⟨e, n, v.map f⟩]) (llen S.ss) none⟩ : St).put (eget ops i).d (.sl n (v.map f)))) : GO c all ops af Φ m ld S i := by
  obtain ⟨h0, h1, h2⟩ := app_some hv
  subst h0
  rw [List.map_append] at h
  exact GO_sem (S1 := ⟨S.tm, mapB (subOL (llen S.ss) (.sl n (l'.map f ++ m'.map f))) S.bs, oput (oput S.ss j none ++ [some ⟨e, n, l'.map f ++ m'.map f⟩]) (llen S.ss) none⟩) hall hg
    (by rw [ho]; exact sem_appS hx hj rfl rfl hy (by simpa using h1) (by simpa using h2)) rfl (by rw [ho]; exact keeps_map _ _ _ _) h
end
/-- So many reading operations are taken first. -/
theorem G_runN {c : Ctx} {all : Array Oper} {ops : List EOp} (hall : all.toList.mapM (cOp c.P all) = some ops) (hsel : Region.noSelect all = true) {Φ : St → Prop} (r : Nat) :
    ∀ (m : Nat) (ld : List Bool) (S : St) (p : Prop), (grun ops (cAf all) (cNap all) m ld S p).2.2.2 →
      G c all ops (cAf all) Φ ((grun ops (cAf all) (cNap all) m ld S p).1 + r) (grun ops (cAf all) (cNap all) m ld S p).2.1 (grun ops (cAf all) (cNap all) m ld S p).2.2.1 → p ∧ G c all ops (cAf all) Φ (m + r) ld S
  | 0, ld, S, p, hp, h => ⟨hp, h⟩
  | m + 1, ld, S, p, hp, h => by
    simp only [grun] at hp h
    split at hp
    · rename_i x hx
      rw [hx] at h
      obtain ⟨i, v, q⟩ := x
      obtain ⟨h1, h2⟩ := G_runN hall hsel r m _ _ _ hp h
      obtain ⟨k1, k2, k3, k4⟩ := gpick_spec hx
      refine ⟨h1.1, ?_⟩
      rw [show m + 1 + r = (m + r) + 1 by omega]
      exact G_take hall hsel i h1.2 (m + r) ld S k1 k2 k3 k4 h2
    · rename_i hx
      rw [hx] at h
      exact ⟨hp, h⟩
theorem G_goN {c : Ctx} {all : Array Oper} {ops : List EOp} {af nap : List (List Nat)} (hall : all.toList.mapM (cOp c.P all) = some ops) (hsel : Region.noSelect all = true) (haf : af = cAf all) (hnap : nap = cNap all) {Φ : St → Prop} (m r : Nat)
    {ld : List Bool} {S : St} (h : (grun ops af nap m ld S True).2.2.2 ∧ G c all ops af Φ ((grun ops af nap m ld S True).1 + r) (grun ops af nap m ld S True).2.1 (grun ops af nap m ld S True).2.2.1) : G c all ops af Φ (m + r) ld S := by
  subst haf; subst hnap
  exact (G_runN hall hsel r _ _ _ True h.1 h.2).2
/-- So many truths. -/
def tN : Nat → Prop
  | 0 => True
  | n + 1 => tN n ∧ True
theorem tN_true : ∀ n, tN n
  | 0 => trivial
  | n + 1 => ⟨tN_true n, trivial⟩
/-- Values that don't matter, ahead of others. -/
def an : Nat → List AV → List AV
  | 0, l => l
  | n + 1, l => .any :: an n l
attribute [go_sem] an
theorem G_goE {c : Ctx} {all : Array Oper} {ops : List EOp} {af nap : List (List Nat)} (hall : all.toList.mapM (cOp c.P all) = some ops) (hsel : Region.noSelect all = true) (haf : af = cAf all) (hnap : nap = cNap all) {Φ : St → Prop} (m r : Nat)
    {ld : List Bool} {S : St} (ld' : List Bool) (S' : St) (he : grun ops af nap m ld S True = (0, ld', S', tN m)) (h : G c all ops af Φ r ld' S') : G c all ops af Φ (m + r) ld S :=
  G_goN hall hsel haf hnap m r (by rw [he]; exact ⟨tN_true m, by simpa using h⟩)
theorem O_doneM {P : Program} {w0 : World} {H0 : Frag} {f : Nat} {fn : Func} {body : EC} {rs : List ERes} {np nt : Nat} {k : List It} {S : St} {T n j : Nat} {α : Type} {e r : List α} (g : α → List AV) (ok : FnOK P f fn body rs np nt) (h : some e = some r)
    (hr : resV S rs = some (.osl j)) (hj : oget S.ss j = some ⟨T, n, e.map g⟩) : V (Ctx.of P w0 H0) fn (fun x _ ss => ∃ j, x = .osl j ∧ oget ss j = some ⟨T, n, r.map g⟩) (.code .ret :: k) S := by
  obtain rfl := Option.some.inj h
  exact O_done ok hr hj
end NX
end Go.Proofs.Ytadebhbiglmodaa
/-
  The symbolic machine: elements of own slices, read and written. No statement of the seat is proved here.
-/
namespace Go.Proofs.Ytadebhbiglmodaa
namespace NX
open Go Go.RowKit

section
variable {c : Ctx} {M : Mem} {S S' : St} {a : Act} {w : World} {fn : Func} {K : AV → List (Option Blk) → List (Option Sl) → Prop} {k : List It} {bs : List (Option Blk)} {ss : List (Option Sl)}
/-- An own slice's cells are written over. -/
theorem RelS.rewrite (h : RelS c M bs ss w) {j g : Nat} {L : Sl} (hj : oget ss j = some L) (hown : (M.σ j).ownBlock = some g) {w' : World} (hg : w.grownBy w' (some g)) {rows' : List (List AV)} {vss' : List (List Value)} (h1 : AV.isLL M.pure L.n rows' vss')
    (h2 : ∀ v ∈ vss'.flatten, v.oneCell' = true) (h3 : w'.ownsRow 0 L.T L.n (M.σ j) rows'.length vss'.flatten) : RelS c M bs (oput ss j (some ⟨L.T, L.n, rows'⟩)) w' := by
  obtain ⟨g0, vss, _, _, hrow, hmine⟩ := h.slc j L hj
  obtain ⟨m1, m2⟩ := hmine g hown
  have old : ∀ i N, oget (oput ss j (some (⟨L.T, L.n, rows'⟩ : Sl))) i = some N → (i = j ∧ N = ⟨L.T, L.n, rows'⟩) ∨ (i ≠ j ∧ oget ss i = some N) := by
    intro i N hi
    rw [oget_oput] at hi
    split at hi
    · rename_i e; left; exact ⟨e.1, by simpa using hi.symm⟩
    · rename_i e; right; exact ⟨fun x => e ⟨x, oget_lt hj⟩, hi⟩
  have live : ∀ i N, oget (oput ss j (some (⟨L.T, L.n, rows'⟩ : Sl))) i = some N → ∃ N', oget ss i = some N' := by
    intro i N hi
    rcases old i N hi with ⟨rfl, _⟩ | ⟨_, h⟩
    · exact ⟨_, hj⟩
    · exact ⟨_, h⟩
  obtain ⟨e1, e2, e3, e4, e5⟩ := hg
  refine ⟨h.nb, by rw [length_oput]; exact h.ns, h.so, e1.trans h.os, e2.trans h.tape, e3.trans h.output, Nat.le_trans h.size e4, ?_, ?_, h.hold, ?_, ?_, h.d1, ?_, ?_, h.pin⟩
  · intro k hk hb
    rw [e5 k (Nat.lt_of_lt_of_le hk h.size) (fun e => by
      simp at e; subst e
      rcases m1 with m1 | m1
      · omega
      · exact hb m1)]
    exact h.block k hk hb
  · intro k o hk
    have hlt := (Array.getElem?_eq_some_iff.1 (h.hle k o hk)).1
    rw [e5 k hlt (fun e => by simp at e; subst e; rw [m2] at hk; simp at hk)]
    exact h.hle k o hk
  · intro i B hi
    obtain ⟨g1, g2, vs, g3, g4, g5⟩ := h.blk i B hi
    refine ⟨g1, g2, vs, g3, ?_, g5⟩
    rw [e5 _ (h.blk_lt hi) (fun e => h.d2 i j B L hi hj (by rw [hown]; exact e.symm))]
    exact g4
  · intro i N hi
    rcases old i N hi with ⟨rfl, rfl⟩ | ⟨hne, hi⟩
    · exact ⟨g0, vss', h1, h2, h3, hmine⟩
    · obtain ⟨q0, uss, q1, q2, q3, q4⟩ := h.slc i N hi
      refine ⟨q0, uss, q1, q2, World.ownsRow.kept q3 (row := some g) ⟨e1, e2, e3, e4, e5⟩ (.inr fun e => ?_), q4⟩
      exact hne (h.d3 i j N L g hi hj e hown)
  · intro i t B N hi ht
    obtain ⟨N', hN⟩ := live t N ht
    exact h.d2 i t B N' hi hN
  · intro i t N O g' hi ht
    obtain ⟨N', hN⟩ := live i N hi
    obtain ⟨O', hO⟩ := live t O ht
    exact h.d3 i t N' O' g' hN hO
/-! Elements of own slices -/
theorem own_row (hT : RelT c M S a w) {j i : Nat} {L : Sl} {row : List AV} (hj : oget S.ss j = some L) (hr : L.rows[i]? = some row) :
    ∃ g cap cur vss vs, M.σ j = .slice (some ⟨g, 0, none⟩) L.rows.length cap ∧ w.heap[g]? = some (.cells cur L.T (0, 0)) ∧ cur.size = cap * L.n ∧ L.rows.length ≤ cap ∧ cap ≤ maxLen ∧ AV.isLL M.pure L.n L.rows vss ∧ cur.toList.take (L.rows.length * L.n) = vss.flatten ∧
      (∀ v ∈ vss.flatten, v.oneCell' = true) ∧ vss[i]? = some vs ∧ vs.length = L.n ∧ AV.isL M.pure row vs ∧ (∀ (m : Nat) v, vs[m]? = some v → cur[i * L.n + m]? = some v) := by
  obtain ⟨g0, vss, h1, h2, h3, h4⟩ := hT.st.slc j L hj
  have hlt := (List.getElem?_eq_some_iff.1 hr).1
  rcases h3.2 with ⟨_, e3⟩ | ⟨g, cap, cur, e2, _, e3, e4, e5, e6, e7⟩
  · omega
  · obtain ⟨vs, q1, q2, q3, q4⟩ := isLL_get h1 i row hr
    refine ⟨g, cap, cur, vss, vs, e2, e3, e6, e4, e5, h1, e7, h2, q1, q2, q3, fun m v hm => ?_⟩
    have := q4 m v hm
    rw [← e7, List.getElem?_take] at this
    split at this
    · simpa using this
    · simp at this
theorem sem_idxO {n j : Nat} {x i : X} {z : Int} {L : Sl} (hx : S.x x = .osl j) (hi : S.x i = .iv z) (hj : oget S.ss j = some L) (_ : L.n = n) (h0 : 0 ≤ z) (h1 : z < L.rows.length) : Sem1 c S (.idx n x i) (.oel j (z.toNat * n) 0) S := by
  intro ro hop M a w hT next Q hnx
  obtain ⟨dst, op, ty, pos, af, gd⟩ := ro
  dsimp only at hop
  obtain ⟨T, y, q, e, rfl, hu, hs, rfl, rfl⟩ := cO_idx hop
  have k1 := X_is hT y
  have k2 := X_is hT q
  rw [hx] at k1
  rw [hi] at k2
  obtain ⟨row, hr⟩ : ∃ row, L.rows[z.toNat]? = some row := ⟨_, List.getElem?_eq_getElem (by omega)⟩
  obtain ⟨g, cap, cur, _, _, e2, _, _, _, _, _⟩ := own_row hT hj hr
  have hrun := idx_run (P := c.P) (w := w) hu hs (k1.2.trans e2) k2 h0 h1 dst ty pos af gd
  unfold Oper.wp
  rw [hrun]
  refine hnx M w _ (.refl M) hT.st ⟨k1.1, g, _, cap, e2, ?_⟩
  rw [Addr.add_lit]; simp
theorem V_idxO {d : Option Nat} {g : Option (Nat × Bool)} {l : List EOp} {n j : Nat} {x i : X} {z : Int} {L : Sl} (hg : gm S g) (hx : S.x x = .osl j) (hi : S.x i = .iv z) (hj : oget S.ss j = some L) (hn : L.n = n) (h0 : 0 ≤ z) (h1 : z < L.rows.length)
    (h : V c fn K (.ops l :: k) (S.put d (.oel j (z.toNat * n) 0))) : V c fn K (.ops (⟨d, g, .idx n x i⟩ :: l) :: k) S :=
  V_sem hg (sem_idxO hx hi hj hn h0 h1) rfl h
theorem V_idxOM {α : Type} {l' : List α} {z : Int} {v : α} {d : Option Nat} {g : Option (Nat × Bool)} {l : List EOp} {T n j : Nat} {x i : X} (f : α → List AV) (hv : at_ l' z = some v) (hg : gm S g) (hx : S.x x = .osl j) (hi : S.x i = .iv z) (hj : oget S.ss j = some ⟨T, n, l'.map f⟩)
    (h : V c fn K (.ops l :: k) (S.put d (.oel j (z.toNat * n) 0))) : V c fn K (.ops (⟨d, g, .idx n x i⟩ :: l) :: k) S := by
  obtain ⟨h0, hr⟩ := at_some hv
  have := (List.getElem?_eq_some_iff.1 hr).1
  exact V_idxO hg hx hi hj rfl h0 (by simp; omega) h
theorem at_set {α : Type} {l : List α} {z : Int} {y y' : α} (h : at_ l z = some y) : at_ (l.set z.toNat y') z = some y' := by
  obtain ⟨h0, hr⟩ := at_some h
  have := (List.getElem?_eq_some_iff.1 hr).1
  unfold at_
  rw [if_pos h0]; simp [this]
theorem cO_load {P : Program} {op : Op} {x : X} (ho : cO P op = .load x) : ∃ T y, op = .load T y ∧ aggN P T = some none ∧ cX y = x := by
  cases op
  case load T y =>
    simp only [cO] at ho
    split at ho
    · rename_i h; simp only [EO.load.injEq] at ho; exact ⟨T, y, rfl, h, ho⟩
    · simp at ho
    · simp at ho
  all_goals (simp only [cO] at ho; (repeat' (split at ho)) <;> simp at ho)
theorem cO_loadA {P : Program} {op : Op} {n : Nat} {x : X} (ho : cO P op = .loadA n x) : ∃ T y, op = .load T y ∧ aggN P T = some (some n) ∧ cX y = x := by
  cases op
  case load T y =>
    simp only [cO] at ho
    split at ho
    · simp at ho
    · rename_i h; simp only [EO.loadA.injEq] at ho; exact ⟨T, y, rfl, by rw [h, ho.1], ho.2⟩
    · simp at ho
  all_goals (simp only [cO] at ho; (repeat' (split at ho)) <;> simp at ho)
theorem cO_storeX {P : Program} {op : Op} {n : Nat} {x y : X} (ho : cO P op = .store n x y) : ∃ T p q, op = .store T p q ∧ szOf P T = some n ∧ cX p = x ∧ cX q = y := by
  cases op
  case store T p q =>
    simp only [cO] at ho
    split at ho
    · rename_i n' h; simp only [EO.store.injEq] at ho; exact ⟨T, p, q, rfl, by rw [h, ho.1], ho.2.1, ho.2.2⟩
    · simp at ho
  all_goals (simp only [cO] at ho; (repeat' (split at ho)) <;> simp at ho)
/-- The cells behind a pointer into an own slice. -/
theorem oel_cells (hT : RelT c M S a w) {j i n off m : Nat} {L : Sl} {row l : List AV} {u : Value} (hu : (AV.oel j (i * n) off).is M u) (hj : oget S.ss j = some L) (hn : L.n = n) (hr : L.rows[i]? = some row) (hl : lsub row off m = some l) :
    ∃ g vs, u = .pointer (some ⟨g, i * n + off, none⟩) ∧ AV.isL M l vs ∧ vs.length = m ∧ ∀ (q : Nat) v, vs[q]? = some v → w.cell? ⟨g, i * n + off + q, none⟩ = some v := by
  subst hn
  obtain ⟨_, g', n', cap', e1, rfl⟩ := hu
  obtain ⟨g, cap, cur, vss, vs, e2, e3, _, _, _, _, _, _, _, q2, q3, q4⟩ := own_row hT hj hr
  rw [e2] at e1
  simp only [Value.slice.injEq, Option.some.injEq, Addr.mk.injEq] at e1
  obtain ⟨⟨rfl, _⟩, _⟩ := e1
  obtain ⟨rfl, hle⟩ := lsub_eq hl
  refine ⟨g, (vs.drop off).take m, rfl, isL_mono (pure_le M) _ _ (isL_take m (isL_drop off q3)), by have := isL_length q3; simp; omega, ?_⟩
  intro q v hq
  rw [List.getElem?_take] at hq
  split at hq
  · simp at hq
    have := q4 _ v hq
    simp only [World.cell?, e3]
    simp only [Option.isSome_none, Bool.false_eq_true, if_false]
    rw [Nat.add_assoc]; exact this
  · simp at hq
theorem sem_loadO {j i n off : Nat} {x : X} {L : Sl} {row : List AV} {v : AV} (hx : S.x x = .oel j (i * n) off) (hj : oget S.ss j = some L) (hn : L.n = n) (hr : L.rows[i]? = some row) (hl : lsub row off 1 = some [v]) : Sem1 c S (.load x) v S := by
  intro ro hop M a w hT next Q hnx
  obtain ⟨dst, op, ty, pos, af, gd⟩ := ro
  dsimp only at hop
  obtain ⟨T, y, rfl, hT1, rfl⟩ := cO_load hop
  have k1 := X_is hT y
  rw [hx] at k1
  obtain ⟨g, vs, hu, h2, h3, h4⟩ := oel_cells hT k1 hj hn hr hl
  obtain ⟨u, rfl⟩ : ∃ u, vs = [u] := by
    cases vs with
    | nil => simp at h3
    | cons u r => cases r with
      | nil => exact ⟨u, rfl⟩
      | cons _ _ => simp at h3
  have hc := h4 0 u (by simp)
  have hrun : (execOp a.eval ⟨dst, .load T y, ty, pos, af, gd⟩).run c.P w = .ok (.value u) w := by
    generalize a.eval = ρ at *
    simp only [Nat.add_zero] at hc
    simp [execOp, hu, Instr.loadAt, Instr.sureAddr, loadVar_one hT1 hc]
  unfold Oper.wp
  rw [hrun]
  refine hnx M w u (.refl M) hT.st ?_
  obtain ⟨_, _, h, hy, _⟩ := h2
  simp at h; obtain ⟨rfl, rfl⟩ := h; exact hy
theorem V_loadO {α : Type} {l' : List α} {z : Int} {y : α} {d : Option Nat} {g : Option (Nat × Bool)} {l : List EOp} {j T n off : Nat} {x : X} {v : AV} (f : α → List AV) (hv : at_ l' z = some y) (hg : gm S g) (hx : S.x x = .oel j (z.toNat * n) off) (hj : oget S.ss j = some ⟨T, n, l'.map f⟩)
    (hl : lsub (f y) off 1 = some [v]) (h : V c fn K (.ops l :: k) (S.put d v)) : V c fn K (.ops (⟨d, g, .load x⟩ :: l) :: k) S :=
  V_sem hg (sem_loadO hx hj rfl (row_map (at_some hv).2) hl) rfl h
theorem sem_loadAO {j i n off m : Nat} {x : X} {L : Sl} {row r : List AV} (hx : S.x x = .oel j (i * n) off) (hj : oget S.ss j = some L) (hn : L.n = n) (hr : L.rows[i]? = some row) (hl : lsub row off m = some r) : Sem1 c S (.loadA m x) (.agg r) S := by
  intro ro hop M a w hT next Q hnx
  obtain ⟨dst, op, ty, pos, af, gd⟩ := ro
  dsimp only at hop
  obtain ⟨T, y, rfl, hT1, rfl⟩ := cO_loadA hop
  have k1 := X_is hT y
  rw [hx] at k1
  obtain ⟨g, vs, hu, h2, h3, h4⟩ := oel_cells hT k1 hj hn hr hl
  have hrun : (execOp a.eval ⟨dst, .load T y, ty, pos, af, gd⟩).run c.P w = .ok (.value (.agg vs.toArray)) w := by
    generalize a.eval = ρ at *
    simp [execOp, hu, Instr.loadAt, Instr.sureAddr, loadVar_agg hT1 h3 h4]
  unfold Oper.wp
  rw [hrun]
  exact hnx M w _ (.refl M) hT.st ⟨vs, rfl, h2⟩
theorem V_loadAO {α : Type} {l' : List α} {z : Int} {y : α} {d : Option Nat} {g : Option (Nat × Bool)} {l : List EOp} {j T n off m : Nat} {x : X} {r : List AV} (f : α → List AV) (hv : at_ l' z = some y) (hg : gm S g) (hx : S.x x = .oel j (z.toNat * n) off) (hj : oget S.ss j = some ⟨T, n, l'.map f⟩)
    (hl : lsub (f y) off m = some r) (h : V c fn K (.ops l :: k) (S.put d (.agg r))) : V c fn K (.ops (⟨d, g, .loadA m x⟩ :: l) :: k) S :=
  V_sem hg (sem_loadAO hx hj rfl (row_map (at_some hv).2) hl) rfl h
theorem isLL_set {M : Mem} {n : Nat} : ∀ {rows : List (List AV)} {vss : List (List Value)} {i : Nat} {row : List AV} {vs : List Value}, AV.isLL M n rows vss → AV.isL M row vs → vs.length = n → AV.isLL M n (rows.set i row) (vss.set i vs)
  | [], _, i, _, _, h, _, _ => by simp [AV.isLL] at h; subst h; simp [AV.isLL]
  | r :: rows, _, 0, _, _, ⟨v, q, h0, h1, h2, h3⟩, hr, hl => by subst h0; exact ⟨_, _, rfl, hl, hr, h3⟩
  | r :: rows, _, i + 1, _, _, ⟨v, q, h0, h1, h2, h3⟩, hr, hl => by subst h0; exact ⟨v, _, rfl, h1, h2, isLL_set h3 hr hl⟩
theorem flatten_set {n off : Nat} {cs : List Value} : ∀ {vss : List (List Value)} {i : Nat} {vs : List Value}, (∀ v ∈ vss, v.length = n) → vss[i]? = some vs → off + cs.length ≤ n →
    (vss.set i (vs.take off ++ cs ++ vs.drop (off + cs.length))).flatten = vss.flatten.take (i * n + off) ++ cs ++ vss.flatten.drop (i * n + off + cs.length)
  | [], i, vs, _, h, _ => by simp at h
  | v :: vss, 0, vs, hn, h, hle => by
    simp at h; subst h
    have hv := hn v (by simp)
    simp only [List.set_cons_zero, List.flatten_cons, Nat.zero_mul, Nat.zero_add]
    rw [List.take_append_of_le_length (by omega), List.drop_append_of_le_length (by omega)]
    simp [List.append_assoc]
  | v :: vss, i + 1, vs, hn, h, hle => by
    have hv := hn v (by simp)
    have ih := flatten_set (n := n) (off := off) (cs := cs) (vss := vss) (i := i) (vs := vs) (fun u hu => hn u (by simp [hu])) (by simpa using h) hle
    simp only [List.set_cons_succ, List.flatten_cons]
    rw [ih, show (i + 1) * n + off = v.length + (i * n + off) by rw [hv, Nat.add_mul]; omega, show v.length + (i * n + off) + cs.length = v.length + (i * n + off + cs.length) by omega, List.take_length_add_append, List.drop_length_add_append]
    simp [List.append_assoc]
theorem isLL_len {M : Mem} {n : Nat} : ∀ {rows : List (List AV)} {vss : List (List Value)}, AV.isLL M n rows vss → (∀ v ∈ vss, v.length = n) ∧ vss.length = rows.length
  | [], _, h => by simp [AV.isLL] at h; subst h; simp
  | _ :: rows, _, ⟨v, q, h0, h1, h2, h3⟩ => by
    subst h0
    obtain ⟨k1, k2⟩ := isLL_len h3
    exact ⟨fun u hu => by rcases List.mem_cons.1 hu with rfl | hu; exact h1; exact k1 u hu, by simp [k2]⟩
theorem sem_storeO {j i n off m : Nat} {x y : X} {L : Sl} {row row' cs0 cs : List AV} (hx : S.x x = .oel j (i * n) off) (hj : oget S.ss j = some L) (hn : L.n = n) (hr : L.rows[i]? = some row) (hcs : (S.x y).cells = some cs0) (hce : AV.le.leL cs0 cs) (hm : llen cs = m) (h1 : allOne cs = true) (hp : puL cs = true)
    (hl : lset row off cs = some row') : Sem1 c S (.store m x y) .un ⟨S.tm, S.bs, oput S.ss j (some ⟨L.T, L.n, L.rows.set i row'⟩)⟩ := by
  intro ro hop M a w hT next Q hnx
  obtain ⟨dst, op, ty, pos, af, gd⟩ := ro
  dsimp only at hop
  obtain ⟨T, p, q, rfl, hsz, rfl, rfl⟩ := cO_storeX hop
  have k1 := X_is hT p
  have k2 := X_is hT q
  subst hn
  rw [hx] at k1
  obtain ⟨_, g', n', cap', e1, hpv⟩ := k1
  obtain ⟨g, cap, cur, vss, vs, e2, e3, e4, e5, e6, e7, e8, e9, q1, q2, q3, q4⟩ := own_row hT hj hr
  rw [e2] at e1
  simp only [Value.slice.injEq, Option.some.injEq, Addr.mk.injEq] at e1
  obtain ⟨⟨rfl, _⟩, _⟩ := e1
  have hcl := leL_is _ _ _ hce (cells_of (fun j e => by rw [e] at k2; rw [k2.2]; exact hT.st.so j k2.1) k2 hcs)
  have hone := allOne_is hcl h1 hT.st.so
  have hclp := puL_is _ _ hcl hp
  obtain ⟨rfl, hle⟩ := lset_eq hl
  have hlen := isL_length hcl
  have hrl := isL_length q3
  have hlt := (List.getElem?_eq_some_iff.1 hr).1
  obtain ⟨hvn, hvl⟩ := isLL_len e7
  have hi2 : (i + 1) * L.n ≤ cap * L.n := Nat.mul_le_mul_right _ (by omega)
  have hi3 : (i + 1) * L.n ≤ L.rows.length * L.n := Nat.mul_le_mul_right _ (by omega)
  rw [Nat.add_mul, Nat.one_mul] at hi2 hi3
  have hbnd : i * L.n + off + (a.eval q).cells.toList.length ≤ cur.size := by rw [e4]; omega
  have hst := run_storeCells_at c.P g (i * L.n + off) L.T (a.eval q).cells.toList 0 cur w e3 (by omega) hone
  have hsz' : (a.eval q).cells.size = m := by rw [← Array.length_toList, hlen, ← llen_eq]; exact hm
  have hcur' : ∀ v, (cur.toList.take (i * L.n + off) ++ v ++ cur.toList.drop (i * L.n + off + v.length)).length = cur.toList.length ∨ True := fun _ => .inr trivial
  have hrun : (execOp a.eval ⟨dst, .store T p q, ty, pos, af, gd⟩).run c.P w = .ok .skip (w.setRow g (cur.toList.take (i * L.n + off) ++ (a.eval q).cells.toList ++ cur.toList.drop (i * L.n + off + (a.eval q).cells.toList.length)).toArray) := by
    generalize a.eval = ρ at *
    simp only [Nat.add_zero] at hst
    simp only [execOp, hpv, Instr.storeAt, Instr.sureAddr, Sem.run_bind, Sem.run_pure, Result.andThen_ok, storeVar, szOf_run hsz, hsz', ne_eq, not_true_eq_false, if_false]
    rw [hst]
    rfl
  unfold Oper.wp
  rw [hrun]
  refine hnx M _ _ (.refl M) ?_ rfl
  have hvs' : AV.isL M.pure (row.take off ++ cs ++ row.drop (off + cs.length)) (vs.take off ++ (a.eval q).cells.toList ++ vs.drop (off + (a.eval q).cells.toList.length)) :=
    isL_append (isL_append (isL_take off q3) hclp) (by rw [hlen]; exact isL_drop _ q3)
  have hfl := flatten_set (cs := (a.eval q).cells.toList) (off := off) hvn q1 (by omega)
  have hcl2 : cur.toList.length = cap * L.n := by simpa using e4
  have hbl : (w.setRow g (cur.toList.take (i * L.n + off) ++ (a.eval q).cells.toList ++ cur.toList.drop (i * L.n + off + (a.eval q).cells.toList.length)).toArray).heap[g]? = some (.cells (cur.toList.take (i * L.n + off) ++ (a.eval q).cells.toList ++ cur.toList.drop (i * L.n + off + (a.eval q).cells.toList.length)).toArray L.T (0, 0)) := by
    rw [heap_setRow, if_pos rfl, e3]; rfl
  refine hT.st.rewrite hj (g := g) (by rw [e2]; rfl) (w' := w.setRow g (cur.toList.take (i * L.n + off) ++ (a.eval q).cells.toList ++ cur.toList.drop (i * L.n + off + (a.eval q).cells.toList.length)).toArray)
    ⟨rfl, rfl, rfl, by simp [World.setRow], fun k _ hk => by rw [heap_setRow, if_neg (fun e => hk (by rw [e]))]⟩ (vss' := vss.set i (vs.take off ++ (a.eval q).cells.toList ++ vs.drop (off + (a.eval q).cells.toList.length))) ?_ ?_ ?_
  · exact isLL_set e7 hvs' (by simp only [List.length_append, List.length_take, List.length_drop]; omega)
  · intro v hv
    rw [hfl] at hv
    simp only [List.mem_append] at hv
    rcases hv with (hv | hv) | hv
    · exact e9 v (List.mem_of_mem_take hv)
    · exact hone v hv
    · exact e9 v (List.mem_of_mem_drop hv)
  · have hfl2 : vss.flatten.length = L.rows.length * L.n := isLL_flat e7
    refine ⟨?_, .inr ⟨g, cap, _, by rw [List.length_set]; exact e2, Nat.zero_le _, hbl, by rw [List.length_set]; exact e5, e6, ?_, ?_⟩⟩
    · rw [hfl, List.length_set]; simp only [List.length_append, List.length_take, List.length_drop]; omega
    · simp only [List.size_toArray, List.length_append, List.length_take, List.length_drop]; omega
    · rw [hfl, List.length_set, ← e8]
      generalize hN : L.rows.length * L.n = N at *
      generalize hA : i * L.n + off = A at *
      generalize (a.eval q).cells.toList = C at *
      generalize cur.toList = D at *
      rw [List.append_assoc, List.append_assoc, List.take_append, List.take_of_length_le (by rw [List.length_take]; omega), List.take_append, List.take_of_length_le (l := C) (by rw [List.length_take]; omega), List.length_take, Nat.min_eq_left (by omega), List.take_take, Nat.min_eq_left (by omega), List.drop_take]
      congr 3
      omega
theorem V_storeO {α : Type} {l' : List α} {z : Int} {y y' : α} {d : Option Nat} {g : Option (Nat × Bool)} {l : List EOp} {j T n off m : Nat} {x v : X} {cs0 : List AV} (cs : List AV) (f : α → List AV) (hv : at_ l' z = some y) (hg : gm S g) (hx : S.x x = .oel j (z.toNat * n) off) (hj : oget S.ss j = some ⟨T, n, l'.map f⟩)
    (hcs : (S.x v).cells = some cs0) (hce : AV.le.leL cs0 cs) (hm : llen cs = m) (h1 : allOne cs = true) (hp : puL cs = true) (hl : lset (f y) off cs = some (f y'))
    (h : V c fn K (.ops l :: k) ((⟨S.tm, S.bs, oput S.ss j (some ⟨T, n, (l'.set z.toNat y').map f⟩)⟩ : St).put d .un)) : V c fn K (.ops (⟨d, g, .store m x v⟩ :: l) :: k) S := by
  refine V_sem hg (sem_storeO hx hj rfl (row_map (at_some hv).2) hcs hce hm h1 hp hl) rfl ?_
  dsimp only
  rw [← List.map_set]
  exact h
end
end NX
end Go.Proofs.Ytadebhbiglmodaa
/-
  The symbolic machine: calls that write into the caller's own memory; slices made, own slices cut. No statement of the seat is proved here.
-/
namespace Go.Proofs.Ytadebhbiglmodaa
namespace NX
open Go Go.RowKit

def msk {α : Type} : List Bool → List (Option α) → List (Option α)
  | _, [] => []
  | [], _ :: l => none :: msk [] l
  | true :: m, x :: l => x :: msk m l
  | false :: m, _ :: l => none :: msk m l
/-- What was lent comes from the second one, all else from the first. -/
def mrg {α : Type} : List Bool → List (Option α) → List (Option α) → List (Option α)
  | _, [], r => r
  | _, _ :: _, [] => []
  | [], x :: l, _ :: r => x :: mrg [] l r
  | true :: m, _ :: l, y :: r => y :: mrg m l r
  | false :: m, x :: l, _ :: r => x :: mrg m l r
def mb : List Bool → Nat → Bool
  | [], _ => false
  | b :: _, 0 => b
  | _ :: m, j + 1 => mb m j
attribute [go_sem] msk mrg
theorem msk_length {α : Type} : ∀ (m : List Bool) (l : List (Option α)), (msk m l).length = l.length
  | _, [] => by cases ‹List Bool› <;> rfl
  | [], _ :: l => by simp [msk, msk_length [] l]
  | true :: m, x :: l => by simp [msk, msk_length m l]
  | false :: m, _ :: l => by simp [msk, msk_length m l]
theorem msk_get {α : Type} : ∀ {m : List Bool} {l : List (Option α)} {j : Nat} {B : α}, oget (msk m l) j = some B ↔ mb m j = true ∧ oget l j = some B
  | m, [], j, B => by cases m <;> simp [msk, oget]
  | [], x :: l, 0, B => by simp [msk, oget, mb]
  | [], x :: l, j + 1, B => by simp [msk, oget, mb, msk_get (m := []) (l := l) (j := j)]
  | true :: m, x :: l, 0, B => by simp [msk, oget, mb]
  | true :: m, x :: l, j + 1, B => by simp [msk, oget, mb, msk_get (m := m) (l := l) (j := j)]
  | false :: m, x :: l, 0, B => by simp [msk, oget, mb]
  | false :: m, x :: l, j + 1, B => by simp [msk, oget, mb, msk_get (m := m) (l := l) (j := j)]
theorem mrg_length {α : Type} : ∀ (m : List Bool) (l r : List (Option α)), l.length ≤ r.length → (mrg m l r).length = r.length
  | m, [], r, _ => by cases m <;> rfl
  | m, _ :: _, [], h => by simp at h
  | [], x :: l, _ :: r, h => by simp [mrg, mrg_length [] l r (by simpa using h)]
  | true :: m, _ :: l, y :: r, h => by simp [mrg, mrg_length m l r (by simpa using h)]
  | false :: m, x :: l, _ :: r, h => by simp [mrg, mrg_length m l r (by simpa using h)]
theorem mrg_get {α : Type} : ∀ {m : List Bool} {l r : List (Option α)} {j : Nat} {B : α}, l.length ≤ r.length → oget (mrg m l r) j = some B →
    (j < l.length ∧ mb m j = false ∧ oget l j = some B) ∨ ((l.length ≤ j ∨ mb m j = true) ∧ oget r j = some B)
  | m, [], r, j, B, _, h => .inr ⟨.inl (Nat.zero_le _), by cases m <;> exact h⟩
  | m, _ :: _, [], j, B, hl, h => by simp at hl
  | [], x :: l, y :: r, 0, B, hl, h => .inl ⟨by simp, rfl, h⟩
  | [], x :: l, y :: r, j + 1, B, hl, h => by
    rcases mrg_get (m := []) (l := l) (r := r) (j := j) (by simpa using hl) h with ⟨h1, _, h3⟩ | ⟨h1, h2⟩
    · exact .inl ⟨by simpa using h1, rfl, h3⟩
    · exact .inr ⟨by rcases h1 with h1 | h1; exact .inl (by simpa using h1); simp [mb] at h1, h2⟩
  | true :: m, x :: l, y :: r, 0, B, hl, h => .inr ⟨.inr rfl, h⟩
  | true :: m, x :: l, y :: r, j + 1, B, hl, h => by
    rcases mrg_get (m := m) (l := l) (r := r) (j := j) (by simpa using hl) h with ⟨h1, h2, h3⟩ | ⟨h1, h2⟩
    · exact .inl ⟨by simpa using h1, h2, h3⟩
    · exact .inr ⟨by rcases h1 with h1 | h1; exact .inl (by simpa using h1); exact .inr h1, h2⟩
  | false :: m, x :: l, y :: r, 0, B, hl, h => .inl ⟨by simp, rfl, h⟩
  | false :: m, x :: l, y :: r, j + 1, B, hl, h => by
    rcases mrg_get (m := m) (l := l) (r := r) (j := j) (by simpa using hl) h with ⟨h1, h2, h3⟩ | ⟨h1, h2⟩
    · exact .inl ⟨by simpa using h1, h2, h3⟩
    · exact .inr ⟨by rcases h1 with h1 | h1; exact .inl (by simpa using h1); exact .inr h1, h2⟩
/-- What a call may write that was lent own memory. -/
def lentK (M : Mem) (bs : List (Option Blk)) (ss : List (Option Sl)) (k : Nat) : Prop :=
  (∃ j B, oget bs j = some B ∧ M.ρ j = k) ∨ ∃ j L, oget ss j = some L ∧ (M.σ j).ownBlock = some k
def Ctx.lent (P : Program) (w : World) (M : Mem) (bs : List (Option Blk)) (ss : List (Option Sl)) (np nq : Nat) : Ctx := ⟨P, w, M.H, lentK M bs ss, np, M.ρ, nq, M.σ⟩
/-- A function that is lent own memory: what it answers, and what lies there then. -/
def FunT (P : Program) (f : Nat) (args : List AV) (bs : List (Option Blk)) (ss : List (Option Sl)) (v : AV) (bs' : List (Option Blk)) (ss' : List (Option Sl)) : Prop :=
  bs.length ≤ bs'.length ∧ ss.length ≤ ss'.length ∧ ∀ (M : Mem) (w : World) (vs : List Value), RelS (Ctx.lent P w M bs ss bs.length ss.length) M bs ss w → AV.isL M args vs →
    Calls P f vs.toArray w fun e w' => ∃ u M', e = .returned u ∧ RelS (Ctx.lent P w M bs ss bs.length ss.length) M' bs' ss' w' ∧ v.is M' u
theorem FunT_intro {P : Program} {f : Nat} {fn : Func} {body : EC} {rs : List ERes} {np nt : Nat} (hf : FnOK P f fn body rs np nt) {args : List AV} {bs bs' : List (Option Blk)} {ss ss' : List (Option Sl)} {v : AV} (hn : args.length = np)
    (h1 : leb (llen bs) (llen bs') = true) (h2 : leb (llen ss) (llen ss') = true) (h3 : St.ok ⟨[v], bs', ss'⟩ = true)
    (h : ∀ w M, V (Ctx.lent P w M bs ss (llen bs) (llen ss)) fn (fun x b s => St.le ⟨[x], b, s⟩ ⟨[v], bs', ss'⟩) [.code body] ⟨args ++ lun nt, bs, ss⟩) : FunT P f args bs ss v bs' ss' := by
  have h1' := h1; have h2' := h2
  rw [leb_iff, llen_eq, llen_eq] at h1 h2
  refine ⟨h1, h2, fun M w vs hS ha => ?_⟩
  obtain ⟨x, hb, hx⟩ := hf.b
  have hl := isL_length ha
  refine calls_of_wp hf.h hb ?_
  have e1 : fn.ntmps - vs.toArray.size = nt := by rw [hf.t]; simp; omega
  rw [e1]
  have hT : RelT (Ctx.lent P w M bs ss bs.length ss.length) M ⟨args ++ lun nt, bs, ss⟩ { tmps := vs.toArray ++ Array.replicate nt undef, defers := [] } w := by
    refine ⟨by simp [lun_length, hl], fun t => ?_, rfl, hS⟩
    simp only [lget_append, Array.getD_eq_getD_getElem?, Array.getElem?_append, List.size_toArray]
    by_cases h : t < args.length
    · rw [if_pos h, if_pos (by omega)]
      have := isL_lget ha t h
      simpa [List.getD_eq_getElem?_getD] using this
    · rw [if_neg h, if_neg (by omega)]
      rcases lun_get nt (t - args.length) with h1 | ⟨_, h1⟩
      · rw [h1]
        simp only [AV.is, Array.getElem?_replicate]
        split <;> rfl
      · rw [h1]; trivial
  have h' := h w M
  rw [llen_eq, llen_eq] at h'
  refine wp_mono (h' [.code x] _ _ w ⟨_, _, rfl, hx, rfl⟩ hT) ?_
  have mono : ∀ e w', RK (Ctx.lent P w M bs ss bs.length ss.length) (fun x b s => St.le ⟨[x], b, s⟩ ⟨[v], bs', ss'⟩) e w' → ∃ u M', e = .returned u ∧ RelS (Ctx.lent P w M bs ss bs.length ss.length) M' bs' ss' w' ∧ v.is M' u := by
    rintro e w' ⟨u, M1, b, s, y, rfl, hS1, hv, hle⟩
    have hT1 : RelT (Ctx.lent P w M bs ss bs.length ss.length) M1 ⟨[y], b, s⟩ { tmps := #[u], defers := [] } w' :=
      ⟨by simp, fun t => by cases t with
        | zero => exact hv
        | succ t => cases t <;> trivial, rfl, hS1⟩
    have hW := hT1.weak hle h3 (by rw [leb_iff, llen_eq]; exact h1) (by rw [leb_iff, llen_eq]; exact h2)
    exact ⟨u, _, rfl, hW.st, hW.tm 0⟩
  intro e a w' hq
  cases e with
  | normal => obtain ⟨h1, v, h2, h3⟩ := hq; exact ⟨h1, v, h2, mono _ _ h3⟩
  | ret => obtain ⟨h1, v, h2, h3⟩ := hq; exact ⟨h1, v, h2, mono _ _ h3⟩
  | panic ch => obtain ⟨h1, h2⟩ := hq; exact ⟨h1, mono _ _ h2⟩
  | outgrown => exact mono _ _ hq
  | exit id => exact hq
  | goto l => exact hq
theorem T_done {c : Ctx} {f : Nat} {fn : Func} {body : EC} {rs : List ERes} {np nt : Nat} {k : List It} {S : St} {x v : AV} {bs' : List (Option Blk)} {ss' : List (Option Sl)} (ok : FnOK c.P f fn body rs np nt)
    (h : resV S rs = some x) (hle : St.le ⟨[x], S.bs, S.ss⟩ ⟨[v], bs', ss'⟩) : V c fn (fun x b s => St.le ⟨[x], b, s⟩ ⟨[v], bs', ss'⟩) (.code .ret :: k) S := V_ret ok.r h hle
theorem T_stop {c : Ctx} {f : Nat} {fn : Func} {body : EC} {rs : List ERes} {np nt : Nat} {S : St} {x v : AV} {bs' : List (Option Blk)} {ss' : List (Option Sl)} (ok : FnOK c.P f fn body rs np nt)
    (h : resV S rs = some x) (hle : St.le ⟨[x], S.bs, S.ss⟩ ⟨[v], bs', ss'⟩) : V c fn (fun x b s => St.le ⟨[x], b, s⟩ ⟨[v], bs', ss'⟩) [] S := by
  rintro rk M a w rfl hT
  exact end_post hT ok.r h hle
section
variable {c : Ctx} {M : Mem} {S S' : St} {a : Act} {w : World} {fn : Func} {K : AV → List (Option Blk) → List (Option Sl) → Prop} {k : List It}
theorem ownsRow_heap {w w' : World} {b e sz n : Nat} {v : Value} {xs : List Value} (h : w.ownsRow b e sz v n xs) (hh : ∀ g, v.ownBlock = some g → w'.heap[g]? = w.heap[g]?) : w'.ownsRow b e sz v n xs := by
  refine ⟨h.1, h.2.imp id ?_⟩
  rintro ⟨g, cap, cur, rfl, h2, h3, h4⟩
  exact ⟨g, cap, cur, rfl, h2, by rw [hh g rfl]; exact h3, h4⟩
theorem lend_in (hS : RelS c M S.bs S.ss w) (lb ls : List Bool) : RelS (Ctx.lent c.P w M (msk lb S.bs) (msk ls S.ss) (msk lb S.bs).length (msk ls S.ss).length) M (msk lb S.bs) (msk ls S.ss) w := by
  refine ⟨by rw [msk_length]; exact hS.nb, by rw [msk_length]; exact hS.ns, hS.so, rfl, rfl, rfl, Nat.le_refl _, fun _ _ _ => rfl, hS.hle, fun _ _ _ => rfl, ?_, ?_, ?_, ?_, ?_, ?_⟩
  · intro j B hj
    obtain ⟨g1, g2, vs, g3, g4, g5⟩ := hS.blk j B (msk_get.1 hj).2
    exact ⟨.inr (.inl ⟨j, B, hj, rfl⟩), g2, vs, g3, g4, g5⟩
  · intro j L hj
    obtain ⟨g0, vss, g1, g2, g3, g4⟩ := hS.slc j L (msk_get.1 hj).2
    exact ⟨g0, vss, g1, g2, g3, fun g hg => ⟨.inr (.inr ⟨j, L, hj, hg⟩), (g4 g hg).2⟩⟩
  · intro i j B C hi hj e; exact hS.d1 i j B C (msk_get.1 hi).2 (msk_get.1 hj).2 e
  · intro i j B L hi hj; exact hS.d2 i j B L (msk_get.1 hi).2 (msk_get.1 hj).2
  · intro i j L N g hi hj; exact hS.d3 i j L N g (msk_get.1 hi).2 (msk_get.1 hj).2
  · exact ⟨by rw [show (Ctx.lent c.P w M (msk lb S.bs) (msk ls S.ss) (msk lb S.bs).length (msk ls S.ss).length).np = (msk lb S.bs).length from rfl, msk_length, hS.nb]; exact Nat.le_refl _, fun _ _ => rfl,
      by rw [show (Ctx.lent c.P w M (msk lb S.bs) (msk ls S.ss) (msk lb S.bs).length (msk ls S.ss).length).nq = (msk ls S.ss).length from rfl, msk_length, hS.ns]; exact Nat.le_refl _, fun _ _ => rfl⟩
theorem lend_out {lb ls : List Bool} {M' : Mem} {w' : World} {bs' : List (Option Blk)} {ss' : List (Option Sl)} (hS : RelS c M S.bs S.ss w) (hb : (msk lb S.bs).length ≤ bs'.length) (hs : (msk ls S.ss).length ≤ ss'.length)
    (h : RelS (Ctx.lent c.P w M (msk lb S.bs) (msk ls S.ss) (msk lb S.bs).length (msk ls S.ss).length) M' bs' ss' w') : M.le M' ∧ RelS c M' (mrg lb S.bs bs') (mrg ls S.ss ss') w' := by
  rw [msk_length] at hb hs
  -- what is lent is the caller's
  have lentMine : ∀ g, lentK M (msk lb S.bs) (msk ls S.ss) g → Mine c g ∧ M.H g = none := by
    rintro g (⟨j, B, hj, rfl⟩ | ⟨j, L, hj, hg⟩)
    · obtain ⟨g1, g2, _⟩ := hS.blk j B (msk_get.1 hj).2; exact ⟨g1, g2⟩
    · obtain ⟨_, _, _, _, _, g4⟩ := hS.slc j L (msk_get.1 hj).2; exact g4 g hg
  have size0 := hS.size
  have size1 : w.heap.size ≤ w'.heap.size := h.size
  have hρ : ∀ j, j < S.bs.length → M'.ρ j = M.ρ j := fun j hj => h.pin.ρ j (by show j < (msk lb S.bs).length; rw [msk_length]; exact hj)
  have hσ : ∀ j, j < S.ss.length → M'.σ j = M.σ j := fun j hj => h.pin.σ j (by show j < (msk ls S.ss).length; rw [msk_length]; exact hj)
  have hH : ∀ k o, M.H k = some o → M'.H k = some o := by
    intro k o hk
    have hlt := (Array.getElem?_eq_some_iff.1 (hS.hle k o hk)).1
    have := h.hold k hlt (fun hl => by rw [(lentMine k hl).2] at hk; simp at hk)
    rw [this]; exact hk
  have hle : M.le M' := ⟨by rw [hS.nb, h.nb]; exact hb, by rw [hS.ns, h.ns]; exact hs, fun j hj => hρ j (by rw [← hS.nb]; exact hj), fun j hj => hσ j (by rw [← hS.ns]; exact hj), hH⟩
  -- what was not lent is as it was
  have keepB : ∀ j B, oget S.bs j = some B → mb lb j = false → ¬ lentK M (msk lb S.bs) (msk ls S.ss) (M.ρ j) := by
    rintro j B hj hm (⟨i, C, hi, e⟩ | ⟨i, L, hi, e⟩)
    · have := hS.d1 i j C B (msk_get.1 hi).2 hj e
      subst this
      rw [(msk_get.1 hi).1] at hm; simp at hm
    · exact hS.d2 j i B L hj (msk_get.1 hi).2 e
  have keepS : ∀ j L g, oget S.ss j = some L → mb ls j = false → (M.σ j).ownBlock = some g → ¬ lentK M (msk lb S.bs) (msk ls S.ss) g := by
    rintro j L g hj hm hg (⟨i, C, hi, e⟩ | ⟨i, N, hi, e⟩)
    · exact hS.d2 i j C L (msk_get.1 hi).2 hj (by rw [e]; exact hg)
    · have := hS.d3 i j N L g (msk_get.1 hi).2 hj e hg
      subst this
      rw [(msk_get.1 hi).1] at hm; simp at hm
  have newMine : ∀ g, Mine (Ctx.lent c.P w M (msk lb S.bs) (msk ls S.ss) (msk lb S.bs).length (msk ls S.ss).length) g → Mine c g := by
    rintro g (hg | hg)
    · exact .inl (Nat.le_trans size0 hg)
    · exact (lentMine g hg).1
  have apart : ∀ g k, Mine (Ctx.lent c.P w M (msk lb S.bs) (msk ls S.ss) (msk lb S.bs).length (msk ls S.ss).length) g → k < w.heap.size → ¬ lentK M (msk lb S.bs) (msk ls S.ss) k → g ≠ k := by
    rintro g k (hg | hg) hk hn rfl
    · exact Nat.lt_irrefl _ (Nat.lt_of_lt_of_le hk hg)
    · exact hn hg
  refine ⟨hle, ⟨by rw [mrg_length _ _ _ hb]; exact h.nb, by rw [mrg_length _ _ _ hs]; exact h.ns, h.so, h.os.trans hS.os, h.tape.trans hS.tape, h.output.trans hS.output, Nat.le_trans size0 size1, ?_, h.hle, ?_, ?_, ?_, ?_, ?_, ?_, hS.pin.le hle⟩⟩
  · intro k hk hn
    have hnl : ¬ lentK M (msk lb S.bs) (msk ls S.ss) k := fun hl => by
      rcases (lentMine k hl).1 with h1 | h1
      · omega
      · exact hn h1
    exact (h.block k (Nat.lt_of_lt_of_le hk size0) hnl).trans (hS.block k hk hn)
  · intro k hk hn
    have hnl : ¬ lentK M (msk lb S.bs) (msk ls S.ss) k := fun hl => by
      rcases (lentMine k hl).1 with h1 | h1
      · omega
      · exact hn h1
    exact (h.hold k (Nat.lt_of_lt_of_le hk size0) hnl).trans (hS.hold k hk hn)
  · intro j B hj
    rcases mrg_get hb hj with ⟨h1, h2, h3⟩ | ⟨_, h3⟩
    · obtain ⟨g1, g2, vs, g3, g4, g5⟩ := hS.blk j B h3
      have hlt := hS.blk_lt h3
      have hn := keepB j B h3 h2
      rw [hρ j h1]
      exact ⟨g1, (h.hold _ hlt hn).trans g2, vs, isL_mono hle _ _ g3, (h.block _ hlt hn).trans g4, g5⟩
    · obtain ⟨g1, g2, vs, g3, g4, g5⟩ := h.blk j B h3
      exact ⟨newMine _ g1, g2, vs, g3, g4, g5⟩
  · intro j L hj
    rcases mrg_get hs hj with ⟨h1, h2, h3⟩ | ⟨_, h3⟩
    · obtain ⟨g0, vss, g1, g2, g3, g4⟩ := hS.slc j L h3
      rw [hσ j h1]
      exact ⟨g0, vss, isLL_mono hle.pure _ _ _ g1, g2, ownsRow_heap g3 fun g hg => h.block g (hS.slc_lt h3 hg) (keepS j L g h3 h2 hg), fun g hg => ⟨(g4 g hg).1, (h.hold g (hS.slc_lt h3 hg) (keepS j L g h3 h2 hg)).trans (g4 g hg).2⟩⟩
    · obtain ⟨g0, vss, g1, g2, g3, g4⟩ := h.slc j L h3
      exact ⟨g0, vss, g1, g2, g3, fun g hg => ⟨newMine _ (g4 g hg).1, (g4 g hg).2⟩⟩
  · intro i j B C hi hj e
    rcases mrg_get hb hi with ⟨h1, h2, h3⟩ | ⟨_, h3⟩ <;> rcases mrg_get hb hj with ⟨k1, k2, k3⟩ | ⟨_, k3⟩
    · rw [hρ i h1, hρ j k1] at e; exact hS.d1 i j B C h3 k3 e
    · rw [hρ i h1] at e
      exact absurd e.symm (apart _ _ (h.blk j C k3).1 (hS.blk_lt h3) (keepB i B h3 h2))
    · rw [hρ j k1] at e
      exact absurd e (apart _ _ (h.blk i B h3).1 (hS.blk_lt k3) (keepB j C k3 k2))
    · exact h.d1 i j B C h3 k3 e
  · intro i j B L hi hj
    rcases mrg_get hb hi with ⟨h1, h2, h3⟩ | ⟨_, h3⟩ <;> rcases mrg_get hs hj with ⟨k1, k2, k3⟩ | ⟨_, k3⟩
    · rw [hρ i h1, hσ j k1]; exact hS.d2 i j B L h3 k3
    · rw [hρ i h1]
      intro e
      obtain ⟨_, _, _, _, _, g4⟩ := h.slc j L k3
      exact apart _ _ (g4 _ e).1 (hS.blk_lt h3) (keepB i B h3 h2) rfl
    · rw [hσ j k1]
      intro e
      exact apart _ _ (h.blk i B h3).1 (hS.slc_lt k3 e) (keepS j L _ k3 k2 e) rfl
    · exact h.d2 i j B L h3 k3
  · intro i j L N g hi hj e1 e2
    rcases mrg_get hs hi with ⟨h1, h2, h3⟩ | ⟨_, h3⟩ <;> rcases mrg_get hs hj with ⟨k1, k2, k3⟩ | ⟨_, k3⟩
    · rw [hσ i h1] at e1; rw [hσ j k1] at e2; exact hS.d3 i j L N g h3 k3 e1 e2
    · rw [hσ i h1] at e1
      obtain ⟨_, _, _, _, _, g4⟩ := h.slc j N k3
      exact absurd rfl (apart _ _ (g4 g e2).1 (hS.slc_lt h3 e1) (keepS i L g h3 h2 e1))
    · rw [hσ j k1] at e2
      obtain ⟨_, _, _, _, _, g4⟩ := h.slc i L h3
      exact absurd rfl (apart _ _ (g4 g e1).1 (hS.slc_lt k3 e2) (keepS j N g k3 k2 e2))
    · exact h.d3 i j L N g h3 k3 e1 e2
theorem sem_callT {f : Nat} {xs : List X} {args : List AV} {v : AV} {bs bs' : List (Option Blk)} {ss ss' : List (Option Sl)} (lb ls : List Bool) (hf : FunT c.P f args bs ss v bs' ss') (hbs : msk lb S.bs = bs) (hss : msk ls S.ss = ss)
    (ha : AV.le.leL (mapX S xs) args) : Sem1 c S (.call f xs) v ⟨S.tm, mrg lb S.bs bs', mrg ls S.ss ss'⟩ := by
  subst hbs; subst hss
  intro ro ho M a w hT next Q hn
  obtain ⟨dst, op, ty, pos, af, gd⟩ := ro
  dsimp only at ho
  obtain ⟨cargs, argTypes, rfl, hfn, rfl⟩ := cO_call ho
  have hm := leL_is _ _ _ ha (mapX_is hT cargs.toList)
  obtain ⟨f1, f2, f3⟩ := hf
  have hc := f3 M w _ (lend_in hT.st lb ls) hm
  have hrun : (execOp a.eval ⟨dst, .call ⟨.value (.func f), cargs, argTypes⟩, ty, pos, af, gd⟩).run c.P w = .ok (.enter f (cargs.map a.eval)) w := by
    have he : a.eval (.func f) = .func (.func f) #[] #[] := rfl
    generalize a.eval = ρ at *
    simp [execOp, resolve, Deferred.ofValue, invoke, he, callFunc_run hfn]
  unfold Oper.wp
  rw [hrun]
  show Calls c.P f (cargs.map a.eval) w _
  have e1 : (cargs.toList.map a.eval).toArray = cargs.map a.eval := by apply Array.ext'; simp
  rw [← e1]
  refine hc.mono ?_
  rintro e w' ⟨u, M', rfl, h1, h2⟩
  obtain ⟨hle, hS⟩ := lend_out hT.st f1 f2 h1
  exact hn M' w' u hle hS h2
theorem V_callT {d : Option Nat} {g : Option (Nat × Bool)} {l : List EOp} {f : Nat} {xs : List X} {args : List AV} {v : AV} {bs bs' : List (Option Blk)} {ss ss' : List (Option Sl)} (lb ls : List Bool) (hg : gm S g) (hf : FunT c.P f args bs ss v bs' ss') (hbs : msk lb S.bs = bs := by rfl) (hss : msk ls S.ss = ss := by rfl)
    (ha : AV.le.leL (mapX S xs) args := by first | exact leL_refl _ | simp [go_sem]) (h : V c fn K (.ops l :: k) ((⟨S.tm, mrg lb S.bs bs', mrg ls S.ss ss'⟩ : St).put d v)) : V c fn K (.ops (⟨d, g, .call f xs⟩ :: l) :: k) S :=
  V_sem hg (sem_callT lb ls hf hbs hss ha) rfl h
theorem sem_callvT {f : Nat} {o : X} {xs : List X} {caps args : List AV} {v : AV} {bs bs' : List (Option Blk)} {ss ss' : List (Option Sl)} (lb ls : List Bool) (ho : S.x o = .clo f caps) (hf : FunT c.P f args bs ss v bs' ss')
    (hfn : (c.P.funcs[f]?).any (fun fn => fn.body.isSome && !(fn.name == "runtime.NumGoroutine")) = true) (hbs : msk lb S.bs = bs) (hss : msk ls S.ss = ss)
    (ha : AV.le.leL (mapX S xs ++ caps) args) : Sem1 c S (.callv o xs) v ⟨S.tm, mrg lb S.bs bs', mrg ls S.ss ss'⟩ := by
  subst hbs; subst hss
  intro ro hop M a w hT next Q hn
  obtain ⟨dst, op, ty, pos, af, gd⟩ := ro
  dsimp only at hop
  obtain ⟨t, cargs, argTypes, rfl, rfl, rfl⟩ := cO_callv hop
  have hx := X_is hT (.tmp t)
  rw [show S.x (cX (.tmp t)) = .clo f caps from ho] at hx
  obtain ⟨cv, hx1, hx2⟩ := hx
  have hm := leL_is _ _ _ ha (isL_append (mapX_is hT cargs.toList) hx2)
  obtain ⟨f1, f2, f3⟩ := hf
  have hc := f3 M w _ (lend_in hT.st lb ls) hm
  have hrun : (execOp a.eval ⟨dst, .call ⟨.value (.tmp t), cargs, argTypes⟩, ty, pos, af, gd⟩).run c.P w = .ok (.enter f (cargs.map a.eval ++ cv.toArray)) w := by
    generalize a.eval = ρ at *
    simp [execOp, resolve, Deferred.ofValue, invoke, hx1, callFunc_run hfn]
  unfold Oper.wp
  rw [hrun]
  show Calls c.P f (cargs.map a.eval ++ cv.toArray) w _
  have e1 : (cargs.toList.map a.eval ++ cv).toArray = cargs.map a.eval ++ cv.toArray := by apply Array.ext'; simp
  rw [← e1]
  refine hc.mono ?_
  rintro e w' ⟨u, M', rfl, h1, h2⟩
  obtain ⟨hle, hS⟩ := lend_out hT.st f1 f2 h1
  exact hn M' w' u hle hS h2
theorem V_callvT {d : Option Nat} {g : Option (Nat × Bool)} {l : List EOp} {f : Nat} {o : X} {xs : List X} {caps args : List AV} {v : AV} {bs bs' : List (Option Blk)} {ss ss' : List (Option Sl)} (lb ls : List Bool) (hg : gm S g) (ho : S.x o = .clo f caps) (hf : FunT c.P f args bs ss v bs' ss')
    (hfn : (c.P.funcs[f]?).any (fun fn => fn.body.isSome && !(fn.name == "runtime.NumGoroutine")) = true) (hbs : msk lb S.bs = bs := by rfl) (hss : msk ls S.ss = ss := by rfl)
    (ha : AV.le.leL (mapX S xs ++ caps) args := by first | exact leL_refl _ | simp [go_sem]) (h : V c fn K (.ops l :: k) ((⟨S.tm, mrg lb S.bs bs', mrg ls S.ss ss'⟩ : St).put d v)) : V c fn K (.ops (⟨d, g, .callv o xs⟩ :: l) :: k) S :=
  V_sem hg (sem_callvT lb ls ho hf hfn hbs hss ha) rfl h
end
end NX
end Go.Proofs.Ytadebhbiglmodaa
