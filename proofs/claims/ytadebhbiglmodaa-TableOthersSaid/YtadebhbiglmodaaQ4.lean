/-
  Plain laws: package dine. No statement of the seat is proved here.
-/
import Derived.KernelRfl
import Derived.Shelf.Sort.Plain
import Derived.Shelf.Slices.In.SortNone
import Derived.Sort.OwnSortedInts
import Derived.Test.YtadebhbiglmodaaQ3
import Derived.Test.YtadebhbiglmodaaQ2
namespace Go.Proofs.Ytadebhbiglmodaa
namespace NX
open Go
/-- May a side stand behind a peer? -/
def sideD (id q : Int) (x : Side) : Bool := decide (q < x.Peer) && (!decide (x.Peer = id) && (decide (0 ≤ x.Epoch) && (decide (x.Epoch ≤ 65535) && (decide (0 ≤ x.State) && (decide (x.State ≤ 3) && !(x.Dirty && !x.Fork))))))
def okSides (id : Int) : Int → List Side → Bool
  | _, [] => true
  | q, x :: r => sideD id q x && okSides id x.Peer r
/-- A diner that may be. -/
def okD (d : Diner) : Bool := decide (0 ≤ d.ID) && (decide (0 ≤ d.Phase) && (decide (d.Phase ≤ 2) && (decide (d.Sides.length < 64) && okSides d.ID (-1) d.Sides)))
theorem s_odd (x : Side) (d : Diner) (q : Int) : m_dine_Check_1_in_dine_Check_3 x d q = some (!sideD d.ID q x) := by
  simp only [m_dine_Check_1_in_dine_Check_3, m_dine_Check_1_in_dine_Check_3_j1, m_dine_Check_1_in_dine_Check_3_j2, sideD]
  by_cases h1 : q < x.Peer
  · by_cases h2 : x.Peer = d.ID
    · have h1' : q < d.ID := h2 ▸ h1
      simp [h2, h1']
    · by_cases h3 : x.Epoch < 0
      · have : ¬ 0 ≤ x.Epoch := by omega
        simp [h1, h2, h3, this]
      · have h3' : 0 ≤ x.Epoch := by omega
        by_cases h4 : 65535 < x.Epoch
        · have : ¬ x.Epoch ≤ 65535 := by omega
          simp [h1, h2, h3, h4, this]
        · have h4' : x.Epoch ≤ 65535 := by omega
          by_cases h5 : x.State < 0
          · have : ¬ 0 ≤ x.State := by omega
            simp [h1, h2, h3, h4, h5, this]
          · have h5' : 0 ≤ x.State := by omega
            by_cases h6 : 3 < x.State
            · have : ¬ x.State ≤ 3 := by omega
              simp [h1, h2, h3, h4, h5, h6, this]
            · have h6' : x.State ≤ 3 := by omega
              simp only [h1, h2, h3, h4, h5, h6, h3', h4', h5', h6', decide_true, decide_false, ifb_true, ifb_false, Bool.not_true, Bool.not_false, Bool.true_and]
              cases x.Dirty <;> cases x.Fork <;> rfl
  · simp [h1]
def scanD (id : Int) : Nat → Int → List Side → Int × Int
  | _, q, [] => (-1, q)
  | k, q, x :: r => if sideD id q x then scanD id (k + 1) x.Peer r else (k, x.Peer)
theorem scanD_ok (id : Int) : ∀ (l : List Side) (k : Nat) (q : Int), decide (0 ≤ (scanD id k q l).1) = !okSides id q l
  | [], k, q => by simp [scanD, okSides]
  | x :: r, k, q => by
    by_cases h : sideD id q x = true
    · have e1 : scanD id k q (x :: r) = scanD id (k + 1) x.Peer r := by simp [scanD, h]
      rw [e1, scanD_ok id r (k + 1) x.Peer]
      simp [okSides, h]
    · have h' : sideD id q x = false := by simpa using h
      have e1 : scanD id k q (x :: r) = ((k : Int), x.Peer) := by simp [scanD, h']
      rw [e1]
      simp [okSides, h']
def lastQ (q : Int) (pre : List Side) : Int := match pre.getLast? with | some x => x.Peer | none => q
theorem lastQ_snoc (q : Int) (pre : List Side) (x : Side) : lastQ q (pre ++ [x]) = x.Peer := by simp [lastQ]
theorem s_dCheck (d : Diner) : m_dine_Check d = some (if okD d then 0 else 130) := by
  simp only [m_dine_Check, m_dine_Check_j1, okD]
  by_cases h1 : d.ID < 0
  · have : ¬ 0 ≤ d.ID := by omega
    simp [h1, this]
  have h1' : 0 ≤ d.ID := by omega
  by_cases h2 : d.Phase < 0
  · have : ¬ 0 ≤ d.Phase := by omega
    simp [h1, h2, this]
  have h2' : 0 ≤ d.Phase := by omega
  by_cases h3 : 2 < d.Phase
  · have : ¬ d.Phase ≤ 2 := by omega
    simp [h1, h2, h3, this]
  have h3' : d.Phase ≤ 2 := by omega
  by_cases h4 : 64 ≤ d.Sides.length
  · have h4' : (64 : Int) ≤ ln Side.row d.Sides := by rw [ln_eq]; omega
    have : ¬ d.Sides.length < 64 := by omega
    simp [h1, h2, h3, h4', this]
  have h4' : ¬ (64 : Int) ≤ ln Side.row d.Sides := by rw [ln_eq]; omega
  have h4'' : d.Sides.length < 64 := by omega
  simp only [h1, h2, h3, h4', h1', h2', h3', h4'', decide_true, decide_false, ifb_false, Bool.true_and]
  have key : m_slices_IndexFunc_Side_in_dine_Check_2 d.Sides d (-1) = some (scanD d.ID 0 (-1) d.Sides) := by
    unfold m_slices_IndexFunc_Side_in_dine_Check_2
    refine loop_pp0 d.Sides _ (fun pre => ((pre.length : Int), lastQ (-1) pre)) (fun pre post => some (scanD d.ID pre.length (lastQ (-1) pre) post)) (fun pre x post h => ?_) ?_
    · have hx := mid_get h
      have hm := mid_len h
      dsimp only [m_slices_IndexFunc_Side_in_dine_Check_2_l1]
      rw [lt_len hx, ifb_true, at_get hx, Option.bind_some, s_odd, Option.bind_some, ifb_not]
      cases hs : sideD d.ID (lastQ (-1) pre) x with
      | true =>
        left
        exact ⟨by rw [ifb_true, len_snoc, lastQ_snoc, wr_succ (by omega)], by simp [scanD, hs, lastQ_snoc]⟩
      | false =>
        right
        exact ⟨_, rfl, by simp [scanD, hs]⟩
    · dsimp only [m_slices_IndexFunc_Side_in_dine_Check_2_l1]
      rw [nlt_len, ifb_false]; rfl
  simp only [m_slices_ContainsFunc_Side_in_dine_Check_1, key, Option.bind_some, scanD_ok]
  cases okSides d.ID (-1) d.Sides <;> rfl
theorem s_CloneSide (l : List Side) (hl : l.length ≤ 1000000) : m_slices_Clone_Side l = some l := by
  simp only [m_slices_Clone_Side]
  rw [app_ok _ _ (by omega) (by simp; omega)]; rfl
theorem okD_len {d : Diner} (h : okD d = true) : d.Sides.length < 64 := by
  simp only [okD, Bool.and_eq_true, decide_eq_true_eq] at h; exact h.2.2.2.1
def diner0 : Diner := ⟨0, 0, []⟩
def turnD (d : Diner) (a b : Int) : Diner × Int := if okD d then (if d.Phase = a then (⟨d.ID, b, d.Sides⟩, 0) else (diner0, 134)) else (diner0, 130)
theorem s_turned (d : Diner) (a b : Int) : m_dine_turned d a b = some (turnD d a b) := by
  simp only [m_dine_turned, s_dCheck, Option.bind_some, m_dine_turned_j1, turnD]
  cases h : okD d with
  | false => simp [m_dine_turned_j2, diner0]
  | true =>
    have := okD_len h
    by_cases hp : d.Phase = a
    · simp [hp, m_dine_turned_j2, s_CloneSide d.Sides (by omega)]
    · simp [hp, m_dine_turned_j2, diner0]
theorem s_dStart (d : Diner) : m_dine_Start d = some (turnD d 0 1) := by simp [m_dine_Start, s_turned]
theorem s_dStop (d : Diner) : m_dine_Stop d = some (turnD d 2 0) := by simp [m_dine_Stop, s_turned]
/-! Fire -/
theorem at_mid {α : Type} {l a b : List α} {x : α} (h : l = a ++ x :: b) : at_ l (a.length : Int) = some x := at_get (mid_get h)
theorem set_mid {α : Type} (a b : List α) (x y : α) : (a ++ x :: b).set ((a.length : Int)).toNat y = a ++ y :: b := by simp
def fire1 (ph : Int) (x : Side) : Side := if x.Fork && (x.Dirty && (x.Token && !decide (ph = 2))) then { x with Fork := false, Dirty := false } else x
def fire2 (ph : Int) (x : Side) : Side := if decide (ph = 1) && ((fire1 ph x).Token && !(fire1 ph x).Fork) then { fire1 ph x with Token := false } else fire1 ph x
def fireM (id ph : Int) (x : Side) : List Mail :=
  (if x.Fork && (x.Dirty && (x.Token && !decide (ph = 2))) then [⟨id, x.Peer, ⟨1, x.Epoch, 0⟩⟩] else []) ++
  (if decide (ph = 1) && ((fire1 ph x).Token && !(fire1 ph x).Fork) then [⟨id, x.Peer, ⟨2, x.Epoch, 0⟩⟩] else [])
def dirtyS (x : Side) : Side := { x with Dirty := true }
def fireD (d : Diner) : Diner := if decide (d.Phase = 1) && (d.Sides.map (fire2 d.Phase)).all (·.Fork) then ⟨d.ID, 2, (d.Sides.map (fire2 d.Phase)).map dirtyS⟩ else ⟨d.ID, d.Phase, d.Sides.map (fire2 d.Phase)⟩
def fireMs (d : Diner) : List Mail := d.Sides.flatMap (fireM d.ID d.Phase)
theorem fireM_len (id ph : Int) (x : Side) : (fireM id ph x).length ≤ 2 := by
  unfold fireM
  rw [List.length_append]
  have h1 : ∀ (c : Bool) (m : Mail), (if c then [m] else []).length ≤ 1 := by intro c m; cases c <;> simp
  have := h1 (x.Fork && (x.Dirty && (x.Token && !decide (ph = 2)))) ⟨id, x.Peer, ⟨1, x.Epoch, 0⟩⟩
  have := h1 (decide (ph = 1) && ((fire1 ph x).Token && !(fire1 ph x).Fork)) ⟨id, x.Peer, ⟨2, x.Epoch, 0⟩⟩
  omega
theorem fireMs_len (l : List Side) (id ph : Int) : (l.flatMap (fireM id ph)).length ≤ 2 * l.length := by
  induction l with
  | nil => simp
  | cons x l ih => have := fireM_len id ph x; rw [List.flatMap_cons, List.length_append, List.length_cons]; omega
theorem s_send (k id ph : Int) (a b : List Side) (x : Side) (E : List Mail) (hE : E.length ≤ 1000000) : m_dine_Fire_1_in_dine_Fire_2 k id ph (a.length : Int) (a ++ x :: b) E = some (E ++ [⟨id, x.Peer, ⟨k, x.Epoch, 0⟩⟩]) := by
  simp only [m_dine_Fire_1_in_dine_Fire_2]
  rw [at_mid rfl, Option.bind_some, app_ok _ _ (by omega) (by simp; omega), Option.bind_some]
theorem fire_step (d : Diner) (l : List Side) (hl : l.length < 64) (pre post : List Side) (x : Side) (h : l = pre ++ x :: post) (all : Bool) (A : List Side) (hA : A.length = pre.length) (E : List Mail) (hE : E.length ≤ 1000) :
    m_dine_Fire_l1 d l (all, (pre.length : Int), A ++ x :: post, E) = some (.inl (all && (fire2 d.Phase x).Fork, ((pre.length + 1 : Nat) : Int), A ++ fire2 d.Phase x :: post, E ++ fireM d.ID d.Phase x)) := by
  have hx := mid_get h
  have hm := mid_len h
  have at1 : ∀ y : Side, at_ (A ++ y :: post) (pre.length : Int) = some y := fun y => by rw [← hA]; exact at_mid rfl
  have st1 : ∀ y z : Side, (A ++ y :: post).set ((pre.length : Int)).toNat z = A ++ z :: post := fun y z => by rw [← hA]; exact set_mid _ _ _ _
  have sd : ∀ (k : Int) (y : Side) (E : List Mail), E.length ≤ 1000000 → m_dine_Fire_1_in_dine_Fire_2 k d.ID d.Phase (pre.length : Int) (A ++ y :: post) E = some (E ++ [⟨d.ID, y.Peer, ⟨k, y.Epoch, 0⟩⟩]) := fun k y E hE => by rw [← hA]; exact s_send k d.ID d.Phase A post y E hE
  have fin : ∀ (y : Side) (E' : List Mail), m_dine_Fire_j5 all (pre.length : Int) (A ++ y :: post, E') = some (.inl (all && y.Fork, ((pre.length + 1 : Nat) : Int), A ++ y :: post, E')) := fun y E' => by
    dsimp only [m_dine_Fire_j5, m_dine_Fire_j6]
    rw [at1, wr_succ (by omega)]
    cases all <;> rfl
  have j3 : ∀ (y : Side) (E' : List Mail), E'.length ≤ 100000 → m_dine_Fire_j3 d all (pre.length : Int) (A ++ y :: post, E') =
      if decide (d.Phase = 1) && (y.Token && !y.Fork) then some (.inl (all && y.Fork, ((pre.length + 1 : Nat) : Int), A ++ { y with Token := false } :: post, E' ++ [⟨d.ID, y.Peer, ⟨2, y.Epoch, 0⟩⟩])) else some (.inl (all && y.Fork, ((pre.length + 1 : Nat) : Int), A ++ y :: post, E')) := fun y E' hE' => by
    dsimp only [m_dine_Fire_j3]
    by_cases h1 : d.Phase = 1
    · rw [decide_eq_true h1, ifb_true, at1, Option.bind_some]
      cases ht : y.Token with
      | false => dsimp only [m_dine_Fire_j4]; rw [ifb_false, ifb_false, fin]; simp
      | true =>
        cases hf : y.Fork with
        | true => dsimp only [m_dine_Fire_j4]; rw [ifb_true, Bool.not_true, ifb_false, fin]; simp [hf]
        | false =>
          dsimp only [m_dine_Fire_j4]
          rw [ifb_true, Bool.not_false, ifb_true, at1, Option.bind_some, st1, sd _ _ _ (by omega), Option.bind_some, fin]
          simp [hf]
    · rw [decide_eq_false h1, ifb_false]; dsimp only [m_dine_Fire_j4]; rw [ifb_false, fin]; simp
  dsimp only [m_dine_Fire_l1]
  rw [lt_len hx, ifb_true, at1, Option.bind_some]
  have j2 : ∀ z : Bool, m_dine_Fire_j2 d all (pre.length : Int) (A ++ x :: post) E x z = if z then m_dine_Fire_j3 d all (pre.length : Int) (A ++ { x with Fork := false, Dirty := false } :: post, E ++ [⟨d.ID, x.Peer, ⟨1, x.Epoch, 0⟩⟩]) else m_dine_Fire_j3 d all (pre.length : Int) (A ++ x :: post, E) := fun z => by
    cases z with
    | false => dsimp only [m_dine_Fire_j2]; rw [ifb_false]; rfl
    | true =>
      dsimp only [m_dine_Fire_j2]
      rw [ifb_true, st1, sd _ _ _ (by omega), Option.bind_some]; rfl
  have e : ifb x.Fork (ifb x.Dirty (ifb x.Token (m_dine_Fire_j2 d all (pre.length : Int) (A ++ x :: post) E x (!decide (d.Phase = 2))) (m_dine_Fire_j2 d all (pre.length : Int) (A ++ x :: post) E x false)) (m_dine_Fire_j2 d all (pre.length : Int) (A ++ x :: post) E x false)) (m_dine_Fire_j2 d all (pre.length : Int) (A ++ x :: post) E x false)
      = m_dine_Fire_j2 d all (pre.length : Int) (A ++ x :: post) E x (x.Fork && (x.Dirty && (x.Token && !decide (d.Phase = 2)))) := by
    cases x.Fork <;> cases x.Dirty <;> cases x.Token <;> rfl
  rw [e, j2]
  cases hz : (x.Fork && (x.Dirty && (x.Token && !decide (d.Phase = 2)))) with
  | false =>
    rw [if_neg (by simp), j3 _ _ (by omega)]
    have f1 : fire1 d.Phase x = x := by simp only [fire1, hz]; rfl
    unfold fire2 fireM
    rw [f1, hz]
    cases hq : (decide (d.Phase = 1) && (x.Token && !x.Fork)) <;> simp
  | true =>
    rw [if_pos rfl, j3 _ _ (by simp; omega)]
    have f1 : fire1 d.Phase x = { x with Fork := false, Dirty := false } := by simp only [fire1, hz]; rfl
    unfold fire2 fireM
    rw [f1, hz]
    cases hq : (decide (d.Phase = 1) && (x.Token && !false)) <;> simp_all
theorem s_Fire (d : Diner) : m_dine_Fire d = some (if okD d then (fireD d, fireMs d, 0) else (diner0, [], 130)) := by
  simp only [m_dine_Fire, s_dCheck, Option.bind_some]
  cases h : okD d with
  | false => rfl
  | true =>
    have hl := okD_len h
    simp only [if_true, decide_true, Bool.not_true, ifb_false, s_CloneSide d.Sides (by omega), Option.bind_some]
    have key := loop_pp0 d.Sides (m_dine_Fire_l1 d d.Sides) (fun pre => ((pre.map (fire2 d.Phase)).all (·.Fork), (pre.length : Int), pre.map (fire2 d.Phase) ++ d.Sides.drop pre.length, pre.flatMap (fireM d.ID d.Phase))) (fun _ _ => some (fireD d, fireMs d, 0)) (fun pre x post hp => ?_) ?_
    · simpa using key
    · left
      have hd : d.Sides.drop pre.length = x :: post := by rw [hp]; simp
      have hd' : d.Sides.drop (pre ++ [x]).length = post := by rw [hp]; simp
      have hm := mid_len hp
      have hE := fireMs_len pre d.ID d.Phase
      refine ⟨?_, rfl⟩
      rw [hd, hd', fire_step d d.Sides hl pre post x hp _ _ (by simp) _ (by omega), len_snoc]
      simp
    · have hE := fireMs_len d.Sides d.ID d.Phase
      dsimp only [m_dine_Fire_l1]
      rw [nlt_len, ifb_false]
      simp only [List.drop_length, List.append_nil]
      dsimp only [m_dine_Fire_j1]
      by_cases h1 : d.Phase = 1
      · rw [decide_eq_true h1, ifb_true]
        dsimp only [m_dine_Fire_j7]
        cases hall : (d.Sides.map (fire2 d.Phase)).all (·.Fork) with
        | false =>
          rw [ifb_false]
          unfold fireD
          rw [hall, Bool.and_false]
          rfl
        | true =>
          rw [ifb_true]
          generalize hS : d.Sides.map (fire2 d.Phase) = S at hall
          have hSl : S.length < 64 := by rw [← hS]; simpa using hl
          have k2 := loop_pre S (m_dine_Fire_l2 d S (d.Sides.flatMap (fireM d.ID d.Phase))) (fun pre => ((pre.length : Int), pre.map dirtyS ++ S.drop pre.length)) (⟨d.ID, 2, S.map dirtyS⟩, d.Sides.flatMap (fireM d.ID d.Phase), 0) (fun pre x post hp => ?_) ?_
          · have k3 : loop (m_dine_Fire_l2 d S (d.Sides.flatMap (fireM d.ID d.Phase))) (0, S) = some (⟨d.ID, 2, S.map dirtyS⟩, d.Sides.flatMap (fireM d.ID d.Phase), 0) := by simpa using k2
            rw [k3]
            unfold fireD
            rw [hS, hall, decide_eq_true h1]
            rfl
          · have hx := mid_get hp
            have hm := mid_len hp
            have hd : S.drop pre.length = x :: post := by rw [hp]; simp
            have hd' : S.drop (pre ++ [x]).length = post := by rw [hp]; simp
            dsimp only [m_dine_Fire_l2]
            have e1 : ((pre.length : Nat) : Int) = (((pre.map dirtyS).length : Nat) : Int) := by simp
            rw [lt_len hx, ifb_true, hd, hd', e1, at_mid rfl, Option.bind_some, set_mid, ← e1, len_snoc, wr_succ (by omega)]
            simp [dirtyS]
          · dsimp only [m_dine_Fire_l2]
            rw [nlt_len, ifb_false]
            simp [m_dine_Fire_j8]
      · rw [decide_eq_false h1, ifb_false]
        dsimp only [m_dine_Fire_j7]
        rw [ifb_false]
        unfold fireD
        rw [decide_eq_false h1, Bool.false_and]
        rfl
/-! Get -/
def getD' (d : Diner) (peer : Int) (m : Msg) : Diner × Int :=
  if okD d then match d.Sides.findIdx? (fun x => decide (x.Peer = peer) && decide (x.Epoch = m.Epoch)) with
    | none => (diner0, 131)
    | some i => match d.Sides[i]? with
      | none => (diner0, 131)
      | some x =>
        if decide (m.Kind = 1) && decide (m.Num = 0) then (if x.Fork then (diner0, 132) else (⟨d.ID, d.Phase, d.Sides.set i { x with Fork := true }⟩, 0))
        else if decide (m.Kind = 2) && decide (m.Num = 0) then (if x.Token then (diner0, 132) else (⟨d.ID, d.Phase, d.Sides.set i { x with Token := true }⟩, 0))
        else (diner0, 133)
  else (diner0, 130)
theorem s_Get (d : Diner) (peer : Int) (m : Msg) : m_dine_Get d peer m = some (getD' d peer m) := by
  simp only [m_dine_Get, s_dCheck, Option.bind_some, getD']
  cases h : okD d with
  | false => rfl
  | true =>
    have hl := okD_len h
    simp only [if_true, decide_true, Bool.not_true, ifb_false]
    rw [s_IndexFunc_Side d.Sides (fun z => m_dine_Get_1 z peer m) (fun x => decide (x.Peer = peer) && decide (x.Epoch = m.Epoch)) (by omega) (fun x _ => by
      simp only [m_dine_Get_1, m_dine_Get_1_j1]
      cases decide (x.Peer = peer) <;> rfl), Option.bind_some, plc_neg]
    have hfi := find_idx (fun x : Side => decide (x.Peer = peer) && decide (x.Epoch = m.Epoch)) d.Sides
    cases hf : d.Sides.findIdx? (fun x => decide (x.Peer = peer) && decide (x.Epoch = m.Epoch)) with
    | none => rfl
    | some i =>
      rw [hf] at hfi
      obtain ⟨x, hx, _⟩ := hfi
      simp only [Option.isNone_some, ifb_false, s_CloneSide d.Sides (by omega), Option.bind_some, plc, at_get hx, hx, Int.toNat_natCast, m_dine_Get_j1, m_dine_Get_j2, m_dine_Get_j3]
      by_cases k1 : m.Kind = 1
      · by_cases k2 : m.Num = 0
        · cases x.Fork <;> simp [k1, k2, diner0]
        · have : ¬ (1 : Int) = 2 := by omega
          simp [k1, k2, diner0]
      · by_cases k3 : m.Kind = 2
        · by_cases k2 : m.Num = 0
          · cases x.Token <;> simp [k3, k2, diner0]
          · simp [k3, k2, diner0]
        · simp [k1, k3, diner0]
end NX
end Go.Proofs.Ytadebhbiglmodaa
/-
  Plain laws: which nodes are of a graph. No statement of the seat is proved here.
-/
namespace Go.Proofs.Ytadebhbiglmodaa
namespace NX
open Go
theorem okFrom_iff (l : List Diner) (i : Nat) : ∀ (xs : List Side) (p : Option Int), okFrom l i p xs = true ↔ (∀ x ∈ xs, sideB l i x = true) ∧ xs.Pairwise (fun x y => x.Peer < y.Peer) ∧ ∀ q, p = some q → ∀ x ∈ xs, q < x.Peer
  | [], p => by simp [okFrom]
  | x :: r, p => by
    simp only [okFrom, Bool.and_eq_true, okFrom_iff l i r (some x.Peer)]
    constructor
    · rintro ⟨h1, h2, h3, h4, h5⟩
      refine ⟨fun y hy => ?_, List.pairwise_cons.2 ⟨fun y hy => h5 _ rfl y hy, h4⟩, ?_⟩
      · rcases List.mem_cons.1 hy with rfl | hy
        · exact h2
        · exact h3 y hy
      · rintro q rfl y hy
        have hq : q < x.Peer := by simpa [riseB] using h1
        rcases List.mem_cons.1 hy with rfl | hy
        · exact hq
        · have := h5 _ rfl y hy; omega
    · rintro ⟨h1, h2, h3⟩
      rw [List.pairwise_cons] at h2
      refine ⟨?_, h1 x (by simp), fun y hy => h1 y (by simp [hy]), h2.2, ?_⟩
      · cases p with
        | none => rfl
        | some q => simpa [riseB] using h3 q rfl x (by simp)
      · rintro q e y hy
        simp at e; subst e; exact h2.1 y hy
theorem okAll_iff (l : List Diner) : ∀ (r : List Diner) (i : Nat), okAll l i r = true ↔ ∀ k d, r[k]? = some d → d.ID = ((i + k : Nat) : Int) ∧ okFrom l (i + k) none d.Sides = true
  | [], i => by simp [okAll]
  | d :: r, i => by
    simp only [okAll, Bool.and_eq_true, decide_eq_true_eq, okAll_iff l r (i + 1)]
    constructor
    · rintro ⟨h1, h2, h3⟩ k e he
      cases k with
      | zero => simp at he; subst he; exact ⟨by simpa using h1, by simpa using h2⟩
      | succ k =>
        have := h3 k e (by simpa using he)
        rw [show i + (k + 1) = i + 1 + k by omega]; exact this
    · intro h
      refine ⟨by simpa using (h 0 d (by simp)).1, by simpa using (h 0 d (by simp)).2, fun k e he => ?_⟩
      have := h (k + 1) e (by simpa using he)
      rw [show i + 1 + k = i + (k + 1) by omega]; exact this
theorem mem_edgesD {i : Nat} {xs : List Side} {e : Edge} : e ∈ edgesD i xs ↔ e.A = i ∧ (i : Int) < e.B ∧ ∃ x ∈ xs, x.Peer = e.B := by
  unfold edgesD
  simp only [List.mem_map, List.mem_filter, decide_eq_true_eq]
  constructor
  · rintro ⟨x, ⟨h1, h2⟩, rfl⟩; exact ⟨rfl, h2, x, h1, rfl⟩
  · rintro ⟨h1, h2, x, h3, h4⟩
    obtain ⟨a, b⟩ := e
    dsimp only at *
    subst h1; subst h4; exact ⟨x, ⟨h3, h2⟩, rfl⟩
theorem mem_edgesL : ∀ {r : List Diner} {i : Nat} {e : Edge}, e ∈ edgesL i r ↔ ∃ k d, r[k]? = some d ∧ e ∈ edgesD (i + k) d.Sides
  | [], i, e => by simp [edgesL]
  | d :: r, i, e => by
    simp only [edgesL, List.mem_append, mem_edgesL (r := r)]
    constructor
    · rintro (h | ⟨k, f, h1, h2⟩)
      · exact ⟨0, d, by simp, by simpa using h⟩
      · exact ⟨k + 1, f, by simpa using h1, by rw [show i + (k + 1) = i + 1 + k by omega]; exact h2⟩
    · rintro ⟨k, f, h1, h2⟩
      cases k with
      | zero => simp at h1; subst h1; exact .inl (by simpa using h2)
      | succ k => exact .inr ⟨k, f, by simpa using h1, by rw [show i + 1 + k = i + (k + 1) by omega]; exact h2⟩
theorem edgesD_pw {i : Nat} {xs : List Side} (h : xs.Pairwise fun x y => x.Peer < y.Peer) : (edgesD i xs).Pairwise fun x y => x.lt y = true := by
  unfold edgesD
  rw [List.pairwise_map]
  refine (List.Pairwise.filter _ h).imp fun hxy => ?_
  simp [Edge.lt, hxy]
theorem edgesL_pw : ∀ {r : List Diner} {i : Nat}, (∀ d ∈ r, d.Sides.Pairwise fun x y => x.Peer < y.Peer) → (edgesL i r).Pairwise fun x y => x.lt y = true
  | [], _, _ => List.Pairwise.nil
  | d :: r, i, h => by
    simp only [edgesL]
    rw [List.pairwise_append]
    refine ⟨edgesD_pw (h d (by simp)), edgesL_pw fun e he => h e (by simp [he]), fun x hx y hy => ?_⟩
    obtain ⟨h1, _, _⟩ := mem_edgesD.1 hx
    obtain ⟨k, e, _, hy⟩ := mem_edgesL.1 hy
    obtain ⟨h2, _, _⟩ := mem_edgesD.1 hy
    have : x.A < y.A := by rw [h1, h2]; omega
    simp [Edge.lt, this]
end NX
end Go.Proofs.Ytadebhbiglmodaa
/-
  The function slices.Index[[]int,int]: its code compiled, a model, and that the code answers as the model. Written by a program of ours (lb.py). No statement of the seat is proved here.
-/
namespace Go.Proofs.Ytadebhbiglmodaa
namespace NX
open Go
set_option maxRecDepth 100000
set_option maxHeartbeats 4000000
def e87_L0 : EC := .seq (.reg [⟨(some 9), none, .bin .lss (.t 8) (.t 7)⟩]) (.seq (.ite (.t 9) (.skip) (.exit 0)) (.seq (.blk 1 (.seq (.reg [⟨(some 10), none, .mv (.t 8)⟩, ⟨(some 5), none, .mv (.t 10)⟩]) (.seq (.reg [⟨(some 11), none, .mv (.t 1)⟩, ⟨(some 12), none, .mv (.t 0)⟩, ⟨(some 13), none, .mv (.t 5)⟩, ⟨(some 14), none, .idx 1 (.t 12) (.t 13)⟩, ⟨(some 15), none, .load (.t 14)⟩, ⟨(some 16), none, .bin .eql (.t 11) (.t 15)⟩]) (.ite (.t 16) (.seq (.reg [⟨(some 17), none, .mv (.t 5)⟩, ⟨(some 4), none, .mv (.t 17)⟩]) (.ret)) (.skip))))) (.reg [⟨(some 18), none, .bin .add (.t 8) (.c (.iv 1))⟩, ⟨(some 8), none, .mv (.t 18)⟩])))
def e87 : EC := .seq (.reg [⟨(some 4), none, .mv (.c (.iv 0))⟩]) (.seq (.seq (.reg [⟨(some 6), none, .mv (.t 0)⟩, ⟨(some 7), none, .len (.t 6)⟩, ⟨(some 8), none, .mv (.c (.iv 0))⟩]) (.blk 0 (.loop e87_L0))) (.seq (.reg [⟨(some 4), none, .mv (.c (.iv (-1)))⟩]) (.ret)))
theorem ok87 : FnOK Try.prog 87 Try.f87 e87 [.t 4] 2 17 := ⟨by kernel_rfl, ⟨_, rfl, by kernel_rfl⟩, by kernel_rfl, by kernel_rfl⟩
/- slices.Index[[]int,int] -/
noncomputable def m_slices_Index_int_j1  : Unit → Option Int
| () =>
 some (-1)
noncomputable def m_slices_Index_int_l1 (x1 : (List Int)) (x2 : Int) : Int → Option (Int ⊕ Int)
| x5 =>
 ifb (decide (x5 < (ln intRow x1))) (
 (at_ x1 x5).bind fun x6 =>
 ifb (decide (x2 = x6)) (
 Option.map Sum.inr (some x5)) (
 some (.inl (wr (x5 + 1))))) (
 Option.map Sum.inr (m_slices_Index_int_j1 ()))
noncomputable def m_slices_Index_int (x1 : (List Int)) (x2 : Int) : Option Int :=
 loop (m_slices_Index_int_l1 x1 x2) 0
theorem k_slices_Index_int (x1 : (List Int)) (x2 : Int) (r : Int) (h : m_slices_Index_int x1 x2 = some r) : FunP Try.prog 87 [.sl 1 (List.map intRow x1), .iv x2] (.iv r) := by
  refine FunP_intro ok87 rfl rfl fun w0 H0 => ?_
  rw [m_slices_Index_int] at h
  refine V_go 11 ?_; dsimp only [e87, e87_L0, go_sem, Nat.reduceBEq, Nat.reduceAdd]; refine ⟨by simp, ?_⟩; refine V_join (fun (_ : Unit) => (⟨(an 19 []), [], []⟩ : St)) m_slices_Index_int_j1 r ?_ fun J1 => ?_
  ·rintro ⟨⟩ h; rw [m_slices_Index_int_j1] at h; (try dsimp only); refine V_go 4 ?_; dsimp only [e87, e87_L0, go_sem, Nat.reduceBEq, Nat.reduceAdd]; refine ⟨by simp, ?_⟩; exact M_done (res := fun (r : Int) => .iv r) ok87 h
  ·refine V_go 1 ?_; dsimp only [e87, e87_L0, go_sem, Nat.reduceBEq, Nat.reduceAdd]; refine ⟨by simp, ?_⟩; refine M_loop h (fun (x5 : Int) => (⟨(.sl 1 (List.map intRow x1) :: .iv x2 :: an 5 (.iv (ln intRow x1) :: .iv x5 :: an 10 [])), [], []⟩ : St)) (by simp [go_sem]) (by intro x5; first | rfl | simp [go_sem]) ?_; rintro n1 x5 y1 h hin1 hout1; rw [m_slices_Index_int_l1] at h; (try dsimp only); refine V_go 5 ?_; dsimp only [e87, e87_L0, go_sem, Nat.reduceBEq, Nat.reduceAdd]; refine ⟨by simp, ?_⟩; refine M_ite h rfl (fun _ h => ?_) fun _ h => ?_
   ·refine V_go 13 ?_; dsimp only [e87, e87_L0, go_sem, Nat.reduceBEq, Nat.reduceAdd]; refine ⟨by simp, ?_⟩; obtain ⟨x6, ex6, h⟩ := Option.bind_eq_some_iff.1 h; refine V_idxM intRow ex6 trivial rfl rfl rfl ?_; refine V_go 3 ?_; dsimp only [e87, e87_L0, go_sem, Nat.reduceBEq, Nat.reduceAdd]; refine ⟨by simp, ?_⟩; refine M_ite h rfl (fun _ h => ?_) fun _ h => ?_
    ·refine V_go 5 ?_; dsimp only [e87, e87_L0, go_sem, Nat.reduceBEq, Nat.reduceAdd]; refine ⟨by simp, ?_⟩; exact M_done (res := fun (r : Int) => .iv r) ok87 (M_out h hout1)
    ·refine V_go 6 ?_; dsimp only [e87, e87_L0, go_sem, Nat.reduceBEq, Nat.reduceAdd]; refine ⟨by simp, ?_⟩; exact M_back h hin1
   ·refine V_go 1 ?_; dsimp only [e87, e87_L0, go_sem, Nat.reduceBEq, Nat.reduceAdd]; refine ⟨by simp, ?_⟩; exact M_to J1 (s := ()) (M_out h hout1)
def f_slices_Index_int_j1 (_F : Nat)  : Unit → Option Int
| () =>
 some (-1)
theorem le_slices_Index_int_j1 {F : Nat} : ∀ s, ole (f_slices_Index_int_j1 F s) (m_slices_Index_int_j1 s) := by
  rintro ⟨⟩
  unfold f_slices_Index_int_j1 m_slices_Index_int_j1
  try dsimp only
  with_reducible repeat' first | exact ole_refl _ | assumption | intro _ | refine ole_ifb ?_ ?_ | refine ole_bind ?_ ?_ | refine ole_map ?_ | refine ole_loop ?_
def f_slices_Index_int_l1 (F : Nat) (x1 : (List Int)) (x2 : Int) : Int → Option (Int ⊕ Int)
| x5 =>
 ifb (decide (x5 < (ln intRow x1))) (
 (at_ x1 x5).bind fun x6 =>
 ifb (decide (x2 = x6)) (
 Option.map Sum.inr (some x5)) (
 some (.inl (wr (x5 + 1))))) (
 Option.map Sum.inr (f_slices_Index_int_j1 F ()))
theorem le_slices_Index_int_l1 {F : Nat} {x1 : (List Int)} {x2 : Int} : ∀ s, ole (f_slices_Index_int_l1 F x1 x2 s) (m_slices_Index_int_l1 x1 x2 s) := by
  intro x5
  unfold f_slices_Index_int_l1 m_slices_Index_int_l1
  try dsimp only
  with_reducible repeat' first | exact ole_refl _ | assumption | intro _ | refine ole_ifb ?_ ?_ | refine ole_bind ?_ ?_ | refine ole_map ?_ | refine ole_loop ?_ | apply le_slices_Index_int_j1
def f_slices_Index_int (F : Nat) (x1 : (List Int)) (x2 : Int) : Option Int :=
 loopF F (f_slices_Index_int_l1 F x1 x2) 0
theorem le_slices_Index_int {F : Nat} {x1 : (List Int)} {x2 : Int} : ole (f_slices_Index_int F x1 x2) (m_slices_Index_int x1 x2) := by
  unfold f_slices_Index_int m_slices_Index_int
  with_reducible repeat' first | exact ole_refl _ | assumption | intro _ | refine ole_ifb ?_ ?_ | refine ole_bind ?_ ?_ | refine ole_map ?_ | refine ole_loop ?_ | apply le_slices_Index_int_j1 | apply le_slices_Index_int_l1
end NX
end Go.Proofs.Ytadebhbiglmodaa
/-
  The function slices.Contains[[]int,int]: its code compiled, a model, and that the code answers as the model. Written by a program of ours (lb.py). No statement of the seat is proved here.
-/
namespace Go.Proofs.Ytadebhbiglmodaa
namespace NX
open Go
set_option maxRecDepth 100000
set_option maxHeartbeats 4000000
def e64 : EC := .seq (.reg [⟨(some 4), none, .mv (.c .ff)⟩]) (.seq (.reg [⟨(some 5), none, .mv (.t 0)⟩, ⟨(some 6), none, .mv (.t 1)⟩, ⟨(some 7), none, .call 87 [(.t 5), (.t 6)]⟩, ⟨(some 8), none, .bin .geq (.t 7) (.c (.iv 0))⟩, ⟨(some 4), none, .mv (.t 8)⟩]) (.ret))
theorem ok64 : FnOK Try.prog 64 Try.f64 e64 [.t 4] 2 7 := ⟨by kernel_rfl, ⟨_, rfl, by kernel_rfl⟩, by kernel_rfl, by kernel_rfl⟩
/- slices.Contains[[]int,int] -/
noncomputable def m_slices_Contains_int (x1 : (List Int)) (x2 : Int) : Option Bool :=
 (m_slices_Index_int x1 x2).bind fun x3 =>
 some (decide (0 ≤ x3))
theorem k_slices_Contains_int (x1 : (List Int)) (x2 : Int) (r : Bool) (h : m_slices_Contains_int x1 x2 = some r) : FunP Try.prog 64 [.sl 1 (List.map intRow x1), .iv x2] (.bv r) := by
  refine FunP_intro ok64 rfl rfl fun w0 H0 => ?_
  rw [m_slices_Contains_int] at h
  refine V_go 8 ?_; dsimp only [e64, go_sem, Nat.reduceBEq, Nat.reduceAdd]; refine ⟨by simp, ?_⟩; obtain ⟨x3, ex3, h⟩ := Option.bind_eq_some_iff.1 h; refine V_call trivial (k_slices_Index_int x1 x2 _ ex3) (h := ?_); refine V_go 3 ?_; dsimp only [e64, go_sem, Nat.reduceBEq, Nat.reduceAdd]; refine ⟨by simp, ?_⟩; exact M_done (res := fun (r : Bool) => .bv r) ok64 h
def f_slices_Contains_int (F : Nat) (x1 : (List Int)) (x2 : Int) : Option Bool :=
 (f_slices_Index_int F x1 x2).bind fun x3 =>
 some (decide (0 ≤ x3))
theorem le_slices_Contains_int {F : Nat} {x1 : (List Int)} {x2 : Int} : ole (f_slices_Contains_int F x1 x2) (m_slices_Contains_int x1 x2) := by
  unfold f_slices_Contains_int m_slices_Contains_int
  with_reducible repeat' first | exact ole_refl _ | assumption | intro _ | refine ole_ifb ?_ ?_ | refine ole_bind ?_ ?_ | refine ole_map ?_ | refine ole_loop ?_ | apply le_slices_Index_int
end NX
end Go.Proofs.Ytadebhbiglmodaa
/-
  The function narthex/colour.Round$1: its code compiled, a model, and that the code answers as the model. Written by a program of ours (lb.py). No statement of the seat is proved here.
-/
namespace Go.Proofs.Ytadebhbiglmodaa
namespace NX
open Go
set_option maxRecDepth 100000
set_option maxHeartbeats 4000000
def e88 : EC := .seq (.reg [⟨(some 2), none, .mv (.c .ff)⟩]) (.seq (.reg [⟨(some 3), none, .mv (.t 0)⟩, ⟨(some 4), none, .bin .lss (.t 3) (.c (.iv 0))⟩, ⟨(some 2), none, .mv (.t 4)⟩]) (.ret))
theorem ok88 : FnOK Try.prog 88 Try.f88 e88 [.t 2] 1 4 := ⟨by kernel_rfl, ⟨_, rfl, by kernel_rfl⟩, by kernel_rfl, by kernel_rfl⟩
/- narthex/colour.Round$1 -/
noncomputable def m_colour_Round_1 (x1 : Int) : Option Bool :=
 some (decide (x1 < 0))
theorem k_colour_Round_1 (x1 : Int) (r : Bool) (h : m_colour_Round_1 x1 = some r) : FunP Try.prog 88 [.iv x1] (.bv r) := by
  refine FunP_intro ok88 rfl rfl fun w0 H0 => ?_
  rw [m_colour_Round_1] at h
  refine V_go 10 ?_; dsimp only [e88, go_sem, Nat.reduceBEq, Nat.reduceAdd]; refine ⟨by simp, ?_⟩; exact M_done (res := fun (r : Bool) => .bv r) ok88 h
def f_colour_Round_1 (_F : Nat) (x1 : Int) : Option Bool :=
 some (decide (x1 < 0))
theorem le_colour_Round_1 {F : Nat} {x1 : Int} : ole (f_colour_Round_1 F x1) (m_colour_Round_1 x1) := by
  unfold f_colour_Round_1 m_colour_Round_1
  with_reducible repeat' first | exact ole_refl _ | assumption | intro _ | refine ole_ifb ?_ ?_ | refine ole_bind ?_ ?_ | refine ole_map ?_ | refine ole_loop ?_
end NX
end Go.Proofs.Ytadebhbiglmodaa
/-
  The function slices.Clone[[]int,int]: its code compiled, a model, and that the code answers as the model. Written by a program of ours (lb.py). No statement of the seat is proved here.
-/
namespace Go.Proofs.Ytadebhbiglmodaa
namespace NX
open Go
set_option maxRecDepth 100000
set_option maxHeartbeats 4000000
def e89 : EC := .seq (.reg [⟨(some 2), none, .mv (.c .nl)⟩]) (.seq (.seq (.reg [⟨(some 3), none, .mv (.t 0)⟩, ⟨(some 4), none, .isnil false (.t 3)⟩]) (.ite (.t 4) (.seq (.reg [⟨(some 2), none, .mv (.c .nl)⟩]) (.ret)) (.skip))) (.seq (.reg [⟨(some 5), none, .bsl 3 1 0 [.iv 0] []⟩, ⟨(some 6), none, .mv (.t 0)⟩, ⟨(some 7), none, .app 3 1 8 (.t 5) (.t 6)⟩, ⟨(some 2), none, .mv (.t 7)⟩]) (.ret)))
theorem ok89 : FnOK Try.prog 89 Try.f89 e89 [.t 2] 1 7 := ⟨by kernel_rfl, ⟨_, rfl, by kernel_rfl⟩, by kernel_rfl, by kernel_rfl⟩
/- slices.Clone[[]int,int] -/
noncomputable def m_slices_Clone_int (x1 : (List Int)) : Option (List Int) := app_ 8 [] x1
theorem o_slices_Clone_int (x1 : (List Int)) (r : (List Int)) (h : m_slices_Clone_int x1 = some r) : FunO Try.prog 89 [.sl 1 (List.map intRow x1)] 3 1 (List.map intRow r) := by
  refine FunO_intro ok89 rfl fun w0 H0 => ?_
  rw [m_slices_Clone_int] at h
  refine V_go 100 ?_
  dsimp only [e89, go_sem, Nat.reduceBEq, Nat.reduceAdd]
  refine ⟨by simp, ?_⟩
  refine V_isnil trivial rfl (fun hn => ?_) ?_
  · refine V_go 100 ?_
    dsimp only [go_sem, Nat.reduceBEq, Nat.reduceAdd]
    refine ⟨by simp, ?_⟩
    refine V_own 2 3 1 rfl rfl ?_
    dsimp only [go_sem, Nat.reduceBEq, Nat.reduceAdd]
    have hn : x1 = [] := by simpa using hn
    subst hn
    exact O_doneM intRow (e := []) ok89 (by simpa [app_] using h) rfl rfl
  · refine V_go 100 ?_
    dsimp only [go_sem, Nat.reduceBEq, Nat.reduceAdd]
    refine ⟨by simp, ?_⟩
    refine V_appM intRow h trivial rfl rfl rfl ?_
    refine V_go 100 ?_
    dsimp only [go_sem, Nat.reduceBEq, Nat.reduceAdd]
    refine ⟨by simp, ?_⟩
    exact O_doneM intRow ok89 (rfl : some r = some r) rfl rfl
theorem k_slices_Clone_int (x1 : (List Int)) (r : (List Int)) (h : m_slices_Clone_int x1 = some r) : FunP Try.prog 89 [.sl 1 (List.map intRow x1)] (.sl 1 (List.map intRow r)) := (o_slices_Clone_int x1 r h).sealed
def f_slices_Clone_int (_F : Nat) (x1 : (List Int)) : Option (List Int) := app_ 8 [] x1
theorem le_slices_Clone_int {F : Nat} {x1 : (List Int)} : ole (f_slices_Clone_int F x1) (m_slices_Clone_int x1) := ole_refl _
end NX
end Go.Proofs.Ytadebhbiglmodaa
/-
  The symbolic machine: own slices of integers, sorted by the library. No statement of the seat is proved here.
-/
namespace Go.Proofs.Ytadebhbiglmodaa
namespace NX
open Go Go.RowKit

section
variable {c : Ctx} {M : Mem} {S S' : St} {a : Act} {w : World} {fn : Func} {K : AV → List (Option Blk) → List (Option Sl) → Prop} {k : List It} {bs : List (Option Blk)} {ss : List (Option Sl)}
theorem isLL_ints {M : Mem} {zs : List Int} {vss : List (List Value)} (h : AV.isLL M 1 (zs.map intRow) vss) : vss.flatten = zs.map (Value.int .i64) := by
  induction zs generalizing vss with
  | nil => simp [AV.isLL] at h; subst h; rfl
  | cons z zs ih =>
    obtain ⟨v, r, rfl, h1, h2, h3⟩ := h
    obtain ⟨u, q, rfl, h4, h5⟩ := h2
    simp only [AV.isL] at h5
    simp only [AV.is] at h4
    subst h5; subst h4
    simp [ih h3]
theorem ints_isLL {M : Mem} : ∀ (zs : List Int), ∃ vss, AV.isLL M 1 (zs.map intRow) vss ∧ vss.flatten = zs.map (Value.int .i64)
  | [] => ⟨[], rfl, rfl⟩
  | z :: zs => by
    obtain ⟨vss, h1, h2⟩ := ints_isLL (M := M) zs
    exact ⟨[.int .i64 z] :: vss, ⟨_, _, rfl, rfl, ⟨_, _, rfl, rfl, rfl⟩, h1⟩, by simp [h2]⟩
/-- An own slice of integers is sorted by the library. -/
theorem sem_sort {ρ : Shelf.Ren} (Ly : Lays.n189 c.P ρ) {j T : Nat} {x : X} {zs : List Int} (hx : S.x x = .osl j) (hj : oget S.ss j = some ⟨T, 1, zs.map intRow⟩) (hlen : zs.length < 4611686018427387904) :
    Sem1 c S (.call (ρ.f 189) [x]) (.tup []) ⟨S.tm, S.bs, oput S.ss j (some ⟨T, 1, (zs.mergeSort fun x y => decide (x ≤ y)).map intRow⟩)⟩ := by
  intro ro ho M a w hT next Q hn
  obtain ⟨dst, op, ty, pos, af, gd⟩ := ro
  dsimp only at ho
  obtain ⟨cargs, argTypes, rfl, hfn, hxs⟩ := cO_call ho
  obtain ⟨q, rfl⟩ : ∃ q, cargs = #[q] := by
    have : cargs.toList.length = 1 := by have := congrArg List.length hxs; simpa using this
    obtain ⟨l⟩ := cargs
    match l, this with
    | [q], _ => exact ⟨q, rfl⟩
  have hqx : cX q = x := by simpa using hxs
  have hq := X_is hT q
  rw [hqx, hx] at hq
  obtain ⟨hjn, hq⟩ := hq
  obtain ⟨g0, vss, h1, h2, h3, h4⟩ := hT.st.slc j _ hj
  dsimp only at h1 h3 g0
  have hfl := isLL_ints h1
  have hrun : (execOp a.eval ⟨dst, .call ⟨.value (.func (ρ.f 189)), #[q], argTypes⟩, ty, pos, af, gd⟩).run c.P w = .ok (.enter (ρ.f 189) (#[q].map a.eval)) w := by
    have he : a.eval (.func (ρ.f 189)) = .func (.func (ρ.f 189)) #[] #[] := rfl
    generalize a.eval = ρ' at *
    simp [execOp, resolve, Deferred.ofValue, invoke, he, callFunc_run hfn]
  have e1 : (#[q].map a.eval) = #[M.σ j] := by
    apply Array.ext'; simp; exact hq
  rw [e1] at hrun
  unfold Oper.wp
  rw [hrun]
  show Calls c.P (ρ.f 189) #[M.σ j] w _
  obtain ⟨rs, hr1, hr2⟩ := ints_isLL (M := M.pure) (zs.mergeSort fun x y => decide (x ≤ y))
  have hone : ∀ v ∈ rs.flatten, v.oneCell' = true := by
    rw [hr2]; intro v hv
    obtain ⟨z, _, rfl⟩ := List.mem_map.1 hv; rfl
  have hl2 : (zs.mergeSort fun x y => decide (x ≤ y)).length = zs.length := by simp
  rcases h3.2 with ⟨e2, e3⟩ | ⟨g, cap, cur, e2, hb, e3, e4, e5, e6, e7⟩
  · have hz : zs = [] := by simpa using e3
    subst hz
    rw [e2]
    refine (Any.slices_Sort_int_none Ly none 0 w).mono ?_
    rintro e w' ⟨rfl, rfl⟩
    refine hn M _ _ (.refl M) ?_ ⟨[], rfl, rfl⟩
    have : oput S.ss j (some (⟨T, 1, ([].mergeSort fun (x y : Int) => decide (x ≤ y)).map intRow⟩ : Sl)) = S.ss := by
      have hj' := hj
      simp only [List.map_nil] at hj'
      have : ∀ (l : List (Option Sl)) (j : Nat) (L : Sl), oget l j = some L → oput l j (some L) = l := by
        intro l
        induction l with
        | nil => intro j L h; simp [oget] at h
        | cons x l ih => intro j L h; cases j with
          | zero => simp [oget] at h; subst h; rfl
          | succ j => simp only [oput]; rw [ih j L (by simpa [oget] using h)]
      simpa using this _ _ _ hj'
    rw [this]; exact hT.st
  · have e4' : zs.length ≤ cap := by simpa using e4
    rw [e2]
    simp only [List.length_map]
    rw [Nat.mul_one, List.length_map] at e7
    rw [hfl] at e7
    refine (Any.slices_Sort_int Ly g 0 cap zs w (holds_of_blockI e3 e7) (Array.getElem?_eq_some_iff.1 e3).1 hlen).mono ?_
    rintro e w' ⟨rfl, n, os, rfl⟩
    refine hn M _ _ (.refl M) ?_ ⟨[], rfl, rfl⟩
    refine hT.st.rewrite hj (g := g) (by rw [e2]; rfl) (grownBy_sortedI _) (vss' := rs) hr1 hone ?_
    rw [hr2, List.length_map, hl2, e2, List.length_map]
    exact ownsRow_sortedI (ss := zs) hl2 hb e3 e4' e5 e6
theorem V_sort {ρ : Shelf.Ren} (Ly : Lays.n189 c.P ρ) {d : Option Nat} {g : Option (Nat × Bool)} {l : List EOp} {j T f : Nat} {x : X} (zs : List Int) (hg : gm S g) (hf : f = ρ.f 189) (hx : S.x x = .osl j) (hj : oget S.ss j = some ⟨T, 1, zs.map intRow⟩) (hlen : zs.length < 4611686018427387904)
    (h : V c fn K (.ops l :: k) ((⟨S.tm, S.bs, oput S.ss j (some ⟨T, 1, (zs.mergeSort fun x y => decide (x ≤ y)).map intRow⟩)⟩ : St).put d (.tup []))) : V c fn K (.ops (⟨d, g, .call f [x]⟩ :: l) :: k) S := by
  subst hf
  exact V_sem hg (sem_sort Ly hx hj hlen) rfl h

end
end NX
end Go.Proofs.Ytadebhbiglmodaa
/-
  The function slices.Compact[[]int,int]: its code compiled, a model, and that the code answers as the model. Written by a program of ours (lb.py). No statement of the seat is proved here.
-/
namespace Go.Proofs.Ytadebhbiglmodaa
namespace NX
open Go
set_option maxRecDepth 100000
set_option maxHeartbeats 4000000
def e113_L1 : EC := .seq (.seq (.reg [⟨(some 29), none, .mv (.t 5)⟩, ⟨(some 30), none, .mv (.t 4)⟩, ⟨(some 31), none, .len (.t 30)⟩, ⟨(some 32), none, .bin .lss (.t 29) (.t 31)⟩]) (.ite (.t 32) (.skip) (.exit 2))) (.seq (.blk 3 (.seq (.drw [⟨(some 35), none, .mv (.t 4)⟩, ⟨(some 36), none, .mv (.t 5)⟩, ⟨(some 37), none, .idx 1 (.t 35) (.t 36)⟩, ⟨(some 38), none, .load (.t 37)⟩, ⟨(some 39), none, .mv (.t 4)⟩, ⟨(some 40), none, .mv (.t 5)⟩, ⟨(some 41), none, .bin .sub (.t 40) (.c (.iv 1))⟩, ⟨(some 42), none, .idx 1 (.t 39) (.t 41)⟩, ⟨(some 43), none, .load (.t 42)⟩, ⟨(some 44), none, .bin .neq (.t 38) (.t 43)⟩] [[], [], [0, 1], [2], [], [], [5], [4, 6], [7], [3, 8]] [[2], [2], [0, 1, 3], [2, 9], [7], [6], [5, 7], [4, 6, 8], [7, 9], [3, 8]]) (.ite (.t 44) (.seq (.reg [⟨(some 45), none, .mv (.t 0)⟩, ⟨(some 46), none, .mv (.t 3)⟩, ⟨(some 47), none, .mv (.t 4)⟩, ⟨(some 48), none, .mv (.t 5)⟩, ⟨(some 49), none, .idx 1 (.t 47) (.t 48)⟩, ⟨(some 50), none, .load (.t 49)⟩, ⟨(some 51), none, .idx 1 (.t 45) (.t 46)⟩, ⟨none, none, .store 1 (.t 51) (.t 50)⟩]) (.reg [⟨(some 52), none, .mv (.t 3)⟩, ⟨(some 53), none, .bin .add (.t 52) (.c (.iv 1))⟩, ⟨(some 3), none, .mv (.t 53)⟩])) (.skip)))) (.reg [⟨(some 33), none, .mv (.t 5)⟩, ⟨(some 34), none, .bin .add (.t 33) (.c (.iv 1))⟩, ⟨(some 5), none, .mv (.t 34)⟩]))
def e113_L0 : EC := .seq (.seq (.reg [⟨(some 10), none, .mv (.t 3)⟩, ⟨(some 11), none, .mv (.t 0)⟩, ⟨(some 12), none, .len (.t 11)⟩, ⟨(some 13), none, .bin .lss (.t 10) (.t 12)⟩]) (.ite (.t 13) (.skip) (.exit 0))) (.seq (.blk 1 (.seq (.drw [⟨(some 16), none, .mv (.t 0)⟩, ⟨(some 17), none, .mv (.t 3)⟩, ⟨(some 18), none, .idx 1 (.t 16) (.t 17)⟩, ⟨(some 19), none, .load (.t 18)⟩, ⟨(some 20), none, .mv (.t 0)⟩, ⟨(some 21), none, .mv (.t 3)⟩, ⟨(some 22), none, .bin .sub (.t 21) (.c (.iv 1))⟩, ⟨(some 23), none, .idx 1 (.t 20) (.t 22)⟩, ⟨(some 24), none, .load (.t 23)⟩, ⟨(some 25), none, .bin .eql (.t 19) (.t 24)⟩] [[], [], [0, 1], [2], [], [], [5], [4, 6], [7], [3, 8]] [[2], [2], [0, 1, 3], [2, 9], [7], [6], [5, 7], [4, 6, 8], [7, 9], [3, 8]]) (.ite (.t 25) (.seq (.reg [⟨(some 26), none, .mv (.t 0)⟩, ⟨(some 27), none, .mv (.t 3)⟩, ⟨(some 28), none, .slice 1 (.t 26) (some (.t 27)) none⟩, ⟨(some 4), none, .mv (.t 28)⟩]) (.seq (.seq (.reg [⟨(some 5), none, .mv (.c (.iv 1))⟩]) (.blk 2 (.loop e113_L1))) (.seq (.reg [⟨(some 54), none, .mv (.t 0)⟩, ⟨(some 55), none, .mv (.t 3)⟩, ⟨(some 56), none, .slice 1 (.t 54) (some (.t 55)) none⟩, ⟨none, none, .bad⟩]) (.seq (.reg [⟨(some 57), none, .mv (.t 0)⟩, ⟨(some 58), none, .mv (.t 3)⟩, ⟨(some 59), none, .slice 1 (.t 57) none (some (.t 58))⟩, ⟨(some 2), none, .mv (.t 59)⟩]) (.ret))))) (.skip)))) (.reg [⟨(some 14), none, .mv (.t 3)⟩, ⟨(some 15), none, .bin .add (.t 14) (.c (.iv 1))⟩, ⟨(some 3), none, .mv (.t 15)⟩]))
def e113 : EC := .seq (.reg [⟨(some 2), none, .mv (.c .nl)⟩]) (.seq (.seq (.reg [⟨(some 6), none, .mv (.t 0)⟩, ⟨(some 7), none, .len (.t 6)⟩, ⟨(some 8), none, .bin .lss (.t 7) (.c (.iv 2))⟩]) (.ite (.t 8) (.seq (.reg [⟨(some 9), none, .mv (.t 0)⟩, ⟨(some 2), none, .mv (.t 9)⟩]) (.ret)) (.skip))) (.seq (.seq (.reg [⟨(some 3), none, .mv (.c (.iv 1))⟩]) (.blk 0 (.loop e113_L0))) (.seq (.reg [⟨(some 60), none, .mv (.t 0)⟩, ⟨(some 2), none, .mv (.t 60)⟩]) (.ret))))
theorem ok113 : FnOK Try.prog 113 Try.f113 e113 [.t 2] 1 60 := ⟨by kernel_rfl, ⟨_, rfl, by kernel_rfl⟩, by kernel_rfl, by kernel_rfl⟩
/- slices.Compact[[]int,int] -/
noncomputable def m_slices_Compact_int_j1 (x1 : (List Int)) : Unit → Option (List Int)
| () =>
 some x1
noncomputable def m_slices_Compact_int_l1 (x1 : (List Int)) : Int → Option (Int ⊕ (List Int))
| x21 =>
 ifb (decide (x21 < (ln intRow x1))) (
 (at_ x1 x21).bind fun x22 =>
 (at_ x1 (wr (x21 - 1))).bind fun x23 =>
 ifb (decide (x22 = x23)) (
 none) (
 some (.inl (wr (x21 + 1))))) (
 Option.map Sum.inr ((m_slices_Compact_int_j1 x1) ()))
noncomputable def m_slices_Compact_int (x1 : (List Int)) : Option (List Int) :=
 ifb (decide ((ln intRow x1) < 2)) (
 some x1) (
 loop (m_slices_Compact_int_l1 x1) 1)
theorem k_slices_Compact_int (x1 : (List Int)) (r : (List Int)) (h : m_slices_Compact_int x1 = some r) : FunP Try.prog 113 [.sl 1 (List.map intRow x1)] (.sl 1 (List.map intRow r)) := by
  refine FunP_intro ok113 rfl rfl fun w0 H0 => ?_
  rw [m_slices_Compact_int] at h
  refine V_go 11 ?_; dsimp only [e113, e113_L0, e113_L1, go_sem, Nat.reduceBEq, Nat.reduceAdd]; refine ⟨by simp, ?_⟩; refine M_ite h rfl (fun _ h => ?_) fun _ h => ?_
  ·refine V_go 5 ?_; dsimp only [e113, e113_L0, e113_L1, go_sem, Nat.reduceBEq, Nat.reduceAdd]; refine ⟨by simp, ?_⟩; exact M_done (res := fun (r : (List Int)) => .sl 1 (List.map intRow r)) ok113 h
  ·refine V_go 6 ?_; dsimp only [e113, e113_L0, e113_L1, go_sem, Nat.reduceBEq, Nat.reduceAdd]; refine ⟨by simp, ?_⟩; refine V_join (fun (_ : Unit) => (⟨(.sl 1 (List.map intRow x1) :: an 60 []), [], []⟩ : St)) (m_slices_Compact_int_j1 x1) r ?_ fun J1 => ?_
   ·rintro ⟨⟩ h; rw [m_slices_Compact_int_j1] at h; (try dsimp only); refine V_go 5 ?_; dsimp only [e113, e113_L0, e113_L1, go_sem, Nat.reduceBEq, Nat.reduceAdd]; refine ⟨by simp, ?_⟩; exact M_done (res := fun (r : (List Int)) => .sl 1 (List.map intRow r)) ok113 h
   ·refine V_go 1 ?_; dsimp only [e113, e113_L0, e113_L1, go_sem, Nat.reduceBEq, Nat.reduceAdd]; refine ⟨by simp, ?_⟩; refine M_loop h (fun (x21 : Int) => (⟨(.sl 1 (List.map intRow x1) :: .any :: .any :: .iv x21 :: an 57 []), [], []⟩ : St)) (by simp [go_sem]) (by intro x21; first | rfl | simp [go_sem]) ?_; rintro n1 x21 y1 h hin1 hout1; rw [m_slices_Compact_int_l1] at h; (try dsimp only); refine V_go 8 ?_; dsimp only [e113, e113_L0, e113_L1, go_sem, Nat.reduceBEq, Nat.reduceAdd]; refine ⟨by simp, ?_⟩; refine M_ite h rfl (fun _ h => ?_) fun _ h => ?_
    ·refine V_go 4 ?_; dsimp only [e113, e113_L0, e113_L1, go_sem, Nat.reduceBEq, Nat.reduceAdd]; refine ⟨by simp, ?_⟩; refine V_drw (by kernel_rfl) fun all hall hs hnap haf => ?_; dsimp only [go_sem, Nat.reduceBEq, Nat.reduceAdd]; refine G_goN hall hs haf hnap 5 5 ?_; dsimp only [go_sem, Nat.reduceBEq, Nat.reduceAdd]; refine ⟨by simp, ?_⟩; obtain ⟨x22, ex22, h⟩ := Option.bind_eq_some_iff.1 h; refine G_idxM hall hs haf hnap 2 intRow ex22 rfl rfl trivial rfl rfl rfl rfl ?_; refine G_goN hall hs haf hnap 1 3 ?_; dsimp only [go_sem, Nat.reduceBEq, Nat.reduceAdd]; refine ⟨by simp, ?_⟩
     obtain ⟨x23, ex23, h⟩ := Option.bind_eq_some_iff.1 h; refine G_idxM hall hs haf hnap 7 intRow ex23 rfl rfl trivial rfl rfl rfl rfl ?_; refine G_goN hall hs haf hnap 2 0 ?_; dsimp only [go_sem, Nat.reduceBEq, Nat.reduceAdd]; refine ⟨by simp, ?_⟩; refine G_done rfl ?_ _; refine M_ite h rfl (fun _ h => ?_) fun _ h => ?_
     ·cases h
     ·refine V_go 7 ?_; dsimp only [e113, e113_L0, e113_L1, go_sem, Nat.reduceBEq, Nat.reduceAdd]; refine ⟨by simp, ?_⟩; exact M_back h hin1
    ·refine V_go 1 ?_; dsimp only [e113, e113_L0, e113_L1, go_sem, Nat.reduceBEq, Nat.reduceAdd]; refine ⟨by simp, ?_⟩; exact M_to J1 (s := ()) (M_out h hout1)
def f_slices_Compact_int_j1 (_F : Nat) (x1 : (List Int)) : Unit → Option (List Int)
| () =>
 some x1
theorem le_slices_Compact_int_j1 {F : Nat} {x1 : (List Int)} : ∀ s, ole (f_slices_Compact_int_j1 F x1 s) (m_slices_Compact_int_j1 x1 s) := by
  rintro ⟨⟩
  unfold f_slices_Compact_int_j1 m_slices_Compact_int_j1
  try dsimp only
  with_reducible repeat' first | exact ole_refl _ | assumption | intro _ | refine ole_ifb ?_ ?_ | refine ole_bind ?_ ?_ | refine ole_map ?_ | refine ole_loop ?_
def f_slices_Compact_int_l1 (F : Nat) (x1 : (List Int)) : Int → Option (Int ⊕ (List Int))
| x21 =>
 ifb (decide (x21 < (ln intRow x1))) (
 (at_ x1 x21).bind fun x22 =>
 (at_ x1 (wr (x21 - 1))).bind fun x23 =>
 ifb (decide (x22 = x23)) (
 none) (
 some (.inl (wr (x21 + 1))))) (
 Option.map Sum.inr ((f_slices_Compact_int_j1 F x1) ()))
theorem le_slices_Compact_int_l1 {F : Nat} {x1 : (List Int)} : ∀ s, ole (f_slices_Compact_int_l1 F x1 s) (m_slices_Compact_int_l1 x1 s) := by
  intro x21
  unfold f_slices_Compact_int_l1 m_slices_Compact_int_l1
  try dsimp only
  with_reducible repeat' first | exact ole_refl _ | assumption | intro _ | refine ole_ifb ?_ ?_ | refine ole_bind ?_ ?_ | refine ole_map ?_ | refine ole_loop ?_ | apply le_slices_Compact_int_j1
def f_slices_Compact_int (F : Nat) (x1 : (List Int)) : Option (List Int) :=
 ifb (decide ((ln intRow x1) < 2)) (
 some x1) (
 loopF F (f_slices_Compact_int_l1 F x1) 1)
theorem le_slices_Compact_int {F : Nat} {x1 : (List Int)} : ole (f_slices_Compact_int F x1) (m_slices_Compact_int x1) := by
  unfold f_slices_Compact_int m_slices_Compact_int
  with_reducible repeat' first | exact ole_refl _ | assumption | intro _ | refine ole_ifb ?_ ?_ | refine ole_bind ?_ ?_ | refine ole_map ?_ | refine ole_loop ?_ | apply le_slices_Compact_int_j1 | apply le_slices_Compact_int_l1
end NX
end Go.Proofs.Ytadebhbiglmodaa
/-
  The function narthex/set.Of: its code compiled, a model, and that the code answers as the model. Written by a program of ours (lb.py). No statement of the seat is proved here.
-/
namespace Go.Proofs.Ytadebhbiglmodaa
namespace NX
open Go
set_option maxRecDepth 100000
def laysSort_ren : Go.Shelf.Ren := ⟨(fun | 189 => 112 | 125 => 128 | 257 => 127 | 128 => 142 | 129 => 143 | 294 => 133 | 295 => 134 | 296 => 135 | 297 => 136 | 298 => 137 | 299 => 138 | 216 => 139 | 300 => 140 | 301 => 141 | 328 => 146 | 329 => 147 | 330 => 148 | 331 => 149 | 332 => 150 | 215 => 126 | 343 => 151 | n => n), (fun | 28 => 25 | 3 => 3 | 46 => 151 | 0 => 0 | 51 => 167 | 53 => 169 | 4 => 4 | 183 => 159 | 182 => 158 | 131 => 164 | 5 => 5 | 9 => 9 | 218 => 174 | 222 => 178 | 228 => 180 | 229 => 181 | n => n), (fun  | n => n)⟩
theorem laysSort : Lays.n189 Try.prog laysSort_ren where
  mixed := by kernel_rfl
  f125 := Try.func128.trans (congrArg some (by kernel_rfl))
  f128 := Try.func142.trans (congrArg some (by kernel_rfl))
  f129 := Try.func143.trans (congrArg some (by kernel_rfl))
  f189 := Try.func112.trans (congrArg some (by kernel_rfl))
  f215 := Try.func126.trans (congrArg some (by kernel_rfl))
  f216 := Try.func139.trans (congrArg some (by kernel_rfl))
  f257 := Try.func127.trans (congrArg some (by kernel_rfl))
  f294 := Try.func133.trans (congrArg some (by kernel_rfl))
  f295 := Try.func134.trans (congrArg some (by kernel_rfl))
  f296 := Try.func135.trans (congrArg some (by kernel_rfl))
  f297 := Try.func136.trans (congrArg some (by kernel_rfl))
  f298 := Try.func137.trans (congrArg some (by kernel_rfl))
  f299 := Try.func138.trans (congrArg some (by kernel_rfl))
  f300 := Try.func140.trans (congrArg some (by kernel_rfl))
  f301 := Try.func141.trans (congrArg some (by kernel_rfl))
  f328 := Try.func146.trans (congrArg some (by kernel_rfl))
  f329 := Try.func147.trans (congrArg some (by kernel_rfl))
  f330 := Try.func148.trans (congrArg some (by kernel_rfl))
  f331 := Try.func149.trans (congrArg some (by kernel_rfl))
  f332 := Try.func150.trans (congrArg some (by kernel_rfl))
  f343 := Try.func151.trans (congrArg some (by kernel_rfl))
  t0 := Try.underlying0
  a0 := Try.isAgg0
  z0 := Try.sizeOf0
  v0 := Try.zeroValue0
  t3 := Try.underlying3
  a3 := Try.isAgg3
  z3 := Try.sizeOf3
  v3 := Try.zeroValue3
  t4 := Try.underlying4
  a4 := Try.isAgg4
  z4 := Try.sizeOf4
  v4 := Try.zeroValue4
  t5 := Try.underlying5
  a5 := Try.isAgg5
  z5 := Try.sizeOf5
  v5 := Try.zeroValue5
  t9 := Try.underlying9
  a9 := Try.isAgg9
  z9 := Try.sizeOf9
  v9 := Try.zeroValue9
  t28 := Try.underlying25
  a28 := Try.isAgg25
  z28 := Try.sizeOf25
  v28 := Try.zeroValue25
  t46 := Try.underlying151
  a46 := Try.isAgg151
  z46 := Try.sizeOf151
  v46 := Try.zeroValue151
  t51 := Try.underlying167
  a51 := Try.isAgg167
  z51 := Try.sizeOf167
  v51 := Try.zeroValue167
  t53 := Try.underlying169
  a53 := Try.isAgg169
  z53 := Try.sizeOf169
  v53 := Try.zeroValue169
  t131 := Try.underlying164
  a131 := Try.isAgg164
  z131 := Try.sizeOf164
  v131 := Try.zeroValue164
  t182 := Try.underlying158
  a182 := Try.isAgg158
  z182 := Try.sizeOf158
  v182 := Try.zeroValue158
  t183 := Try.underlying159
  a183 := Try.isAgg159
  z183 := Try.sizeOf159
  v183 := Try.zeroValue159
  t218 := Try.underlying174
  a218 := Try.isAgg174
  z218 := Try.sizeOf174
  v218 := Try.zeroValue174
  t222 := Try.underlying178
  a222 := Try.isAgg178
  z222 := Try.sizeOf178
  v222 := Try.zeroValue178
  t228 := Try.underlying180
  a228 := Try.isAgg180
  z228 := Try.sizeOf180
  v228 := Try.zeroValue180
  t229 := Try.underlying181
  a229 := Try.isAgg181
  z229 := Try.sizeOf181
  v229 := Try.zeroValue181


def e85 : EC := .seq (.reg [⟨(some 2), none, .mv (.c .nl)⟩]) (.seq (.reg [⟨(some 4), none, .mv (.t 0)⟩, ⟨(some 5), none, .call 89 [(.t 4)]⟩, ⟨(some 3), none, .mv (.t 5)⟩]) (.seq (.reg [⟨(some 6), none, .mv (.t 3)⟩, ⟨(some 7), none, .call 112 [(.t 6)]⟩]) (.seq (.reg [⟨(some 8), none, .mv (.t 3)⟩, ⟨(some 9), none, .call 113 [(.t 8)]⟩, ⟨(some 2), none, .mv (.t 9)⟩]) (.ret))))
theorem ok85 : FnOK Try.prog 85 Try.f85 e85 [.t 2] 1 9 := ⟨by kernel_rfl, ⟨_, rfl, by kernel_rfl⟩, by kernel_rfl, by kernel_rfl⟩
noncomputable def m_set_Of (x1 : List Int) : Option (List Int) :=
  (m_slices_Clone_int x1).bind fun x2 =>
  ifb (decide (x2.length < 4611686018427387904)) (
  m_slices_Compact_int (x2.mergeSort fun x y => decide (x ≤ y))) none
theorem k_set_Of (x1 : List Int) (r : List Int) (h : m_set_Of x1 = some r) : FunP Try.prog 85 [.sl 1 (List.map intRow x1)] (.sl 1 (List.map intRow r)) := by
  refine FunP_intro ok85 rfl rfl fun w0 H0 => ?_
  rw [m_set_Of] at h
  refine V_go 100 ?_
  dsimp only [e85, go_sem, Nat.reduceBEq, Nat.reduceAdd]
  refine ⟨by simp, ?_⟩
  obtain ⟨x2, ex2, h⟩ := Option.bind_eq_some_iff.1 h
  refine V_callO trivial (o_slices_Clone_int x1 _ ex2) (by first | exact leL_refl _ | simp [go_sem]) (by first | rfl | simp [go_sem]) ?_
  refine V_go 100 ?_
  dsimp only [e85, go_sem, Nat.reduceBEq, Nat.reduceAdd]
  refine ⟨by simp, ?_⟩
  by_cases hl : x2.length < 4611686018427387904
  · rw [show decide (x2.length < 4611686018427387904) = true from decide_eq_true hl] at h
    have h : m_slices_Compact_int (x2.mergeSort fun x y => decide (x ≤ y)) = some r := h
    refine V_sort laysSort x2 trivial (by kernel_rfl) rfl rfl hl ?_
    refine V_go 100 ?_
    dsimp only [e85, go_sem, Nat.reduceBEq, Nat.reduceAdd]
    refine ⟨by simp, ?_⟩
    refine V_seal 0 rfl ?_
    dsimp only [go_sem, Nat.reduceBEq, Nat.reduceAdd]
    refine V_call trivial (k_slices_Compact_int _ _ h) (by first | exact leL_refl _ | simp [go_sem]) (by first | rfl | simp [go_sem]) ?_
    refine V_go 100 ?_
    dsimp only [e85, go_sem, Nat.reduceBEq, Nat.reduceAdd]
    refine ⟨by simp, ?_⟩
    exact M_done (res := fun (r : List Int) => .sl 1 (List.map intRow r)) ok85 rfl (by first | exact le_refl _ | simp [go_sem])
  · rw [show decide (x2.length < 4611686018427387904) = false from decide_eq_false hl] at h
    cases h
def f_set_Of (F : Nat) (x1 : List Int) : Option (List Int) :=
  (f_slices_Clone_int F x1).bind fun x2 =>
  ifb (decide (x2.length < 4611686018427387904)) (
  f_slices_Compact_int F (x2.mergeSort fun x y => decide (x ≤ y))) none
theorem le_set_Of {F : Nat} {x1 : List Int} : ole (f_set_Of F x1) (m_set_Of x1) := by
  unfold f_set_Of m_set_Of
  repeat' first | with_reducible exact ole_refl _ | intro _ | with_reducible refine ole_ifb ?_ ?_ | with_reducible refine ole_bind ?_ ?_ | with_reducible apply le_slices_Clone_int | with_reducible apply le_slices_Compact_int
end NX
end Go.Proofs.Ytadebhbiglmodaa
/-
  The function narthex/graph.Near: its code compiled, a model, and that the code answers as the model. Written by a program of ours (lb.py). No statement of the seat is proved here.
-/
namespace Go.Proofs.Ytadebhbiglmodaa
namespace NX
open Go
set_option maxRecDepth 100000
set_option maxHeartbeats 4000000
def e51_L0 : EC := .seq (.reg [⟨(some 15), none, .bin .lss (.t 14) (.t 13)⟩]) (.seq (.ite (.t 15) (.skip) (.exit 0)) (.seq (.blk 1 (.seq (.reg [⟨(some 16), none, .idx 2 (.t 12) (.t 14)⟩, ⟨(some 17), none, .loadA 2 (.t 16)⟩, ⟨(some 7), none, .alloc 58 [.iv 0, .iv 0]⟩, ⟨none, none, .store 2 (.t 7) (.t 17)⟩]) (.seq (.reg [⟨(some 18), none, .mv (.t 1)⟩]) (.blk 2 (.seq (.reg [⟨(some 20), none, .fld 0 (.t 7)⟩, ⟨(some 21), none, .load (.t 20)⟩, ⟨(some 22), none, .bin .eql (.t 18) (.t 21)⟩, ⟨(some 19), none, .mv (.t 22)⟩]) (.ite (.t 19) (.reg [⟨(some 23), none, .mv (.t 5)⟩, ⟨(some 24), none, .fld 1 (.t 7)⟩, ⟨(some 25), none, .load (.t 24)⟩, ⟨(some 26), none, .bsl 3 1 1 [.iv 0] [(0, (.t 25))]⟩, ⟨(some 27), none, .app 3 1 8 (.t 23) (.t 26)⟩, ⟨(some 5), none, .mv (.t 27)⟩]) (.seq (.reg [⟨(some 29), none, .fld 1 (.t 7)⟩, ⟨(some 30), none, .load (.t 29)⟩, ⟨(some 31), none, .bin .eql (.t 18) (.t 30)⟩, ⟨(some 28), none, .mv (.t 31)⟩]) (.ite (.t 28) (.reg [⟨(some 32), none, .mv (.t 5)⟩, ⟨(some 33), none, .fld 0 (.t 7)⟩, ⟨(some 34), none, .load (.t 33)⟩, ⟨(some 35), none, .bsl 3 1 1 [.iv 0] [(0, (.t 34))]⟩, ⟨(some 36), none, .app 3 1 8 (.t 32) (.t 35)⟩, ⟨(some 5), none, .mv (.t 36)⟩]) (.skip))))))))) (.reg [⟨(some 37), none, .bin .add (.t 14) (.c (.iv 1))⟩, ⟨(some 14), none, .mv (.t 37)⟩])))
def e51 : EC := .seq (.reg [⟨(some 2), none, .box 24 2 (.t 0)⟩, ⟨(some 4), none, .mv (.c .nl)⟩]) (.seq (.seq (.reg [⟨(some 8), none, .loadA 2 (.t 2)⟩, ⟨(some 9), none, .call 49 [(.t 8)]⟩, ⟨(some 10), none, .bin .neq (.t 9) (.c (.iv 0))⟩]) (.ite (.t 10) (.seq (.reg [⟨(some 4), none, .mv (.c .nl)⟩]) (.ret)) (.skip))) (.seq (.reg [⟨(some 5), none, .mv (.c .nl)⟩]) (.seq (.seq (.reg [⟨(some 11), none, .fld 1 (.t 2)⟩, ⟨(some 12), none, .load (.t 11)⟩, ⟨(some 13), none, .len (.t 12)⟩, ⟨(some 14), none, .mv (.c (.iv 0))⟩]) (.blk 0 (.loop e51_L0))) (.seq (.reg [⟨(some 38), none, .mv (.t 5)⟩, ⟨(some 39), none, .call 85 [(.t 38)]⟩, ⟨(some 4), none, .mv (.t 39)⟩]) (.ret)))))
theorem ok51 : FnOK Try.prog 51 Try.f51 e51 [.t 4] 2 38 := ⟨by kernel_rfl, ⟨_, rfl, by kernel_rfl⟩, by kernel_rfl, by kernel_rfl⟩
/- narthex/graph.Near -/
noncomputable def m_graph_Near_j1  : (List Int) → Option (List Int)
| x23 =>
 (m_set_Of x23).bind fun x24 =>
 some x24
noncomputable def m_graph_Near_j2 (x10 : Int) : (List Int) → Option ((Int × (List Int)) ⊕ (List Int))
| x15 =>
 some (.inl (wr (x10 + 1), x15))
noncomputable def m_graph_Near_l1 (x1 : Graph) (x2 : Int) : (Int × (List Int)) → Option ((Int × (List Int)) ⊕ (List Int))
| (x10, x11) =>
 ifb (decide (x10 < (ln Edge.row x1.Edges))) (
 (at_ x1.Edges x10).bind fun x12 =>
 ifb (decide (x2 = x12.A)) (
 (app_ 8 x11 ([x12.B])).bind fun x13 =>
 (m_graph_Near_j2 x10) x13) (
 ifb (decide (x2 = x12.B)) (
 (app_ 8 x11 ([x12.A])).bind fun x14 =>
 (m_graph_Near_j2 x10) x14) (
 (m_graph_Near_j2 x10) x11))) (
 Option.map Sum.inr (m_graph_Near_j1 x11))
noncomputable def m_graph_Near (x1 : Graph) (x2 : Int) : Option (List Int) :=
 (m_graph_Check x1).bind fun x3 =>
 ifb (!decide (x3 = 0)) (
 some ([] : (List Int))) (
 loop (m_graph_Near_l1 x1 x2) (0, ([] : List Int)))
theorem k_graph_Near (x1 : Graph) (x2 : Int) (r : (List Int)) (h : m_graph_Near x1 x2 = some r) : FunP Try.prog 51 [.agg (Graph.row x1), .iv x2] (.sl 1 (List.map intRow r)) := by
  refine FunP_intro ok51 rfl rfl fun w0 H0 => ?_
  rw [m_graph_Near] at h
  refine V_go 9 ?_; dsimp only [e51, e51_L0, go_sem, Nat.reduceBEq, Nat.reduceAdd]; refine ⟨by simp, ?_⟩; obtain ⟨x3, ex3, h⟩ := Option.bind_eq_some_iff.1 h; refine V_call trivial (k_graph_Check x1 _ ex3) (h := ?_); refine V_go 2 ?_; dsimp only [e51, e51_L0, go_sem, Nat.reduceBEq, Nat.reduceAdd]; refine ⟨by simp, ?_⟩; refine M_ite h rfl (fun _ h => ?_) fun _ h => ?_
  ·refine V_go 4 ?_; dsimp only [e51, e51_L0, go_sem, Nat.reduceBEq, Nat.reduceAdd]; refine ⟨by simp, ?_⟩; exact M_done (res := fun (r : (List Int)) => .sl 1 (List.map intRow r)) ok51 h
  ·refine V_go 13 ?_; dsimp only [e51, e51_L0, go_sem, Nat.reduceBEq, Nat.reduceAdd]; refine ⟨by simp, ?_⟩; refine V_join (fun (x23 : (List Int)) => (⟨(an 5 (.osl 0 :: an 34 [])), [], [some ⟨3, 1, List.map intRow x23⟩]⟩ : St)) m_graph_Near_j1 r ?_ fun J1 => ?_
   ·intro x23 h; rw [m_graph_Near_j1] at h; (try dsimp only); refine V_go 3 ?_; dsimp only [e51, e51_L0, go_sem, Nat.reduceBEq, Nat.reduceAdd]; refine ⟨by simp, ?_⟩; refine V_seal 0 rfl ?_; dsimp only [go_sem, Nat.reduceBEq, Nat.reduceAdd]; obtain ⟨x24, ex24, h⟩ := Option.bind_eq_some_iff.1 h; refine V_call trivial (k_set_Of x23 _ ex24) (h := ?_); refine V_go 2 ?_; dsimp only [e51, e51_L0, go_sem, Nat.reduceBEq, Nat.reduceAdd]; refine ⟨by simp, ?_⟩; exact M_done (res := fun (r : (List Int)) => .sl 1 (List.map intRow r)) ok51 h
   ·refine V_go 1 ?_; dsimp only [e51, e51_L0, go_sem, Nat.reduceBEq, Nat.reduceAdd]; refine ⟨by simp, ?_⟩; refine V_own 5 3 1 rfl rfl ?_; dsimp only [go_sem, Nat.reduceBEq, Nat.reduceAdd]; refine M_loop h (fun ((x10, x11) : (Int × (List Int))) => (⟨(.any :: .iv x2 :: an 3 (.osl 0 :: an 6 (.sl 2 (List.map Edge.row x1.Edges) :: .iv (ln Edge.row x1.Edges) :: .iv x10 :: an 25 []))), [], [some ⟨3, 1, List.map intRow x11⟩]⟩ : St)) (by simp [go_sem]) (by rintro ⟨x10, x11⟩; first | rfl | simp [go_sem]) ?_; rintro n1 ⟨x10, x11⟩ y1 h hin1 hout1; rw [m_graph_Near_l1] at h; (try dsimp only)
    refine V_go 5 ?_; dsimp only [e51, e51_L0, go_sem, Nat.reduceBEq, Nat.reduceAdd]; refine ⟨by simp, ?_⟩; refine M_ite h rfl (fun _ h => ?_) fun _ h => ?_
    ·refine V_go 5 ?_; dsimp only [e51, e51_L0, go_sem, Nat.reduceBEq, Nat.reduceAdd]; refine ⟨by simp, ?_⟩; obtain ⟨x12, ex12, h⟩ := Option.bind_eq_some_iff.1 h; refine V_idxM Edge.row ex12 trivial rfl rfl rfl ?_; refine V_go 16 ?_; dsimp only [e51, e51_L0, go_sem, Nat.reduceBEq, Nat.reduceAdd]; refine ⟨by simp, ?_⟩; refine V_join (fun (x15 : (List Int)) => (⟨(.any :: .iv x2 :: an 3 (.osl 0 :: an 6 (.sl 2 (List.map Edge.row x1.Edges) :: .iv (ln Edge.row x1.Edges) :: .iv x10 :: an 25 []))), [], [some ⟨3, 1, List.map intRow x15⟩]⟩ : St)) (m_graph_Near_j2 x10) y1 ?_ fun J2 => ?_
     ·intro x15 h; rw [m_graph_Near_j2] at h; (try dsimp only); refine V_go 6 ?_; dsimp only [e51, e51_L0, go_sem, Nat.reduceBEq, Nat.reduceAdd]; refine ⟨by simp, ?_⟩; exact M_back h hin1
     ·refine M_ite h rfl (fun _ h => ?_) fun _ h => ?_
      ·refine V_go 5 ?_; dsimp only [e51, e51_L0, go_sem, Nat.reduceBEq, Nat.reduceAdd]; refine ⟨by simp, ?_⟩; obtain ⟨x13, ex13, h⟩ := Option.bind_eq_some_iff.1 h; refine V_appM intRow ex13 trivial rfl rfl rfl ?_; refine V_go 2 ?_; dsimp only [e51, e51_L0, go_sem, Nat.reduceBEq, Nat.reduceAdd]; refine ⟨by simp, ?_⟩; refine V_ren 2 0 rfl rfl rfl ?_; dsimp only [go_sem, Nat.reduceBEq, Nat.reduceAdd]; exact M_to J2 (s := x13) h
      ·refine V_go 7 ?_; dsimp only [e51, e51_L0, go_sem, Nat.reduceBEq, Nat.reduceAdd]; refine ⟨by simp, ?_⟩; refine M_ite h rfl (fun _ h => ?_) fun _ h => ?_
       ·refine V_go 5 ?_; dsimp only [e51, e51_L0, go_sem, Nat.reduceBEq, Nat.reduceAdd]; refine ⟨by simp, ?_⟩; obtain ⟨x14, ex14, h⟩ := Option.bind_eq_some_iff.1 h; refine V_appM intRow ex14 trivial rfl rfl rfl ?_; refine V_go 2 ?_; dsimp only [e51, e51_L0, go_sem, Nat.reduceBEq, Nat.reduceAdd]; refine ⟨by simp, ?_⟩; refine V_ren 2 0 rfl rfl rfl ?_; dsimp only [go_sem, Nat.reduceBEq, Nat.reduceAdd]; exact M_to J2 (s := x14) h
       ·refine V_go 1 ?_; dsimp only [e51, e51_L0, go_sem, Nat.reduceBEq, Nat.reduceAdd]; refine ⟨by simp, ?_⟩; exact M_to J2 (s := x11) h
    ·refine V_go 1 ?_; dsimp only [e51, e51_L0, go_sem, Nat.reduceBEq, Nat.reduceAdd]; refine ⟨by simp, ?_⟩; exact M_to J1 (s := x11) (M_out h hout1)
def f_graph_Near_j1 (F : Nat)  : (List Int) → Option (List Int)
| x23 =>
 (f_set_Of F x23).bind fun x24 =>
 some x24
theorem le_graph_Near_j1 {F : Nat} : ∀ s, ole (f_graph_Near_j1 F s) (m_graph_Near_j1 s) := by
  intro x23
  unfold f_graph_Near_j1 m_graph_Near_j1
  try dsimp only
  with_reducible repeat' first | exact ole_refl _ | assumption | intro _ | refine ole_ifb ?_ ?_ | refine ole_bind ?_ ?_ | refine ole_map ?_ | refine ole_loop ?_ | apply le_set_Of
def f_graph_Near_j2 (_F : Nat) (x10 : Int) : (List Int) → Option ((Int × (List Int)) ⊕ (List Int))
| x15 =>
 some (.inl (wr (x10 + 1), x15))
theorem le_graph_Near_j2 {F : Nat} {x10 : Int} : ∀ s, ole (f_graph_Near_j2 F x10 s) (m_graph_Near_j2 x10 s) := by
  intro x15
  unfold f_graph_Near_j2 m_graph_Near_j2
  try dsimp only
  with_reducible repeat' first | exact ole_refl _ | assumption | intro _ | refine ole_ifb ?_ ?_ | refine ole_bind ?_ ?_ | refine ole_map ?_ | refine ole_loop ?_ | apply le_set_Of | apply le_graph_Near_j1
def f_graph_Near_l1 (F : Nat) (x1 : Graph) (x2 : Int) : (Int × (List Int)) → Option ((Int × (List Int)) ⊕ (List Int))
| (x10, x11) =>
 ifb (decide (x10 < (ln Edge.row x1.Edges))) (
 (at_ x1.Edges x10).bind fun x12 =>
 ifb (decide (x2 = x12.A)) (
 (app_ 8 x11 ([x12.B])).bind fun x13 =>
 (f_graph_Near_j2 F x10) x13) (
 ifb (decide (x2 = x12.B)) (
 (app_ 8 x11 ([x12.A])).bind fun x14 =>
 (f_graph_Near_j2 F x10) x14) (
 (f_graph_Near_j2 F x10) x11))) (
 Option.map Sum.inr (f_graph_Near_j1 F x11))
theorem le_graph_Near_l1 {F : Nat} {x1 : Graph} {x2 : Int} : ∀ s, ole (f_graph_Near_l1 F x1 x2 s) (m_graph_Near_l1 x1 x2 s) := by
  rintro ⟨x10, x11⟩
  unfold f_graph_Near_l1 m_graph_Near_l1
  try dsimp only
  with_reducible repeat' first | exact ole_refl _ | assumption | intro _ | refine ole_ifb ?_ ?_ | refine ole_bind ?_ ?_ | refine ole_map ?_ | refine ole_loop ?_ | apply le_set_Of | apply le_graph_Near_j1 | apply le_graph_Near_j2
def f_graph_Near (F : Nat) (x1 : Graph) (x2 : Int) : Option (List Int) :=
 (f_graph_Check F x1).bind fun x3 =>
 ifb (!decide (x3 = 0)) (
 some ([] : (List Int))) (
 loopF F (f_graph_Near_l1 F x1 x2) (0, ([] : List Int)))
theorem le_graph_Near {F : Nat} {x1 : Graph} {x2 : Int} : ole (f_graph_Near F x1 x2) (m_graph_Near x1 x2) := by
  unfold f_graph_Near m_graph_Near
  with_reducible repeat' first | exact ole_refl _ | assumption | intro _ | refine ole_ifb ?_ ?_ | refine ole_bind ?_ ?_ | refine ole_map ?_ | refine ole_loop ?_ | apply le_set_Of | apply le_graph_Near_j1 | apply le_graph_Near_j2 | apply le_graph_Near_l1 | apply le_graph_Check
end NX
end Go.Proofs.Ytadebhbiglmodaa
/-
  The function narthex/colour.Round$2: its code compiled, a model, and that the code answers as the model. Written by a program of ours (lb.py). No statement of the seat is proved here.
-/
namespace Go.Proofs.Ytadebhbiglmodaa
namespace NX
open Go
set_option maxRecDepth 100000
set_option maxHeartbeats 4000000
def e90 : EC := .seq (.reg [⟨(some 4), none, .mv (.c .ff)⟩]) (.seq (.reg [⟨(some 5), none, .load (.t 1)⟩, ⟨(some 6), none, .mv (.t 0)⟩, ⟨(some 7), none, .idx 1 (.t 5) (.t 6)⟩, ⟨(some 8), none, .load (.t 7)⟩, ⟨(some 9), none, .bin .eql (.t 8) (.c (.iv 0))⟩, ⟨(some 10), none, .mv (.t 9)⟩, ⟨(some 11), (some (10, true)), .mv (.t 0)⟩, ⟨(some 12), (some (10, true)), .load (.t 2)⟩, ⟨(some 13), (some (10, true)), .bin .gtr (.t 11) (.t 12)⟩, ⟨(some 14), none, .pick (.t 10) (.t 13) (.c .ff)⟩, ⟨(some 4), none, .mv (.t 14)⟩]) (.ret))
theorem ok90 : FnOK Try.prog 90 Try.f90 e90 [.t 4] 3 12 := ⟨by kernel_rfl, ⟨_, rfl, by kernel_rfl⟩, by kernel_rfl, by kernel_rfl⟩
/- narthex/colour.Round$2 -/
noncomputable def m_colour_Round_2_j1  : Bool → Option Bool
| x5 =>
 some x5
noncomputable def m_colour_Round_2 (x1 : Int) (x2 : (List Int)) (x3 : Int) : Option Bool :=
 (at_ x2 x1).bind fun x4 =>
 ifb (decide (x4 = 0)) (
 m_colour_Round_2_j1 (decide (x3 < x1))) (
 m_colour_Round_2_j1 false)
theorem k_colour_Round_2 (x1 : Int) (x2 : (List Int)) (x3 : Int) (r : Bool) (h : m_colour_Round_2 x1 x2 x3 = some r) : FunP Try.prog 90 [.iv x1, .elt ((slRow 1 intRow) x2) 0, .elt (intRow x3) 0] (.bv r) := by
  refine FunP_intro ok90 rfl rfl fun w0 H0 => ?_
  rw [m_colour_Round_2] at h
  refine V_go 8 ?_; dsimp only [e90, go_sem, Nat.reduceBEq, Nat.reduceAdd]; refine ⟨by simp, ?_⟩; obtain ⟨x4, ex4, h⟩ := Option.bind_eq_some_iff.1 h; refine V_idxM intRow ex4 trivial rfl rfl rfl ?_; refine V_go 3 ?_; dsimp only [e90, go_sem, Nat.reduceBEq, Nat.reduceAdd]; refine ⟨by simp, ?_⟩; refine V_join (fun (x5 : Bool) => (⟨(an 4 (.bv x5 :: an 10 [])), [], []⟩ : St)) m_colour_Round_2_j1 r ?_ fun J1 => ?_
  ·intro x5 h; rw [m_colour_Round_2_j1] at h; (try dsimp only); exact M_done (res := fun (r : Bool) => .bv r) ok90 h
  ·refine M_case 10 h rfl (fun _ h => ?_) fun _ h => ?_
   ·dsimp only [go_sem, Nat.reduceBEq, Nat.reduceAdd]; refine V_go 6 ?_; dsimp only [e90, go_sem, Nat.reduceBEq, Nat.reduceAdd]; refine ⟨by simp, ?_⟩; exact M_to J1 (s := decide (x3 < x1)) h
   ·dsimp only [go_sem, Nat.reduceBEq, Nat.reduceAdd]; refine V_go 6 ?_; dsimp only [e90, go_sem, Nat.reduceBEq, Nat.reduceAdd]; refine ⟨by simp, ?_⟩; exact M_to J1 (s := false) h
def f_colour_Round_2_j1 (_F : Nat)  : Bool → Option Bool
| x5 =>
 some x5
theorem le_colour_Round_2_j1 {F : Nat} : ∀ s, ole (f_colour_Round_2_j1 F s) (m_colour_Round_2_j1 s) := by
  intro x5
  unfold f_colour_Round_2_j1 m_colour_Round_2_j1
  try dsimp only
  with_reducible repeat' first | exact ole_refl _ | assumption | intro _ | refine ole_ifb ?_ ?_ | refine ole_bind ?_ ?_ | refine ole_map ?_ | refine ole_loop ?_
def f_colour_Round_2 (F : Nat) (x1 : Int) (x2 : (List Int)) (x3 : Int) : Option Bool :=
 (at_ x2 x1).bind fun x4 =>
 ifb (decide (x4 = 0)) (
 f_colour_Round_2_j1 F (decide (x3 < x1))) (
 f_colour_Round_2_j1 F false)
theorem le_colour_Round_2 {F : Nat} {x1 : Int} {x2 : (List Int)} {x3 : Int} : ole (f_colour_Round_2 F x1 x2 x3) (m_colour_Round_2 x1 x2 x3) := by
  unfold f_colour_Round_2 m_colour_Round_2
  with_reducible repeat' first | exact ole_refl _ | assumption | intro _ | refine ole_ifb ?_ ?_ | refine ole_bind ?_ ?_ | refine ole_map ?_ | refine ole_loop ?_ | apply le_colour_Round_2_j1
end NX
end Go.Proofs.Ytadebhbiglmodaa
/-
  The function narthex/colour.Round$3: its code compiled, a model, and that the code answers as the model. Written by a program of ours (lb.py). No statement of the seat is proved here.
-/
namespace Go.Proofs.Ytadebhbiglmodaa
namespace NX
open Go
set_option maxRecDepth 100000
set_option maxHeartbeats 4000000
def e91 : EC := .seq (.reg [⟨(some 5), none, .mv (.c .ff)⟩]) (.seq (.drw [⟨(some 6), none, .load (.t 1)⟩, ⟨(some 7), none, .mv (.t 0)⟩, ⟨(some 8), none, .idx 1 (.t 6) (.t 7)⟩, ⟨(some 9), none, .load (.t 8)⟩, ⟨(some 10), none, .load (.t 2)⟩, ⟨(some 11), none, .load (.t 3)⟩, ⟨(some 12), none, .idx 1 (.t 10) (.t 11)⟩, ⟨(some 13), none, .load (.t 12)⟩, ⟨(some 14), none, .bin .eql (.t 9) (.t 13)⟩, ⟨(some 5), none, .mv (.t 14)⟩] [[], [], [0, 1], [2], [], [], [4, 5], [6], [3, 7], [8, 0, 1, 2, 3, 4, 5, 6, 7, 8]] [[2], [2], [0, 1, 3], [2, 8], [6], [6], [4, 5, 7], [6, 8], [3, 7, 9], [8]]) (.ret))
theorem ok91 : FnOK Try.prog 91 Try.f91 e91 [.t 5] 4 11 := ⟨by kernel_rfl, ⟨_, rfl, by kernel_rfl⟩, by kernel_rfl, by kernel_rfl⟩
/- narthex/colour.Round$3 -/
noncomputable def m_colour_Round_3 (x1 : Int) (x2 : (List Int)) (x3 : (List Int)) (x4 : Int) : Option Bool :=
 (at_ x2 x1).bind fun x5 =>
 (at_ x3 x4).bind fun x6 =>
 some (decide (x5 = x6))
theorem k_colour_Round_3 (x1 : Int) (x2 : (List Int)) (x3 : (List Int)) (x4 : Int) (r : Bool) (h : m_colour_Round_3 x1 x2 x3 x4 = some r) : FunP Try.prog 91 [.iv x1, .elt ((slRow 1 intRow) x2) 0, .elt ((slRow 1 intRow) x3) 0, .elt (intRow x4) 0] (.bv r) := by
  refine FunP_intro ok91 rfl rfl fun w0 H0 => ?_
  rw [m_colour_Round_3] at h
  refine V_go 5 ?_; dsimp only [e91, go_sem, Nat.reduceBEq, Nat.reduceAdd]; refine ⟨by simp, ?_⟩; refine V_drw (by kernel_rfl) fun all hall hs hnap haf => ?_; dsimp only [go_sem, Nat.reduceBEq, Nat.reduceAdd]; refine G_goN hall hs haf hnap 4 6 ?_; dsimp only [go_sem, Nat.reduceBEq, Nat.reduceAdd]; refine ⟨by simp, ?_⟩; obtain ⟨x5, ex5, h⟩ := Option.bind_eq_some_iff.1 h; refine G_idxM hall hs haf hnap 2 intRow ex5 rfl rfl trivial rfl rfl rfl rfl ?_; refine G_goN hall hs haf hnap 1 4 ?_; dsimp only [go_sem, Nat.reduceBEq, Nat.reduceAdd]; refine ⟨by simp, ?_⟩
  obtain ⟨x6, ex6, h⟩ := Option.bind_eq_some_iff.1 h; refine G_idxM hall hs haf hnap 6 intRow ex6 rfl rfl trivial rfl rfl rfl rfl ?_; refine G_goN hall hs haf hnap 3 0 ?_; dsimp only [go_sem, Nat.reduceBEq, Nat.reduceAdd]; refine ⟨by simp, ?_⟩; refine G_done rfl ?_ _; exact M_done (res := fun (r : Bool) => .bv r) ok91 h
def f_colour_Round_3 (_F : Nat) (x1 : Int) (x2 : (List Int)) (x3 : (List Int)) (x4 : Int) : Option Bool :=
 (at_ x2 x1).bind fun x5 =>
 (at_ x3 x4).bind fun x6 =>
 some (decide (x5 = x6))
theorem le_colour_Round_3 {F : Nat} {x1 : Int} {x2 : (List Int)} {x3 : (List Int)} {x4 : Int} : ole (f_colour_Round_3 F x1 x2 x3 x4) (m_colour_Round_3 x1 x2 x3 x4) := by
  unfold f_colour_Round_3 m_colour_Round_3
  with_reducible repeat' first | exact ole_refl _ | assumption | intro _ | refine ole_ifb ?_ ?_ | refine ole_bind ?_ ?_ | refine ole_map ?_ | refine ole_loop ?_
end NX
end Go.Proofs.Ytadebhbiglmodaa
/-
  The function narthex/colour.Round: its code compiled, a model, and that the code answers as the model. Written by a program of ours (lb.py). No statement of the seat is proved here.
-/
namespace Go.Proofs.Ytadebhbiglmodaa
namespace NX
open Go
set_option maxRecDepth 100000
set_option maxHeartbeats 4000000
def e65_L1 : EC := .seq (.seq (.reg [⟨(some 47), none, .mv (.t 9)⟩, ⟨(some 48), none, .mkf 91 [(.t 3), (.t 7), (.t 8)]⟩, ⟨(some 49), none, .call 82 [(.t 47), (.t 48)]⟩]) (.ite (.t 49) (.skip) (.exit 2))) (.blk 3 (.reg [⟨(some 50), none, .load (.t 7)⟩, ⟨(some 51), none, .load (.t 8)⟩, ⟨(some 52), none, .idx 1 (.t 50) (.t 51)⟩, ⟨(some 53), none, .load (.t 52)⟩, ⟨(some 54), none, .bin .add (.t 53) (.c (.iv 1))⟩, ⟨(some 55), none, .idx 1 (.t 50) (.t 51)⟩, ⟨none, none, .store 1 (.t 55) (.t 54)⟩]))
def e65_L0 : EC := .seq (.reg [⟨(some 29), none, .bin .lss (.t 28) (.t 27)⟩]) (.seq (.ite (.t 29) (.skip) (.exit 0)) (.seq (.blk 1 (.seq (.reg [⟨(some 30), none, .mv (.t 28)⟩, ⟨(some 8), none, .alloc 3 [.iv 0]⟩, ⟨none, none, .store 1 (.t 8) (.t 30)⟩]) (.seq (.reg [⟨(some 31), none, .loadA 2 (.t 2)⟩, ⟨(some 32), none, .load (.t 8)⟩, ⟨(some 33), none, .call 51 [(.t 31), (.t 32)]⟩, ⟨(some 9), none, .mv (.t 33)⟩]) (.seq (.seq (.reg [⟨(some 34), none, .load (.t 3)⟩, ⟨(some 35), none, .load (.t 8)⟩, ⟨(some 36), none, .idx 1 (.t 34) (.t 35)⟩, ⟨(some 37), none, .load (.t 36)⟩, ⟨(some 38), none, .bin .neq (.t 37) (.c (.iv 0))⟩, ⟨(some 39), none, .mv (.t 38)⟩, ⟨(some 40), (some (39, false)), .mv (.t 9)⟩, ⟨(some 41), (some (39, false)), .mkf 90 [(.t 3), (.t 8)]⟩, ⟨(some 42), (some (39, false)), .call 82 [(.t 40), (.t 41)]⟩, ⟨(some 43), none, .pick (.t 39) (.c .tt) (.t 42)⟩]) (.ite (.t 43) (.exit 1) (.skip))) (.seq (.reg [⟨(some 44), none, .load (.t 7)⟩, ⟨(some 45), none, .load (.t 8)⟩, ⟨(some 46), none, .idx 1 (.t 44) (.t 45)⟩, ⟨none, none, .store 1 (.t 46) (.c (.iv 1))⟩]) (.blk 2 (.loop e65_L1))))))) (.reg [⟨(some 56), none, .bin .add (.t 28) (.c (.iv 1))⟩, ⟨(some 28), none, .mv (.t 56)⟩])))
def e65 : EC := .seq (.reg [⟨(some 2), none, .box 24 2 (.t 0)⟩, ⟨(some 3), none, .box 25 1 (.t 1)⟩, ⟨(some 4), none, .mv (.c .nl)⟩, ⟨(some 5), none, .mv (.c (.iv 0))⟩]) (.seq (.seq (.reg [⟨(some 10), none, .loadA 2 (.t 2)⟩, ⟨(some 11), none, .call 49 [(.t 10)]⟩, ⟨(some 6), none, .mv (.t 11)⟩]) (.seq (.reg [⟨(some 12), none, .mv (.t 6)⟩, ⟨(some 13), none, .bin .neq (.t 12) (.c (.iv 0))⟩]) (.ite (.t 13) (.seq (.reg [⟨(some 14), none, .mv (.t 6)⟩, ⟨(some 4), none, .mv (.c .nl)⟩, ⟨(some 5), none, .mv (.t 14)⟩]) (.ret)) (.skip)))) (.seq (.seq (.reg [⟨(some 15), none, .load (.t 3)⟩, ⟨(some 16), none, .len (.t 15)⟩, ⟨(some 17), none, .fld 0 (.t 2)⟩, ⟨(some 18), none, .load (.t 17)⟩, ⟨(some 19), none, .bin .neq (.t 16) (.t 18)⟩, ⟨(some 20), none, .mv (.t 19)⟩, ⟨(some 21), (some (20, false)), .load (.t 3)⟩, ⟨(some 22), (some (20, false)), .call 82 [(.t 21), (.c (.clo 88 []))]⟩, ⟨(some 23), none, .pick (.t 20) (.c .tt) (.t 22)⟩]) (.ite (.t 23) (.seq (.reg [⟨(some 4), none, .mv (.c .nl)⟩, ⟨(some 5), none, .mv (.c (.iv 110))⟩]) (.ret)) (.skip))) (.seq (.reg [⟨(some 24), none, .load (.t 3)⟩, ⟨(some 25), none, .call 89 [(.t 24)]⟩, ⟨(some 7), none, .alloc 25 [.nl]⟩, ⟨none, none, .store 1 (.t 7) (.t 25)⟩]) (.seq (.seq (.reg [⟨(some 26), none, .fld 0 (.t 2)⟩, ⟨(some 27), none, .load (.t 26)⟩, ⟨(some 28), none, .mv (.c (.iv 0))⟩]) (.blk 0 (.loop e65_L0))) (.seq (.reg [⟨(some 57), none, .load (.t 7)⟩, ⟨(some 4), none, .mv (.t 57)⟩, ⟨(some 5), none, .mv (.c (.iv 0))⟩]) (.ret))))))
theorem ok65 : FnOK Try.prog 65 Try.f65 e65 [.t 4, .t 5] 2 56 := ⟨by kernel_rfl, ⟨_, rfl, by kernel_rfl⟩, by kernel_rfl, by kernel_rfl⟩
/- narthex/colour.Round -/
noncomputable def m_colour_Round_j2  : (List Int) → Option ((List Int) × Int)
| x54 =>
 some (x54, 0)
noncomputable def m_colour_Round_j3 (x26 : Int) : (List Int) → Option ((Int × (List Int)) ⊕ ((List Int) × Int))
| x46 =>
 some (.inl (wr (x26 + 1), x46))
noncomputable def m_colour_Round_l2 (x2 : (List Int)) (x26 : Int) (x28 : (List Int)) : (List Int) → Option ((List Int) ⊕ ((Int × (List Int)) ⊕ ((List Int) × Int)))
| x35 =>
 (m_slices_ContainsFunc_int x28 ((fun z => m_colour_Round_3 z x2 x35 x26))).bind fun x36 =>
 ifb x36 (
 (at_ x35 x26).bind fun x37 =>
 some (.inl (x35.set (x26).toNat (wr (x37 + 1))))) (
 Option.map Sum.inr ((m_colour_Round_j3 x26) x35))
noncomputable def m_colour_Round_j4 (x2 : (List Int)) (x26 : Int) (x27 : (List Int)) (x28 : (List Int)) : Bool → Option ((Int × (List Int)) ⊕ ((List Int) × Int))
| x31 =>
 ifb x31 (
 (m_colour_Round_j3 x26) x27) (
 (at_ x27 x26).bind fun x32 =>
 loop (m_colour_Round_l2 x2 x26 x28) (x27.set (x26).toNat 1))
noncomputable def m_colour_Round_l1 (x1 : Graph) (x2 : (List Int)) : (Int × (List Int)) → Option ((Int × (List Int)) ⊕ ((List Int) × Int))
| (x26, x27) =>
 ifb (decide (x26 < x1.N)) (
 (m_graph_Near x1 x26).bind fun x28 =>
 (at_ x2 x26).bind fun x29 =>
 ifb (!decide (x29 = 0)) (
 (m_colour_Round_j4 x2 x26 x27 x28) true) (
 (m_slices_ContainsFunc_int x28 ((fun z => m_colour_Round_2 z x2 x26))).bind fun x30 =>
 (m_colour_Round_j4 x2 x26 x27 x28) x30)) (
 Option.map Sum.inr (m_colour_Round_j2 x27))
noncomputable def m_colour_Round_j1 (x1 : Graph) (x2 : (List Int)) : Bool → Option ((List Int) × Int)
| x5 =>
 ifb x5 (
 some (([] : (List Int)), 110)) (
 (m_slices_Clone_int x2).bind fun x6 =>
 loop (m_colour_Round_l1 x1 x2) (0, x6))
noncomputable def m_colour_Round (x1 : Graph) (x2 : (List Int)) : Option ((List Int) × Int) :=
 (m_graph_Check x1).bind fun x3 =>
 ifb (!decide (x3 = 0)) (
 some (([] : (List Int)), x3)) (
 ifb (!decide ((ln intRow x2) = x1.N)) (
 (m_colour_Round_j1 x1 x2) true) (
 (m_slices_ContainsFunc_int x2 ((fun z => m_colour_Round_1 z))).bind fun x4 =>
 (m_colour_Round_j1 x1 x2) x4))
theorem k_colour_Round (x1 : Graph) (x2 : (List Int)) (r : ((List Int) × Int)) (h : m_colour_Round x1 x2 = some r) : FunP Try.prog 65 [.agg (Graph.row x1), .sl 1 (List.map intRow x2)] (.tup [.sl 1 (List.map intRow r.1), .iv r.2]) := by
  refine FunP_intro ok65 rfl rfl fun w0 H0 => ?_
  rw [m_colour_Round] at h
  refine V_go 11 ?_; dsimp only [e65, e65_L0, e65_L1, go_sem, Nat.reduceBEq, Nat.reduceAdd]; refine ⟨by simp, ?_⟩; obtain ⟨x3, ex3, h⟩ := Option.bind_eq_some_iff.1 h; refine V_call trivial (k_graph_Check x1 _ ex3) (h := ?_); refine V_go 7 ?_; dsimp only [e65, e65_L0, e65_L1, go_sem, Nat.reduceBEq, Nat.reduceAdd]; refine ⟨by simp, ?_⟩; refine M_ite h rfl (fun _ h => ?_) fun _ h => ?_
  ·refine V_go 6 ?_; dsimp only [e65, e65_L0, e65_L1, go_sem, Nat.reduceBEq, Nat.reduceAdd]; refine ⟨by simp, ?_⟩; exact M_done (res := fun (r : ((List Int) × Int)) => .tup [.sl 1 (List.map intRow r.1), .iv r.2]) ok65 h
  ·refine V_go 10 ?_; dsimp only [e65, e65_L0, e65_L1, go_sem, Nat.reduceBEq, Nat.reduceAdd]; refine ⟨by simp, ?_⟩; refine V_join (fun (x5 : Bool) => (⟨(.any :: .any :: .ptr 0 0 :: .ptr 1 0 :: an 19 (.bv x5 :: an 34 [])), [some ⟨24, [.iv x1.N, .sl 2 (List.map Edge.row x1.Edges)]⟩, some ⟨25, [.sl 1 (List.map intRow x2)]⟩], []⟩ : St)) (m_colour_Round_j1 x1 x2) r ?_ fun J1 => ?_
   ·intro x5 h; rw [m_colour_Round_j1] at h; (try dsimp only); refine M_ite h rfl (fun _ h => ?_) fun _ h => ?_
    ·refine V_go 5 ?_; dsimp only [e65, e65_L0, e65_L1, go_sem, Nat.reduceBEq, Nat.reduceAdd]; refine ⟨by simp, ?_⟩; exact M_done (res := fun (r : ((List Int) × Int)) => .tup [.sl 1 (List.map intRow r.1), .iv r.2]) ok65 h
    ·refine V_go 4 ?_; dsimp only [e65, e65_L0, e65_L1, go_sem, Nat.reduceBEq, Nat.reduceAdd]; refine ⟨by simp, ?_⟩; obtain ⟨x6, ex6, h⟩ := Option.bind_eq_some_iff.1 h; refine V_callO trivial (o_slices_Clone_int x2 _ ex6) (h := ?_); refine V_go 10 ?_; dsimp only [e65, e65_L0, e65_L1, go_sem, Nat.reduceBEq, Nat.reduceAdd]; refine ⟨by simp, ?_⟩; refine V_join (fun (x54 : (List Int)) => (⟨(an 7 (.ptr 2 0 :: an 50 [])), [none, none, some ⟨25, [.osl 0]⟩], [some ⟨3, 1, List.map intRow x54⟩]⟩ : St)) m_colour_Round_j2 r ?_ fun J2 => ?_
     ·intro x54 h; rw [m_colour_Round_j2] at h; (try dsimp only); refine V_go 6 ?_; dsimp only [e65, e65_L0, e65_L1, go_sem, Nat.reduceBEq, Nat.reduceAdd]; refine ⟨by simp, ?_⟩; refine V_seal 0 rfl ?_; dsimp only [go_sem, Nat.reduceBEq, Nat.reduceAdd]; exact M_done (res := fun (r : ((List Int) × Int)) => .tup [.sl 1 (List.map intRow r.1), .iv r.2]) ok65 h
     ·refine V_go 1 ?_; dsimp only [e65, e65_L0, e65_L1, go_sem, Nat.reduceBEq, Nat.reduceAdd]; refine ⟨by simp, ?_⟩; refine M_loop h (fun ((x26, x27) : (Int × (List Int))) => (⟨(.any :: .any :: .ptr 0 0 :: .ptr 1 0 :: an 3 (.ptr 2 0 :: an 19 (.iv x1.N :: .iv x26 :: an 29 []))), [some ⟨24, [.iv x1.N, .sl 2 (List.map Edge.row x1.Edges)]⟩, some ⟨25, [.sl 1 (List.map intRow x2)]⟩, some ⟨25, [.osl 0]⟩], [some ⟨3, 1, List.map intRow x27⟩]⟩ : St)) (by simp [go_sem]) (by rintro ⟨x26, x27⟩; first | rfl | simp [go_sem]) ?_; rintro n1 ⟨x26, x27⟩ y1 h hin1 hout1; rw [m_colour_Round_l1] at h
      (try dsimp only); refine V_go 5 ?_; dsimp only [e65, e65_L0, e65_L1, go_sem, Nat.reduceBEq, Nat.reduceAdd]; refine ⟨by simp, ?_⟩; refine M_ite h rfl (fun _ h => ?_) fun _ h => ?_
      ·refine V_go 2 ?_; dsimp only [e65, e65_L0, e65_L1, go_sem, Nat.reduceBEq, Nat.reduceAdd]; refine ⟨by simp, ?_⟩; refine V_join (fun (x46 : (List Int)) => (⟨(.any :: .any :: .ptr 0 0 :: .ptr 1 0 :: an 3 (.ptr 2 0 :: an 19 (.iv x1.N :: .iv x26 :: an 29 []))), [some ⟨24, [.iv x1.N, .sl 2 (List.map Edge.row x1.Edges)]⟩, some ⟨25, [.sl 1 (List.map intRow x2)]⟩, some ⟨25, [.osl 0]⟩], [some ⟨3, 1, List.map intRow x46⟩]⟩ : St)) (m_colour_Round_j3 x26) y1 ?_ fun J3 => ?_
       ·intro x46 h; rw [m_colour_Round_j3] at h; (try dsimp only); refine V_go 4 ?_; dsimp only [e65, e65_L0, e65_L1, go_sem, Nat.reduceBEq, Nat.reduceAdd]; refine ⟨by simp, ?_⟩; exact M_back h hin1
       ·refine V_go 11 ?_; dsimp only [e65, e65_L0, e65_L1, go_sem, Nat.reduceBEq, Nat.reduceAdd]; refine ⟨by simp, ?_⟩; obtain ⟨x28, ex28, h⟩ := Option.bind_eq_some_iff.1 h; refine V_call trivial (k_graph_Near x1 x26 _ ex28) (h := ?_); refine V_go 7 ?_; dsimp only [e65, e65_L0, e65_L1, go_sem, Nat.reduceBEq, Nat.reduceAdd]; refine ⟨by simp, ?_⟩; obtain ⟨x29, ex29, h⟩ := Option.bind_eq_some_iff.1 h; refine V_idxM intRow ex29 trivial rfl rfl rfl ?_; refine V_go 3 ?_; dsimp only [e65, e65_L0, e65_L1, go_sem, Nat.reduceBEq, Nat.reduceAdd]; refine ⟨by simp, ?_⟩
        refine V_join (fun (x31 : Bool) => (⟨(.any :: .any :: .ptr 0 0 :: .ptr 1 0 :: an 3 (.ptr 2 0 :: .ptr 3 0 :: .sl 1 (List.map intRow x28) :: an 17 (.iv x1.N :: .iv x26 :: an 14 (.bv x31 :: an 14 [])))), [some ⟨24, [.iv x1.N, .sl 2 (List.map Edge.row x1.Edges)]⟩, some ⟨25, [.sl 1 (List.map intRow x2)]⟩, some ⟨25, [.osl 0]⟩, some ⟨3, [.iv x26]⟩], [some ⟨3, 1, List.map intRow x27⟩]⟩ : St)) (m_colour_Round_j4 x2 x26 x27 x28) y1 ?_ fun J4 => ?_
        ·intro x31 h; rw [m_colour_Round_j4] at h; (try dsimp only); refine M_ite h rfl (fun _ h => ?_) fun _ h => ?_
         ·refine V_go 1 ?_; dsimp only [e65, e65_L0, e65_L1, go_sem, Nat.reduceBEq, Nat.reduceAdd]; refine ⟨by simp, ?_⟩; exact M_to J3 (s := x27) h
         ·refine V_go 5 ?_; dsimp only [e65, e65_L0, e65_L1, go_sem, Nat.reduceBEq, Nat.reduceAdd]; refine ⟨by simp, ?_⟩; obtain ⟨x32, ex32, h⟩ := Option.bind_eq_some_iff.1 h; refine V_idxOM intRow ex32 trivial rfl rfl rfl ?_; refine V_storeO [.iv 1] intRow (y' := 1) ex32 trivial rfl rfl rfl (by first | exact leL_refl _ | simp [go_sem]) rfl rfl rfl rfl ?_; refine V_go 2 ?_; dsimp only [e65, e65_L0, e65_L1, go_sem, Nat.reduceBEq, Nat.reduceAdd]; refine ⟨by simp, ?_⟩
          refine M_loop h (fun (x35 : (List Int)) => (⟨(.any :: .any :: .ptr 0 0 :: .ptr 1 0 :: an 3 (.ptr 2 0 :: .ptr 3 0 :: .sl 1 (List.map intRow x28) :: an 17 (.iv x1.N :: .iv x26 :: an 29 []))), [some ⟨24, [.iv x1.N, .sl 2 (List.map Edge.row x1.Edges)]⟩, some ⟨25, [.sl 1 (List.map intRow x2)]⟩, some ⟨25, [.osl 0]⟩, some ⟨3, [.iv x26]⟩], [some ⟨3, 1, List.map intRow x35⟩]⟩ : St)) (by simp [go_sem]) (by intro x35; first | rfl | simp [go_sem]) ?_; rintro n2 x35 y2 h hin2 hout2; rw [m_colour_Round_l2] at h; (try dsimp only); refine V_go 5 ?_
          dsimp only [e65, e65_L0, e65_L1, go_sem, Nat.reduceBEq, Nat.reduceAdd]; refine ⟨by simp, ?_⟩; obtain ⟨x36, ex36, h⟩ := Option.bind_eq_some_iff.1 h; refine V_callL trivial (((((Lend.refl _).slice 0 rfl).block 1 rfl rfl).block 2 rfl rfl).block 3 rfl rfl) (k_slices_ContainsFunc_int x28 _ _ ((fun z => m_colour_Round_3 z x2 x35 x26)) ⟨by kernel_rfl, rfl, fun z r hz => k_colour_Round_3 z x2 x35 x26 r hz⟩ _ ex36) (h := ?_); refine V_go 1 ?_; dsimp only [e65, e65_L0, e65_L1, go_sem, Nat.reduceBEq, Nat.reduceAdd]; refine ⟨by simp, ?_⟩; refine M_ite h rfl (fun _ h => ?_) fun _ h => ?_
          ·refine V_go 5 ?_; dsimp only [e65, e65_L0, e65_L1, go_sem, Nat.reduceBEq, Nat.reduceAdd]; refine ⟨by simp, ?_⟩; obtain ⟨x37, ex37, h⟩ := Option.bind_eq_some_iff.1 h; refine V_idxOM intRow ex37 trivial rfl rfl rfl ?_; refine V_loadO intRow ex37 trivial rfl rfl rfl ?_; refine V_go 1 ?_; dsimp only [e65, e65_L0, e65_L1, go_sem, Nat.reduceBEq, Nat.reduceAdd]; refine ⟨by simp, ?_⟩; refine V_idxOM intRow ex37 trivial rfl rfl rfl ?_
           refine V_storeO [.iv (wr (x37 + 1))] intRow (y' := wr (x37 + 1)) ex37 trivial rfl rfl rfl (by first | exact leL_refl _ | simp [go_sem]) rfl rfl rfl rfl ?_; refine V_go 2 ?_; dsimp only [e65, e65_L0, e65_L1, go_sem, Nat.reduceBEq, Nat.reduceAdd]; refine ⟨by simp, ?_⟩; exact M_back h hin2
          ·refine V_go 2 ?_; dsimp only [e65, e65_L0, e65_L1, go_sem, Nat.reduceBEq, Nat.reduceAdd]; refine ⟨by simp, ?_⟩; exact M_to J3 (s := x35) (M_out h hout2)
        ·refine M_case 39 h rfl (fun _ h => ?_) fun _ h => ?_
         ·dsimp only [go_sem, Nat.reduceBEq, Nat.reduceAdd]; refine V_go 5 ?_; dsimp only [e65, e65_L0, e65_L1, go_sem, Nat.reduceBEq, Nat.reduceAdd]; refine ⟨by simp, ?_⟩; exact M_to J4 (s := true) h
         ·dsimp only [go_sem, Nat.reduceBEq, Nat.reduceAdd]; refine V_go 2 ?_; dsimp only [e65, e65_L0, e65_L1, go_sem, Nat.reduceBEq, Nat.reduceAdd]; refine ⟨by simp, ?_⟩; obtain ⟨x30, ex30, h⟩ := Option.bind_eq_some_iff.1 h; refine V_callL trivial (((Lend.refl _).block 1 rfl rfl).block 3 rfl rfl) (k_slices_ContainsFunc_int x28 _ _ ((fun z => m_colour_Round_2 z x2 x26)) ⟨by kernel_rfl, rfl, fun z r hz => k_colour_Round_2 z x2 x26 r hz⟩ _ ex30) (h := ?_); refine V_go 2 ?_; dsimp only [e65, e65_L0, e65_L1, go_sem, Nat.reduceBEq, Nat.reduceAdd]; refine ⟨by simp, ?_⟩
          exact M_to J4 (s := x30) h
      ·refine V_go 1 ?_; dsimp only [e65, e65_L0, e65_L1, go_sem, Nat.reduceBEq, Nat.reduceAdd]; refine ⟨by simp, ?_⟩; exact M_to J2 (s := x27) (M_out h hout1)
   ·refine M_case 20 h rfl (fun _ h => ?_) fun _ h => ?_
    ·dsimp only [go_sem, Nat.reduceBEq, Nat.reduceAdd]; refine V_go 4 ?_; dsimp only [e65, e65_L0, e65_L1, go_sem, Nat.reduceBEq, Nat.reduceAdd]; refine ⟨by simp, ?_⟩; exact M_to J1 (s := true) h
    ·dsimp only [go_sem, Nat.reduceBEq, Nat.reduceAdd]; refine V_go 1 ?_; dsimp only [e65, e65_L0, e65_L1, go_sem, Nat.reduceBEq, Nat.reduceAdd]; refine ⟨by simp, ?_⟩; obtain ⟨x4, ex4, h⟩ := Option.bind_eq_some_iff.1 h; refine V_call trivial (k_slices_ContainsFunc_int x2 _ _ ((fun z => m_colour_Round_1 z)) ⟨by kernel_rfl, rfl, fun z r hz => k_colour_Round_1 z r hz⟩ _ ex4) (h := ?_); refine V_go 2 ?_; dsimp only [e65, e65_L0, e65_L1, go_sem, Nat.reduceBEq, Nat.reduceAdd]; refine ⟨by simp, ?_⟩; exact M_to J1 (s := x4) h
def f_colour_Round_j2 (_F : Nat)  : (List Int) → Option ((List Int) × Int)
| x54 =>
 some (x54, 0)
theorem le_colour_Round_j2 {F : Nat} : ∀ s, ole (f_colour_Round_j2 F s) (m_colour_Round_j2 s) := by
  intro x54
  unfold f_colour_Round_j2 m_colour_Round_j2
  try dsimp only
  with_reducible repeat' first | exact ole_refl _ | assumption | intro _ | refine ole_ifb ?_ ?_ | refine ole_bind ?_ ?_ | refine ole_map ?_ | refine ole_loop ?_
def f_colour_Round_j3 (_F : Nat) (x26 : Int) : (List Int) → Option ((Int × (List Int)) ⊕ ((List Int) × Int))
| x46 =>
 some (.inl (wr (x26 + 1), x46))
theorem le_colour_Round_j3 {F : Nat} {x26 : Int} : ∀ s, ole (f_colour_Round_j3 F x26 s) (m_colour_Round_j3 x26 s) := by
  intro x46
  unfold f_colour_Round_j3 m_colour_Round_j3
  try dsimp only
  with_reducible repeat' first | exact ole_refl _ | assumption | intro _ | refine ole_ifb ?_ ?_ | refine ole_bind ?_ ?_ | refine ole_map ?_ | refine ole_loop ?_ | apply le_colour_Round_j2
def f_colour_Round_l2 (F : Nat) (x2 : (List Int)) (x26 : Int) (x28 : (List Int)) : (List Int) → Option ((List Int) ⊕ ((Int × (List Int)) ⊕ ((List Int) × Int)))
| x35 =>
 (f_slices_ContainsFunc_int F x28 ((fun z => f_colour_Round_3 F z x2 x35 x26))).bind fun x36 =>
 ifb x36 (
 (at_ x35 x26).bind fun x37 =>
 some (.inl (x35.set (x26).toNat (wr (x37 + 1))))) (
 Option.map Sum.inr ((f_colour_Round_j3 F x26) x35))
theorem le_colour_Round_l2 {F : Nat} {x2 : (List Int)} {x26 : Int} {x28 : (List Int)} : ∀ s, ole (f_colour_Round_l2 F x2 x26 x28 s) (m_colour_Round_l2 x2 x26 x28 s) := by
  intro x35
  unfold f_colour_Round_l2 m_colour_Round_l2
  try dsimp only
  with_reducible repeat' first | exact ole_refl _ | assumption | intro _ | refine ole_ifb ?_ ?_ | refine ole_bind ?_ ?_ | refine ole_map ?_ | refine ole_loop ?_ | apply le_colour_Round_j2 | apply le_colour_Round_j3 | apply le_slices_ContainsFunc_int | apply le_colour_Round_3
def f_colour_Round_j4 (F : Nat) (x2 : (List Int)) (x26 : Int) (x27 : (List Int)) (x28 : (List Int)) : Bool → Option ((Int × (List Int)) ⊕ ((List Int) × Int))
| x31 =>
 ifb x31 (
 (f_colour_Round_j3 F x26) x27) (
 (at_ x27 x26).bind fun x32 =>
 loopF F (f_colour_Round_l2 F x2 x26 x28) (x27.set (x26).toNat 1))
theorem le_colour_Round_j4 {F : Nat} {x2 : (List Int)} {x26 : Int} {x27 : (List Int)} {x28 : (List Int)} : ∀ s, ole (f_colour_Round_j4 F x2 x26 x27 x28 s) (m_colour_Round_j4 x2 x26 x27 x28 s) := by
  intro x31
  unfold f_colour_Round_j4 m_colour_Round_j4
  try dsimp only
  with_reducible repeat' first | exact ole_refl _ | assumption | intro _ | refine ole_ifb ?_ ?_ | refine ole_bind ?_ ?_ | refine ole_map ?_ | refine ole_loop ?_ | apply le_colour_Round_j2 | apply le_colour_Round_j3 | apply le_slices_ContainsFunc_int | apply le_colour_Round_3 | apply le_colour_Round_l2
def f_colour_Round_l1 (F : Nat) (x1 : Graph) (x2 : (List Int)) : (Int × (List Int)) → Option ((Int × (List Int)) ⊕ ((List Int) × Int))
| (x26, x27) =>
 ifb (decide (x26 < x1.N)) (
 (f_graph_Near F x1 x26).bind fun x28 =>
 (at_ x2 x26).bind fun x29 =>
 ifb (!decide (x29 = 0)) (
 (f_colour_Round_j4 F x2 x26 x27 x28) true) (
 (f_slices_ContainsFunc_int F x28 ((fun z => f_colour_Round_2 F z x2 x26))).bind fun x30 =>
 (f_colour_Round_j4 F x2 x26 x27 x28) x30)) (
 Option.map Sum.inr (f_colour_Round_j2 F x27))
theorem le_colour_Round_l1 {F : Nat} {x1 : Graph} {x2 : (List Int)} : ∀ s, ole (f_colour_Round_l1 F x1 x2 s) (m_colour_Round_l1 x1 x2 s) := by
  rintro ⟨x26, x27⟩
  unfold f_colour_Round_l1 m_colour_Round_l1
  try dsimp only
  with_reducible repeat' first | exact ole_refl _ | assumption | intro _ | refine ole_ifb ?_ ?_ | refine ole_bind ?_ ?_ | refine ole_map ?_ | refine ole_loop ?_ | apply le_colour_Round_j2 | apply le_colour_Round_j3 | apply le_slices_ContainsFunc_int | apply le_colour_Round_3 | apply le_colour_Round_l2 | apply le_colour_Round_j4 | apply le_graph_Near | apply le_colour_Round_2
def f_colour_Round_j1 (F : Nat) (x1 : Graph) (x2 : (List Int)) : Bool → Option ((List Int) × Int)
| x5 =>
 ifb x5 (
 some (([] : (List Int)), 110)) (
 (f_slices_Clone_int F x2).bind fun x6 =>
 loopF F (f_colour_Round_l1 F x1 x2) (0, x6))
theorem le_colour_Round_j1 {F : Nat} {x1 : Graph} {x2 : (List Int)} : ∀ s, ole (f_colour_Round_j1 F x1 x2 s) (m_colour_Round_j1 x1 x2 s) := by
  intro x5
  unfold f_colour_Round_j1 m_colour_Round_j1
  try dsimp only
  with_reducible repeat' first | exact ole_refl _ | assumption | intro _ | refine ole_ifb ?_ ?_ | refine ole_bind ?_ ?_ | refine ole_map ?_ | refine ole_loop ?_ | apply le_colour_Round_j2 | apply le_colour_Round_j3 | apply le_slices_ContainsFunc_int | apply le_colour_Round_3 | apply le_colour_Round_l2 | apply le_colour_Round_j4 | apply le_graph_Near | apply le_colour_Round_2 | apply le_colour_Round_l1 | apply le_slices_Clone_int
def f_colour_Round (F : Nat) (x1 : Graph) (x2 : (List Int)) : Option ((List Int) × Int) :=
 (f_graph_Check F x1).bind fun x3 =>
 ifb (!decide (x3 = 0)) (
 some (([] : (List Int)), x3)) (
 ifb (!decide ((ln intRow x2) = x1.N)) (
 (f_colour_Round_j1 F x1 x2) true) (
 (f_slices_ContainsFunc_int F x2 ((fun z => f_colour_Round_1 F z))).bind fun x4 =>
 (f_colour_Round_j1 F x1 x2) x4))
theorem le_colour_Round {F : Nat} {x1 : Graph} {x2 : (List Int)} : ole (f_colour_Round F x1 x2) (m_colour_Round x1 x2) := by
  unfold f_colour_Round m_colour_Round
  with_reducible repeat' first | exact ole_refl _ | assumption | intro _ | refine ole_ifb ?_ ?_ | refine ole_bind ?_ ?_ | refine ole_map ?_ | refine ole_loop ?_ | apply le_colour_Round_j2 | apply le_colour_Round_j3 | apply le_slices_ContainsFunc_int | apply le_colour_Round_3 | apply le_colour_Round_l2 | apply le_colour_Round_j4 | apply le_graph_Near | apply le_colour_Round_2 | apply le_colour_Round_l1 | apply le_slices_Clone_int | apply le_colour_Round_j1 | apply le_graph_Check | apply le_colour_Round_1
end NX
end Go.Proofs.Ytadebhbiglmodaa
/-
  The function narthex/colour.Run: its code compiled, a model, and that the code answers as the model. Written by a program of ours (lb.py). No statement of the seat is proved here.
-/
namespace Go.Proofs.Ytadebhbiglmodaa
namespace NX
open Go
set_option maxRecDepth 100000
set_option maxHeartbeats 4000000
def e31_L0 : EC := .seq (.seq (.reg [⟨(some 16), none, .mv (.t 6)⟩, ⟨(some 17), none, .call 64 [(.t 16), (.c (.iv 0))]⟩]) (.ite (.t 17) (.skip) (.exit 0))) (.blk 1 (.seq (.reg [⟨(some 19), none, .loadA 2 (.t 1)⟩, ⟨(some 20), none, .mv (.t 6)⟩, ⟨(some 21), none, .call 65 [(.t 19), (.t 20)]⟩, ⟨(some 18), none, .mv (.t 21)⟩, ⟨(some 22), none, .ext (.t 18) 0⟩, ⟨(some 23), none, .ext (.t 18) 1⟩, ⟨(some 6), none, .mv (.t 22)⟩]) (.reg [⟨(some 24), none, .mv (.t 7)⟩, ⟨(some 25), none, .bin .add (.t 24) (.c (.iv 1))⟩, ⟨(some 7), none, .mv (.t 25)⟩])))
def e31 : EC := .seq (.reg [⟨(some 1), none, .box 24 2 (.t 0)⟩, ⟨(some 2), none, .mv (.c .nl)⟩, ⟨(some 3), none, .mv (.c (.iv 0))⟩, ⟨(some 4), none, .mv (.c (.iv 0))⟩]) (.seq (.seq (.reg [⟨(some 8), none, .loadA 2 (.t 1)⟩, ⟨(some 9), none, .call 49 [(.t 8)]⟩, ⟨(some 5), none, .mv (.t 9)⟩]) (.seq (.reg [⟨(some 10), none, .mv (.t 5)⟩, ⟨(some 11), none, .bin .neq (.t 10) (.c (.iv 0))⟩]) (.ite (.t 11) (.seq (.reg [⟨(some 12), none, .mv (.t 5)⟩, ⟨(some 2), none, .mv (.c .nl)⟩, ⟨(some 3), none, .mv (.c (.iv 0))⟩, ⟨(some 4), none, .mv (.t 12)⟩]) (.ret)) (.skip)))) (.seq (.reg [⟨(some 13), none, .fld 0 (.t 1)⟩, ⟨(some 14), none, .load (.t 13)⟩, ⟨(some 15), none, .mks 3 1 8 [.iv 0] (.t 14) (.t 14)⟩, ⟨(some 6), none, .mv (.t 15)⟩, ⟨(some 7), none, .mv (.c (.iv 0))⟩]) (.seq (.blk 0 (.loop e31_L0)) (.seq (.reg [⟨(some 26), none, .mv (.t 6)⟩, ⟨(some 27), none, .mv (.t 7)⟩, ⟨(some 2), none, .mv (.t 26)⟩, ⟨(some 3), none, .mv (.t 27)⟩, ⟨(some 4), none, .mv (.c (.iv 0))⟩]) (.ret)))))
theorem ok31 : FnOK Try.prog 31 Try.f31 e31 [.t 2, .t 3, .t 4] 1 27 := ⟨by kernel_rfl, ⟨_, rfl, by kernel_rfl⟩, by kernel_rfl, by kernel_rfl⟩
/- narthex/colour.Run -/
noncomputable def m_colour_Run_j1  : ((List Int) × Int) → Option ((List Int) × Int × Int)
| (x17, x18) =>
 some (x17, x18, 0)
noncomputable def m_colour_Run_l1 (x1 : Graph) : ((List Int) × Int) → Option (((List Int) × Int) ⊕ ((List Int) × Int × Int))
| (x8, x9) =>
 (m_slices_Contains_int x8 0).bind fun x10 =>
 ifb x10 (
 (m_colour_Round x1 x8).bind fun x11 =>
 some (.inl (x11.1, wr (x9 + 1)))) (
 Option.map Sum.inr (m_colour_Run_j1 (x8, x9)))
noncomputable def m_colour_Run (x1 : Graph) : Option ((List Int) × Int × Int) :=
 (m_graph_Check x1).bind fun x2 =>
 ifb (!decide (x2 = 0)) (
 some (([] : (List Int)), 0, x2)) (
 (mk_ 8 x1.N 0).bind fun x3 =>
 loop (m_colour_Run_l1 x1) (x3, 0))
theorem k_colour_Run (x1 : Graph) (r : ((List Int) × Int × Int)) (h : m_colour_Run x1 = some r) : FunP Try.prog 31 [.agg (Graph.row x1)] (.tup [.sl 1 (List.map intRow r.1), .iv r.2.1, .iv r.2.2]) := by
  refine FunP_intro ok31 rfl rfl fun w0 H0 => ?_
  rw [m_colour_Run] at h
  refine V_go 11 ?_; dsimp only [e31, e31_L0, go_sem, Nat.reduceBEq, Nat.reduceAdd]; refine ⟨by simp, ?_⟩; obtain ⟨x2, ex2, h⟩ := Option.bind_eq_some_iff.1 h; refine V_call trivial (k_graph_Check x1 _ ex2) (h := ?_); refine V_go 7 ?_; dsimp only [e31, e31_L0, go_sem, Nat.reduceBEq, Nat.reduceAdd]; refine ⟨by simp, ?_⟩; refine M_ite h rfl (fun _ h => ?_) fun _ h => ?_
  ·refine V_go 7 ?_; dsimp only [e31, e31_L0, go_sem, Nat.reduceBEq, Nat.reduceAdd]; refine ⟨by simp, ?_⟩; exact M_done (res := fun (r : ((List Int) × Int × Int)) => .tup [.sl 1 (List.map intRow r.1), .iv r.2.1, .iv r.2.2]) ok31 h
  ·refine V_go 5 ?_; dsimp only [e31, e31_L0, go_sem, Nat.reduceBEq, Nat.reduceAdd]; refine ⟨by simp, ?_⟩; obtain ⟨x3, ex3, h⟩ := Option.bind_eq_some_iff.1 h; refine V_mksM intRow ex3 trivial rfl rfl rfl rfl ?_; refine V_go 4 ?_; dsimp only [e31, e31_L0, go_sem, Nat.reduceBEq, Nat.reduceAdd]; refine ⟨by simp, ?_⟩; refine V_join (fun ((x17, x18) : ((List Int) × Int)) => (⟨(an 6 (.sl 1 (List.map intRow x17) :: .iv x18 :: an 20 [])), [], []⟩ : St)) m_colour_Run_j1 r ?_ fun J1 => ?_
   ·rintro ⟨x17, x18⟩ h; rw [m_colour_Run_j1] at h; (try dsimp only); refine V_go 8 ?_; dsimp only [e31, e31_L0, go_sem, Nat.reduceBEq, Nat.reduceAdd]; refine ⟨by simp, ?_⟩; exact M_done (res := fun (r : ((List Int) × Int × Int)) => .tup [.sl 1 (List.map intRow r.1), .iv r.2.1, .iv r.2.2]) ok31 h
   ·refine V_go 1 ?_; dsimp only [e31, e31_L0, go_sem, Nat.reduceBEq, Nat.reduceAdd]; refine ⟨by simp, ?_⟩; refine V_seal 0 rfl ?_; dsimp only [go_sem, Nat.reduceBEq, Nat.reduceAdd]; refine M_loop h (fun ((x8, x9) : ((List Int) × Int)) => (⟨(.any :: .ptr 0 0 :: an 4 (.sl 1 (List.map intRow x8) :: .iv x9 :: an 20 [])), [some ⟨24, [.iv x1.N, .sl 2 (List.map Edge.row x1.Edges)]⟩], []⟩ : St)) (by simp [go_sem]) (by rintro ⟨x8, x9⟩; first | rfl | simp [go_sem]) ?_; rintro n1 ⟨x8, x9⟩ y1 h hin1 hout1; rw [m_colour_Run_l1] at h; (try dsimp only); refine V_go 4 ?_
    dsimp only [e31, e31_L0, go_sem, Nat.reduceBEq, Nat.reduceAdd]; refine ⟨by simp, ?_⟩; obtain ⟨x10, ex10, h⟩ := Option.bind_eq_some_iff.1 h; refine V_call trivial (k_slices_Contains_int x8 0 _ ex10) (h := ?_); refine V_go 1 ?_; dsimp only [e31, e31_L0, go_sem, Nat.reduceBEq, Nat.reduceAdd]; refine ⟨by simp, ?_⟩; refine M_ite h rfl (fun _ h => ?_) fun _ h => ?_
    ·refine V_go 6 ?_; dsimp only [e31, e31_L0, go_sem, Nat.reduceBEq, Nat.reduceAdd]; refine ⟨by simp, ?_⟩; obtain ⟨x11, ex11, h⟩ := Option.bind_eq_some_iff.1 h; refine V_call trivial (k_colour_Round x1 x8 _ ex11) (h := ?_); refine V_go 11 ?_; dsimp only [e31, e31_L0, go_sem, Nat.reduceBEq, Nat.reduceAdd]; refine ⟨by simp, ?_⟩; exact M_back h hin1
    ·refine V_go 1 ?_; dsimp only [e31, e31_L0, go_sem, Nat.reduceBEq, Nat.reduceAdd]; refine ⟨by simp, ?_⟩; exact M_to J1 (s := (x8, x9)) (M_out h hout1)
def f_colour_Run_j1 (_F : Nat)  : ((List Int) × Int) → Option ((List Int) × Int × Int)
| (x17, x18) =>
 some (x17, x18, 0)
theorem le_colour_Run_j1 {F : Nat} : ∀ s, ole (f_colour_Run_j1 F s) (m_colour_Run_j1 s) := by
  rintro ⟨x17, x18⟩
  unfold f_colour_Run_j1 m_colour_Run_j1
  try dsimp only
  with_reducible repeat' first | exact ole_refl _ | assumption | intro _ | refine ole_ifb ?_ ?_ | refine ole_bind ?_ ?_ | refine ole_map ?_ | refine ole_loop ?_
def f_colour_Run_l1 (F : Nat) (x1 : Graph) : ((List Int) × Int) → Option (((List Int) × Int) ⊕ ((List Int) × Int × Int))
| (x8, x9) =>
 (f_slices_Contains_int F x8 0).bind fun x10 =>
 ifb x10 (
 (f_colour_Round F x1 x8).bind fun x11 =>
 some (.inl (x11.1, wr (x9 + 1)))) (
 Option.map Sum.inr (f_colour_Run_j1 F (x8, x9)))
theorem le_colour_Run_l1 {F : Nat} {x1 : Graph} : ∀ s, ole (f_colour_Run_l1 F x1 s) (m_colour_Run_l1 x1 s) := by
  rintro ⟨x8, x9⟩
  unfold f_colour_Run_l1 m_colour_Run_l1
  try dsimp only
  with_reducible repeat' first | exact ole_refl _ | assumption | intro _ | refine ole_ifb ?_ ?_ | refine ole_bind ?_ ?_ | refine ole_map ?_ | refine ole_loop ?_ | apply le_colour_Run_j1 | apply le_slices_Contains_int | apply le_colour_Round
def f_colour_Run (F : Nat) (x1 : Graph) : Option ((List Int) × Int × Int) :=
 (f_graph_Check F x1).bind fun x2 =>
 ifb (!decide (x2 = 0)) (
 some (([] : (List Int)), 0, x2)) (
 (mk_ 8 x1.N 0).bind fun x3 =>
 loopF F (f_colour_Run_l1 F x1) (x3, 0))
theorem le_colour_Run {F : Nat} {x1 : Graph} : ole (f_colour_Run F x1) (m_colour_Run x1) := by
  unfold f_colour_Run m_colour_Run
  with_reducible repeat' first | exact ole_refl _ | assumption | intro _ | refine ole_ifb ?_ ?_ | refine ole_bind ?_ ?_ | refine ole_map ?_ | refine ole_loop ?_ | apply le_colour_Run_j1 | apply le_slices_Contains_int | apply le_colour_Round | apply le_colour_Run_l1 | apply le_graph_Check
end NX
end Go.Proofs.Ytadebhbiglmodaa
/-
  The function narthex/colour.Right$1: its code compiled, a model, and that the code answers as the model. Written by a program of ours (lb.py). No statement of the seat is proved here.
-/
namespace Go.Proofs.Ytadebhbiglmodaa
namespace NX
open Go
set_option maxRecDepth 100000
set_option maxHeartbeats 4000000
def e83 : EC := .seq (.reg [⟨(some 2), none, .mv (.c .ff)⟩]) (.seq (.reg [⟨(some 3), none, .mv (.t 0)⟩, ⟨(some 4), none, .bin .lss (.t 3) (.c (.iv 1))⟩, ⟨(some 2), none, .mv (.t 4)⟩]) (.ret))
theorem ok83 : FnOK Try.prog 83 Try.f83 e83 [.t 2] 1 4 := ⟨by kernel_rfl, ⟨_, rfl, by kernel_rfl⟩, by kernel_rfl, by kernel_rfl⟩
/- narthex/colour.Right$1 -/
noncomputable def m_colour_Right_1 (x1 : Int) : Option Bool :=
 some (decide (x1 < 1))
theorem k_colour_Right_1 (x1 : Int) (r : Bool) (h : m_colour_Right_1 x1 = some r) : FunP Try.prog 83 [.iv x1] (.bv r) := by
  refine FunP_intro ok83 rfl rfl fun w0 H0 => ?_
  rw [m_colour_Right_1] at h
  refine V_go 10 ?_; dsimp only [e83, go_sem, Nat.reduceBEq, Nat.reduceAdd]; refine ⟨by simp, ?_⟩; exact M_done (res := fun (r : Bool) => .bv r) ok83 h
def f_colour_Right_1 (_F : Nat) (x1 : Int) : Option Bool :=
 some (decide (x1 < 1))
theorem le_colour_Right_1 {F : Nat} {x1 : Int} : ole (f_colour_Right_1 F x1) (m_colour_Right_1 x1) := by
  unfold f_colour_Right_1 m_colour_Right_1
  with_reducible repeat' first | exact ole_refl _ | assumption | intro _ | refine ole_ifb ?_ ?_ | refine ole_bind ?_ ?_ | refine ole_map ?_ | refine ole_loop ?_
end NX
end Go.Proofs.Ytadebhbiglmodaa
/-
  The function narthex/colour.Right$2: its code compiled, a model, and that the code answers as the model. Written by a program of ours (lb.py). No statement of the seat is proved here.
-/
namespace Go.Proofs.Ytadebhbiglmodaa
namespace NX
open Go
set_option maxRecDepth 100000
set_option maxHeartbeats 4000000
def e84 : EC := .seq (.reg [⟨(some 2), none, .box 58 2 (.t 0)⟩, ⟨(some 3), none, .mv (.c .ff)⟩]) (.seq (.drw [⟨(some 4), none, .load (.t 1)⟩, ⟨(some 5), none, .fld 0 (.t 2)⟩, ⟨(some 6), none, .load (.t 5)⟩, ⟨(some 7), none, .idx 1 (.t 4) (.t 6)⟩, ⟨(some 8), none, .load (.t 7)⟩, ⟨(some 9), none, .load (.t 1)⟩, ⟨(some 10), none, .fld 1 (.t 2)⟩, ⟨(some 11), none, .load (.t 10)⟩, ⟨(some 12), none, .idx 1 (.t 9) (.t 11)⟩, ⟨(some 13), none, .load (.t 12)⟩, ⟨(some 14), none, .bin .eql (.t 8) (.t 13)⟩, ⟨(some 3), none, .mv (.t 14)⟩] [[], [], [1], [0, 2], [3], [], [], [6], [5, 7], [8], [4, 9], [10, 0, 1, 2, 3, 4, 5, 6, 7, 8, 9, 10]] [[3], [2], [1, 3], [0, 2, 4], [3, 10], [8], [7], [6, 8], [5, 7, 9], [8, 10], [4, 9, 11], [10]]) (.ret))
theorem ok84 : FnOK Try.prog 84 Try.f84 e84 [.t 3] 2 13 := ⟨by kernel_rfl, ⟨_, rfl, by kernel_rfl⟩, by kernel_rfl, by kernel_rfl⟩
/- narthex/colour.Right$2 -/
noncomputable def m_colour_Right_2 (x1 : Edge) (x2 : (List Int)) : Option Bool :=
 (at_ x2 x1.A).bind fun x3 =>
 (at_ x2 x1.B).bind fun x4 =>
 some (decide (x3 = x4))
theorem k_colour_Right_2 (x1 : Edge) (x2 : (List Int)) (r : Bool) (h : m_colour_Right_2 x1 x2 = some r) : FunP Try.prog 84 [.agg (Edge.row x1), .elt ((slRow 1 intRow) x2) 0] (.bv r) := by
  refine FunP_intro ok84 rfl rfl fun w0 H0 => ?_
  rw [m_colour_Right_2] at h
  refine V_go 6 ?_; dsimp only [e84, go_sem, Nat.reduceBEq, Nat.reduceAdd]; refine ⟨by simp, ?_⟩; refine V_drw (by kernel_rfl) fun all hall hs hnap haf => ?_; dsimp only [go_sem, Nat.reduceBEq, Nat.reduceAdd]; refine G_goE hall hs haf hnap 6 6 [true, true, true, false, false, true, true, true, false, false, false, false] (⟨[.agg [.iv x1.A, .iv x1.B], .elt [.sl 1 (List.map intRow x2)] 0, .ptr 0 0, .ff, .sl 1 (List.map intRow x2), .ptr 0 0, .iv x1.A, .un, .un, .sl 1 (List.map intRow x2), .ptr 0 1, .iv x1.B, .un, .un, .un], [some ⟨58, [.iv x1.A, .iv x1.B]⟩], []⟩ : St) (by kernel_rfl) ?_
  obtain ⟨x3, ex3, h⟩ := Option.bind_eq_some_iff.1 h; refine G_idxM hall hs haf hnap 3 intRow ex3 rfl rfl trivial rfl rfl rfl rfl ?_; refine G_goN hall hs haf hnap 1 4 ?_; dsimp only [go_sem, Nat.reduceBEq, Nat.reduceAdd]; refine ⟨by simp, ?_⟩; obtain ⟨x4, ex4, h⟩ := Option.bind_eq_some_iff.1 h; refine G_idxM hall hs haf hnap 8 intRow ex4 rfl rfl trivial rfl rfl rfl rfl ?_; refine G_goN hall hs haf hnap 3 0 ?_; dsimp only [go_sem, Nat.reduceBEq, Nat.reduceAdd]; refine ⟨by simp, ?_⟩; refine G_done rfl ?_ _; exact M_done (res := fun (r : Bool) => .bv r) ok84 h
def f_colour_Right_2 (_F : Nat) (x1 : Edge) (x2 : (List Int)) : Option Bool :=
 (at_ x2 x1.A).bind fun x3 =>
 (at_ x2 x1.B).bind fun x4 =>
 some (decide (x3 = x4))
theorem le_colour_Right_2 {F : Nat} {x1 : Edge} {x2 : (List Int)} : ole (f_colour_Right_2 F x1 x2) (m_colour_Right_2 x1 x2) := by
  unfold f_colour_Right_2 m_colour_Right_2
  with_reducible repeat' first | exact ole_refl _ | assumption | intro _ | refine ole_ifb ?_ ?_ | refine ole_bind ?_ ?_ | refine ole_map ?_ | refine ole_loop ?_
end NX
end Go.Proofs.Ytadebhbiglmodaa
/-
  The function narthex/colour.Right: its code compiled, a model, and that the code answers as the model. Written by a program of ours (lb.py). No statement of the seat is proved here.
-/
namespace Go.Proofs.Ytadebhbiglmodaa
namespace NX
open Go
set_option maxRecDepth 100000
set_option maxHeartbeats 4000000
def e50 : EC := .seq (.reg [⟨(some 2), none, .box 24 2 (.t 0)⟩, ⟨(some 3), none, .box 25 1 (.t 1)⟩, ⟨(some 4), none, .mv (.c .ff)⟩]) (.seq (.seq (.reg [⟨(some 5), none, .loadA 2 (.t 2)⟩, ⟨(some 6), none, .call 49 [(.t 5)]⟩, ⟨(some 7), none, .bin .neq (.t 6) (.c (.iv 0))⟩, ⟨(some 8), none, .mv (.t 7)⟩, ⟨(some 9), (some (8, false)), .load (.t 3)⟩, ⟨(some 10), (some (8, false)), .len (.t 9)⟩, ⟨(some 11), (some (8, false)), .fld 0 (.t 2)⟩, ⟨(some 12), (some (8, false)), .load (.t 11)⟩, ⟨(some 13), (some (8, false)), .bin .neq (.t 10) (.t 12)⟩, ⟨(some 14), none, .pick (.t 8) (.c .tt) (.t 13)⟩, ⟨(some 15), none, .mv (.t 14)⟩, ⟨(some 16), (some (15, false)), .load (.t 3)⟩, ⟨(some 17), (some (15, false)), .call 82 [(.t 16), (.c (.clo 83 []))]⟩, ⟨(some 18), none, .pick (.t 15) (.c .tt) (.t 17)⟩]) (.ite (.t 18) (.seq (.reg [⟨(some 4), none, .mv (.c .ff)⟩]) (.ret)) (.skip))) (.seq (.reg [⟨(some 19), none, .fld 1 (.t 2)⟩, ⟨(some 20), none, .load (.t 19)⟩, ⟨(some 21), none, .mkf 84 [(.t 3)]⟩, ⟨(some 22), none, .call 80 [(.t 20), (.t 21)]⟩, ⟨(some 23), none, .not (.t 22)⟩, ⟨(some 4), none, .mv (.t 23)⟩]) (.ret)))
theorem ok50 : FnOK Try.prog 50 Try.f50 e50 [.t 4] 2 22 := ⟨by kernel_rfl, ⟨_, rfl, by kernel_rfl⟩, by kernel_rfl, by kernel_rfl⟩
/- narthex/colour.Right -/
noncomputable def m_colour_Right_j1 (x1 : Graph) (x2 : (List Int)) : Bool → Option Bool
| x5 =>
 ifb x5 (
 some false) (
 (m_slices_ContainsFunc_Edge x1.Edges ((fun z => m_colour_Right_2 z x2))).bind fun x6 =>
 some (!x6))
noncomputable def m_colour_Right (x1 : Graph) (x2 : (List Int)) : Option Bool :=
 (m_graph_Check x1).bind fun x3 =>
 ifb (!decide (x3 = 0)) (
 (m_colour_Right_j1 x1 x2) true) (
 ifb (!decide ((ln intRow x2) = x1.N)) (
 (m_colour_Right_j1 x1 x2) true) (
 (m_slices_ContainsFunc_int x2 ((fun z => m_colour_Right_1 z))).bind fun x4 =>
 (m_colour_Right_j1 x1 x2) x4))
theorem k_colour_Right (x1 : Graph) (x2 : (List Int)) (r : Bool) (h : m_colour_Right x1 x2 = some r) : FunP Try.prog 50 [.agg (Graph.row x1), .sl 1 (List.map intRow x2)] (.bv r) := by
  refine FunP_intro ok50 rfl rfl fun w0 H0 => ?_
  rw [m_colour_Right] at h
  refine V_go 10 ?_; dsimp only [e50, go_sem, Nat.reduceBEq, Nat.reduceAdd]; refine ⟨by simp, ?_⟩; obtain ⟨x3, ex3, h⟩ := Option.bind_eq_some_iff.1 h; refine V_call trivial (k_graph_Check x1 _ ex3) (h := ?_); refine V_go 2 ?_; dsimp only [e50, go_sem, Nat.reduceBEq, Nat.reduceAdd]; refine ⟨by simp, ?_⟩; refine V_join (fun (x5 : Bool) => (⟨(.any :: .any :: .ptr 0 0 :: .ptr 1 0 :: an 14 (.bv x5 :: an 5 [])), [some ⟨24, [.iv x1.N, .sl 2 (List.map Edge.row x1.Edges)]⟩, some ⟨25, [.sl 1 (List.map intRow x2)]⟩], []⟩ : St)) (m_colour_Right_j1 x1 x2) r ?_ fun J1 => ?_
  ·intro x5 h; rw [m_colour_Right_j1] at h; (try dsimp only); refine M_ite h rfl (fun _ h => ?_) fun _ h => ?_
   ·refine V_go 4 ?_; dsimp only [e50, go_sem, Nat.reduceBEq, Nat.reduceAdd]; refine ⟨by simp, ?_⟩; exact M_done (res := fun (r : Bool) => .bv r) ok50 h
   ·refine V_go 6 ?_; dsimp only [e50, go_sem, Nat.reduceBEq, Nat.reduceAdd]; refine ⟨by simp, ?_⟩; obtain ⟨x6, ex6, h⟩ := Option.bind_eq_some_iff.1 h; refine V_callL trivial ((Lend.refl _).block 1 rfl rfl) (k_slices_ContainsFunc_Edge x1.Edges _ _ ((fun z => m_colour_Right_2 z x2)) ⟨by kernel_rfl, rfl, fun z r hz => k_colour_Right_2 z x2 r hz⟩ _ ex6) (h := ?_); refine V_go 3 ?_; dsimp only [e50, go_sem, Nat.reduceBEq, Nat.reduceAdd]; refine ⟨by simp, ?_⟩; exact M_done (res := fun (r : Bool) => .bv r) ok50 h
  ·refine M_case 8 h rfl (fun _ h => ?_) fun _ h => ?_
   ·dsimp only [go_sem, Nat.reduceBEq, Nat.reduceAdd]; refine V_go 11 ?_; dsimp only [e50, go_sem, Nat.reduceBEq, Nat.reduceAdd]; refine ⟨by simp, ?_⟩; exact M_to J1 (s := true) h
   ·dsimp only [go_sem, Nat.reduceBEq, Nat.reduceAdd]; refine V_go 7 ?_; dsimp only [e50, go_sem, Nat.reduceBEq, Nat.reduceAdd]; refine ⟨by simp, ?_⟩; refine M_case 15 h rfl (fun _ h => ?_) fun _ h => ?_
    ·dsimp only [go_sem, Nat.reduceBEq, Nat.reduceAdd]; refine V_go 4 ?_; dsimp only [e50, go_sem, Nat.reduceBEq, Nat.reduceAdd]; refine ⟨by simp, ?_⟩; exact M_to J1 (s := true) h
    ·dsimp only [go_sem, Nat.reduceBEq, Nat.reduceAdd]; refine V_go 1 ?_; dsimp only [e50, go_sem, Nat.reduceBEq, Nat.reduceAdd]; refine ⟨by simp, ?_⟩; obtain ⟨x4, ex4, h⟩ := Option.bind_eq_some_iff.1 h; refine V_call trivial (k_slices_ContainsFunc_int x2 _ _ ((fun z => m_colour_Right_1 z)) ⟨by kernel_rfl, rfl, fun z r hz => k_colour_Right_1 z r hz⟩ _ ex4) (h := ?_); refine V_go 2 ?_; dsimp only [e50, go_sem, Nat.reduceBEq, Nat.reduceAdd]; refine ⟨by simp, ?_⟩; exact M_to J1 (s := x4) h
def f_colour_Right_j1 (F : Nat) (x1 : Graph) (x2 : (List Int)) : Bool → Option Bool
| x5 =>
 ifb x5 (
 some false) (
 (f_slices_ContainsFunc_Edge F x1.Edges ((fun z => f_colour_Right_2 F z x2))).bind fun x6 =>
 some (!x6))
theorem le_colour_Right_j1 {F : Nat} {x1 : Graph} {x2 : (List Int)} : ∀ s, ole (f_colour_Right_j1 F x1 x2 s) (m_colour_Right_j1 x1 x2 s) := by
  intro x5
  unfold f_colour_Right_j1 m_colour_Right_j1
  try dsimp only
  with_reducible repeat' first | exact ole_refl _ | assumption | intro _ | refine ole_ifb ?_ ?_ | refine ole_bind ?_ ?_ | refine ole_map ?_ | refine ole_loop ?_ | apply le_slices_ContainsFunc_Edge | apply le_colour_Right_2
def f_colour_Right (F : Nat) (x1 : Graph) (x2 : (List Int)) : Option Bool :=
 (f_graph_Check F x1).bind fun x3 =>
 ifb (!decide (x3 = 0)) (
 (f_colour_Right_j1 F x1 x2) true) (
 ifb (!decide ((ln intRow x2) = x1.N)) (
 (f_colour_Right_j1 F x1 x2) true) (
 (f_slices_ContainsFunc_int F x2 ((fun z => f_colour_Right_1 F z))).bind fun x4 =>
 (f_colour_Right_j1 F x1 x2) x4))
theorem le_colour_Right {F : Nat} {x1 : Graph} {x2 : (List Int)} : ole (f_colour_Right F x1 x2) (m_colour_Right x1 x2) := by
  unfold f_colour_Right m_colour_Right
  with_reducible repeat' first | exact ole_refl _ | assumption | intro _ | refine ole_ifb ?_ ?_ | refine ole_bind ?_ ?_ | refine ole_map ?_ | refine ole_loop ?_ | apply le_slices_ContainsFunc_Edge | apply le_colour_Right_2 | apply le_colour_Right_j1 | apply le_graph_Check | apply le_slices_ContainsFunc_int | apply le_colour_Right_1
end NX
end Go.Proofs.Ytadebhbiglmodaa
/-
  The function narthex/place.Table: its code compiled, a model, and that the code answers as the model. Written by a program of ours (lb.py). No statement of the seat is proved here.
-/
namespace Go.Proofs.Ytadebhbiglmodaa
namespace NX
open Go
set_option maxRecDepth 100000
set_option maxHeartbeats 4000000
def e14_L1 : EC := .seq (.reg [⟨(some 34), none, .bin .lss (.t 33) (.t 32)⟩]) (.seq (.ite (.t 34) (.skip) (.exit 2)) (.seq (.blk 3 (.seq (.reg [⟨(some 35), none, .idx 1 (.t 31) (.t 33)⟩, ⟨(some 36), none, .load (.t 35)⟩, ⟨(some 11), none, .mv (.t 36)⟩]) (.seq (.drw [⟨(some 37), none, .mv (.t 1)⟩, ⟨(some 38), none, .mv (.t 8)⟩, ⟨(some 39), none, .idx 1 (.t 37) (.t 38)⟩, ⟨(some 40), none, .load (.t 39)⟩, ⟨(some 41), none, .mv (.t 1)⟩, ⟨(some 42), none, .mv (.t 11)⟩, ⟨(some 43), none, .idx 1 (.t 41) (.t 42)⟩, ⟨(some 44), none, .load (.t 43)⟩, ⟨(some 45), none, .bin .gtr (.t 40) (.t 44)⟩, ⟨(some 12), none, .mv (.t 45)⟩] [[], [], [0, 1], [2], [], [], [4, 5], [6], [3, 7], [8, 0, 1, 2, 3, 4, 5, 6, 7, 8]] [[2], [2], [0, 1, 3], [2, 8], [6], [6], [4, 5, 7], [6, 8], [3, 7, 9], [8]]) (.reg [⟨(some 46), none, .fld 2 (.t 9)⟩, ⟨(some 47), none, .load (.t 46)⟩, ⟨(some 48), none, .mv (.t 11)⟩, ⟨(some 49), none, .mv (.t 12)⟩, ⟨(some 50), none, .mv (.t 12)⟩, ⟨(some 51), none, .mv (.t 12)⟩, ⟨(some 52), none, .mv (.t 12)⟩, ⟨(some 53), none, .not (.t 52)⟩, ⟨(some 54), none, .mv (.t 12)⟩, ⟨(some 55), none, .not (.t 54)⟩, ⟨(some 56), none, .build [.iv 0, .iv 0, .iv 0, .ff, .ff, .ff, .ff, .ff] [(0, 1, (.t 48)), (1, 1, (.c (.iv 1))), (3, 1, (.t 49)), (4, 1, (.t 50)), (6, 1, (.t 51)), (5, 1, (.t 53)), (7, 1, (.t 55))]⟩, ⟨(some 57), none, .bsl 49 8 1 [.iv 0, .iv 0, .iv 0, .ff, .ff, .ff, .ff, .ff] [(0, (.t 56))]⟩, ⟨(some 58), none, .app 49 8 32 (.t 47) (.t 57)⟩, ⟨(some 59), none, .fld 2 (.t 9)⟩, ⟨none, none, .store 1 (.t 59) (.t 58)⟩])))) (.reg [⟨(some 60), none, .bin .add (.t 33) (.c (.iv 1))⟩, ⟨(some 33), none, .mv (.t 60)⟩])))
def e14_L0 : EC := .seq (.reg [⟨(some 25), none, .bin .lss (.t 24) (.t 23)⟩]) (.seq (.ite (.t 25) (.skip) (.exit 0)) (.seq (.blk 1 (.seq (.reg [⟨(some 26), none, .mv (.t 24)⟩, ⟨(some 8), none, .mv (.t 26)⟩]) (.seq (.reg [⟨(some 27), none, .mv (.t 8)⟩, ⟨(some 28), none, .build [.iv 0, .iv 0, .nl] [(0, 1, (.t 27))]⟩, ⟨(some 9), none, .alloc 39 [.iv 0, .iv 0, .nl]⟩, ⟨none, none, .store 3 (.t 9) (.t 28)⟩]) (.seq (.seq (.reg [⟨(some 29), none, .loadA 2 (.t 2)⟩, ⟨(some 30), none, .mv (.t 8)⟩, ⟨(some 31), none, .call 51 [(.t 29), (.t 30)]⟩, ⟨(some 32), none, .len (.t 31)⟩, ⟨(some 33), none, .mv (.c (.iv 0))⟩]) (.blk 2 (.loop e14_L1))) (.reg [⟨(some 61), none, .mv (.t 7)⟩, ⟨(some 62), none, .loadA 3 (.t 9)⟩, ⟨(some 63), none, .bsl 39 3 1 [.iv 0, .iv 0, .nl] [(0, (.t 62))]⟩, ⟨(some 64), none, .app 39 3 40 (.t 61) (.t 63)⟩, ⟨(some 7), none, .mv (.t 64)⟩]))))) (.reg [⟨(some 65), none, .bin .add (.t 24) (.c (.iv 1))⟩, ⟨(some 24), none, .mv (.t 65)⟩])))
def e14 : EC := .seq (.reg [⟨(some 2), none, .box 24 2 (.t 0)⟩, ⟨(some 4), none, .mv (.c .nl)⟩, ⟨(some 5), none, .mv (.c (.iv 0))⟩]) (.seq (.seq (.reg [⟨(some 13), none, .loadA 2 (.t 2)⟩, ⟨(some 14), none, .call 49 [(.t 13)]⟩, ⟨(some 6), none, .mv (.t 14)⟩]) (.seq (.reg [⟨(some 15), none, .mv (.t 6)⟩, ⟨(some 16), none, .bin .neq (.t 15) (.c (.iv 0))⟩]) (.ite (.t 16) (.seq (.reg [⟨(some 17), none, .mv (.t 6)⟩, ⟨(some 4), none, .mv (.c .nl)⟩, ⟨(some 5), none, .mv (.t 17)⟩]) (.ret)) (.skip)))) (.seq (.seq (.reg [⟨(some 18), none, .loadA 2 (.t 2)⟩, ⟨(some 19), none, .mv (.t 1)⟩, ⟨(some 20), none, .call 50 [(.t 18), (.t 19)]⟩, ⟨(some 21), none, .not (.t 20)⟩]) (.ite (.t 21) (.seq (.reg [⟨(some 4), none, .mv (.c .nl)⟩, ⟨(some 5), none, .mv (.c (.iv 120))⟩]) (.ret)) (.skip))) (.seq (.reg [⟨(some 7), none, .mv (.c .nl)⟩]) (.seq (.seq (.reg [⟨(some 22), none, .fld 0 (.t 2)⟩, ⟨(some 23), none, .load (.t 22)⟩, ⟨(some 24), none, .mv (.c (.iv 0))⟩]) (.blk 0 (.loop e14_L0))) (.seq (.reg [⟨(some 66), none, .mv (.t 7)⟩, ⟨(some 4), none, .mv (.t 66)⟩, ⟨(some 5), none, .mv (.c (.iv 0))⟩]) (.ret))))))
theorem ok14 : FnOK Try.prog 14 Try.f14 e14 [.t 4, .t 5] 2 65 := ⟨by kernel_rfl, ⟨_, rfl, by kernel_rfl⟩, by kernel_rfl, by kernel_rfl⟩
/- narthex/place.Table -/
noncomputable def m_place_Table_j1  : (List Diner) → Option ((List Diner) × Int)
| x68 =>
 some (x68, 0)
noncomputable def m_place_Table_j2 (x31 : Int) (x32 : (List Diner)) : (List Side) → Option ((Int × (List Diner)) ⊕ ((List Diner) × Int))
| x59 =>
 (app_ 40 x32 ([(Diner.mk x31 0 x59)])).bind fun x60 =>
 some (.inl (wr (x31 + 1), x60))
noncomputable def m_place_Table_l2 (x2 : (List Int)) (x31 : Int) (x32 : (List Diner)) (x33 : (List Int)) : (Int × (List Side)) → Option ((Int × (List Side)) ⊕ ((Int × (List Diner)) ⊕ ((List Diner) × Int)))
| (x40, x41) =>
 ifb (decide (x40 < (ln intRow x33))) (
 (at_ x33 x40).bind fun x42 =>
 (at_ x2 x31).bind fun x43 =>
 (at_ x2 x42).bind fun x44 =>
 (app_ 32 x41 ([(Side.mk x42 1 0 (decide (x44 < x43)) (decide (x44 < x43)) (!(decide (x44 < x43))) (decide (x44 < x43)) (!(decide (x44 < x43))))])).bind fun x45 =>
 some (.inl (wr (x40 + 1), x45))) (
 Option.map Sum.inr ((m_place_Table_j2 x31 x32) x41))
noncomputable def m_place_Table_l1 (x1 : Graph) (x2 : (List Int)) : (Int × (List Diner)) → Option ((Int × (List Diner)) ⊕ ((List Diner) × Int))
| (x31, x32) =>
 ifb (decide (x31 < x1.N)) (
 (m_graph_Near x1 x31).bind fun x33 =>
 loop (m_place_Table_l2 x2 x31 x32 x33) (0, ([] : List Side))) (
 Option.map Sum.inr (m_place_Table_j1 x32))
noncomputable def m_place_Table (x1 : Graph) (x2 : (List Int)) : Option ((List Diner) × Int) :=
 (m_graph_Check x1).bind fun x3 =>
 ifb (!decide (x3 = 0)) (
 some (([] : (List Diner)), x3)) (
 (m_colour_Right x1 x2).bind fun x4 =>
 ifb (!x4) (
 some (([] : (List Diner)), 120)) (
 loop (m_place_Table_l1 x1 x2) (0, ([] : List Diner))))
theorem k_place_Table (x1 : Graph) (x2 : (List Int)) (r : ((List Diner) × Int)) (h : m_place_Table x1 x2 = some r) : FunP Try.prog 14 [.agg (Graph.row x1), .sl 1 (List.map intRow x2)] (.tup [.sl 3 (List.map Diner.row r.1), .iv r.2]) := by
  refine FunP_intro ok14 rfl rfl fun w0 H0 => ?_
  rw [m_place_Table] at h
  refine V_go 10 ?_; dsimp only [e14, e14_L0, e14_L1, go_sem, Nat.reduceBEq, Nat.reduceAdd]; refine ⟨by simp, ?_⟩; obtain ⟨x3, ex3, h⟩ := Option.bind_eq_some_iff.1 h; refine V_call trivial (k_graph_Check x1 _ ex3) (h := ?_); refine V_go 7 ?_; dsimp only [e14, e14_L0, e14_L1, go_sem, Nat.reduceBEq, Nat.reduceAdd]; refine ⟨by simp, ?_⟩; refine M_ite h rfl (fun _ h => ?_) fun _ h => ?_
  ·refine V_go 6 ?_; dsimp only [e14, e14_L0, e14_L1, go_sem, Nat.reduceBEq, Nat.reduceAdd]; refine ⟨by simp, ?_⟩; exact M_done (res := fun (r : ((List Diner) × Int)) => .tup [.sl 3 (List.map Diner.row r.1), .iv r.2]) ok14 h
  ·refine V_go 6 ?_; dsimp only [e14, e14_L0, e14_L1, go_sem, Nat.reduceBEq, Nat.reduceAdd]; refine ⟨by simp, ?_⟩; obtain ⟨x4, ex4, h⟩ := Option.bind_eq_some_iff.1 h; refine V_call trivial (k_colour_Right x1 x2 _ ex4) (h := ?_); refine V_go 2 ?_; dsimp only [e14, e14_L0, e14_L1, go_sem, Nat.reduceBEq, Nat.reduceAdd]; refine ⟨by simp, ?_⟩; refine M_ite h rfl (fun _ h => ?_) fun _ h => ?_
   ·refine V_go 5 ?_; dsimp only [e14, e14_L0, e14_L1, go_sem, Nat.reduceBEq, Nat.reduceAdd]; refine ⟨by simp, ?_⟩; exact M_done (res := fun (r : ((List Diner) × Int)) => .tup [.sl 3 (List.map Diner.row r.1), .iv r.2]) ok14 h
   ·refine V_go 12 ?_; dsimp only [e14, e14_L0, e14_L1, go_sem, Nat.reduceBEq, Nat.reduceAdd]; refine ⟨by simp, ?_⟩; refine V_join (fun (x68 : (List Diner)) => (⟨(an 7 (.osl 0 :: an 59 [])), [], [some ⟨39, 3, List.map Diner.row x68⟩]⟩ : St)) m_place_Table_j1 r ?_ fun J1 => ?_
    ·intro x68 h; rw [m_place_Table_j1] at h; (try dsimp only); refine V_go 6 ?_; dsimp only [e14, e14_L0, e14_L1, go_sem, Nat.reduceBEq, Nat.reduceAdd]; refine ⟨by simp, ?_⟩; refine V_seal 0 rfl ?_; dsimp only [go_sem, Nat.reduceBEq, Nat.reduceAdd]; exact M_done (res := fun (r : ((List Diner) × Int)) => .tup [.sl 3 (List.map Diner.row r.1), .iv r.2]) ok14 h
    ·refine V_go 1 ?_; dsimp only [e14, e14_L0, e14_L1, go_sem, Nat.reduceBEq, Nat.reduceAdd]; refine ⟨by simp, ?_⟩; refine V_own 7 39 3 rfl rfl ?_; dsimp only [go_sem, Nat.reduceBEq, Nat.reduceAdd]; refine M_loop h (fun ((x31, x32) : (Int × (List Diner))) => (⟨(.any :: .sl 1 (List.map intRow x2) :: .ptr 0 0 :: an 4 (.osl 0 :: an 15 (.iv x1.N :: .iv x31 :: an 42 []))), [some ⟨24, [.iv x1.N, .sl 2 (List.map Edge.row x1.Edges)]⟩], [some ⟨39, 3, List.map Diner.row x32⟩]⟩ : St)) (by simp [go_sem]) (by rintro ⟨x31, x32⟩; first | rfl | simp [go_sem]) ?_; rintro n1 ⟨x31, x32⟩ y1 h hin1 hout1
     rw [m_place_Table_l1] at h; (try dsimp only); refine V_go 5 ?_; dsimp only [e14, e14_L0, e14_L1, go_sem, Nat.reduceBEq, Nat.reduceAdd]; refine ⟨by simp, ?_⟩; refine M_ite h rfl (fun _ h => ?_) fun _ h => ?_
     ·refine V_go 20 ?_; dsimp only [e14, e14_L0, e14_L1, go_sem, Nat.reduceBEq, Nat.reduceAdd]; refine ⟨by simp, ?_⟩; obtain ⟨x33, ex33, h⟩ := Option.bind_eq_some_iff.1 h; refine V_call trivial (k_graph_Near x1 x31 _ ex33) (h := ?_); refine V_go 3 ?_; dsimp only [e14, e14_L0, e14_L1, go_sem, Nat.reduceBEq, Nat.reduceAdd]; refine ⟨by simp, ?_⟩
      refine V_join (fun (x59 : (List Side)) => (⟨(.any :: .sl 1 (List.map intRow x2) :: .ptr 0 0 :: an 4 (.osl 0 :: .any :: .ptr 1 0 :: an 13 (.iv x1.N :: .iv x31 :: an 42 []))), [some ⟨24, [.iv x1.N, .sl 2 (List.map Edge.row x1.Edges)]⟩, some ⟨39, [.iv x31, .iv 0, .osl 1]⟩], [some ⟨39, 3, List.map Diner.row x32⟩, some ⟨49, 8, List.map Side.row x59⟩]⟩ : St)) (m_place_Table_j2 x31 x32) y1 ?_ fun J2 => ?_
      ·intro x59 h; rw [m_place_Table_j2] at h; (try dsimp only); refine V_go 3 ?_; dsimp only [e14, e14_L0, e14_L1, go_sem, Nat.reduceBEq, Nat.reduceAdd]; refine ⟨by simp, ?_⟩; refine V_seal 1 rfl ?_; dsimp only [go_sem, Nat.reduceBEq, Nat.reduceAdd]; refine V_go 1 ?_; dsimp only [e14, e14_L0, e14_L1, go_sem, Nat.reduceBEq, Nat.reduceAdd]; refine ⟨by simp, ?_⟩; obtain ⟨x60, ex60, h⟩ := Option.bind_eq_some_iff.1 h; refine V_appM Diner.row ex60 trivial rfl rfl rfl ?_; refine V_go 7 ?_; dsimp only [e14, e14_L0, e14_L1, go_sem, Nat.reduceBEq, Nat.reduceAdd]; refine ⟨by simp, ?_⟩
       refine V_ren 3 0 rfl rfl rfl ?_; dsimp only [go_sem, Nat.reduceBEq, Nat.reduceAdd]; exact M_back h hin1
      ·refine V_go 1 ?_; dsimp only [e14, e14_L0, e14_L1, go_sem, Nat.reduceBEq, Nat.reduceAdd]; refine ⟨by simp, ?_⟩; refine V_ownB 1 2 49 8 rfl rfl rfl ?_; dsimp only [go_sem, Nat.reduceBEq, Nat.reduceAdd]
       refine M_loop h (fun ((x40, x41) : (Int × (List Side))) => (⟨(.any :: .sl 1 (List.map intRow x2) :: .ptr 0 0 :: an 4 (.osl 0 :: .iv x31 :: .ptr 1 0 :: an 13 (.iv x1.N :: .iv x31 :: an 6 (.sl 1 (List.map intRow x33) :: .iv (ln intRow x33) :: .iv x40 :: an 33 [])))), [some ⟨24, [.iv x1.N, .sl 2 (List.map Edge.row x1.Edges)]⟩, some ⟨39, [.iv x31, .iv 0, .osl 1]⟩], [some ⟨39, 3, List.map Diner.row x32⟩, some ⟨49, 8, List.map Side.row x41⟩]⟩ : St)) (by simp [go_sem]) (by rintro ⟨x40, x41⟩; first | rfl | simp [go_sem]) ?_; rintro n2 ⟨x40, x41⟩ y2 h hin2 hout2; rw [m_place_Table_l2] at h
       (try dsimp only); refine V_go 5 ?_; dsimp only [e14, e14_L0, e14_L1, go_sem, Nat.reduceBEq, Nat.reduceAdd]; refine ⟨by simp, ?_⟩; refine M_ite h rfl (fun _ h => ?_) fun _ h => ?_
       ·refine V_go 5 ?_; dsimp only [e14, e14_L0, e14_L1, go_sem, Nat.reduceBEq, Nat.reduceAdd]; refine ⟨by simp, ?_⟩; obtain ⟨x42, ex42, h⟩ := Option.bind_eq_some_iff.1 h; refine V_idxM intRow ex42 trivial rfl rfl rfl ?_; refine V_go 4 ?_; dsimp only [e14, e14_L0, e14_L1, go_sem, Nat.reduceBEq, Nat.reduceAdd]; refine ⟨by simp, ?_⟩; refine V_drw (by kernel_rfl) fun all hall hs hnap haf => ?_; dsimp only [go_sem, Nat.reduceBEq, Nat.reduceAdd]; refine G_goN hall hs haf hnap 4 6 ?_; dsimp only [go_sem, Nat.reduceBEq, Nat.reduceAdd]; refine ⟨by simp, ?_⟩
        obtain ⟨x43, ex43, h⟩ := Option.bind_eq_some_iff.1 h; refine G_idxM hall hs haf hnap 2 intRow ex43 rfl rfl trivial rfl rfl rfl rfl ?_; refine G_goN hall hs haf hnap 1 4 ?_; dsimp only [go_sem, Nat.reduceBEq, Nat.reduceAdd]; refine ⟨by simp, ?_⟩; obtain ⟨x44, ex44, h⟩ := Option.bind_eq_some_iff.1 h; refine G_idxM hall hs haf hnap 6 intRow ex44 rfl rfl trivial rfl rfl rfl rfl ?_; refine G_goN hall hs haf hnap 3 0 ?_; dsimp only [go_sem, Nat.reduceBEq, Nat.reduceAdd]; refine ⟨by simp, ?_⟩; refine G_done rfl ?_ _; refine V_go 13 ?_
        dsimp only [e14, e14_L0, e14_L1, go_sem, Nat.reduceBEq, Nat.reduceAdd]; refine ⟨by simp, ?_⟩; obtain ⟨x45, ex45, h⟩ := Option.bind_eq_some_iff.1 h; refine V_appM Side.row ex45 trivial rfl rfl rfl ?_; refine V_go 8 ?_; dsimp only [e14, e14_L0, e14_L1, go_sem, Nat.reduceBEq, Nat.reduceAdd]; refine ⟨by simp, ?_⟩; refine V_ren 3 1 rfl rfl rfl ?_; dsimp only [go_sem, Nat.reduceBEq, Nat.reduceAdd]; exact M_back h hin2
       ·refine V_go 1 ?_; dsimp only [e14, e14_L0, e14_L1, go_sem, Nat.reduceBEq, Nat.reduceAdd]; refine ⟨by simp, ?_⟩; exact M_to J2 (s := x41) (M_out h hout2)
     ·refine V_go 1 ?_; dsimp only [e14, e14_L0, e14_L1, go_sem, Nat.reduceBEq, Nat.reduceAdd]; refine ⟨by simp, ?_⟩; exact M_to J1 (s := x32) (M_out h hout1)
def f_place_Table_j1 (_F : Nat)  : (List Diner) → Option ((List Diner) × Int)
| x68 =>
 some (x68, 0)
theorem le_place_Table_j1 {F : Nat} : ∀ s, ole (f_place_Table_j1 F s) (m_place_Table_j1 s) := by
  intro x68
  unfold f_place_Table_j1 m_place_Table_j1
  try dsimp only
  with_reducible repeat' first | exact ole_refl _ | assumption | intro _ | refine ole_ifb ?_ ?_ | refine ole_bind ?_ ?_ | refine ole_map ?_ | refine ole_loop ?_
def f_place_Table_j2 (_F : Nat) (x31 : Int) (x32 : (List Diner)) : (List Side) → Option ((Int × (List Diner)) ⊕ ((List Diner) × Int))
| x59 =>
 (app_ 40 x32 ([(Diner.mk x31 0 x59)])).bind fun x60 =>
 some (.inl (wr (x31 + 1), x60))
theorem le_place_Table_j2 {F : Nat} {x31 : Int} {x32 : (List Diner)} : ∀ s, ole (f_place_Table_j2 F x31 x32 s) (m_place_Table_j2 x31 x32 s) := by
  intro x59
  unfold f_place_Table_j2 m_place_Table_j2
  try dsimp only
  with_reducible repeat' first | exact ole_refl _ | assumption | intro _ | refine ole_ifb ?_ ?_ | refine ole_bind ?_ ?_ | refine ole_map ?_ | refine ole_loop ?_ | apply le_place_Table_j1
def f_place_Table_l2 (F : Nat) (x2 : (List Int)) (x31 : Int) (x32 : (List Diner)) (x33 : (List Int)) : (Int × (List Side)) → Option ((Int × (List Side)) ⊕ ((Int × (List Diner)) ⊕ ((List Diner) × Int)))
| (x40, x41) =>
 ifb (decide (x40 < (ln intRow x33))) (
 (at_ x33 x40).bind fun x42 =>
 (at_ x2 x31).bind fun x43 =>
 (at_ x2 x42).bind fun x44 =>
 (app_ 32 x41 ([(Side.mk x42 1 0 (decide (x44 < x43)) (decide (x44 < x43)) (!(decide (x44 < x43))) (decide (x44 < x43)) (!(decide (x44 < x43))))])).bind fun x45 =>
 some (.inl (wr (x40 + 1), x45))) (
 Option.map Sum.inr ((f_place_Table_j2 F x31 x32) x41))
theorem le_place_Table_l2 {F : Nat} {x2 : (List Int)} {x31 : Int} {x32 : (List Diner)} {x33 : (List Int)} : ∀ s, ole (f_place_Table_l2 F x2 x31 x32 x33 s) (m_place_Table_l2 x2 x31 x32 x33 s) := by
  rintro ⟨x40, x41⟩
  unfold f_place_Table_l2 m_place_Table_l2
  try dsimp only
  with_reducible repeat' first | exact ole_refl _ | assumption | intro _ | refine ole_ifb ?_ ?_ | refine ole_bind ?_ ?_ | refine ole_map ?_ | refine ole_loop ?_ | apply le_place_Table_j1 | apply le_place_Table_j2
def f_place_Table_l1 (F : Nat) (x1 : Graph) (x2 : (List Int)) : (Int × (List Diner)) → Option ((Int × (List Diner)) ⊕ ((List Diner) × Int))
| (x31, x32) =>
 ifb (decide (x31 < x1.N)) (
 (f_graph_Near F x1 x31).bind fun x33 =>
 loopF F (f_place_Table_l2 F x2 x31 x32 x33) (0, ([] : List Side))) (
 Option.map Sum.inr (f_place_Table_j1 F x32))
theorem le_place_Table_l1 {F : Nat} {x1 : Graph} {x2 : (List Int)} : ∀ s, ole (f_place_Table_l1 F x1 x2 s) (m_place_Table_l1 x1 x2 s) := by
  rintro ⟨x31, x32⟩
  unfold f_place_Table_l1 m_place_Table_l1
  try dsimp only
  with_reducible repeat' first | exact ole_refl _ | assumption | intro _ | refine ole_ifb ?_ ?_ | refine ole_bind ?_ ?_ | refine ole_map ?_ | refine ole_loop ?_ | apply le_place_Table_j1 | apply le_place_Table_j2 | apply le_place_Table_l2 | apply le_graph_Near
def f_place_Table (F : Nat) (x1 : Graph) (x2 : (List Int)) : Option ((List Diner) × Int) :=
 (f_graph_Check F x1).bind fun x3 =>
 ifb (!decide (x3 = 0)) (
 some (([] : (List Diner)), x3)) (
 (f_colour_Right F x1 x2).bind fun x4 =>
 ifb (!x4) (
 some (([] : (List Diner)), 120)) (
 loopF F (f_place_Table_l1 F x1 x2) (0, ([] : List Diner))))
theorem le_place_Table {F : Nat} {x1 : Graph} {x2 : (List Int)} : ole (f_place_Table F x1 x2) (m_place_Table x1 x2) := by
  unfold f_place_Table m_place_Table
  with_reducible repeat' first | exact ole_refl _ | assumption | intro _ | refine ole_ifb ?_ ?_ | refine ole_bind ?_ ?_ | refine ole_map ?_ | refine ole_loop ?_ | apply le_place_Table_j1 | apply le_place_Table_j2 | apply le_place_Table_l2 | apply le_graph_Near | apply le_place_Table_l1 | apply le_graph_Check | apply le_colour_Right
end NX
end Go.Proofs.Ytadebhbiglmodaa
/-
  The function narthex/table.New: its code compiled, a model, and that the code answers as the model. Written by a program of ours (lb.py). No statement of the seat is proved here.
-/
namespace Go.Proofs.Ytadebhbiglmodaa
namespace NX
open Go
set_option maxRecDepth 100000
set_option maxHeartbeats 4000000
def e68 : EC := .seq (.reg [⟨(some 1), none, .box 24 2 (.t 0)⟩, ⟨(some 2), none, .alloc 43 [.nl, .nl]⟩, ⟨(some 3), none, .mv (.c (.iv 0))⟩]) (.seq (.reg [⟨(some 9), none, .loadA 2 (.t 1)⟩, ⟨(some 10), none, .call 31 [(.t 9)]⟩, ⟨(some 8), none, .mv (.t 10)⟩, ⟨(some 11), none, .ext (.t 8) 0⟩, ⟨(some 12), none, .ext (.t 8) 1⟩, ⟨(some 13), none, .ext (.t 8) 2⟩, ⟨(some 4), none, .mv (.t 11)⟩, ⟨(some 5), none, .mv (.t 12)⟩, ⟨(some 6), none, .mv (.t 13)⟩]) (.seq (.seq (.reg [⟨(some 14), none, .mv (.t 6)⟩, ⟨(some 15), none, .bin .neq (.t 14) (.c (.iv 0))⟩]) (.ite (.t 15) (.seq (.reg [⟨(some 16), none, .build [.nl, .nl] []⟩, ⟨(some 17), none, .mv (.t 6)⟩, ⟨none, none, .store 2 (.t 2) (.t 16)⟩, ⟨(some 3), none, .mv (.t 17)⟩]) (.ret)) (.skip))) (.seq (.reg [⟨(some 19), none, .loadA 2 (.t 1)⟩, ⟨(some 20), none, .mv (.t 4)⟩, ⟨(some 21), none, .call 14 [(.t 19), (.t 20)]⟩, ⟨(some 18), none, .mv (.t 21)⟩, ⟨(some 22), none, .ext (.t 18) 0⟩, ⟨(some 23), none, .ext (.t 18) 1⟩, ⟨(some 7), none, .mv (.t 22)⟩, ⟨(some 6), none, .mv (.t 23)⟩]) (.seq (.reg [⟨(some 24), none, .mv (.t 7)⟩, ⟨(some 25), none, .build [.nl, .nl] [(0, 1, (.t 24))]⟩, ⟨(some 26), none, .mv (.t 6)⟩, ⟨none, none, .store 2 (.t 2) (.t 25)⟩, ⟨(some 3), none, .mv (.t 26)⟩]) (.ret)))))
theorem ok68 : FnOK Try.prog 68 Try.f68 e68 [.c 2 (some 2), .t 3] 1 26 := ⟨by kernel_rfl, ⟨_, rfl, by kernel_rfl⟩, by kernel_rfl, by kernel_rfl⟩
/- narthex/table.New -/
noncomputable def m_table_New (x1 : Graph) : Option (Scene × Int) :=
 (m_colour_Run x1).bind fun x2 =>
 ifb (!decide (x2.2.2 = 0)) (
 some ((Scene.mk (([] : (List Diner))) (([] : (List Mail)))), x2.2.2)) (
 (m_place_Table x1 x2.1).bind fun x3 =>
 some ((Scene.mk x3.1 (([] : (List Mail)))), x3.2))
theorem k_table_New (x1 : Graph) (r : (Scene × Int)) (h : m_table_New x1 = some r) : FunP Try.prog 68 [.agg (Graph.row x1)] (.tup [.agg (Scene.row r.1), .iv r.2]) := by
  refine FunP_intro ok68 rfl rfl fun w0 H0 => ?_
  rw [m_table_New] at h
  refine V_go 9 ?_; dsimp only [e68, go_sem, Nat.reduceBEq, Nat.reduceAdd]; refine ⟨by simp, ?_⟩; obtain ⟨x2, ex2, h⟩ := Option.bind_eq_some_iff.1 h; refine V_call trivial (k_colour_Run x1 _ ex2) (h := ?_); refine V_go 14 ?_; dsimp only [e68, go_sem, Nat.reduceBEq, Nat.reduceAdd]; refine ⟨by simp, ?_⟩; refine M_ite h rfl (fun _ h => ?_) fun _ h => ?_
  ·refine V_go 7 ?_; dsimp only [e68, go_sem, Nat.reduceBEq, Nat.reduceAdd]; refine ⟨by simp, ?_⟩; exact M_done (res := fun (r : (Scene × Int)) => .tup [.agg (Scene.row r.1), .iv r.2]) ok68 h
  ·refine V_go 5 ?_; dsimp only [e68, go_sem, Nat.reduceBEq, Nat.reduceAdd]; refine ⟨by simp, ?_⟩; obtain ⟨x3, ex3, h⟩ := Option.bind_eq_some_iff.1 h; refine V_call trivial (k_place_Table x1 x2.1 _ ex3) (h := ?_); refine V_go 14 ?_; dsimp only [e68, go_sem, Nat.reduceBEq, Nat.reduceAdd]; refine ⟨by simp, ?_⟩; exact M_done (res := fun (r : (Scene × Int)) => .tup [.agg (Scene.row r.1), .iv r.2]) ok68 h
def f_table_New (F : Nat) (x1 : Graph) : Option (Scene × Int) :=
 (f_colour_Run F x1).bind fun x2 =>
 ifb (!decide (x2.2.2 = 0)) (
 some ((Scene.mk (([] : (List Diner))) (([] : (List Mail)))), x2.2.2)) (
 (f_place_Table F x1 x2.1).bind fun x3 =>
 some ((Scene.mk x3.1 (([] : (List Mail)))), x3.2))
theorem le_table_New {F : Nat} {x1 : Graph} : ole (f_table_New F x1) (m_table_New x1) := by
  unfold f_table_New m_table_New
  with_reducible repeat' first | exact ole_refl _ | assumption | intro _ | refine ole_ifb ?_ ?_ | refine ole_bind ?_ ?_ | refine ole_map ?_ | refine ole_loop ?_ | apply le_colour_Run | apply le_place_Table
end NX
end Go.Proofs.Ytadebhbiglmodaa
/-
  The function narthex/table.Check$1: its code compiled, a model, and that the code answers as the model. Written by a program of ours (lb.py). No statement of the seat is proved here.
-/
namespace Go.Proofs.Ytadebhbiglmodaa
namespace NX
open Go
set_option maxRecDepth 100000
set_option maxHeartbeats 4000000
def e101 : EC := .seq (.reg [⟨(some 2), none, .box 97 5 (.t 0)⟩, ⟨(some 3), none, .mv (.c .ff)⟩]) (.seq (.reg [⟨(some 4), none, .fld 0 (.t 2)⟩, ⟨(some 5), none, .load (.t 4)⟩, ⟨(some 6), none, .fld 1 (.t 2)⟩, ⟨(some 7), none, .load (.t 6)⟩, ⟨(some 8), none, .mm false [(.t 5), (.t 7)]⟩, ⟨(some 9), none, .bin .lss (.t 8) (.c (.iv 0))⟩, ⟨(some 10), none, .mv (.t 9)⟩, ⟨(some 11), (some (10, false)), .fld 0 (.t 2)⟩, ⟨(some 12), (some (10, false)), .load (.t 11)⟩, ⟨(some 13), (some (10, false)), .fld 1 (.t 2)⟩, ⟨(some 14), (some (10, false)), .load (.t 13)⟩, ⟨(some 15), (some (10, false)), .mm true [(.t 12), (.t 14)]⟩, ⟨(some 16), (some (10, false)), .fld 0 (.t 1)⟩, ⟨(some 17), (some (10, false)), .load (.t 16)⟩, ⟨(some 18), (some (10, false)), .len (.t 17)⟩, ⟨(some 19), (some (10, false)), .bin .geq (.t 15) (.t 18)⟩, ⟨(some 20), none, .pick (.t 10) (.c .tt) (.t 19)⟩, ⟨(some 21), none, .mv (.t 20)⟩, ⟨(some 22), (some (21, false)), .fld 0 (.t 2)⟩, ⟨(some 23), (some (21, false)), .load (.t 22)⟩, ⟨(some 24), (some (21, false)), .fld 1 (.t 2)⟩, ⟨(some 25), (some (21, false)), .load (.t 24)⟩, ⟨(some 26), (some (21, false)), .bin .eql (.t 23) (.t 25)⟩, ⟨(some 27), none, .pick (.t 21) (.c .tt) (.t 26)⟩, ⟨(some 3), none, .mv (.t 27)⟩]) (.ret))
theorem ok101 : FnOK Try.prog 101 Try.f101 e101 [.t 3] 2 26 := ⟨by kernel_rfl, ⟨_, rfl, by kernel_rfl⟩, by kernel_rfl, by kernel_rfl⟩
/- narthex/table.Check$1 -/
noncomputable def m_table_Check_1_j1  : Bool → Option Bool
| x3 =>
 some x3
noncomputable def m_table_Check_1 (x1 : Mail) (x2 : Scene) : Option Bool :=
 ifb (decide (((min x1.From x1.To)) < 0)) (
 m_table_Check_1_j1 true) (
 ifb (decide ((ln Diner.row x2.Diners) ≤ ((max x1.From x1.To)))) (
 m_table_Check_1_j1 true) (
 m_table_Check_1_j1 (decide (x1.From = x1.To))))
theorem k_table_Check_1 (x1 : Mail) (x2 : Scene) (r : Bool) (h : m_table_Check_1 x1 x2 = some r) : FunP Try.prog 101 [.agg (Mail.row x1), .elt (Scene.row x2) 0] (.bv r) := by
  refine FunP_intro ok101 rfl rfl fun w0 H0 => ?_
  rw [m_table_Check_1] at h
  refine V_go 14 ?_; dsimp only [e101, go_sem, Nat.reduceBEq, Nat.reduceAdd]; refine ⟨by simp, ?_⟩; refine V_join (fun (x3 : Bool) => (⟨(an 3 (.bv x3 :: an 24 [])), [], []⟩ : St)) m_table_Check_1_j1 r ?_ fun J1 => ?_
  ·intro x3 h; rw [m_table_Check_1_j1] at h; (try dsimp only); exact M_done (res := fun (r : Bool) => .bv r) ok101 h
  ·refine M_case 10 h rfl (fun _ h => ?_) fun _ h => ?_
   ·dsimp only [go_sem, Nat.reduceBEq, Nat.reduceAdd]; refine V_go 19 ?_; dsimp only [e101, go_sem, Nat.reduceBEq, Nat.reduceAdd]; refine ⟨by simp, ?_⟩; exact M_to J1 (s := true) h
   ·dsimp only [go_sem, Nat.reduceBEq, Nat.reduceAdd]; refine V_go 11 ?_; dsimp only [e101, go_sem, Nat.reduceBEq, Nat.reduceAdd]; refine ⟨by simp, ?_⟩; refine M_case 21 h rfl (fun _ h => ?_) fun _ h => ?_
    ·dsimp only [go_sem, Nat.reduceBEq, Nat.reduceAdd]; refine V_go 8 ?_; dsimp only [e101, go_sem, Nat.reduceBEq, Nat.reduceAdd]; refine ⟨by simp, ?_⟩; exact M_to J1 (s := true) h
    ·dsimp only [go_sem, Nat.reduceBEq, Nat.reduceAdd]; refine V_go 8 ?_; dsimp only [e101, go_sem, Nat.reduceBEq, Nat.reduceAdd]; refine ⟨by simp, ?_⟩; exact M_to J1 (s := decide (x1.From = x1.To)) h
def f_table_Check_1_j1 (_F : Nat)  : Bool → Option Bool
| x3 =>
 some x3
theorem le_table_Check_1_j1 {F : Nat} : ∀ s, ole (f_table_Check_1_j1 F s) (m_table_Check_1_j1 s) := by
  intro x3
  unfold f_table_Check_1_j1 m_table_Check_1_j1
  try dsimp only
  with_reducible repeat' first | exact ole_refl _ | assumption | intro _ | refine ole_ifb ?_ ?_ | refine ole_bind ?_ ?_ | refine ole_map ?_ | refine ole_loop ?_
def f_table_Check_1 (F : Nat) (x1 : Mail) (x2 : Scene) : Option Bool :=
 ifb (decide (((min x1.From x1.To)) < 0)) (
 f_table_Check_1_j1 F true) (
 ifb (decide ((ln Diner.row x2.Diners) ≤ ((max x1.From x1.To)))) (
 f_table_Check_1_j1 F true) (
 f_table_Check_1_j1 F (decide (x1.From = x1.To))))
theorem le_table_Check_1 {F : Nat} {x1 : Mail} {x2 : Scene} : ole (f_table_Check_1 F x1 x2) (m_table_Check_1 x1 x2) := by
  unfold f_table_Check_1 m_table_Check_1
  with_reducible repeat' first | exact ole_refl _ | assumption | intro _ | refine ole_ifb ?_ ?_ | refine ole_bind ?_ ?_ | refine ole_map ?_ | refine ole_loop ?_ | apply le_table_Check_1_j1
end NX
end Go.Proofs.Ytadebhbiglmodaa
/-
  The function narthex/table.Check$2: its code compiled, a model, and that the code answers as the model. Written by a program of ours (lb.py). No statement of the seat is proved here.
-/
namespace Go.Proofs.Ytadebhbiglmodaa
namespace NX
open Go
set_option maxRecDepth 100000
set_option maxHeartbeats 4000000
def e102 : EC := .seq (.reg [⟨(some 1), none, .box 39 3 (.t 0)⟩, ⟨(some 2), none, .mv (.c .ff)⟩]) (.seq (.reg [⟨(some 3), none, .loadA 3 (.t 1)⟩, ⟨(some 4), none, .call 103 [(.t 3)]⟩, ⟨(some 5), none, .bin .neq (.t 4) (.c (.iv 0))⟩, ⟨(some 2), none, .mv (.t 5)⟩]) (.ret))
theorem ok102 : FnOK Try.prog 102 Try.f102 e102 [.t 2] 1 5 := ⟨by kernel_rfl, ⟨_, rfl, by kernel_rfl⟩, by kernel_rfl, by kernel_rfl⟩
/- narthex/table.Check$2 -/
noncomputable def m_table_Check_2 (x1 : Diner) : Option Bool :=
 (m_dine_Check x1).bind fun x2 =>
 some (!decide (x2 = 0))
theorem k_table_Check_2 (x1 : Diner) (r : Bool) (h : m_table_Check_2 x1 = some r) : FunP Try.prog 102 [.agg (Diner.row x1)] (.bv r) := by
  refine FunP_intro ok102 rfl rfl fun w0 H0 => ?_
  rw [m_table_Check_2] at h
  refine V_go 8 ?_; dsimp only [e102, go_sem, Nat.reduceBEq, Nat.reduceAdd]; refine ⟨by simp, ?_⟩; obtain ⟨x2, ex2, h⟩ := Option.bind_eq_some_iff.1 h; refine V_call trivial (k_dine_Check x1 _ ex2) (h := ?_); refine V_go 3 ?_; dsimp only [e102, go_sem, Nat.reduceBEq, Nat.reduceAdd]; refine ⟨by simp, ?_⟩; exact M_done (res := fun (r : Bool) => .bv r) ok102 h
def f_table_Check_2 (F : Nat) (x1 : Diner) : Option Bool :=
 (f_dine_Check F x1).bind fun x2 =>
 some (!decide (x2 = 0))
theorem le_table_Check_2 {F : Nat} {x1 : Diner} : ole (f_table_Check_2 F x1) (m_table_Check_2 x1) := by
  unfold f_table_Check_2 m_table_Check_2
  with_reducible repeat' first | exact ole_refl _ | assumption | intro _ | refine ole_ifb ?_ ?_ | refine ole_bind ?_ ?_ | refine ole_map ?_ | refine ole_loop ?_ | apply le_dine_Check
end NX
end Go.Proofs.Ytadebhbiglmodaa
/-
  The function slices.IndexFunc[[]narthex/api.Diner,narthex/api.Diner]: its code compiled, a model, and that the code answers as the model. Written by a program of ours (lb.py). No statement of the seat is proved here.
-/
namespace Go.Proofs.Ytadebhbiglmodaa
namespace NX
open Go
set_option maxRecDepth 100000
set_option maxHeartbeats 4000000
def e125_L0 : EC := .seq (.reg [⟨(some 9), none, .bin .lss (.t 8) (.t 7)⟩]) (.seq (.ite (.t 9) (.skip) (.exit 0)) (.seq (.blk 1 (.seq (.reg [⟨(some 10), none, .mv (.t 8)⟩, ⟨(some 5), none, .mv (.t 10)⟩]) (.seq (.reg [⟨(some 11), none, .mv (.t 1)⟩, ⟨(some 12), none, .mv (.t 0)⟩, ⟨(some 13), none, .mv (.t 5)⟩, ⟨(some 14), none, .idx 3 (.t 12) (.t 13)⟩, ⟨(some 15), none, .loadA 3 (.t 14)⟩, ⟨(some 16), none, .callv (.t 11) [(.t 15)]⟩]) (.ite (.t 16) (.seq (.reg [⟨(some 17), none, .mv (.t 5)⟩, ⟨(some 4), none, .mv (.t 17)⟩]) (.ret)) (.skip))))) (.reg [⟨(some 18), none, .bin .add (.t 8) (.c (.iv 1))⟩, ⟨(some 8), none, .mv (.t 18)⟩])))
def e125 : EC := .seq (.reg [⟨(some 4), none, .mv (.c (.iv 0))⟩]) (.seq (.seq (.reg [⟨(some 6), none, .mv (.t 0)⟩, ⟨(some 7), none, .len (.t 6)⟩, ⟨(some 8), none, .mv (.c (.iv 0))⟩]) (.blk 0 (.loop e125_L0))) (.seq (.reg [⟨(some 4), none, .mv (.c (.iv (-1)))⟩]) (.ret)))
theorem ok125 : FnOK Try.prog 125 Try.f125 e125 [.t 4] 2 17 := ⟨by kernel_rfl, ⟨_, rfl, by kernel_rfl⟩, by kernel_rfl, by kernel_rfl⟩
/- slices.IndexFunc[[]narthex/api.Diner,narthex/api.Diner] -/
noncomputable def m_slices_IndexFunc_Diner_j1  : Unit → Option Int
| () =>
 some (-1)
noncomputable def m_slices_IndexFunc_Diner_l1 (x1 : (List Diner)) (p1 : (Diner → Option Bool)) : Int → Option (Int ⊕ Int)
| x5 =>
 ifb (decide (x5 < (ln Diner.row x1))) (
 (at_ x1 x5).bind fun x6 =>
 (p1 x6).bind fun x7 =>
 ifb x7 (
 Option.map Sum.inr (some x5)) (
 some (.inl (wr (x5 + 1))))) (
 Option.map Sum.inr (m_slices_IndexFunc_Diner_j1 ()))
noncomputable def m_slices_IndexFunc_Diner (x1 : (List Diner)) (p1 : (Diner → Option Bool)) : Option Int :=
 loop (m_slices_IndexFunc_Diner_l1 x1 p1) 0
theorem k_slices_IndexFunc_Diner (x1 : (List Diner)) (g1 : Nat) (caps1 : List AV) (p1 : (Diner → Option Bool)) (hc1 : CloOK Try.prog g1 caps1 (fun z => [.agg (Diner.row z)]) p1 (fun z => .bv z)) (r : Int) (h : m_slices_IndexFunc_Diner x1 p1 = some r) : FunP Try.prog 125 [.sl 3 (List.map Diner.row x1), .clo g1 caps1] (.iv r) := by
  refine FunP_intro ok125 rfl rfl fun w0 H0 => ?_
  rw [m_slices_IndexFunc_Diner] at h
  refine V_go 11 ?_; dsimp only [e125, e125_L0, go_sem, Nat.reduceBEq, Nat.reduceAdd]; refine ⟨by simp, ?_⟩; refine V_join (fun (_ : Unit) => (⟨(an 19 []), [], []⟩ : St)) m_slices_IndexFunc_Diner_j1 r ?_ fun J1 => ?_
  ·rintro ⟨⟩ h; rw [m_slices_IndexFunc_Diner_j1] at h; (try dsimp only); refine V_go 4 ?_; dsimp only [e125, e125_L0, go_sem, Nat.reduceBEq, Nat.reduceAdd]; refine ⟨by simp, ?_⟩; exact M_done (res := fun (r : Int) => .iv r) ok125 h
  ·refine V_go 1 ?_; dsimp only [e125, e125_L0, go_sem, Nat.reduceBEq, Nat.reduceAdd]; refine ⟨by simp, ?_⟩; refine M_loop h (fun (x5 : Int) => (⟨(.sl 3 (List.map Diner.row x1) :: .clo g1 caps1 :: an 5 (.iv (ln Diner.row x1) :: .iv x5 :: an 10 [])), [], []⟩ : St)) (by simp [go_sem]) (by intro x5; first | rfl | simp [go_sem, puL_ok _ hc1.pu]) ?_; rintro n1 x5 y1 h hin1 hout1; rw [m_slices_IndexFunc_Diner_l1] at h; (try dsimp only); refine V_go 5 ?_; dsimp only [e125, e125_L0, go_sem, Nat.reduceBEq, Nat.reduceAdd]; refine ⟨by simp, ?_⟩; refine M_ite h rfl (fun _ h => ?_) fun _ h => ?_
   ·refine V_go 13 ?_; dsimp only [e125, e125_L0, go_sem, Nat.reduceBEq, Nat.reduceAdd]; refine ⟨by simp, ?_⟩; obtain ⟨x6, ex6, h⟩ := Option.bind_eq_some_iff.1 h; refine V_idxM Diner.row ex6 trivial rfl rfl rfl ?_; refine V_go 1 ?_; dsimp only [e125, e125_L0, go_sem, Nat.reduceBEq, Nat.reduceAdd]; refine ⟨by simp, ?_⟩; obtain ⟨x7, ex7, h⟩ := Option.bind_eq_some_iff.1 h; refine V_callp trivial rfl hc1 (x := x6) ex7 (by first | exact leL_refl _ | simp [go_sem]) (by first | rfl | simp [go_sem, hc1.pu]) ?_; refine V_go 1 ?_; dsimp only [e125, e125_L0, go_sem, Nat.reduceBEq, Nat.reduceAdd]
    refine ⟨by simp, ?_⟩; refine M_ite h rfl (fun _ h => ?_) fun _ h => ?_
    ·refine V_go 5 ?_; dsimp only [e125, e125_L0, go_sem, Nat.reduceBEq, Nat.reduceAdd]; refine ⟨by simp, ?_⟩; exact M_done (res := fun (r : Int) => .iv r) ok125 (M_out h hout1)
    ·refine V_go 6 ?_; dsimp only [e125, e125_L0, go_sem, Nat.reduceBEq, Nat.reduceAdd]; refine ⟨by simp, ?_⟩; exact M_back h hin1 (hok := by first | rfl | simp [go_sem, puL_ok _ hc1.pu])
   ·refine V_go 1 ?_; dsimp only [e125, e125_L0, go_sem, Nat.reduceBEq, Nat.reduceAdd]; refine ⟨by simp, ?_⟩; exact M_to J1 (s := ()) (M_out h hout1) (hok := by first | rfl | simp [go_sem, puL_ok _ hc1.pu])
def f_slices_IndexFunc_Diner_j1 (_F : Nat)  : Unit → Option Int
| () =>
 some (-1)
theorem le_slices_IndexFunc_Diner_j1 {F : Nat} : ∀ s, ole (f_slices_IndexFunc_Diner_j1 F s) (m_slices_IndexFunc_Diner_j1 s) := by
  rintro ⟨⟩
  unfold f_slices_IndexFunc_Diner_j1 m_slices_IndexFunc_Diner_j1
  try dsimp only
  with_reducible repeat' first | exact ole_refl _ | assumption | intro _ | refine ole_ifb ?_ ?_ | refine ole_bind ?_ ?_ | refine ole_map ?_ | refine ole_loop ?_ | apply h_p1
def f_slices_IndexFunc_Diner_l1 (F : Nat) (x1 : (List Diner)) (p1 : (Diner → Option Bool)) : Int → Option (Int ⊕ Int)
| x5 =>
 ifb (decide (x5 < (ln Diner.row x1))) (
 (at_ x1 x5).bind fun x6 =>
 (p1 x6).bind fun x7 =>
 ifb x7 (
 Option.map Sum.inr (some x5)) (
 some (.inl (wr (x5 + 1))))) (
 Option.map Sum.inr (f_slices_IndexFunc_Diner_j1 F ()))
theorem le_slices_IndexFunc_Diner_l1 {F : Nat} {x1 : (List Diner)} {p1 q1 : (Diner → Option Bool)} (h_p1 : ∀ z, ole (p1 z) (q1 z)) : ∀ s, ole (f_slices_IndexFunc_Diner_l1 F x1 p1 s) (m_slices_IndexFunc_Diner_l1 x1 q1 s) := by
  intro x5
  unfold f_slices_IndexFunc_Diner_l1 m_slices_IndexFunc_Diner_l1
  try dsimp only
  with_reducible repeat' first | exact ole_refl _ | assumption | intro _ | refine ole_ifb ?_ ?_ | refine ole_bind ?_ ?_ | refine ole_map ?_ | refine ole_loop ?_ | apply le_slices_IndexFunc_Diner_j1 | apply h_p1
def f_slices_IndexFunc_Diner (F : Nat) (x1 : (List Diner)) (p1 : (Diner → Option Bool)) : Option Int :=
 loopF F (f_slices_IndexFunc_Diner_l1 F x1 p1) 0
theorem le_slices_IndexFunc_Diner {F : Nat} {x1 : (List Diner)} {p1 q1 : (Diner → Option Bool)} (h_p1 : ∀ z, ole (p1 z) (q1 z)) : ole (f_slices_IndexFunc_Diner F x1 p1) (m_slices_IndexFunc_Diner x1 q1) := by
  unfold f_slices_IndexFunc_Diner m_slices_IndexFunc_Diner
  with_reducible repeat' first | exact ole_refl _ | assumption | intro _ | refine ole_ifb ?_ ?_ | refine ole_bind ?_ ?_ | refine ole_map ?_ | refine ole_loop ?_ | apply le_slices_IndexFunc_Diner_j1 | apply le_slices_IndexFunc_Diner_l1 | apply h_p1
end NX
end Go.Proofs.Ytadebhbiglmodaa
/-
  The function slices.ContainsFunc[[]narthex/api.Diner,narthex/api.Diner]: its code compiled, a model, and that the code answers as the model. Written by a program of ours (lb.py). No statement of the seat is proved here.
-/
namespace Go.Proofs.Ytadebhbiglmodaa
namespace NX
open Go
set_option maxRecDepth 100000
set_option maxHeartbeats 4000000
def e104 : EC := .seq (.reg [⟨(some 4), none, .mv (.c .ff)⟩]) (.seq (.reg [⟨(some 5), none, .mv (.t 0)⟩, ⟨(some 6), none, .mv (.t 1)⟩, ⟨(some 7), none, .call 125 [(.t 5), (.t 6)]⟩, ⟨(some 8), none, .bin .geq (.t 7) (.c (.iv 0))⟩, ⟨(some 4), none, .mv (.t 8)⟩]) (.ret))
theorem ok104 : FnOK Try.prog 104 Try.f104 e104 [.t 4] 2 7 := ⟨by kernel_rfl, ⟨_, rfl, by kernel_rfl⟩, by kernel_rfl, by kernel_rfl⟩
/- slices.ContainsFunc[[]narthex/api.Diner,narthex/api.Diner] -/
noncomputable def m_slices_ContainsFunc_Diner (x1 : (List Diner)) (p1 : (Diner → Option Bool)) : Option Bool :=
 (m_slices_IndexFunc_Diner x1 p1).bind fun x2 =>
 some (decide (0 ≤ x2))
theorem k_slices_ContainsFunc_Diner (x1 : (List Diner)) (g1 : Nat) (caps1 : List AV) (p1 : (Diner → Option Bool)) (hc1 : CloOK Try.prog g1 caps1 (fun z => [.agg (Diner.row z)]) p1 (fun z => .bv z)) (r : Bool) (h : m_slices_ContainsFunc_Diner x1 p1 = some r) : FunP Try.prog 104 [.sl 3 (List.map Diner.row x1), .clo g1 caps1] (.bv r) := by
  refine FunP_intro ok104 rfl rfl fun w0 H0 => ?_
  rw [m_slices_ContainsFunc_Diner] at h
  refine V_go 8 ?_; dsimp only [e104, go_sem, Nat.reduceBEq, Nat.reduceAdd]; refine ⟨by simp, ?_⟩; obtain ⟨x2, ex2, h⟩ := Option.bind_eq_some_iff.1 h; refine V_call trivial (k_slices_IndexFunc_Diner x1 _ _ p1 hc1 _ ex2) (hp := (by first | rfl | simp [go_sem, hc1.pu])) (h := ?_); refine V_go 3 ?_; dsimp only [e104, go_sem, Nat.reduceBEq, Nat.reduceAdd]; refine ⟨by simp, ?_⟩; exact M_done (res := fun (r : Bool) => .bv r) ok104 h
def f_slices_ContainsFunc_Diner (F : Nat) (x1 : (List Diner)) (p1 : (Diner → Option Bool)) : Option Bool :=
 (f_slices_IndexFunc_Diner F x1 p1).bind fun x2 =>
 some (decide (0 ≤ x2))
theorem le_slices_ContainsFunc_Diner {F : Nat} {x1 : (List Diner)} {p1 q1 : (Diner → Option Bool)} (h_p1 : ∀ z, ole (p1 z) (q1 z)) : ole (f_slices_ContainsFunc_Diner F x1 p1) (m_slices_ContainsFunc_Diner x1 q1) := by
  unfold f_slices_ContainsFunc_Diner m_slices_ContainsFunc_Diner
  with_reducible repeat' first | exact ole_refl _ | assumption | intro _ | refine ole_ifb ?_ ?_ | refine ole_bind ?_ ?_ | refine ole_map ?_ | refine ole_loop ?_ | apply le_slices_IndexFunc_Diner | apply h_p1
end NX
end Go.Proofs.Ytadebhbiglmodaa
/-
  The function slices.IndexFunc[[]narthex/api.Mail,narthex/api.Mail]: its code compiled, a model, and that the code answers as the model. Written by a program of ours (lb.py). No statement of the seat is proved here.
-/
namespace Go.Proofs.Ytadebhbiglmodaa
namespace NX
open Go
set_option maxRecDepth 100000
set_option maxHeartbeats 4000000
def e95_L0 : EC := .seq (.reg [⟨(some 9), none, .bin .lss (.t 8) (.t 7)⟩]) (.seq (.ite (.t 9) (.skip) (.exit 0)) (.seq (.blk 1 (.seq (.reg [⟨(some 10), none, .mv (.t 8)⟩, ⟨(some 5), none, .mv (.t 10)⟩]) (.seq (.reg [⟨(some 11), none, .mv (.t 1)⟩, ⟨(some 12), none, .mv (.t 0)⟩, ⟨(some 13), none, .mv (.t 5)⟩, ⟨(some 14), none, .idx 5 (.t 12) (.t 13)⟩, ⟨(some 15), none, .loadA 5 (.t 14)⟩, ⟨(some 16), none, .callv (.t 11) [(.t 15)]⟩]) (.ite (.t 16) (.seq (.reg [⟨(some 17), none, .mv (.t 5)⟩, ⟨(some 4), none, .mv (.t 17)⟩]) (.ret)) (.skip))))) (.reg [⟨(some 18), none, .bin .add (.t 8) (.c (.iv 1))⟩, ⟨(some 8), none, .mv (.t 18)⟩])))
def e95 : EC := .seq (.reg [⟨(some 4), none, .mv (.c (.iv 0))⟩]) (.seq (.seq (.reg [⟨(some 6), none, .mv (.t 0)⟩, ⟨(some 7), none, .len (.t 6)⟩, ⟨(some 8), none, .mv (.c (.iv 0))⟩]) (.blk 0 (.loop e95_L0))) (.seq (.reg [⟨(some 4), none, .mv (.c (.iv (-1)))⟩]) (.ret)))
theorem ok95 : FnOK Try.prog 95 Try.f95 e95 [.t 4] 2 17 := ⟨by kernel_rfl, ⟨_, rfl, by kernel_rfl⟩, by kernel_rfl, by kernel_rfl⟩
/- slices.IndexFunc[[]narthex/api.Mail,narthex/api.Mail] -/
noncomputable def m_slices_IndexFunc_Mail_j1  : Unit → Option Int
| () =>
 some (-1)
noncomputable def m_slices_IndexFunc_Mail_l1 (x1 : (List Mail)) (p1 : (Mail → Option Bool)) : Int → Option (Int ⊕ Int)
| x5 =>
 ifb (decide (x5 < (ln Mail.row x1))) (
 (at_ x1 x5).bind fun x6 =>
 (p1 x6).bind fun x7 =>
 ifb x7 (
 Option.map Sum.inr (some x5)) (
 some (.inl (wr (x5 + 1))))) (
 Option.map Sum.inr (m_slices_IndexFunc_Mail_j1 ()))
noncomputable def m_slices_IndexFunc_Mail (x1 : (List Mail)) (p1 : (Mail → Option Bool)) : Option Int :=
 loop (m_slices_IndexFunc_Mail_l1 x1 p1) 0
theorem k_slices_IndexFunc_Mail (x1 : (List Mail)) (g1 : Nat) (caps1 : List AV) (p1 : (Mail → Option Bool)) (hc1 : CloOK Try.prog g1 caps1 (fun z => [.agg (Mail.row z)]) p1 (fun z => .bv z)) (r : Int) (h : m_slices_IndexFunc_Mail x1 p1 = some r) : FunP Try.prog 95 [.sl 5 (List.map Mail.row x1), .clo g1 caps1] (.iv r) := by
  refine FunP_intro ok95 rfl rfl fun w0 H0 => ?_
  rw [m_slices_IndexFunc_Mail] at h
  refine V_go 11 ?_; dsimp only [e95, e95_L0, go_sem, Nat.reduceBEq, Nat.reduceAdd]; refine ⟨by simp, ?_⟩; refine V_join (fun (_ : Unit) => (⟨(an 19 []), [], []⟩ : St)) m_slices_IndexFunc_Mail_j1 r ?_ fun J1 => ?_
  ·rintro ⟨⟩ h; rw [m_slices_IndexFunc_Mail_j1] at h; (try dsimp only); refine V_go 4 ?_; dsimp only [e95, e95_L0, go_sem, Nat.reduceBEq, Nat.reduceAdd]; refine ⟨by simp, ?_⟩; exact M_done (res := fun (r : Int) => .iv r) ok95 h
  ·refine V_go 1 ?_; dsimp only [e95, e95_L0, go_sem, Nat.reduceBEq, Nat.reduceAdd]; refine ⟨by simp, ?_⟩; refine M_loop h (fun (x5 : Int) => (⟨(.sl 5 (List.map Mail.row x1) :: .clo g1 caps1 :: an 5 (.iv (ln Mail.row x1) :: .iv x5 :: an 10 [])), [], []⟩ : St)) (by simp [go_sem]) (by intro x5; first | rfl | simp [go_sem, puL_ok _ hc1.pu]) ?_; rintro n1 x5 y1 h hin1 hout1; rw [m_slices_IndexFunc_Mail_l1] at h; (try dsimp only); refine V_go 5 ?_; dsimp only [e95, e95_L0, go_sem, Nat.reduceBEq, Nat.reduceAdd]; refine ⟨by simp, ?_⟩; refine M_ite h rfl (fun _ h => ?_) fun _ h => ?_
   ·refine V_go 13 ?_; dsimp only [e95, e95_L0, go_sem, Nat.reduceBEq, Nat.reduceAdd]; refine ⟨by simp, ?_⟩; obtain ⟨x6, ex6, h⟩ := Option.bind_eq_some_iff.1 h; refine V_idxM Mail.row ex6 trivial rfl rfl rfl ?_; refine V_go 1 ?_; dsimp only [e95, e95_L0, go_sem, Nat.reduceBEq, Nat.reduceAdd]; refine ⟨by simp, ?_⟩; obtain ⟨x7, ex7, h⟩ := Option.bind_eq_some_iff.1 h; refine V_callp trivial rfl hc1 (x := x6) ex7 (by first | exact leL_refl _ | simp [go_sem]) (by first | rfl | simp [go_sem, hc1.pu]) ?_; refine V_go 1 ?_; dsimp only [e95, e95_L0, go_sem, Nat.reduceBEq, Nat.reduceAdd]
    refine ⟨by simp, ?_⟩; refine M_ite h rfl (fun _ h => ?_) fun _ h => ?_
    ·refine V_go 5 ?_; dsimp only [e95, e95_L0, go_sem, Nat.reduceBEq, Nat.reduceAdd]; refine ⟨by simp, ?_⟩; exact M_done (res := fun (r : Int) => .iv r) ok95 (M_out h hout1)
    ·refine V_go 6 ?_; dsimp only [e95, e95_L0, go_sem, Nat.reduceBEq, Nat.reduceAdd]; refine ⟨by simp, ?_⟩; exact M_back h hin1 (hok := by first | rfl | simp [go_sem, puL_ok _ hc1.pu])
   ·refine V_go 1 ?_; dsimp only [e95, e95_L0, go_sem, Nat.reduceBEq, Nat.reduceAdd]; refine ⟨by simp, ?_⟩; exact M_to J1 (s := ()) (M_out h hout1) (hok := by first | rfl | simp [go_sem, puL_ok _ hc1.pu])
def f_slices_IndexFunc_Mail_j1 (_F : Nat)  : Unit → Option Int
| () =>
 some (-1)
theorem le_slices_IndexFunc_Mail_j1 {F : Nat} : ∀ s, ole (f_slices_IndexFunc_Mail_j1 F s) (m_slices_IndexFunc_Mail_j1 s) := by
  rintro ⟨⟩
  unfold f_slices_IndexFunc_Mail_j1 m_slices_IndexFunc_Mail_j1
  try dsimp only
  with_reducible repeat' first | exact ole_refl _ | assumption | intro _ | refine ole_ifb ?_ ?_ | refine ole_bind ?_ ?_ | refine ole_map ?_ | refine ole_loop ?_ | apply h_p1
def f_slices_IndexFunc_Mail_l1 (F : Nat) (x1 : (List Mail)) (p1 : (Mail → Option Bool)) : Int → Option (Int ⊕ Int)
| x5 =>
 ifb (decide (x5 < (ln Mail.row x1))) (
 (at_ x1 x5).bind fun x6 =>
 (p1 x6).bind fun x7 =>
 ifb x7 (
 Option.map Sum.inr (some x5)) (
 some (.inl (wr (x5 + 1))))) (
 Option.map Sum.inr (f_slices_IndexFunc_Mail_j1 F ()))
theorem le_slices_IndexFunc_Mail_l1 {F : Nat} {x1 : (List Mail)} {p1 q1 : (Mail → Option Bool)} (h_p1 : ∀ z, ole (p1 z) (q1 z)) : ∀ s, ole (f_slices_IndexFunc_Mail_l1 F x1 p1 s) (m_slices_IndexFunc_Mail_l1 x1 q1 s) := by
  intro x5
  unfold f_slices_IndexFunc_Mail_l1 m_slices_IndexFunc_Mail_l1
  try dsimp only
  with_reducible repeat' first | exact ole_refl _ | assumption | intro _ | refine ole_ifb ?_ ?_ | refine ole_bind ?_ ?_ | refine ole_map ?_ | refine ole_loop ?_ | apply le_slices_IndexFunc_Mail_j1 | apply h_p1
def f_slices_IndexFunc_Mail (F : Nat) (x1 : (List Mail)) (p1 : (Mail → Option Bool)) : Option Int :=
 loopF F (f_slices_IndexFunc_Mail_l1 F x1 p1) 0
theorem le_slices_IndexFunc_Mail {F : Nat} {x1 : (List Mail)} {p1 q1 : (Mail → Option Bool)} (h_p1 : ∀ z, ole (p1 z) (q1 z)) : ole (f_slices_IndexFunc_Mail F x1 p1) (m_slices_IndexFunc_Mail x1 q1) := by
  unfold f_slices_IndexFunc_Mail m_slices_IndexFunc_Mail
  with_reducible repeat' first | exact ole_refl _ | assumption | intro _ | refine ole_ifb ?_ ?_ | refine ole_bind ?_ ?_ | refine ole_map ?_ | refine ole_loop ?_ | apply le_slices_IndexFunc_Mail_j1 | apply le_slices_IndexFunc_Mail_l1 | apply h_p1
end NX
end Go.Proofs.Ytadebhbiglmodaa
/-
  The function slices.ContainsFunc[[]narthex/api.Mail,narthex/api.Mail]: its code compiled, a model, and that the code answers as the model. Written by a program of ours (lb.py). No statement of the seat is proved here.
-/
namespace Go.Proofs.Ytadebhbiglmodaa
namespace NX
open Go
set_option maxRecDepth 100000
set_option maxHeartbeats 4000000
def e105 : EC := .seq (.reg [⟨(some 4), none, .mv (.c .ff)⟩]) (.seq (.reg [⟨(some 5), none, .mv (.t 0)⟩, ⟨(some 6), none, .mv (.t 1)⟩, ⟨(some 7), none, .call 95 [(.t 5), (.t 6)]⟩, ⟨(some 8), none, .bin .geq (.t 7) (.c (.iv 0))⟩, ⟨(some 4), none, .mv (.t 8)⟩]) (.ret))
theorem ok105 : FnOK Try.prog 105 Try.f105 e105 [.t 4] 2 7 := ⟨by kernel_rfl, ⟨_, rfl, by kernel_rfl⟩, by kernel_rfl, by kernel_rfl⟩
/- slices.ContainsFunc[[]narthex/api.Mail,narthex/api.Mail] -/
noncomputable def m_slices_ContainsFunc_Mail (x1 : (List Mail)) (p1 : (Mail → Option Bool)) : Option Bool :=
 (m_slices_IndexFunc_Mail x1 p1).bind fun x2 =>
 some (decide (0 ≤ x2))
theorem k_slices_ContainsFunc_Mail (x1 : (List Mail)) (g1 : Nat) (caps1 : List AV) (p1 : (Mail → Option Bool)) (hc1 : CloOK Try.prog g1 caps1 (fun z => [.agg (Mail.row z)]) p1 (fun z => .bv z)) (r : Bool) (h : m_slices_ContainsFunc_Mail x1 p1 = some r) : FunP Try.prog 105 [.sl 5 (List.map Mail.row x1), .clo g1 caps1] (.bv r) := by
  refine FunP_intro ok105 rfl rfl fun w0 H0 => ?_
  rw [m_slices_ContainsFunc_Mail] at h
  refine V_go 8 ?_; dsimp only [e105, go_sem, Nat.reduceBEq, Nat.reduceAdd]; refine ⟨by simp, ?_⟩; obtain ⟨x2, ex2, h⟩ := Option.bind_eq_some_iff.1 h; refine V_call trivial (k_slices_IndexFunc_Mail x1 _ _ p1 hc1 _ ex2) (hp := (by first | rfl | simp [go_sem, hc1.pu])) (h := ?_); refine V_go 3 ?_; dsimp only [e105, go_sem, Nat.reduceBEq, Nat.reduceAdd]; refine ⟨by simp, ?_⟩; exact M_done (res := fun (r : Bool) => .bv r) ok105 h
def f_slices_ContainsFunc_Mail (F : Nat) (x1 : (List Mail)) (p1 : (Mail → Option Bool)) : Option Bool :=
 (f_slices_IndexFunc_Mail F x1 p1).bind fun x2 =>
 some (decide (0 ≤ x2))
theorem le_slices_ContainsFunc_Mail {F : Nat} {x1 : (List Mail)} {p1 q1 : (Mail → Option Bool)} (h_p1 : ∀ z, ole (p1 z) (q1 z)) : ole (f_slices_ContainsFunc_Mail F x1 p1) (m_slices_ContainsFunc_Mail x1 q1) := by
  unfold f_slices_ContainsFunc_Mail m_slices_ContainsFunc_Mail
  with_reducible repeat' first | exact ole_refl _ | assumption | intro _ | refine ole_ifb ?_ ?_ | refine ole_bind ?_ ?_ | refine ole_map ?_ | refine ole_loop ?_ | apply le_slices_IndexFunc_Mail | apply h_p1
end NX
end Go.Proofs.Ytadebhbiglmodaa
/-
  The function narthex/table.Check: its code compiled, a model, and that the code answers as the model. Written by a program of ours (lb.py). No statement of the seat is proved here.
-/
namespace Go.Proofs.Ytadebhbiglmodaa
namespace NX
open Go
set_option maxRecDepth 100000
set_option maxHeartbeats 4000000
def e71 : EC := .seq (.reg [⟨(some 1), none, .box 43 2 (.t 0)⟩, ⟨(some 2), none, .mv (.c (.iv 0))⟩]) (.seq (.reg [⟨(some 7), none, .mkf 101 [(.t 1)]⟩, ⟨(some 3), none, .mv (.t 7)⟩]) (.seq (.reg [⟨(some 4), none, .mv (.c (.clo 102 []))⟩]) (.seq (.seq (.reg [⟨(some 9), none, .fld 0 (.t 1)⟩, ⟨(some 10), none, .load (.t 9)⟩, ⟨(some 11), none, .call 21 [(.t 10)]⟩, ⟨(some 8), none, .mv (.t 11)⟩, ⟨(some 12), none, .ext (.t 8) 0⟩, ⟨(some 13), none, .ext (.t 8) 1⟩, ⟨(some 5), none, .alloc 24 [.iv 0, .nl]⟩, ⟨none, none, .store 2 (.t 5) (.t 12)⟩, ⟨(some 6), none, .mv (.t 13)⟩]) (.seq (.reg [⟨(some 14), none, .mv (.t 6)⟩, ⟨(some 15), none, .not (.t 14)⟩, ⟨(some 16), none, .mv (.t 15)⟩, ⟨(some 17), (some (16, false)), .fld 0 (.t 1)⟩, ⟨(some 18), (some (16, false)), .load (.t 17)⟩, ⟨(some 19), (some (16, false)), .mv (.t 4)⟩, ⟨(some 20), (some (16, false)), .call 104 [(.t 18), (.t 19)]⟩, ⟨(some 21), none, .pick (.t 16) (.c .tt) (.t 20)⟩, ⟨(some 22), none, .mv (.t 21)⟩, ⟨(some 23), (some (22, false)), .fld 1 (.t 1)⟩, ⟨(some 24), (some (22, false)), .load (.t 23)⟩, ⟨(some 25), (some (22, false)), .mv (.t 3)⟩, ⟨(some 26), (some (22, false)), .call 105 [(.t 24), (.t 25)]⟩, ⟨(some 27), none, .pick (.t 22) (.c .tt) (.t 26)⟩]) (.ite (.t 27) (.seq (.reg [⟨(some 2), none, .mv (.c (.iv 142))⟩]) (.ret)) (.skip)))) (.seq (.reg [⟨(some 2), none, .mv (.c (.iv 0))⟩]) (.ret)))))
theorem ok71 : FnOK Try.prog 71 Try.f71 e71 [.t 2] 1 27 := ⟨by kernel_rfl, ⟨_, rfl, by kernel_rfl⟩, by kernel_rfl, by kernel_rfl⟩
/- narthex/table.Check -/
noncomputable def m_table_Check_j1  : Bool → Option Int
| x5 =>
 ifb x5 (
 some 142) (
 some 0)
noncomputable def m_table_Check (x1 : Scene) : Option Int :=
 (m_place_Graph x1.Diners).bind fun x2 =>
 ifb (!x2.2) (
 m_table_Check_j1 true) (
 (m_slices_ContainsFunc_Diner x1.Diners ((fun z => m_table_Check_2 z))).bind fun x3 =>
 ifb x3 (
 m_table_Check_j1 true) (
 (m_slices_ContainsFunc_Mail x1.Mail ((fun z => m_table_Check_1 z x1))).bind fun x4 =>
 m_table_Check_j1 x4))
theorem k_table_Check (x1 : Scene) (r : Int) (h : m_table_Check x1 = some r) : FunP Try.prog 71 [.agg (Scene.row x1)] (.iv r) := by
  refine FunP_intro ok71 rfl rfl fun w0 H0 => ?_
  rw [m_table_Check] at h
  refine V_go 19 ?_; dsimp only [e71, go_sem, Nat.reduceBEq, Nat.reduceAdd]; refine ⟨by simp, ?_⟩; obtain ⟨x2, ex2, h⟩ := Option.bind_eq_some_iff.1 h; refine V_call trivial (k_place_Graph x1.Diners _ ex2) (h := ?_); refine V_go 12 ?_; dsimp only [e71, go_sem, Nat.reduceBEq, Nat.reduceAdd]; refine ⟨by simp, ?_⟩; refine V_join (fun (x5 : Bool) => (⟨(an 27 [.bv x5]), [], []⟩ : St)) m_table_Check_j1 r ?_ fun J1 => ?_
  ·intro x5 h; rw [m_table_Check_j1] at h; (try dsimp only); refine M_ite h rfl (fun _ h => ?_) fun _ h => ?_
   ·refine V_go 4 ?_; dsimp only [e71, go_sem, Nat.reduceBEq, Nat.reduceAdd]; refine ⟨by simp, ?_⟩; exact M_done (res := fun (r : Int) => .iv r) ok71 h
   ·refine V_go 5 ?_; dsimp only [e71, go_sem, Nat.reduceBEq, Nat.reduceAdd]; refine ⟨by simp, ?_⟩; exact M_done (res := fun (r : Int) => .iv r) ok71 h
  ·refine M_case 16 h rfl (fun _ h => ?_) fun _ h => ?_
   ·dsimp only [go_sem, Nat.reduceBEq, Nat.reduceAdd]; refine V_go 12 ?_; dsimp only [e71, go_sem, Nat.reduceBEq, Nat.reduceAdd]; refine ⟨by simp, ?_⟩; exact M_to J1 (s := true) h
   ·dsimp only [go_sem, Nat.reduceBEq, Nat.reduceAdd]; refine V_go 3 ?_; dsimp only [e71, go_sem, Nat.reduceBEq, Nat.reduceAdd]; refine ⟨by simp, ?_⟩; obtain ⟨x3, ex3, h⟩ := Option.bind_eq_some_iff.1 h; refine V_call trivial (k_slices_ContainsFunc_Diner x1.Diners _ _ ((fun z => m_table_Check_2 z)) ⟨by kernel_rfl, rfl, fun z r hz => k_table_Check_2 z r hz⟩ _ ex3) (h := ?_); refine V_go 2 ?_; dsimp only [e71, go_sem, Nat.reduceBEq, Nat.reduceAdd]; refine ⟨by simp, ?_⟩; refine M_case 22 h rfl (fun _ h => ?_) fun _ h => ?_
    ·dsimp only [go_sem, Nat.reduceBEq, Nat.reduceAdd]; refine V_go 6 ?_; dsimp only [e71, go_sem, Nat.reduceBEq, Nat.reduceAdd]; refine ⟨by simp, ?_⟩; exact M_to J1 (s := true) h
    ·dsimp only [go_sem, Nat.reduceBEq, Nat.reduceAdd]; refine V_go 3 ?_; dsimp only [e71, go_sem, Nat.reduceBEq, Nat.reduceAdd]; refine ⟨by simp, ?_⟩; obtain ⟨x4, ex4, h⟩ := Option.bind_eq_some_iff.1 h; refine V_callL trivial ((Lend.refl _).block 0 rfl rfl) (k_slices_ContainsFunc_Mail x1.Mail _ _ ((fun z => m_table_Check_1 z x1)) ⟨by kernel_rfl, rfl, fun z r hz => k_table_Check_1 z x1 r hz⟩ _ ex4) (h := ?_); refine V_go 2 ?_; dsimp only [e71, go_sem, Nat.reduceBEq, Nat.reduceAdd]; refine ⟨by simp, ?_⟩; exact M_to J1 (s := x4) h
def f_table_Check_j1 (_F : Nat)  : Bool → Option Int
| x5 =>
 ifb x5 (
 some 142) (
 some 0)
theorem le_table_Check_j1 {F : Nat} : ∀ s, ole (f_table_Check_j1 F s) (m_table_Check_j1 s) := by
  intro x5
  unfold f_table_Check_j1 m_table_Check_j1
  try dsimp only
  with_reducible repeat' first | exact ole_refl _ | assumption | intro _ | refine ole_ifb ?_ ?_ | refine ole_bind ?_ ?_ | refine ole_map ?_ | refine ole_loop ?_
def f_table_Check (F : Nat) (x1 : Scene) : Option Int :=
 (f_place_Graph F x1.Diners).bind fun x2 =>
 ifb (!x2.2) (
 f_table_Check_j1 F true) (
 (f_slices_ContainsFunc_Diner F x1.Diners ((fun z => f_table_Check_2 F z))).bind fun x3 =>
 ifb x3 (
 f_table_Check_j1 F true) (
 (f_slices_ContainsFunc_Mail F x1.Mail ((fun z => f_table_Check_1 F z x1))).bind fun x4 =>
 f_table_Check_j1 F x4))
theorem le_table_Check {F : Nat} {x1 : Scene} : ole (f_table_Check F x1) (m_table_Check x1) := by
  unfold f_table_Check m_table_Check
  with_reducible repeat' first | exact ole_refl _ | assumption | intro _ | refine ole_ifb ?_ ?_ | refine ole_bind ?_ ?_ | refine ole_map ?_ | refine ole_loop ?_ | apply le_table_Check_j1 | apply le_place_Graph | apply le_slices_ContainsFunc_Diner | apply le_table_Check_2 | apply le_slices_ContainsFunc_Mail | apply le_table_Check_1
end NX
end Go.Proofs.Ytadebhbiglmodaa
/-
  The function narthex/table.there: its code compiled, a model, and that the code answers as the model. Written by a program of ours (lb.py). No statement of the seat is proved here.
-/
namespace Go.Proofs.Ytadebhbiglmodaa
namespace NX
open Go
set_option maxRecDepth 100000
set_option maxHeartbeats 4000000
def e73 : EC := .seq (.reg [⟨(some 2), none, .box 43 2 (.t 0)⟩, ⟨(some 4), none, .mv (.c .ff)⟩]) (.seq (.reg [⟨(some 5), none, .mv (.t 1)⟩, ⟨(some 6), none, .bin .geq (.t 5) (.c (.iv 0))⟩, ⟨(some 7), none, .mv (.t 6)⟩, ⟨(some 8), (some (7, true)), .mv (.t 1)⟩, ⟨(some 9), (some (7, true)), .fld 0 (.t 2)⟩, ⟨(some 10), (some (7, true)), .load (.t 9)⟩, ⟨(some 11), (some (7, true)), .len (.t 10)⟩, ⟨(some 12), (some (7, true)), .bin .lss (.t 8) (.t 11)⟩, ⟨(some 13), none, .pick (.t 7) (.t 12) (.c .ff)⟩, ⟨(some 4), none, .mv (.t 13)⟩]) (.ret))
theorem ok73 : FnOK Try.prog 73 Try.f73 e73 [.t 4] 2 12 := ⟨by kernel_rfl, ⟨_, rfl, by kernel_rfl⟩, by kernel_rfl, by kernel_rfl⟩
/- narthex/table.there -/
noncomputable def m_table_there_j1  : Bool → Option Bool
| x3 =>
 some x3
noncomputable def m_table_there (x1 : Scene) (x2 : Int) : Option Bool :=
 ifb (decide (0 ≤ x2)) (
 m_table_there_j1 (decide (x2 < (ln Diner.row x1.Diners)))) (
 m_table_there_j1 false)
theorem k_table_there (x1 : Scene) (x2 : Int) (r : Bool) (h : m_table_there x1 x2 = some r) : FunP Try.prog 73 [.agg (Scene.row x1), .iv x2] (.bv r) := by
  refine FunP_intro ok73 rfl rfl fun w0 H0 => ?_
  rw [m_table_there] at h
  refine V_go 10 ?_; dsimp only [e73, go_sem, Nat.reduceBEq, Nat.reduceAdd]; refine ⟨by simp, ?_⟩; refine V_join (fun (x3 : Bool) => (⟨(an 4 (.bv x3 :: an 9 [])), [], []⟩ : St)) m_table_there_j1 r ?_ fun J1 => ?_
  ·intro x3 h; rw [m_table_there_j1] at h; (try dsimp only); exact M_done (res := fun (r : Bool) => .bv r) ok73 h
  ·refine M_case 7 h rfl (fun _ h => ?_) fun _ h => ?_
   ·dsimp only [go_sem, Nat.reduceBEq, Nat.reduceAdd]; refine V_go 8 ?_; dsimp only [e73, go_sem, Nat.reduceBEq, Nat.reduceAdd]; refine ⟨by simp, ?_⟩; exact M_to J1 (s := decide (x2 < (ln Diner.row x1.Diners))) h
   ·dsimp only [go_sem, Nat.reduceBEq, Nat.reduceAdd]; refine V_go 8 ?_; dsimp only [e73, go_sem, Nat.reduceBEq, Nat.reduceAdd]; refine ⟨by simp, ?_⟩; exact M_to J1 (s := false) h
def f_table_there_j1 (_F : Nat)  : Bool → Option Bool
| x3 =>
 some x3
theorem le_table_there_j1 {F : Nat} : ∀ s, ole (f_table_there_j1 F s) (m_table_there_j1 s) := by
  intro x3
  unfold f_table_there_j1 m_table_there_j1
  try dsimp only
  with_reducible repeat' first | exact ole_refl _ | assumption | intro _ | refine ole_ifb ?_ ?_ | refine ole_bind ?_ ?_ | refine ole_map ?_ | refine ole_loop ?_
def f_table_there (F : Nat) (x1 : Scene) (x2 : Int) : Option Bool :=
 ifb (decide (0 ≤ x2)) (
 f_table_there_j1 F (decide (x2 < (ln Diner.row x1.Diners)))) (
 f_table_there_j1 F false)
theorem le_table_there {F : Nat} {x1 : Scene} {x2 : Int} : ole (f_table_there F x1 x2) (m_table_there x1 x2) := by
  unfold f_table_there m_table_there
  with_reducible repeat' first | exact ole_refl _ | assumption | intro _ | refine ole_ifb ?_ ?_ | refine ole_bind ?_ ?_ | refine ole_map ?_ | refine ole_loop ?_ | apply le_table_there_j1
end NX
end Go.Proofs.Ytadebhbiglmodaa
/-
  The function slices.Grow[[]narthex/api.Mail,narthex/api.Mail]: its code compiled, a model, and that the code answers as the model. Written by a program of ours (lb.py). No statement of the seat is proved here.
-/
namespace Go.Proofs.Ytadebhbiglmodaa
namespace NX
open Go
set_option maxRecDepth 100000
set_option maxHeartbeats 4000000
def e119 : EC := .seq (.reg [⟨(some 4), none, .mv (.c .nl)⟩]) (.seq (.seq (.reg [⟨(some 5), none, .mv (.t 1)⟩, ⟨(some 6), none, .bin .lss (.t 5) (.c (.iv 0))⟩]) (.ite (.t 6) (.reg [⟨(some 7), none, .bad⟩, ⟨none, none, .bad⟩]) (.skip))) (.seq (.seq (.reg [⟨(some 8), none, .mv (.t 1)⟩, ⟨(some 9), none, .mv (.t 0)⟩, ⟨(some 10), none, .cap (.t 9)⟩, ⟨(some 11), none, .mv (.t 0)⟩, ⟨(some 12), none, .len (.t 11)⟩, ⟨(some 13), none, .bin .sub (.t 10) (.t 12)⟩, ⟨(some 14), none, .bin .sub (.t 8) (.t 13)⟩, ⟨(some 1), none, .mv (.t 14)⟩]) (.seq (.reg [⟨(some 15), none, .mv (.t 1)⟩, ⟨(some 16), none, .bin .gtr (.t 15) (.c (.iv 0))⟩]) (.ite (.t 16) (.reg [⟨(some 17), none, .mv (.t 0)⟩, ⟨(some 18), none, .mv (.t 0)⟩, ⟨(some 19), none, .cap (.t 18)⟩, ⟨(some 20), none, .slice 5 (.t 17) none (some (.t 19))⟩, ⟨(some 21), none, .mv (.t 1)⟩, ⟨(some 22), none, .apz 97 5 40 [.iv 0, .iv 0, .iv 0, .iv 0, .iv 0] (.t 20) (.t 21)⟩, ⟨(some 23), none, .mv (.t 0)⟩, ⟨(some 24), none, .len (.t 23)⟩, ⟨(some 25), none, .slice 5 (.t 22) none (some (.t 24))⟩, ⟨(some 0), none, .mv (.t 25)⟩]) (.skip)))) (.seq (.reg [⟨(some 26), none, .mv (.t 0)⟩, ⟨(some 4), none, .mv (.t 26)⟩]) (.ret))))
theorem ok119 : FnOK Try.prog 119 Try.f119 e119 [.t 4] 2 25 := ⟨by kernel_rfl, ⟨_, rfl, by kernel_rfl⟩, by kernel_rfl, by kernel_rfl⟩
/- slices.Grow[[]narthex/api.Mail,narthex/api.Mail] -/
noncomputable def m_slices_Grow_Mail (_x1 : (List Mail)) (_x2 : Int) : Option (List Mail) :=
 none
theorem k_slices_Grow_Mail (x1 : (List Mail)) (x2 : Int) (r : (List Mail)) (h : m_slices_Grow_Mail x1 x2 = some r) : FunP Try.prog 119 [.sl 5 (List.map Mail.row x1), .iv x2] (.sl 5 (List.map Mail.row r)) := by
  simp [m_slices_Grow_Mail] at h
def f_slices_Grow_Mail (_F : Nat) (_x1 : (List Mail)) (_x2 : Int) : Option (List Mail) := none
theorem le_slices_Grow_Mail {F : Nat} {x1 : (List Mail)} {x2 : Int} : ole (f_slices_Grow_Mail F x1 x2) (m_slices_Grow_Mail x1 x2) := ⟨fun _ h => by simp [f_slices_Grow_Mail] at h⟩
end NX
end Go.Proofs.Ytadebhbiglmodaa
/-
  The function slices.Concat[[]narthex/api.Mail,narthex/api.Mail]: its code compiled, a model, and that the code answers as the model. Written by a program of ours (lb.py). No statement of the seat is proved here.
-/
namespace Go.Proofs.Ytadebhbiglmodaa
namespace NX
open Go
set_option maxRecDepth 100000
set_option maxHeartbeats 4000000
def e97_L1 : EC := .seq (.reg [⟨(some 28), none, .bin .lss (.t 27) (.t 26)⟩]) (.seq (.ite (.t 28) (.skip) (.exit 2)) (.seq (.blk 3 (.seq (.reg [⟨(some 29), none, .idx 1 (.t 25) (.t 27)⟩, ⟨(some 30), none, .load (.t 29)⟩, ⟨(some 8), none, .mv (.t 30)⟩]) (.reg [⟨(some 31), none, .mv (.t 6)⟩, ⟨(some 32), none, .mv (.t 8)⟩, ⟨(some 33), none, .app 97 5 40 (.t 31) (.t 32)⟩, ⟨(some 6), none, .mv (.t 33)⟩]))) (.reg [⟨(some 34), none, .bin .add (.t 27) (.c (.iv 1))⟩, ⟨(some 27), none, .mv (.t 34)⟩])))
def e97_L0 : EC := .seq (.reg [⟨(some 12), none, .bin .lss (.t 11) (.t 10)⟩]) (.seq (.ite (.t 12) (.skip) (.exit 0)) (.seq (.blk 1 (.seq (.reg [⟨(some 13), none, .idx 1 (.t 9) (.t 11)⟩, ⟨(some 14), none, .load (.t 13)⟩, ⟨(some 5), none, .mv (.t 14)⟩]) (.seq (.reg [⟨(some 15), none, .mv (.t 3)⟩, ⟨(some 16), none, .mv (.t 5)⟩, ⟨(some 17), none, .len (.t 16)⟩, ⟨(some 18), none, .bin .add (.t 15) (.t 17)⟩, ⟨(some 3), none, .mv (.t 18)⟩]) (.seq (.reg [⟨(some 19), none, .mv (.t 3)⟩, ⟨(some 20), none, .bin .lss (.t 19) (.c (.iv 0))⟩]) (.ite (.t 20) (.reg [⟨(some 21), none, .bad⟩, ⟨none, none, .bad⟩]) (.skip)))))) (.reg [⟨(some 22), none, .bin .add (.t 11) (.c (.iv 1))⟩, ⟨(some 11), none, .mv (.t 22)⟩])))
def e97 : EC := .seq (.reg [⟨(some 2), none, .mv (.c .nl)⟩]) (.seq (.reg [⟨(some 3), none, .mv (.c (.iv 0))⟩]) (.seq (.seq (.reg [⟨(some 9), none, .mv (.t 0)⟩, ⟨(some 10), none, .len (.t 9)⟩, ⟨(some 11), none, .mv (.c (.iv 0))⟩]) (.blk 0 (.loop e97_L0))) (.seq (.reg [⟨(some 23), none, .mv (.t 3)⟩, ⟨(some 24), none, .call 119 [(.c .nl), (.t 23)]⟩, ⟨(some 6), none, .mv (.t 24)⟩]) (.seq (.seq (.reg [⟨(some 25), none, .mv (.t 0)⟩, ⟨(some 26), none, .len (.t 25)⟩, ⟨(some 27), none, .mv (.c (.iv 0))⟩]) (.blk 2 (.loop e97_L1))) (.seq (.reg [⟨(some 35), none, .mv (.t 6)⟩, ⟨(some 2), none, .mv (.t 35)⟩]) (.ret))))))
theorem ok97 : FnOK Try.prog 97 Try.f97 e97 [.t 2] 1 35 := ⟨by kernel_rfl, ⟨_, rfl, by kernel_rfl⟩, by kernel_rfl, by kernel_rfl⟩
/- slices.Grow[[]narthex/api.Mail,narthex/api.Mail], lent own memory -/
noncomputable def m_slices_Grow_Mail_in_slices_Concat_Mail_1_j2  : (List Mail) → Option (List Mail)
| x4 =>
 some x4
noncomputable def m_slices_Grow_Mail_in_slices_Concat_Mail_1_j1 (x1 : Int) : Unit → Option (List Mail)
| () =>
 ifb (decide (0 < (wr (x1 - (wr (0 - 0)))))) (
 (apz_ 40 (wr (x1 - (wr (0 - 0)))) ((Mail.mk 0 0 ((Msg.mk 0 0 0))))).bind fun x2 =>
 (sub_ x2 0 0).bind fun x3 =>
 m_slices_Grow_Mail_in_slices_Concat_Mail_1_j2 x3) (
 m_slices_Grow_Mail_in_slices_Concat_Mail_1_j2 (([] : List Mail)))
noncomputable def m_slices_Grow_Mail_in_slices_Concat_Mail_1 (x1 : Int) : Option (List Mail) :=
 ifb (decide (x1 < 0)) (
 none) (
 (m_slices_Grow_Mail_in_slices_Concat_Mail_1_j1 x1) ())
theorem t_slices_Grow_Mail_in_slices_Concat_Mail_1 (x1 : Int) (r : (List Mail)) (h : m_slices_Grow_Mail_in_slices_Concat_Mail_1 x1 = some r) : FunT Try.prog 119 [.nl, .iv x1] [] [] (.osl 0) [] [some ⟨97, 5, List.map Mail.row r⟩] := by
  refine FunT_intro ok119 rfl rfl rfl (by first | rfl | simp [go_sem]) fun w0 M0 => ?_
  rw [m_slices_Grow_Mail_in_slices_Concat_Mail_1] at h
  dsimp only [lun, List.cons_append, List.nil_append]
  refine V_go 10 ?_; dsimp only [e119, go_sem, Nat.reduceBEq, Nat.reduceAdd]; refine ⟨by simp, ?_⟩; refine V_join (fun (_ : Unit) => (⟨(.nl :: .iv x1 :: an 25 []), [], []⟩ : St)) (m_slices_Grow_Mail_in_slices_Concat_Mail_1_j1 x1) r ?_ fun J1 => ?_
  ·rintro ⟨⟩ h; rw [m_slices_Grow_Mail_in_slices_Concat_Mail_1_j1] at h; (try dsimp only); refine V_go 5 ?_; dsimp only [e119, go_sem, Nat.reduceBEq, Nat.reduceAdd]; refine ⟨by simp, ?_⟩; refine V_capN trivial rfl ?_; refine V_go 11 ?_; dsimp only [e119, go_sem, Nat.reduceBEq, Nat.reduceAdd]; refine ⟨by simp, ?_⟩; refine V_join (fun (x4 : (List Mail)) => (⟨(.osl 0 :: an 26 []), [], [some ⟨97, 5, List.map Mail.row x4⟩]⟩ : St)) m_slices_Grow_Mail_in_slices_Concat_Mail_1_j2 r ?_ fun J2 => ?_
   ·intro x4 h; rw [m_slices_Grow_Mail_in_slices_Concat_Mail_1_j2] at h; (try dsimp only); refine V_go 5 ?_; dsimp only [e119, go_sem, Nat.reduceBEq, Nat.reduceAdd]; refine ⟨by simp, ?_⟩; obtain rfl := Option.some.inj h; exact T_done ok119 rfl (by simp [go_sem])
   ·refine M_ite h rfl (fun _ h => ?_) fun _ h => ?_
    ·refine V_go 3 ?_; dsimp only [e119, go_sem, Nat.reduceBEq, Nat.reduceAdd]; refine ⟨by simp, ?_⟩; refine V_capN trivial rfl ?_; refine V_sliceN trivial rfl rfl rfl ?_; refine V_go 1 ?_; dsimp only [e119, go_sem, Nat.reduceBEq, Nat.reduceAdd]; refine ⟨by simp, ?_⟩; obtain ⟨x2, ex2, h⟩ := Option.bind_eq_some_iff.1 h; refine V_apzM Mail.row ex2 trivial rfl rfl rfl rfl ?_; refine V_go 2 ?_; dsimp only [e119, go_sem, Nat.reduceBEq, Nat.reduceAdd]; refine ⟨by simp, ?_⟩; obtain ⟨x3, ex3, h⟩ := Option.bind_eq_some_iff.1 h; refine V_cutM Mail.row ex3 trivial rfl rfl rfl rfl ?_; refine V_go 2 ?_
     dsimp only [e119, go_sem, Nat.reduceBEq, Nat.reduceAdd]; refine ⟨by simp, ?_⟩; refine V_ren 1 0 rfl rfl rfl ?_; dsimp only [go_sem, Nat.reduceBEq, Nat.reduceAdd]; exact M_to J2 (s := x3) h
    ·refine V_go 1 ?_; dsimp only [e119, go_sem, Nat.reduceBEq, Nat.reduceAdd]; refine ⟨by simp, ?_⟩; refine V_own 0 97 5 rfl rfl ?_; dsimp only [go_sem, Nat.reduceBEq, Nat.reduceAdd]; exact M_to J2 (s := ([] : List Mail)) h
  ·refine M_ite h rfl (fun _ h => ?_) fun _ h => ?_
   ·cases h
   ·refine V_go 1 ?_; dsimp only [e119, go_sem, Nat.reduceBEq, Nat.reduceAdd]; refine ⟨by simp, ?_⟩; exact M_to J1 (s := ()) h
def f_slices_Grow_Mail_in_slices_Concat_Mail_1_j2 (_F : Nat)  : (List Mail) → Option (List Mail)
| x4 =>
 some x4
theorem le_slices_Grow_Mail_in_slices_Concat_Mail_1_j2 {F : Nat} : ∀ s, ole (f_slices_Grow_Mail_in_slices_Concat_Mail_1_j2 F s) (m_slices_Grow_Mail_in_slices_Concat_Mail_1_j2 s) := by
  intro x4
  unfold f_slices_Grow_Mail_in_slices_Concat_Mail_1_j2 m_slices_Grow_Mail_in_slices_Concat_Mail_1_j2
  try dsimp only
  with_reducible repeat' first | exact ole_refl _ | assumption | intro _ | refine ole_ifb ?_ ?_ | refine ole_bind ?_ ?_ | refine ole_map ?_ | refine ole_loop ?_
def f_slices_Grow_Mail_in_slices_Concat_Mail_1_j1 (F : Nat) (x1 : Int) : Unit → Option (List Mail)
| () =>
 ifb (decide (0 < (wr (x1 - (wr (0 - 0)))))) (
 (apz_ 40 (wr (x1 - (wr (0 - 0)))) ((Mail.mk 0 0 ((Msg.mk 0 0 0))))).bind fun x2 =>
 (sub_ x2 0 0).bind fun x3 =>
 f_slices_Grow_Mail_in_slices_Concat_Mail_1_j2 F x3) (
 f_slices_Grow_Mail_in_slices_Concat_Mail_1_j2 F (([] : List Mail)))
theorem le_slices_Grow_Mail_in_slices_Concat_Mail_1_j1 {F : Nat} {x1 : Int} : ∀ s, ole (f_slices_Grow_Mail_in_slices_Concat_Mail_1_j1 F x1 s) (m_slices_Grow_Mail_in_slices_Concat_Mail_1_j1 x1 s) := by
  rintro ⟨⟩
  unfold f_slices_Grow_Mail_in_slices_Concat_Mail_1_j1 m_slices_Grow_Mail_in_slices_Concat_Mail_1_j1
  try dsimp only
  with_reducible repeat' first | exact ole_refl _ | assumption | intro _ | refine ole_ifb ?_ ?_ | refine ole_bind ?_ ?_ | refine ole_map ?_ | refine ole_loop ?_ | apply le_slices_Grow_Mail_in_slices_Concat_Mail_1_j2
def f_slices_Grow_Mail_in_slices_Concat_Mail_1 (F : Nat) (x1 : Int) : Option (List Mail) :=
 ifb (decide (x1 < 0)) (
 none) (
 (f_slices_Grow_Mail_in_slices_Concat_Mail_1_j1 F x1) ())
theorem le_slices_Grow_Mail_in_slices_Concat_Mail_1 {F : Nat} {x1 : Int} : ole (f_slices_Grow_Mail_in_slices_Concat_Mail_1 F x1) (m_slices_Grow_Mail_in_slices_Concat_Mail_1 x1) := by
  unfold f_slices_Grow_Mail_in_slices_Concat_Mail_1 m_slices_Grow_Mail_in_slices_Concat_Mail_1
  with_reducible repeat' first | exact ole_refl _ | assumption | intro _ | refine ole_ifb ?_ ?_ | refine ole_bind ?_ ?_ | refine ole_map ?_ | refine ole_loop ?_ | apply le_slices_Grow_Mail_in_slices_Concat_Mail_1_j2 | apply le_slices_Grow_Mail_in_slices_Concat_Mail_1_j1
/- slices.Concat[[]narthex/api.Mail,narthex/api.Mail] -/
noncomputable def m_slices_Concat_Mail_j3  : (List Mail) → Option (List Mail)
| x31 =>
 some x31
noncomputable def m_slices_Concat_Mail_l2 (x1 : (List (List Mail))) : (Int × (List Mail)) → Option ((Int × (List Mail)) ⊕ (List Mail))
| (x21, x22) =>
 ifb (decide (x21 < (ln (slRow 5 Mail.row) x1))) (
 (at_ x1 x21).bind fun x23 =>
 (app_ 40 x22 x23).bind fun x24 =>
 some (.inl (wr (x21 + 1), x24))) (
 Option.map Sum.inr (m_slices_Concat_Mail_j3 x22))
noncomputable def m_slices_Concat_Mail_j1 (x1 : (List (List Mail))) : Int → Option (List Mail)
| x15 =>
 (m_slices_Grow_Mail_in_slices_Concat_Mail_1 x15).bind fun x16 =>
 loop (m_slices_Concat_Mail_l2 x1) (0, x16)
noncomputable def m_slices_Concat_Mail_j2 (x5 : Int) (x6 : Int) (x7 : (List Mail)) : Unit → Option ((Int × Int) ⊕ (List Mail))
| () =>
 some (.inl (wr (x5 + (ln Mail.row x7)), wr (x6 + 1)))
noncomputable def m_slices_Concat_Mail_l1 (x1 : (List (List Mail))) : (Int × Int) → Option ((Int × Int) ⊕ (List Mail))
| (x5, x6) =>
 ifb (decide (x6 < (ln (slRow 5 Mail.row) x1))) (
 (at_ x1 x6).bind fun x7 =>
 ifb (decide ((wr (x5 + (ln Mail.row x7))) < 0)) (
 none) (
 (m_slices_Concat_Mail_j2 x5 x6 x7) ())) (
 Option.map Sum.inr ((m_slices_Concat_Mail_j1 x1) x5))
noncomputable def m_slices_Concat_Mail (x1 : (List (List Mail))) : Option (List Mail) :=
 loop (m_slices_Concat_Mail_l1 x1) (0, 0)
theorem o_slices_Concat_Mail (x1 : (List (List Mail))) (r : (List Mail)) (h : m_slices_Concat_Mail x1 = some r) : FunO Try.prog 97 [.sl 1 (List.map (slRow 5 Mail.row) x1)] 97 5 (List.map Mail.row r) := by
  refine FunO_intro ok97 rfl fun w0 H0 => ?_
  rw [m_slices_Concat_Mail] at h
  refine V_go 15 ?_; dsimp only [e97, e97_L0, e97_L1, go_sem, Nat.reduceBEq, Nat.reduceAdd]; refine ⟨by simp, ?_⟩; refine V_join (fun (x15 : Int) => (⟨(.sl 1 (List.map (slRow 5 Mail.row) x1) :: .any :: .any :: .iv x15 :: an 32 []), [], []⟩ : St)) (m_slices_Concat_Mail_j1 x1) r ?_ fun J1 => ?_
  ·intro x15 h; rw [m_slices_Concat_Mail_j1] at h; (try dsimp only); refine V_go 3 ?_; dsimp only [e97, e97_L0, e97_L1, go_sem, Nat.reduceBEq, Nat.reduceAdd]; refine ⟨by simp, ?_⟩; obtain ⟨x16, ex16, h⟩ := Option.bind_eq_some_iff.1 h; refine V_callT [] [] trivial (t_slices_Grow_Mail_in_slices_Concat_Mail_1 x15 _ ex16) (h := ?_); dsimp only [go_sem, Nat.reduceBEq, Nat.reduceAdd]; refine V_go 9 ?_; dsimp only [e97, e97_L0, e97_L1, go_sem, Nat.reduceBEq, Nat.reduceAdd]; refine ⟨by simp, ?_⟩
   refine V_join (fun (x31 : (List Mail)) => (⟨(an 6 (.osl 0 :: an 29 [])), [], [some ⟨97, 5, List.map Mail.row x31⟩]⟩ : St)) m_slices_Concat_Mail_j3 r ?_ fun J3 => ?_
   ·intro x31 h; rw [m_slices_Concat_Mail_j3] at h; (try dsimp only); refine V_go 5 ?_; dsimp only [e97, e97_L0, e97_L1, go_sem, Nat.reduceBEq, Nat.reduceAdd]; refine ⟨by simp, ?_⟩; exact O_doneM Mail.row ok97 h rfl rfl
   ·refine V_go 1 ?_; dsimp only [e97, e97_L0, e97_L1, go_sem, Nat.reduceBEq, Nat.reduceAdd]; refine ⟨by simp, ?_⟩; refine M_loop h (fun ((x21, x22) : (Int × (List Mail))) => (⟨(an 6 (.osl 0 :: an 18 (.sl 1 (List.map (slRow 5 Mail.row) x1) :: .iv (ln (slRow 5 Mail.row) x1) :: .iv x21 :: an 8 []))), [], [some ⟨97, 5, List.map Mail.row x22⟩]⟩ : St)) (by simp [go_sem]) (by rintro ⟨x21, x22⟩; first | rfl | simp [go_sem]) ?_; rintro n1 ⟨x21, x22⟩ y1 h hin1 hout1; rw [m_slices_Concat_Mail_l2] at h; (try dsimp only); refine V_go 5 ?_
    dsimp only [e97, e97_L0, e97_L1, go_sem, Nat.reduceBEq, Nat.reduceAdd]; refine ⟨by simp, ?_⟩; refine M_ite h rfl (fun _ h => ?_) fun _ h => ?_
    ·refine V_go 5 ?_; dsimp only [e97, e97_L0, e97_L1, go_sem, Nat.reduceBEq, Nat.reduceAdd]; refine ⟨by simp, ?_⟩; obtain ⟨x23, ex23, h⟩ := Option.bind_eq_some_iff.1 h; refine V_idxM (slRow 5 Mail.row) ex23 trivial rfl rfl rfl ?_; refine V_go 6 ?_; dsimp only [e97, e97_L0, e97_L1, go_sem, Nat.reduceBEq, Nat.reduceAdd]; refine ⟨by simp, ?_⟩; obtain ⟨x24, ex24, h⟩ := Option.bind_eq_some_iff.1 h; refine V_appM Mail.row ex24 trivial rfl rfl rfl ?_; refine V_go 7 ?_; dsimp only [e97, e97_L0, e97_L1, go_sem, Nat.reduceBEq, Nat.reduceAdd]; refine ⟨by simp, ?_⟩; refine V_ren 1 0 rfl rfl rfl ?_
     dsimp only [go_sem, Nat.reduceBEq, Nat.reduceAdd]; exact M_back h hin1
    ·refine V_go 1 ?_; dsimp only [e97, e97_L0, e97_L1, go_sem, Nat.reduceBEq, Nat.reduceAdd]; refine ⟨by simp, ?_⟩; exact M_to J3 (s := x22) (M_out h hout1)
  ·refine V_go 1 ?_; dsimp only [e97, e97_L0, e97_L1, go_sem, Nat.reduceBEq, Nat.reduceAdd]; refine ⟨by simp, ?_⟩; refine M_loop h (fun ((x5, x6) : (Int × Int)) => (⟨(.sl 1 (List.map (slRow 5 Mail.row) x1) :: .any :: .any :: .iv x5 :: an 5 (.sl 1 (List.map (slRow 5 Mail.row) x1) :: .iv (ln (slRow 5 Mail.row) x1) :: .iv x6 :: an 24 [])), [], []⟩ : St)) (by simp [go_sem]) (by rintro ⟨x5, x6⟩; first | rfl | simp [go_sem]) ?_; rintro n1 ⟨x5, x6⟩ y1 h hin1 hout1; rw [m_slices_Concat_Mail_l1] at h; (try dsimp only); refine V_go 5 ?_
   dsimp only [e97, e97_L0, e97_L1, go_sem, Nat.reduceBEq, Nat.reduceAdd]; refine ⟨by simp, ?_⟩; refine M_ite h rfl (fun _ h => ?_) fun _ h => ?_
   ·refine V_go 5 ?_; dsimp only [e97, e97_L0, e97_L1, go_sem, Nat.reduceBEq, Nat.reduceAdd]; refine ⟨by simp, ?_⟩; obtain ⟨x7, ex7, h⟩ := Option.bind_eq_some_iff.1 h; refine V_idxM (slRow 5 Mail.row) ex7 trivial rfl rfl rfl ?_; refine V_go 16 ?_; dsimp only [e97, e97_L0, e97_L1, go_sem, Nat.reduceBEq, Nat.reduceAdd]; refine ⟨by simp, ?_⟩
    refine V_join (fun (_ : Unit) => (⟨(.sl 1 (List.map (slRow 5 Mail.row) x1) :: .any :: .any :: .iv (wr (x5 + (ln Mail.row x7))) :: an 5 (.sl 1 (List.map (slRow 5 Mail.row) x1) :: .iv (ln (slRow 5 Mail.row) x1) :: .iv x6 :: an 24 [])), [], []⟩ : St)) (m_slices_Concat_Mail_j2 x5 x6 x7) y1 ?_ fun J2 => ?_
    ·rintro ⟨⟩ h; rw [m_slices_Concat_Mail_j2] at h; (try dsimp only); refine V_go 5 ?_; dsimp only [e97, e97_L0, e97_L1, go_sem, Nat.reduceBEq, Nat.reduceAdd]; refine ⟨by simp, ?_⟩; exact M_back h hin1
    ·refine M_ite h rfl (fun _ h => ?_) fun _ h => ?_
     ·cases h
     ·refine V_go 1 ?_; dsimp only [e97, e97_L0, e97_L1, go_sem, Nat.reduceBEq, Nat.reduceAdd]; refine ⟨by simp, ?_⟩; exact M_to J2 (s := ()) h
   ·refine V_go 1 ?_; dsimp only [e97, e97_L0, e97_L1, go_sem, Nat.reduceBEq, Nat.reduceAdd]; refine ⟨by simp, ?_⟩; exact M_to J1 (s := x5) (M_out h hout1)
theorem k_slices_Concat_Mail (x1 : (List (List Mail))) (r : (List Mail)) (h : m_slices_Concat_Mail x1 = some r) : FunP Try.prog 97 [.sl 1 (List.map (slRow 5 Mail.row) x1)] (.sl 5 (List.map Mail.row r)) := (o_slices_Concat_Mail x1 r h).sealed
def f_slices_Concat_Mail_j3 (_F : Nat)  : (List Mail) → Option (List Mail)
| x31 =>
 some x31
theorem le_slices_Concat_Mail_j3 {F : Nat} : ∀ s, ole (f_slices_Concat_Mail_j3 F s) (m_slices_Concat_Mail_j3 s) := by
  intro x31
  unfold f_slices_Concat_Mail_j3 m_slices_Concat_Mail_j3
  try dsimp only
  with_reducible repeat' first | exact ole_refl _ | assumption | intro _ | refine ole_ifb ?_ ?_ | refine ole_bind ?_ ?_ | refine ole_map ?_ | refine ole_loop ?_
def f_slices_Concat_Mail_l2 (F : Nat) (x1 : (List (List Mail))) : (Int × (List Mail)) → Option ((Int × (List Mail)) ⊕ (List Mail))
| (x21, x22) =>
 ifb (decide (x21 < (ln (slRow 5 Mail.row) x1))) (
 (at_ x1 x21).bind fun x23 =>
 (app_ 40 x22 x23).bind fun x24 =>
 some (.inl (wr (x21 + 1), x24))) (
 Option.map Sum.inr (f_slices_Concat_Mail_j3 F x22))
theorem le_slices_Concat_Mail_l2 {F : Nat} {x1 : (List (List Mail))} : ∀ s, ole (f_slices_Concat_Mail_l2 F x1 s) (m_slices_Concat_Mail_l2 x1 s) := by
  rintro ⟨x21, x22⟩
  unfold f_slices_Concat_Mail_l2 m_slices_Concat_Mail_l2
  try dsimp only
  with_reducible repeat' first | exact ole_refl _ | assumption | intro _ | refine ole_ifb ?_ ?_ | refine ole_bind ?_ ?_ | refine ole_map ?_ | refine ole_loop ?_ | apply le_slices_Concat_Mail_j3
def f_slices_Concat_Mail_j1 (F : Nat) (x1 : (List (List Mail))) : Int → Option (List Mail)
| x15 =>
 (f_slices_Grow_Mail_in_slices_Concat_Mail_1 F x15).bind fun x16 =>
 loopF F (f_slices_Concat_Mail_l2 F x1) (0, x16)
theorem le_slices_Concat_Mail_j1 {F : Nat} {x1 : (List (List Mail))} : ∀ s, ole (f_slices_Concat_Mail_j1 F x1 s) (m_slices_Concat_Mail_j1 x1 s) := by
  intro x15
  unfold f_slices_Concat_Mail_j1 m_slices_Concat_Mail_j1
  try dsimp only
  with_reducible repeat' first | exact ole_refl _ | assumption | intro _ | refine ole_ifb ?_ ?_ | refine ole_bind ?_ ?_ | refine ole_map ?_ | refine ole_loop ?_ | apply le_slices_Concat_Mail_j3 | apply le_slices_Concat_Mail_l2 | apply le_slices_Grow_Mail_in_slices_Concat_Mail_1
def f_slices_Concat_Mail_j2 (_F : Nat) (x5 : Int) (x6 : Int) (x7 : (List Mail)) : Unit → Option ((Int × Int) ⊕ (List Mail))
| () =>
 some (.inl (wr (x5 + (ln Mail.row x7)), wr (x6 + 1)))
theorem le_slices_Concat_Mail_j2 {F : Nat} {x5 : Int} {x6 : Int} {x7 : (List Mail)} : ∀ s, ole (f_slices_Concat_Mail_j2 F x5 x6 x7 s) (m_slices_Concat_Mail_j2 x5 x6 x7 s) := by
  rintro ⟨⟩
  unfold f_slices_Concat_Mail_j2 m_slices_Concat_Mail_j2
  try dsimp only
  with_reducible repeat' first | exact ole_refl _ | assumption | intro _ | refine ole_ifb ?_ ?_ | refine ole_bind ?_ ?_ | refine ole_map ?_ | refine ole_loop ?_ | apply le_slices_Concat_Mail_j3 | apply le_slices_Concat_Mail_l2 | apply le_slices_Grow_Mail_in_slices_Concat_Mail_1 | apply le_slices_Concat_Mail_j1
def f_slices_Concat_Mail_l1 (F : Nat) (x1 : (List (List Mail))) : (Int × Int) → Option ((Int × Int) ⊕ (List Mail))
| (x5, x6) =>
 ifb (decide (x6 < (ln (slRow 5 Mail.row) x1))) (
 (at_ x1 x6).bind fun x7 =>
 ifb (decide ((wr (x5 + (ln Mail.row x7))) < 0)) (
 none) (
 (f_slices_Concat_Mail_j2 F x5 x6 x7) ())) (
 Option.map Sum.inr ((f_slices_Concat_Mail_j1 F x1) x5))
theorem le_slices_Concat_Mail_l1 {F : Nat} {x1 : (List (List Mail))} : ∀ s, ole (f_slices_Concat_Mail_l1 F x1 s) (m_slices_Concat_Mail_l1 x1 s) := by
  rintro ⟨x5, x6⟩
  unfold f_slices_Concat_Mail_l1 m_slices_Concat_Mail_l1
  try dsimp only
  with_reducible repeat' first | exact ole_refl _ | assumption | intro _ | refine ole_ifb ?_ ?_ | refine ole_bind ?_ ?_ | refine ole_map ?_ | refine ole_loop ?_ | apply le_slices_Concat_Mail_j3 | apply le_slices_Concat_Mail_l2 | apply le_slices_Grow_Mail_in_slices_Concat_Mail_1 | apply le_slices_Concat_Mail_j1 | apply le_slices_Concat_Mail_j2
def f_slices_Concat_Mail (F : Nat) (x1 : (List (List Mail))) : Option (List Mail) :=
 loopF F (f_slices_Concat_Mail_l1 F x1) (0, 0)
theorem le_slices_Concat_Mail {F : Nat} {x1 : (List (List Mail))} : ole (f_slices_Concat_Mail F x1) (m_slices_Concat_Mail x1) := by
  unfold f_slices_Concat_Mail m_slices_Concat_Mail
  with_reducible repeat' first | exact ole_refl _ | assumption | intro _ | refine ole_ifb ?_ ?_ | refine ole_bind ?_ ?_ | refine ole_map ?_ | refine ole_loop ?_ | apply le_slices_Concat_Mail_j3 | apply le_slices_Concat_Mail_l2 | apply le_slices_Grow_Mail_in_slices_Concat_Mail_1 | apply le_slices_Concat_Mail_j1 | apply le_slices_Concat_Mail_j2 | apply le_slices_Concat_Mail_l1
end NX
end Go.Proofs.Ytadebhbiglmodaa
/-
  The function narthex/table.act: its code compiled, a model, and that the code answers as the model. Written by a program of ours (lb.py). No statement of the seat is proved here.
-/
namespace Go.Proofs.Ytadebhbiglmodaa
namespace NX
open Go
set_option maxRecDepth 100000
set_option maxHeartbeats 4000000
def e98_L0 : EC := .seq (.reg [⟨(some 48), none, .bin .lss (.t 47) (.t 46)⟩]) (.seq (.ite (.t 48) (.skip) (.exit 0)) (.seq (.blk 1 (.seq (.reg [⟨(some 49), none, .idx 3 (.t 45) (.t 47)⟩, ⟨(some 50), none, .loadA 3 (.t 49)⟩, ⟨(some 13), none, .alloc 39 [.iv 0, .iv 0, .nl]⟩, ⟨none, none, .store 3 (.t 13) (.t 50)⟩]) (.seq (.seq (.reg [⟨(some 51), none, .fld 0 (.t 13)⟩, ⟨(some 52), none, .load (.t 51)⟩, ⟨(some 53), none, .mv (.t 1)⟩, ⟨(some 54), none, .bin .eql (.t 52) (.t 53)⟩]) (.ite (.t 54) (.reg [⟨(some 55), none, .loadA 3 (.t 8)⟩, ⟨none, none, .store 3 (.t 13) (.t 55)⟩]) (.skip))) (.seq (.reg [⟨(some 56), none, .fld 2 (.t 13)⟩, ⟨(some 57), none, .load (.t 56)⟩, ⟨(some 58), none, .call 121 [(.t 57)]⟩, ⟨(some 59), none, .fld 2 (.t 13)⟩, ⟨none, none, .store 1 (.t 59) (.t 58)⟩]) (.reg [⟨(some 60), none, .fld 0 (.t 11)⟩, ⟨(some 61), none, .load (.t 60)⟩, ⟨(some 62), none, .loadA 3 (.t 13)⟩, ⟨(some 63), none, .bsl 39 3 1 [.iv 0, .iv 0, .nl] [(0, (.t 62))]⟩, ⟨(some 64), none, .app 39 3 40 (.t 61) (.t 63)⟩, ⟨(some 65), none, .fld 0 (.t 11)⟩, ⟨none, none, .store 1 (.t 65) (.t 64)⟩]))))) (.reg [⟨(some 66), none, .bin .add (.t 47) (.c (.iv 1))⟩, ⟨(some 47), none, .mv (.t 66)⟩])))
def e98 : EC := .seq (.reg [⟨(some 3), none, .box 43 2 (.t 0)⟩, ⟨(some 6), none, .alloc 43 [.nl, .nl]⟩, ⟨(some 7), none, .mv (.c (.iv 0))⟩]) (.seq (.reg [⟨(some 15), none, .mv (.t 2)⟩, ⟨(some 16), none, .fld 0 (.t 3)⟩, ⟨(some 17), none, .load (.t 16)⟩, ⟨(some 18), none, .mv (.t 1)⟩, ⟨(some 19), none, .idx 3 (.t 17) (.t 18)⟩, ⟨(some 20), none, .loadA 3 (.t 19)⟩, ⟨(some 21), none, .callv (.t 15) [(.t 20)]⟩, ⟨(some 14), none, .mv (.t 21)⟩, ⟨(some 22), none, .ext (.t 14) 0⟩, ⟨(some 23), none, .ext (.t 14) 1⟩, ⟨(some 8), none, .alloc 39 [.iv 0, .iv 0, .nl]⟩, ⟨none, none, .store 3 (.t 8) (.t 22)⟩, ⟨(some 9), none, .mv (.t 23)⟩]) (.seq (.seq (.reg [⟨(some 24), none, .mv (.t 9)⟩, ⟨(some 25), none, .bin .neq (.t 24) (.c (.iv 0))⟩]) (.ite (.t 25) (.seq (.reg [⟨(some 26), none, .build [.nl, .nl] []⟩, ⟨(some 27), none, .mv (.t 9)⟩, ⟨none, none, .store 2 (.t 6) (.t 26)⟩, ⟨(some 7), none, .mv (.t 27)⟩]) (.ret)) (.skip))) (.seq (.reg [⟨(some 29), none, .loadA 3 (.t 8)⟩, ⟨(some 30), none, .call 120 [(.t 29)]⟩, ⟨(some 28), none, .mv (.t 30)⟩, ⟨(some 31), none, .ext (.t 28) 0⟩, ⟨(some 32), none, .ext (.t 28) 1⟩, ⟨(some 33), none, .ext (.t 28) 2⟩, ⟨none, none, .store 3 (.t 8) (.t 31)⟩, ⟨(some 10), none, .mv (.t 32)⟩, ⟨(some 9), none, .mv (.t 33)⟩]) (.seq (.seq (.reg [⟨(some 34), none, .mv (.t 9)⟩, ⟨(some 35), none, .bin .neq (.t 34) (.c (.iv 0))⟩]) (.ite (.t 35) (.seq (.reg [⟨(some 36), none, .build [.nl, .nl] []⟩, ⟨(some 37), none, .mv (.t 9)⟩, ⟨none, none, .store 2 (.t 6) (.t 36)⟩, ⟨(some 7), none, .mv (.t 37)⟩]) (.ret)) (.skip))) (.seq (.reg [⟨(some 38), none, .fld 1 (.t 3)⟩, ⟨(some 39), none, .load (.t 38)⟩, ⟨(some 40), none, .mv (.t 10)⟩, ⟨(some 41), none, .bsl 41 1 2 [.nl] [(0, (.t 39)), (1, (.t 40))]⟩, ⟨(some 42), none, .call 97 [(.t 41)]⟩, ⟨(some 43), none, .build [.nl, .nl] [(1, 1, (.t 42))]⟩, ⟨(some 11), none, .alloc 43 [.nl, .nl]⟩, ⟨none, none, .store 2 (.t 11) (.t 43)⟩]) (.seq (.seq (.reg [⟨(some 44), none, .fld 0 (.t 3)⟩, ⟨(some 45), none, .load (.t 44)⟩, ⟨(some 46), none, .len (.t 45)⟩, ⟨(some 47), none, .mv (.c (.iv 0))⟩]) (.blk 0 (.loop e98_L0))) (.seq (.reg [⟨(some 67), none, .loadA 2 (.t 11)⟩, ⟨none, none, .store 2 (.t 6) (.t 67)⟩, ⟨(some 7), none, .mv (.c (.iv 0))⟩]) (.ret))))))))
theorem ok98 : FnOK Try.prog 98 Try.f98 e98 [.c 6 (some 2), .t 7] 3 65 := ⟨by kernel_rfl, ⟨_, rfl, by kernel_rfl⟩, by kernel_rfl, by kernel_rfl⟩
/- narthex/table.act -/
noncomputable def m_table_act_j1 (x6 : (List Mail)) : (List Diner) → Option (Scene × Int)
| x28 =>
 some ((Scene.mk x28 x6), 0)
noncomputable def m_table_act_j2 (x13 : Int) (x14 : (List Diner)) : Diner → Option ((Int × (List Diner)) ⊕ (Scene × Int))
| x16 =>
 (m_slices_Clone_Side x16.Sides).bind fun x17 =>
 (app_ 40 x14 ([(Diner.mk x16.ID x16.Phase x17)])).bind fun x18 =>
 some (.inl (wr (x13 + 1), x18))
noncomputable def m_table_act_l1 (x1 : Scene) (x2 : Int) (x5 : (Diner × (List Mail) × Int)) (x6 : (List Mail)) : (Int × (List Diner)) → Option ((Int × (List Diner)) ⊕ (Scene × Int))
| (x13, x14) =>
 ifb (decide (x13 < (ln Diner.row x1.Diners))) (
 (at_ x1.Diners x13).bind fun x15 =>
 ifb (decide (x15.ID = x2)) (
 (m_table_act_j2 x13 x14) x5.1) (
 (m_table_act_j2 x13 x14) x15)) (
 Option.map Sum.inr ((m_table_act_j1 x6) x14))
noncomputable def m_table_act (x1 : Scene) (x2 : Int) (p2 : (Diner → Option (Diner × Int))) : Option (Scene × Int) :=
 (at_ x1.Diners x2).bind fun x3 =>
 (p2 x3).bind fun x4 =>
 ifb (!decide (x4.2 = 0)) (
 some ((Scene.mk (([] : (List Diner))) (([] : (List Mail)))), x4.2)) (
 (m_dine_Fire x4.1).bind fun x5 =>
 ifb (!decide (x5.2.2 = 0)) (
 some ((Scene.mk (([] : (List Diner))) (([] : (List Mail)))), x5.2.2)) (
 (m_slices_Concat_Mail ([x1.Mail, x5.2.1])).bind fun x6 =>
 loop (m_table_act_l1 x1 x2 x5 x6) (0, ([] : List Diner))))
theorem k_table_act (x1 : Scene) (x2 : Int) (g2 : Nat) (caps2 : List AV) (p2 : (Diner → Option (Diner × Int))) (hc2 : CloOK Try.prog g2 caps2 (fun z => [.agg (Diner.row z)]) p2 (fun z => .tup [.agg (Diner.row z.1), .iv z.2])) (r : (Scene × Int)) (h : m_table_act x1 x2 p2 = some r) : FunP Try.prog 98 [.agg (Scene.row x1), .iv x2, .clo g2 caps2] (.tup [.agg (Scene.row r.1), .iv r.2]) := by
  refine FunP_intro ok98 rfl rfl fun w0 H0 => ?_
  rw [m_table_act] at h
  refine V_go 12 ?_; dsimp only [e98, e98_L0, go_sem, Nat.reduceBEq, Nat.reduceAdd]; refine ⟨by simp, ?_⟩; obtain ⟨x3, ex3, h⟩ := Option.bind_eq_some_iff.1 h; refine V_idxM Diner.row ex3 trivial rfl rfl rfl ?_; refine V_go 1 ?_; dsimp only [e98, e98_L0, go_sem, Nat.reduceBEq, Nat.reduceAdd]; refine ⟨by simp, ?_⟩; obtain ⟨x4, ex4, h⟩ := Option.bind_eq_some_iff.1 h; refine V_callp trivial rfl hc2 (x := x3) ex4 (by first | exact leL_refl _ | simp [go_sem]) (by first | rfl | simp [go_sem, hc2.pu]) ?_; refine V_go 13 ?_; dsimp only [e98, e98_L0, go_sem, Nat.reduceBEq, Nat.reduceAdd]
  refine ⟨by simp, ?_⟩; refine M_ite h rfl (fun _ h => ?_) fun _ h => ?_
  ·refine V_go 7 ?_; dsimp only [e98, e98_L0, go_sem, Nat.reduceBEq, Nat.reduceAdd]; refine ⟨by simp, ?_⟩; exact M_done (res := fun (r : (Scene × Int)) => .tup [.agg (Scene.row r.1), .iv r.2]) ok98 h
  ·refine V_go 4 ?_; dsimp only [e98, e98_L0, go_sem, Nat.reduceBEq, Nat.reduceAdd]; refine ⟨by simp, ?_⟩; obtain ⟨x5, ex5, h⟩ := Option.bind_eq_some_iff.1 h; refine V_call trivial (k_dine_Fire x4.1 _ ex5) (hp := (by first | rfl | simp [go_sem, hc2.pu])) (h := ?_); refine V_go 14 ?_; dsimp only [e98, e98_L0, go_sem, Nat.reduceBEq, Nat.reduceAdd]; refine ⟨by simp, ?_⟩; refine M_ite h rfl (fun _ h => ?_) fun _ h => ?_
   ·refine V_go 7 ?_; dsimp only [e98, e98_L0, go_sem, Nat.reduceBEq, Nat.reduceAdd]; refine ⟨by simp, ?_⟩; exact M_done (res := fun (r : (Scene × Int)) => .tup [.agg (Scene.row r.1), .iv r.2]) ok98 h
   ·refine V_go 7 ?_; dsimp only [e98, e98_L0, go_sem, Nat.reduceBEq, Nat.reduceAdd]; refine ⟨by simp, ?_⟩; refine V_seal 0 rfl ?_; dsimp only [go_sem, Nat.reduceBEq, Nat.reduceAdd]; obtain ⟨x6, ex6, h⟩ := Option.bind_eq_some_iff.1 h; refine V_callO trivial (o_slices_Concat_Mail ([x1.Mail, x5.2.1]) _ ex6) (hp := (by first | rfl | simp [go_sem, hc2.pu])) (h := ?_); refine V_go 12 ?_; dsimp only [e98, e98_L0, go_sem, Nat.reduceBEq, Nat.reduceAdd]; refine ⟨by simp, ?_⟩
    refine V_join (fun (x28 : (List Diner)) => (⟨(an 6 (.ptr 1 0 :: an 4 (.ptr 3 0 :: an 56 []))), [none, some ⟨43, [.nl, .nl]⟩, none, some ⟨43, [.osl 2, .osl 1]⟩], [none, some ⟨97, 5, List.map Mail.row x6⟩, some ⟨39, 3, List.map Diner.row x28⟩]⟩ : St)) (m_table_act_j1 x6) r ?_ fun J1 => ?_
    ·intro x28 h; rw [m_table_act_j1] at h; (try dsimp only); refine V_go 6 ?_; dsimp only [e98, e98_L0, go_sem, Nat.reduceBEq, Nat.reduceAdd]; refine ⟨by simp, ?_⟩; refine V_seal 2 rfl ?_; dsimp only [go_sem, Nat.reduceBEq, Nat.reduceAdd]; refine V_seal 1 rfl ?_; dsimp only [go_sem, Nat.reduceBEq, Nat.reduceAdd]; exact M_done (res := fun (r : (Scene × Int)) => .tup [.agg (Scene.row r.1), .iv r.2]) ok98 h
    ·refine V_go 1 ?_; dsimp only [e98, e98_L0, go_sem, Nat.reduceBEq, Nat.reduceAdd]; refine ⟨by simp, ?_⟩; refine V_ownB 3 0 39 3 rfl rfl rfl ?_; dsimp only [go_sem, Nat.reduceBEq, Nat.reduceAdd]
     refine M_loop h (fun ((x13, x14) : (Int × (List Diner))) => (⟨(.any :: .iv x2 :: an 4 (.ptr 1 0 :: .any :: .ptr 2 0 :: .any :: .any :: .ptr 3 0 :: an 33 (.sl 3 (List.map Diner.row x1.Diners) :: .iv (ln Diner.row x1.Diners) :: .iv x13 :: an 20 []))), [none, some ⟨43, [.nl, .nl]⟩, some ⟨39, [.iv x5.1.ID, .iv x5.1.Phase, .sl 8 (List.map Side.row x5.1.Sides)]⟩, some ⟨43, [.osl 2, .osl 1]⟩], [none, some ⟨97, 5, List.map Mail.row x6⟩, some ⟨39, 3, List.map Diner.row x14⟩]⟩ : St)) (by simp [go_sem]) (by rintro ⟨x13, x14⟩; first | rfl | simp [go_sem, puL_ok _ hc2.pu]) ?_
     rintro n1 ⟨x13, x14⟩ y1 h hin1 hout1; rw [m_table_act_l1] at h; (try dsimp only); refine V_go 5 ?_; dsimp only [e98, e98_L0, go_sem, Nat.reduceBEq, Nat.reduceAdd]; refine ⟨by simp, ?_⟩; refine M_ite h rfl (fun _ h => ?_) fun _ h => ?_
     ·refine V_go 5 ?_; dsimp only [e98, e98_L0, go_sem, Nat.reduceBEq, Nat.reduceAdd]; refine ⟨by simp, ?_⟩; obtain ⟨x15, ex15, h⟩ := Option.bind_eq_some_iff.1 h; refine V_idxM Diner.row ex15 trivial rfl rfl rfl ?_; refine V_go 12 ?_; dsimp only [e98, e98_L0, go_sem, Nat.reduceBEq, Nat.reduceAdd]; refine ⟨by simp, ?_⟩
      refine V_join (fun (x16 : Diner) => (⟨(.any :: .iv x2 :: an 4 (.ptr 1 0 :: .any :: .ptr 2 0 :: .any :: .any :: .ptr 3 0 :: .any :: .ptr 4 0 :: an 31 (.sl 3 (List.map Diner.row x1.Diners) :: .iv (ln Diner.row x1.Diners) :: .iv x13 :: an 20 []))), [none, some ⟨43, [.nl, .nl]⟩, some ⟨39, [.iv x5.1.ID, .iv x5.1.Phase, .sl 8 (List.map Side.row x5.1.Sides)]⟩, some ⟨43, [.osl 2, .osl 1]⟩, some ⟨39, [.iv x16.ID, .iv x16.Phase, .sl 8 (List.map Side.row x16.Sides)]⟩], [none, some ⟨97, 5, List.map Mail.row x6⟩, some ⟨39, 3, List.map Diner.row x14⟩]⟩ : St)) (m_table_act_j2 x13 x14) y1 ?_ fun J2 => ?_
      ·intro x16 h; rw [m_table_act_j2] at h; (try dsimp only); refine V_go 4 ?_; dsimp only [e98, e98_L0, go_sem, Nat.reduceBEq, Nat.reduceAdd]; refine ⟨by simp, ?_⟩; obtain ⟨x17, ex17, h⟩ := Option.bind_eq_some_iff.1 h; refine V_callO trivial (o_slices_Clone_Side x16.Sides _ ex17) (hp := (by first | rfl | simp [go_sem, hc2.pu])) (h := ?_); refine V_go 7 ?_; dsimp only [e98, e98_L0, go_sem, Nat.reduceBEq, Nat.reduceAdd]; refine ⟨by simp, ?_⟩; refine V_seal 3 rfl ?_; dsimp only [go_sem, Nat.reduceBEq, Nat.reduceAdd]; refine V_go 1 ?_
       dsimp only [e98, e98_L0, go_sem, Nat.reduceBEq, Nat.reduceAdd]; refine ⟨by simp, ?_⟩; obtain ⟨x18, ex18, h⟩ := Option.bind_eq_some_iff.1 h; refine V_appM Diner.row ex18 trivial rfl rfl rfl ?_; refine V_go 8 ?_; dsimp only [e98, e98_L0, go_sem, Nat.reduceBEq, Nat.reduceAdd]; refine ⟨by simp, ?_⟩; refine V_ren 5 2 rfl rfl rfl ?_; dsimp only [go_sem, Nat.reduceBEq, Nat.reduceAdd]; exact M_back h hin1 (hok := by first | rfl | simp [go_sem, puL_ok _ hc2.pu])
      ·refine M_ite h rfl (fun _ h => ?_) fun _ h => ?_
       ·refine V_go 4 ?_; dsimp only [e98, e98_L0, go_sem, Nat.reduceBEq, Nat.reduceAdd]; refine ⟨by simp, ?_⟩; exact M_to J2 (s := x5.1) h (hok := by first | rfl | simp [go_sem, puL_ok _ hc2.pu])
       ·refine V_go 1 ?_; dsimp only [e98, e98_L0, go_sem, Nat.reduceBEq, Nat.reduceAdd]; refine ⟨by simp, ?_⟩; exact M_to J2 (s := x15) h (hok := by first | rfl | simp [go_sem, puL_ok _ hc2.pu])
     ·refine V_go 1 ?_; dsimp only [e98, e98_L0, go_sem, Nat.reduceBEq, Nat.reduceAdd]; refine ⟨by simp, ?_⟩; exact M_to J1 (s := x14) (M_out h hout1) (hok := by first | rfl | simp [go_sem, puL_ok _ hc2.pu])
def f_table_act_j1 (_F : Nat) (x6 : (List Mail)) : (List Diner) → Option (Scene × Int)
| x28 =>
 some ((Scene.mk x28 x6), 0)
theorem le_table_act_j1 {F : Nat} {x6 : (List Mail)} : ∀ s, ole (f_table_act_j1 F x6 s) (m_table_act_j1 x6 s) := by
  intro x28
  unfold f_table_act_j1 m_table_act_j1
  try dsimp only
  with_reducible repeat' first | exact ole_refl _ | assumption | intro _ | refine ole_ifb ?_ ?_ | refine ole_bind ?_ ?_ | refine ole_map ?_ | refine ole_loop ?_ | apply h_p2
def f_table_act_j2 (F : Nat) (x13 : Int) (x14 : (List Diner)) : Diner → Option ((Int × (List Diner)) ⊕ (Scene × Int))
| x16 =>
 (f_slices_Clone_Side F x16.Sides).bind fun x17 =>
 (app_ 40 x14 ([(Diner.mk x16.ID x16.Phase x17)])).bind fun x18 =>
 some (.inl (wr (x13 + 1), x18))
theorem le_table_act_j2 {F : Nat} {x13 : Int} {x14 : (List Diner)} : ∀ s, ole (f_table_act_j2 F x13 x14 s) (m_table_act_j2 x13 x14 s) := by
  intro x16
  unfold f_table_act_j2 m_table_act_j2
  try dsimp only
  with_reducible repeat' first | exact ole_refl _ | assumption | intro _ | refine ole_ifb ?_ ?_ | refine ole_bind ?_ ?_ | refine ole_map ?_ | refine ole_loop ?_ | apply le_table_act_j1 | apply le_slices_Clone_Side | apply h_p2
def f_table_act_l1 (F : Nat) (x1 : Scene) (x2 : Int) (x5 : (Diner × (List Mail) × Int)) (x6 : (List Mail)) : (Int × (List Diner)) → Option ((Int × (List Diner)) ⊕ (Scene × Int))
| (x13, x14) =>
 ifb (decide (x13 < (ln Diner.row x1.Diners))) (
 (at_ x1.Diners x13).bind fun x15 =>
 ifb (decide (x15.ID = x2)) (
 (f_table_act_j2 F x13 x14) x5.1) (
 (f_table_act_j2 F x13 x14) x15)) (
 Option.map Sum.inr ((f_table_act_j1 F x6) x14))
theorem le_table_act_l1 {F : Nat} {x1 : Scene} {x2 : Int} {x5 : (Diner × (List Mail) × Int)} {x6 : (List Mail)} : ∀ s, ole (f_table_act_l1 F x1 x2 x5 x6 s) (m_table_act_l1 x1 x2 x5 x6 s) := by
  rintro ⟨x13, x14⟩
  unfold f_table_act_l1 m_table_act_l1
  try dsimp only
  with_reducible repeat' first | exact ole_refl _ | assumption | intro _ | refine ole_ifb ?_ ?_ | refine ole_bind ?_ ?_ | refine ole_map ?_ | refine ole_loop ?_ | apply le_table_act_j1 | apply le_slices_Clone_Side | apply le_table_act_j2 | apply h_p2
def f_table_act (F : Nat) (x1 : Scene) (x2 : Int) (p2 : (Diner → Option (Diner × Int))) : Option (Scene × Int) :=
 (at_ x1.Diners x2).bind fun x3 =>
 (p2 x3).bind fun x4 =>
 ifb (!decide (x4.2 = 0)) (
 some ((Scene.mk (([] : (List Diner))) (([] : (List Mail)))), x4.2)) (
 (f_dine_Fire F x4.1).bind fun x5 =>
 ifb (!decide (x5.2.2 = 0)) (
 some ((Scene.mk (([] : (List Diner))) (([] : (List Mail)))), x5.2.2)) (
 (f_slices_Concat_Mail F ([x1.Mail, x5.2.1])).bind fun x6 =>
 loopF F (f_table_act_l1 F x1 x2 x5 x6) (0, ([] : List Diner))))
theorem le_table_act {F : Nat} {x1 : Scene} {x2 : Int} {p2 q2 : (Diner → Option (Diner × Int))} (h_p2 : ∀ z, ole (p2 z) (q2 z)) : ole (f_table_act F x1 x2 p2) (m_table_act x1 x2 q2) := by
  unfold f_table_act m_table_act
  with_reducible repeat' first | exact ole_refl _ | assumption | intro _ | refine ole_ifb ?_ ?_ | refine ole_bind ?_ ?_ | refine ole_map ?_ | refine ole_loop ?_ | apply le_table_act_j1 | apply le_slices_Clone_Side | apply le_table_act_j2 | apply le_table_act_l1 | apply le_dine_Fire | apply le_slices_Concat_Mail | apply h_p2
end NX
end Go.Proofs.Ytadebhbiglmodaa
/-
  The function narthex/table.turn: its code compiled, a model, and that the code answers as the model. Written by a program of ours (lb.py). No statement of the seat is proved here.
-/
namespace Go.Proofs.Ytadebhbiglmodaa
namespace NX
open Go
set_option maxRecDepth 100000
set_option maxHeartbeats 4000000
def e76 : EC := .seq (.reg [⟨(some 3), none, .box 43 2 (.t 0)⟩, ⟨(some 6), none, .alloc 43 [.nl, .nl]⟩, ⟨(some 7), none, .mv (.c (.iv 0))⟩]) (.seq (.seq (.reg [⟨(some 9), none, .loadA 2 (.t 3)⟩, ⟨(some 10), none, .call 71 [(.t 9)]⟩, ⟨(some 8), none, .mv (.t 10)⟩]) (.seq (.reg [⟨(some 11), none, .mv (.t 8)⟩, ⟨(some 12), none, .bin .neq (.t 11) (.c (.iv 0))⟩]) (.ite (.t 12) (.seq (.reg [⟨(some 13), none, .build [.nl, .nl] []⟩, ⟨(some 14), none, .mv (.t 8)⟩, ⟨none, none, .store 2 (.t 6) (.t 13)⟩, ⟨(some 7), none, .mv (.t 14)⟩]) (.ret)) (.skip)))) (.seq (.seq (.reg [⟨(some 15), none, .loadA 2 (.t 3)⟩, ⟨(some 16), none, .mv (.t 1)⟩, ⟨(some 17), none, .call 73 [(.t 15), (.t 16)]⟩, ⟨(some 18), none, .not (.t 17)⟩]) (.ite (.t 18) (.seq (.reg [⟨(some 19), none, .build [.nl, .nl] []⟩, ⟨none, none, .store 2 (.t 6) (.t 19)⟩, ⟨(some 7), none, .mv (.c (.iv 140))⟩]) (.ret)) (.skip))) (.seq (.reg [⟨(some 20), none, .loadA 2 (.t 3)⟩, ⟨(some 21), none, .mv (.t 1)⟩, ⟨(some 22), none, .mv (.t 2)⟩, ⟨(some 23), none, .call 98 [(.t 20), (.t 21), (.t 22)]⟩, ⟨(some 24), none, .ext (.t 23) 0⟩, ⟨(some 25), none, .ext (.t 23) 1⟩, ⟨none, none, .store 2 (.t 6) (.t 24)⟩, ⟨(some 7), none, .mv (.t 25)⟩]) (.ret))))
theorem ok76 : FnOK Try.prog 76 Try.f76 e76 [.c 6 (some 2), .t 7] 3 23 := ⟨by kernel_rfl, ⟨_, rfl, by kernel_rfl⟩, by kernel_rfl, by kernel_rfl⟩
/- narthex/table.turn -/
noncomputable def m_table_turn (x1 : Scene) (x2 : Int) (p2 : (Diner → Option (Diner × Int))) : Option (Scene × Int) :=
 (m_table_Check x1).bind fun x3 =>
 ifb (!decide (x3 = 0)) (
 some ((Scene.mk (([] : (List Diner))) (([] : (List Mail)))), x3)) (
 (m_table_there x1 x2).bind fun x4 =>
 ifb (!x4) (
 some ((Scene.mk (([] : (List Diner))) (([] : (List Mail)))), 140)) (
 (m_table_act x1 x2 p2).bind fun x5 =>
 some (x5.1, x5.2)))
theorem k_table_turn (x1 : Scene) (x2 : Int) (g2 : Nat) (caps2 : List AV) (p2 : (Diner → Option (Diner × Int))) (hc2 : CloOK Try.prog g2 caps2 (fun z => [.agg (Diner.row z)]) p2 (fun z => .tup [.agg (Diner.row z.1), .iv z.2])) (r : (Scene × Int)) (h : m_table_turn x1 x2 p2 = some r) : FunP Try.prog 76 [.agg (Scene.row x1), .iv x2, .clo g2 caps2] (.tup [.agg (Scene.row r.1), .iv r.2]) := by
  refine FunP_intro ok76 rfl rfl fun w0 H0 => ?_
  rw [m_table_turn] at h
  refine V_go 10 ?_; dsimp only [e76, go_sem, Nat.reduceBEq, Nat.reduceAdd]; refine ⟨by simp, ?_⟩; obtain ⟨x3, ex3, h⟩ := Option.bind_eq_some_iff.1 h; refine V_call trivial (k_table_Check x1 _ ex3) (hp := (by first | rfl | simp [go_sem, hc2.pu])) (h := ?_); refine V_go 7 ?_; dsimp only [e76, go_sem, Nat.reduceBEq, Nat.reduceAdd]; refine ⟨by simp, ?_⟩; refine M_ite h rfl (fun _ h => ?_) fun _ h => ?_
  ·refine V_go 7 ?_; dsimp only [e76, go_sem, Nat.reduceBEq, Nat.reduceAdd]; refine ⟨by simp, ?_⟩; exact M_done (res := fun (r : (Scene × Int)) => .tup [.agg (Scene.row r.1), .iv r.2]) ok76 h
  ·refine V_go 6 ?_; dsimp only [e76, go_sem, Nat.reduceBEq, Nat.reduceAdd]; refine ⟨by simp, ?_⟩; obtain ⟨x4, ex4, h⟩ := Option.bind_eq_some_iff.1 h; refine V_call trivial (k_table_there x1 x2 _ ex4) (hp := (by first | rfl | simp [go_sem, hc2.pu])) (h := ?_); refine V_go 2 ?_; dsimp only [e76, go_sem, Nat.reduceBEq, Nat.reduceAdd]; refine ⟨by simp, ?_⟩; refine M_ite h rfl (fun _ h => ?_) fun _ h => ?_
   ·refine V_go 6 ?_; dsimp only [e76, go_sem, Nat.reduceBEq, Nat.reduceAdd]; refine ⟨by simp, ?_⟩; exact M_done (res := fun (r : (Scene × Int)) => .tup [.agg (Scene.row r.1), .iv r.2]) ok76 h
   ·refine V_go 6 ?_; dsimp only [e76, go_sem, Nat.reduceBEq, Nat.reduceAdd]; refine ⟨by simp, ?_⟩; obtain ⟨x5, ex5, h⟩ := Option.bind_eq_some_iff.1 h; refine V_call trivial (k_table_act x1 x2 _ _ p2 hc2 _ ex5) (hp := (by first | rfl | simp [go_sem, hc2.pu])) (h := ?_); refine V_go 5 ?_; dsimp only [e76, go_sem, Nat.reduceBEq, Nat.reduceAdd]; refine ⟨by simp, ?_⟩; exact M_done (res := fun (r : (Scene × Int)) => .tup [.agg (Scene.row r.1), .iv r.2]) ok76 h
def f_table_turn (F : Nat) (x1 : Scene) (x2 : Int) (p2 : (Diner → Option (Diner × Int))) : Option (Scene × Int) :=
 (f_table_Check F x1).bind fun x3 =>
 ifb (!decide (x3 = 0)) (
 some ((Scene.mk (([] : (List Diner))) (([] : (List Mail)))), x3)) (
 (f_table_there F x1 x2).bind fun x4 =>
 ifb (!x4) (
 some ((Scene.mk (([] : (List Diner))) (([] : (List Mail)))), 140)) (
 (f_table_act F x1 x2 p2).bind fun x5 =>
 some (x5.1, x5.2)))
theorem le_table_turn {F : Nat} {x1 : Scene} {x2 : Int} {p2 q2 : (Diner → Option (Diner × Int))} (h_p2 : ∀ z, ole (p2 z) (q2 z)) : ole (f_table_turn F x1 x2 p2) (m_table_turn x1 x2 q2) := by
  unfold f_table_turn m_table_turn
  with_reducible repeat' first | exact ole_refl _ | assumption | intro _ | refine ole_ifb ?_ ?_ | refine ole_bind ?_ ?_ | refine ole_map ?_ | refine ole_loop ?_ | apply le_table_Check | apply le_table_there | apply le_table_act | apply h_p2
end NX
end Go.Proofs.Ytadebhbiglmodaa
/-
  The function narthex/table.Start: its code compiled, a model, and that the code answers as the model. Written by a program of ours (lb.py). No statement of the seat is proved here.
-/
namespace Go.Proofs.Ytadebhbiglmodaa
namespace NX
open Go
set_option maxRecDepth 100000
set_option maxHeartbeats 4000000
def e69 : EC := .seq (.reg [⟨(some 2), none, .box 43 2 (.t 0)⟩, ⟨(some 4), none, .alloc 43 [.nl, .nl]⟩, ⟨(some 5), none, .mv (.c (.iv 0))⟩]) (.seq (.reg [⟨(some 6), none, .loadA 2 (.t 2)⟩, ⟨(some 7), none, .mv (.t 1)⟩, ⟨(some 8), none, .call 76 [(.t 6), (.t 7), (.c (.clo 94 []))]⟩, ⟨(some 9), none, .ext (.t 8) 0⟩, ⟨(some 10), none, .ext (.t 8) 1⟩, ⟨none, none, .store 2 (.t 4) (.t 9)⟩, ⟨(some 5), none, .mv (.t 10)⟩]) (.ret))
theorem ok69 : FnOK Try.prog 69 Try.f69 e69 [.c 4 (some 2), .t 5] 2 9 := ⟨by kernel_rfl, ⟨_, rfl, by kernel_rfl⟩, by kernel_rfl, by kernel_rfl⟩
/- narthex/table.Start -/
noncomputable def m_table_Start (x1 : Scene) (x2 : Int) : Option (Scene × Int) :=
 (m_table_turn x1 x2 ((fun z => m_dine_Start z))).bind fun x3 =>
 some (x3.1, x3.2)
theorem k_table_Start (x1 : Scene) (x2 : Int) (r : (Scene × Int)) (h : m_table_Start x1 x2 = some r) : FunP Try.prog 69 [.agg (Scene.row x1), .iv x2] (.tup [.agg (Scene.row r.1), .iv r.2]) := by
  refine FunP_intro ok69 rfl rfl fun w0 H0 => ?_
  rw [m_table_Start] at h
  refine V_go 10 ?_; dsimp only [e69, go_sem, Nat.reduceBEq, Nat.reduceAdd]; refine ⟨by simp, ?_⟩; obtain ⟨x3, ex3, h⟩ := Option.bind_eq_some_iff.1 h; refine V_call trivial (k_table_turn x1 x2 _ _ ((fun z => m_dine_Start z)) ⟨by kernel_rfl, rfl, fun z r hz => k_dine_Start z r hz⟩ _ ex3) (h := ?_); refine V_go 5 ?_; dsimp only [e69, go_sem, Nat.reduceBEq, Nat.reduceAdd]; refine ⟨by simp, ?_⟩; exact M_done (res := fun (r : (Scene × Int)) => .tup [.agg (Scene.row r.1), .iv r.2]) ok69 h
def f_table_Start (F : Nat) (x1 : Scene) (x2 : Int) : Option (Scene × Int) :=
 (f_table_turn F x1 x2 ((fun z => f_dine_Start F z))).bind fun x3 =>
 some (x3.1, x3.2)
theorem le_table_Start {F : Nat} {x1 : Scene} {x2 : Int} : ole (f_table_Start F x1 x2) (m_table_Start x1 x2) := by
  unfold f_table_Start m_table_Start
  with_reducible repeat' first | exact ole_refl _ | assumption | intro _ | refine ole_ifb ?_ ?_ | refine ole_bind ?_ ?_ | refine ole_map ?_ | refine ole_loop ?_ | apply le_table_turn | apply le_dine_Start
end NX
end Go.Proofs.Ytadebhbiglmodaa
/-
  The function narthex/table.Deliver$1: its code compiled, a model, and that the code answers as the model. Written by a program of ours (lb.py). No statement of the seat is proved here.
-/
namespace Go.Proofs.Ytadebhbiglmodaa
namespace NX
open Go
set_option maxRecDepth 100000
set_option maxHeartbeats 4000000
def e96 : EC := .seq (.reg [⟨(some 3), none, .box 97 5 (.t 0)⟩, ⟨(some 4), none, .mv (.c .ff)⟩]) (.seq (.reg [⟨(some 5), none, .fld 0 (.t 3)⟩, ⟨(some 6), none, .load (.t 5)⟩, ⟨(some 7), none, .load (.t 1)⟩, ⟨(some 8), none, .bin .eql (.t 6) (.t 7)⟩, ⟨(some 9), none, .mv (.t 8)⟩, ⟨(some 10), (some (9, true)), .fld 1 (.t 3)⟩, ⟨(some 11), (some (9, true)), .load (.t 10)⟩, ⟨(some 12), (some (9, true)), .load (.t 2)⟩, ⟨(some 13), (some (9, true)), .bin .eql (.t 11) (.t 12)⟩, ⟨(some 14), none, .pick (.t 9) (.t 13) (.c .ff)⟩, ⟨(some 4), none, .mv (.t 14)⟩]) (.ret))
theorem ok96 : FnOK Try.prog 96 Try.f96 e96 [.t 4] 3 12 := ⟨by kernel_rfl, ⟨_, rfl, by kernel_rfl⟩, by kernel_rfl, by kernel_rfl⟩
/- narthex/table.Deliver$1 -/
noncomputable def m_table_Deliver_1_j1  : Bool → Option Bool
| x4 =>
 some x4
noncomputable def m_table_Deliver_1 (x1 : Mail) (x2 : Int) (x3 : Int) : Option Bool :=
 ifb (decide (x1.From = x2)) (
 m_table_Deliver_1_j1 (decide (x1.To = x3))) (
 m_table_Deliver_1_j1 false)
theorem k_table_Deliver_1 (x1 : Mail) (x2 : Int) (x3 : Int) (r : Bool) (h : m_table_Deliver_1 x1 x2 x3 = some r) : FunP Try.prog 96 [.agg (Mail.row x1), .elt (intRow x2) 0, .elt (intRow x3) 0] (.bv r) := by
  refine FunP_intro ok96 rfl rfl fun w0 H0 => ?_
  rw [m_table_Deliver_1] at h
  refine V_go 12 ?_; dsimp only [e96, go_sem, Nat.reduceBEq, Nat.reduceAdd]; refine ⟨by simp, ?_⟩; refine V_join (fun (x4 : Bool) => (⟨(an 4 (.bv x4 :: an 10 [])), [], []⟩ : St)) m_table_Deliver_1_j1 r ?_ fun J1 => ?_
  ·intro x4 h; rw [m_table_Deliver_1_j1] at h; (try dsimp only); exact M_done (res := fun (r : Bool) => .bv r) ok96 h
  ·refine M_case 9 h rfl (fun _ h => ?_) fun _ h => ?_
   ·dsimp only [go_sem, Nat.reduceBEq, Nat.reduceAdd]; refine V_go 7 ?_; dsimp only [e96, go_sem, Nat.reduceBEq, Nat.reduceAdd]; refine ⟨by simp, ?_⟩; exact M_to J1 (s := decide (x1.To = x3)) h
   ·dsimp only [go_sem, Nat.reduceBEq, Nat.reduceAdd]; refine V_go 7 ?_; dsimp only [e96, go_sem, Nat.reduceBEq, Nat.reduceAdd]; refine ⟨by simp, ?_⟩; exact M_to J1 (s := false) h
def f_table_Deliver_1_j1 (_F : Nat)  : Bool → Option Bool
| x4 =>
 some x4
theorem le_table_Deliver_1_j1 {F : Nat} : ∀ s, ole (f_table_Deliver_1_j1 F s) (m_table_Deliver_1_j1 s) := by
  intro x4
  unfold f_table_Deliver_1_j1 m_table_Deliver_1_j1
  try dsimp only
  with_reducible repeat' first | exact ole_refl _ | assumption | intro _ | refine ole_ifb ?_ ?_ | refine ole_bind ?_ ?_ | refine ole_map ?_ | refine ole_loop ?_
def f_table_Deliver_1 (F : Nat) (x1 : Mail) (x2 : Int) (x3 : Int) : Option Bool :=
 ifb (decide (x1.From = x2)) (
 f_table_Deliver_1_j1 F (decide (x1.To = x3))) (
 f_table_Deliver_1_j1 F false)
theorem le_table_Deliver_1 {F : Nat} {x1 : Mail} {x2 : Int} {x3 : Int} : ole (f_table_Deliver_1 F x1 x2 x3) (m_table_Deliver_1 x1 x2 x3) := by
  unfold f_table_Deliver_1 m_table_Deliver_1
  with_reducible repeat' first | exact ole_refl _ | assumption | intro _ | refine ole_ifb ?_ ?_ | refine ole_bind ?_ ?_ | refine ole_map ?_ | refine ole_loop ?_ | apply le_table_Deliver_1_j1
end NX
end Go.Proofs.Ytadebhbiglmodaa
/-
  The function narthex/table.Deliver$2: its code compiled, a model, and that the code answers as the model. Written by a program of ours (lb.py). No statement of the seat is proved here.
-/
namespace Go.Proofs.Ytadebhbiglmodaa
namespace NX
open Go
set_option maxRecDepth 100000
set_option maxHeartbeats 4000000
def e99 : EC := .seq (.reg [⟨(some 3), none, .box 39 3 (.t 0)⟩, ⟨(some 4), none, .alloc 39 [.iv 0, .iv 0, .nl]⟩, ⟨(some 5), none, .mv (.c (.iv 0))⟩]) (.seq (.reg [⟨(some 6), none, .loadA 3 (.t 3)⟩, ⟨(some 7), none, .load (.t 1)⟩, ⟨(some 8), none, .loadA 3 (.t 2)⟩, ⟨(some 9), none, .call 100 [(.t 6), (.t 7), (.t 8)]⟩, ⟨(some 10), none, .ext (.t 9) 0⟩, ⟨(some 11), none, .ext (.t 9) 1⟩, ⟨none, none, .store 3 (.t 4) (.t 10)⟩, ⟨(some 5), none, .mv (.t 11)⟩]) (.ret))
theorem ok99 : FnOK Try.prog 99 Try.f99 e99 [.c 4 (some 3), .t 5] 3 9 := ⟨by kernel_rfl, ⟨_, rfl, by kernel_rfl⟩, by kernel_rfl, by kernel_rfl⟩
/- narthex/table.Deliver$2 -/
noncomputable def m_table_Deliver_2 (x1 : Diner) (x2 : Int) (x3 : Msg) : Option (Diner × Int) :=
 (m_dine_Get x1 x2 x3).bind fun x4 =>
 some (x4.1, x4.2)
theorem k_table_Deliver_2 (x1 : Diner) (x2 : Int) (x3 : Msg) (r : (Diner × Int)) (h : m_table_Deliver_2 x1 x2 x3 = some r) : FunP Try.prog 99 [.agg (Diner.row x1), .elt (intRow x2) 0, .elt (Msg.row x3) 0] (.tup [.agg (Diner.row r.1), .iv r.2]) := by
  refine FunP_intro ok99 rfl rfl fun w0 H0 => ?_
  rw [m_table_Deliver_2] at h
  refine V_go 11 ?_; dsimp only [e99, go_sem, Nat.reduceBEq, Nat.reduceAdd]; refine ⟨by simp, ?_⟩; obtain ⟨x4, ex4, h⟩ := Option.bind_eq_some_iff.1 h; refine V_call trivial (k_dine_Get x1 x2 x3 _ ex4) (h := ?_); refine V_go 5 ?_; dsimp only [e99, go_sem, Nat.reduceBEq, Nat.reduceAdd]; refine ⟨by simp, ?_⟩; exact M_done (res := fun (r : (Diner × Int)) => .tup [.agg (Diner.row r.1), .iv r.2]) ok99 h
def f_table_Deliver_2 (F : Nat) (x1 : Diner) (x2 : Int) (x3 : Msg) : Option (Diner × Int) :=
 (f_dine_Get F x1 x2 x3).bind fun x4 =>
 some (x4.1, x4.2)
theorem le_table_Deliver_2 {F : Nat} {x1 : Diner} {x2 : Int} {x3 : Msg} : ole (f_table_Deliver_2 F x1 x2 x3) (m_table_Deliver_2 x1 x2 x3) := by
  unfold f_table_Deliver_2 m_table_Deliver_2
  with_reducible repeat' first | exact ole_refl _ | assumption | intro _ | refine ole_ifb ?_ ?_ | refine ole_bind ?_ ?_ | refine ole_map ?_ | refine ole_loop ?_ | apply le_dine_Get
end NX
end Go.Proofs.Ytadebhbiglmodaa
