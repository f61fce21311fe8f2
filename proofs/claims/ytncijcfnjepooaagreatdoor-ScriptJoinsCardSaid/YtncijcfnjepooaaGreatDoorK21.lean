/-
  A part of the proof of ScriptJoins: no statement of the seat is proved here.
-/
import Derived.Test.YtncijcfnjepooaaGreatDoorK20
import Derived.Test.YtncijcfnjepooaaGreatDoorRows
import Derived.Test.YtncijcfnjepooaaGreatDoorTie
import Derived.Test.YtncijcfnjepooaaGreatDoorCards
import Derived.WalkKit
import Derived.ProofKit
import Derived.OpenShut
import Derived.Carry
import Derived.LaidMore
import Derived.Lay
import Derived.LaidHandle
import Derived.LaidSub
import Derived.LaidLaws
import Derived.Lib.LaidU8
import Derived.Lib.LaidTab
import Derived.SevenTiedAt
import Derived.LaidOnce
import Derived.ChangeMaps5
import Derived.Stop.Joined
set_option linter.unusedVariables false
set_option linter.unusedSimpArgs false
set_option linter.unnecessarySimpa false
set_option linter.unusedSectionVars false
set_option linter.constructorNameAsVariable false
set_option linter.deprecated false
section
set_option maxRecDepth 100000
set_option maxHeartbeats 4000000
namespace Go.Proofs.YtncijcfnjepooaaGreatDoor
namespace NX
open Go Go.X Go.RowKit Go.ChangeShapes Go.WideShapes Go.ChangeAt T
theorem trodAll_below {P : Program} {H : Type} {enc : TypeId × Value → H} (hl : laidOutB P = true) {W W' : World} (hB : Below W.heap.size W W') : ∀ {ts : List TypeId} {vs : List Value} {ds : List (DataW H)} {ps : List MemPlace},
    (ts.all fun t => P.readableRec t && decide (t < P.types.size)) = true → DataW.TrodAll enc P W 0 (fun _ => true) true ts vs ds ps → (∀ x ∈ ps, x.block < W.heap.size) →
    DataW.TrodAll enc P W' 0 (fun b => decide (b < W.heap.size)) true ts vs ds ps
  | [], [], [], ps, _, h, _ => h
  | t :: ts, v :: vs, d :: ds, ps, hr, ⟨p, q, h1, h2, e⟩, hlt => by
    simp only [List.all_cons, Bool.and_eq_true, decide_eq_true_eq] at hr
    subst e
    exact ⟨p, q, Below.trod hl hr.1.1 hr.1.2 h1 hB (fun x hx => hlt x (List.mem_append_left _ hx)), trodAll_below hl hB (by simpa using hr.2) h2 (fun x hx => hlt x (List.mem_append_right _ hx)), rfl⟩
  | [], _ :: _, _, _, _, h, _ => by simp [DataW.TrodAll] at h
  | [], [], _ :: _, _, _, h, _ => by simp [DataW.TrodAll] at h
  | _ :: _, [], _, _, _, h, _ => by simp [DataW.TrodAll] at h
  | _ :: _, _ :: _, [], _, _, h, _ => by simp [DataW.TrodAll] at h
theorem trodAll_len {P : Program} {H : Type} {enc : TypeId × Value → H} {w : World} {b : Nat} {sp : Nat → Bool} {held : Bool} : ∀ {ts : List TypeId} {vs : List Value} {ds : List (DataW H)} {ps : List MemPlace}, DataW.TrodAll enc P w b sp held ts vs ds ps → ds.length = ts.length ∧ vs.length = ts.length
  | [], [], [], _, _ => ⟨rfl, rfl⟩
  | _ :: _, _ :: _, _ :: _, _, ⟨_, _, _, h, _⟩ => by have := trodAll_len h; simp [this]
  | [], _ :: _, _, _, h => by simp [DataW.TrodAll] at h
  | [], [], _ :: _, _, h => by simp [DataW.TrodAll] at h
  | _ :: _, [], _, _, h => by simp [DataW.TrodAll] at h
  | _ :: _, _ :: _, [], _, h => by simp [DataW.TrodAll] at h
theorem law_post {P : Program} {fn : Func} {s : ChangeSpec} (hl : laidOutB P = true) (hr : (fn.params.toList.all fun t => P.readableRec t && decide (t < P.types.size)) = true) (hv : s.vars = []) {tb : TypeId} (hres : fn.resultTypes = #[tb]) (hb : P.underlying tb = some .bool)
    {H : Type} {enc : TypeId × Value → H} {W W' : World} {args : Array Value} {ds gs : List (DataW H)} {before : List MemPlace}
    (hs : ds.length = fn.params.size → s.fn H ds = { results := [.lit (.bool true)], args := ds })
    (hW : DataW.Whole enc P fn.params.toList s.vars false W args.toList ds gs before) (hB : Below W.heap.size W W') : s.post enc P fn false true false false W args (.bool true) W' := by
  have hW' := hW
  obtain ⟨p, q, hA, hV, rfl, hfz, hnd⟩ := hW
  rw [hv] at hV
  obtain ⟨rfl, rfl⟩ := trodVars_none hV
  have hlen := (trodAll_len hA).1
  have e1 : s.fn H (ds ++ []) = { results := [.lit (.bool true)], args := ds } := by rw [List.append_nil]; exact hs (by simpa using hlen)
  refine ⟨ds, [], p ++ [], [], p, [], hW', ?_, ?_, ?_, hB.frame _, fun h => by cases h⟩
  · rw [e1, hres]; exact trodAll_mk1 (shut_bool hb _)
  · rw [e1]; exact trodAll_below hl hB hr hA (fun x hx => hW'.lt x (List.mem_append_left _ hx))
  · rw [e1, hv]; rfl
theorem ro_mem {k : Nat} {c : List Value} : ∀ {l : List (Nat × List Value)}, roG l k = some c → (k, c) ∈ l
  | [], h => by simp [roG] at h
  | (a, b) :: l, h => by
    unfold roG at h
    split at h
    · rename_i q
      simp at h; subst h
      obtain rfl := Nat.eq_of_beq_eq_true q
      exact List.mem_cons_self ..
    · exact List.mem_cons_of_mem _ (ro_mem h)
theorem var_heap {P : Program} {W : World} {n : String} {g : Nat} {cs : Array Value} (hg : P.globalNamed n = some g) (h : W.var? P n = some cs) : ∃ T fr, W.heap[g]? = some (.cells cs T fr) := by
  unfold World.var? at h
  rw [hg, Option.bind_some] at h
  cases q : W.heap[g]? with
  | none => rw [q] at h; simp at h
  | some o =>
    rw [q] at h
    cases o with
    | cells c T fr => simp only [Option.some.injEq] at h; subst h; exact ⟨T, fr, rfl⟩
    | _ => simp at h
theorem ro_tab {W : World} {n : String} {g ta te m : Nat} {k : IntKind} {zs : List Int} (hr : Lib.VarReads Tryz.prog W n (Lib.tabData k zs)) (hg : Tryz.prog.globalNamed n = some g) (ht : (Tryz.prog.globals[g]?).map (·.type) = some ta) (hu : Tryz.prog.underlying ta = some (.array m te)) (he : Tryz.prog.underlying te = some (.int k)) (hc : Tryz.prog.cellsOf te = 1) (hm : Tryz.prog.cellsOf ta = m) :
    ∃ (c' : List Value) (T : TypeId) (fr : Nat × Nat), VRL ⟨fun _ => none, fun _ _ => none⟩ (zs.map fun z => Value.int k z) c' ∧ W.heap[g]? = some (.cells ⟨c'⟩ T fr) := by
  obtain ⟨g', t', cs, fuel, p, hg', ht', hvar, hd⟩ := hr
  obtain rfl := Option.some.inj (hg.symm.trans hg')
  obtain rfl := Option.some.inj (ht.symm.trans ht')
  have hcs := Lib.cells_of_tab hu he hc hm hd
  obtain ⟨T, fr, hh⟩ := var_heap hg hvar
  refine ⟨zs.map fun z => Value.int k z, T, fr, VRL.nad fun a ha => ?_, ?_⟩
  · obtain ⟨z, _, rfl⟩ := List.mem_map.1 ha; rfl
  · rw [hh, ← hcs]
theorem ro_err {W : World} {n nm : String} {g ta : Nat} {d : DataW Unit} (hr : Lib.VarReads Tryz.prog W n (.iface nm d)) (hg : Tryz.prog.globalNamed n = some g) (ht : (Tryz.prog.globals[g]?).map (·.type) = some ta) (hu : ∃ ms, Tryz.prog.underlying ta = some (.interface ms)) :
    ∃ (u : TypeId) (v : Value) (cs : Array Value) (T : TypeId) (fr : Nat × Nat), W.heap[g]? = some (.cells cs T fr) ∧ cs[0]? = some (.iface u v) := by
  obtain ⟨g', t', cs, fuel, p, hg', ht', hvar, hd⟩ := hr
  obtain rfl := Option.some.inj (hg.symm.trans hg')
  obtain rfl := Option.some.inj (ht.symm.trans ht')
  obtain ⟨ms, hu⟩ := hu
  obtain ⟨_, u, v, hcs, hn, _⟩ := iface_of_trod hu hd
  obtain ⟨T, fr, hh⟩ := var_heap hg hvar
  refine ⟨u, v, cs, T, fr, hh, ?_⟩
  rw [Array.eq_one_of_toList hcs]; rfl
theorem int_cell {W : World} (hS : W.ShapedOpen Tryz.prog) : ∃ (m : Int) (cs : Array Value) (T : TypeId) (fr : Nat × Nat), W.heap[0]? = some (.cells cs T fr) ∧ cs[0]? = some (.int .i64 m) := by
  have h0 : (((begin Tryz.prog (fun _ _ => 0) default).world.heap[0]?).bind Obj.row?) = some (#[.int .i64 0], 3) := by kernel_rfl
  obtain ⟨cs, hc, hs, hb⟩ := hS.1 0 _ _ (Nat.le_of_ble_eq_true (by kernel_rfl)) h0
  obtain ⟨ts, h1, _, h2⟩ := hb (by kernel_rfl)
  have h3 : Tryz.prog.cellTypes Tryz.prog.depth 3 = some [3] := by kernel_rfl
  obtain rfl : [3] = ts := Option.some.inj (h3.symm.trans h1)
  have hz : 0 < cs.size := by rw [hs]; decide
  obtain ⟨u, hu, hv⟩ := h2 0 cs[0] (by simp [hz])
  obtain rfl : 3 = u := by simpa using hu
  unfold Cell.ok at hv
  rw [show Tryz.prog.underlying 3 = some (.int .i64) by kernel_rfl] at hv
  generalize q : cs[0] = v at hv
  have q0 : cs[0]? = some v := by rw [← q]; exact Array.getElem?_eq_getElem hz
  cases v <;> first | exact hv.elim | skip
  obtain ⟨rfl, _⟩ := hv
  exact ⟨_, cs, _, _, hc, q0⟩
theorem laidOut : laidOutB Tryz.prog = true := by kernel_rfl
theorem all_one {c : List Value} (h : c.all one = true) : ∀ v ∈ c, one v = true := List.all_eq_true.1 h
theorem hasRo {W : World} (hS : W.ShapedOpen Tryz.prog) (hL : laidMetH Tryz.prog Rows.scriptJoinsRow.laid W) : HasRo Tryz.prog W := by
  have hp := (laidMetH_iff.1 hL).1
  have rd : ∀ {n : String} {d : DataW Unit}, (n, d) ∈ Rows.scriptJoinsRow.laid → d.handleName?.isNone = true → Lib.VarReads Tryz.prog W n d := fun hm hh => Lib.laidMet.reads hp (List.mem_filter.2 ⟨hm, hh⟩)
  have hin : ∀ {n : String} {d : DataW Unit} (i : Nat), Rows.scriptJoinsRow.laid[i]? = some (n, d) → (n, d) ∈ Rows.scriptJoinsRow.laid := fun i h => List.mem_of_getElem? h
  refine ⟨fun k c e => ?_, fun k hk => ?_, fun k hk => ?_⟩
  · have hm := ro_mem e
    unfold roL at hm
    rcases List.mem_cons.1 hm with q | hm
    · obtain ⟨rfl, rfl⟩ := Prod.mk.inj q
      have := ro_tab (k := .u64) (zs := Lib.pow10Tab) (rd (n := "internal/strconv.uint64pow10") (d := Lib.tabData .u64 Lib.pow10Tab) (hin 2 (by kernel_rfl)) (by kernel_rfl)) (g := 1) (ta := 308) (te := 216) (m := 20) (by kernel_rfl) (by kernel_rfl) (by kernel_rfl) (by kernel_rfl) (by kernel_rfl) (by kernel_rfl)
      exact ⟨Nat.le_of_ble_eq_true (by kernel_rfl), by simp, all_one (by kernel_rfl), this⟩
    · rcases List.mem_cons.1 hm with q | hm
      · obtain ⟨rfl, rfl⟩ := Prod.mk.inj q
        have := ro_tab (k := .u32) (zs := [0,498536548,997073096,651767980,1994146192,1802195444,1303535960,1342533948,3988292384,4027552580,3604390888,3412177804,2607071920,2262029012,2685067896,3183342108]) (rd (n := "narthex/crc.steps") (d := Lib.tabData .u32 _) (hin 3 (by kernel_rfl)) (by kernel_rfl)) (g := 5) (ta := 408) (te := 242) (m := 16) (by kernel_rfl) (by kernel_rfl) (by kernel_rfl) (by kernel_rfl) (by kernel_rfl) (by kernel_rfl)
        exact ⟨Nat.le_of_ble_eq_true (by kernel_rfl), by simp, all_one (by kernel_rfl), this⟩
      · cases hm
  · simp only [roI, List.mem_singleton] at hk
    subst hk
    exact int_cell hS
  · simp only [roF, List.mem_cons, List.not_mem_nil, or_false] at hk
    rcases hk with rfl | rfl
    · exact ro_err (rd (n := "strconv.ErrSyntax") (d := Rows.laid_strconv_ErrSyntax) (hin 7 (by kernel_rfl)) (by kernel_rfl)) (g := 3) (ta := 72) (by kernel_rfl) (by kernel_rfl) ⟨_, Tryz.underlying72⟩
    · exact ro_err (rd (n := "strconv.ErrRange") (d := Rows.laid_strconv_ErrRange) (hin 6 (by kernel_rfl)) (by kernel_rfl)) (g := 4) (ta := 72) (by kernel_rfl) (by kernel_rfl) ⟨_, Tryz.underlying72⟩
theorem contract (H : Type) (enc : TypeId × Value → H) (W : World) (base : Nat) (args : Array Value) (ds gs : List (DataW H)) (before : List MemPlace)
    (hval : ∀ (j : Nat) t v, Tryz.f4.params[j]? = some t → args[j]? = some v → Value.okWide Tryz.prog W .any base t v)
    (hW : DataW.Whole enc Tryz.prog Tryz.f4.params.toList Rows.scriptJoinsSpec.vars false W args.toList ds gs before) (hL : laidMetH Tryz.prog Rows.scriptJoinsRow.laid W) (hS : W.ShapedOpen Tryz.prog) :
    Calls Tryz.prog 4 args W fun e W' => ∃ v, e = .returned v ∧ Rows.scriptJoinsSpec.post enc Tryz.prog Tryz.f4 false true false false W args v W' := by
  have hW2 := hW
  obtain ⟨p, q, hA0, hV, rfl, hfz, hnd⟩ := hW
  have hA : DataW.TrodAll enc Tryz.prog W 0 (fun _ => true) true Tryz.f4.params.toList args.toList ds p := hA0
  rw [Tryz.params4] at hA hval
  obtain ⟨v0, vs0, d0, ds0, p0, q0, hargs0, rfl, rfl, h0, r0⟩ := trodAll_cons hA
  obtain ⟨v1, vs1, d1, ds1, p1, q1, hargs1, rfl, rfl, h1, r1⟩ := trodAll_cons r0
  obtain ⟨hz, rfl, rfl⟩ := trodAll_nil r1
  obtain rfl : args = #[v0, v1] := by cases args; simp_all
  obtain ⟨s, rfl, -, -, -⟩ := ChangeMaps.open_string Tryz.underlying9 (hval 0 9 v0 rfl rfl) h0
  obtain ⟨t, rfl, -, -, -⟩ := ChangeMaps.open_string Tryz.underlying9 (hval 1 9 v1 rfl rfl) h1
  have hb := ZC.law (P := Tryz.prog) (k4 s.data.toList t.data.toList) (by intro a ha; simp only [List.mem_cons, List.not_mem_nil, or_false] at ha; rcases ha with rfl | rfl <;> rfl) W (hasRo hS hL)
  refine (show Calls Tryz.prog 4 #[.string s, .string t] W _ from hb).mono ?_
  rintro e W' ⟨rfl, hk, hK⟩
  exact ⟨_, rfl, law_post laidOut (by kernel_rfl) rfl (rfl : Tryz.f4.resultTypes = #[4]) Tryz.underlying4 (fun _ => rfl) hW2 ⟨hK.os, hK.tape, hK.output, hK.size, hk⟩⟩
theorem own : ownKnob Tryz.prog.godebug = none := by kernel_rfl
def flat1 : DataW Unit → List Value
  | .lit (.int k z) => [.int k z]
  | _ => []
def flat2 : DataW Unit → List Value
  | .agg ds => ds.flatMap fun
    | .agg es => es.flatMap flat1
    | d => flat1 d
  | d => flat1 d
noncomputable def laidHeap (h : Array Obj) : Array Obj :=
  ⟨[.cells #[.int .i64 0] 3, .cells ⟨flat2 Rows.laid_internal_strconv_uint64pow10⟩ 308,
    .cells #[.iface (((Tryz.prog.cutTypes.find? (·.1 == "internal/reflectlite.rtype")).map (·.2)).getD 0) (.agg #[typeHandle Tryz.prog 72])] 372,
    .cells #[.iface 429 (.pointer (some ⟨15, 0, none⟩))] 72, .cells #[.iface 429 (.pointer (some ⟨16, 0, none⟩))] 72,
    .cells ⟨flat2 Rows.laid_narthex_crc_steps⟩ 408, .cells ⟨flat2 Rows.laid_math_bits_deBruijn32tab⟩ 426, .cells ⟨flat2 Rows.laid_math_bits_deBruijn64tab⟩ 427,
    .cells ⟨flat2 Rows.laid_unicode_utf8_first⟩ 446, .cells ⟨flat2 Rows.laid_unicode_utf8_acceptRanges⟩ 449] ++ (h.toList.drop 10 ++
    [.cells #[.string ⟨#[105, 110, 118, 97, 108, 105, 100, 32, 115, 121, 110, 116, 97, 120]⟩] 431, .cells #[.string ⟨#[118, 97, 108, 117, 101, 32, 111, 117, 116, 32, 111, 102, 32, 114, 97, 110, 103, 101]⟩] 431])⟩
noncomputable def laidWorld (os : Os) : World :=
  let w0 := World.holding Tryz.prog os ⟨#[], #[], []⟩
  { w0 with heap := laidHeap w0.heap }
noncomputable def good (w : World) (l : List (String × DataW Unit)) : Option (List (String × DataW Unit)) :=
  (DataW.laidRun Tryz.prog w 8 (l.map (·.1))).bind fun x => if nodupBits 600 x.2 0 && laidRowsB Tryz.prog w x.2 then some x.1 else none
theorem met_of_good {w : World} {l : List (String × DataW Unit)} (h : good w l = some l) : laidMet Tryz.prog l w := by
  unfold good at h
  simp only [Option.bind_eq_some_iff] at h
  obtain ⟨x, hx, d⟩ := h
  split at d
  · rename_i hb
    simp only [Bool.and_eq_true] at hb
    simp only [Option.some.injEq] at d
    exact laidMet_of_run (ps := x.2) 8 (by rw [hx, ← d]) (decide_eq_true (nodupBits_sound hb.1).1) hb.2
  · cases d
theorem laid_good (os : Os) (args : Array Value) : good ((laidWorld os).forCall (fun _ _ => 0) ⟨#[], args, []⟩).memory (Rows.scriptJoinsRow.laid.filter fun x => x.2.handleName?.isNone) = some (Rows.scriptJoinsRow.laid.filter fun x => x.2.handleName?.isNone) := by kernel_rfl
theorem laid_met (os : Os) (args : Array Value) : laidMetH Tryz.prog Rows.scriptJoinsRow.laid ((laidWorld os).forCall (fun _ _ => 0) ⟨#[], args, []⟩).memory :=
  laidMetH_of_parts3 (fuel := 8) (met_of_good (laid_good os args)) (by kernel_rfl) (by kernel_rfl)
theorem laid_shaped (os : Os) : ((laidWorld os).forCall (fun _ _ => 0) ⟨#[], #[.string ⟨#[]⟩, .string ⟨#[]⟩], []⟩).Shaped Tryz.checked.prog := World.shaped_of_ZipB (by kernel_rfl) (by kernel_rfl)
theorem lifted (os : Os) (started : os.Started) (H : Type) (enc : TypeId × Value → H) :
    ReturnsInHanded {} Tryz.checked os 4 .any (fun w args => (Rows.scriptJoinsSpec.pre enc Tryz.prog Tryz.f4 [] false w args ∧ laidMetH Tryz.prog Rows.scriptJoinsRow.laid w) ∧ sizedMet enc Tryz.prog Tryz.f4 (OpenSpec.ofChange Rows.scriptJoinsSpec) false w args)
      (Rows.scriptJoinsSpec.post enc Tryz.prog Tryz.f4 false true false false) := by
  refine returnsInHanded_of_calls (C := Tryz.checked) own started (by kernel_rfl)
    (ChangeSpec.witness_shaped (enc := enc) (C := Tryz.checked) (os := os) (X := fun w _ => laidMetH Tryz.prog Rows.scriptJoinsRow.laid w) false (laidWorld os) #[.string ⟨#[]⟩, .string ⟨#[]⟩] 8 rfl (laid_shaped os) (by kernel_rfl) (by kernel_rfl) (by kernel_rfl) (laid_met os _)) ?_
  intro w tape i _ hS _ hok hpre _
  obtain ⟨_, _, _, fn', hfn', _, _, _, _, hval⟩ := hok
  obtain rfl : fn' = Tryz.f4 := Option.some.inj (hfn'.symm.trans Tryz.func4)
  obtain ⟨⟨⟨ds, gs, before, hw, hc⟩, hx⟩, hz⟩ := hpre
  have hw' := DataW.Whole.of_heap (w' := w.forCall tape i) (by rfl) hw
  refine (contract H enc (w.forCall tape i) w.heap.size i.args ds gs before hval hw' (hx.of_heap (by rfl)) hS).mono fun e W' ⟨v, he, hp⟩ => ?_
  subst he
  exact ChangeSpec.post_blind hp
end NX
end Go.Proofs.YtncijcfnjepooaaGreatDoor
end
