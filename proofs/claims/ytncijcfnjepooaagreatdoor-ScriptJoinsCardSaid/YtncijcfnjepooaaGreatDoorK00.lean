/-
  A part of the proof of ScriptJoins: no statement of the seat is proved here.
-/
import Derived.Orders
import Derived.LoopN
import Derived.Recover
import GoSem.Step
set_option linter.unusedVariables false
set_option linter.unusedSimpArgs false
set_option linter.unnecessarySimpa false
set_option linter.unusedSectionVars false
set_option linter.constructorNameAsVariable false
set_option linter.deprecated false
section
set_option linter.unusedVariables false
namespace Go.X
open Go
/-! A map from paths -/
inductive D | a | b | c | d
inductive T4 (α : Type) | e | n (v : Option α) (a b c d : T4 α)
section
variable {α β : Type}

noncomputable def dD (k : Nat) : D := Nat.rec .a (fun k _ => Nat.rec .b (fun k _ => Nat.rec .c (fun _ _ => .d) k) k) k
noncomputable def dg (f : Nat) : Nat → List D := Nat.rec (motive := fun _ => Nat → List D) (fun _ => []) (fun _ ih k => Nat.rec [] (fun k _ => dD (Nat.mod k 4) :: ih (Nat.div k 4)) k) f
noncomputable def T4.get (p : List D) : T4 α → Option α := List.rec (motive := fun _ => T4 α → Option α) (fun t => T4.rec none (fun v _ _ _ _ _ _ _ _ => v) t) (fun x _ ih t => T4.rec none (fun _ a b c d _ _ _ _ => ih (D.rec a b c d x)) t) p
noncomputable def T4.put (s : Option α) (p : List D) : T4 α → T4 α := List.rec (motive := fun _ => T4 α → T4 α) (fun t => T4.rec (.n s .e .e .e .e) (fun _ a b c d _ _ _ _ => .n s a b c d) t) (fun x _ ih t => T4.rec (D.rec (.n none (ih .e) .e .e .e) (.n none .e (ih .e) .e .e) (.n none .e .e (ih .e) .e) (.n none .e .e .e (ih .e)) x) (fun v a b c d _ _ _ _ => D.rec (.n v (ih a) b c d) (.n v a (ih b) c d) (.n v a b (ih c) d) (.n v a b c (ih d)) x) t) p
noncomputable def nth (l : List α) : Nat → Option α := List.rec (motive := fun _ => Nat → Option α) (fun _ => none) (fun x _ ih n => Bool.rec (ih (Nat.sub n 1)) (some x) (Nat.beq n 0)) l
noncomputable def tkl (n : Nat) : List α → List α := Nat.rec (motive := fun _ => List α → List α) (fun _ => []) (fun _ ih l => List.rec (motive := fun _ => List α) [] (fun x l _ => x :: ih l) l) n
noncomputable def dr (n : Nat) : List α → List α := Nat.rec (motive := fun _ => List α → List α) (fun l => l) (fun _ ih l => List.rec (motive := fun _ => List α) [] (fun _ l _ => ih l) l) n
noncomputable def ovg (x : List α) : List α → List α := List.rec (motive := fun _ => List α → List α) (fun l => l) (fun y _ ih l => List.rec (motive := fun _ => List α) [] (fun _ l _ => y :: ih l) l) x
noncomputable def ovl (l : List α) (n : Nat) (x : List α) : List α := Nat.rec (motive := fun _ => List α → List α) (fun l => ovg x l) (fun _ ih l => List.rec (motive := fun _ => List α) [] (fun y l _ => y :: ih l) l) n l
noncomputable def len (l : List α) : Nat := List.rec 0 (fun _ _ n => Nat.succ n) l
noncomputable def app (l m : List α) : List α := List.rec m (fun x _ r => x :: r) l
noncomputable def map (f : α → β) (l : List α) : List β := List.rec [] (fun x _ r => f x :: r) l
noncomputable def rep (n : Nat) (z : List α) : List α := Nat.rec [] (fun _ r => app z r) n
end
/-! Memory by names -/
/-- What lies in memory; a row of cells may be longer in truth (g). -/
inductive Ob
  | cells (c : List Value) (n : Nat) (T : TypeId) (g : Bool)
  | map (es : List MapEntry) (ck : Nat)
  | iter (s : ByteArray) (pos : Nat)
structure XS where
  h : T4 Ob
  nx : Nat
  lg : List Nat
abbrev Ban := List (Nat × Nat)
noncomputable def bn : Ban → Nat → Bool
  | [], _ => false
  | (a, b) :: l, n => match Nat.ble a n with
    | true => match Nat.ble b n with
      | true => bn l n
      | false => true
    | false => bn l n
noncomputable def tops : Nat := 300000
noncomputable def hget (s : XS) (n : Nat) : Option Ob := Bool.rec (T4.get (dg 10 n) s.h) none (Nat.ble tops n)
noncomputable def look (B : Ban) (s : XS) (n : Nat) : Option Ob := match B with
  | [] => hget s n
  | b :: B => match bn (b :: B) n with
    | true => none
    | false => hget s n
noncomputable def mem : List Nat → Nat → Bool
  | [], _ => false
  | a :: l, n => match Nat.beq a n with
    | true => true
    | false => mem l n
noncomputable def logged (lo : Nat) (lg : List Nat) (n : Nat) : List Nat := match Nat.ble lo n with
  | true => lg
  | false => match mem lg n with
    | true => lg
    | false => n :: lg
noncomputable def wrt (lo : Nat) (s : XS) (n : Nat) (o : Option Ob) : XS := match s with | ⟨h, nx, lg⟩ => ⟨T4.put o (dg 10 n) h, nx, logged lo lg n⟩
noncomputable def ptr (n off : Nat) : Value := .pointer (some ⟨n, off, none⟩)
/-- What computes only. -/
noncomputable def pv (P : Program) {α : Type} : Sem α → Option α
  | .pure a => some a
  | .program k => pv P (k P)
  | .mark _ k => pv P k
  | _ => none
/-! Values without addresses -/
noncomputable def scal : Value → Bool
  | .bool _ => true
  | .int _ _ => true
  | .string _ => true
  | _ => false
noncomputable def nad1 : Value → Bool
  | .bool _ => true
  | .int _ _ => true
  | .string _ => true
  | .pointer none => true
  | .slice none 0 0 => true
  | .map none => true
  | .nilFunc => true
  | .nilIface => true
  | .func (.func _) a b => match a.toList, b.toList with
    | [], [] => true
    | _, _ => false
  | _ => false
noncomputable def all1 : List Value → Bool
  | [] => true
  | v :: l => match nad1 v with
    | true => all1 l
    | false => false
noncomputable def nad2 : Value → Bool
  | .agg c => all1 c.toList
  | v => nad1 v
noncomputable def all2 : List Value → Bool
  | [] => true
  | v :: l => match nad2 v with
    | true => all2 l
    | false => false
noncomputable def nad : Value → Bool
  | .tuple c => all2 c.toList
  | .iface _ v => nad2 v
  | v => nad2 v
/-! Sealed rows of cells: trees. Slices of them (1: without more room), pointers into them (2). -/
noncomputable def slv (e : Nat) (c : List Value) (off n : Nat) : Value := .func (.yield e) ⟨c⟩ ⟨[.slice none off n]⟩
noncomputable def sv1 (e : Nat) (c : List Value) : List Value → Option (Nat × List Value × Nat × Nat)
  | [.slice none off n] => some (e, c, off, n)
  | _ => none
noncomputable def sv : Value → Option (Nat × List Value × Nat × Nat)
  | .func (.yield e) a b => sv1 e a.toList b.toList
  | _ => none
/-- A value of one cell. -/
noncomputable def one : Value → Bool
  | .agg _ => false
  | .tuple _ => false
  | .func (.yield _) _ b => match b.toList with
    | [] => false
    | _ :: _ => true
  | _ => true
noncomputable def ntup : Value → Bool
  | .tuple _ => false
  | .func (.yield _) _ b => match b.toList with
    | [] => false
    | _ :: _ => true
  | _ => true
/-- One cell without names: what a sealed row holds. -/
noncomputable def of1 : Value → Bool
  | .func (.yield _) _ b => match b.toList with
    | [] => false
    | _ :: _ => true
  | .iface _ v => nad2 v
  | v => nad1 v
/-- Whatever value: of a temporary that isn't known any more. -/
noncomputable def jnk : Value := .func (.yield 0) ⟨[]⟩ ⟨[]⟩
noncomputable def ev (tm : T4 Value) (x : Operand) : Value := Operand.rec (fun t => Option.rec jnk (fun v => v) (T4.get (dg 10 t) tm)) (fun v => v) (fun g => ptr g 0) (fun f => .func (.func f) #[] #[]) x
structure Fr where
  tm : T4 Value
  df : List Deferred
/-- What became of an operation. -/
inductive OR
  | val (v : Value) (s : XS)
  | call (f : FuncId) (args : List Value)
  | dfr (d : Deferred)
  | bad (why : String)
noncomputable def new (s : XS) (o : Ob) (k : Nat → XS → OR) : OR := XS.rec (motive := fun _ => OR) (fun h nx lg => Bool.rec (k nx ⟨T4.put (some o) (dg 10 nx) h, Nat.succ nx, lg⟩) (.bad "room") (Nat.ble tops nx)) s
noncomputable def isAg (P : Program) (T : TypeId) : Option Bool := match P.underlying T with
  | some (.struct _) => some true
  | some (.array _ _) => some true
  | some _ => some false
  | none => none
noncomputable def szT (P : Program) (T : TypeId) : Option Nat := match P.info? T with
  | some i => some i.size
  | none => none
noncomputable def zeroT (P : Program) (T : TypeId) : Option Value := match P.info? T with
  | some i => match i.zero with
    | some z => match nad2 z with
      | true => some z
      | false => none
    | none => none
  | none => none
/-- An element's cells when it is zero, with their number. -/
noncomputable def zc (P : Program) (T : TypeId) : Option (List Value × Nat) := match zeroT P T, szT P T with
  | some v, some n => match Nat.beq (len v.cells.toList) n with
    | true => some (v.cells.toList, n)
    | false => none
  | _, _ => none
/-- A part of a row of cells, of which there are so many. -/
noncomputable def partV (P : Program) (T : TypeId) (c : List Value) (m off : Nat) : Option Value := match isAg P T with
  | some true => match szT P T with
    | some n => match Nat.ble (Nat.add off n) m with
      | true => some (.agg ⟨tkl n (dr off c)⟩)
      | false => none
    | none => none
  | some false => nth c off
  | none => none
noncomputable def optV (v : Option Value) (s : XS) (w : String) : OR := Option.rec (.bad w) (fun v => .val v s) v
noncomputable def intV : Value → Option Int
  | .int _ n => some n
  | _ => none
noncomputable def natV (v : Value) : Option Nat := match intV v with
  | some (.ofNat n) => some n
  | _ => none
noncomputable def bnd (x : Option Value) (d : Nat) (hi : Nat) : Option Nat := match x with
  | none => some d
  | some v => match natV v with
    | some k => match Nat.ble k hi with
      | true => some k
      | false => none
    | none => none
noncomputable def cellsAt (B : Ban) (s : XS) (a : Option Addr) (n : Nat) : Option (List Value) := match a with
  | none => match Nat.beq n 0 with
    | true => some []
    | false => none
  | some ⟨b, off, none⟩ => match look B s b with
    | some (.cells c m _ _) => match Nat.ble (Nat.add off n) m with
      | true => some (tkl n (dr off c))
      | false => none
    | _ => none
  | _ => none
/-- A part of a sealed row. -/
noncomputable def sCells (c : List Value) (off n : Nat) : Option (List Value) := match Nat.ble (Nat.add off n) (len c) with
  | true => some (tkl n (dr off c))
  | false => none
/-- The cells of a slice of so many elements, of so many cells each. -/
noncomputable def cellsV (B : Ban) (s : XS) (n k : Nat) : Value → Option (List Value)
  | .slice a _ _ => cellsAt B s a (Nat.mul n k)
  | v => match sv v with
    | some (e, c, off, _) => match Nat.ble 2 e with
      | true => none
      | false => match n with
        | 0 => some []
        | _ => sCells c off (Nat.mul n k)
    | none => none
noncomputable def bytesV (s : ByteArray) : List Value := map (fun b => .int .u8 b.toNat) s.data.toList
/-- Do all operands of an operation have no address? -/
noncomputable def nadO (tm : T4 Value) : List Operand → Bool
  | [] => true
  | x :: l => match nad (ev tm x) with
    | true => nadO tm l
    | false => false
/-- An operation that computes only, on values without addresses. -/
noncomputable def gp (P : Program) (o : Oper) (tm : T4 Value) (s : XS) (w : String) : OR := match nadO tm o.op.operands.toList with
  | true => match pv P (execOp (ev tm) o) with
    | some (.value v) => match nad v with
      | true => .val v s
      | false => .bad w
    | _ => .bad w
  | false => .bad w
/-! Operations -/
/-- Globals that are only read, with what they hold. -/
noncomputable def roL : List (Nat × List Value) := [(1, [.int .u64 1, .int .u64 10, .int .u64 100, .int .u64 1000, .int .u64 10000, .int .u64 100000, .int .u64 1000000, .int .u64 10000000, .int .u64 100000000, .int .u64 1000000000, .int .u64 10000000000, .int .u64 100000000000, .int .u64 1000000000000, .int .u64 10000000000000, .int .u64 100000000000000, .int .u64 1000000000000000, .int .u64 10000000000000000, .int .u64 100000000000000000, .int .u64 1000000000000000000, .int .u64 10000000000000000000]), (5, [.int .u32 0, .int .u32 498536548, .int .u32 997073096, .int .u32 651767980, .int .u32 1994146192, .int .u32 1802195444, .int .u32 1303535960, .int .u32 1342533948, .int .u32 3988292384, .int .u32 4027552580, .int .u32 3604390888, .int .u32 3412177804, .int .u32 2607071920, .int .u32 2262029012, .int .u32 2685067896, .int .u32 3183342108])]
noncomputable def roG : List (Nat × List Value) → Nat → Option (List Value)
  | [], _ => none
  | (k, c) :: l, n => match Nat.beq k n with
    | true => some c
    | false => roG l n
noncomputable def ro (n : Nat) : Option (List Value) := roG roL n
/-- Globals that hold some number. -/
noncomputable def roI : List Nat := [0]
/-- Globals that hold some interface value. -/
noncomputable def roF : List Nat := [3, 4]
noncomputable def x_load (P : Program) (B : Ban) (T : TypeId) (a : Value) (s : XS) : OR := match a with
  | .pointer (some ⟨n, off, none⟩) => match look B s n with
    | some (.cells c m _ _) => optV (partV P T c m off) s "load"
    | some _ => .bad "load block"
    | none => match ro n with
      | some c => optV (partV P T c (len c) off) s "load"
      | none => .bad "load block"
  | a => match sv a with
    | some (2, c, off, _) => optV (partV P T c (len c) off) s "load"
    | _ => .bad "load ptr"
noncomputable def x_store (P : Program) (B : Ban) (lo : Nat) (T : TypeId) (a v : Value) (s : XS) : OR := match a with
  | .pointer (some ⟨n, off, none⟩) => match look B s n, szT P T with
    | some (.cells c m e g), some k => match ntup v with
      | true => match Nat.beq (len v.cells.toList) k with
        | true => match Nat.ble (Nat.add off k) m with
          | true => .val undef (wrt lo s n (some (.cells (ovl c off v.cells.toList) m e g)))
          | false => .bad "store"
        | false => .bad "store size"
      | false => .bad "store tuple"
    | _, _ => .bad "store block"
  | _ => .bad "store ptr"
noncomputable def x_nil (v : Value) (s : XS) : OR := match v with
  | .pointer (some a) => .val (.pointer (some a)) s
  | .func (.func f) a b => .val (.func (.func f) a b) s
  | .iface t v => .val (.iface t v) s
  | _ => .bad "nilCheck"
noncomputable def isC : Operand → Bool
  | .const _ => true
  | _ => false
/-- Is a sealed list nil? (Not, if it holds something.) -/
noncomputable def slN (v : Value) : Option Bool := match sv v with
  | some (e, _, _, n) => match Nat.ble 2 e, Nat.ble 1 n with
    | false, true => some false
    | _, _ => none
  | none => none
/-- Are two values the same, of which one is nil? -/
noncomputable def eqNil (P : Program) (T : TypeId) (k : Bool) (x y : Value) : Option Bool := match P.underlying T with
  | some (.pointer e) => match x, y with
    | .pointer none, .pointer b => some b.isNone
    | .pointer _, .pointer none => some false
    | .pointer (some ⟨m, i, none⟩), .pointer (some ⟨n, j, none⟩) => match Nat.beq m n, szT P e with
      | true, some (_ + 1) => some (Nat.beq i j)
      | _, _ => none
    | _, _ => none
  | some (.slice _) => match x, y with
    | .slice none _ _, .slice b _ _ => some b.isNone
    | .slice _ _ _, .slice none _ _ => some false
    | x, .slice none _ _ => slN x
    | .slice none _ _, y => slN y
    | _, _ => none
  | some (.map _ _) => match x, y with
    | .map none, .map b => some b.isNone
    | .map _, .map none => some false
    | _, _ => none
  | some (.func _ _ _) => match x, y with
    | .nilFunc, .nilFunc => some true
    | .nilFunc, .func (.func _) _ _ => some false
    | .func (.func _) _ _, .nilFunc => some false
    | _, _ => none
  | some (.interface _) => match x, y with
    | .nilIface, .nilIface => match k with
      | true => some true
      | false => none
    | .nilIface, .iface _ _ => some false
    | .iface _ _, .nilIface => some false
    | _, _ => none
  | _ => none
noncomputable def eqR (ng : Bool) : Option Bool → XS → OR
  | some b, s => .val (.bool (match ng with | true => !b | false => b)) s
  | none, _ => .bad "eql"
noncomputable def x_bin (P : Program) (op : BinOp) (T : TypeId) (x y : Operand) (vx vy : Value) (o : Oper) (tm : T4 Value) (s : XS) : OR := match scal vx with
  | true => match scal vy with
    | true => match pv P (binOp op T vx vy) with
      | some v => match scal v with
        | true => .val v s
        | false => .bad "bin"
      | none => .bad "bin"
    | false => .bad "bin"
  | false => match nad1 vx, vx with
    | false, .agg _ => gp P o tm s "bin agg"
    | _, _ => match op with
      | .eql => eqR false (eqNil P T (isC x || isC y) vx vy) s
      | .neq => eqR true (eqNil P T (isC x || isC y) vx vy) s
      | _ => .bad "binOp"
noncomputable def toB : List Value → Option (List UInt8)
  | [] => some []
  | v :: l => match v with
    | .int .u8 n => match toB l with
      | some r => some (UInt8.ofNat n.toNat :: r)
      | none => none
    | _ => none
noncomputable def isU8 (P : Program) (e : TypeId) : Bool := match P.underlying e, szT P e with
  | some (.int .u8), some 1 => true
  | _, _ => false
/-- To unsafe.Pointer and back, where a variable of that type begins. -/
noncomputable def x_uconv (P : Program) (B : Ban) (S T : TypeId) (n off : Nat) (s : XS) : OR := match P.underlying S, P.underlying T with
  | some (.pointer t), some .unsafePointer => match look B s n, szT P t with
    | some (.cells _ m _ _), some (_ + 1) => match Nat.ble m off with
      | false => .val (ptr n off) s
      | true => .bad "odd"
    | _, _ => .bad "odd"
  | some .unsafePointer, some (.pointer u) => match look B s n, szT P u with
    | some (.cells _ m e false), some (k + 1) => match (Nat.beq e u && Nat.beq off 0), Nat.ble (k + 1) m with
      | true, true => .val (ptr n off) s
      | _, _ => .bad "odd"
    | _, _ => .bad "odd"
  | _, _ => .bad "odd"
noncomputable def x_conv (P : Program) (B : Ban) (S T : TypeId) (v : Value) (o : Oper) (tm : T4 Value) (s : XS) : OR := match v with
  | .pointer (some ⟨n, off, none⟩) => x_uconv P B S T n off s
  | .slice a n _ => match P.underlying S, P.underlying T with
    | some (.slice e), some .string => match isU8 P e, cellsAt B s a n with
      | true, some l => match toB l with
        | some b => .val (.string ⟨⟨b⟩⟩) s
        | none => .bad "conv bytes"
      | _, _ => .bad "conv slice"
    | _, _ => .bad "conv slice"
  | .string b => match P.underlying S, P.underlying T with
    | some .string, some (.slice e) => match isU8 P e with
      | true => new s (.cells (bytesV b) (len b.data.toList) e true) fun n s => .val (.slice (some ⟨n, 0, none⟩) (len b.data.toList) (len b.data.toList)) s
      | false => .bad "conv string"
    | _, _ => gp P o tm s "conv"
  | v => match sv v with
    | some (e, c, off, n) => match P.underlying S, P.underlying T with
      | some (.slice E), some .string => match isU8 P E, cellsV B s n 1 (slv e c off n) with
        | true, some l => match toB l with
          | some b => .val (.string ⟨⟨b⟩⟩) s
          | none => .bad "conv bytes"
        | _, _ => .bad "conv slice"
      | _, _ => .bad "conv slice"
    | none => gp P o tm s "conv"
noncomputable def x_makeSlice (P : Program) (T : TypeId) (l c : Value) (s : XS) : OR := match P.underlying T with
  | some (.slice e) => match natV l, natV c, zc P e, P.info? e with
    | some l, some c, some (z, k), some i => match Nat.ble l c, Nat.ble c 9223372036854775807, Nat.ble (Nat.mul i.bytes c) 281474976710656 with
      | true, true, true => new s (.cells (rep c z) (Nat.mul c k) e false) fun n s => .val (.slice (some ⟨n, 0, none⟩) l c) s
      | _, _, _ => .bad "makeSlice"
    | _, _, _, _ => .bad "makeSlice"
  | _ => .bad "makeSlice"
noncomputable def bndH (mx hi : Option Value) (d m : Nat) : Option Nat := match hi with
  | none => match mx with
    | none => match Nat.ble d m with
      | true => some d
      | false => none
    | some _ => none
  | some v => bnd (some v) d m
noncomputable def sExact (mx : Option Value) (e m h n : Nat) : Nat := match mx with
  | none => match Nat.beq h n with
    | true => e
    | false => 0
  | some _ => match Nat.beq m h with
    | true => 1
    | false => 0
noncomputable def x_sslice (P : Program) (T : TypeId) (e : Nat) (c : List Value) (off n : Nat) (lo hi mx : Option Value) (s : XS) : OR := match Nat.ble 2 e with
  | false => match P.underlying T with
    | some (.slice E) => match szT P E, bnd mx n n with
      | some k, some m => match bndH mx hi n m with
        | some h => match bnd lo 0 h with
          | some l => .val (slv (sExact mx e m h n) c (Nat.add off (Nat.mul l k)) (Nat.sub h l)) s
          | none => .bad "sslice lo"
        | none => .bad "sslice hi"
      | _, _ => .bad "sslice max"
    | _ => .bad "sslice"
  | true => .bad "sslice"
noncomputable def x_slice (P : Program) (B : Ban) (T : TypeId) (x : Value) (lo hi mx : Option Value) (o : Oper) (tm : T4 Value) (s : XS) : OR := match x with
  | .slice a n c => match P.underlying T with
    | some (.slice e) => match szT P e, bnd mx c c with
      | some k, some m => match bndH mx hi n m with
        | some h => match bnd lo 0 h with
          | some l => match a with
            | none => .val (.slice none (Nat.sub h l) (Nat.sub m l)) s
            | some ⟨b, off, none⟩ => match look B s b with
              | some (.cells _ _ T g) => match (match g with | true => Nat.beq T e | false => true) with
                | true => .val (.slice (some ⟨b, (match Nat.beq m l with | true => off | false => Nat.add off (Nat.mul l k)), none⟩) (Nat.sub h l) (Nat.sub m l)) s
                | false => .bad "slice type"
              | _ => .bad "slice block"
            | _ => .bad "slice spot"
          | none => .bad "slice lo"
        | none => .bad "slice hi"
      | _, _ => .bad "slice max"
    | _ => .bad "slice"
  | .pointer (some ⟨b, off, none⟩) => match P.underlying T with
    | some (.array n e) => match szT P e, bnd mx n n with
      | some k, some m => match bndH mx hi n m with
        | some h => match bnd lo 0 h with
          | some l => .val (.slice (some ⟨b, (match Nat.beq m l with | true => off | false => Nat.add off (Nat.mul l k)), none⟩) (Nat.sub h l) (Nat.sub m l)) s
          | none => .bad "aslice"
        | none => .bad "aslice"
      | _, _ => .bad "aslice"
    | _ => .bad "slice"
  | x => match sv x with
    | some (e, c, off, n) => x_sslice P T e c off n lo hi mx s
    | none => gp P o tm s "slice"
noncomputable def x_fld (P : Program) (T : TypeId) (x : Value) (f : Nat) (s : XS) : OR := match x with
  | .pointer (some ⟨b, off, none⟩) => match P.underlying T with
    | some (.struct fs) => match fs.toList[f]? with
      | some fd => match szT P fd.type with
        | some (_ + 1) => .val (ptr b (Nat.add off fd.offset)) s
        | _ => .bad "field size"
      | none => .bad "fieldAddr"
    | _ => .bad "fieldAddr"
  | x => match sv x with
    | some (2, c, off, _) => match P.underlying T with
      | some (.struct fs) => match fs.toList[f]? with
        | some fd => match szT P fd.type with
          | some (_ + 1) => .val (slv 2 c (Nat.add off fd.offset) 0) s
          | _ => .bad "field size"
        | none => .bad "fieldAddr"
      | _ => .bad "fieldAddr"
    | _ => .bad "fieldAddr ptr"
noncomputable def x_field (P : Program) (T : TypeId) (x : Value) (f : Nat) (s : XS) : OR := match x with
  | .agg c => match P.underlying T with
    | some (.struct fs) => match fs.toList[f]? with
      | some fd => optV (partV P fd.type c.toList (len c.toList) fd.offset) s "field"
      | none => .bad "field"
    | _ => .bad "field"
  | _ => .bad "field agg"
noncomputable def x_ia (P : Program) (T : TypeId) (x i : Value) (s : XS) : OR := match natV i with
  | some i => match P.underlying T with
    | some (.slice e) => match x, szT P e with
      | .slice (some ⟨b, off, none⟩) n _, some k => match Nat.ble n i with
        | false => .val (ptr b (Nat.add off (Nat.mul i k))) s
        | true => .bad "indexAddr bound"
      | x, some k => match sv x with
        | some (e, c, off, n) => match Nat.ble 2 e, Nat.ble n i with
          | false, false => .val (slv 2 c (Nat.add off (Nat.mul i k)) 0) s
          | _, _ => .bad "indexAddr bound"
        | none => .bad "indexAddr"
      | _, _ => .bad "indexAddr"
    | some (.array n e) => match x, szT P e with
      | .pointer (some ⟨b, off, none⟩), some k => match Nat.ble n i with
        | false => .val (ptr b (Nat.add off (Nat.mul i k))) s
        | true => .bad "indexAddr bound"
      | _, _ => .bad "indexAddr"
    | _ => .bad "indexAddr"
  | none => .bad "indexAddr neg"
noncomputable def x_index (P : Program) (T : TypeId) (x i : Value) (o : Oper) (tm : T4 Value) (s : XS) : OR := match x with
  | .agg c => match natV i, P.underlying T with
    | some i, some (.array n e) => match Nat.ble n i, szT P e with
      | false, some k => optV (partV P e c.toList (len c.toList) (Nat.mul i k)) s "index"
      | _, _ => .bad "index bound"
    | _, _ => .bad "index"
  | _ => gp P o tm s "index"
/-! Maps -/
noncomputable def mfind (P : Program) (K : TypeId) (k : Value) : List MapEntry → Nat → Option (Option (Nat × Value))
  | [], _ => some none
  | e :: l, i => match pv P (Op.equal K k e.key) with
    | some true => some (some (i, e.val))
    | some false => mfind P K k l (Nat.succ i)
    | none => none
noncomputable def mset : List MapEntry → Nat → Value → Value → List MapEntry
  | [], _, _, _ => []
  | e :: l, i, k, v => match Nat.beq i 0 with
    | true => ⟨k, v, e.born⟩ :: l
    | false => e :: mset l (Nat.pred i) k v
noncomputable def mlook (B : Ban) (s : XS) : Value → Option (List MapEntry)
  | .map none => some []
  | .map (some n) => match look B s n with
    | some (.map es _) => some es
    | _ => none
  | _ => none
noncomputable def okv (ok : Bool) (v : Value) (b : Bool) : Value := match ok with
  | true => .tuple #[v, .bool b]
  | false => v
noncomputable def x_lookup (P : Program) (B : Ban) (T : TypeId) (x k : Value) (ok : Bool) (s : XS) : OR := match P.underlying T with
  | some (.map K E) => match mlook B s x, nad k with
    | some es, true => match pv P (Instr.checkKey es.isEmpty 10000 K k), mfind P K k es 0 with
      | some _, some (some (_, v)) => .val (okv ok v true) s
      | some _, some none => match zeroT P E with
        | some z => .val (okv ok z false) s
        | none => .bad "lookup zero"
      | _, _ => .bad "lookup find"
    | _, _ => .bad "lookup map"
  | _ => .bad "lookup"
noncomputable def keyOf : List MapEntry → Nat → Option Value
  | [], _ => none
  | e :: l, i => match Nat.beq i 0 with
    | true => some e.key
    | false => keyOf l (Nat.pred i)
noncomputable def x_mapUpdate (P : Program) (B : Ban) (lo : Nat) (T : TypeId) (x k v : Value) (s : XS) : OR := match P.underlying T, x with
  | some (.map K _), .map (some n) => match look B s n, nad k with
    | some (.map es ck), true => match pv P (Instr.checkKey false 10000 K k), mfind P K k es 0 with
      | some _, some (some (i, _)) => match keyOf es i with
        | some k0 => match Instr.sameBits 10000 k0 k with
          | true => .val undef (wrt lo s n (some (.map (mset es i k v) ck)))
          | false => .bad "mapUpdate key"
        | none => .bad "mapUpdate key"
      | some _, some none => .val undef (wrt lo s n (some (.map (app es [⟨k, v, ck⟩]) (Nat.succ ck))))
      | _, _ => .bad "mapUpdate find"
    | _, _ => .bad "mapUpdate block"
  | _, _ => .bad "mapUpdate"
/-! Composed values -/
noncomputable def fillL (pl : List (Nat × Nat)) (m : Nat) : List Value → List (Nat × Value) → Option (List Value)
  | z, [] => some z
  | z, (i, v) :: r => match nth pl i with
    | some (off, n) => match ntup v with
      | true => match Nat.beq (len v.cells.toList) n with
        | true => match Nat.ble (Nat.add off n) m with
          | true => fillL pl m (ovl z off v.cells.toList) r
          | false => none
        | false => none
      | false => none
    | none => none
noncomputable def places (P : Program) : List Field → Option (List (Nat × Nat))
  | [] => some []
  | f :: l => match szT P f.type, places P l with
    | some n, some r => some ((f.offset, n) :: r)
    | _, _ => none
noncomputable def rows (n k : Nat) : Nat → List (Nat × Nat)
  | 0 => []
  | m + 1 => (k, n) :: rows n (k + n) m
noncomputable def evP (tm : T4 Value) : List (Nat × Operand) → List (Nat × Value)
  | [] => []
  | (i, x) :: l => (i, ev tm x) :: evP tm l
noncomputable def x_build (P : Program) (T : TypeId) (ps : List (Nat × Value)) (s : XS) : OR := match zeroT P T, P.underlying T with
  | some z, some (.struct fs) => match places P fs.toList with
    | some pl => match fillL pl (len z.cells.toList) z.cells.toList ps with
      | some l => .val (.agg ⟨l⟩) s
      | none => .bad "build"
    | none => .bad "build"
  | some z, some (.array n e) => match szT P e with
    | some k => match fillL (rows k 0 n) (len z.cells.toList) z.cells.toList ps with
      | some l => .val (.agg ⟨l⟩) s
      | none => .bad "build"
    | none => .bad "build"
  | _, _ => .bad "build"
noncomputable def x_buildSlice (P : Program) (T : TypeId) (n : Nat) (ps : List (Nat × Value)) (s : XS) : OR := match P.underlying T with
  | some (.slice e) => match zc P e with
    | some (z, k) => match Nat.ble (Nat.mul n k) 16777216, fillL (rows k 0 n) (Nat.mul n k) (rep n z) ps with
      | true, some l => new s (.cells l (Nat.mul n k) e false) fun m s => .val (.slice (some ⟨m, 0, none⟩) n n) s
      | _, _ => .bad "buildSlice"
    | none => .bad "buildSlice"
  | _ => .bad "buildSlice"
noncomputable def x_extract (x : Value) (i : Nat) (s : XS) : OR := match x with
  | .tuple l => optV (nth l.toList i) s "extract"
  | _ => .bad "extract"
/-! What is built in -/
noncomputable def x_len (P : Program) (B : Ban) (t : TypeId) (x : Value) (o : Oper) (tm : T4 Value) (s : XS) : OR := match x with
  | .slice _ n _ => match P.underlying t with
    | some (.slice _) => .val (.int .i64 (Int.ofNat n)) s
    | _ => .bad "len"
  | .map (some n) => match P.underlying t, look B s n with
    | some (.map _ _), some (.map es _) => .val (.int .i64 (Int.ofNat (len es))) s
    | _, _ => .bad "len map"
  | x => match sv x with
    | some (e, _, _, n) => match Nat.ble 2 e, P.underlying t with
      | false, some (.slice _) => .val (.int .i64 (Int.ofNat n)) s
      | _, _ => .bad "len"
    | none => gp P o tm s "len"
noncomputable def x_cap (P : Program) (B : Ban) (t : TypeId) (x : Value) (s : XS) : OR := match P.underlying t, x with
  | some (.slice _), .slice none _ c => .val (.int .i64 (Int.ofNat c)) s
  | some (.slice _), .slice (some a) _ c => match look B s a.block with
    | some (.cells _ _ _ false) => .val (.int .i64 (Int.ofNat c)) s
    | _ => .bad "cap"
  | _, _ => .bad "cap"
/-- What is appended: its cells, and how many elements. -/
noncomputable def srcOf (B : Ban) (s : XS) (d : Option TypeDesc) (k : Nat) (y : Value) : Option (List Value × Nat) := match d with
  | some (.slice _) => match y with
    | .slice b m _ => match cellsAt B s b (Nat.mul m k) with
      | some l => some (l, m)
      | none => none
    | y => match sv y with
      | some (e, c, off, m) => match cellsV B s m k (slv e c off m) with
        | some l => some (l, m)
        | none => none
      | none => none
  | some .string => match y with
    | .string b => match Nat.beq k 1 with
      | true => some (bytesV b, len b.data.toList)
      | false => none
    | _ => none
  | _ => none
/-- Zeros behind nothing. -/
noncomputable def x_appz (P : Program) (e : TypeId) (y : Value) (a : Option Addr) (n c : Nat) (i : TypeInfo) (s : XS) : OR := match a with
  | some _ => .bad "append zeros"
  | none => match natV y, zc P e, Nat.beq n 0, Nat.beq c 0 with
    | some m, some (z, k), true, true => match (Nat.ble 1 m && Nat.ble 1 k), Nat.ble m 9223372036854775807, Nat.ble (Nat.mul m i.bytes) 281474976710656 with
      | true, true, true => new s (.cells (rep m z) (Nat.mul m k) e true) fun j s => .val (.slice (some ⟨j, 0, none⟩) m m) s
      | _, _, _ => .bad "append zeros"
    | _, _, _, _ => .bad "append zeros"
noncomputable def x_grow (B : Ban) (lo : Nat) (e : TypeId) (a : Option Addr) (n m k : Nat) (l : List Value) (s : XS) : OR := match cellsAt B s a (Nat.mul n k) with
  | some old => match a with
    | none => new s (.cells (app old l) (Nat.mul (Nat.add n m) k) e true) fun j s => .val (.slice (some ⟨j, 0, none⟩) (Nat.add n m) (Nat.add n m)) s
    | some ⟨b, _, _⟩ => match look B s b with
      | some (.cells _ _ T true) => match Nat.beq T e with
        | true => new (wrt lo s b none) (.cells (app old l) (Nat.mul (Nat.add n m) k) e true) fun j s => .val (.slice (some ⟨j, 0, none⟩) (Nat.add n m) (Nat.add n m)) s
        | false => .bad "append type"
      | some (.cells _ _ _ false) => new s (.cells (app old l) (Nat.mul (Nat.add n m) k) e true) fun j s => .val (.slice (some ⟨j, 0, none⟩) (Nat.add n m) (Nat.add n m)) s
      | _ => .bad "append block"
  | none => .bad "append old"
/-- Behind a sealed row without more room. -/
noncomputable def x_sapp (P : Program) (B : Ban) (e : TypeId) (k : Nat) (i : TypeInfo) (x : Value) (c : List Value) (off n : Nat) (l : List Value) (m : Nat) (s : XS) : OR := match m with
  | 0 => .val x s
  | m + 1 => match Nat.ble (Nat.add n (m + 1)) 9223372036854775807, Nat.ble (Nat.mul (Nat.add n (m + 1)) i.bytes) 140737488355328, zc P e, cellsV B s n k (slv 1 c off n) with
    | true, true, some _, some old => new s (.cells (app old l) (Nat.mul (Nat.add n (m + 1)) k) e true) fun j s => .val (.slice (some ⟨j, 0, none⟩) (Nat.add n (m + 1)) (Nat.add n (m + 1))) s
    | _, _, _, _ => .bad "append size"
noncomputable def x_append (P : Program) (B : Ban) (lo : Nat) (t t2 : TypeId) (x y : Value) (s : XS) : OR := match P.underlying t, x with
  | some (.slice e), .slice a n c => match szT P e, P.info? e with
    | some k, some i => match P.underlying t2 with
      | some (.int _) => x_appz P e y a n c i s
      | d => match srcOf B s d k y with
        | some (l, m) => match Nat.ble (Nat.add n m) c with
          | true => match a with
            | none => match l with
              | [] => .val (.slice none (Nat.add n m) c) s
              | _ => .bad "append nil"
            | some ⟨b, off, none⟩ => match look B s b with
              | some (.cells cs j e' g) => match Nat.ble (Nat.add (Nat.add off (Nat.mul n k)) (Nat.mul m k)) j with
                | true => .val (.slice (some ⟨b, off, none⟩) (Nat.add n m) c) (wrt lo s b (some (.cells (ovl cs (Nat.add off (Nat.mul n k)) l) j e' g)))
                | false => .bad "append in place"
              | _ => .bad "append block"
            | _ => .bad "append spot"
          | false => match Nat.ble (Nat.add n m) 9223372036854775807, Nat.ble (Nat.mul (Nat.add n m) i.bytes) 140737488355328, zc P e with
            | true, true, some _ => x_grow B lo e a n m k l s
            | _, _, _ => .bad "append size"
        | none => .bad "append src"
    | _, _ => .bad "append type"
  | some (.slice e), x => match sv x with
    | some (1, c, off, n) => match szT P e, P.info? e with
      | some k, some i => match srcOf B s (P.underlying t2) k y with
        | some (l, m) => x_sapp P B e k i x c off n l m s
        | none => .bad "append src"
      | _, _ => .bad "append type"
    | _ => .bad "append"
  | _, _ => .bad "append"
noncomputable def minN (m n : Nat) : Nat := match Nat.ble m n with
  | true => m
  | false => n
noncomputable def lenV (y : Value) : Option Nat := match y with
  | .slice _ m _ => some m
  | .string b => some (len b.data.toList)
  | y => match sv y with
    | some (e, _, _, m) => match Nat.ble 2 e with
      | true => none
      | false => some m
    | none => none
noncomputable def cpSrc (B : Ban) (s : XS) (k j : Nat) (y : Value) : Option (List Value) := match y with
  | .slice b _ _ => cellsAt B s b (Nat.mul j k)
  | .string b => match Nat.beq k 1 with
    | true => some (tkl j (bytesV b))
    | false => none
  | y => match sv y with
    | some (e, c, off, n) => cellsV B s j k (slv e c off n)
    | none => none
noncomputable def x_copy2 (B : Ban) (lo : Nat) (k : Nat) (a : Option Addr) (j : Nat) (src : Option (List Value)) (s : XS) : OR := match src, a with
  | some _, none => .val (.int .i64 (Int.ofNat j)) s
  | some l, some ⟨b, off, none⟩ => match look B s b with
    | some (.cells cs i e' g) => match Nat.ble (Nat.add off (Nat.mul j k)) i with
      | true => .val (.int .i64 (Int.ofNat j)) (wrt lo s b (some (.cells (ovl cs off l) i e' g)))
      | false => .bad "copy"
    | _ => .bad "copy block"
  | _, _ => .bad "copy src"
noncomputable def x_copy (P : Program) (B : Ban) (lo : Nat) (t : TypeId) (x y : Value) (s : XS) : OR := match P.underlying t, x with
  | some (.slice e), .slice a n _ => match szT P e, lenV y with
    | some k, some m => x_copy2 B lo k a (minN m n) (cpSrc B s k (minN m n) y) s
    | _, _ => .bad "copy type"
  | _, _ => .bad "copy"
noncomputable def x_clear (P : Program) (B : Ban) (lo : Nat) (t : TypeId) (x : Value) (s : XS) : OR := match P.underlying t, x with
  | some (.slice _), .slice none _ _ => .val (.tuple #[]) s
  | some (.slice e), .slice (some ⟨b, off, none⟩) n _ => match zc P e, look B s b with
    | some (z, k), some (.cells cs j e' g) => match Nat.ble (Nat.add off (Nat.mul n k)) j with
      | true => .val (.tuple #[]) (wrt lo s b (some (.cells (ovl cs off (rep n z)) j e' g)))
      | false => .bad "clear"
    | _, _ => .bad "clear"
  | _, _ => .bad "clear"
/-- Bytes of cells. -/
noncomputable def toBx : List Value → Option (List UInt8)
  | [] => some []
  | v :: l => match v with
    | .int .u8 (.ofNat k) => match Nat.ble k 255, toBx l with
      | true, some r => some (UInt8.ofNat k :: r)
      | _, _ => none
    | _ => none
noncomputable def x_usd (x : Value) (s : XS) : OR := match x with
  | .slice none _ _ => .val (.pointer none) s
  | .slice (some ⟨n, off, none⟩) (_ + 1) (_ + 1) => .val (ptr n off) s
  | _ => .bad "SliceData"
/-- A string of a row's bytes: the row is done with. -/
noncomputable def x_ustr (P : Program) (B : Ban) (lo : Nat) (t : TypeId) (x y : Value) (s : XS) : OR := match y with
  | .int .i64 (.ofNat 0) => match x with
    | .pointer _ => .val (.string ⟨⟨[]⟩⟩) s
    | _ => .bad "String"
  | .int .i64 (.ofNat (k + 1)) => match x with
    | .pointer (some ⟨n, off, none⟩) => match P.underlying t with
      | some (.pointer e) => match isU8 P e, look B s n with
        | true, some (.cells c m e' _) => match (Nat.beq e' e && Nat.ble (Nat.add off (k + 1)) m && Nat.ble (k + 1) 9223372036854775807), toBx (tkl (k + 1) (dr off c)) with
          | true, some b => .val (.string ⟨⟨b⟩⟩) (wrt lo s n none)
          | _, _ => .bad "String"
        | _, _ => .bad "String"
      | _ => .bad "String"
    | _ => .bad "String"
  | _ => .bad "String"
noncomputable def x_builtin (P : Program) (B : Ban) (lo : Nat) (b : Builtin) (ts : List TypeId) (l : List Value) (o : Oper) (tm : T4 Value) (s : XS) : OR := match b with
  | .len => match ts, l with
    | t :: _, [x] => x_len P B t x o tm s
    | _, _ => .bad "len"
  | .cap => match ts, l with
    | t :: _, [x] => x_cap P B t x s
    | _, _ => .bad "cap"
  | .append => match ts, l with
    | [t, t2], [x, y] => x_append P B lo t t2 x y s
    | _, _ => .bad "append"
  | .copy => match ts, l with
    | t :: _, [x, y] => x_copy P B lo t x y s
    | _, _ => .bad "copy"
  | .clear => match ts, l with
    | t :: _, [x] => x_clear P B lo t x s
    | _, _ => .bad "clear"
  | .min => gp P o tm s "min"
  | .max => gp P o tm s "max"
  | .unsafeSliceData => match l with
    | [x] => x_usd x s
    | _ => .bad "SliceData"
  | .unsafeString => match ts, l with
    | [t, _], [x, y] => x_ustr P B lo t x y s
    | _, _ => .bad "String"
  | _ => .bad "builtin"
noncomputable def nog : String := "runtime.NumGoroutine"
/-- May a function be entered? -/
noncomputable def body? (P : Program) (f : FuncId) : Option (Func × Code) := match P.funcs.toList[f]? with
  | some fn => match fn.body with
    | some c => match fn.name == nog with
      | true => none
      | false => some (fn, c)
    | none => none
  | none => none
noncomputable def nes : String := "internal/abi.NoEscape"
/-- abi.NoEscape. -/
noncomputable def isNE (P : Program) (f : FuncId) : Bool := match P.funcs.toList[f]? with
  | some fn => match fn.body with
    | none => fn.name == nes && fn.origin == ""
    | some _ => false
  | none => false
noncomputable def adrV (args : List Value) : Option Value := match args with
  | [.pointer (some a)] => some (.pointer (some a))
  | _ => none
noncomputable def x_callf (P : Program) (f : FuncId) (args : List Value) (o : Oper) (tm : T4 Value) (s : XS) : OR := match body? P f with
  | some _ => .call f args
  | none => match adrV args with
    | some v => match isNE P f with
      | true => .val v s
      | false => .bad "extern"
    | none => gp P o tm s "extern"
noncomputable def x_call (P : Program) (B : Ban) (lo : Nat) (c : Call) (o : Oper) (tm : T4 Value) (s : XS) : OR := match c.callee with
  | .value f => match ev tm f with
    | .func (.func f) a b => x_callf P f (app a.toList (app (map (ev tm) c.args.toList) b.toList)) o tm s
    | _ => .bad "callee"
  | .builtin b => x_builtin P B lo b c.argTypes.toList (map (ev tm) c.args.toList) o tm s
  | .invoke _ _ => .bad "invoke"
noncomputable def x_defer (c : Call) (tm : T4 Value) : OR := match c.callee with
  | .value f => match ev tm f with
    | .func (.func g) a b => .dfr ⟨.fn (.func g) b, ⟨app a.toList (map (ev tm) c.args.toList)⟩⟩
    | _ => .bad "defer"
  | _ => .bad "defer"
/-- Over a string's runes. -/
noncomputable def x_range (P : Program) (T : TypeId) (x : Value) (s : XS) : OR := match P.underlying T with
  | some .string => match x with
    | .string b => new s (.iter b 0) fun n s => .val (ptr n 0) s
    | _ => .bad "range"
  | _ => .bad "range"
noncomputable def x_next (B : Ban) (lo : Nat) (is : Bool) (x : Value) (s : XS) : OR := match is, x with
  | true, .pointer (some ⟨n, off, none⟩) => match Nat.beq off 0, look B s n with
    | true, some (.iter b pos) => match Nat.blt pos (len b.data.toList) with
      | true => .val (.tuple ⟨[.bool true, .int .i64 pos, .int .i32 (Utf8.decode b pos).1]⟩) (wrt lo s n (some (.iter b (Nat.add pos (Utf8.decode b pos).2))))
      | false => .val (.tuple ⟨[.bool false]⟩) s
    | _, _ => .bad "next"
  | _, _ => .bad "next"
noncomputable def opx2d : Op → Program → Ban → Nat → Oper → T4 Value → XS → OR
  | .convert S T x => fun P B lo o tm s => x_conv P B S T (ev tm x) o tm s
  | .makeInterface T x => fun P B lo o tm s => match P.underlying T with
      | some (.interface _) => .bad "makeInterface"
      | some _ => .val (.iface T (ev tm x)) s
      | none => .bad "makeInterface"
  | .makeFunc fn a b => fun P B lo o tm s => match fn with
      | .func f => .val (.func (.func f) ⟨map (ev tm) a.toList⟩ ⟨map (ev tm) b.toList⟩) s
      | _ => .bad "makeFunc"
  | .makeMap _ r => fun P B lo o tm s => match r with
      | none => new s (.map [] 0) fun n s => .val (.map (some n)) s
      | some _ => .bad "makeMap"
  | .makeSlice T l c => fun P B lo o tm s => x_makeSlice P T (ev tm l) (ev tm c) s
  | .slice T x l0 hi mx => fun P B lo o tm s => x_slice P B T (ev tm x) (l0.map (ev tm)) (hi.map (ev tm)) (mx.map (ev tm)) o tm s
  | .field T x f => fun P B lo o tm s => x_field P T (ev tm x) f s
  | .index T x i => fun P B lo o tm s => x_index P T (ev tm x) (ev tm i) o tm s
  | .lookup T x k ok => fun P B lo o tm s => x_lookup P B T (ev tm x) (ev tm k) ok s
  | .mapUpdate T x k v => fun P B lo o tm s => x_mapUpdate P B lo T (ev tm x) (ev tm k) (ev tm v) s
  | .insert T x k v => fun P B lo o tm s => x_mapUpdate P B lo T (ev tm x) (ev tm k) (ev tm v) s
  | .build T ps => fun P B lo o tm s => x_build P T (evP tm ps.toList) s
  | .buildSlice T n ps => fun P B lo o tm s => x_buildSlice P T n (evP tm ps.toList) s
  | .unOp _ _ _ => fun P B lo o tm s => gp P o tm s "unOp"
  | .defer c => fun P B lo o tm s => x_defer c tm
  | .range T x => fun P B lo o tm s => x_range P T (ev tm x) s
  | .next x is => fun P B lo o tm s => x_next B lo is (ev tm x) s
  | .typeAssert _ _ _ _ => fun P B lo o tm s => gp P o tm s "typeAssert"
  | _ => fun P B lo o tm s => .bad "op"
noncomputable def opx2 (P : Program) (B : Ban) (lo : Nat) (o : Oper) (tm : T4 Value) (s : XS) : OR := opx2d o.op P B lo o tm s
noncomputable def x_pick (c a b : Value) (s : XS) : OR := match c with
  | .bool true => .val a s
  | .bool false => .val b s
  | _ => .bad "pick"
noncomputable def x_alloc (P : Program) (T : TypeId) (s : XS) : OR := match zeroT P T with
  | some z => new s (.cells z.cells.toList (len z.cells.toList) T false) fun n s => .val (ptr n 0) s
  | none => .bad "alloc"
noncomputable def x_box (T : TypeId) (v : Value) (s : XS) : OR := match ntup v with
  | true => new s (.cells v.cells.toList (len v.cells.toList) T false) fun n s => .val (ptr n 0) s
  | false => .bad "box"
noncomputable def opxd : Op → Program → Ban → Nat → Oper → T4 Value → XS → OR
  | .move x => fun P B lo o tm s => .val (ev tm x) s
  | .assign x => fun P B lo o tm s => .val (ev tm x) s
  | .pick c a b => fun P B lo o tm s => x_pick (ev tm c) (ev tm a) (ev tm b) s
  | .alloc T => fun P B lo o tm s => x_alloc P T s
  | .box T x => fun P B lo o tm s => x_box T (ev tm x) s
  | .load T a => fun P B lo o tm s => x_load P B T (ev tm a) s
  | .store T a x => fun P B lo o tm s => x_store P B lo T (ev tm a) (ev tm x) s
  | .nilCheck x => fun P B lo o tm s => x_nil (ev tm x) s
  | .binOp op T x y _ => fun P B lo o tm s => x_bin P op T x y (ev tm x) (ev tm y) o tm s
  | .fieldAddr T x f => fun P B lo o tm s => x_fld P T (ev tm x) f s
  | .indexAddr T x i => fun P B lo o tm s => x_ia P T (ev tm x) (ev tm i) s
  | .extract x i => fun P B lo o tm s => x_extract (ev tm x) i s
  | .call c => fun P B lo o tm s => x_call P B lo c o tm s
  | _ => fun P B lo o tm s => opx2 P B lo o tm s
noncomputable def opx (P : Program) (B : Ban) (lo : Nat) (o : Oper) (tm : T4 Value) (s : XS) : OR := opxd o.op P B lo o tm s
/-! The code -/
inductive Ex | normal | exit (i : Nat) | goto (l : Nat) | ret | pan (v : Value)
inductive RR
  | code (e : Ex) (f : Fr) (s : XS)
  | ret (v : Value) (s : XS)
  | bad (why : String)
inductive Tk
  | code (c : Code) (f : Fr)
  | call (f : FuncId) (args : List Value)
  | dcall (f : FuncId) (args : List Value)
inductive RO
  | ok (f : Fr) (s : XS)
  | bad (why : String)
noncomputable def wantB (b : Bool) (v : Value) : Bool := match v with
  | .bool x => match b with
    | true => x
    | false => !x
  | _ => false
noncomputable def want (all : Array Oper) (g : Option (Nat × Bool)) (tm : T4 Value) : Bool := Option.rec true (fun g => Option.rec false (fun o => Option.rec false (fun t => wantB g.2 (ev tm (.tmp t))) o.dst) (nth all.toList g.1)) g
noncomputable def isJ : Value → Bool
  | .func (.yield _) _ _ => true
  | _ => false
/-- Isn't the guard known? -/
noncomputable def gjunk (all : Array Oper) (g : Option (Nat × Bool)) (tm : T4 Value) : Bool := Option.rec false (fun g => Option.rec false (fun o => Option.rec false (fun t => isJ (ev tm (.tmp t))) o.dst) (nth all.toList g.1)) g
noncomputable def dstF (d : Option Tmp) (v : Value) (f : Fr) : Fr := Option.rec f (fun d => ⟨T4.put (some v) (dg 10 d) f.tm, f.df⟩) d
noncomputable def r_ret (d : Option Tmp) (f : Fr) : RR → RO
  | .ret v s => .ok (dstF d v f) s
  | .bad w => .bad w
  | .code _ _ _ => .bad "?"
noncomputable def r_or (k : Tk → Ban → Nat → XS → RR) (B : Ban) (lo : Nat) (o : Oper) (f : Fr) (s : XS) (r : OR) : RO := OR.rec (fun v s => .ok (dstF o.dst v f) s) (fun g args => r_ret o.dst f (k (.call g args) B lo s)) (fun d => .ok (dstF o.dst undef ⟨f.tm, d :: f.df⟩) s) (fun w => .bad w) r
noncomputable def r_op (P : Program) (k : Tk → Ban → Nat → XS → RR) (all : Array Oper) (B : Ban) (lo : Nat) (o : Oper) (f : Fr) (s : XS) : RO := Bool.rec (Bool.rec (.ok (dstF o.dst undef f) s) (r_or k B lo o f s (opx P B lo o f.tm s)) (want all o.guard f.tm)) (.bad "guard") (gjunk all o.guard f.tm)
noncomputable def r_next (g : Fr → XS → RR) (r : RO) : RR := RO.rec g (fun w => .bad w) r
noncomputable def r_ops (P : Program) (k : Tk → Ban → Nat → XS → RR) (all : Array Oper) (B : Ban) (lo : Nat) (l : List Oper) : Fr → XS → RR := List.rec (motive := fun _ => Fr → XS → RR) (fun f s => .code .normal f s) (fun o _ ih f s => r_next ih (r_op P k all B lo o f s)) l
/-! Regions that draw their order -/
noncomputable def orE (acc : List Nat) : List Nat → Nat → Nat
  | [], m => m
  | j :: w, m => match nth acc j with
    | some x => orE acc w (Nat.lor m (Nat.lor (Nat.shiftLeft 1 j) x))
    | none => orE acc w (Nat.lor m (Nat.shiftLeft 1 j))
/-- Which operations each one waits for, and what those wait for. -/
noncomputable def prs (acc : List Nat) : List (List Nat) → List Nat
  | [] => acc
  | w :: l => prs (app acc [orE acc w 0]) l
noncomputable def tb (m j : Nat) : Bool := Nat.beq (Nat.land (Nat.shiftRight m j) 1) 1
noncomputable def edges : List Oper → List (List Nat)
  | [] => []
  | o :: l => (o.after.toList.filterMap fun e => match Region.binds .any e with | true => some e.on | false => none) :: edges l
/-- Does an operation touch no memory? -/
noncomputable def pureO : Op → Bool
  | .move _ => true
  | .assign _ => true
  | .pick _ _ _ => true
  | .nilCheck _ => true
  | .binOp _ _ _ _ _ => true
  | .unOp _ _ _ => true
  | .fieldAddr _ _ _ => true
  | .field _ _ _ => true
  | .indexAddr _ _ _ => true
  | .index _ _ _ => true
  | .extract _ _ => true
  | .makeInterface _ _ => true
  | .makeFunc _ _ _ => true
  | .build _ _ => true
  | .call c => match c.callee with
    | .builtin b => match b with
      | .len => true
      | .min => true
      | .max => true
      | _ => false
    | _ => false
  | _ => false
/-- The others, with what they wait for. -/
noncomputable def heavy : List Oper → List Nat → Nat → List (Nat × Nat)
  | [], _, _ => []
  | _ :: _, [], _ => []
  | o :: l, p :: ps, i => match pureO o.op with
    | true => heavy l ps (Nat.succ i)
    | false => (i, p) :: heavy l ps (Nat.succ i)
/-- With which ones each one's order is open. -/
noncomputable def unsH (i p : Nat) : List (Nat × Nat) → List Nat
  | [] => []
  | (j, q) :: l => match Nat.beq i j with
    | true => unsH i p l
    | false => match tb p j with
      | true => unsH i p l
      | false => match tb q i with
        | true => unsH i p l
        | false => j :: unsH i p l
noncomputable def unsL (hv : List (Nat × Nat)) : List Oper → List Nat → Nat → List (Option (List Nat))
  | [], _, _ => []
  | _ :: _, [], _ => []
  | o :: l, p :: ps, i => match pureO o.op with
    | true => none :: unsL hv l ps (Nat.succ i)
    | false => some (unsH i p hv) :: unsL hv l ps (Nat.succ i)
noncomputable def preds (ops : Array Oper) : List Nat := prs [] (edges ops.toList)
noncomputable def uns (ops : Array Oper) : List (Option (List Nat)) := unsL (heavy ops.toList (preds ops) 0) ops.toList (preds ops) 0
/-- Which temporaries an operation names, as a mask. -/
noncomputable def maskO : List Operand → Nat → Nat
  | [], m => m
  | x :: l, m => match x with
    | .tmp t => maskO l (Nat.lor m (Nat.shiftLeft 1 t))
    | _ => maskO l m
noncomputable def maskD (o : Oper) : Nat := match o.dst with
  | some d => Nat.shiftLeft 1 d
  | none => 0
noncomputable def maskG (ops : List Oper) (o : Oper) : Nat := match o.guard with
  | some (j, _) => match nth ops j with
    | some q => maskD q
    | none => 0
  | none => 0
noncomputable def maskN (ops : List Oper) (o : Oper) : Nat := maskO o.op.operands.toList (Nat.lor (maskD o) (maskG ops o))
/-- What lies ahead of an operation and isn't waited for: what it writes, what it names. -/
noncomputable def ahead (p : Nat) : List (Nat × Nat) → Nat → Nat → Nat → Nat × Nat
  | [], _, a, b => (a, b)
  | (d, n) :: l, j, a, b => match tb p j with
    | true => ahead p l (Nat.succ j) a b
    | false => ahead p l (Nat.succ j) (Nat.lor a d) (Nat.lor b n)
noncomputable def apart (ops : List Oper) (acc : List (Nat × Nat)) : List Oper → List Nat → Bool
  | [], _ => true
  | _ :: _, [] => false
  | o :: l, p :: ps => match ahead p acc 0 0 0 with
    | (a, b) => match Nat.beq (Nat.land a (maskN ops o)) 0 with
      | true => match Nat.beq (Nat.land b (maskD o)) 0 with
        | true => apart ops (app acc [(maskD o, maskN ops o)]) l ps
        | false => false
      | false => false
noncomputable def backW (i : Nat) : List Nat → Bool
  | [] => true
  | j :: l => match Nat.blt j i with
    | true => backW i l
    | false => false
noncomputable def backL : List (List Nat) → Nat → Bool
  | [], _ => true
  | w :: l, i => match backW i w with
    | true => backL l (Nat.succ i)
    | false => false
noncomputable def noDef : List Oper → Bool
  | [] => true
  | o :: l => match o.op with
    | .defer _ => false
    | _ => noDef l
/-- May a region be run so? -/
noncomputable def drawOk (ops : Array Oper) : Bool := match backL (edges ops.toList) 0, noDef ops.toList with
  | true, true => apart ops.toList [] ops.toList (preds ops)
  | _, _ => false
/-- No name of a list lies in a range. -/
noncomputable def outR (a b : Nat) : List Nat → Bool
  | [] => true
  | n :: l => match Nat.ble a n with
    | true => match Nat.ble b n with
      | true => outR a b l
      | false => false
    | false => outR a b l
noncomputable def outU (ms : List (List Nat)) (a b : Nat) : List Nat → Bool
  | [] => true
  | j :: l => match nth ms j with
    | some m => match outR a b m with
      | true => outU ms a b l
      | false => false
    | none => outU ms a b l
inductive RD
  | ok (f : Fr) (s : XS) (md : List (List Nat))
  | bad (why : String)
noncomputable def single : List Nat → Ban → Ban
  | [], B => B
  | m :: l, B => (m, Nat.succ m) :: single l B
noncomputable def bans (rg : List (Nat × Nat)) (ms : List (List Nat)) : List Nat → Ban → Ban
  | [], B => B
  | j :: l, B => match nth rg j, nth ms j with
    | some r, some m => bans rg ms l (r :: single m B)
    | some r, none => bans rg ms l (r :: B)
    | none, some m => bans rg ms l (single m B)
    | none, none => bans rg ms l B
noncomputable def below (lo : Nat) : List Nat → List Nat → List Nat
  | [], l => l
  | x :: xs, l => below lo xs (logged lo l x)
noncomputable def r_dn (g : List (Nat × Nat) → List (List Nat) → Fr → XS → RD) (rg : List (Nat × Nat)) (md : List (List Nat)) (s0 : XS) : RO → RD
  | .ok f s => g (app rg [(s0.nx, s.nx)]) (app md [[]]) f s
  | .bad w => .bad w
noncomputable def r_du (g : List (Nat × Nat) → List (List Nat) → Fr → XS → RD) (rg : List (Nat × Nat)) (ms md : List (List Nat)) (u : List Nat) (lo : Nat) (s0 : XS) : RO → RD
  | .ok f s => match outU ms s0.nx s.nx u with
    | true => g (app rg [(s0.nx, s.nx)]) (app md [s.lg]) f ⟨s.h, s.nx, below lo s.lg s0.lg⟩
    | false => .bad "draw names"
  | .bad w => .bad w
noncomputable def allB : Ban := [(0, tops)]
noncomputable def r_dp (g : List (Nat × Nat) → List (List Nat) → Fr → XS → RD) (rg : List (Nat × Nat)) (md : List (List Nat)) (s0 : XS) : RO → RD
  | .ok f s => match Nat.beq s.nx s0.nx with
    | true => g (app rg [(s0.nx, s0.nx)]) (app md [[]]) f s0
    | false => .bad "pure"
  | .bad w => .bad w
noncomputable def r_dr (P : Program) (k : Tk → Ban → Nat → XS → RR) (all : Array Oper) (ms : List (List Nat)) (B : Ban) (lo : Nat) : List Oper → List (Option (List Nat)) → List (Nat × Nat) → List (List Nat) → Fr → XS → RD
  | [], _, _, md, f, s => .ok f s md
  | o :: l, u :: us, rg, md, f, s => match u with
    | none => r_dp (r_dr P k all ms B lo l us) rg md s (r_op P k all allB lo o f s)
    | some u => match u with
      | [] => r_dn (r_dr P k all ms B lo l us) rg md s (r_op P k all B lo o f s)
      | u => r_du (r_dr P k all ms B lo l us) rg ms md u lo s (r_op P k all (bans rg ms u B) s.nx o f ⟨s.h, s.nx, []⟩)
  | _ :: _, [], _, _, _, _ => .bad "draw"
noncomputable def empt : List (List Nat) → Bool
  | [] => true
  | [] :: l => empt l
  | (_ :: _) :: _ => false
noncomputable def subs : List (List Nat) → List (List Nat) → Bool
  | [], _ => true
  | a :: l, b :: m => match a.all (mem b) with
    | true => subs l m
    | false => false
  | _ :: _, [] => false
noncomputable def r_d2 (md : List (List Nat)) : RD → RR
  | .ok f s md2 => match subs md2 md with
    | true => .code .normal f s
    | false => .bad "draw mods"
  | .bad w => .bad w
noncomputable def r_d1 (again : List (List Nat) → RD) : RD → RR
  | .ok f s md => match empt md with
    | true => .code .normal f s
    | false => r_d2 md (again md)
  | .bad w => .bad w
noncomputable def r_draw (P : Program) (k : Tk → Ban → Nat → XS → RR) (all : Array Oper) (B : Ban) (lo : Nat) (f : Fr) (s : XS) : RR := match drawOk all with
  | true => r_d1 (fun md => r_dr P k all md B lo all.toList (uns all) [] [] f s) (r_dr P k all [] B lo all.toList (uns all) [] [] f s)
  | false => .bad "draw order"
/-! Control -/
noncomputable def r_seq (k : Tk → Ban → Nat → XS → RR) (B : Ban) (lo : Nat) (y : Code) (r : RR) : RR := RR.rec (fun e f s => Ex.rec (k (.code y f) B lo s) (fun i => .code (.exit i) f s) (fun l => .code (.goto l) f s) (.code .ret f s) (fun v => .code (.pan v) f s) e) (fun v s => .ret v s) (fun w => .bad w) r
noncomputable def r_blk (id : Nat) : RR → RR
  | .code e f s => match e with
    | .exit i => match Nat.beq i id with
      | true => .code .normal f s
      | false => .code (.exit i) f s
    | e => .code e f s
  | r => r
noncomputable def r_cond (k : Tk → Ban → Nat → XS → RR) (B : Ban) (lo : Nat) (v : Value) (x y : Code) (f : Fr) (s : XS) : RR := match v with
  | .bool b => match b with
    | true => k (.code x f) B lo s
    | false => k (.code y f) B lo s
  | _ => .bad "cond"
noncomputable def r_scope : RR → RR
  | .code e f s => match e with
    | .goto _ => .bad "goto"
    | e => .code e f s
  | r => r
noncomputable def r_reg (P : Program) (k : Tk → Ban → Nat → XS → RR) (ops : Array Oper) (d : Bool) (f : Fr) (B : Ban) (lo : Nat) (s : XS) : RR := match d with
  | true => r_draw P k ops B lo f s
  | false => r_ops P k ops B lo ops.toList f s
noncomputable def r_coded : Code → Program → (Tk → Ban → Nat → XS → RR) → Fr → Ban → Nat → XS → RR
  | .skip => fun P k f B lo s => .code .normal f s
  | .region _ ops d => fun P k f B lo s => r_reg P k ops d f B lo s
  | .seq x y => fun P k f B lo s => r_seq k B lo y (k (.code x f) B lo s)
  | .cond c x y => fun P k f B lo s => r_cond k B lo (ev f.tm c) x y f s
  | .block id x => fun P k f B lo s => r_blk id (k (.code x f) B lo s)
  | .loop x => fun P k f B lo s => r_seq k B lo (.loop x) (k (.code x f) B lo s)
  | .exit i => fun P k f B lo s => .code (.exit i) f s
  | .scope x => fun P k f B lo s => r_scope (k (.code x f) B lo s)
  | .label _ => fun P k f B lo s => .code .normal f s
  | .goto l => fun P k f B lo s => .code (.goto l) f s
  | .ret => fun P k f B lo s => .code .ret f s
  | _ => fun P k f B lo s => .bad "code"
noncomputable def r_code (P : Program) (k : Tk → Ban → Nat → XS → RR) (c : Code) (f : Fr) (B : Ban) (lo : Nat) (s : XS) : RR := r_coded c P k f B lo s
noncomputable def enter (l : List Value) (n : Nat) (t : T4 Value) : T4 Value := match l with
  | [] => t
  | v :: l => enter l (Nat.succ n) (T4.put (some v) (dg 10 n) t)
noncomputable def resV (P : Program) (B : Ban) (s : XS) (tm : T4 Value) : List ResultVar → Option (List Value)
  | [] => some []
  | r :: l => match (match r with
      | .tmp t => some (ev tm (.tmp t))
      | .cell a T => match ev tm (.tmp a) with
        | .pointer (some ⟨n, off, none⟩) => match look B s n with
          | some (.cells c m _ _) => partV P T c m off
          | _ => none
        | _ => none) with
    | some v => match resV P B s tm l with
      | some vs => some (v :: vs)
      | none => none
    | none => none
noncomputable def r_res (s : XS) : Option (List Value) → RR
  | some l => match l with
    | [v] => .ret v s
    | vs => .ret (.tuple ⟨vs⟩) s
  | none => .bad "results"
noncomputable def r_dfr (g : XS → RR) : RR → RR
  | .ret _ s => g s
  | .bad w => .bad w
  | .code _ _ _ => .bad "?"
noncomputable def r_fin (P : Program) (k : Tk → Ban → Nat → XS → RR) (B : Ban) (lo : Nat) (fn : Func) (tm : T4 Value) : List Deferred → XS → RR
  | [], s => r_res s (resV P B s tm fn.results.toList)
  | d :: ds, s => match d.target with
    | .fn (.func g) cap => r_dfr (r_fin P k B lo fn tm ds) (k (.dcall g (app d.args.toList cap.toList)) B lo s)
    | _ => .bad "deferred"
noncomputable def r_end (P : Program) (k : Tk → Ban → Nat → XS → RR) (B : Ban) (lo : Nat) (fn : Func) : RR → RR
  | .code e f s => match e with
    | .normal => r_fin P k B lo fn f.tm f.df s
    | .ret => r_fin P k B lo fn f.tm f.df s
    | _ => .bad "exit"
  | .bad w => .bad (fn.name ++ "> " ++ w)
  | .ret _ _ => .bad "?"
noncomputable def r_finD (P : Program) (B : Ban) (fn : Func) (tm : T4 Value) (s : XS) : List Deferred → RR
  | [] => r_res s (resV P B s tm fn.results.toList)
  | _ :: _ => .bad "defer within"
noncomputable def r_endD (P : Program) (B : Ban) (fn : Func) : RR → RR
  | .code e f s => match e with
    | .normal => r_finD P B fn f.tm s f.df
    | .ret => r_finD P B fn f.tm s f.df
    | _ => .bad "exit"
  | .bad w => .bad w
  | .ret _ _ => .bad "?"
/-! All temporaries are in range -/
noncomputable def opdT (n g : Nat) : Operand → Bool
  | .tmp t => Nat.blt t n
  | .const v => nad v
  | .global x => Nat.blt x g
  | .func _ => true
noncomputable def opT (n g : Nat) (o : Oper) : Bool := (match o.dst with | some d => Nat.blt d n | none => true) && o.op.operands.toList.all (opdT n g)
noncomputable def codeT (n g : Nat) : Code → Bool
  | .region _ ops _ => ops.toList.all (opT n g)
  | .seq x y => codeT n g x && codeT n g y
  | .cond c x y => opdT n g c && (codeT n g x && codeT n g y)
  | .block _ x => codeT n g x
  | .loop x => codeT n g x
  | .scope x => codeT n g x
  | _ => true
noncomputable def resT (n : Nat) : List ResultVar → Bool
  | [] => true
  | .tmp t :: l => Nat.blt t n && resT n l
  | .cell t _ :: l => Nat.blt t n && resT n l
noncomputable def fnT (g : Nat) (fn : Func) (c : Code) : Bool := Nat.ble fn.ntmps 1024 && (codeT fn.ntmps g c && resT fn.ntmps fn.results.toList)
noncomputable def r_call (P : Program) (k : Tk → Ban → Nat → XS → RR) (e : Func → RR → RR) (g : FuncId) (args : List Value) (B : Ban) (lo : Nat) (s : XS) : RR := match body? P g with
  | some (fn, c) => match fnT P.globals.size fn c with
    | true => match Nat.ble (len args) fn.ntmps with
      | true => e fn (k (.code c ⟨enter args 0 .e, []⟩) B lo s)
      | false => .bad "args"
    | false => .bad "fnT"
  | none => .bad "func"
noncomputable def step (P : Program) (k : Tk → Ban → Nat → XS → RR) (t : Tk) (B : Ban) (lo : Nat) (s : XS) : RR := Tk.rec (fun c f => r_code P k c f B lo s) (fun g args => r_call P k (r_end P k B lo) g args B lo s) (fun g args => r_call P k (r_endD P B) g args B lo s) t
noncomputable def run (P : Program) (n : Nat) : Tk → Ban → Nat → XS → RR := Nat.rec (motive := fun _ => Tk → Ban → Nat → XS → RR) (fun _ _ _ _ => .bad "fuel") (fun _ ih => step P ih) n
noncomputable def isTrue : RR → Bool
  | .ret (.bool true) _ => true
  | _ => false
noncomputable def whyOf : RR → String
  | .bad w => w
  | _ => "ok"
end Go.X
end
