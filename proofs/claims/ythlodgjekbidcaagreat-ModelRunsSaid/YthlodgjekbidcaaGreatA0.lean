/-
  A small symbolic machine over abstract values: the definitions. No statement of the seat is proved here.
-/
import Derived.Test.YthlodgjekbidcaaGreatProg
import Derived.WalkKit
import Derived.WalkLawsBesides
import Derived.Laws.StructEq
import Derived.LoopN
namespace Go.Proofs.YthlodgjekbidcaaGreat
namespace NX
open Go Go.RowKit
abbrev Frag:=Nat→Option Obj
def tabs:List (String×Array Value):=[]
def Glob (P:Program) (H:Frag):Prop:=∀s∈tabs,∀g,P.globalNamed s.1=some g→∃T fr,H g=some (.cells s.2 T fr)
theorem Glob.mono {P:Program} {H H':Frag} (h:Glob P H) (k:∀k o,H k=some o→H' k=some o):Glob P H':=fun s hs g hg=>let ⟨T,fr,e⟩:=h s hs g hg;⟨T,fr,k _ _ e⟩
inductive AV where
 | any
 | un
 | tt
 | ff
 | bv (e:Bool)
 | iv (n:Int)
 | kv (k:IntKind) (n:Int)
 | sv (x:ByteArray)
 | nl
 | nlp
 | fn (f:Nat)
 | ptr (j off:Nat)
 | osl (j:Nat)
 | oel (j i off:Nat)
 | ocs (j lo n m:Nat)
 | elt (row:List AV) (off:Nat)
 | sl (n:Nat) (rows:List (List AV))
 | agg (l:List AV)
 | tup (l:List AV)
 | clo (f:Nat) (caps:List AV)
 deriving Inhabited
structure Mem where
 ρ:Nat→Nat
 σ:Nat→Value
 nb:Nat
 ns:Nat
 H:Frag
def Mem.pure (M:Mem):Mem:=⟨fun _=>0,fun _=>.nilFunc,0,0,M.H⟩
def Mem.sl (M:Mem):Mem:=⟨fun _=>0,M.σ,0,M.ns,M.H⟩
def Z0 (H:Frag):Mem:=⟨fun _=>0,fun _=>.nilFunc,0,0,H⟩
def Z1 (H:Frag) (a:Addr) (vs:List Value):Prop:=
 a.spot=none∧(∀v∈vs,v.oneCell'=true)∧∃cs T fr,H a.block=some (.cells cs T fr)∧∀(k:Nat) v,vs[k]?=some v→cs[a.off+k]?=some v
mutual
def AV.is (M:Mem):AV→Value→Prop
 | .any,_=>True
 | .un,x=>x=undef
 | .tt,x=>x = .bool true
 | .ff,x=>x = .bool false
 | .bv e,x=>x = .bool e
 | .iv n,x=>x = .int .i64 n
 | .kv k n,x=>x = .int k n
 | .sv t,x=>x = .string t
 | .nl,x=>x = .slice none 0 0
 | .nlp,x=>x = .pointer none
 | .fn f,x=>x = .func (.func f) #[] #[]
 | .ptr j off,x=>j<M.nb∧x = .pointer (some ⟨M.ρ j,off,none⟩)
 | .osl j,x=>j<M.ns∧x=M.σ j
 | .oel j k off,x=>j<M.ns∧∃g n c,M.σ j = .slice (some ⟨g,0,none⟩) n c∧x = .pointer (some ⟨g,k+off,none⟩)
 | .ocs j lo n m,x=>j<M.ns∧∃g len c,M.σ j = .slice (some ⟨g,0,none⟩) len c∧x = .slice (some ⟨g,if c=lo then 0 else lo*n,none⟩) m (c-lo)
 | .elt row off,x=>∃(a:Addr) (vs:List Value),x = .pointer (some ⟨a.block,a.off+off,none⟩)∧AV.isL M.pure row vs∧Z1 M.H a vs
 | .sl n rows,x=>∃a c,x = .slice a rows.length c∧(rows.length≤c∧(a=none→c=0))∧(rows≠ []→∃ad vss,a=some ad∧AV.isLL M.pure n rows vss∧Z1 M.H ad vss.flatten)
 | .agg l,x=>∃vs:List Value,x = .agg vs.toArray∧AV.isL M l vs
 | .tup l,x=>∃vs:List Value,x = .tuple vs.toArray∧AV.isL M l vs
 | .clo f caps,x=>∃vs:List Value,x = .func (.func f) #[] vs.toArray∧AV.isL M caps vs
def AV.isL (M:Mem):List AV→List Value→Prop
 | [],vs=>vs=[]
 | x::l,vs=>∃v r,vs=v::r∧AV.is M x v∧AV.isL M l r
def AV.isLL (M:Mem) (n:Nat):List (List AV)→List (List Value)→Prop
 | [],vss=>vss=[]
 | x::l,vss=>∃v r,vss=v::r∧v.length=n∧AV.isL M x v∧AV.isLL M n l r
end
def Z2:Bool→Bool→Bool
 | true,b=>b
 | false,_=>false
def Z3:Nat→Nat→Bool
 | 0,_=>true
 | a+1,b=>match b with
   | 0=>false
   | b+1=>Z3 a b
inductive X where
 | t (n:Nat)
 | c (a:AV)
 | bad
 deriving Inhabited
inductive EO where
 | mv (x:X)
 | pick (c a b:X)
 | alloc (T:Nat) (zero:List AV)
 | box (T n:Nat) (x:X)
 | load (x:X)
 | loadA (n:Nat) (x:X)
 | store (n:Nat) (a v:X)
 | nilchk (x:X)
 | bin (op:BinOp) (x y:X)
 | eqs (ng:Bool) (ks:List Bool) (x y:X)
 | isnil (ng:Bool) (x:X)
 | bq (ng:Bool) (x y:X)
 | not (x:X)
 | neg (x:X)
 | conv (k:IntKind) (x:X)
 | fld (off:Nat) (x:X)
 | field (off:Nat) (n:Option Nat) (x:X)
 | idx (n:Nat) (x i:X)
 | idxa (len n:Nat) (x i:X)
 | build (zero:List AV) (parts:List (Nat×Nat×X))
 | bsl (T n len:Nat) (zero:List AV) (parts:List (Nat×X))
 | ext (x:X) (i:Nat)
 | mkf (f:Nat) (caps:List X)
 | len (x:X)
 | app (T n bytes:Nat) (x y:X)
 | mm (isMax:Bool) (xs:List X)
 | call (f:Nat) (args:List X)
 | callv (f:X) (args:List X)
 | slice (n:Nat) (x:X) (lo hi:Option X)
 | mks (T n bytes:Nat) (zero:List AV) (x y:X)
 | cap (x:X)
 | apz (T n bytes:Nat) (zero:List AV) (x y:X)
 | ai (len:Nat) (x i:X)
 | copy (n:Nat) (x y:X)
 | clr (zero:List AV) (x:X)
 | sl3 (n:Nat) (x:X) (lo hi mx:Option X)
 | sbin (op:BinOp) (x y:X)
 | slen (x:X)
 | sidx (x i:X)
 | ssl (x:X) (lo hi:Option X)
 | b2s (x:X)
 | bad
 deriving Inhabited
structure EOp where
 d:Option Nat
 g:Option (Nat×Bool)
 o:EO
 deriving Inhabited
@[go_sem,reducible] def Qa (d:Nat) (o:EO):EOp:=⟨some d,none,o⟩
@[go_sem,reducible] def Qb (o:EO):EOp:=⟨none,none,o⟩
@[go_sem,reducible] def Qg (d j:Nat) (f:Bool) (o:EO):EOp:=⟨some d,some (j,f),o⟩
@[go_sem,reducible] def Qm (d x:Nat):EOp:=Qa d (.mv (.t x))
@[go_sem,reducible] def Qi (d:Nat) (k:Int):EOp:=Qa d (.mv (.c (.iv k)))
@[go_sem,reducible] def Qf (d k x:Nat):EOp:=Qa d (.fld k (.t x))
@[go_sem,reducible] def Ql (d x:Nat):EOp:=Qa d (.load (.t x))
@[go_sem,reducible] def Qe (d n x:Nat):EOp:=Qa d (.loadA n (.t x))
@[go_sem,reducible] def Qs (n a v:Nat):EOp:=Qb (.store n (.t a) (.t v))
@[go_sem,reducible] def Qp (d c a:Nat):EOp:=Qa d (.pick (.t c) (.t a) (.c .ff))
@[go_sem,reducible] def Qq (d c b:Nat):EOp:=Qa d (.pick (.t c) (.c .tt) (.t b))
@[go_sem,reducible] def Qk (d n x i:Nat):EOp:=Qa d (.idx n (.t x) (.t i))
@[go_sem,reducible] def Qv (d x:Nat) (k:Int):EOp:=Qa d (.bin .add (.t x) (.c (.iv k)))
@[go_sem,reducible] def Qx (d T n x:Nat):EOp:=Qa d (.box T n (.t x))
@[go_sem,reducible] def Qh (d j:Nat) (f:Bool) (k x:Nat):EOp:=Qg d j f (.fld k (.t x))
@[go_sem,reducible] def Qn (d j:Nat) (f:Bool) (x:Nat):EOp:=Qg d j f (.load (.t x))
theorem An {a b:Prop} (h:b) (ha:a:=by simp):a∧b:=⟨ha,h⟩
theorem Bs {α β:Type} {o:Option α} {f:α→Option β} {r:β} (h:o.bind f=some r):∃a,o=some a∧f a=some r:=Option.bind_eq_some_iff.1 h
attribute [go_sem_proc] Nat.reduceBEq Nat.reduceAdd
inductive EC where
 | skip
 | reg (ops:List EOp)
 | drw (ops:List EOp) (af nap:List (List Nat))
 | seq (a b:EC)
 | ite (x:X) (a b:EC)
 | blk (id:Nat) (a:EC)
 | loop (a:EC)
 | exit (id:Nat)
 | scope (a:EC)
 | label (l:Nat)
 | goto (l:Nat)
 | ret
 | bad
 deriving Inhabited
def zav:Value→AV
 | .int .i64 n=>.iv n
 | .int k n=>.kv k n
 | .bool true=>.tt
 | .bool false=>.ff
 | .string s=>.sv s
 | .slice none 0 0=>.nl
 | .pointer none=>.nlp
 | _=>.any
def cX:Operand→X
 | .tmp t=>.t t
 | .const v=>.c (zav v)
 | .func f=>.c (.clo f [])
 | .global _=>.bad
section comp
variable (P:Program)
def Z4 (T:TypeId):Option (Option Nat):=
 match P.underlying T,P.info? T with
 | some (.struct _),some i | some (.array _ _),some i=>some (some i.size)
 | some _,some _=>some none
 | _,_=>none
def Z5 (T:TypeId):Option (List AV):=
 match P.info? T with
 | some i=>match i.zero with
   | some z=>if z.cells.size=i.size then some (z.cells.toList.map zav) else none
   | none=>none
 | none=>none
def Z6 (T:TypeId):Option Nat:=(P.info? T).map (·.size)
def Z7:List Field→Option (List (Nat×Nat))
 | []=>some []
 | f::l=>match Z6 P f.type,Z7 l with
   | some n,some r=>some ((f.offset,n)::r)
   | _,_=>none
def Z8 (g:TypeId→Option (List Bool)):List Field→Nat→Option (List Bool)
 | [],_=>some []
 | f::fs,off=>if f.name≠"_"∧f.offset=off then match g f.type with
   | some l=>(Z8 g fs (off+l.length)).map (l ++ ·)
   | none=>none
   else none
def Z9:Nat→TypeId→Option (List Bool)
 | 0,_=>none
 | d+1,T=>match P.underlying T with
   | some (.int _)=>some [true]
   | some .bool=>some [false]
   | some (.struct fs)=>if P.stoodInHeld T=false then match Z8 (Z9 d) fs.toList 0 with
     | some l=>if Z6 P T=some l.length then some l else none
     | none=>none
     else none
   | _=>none
def okBin:BinOp→Bool
 | .add | .sub | .mul | .quo | .rem | .and | .or | .xor | .shl | .shr | .eql | .neq | .lss | .leq | .gtr | .geq=>true
 | _=>false
def cO (o:Op):EO:=
 match o with
 | .move x | .assign x=>.mv (cX x)
 | .pick c a b=>.pick (cX c) (cX a) (cX b)
 | .alloc T=>match Z5 P T with | some z=>.alloc T z | none=>.bad
 | .box T x=>match Z6 P T with | some n=>.box T n (cX x) | none=>.bad
 | .load T x=>match Z4 P T with
   | some none=>.load (cX x)
   | some (some n)=>.loadA n (cX x)
   | none=>.bad
 | .store T a v=>match Z6 P T with | some n=>.store n (cX a) (cX v) | none=>.bad
 | .nilCheck x=>.nilchk (cX x)
 | .binOp op T x y _=>match P.underlying T with
   | some (.int _)=>if okBin op then .bin op (cX x) (cX y) else .bad
   | some (.struct _)=>match Z9 P 8 T,P.eqGuardType P.depth T with
     | some ks,false=>match op with
       | .eql=>.eqs false ks (cX x) (cX y)
       | .neq=>.eqs true ks (cX x) (cX y)
       | _=>.bad
     | _,_=>.bad
   | some .string=>.sbin op (cX x) (cX y)
   | some .bool=>match op with
     | .eql=>.bq false (cX x) (cX y)
     | .neq=>.bq true (cX x) (cX y)
     | _=>.bad
   | some (.slice _)=>match y with
     | .const (.slice none 0 0)=>match op with
       | .eql=>.isnil false (cX x)
       | .neq=>.isnil true (cX x)
       | _=>.bad
     | _=>.bad
   | some _=>.bad
   | none=>.bad
 | .unOp op _ x=>match op with
   | .not=>.not (cX x)
   | .neg=>.neg (cX x)
   | _=>.bad
 | .convert s t x=>match P.underlying s,P.underlying t with
   | some (.int _),some (.int k)=>.conv k (cX x)
   | some (.slice e),some .string=>match P.underlying e with
     | some (.int .u8)=>.b2s (cX x)
     | _=>.bad
   | _,_=>.bad
 | .fieldAddr T x f=>match P.underlying T with
   | some (.struct fs)=>match fs[f]? with
     | some fd=>if 0<(Z6 P fd.type).getD 0 then .fld fd.offset (cX x) else .bad
     | none=>.bad
   | _=>.bad
 | .field T x f=>match P.underlying T with
   | some (.struct fs)=>match fs[f]? with
     | some fd=>match Z4 P fd.type with
       | some n=>.field fd.offset n (cX x)
       | none=>.bad
     | none=>.bad
   | _=>.bad
 | .indexAddr T x i=>match P.underlying T with
   | some (.slice e)=>match Z6 P e with
     | some n=>.idx n (cX x) (cX i)
     | none=>.bad
   | some (.array l e)=>match Z6 P e with
     | some n=>.idxa l n (cX x) (cX i)
     | none=>.bad
   | _=>.bad
 | .index T x i=>match P.underlying T with
   | some (.array l e)=>match Z4 P e,Z6 P e with
     | some none,some n=>if n=1 then .ai l (cX x) (cX i) else .bad
     | _,_=>.bad
   | some .string=>.sidx (cX x) (cX i)
   | _=>.bad
 | .build T ps=>match P.underlying T,Z5 P T with
   | some (.struct fs),some z=>match Z7 P fs.toList with
     | some pl=>match ps.toList.mapM fun (i,x)=>(pl[i]?).map fun on=>(on.1,on.2,cX x) with
       | some l=>.build z l
       | none=>.bad
     | none=>.bad
   | some (.array _ e),some z=>match Z6 P e with
     | some n=>.build z (ps.toList.map fun (i,x)=>(i*n,n,cX x))
     | none=>.bad
   | _,_=>.bad
 | .buildSlice T len ps=>match P.underlying T with
   | some (.slice e)=>match Z6 P e,Z5 P e with
     | some n,some z=>.bsl e n len z (ps.toList.map fun (i,x)=>(i,cX x))
     | _,_=>.bad
   | _=>.bad
 | .extract x i=>.ext (cX x) i
 | .makeFunc fn first caps=>match fn with
   | .func f=>if first.size=0 then .mkf f (caps.toList.map cX) else .bad
   | _=>.bad
 | .slice T x lo hi mx=>match P.underlying T,mx with
   | some (.slice e),none=>match Z6 P e with
     | some n=>.slice n (cX x) (lo.map cX) (hi.map cX)
     | none=>.bad
   | some (.slice e),some m=>match Z6 P e with
     | some n=>.sl3 n (cX x) (lo.map cX) (hi.map cX) (some (cX m))
     | none=>.bad
   | some .string,none=>.ssl (cX x) (lo.map cX) (hi.map cX)
   | _,_=>.bad
 | .makeSlice T x y=>match P.underlying T with
   | some (.slice e)=>match P.info? e with
     | some i=>match i.zero with
       | some z=>if z.cells.size=i.size∧0<i.size then .mks e i.size i.bytes (z.cells.toList.map zav) (cX x) (cX y) else .bad
       | none=>.bad
     | none=>.bad
   | _=>.bad
 | .call c=>match c.callee with
   | .value f=>match f with
     | .func f=>if (P.funcs[f]?).any (fun fn=>fn.body.isSome&&!(fn.name == "runtime.NumGoroutine")) then .call f (c.args.toList.map cX) else .bad
     | .tmp t=>.callv (.t t) (c.args.toList.map cX)
     | _=>.bad
   | .invoke _ _=>.bad
   | .builtin bi=>match bi with
     | .len=>match c.argTypes[0]?,c.args.toList with
       | some t0,[x]=>match P.underlying t0 with
         | some (.slice _)=>.len (cX x)
         | some .string=>.slen (cX x)
         | _=>.bad
       | _,_=>.bad
     | .append=>match c.argTypes.toList,c.args.toList with
       | [t0,t1],[x,y]=>if t0=t1 then match P.underlying t0 with
         | some (.slice e)=>match P.info? e with
           | some i=>match i.zero with
             | some z=>if z.cells.size=i.size∧0<i.size then .app e i.size i.bytes (cX x) (cX y) else .bad
             | none=>.bad
           | none=>.bad
         | _=>.bad
         else match P.underlying t0,P.underlying t1 with
          | some (.slice e),some (.int _)=>match P.info? e with
            | some i=>match i.zero with
              | some z=>if z.cells.size=i.size∧0<i.size then .apz e i.size i.bytes (z.cells.toList.map zav) (cX x) (cX y) else .bad
              | none=>.bad
            | none=>.bad
          | _,_=>.bad
       | _,_=>.bad
     | .cap=>match c.argTypes[0]?,c.args.toList with
       | some t0,[x]=>match P.underlying t0 with
         | some (.slice _)=>.cap (cX x)
         | _=>.bad
       | _,_=>.bad
     | .clear=>match c.argTypes.toList,c.args.toList with
       | [t0],[x]=>match P.underlying t0 with
         | some (.slice e)=>match Z5 P e,Z6 P e with
           | some z,some n=>if z.length=n∧0<n then .clr z (cX x) else .bad
           | _,_=>.bad
         | _=>.bad
       | _,_=>.bad
     | .copy=>match c.argTypes.toList,c.args.toList with
       | [t0,_],[x,y]=>match P.underlying t0 with
         | some (.slice e)=>match Z6 P e with
           | some n=>.copy n (cX x) (cX y)
           | none=>.bad
         | _=>.bad
       | _,_=>.bad
     | .max=>.mm true (c.args.toList.map cX)
     | .min=>.mm false (c.args.toList.map cX)
     | _=>.bad
 | _=>.bad
def Za (all:Array Oper) (o:Oper):Option EOp:=
 match o.guard with
 | none=>some ⟨o.dst,none,cO P o.op⟩
 | some (j,f)=>match (all[j]?).bind (·.dst) with
   | some t=>some ⟨o.dst,some (t,f),cO P o.op⟩
   | none=>none
def Zb (ops:Array Oper):List (List Nat):=ops.toList.map fun o=>o.after.toList.filterMap fun e=>match Region.binds .any e with | true=>some e.on | false=>none
def Zc (ops:Array Oper):List (List Nat):=(List.range ops.size).map fun i=>(List.range ops.size).filter fun j=>match ops[i]?,ops[j]? with
 | some x,some y=>!(i==j)&&!(x.apart ops y)
 | _,_=>false
def cC:Code→Option EC
 | .skip=>some .skip
 | .region _ ops draw=>match ops.toList.mapM (Za P ops) with
   | some l=>match draw with
     | true=>match Region.noSelect ops with
       | true=>some (.drw l (Zb ops) (Zc ops))
       | false=>some .bad
     | false=>some (.reg l)
   | none=>none
 | .seq a b=>match cC a,cC b with | some x,some y=>some (.seq x y) | _,_=>none
 | .cond c a b=>match cC a,cC b with | some x,some y=>some (.ite (cX c) x y) | _,_=>none
 | .block id a=>(cC a).map (.blk id)
 | .loop a=>(cC a).map .loop
 | .exit id=>some (.exit id)
 | .scope a=>(cC a).map .scope
 | .label l=>some (.label l)
 | .goto l=>some (.goto l)
 | .ret=>some .ret
 | _=>some .bad
end comp
structure Blk where
 T:Nat
 cells:List AV
 deriving Inhabited
structure Sl where
 T:Nat
 n:Nat
 rows:List (List AV)
 deriving Inhabited
structure St where
 tm:List AV
 bs:List (Option Blk)
 ss:List (Option Sl)
 deriving Inhabited
def Zd:List AV→Nat→AV
 | [],_=>.any
 | x::_,0=>x
 | _::l,n+1=>Zd l n
def Ze:List AV→Nat→AV→List AV
 | [],_,_=>[]
 | _::l,0,v=>v::l
 | x::l,n+1,v=>x::Ze l n v
def Zf {α:Type}:List (Option α)→Nat→Option α
 | [],_=>none
 | x::_,0=>x
 | _::l,n+1=>Zf l n
def Zg {α:Type}:List (Option α)→Nat→Option α→List (Option α)
 | [],_,_=>[]
 | _::l,0,v=>v::l
 | x::l,n+1,v=>x::Zg l n v
def ltk:Nat→List AV→Option (List AV)
 | 0,_=>some []
 | _+1,[]=>none
 | n+1,x::l=>(ltk n l).map (x :: ·)
def ldr:Nat→List AV→Option (List AV)
 | 0,l=>some l
 | _+1,[]=>none
 | n+1,_::l=>ldr n l
def Zh (l:List AV) (o n:Nat):Option (List AV):=
 match ldr o l with
 | some r=>ltk n r
 | none=>none
def lwr:List AV→List AV→Option (List AV)
 | l,[]=>some l
 | [],_::_=>none
 | _::l,v::vs=>(lwr l vs).map (v :: ·)
def Zi (l:List AV) (o:Nat) (vs:List AV):Option (List AV):=
 match o with
 | 0=>lwr l vs
 | o+1=>match l with
   | []=>none
   | x::l=>(Zi l o vs).map (x :: ·)
def Zj {α:Type}:List α→Nat
 | []=>0
 | _::l=>Zj l+1
def St.x (S:St):X→AV
 | .t n=>Zd S.tm n
 | .c a=>a
 | .bad=>.any
def St.put (S:St) (d:Option Nat) (v:AV):St:=
 match d with
 | some d=>⟨Ze S.tm d v,S.bs,S.ss⟩
 | none=>S
def AV.one:AV→Bool
 | .any | .un | .agg _ | .tup _=>false
 | _=>true
def Zk:List AV→Bool
 | []=>true
 | x::l=>Z2 x.one (Zk l)
def AV.cells:AV→Option (List AV)
 | .any | .un | .tup _=>none
 | .agg l=>some l
 | x=>some [x]
def Zl:List AV→List (Nat×Nat×AV)→Option (List AV)
 | z,[]=>some z
 | z,(off,n,v)::r=>match v.cells with
   | some cs=>match Zj cs==n with
     | true=>match Zi z off cs with
       | some z'=>Zl z' r
       | none=>none
     | false=>none
   | none=>none
def ltake:Nat→List AV→List AV
 | 0,_=>[]
 | _+1,[]=>[]
 | n+1,x::l=>x::ltake n l
def ldrop:Nat→List AV→List AV
 | 0,l=>l
 | _+1,[]=>[]
 | n+1,_::l=>ldrop n l
def Zm (n:Nat):Nat→List AV→List (List AV)
 | 0,_=>[]
 | k+1,l=>ltake n l::Zm n k (ldrop n l)
def Zn:Nat→List AV→List AV
 | 0,_=>[]
 | k+1,z=>z++Zn k z
mutual
def AV.pu:AV→Bool
 | .ptr _ _ | .osl _ | .oel _ _ _ | .ocs _ _ _ _=>false
 | .agg l=>Zo l
 | .tup l=>Zo l
 | .clo _ l=>Zo l
 | .any | .un | .tt | .ff | .bv _ | .iv _ | .kv _ _ | .sv _ | .nl | .nlp | .fn _ | .elt _ _ | .sl _ _=>true
def Zo:List AV→Bool
 | []=>true
 | x::l=>Z2 x.pu (Zo l)
end
def wr (n:Int):Int:=IntKind.i64.wrap n
def binI (op:BinOp) (x y:Int):Option (AV×Prop):=
 match op with
 | .add=>some (.iv (wr (x+y)),True)
 | .sub=>some (.iv (wr (x-y)),True)
 | .mul=>some (.iv (wr (x*y)),True)
 | .quo=>some (.iv (wr (x.tdiv y)),y≠0)
 | .rem=>some (.iv (x.tmod y),y≠0)
 | .eql=>some (.bv (decide (x=y)),True)
 | .neq=>some (.bv (!decide (x=y)),True)
 | .lss=>some (.bv (decide (x<y)),True)
 | .leq=>some (.bv (decide (x≤y)),True)
 | .gtr=>some (.bv (decide (y<x)),True)
 | .geq=>some (.bv (decide (y≤x)),True)
 | .shl=>some (.iv (wr (x*2 ^ min y.toNat 64)),0≤y)
 | .shr=>some (.iv (x.fdiv (2 ^ min y.toNat 64)),0≤y)
 | .and=>some (.iv (wr (BitVec.ofInt 64 x &&& BitVec.ofInt 64 y).toNat),True)
 | .or=>some (.iv (wr (BitVec.ofInt 64 x ||| BitVec.ofInt 64 y).toNat),True)
 | .xor=>some (.iv (wr (BitVec.ofInt 64 x ^^^ BitVec.ofInt 64 y).toNat),True)
 | _=>none
def keq:IntKind→IntKind→Bool
 | .i8,.i8 | .i16,.i16 | .i32,.i32 | .i64,.i64 | .u8,.u8 | .u16,.u16 | .u32,.u32 | .u64,.u64=>true
 | _,_=>false
def mkI:IntKind→Int→AV
 | .i64,n=>.iv n
 | k,n=>.kv k n
def kw (k:IntKind) (n:Int):Int:=k.wrap n
def binK (op:BinOp) (k:IntKind) (x y:Int):Option (AV×Prop):=
 match op with
 | .add=>some (.kv k (kw k (x+y)),True)
 | .sub=>some (.kv k (kw k (x-y)),True)
 | .mul=>some (.kv k (kw k (x*y)),True)
 | .quo=>some (.kv k (kw k (x.tdiv y)),y≠0)
 | .rem=>some (.kv k (x.tmod y),y≠0)
 | .eql=>some (.bv (decide (x=y)),True)
 | .neq=>some (.bv (!decide (x=y)),True)
 | .lss=>some (.bv (decide (x<y)),True)
 | .leq=>some (.bv (decide (x≤y)),True)
 | .gtr=>some (.bv (decide (y<x)),True)
 | .geq=>some (.bv (decide (y≤x)),True)
 | .and=>some (.kv k (kw k (BitVec.ofInt k.bits x &&& BitVec.ofInt k.bits y).toNat),True)
 | .or=>some (.kv k (kw k (BitVec.ofInt k.bits x ||| BitVec.ofInt k.bits y).toNat),True)
 | .xor=>some (.kv k (kw k (BitVec.ofInt k.bits x ^^^ BitVec.ofInt k.bits y).toNat),True)
 | _=>none
def shK (op:BinOp) (k:IntKind) (x y:Int):Option (AV×Prop):=
 match op with
 | .shl=>some (mkI k (kw k (x*2 ^ min y.toNat k.bits)),0≤y)
 | .shr=>some (mkI k (x.fdiv (2 ^ min y.toNat k.bits)),0≤y)
 | _=>none
def Zp (op:BinOp) (u v:AV):Option (AV×Prop):=
 match u with
 | .iv a=>match v with
   | .iv b=>binI op a b
   | .kv _ b=>shK op .i64 a b
   | _=>none
 | .kv k a=>match v with
   | .kv j b=>match keq k j with
     | true=>match op with
       | .shl=>shK op k a b
       | .shr=>shK op k a b
       | _=>binK op k a b
     | false=>shK op k a b
   | .iv b=>shK op k a b
   | _=>none
 | _=>none
def seq (x y:ByteArray):Bool:=x.data.toList==y.data.toList
def strI (op:BinOp) (u v:AV):Option AV:=
 match u with
 | .sv x=>match v with
   | .sv y=>match op with
     | .eql=>some (.bv (seq x y))
     | .neq=>some (.bv (!seq x y))
     | _=>none
   | _=>none
 | _=>none
def sln (x:ByteArray):Int:=x.size
def Zq (S:St):List X→List AV
 | []=>[]
 | x::l=>S.x x::Zq S l
def Zr (S:St) (n:Nat):List (Nat×X)→List (Nat×Nat×AV)
 | []=>[]
 | (i,x)::l=>(i*n,n,S.x x)::Zr S n l
def Zs (S:St):List (Nat×Nat×X)→List (Nat×Nat×AV)
 | []=>[]
 | (i,n,x)::l=>(i,n,S.x x)::Zs S l
def mmI (mx:Bool) (x:Int):List AV→Option Int
 | []=>some x
 | a::l=>match a with
   | .iv y=>match mx with
     | true=>mmI mx (max x y) l
     | false=>mmI mx (min x y) l
   | _=>none
def Zt:AV→Option Bool
 | .tt=>some true
 | .ff=>some false
 | .bv e=>some e
 | _=>none
def intA:AV→Option Int
 | .iv n=>some n
 | _=>none
def eqLeaf (k:Bool) (x y:AV):Option Bool:=
 match k with
 | true=>match intA x,intA y with
   | some a,some b=>some (decide (a=b))
   | _,_=>none
 | false=>match Zt x,Zt y with
   | some a,some b=>some (a==b)
   | _,_=>none
def eqA:List Bool→List AV→List AV→Option Bool
 | [],l,r=>match l,r with
   | [],[]=>some true
   | _,_=>none
 | k::ks,l,r=>match l,r with
   | x::l,y::r=>match eqLeaf k x y,eqA ks l r with
     | some a,some b=>some (a&&b)
     | _,_=>none
   | _,_=>none
def ngB (ng b:Bool):Bool:=
 match ng with
 | true=>!b
 | false=>b
def Zu (S:St) (x:AV) (n:Nat):Option (List AV):=
 match x with
 | .ptr j off=>match Zf S.bs j with
   | some B=>Zh B.cells off n
   | none=>none
 | .elt row off=>Zh row off n
 | _=>none
def tf:AV→AV
 | .bv e=>match e with
   | true=>.tt
   | false=>.ff
 | x=>x
def lgt (l:List AV) (t:Nat):AV:=tf (Zd l t)
theorem tf_is {M:Mem} {x:AV} {v:Value} (h:x.is M v):(tf x).is M v:=by
 cases x<;>try exact h
 rename_i e;cases e<;>simpa [tf,AV.is] using h
theorem lgt_is {M:Mem} {l:List AV} {t:Nat} {v:Value} (h:(Zd l t).is M v):(lgt l t).is M v:=tf_is h
def ev (S:St):EO→Option (AV×St×Prop)
 | .mv x=>some (S.x x,S,True)
 | .pick c a b=>match tf (S.x c) with
   | .tt=>some (S.x a,S,True)
   | .ff=>some (S.x b,S,True)
   | _=>none
 | .alloc T z=>match Zk z with
   | true=>some (.ptr (Zj S.bs) 0,⟨S.tm,S.bs++[some ⟨T,z⟩],S.ss⟩,True)
   | false=>none
 | .box T n x=>match (S.x x).cells with
   | some cs=>match Z2 ((Zj cs==n)) (Zk cs) with
     | true=>some (.ptr (Zj S.bs) 0,⟨S.tm,S.bs++[some ⟨T,cs⟩],S.ss⟩,True)
     | false=>none
   | none=>none
 | .load x=>(Zu S (S.x x) 1).map fun l=>(Zd l 0,S,True)
 | .loadA n x=>(Zu S (S.x x) n).map fun l=>(.agg l,S,True)
 | .store n a v=>match S.x a with
   | .ptr j off=>match Zf S.bs j with
     | some B=>match (S.x v).cells with
       | some cs=>match Z2 ((Zj cs==n)) (Zk cs) with
         | true=>(Zi B.cells off cs).map fun c=>(.un,⟨S.tm,Zg S.bs j (some ⟨B.T,c⟩),S.ss⟩,True)
         | false=>none
       | none=>none
     | none=>none
   | _=>none
 | .nilchk x=>match S.x x with
   | .ptr j off=>some (.ptr j off,S,True)
   | .elt row off=>some (.elt row off,S,True)
   | .oel j k off=>some (.oel j k off,S,True)
   | .clo f caps=>some (.clo f caps,S,True)
   | _=>none
 | .bin op x y=>(Zp op (S.x x) (S.x y)).map fun r=>(r.1,S,r.2)
 | .sbin op x y=>(strI op (S.x x) (S.x y)).map fun r=>(r,S,True)
 | .slen x=>match S.x x with
   | .sv s=>some (.iv (sln s),S,True)
   | _=>none
 | .eqs ng ks x y=>match S.x x,S.x y with
   | .agg l,.agg r=>(eqA ks l r).map fun e=>(.bv (ngB ng e),S,True)
   | _,_=>none
 | .bq ng x y=>match Zt (S.x x),Zt (S.x y) with
   | some a,some b=>some (.bv (ngB ng (a==b)),S,True)
   | _,_=>none
 | .not x=>match S.x x with
   | .tt=>some (.ff,S,True)
   | .ff=>some (.tt,S,True)
   | .bv e=>some (.bv (!e),S,True)
   | _=>none
 | .neg x=>match S.x x with
   | .iv a=>some (.iv (wr (-a)),S,True)
   | _=>none
 | .conv .i64 x=>match S.x x with
   | .iv a=>some (.iv (wr a),S,True)
   | .kv _ a=>some (.iv (wr a),S,True)
   | _=>none
 | .conv k x=>match S.x x with
   | .iv a=>some (mkI k (kw k a),S,True)
   | .kv _ a=>some (mkI k (kw k a),S,True)
   | _=>none
 | .fld off x=>match S.x x with
   | .ptr j o=>some (.ptr j (o+off),S,True)
   | .elt row o=>some (.elt row (o+off),S,True)
   | .oel j k o=>some (.oel j k (o+off),S,True)
   | _=>none
 | .field off (some n) x=>match S.x x with
   | .agg l=>(Zh l off n).map fun r=>(.agg r,S,True)
   | _=>none
 | .field off none x=>match S.x x with
   | .agg l=>(Zh l off 1).map fun r=>(Zd r 0,S,True)
   | _=>none
 | .build z ps=>(Zl z (Zs S ps)).map fun l=>(.agg l,S,True)
 | .bsl T n len z ps=>match Zl (Zn len z) (Zr S n ps) with
   | some l=>match Z2 (Z3 1 n) (Z2 (Z3 (len*n) 16777216) (Z2 ((Zj z==n)) (Z2 (Zo l) (Zk l)))) with
     | true=>some (.osl (Zj S.ss),⟨S.tm,S.bs,S.ss++[some ⟨T,n,Zm n len l⟩]⟩,True)
     | false=>none
   | none=>none
 | .ext x k=>match S.x x with
   | .tup l=>(Zh l k 1).map fun r=>(Zd r 0,S,True)
   | _=>none
 | .mkf f caps=>some (.clo f (Zq S caps),S,True)
 | .len x=>match S.x x with
   | .nl=>some (.iv 0,S,True)
   | .sl _ rows=>some (.iv rows.length,S,True)
   | .osl j=>match Zf S.ss j with
     | some L=>some (.iv L.rows.length,S,True)
     | none=>none
   | .ocs _ _ _ m=>some (.iv m,S,True)
   | _=>none
 | .mm mx xs=>match Zq S xs with
   | .iv x::l=>(mmI mx x l).map fun n=>(.iv n,S,True)
   | _=>none
 | _=>none
inductive It where
 | code (c:EC)
 | ops (l:List EOp)
 | blk (id:Nat)
 | lp (b:EC) (n:Nat)
 | sc (e:EC)
 deriving Inhabited
def unw (id:Nat):List It→Option (List It)
 | []=>none
 | x::k=>match x with
   | .blk j=>match j==id with
     | true=>some k
     | false=>unw id k
   | _=>unw id k
def Zv:EC→Nat→Option EC
 | .seq a b,l=>match Zv a l with
   | some r=>some (.seq r b)
   | none=>Zv b l
 | .label j,l=>match j==l with
   | true=>some .skip
   | false=>none
 | _,_=>none
def gun (l:Nat):List It→Option (List It)
 | []=>none
 | x::k=>match x with
   | .sc e=>match Zv e l with
     | some r=>some (.code r :: .sc e::k)
     | none=>none
   | _=>gun l k
def ev1 (S:St) (o:EOp):Option (St×Prop):=
 match o.g with
 | none=>(ev S o.o).map fun r=>(r.2.1.put o.d r.1,r.2.2)
 | some (t,f)=>match lgt S.tm t,f with
   | .tt,true | .ff,false=>(ev S o.o).map fun r=>(r.2.1.put o.d r.1,r.2.2)
   | .tt,false | .ff,true | .un,_=>some (S.put o.d .un,True)
   | _,_=>none
def run:Nat→List It→St→Prop→List It×St×Prop
 | 0,k,S,p=>(k,S,p)
 | _+1,[],S,p=>([],S,p)
 | m+1,.blk _::k,S,p=>run m k S p
 | m+1,.sc _::k,S,p=>run m k S p
 | _+1,.lp b n::k,S,p=>(.lp b n::k,S,p)
 | m+1,.ops []::k,S,p=>run m k S p
 | m+1,.ops (o::l)::k,S,p=>match ev1 S o with
   | some r=>run m (.ops l::k) r.1 (p∧r.2)
   | none=>(.ops (o::l)::k,S,p)
 | m+1,.code c::k,S,p=>match c with
   | .skip=>run m k S p
   | .seq a b=>run m (.code a :: .code b::k) S p
   | .blk id a=>run m (.code a :: .blk id::k) S p
   | .reg l=>run m (.ops l::k) S p
   | .exit id=>match unw id k with
     | some k'=>run m k' S p
     | none=>(.code c::k,S,p)
   | .scope a=>run m (.code a :: .sc a::k) S p
   | .label _=>run m k S p
   | .goto l=>match gun l k with
     | some k'=>run m k' S p
     | none=>(.code c::k,S,p)
   | .ite x a b=>match S.x x with
     | .tt=>run m (.code a::k) S p
     | .ff=>run m (.code b::k) S p
     | _=>(.code c::k,S,p)
   | _=>(.code c::k,S,p)
def Zw (n:Nat) (d e:List (List AV)):Prop:=d.length=e.length∧∀(M:Mem) (vss:List (List Value)),AV.isLL M n d vss→AV.isLL M n e vss
def AV.le:AV→AV→Prop
 | _,.any=>True
 | x,.un=>x = .un
 | x,.tt=>match x with
   | .tt=>True
   | .bv e=>e=true
   | x=>x = .tt
 | x,.ff=>match x with
   | .ff=>True
   | .bv e=>e=false
   | x=>x = .ff
 | x,.bv e=>match x with
   | .tt=>e=true
   | .ff=>e=false
   | .bv d=>d=e
   | x=>x = .bv e
 | x,.iv e=>match x with
   | .iv d=>d=e
   | x=>x = .iv e
 | x,.kv k e=>x = .kv k e
 | x,.sv e=>x = .sv e
 | x,.nl=>x = .nl
 | x,.nlp=>x = .nlp
 | x,.fn f=>x = .fn f
 | x,.ptr i o=>x = .ptr i o
 | x,.osl i=>x = .osl i
 | x,.oel i a b=>x = .oel i a b
 | x,.ocs i a n b=>x = .ocs i a n b
 | x,.elt e j=>match x with
   | .elt d i=>leL d e∧i=j
   | x=>x = .elt e j
 | x,.sl m e=>match x with
   | .nl=>e=[]
   | .sl n d=>n=m∧Zw n d e
   | x=>x = .sl m e
 | x,.agg e=>match x with
   | .agg d=>leL d e
   | x=>x = .agg e
 | x,.tup e=>match x with
   | .tup d=>leL d e
   | x=>x = .tup e
 | x,.clo g e=>match x with
   | .clo f d=>f=g∧leL d e
   | x=>x = .clo g e
where
 leL:List AV→List AV→Prop
  | [],[]=>True
  | x::l,y::r=>AV.le x y∧leL l r
  | _,_=>False
mutual
def AV.ok (nb ns:Nat):AV→Bool
 | .ptr j _=>Z3 (j+1) nb
 | .osl j=>Z3 (j+1) ns
 | .oel j _ _=>Z3 (j+1) ns
 | .ocs j _ _ _=>Z3 (j+1) ns
 | .agg l=>Zx nb ns l
 | .tup l=>Zx nb ns l
 | .clo _ l=>Zx nb ns l
 | .any | .un | .tt | .ff | .bv _ | .iv _ | .kv _ _ | .sv _ | .nl | .nlp | .fn _ | .elt _ _ | .sl _ _=>true
def Zx (nb ns:Nat):List AV→Bool
 | []=>true
 | x::l=>Z2 (x.ok nb ns) (Zx nb ns l)
end
def leT:List AV→List AV→Prop
 | _,[]=>True
 | [],_::_=>False
 | x::l,y::r=>AV.le x y∧leT l r
def leB:List (Option Blk)→List (Option Blk)→Prop
 | _,[]=>True
 | _::l,none::r=>leB l r
 | some B::l,some C::r=>B.T=C.T∧AV.le.leL B.cells C.cells∧leB l r
 | _,_=>False
def leS:List (Option Sl)→List (Option Sl)→Prop
 | _,[]=>True
 | _::l,none::r=>leS l r
 | some B::l,some C::r=>B.T=C.T∧B.n=C.n∧Zw B.n B.rows C.rows∧leS l r
 | _,_=>False
def okB (nb ns:Nat):List (Option Blk)→Bool
 | []=>true
 | none::l=>okB nb ns l
 | some B::l=>Z2 (Zx nb ns B.cells) (okB nb ns l)
def Zy (ns:Nat):List (List AV)→Bool
 | []=>true
 | r::l=>Z2 (Zx 0 ns r) (Zy ns l)
def okSS (ns:Nat):List (Option Sl)→Bool
 | []=>true
 | none::l=>okSS ns l
 | some L::l=>Z2 (Zy ns L.rows) (okSS ns l)
def St.ok (S:St):Bool:=Z2 (Zx (Zj S.bs) (Zj S.ss) S.tm) (Z2 (okB (Zj S.bs) (Zj S.ss) S.bs) (okSS (Zj S.ss) S.ss))
def Zz:List (List AV)→Bool
 | []=>true
 | r::l=>Z2 (Zo r) (Zz l)
def puSS:List (Option Sl)→Bool
 | []=>true
 | none::l=>puSS l
 | some L::l=>Z2 (Zz L.rows) (puSS l)
def St.le (S S':St):Prop:=leT S.tm S'.tm∧leB S.bs S'.bs∧leS S.ss S'.ss
mutual
def AV.subO (j:Nat) (r:AV):AV→AV
 | .osl i=>match i==j with
   | true=>r
   | false=>.osl i
 | .oel i a b=>match i==j with
   | true=>.any
   | false=>.oel i a b
 | .ocs i a n b=>match i==j with
   | true=>.any
   | false=>.ocs i a n b
 | .agg l=>.agg (Z01 j r l)
 | .tup l=>.tup (Z01 j r l)
 | .clo f l=>.clo f (Z01 j r l)
 | .any=>.any
 | .un=>.un
 | .tt=>.tt
 | .ff=>.ff
 | .bv e=>.bv e
 | .iv n=>.iv n
 | .kv k n=>.kv k n
 | .sv x=>.sv x
 | .nl=>.nl
 | .nlp=>.nlp
 | .fn f=>.fn f
 | .ptr i o=>.ptr i o
 | .elt row o=>.elt row o
 | .sl n rows=>.sl n rows
def Z01 (j:Nat) (r:AV):List AV→List AV
 | []=>[]
 | x::l=>AV.subO j r x::Z01 j r l
def AV.subB (j:Nat) (cells:List AV):AV→AV
 | .ptr i o=>match i==j with
   | true=>.elt cells o
   | false=>.ptr i o
 | .agg l=>.agg (Z11 j cells l)
 | .tup l=>.tup (Z11 j cells l)
 | .clo f l=>.clo f (Z11 j cells l)
 | .any=>.any
 | .un=>.un
 | .tt=>.tt
 | .ff=>.ff
 | .bv e=>.bv e
 | .iv n=>.iv n
 | .kv k n=>.kv k n
 | .sv x=>.sv x
 | .nl=>.nl
 | .nlp=>.nlp
 | .fn f=>.fn f
 | .osl i=>.osl i
 | .oel i a b=>.oel i a b
 | .ocs i a n b=>.ocs i a n b
 | .elt row o=>.elt row o
 | .sl n rows=>.sl n rows
def Z11 (j:Nat) (cells:List AV):List AV→List AV
 | []=>[]
 | x::l=>x.subB j cells::Z11 j cells l
end
mutual
def AV.ren (p q:Nat):AV→AV
 | .osl i=>match i==p with
   | true=>.osl q
   | false=>match i==q with
     | true=>.any
     | false=>.osl i
 | .oel i a b=>match i==p with
   | true=>.oel q a b
   | false=>match i==q with
     | true=>.any
     | false=>.oel i a b
 | .ocs i a n b=>match i==p with
   | true=>.ocs q a n b
   | false=>match i==q with
     | true=>.any
     | false=>.ocs i a n b
 | .agg l=>.agg (renL p q l)
 | .tup l=>.tup (renL p q l)
 | .clo f l=>.clo f (renL p q l)
 | .any=>.any
 | .un=>.un
 | .tt=>.tt
 | .ff=>.ff
 | .bv e=>.bv e
 | .iv n=>.iv n
 | .kv k n=>.kv k n
 | .sv x=>.sv x
 | .nl=>.nl
 | .nlp=>.nlp
 | .fn f=>.fn f
 | .ptr i o=>.ptr i o
 | .elt row o=>.elt row o
 | .sl n rows=>.sl n rows
def renL (p q:Nat):List AV→List AV
 | []=>[]
 | x::l=>AV.ren p q x::renL p q l
end
def mapB (f:List AV→List AV):List (Option Blk)→List (Option Blk)
 | []=>[]
 | none::l=>none::mapB f l
 | some B::l=>some ⟨B.T,f B.cells⟩::mapB f l
def St.sealS (S:St) (j:Nat) (L:Sl):St:=⟨Z01 j (.sl L.n L.rows) S.tm,mapB (Z01 j (.sl L.n L.rows)) S.bs,Zg S.ss j none⟩
def St.sealB (S:St) (j:Nat) (cells:List AV):St:=⟨Z11 j cells S.tm,Zg (mapB (Z11 j cells) S.bs) j none,S.ss⟩
def St.renS (S:St) (p q:Nat) (L:Sl):St:=⟨renL p q S.tm,mapB (renL p q) S.bs,Zg (Zg S.ss p none) q (some L)⟩
def Z21 (S:St) (n:Nat) (x:AV):Option (List (List AV)):=
 match x with
 | .nl=>some []
 | .sl m rows=>match m==n with
   | true=>some rows
   | false=>none
 | .osl j=>match Zf S.ss j with
   | some L=>match L.n==n with
     | true=>some L.rows
     | false=>none
   | none=>none
 | _=>none
inductive ERes where
 | t (n:Nat)
 | c (t:Nat) (n:Option Nat)
def cRes (P:Program):List ResultVar→Option (List ERes)
 | []=>some []
 | .tmp t::l=>(cRes P l).map (.t t :: ·)
 | .cell t T::l=>match Z4 P T,cRes P l with
   | some n,some r=>some (.c t n::r)
   | _,_=>none
def resL (S:St):List ERes→Option (List AV)
 | []=>some []
 | .t n::l=>(resL S l).map (Zd S.tm n :: ·)
 | .c t none::l=>match Zu S (Zd S.tm t) 1,resL S l with
   | some r,some q=>some (Zd r 0::q)
   | _,_=>none
 | .c t (some n)::l=>match Zu S (Zd S.tm t) n,resL S l with
   | some r,some q=>some (.agg r::q)
   | _,_=>none
def resV (S:St) (rs:List ERes):Option AV:=
 match resL S rs with
 | some [x]=>some x
 | some l=>some (.tup l)
 | none=>none
def lun:Nat→List AV
 | 0=>[]
 | n+1=>.un::lun n
def St.init (args:List AV) (n:Nat):St:=⟨args++lun n,[],[]⟩
def bget:List Bool→Nat→Bool
 | [],_=>true
 | b::_,0=>b
 | _::l,n+1=>bget l n
def bgf:List Bool→Nat→Bool
 | [],_=>false
 | b::_,0=>b
 | _::l,n+1=>bgf l n
def Z31:List Bool→Nat→List Bool
 | [],_=>[]
 | _::l,0=>true::l
 | b::l,n+1=>b::Z31 l n
def Z41 (ld:List Bool):List Nat→Bool
 | []=>true
 | j::l=>Z2 (bgf ld j) (Z41 ld l)
def rdy (ld:List Bool):List (List Nat)→Nat→List Nat
 | [],_=>[]
 | w::af,at_=>match bget ld at_ with
   | true=>rdy ld af (at_+1)
   | false=>match Z41 ld w with
     | true=>at_::rdy ld af (at_+1)
     | false=>rdy ld af (at_+1)
def memN (i:Nat):List Nat→Bool
 | []=>false
 | j::l=>match i==j with
   | true=>true
   | false=>memN i l
def Z51:List (List Nat)→Nat→List Nat
 | [],_=>[]
 | x::_,0=>x
 | _::l,n+1=>Z51 l n
def Z61:List EOp→Nat→EOp
 | [],_=>⟨none,none,.bad⟩
 | x::_,0=>x
 | _::l,n+1=>Z61 l n
end NX
end Go.Proofs.YthlodgjekbidcaaGreat
/-
  The symbolic machine, sound over the model: relations between abstract and real states. No statement of the seat is proved here.
-/
namespace Go.Proofs.YthlodgjekbidcaaGreat
namespace NX
open Go Go.RowKit
theorem Z71 (a b:Bool):Z2 a b=true↔a=true∧b=true:=by cases a<;>simp [Z2]
theorem Z81:∀a b:Nat,Z3 a b=true↔a≤b
 | 0,b=>by simp [Z3]
 | a+1,0=>by simp [Z3]
 | a+1,b+1=>by simp [Z3,Z81 a b]
theorem Z91 {α:Type} (l:List α):Zj l=l.length:=by induction l<;>simp_all [Zj]
theorem Za1 (l:List AV) (d:Nat) (v:AV) (t:Nat):Zd (Ze l d v) t=if t=d∧d<l.length then v else Zd l t:=by
 induction l generalizing d t with
 | nil=>simp [Ze]
 | cons x l ih=>
   cases d with
   | zero=>cases t<;>simp [Ze,Zd]
   | succ d=>cases t with
     | zero=>simp [Ze,Zd]
     | succ t=>simp [Ze,Zd,ih]
theorem Zb1 (l:List AV) (d:Nat) (v:AV):(Ze l d v).length=l.length:=by
 induction l generalizing d with
 | nil=>rfl
 | cons x l ih=>cases d<;>simp [Ze,ih]
theorem oget_eq {α:Type} (l:List (Option α)) (j:Nat) (b:α):Zf l j=some b↔l[j]?=some (some b):=by
 induction l generalizing j with
 | nil=>simp [Zf]
 | cons x l ih=>cases j<;>simp [Zf,ih]
theorem Zc1 {α:Type} (l:List (Option α)) (x:Option α) (j:Nat):Zf (l++[x]) j=if j=l.length then x else Zf l j:=by
 induction l generalizing j with
 | nil=>cases j<;>simp [Zf]
 | cons y l ih=>cases j<;>simp [Zf,ih]
theorem Zd1 {α:Type} (l:List (Option α)) (d:Nat) (v:Option α) (j:Nat):Zf (Zg l d v) j=if j=d∧d<l.length then v else Zf l j:=by
 induction l generalizing d j with
 | nil=>simp [Zg]
 | cons x l ih=>
   cases d with
   | zero=>cases j<;>simp [Zg,Zf]
   | succ d=>cases j with
     | zero=>simp [Zg,Zf]
     | succ j=>simp [Zg,Zf,ih]
theorem Ze1 {α:Type} (l:List (Option α)) (d:Nat) (v:Option α):(Zg l d v).length=l.length:=by
 induction l generalizing d with
 | nil=>rfl
 | cons x l ih=>cases d<;>simp [Zg,ih]
theorem Zf1 {α:Type} {l:List (Option α)} {j:Nat} {b:α} (h:Zf l j=some b):j<l.length:=by
 rw [oget_eq] at h
 exact (List.getElem?_eq_some_iff.1 h).1
theorem ltk_eq:∀ {n:Nat} {l r:List AV},ltk n l=some r→r=l.take n∧n≤l.length
 | 0,l,r,h=>by simp [ltk] at h;simp [h]
 | n+1,[],r,h=>by simp [ltk] at h
 | n+1,x::l,r,h=>by
   simp only [ltk,Option.map_eq_some_iff] at h
   obtain ⟨r',hr,rfl⟩:=h
   obtain ⟨h1,h2⟩:=ltk_eq hr
   simp [h1];omega
theorem ldr_eq:∀ {n:Nat} {l r:List AV},ldr n l=some r→r=l.drop n∧n≤l.length
 | 0,l,r,h=>by simp [ldr] at h;simp [h]
 | n+1,[],r,h=>by simp [ldr] at h
 | n+1,x::l,r,h=>by
   obtain ⟨h1,h2⟩:=ldr_eq (n:=n) (l:=l) h
   simp [h1];omega
theorem Zg1 {l:List AV} {o n:Nat} {r:List AV} (h:Zh l o n=some r):r=(l.drop o).take n∧o+n≤l.length:=by
 unfold Zh at h
 split at h
 ·rename_i r' hr
  obtain ⟨rfl,h1⟩:=ldr_eq hr
  obtain ⟨rfl,h2⟩:=ltk_eq h
  refine ⟨rfl,?_⟩
  simp at h2;omega
 ·simp at h
theorem lwr_eq:∀ {l vs r:List AV},lwr l vs=some r→r=vs++l.drop vs.length∧vs.length≤l.length
 | l,[],r,h=>by simp [lwr] at h;simp [h]
 | [],_::_,r,h=>by simp [lwr] at h
 | _::l,v::vs,r,h=>by
   simp only [lwr,Option.map_eq_some_iff] at h
   obtain ⟨r',hr,rfl⟩:=h
   obtain ⟨h1,h2⟩:=lwr_eq hr
   simp [h1];omega
theorem Zh1:∀ {o:Nat} {l vs r:List AV},Zi l o vs=some r→r=l.take o++vs++l.drop (o+vs.length)∧o+vs.length≤l.length
 | 0,l,vs,r,h=>by
   rw [Zi] at h
   obtain ⟨h1,h2⟩:=lwr_eq h
   simp [h1];omega
 | o+1,[],vs,r,h=>by simp [Zi] at h
 | o+1,x::l,vs,r,h=>by
   simp only [Zi,Option.map_eq_some_iff] at h
   obtain ⟨r',hr,rfl⟩:=h
   obtain ⟨h1,h2⟩:=Zh1 hr
   rw [h1,show o+1+vs.length=(o+vs.length)+1 from by omega]
   simp;omega
theorem Zi1 {M:Mem}:∀ {l:List AV} {vs:List Value},AV.isL M l vs→vs.length=l.length
 | [],_,h=>by simp [AV.isL] at h;simp [h]
 | _::_,_,h=>by
   obtain ⟨v,r,rfl,_,hr⟩:=h
   simp [Zi1 hr]
theorem isL_get {M:Mem}:∀ {l:List AV} {vs:List Value} (_:AV.isL M l vs) (k:Nat) (x:AV) (v:Value),l[k]?=some x→vs[k]?=some v→x.is M v
 | [],_,_,k,x,v,h1,_=>by simp at h1
 | _::_,_,h,k,x,v,h1,h2=>by
   obtain ⟨u,r,rfl,hu,hr⟩:=h
   cases k with
   | zero=>simp at h1 h2;subst h1;subst h2;exact hu
   | succ k=>exact isL_get hr k x v (by simpa using h1) (by simpa using h2)
theorem isL_mk {M:Mem}:∀ {l:List AV} {vs:List Value},l.length=vs.length→(∀(k:Nat) (x:AV) (v:Value),l[k]?=some x→vs[k]?=some v→x.is M v)→AV.isL M l vs
 | [],[],_,_=>rfl
 | [],_::_,h,_=>by simp at h
 | _::_,[],h,_=>by simp at h
 | x::l,v::vs,h,hk=>⟨v,vs,rfl,hk 0 x v (by simp) (by simp),isL_mk (by simpa using h) (fun k y u h1 h2=>hk (k+1) y u (by simpa using h1) (by simpa using h2))⟩
theorem Zj1 {M:Mem} {a b:List AV} {x y:List Value} (h:AV.isL M a x) (k:AV.isL M b y):AV.isL M (a++b) (x++y):=by
 induction a generalizing x with
 | nil=>simp [AV.isL] at h;subst h;simpa using k
 | cons u a ih=>obtain ⟨v,r,rfl,hv,hr⟩:=h;exact ⟨v,r++y,rfl,hv,ih hr⟩
theorem Zk1 {M:Mem} {a:List AV} {x:List Value} (n:Nat) (h:AV.isL M a x):AV.isL M (a.take n) (x.take n):=by
 induction a generalizing x n with
 | nil=>simp [AV.isL] at h;subst h;simp [AV.isL]
 | cons u a ih=>
   obtain ⟨v,r,rfl,hv,hr⟩:=h
   cases n with
   | zero=>simp [AV.isL]
   | succ n=>exact ⟨v,r.take n,by simp,hv,ih n hr⟩
theorem Zl1 {M:Mem} {a:List AV} {x:List Value} (n:Nat) (h:AV.isL M a x):AV.isL M (a.drop n) (x.drop n):=by
 induction a generalizing x n with
 | nil=>simp [AV.isL] at h;subst h;simp [AV.isL]
 | cons u a ih=>
   obtain ⟨v,r,rfl,hv,hr⟩:=h
   cases n with
   | zero=>exact ⟨v,r,rfl,hv,hr⟩
   | succ n=>simpa using ih n hr
structure Mem.le (M M':Mem):Prop where
 nb:M.nb≤M'.nb
 ns:M.ns≤M'.ns
 ρ:∀j,j<M.nb→M'.ρ j=M.ρ j
 σ:∀j,j<M.ns→M'.σ j=M.σ j
 H:∀k o,M.H k=some o→M'.H k=some o
theorem Mem.le.refl (M:Mem):M.le M:=⟨Nat.le_refl _,Nat.le_refl _,fun _ _=>rfl,fun _ _=>rfl,fun _ _ h=>h⟩
theorem Mem.le.trans {A B C:Mem} (h:A.le B) (k:B.le C):A.le C:=
 ⟨Nat.le_trans h.nb k.nb,Nat.le_trans h.ns k.ns,fun j hj=>(k.ρ j (Nat.lt_of_lt_of_le hj h.nb)).trans (h.ρ j hj),fun j hj=>(k.σ j (Nat.lt_of_lt_of_le hj h.ns)).trans (h.σ j hj),fun _ _ x=>k.H _ _ (h.H _ _ x)⟩
theorem Mem.le.pure {A B:Mem} (h:A.le B):A.pure.le B.pure:=⟨Nat.le_refl _,Nat.le_refl _,fun _ _=>rfl,fun _ _=>rfl,h.H⟩
theorem Mem.le.sl {A B:Mem} (h:A.le B):A.sl.le B.sl:=⟨Nat.le_refl _,h.ns,fun _ _=>rfl,h.σ,h.H⟩
theorem Zm1 (M:Mem):M.pure.le M.sl:=⟨Nat.le_refl _,Nat.zero_le _,fun _ _=>rfl,fun _ h=>absurd h (Nat.not_lt_zero _),fun _ _ h=>h⟩
theorem sl_le (M:Mem):M.sl.le M:=⟨Nat.zero_le _,Nat.le_refl _,fun _ h=>absurd h (Nat.not_lt_zero _),fun _ _=>rfl,fun _ _ h=>h⟩
theorem Zn1 (M:Mem):M.pure.le M:=⟨Nat.zero_le _,Nat.zero_le _,fun _ h=>absurd h (Nat.not_lt_zero _),fun _ h=>absurd h (Nat.not_lt_zero _),fun _ _ h=>h⟩
theorem Z1.mono {H H':Frag} (h:∀k o,H k=some o→H' k=some o) {a:Addr} {vs:List Value} (k:Z1 H a vs):Z1 H' a vs:=
 let ⟨h1,h2,cs,T,fr,h3,h4⟩:=k;⟨h1,h2,cs,T,fr,h _ _ h3,h4⟩
mutual
theorem Zo1 {M M':Mem} (h:M.le M'):∀(x:AV) (v:Value),x.is M v→x.is M' v
 | .any,_,_=>trivial
 | .un,_,k=>k
 | .tt,_,k=>k
 | .ff,_,k=>k
 | .bv _,_,k=>k
 | .iv _,_,k=>k
 | .kv _ _,_,k=>k
 | .sv _,_,k=>k
 | .nl,_,k=>k
 | .nlp,_,k=>k
 | .fn _,_,k=>k
 | .ptr j off,x,k=>⟨Nat.lt_of_lt_of_le k.1 h.nb,by rw [h.ρ j k.1];exact k.2⟩
 | .osl j,x,k=>⟨Nat.lt_of_lt_of_le k.1 h.ns,by rw [h.σ j k.1];exact k.2⟩
 | .oel j a off,x,k=>⟨Nat.lt_of_lt_of_le k.1 h.ns,by rw [h.σ j k.1];exact k.2⟩
 | .ocs j a n off,x,k=>⟨Nat.lt_of_lt_of_le k.1 h.ns,by rw [h.σ j k.1];exact k.2⟩
 | .elt row off,x,⟨a,vs,h1,h2,h3⟩=>⟨a,vs,h1,Zp1 h.pure row vs h2,h3.mono h.H⟩
 | .sl n rows,x,⟨a,c,h1,h2,h3⟩=>⟨a,c,h1,h2,fun hne=>let ⟨ad,vss,g1,g2,g3⟩:=h3 hne;⟨ad,vss,g1,Zq1 h.pure n rows vss g2,g3.mono h.H⟩⟩
 | .agg l,x,⟨vs,h1,h2⟩=>⟨vs,h1,Zp1 h l vs h2⟩
 | .tup l,x,⟨vs,h1,h2⟩=>⟨vs,h1,Zp1 h l vs h2⟩
 | .clo f l,x,⟨vs,h1,h2⟩=>⟨vs,h1,Zp1 h l vs h2⟩
theorem Zp1 {M M':Mem} (h:M.le M'):∀(l:List AV) (vs:List Value),AV.isL M l vs→AV.isL M' l vs
 | [],_,k=>k
 | x::l,_,⟨v,r,h1,h2,h3⟩=>⟨v,r,h1,Zo1 h x v h2,Zp1 h l r h3⟩
theorem Zq1 {M M':Mem} (h:M.le M') (n:Nat):∀(l:List (List AV)) (vs:List (List Value)),AV.isLL M n l vs→AV.isLL M' n l vs
 | [],_,k=>k
 | x::l,_,⟨v,r,h1,h0,h2,h3⟩=>⟨v,r,h1,h0,Zp1 h x v h2,Zq1 h n l r h3⟩
end
theorem zav_is (M:Mem) (v:Value):(zav v).is M v:=by
 unfold zav
 split<;>simp [AV.is]
theorem Zr1 (M:Mem) (vs:List Value):AV.isL M (vs.map zav) vs:=
 isL_mk (by simp) fun k x v h1 h2=>by
  rw [List.getElem?_map,h2] at h1
  simp at h1;subst h1;exact zav_is M v
theorem one_is {M:Mem} {v:Value}:∀ {x:AV},x.is M v→x.one=true→(∀j,x = .osl j→(M.σ j).oneCell'=true)→v.oneCell'=true
 | .any,_,k,_ | .un,_,k,_ | .agg _,_,k,_ | .tup _,_,k,_=>by simp [AV.one] at k
 | .tt,h,_,_ | .ff,h,_,_ | .bv _,h,_,_ | .iv _,h,_,_ | .kv _ _,h,_,_ | .sv _,h,_,_ | .nl,h,_,_ | .nlp,h,_,_ | .fn _,h,_,_=>by
   simp only [AV.is] at h;subst h;rfl
 | .ptr _ _,h,_,_=>by simp only [AV.is] at h;rw [h.2];rfl
 | .osl j,h,_,hs=>by simp only [AV.is] at h;rw [h.2];exact hs j rfl
 | .oel _ _ _,h,_,_=>by simp only [AV.is] at h;obtain ⟨_,_,_,_,_,h⟩:=h;rw [h];rfl
 | .ocs _ _ _ _,h,_,_=>by simp only [AV.is] at h;obtain ⟨_,_,_,_,_,h⟩:=h;rw [h];rfl
 | .elt _ _,h,_,_=>by simp only [AV.is] at h;obtain ⟨_,_,h,_⟩:=h;rw [h];rfl
 | .sl _ _,h,_,_=>by simp only [AV.is] at h;obtain ⟨_,_,h,_⟩:=h;rw [h];rfl
 | .clo _ _,h,_,_=>by simp only [AV.is] at h;obtain ⟨_,h,_⟩:=h;rw [h];rfl
mutual
theorem pu_is {M:Mem}:∀(x:AV) (v:Value),x.is M v→x.pu=true→x.is M.pure v
 | .any,_,_,_=>trivial
 | .un,_,k,_=>k
 | .tt,_,k,_=>k
 | .ff,_,k,_=>k
 | .bv _,_,k,_=>k
 | .iv _,_,k,_=>k
 | .kv _ _,_,k,_=>k
 | .sv _,_,k,_=>k
 | .nl,_,k,_=>k
 | .nlp,_,k,_=>k
 | .fn _,_,k,_=>k
 | .ptr _ _,_,_,h=>by simp [AV.pu] at h
 | .osl _,_,_,h=>by simp [AV.pu] at h
 | .oel _ _ _,_,_,h=>by simp [AV.pu] at h
 | .ocs _ _ _ _,_,_,h=>by simp [AV.pu] at h
 | .elt _ _,_,k,_=>k
 | .sl _ _,_,k,_=>k
 | .agg l,_,⟨vs,h1,h2⟩,h=>⟨vs,h1,Zs1 l vs h2 (by simpa [AV.pu] using h)⟩
 | .tup l,_,⟨vs,h1,h2⟩,h=>⟨vs,h1,Zs1 l vs h2 (by simpa [AV.pu] using h)⟩
 | .clo _ l,_,⟨vs,h1,h2⟩,h=>⟨vs,h1,Zs1 l vs h2 (by simpa [AV.pu] using h)⟩
theorem Zs1 {M:Mem}:∀(l:List AV) (vs:List Value),AV.isL M l vs→Zo l=true→AV.isL M.pure l vs
 | [],_,k,_=>k
 | x::l,_,⟨v,r,h1,h2,h3⟩,h=>by
   simp only [Zo,Z71] at h
   exact ⟨v,r,h1,pu_is x v h2 h.1,Zs1 l r h3 h.2⟩
end
theorem ltake_eq (n:Nat) (l:List AV):ltake n l=l.take n:=by
 induction n generalizing l with
 | zero=>rfl
 | succ n ih=>cases l<;>simp [ltake,ih]
theorem ldrop_eq (n:Nat) (l:List AV):ldrop n l=l.drop n:=by
 induction n generalizing l with
 | zero=>rfl
 | succ n ih=>cases l<;>simp [ldrop,ih]
theorem chunk_is {M:Mem} (n:Nat):∀(k:Nat) (l:List AV) (vs:List Value),AV.isL M l vs→vs.length=k*n→∃vss,AV.isLL M n (Zm n k l) vss∧vss.flatten=vs
 | 0,l,vs,_,h=>⟨[],rfl,by simp at h;simp [h]⟩
 | k+1,l,vs,hl,h=>by
   have h':vs.length=k*n+n:=by rw [h,Nat.add_mul,Nat.one_mul]
   obtain ⟨vss,h1,h2⟩:=chunk_is n k (l.drop n) (vs.drop n) (Zl1 n hl) (by simp;omega)
   refine ⟨vs.take n::vss,⟨vs.take n,vss,rfl,by simp;omega,by rw [ltake_eq];exact Zk1 n hl,by rw [ldrop_eq];exact h1⟩,?_⟩
   rw [List.flatten_cons,h2,List.take_append_drop]
theorem Zt1 (n:Nat):∀(k:Nat) (l:List AV),(Zm n k l).length=k
 | 0,_=>rfl
 | k+1,l=>by simp [Zm,Zt1 n k]
theorem own_one' {w:World} {b e sz n:Nat} {v:Value} {xs:List Value} (h:w.ownsRow b e sz v n xs):v.oneCell'=true:=by
 rcases h.2 with ⟨h,_⟩ | ⟨_,_,_,h,_⟩<;>rw [h]<;>rfl
structure Ctx where
 P:Program
 w0:World
 H0:Frag
 bor:Nat→Prop
 np:Nat
 pb:Nat→Nat
 nq:Nat
 ps:Nat→Value
structure Pin (c:Ctx) (M:Mem):Prop where
 nb:c.np≤M.nb
 ρ:∀j,j<c.np→M.ρ j=c.pb j
 ns:c.nq≤M.ns
 σ:∀j,j<c.nq→M.σ j=c.ps j
 gl:Glob c.P M.H
theorem Pin.le {c:Ctx} {M M':Mem} (h:Pin c M) (k:M.le M'):Pin c M':=
 ⟨Nat.le_trans h.nb k.nb,fun j hj=>(k.ρ j (Nat.lt_of_lt_of_le hj h.nb)).trans (h.ρ j hj),Nat.le_trans h.ns k.ns,fun j hj=>(k.σ j (Nat.lt_of_lt_of_le hj h.ns)).trans (h.σ j hj),h.gl.mono k.H⟩
def Mine (c:Ctx) (g:Nat):Prop:=c.w0.heap.size≤g∨c.bor g
structure RelS (c:Ctx) (M:Mem) (bs:List (Option Blk)) (ss:List (Option Sl)) (w:World):Prop where
 nb:M.nb=bs.length
 ns:M.ns=ss.length
 so:∀j,j<M.ns→(M.σ j).oneCell'=true
 os:w.os=c.w0.os
 tape:w.tape=c.w0.tape
 output:w.output=c.w0.output
 size:c.w0.heap.size≤w.heap.size
 block:∀k,k<c.w0.heap.size→¬c.bor k→w.heap[k]?=c.w0.heap[k]?
 hle:∀k o,M.H k=some o→w.heap[k]?=some o
 hold:∀k,k<c.w0.heap.size→¬c.bor k→M.H k=c.H0 k
 blk:∀j B,Zf bs j=some B→Mine c (M.ρ j)∧M.H (M.ρ j)=none∧
  ∃vs:List Value,AV.isL M B.cells vs∧w.heap[M.ρ j]?=some (.cells vs.toArray B.T (0,0))∧∀v∈vs,v.oneCell'=true
 slc:∀j L,Zf ss j=some L→0<L.n∧∃vss:List (List Value),AV.isLL M.sl L.n L.rows vss∧(∀v∈vss.flatten,v.oneCell'=true)∧
  w.ownsRow 0 L.T L.n (M.σ j) L.rows.length vss.flatten∧∀g,(M.σ j).ownBlock=some g→Mine c g∧M.H g=none
 d1:∀i j B C,Zf bs i=some B→Zf bs j=some C→M.ρ i=M.ρ j→i=j
 d2:∀i j B L,Zf bs i=some B→Zf ss j=some L→(M.σ j).ownBlock≠some (M.ρ i)
 d3:∀i j L N g,Zf ss i=some L→Zf ss j=some N→(M.σ i).ownBlock=some g→(M.σ j).ownBlock=some g→i=j
 pin:Pin c M
structure RelT (c:Ctx) (M:Mem) (S:St) (a:Act) (w:World):Prop where
 len:S.tm.length≤a.tmps.size
 tm:∀t,(Zd S.tm t).is M (a.tmps.getD t undef)
 df:a.defers=[]
 st:RelS c M S.bs S.ss w
section
variable {c:Ctx} {M:Mem} {bs:List (Option Blk)} {ss:List (Option Sl)} {w:World} {a:Act} {S:St}
theorem RelS.blk_lt (h:RelS c M bs ss w) {j:Nat} {B:Blk} (hj:Zf bs j=some B):M.ρ j<w.heap.size:=by
 obtain ⟨_,_,vs,_,hv,_⟩:=h.blk j B hj
 exact (Array.getElem?_eq_some_iff.1 hv).1
theorem RelS.slc_lt (h:RelS c M bs ss w) {j:Nat} {L:Sl} (hj:Zf ss j=some L) {g:Nat} (hg:(M.σ j).ownBlock=some g):g<w.heap.size:=by
 obtain ⟨_,vss,_,_,ho,_⟩:=h.slc j L hj
 exact (World.ownsRow.lt ho g hg).2
theorem RelS.Hnew (h:RelS c M bs ss w) {k:Nat} (hk:w.heap.size≤k):M.H k=none:=by
 cases hh:M.H k with
 | none=>rfl
 | some o=>
   have:=h.hle k o hh
   have:=(Array.getElem?_eq_some_iff.1 this).1
   omega
def Mem.addB (M:Mem) (g:Nat):Mem:= {M with ρ:=fun j=>if j=M.nb then g else M.ρ j,nb:=M.nb+1}
theorem Mem.le_addB (M:Mem) (g:Nat):M.le (M.addB g):=
 ⟨Nat.le_succ _,Nat.le_refl _,fun _ hj=>if_neg (Nat.ne_of_lt hj),fun _ _=>rfl,fun _ _ h=>h⟩
theorem Zu1 (w:World) (o:Obj) (k:Nat):(w.alloc o).heap[k]?=if k=w.heap.size then some o else w.heap[k]?:=by
 show (w.heap.push o)[k]?=_
 rw [Array.getElem?_push]
theorem RelS.alloc (h:RelS c M bs ss w) (T:Nat) (cells:List AV) (vs:List Value) (hc:AV.isL M cells vs) (h1:∀v∈vs,v.oneCell'=true):
  RelS c (M.addB w.heap.size) (bs++[some ⟨T,cells⟩]) ss (w.alloc (.cells vs.toArray T)):=by
 have hle:=Mem.le_addB M w.heap.size
 have hρ:∀j,j<M.nb→(M.addB w.heap.size).ρ j=M.ρ j:=hle.ρ
 have hρ':(M.addB w.heap.size).ρ bs.length=w.heap.size:=by simp [Mem.addB,h.nb]
 have old:∀j B,Zf (bs++[some (⟨T,cells⟩:Blk)]) j=some B→(j<bs.length∧Zf bs j=some B)∨(j=bs.length∧B=⟨T,cells⟩):=by
  intro j B hj
  rw [Zc1] at hj
  split at hj
  ·rename_i e
   right;exact ⟨e,by simpa using hj.symm⟩
  ·left;exact ⟨Zf1 hj,hj⟩
 refine ⟨by simp [Mem.addB,h.nb],h.ns,h.so,h.os,h.tape,h.output,?_,?_,?_,h.hold,?_,?_,?_,?_,h.d3,h.pin.le hle⟩
 ·have:=h.size;show _≤(w.heap.push _).size;simp;omega
 ·intro k hk hb
  rw [Zu1,if_neg (by have:=h.size;omega)]
  exact h.block k hk hb
 ·intro k o hk
  have:=h.hle k o hk
  have hl:=(Array.getElem?_eq_some_iff.1 this).1
  rw [Zu1,if_neg (by omega)]
  exact this
 ·intro j B hj
  rcases old j B hj with ⟨hl,hj⟩ | ⟨rfl,rfl⟩
  ·rw [hρ j (by rw [h.nb];exact hl)]
   obtain ⟨g1,g2,us,g3,g4,g5⟩:=h.blk j B hj
   refine ⟨g1,g2,us,Zp1 hle _ _ g3,?_,g5⟩
   rw [Zu1,if_neg (by have:=h.blk_lt hj;omega)]
   exact g4
  ·rw [hρ']
   refine ⟨.inl h.size,h.Hnew (Nat.le_refl _),vs,Zp1 hle _ _ hc,?_,h1⟩
   rw [Zu1,if_pos rfl]
 ·intro j L hj
  obtain ⟨g0,vss,g1,g2,g3,g4⟩:=h.slc j L hj
  exact ⟨g0,vss,g1,g2,World.ownsRow.alloc g3 _,g4⟩
 ·intro i j B C hi hj e
  rcases old i B hi with ⟨hl,hi⟩ | ⟨rfl,rfl⟩<;>rcases old j C hj with ⟨hl',hj⟩ | ⟨rfl,rfl⟩
  ·rw [hρ i (by rw [h.nb];exact hl),hρ j (by rw [h.nb];exact hl')] at e
   exact h.d1 i j B C hi hj e
  ·rw [hρ i (by rw [h.nb];exact hl),hρ'] at e
   have:=h.blk_lt hi;omega
  ·rw [hρ j (by rw [h.nb];exact hl'),hρ'] at e
   have:=h.blk_lt hj;omega
  ·rfl
 ·intro i j B L hi hj
  rcases old i B hi with ⟨hl,hi⟩ | ⟨rfl,rfl⟩
  ·rw [hρ i (by rw [h.nb];exact hl)]
   exact h.d2 i j B L hi hj
  ·rw [hρ']
   intro e
   have:=h.slc_lt hj e;omega
def Mem.addS (M:Mem) (v:Value):Mem:= {M with σ:=fun j=>if j=M.ns then v else M.σ j,ns:=M.ns+1}
theorem Mem.le_addS (M:Mem) (v:Value):M.le (M.addS v):=
 ⟨Nat.le_refl _,Nat.le_succ _,fun _ _=>rfl,fun _ hj=>if_neg (Nat.ne_of_lt hj),fun _ _ h=>h⟩
theorem RelS.name (h:RelS c M bs ss w) (L:Sl) (v:Value) (vss:List (List Value)) (h0:0<L.n) (h1:AV.isLL M.sl L.n L.rows vss) (h2:∀v∈vss.flatten,v.oneCell'=true)
  (h3:w.ownsRow 0 L.T L.n v L.rows.length vss.flatten) (h4:∀g,v.ownBlock=some g→Mine c g∧M.H g=none)
  (h5:∀i B,Zf bs i=some B→v.ownBlock≠some (M.ρ i)) (h6:∀j N g,Zf ss j=some N→v.ownBlock=some g→(M.σ j).ownBlock≠some g):
  RelS c (M.addS v) bs (ss++[some L]) w:=by
 have hσ:∀j,j<M.ns→(M.addS v).σ j=M.σ j:=(Mem.le_addS M v).σ
 have hσ':(M.addS v).σ ss.length=v:=by simp [Mem.addS,h.ns]
 have old:∀j N,Zf (ss++[some L]) j=some N→(j<M.ns∧Zf ss j=some N)∨(j=ss.length∧N=L):=by
  intro j B hj
  rw [Zc1] at hj
  split at hj
  ·rename_i e
   right;exact ⟨e,by simpa using hj.symm⟩
  ·left;exact ⟨by rw [h.ns];exact Zf1 hj,hj⟩
 refine ⟨h.nb,by simp [Mem.addS,h.ns],?_,h.os,h.tape,h.output,h.size,h.block,h.hle,h.hold,?_,?_,h.d1,?_,?_,h.pin.le (Mem.le_addS M v)⟩
 ·intro j hj
  simp only [Mem.addS] at hj ⊢
  split
  ·exact own_one' h3
  ·exact h.so j (by omega)
 ·intro j B hj
  obtain ⟨g1,g2,vs,g3,g4⟩:=h.blk j B hj
  exact ⟨g1,g2,vs,Zp1 (Mem.le_addS M v) _ _ g3,g4⟩
 ·intro j N hj
  rcases old j N hj with ⟨hl,hj⟩ | ⟨rfl,rfl⟩
  ·rw [hσ j hl]
   obtain ⟨q0,us,q1,q2,q3,q4⟩:=h.slc j N hj
   exact ⟨q0,us,Zq1 (Mem.le_addS M v).sl _ _ _ q1,q2,q3,q4⟩
  ·rw [hσ'];exact ⟨h0,vss,Zq1 (Mem.le_addS M v).sl _ _ _ h1,h2,h3,h4⟩
 ·intro i j B N hi hj
  rcases old j N hj with ⟨hl,hj⟩ | ⟨rfl,rfl⟩
  ·rw [hσ j hl];exact h.d2 i j B N hi hj
  ·rw [hσ'];exact h5 i B hi
 ·intro i j N O g hi hj e1 e2
  rcases old i N hi with ⟨hl,ki⟩ | ⟨ei,_⟩<;>rcases old j O hj with ⟨hl',kj⟩ | ⟨ej,_⟩
  ·rw [hσ i hl] at e1;rw [hσ j hl'] at e2;exact h.d3 i j N O g ki kj e1 e2
  ·rw [hσ i hl] at e1;rw [ej,hσ'] at e2;exact absurd e1 (h6 i N g ki e2)
  ·rw [hσ j hl'] at e2;rw [ei,hσ'] at e1;exact absurd e2 (h6 j O g kj e1)
  ·rw [ei,ej]
theorem Zv1 (w:World) (g:Nat) (cs:Array Value) (k:Nat):(w.setRow g cs).heap[k]?=if k=g then (w.heap[k]?).map (fun | .cells _ e f=>.cells cs e f | o=>o) else w.heap[k]?:=by
 simp only [World.setRow,Array.getElem?_modify]
 by_cases hk:g=k
 ·subst hk
  simp only [if_true]
  congr 1
 ·rw [if_neg hk,if_neg (fun e=>hk e.symm)]
theorem RelS.write (h:RelS c M bs ss w) {j:Nat} {B:Blk} (hj:Zf bs j=some B) (cells:List AV) (vs:List Value) (hc:AV.isL M cells vs) (h1:∀v∈vs,v.oneCell'=true):
  RelS c M (Zg bs j (some ⟨B.T,cells⟩)) ss (w.setRow (M.ρ j) vs.toArray):=by
 have hlt:=Zf1 hj
 obtain ⟨m1,m2,us,m3,m4,m5⟩:=h.blk j B hj
 have old:∀i C,Zf (Zg bs j (some (⟨B.T,cells⟩:Blk))) i=some C→(i≠j∧Zf bs i=some C)∨(i=j∧C=⟨B.T,cells⟩):=by
  intro i C hi
  rw [Zd1] at hi
  split at hi
  ·rename_i e
   right;exact ⟨e.1,by simpa using hi.symm⟩
  ·rename_i e
   left;exact ⟨fun e'=>e ⟨e',hlt⟩,hi⟩
 have live:∀i C,Zf (Zg bs j (some (⟨B.T,cells⟩:Blk))) i=some C→∃C',Zf bs i=some C':=by
  intro i C hi
  rcases old i C hi with ⟨_,hi⟩ | ⟨rfl,_⟩
  ·exact ⟨_,hi⟩
  ·exact ⟨_,hj⟩
 have hsz:(w.setRow (M.ρ j) vs.toArray).heap.size=w.heap.size:=by simp [World.setRow]
 refine ⟨by rw [Ze1];exact h.nb,h.ns,h.so,h.os,h.tape,h.output,by rw [hsz];exact h.size,?_,?_,h.hold,?_,?_,?_,?_,h.d3,h.pin⟩
 ·intro k hk hb
  rw [Zv1,if_neg]
  ·exact h.block k hk hb
  ·rintro rfl
   rcases m1 with m1 | m1
   ·omega
   ·exact hb m1
 ·intro k o hk
  rw [Zv1,if_neg]
  ·exact h.hle k o hk
  ·rintro rfl
   rw [m2] at hk;simp at hk
 ·intro i C hi
  rcases old i C hi with ⟨hne,hi⟩ | ⟨rfl,rfl⟩
  ·obtain ⟨g1,g2,xs,g3,g4,g5⟩:=h.blk i C hi
   refine ⟨g1,g2,xs,g3,?_,g5⟩
   rw [Zv1,if_neg (fun e=>hne (h.d1 i j C B hi hj e))]
   exact g4
  ·refine ⟨m1,m2,vs,hc,?_,h1⟩
   rw [Zv1,if_pos rfl,m4]
   rfl
 ·intro i L hi
  obtain ⟨g0,vss,g1,g2,g3,g4⟩:=h.slc i L hi
  refine ⟨g0,vss,g1,g2,?_,g4⟩
  have hg:w.grownBy (w.setRow (M.ρ j) vs.toArray) (some (M.ρ j)):=⟨rfl,rfl,rfl,by rw [hsz];exact Nat.le_refl _,fun k _ hk=>by rw [Zv1,if_neg (fun e=>hk (by rw [e]))]⟩
  exact World.ownsRow.kept g3 hg (.inr (h.d2 j i B L hj hi))
 ·intro i k C D hi hk e
  obtain ⟨C',hi'⟩:=live i C hi
  obtain ⟨D',hk'⟩:=live k D hk
  exact h.d1 i k C' D' hi' hk' e
 ·intro i k C L hi hk
  obtain ⟨C',hi'⟩:=live i C hi
  exact h.d2 i k C' L hi' hk
theorem RelS.grow (h:RelS c M bs ss w) {w':World} (hb:Below w.heap.size w w'):RelS c M bs ss w':=
 ⟨h.nb,h.ns,h.so,hb.os.trans h.os,hb.tape.trans h.tape,hb.output.trans h.output,Nat.le_trans h.size hb.size,
   fun k hk hn=>(hb.block k (Nat.lt_of_lt_of_le hk h.size)).trans (h.block k hk hn),
   fun k o hk=>(hb.block k ((Array.getElem?_eq_some_iff.1 (h.hle k o hk)).1)).trans (h.hle k o hk),
   h.hold,
   fun j B hj=>let ⟨g1,g2,vs,g3,g4,g5⟩:=h.blk j B hj;⟨g1,g2,vs,g3,(hb.block _ (h.blk_lt hj)).trans g4,g5⟩,
   fun j L hj=>let ⟨g0,vss,g1,g2,g3,g4⟩:=h.slc j L hj;⟨g0,vss,g1,g2,World.ownsRow.kept g3 (row:=none) ⟨hb.os,hb.tape,hb.output,hb.size,fun k hk _=>hb.block k hk⟩ (by
    cases hown:(M.σ j).ownBlock with
    | none=>exact .inl rfl
    | some g=>exact .inr (by simp)),g4⟩,
   h.d1,h.d2,h.d3,h.pin⟩
theorem RelS.drew (h:RelS c M bs ss w):RelS c M bs ss w.drew:=
 ⟨h.nb,h.ns,h.so,h.os,h.tape,h.output,h.size,h.block,h.hle,h.hold,h.blk,h.slc,h.d1,h.d2,h.d3,h.pin⟩
end
end NX
end Go.Proofs.YthlodgjekbidcaaGreat
/-
  The symbolic machine, sound over the model: its operations and its run. No statement of the seat is proved here.
-/
namespace Go.Proofs.YthlodgjekbidcaaGreat
namespace NX
open Go Go.RowKit
inductive RIt where
 | code (c:Code)
 | ops (all:Array Oper) (l:List Oper)
 | blk (id:Nat)
 | lp (x:Code) (n:Nat)
 | sc (x:Code)
def Jumps (P:Program) (x:Code) (Q:Exit→Act→World→Prop) (e:Exit) (a:Act) (w:World):Prop:=
 ∀T:Exit→Act→World→Prop,(∀e a w,(∀l,e≠ .goto l)→Q e a w→T e a w)→(∀l rest a w,findLabel x l=some rest→rest.wp P T a w→T (.goto l) a w)→T e a w
theorem Zw1 {P:Program} {x:Code} {Q:Exit→Act→World→Prop} {e:Exit} {a:Act} {w:World} (he:∀l,e≠ .goto l) (h:Q e a w):Jumps P x Q e a w:=fun _ h1 _=>h1 e a w he h
theorem Jumps_go {P:Program} {x rest:Code} {Q:Exit→Act→World→Prop} {l:Nat} {a:Act} {w:World} (hf:findLabel x l=some rest) (h:rest.wp P (Jumps P x Q) a w):Jumps P x Q (.goto l) a w:=
 fun T h1 h2=>h2 l rest a w hf (wp_mono h fun _ _ _ hj=>hj T h1 h2)
theorem wp_scope_J {P:Program} {x:Code} {Q:Exit→Act→World→Prop} {a:Act} {w:World} (h:x.wp P (Jumps P x Q) a w):(Code.scope x).wp P Q a w:=by
 intro b k cs
 obtain ⟨e,a₁,w₁,hj,harr⟩:=h b (.inScope x::k) cs
 have:=hj (fun e a w=>∃e' a' w',Q e' a' w'∧∀s,Arrives P s b (.inScope x::k) cs e a w→Arrives P s b k cs e' a' w') (fun e a w he hq=>by
  refine ⟨e,a,w,hq,fun s hs=>?_⟩
  cases e with
  | normal=>exact Steps.trans hs (.one step_inScope)
  | exit id=>exact fun k' hk=>hs k' (by simp [exitTo,hk])
  | goto l=>exact absurd rfl (he l)
  | ret=>exact hs
  | panic ch=>exact hs
  | outgrown=>exact hs) (fun l rest a w hf hw=>by
  have hg:gotoIn l (.inScope x::k)=some (.code rest :: .inScope x::k):=by simp [gotoIn,hf]
  obtain ⟨e2,a2,w2,⟨e',a',w',hq,ht⟩,harr2⟩:=hw b (.inScope x::k) cs
  exact ⟨e',a',w',hq,fun s hs=>.of_steps (hs _ hg) (ht _ harr2)⟩)
 obtain ⟨e',a',w',hq,ht⟩:=this
 exact ⟨e',a',w',hq,.of_steps (.one step_scope) (ht _ harr)⟩
def Zx1 (P:Program) (fn:Func) (R:Ending→World→Prop):List RIt→Exit→Act→World→Prop
 | [],e,a,w=>bodyPost P fn R e a w
 | .code x::k,.normal,a,w=>x.wp P (Zx1 P fn R k) a w
 | .ops all l::k,.normal,a,w=>wpList P all (Zx1 P fn R k) l a w
 | .lp x n::k,.normal,a,w=>Code.rounds P x (Zx1 P fn R k) n a w
 | .blk _::k,.normal,a,w=>Zx1 P fn R k .normal a w
 | .blk id::k,.exit j,a,w=>if j=id then Zx1 P fn R k .normal a w else Zx1 P fn R k (.exit j) a w
 | .sc x::k,e,a,w=>Jumps P x (Zx1 P fn R k) e a w
 | _::k,e,a,w=>Zx1 P fn R k e a w
def CompIt (P:Program):It→RIt→Prop
 | .code e,.code x=>cC P x=some e
 | .ops l,.ops all rl=>rl.mapM (Za P all)=some l
 | .blk i,.blk j=>i=j
 | .lp e n,.lp x m=>cC P x=some e∧n=m
 | .sc e,.sc x=>cC P x=some e
 | _,_=>False
def CompL (P:Program):List It→List RIt→Prop
 | [],rk=>rk=[]
 | x::k,rk=>∃y r,rk=y::r∧CompIt P x y∧CompL P k r
def RK (c:Ctx) (K:AV→List (Option Blk)→List (Option Sl)→Prop):Ending→World→Prop:=
 fun e w=>∃v M bs ss x,e = .returned v∧RelS c M bs ss w∧AV.is M x v∧K x bs ss
def V (c:Ctx) (fn:Func) (K:AV→List (Option Blk)→List (Option Sl)→Prop) (k:List It) (S:St):Prop:=
 ∀rk M a w,CompL c.P k rk→RelT c M S a w→Zx1 c.P fn (RK c K) rk .normal a w
theorem cC_skip {P:Program} {x:Code} (h:cC P x=some .skip):x = .skip:=by
 cases x<;>simp [cC] at h<;>try rfl
 all_goals (first | ((repeat' (split at h))<;>simp at h;done) | (obtain ⟨_,_,h⟩:=h;split at h<;>simp at h;done))
theorem cC_seq {P:Program} {x:Code} {a b:EC} (h:cC P x=some (.seq a b)):∃y z,x = .seq y z∧cC P y=some a∧cC P z=some b:=by
 cases x<;>simp [cC] at h
 case seq y z=>
  split at h<;>simp at h
  rename_i h1 h2
  exact ⟨y,z,rfl,h.1 ▸ h1,h.2 ▸ h2⟩
 all_goals (first | ((repeat' (split at h))<;>simp at h;done) | (obtain ⟨_,_,h⟩:=h;split at h<;>simp at h;done))
theorem cC_ite {P:Program} {x:Code} {o:X} {a b:EC} (h:cC P x=some (.ite o a b)):∃q y z,x = .cond q y z∧cX q=o∧cC P y=some a∧cC P z=some b:=by
 cases x<;>simp [cC] at h
 case cond q y z=>
  split at h<;>simp at h
  rename_i h1 h2
  exact ⟨q,y,z,rfl,h.1,h.2.1 ▸ h1,h.2.2 ▸ h2⟩
 all_goals (first | ((repeat' (split at h))<;>simp at h;done) | (obtain ⟨_,_,h⟩:=h;split at h<;>simp at h;done))
theorem cC_blk {P:Program} {x:Code} {id:Nat} {a:EC} (h:cC P x=some (.blk id a)):∃y,x = .block id y∧cC P y=some a:=by
 cases x<;>simp [cC] at h
 case block i y=>obtain ⟨h1,rfl⟩:=h;exact ⟨y,rfl,h1⟩
 all_goals (first | ((repeat' (split at h))<;>simp at h;done) | (obtain ⟨_,_,h⟩:=h;split at h<;>simp at h;done))
theorem cC_loop {P:Program} {x:Code} {a:EC} (h:cC P x=some (.loop a)):∃y,x = .loop y∧cC P y=some a:=by
 cases x<;>simp [cC] at h
 case loop y=>exact ⟨y,rfl,h⟩
 all_goals (first | ((repeat' (split at h))<;>simp at h;done) | (obtain ⟨_,_,h⟩:=h;split at h<;>simp at h;done))
theorem cC_exit {P:Program} {x:Code} {id:Nat} (h:cC P x=some (.exit id)):x = .exit id:=by
 cases x<;>simp [cC] at h
 case exit i=>rw [h]
 all_goals (first | ((repeat' (split at h))<;>simp at h;done) | (obtain ⟨_,_,h⟩:=h;split at h<;>simp at h;done))
theorem cC_scope {P:Program} {x:Code} {a:EC} (h:cC P x=some (.scope a)):∃y,x = .scope y∧cC P y=some a:=by
 cases x<;>simp [cC] at h
 case scope y=>exact ⟨y,rfl,h⟩
 all_goals (first | ((repeat' (split at h))<;>simp at h;done) | (obtain ⟨_,_,h⟩:=h;split at h<;>simp at h;done))
theorem cC_label {P:Program} {x:Code} {l:Nat} (h:cC P x=some (.label l)):x = .label l:=by
 cases x<;>simp [cC] at h
 case label i=>rw [h]
 all_goals (first | ((repeat' (split at h))<;>simp at h;done) | (obtain ⟨_,_,h⟩:=h;split at h<;>simp at h;done))
theorem cC_goto {P:Program} {x:Code} {l:Nat} (h:cC P x=some (.goto l)):x = .goto l:=by
 cases x<;>simp [cC] at h
 case goto i=>rw [h]
 all_goals (first | ((repeat' (split at h))<;>simp at h;done) | (obtain ⟨_,_,h⟩:=h;split at h<;>simp at h;done))
theorem efl_none {P:Program} {l:Nat}:∀(x:Code) {e:EC},cC P x=some e→Zv e l=none→findLabel x l=none:=by
 intro x
 induction x with
 | seq y z ihy ihz=>
   intro e hx hn
   simp only [cC] at hx
   split at hx
   ·rename_i a b ha hb
    simp at hx;subst hx
    simp only [Zv] at hn
    split at hn
    ·simp at hn
    ·rename_i hq
     simp only [findLabel,ihy ha hq,ihz hb hn]
   ·simp at hx
 | label j=>
   intro e hx hn
   simp only [cC,Option.some.injEq] at hx
   subst hx
   simp only [Zv] at hn
   split at hn
   ·simp at hn
   ·rename_i hj;simp [findLabel,hj]
 | _=>intros;simp [findLabel]
theorem efl_spec {P:Program} {l:Nat}:∀ {e:EC} {x:Code} {r:EC},cC P x=some e→Zv e l=some r→∃rest,findLabel x l=some rest∧cC P rest=some r
 | .seq a b,x,r,hx,hr=>by
   obtain ⟨y,z,rfl,hy,hz⟩:=cC_seq hx
   simp only [Zv] at hr
   split at hr
   ·rename_i q hq
    obtain ⟨rest,h1,h2⟩:=efl_spec hy hq
    simp at hr;subst hr
    exact ⟨.seq rest z,by simp [findLabel,h1],by simp [cC,h2,hz]⟩
   ·rename_i hq
    have hn:findLabel y l=none:=efl_none y hy hq
    obtain ⟨rest,h1,h2⟩:=efl_spec hz hr
    exact ⟨rest,by simp [findLabel,hn,h1],h2⟩
 | .label j,x,r,hx,hr=>by
   rw [cC_label hx]
   simp only [Zv] at hr
   split at hr
   ·rename_i hj
    simp at hr;subst hr
    exact ⟨.skip,by simp [findLabel,hj],by simp [cC]⟩
   ·simp at hr
 | .skip,_,_,_,hr=>by simp [Zv] at hr
 | .reg _,_,_,_,hr=>by simp [Zv] at hr
 | .drw _ _ _,_,_,_,hr=>by simp [Zv] at hr
 | .ite _ _ _,_,_,_,hr=>by simp [Zv] at hr
 | .blk _ _,_,_,_,hr=>by simp [Zv] at hr
 | .loop _,_,_,_,hr=>by simp [Zv] at hr
 | .exit _,_,_,_,hr=>by simp [Zv] at hr
 | .scope _,_,_,_,hr=>by simp [Zv] at hr
 | .goto _,_,_,_,hr=>by simp [Zv] at hr
 | .ret,_,_,_,hr=>by simp [Zv] at hr
 | .bad,_,_,_,hr=>by simp [Zv] at hr
theorem cC_ret {P:Program} {x:Code} (h:cC P x=some .ret):x = .ret:=by
 cases x<;>simp [cC] at h<;>try rfl
 all_goals (first | ((repeat' (split at h))<;>simp at h;done) | (obtain ⟨_,_,h⟩:=h;split at h<;>simp at h;done))
theorem cC_region {P:Program} {id:Nat} {ops:Array Oper} {dr:Bool} {e:EC} (h:cC P (.region id ops dr)=some e):
  ∃l,ops.toList.mapM (Za P ops)=some l∧((dr=false∧e = .reg l)∨(dr=true∧Region.noSelect ops=true∧e = .drw l (Zb ops) (Zc ops))∨e = .bad):=by
 simp only [cC] at h
 split at h
 ·rename_i l hl
  refine ⟨l,hl,?_⟩
  split at h
  ·split at h
   ·rename_i hs
    simp at h;exact .inr (.inl ⟨rfl,hs,h.symm⟩)
   ·simp at h;exact .inr (.inr h.symm)
  ·simp at h;exact .inl ⟨rfl,h.symm⟩
 ·simp at h
theorem cC_reg {P:Program} {x:Code} {l:List EOp} (h:cC P x=some (.reg l)):∃id ops,x = .region id ops false∧ops.toList.mapM (Za P ops)=some l:=by
 cases x
 case region id ops dr=>
  obtain ⟨l',h1,h2⟩:=cC_region h
  rcases h2 with ⟨rfl,h2⟩ | ⟨_,_,h2⟩ | h2
  ·simp at h2;subst h2;exact ⟨id,ops,rfl,h1⟩
  ·simp at h2
  ·simp at h2
 all_goals (simp [cC] at h)
 all_goals (first | ((repeat' (split at h))<;>simp at h;done) | (obtain ⟨_,_,h⟩:=h;split at h<;>simp at h;done))
theorem cC_drw {P:Program} {x:Code} {l:List EOp} {af nap:List (List Nat)} (h:cC P x=some (.drw l af nap)):
  ∃id ops,x = .region id ops true∧ops.toList.mapM (Za P ops)=some l∧Region.noSelect ops=true∧af=Zb ops∧nap=Zc ops:=by
 cases x
 case region id ops dr=>
  obtain ⟨l',h1,h2⟩:=cC_region h
  rcases h2 with ⟨_,h2⟩ | ⟨rfl,hs,h2⟩ | h2
  ·simp at h2
  ·simp at h2;obtain ⟨rfl,rfl,rfl⟩:=h2;exact ⟨id,ops,rfl,h1,hs,rfl,rfl⟩
  ·simp at h2
 all_goals (simp [cC] at h)
 all_goals (first | ((repeat' (split at h))<;>simp at h;done) | (obtain ⟨_,_,h⟩:=h;split at h<;>simp at h;done))
theorem mapM_cons {α β:Type} {f:α→Option β} {l:List α} {o:β} {r:List β} (h:l.mapM f=some (o::r)):∃x l',l=x::l'∧f x=some o∧l'.mapM f=some r:=by
 cases l with
 | nil=>simp at h
 | cons x l'=>
   simp only [List.mapM_cons,Option.bind_eq_bind,Option.bind_eq_some_iff] at h
   obtain ⟨o',h1,r',h2,h3⟩:=h
   simp at h3
   exact ⟨x,l',rfl,h3.1 ▸ h1,h3.2 ▸ h2⟩
theorem mapM_nil {α β:Type} {f:α→Option β} {l:List α} (h:l.mapM f=some []):l=[]:=by
 cases l with
 | nil=>rfl
 | cons x l'=>
   simp only [List.mapM_cons,Option.bind_eq_bind,Option.bind_eq_some_iff] at h
   obtain ⟨o',h1,r',h2,h3⟩:=h
   simp at h3
section
variable {c:Ctx} {fn:Func} {K:AV→List (Option Blk)→List (Option Sl)→Prop} {k:List It} {S:St}
theorem Zy1 {e:EC} (h:∀x,cC c.P x=some e→∀rk M a w,CompL c.P k rk→RelT c M S a w→x.wp c.P (Zx1 c.P fn (RK c K) rk) a w):V c fn K (.code e::k) S:=by
 rintro rk M a w ⟨y,r,rfl,hy,hr⟩ hT
 cases y with
 | code x=>exact h x hy r M a w hr hT
 | ops _ _=>exact hy.elim
 | blk _=>exact hy.elim
 | lp _ _=>exact hy.elim
 | sc _=>exact hy.elim
theorem V_skip (h:V c fn K k S):V c fn K (.code .skip::k) S:=
 Zy1 fun x hx rk M a w hr hT=>by rw [cC_skip hx];exact wp_skip (h rk M a w hr hT)
theorem V_seq {a b:EC} (h:V c fn K (.code a :: .code b::k) S):V c fn K (.code (.seq a b)::k) S:=
 Zy1 fun x hx rk M s w hr hT=>by
  obtain ⟨y,z,rfl,hy,hz⟩:=cC_seq hx
  refine wp_seq (wp_mono (h (.code y :: .code z::rk) M s w ⟨_,_,rfl,hy,_,_,rfl,hz,hr⟩ hT) ?_)
  intro e a w hq
  cases e<;>exact hq
theorem V_blk {id:Nat} {a:EC} (h:V c fn K (.code a :: .blk id::k) S):V c fn K (.code (.blk id a)::k) S:=
 Zy1 fun x hx rk M s w hr hT=>by
  obtain ⟨y,rfl,hy⟩:=cC_blk hx
  refine wp_block (wp_mono (h (.code y :: .blk id::rk) M s w ⟨_,_,rfl,hy,_,_,rfl,rfl,hr⟩ hT) ?_)
  intro e a w hq
  cases e<;>exact hq
theorem V_scope {a:EC} (h:V c fn K (.code a :: .sc a::k) S):V c fn K (.code (.scope a)::k) S:=
 Zy1 fun x hx rk M s w hr hT=>by
  obtain ⟨y,rfl,hy⟩:=cC_scope hx
  refine wp_scope_J (wp_mono (h (.code y :: .sc y::rk) M s w ⟨_,_,rfl,hy,_,_,rfl,hy,hr⟩ hT) ?_)
  intro e a w hq
  cases e<;>exact hq
theorem V_label {l:Nat} (h:V c fn K k S):V c fn K (.code (.label l)::k) S:=
 Zy1 fun x hx rk M s w hr hT=>by
  rw [cC_label hx]
  exact wp_label (h rk M s w hr hT)
theorem V_sc {e:EC} (h:V c fn K k S):V c fn K (.sc e::k) S:=by
 rintro rk M a w ⟨y,r,rfl,hy,hr⟩ hT
 cases y with
 | code x=>exact hy.elim
 | ops _ _=>exact hy.elim
 | blk _=>exact hy.elim
 | lp _ _=>exact hy.elim
 | sc _=>exact Zw1 (by simp) (h r M a w hr hT)
theorem Zz1 {P:Program} {l:Nat} {R:Ending→World→Prop}:∀ {k k':List It} {rk:List RIt},gun l k=some k'→CompL P k rk→
  ∃rk',CompL P k' rk'∧∀a w,Zx1 P fn R rk' .normal a w→Zx1 P fn R rk (.goto l) a w
 | [],k',rk,h,_=>by simp [gun] at h
 | .sc e::k,k',rk,h,⟨y,r,hrk,hy,hr⟩=>by
   subst hrk
   cases y with
   | code x=>exact hy.elim
   | ops all l=>exact hy.elim
   | blk i=>exact hy.elim
   | lp _ _=>exact hy.elim
   | sc x=>
     simp only [gun] at h
     split at h
     ·rename_i q hq
      simp at h;subst h
      obtain ⟨rest,h1,h2⟩:=efl_spec hy hq
      refine ⟨.code rest :: .sc x::r,⟨_,_,rfl,h2,_,_,rfl,hy,hr⟩,fun a w hc=>Jumps_go h1 (wp_mono hc ?_)⟩
      intro e a w hq
      cases e<;>exact hq
     ·simp at h
 | .blk j::k,k',rk,h,⟨y,r,hrk,hy,hr⟩=>by
   subst hrk
   simp only [gun] at h
   obtain ⟨rk',h1,h2⟩:=Zz1 h hr
   cases y with
   | blk i=>exact ⟨rk',h1,fun a w hc=>h2 a w hc⟩
   | code x=>exact hy.elim
   | ops all l=>exact hy.elim
   | lp _ _=>exact hy.elim
   | sc _=>exact hy.elim
 | .code _::k,k',rk,h,⟨y,r,hrk,hy,hr⟩=>by
   subst hrk
   simp only [gun] at h
   obtain ⟨rk',h1,h2⟩:=Zz1 h hr
   cases y with
   | code x=>exact ⟨rk',h1,fun a w hc=>h2 a w hc⟩
   | ops all l=>exact hy.elim
   | blk i=>exact hy.elim
   | lp _ _=>exact hy.elim
   | sc _=>exact hy.elim
 | .ops _::k,k',rk,h,⟨y,r,hrk,hy,hr⟩=>by
   subst hrk
   simp only [gun] at h
   obtain ⟨rk',h1,h2⟩:=Zz1 h hr
   cases y with
   | code x=>exact hy.elim
   | ops all l=>exact ⟨rk',h1,fun a w hc=>h2 a w hc⟩
   | blk i=>exact hy.elim
   | lp _ _=>exact hy.elim
   | sc _=>exact hy.elim
 | .lp _ _::k,k',rk,h,⟨y,r,hrk,hy,hr⟩=>by
   subst hrk
   simp only [gun] at h
   obtain ⟨rk',h1,h2⟩:=Zz1 h hr
   cases y with
   | code x=>exact hy.elim
   | ops all l=>exact hy.elim
   | blk i=>exact hy.elim
   | lp _ _=>exact ⟨rk',h1,fun a w hc=>h2 a w hc⟩
   | sc _=>exact hy.elim
theorem V_goto {l:Nat} {k':List It} (hu:gun l k=some k') (h:V c fn K k' S):V c fn K (.code (.goto l)::k) S:=
 Zy1 fun x hx rk M s w hr hT=>by
  rw [cC_goto hx]
  obtain ⟨rk',h1,h2⟩:=Zz1 (fn:=fn) (R:=RK c K) hu hr
  exact wp_goto (h2 _ _ (h rk' M s w h1 hT))
theorem V_pop {id:Nat} (h:V c fn K k S):V c fn K (.blk id::k) S:=by
 rintro rk M a w ⟨y,r,rfl,hy,hr⟩ hT
 cases y with
 | code x=>exact hy.elim
 | ops _ _=>exact hy.elim
 | blk _=>exact h r M a w hr hT
 | lp _ _=>exact hy.elim
 | sc _=>exact hy.elim
theorem V_ops_nil (h:V c fn K k S):V c fn K (.ops []::k) S:=by
 rintro rk M a w ⟨y,r,rfl,hy,hr⟩ hT
 cases y with
 | code x=>exact hy.elim
 | ops all l=>
   have:=mapM_nil hy
   subst this
   exact h r M a w hr hT
 | blk _=>exact hy.elim
 | lp _ _=>exact hy.elim
 | sc _=>exact hy.elim
theorem V_reg {l:List EOp} (h:V c fn K (.ops l::k) S):V c fn K (.code (.reg l)::k) S:=
 Zy1 fun x hx rk M s w hr hT=>by
  obtain ⟨id,ops,rfl,hy⟩:=cC_reg hx
  exact wp_region_list (h (.ops ops ops.toList::rk) M s w ⟨_,_,rfl,hy,hr⟩ hT)
theorem Z02 {P:Program} {id:Nat} {R:Ending→World→Prop}:∀ {k k':List It} {rk:List RIt},unw id k=some k'→CompL P k rk→
  ∃rk',CompL P k' rk'∧∀a w,Zx1 P fn R rk' .normal a w→Zx1 P fn R rk (.exit id) a w
 | [],k',rk,h,_=>by simp [unw] at h
 | .blk j::k,k',rk,h,⟨y,r,hrk,hy,hr⟩=>by
   subst hrk
   cases y with
   | code x=>exact hy.elim
   | ops all l=>exact hy.elim
   | blk i=>
     have:j=i:=hy
     subst this
     simp only [unw] at h
     split at h
     ·rename_i hj
      rw [beq_iff_eq] at hj
      simp at h;subst h
      exact ⟨r,hr,fun a w hc=>by simp only [Zx1,hj,if_true];exact hc⟩
     ·rename_i hj
      have hj:¬j=id:=fun e=>by rw [beq_iff_eq.2 e] at hj;simp at hj
      obtain ⟨rk',h1,h2⟩:=Z02 h hr
      exact ⟨rk',h1,fun a w hc=>by simp only [Zx1];rw [if_neg (fun e=>hj e.symm)];exact h2 a w hc⟩
   | lp _ _=>exact hy.elim
   | sc _=>exact hy.elim
 | .code _::k,k',rk,h,⟨y,r,hrk,hy,hr⟩=>by
   subst hrk
   simp only [unw] at h
   obtain ⟨rk',h1,h2⟩:=Z02 h hr
   cases y with
   | code x=>exact ⟨rk',h1,fun a w hc=>h2 a w hc⟩
   | ops all l=>exact hy.elim
   | blk i=>exact hy.elim
   | lp _ _=>exact hy.elim
   | sc _=>exact hy.elim
 | .ops _::k,k',rk,h,⟨y,r,hrk,hy,hr⟩=>by
   subst hrk
   simp only [unw] at h
   obtain ⟨rk',h1,h2⟩:=Z02 h hr
   cases y with
   | code x=>exact hy.elim
   | ops all l=>exact ⟨rk',h1,fun a w hc=>h2 a w hc⟩
   | blk i=>exact hy.elim
   | lp _ _=>exact hy.elim
   | sc _=>exact hy.elim
 | .lp _ _::k,k',rk,h,⟨y,r,hrk,hy,hr⟩=>by
   subst hrk
   simp only [unw] at h
   obtain ⟨rk',h1,h2⟩:=Z02 h hr
   cases y with
   | code x=>exact hy.elim
   | ops all l=>exact hy.elim
   | blk i=>exact hy.elim
   | lp _ _=>exact ⟨rk',h1,fun a w hc=>h2 a w hc⟩
   | sc _=>exact hy.elim
 | .sc _::k,k',rk,h,⟨y,r,hrk,hy,hr⟩=>by
   subst hrk
   simp only [unw] at h
   obtain ⟨rk',h1,h2⟩:=Z02 h hr
   cases y with
   | code x=>exact hy.elim
   | ops all l=>exact hy.elim
   | blk i=>exact hy.elim
   | lp _ _=>exact hy.elim
   | sc _=>exact ⟨rk',h1,fun a w hc=>Zw1 (by simp) (h2 a w hc)⟩
theorem V_exit {id:Nat} {k':List It} (hu:unw id k=some k') (h:V c fn K k' S):V c fn K (.code (.exit id)::k) S:=
 Zy1 fun x hx rk M s w hr hT=>by
  rw [cC_exit hx]
  obtain ⟨rk',h1,h2⟩:=Z02 (fn:=fn) (R:=RK c K) hu hr
  exact wp_exit (h2 _ _ (h rk' M s w h1 hT))
theorem Z12 {M:Mem} {a:Act} {w:World} (hT:RelT c M S a w) (o:Operand):(S.x (cX o)).is M (a.eval o):=by
 cases o with
 | tmp t=>exact hT.tm t
 | const v=>exact zav_is M v
 | global g=>trivial
 | func f=>simp [cX,St.x,AV.is,AV.isL,Act.eval]
theorem V_tt {o:X} {a b:EC} (hx:S.x o = .tt) (h:V c fn K (.code a::k) S):V c fn K (.code (.ite o a b)::k) S:=
 Zy1 fun x hc rk M s w hr hT=>by
  obtain ⟨q,y,z,rfl,rfl,hy,hz⟩:=cC_ite hc
  have hq:=Z12 hT q
  rw [hx] at hq
  exact wp_cond_true hq (h (.code y::rk) M s w ⟨_,_,rfl,hy,hr⟩ hT)
theorem V_ff {o:X} {a b:EC} (hx:S.x o = .ff) (h:V c fn K (.code b::k) S):V c fn K (.code (.ite o a b)::k) S:=
 Zy1 fun x hc rk M s w hr hT=>by
  obtain ⟨q,y,z,rfl,rfl,hy,hz⟩:=cC_ite hc
  have hq:=Z12 hT q
  rw [hx] at hq
  exact wp_cond_false hq (h (.code z::rk) M s w ⟨_,_,rfl,hz,hr⟩ hT)
theorem V_ite {o:X} {a b:EC} {e:Bool} (hx:S.x o = .bv e) (h1:e=true→V c fn K (.code a::k) S) (h2:e=false→V c fn K (.code b::k) S):V c fn K (.code (.ite o a b)::k) S:=
 Zy1 fun x hc rk M s w hr hT=>by
  obtain ⟨q,y,z,rfl,rfl,hy,hz⟩:=cC_ite hc
  have hq:=Z12 hT q
  rw [hx] at hq
  refine wp_cond_split hq (fun e=>h1 e (.code y::rk) M s w ⟨_,_,rfl,hy,hr⟩ hT) (fun e=>h2 e (.code z::rk) M s w ⟨_,_,rfl,hz,hr⟩ hT)
end
end NX
end Go.Proofs.YthlodgjekbidcaaGreat
/-
  The symbolic machine: structs compared. No statement of the seat is proved here.
-/
namespace Go.Proofs.YthlodgjekbidcaaGreat
namespace NX
open Go Go.RowKit
section
variable {P:Program} {w:World}
theorem aggN_one {T:TypeId} (h:Z4 P T=some none):(isAgg T).run P w = .ok false w:=by
 unfold Z4 at h
 split at h<;>simp at h
 rename_i d i hu hi hn1 hn2
 simp only [isAgg,Sem.run_bind,run_underlying hn1,Result.andThen_ok]
 cases d<;>first | rfl | (exact absurd rfl (hu _)) | (exact absurd rfl (hi _ _))
theorem Z22 {T:TypeId} {n:Nat} (h:Z4 P T=some (some n)):(isAgg T).run P w = .ok true w∧(sizeOf T).run P w = .ok n w:=by
 unfold Z4 at h
 split at h<;>simp at h
 ·rename_i i hu hi
  subst h
  simp [isAgg,run_underlying hu,sizeOf,typeInfo,hi]
 ·rename_i i hu hi
  subst h
  simp [isAgg,run_underlying hu,sizeOf,typeInfo,hi]
theorem Z32 {T:TypeId} {n:Nat} (h:Z6 P T=some n):(sizeOf T).run P w = .ok n w:=by
 unfold Z6 at h
 cases hi:P.info? T with
 | none=>simp [hi] at h
 | some i=>simp [hi] at h;subst h;simp [sizeOf,typeInfo,hi]
end
def okLeaf:Bool→Value→Prop
 | true,v=>∃n,v = .int .i64 n
 | false,v=>∃b,v = .bool b
def Z42:List Bool→List Value→Prop
 | [],vs=>vs=[]
 | k::ks,vs=>∃v r,vs=v::r∧okLeaf k v∧Z42 ks r
def vEq:Value→Value→Bool
 | .int _ a,.int _ b=>a==b
 | .bool a,.bool b=>a==b
 | _,_=>false
def Z52:List Value→List Value→Bool
 | x::l,y::r=>vEq x y&&Z52 l r
 | _,_=>true
theorem Z62:∀ {ks:List Bool} {vs:List Value},Z42 ks vs→vs.length=ks.length
 | [],_,h=>by simp [Z42] at h;simp [h]
 | _::_,_,⟨v,r,h0,_,h⟩=>by subst h0;simp [Z62 h]
theorem Z72:∀ {a b:List Bool} {vs:List Value},Z42 (a++b) vs→Z42 a (vs.take a.length)∧Z42 b (vs.drop a.length)
 | [],b,vs,h=>by simpa [Z42] using h
 | _::a,b,_,⟨v,r,h0,h1,h⟩=>by
   subst h0
   obtain ⟨g1,g2⟩:=Z72 h
   exact ⟨⟨v,r.take a.length,by simp,h1,g1⟩,by simpa using g2⟩
theorem Z82:∀(n:Nat) (x y:List Value),x.length=y.length→Z52 x y=(Z52 (x.take n) (y.take n)&&Z52 (x.drop n) (y.drop n))
 | 0,x,y,_=>by simp [Z52]
 | n+1,[],[],_=>by simp [Z52]
 | n+1,[],_::_,h=>by simp at h
 | n+1,_::_,[],h=>by simp at h
 | n+1,x::l,y::r,h=>by simp [Z52,Z82 n l r (by simpa using h),Bool.and_assoc]
theorem Z92 {P:Program} {w:World} {D:Nat} {g:TypeId→Option (List Bool)}
  (hg:∀T ks,g T=some ks→∀(xs ys:List Value),Z42 ks xs→Z42 ks ys→∀(A B:List Value) (o:Nat),(A.drop o).take ks.length=xs→(B.drop o).take ks.length=ys→
    ∃u v,(part T A.toArray o).run P w = .ok u w∧(part T B.toArray o).run P w = .ok v w∧(Op.equalIn D T u v).run P w = .ok (Z52 xs ys) w):
  ∀(fs:List Field) (off:Nat) (ks:List Bool),Z8 g fs off=some ks→∀(A B:List Value),Z42 ks (A.drop off)→Z42 ks (B.drop off)→
   (Op.eqFields D A.toArray B.toArray fs).run P w = .ok (Z52 (A.drop off) (B.drop off)) w
 | [],off,ks,h,A,B,hA,hB=>by
   simp [Z8] at h;subst h
   simp [Z42] at hA hB
   have e1:A.drop off=[]:=by simpa using hA
   have e2:B.drop off=[]:=by simpa using hB
   simp [Op.eqFields,e1,e2,Z52]
 | f::fs,off,ks,h,A,B,hA,hB=>by
   simp only [Z8] at h
   split at h
   ·rename_i hf
    split at h
    ·rename_i l hl
     simp only [Option.map_eq_some_iff] at h
     obtain ⟨r,hr,rfl⟩:=h
     obtain ⟨a1,a2⟩:=Z72 hA
     obtain ⟨b1,b2⟩:=Z72 hB
     obtain ⟨u,v,r1,r2,r3⟩:=hg f.type l hl _ _ a1 b1 A B off rfl rfl
     rw [List.drop_drop] at a2 b2
     have ih:=Z92 hg fs (off+l.length) r hr A B a2 b2
     have hlen:(A.drop off).length=(B.drop off).length:=by rw [Z62 hA,Z62 hB]
     rw [Z82 l.length _ _ hlen,List.drop_drop,List.drop_drop]
     have hf1:f.name≠"_":=hf.1
     simp only [Op.eqFields,hf1,ne_eq,not_false_eq_true,if_true,Sem.run_bind,hf.2,r1,r2,r3,Result.andThen_ok]
     cases Z52 (List.take l.length (A.drop off)) (List.take l.length (B.drop off))
     ·simp
     ·simpa using ih
    ·simp at h
   ·simp at h
theorem leafs_run {P:Program} {w:World}:∀(d D:Nat),d≤D→∀T ks,Z9 P d T=some ks→∀(xs ys:List Value),Z42 ks xs→Z42 ks ys→∀(A B:List Value) (o:Nat),(A.drop o).take ks.length=xs→(B.drop o).take ks.length=ys→
   ∃u v,(part T A.toArray o).run P w = .ok u w∧(part T B.toArray o).run P w = .ok v w∧(Op.equalIn D T u v).run P w = .ok (Z52 xs ys) w
 | 0,_,_,T,ks,h=>by simp [Z9] at h
 | d+1,0,hd,_,_,_=>by omega
 | d+1,D+1,hd,T,ks,h=>by
   intro xs ys hx hy A B o hA hB
   simp only [Z9] at h
   have one:∀(C:List Value) (z:Value),(C.drop o).take 1=[z]→C[o]?=some z:=by
    intro C z hz
    have:=congrArg (·[0]?) hz
    simpa using this
   split at h
   ·rename_i k hu
    simp at h;subst h
    obtain ⟨x,r,rfl,⟨n,rfl⟩,hr⟩:=hx
    obtain ⟨y,r',rfl,⟨m,rfl⟩,hr'⟩:=hy
    simp [Z42] at hr hr';subst hr;subst hr'
    have ha:(isAgg T).run P w = .ok false w:=by simp [isAgg,run_underlying hu]
    refine ⟨.int .i64 n,.int .i64 m,?_,?_,?_⟩
    ·simp [part,ha,one A _ hA]
    ·simp [part,ha,one B _ hB]
    ·rw [run_equalIn_int w D T .i64 k n m hu];simp [Z52,vEq]
   ·rename_i hu
    simp at h;subst h
    obtain ⟨x,r,rfl,⟨n,rfl⟩,hr⟩:=hx
    obtain ⟨y,r',rfl,⟨m,rfl⟩,hr'⟩:=hy
    simp [Z42] at hr hr';subst hr;subst hr'
    have ha:(isAgg T).run P w = .ok false w:=by simp [isAgg,run_underlying hu]
    refine ⟨.bool n,.bool m,?_,?_,?_⟩
    ·simp [part,ha,one A _ hA]
    ·simp [part,ha,one B _ hB]
    ·rw [run_equalIn_bool' w D T n m hu];simp [Z52,vEq]
   ·rename_i fs hu
    split at h
    ·rename_i hs
     have hfo:P.fieldsOf T=fs:=by simp [Program.fieldsOf,hu]
     have hu':P.underlying T=some (.struct (P.fieldsOf T)):=by rw [hfo];exact hu
     split at h
     ·rename_i l hl
      split at h<;>simp at h
      rename_i hn
      subst h
      have hagg:(isAgg T).run P w = .ok true w:=by simp [isAgg,run_underlying hu]
      have hsz:=Z32 (P:=P) (w:=w) (T:=T) (n:=l.length) (by simpa using hn)
      have hxl:=Z62 hx
      have hyl:=Z62 hy
      refine ⟨.agg xs.toArray,.agg ys.toArray,?_,?_,?_⟩
      ·simp [part,hagg,hsz];rw [←hA]
      ·simp [part,hagg,hsz];rw [←hB]
      ·rw [run_equalIn_struct w D T _ _ hu' hs,hfo]
       exact Z92 (fun T ks hk=>leafs_run d D (by omega) T ks hk) fs.toList 0 l hl xs ys (by simpa using hx) (by simpa using hy)
     ·simp at h
    ·simp at h
   ·simp at h
theorem leafs_agg {P:Program} {w:World} {d D:Nat} (hd:d≤D) {T:TypeId} {fs:Array Field} {ks:List Bool} (hu:P.underlying T=some (.struct fs)) (h:Z9 P d T=some ks)
  {xs ys:List Value} (hx:Z42 ks xs) (hy:Z42 ks ys):(Op.equalIn D T (.agg xs.toArray) (.agg ys.toArray)).run P w = .ok (Z52 xs ys) w:=by
 have hxl:=Z62 hx
 have hyl:=Z62 hy
 obtain ⟨u,v,h1,h2,h3⟩:=leafs_run (P:=P) (w:=w) d D hd T ks h xs ys hx hy xs ys 0 (by simp [←hxl]) (by simp [←hyl])
 have hagg:(isAgg T).run P w = .ok true w:=by simp [isAgg,run_underlying hu]
 have hn:Z6 P T=some ks.length:=by
  cases d with
  | zero=>simp [Z9] at h
  | succ d=>
    simp only [Z9,hu] at h
    split at h
    ·split at h
     ·split at h<;>simp at h
      subst h;assumption
     ·simp at h
    ·simp at h
 have hsz:=Z32 (P:=P) (w:=w) (T:=T) (n:=ks.length) (by simpa using hn)
 simp [part,hagg,hsz] at h1
 simp [part,hagg,hsz] at h2
 rw [←hxl,List.take_length] at h1
 rw [←hyl,List.take_length] at h2
 rw [h1,h2];exact h3
theorem eqLeaf_is {M:Mem} {k:Bool} {x y:AV} {e:Bool} {u v:Value} (h:eqLeaf k x y=some e) (hx:AV.is M x u) (hy:AV.is M y v):okLeaf k u∧okLeaf k v∧vEq u v=e:=by
 cases k<;>simp only [eqLeaf] at h<;>split at h<;>simp at h
 ·rename_i a b h1 h2
  have f:∀ {x:AV} {a:Bool} {u:Value},Zt x=some a→AV.is M x u→u = .bool a:=by
   intro x a u h hx
   cases x<;>simp [Zt] at h<;>subst h<;>simpa [AV.is] using hx
  rw [f h1 hx,f h2 hy]
  exact ⟨⟨_,rfl⟩,⟨_,rfl⟩,by simp [vEq,h]⟩
 ·rename_i a b h1 h2
  have f:∀ {x:AV} {a:Int} {u:Value},intA x=some a→AV.is M x u→u = .int .i64 a:=by
   intro x a u h hx
   cases x<;>simp [intA] at h;subst h;simpa [AV.is] using hx
  rw [f h1 hx,f h2 hy]
  refine ⟨⟨_,rfl⟩,⟨_,rfl⟩,?_⟩
  rw [←h];simp only [vEq];exact Bool.eq_iff_iff.mpr (by simp)
theorem eqA_is {M:Mem}:∀ {ks:List Bool} {l r:List AV} {e:Bool} {us vs:List Value},eqA ks l r=some e→AV.isL M l us→AV.isL M r vs→Z42 ks us∧Z42 ks vs∧Z52 us vs=e
 | [],l,r,e,us,vs,h,hx,hy=>by
   simp only [eqA] at h
   split at h<;>simp at h
   simp [AV.isL] at hx hy
   simp [hx,hy,Z42,Z52,←h]
 | k::ks,l,r,e,us,vs,h,hx,hy=>by
   simp only [eqA] at h
   split at h
   ·split at h<;>simp at h
    rename_i h1 h2
    obtain ⟨u,us,rfl,hu,hx⟩:=hx
    obtain ⟨v,vs,rfl,hv,hy⟩:=hy
    obtain ⟨a1,a2,a3⟩:=eqLeaf_is h1 hu hv
    obtain ⟨b1,b2,b3⟩:=eqA_is h2 hx hy
    exact ⟨⟨_,_,rfl,a1,b1⟩,⟨_,_,rfl,a2,b2⟩,by simp [Z52,a3,b3,h]⟩
   ·simp at h
theorem eqs_run {P:Program} {w:World} {ng:Bool} {T:TypeId} {fs:Array Field} {ks:List Bool} (hu:P.underlying T=some (.struct fs)) (h:Z9 P 8 T=some ks)
  {xs ys:List Value} (hx:Z42 ks xs) (hy:Z42 ks ys) {op:BinOp} (ho:op=(if ng then .neq else .eql)):(binOp op T (.agg xs.toArray) (.agg ys.toArray)).run P w = .ok (.bool (ngB ng (Z52 xs ys))) w:=by
 subst ho
 cases ng
 ·simp [run_eql_struct,leafs_agg (D:=10000) (by omega) hu h hx hy,ngB]
 ·simp [run_neq_struct,leafs_agg (D:=10000) (by omega) hu h hx hy,ngB]
end NX
end Go.Proofs.YthlodgjekbidcaaGreat
/-
  The symbolic machine, sound over the model: each operation. No statement of the seat is proved here.
-/
namespace Go.Proofs.YthlodgjekbidcaaGreat
namespace NX
open Go Go.RowKit
section
variable {P:Program} {w:World}
theorem Za2 {T:TypeId} {z:List AV} (h:Z5 P T=some z):∃i u,P.info? T=some i∧i.zero=some u∧u.cells.size=i.size∧z=u.cells.toList.map zav:=by
 unfold Z5 at h
 cases hi:P.info? T with
 | none=>simp [hi] at h
 | some i=>
   rw [hi] at h
   dsimp only at h
   cases hu:i.zero with
   | none=>simp [hu] at h
   | some u=>
     rw [hu] at h
     dsimp only at h
     split at h
     ·rename_i e
      exact ⟨i,u,rfl,hu,e,by simpa using h.symm⟩
     ·simp at h
theorem load_run {g o:Nat} {v:Value} (h:w.cell? ⟨g,o,none⟩=some v):(load ⟨g,o,none⟩).run P w = .ok v w:=by
 show Sem.run P (Sem.load .plain _ Sem.pure) w=_
 unfold Sem.run
 rw [h]
 rfl
theorem Zb2 {T:TypeId} {g o:Nat} {v:Value} (hT:Z4 P T=some none) (h:w.cell? ⟨g,o,none⟩=some v):(loadVar T ⟨g,o,none⟩).run P w = .ok v w:=by
 simp only [loadVar,Sem.run_bind,aggN_one hT,Result.andThen_ok]
 exact load_run h
theorem Zc2 {T:TypeId} {g o n:Nat} {vs:List Value} (hT:Z4 P T=some (some n)) (hn:vs.length=n) (h:∀(j:Nat) v,vs[j]?=some v→w.cell? ⟨g,o+j,none⟩=some v):
  (loadVar T ⟨g,o,none⟩).run P w = .ok (.agg vs.toArray) w:=by
 subst hn
 have hl:=run_loadCells_list (P:=P) w ⟨g,o,none⟩ vs (fun j v hj=>by rw [Addr.add_lit];exact h j v hj)
 simp [loadVar,(Z22 hT).1,(Z22 hT).2,hl]
theorem alloc_run (T:TypeId) (i:TypeInfo) (z:Value) (hi:P.info? T=some i) (hz:i.zero=some z):
  (Instr.alloc T true (.tuple #[])).run P w = .ok (.pointer (some ⟨w.heap.size,0,none⟩)) (w.alloc (.cells z.cells T)):=by
 simp [Instr.alloc,zeroValue,typeInfo,hi,hz,newVar,newRow]
theorem box_run (T:TypeId) (v:Value):(Instr.box T v).run P w = .ok (.pointer (some ⟨w.heap.size,0,none⟩)) (w.alloc (.cells v.cells T)):=by
 simp [Instr.box,newVar,newRow]
end
theorem cell_at {M:Mem} {c:Ctx} {bs ss w} (h:RelS c M bs ss w) {a:Addr} {vs:List Value} (hc:Z1 M.H a vs) (k:Nat) (v:Value) (hk:vs[k]?=some v):w.cell? ⟨a.block,a.off+k,none⟩=some v:=by
 obtain ⟨_,_,cs,T,fr,h1,h2⟩:=hc
 have:=h.hle _ _ h1
 simp [World.cell?,this,h2 k v hk]
theorem Zd2 {M:Mem} {x:AV} {u:Value} {cs:List AV} (hs:∀j,x = .osl j→u.oneCell'=true) (hx:x.is M u) (hc:x.cells=some cs):AV.isL M cs u.cells.toList:=by
 have key:x.one=true→cs=[x]→AV.isL M cs u.cells.toList:=by
  intro h1 h2
  subst h2
  have:u.oneCell'=true:=one_is hx h1 (fun j e=>by subst e;have:=hs j rfl;rw [hx.2] at this;exact this)
  have hu:u.cells.toList=[u]:=by cases u<;>simp_all [Value.cells,Value.oneCell']
  rw [hu]
  exact ⟨u,[],rfl,hx,rfl⟩
 cases x<;>simp [AV.cells] at hc<;>first | exact key rfl hc.symm | skip
 subst hc
 obtain ⟨vs,rfl,h⟩:=hx
 simpa [Value.cells] using h
theorem Ze2 {M:Mem}:∀ {cs:List AV} {vs:List Value},AV.isL M cs vs→Zk cs=true→(∀j,j<M.ns→(M.σ j).oneCell'=true)→∀v∈vs,v.oneCell'=true
 | [],_,h,_,_,v,hv=>by simp [AV.isL] at h;subst h;simp at hv
 | x::l,_,h,h1,hs,v,hv=>by
   obtain ⟨u,r,rfl,hu,hr⟩:=h
   simp only [Zk,Z71] at h1
   rcases List.mem_cons.1 hv with rfl | hv
   ·exact one_is hu h1.1 (fun j e=>by subst e;exact hs j hu.1)
   ·exact Ze2 hr h1.2 hs v hv
def Zf2 (c:Ctx) (M:Mem) (S:St) (a:Act) (w:World) (o:Op) (v:AV) (S1:St):Prop:=
 ∀(d:Option Tmp) (ty:TypeId) (pos:String) (af:Array Edge) (g:Option (Nat×Bool)),
 ∃x M' w',((execOp a.eval ⟨d,o,ty,pos,af,g⟩).run c.P w = .ok (.value x) w'∨((execOp a.eval ⟨d,o,ty,pos,af,g⟩).run c.P w = .ok .skip w'∧x=undef))∧
  M.le M'∧RelS c M' S1.bs S1.ss w'∧S1.tm=S.tm∧v.is M' x
section
variable {c:Ctx} {M:Mem} {S S1:St} {a:Act} {w:World} {v:AV} {q:Prop}
theorem Zf2.same {o:Op} {x:Value} (hT:RelT c M S a w) (h:∀d ty pos af g,(execOp a.eval ⟨d,o,ty,pos,af,g⟩).run c.P w = .ok (.value x) w) (hv:v.is M x):Zf2 c M S a w o v S:=
 fun d ty pos af g=>⟨x,M,w,.inl (h d ty pos af g),.refl M,hT.st,rfl,hv⟩
theorem gives_move (hT:RelT c M S a w) (x:Operand):Zf2 c M S a w (.move x) (S.x (cX x)) S:=
 .same (x:=a.eval x) hT (fun _ _ _ _ _=>rfl) (Z12 hT x)
theorem gives_assign (hT:RelT c M S a w) (x:Operand):Zf2 c M S a w (.assign x) (S.x (cX x)) S:=
 .same (x:=a.eval x) hT (fun _ _ _ _ _=>rfl) (Z12 hT x)
theorem gives_pick (hT:RelT c M S a w) (x y z:Operand) (he:ev S (.pick (cX x) (cX y) (cX z))=some (v,S1,q)):Zf2 c M S a w (.pick x y z) v S1:=by
 have hx:=tf_is (Z12 hT x)
 have hy:=Z12 hT y
 have hz:=Z12 hT z
 simp only [ev] at he
 split at he<;>simp at he
 ·rename_i hx'
  obtain ⟨rfl,rfl,_⟩:=he
  rw [hx'] at hx
  refine .same (x:=a.eval y) hT (fun _ _ _ _ _=>?_) hy
  have hx2:a.eval x = .bool true:=hx
  generalize a.eval=ρ at *
  simp [execOp,hx2,asBool]
 ·rename_i hx'
  obtain ⟨rfl,rfl,_⟩:=he
  rw [hx'] at hx
  refine .same (x:=a.eval z) hT (fun _ _ _ _ _=>?_) hz
  have hx2:a.eval x = .bool false:=hx
  generalize a.eval=ρ at *
  simp [execOp,hx2,asBool]
theorem gives_alloc (hT:RelT c M S a w) (T:TypeId) (he:ev S (cO c.P (.alloc T))=some (v,S1,q)):Zf2 c M S a w (.alloc T) v S1:=by
 simp only [cO] at he
 split at he
 ·rename_i z hz
  obtain ⟨i,u,hi,hu,hsz,rfl⟩:=Za2 hz
  simp only [ev] at he
  split at he<;>simp at he
  rename_i hone
  obtain ⟨rfl,rfl,_⟩:=he
  intro d ty pos af g
  have hz:=Zr1 M u.cells.toList
  have h1:∀v∈u.cells.toList,v.oneCell'=true:=by
   intro v hv
   have:=Ze2 (Zr1 (M:=M.pure) u.cells.toList) hone (fun j hj=>absurd hj (Nat.not_lt_zero _)) v hv
   exact this
  refine ⟨.pointer (some ⟨w.heap.size,0,none⟩),M.addB w.heap.size,w.alloc (.cells u.cells T),.inl ?_,Mem.le_addB M w.heap.size,?_,rfl,?_⟩
  ·simp [execOp,alloc_run T i u hi hu]
  ·have:=hT.st.alloc T (u.cells.toList.map zav) u.cells.toList hz h1
   simpa using this
  ·rw [Z91,←hT.st.nb]
   refine ⟨Nat.lt_succ_self _,?_⟩
   simp [Mem.addB]
 ·simp [ev] at he
theorem gives_box (hT:RelT c M S a w) (T:TypeId) (x:Operand) (he:ev S (cO c.P (.box T x))=some (v,S1,q)):Zf2 c M S a w (.box T x) v S1:=by
 have hx:=Z12 hT x
 simp only [cO] at he
 split at he
 ·rename_i n hn
  simp only [ev] at he
  split at he
  ·rename_i cs hcs
   split at he<;>simp at he
   rename_i hc
   rw [Z71,beq_iff_eq] at hc
   obtain ⟨rfl,rfl,_⟩:=he
   have hl:=Zd2 (fun j e=>by rw [e] at hx;rw [hx.2];exact hT.st.so j hx.1) hx hcs
   have h1:=Ze2 hl hc.2 hT.st.so
   generalize hev:a.eval=ρ at hx hl h1
   intro d ty pos af g
   refine ⟨.pointer (some ⟨w.heap.size,0,none⟩),M.addB w.heap.size,w.alloc (.cells (ρ x).cells T),.inl ?_,Mem.le_addB M w.heap.size,?_,rfl,?_⟩
   ·rw [hev];simp [execOp,box_run]
   ·have:=hT.st.alloc T cs (ρ x).cells.toList hl h1
    simpa using this
   ·rw [Z91,←hT.st.nb]
    exact ⟨Nat.lt_succ_self _,by simp [Mem.addB]⟩
  ·simp at he
 ·simp [ev] at he
theorem Zg2 (hT:RelT c M S a w) {x:AV} {u:Value} (hx:x.is M u) {n:Nat} {l:List AV} (h:Zu S x n=some l):
  ∃g o vs,u = .pointer (some ⟨g,o,none⟩)∧AV.isL M l vs∧vs.length=n∧∀(j:Nat) v,vs[j]?=some v→w.cell? ⟨g,o+j,none⟩=some v:=by
 unfold Zu at h
 split at h
 ·rename_i j off
  split at h
  ·rename_i B hB
   obtain ⟨rfl,hle⟩:=Zg1 h
   obtain ⟨_,_,vs,g3,g4,_⟩:=hT.st.blk j B hB
   refine ⟨M.ρ j,off,(vs.drop off).take n,hx.2,Zk1 n (Zl1 off g3),by have:=Zi1 g3;simp;omega,?_⟩
   intro k v hk
   rw [List.getElem?_take] at hk
   split at hk
   ·simp at hk
    simp [World.cell?,g4,hk]
   ·simp at hk
  ·simp at h
 ·rename_i row off
  obtain ⟨rfl,hle⟩:=Zg1 h
  obtain ⟨ad,vs,rfl,h2,h3⟩:=hx
  have hm:=Zp1 (Zn1 M) _ _ h2
  refine ⟨ad.block,ad.off+off,(vs.drop off).take n,rfl,Zk1 n (Zl1 off hm),by have:=Zi1 h2;simp;omega,?_⟩
  intro k v hk
  rw [List.getElem?_take] at hk
  split at hk
  ·simp at hk
   rw [Nat.add_assoc]
   exact cell_at hT.st h3 (off+k) v hk
  ·simp at hk
 ·simp at h
theorem gives_load (hT:RelT c M S a w) (T:TypeId) (x:Operand) (he:ev S (cO c.P (.load T x))=some (v,S1,q)):Zf2 c M S a w (.load T x) v S1:=by
 have hx:=Z12 hT x
 simp only [cO] at he
 split at he
 ·rename_i hT1
  simp only [ev,Option.map_eq_some_iff] at he
  obtain ⟨l,hl,he⟩:=he
  simp at he
  obtain ⟨rfl,rfl,_⟩:=he
  obtain ⟨g,o,vs,hu,h2,h3,h4⟩:=Zg2 hT hx hl
  obtain ⟨u,rfl⟩:∃u,vs=[u]:=by
   cases vs with
   | nil=>simp at h3
   | cons u r=>cases r with
     | nil=>exact ⟨u,rfl⟩
     | cons _ _=>simp at h3
  have hc:=h4 0 u (by simp)
  refine .same (x:=u) hT (fun _ _ _ _ _=>?_) ?_
  ·generalize a.eval=ρ at *
   simp only [Nat.add_zero] at hc
   simp [execOp,hu,Instr.loadAt,Instr.sureAddr,Zb2 hT1 hc]
  ·cases l with
   | nil=>simp [AV.isL] at h2
   | cons y r=>obtain ⟨_,_,h,hy,_⟩:=h2;simp at h;obtain ⟨rfl,rfl⟩:=h;exact hy
 ·rename_i n hT1
  simp only [ev,Option.map_eq_some_iff] at he
  obtain ⟨l,hl,he⟩:=he
  simp at he
  obtain ⟨rfl,rfl,_⟩:=he
  obtain ⟨g,o,vs,hu,h2,h3,h4⟩:=Zg2 hT hx hl
  refine .same (x:=.agg vs.toArray) hT (fun _ _ _ _ _=>?_) ⟨vs,rfl,h2⟩
  generalize a.eval=ρ at *
  simp [execOp,hu,Instr.loadAt,Instr.sureAddr,Zc2 hT1 h3 h4]
 ·simp [ev] at he
theorem gives_store (hT:RelT c M S a w) (T:TypeId) (x y:Operand) (he:ev S (cO c.P (.store T x y))=some (v,S1,q)):Zf2 c M S a w (.store T x y) v S1:=by
 have hx:=Z12 hT x
 have hy:=Z12 hT y
 simp only [cO] at he
 split at he
 ·rename_i n hn
  simp only [ev] at he
  split at he
  ·rename_i j off hj
   split at he
   ·rename_i B hB
    split at he
    ·rename_i cs hcs
     split at he
     ·rename_i hc
      rw [Z71,beq_iff_eq] at hc
      simp only [Option.map_eq_some_iff] at he
      obtain ⟨l,hl,he⟩:=he
      simp at he
      obtain ⟨rfl,rfl,_⟩:=he
      obtain ⟨rfl,hle⟩:=Zh1 hl
      have hcl:=Zd2 (fun j e=>by rw [e] at hy;rw [hy.2];exact hT.st.so j hy.1) hy hcs
      have h1:=Ze2 hcl hc.2 hT.st.so
      obtain ⟨_,_,vs,g3,g4,g5⟩:=hT.st.blk j B hB
      rw [hj] at hx
      have hlen:=Zi1 hcl
      have hlen2:=Zi1 g3
      have hn':(a.eval y).cells.size=n:=by rw [←Array.length_toList,hlen,←Z91];exact hc.1
      have hst:=run_storeCells_at c.P (M.ρ j) off B.T (a.eval y).cells.toList 0 vs.toArray w g4 (by simp at hlen ⊢;omega) h1
      have hrel:=hT.st.write hB (B.cells.take off++cs++B.cells.drop (off+cs.length)) (vs.take off++(a.eval y).cells.toList++vs.drop (off+(a.eval y).cells.toList.length))
       (Zj1 (Zj1 (Zk1 off g3) hcl) (by rw [hlen];exact Zl1 _ g3))
       (by
         intro u hu
         simp only [List.mem_append] at hu
         rcases hu with (hu | hu) | hu
         ·exact g5 u (List.mem_of_mem_take hu)
         ·exact h1 u hu
         ·exact g5 u (List.mem_of_mem_drop hu))
      unfold Zf2
      generalize a.eval=ρ at *
      intro d ty pos af g
      refine ⟨undef,M,_,.inr ⟨?_,rfl⟩,.refl M,hrel,rfl,rfl⟩
      simp only [Nat.add_zero] at hst
      simp only [execOp,hx.2,Instr.storeAt,Instr.sureAddr,Sem.run_bind,Sem.run_pure,Result.andThen_ok,storeVar,Z32 hn,hn',ne_eq,not_true_eq_false,if_false]
      rw [hst]
      rfl
     ·simp at he
    ·simp at he
   ·simp at he
  ·simp at he
 ·simp [ev] at he
theorem gives_nilchk (hT:RelT c M S a w) (x:Operand) (he:ev S (.nilchk (cX x))=some (v,S1,q)):Zf2 c M S a w (.nilCheck x) v S1:=by
 have hx:=Z12 hT x
 simp only [ev] at he
 split at he<;>(try rename_i hv)<;>simp only [Option.some.injEq,Prod.mk.injEq,reduceCtorEq] at he<;>obtain ⟨rfl,rfl,rfl⟩:=he<;>rw [hv] at hx
 ·refine .same (x:=a.eval x) hT (fun _ _ _ _ _=>?_) hx
  generalize a.eval=ρ at *
  simp [execOp,hx.2]
 ·refine .same (x:=a.eval x) hT (fun _ _ _ _ _=>?_) hx
  generalize a.eval=ρ at *
  obtain ⟨_,_,h,_⟩:=hx
  simp [execOp,h]
 ·refine .same (x:=a.eval x) hT (fun _ _ _ _ _=>?_) hx
  generalize a.eval=ρ at *
  obtain ⟨_,_,_,_,_,h⟩:=hx
  simp [execOp,h]
 ·refine .same (x:=a.eval x) hT (fun _ _ _ _ _=>?_) hx
  generalize a.eval=ρ at *
  obtain ⟨_,h,_⟩:=hx
  simp [execOp,h]
theorem bin_run {P:Program} {w:World} {op:BinOp} {x y:Int} {r:AV} {p:Prop} (h:binI op x y=some (r,p)) (hp:p) (T:TypeId) (m:Mem):
  ∃u,(binOp op T (.int .i64 x) (.int .i64 y)).run P w = .ok u w∧r.is m u:=by
 cases op<;>simp only [binI,Option.some.injEq,Prod.mk.injEq,reduceCtorEq] at h<;>obtain ⟨rfl,rfl⟩:=h
 case add=>exact ⟨.int .i64 (wr (x+y)),by simp [binOp,Op.intArith,wr],rfl⟩
 case sub=>exact ⟨.int .i64 (wr (x-y)),by simp [binOp,Op.intArith,wr],rfl⟩
 case mul=>exact ⟨.int .i64 (wr (x*y)),by simp [binOp,Op.intArith,wr],rfl⟩
 case quo=>exact ⟨.int .i64 (wr (x.tdiv y)),by simp [binOp,Op.intDiv,wr,hp],rfl⟩
 case rem=>exact ⟨.int .i64 (x.tmod y),by simp [binOp,Op.intDiv,hp],rfl⟩
 case eql=>exact ⟨.bool (x==y),by simp [binOp,Op.intCmp],by simp [AV.is];rfl⟩
 case neq=>exact ⟨.bool (x != y),by simp [binOp,Op.intCmp],by simp [AV.is];rfl⟩
 case lss=>exact ⟨.bool (x<y),by simp [binOp,Op.intCmp],rfl⟩
 case leq=>exact ⟨.bool (x≤y),by simp [binOp,Op.intCmp],rfl⟩
 case gtr=>exact ⟨.bool (x>y),by simp [binOp,Op.intCmp],rfl⟩
 case geq=>exact ⟨.bool (x≥y),by simp [binOp,Op.intCmp],rfl⟩
 case shl=>exact ⟨.int .i64 (wr (x*2 ^ min y.toNat 64)),by simp [binOp,Op.shift,show ¬y<0 by omega,wr,IntKind.bits],rfl⟩
 case shr=>exact ⟨.int .i64 (x.fdiv (2 ^ min y.toNat 64)),by simp [binOp,Op.shift,show ¬y<0 by omega,IntKind.bits],rfl⟩
 case and=>exact ⟨.int .i64 (wr (BitVec.ofInt 64 x &&& BitVec.ofInt 64 y).toNat),rfl,rfl⟩
 case or=>exact ⟨.int .i64 (wr (BitVec.ofInt 64 x ||| BitVec.ofInt 64 y).toNat),rfl,rfl⟩
 case xor=>exact ⟨.int .i64 (wr (BitVec.ofInt 64 x ^^^ BitVec.ofInt 64 y).toNat),rfl,rfl⟩
theorem mkI_is {M:Mem} (k:IntKind) (n:Int):(mkI k n).is M (.int k n):=by cases k<;>rfl
theorem binK_run {P:Program} {w:World} {op:BinOp} {k:IntKind} {x y:Int} {r:AV} {p:Prop} (h:binK op k x y=some (r,p)) (hp:p) (T:TypeId) (m:Mem):
  ∃u,(binOp op T (.int k x) (.int k y)).run P w = .ok u w∧r.is m u:=by
 cases op<;>simp only [binK,Option.some.injEq,Prod.mk.injEq,reduceCtorEq] at h<;>obtain ⟨rfl,rfl⟩:=h
 case add=>exact ⟨.int k (kw k (x+y)),by simp [binOp,Op.intArith,kw],rfl⟩
 case sub=>exact ⟨.int k (kw k (x-y)),by simp [binOp,Op.intArith,kw],rfl⟩
 case mul=>exact ⟨.int k (kw k (x*y)),by simp [binOp,Op.intArith,kw],rfl⟩
 case quo=>exact ⟨.int k (kw k (x.tdiv y)),by simp [binOp,Op.intDiv,kw,hp],rfl⟩
 case rem=>exact ⟨.int k (x.tmod y),by simp [binOp,Op.intDiv,hp],rfl⟩
 case eql=>exact ⟨.bool (x==y),by simp [binOp,Op.intCmp],by simp [AV.is];rfl⟩
 case neq=>exact ⟨.bool (x != y),by simp [binOp,Op.intCmp],by simp [AV.is];rfl⟩
 case lss=>exact ⟨.bool (x<y),by simp [binOp,Op.intCmp],rfl⟩
 case leq=>exact ⟨.bool (x≤y),by simp [binOp,Op.intCmp],rfl⟩
 case gtr=>exact ⟨.bool (x>y),by simp [binOp,Op.intCmp],rfl⟩
 case geq=>exact ⟨.bool (x≥y),by simp [binOp,Op.intCmp],rfl⟩
 case and=>exact ⟨.int k (kw k (BitVec.ofInt k.bits x &&& BitVec.ofInt k.bits y).toNat),by simp [binOp,Op.intBits,kw],rfl⟩
 case or=>exact ⟨.int k (kw k (BitVec.ofInt k.bits x ||| BitVec.ofInt k.bits y).toNat),by simp [binOp,Op.intBits,kw],rfl⟩
 case xor=>exact ⟨.int k (kw k (BitVec.ofInt k.bits x ^^^ BitVec.ofInt k.bits y).toNat),by simp [binOp,Op.intBits,kw],rfl⟩
theorem Zh2 {P:Program} {w:World} {op:BinOp} {k j:IntKind} {x y:Int} {r:AV} {p:Prop} (h:shK op k x y=some (r,p)) (hp:p) (T:TypeId) (m:Mem):
  ∃u,(binOp op T (.int k x) (.int j y)).run P w = .ok u w∧r.is m u:=by
 cases op<;>simp only [shK,Option.some.injEq,Prod.mk.injEq,reduceCtorEq] at h<;>obtain ⟨rfl,rfl⟩:=h
 case shl=>exact ⟨.int k (kw k (x*2 ^ min y.toNat k.bits)),by simp [binOp,Op.shift,show ¬y<0 by omega,kw],mkI_is _ _⟩
 case shr=>exact ⟨.int k (x.fdiv (2 ^ min y.toNat k.bits)),by simp [binOp,Op.shift,show ¬y<0 by omega],mkI_is _ _⟩
theorem keq_eq {k j:IntKind} (h:keq k j=true):k=j:=by cases k<;>cases j<;>simp_all [keq]
theorem binA_run {P:Program} {w:World} {op:BinOp} {u v:AV} {x y:Value} {r:AV} {p:Prop} (h:Zp op u v=some (r,p)) (hp:p) (T:TypeId) {m:Mem} (hu:u.is m x) (hv:v.is m y):
  ∃k a j b,x = .int k a∧y = .int j b∧∃z,(binOp op T x y).run P w = .ok z w∧r.is m z:=by
 cases u with
 | iv a=>cases v with
   | iv b=>simp only [AV.is] at hu hv;subst hu;subst hv;exact ⟨_,_,_,_,rfl,rfl,bin_run h hp T m⟩
   | kv j b=>simp only [AV.is] at hu hv;subst hu;subst hv;exact ⟨_,_,_,_,rfl,rfl,Zh2 h hp T m⟩
   | _=>simp [Zp] at h
 | kv k a=>cases v with
   | iv b=>simp only [AV.is] at hu hv;subst hu;subst hv;exact ⟨_,_,_,_,rfl,rfl,Zh2 h hp T m⟩
   | kv j b=>
     simp only [AV.is] at hu hv;subst hu;subst hv
     refine ⟨_,_,_,_,rfl,rfl,?_⟩
     simp only [Zp] at h
     split at h
     ·rename_i e
      obtain rfl:=keq_eq e
      split at h
      ·exact Zh2 h hp T m
      ·exact Zh2 h hp T m
      ·exact binK_run h hp T m
     ·exact Zh2 h hp T m
   | _=>simp [Zp] at h
 | _=>simp [Zp] at h
theorem eqGuard_int {P:Program} {w:World} (op:BinOp) (T:TypeId) (x y:Operand) (k l:IntKind) (m n:Int):(eqGuard op T x y (.int k m) (.int l n)).run P w = .ok () w:=by
 unfold eqGuard
 split<;>rfl
theorem gives_bin (hT:RelT c M S a w) (op:BinOp) (T:TypeId) (x y:Operand) (T2:TypeId) (he:ev S (.bin op (cX x) (cX y))=some (v,S1,q)) (hq:q):Zf2 c M S a w (.binOp op T x y T2) v S1:=by
 have hx:=Z12 hT x
 have hy:=Z12 hT y
 simp only [ev,Option.map_eq_some_iff,Prod.mk.injEq] at he
 obtain ⟨⟨r,p⟩,h1,rfl,rfl,rfl⟩:=he
 obtain ⟨k1,m1,k2,m2,hx,hy,u,hu,hr⟩:=binA_run (P:=c.P) (w:=w) h1 hq T hx hy
 refine .same (x:=u) hT (fun _ _ _ _ _=>?_) hr
 generalize a.eval=ρ at *
 rw [hx,hy] at hu
 simp [execOp,hx,hy,eqGuard_int,hu]
theorem Zi2 (s:ByteArray):s.toList=s.data.toList:=by
 unfold ByteArray.toList
 have key:∀n i r,s.size-i=n→i≤s.size→ByteArray.toList.loop s i r=r.reverse++s.data.toList.drop i:=by
  intro n
  induction n with
  | zero=>
    intro i r hn hi
    have:i=s.size:=by omega
    subst this
    unfold ByteArray.toList.loop
    simp
  | succ n ih=>
    intro i r hn hi
    have hlt:i<s.size:=by omega
    have hl2:i<s.data.toList.length:=by simpa using hlt
    unfold ByteArray.toList.loop
    rw [if_pos hlt,ih (i+1) _ (by omega) (by omega)]
    rw [List.drop_eq_getElem_cons hl2]
    have hg:s.get! i=s.data.toList[i]:=by
     obtain ⟨d⟩:=s
     have hl3:i<d.size:=by simpa using hl2
     show d[i]! = d.toList[i]
     rw [getElem!_pos d i hl3]
     simp
    rw [hg]
    simp
 simpa using key s.size 0 [] rfl (Nat.zero_le _)
theorem gives_sbin (hT:RelT c M S a w) (op:BinOp) (T:TypeId) (x y:Operand) (T2:TypeId) (he:ev S (.sbin op (cX x) (cX y))=some (v,S1,q)):Zf2 c M S a w (.binOp op T x y T2) v S1:=by
 have hx:=Z12 hT x
 have hy:=Z12 hT y
 simp only [ev,Option.map_eq_some_iff,Prod.mk.injEq] at he
 obtain ⟨r,h1,rfl,rfl,_⟩:=he
 unfold strI at h1
 split at h1
 ·rename_i s e1
  split at h1
  ·rename_i t e2
   rw [e1] at hx;rw [e2] at hy
   simp only [AV.is] at hx hy
   have hg:∀o:BinOp,(eqGuard o T x y (.string s) (.string t)).run c.P w = .ok () w:=fun o=>by unfold eqGuard;split<;>rfl
   cases op<;>simp only [Option.some.injEq,reduceCtorEq] at h1<;>subst h1
   ·refine .same (x:=.bool (seq s t)) hT (fun _ _ _ _ _=>?_) rfl
    generalize a.eval=ρ at *
    simp [execOp,hx,hy,hg,binOp,Op.stringOp,Zi2,seq]
   ·refine .same (x:=.bool (!seq s t)) hT (fun _ _ _ _ _=>?_) rfl
    generalize a.eval=ρ at *
    simp [execOp,hx,hy,hg,binOp,Op.stringOp,Zi2,seq]
  ·simp at h1
 ·simp at h1
theorem gives_eqs (hT:RelT c M S a w) (op:BinOp) (T:TypeId) (x y:Operand) (T2:TypeId) {fs:Array Field} (hu:c.P.underlying T=some (.struct fs)) (he:ev S (cO c.P (.binOp op T x y T2))=some (v,S1,q)):Zf2 c M S a w (.binOp op T x y T2) v S1:=by
 have hx:=Z12 hT x
 have hy:=Z12 hT y
 simp only [cO,hu] at he
 split at he
 ·rename_i ks hl hg
  have go:∀ng:Bool,op=(if ng then .neq else .eql)→ev S (.eqs ng ks (cX x) (cX y))=some (v,S1,q)→Zf2 c M S a w (.binOp op T x y T2) v S1:=by
   intro ng ho he
   simp only [ev] at he
   split at he<;>try (simp at he;done)
   rename_i l r hx2 hy2
   simp only [Option.map_eq_some_iff,Prod.mk.injEq] at he
   obtain ⟨e,h1,rfl,rfl,_⟩:=he
   rw [hx2] at hx;rw [hy2] at hy
   simp only [AV.is] at hx hy
   obtain ⟨us,hx,hus⟩:=hx
   obtain ⟨vs,hy,hvs⟩:=hy
   obtain ⟨o1,o2,o3⟩:=eqA_is h1 hus hvs
   have hr:=eqs_run (w:=w) (ng:=ng) hu hl o1 o2 ho
   refine .same (x:=.bool (ngB ng e)) hT (fun _ _ _ _ _=>?_) rfl
   generalize a.eval=ρ at *
   simp [execOp,hx,hy,run_eqGuard_agg _ _ _ _ _ _ _ hg,hr,o3]
  split at he
  ·exact go false rfl he
  ·exact go true rfl he
  ·simp [ev] at he
 ·simp [ev] at he
theorem boolA_is {m:Mem} {x:AV} {v:Value} {e:Bool} (h:Zt x=some e) (hx:x.is m v):v = .bool e:=by
 cases x<;>simp [Zt] at h<;>subst h<;>exact hx
theorem gives_bq (hT:RelT c M S a w) (ng:Bool) (op:BinOp) (ho:op=(if ng then .neq else .eql)) (T:TypeId) (x y:Operand) (T2:TypeId) (hu:c.P.underlying T=some .bool) (he:ev S (.bq ng (cX x) (cX y))=some (v,S1,q)):Zf2 c M S a w (.binOp op T x y T2) v S1:=by
 have hx:=Z12 hT x
 have hy:=Z12 hT y
 simp only [ev] at he
 split at he<;>try (simp at he;done)
 rename_i e f h1 h2
 simp only [Option.some.injEq,Prod.mk.injEq] at he
 obtain ⟨rfl,rfl,_⟩:=he
 have hx:=boolA_is h1 hx
 have hy:=boolA_is h2 hy
 refine .same (x:=.bool (ngB ng (e==f))) hT (fun _ _ _ _ _=>?_) rfl
 generalize a.eval=ρ at *
 have hr:(Op.equal T (.bool e) (.bool f)).run c.P w = .ok (e==f) w:=run_equalIn_bool w 9999 T e f hu
 have hg:∀o:BinOp,(eqGuard o T x y (.bool e) (.bool f)).run c.P w = .ok () w:=fun o=>by unfold eqGuard;split<;>rfl
 cases ng<;>subst ho<;>simp [execOp,hx,hy,hg,binOp,hr,ngB]
theorem gives_not (hT:RelT c M S a w) (T:TypeId) (x:Operand) (he:ev S (.not (cX x))=some (v,S1,q)):Zf2 c M S a w (.unOp .not T x) v S1:=by
 have hx:=Z12 hT x
 simp only [ev] at he
 split at he<;>(try rename_i hv)<;>simp only [Option.some.injEq,Prod.mk.injEq,reduceCtorEq] at he<;>obtain ⟨rfl,rfl,h0⟩:=he<;>clear h0<;>rw [hv] at hx<;>clear hv<;>simp only [AV.is] at hx
 ·refine .same (x:=.bool false) hT (fun _ _ _ _ _=>?_) rfl
  generalize a.eval=ρ at *
  simp [execOp,hx,Op.unary]
 ·refine .same (x:=.bool true) hT (fun _ _ _ _ _=>?_) rfl
  generalize a.eval=ρ at *
  simp [execOp,hx,Op.unary]
 ·rename_i e
  refine .same (x:=.bool (!e)) hT (fun _ _ _ _ _=>?_) rfl
  generalize a.eval=ρ at *
  simp [execOp,hx,Op.unary]
theorem gives_neg (hT:RelT c M S a w) (T:TypeId) (x:Operand) (he:ev S (.neg (cX x))=some (v,S1,q)) (hq:q):Zf2 c M S a w (.unOp .neg T x) v S1:=by
 have hx:=Z12 hT x
 simp only [ev] at he
 split at he<;>simp only [Option.some.injEq,Prod.mk.injEq,reduceCtorEq] at he
 rename_i e hv
 obtain ⟨rfl,rfl,rfl⟩:=he
 rw [hv] at hx;simp only [AV.is] at hx
 refine .same (x:=.int .i64 (wr (-e))) hT (fun _ _ _ _ _=>?_) rfl
 generalize a.eval=ρ at *
 simp [execOp,hx,Op.unary,Op.intArith,wr]
theorem gives_conv (hT:RelT c M S a w) (A B:TypeId) (x:Operand) (he:ev S (cO c.P (.convert A B x))=some (v,S1,q)) (hq:q):Zf2 c M S a w (.convert A B x) v S1:=by
 have hx:=Z12 hT x
 simp only [cO] at he
 split at he
 ·rename_i k l hA hB
  have key:∀j e,a.eval x = .int j e→Zf2 c M S a w (.convert A B x) (mkI l (kw l e)) S:=by
   intro j e hx
   refine .same (x:=.int l (kw l e)) hT (fun _ _ _ _ _=>?_) (mkI_is _ _)
   generalize a.eval=ρ at *
   simp [execOp,hx,convert,run_underlying hA,run_underlying hB,Conv.intToInt,kw]
  cases l<;>simp only [ev] at he<;>split at he<;>simp only [Option.some.injEq,Prod.mk.injEq,reduceCtorEq] at he<;>rename_i e hv<;>obtain ⟨rfl,rfl,rfl⟩:=he<;>rw [hv] at hx<;>exact key _ _ hx
 ·split at he<;>simp [ev] at he
 ·simp [ev] at he
theorem gives_fld (hT:RelT c M S a w) (T:TypeId) (x:Operand) (f:Nat) (he:ev S (cO c.P (.fieldAddr T x f))=some (v,S1,q)):Zf2 c M S a w (.fieldAddr T x f) v S1:=by
 have hx:=Z12 hT x
 simp only [cO] at he
 split at he
 ·rename_i fs hT1
  split at he
  ·rename_i fd hf
   split at he
   ·rename_i hpos
    have hsz:∃n,(sizeOf fd.type).run c.P w = .ok (n+1) w:=by
     cases hn:Z6 c.P fd.type with
     | none=>simp [hn] at hpos
     | some n=>
       simp [hn] at hpos
       exact ⟨n-1,by rw [Z32 hn];congr 1;omega⟩
    obtain ⟨n,hsz⟩:=hsz
    have run:∀(g o:Nat) (ρ:Operand→Value),ρ x = .pointer (some ⟨g,o,none⟩)→∀d ty pos af gg,(execOp ρ ⟨d,.fieldAddr T x f,ty,pos,af,gg⟩).run c.P w = .ok (.value (.pointer (some ⟨g,o+fd.offset,none⟩))) w:=by
     intro g o ρ hρ d ty pos af gg
     simp [execOp,hρ,Instr.fieldAt,Instr.sureAddr,run_underlying hT1,hf,fieldPlace,hsz,Addr.add_lit]
    simp only [ev] at he
    split at he<;>simp only [Option.some.injEq,Prod.mk.injEq,reduceCtorEq] at he<;>rename_i hv<;>obtain ⟨rfl,rfl,_⟩:=he
    ·rw [hv] at hx
     exact .same hT (run _ _ _ hx.2) ⟨hx.1,rfl⟩
    ·rw [hv] at hx
     obtain ⟨ad,vs,h1,h2,h3⟩:=hx
     exact .same hT (run _ _ _ h1) ⟨ad,vs,by rw [Nat.add_assoc],h2,h3⟩
    ·rw [hv] at hx
     obtain ⟨h0,g,n,cp,h1,h2⟩:=hx
     exact .same hT (run _ _ _ h2) ⟨h0,g,n,cp,h1,by rw [Nat.add_assoc]⟩
   ·simp [ev] at he
  ·simp [ev] at he
 ·simp [ev] at he
theorem part_one {P:Program} {T:TypeId} {vs:List Value} {off:Nat} {v:Value} (hT:Z4 P T=some none) (h:vs[off]?=some v):(part T vs.toArray off).run P w = .ok v w:=by
 simp [part,aggN_one hT,h]
theorem part_agg {P:Program} {T:TypeId} {vs:List Value} {off n:Nat} (hT:Z4 P T=some (some n)):(part T vs.toArray off).run P w = .ok (.agg ((vs.drop off).take n).toArray) w:=by
 simp [part,(Z22 hT).1,(Z22 hT).2]
theorem gives_field (hT:RelT c M S a w) (T:TypeId) (x:Operand) (f:Nat) (he:ev S (cO c.P (.field T x f))=some (v,S1,q)):Zf2 c M S a w (.field T x f) v S1:=by
 have hx:=Z12 hT x
 simp only [cO] at he
 split at he
 ·rename_i fs hT1
  split at he
  ·rename_i fd hf
   split at he
   ·rename_i n hn
    cases n with
    | none=>
      simp only [ev] at he
      split at he<;>simp only [Option.map_eq_some_iff,Prod.mk.injEq,reduceCtorEq] at he
      rename_i l hv
      obtain ⟨r,hr,rfl,rfl,_⟩:=he
      obtain ⟨rfl,hle⟩:=Zg1 hr
      rw [hv] at hx
      obtain ⟨vs,h1,h2⟩:=hx
      have hl:=Zi1 h2
      have hlt:fd.offset<vs.length:=by omega
      have hget:vs[fd.offset]?=some vs[fd.offset]:=List.getElem?_eq_getElem hlt
      refine .same (x:=vs[fd.offset]) hT (fun _ _ _ _ _=>?_) ?_
      ·generalize a.eval=ρ at *
       simp [execOp,h1,Instr.field,run_underlying hT1,hf,asAgg,part_one hn hget]
      ·have h3:=Zk1 1 (Zl1 fd.offset h2)
       have e1:(vs.drop fd.offset).take 1=[vs[fd.offset]]:=by rw [List.take_one,List.head?_drop,hget];rfl
       rw [e1] at h3
       cases h4:(l.drop fd.offset).take 1 with
       | nil=>rw [h4] at h3;simp [AV.isL] at h3
       | cons y r=>rw [h4] at h3;obtain ⟨_,_,h,hy,_⟩:=h3;simp at h;obtain ⟨rfl,rfl⟩:=h;exact hy
    | some n=>
      simp only [ev] at he
      split at he<;>simp only [Option.map_eq_some_iff,Prod.mk.injEq,reduceCtorEq] at he
      rename_i l hv
      obtain ⟨r,hr,rfl,rfl,_⟩:=he
      obtain ⟨rfl,hle⟩:=Zg1 hr
      rw [hv] at hx
      obtain ⟨vs,h1,h2⟩:=hx
      refine .same (x:=.agg ((vs.drop fd.offset).take n).toArray) hT (fun _ _ _ _ _=>?_) ⟨_,rfl,Zk1 n (Zl1 fd.offset h2)⟩
      generalize a.eval=ρ at *
      simp [execOp,h1,Instr.field,run_underlying hT1,hf,asAgg,part_agg hn]
   ·simp [ev] at he
  ·simp [ev] at he
 ·simp [ev] at he
theorem gives_ext (hT:RelT c M S a w) (x:Operand) (k:Nat) (he:ev S (.ext (cX x) k)=some (v,S1,q)):Zf2 c M S a w (.extract x k) v S1:=by
 have hx:=Z12 hT x
 simp only [ev] at he
 split at he<;>simp only [Option.map_eq_some_iff,Prod.mk.injEq,reduceCtorEq] at he
 rename_i l hv
 obtain ⟨r,hr,rfl,rfl,_⟩:=he
 obtain ⟨rfl,hle⟩:=Zg1 hr
 rw [hv] at hx
 obtain ⟨vs,h1,h2⟩:=hx
 have hl:=Zi1 h2
 have hlt:k<vs.length:=by omega
 have hget:vs[k]?=some vs[k]:=List.getElem?_eq_getElem hlt
 refine .same (x:=vs[k]) hT (fun _ _ _ _ _=>?_) ?_
 ·generalize a.eval=ρ at *
  simp [execOp,h1,Instr.extract,hget]
 ·have h3:=Zk1 1 (Zl1 k h2)
  have e1:(vs.drop k).take 1=[vs[k]]:=by rw [List.take_one,List.head?_drop,hget];rfl
  rw [e1] at h3
  cases h4:(l.drop k).take 1 with
  | nil=>rw [h4] at h3;simp [AV.isL] at h3
  | cons y r=>rw [h4] at h3;obtain ⟨_,_,h,hy,_⟩:=h3;simp at h;obtain ⟨rfl,rfl⟩:=h;exact hy
theorem Zj2 (hT:RelT c M S a w):∀(l:List Operand),AV.isL M (Zq S (l.map cX)) (l.map a.eval)
 | []=>rfl
 | x::l=>⟨_,_,rfl,Z12 hT x,Zj2 hT l⟩
theorem gives_mkf (hT:RelT c M S a w) (fn:Fn) (first caps:Array Operand) (he:ev S (cO c.P (.makeFunc fn first caps))=some (v,S1,q)):Zf2 c M S a w (.makeFunc fn first caps) v S1:=by
 simp only [cO] at he
 split at he
 ·rename_i f
  split at he
  ·rename_i h0
   simp only [ev,Option.some.injEq,Prod.mk.injEq] at he
   obtain ⟨rfl,rfl,_⟩:=he
   have hm:=Zj2 hT caps.toList
   have hf:first = #[]:=by simpa using h0
   subst hf
   refine .same (x:=.func (.func f) #[] (caps.map a.eval)) hT (fun _ _ _ _ _=>?_) ⟨caps.toList.map a.eval,?_,hm⟩
   ·generalize a.eval=ρ at *
    simp [execOp,Instr.makeFunc]
   ·congr 1
    apply Array.ext'
    simp
  ·simp [ev] at he
 ·simp [ev] at he
def spl (z:List Value) (off:Nat) (cs:List Value):List Value:=z.take off++cs++z.drop (off+cs.length)
theorem foldl_set (cs:List Value):∀(off k:Nat) (z:Array Value),off+k+cs.length≤z.size→
  (cs.zipIdx k).foldl (fun (acc:Array Value) (x:Value×Nat)=>acc.setIfInBounds (off+x.2) x.1) z=(spl z.toList (off+k) cs).toArray:=by
 induction cs with
 | nil=>intro off k z _;simp [spl]
 | cons c cs ih=>
   intro off k z hz
   simp only [List.zipIdx_cons,List.foldl_cons]
   rw [ih off (k+1) _ (by simp at hz ⊢;omega)]
   apply congrArg List.toArray
   simp only [Array.toList_setIfInBounds,spl]
   apply List.ext_getElem?
   intro j
   simp only [List.length_cons] at hz ⊢
   simp only [List.getElem?_append,List.length_append,List.length_take,List.length_set,List.getElem?_take,List.getElem?_drop,List.getElem?_set,List.length_cons,Array.length_toList]
   have e1:min (off+(k+1)) z.size=off+k+1:=by omega
   have e2:min (off+k) z.size=off+k:=by omega
   rw [e1,e2]
   by_cases h1:j<off+k
   ·have:¬off+k=j:=by omega
    simp only [show j<off+k+1+cs.length from by omega,show j<off+k+(cs.length+1) from by omega,if_true,show j<off+k+1 from by omega,h1,this,if_false,show off+(k+1)=off+k+1 from rfl]
   ·by_cases h2:j=off+k
    ·subst h2
     simp [show off+(k+1)=off+k+1 from rfl,show off+k<z.size from by omega,show off+k<off+k+1+cs.length from by omega]
    ·by_cases h3:j<off+k+1+cs.length
     ·have h5:j-(off+k)=(j-(off+k+1))+1:=by omega
      simp only [h3,show j<off+k+(cs.length+1) from by omega,if_true,show ¬j<off+k+1 from by omega,h1,if_false,h5,List.getElem?_cons_succ]
     ·have h6:¬off+k=off+k+1+cs.length+(j-(off+k+1+cs.length)):=by omega
      simp only [h3,show ¬j<off+k+(cs.length+1) from by omega,if_false]
      rw [if_neg (by omega)]
      congr 1
      omega
theorem Zk2 (place:Nat→Option (Nat×Nat)):∀(ps:List (Nat×Value)) (z:List Value) (l:List AV) (M:Mem) (zs:List AV) (avs:List (Nat×Nat×AV)),
  AV.isL M zs z→Zl zs avs=some l→avs.length=ps.length→
  (∀(k:Nat) i v,ps[k]?=some (i,v)→∃o n x,avs[k]?=some (o,n,x)∧place i=some (o,n)∧(∀cs,x.cells=some cs→AV.isL M cs v.cells.toList))→
  ∃r:List Value,Instr.fill place z.toArray ps=some r.toArray∧AV.isL M l r
 | [],z,l,M,zs,avs,hz,hf,h1,_=>by
   have:avs=[]:=List.length_eq_zero_iff.1 h1
   subst this
   simp [Zl] at hf
   subst hf
   exact ⟨z,rfl,hz⟩
 | (i,u)::ps,z,l,M,zs,avs,hz,hf,h1,hp=>by
   obtain ⟨o,n,x,hx,hpl,hxc⟩:=hp 0 i u (by simp)
   cases avs with
   | nil=>simp at hx
   | cons y avs=>
     simp at hx;subst hx
     simp only [Zl] at hf
     split at hf
     ·rename_i cs hcs
      split at hf
      ·rename_i hn
       rw [beq_iff_eq] at hn
       split at hf
       ·rename_i z' hz'
        have hcl:=hxc cs hcs
        have hlen:=Zi1 hcl
        obtain ⟨rfl,hle⟩:=Zh1 hz'
        have hzl:=Zi1 hz
        rw [Z91] at hn
        have hsz:u.cells.size=n:=by rw [←Array.length_toList,hlen];exact hn
        have hz2:AV.isL M (zs.take o++cs++zs.drop (o+cs.length)) (spl z o u.cells.toList):=by
         unfold spl
         exact Zj1 (Zj1 (Zk1 o hz) hcl) (by rw [hlen];exact Zl1 _ hz)
        obtain ⟨r,hr1,hr2⟩:=Zk2 place ps (spl z o u.cells.toList) l M _ avs hz2 hf (by simpa using h1)
         (fun k i v hk=>by
           obtain ⟨o',n',x',g1,g2⟩:=hp (k+1) i v (by simpa using hk)
           exact ⟨o',n',x',by simpa using g1,g2⟩)
        refine ⟨r,?_,hr2⟩
        have hfs:=foldl_set u.cells.toList o 0 z.toArray (by simp at hlen ⊢;omega)
        simp only [Instr.fill,hpl]
        rw [if_neg (by simp [hsz];omega)]
        rw [←hr1]
        congr 1
        rw [←Array.foldl_toList,Array.toList_zipIdx]
        exact hfs
       ·simp at hf
      ·simp at hf
     ·simp at hf
theorem places_eq {P:Program}:∀ {fs:List Field} {pl:List (Nat×Nat)},Z7 P fs=some pl→fs.mapM (fun f=>(P.info? f.type).map fun i=>(f.offset,i.size))=some pl
 | [],pl,h=>by simp [Z7] at h;simp [h]
 | f::l,pl,h=>by
   simp only [Z7] at h
   split at h<;>simp at h
   rename_i n r h1 h2
   subst h
   have:=places_eq h2
   simp only [Z6,Option.map_eq_some_iff] at h1
   obtain ⟨i,hi,rfl⟩:=h1
   simp [List.mapM_cons,hi,this]
theorem Zl2 {α β:Type} {f:α→Option β}:∀ {l:List α} {r:List β},l.mapM f=some r→r.length=l.length∧∀(k:Nat) x,l[k]?=some x→∃y,r[k]?=some y∧f x=some y
 | [],r,h=>by simp at h;subst h;simp
 | x::l,r,h=>by
   simp only [List.mapM_cons,Option.bind_eq_bind,Option.bind_eq_some_iff] at h
   obtain ⟨y,h1,r',h2,h3⟩:=h
   simp at h3;subst h3
   obtain ⟨g1,g2⟩:=Zl2 h2
   refine ⟨by simp [g1],fun k u hk=>?_⟩
   cases k with
   | zero=>simp at hk;subst hk;exact ⟨y,by simp,h1⟩
   | succ k=>simpa using g2 k u (by simpa using hk)
theorem Zm2 (S:St):∀l:List (Nat×Nat×X),(Zs S l).length=l.length
 | []=>rfl
 | (_,_,_)::l=>by simp [Zs,Zm2 S l]
theorem Zn2 (S:St):∀(l:List (Nat×Nat×X)) (k o n:Nat) (x:X),l[k]?=some (o,n,x)→(Zs S l)[k]?=some (o,n,S.x x)
 | [],k,_,_,_,h=>by simp at h
 | (_,_,_)::l,k,o,n,x,h=>by
   cases k with
   | zero=>simp at h;obtain ⟨rfl,rfl,rfl⟩:=h;simp [Zs]
   | succ k=>simpa [Zs] using Zn2 S l k o n x (by simpa using h)
theorem cellsX (hT:RelT c M S a w) (x:Operand) (cs:List AV) (h:(S.x (cX x)).cells=some cs):AV.isL M cs (a.eval x).cells.toList:=by
 have hx:=Z12 hT x
 exact Zd2 (fun j e=>by rw [e] at hx;rw [hx.2];exact hT.st.so j hx.1) hx h
theorem gives_build (hT:RelT c M S a w) (T:TypeId) (ps:Array (Nat×Operand)) (he:ev S (cO c.P (.build T ps))=some (v,S1,q)):Zf2 c M S a w (.build T ps) v S1:=by
 simp only [cO] at he
 split at he
 ·rename_i fs z hu hz
  obtain ⟨i,u,hi,hiz,hsz,rfl⟩:=Za2 hz
  split at he
  ·rename_i pl hpl
   split at he
   ·rename_i l hl
    simp only [ev,Option.map_eq_some_iff,Prod.mk.injEq] at he
    obtain ⟨r,hr,rfl,rfl,_⟩:=he
    obtain ⟨g1,g2⟩:=Zl2 hl
    obtain ⟨res,hr1,hr2⟩:=Zk2 (pl[·]?) (ps.toList.map fun (i,x)=>(i,a.eval x)) u.cells.toList r M _ _ (Zr1 M _) hr (by rw [Zm2,g1];simp)
     (fun k i v hk=>by
       rw [List.getElem?_map,Option.map_eq_some_iff] at hk
       obtain ⟨⟨i',x⟩,hk,he⟩:=hk
       simp at he;obtain ⟨rfl,rfl⟩:=he
       obtain ⟨y,hy,hf⟩:=g2 k _ hk
       simp only [Option.map_eq_some_iff] at hf
       obtain ⟨⟨o,n⟩,hp,rfl⟩:=hf
       exact ⟨o,n,_,Zn2 S l k o n _ hy,hp,fun cs hc=>cellsX hT x cs hc⟩)
    refine .same (x:=.agg res.toArray) hT (fun _ _ _ _ _=>?_) ⟨res,rfl,hr2⟩
    generalize a.eval=ρ at *
    have hp2:=run_places (P:=c.P) w fs.toList pl (places_eq hpl)
    simp only [Array.toArray_toList] at hr1
    simp [execOp,Instr.build,run_underlying hu,typeInfo,zeroValue,hi,hiz,Array.mapM_eq_mapM_toList,hp2,hr1]
   ·simp [ev] at he
  ·simp [ev] at he
 ·rename_i n e z hu hz
  obtain ⟨i,u,hi,hiz,hsz,rfl⟩:=Za2 hz
  split at he
  ·rename_i sz hs
   simp only [ev,Option.map_eq_some_iff,Prod.mk.injEq] at he
   obtain ⟨r,hr,rfl,rfl,_⟩:=he
   obtain ⟨res,hr1,hr2⟩:=Zk2 (fun i=>some (i*sz,sz)) (ps.toList.map fun (i,x)=>(i,a.eval x)) u.cells.toList r M _ _ (Zr1 M _) hr (by rw [Zm2];simp)
    (fun k i v hk=>by
      rw [List.getElem?_map,Option.map_eq_some_iff] at hk
      obtain ⟨⟨i',x⟩,hk,he⟩:=hk
      simp at he;obtain ⟨rfl,rfl⟩:=he
      exact ⟨_,_,_,Zn2 S _ k (i'*sz) sz (cX x) (by rw [List.getElem?_map,hk];rfl),rfl,fun cs hc=>cellsX hT x cs hc⟩)
   refine .same (x:=.agg res.toArray) hT (fun _ _ _ _ _=>?_) ⟨res,rfl,hr2⟩
   generalize a.eval=ρ at *
   simp only [Array.toArray_toList] at hr1
   simp [execOp,Instr.build,run_underlying hu,typeInfo,zeroValue,hi,hiz,Z32 hs,hr1]
  ·simp [ev] at he
 ·simp [ev] at he
theorem Zo2 (S:St) (n:Nat):∀l:List (Nat×X),(Zr S n l).length=l.length
 | []=>rfl
 | (_,_)::l=>by simp [Zr,Zo2 S n l]
theorem mapX2_get (S:St) (n:Nat):∀(l:List (Nat×X)) (k i:Nat) (x:X),l[k]?=some (i,x)→(Zr S n l)[k]?=some (i*n,n,S.x x)
 | [],k,_,_,h=>by simp at h
 | (_,_)::l,k,i,x,h=>by
   cases k with
   | zero=>simp at h;obtain ⟨rfl,rfl⟩:=h;simp [Zr]
   | succ k=>simpa [Zr] using mapX2_get S n l k i x (by simpa using h)
theorem Zp2 (z:Array Value):∀len:Nat,((Array.range (len*z.size)).map (fun i=>z[i % z.size]!)).toList=(List.replicate len z.toList).flatten:=by
 intro len
 by_cases h0:z.size=0
 ·have:z = #[]:=by simpa using h0
  subst this;simp
 induction len with
 | zero=>simp
 | succ len ih=>
   rw [List.replicate_succ',List.flatten_append,←ih,Nat.add_mul,Nat.one_mul]
   simp only [Array.toList_map,Array.toList_range,List.flatten_cons,List.flatten_nil,List.append_nil]
   rw [List.range_add,List.map_append]
   congr 1
   apply List.ext_getElem
   ·simp
   ·intro j h1 h2
    simp at h1 h2
    simp only [List.map_map,List.getElem_map,List.getElem_range,Function.comp,Array.getElem_toList]
    have:(len*z.size+j) % z.size=j:=by rw [Nat.add_comm,Nat.add_mul_mod_self_right,Nat.mod_eq_of_lt h2]
    simp [this,h2]
theorem lrep_is {M:Mem} {z:List AV} {vs:List Value} (h:AV.isL M z vs):∀k,AV.isL M (Zn k z) (List.replicate k vs).flatten
 | 0=>by simp [Zn,AV.isL]
 | k+1=>by rw [List.replicate_succ,List.flatten_cons];exact Zj1 h (lrep_is h k)
theorem gives_bsl (hT:RelT c M S a w) (T:TypeId) (len:Nat) (ps:Array (Nat×Operand)) (he:ev S (cO c.P (.buildSlice T len ps))=some (v,S1,q)):Zf2 c M S a w (.buildSlice T len ps) v S1:=by
 simp only [cO] at he
 split at he
 ·rename_i e hu
  split at he
  ·rename_i n z hn hz
   obtain ⟨i,u,hi,hiz,hsz,rfl⟩:=Za2 hz
   simp only [ev] at he
   split at he
   ·rename_i l hl
    split at he<;>simp only [Option.some.injEq,Prod.mk.injEq,reduceCtorEq] at he
    rename_i hc
    simp only [Z71,Z81,beq_iff_eq] at hc
    obtain ⟨rfl,rfl,_⟩:=he
    obtain ⟨hn0,hbig,hzl,hpu,hone⟩:=hc
    have hzn:u.cells.size=n:=by rw [Z91] at hzl;simpa using hzl
    obtain ⟨res,hr1,hr2⟩:=Zk2 (fun i=>some (i*n,n)) (ps.toList.map fun (i,x)=>(i,a.eval x)) (List.replicate len u.cells.toList).flatten l M _ _ (lrep_is (Zr1 M u.cells.toList) len) hl (by rw [Zo2];simp)
     (fun k i v hk=>by
       rw [List.getElem?_map,Option.map_eq_some_iff] at hk
       obtain ⟨⟨i',x⟩,hk,he⟩:=hk
       simp at he;obtain ⟨rfl,rfl⟩:=he
       exact ⟨_,_,_,mapX2_get S n _ k i' (cX x) (by rw [List.getElem?_map,hk];rfl),rfl,fun cs hc=>cellsX hT x cs hc⟩)
    have hlen:res.length=len*n:=by
     have h1:=Zi1 hr2
     have:l.length=(Zn len (u.cells.toList.map zav)).length:=by
      clear hr1 hr2 h1
      generalize Zr S n _=av at hl
      generalize Zn len _=zz at hl
      induction av generalizing zz with
      | nil=>simp [Zl] at hl;rw [hl]
      | cons y av ih=>
        obtain ⟨o,m,x⟩:=y
        simp only [Zl] at hl
        split at hl
        ·split at hl
         ·split at hl
          ·rename_i z' hz'
           obtain ⟨rfl,hle⟩:=Zh1 hz'
           rw [ih _ hl];simp;omega
          ·simp at hl
         ·simp at hl
        ·simp at hl
     have h3:∀k,(Zn k (u.cells.toList.map zav)).length=k*n:=by
      intro k
      induction k with
      | zero=>simp [Zn]
      | succ k ih=>simp [Zn,ih,hzn,Nat.add_mul];omega
     rw [h1,this,h3]
    have hr3:=Zs1 l res hr2 hpu
    have h1:=Ze2 hr3 hone (fun j hj=>absurd hj (Nat.not_lt_zero _))
    obtain ⟨vss,hv1,hv2⟩:=chunk_is (M:=M.pure) n len l res hr3 hlen
    have hcl:=Zt1 n len l
    intro d ty pos af g
    let w':=w.alloc (.cells res.toArray e)
    have hown:w'.ownsRow 0 e n (.slice (some ⟨w.heap.size,0,none⟩) len len) len res:=⟨hlen,.inr ⟨w.heap.size,len,res.toArray,rfl,Nat.zero_le _,(Zu1 w _ _).trans (if_pos rfl),Nat.le_refl _,by unfold maxLen;have:len≤len*n:=Nat.le_mul_of_pos_right _ hn0;omega,by simp [hlen],by simp [←hlen]⟩⟩
    have hrel:RelS c M S.bs S.ss w':=by
     exact hT.st.grow ((Below.refl _ _).alloc (Nat.le_refl _) _)
    refine ⟨.slice (some ⟨w.heap.size,0,none⟩) len len,M.addS (.slice (some ⟨w.heap.size,0,none⟩) len len),w',.inl ?_,Mem.le_addS M _,?_,rfl,?_⟩
    ·generalize a.eval=ρ at *
     have hz2:=Zp2 u.cells len
     rw [hzn] at hz2
     have hz3:(Array.range (len*n)).map (fun i=>u.cells[i % n]!)=((List.replicate len u.cells.toList).flatten).toArray:=by
      rw [←hz2]
     have hbig':¬2 ^ 24<len*n:=by omega
     by_cases h00:len*n=0
     ·have hl0:len=0:=by
       rcases Nat.mul_eq_zero.1 h00 with h | h
       ·exact h
       ·omega
      subst hl0
      simp at hr1
      simp [execOp,Instr.buildSlice,run_underlying hu,Z32 hn,show Array.range 0=(#[]:Array Nat) from rfl,hr1,newRow,w']
     ·simp [execOp,Instr.buildSlice,run_underlying hu,Z32 hn,hbig',h00,zeroValue,typeInfo,hi,hiz,hzn,hz3,hr1,newRow,w']
    ·have:=hrel.name ⟨e,n,Zm n len l⟩ (.slice (some ⟨w.heap.size,0,none⟩) len len) vss hn0 (Zq1 (Zm1 M) _ _ _ hv1) (by rw [hv2];exact h1) (by rw [hv2,hcl];exact hown)
      (fun g hg=>by simp [Value.ownBlock] at hg;subst hg;exact ⟨.inl hT.st.size,hT.st.Hnew (Nat.le_refl _)⟩)
      (fun i B hB e=>by simp [Value.ownBlock] at e;have:=hT.st.blk_lt hB;omega)
      (fun j N g hN e1 e2=>by simp [Value.ownBlock] at e1;have:=hT.st.slc_lt hN e2;omega)
     exact this
    ·rw [Z91,←hT.st.ns]
     exact ⟨Nat.lt_succ_self _,by simp [Mem.addS]⟩
   ·simp at he
  ·simp [ev] at he
 ·simp [ev] at he
theorem Zq2 {P:Program} {w:World} {x:Operand} {argTypes:Array TypeId} {t0 e:TypeId} (h0:argTypes[0]?=some t0) (hu:P.underlying t0=some (.slice e))
  (ad:Option Addr) (m cp:Nat) (ρ:Operand→Value) (hρ:ρ x = .slice ad m cp) (d:Option Tmp) (ty:TypeId) (pos:String) (af:Array Edge) (gg:Option (Nat×Bool)):
  (execOp ρ ⟨d,.call ⟨.builtin .len, #[x],argTypes⟩,ty,pos,af,gg⟩).run P w = .ok (.value (.int .i64 m)) w:=by
 simp [execOp,resolve,invoke,builtin,Builtin.len_,hρ,h0,run_underlying hu,goInt]
theorem gives_len (hT:RelT c M S a w) {x:Operand} {argTypes:Array TypeId} {t0 e:TypeId} (h0:argTypes[0]?=some t0) (hu:c.P.underlying t0=some (.slice e))
  (he:ev S (.len (cX x))=some (v,S1,q)):Zf2 c M S a w (.call ⟨.builtin .len, #[x],argTypes⟩) v S1:=by
 have hx:=Z12 hT x
 simp only [ev] at he
 split at he
 ·rename_i hv
  simp only [Option.some.injEq,Prod.mk.injEq] at he
  obtain ⟨rfl,rfl,_⟩:=he
  rw [hv] at hx
  exact .same hT (Zq2 h0 hu none 0 0 _ hx) rfl
 ·rename_i m rows hv
  simp only [Option.some.injEq,Prod.mk.injEq] at he
  obtain ⟨rfl,rfl,_⟩:=he
  rw [hv] at hx
  obtain ⟨ad,cp,h1,_⟩:=hx
  exact .same hT (Zq2 h0 hu ad _ cp _ h1) rfl
 ·rename_i j hv
  split at he
  ·rename_i L hL
   simp only [Option.some.injEq,Prod.mk.injEq] at he
   obtain ⟨rfl,rfl,_⟩:=he
   rw [hv] at hx
   obtain ⟨_,vss,_,_,ho,_⟩:=hT.st.slc j L hL
   rcases ho.2 with ⟨h1,h2⟩ | ⟨g,cp,cur,h1,_⟩
   ·exact .same hT (Zq2 h0 hu none 0 0 _ (hx.2.trans h1)) (by rw [h2];rfl)
   ·exact .same hT (Zq2 h0 hu _ _ cp _ (hx.2.trans h1)) rfl
  ·simp at he
 ·rename_i j lo n m hv
  simp only [Option.some.injEq,Prod.mk.injEq] at he
  obtain ⟨rfl,rfl,_⟩:=he
  rw [hv] at hx
  obtain ⟨_,g,len,cp,_,h1⟩:=hx
  exact .same hT (Zq2 h0 hu _ _ _ _ h1) rfl
 ·simp at he
theorem gives_slen (hT:RelT c M S a w) {x:Operand} {argTypes:Array TypeId} {t0:TypeId} (h0:argTypes[0]?=some t0) (hu:c.P.underlying t0=some .string)
  (he:ev S (.slen (cX x))=some (v,S1,q)):Zf2 c M S a w (.call ⟨.builtin .len, #[x],argTypes⟩) v S1:=by
 have hx:=Z12 hT x
 simp only [ev] at he
 split at he<;>simp only [Option.some.injEq,Prod.mk.injEq,reduceCtorEq] at he
 rename_i s hv
 obtain ⟨rfl,rfl,_⟩:=he
 rw [hv] at hx
 simp only [AV.is] at hx
 refine .same (x:=.int .i64 (sln s)) hT (fun _ _ _ _ _=>?_) rfl
 generalize a.eval=ρ at *
 simp [execOp,resolve,invoke,builtin,Builtin.len_,hx,h0,run_underlying hu,goInt,sln]
theorem mm_fold {P:Program} {w:World} {m:Mem}:∀(l:List AV) (vs:List Value) (x n:Int),AV.isL m l vs→
  (mmI true x l=some n→(vs.foldlM Builtin.max2 (.int .i64 x)).run P w = .ok (.int .i64 n) w)∧(mmI false x l=some n→(vs.foldlM Builtin.min2 (.int .i64 x)).run P w = .ok (.int .i64 n) w)
 | [],vs,x,n,h=>by
   simp [AV.isL] at h;subst h
   constructor<;>intro h<;>simp [mmI] at h<;>subst h<;>rfl
 | y::l,_,x,n,⟨u,r,hv,hu,hr⟩=>by
   subst hv
   cases y<;>try (constructor<;>intro h<;>simp [mmI] at h;done)
   rename_i y
   simp only [AV.is] at hu;subst hu
   constructor<;>intro h<;>simp only [mmI] at h
   ·have:=(mm_fold (P:=P) (w:=w) l r (max x y) n hr).1 h
    simp only [List.foldlM_cons,Sem.run_bind,Builtin.max2,Sem.run_pure,Result.andThen_ok]
    rw [←this]
    congr 3
    split<;>omega
   ·have:=(mm_fold (P:=P) (w:=w) l r (min x y) n hr).2 h
    simp only [List.foldlM_cons,Sem.run_bind,Builtin.min2,Sem.run_pure,Result.andThen_ok]
    rw [←this]
    congr 3
    split<;>omega
theorem gives_mm (hT:RelT c M S a w) (mx:Bool) {args:Array Operand} {argTypes:Array TypeId}
  (he:ev S (.mm mx (args.toList.map cX))=some (v,S1,q)):Zf2 c M S a w (.call ⟨.builtin (if mx then .max else .min),args,argTypes⟩) v S1:=by
 have hm:=Zj2 hT args.toList
 simp only [ev] at he
 split at he
 ·rename_i x l hl
  simp only [Option.map_eq_some_iff,Prod.mk.injEq] at he
  obtain ⟨n,hn,rfl,rfl,_⟩:=he
  rw [hl] at hm
  obtain ⟨u,r,h1,h2,h3⟩:=hm
  simp only [AV.is] at h2;subst h2
  refine .same (x:=.int .i64 n) hT (fun _ _ _ _ _=>?_) rfl
  generalize a.eval=ρ at *
  cases mx
  ·have:=(mm_fold (P:=c.P) (w:=w) l r x n h3).2 hn
   simp [execOp,resolve,invoke,builtin,Builtin.min_,h1,this]
  ·have:=(mm_fold (P:=c.P) (w:=w) l r x n h3).1 hn
   simp [execOp,resolve,invoke,builtin,Builtin.max_,h1,this]
 ·simp at he
theorem gives_call (hT:RelT c M S a w) (ci:Call) (he:ev S (cO c.P (.call ci))=some (v,S1,q)):Zf2 c M S a w (.call ci) v S1:=by
 obtain ⟨callee,args,argTypes⟩:=ci
 simp only [cO] at he
 split at he
 ·split at he
  ·split at he<;>simp [ev] at he
  ·simp [ev] at he
  ·simp [ev] at he
 ·simp [ev] at he
 ·split at he
  ·split at he
   ·rename_i t0 x h0 hargs
    split at he
    ·rename_i e hu
     have harr:args = #[x]:=by apply Array.ext';simpa using hargs
     subst harr
     exact gives_len hT h0 hu he
    ·rename_i hu
     have harr:args = #[x]:=by apply Array.ext';simpa using hargs
     subst harr
     exact gives_slen hT h0 hu he
    ·simp [ev] at he
   ·simp [ev] at he
  ·split at he
   ·split at he
    ·split at he
     ·split at he
      ·split at he
       ·split at he<;>simp [ev] at he
       ·simp [ev] at he
      ·simp [ev] at he
     ·simp [ev] at he
    ·split at he
     ·split at he
      ·split at he
       ·split at he<;>simp [ev] at he
       ·simp [ev] at he
      ·simp [ev] at he
     ·simp [ev] at he
   ·simp [ev] at he
  ·split at he
   ·split at he<;>simp [ev] at he
   ·simp [ev] at he
  ·(repeat' (split at he))<;>simp [ev] at he
  ·(repeat' (split at he))<;>simp [ev] at he
  ·exact gives_mm hT true he
  ·exact gives_mm hT false he
  ·simp [ev] at he
theorem gives (hT:RelT c M S a w) (o:Op) (he:ev S (cO c.P o)=some (v,S1,q)) (hq:q):Zf2 c M S a w o v S1:=by
 cases o with
 | move x=>
   simp only [cO,ev,Option.some.injEq,Prod.mk.injEq] at he
   obtain ⟨rfl,rfl,_⟩:=he
   exact gives_move hT x
 | assign x=>
   simp only [cO,ev,Option.some.injEq,Prod.mk.injEq] at he
   obtain ⟨rfl,rfl,_⟩:=he
   exact gives_assign hT x
 | pick x y z=>exact gives_pick hT x y z he
 | alloc T=>exact gives_alloc hT T he
 | box T x=>exact gives_box hT T x he
 | build T ps=>exact gives_build hT T ps he
 | buildSlice T n ps=>exact gives_bsl hT T n ps he
 | load T x=>exact gives_load hT T x he
 | store T x y=>exact gives_store hT T x y he
 | nilCheck x=>exact gives_nilchk hT x he
 | binOp op T x y T2=>
   simp only [cO] at he
   split at he
   ·split at he
    ·exact gives_bin hT op T x y T2 he hq
    ·simp [ev] at he
   ·rename_i fs hu
    refine gives_eqs hT op T x y T2 hu (q:=q) ?_
    simp only [cO,hu];exact he
   ·exact gives_sbin hT op T x y T2 he
   ·rename_i hu
    split at he
    ·exact gives_bq hT false _ rfl T x y T2 hu he
    ·exact gives_bq hT true _ rfl T x y T2 hu he
    ·simp [ev] at he
   ·split at he
    ·split at he<;>simp [ev] at he
    ·simp [ev] at he
   ·simp [ev] at he
   ·simp [ev] at he
 | unOp op T x=>
   simp only [cO] at he
   split at he
   ·exact gives_not hT T x he
   ·exact gives_neg hT T x he hq
   ·simp [ev] at he
 | convert A B x=>exact gives_conv hT A B x he hq
 | makeFunc f fi cs=>exact gives_mkf hT f fi cs he
 | fieldAddr T x f=>exact gives_fld hT T x f he
 | field T x f=>exact gives_field hT T x f he
 | extract x k=>exact gives_ext hT x k he
 | call ci=>exact gives_call hT ci he
 | indexAddr T x i=>
   simp only [cO] at he
   split at he
   ·split at he<;>simp [ev] at he
   ·split at he<;>simp [ev] at he
   ·simp [ev] at he
 | index T x i=>
   simp only [cO] at he
   (repeat' (split at he))<;>simp [ev] at he
 | slice T x lo hi mx=>
   simp only [cO] at he
   (repeat' (split at he))<;>simp [ev] at he
 | makeSlice T x y=>
   simp only [cO] at he
   split at he
   ·split at he
    ·split at he
     ·split at he<;>simp [ev] at he
     ·simp [ev] at he
    ·simp [ev] at he
   ·simp [ev] at he
 | _=>simp [cO,ev] at he
end
end NX
end Go.Proofs.YthlodgjekbidcaaGreat
/-
  The symbolic machine, sound over the model: its run, and the rules for what it stops at. No statement of the seat is proved here.
-/
namespace Go.Proofs.YthlodgjekbidcaaGreat
namespace NX
open Go Go.RowKit
section
variable {c:Ctx} {M:Mem} {S:St} {a:Act} {w:World} {fn:Func} {K:AV→List (Option Blk)→List (Option Sl)→Prop} {k:List It}
theorem getD_put (a:Act) (d:Option Tmp) (v:Value) (t:Nat):(a.put d v).tmps.getD t undef=if some t=d∧t<a.tmps.size then v else a.tmps.getD t undef:=by
 cases d with
 | none=>simp [Act.put]
 | some d=>
   simp only [Act.put,Array.getD_eq_getD_getElem?,Array.getElem?_setIfInBounds,Option.some.injEq]
   by_cases h:t=d
   ·subst h
    by_cases h2:t<a.tmps.size
    ·simp [h2]
    ·simp [h2]
   ·rw [if_neg (fun e=>h e.symm),if_neg (fun e=>h e.1)]
theorem put_size (a:Act) (d:Option Tmp) (v:Value):(a.put d v).tmps.size=a.tmps.size:=by
 cases d<;>simp [Act.put]
theorem RelT.put (hT:RelT c M S a w) {M':Mem} {w':World} {v:AV} {x:Value} (d:Option Tmp) {bs ss} (hM:M.le M') (hS:RelS c M' bs ss w') (hv:v.is M' x):
  RelT c M' ((⟨S.tm,bs,ss⟩:St).put d v) (a.put d x) w':=by
 refine ⟨?_,?_,?_,?_⟩
 ·rw [put_size]
  cases d with
  | none=>exact hT.len
  | some d=>simp only [St.put,Zb1];exact hT.len
 ·intro t
  rw [getD_put]
  cases d with
  | none=>simpa [St.put] using Zo1 hM _ _ (hT.tm t)
  | some d=>
    simp only [St.put,Za1,Option.some.injEq]
    by_cases h:t=d
    ·subst h
     by_cases h2:t<S.tm.length
     ·rw [if_pos ⟨rfl,h2⟩,if_pos ⟨rfl,Nat.lt_of_lt_of_le h2 hT.len⟩];exact hv
     ·rw [if_neg (fun e=>h2 e.2)]
      have:Zd S.tm t = .any:=by
       have hl:S.tm.length≤t:=by omega
       clear hT h2
       generalize S.tm=l at hl
       induction l generalizing t with
       | nil=>rfl
       | cons y l ih=>cases t with
         | zero=>simp at hl
         | succ t=>exact ih t (by simpa using hl)
      rw [this];trivial
    ·rw [if_neg (fun e=>h e.1),if_neg (fun e=>h e.1)]
     exact Zo1 hM _ _ (hT.tm t)
 ·cases d<;>exact hT.df
 ·cases d<;>exact hS
theorem Zr2 {all:Array Oper} {j t:Nat} (h:(all[j]?).bind (·.dst)=some t):yielded all a.tmps j=match a.tmps.getD t undef with | .bool b=>some b | _=>none:=by
 unfold yielded
 rw [h]
 simp only [Option.bind_some]
 cases hh:a.tmps[t]? with
 | none=>simp [hh,undef]
 | some v=>simp [hh];cases v<;>rfl
theorem V_step {o:EOp} {l:List EOp} {S':St} {q:Prop} (he:ev1 S o=some (S',q)) (hq:q) (h:V c fn K (.ops l::k) S'):V c fn K (.ops (o::l)::k) S:=by
 rintro rk M a w ⟨y,r,rfl,hy,hr⟩ hT
 cases y with
 | code x=>exact hy.elim
 | blk i=>exact hy.elim
 | lp _ _=>exact hy.elim
 | sc _=>exact hy.elim
 | ops all rl=>
   obtain ⟨ro,rl',rfl,ho,hl⟩:=mapM_cons hy
   have hgo:∀ {S1 v q'},ev S (cO c.P ro.op)=some (v,S1,q')→q'→S'=S1.put ro.dst v→wpList c.P all (Zx1 c.P fn (RK c K) r) rl'=wpList c.P all (Zx1 c.P fn (RK c K) r) rl'→Region.wanted ro (yielded all a.tmps)=true→
    wpList c.P all (Zx1 c.P fn (RK c K) r) (ro::rl') a w:=by
    intro S1 v q' h1 h2 h3 _ hw
    unfold wpList
    rw [if_pos hw]
    refine .inl ?_
    obtain ⟨d,op,ty,pos,af,g⟩:=ro
    obtain ⟨x,M',w',hrun,hM,hS,htm,hv⟩:=gives hT op h1 h2 d ty pos af g
    have hT':RelT c M' S' (a.put d x) w':=by
     rw [h3]
     have:=hT.put d hM hS hv
     rw [←htm] at this
     exact this
    have hk:=h (.ops all rl'::r) M' (a.put d x) w' ⟨_,_,rfl,hl,hr⟩ hT'
    unfold Oper.wp
    rcases hrun with hrun | ⟨hrun,hx⟩
    ·rw [hrun];exact hk
    ·rw [hrun];subst hx;exact hk
   have hskip:S'=S.put ro.dst .un→Region.wanted ro (yielded all a.tmps)=false→wpList c.P all (Zx1 c.P fn (RK c K) r) (ro::rl') a w:=by
    intro h1 hw
    unfold wpList
    rw [if_neg (by simp [hw])]
    refine h (.ops all rl'::r) M (a.put ro.dst undef) w ⟨_,_,rfl,hl,hr⟩ ?_
    rw [h1]
    exact hT.put ro.dst (.refl M) hT.st (v:=.un) rfl
   show wpList c.P all (Zx1 c.P fn (RK c K) r) (ro::rl') a w
   unfold Za at ho
   cases hg:ro.guard with
   | none=>
     rw [hg] at ho
     simp only [Option.some.injEq] at ho
     subst ho
     simp only [ev1,Option.map_eq_some_iff,Prod.mk.injEq] at he
     obtain ⟨⟨v,S1,q'⟩,h1,h2,h3⟩:=he
     dsimp only at h2 h3
     subst h3
     exact hgo h1 hq h2.symm rfl (by simp [Region.wanted,hg])
   | some jf=>
     obtain ⟨j,f⟩:=jf
     rw [hg] at ho
     dsimp only at ho
     split at ho
     ·rename_i t ht
      simp only [Option.some.injEq] at ho
      subst ho
      have hyl:=Zr2 (a:=a) ht
      have htm:=lgt_is (hT.tm t)
      simp only [ev1] at he
      split at he
      ·rename_i hv
       rw [hv] at htm
       simp only [Option.map_eq_some_iff,Prod.mk.injEq] at he
       obtain ⟨⟨v,S1,q'⟩,h1,h2,h3⟩:=he
       dsimp only at h2 h3
       subst h3
       exact hgo h1 hq h2.symm rfl (by rw [show a.tmps.getD t undef = .bool true from htm] at hyl;simp [Region.wanted,hg,hyl])
      ·rename_i hv
       rw [hv] at htm
       simp only [Option.map_eq_some_iff,Prod.mk.injEq] at he
       obtain ⟨⟨v,S1,q'⟩,h1,h2,h3⟩:=he
       dsimp only at h2 h3
       subst h3
       exact hgo h1 hq h2.symm rfl (by rw [show a.tmps.getD t undef = .bool false from htm] at hyl;simp [Region.wanted,hg,hyl])
      ·rename_i hv
       rw [hv] at htm
       simp only [Option.some.injEq,Prod.mk.injEq] at he
       exact hskip he.1.symm (by rw [show a.tmps.getD t undef = .bool true from htm] at hyl;simp [Region.wanted,hg,hyl])
      ·rename_i hv
       rw [hv] at htm
       simp only [Option.some.injEq,Prod.mk.injEq] at he
       exact hskip he.1.symm (by rw [show a.tmps.getD t undef = .bool false from htm] at hyl;simp [Region.wanted,hg,hyl])
      ·rename_i hv
       rw [hv] at htm
       simp only [Option.some.injEq,Prod.mk.injEq] at he
       exact hskip he.1.symm (by rw [show a.tmps.getD t undef=undef from htm] at hyl;simp [undef] at hyl;simp [Region.wanted,hg,hyl])
      ·simp at he
     ·simp at ho
theorem Zs2:∀(m:Nat) (k:List It) (S:St) (p:Prop),(run m k S p).2.2→V c fn K (run m k S p).1 (run m k S p).2.1→p∧V c fn K k S
 | 0,k,S,p,hp,h=>⟨hp,h⟩
 | m+1,[],S,p,hp,h=>⟨hp,h⟩
 | m+1,.blk _::k,S,p,hp,h=>by
   obtain ⟨h1,h2⟩:=Zs2 m k S p hp h
   exact ⟨h1,V_pop h2⟩
 | m+1,.sc _::k,S,p,hp,h=>by
   obtain ⟨h1,h2⟩:=Zs2 m k S p hp h
   exact ⟨h1,V_sc h2⟩
 | m+1,.lp _ _::k,S,p,hp,h=>⟨hp,h⟩
 | m+1,.ops []::k,S,p,hp,h=>by
   obtain ⟨h1,h2⟩:=Zs2 m k S p hp h
   exact ⟨h1,V_ops_nil h2⟩
 | m+1,.ops (o::l)::k,S,p,hp,h=>by
   simp only [run] at hp h
   split at hp
   ·rename_i r hr
    rw [hr] at h
    obtain ⟨h1,h2⟩:=Zs2 m _ _ _ hp h
    exact ⟨h1.1,V_step (S':=r.1) (q:=r.2) hr h1.2 h2⟩
   ·rename_i hr
    rw [hr] at h
    exact ⟨hp,h⟩
 | m+1,.code e::k,S,p,hp,h=>by
   cases e with
   | skip=>
     obtain ⟨h1,h2⟩:=Zs2 m k S p hp h
     exact ⟨h1,V_skip h2⟩
   | seq x y=>
     obtain ⟨h1,h2⟩:=Zs2 m _ S p hp h
     exact ⟨h1,V_seq h2⟩
   | blk id x=>
     obtain ⟨h1,h2⟩:=Zs2 m _ S p hp h
     exact ⟨h1,V_blk h2⟩
   | reg l=>
     obtain ⟨h1,h2⟩:=Zs2 m _ S p hp h
     exact ⟨h1,V_reg h2⟩
   | exit id=>
     simp only [run] at hp h
     split at hp
     ·rename_i k' hk
      rw [hk] at h
      obtain ⟨h1,h2⟩:=Zs2 m _ S p hp h
      exact ⟨h1,V_exit hk h2⟩
     ·rename_i hk
      rw [hk] at h
      exact ⟨hp,h⟩
   | scope x=>
     obtain ⟨h1,h2⟩:=Zs2 m _ S p hp h
     exact ⟨h1,V_scope h2⟩
   | label l=>
     obtain ⟨h1,h2⟩:=Zs2 m k S p hp h
     exact ⟨h1,V_label h2⟩
   | goto l=>
     simp only [run] at hp h
     split at hp
     ·rename_i k' hk
      rw [hk] at h
      obtain ⟨h1,h2⟩:=Zs2 m _ S p hp h
      exact ⟨h1,V_goto hk h2⟩
     ·rename_i hk
      rw [hk] at h
      exact ⟨hp,h⟩
   | ite o x y=>
     simp only [run] at hp h
     split at hp
     ·rename_i hk
      rw [hk] at h
      obtain ⟨h1,h2⟩:=Zs2 m _ S p hp h
      exact ⟨h1,V_tt hk h2⟩
     ·rename_i hk
      rw [hk] at h
      obtain ⟨h1,h2⟩:=Zs2 m _ S p hp h
      exact ⟨h1,V_ff hk h2⟩
     ·rename_i h1 h2
      split at h
      ·rename_i hk;exact absurd hk h1
      ·rename_i hk;exact absurd hk h2
      ·exact ⟨hp,h⟩
   | _=>exact ⟨hp,h⟩
theorem Zt2 (m:Nat) (h:(run m k S True).2.2∧V c fn K (run m k S True).1 (run m k S True).2.1):V c fn K k S:=
 (Zs2 m k S True h.1 h.2).2
end
end NX
end Go.Proofs.YthlodgjekbidcaaGreat
/-
  The symbolic machine: the rules for what its run stops at. No statement of the seat is proved here.
-/
namespace Go.Proofs.YthlodgjekbidcaaGreat
namespace NX
open Go Go.RowKit
mutual
theorem le_is {M:Mem}:∀(x y:AV) (v:Value),x.le y→x.is M v→y.is M v
 | x,y,v,h,k=>by
   cases y<;>unfold AV.le at h<;>(try dsimp only at h)
   case any=>trivial
   case tt=>split at h<;>first | (subst h;exact k) | exact k
   case ff=>split at h<;>first | (subst h;exact k) | exact k
   case bv e=>split at h<;>(subst h;exact k)
   case iv e=>split at h<;>(subst h;exact k)
   case elt e j=>
    split at h
    ·obtain ⟨a,vs,h1,h2,h3⟩:=k
     obtain ⟨h,rfl⟩:=h
     exact ⟨a,vs,h1,Zu2 _ _ vs h h2,h3⟩
    ·subst h;exact k
   case sl m e=>
    split at h
    ·subst h
     simp only [AV.is] at k;subst k
     exact ⟨none,0,rfl,⟨Nat.le_refl _,fun _=>rfl⟩,fun h=>absurd rfl h⟩
    ·obtain ⟨a,c,h1,h2,h3⟩:=k
     obtain ⟨rfl,h4,h5⟩:=h
     refine ⟨a,c,by rw [←h4];exact h1,by rw [←h4];exact h2,fun hne=>?_⟩
     obtain ⟨ad,vss,g1,g2,g3⟩:=h3 (fun e0=>hne (List.length_eq_zero_iff.1 (by rw [←h4,e0];rfl)))
     exact ⟨ad,vss,g1,h5 _ _ g2,g3⟩
    ·subst h;exact k
   case agg e=>
    split at h
    ·obtain ⟨vs,h1,h2⟩:=k
     exact ⟨vs,h1,Zu2 _ _ vs h h2⟩
    ·subst h;exact k
   case tup e=>
    split at h
    ·obtain ⟨vs,h1,h2⟩:=k
     exact ⟨vs,h1,Zu2 _ _ vs h h2⟩
    ·subst h;exact k
   case clo g e=>
    split at h
    ·obtain ⟨vs,h1,h2⟩:=k
     obtain ⟨rfl,h⟩:=h
     exact ⟨vs,h1,Zu2 _ _ vs h h2⟩
    ·subst h;exact k
   all_goals (change _=_ at h;subst h;exact k)
 termination_by x=>SizeOf.sizeOf x
theorem Zu2 {M:Mem}:∀(l r:List AV) (vs:List Value),AV.le.leL l r→AV.isL M l vs→AV.isL M r vs
 | [],[],_,_,k=>k
 | x::l,y::r,_,h,⟨v,vs,h1,h2,h3⟩=>⟨v,vs,h1,le_is x y v h.1 h2,Zu2 l r vs h.2 h3⟩
 | [],_::_,_,h,_=>h.elim
 | _::_,[],_,h,_=>h.elim
 termination_by l=>SizeOf.sizeOf l
end
theorem leT_is {M:Mem}:∀ {l r:List AV} {f:Nat→Value},leT l r→(∀t,(Zd l t).is M (f t))→r.length≤l.length∧∀t,(Zd r t).is M (f t)
 | l,[],f,_,_=>⟨Nat.zero_le _,fun _=>trivial⟩
 | [],_::_,_,h,_=>h.elim
 | x::l,y::r,f,h,k=>by
   obtain ⟨g1,g2⟩:=leT_is (f:=fun t=>f (t+1)) h.2 (fun t=>k (t+1))
   refine ⟨by simp;exact g1,fun t=>?_⟩
   cases t with
   | zero=>exact le_is x y _ h.1 (k 0)
   | succ t=>exact g2 t
theorem leB_get:∀ {l r:List (Option Blk)},leB l r→r.length≤l.length∧∀j C,Zf r j=some C→∃B,Zf l j=some B∧B.T=C.T∧AV.le.leL B.cells C.cells
 | l,[],_=>⟨Nat.zero_le _,fun j C h=>by simp [Zf] at h⟩
 | [],_::_,h=>by simp [leB] at h
 | _::l,none::r,h=>by
   obtain ⟨g1,g2⟩:=leB_get (l:=l) (r:=r) (by simpa [leB] using h)
   refine ⟨by simp;exact g1,fun j C hj=>?_⟩
   cases j with
   | zero=>simp [Zf] at hj
   | succ j=>exact g2 j C hj
 | none::l,some _::r,h=>by simp [leB] at h
 | some B::l,some C::r,h=>by
   simp only [leB] at h
   obtain ⟨g1,g2⟩:=leB_get h.2.2
   refine ⟨by simp;exact g1,fun j D hj=>?_⟩
   cases j with
   | zero=>simp [Zf] at hj;subst hj;exact ⟨B,rfl,h.1,h.2.1⟩
   | succ j=>exact g2 j D hj
theorem leS_get:∀ {l r:List (Option Sl)},leS l r→r.length≤l.length∧∀j C,Zf r j=some C→∃B,Zf l j=some B∧B.T=C.T∧B.n=C.n∧Zw B.n B.rows C.rows
 | l,[],_=>⟨Nat.zero_le _,fun j C h=>by simp [Zf] at h⟩
 | [],_::_,h=>by simp [leS] at h
 | _::l,none::r,h=>by
   obtain ⟨g1,g2⟩:=leS_get (l:=l) (r:=r) (by simpa [leS] using h)
   refine ⟨by simp;exact g1,fun j C hj=>?_⟩
   cases j with
   | zero=>simp [Zf] at hj
   | succ j=>exact g2 j C hj
 | none::l,some _::r,h=>by simp [leS] at h
 | some B::l,some C::r,h=>by
   simp only [leS] at h
   obtain ⟨g1,g2⟩:=leS_get h.2.2.2
   refine ⟨by simp;exact g1,fun j D hj=>?_⟩
   cases j with
   | zero=>simp [Zf] at hj;subst hj;exact ⟨B,rfl,h.1,h.2.1,h.2.2.1⟩
   | succ j=>exact g2 j D hj
def Mem.cut (M:Mem) (nb ns:Nat):Mem:= {M with nb:=nb,ns:=ns}
mutual
theorem cut_is {M:Mem} {nb ns:Nat}:∀(x:AV) (v:Value),x.is M v→x.ok nb ns=true→x.is (M.cut nb ns) v
 | .any,_,_,_=>trivial
 | .un,_,k,_=>k
 | .tt,_,k,_=>k
 | .ff,_,k,_=>k
 | .bv _,_,k,_=>k
 | .iv _,_,k,_=>k
 | .kv _ _,_,k,_=>k
 | .sv _,_,k,_=>k
 | .nl,_,k,_=>k
 | .nlp,_,k,_=>k
 | .fn _,_,k,_=>k
 | .ptr _ _,_,k,h=>⟨(Z81 _ _).1 h,k.2⟩
 | .osl _,_,k,h=>⟨(Z81 _ _).1 h,k.2⟩
 | .oel _ _ _,_,k,h=>⟨(Z81 _ _).1 h,k.2⟩
 | .ocs _ _ _ _,_,k,h=>⟨(Z81 _ _).1 h,k.2⟩
 | .elt _ _,_,k,_=>k
 | .sl _ _,_,k,_=>k
 | .agg l,_,⟨vs,h1,h2⟩,h=>⟨vs,h1,Zv2 l vs h2 (by simpa [AV.ok] using h)⟩
 | .tup l,_,⟨vs,h1,h2⟩,h=>⟨vs,h1,Zv2 l vs h2 (by simpa [AV.ok] using h)⟩
 | .clo _ l,_,⟨vs,h1,h2⟩,h=>⟨vs,h1,Zv2 l vs h2 (by simpa [AV.ok] using h)⟩
theorem Zv2 {M:Mem} {nb ns:Nat}:∀(l:List AV) (vs:List Value),AV.isL M l vs→Zx nb ns l=true→AV.isL (M.cut nb ns) l vs
 | [],_,k,_=>k
 | x::l,_,⟨v,r,h1,h2,h3⟩,h=>by
   simp only [Zx,Z71] at h
   exact ⟨v,r,h1,cut_is x v h2 h.1,Zv2 l r h3 h.2⟩
end
theorem okL_get {nb ns:Nat}:∀ {l:List AV} (t:Nat),Zx nb ns l=true→(Zd l t).ok nb ns=true
 | [],_,_=>rfl
 | x::l,0,h=>by simp only [Zx,Z71] at h;exact h.1
 | x::l,t+1,h=>by simp only [Zx,Z71] at h;exact okL_get t h.2
theorem okB_get {nb ns:Nat}:∀ {l:List (Option Blk)} (t:Nat) B,okB nb ns l=true→Zf l t=some B→Zx nb ns B.cells=true
 | [],_,_,_,h=>by simp [Zf] at h
 | none::l,0,B,_,h2=>by simp [Zf] at h2
 | some C::l,0,B,h,h2=>by
   simp only [okB,Z71] at h
   simp [Zf] at h2;subst h2;exact h.1
 | none::l,t+1,B,h,h2=>okB_get (l:=l) t B (by simpa [okB] using h) h2
 | some C::l,t+1,B,h,h2=>by
   simp only [okB,Z71] at h
   exact okB_get t B h.2 h2
section
variable {c:Ctx} {M:Mem} {S S':St} {a:Act} {w:World} {fn:Func} {K:AV→List (Option Blk)→List (Option Sl)→Prop} {k:List It}
theorem okRows_is {M:Mem} {n s:Nat}:∀ {rows:List (List AV)} {vss:List (List Value)},AV.isLL M.sl n rows vss→Zy s rows=true→AV.isLL (M.sl.cut 0 s) n rows vss
 | [],_,h,_=>h
 | r::l,_,⟨v,q,h0,h1,h2,h3⟩,hp=>by
   simp only [Zy,Z71] at hp
   exact ⟨v,q,h0,h1,Zv2 _ _ h2 hp.1,okRows_is h3 hp.2⟩
theorem okSS_get {ns:Nat}:∀ {l:List (Option Sl)} {j:Nat} {L:Sl},okSS ns l=true→Zf l j=some L→Zy ns L.rows=true
 | [],_,_,_,h=>by simp [Zf] at h
 | none::l,0,_,_,h=>by simp [Zf] at h
 | none::l,j+1,_,h,hj=>okSS_get (l:=l) (j:=j) (by simpa [okSS] using h) (by simpa [Zf] using hj)
 | some N::l,0,_,h,hj=>by
   simp only [okSS,Z71] at h
   simp only [Zf,Option.some.injEq] at hj
   subst hj;exact h.1
 | some N::l,j+1,_,h,hj=>by
   simp only [okSS,Z71] at h
   exact okSS_get (l:=l) (j:=j) h.2 (by simpa [Zf] using hj)
theorem RelT.weak (hT:RelT c M S a w) (hle:S.le S') (hok:S'.ok=true) (hpn:Z3 c.np (Zj S'.bs)=true) (hqn:Z3 c.nq (Zj S'.ss)=true):RelT c (M.cut S'.bs.length S'.ss.length) S' a w:=by
 obtain ⟨h1,h2,h3⟩:=hle
 simp only [St.ok,Z71,Z91] at hok
 obtain ⟨g1,g2⟩:=leT_is (f:=fun t=>a.tmps.getD t undef) h1 hT.tm
 obtain ⟨b1,b2⟩:=leB_get h2
 obtain ⟨s1,s2⟩:=leS_get h3
 refine ⟨Nat.le_trans g1 hT.len,fun t=>cut_is _ _ (g2 t) (okL_get t hok.1),hT.df,?_⟩
 have h:=hT.st
 refine ⟨rfl,rfl,fun j hj=>h.so j (by have hj':j<S'.ss.length:=hj;rw [h.ns];omega),h.os,h.tape,h.output,h.size,h.block,h.hle,h.hold,?_,?_,?_,?_,?_,⟨by rw [Z81,Z91] at hpn;exact hpn,h.pin.ρ,by rw [Z81,Z91] at hqn;exact hqn,h.pin.σ,h.pin.gl⟩⟩
 ·intro j C hj
  obtain ⟨B,hB,hT1,hle⟩:=b2 j C hj
  obtain ⟨m1,m2,vs,m3,m4,m5⟩:=h.blk j B hB
  exact ⟨m1,m2,vs,Zv2 _ _ (Zu2 _ _ vs hle m3) (okB_get j C hok.2.1 hj),by rw [←hT1];exact m4,m5⟩
 ·intro j C hj
  obtain ⟨L,hL,hT1,hn,hl,hr⟩:=s2 j C hj
  obtain ⟨m0,vss,m1,m2,m3,m4⟩:=h.slc j L hL
  exact ⟨by rw [←hn];exact m0,vss,by rw [←hn];exact okRows_is (s:=S'.ss.length) (hr _ _ m1) (okSS_get hok.2.2 hj),m2,by rw [←hT1,←hn,←hl];exact m3,m4⟩
 ·intro i j B C hi hj e
  obtain ⟨B',hB,_⟩:=b2 i B hi
  obtain ⟨C',hC,_⟩:=b2 j C hj
  exact h.d1 i j B' C' hB hC e
 ·intro i j B L hi hj
  obtain ⟨B',hB,_⟩:=b2 i B hi
  obtain ⟨L',hL,_⟩:=s2 j L hj
  exact h.d2 i j B' L' hB hL
 ·intro i j L N g hi hj e1 e2
  obtain ⟨L',hL,_⟩:=s2 i L hi
  obtain ⟨N',hN,_⟩:=s2 j N hj
  exact h.d3 i j L' N' g hL hN e1 e2
theorem V_weak (S':St) (hle:S.le S') (hok:S'.ok=true) (hpn:Z3 c.np (Zj S'.bs)=true:=by rfl) (hqn:Z3 c.nq (Zj S'.ss)=true:=by rfl) (h:V c fn K k S'):V c fn K k S:=
 fun rk _ a w hc hT=>h rk _ a w hc (hT.weak hle hok hpn hqn)
theorem V_loop {b:EC} {X:Type} (Inv:X→Prop) (Sx:X→St) (μ:X→Nat) (x0:X) (h0:S.le (Sx x0)) (h1:(Sx x0).ok=true) (hpn:Z3 c.np (Zj (Sx x0).bs)=true) (hqn:Z3 c.nq (Zj (Sx x0).ss)=true) (h2:Inv x0)
  (hb:∀n x,Inv x→(∀x',Inv x'→μ x'<μ x→V c fn K (.lp b n::k) (Sx x'))→V c fn K (.code b :: .lp b n::k) (Sx x)):V c fn K (.code (.loop b)::k) S:=by
 have key:∀n x,Inv x→μ x<n→V c fn K (.lp b n::k) (Sx x):=by
  intro n
  induction n with
  | zero=>intro x _ h;omega
  | succ n ih=>
    intro x hx hlt rk M a w ⟨y,r,hrk,hy,hr⟩ hT
    subst hrk
    cases y with
    | code _=>exact hy.elim
    | ops _ _=>exact hy.elim
    | blk _=>exact hy.elim
    | sc _=>exact hy.elim
    | lp y m=>
      obtain ⟨hy,hm⟩:=hy
      subst hm
      have:=hb n x hx (fun x' hx' hlt'=>ih x' hx' (by omega)) (.code y :: .lp y n::r) M a w ⟨_,_,rfl,hy,_,_,rfl,⟨hy,rfl⟩,hr⟩ hT
      refine wp_mono this ?_
      intro e a w hq
      cases e<;>exact hq
 refine V_weak (Sx x0) h0 h1 hpn hqn ?_
 refine Zy1 fun x hx rk M1 a w hr hT=>?_
 obtain ⟨y,rfl,hy⟩:=cC_loop hx
 exact wp_loop_rounds (μ x0+1) (key (μ x0+1) x0 h2 (Nat.lt_succ_self _) (.lp y (μ x0+1)::rk) M1 a w ⟨_,_,rfl,⟨hy,rfl⟩,hr⟩ hT)
theorem Zw2 {P:Program} {w:World} (x:Addr):(asAddr (.pointer (some x))).run P w = .ok x w:=rfl
theorem Zx2 {P:Program}:∀ {rs:List ResultVar} {es:List ERes} {l:List AV},cRes P rs=some es→resL S es=some l→c.P=P→RelT c M S a w→
  ∃vs,(rs.mapM fun | .tmp t=>pure (a.tmps.getD t undef) | .cell x t=>do loadVar t (←asAddr (a.tmps.getD x undef)):Sem (List Value)).run P w = .ok vs w∧AV.isL M l vs
 | [],es,l,h1,h2,_,_=>by
   simp [cRes] at h1;subst h1
   simp [resL] at h2;subst h2
   exact ⟨[],by simp,rfl⟩
 | .tmp t::rs,es,l,h1,h2,hP,hT=>by
   simp only [cRes,Option.map_eq_some_iff] at h1
   obtain ⟨es',h1,rfl⟩:=h1
   simp only [resL,Option.map_eq_some_iff] at h2
   obtain ⟨l',h2,rfl⟩:=h2
   obtain ⟨vs,g1,g2⟩:=Zx2 h1 h2 hP hT
   refine ⟨a.tmps.getD t undef::vs,?_,⟨_,_,rfl,hT.tm t,g2⟩⟩
   rw [List.mapM_cons]
   simp only [Sem.run_bind,Sem.run_pure,Result.andThen_ok]
   rw [g1]
   rfl
 | .cell x T::rs,es,l,h1,h2,hP,hT=>by
   simp only [cRes] at h1
   split at h1<;>simp at h1
   rename_i n es' hag h1'
   subst h1
   have hx:=hT.tm x
   cases n with
   | none=>
     simp only [resL] at h2
     split at h2<;>simp at h2
     rename_i r q hr hq
     subst h2
     obtain ⟨vs,g1,g2⟩:=Zx2 h1' hq hP hT
     obtain ⟨g,o,us,hu,u2,u3,u4⟩:=Zg2 hT hx hr
     obtain ⟨u,rfl⟩:∃u,us=[u]:=by
      cases us with
      | nil=>simp at u3
      | cons u r=>cases r with
        | nil=>exact ⟨u,rfl⟩
        | cons _ _=>simp at u3
     have hc:=u4 0 u (by simp)
     simp only [Nat.add_zero] at hc
     refine ⟨u::vs,?_,⟨_,_,rfl,?_,g2⟩⟩
     ·rw [List.mapM_cons]
      simp only [Sem.run_bind,Sem.run_pure,hu,Zw2,Result.andThen_ok,Zb2 hag hc]
      rw [g1]
      rfl
     ·cases r with
      | nil=>simp [AV.isL] at u2
      | cons y r=>obtain ⟨_,_,h,hy,_⟩:=u2;simp at h;obtain ⟨rfl,rfl⟩:=h;exact hy
   | some n=>
     simp only [resL] at h2
     split at h2<;>simp at h2
     rename_i r q hr hq
     subst h2
     obtain ⟨vs,g1,g2⟩:=Zx2 h1' hq hP hT
     obtain ⟨g,o,us,hu,u2,u3,u4⟩:=Zg2 hT hx hr
     refine ⟨.agg us.toArray::vs,?_,⟨_,_,rfl,⟨us,rfl,u2⟩,g2⟩⟩
     rw [List.mapM_cons]
     simp only [Sem.run_bind,Sem.run_pure,hu,Zw2,Result.andThen_ok,Zc2 hag u3 u4]
     rw [g1]
     rfl
theorem end_post {rs:List ERes} {x:AV} (hT:RelT c M S a w) (hr:cRes c.P fn.results.toList=some rs) (hx:resV S rs=some x) (hK:K x S.bs S.ss):
  a.defers=[]∧∃v,(results fn a.tmps).run c.P w = .ok v w∧RK c K (.returned v) w:=by
 refine ⟨hT.df,?_⟩
 unfold resV at hx
 split at hx
 ·rename_i y hy
  simp at hx;subst hx
  obtain ⟨vs,g1,g2⟩:=Zx2 hr hy rfl hT
  obtain ⟨v,r,rfl,hv,hrr⟩:=g2
  simp [AV.isL] at hrr;subst hrr
  refine ⟨v,?_,v,M,S.bs,S.ss,y,rfl,hT.st,hv,hK⟩
  unfold results
  simp only [Array.mapM_eq_mapM_toList,map_eq_pure_bind,Sem.run_bind]
  erw [g1]
  simp
 ·rename_i l hne hy
  simp at hx;subst hx
  obtain ⟨vs,g1,g2⟩:=Zx2 hr hy rfl hT
  have hl:=Zi1 g2
  refine ⟨.tuple vs.toArray,?_,_,M,S.bs,S.ss,.tup l,rfl,hT.st,⟨vs,rfl,g2⟩,hK⟩
  unfold results
  simp only [Array.mapM_eq_mapM_toList,map_eq_pure_bind,Sem.run_bind]
  erw [g1]
  have h1:vs.length≠1:=by
   intro h1
   rw [h1] at hl
   cases l with
   | nil=>simp at hl
   | cons y r=>cases r with
     | nil=>exact hne y rfl
     | cons _ _=>simp at hl
  simp [h1]
 ·simp at hx
theorem V_ret {rs:List ERes} {x:AV} (hr:cRes c.P fn.results.toList=some rs) (hx:resV S rs=some x) (hK:K x S.bs S.ss):V c fn K (.code .ret::k) S:=
 Zy1 fun y hy rk M a w hk hT=>by
  rw [cC_ret hy]
  refine wp_ret ?_
  have:∀rk,CompL c.P k rk→Zx1 c.P fn (RK c K) rk .ret a w:=by
   clear hk
   induction k with
   | nil=>rintro rk rfl;exact end_post hT hr hx hK
   | cons i k ih=>
     rintro rk ⟨y,r,rfl,hy,hr'⟩
     cases y<;>first | exact ih r hr' | exact Zw1 (by simp) (ih r hr')
  exact this rk hk
end
end NX
end Go.Proofs.YthlodgjekbidcaaGreat
/-
  The symbolic machine: functions, calls, slices. No statement of the seat is proved here.
-/
namespace Go.Proofs.YthlodgjekbidcaaGreat
namespace NX
open Go Go.RowKit
def Zy2 (P:Program) (f:Nat) (args:List AV) (res:AV):Prop:=
 ∀(H:Frag) (w:World) (vs:List Value),(∀k o,H k=some o→w.heap[k]?=some o)→Glob P H→AV.isL (Z0 H) args vs→
  Calls P f vs.toArray w fun e w'=>∃v H',e = .returned v∧Below w.heap.size w w'∧(∀k o,H' k=some o→w'.heap[k]?=some o)∧
   (∀k,k<w.heap.size→H' k=H k)∧res.is (Z0 H') v
structure FnOK (P:Program) (f:Nat) (fn:Func) (body:EC) (rs:List ERes) (np nt:Nat):Prop where
 h:P.funcs[f]?=some fn
 b:∃x,fn.body=some x∧cC P x=some body
 r:cRes P fn.results.toList=some rs
 t:fn.ntmps=np+nt
theorem Zz2:∀(a b:List AV) (t:Nat),Zd (a++b) t=if t<a.length then Zd a t else Zd b (t-a.length)
 | [],b,t=>by simp
 | x::a,b,0=>rfl
 | x::a,b,t+1=>by simp [Zd,Zz2 a b t]
theorem lun_get:∀(n t:Nat),Zd (lun n) t = .un∨(n≤t∧Zd (lun n) t = .any)
 | 0,t=>.inr ⟨Nat.zero_le _,rfl⟩
 | n+1,0=>.inl rfl
 | n+1,t+1=>by
   rcases lun_get n t with h | ⟨h1,h2⟩
   ·exact .inl h
   ·exact .inr ⟨by omega,h2⟩
theorem Z03:∀n,(lun n).length=n
 | 0=>rfl
 | n+1=>by simp [lun,Z03 n]
theorem Z13 {M:Mem}:∀ {l:List AV} {vs:List Value},AV.isL M l vs→∀t,t<l.length→(Zd l t).is M (vs.getD t undef)
 | [],_,_,t,h=>by simp at h
 | x::l,_,⟨v,r,hv,h1,h2⟩,t,h=>by
   subst hv
   cases t with
   | zero=>exact h1
   | succ t=>simpa [Zd] using Z13 h2 t (by simpa using h)
theorem init_rel {P:Program} {w:World} {H:Frag} {args:List AV} {vs:List Value} {nt:Nat} (hH:∀k o,H k=some o→w.heap[k]?=some o) (hgl:Glob P H) (ha:AV.isL (Z0 H) args vs):
  RelT ⟨P,w,H,fun _=>False,0,fun _=>0,0,fun _=>.nilFunc⟩ (Z0 H) (St.init args nt) {tmps:=vs.toArray++Array.replicate nt undef,defers:=[]} w:=by
 have hl:=Zi1 ha
 refine ⟨by simp [St.init,Z03,hl],fun t=>?_,rfl,⟨rfl,rfl,fun j hj=>absurd hj (Nat.not_lt_zero _),rfl,rfl,rfl,Nat.le_refl _,fun _ _ _=>rfl,hH,fun _ _ _=>rfl,fun j B h=>by simp [St.init,Zf] at h,fun j B h=>by simp [St.init,Zf] at h,fun i j B C h=>by simp [St.init,Zf] at h,fun i j B C h=>by simp [St.init,Zf] at h,fun i j B C g h=>by simp [St.init,Zf] at h,⟨Nat.zero_le _,fun _ h=>absurd h (Nat.not_lt_zero _),Nat.zero_le _,fun _ h=>absurd h (Nat.not_lt_zero _),hgl⟩⟩⟩
 simp only [St.init,Zz2,Array.getD_eq_getD_getElem?,Array.getElem?_append,List.size_toArray]
 by_cases h:t<args.length
 ·rw [if_pos h,if_pos (by omega)]
  have:=Z13 ha t h
  simpa [List.getD_eq_getElem?_getD] using this
 ·rw [if_neg h,if_neg (by omega)]
  rcases lun_get nt (t-args.length) with h1 | ⟨_,h1⟩
  ·rw [h1]
   simp only [AV.is,Array.getElem?_replicate]
   split<;>rfl
  ·rw [h1];trivial
def Ctx.of (P:Program) (w0:World) (H0:Frag):Ctx:=⟨P,w0,H0,fun _=>False,0,fun _=>0,0,fun _=>.nilFunc⟩
theorem Z23 {P:Program} {f:Nat} {fn:Func} {body:EC} {rs:List ERes} {np nt:Nat} (hf:FnOK P f fn body rs np nt) {args:List AV} {res:AV} (hn:args.length=np) (hp:res.pu=true)
  (h:∀w0 H0,V (Ctx.of P w0 H0) fn (fun x _ _=>x.le res) [.code body] (St.init args nt)):Zy2 P f args res:=by
 intro H w vs hH hgl ha
 obtain ⟨x,hb,hx⟩:=hf.b
 have hl:=Zi1 ha
 refine calls_of_wp hf.h hb ?_
 have hT:=init_rel (P:=P) (nt:=nt) hH hgl ha
 have e1:fn.ntmps-vs.toArray.size=nt:=by rw [hf.t];simp;omega
 rw [e1]
 refine wp_mono (h w H [.code x] _ _ w ⟨_,_,rfl,hx,rfl⟩ hT) ?_
 have mono:∀e w',RK (Ctx.of P w H) (fun x _ _=>x.le res) e w'→∃v H',e = .returned v∧Below w.heap.size w w'∧(∀k o,H' k=some o→w'.heap[k]?=some o)∧
   (∀k,k<w.heap.size→H' k=H k)∧res.is (Z0 H') v:=by
  rintro e w' ⟨v,M,bs,ss,y,rfl,hS,hv,hle⟩
  exact ⟨v,M.H,rfl,⟨hS.os,hS.tape,hS.output,hS.size,fun k hk=>hS.block k hk (fun h=>h)⟩,hS.hle,fun k hk=>hS.hold k hk (fun h=>h),pu_is _ _ (le_is _ _ _ hle hv) hp⟩
 intro e a w' hq
 cases e with
 | normal=>obtain ⟨h1,v,h2,h3⟩:=hq;exact ⟨h1,v,h2,mono _ _ h3⟩
 | ret=>obtain ⟨h1,v,h2,h3⟩:=hq;exact ⟨h1,v,h2,mono _ _ h3⟩
 | panic ch=>obtain ⟨h1,h2⟩:=hq;exact ⟨h1,mono _ _ h2⟩
 | outgrown=>exact mono _ _ hq
 | exit id=>exact hq
 | goto l=>exact hq
theorem Zy2.le {P:Program} {f:Nat} {args args':List AV} {res res':AV} (h:Zy2 P f args res) (ha:AV.le.leL args' args) (hr:res.le res'):Zy2 P f args' res':=by
 intro H w vs hH hgl hv
 refine (h H w vs hH hgl (Zu2 _ _ _ ha hv)).mono ?_
 rintro e w' ⟨v,H',h1,h2,h3,h4,h5⟩
 exact ⟨v,H',h1,h2,h3,h4,le_is _ _ _ hr h5⟩
section
variable {c:Ctx} {M:Mem} {S S':St} {a:Act} {w:World} {fn:Func} {K:AV→List (Option Blk)→List (Option Sl)→Prop} {k:List It}
theorem RelS.sealed (h:RelS c M S.bs S.ss w) {w':World} {H':Frag} (hb:Below w.heap.size w w') (h1:∀k o,H' k=some o→w'.heap[k]?=some o) (h2:∀k,k<w.heap.size→H' k=M.H k):
  RelS c {M with H:=H'} S.bs S.ss w'∧M.le {M with H:=H'}:=by
 have hle:M.le {M with H:=H'}:=⟨Nat.le_refl _,Nat.le_refl _,fun _ _=>rfl,fun _ _=>rfl,fun k o hk=>by
  have:=(Array.getElem?_eq_some_iff.1 (h.hle k o hk)).1
  exact (h2 k this).trans hk⟩
 have g:=h.grow hb
 refine ⟨⟨g.nb,g.ns,g.so,g.os,g.tape,g.output,g.size,g.block,h1,?_,?_,?_,g.d1,g.d2,g.d3,g.pin.le hle⟩,hle⟩
 ·intro k hk hn
  exact (h2 k (Nat.lt_of_lt_of_le hk h.size)).trans (h.hold k hk hn)
 ·intro j B hj
  obtain ⟨g1,g2,vs,g3,g4,g5⟩:=g.blk j B hj
  exact ⟨g1,(h2 _ (h.blk_lt hj)).trans g2,vs,Zp1 hle _ _ g3,g4,g5⟩
 ·intro j L hj
  obtain ⟨g0,vss,g1,g2,g3,g4⟩:=g.slc j L hj
  exact ⟨g0,vss,Zq1 hle.sl _ _ _ g1,g2,g3,fun gg hg=>⟨(g4 gg hg).1,(h2 _ (h.slc_lt hj hg)).trans (g4 gg hg).2⟩⟩
def gm (S:St):Option (Nat×Bool)→Prop
 | none=>True
 | some (t,f)=>match lgt S.tm t,f with
   | .tt,true=>True
   | .ff,false=>True
   | _,_=>False
theorem V_op {d:Option Nat} {g:Option (Nat×Bool)} {o:EO} {l:List EOp} (hgm:gm S g)
  (h:∀(ro:Oper),ro.dst=d→cO c.P ro.op=o→∀M a w,RelT c M S a w→∀(next:Act→World→Prop) (Q:Exit→Act→World→Prop),
    (∀M' w' v x bs ss,M.le M'→RelS c M' bs ss w'→v.is M' x→V c fn K (.ops l::k) ((⟨S.tm,bs,ss⟩:St).put d v)→next (a.put d x) w')→ro.wp c.P a w next Q):V c fn K (.ops (⟨d,g,o⟩::l)::k) S:=by
 rintro rk M a w ⟨y,r,rfl,hy,hr⟩ hT
 cases y with
 | code x=>exact hy.elim
 | blk i=>exact hy.elim
 | lp _ _=>exact hy.elim
 | sc _=>exact hy.elim
 | ops all rl=>
   obtain ⟨ro,rl',rfl,ho,hl⟩:=mapM_cons hy
   show wpList c.P all (Zx1 c.P fn (RK c K) r) (ro::rl') a w
   have fin:Region.wanted ro (yielded all a.tmps)=true→ro.dst=d→cO c.P ro.op=o→wpList c.P all (Zx1 c.P fn (RK c K) r) (ro::rl') a w:=by
    intro hw h1 h2
    unfold wpList
    rw [if_pos hw]
    refine .inl (h ro h1 h2 M a w hT _ _ ?_)
    intro M' w' v x bs ss hM hS hv hV
    exact hV (.ops all rl'::r) M' _ w' ⟨_,_,rfl,hl,hr⟩ (hT.put d hM hS hv)
   unfold Za at ho
   cases hg:ro.guard with
   | none=>
     rw [hg] at ho
     simp only [Option.some.injEq,EOp.mk.injEq] at ho
     exact fin (by simp [Region.wanted,hg]) ho.1 ho.2.2
   | some jf=>
     obtain ⟨j,f⟩:=jf
     rw [hg] at ho
     dsimp only at ho
     split at ho
     ·rename_i t ht
      simp only [Option.some.injEq,EOp.mk.injEq] at ho
      obtain ⟨h1,h2,h3⟩:=ho
      subst h2
      have hyl:=Zr2 (a:=a) ht
      have htm:=lgt_is (hT.tm t)
      simp only [gm] at hgm
      split at hgm
      ·rename_i hv
       rw [hv] at htm
       exact fin (by rw [show a.tmps.getD t undef = .bool true from htm] at hyl;simp [Region.wanted,hg,hyl]) h1 h3
      ·rename_i hv
       rw [hv] at htm
       exact fin (by rw [show a.tmps.getD t undef = .bool false from htm] at hyl;simp [Region.wanted,hg,hyl]) h1 h3
      ·exact hgm.elim
     ·simp at ho
def Z33 (c:Ctx) (S:St) (o:EO) (v:AV) (S1:St):Prop:=
 ∀(ro:Oper),cO c.P ro.op=o→∀M a w,RelT c M S a w→∀(next:Act→World→Prop) (Q:Exit→Act→World→Prop),
  (∀M' w' x,M.le M'→RelS c M' S1.bs S1.ss w'→v.is M' x→next (a.put ro.dst x) w')→ro.wp c.P a w next Q
theorem Z43 {d:Option Nat} {g:Option (Nat×Bool)} {o:EO} {l:List EOp} {v:AV} {S1:St} (hgm:gm S g) (hs:Z33 c S o v S1) (htm:S1.tm=S.tm)
  (h:V c fn K (.ops l::k) (S1.put d v)):V c fn K (.ops (⟨d,g,o⟩::l)::k) S:=
 V_op hgm fun ro hd ho M a w hT next Q hn=>hs ro ho M a w hT next Q fun M' w' x h1 h2 h3=>by
  have:=hn M' w' v x S1.bs S1.ss h1 h2 h3 (by rw [←htm];exact h)
  rw [hd];exact this
theorem sem_ev {o:EO} {v:AV} {S1:St} {q:Prop} (he:ev S o=some (v,S1,q)) (hq:q):Z33 c S o v S1:=by
 intro ro ho M a w hT next Q hn
 subst ho
 obtain ⟨d,op,ty,pos,af,g⟩:=ro
 obtain ⟨x,M',w',hrun,hM,hS,htm,hv⟩:=gives hT op he hq d ty pos af g
 unfold Oper.wp
 rcases hrun with hrun | ⟨hrun,hx⟩
 ·rw [hrun];exact hn M' w' x hM hS hv
 ·rw [hrun];subst hx;exact hn M' w' _ hM hS hv
theorem Z53 {P:Program} {w:World} {f:Nat} {args:Array Value} (hf:(P.funcs[f]?).any (fun fn=>fn.body.isSome&&!(fn.name == "runtime.NumGoroutine"))=true):
  (callFunc f args).run P w = .ok (.enter f args) w:=by
 unfold callFunc
 cases h:P.funcs[f]? with
 | none=>simp [h] at hf
 | some fn=>
   simp only [h,Option.any_some,Bool.and_eq_true,Bool.not_eq_true'] at hf
   simp only [Sem.run_bind,run_program,Result.andThen_ok,h]
   rw [if_neg (by simp [hf.2])]
   cases hb:fn.body with
   | none=>simp [hb] at hf
   | some x=>simp
theorem Z63 {P:Program} {op:Op} {f:Nat} {xs:List X} (ho:cO P op = .call f xs):
  ∃cargs argTypes,op = .call ⟨.value (.func f),cargs,argTypes⟩∧(P.funcs[f]?).any (fun fn=>fn.body.isSome&&!(fn.name == "runtime.NumGoroutine"))=true∧cargs.toList.map cX=xs:=by
 cases op
 case call ci=>
  obtain ⟨callee,cargs,argTypes⟩:=ci
  cases callee with
  | value o=>
    cases o with
    | func f'=>
      simp only [cO] at ho
      split at ho
      ·rename_i hf
       simp only [EO.call.injEq] at ho
       obtain ⟨rfl,rfl⟩:=ho
       exact ⟨cargs,argTypes,rfl,hf,rfl⟩
      ·simp at ho
    | _=>simp [cO] at ho
  | invoke _ _=>simp [cO] at ho
  | builtin b=>cases b<;>simp only [cO] at ho<;>(repeat' (split at ho))<;>simp at ho
 all_goals (simp only [cO] at ho;(repeat' (split at ho))<;>simp at ho)
theorem cO_callv {P:Program} {op:Op} {f:X} {xs:List X} (ho:cO P op = .callv f xs):
  ∃t cargs argTypes,op = .call ⟨.value (.tmp t),cargs,argTypes⟩∧f = .t t∧cargs.toList.map cX=xs:=by
 cases op
 case call ci=>
  obtain ⟨callee,cargs,argTypes⟩:=ci
  cases callee with
  | value o=>
    cases o with
    | tmp t=>
      simp only [cO,EO.callv.injEq] at ho
      obtain ⟨rfl,rfl⟩:=ho
      exact ⟨t,cargs,argTypes,rfl,rfl,rfl⟩
    | func f'=>simp only [cO] at ho;(repeat' (split at ho))<;>simp at ho
    | _=>simp [cO] at ho
  | invoke _ _=>simp [cO] at ho
  | builtin b=>cases b<;>simp only [cO] at ho<;>(repeat' (split at ho))<;>simp at ho
 all_goals (simp only [cO] at ho;(repeat' (split at ho))<;>simp at ho)
theorem cO_idx {P:Program} {op:Op} {n:Nat} {x i:X} (ho:cO P op = .idx n x i):
  ∃T y j e,op = .indexAddr T y j∧P.underlying T=some (.slice e)∧Z6 P e=some n∧cX y=x∧cX j=i:=by
 cases op<;>simp only [cO] at ho<;>(repeat' (split at ho))<;>(try (simp at ho;done))
 rename_i T y j _ e hT _ n' hn
 simp only [EO.idx.injEq] at ho
 obtain ⟨rfl,rfl,rfl⟩:=ho
 exact ⟨T,y,j,e,rfl,hT,hn,rfl,rfl⟩
theorem cO_app {P:Program} {op:Op} {e n b:Nat} {x y:X} (ho:cO P op = .app e n b x y):
  ∃t p q i z,op = .call ⟨.builtin .append, #[p,q], #[t,t]⟩∧P.underlying t=some (.slice e)∧P.info? e=some i∧i.zero=some z∧i.size=n∧i.bytes=b∧z.cells.size=n∧0<n∧cX p=x∧cX q=y:=by
 cases op
 case call ci=>
  obtain ⟨callee,cargs,argTypes⟩:=ci
  cases callee with
  | value o=>
    cases o with
    | func f'=>simp only [cO] at ho;(repeat' (split at ho))<;>simp at ho
    | _=>simp [cO] at ho
  | invoke _ _=>simp [cO] at ho
  | builtin b=>
    cases b
    case append=>
     simp only [cO] at ho
     split at ho
     ·rename_i t0 t1 p q h1 h2
      split at ho
      ·rename_i ht
       split at ho
       ·rename_i e' hu
        split at ho
        ·rename_i i hi
         split at ho
         ·rename_i z hz
          split at ho
          ·rename_i hzz
           simp only [EO.app.injEq] at ho
           obtain ⟨rfl,rfl,rfl,rfl,rfl⟩:=ho
           subst ht
           have e1:cargs = #[p,q]:=by apply Array.ext';simpa using h2
           have e2:argTypes = #[t0,t0]:=by apply Array.ext';simpa using h1
           subst e1;subst e2
           exact ⟨t0,p,q,i,z,rfl,hu,hi,hz,rfl,rfl,hzz.1,hzz.2,rfl,rfl⟩
          ·simp at ho
         ·simp at ho
        ·simp at ho
       ·simp at ho
      ·(repeat' (split at ho))<;>simp at ho
     ·simp at ho
    all_goals (simp only [cO] at ho;(repeat' (split at ho))<;>simp at ho)
 all_goals (simp only [cO] at ho;(repeat' (split at ho))<;>simp at ho)
theorem sem_call {f:Nat} {xs:List X} {args:List AV} {res:AV} (hf:Zy2 c.P f args res)
  (ha:AV.le.leL (Zq S xs) args) (hp:Zo args=true):Z33 c S (.call f xs) res S:=by
 intro ro ho M a w hT next Q hn
 obtain ⟨dst,op,ty,pos,af,gd⟩:=ro
 dsimp only at ho
 obtain ⟨cargs,argTypes,rfl,hfn,rfl⟩:=Z63 ho
 have hm:=Zs1 _ _ (Zu2 _ _ _ ha (Zj2 hT cargs.toList)) hp
 have hc:=hf M.H w _ hT.st.hle hT.st.pin.gl hm
 have hrun:(execOp a.eval ⟨dst,.call ⟨.value (.func f),cargs,argTypes⟩,ty,pos,af,gd⟩).run c.P w = .ok (.enter f (cargs.map a.eval)) w:=by
  have he:a.eval (.func f) = .func (.func f) #[] #[]:=rfl
  generalize a.eval=ρ at *
  simp [execOp,resolve,Deferred.ofValue,invoke,he,Z53 hfn]
 unfold Oper.wp
 rw [hrun]
 show Calls c.P f (cargs.map a.eval) w _
 have e1:(cargs.toList.map a.eval).toArray=cargs.map a.eval:=by apply Array.ext';simp
 rw [←e1]
 refine hc.mono ?_
 rintro e w' ⟨v,H',rfl,hb,h1,h2,h3⟩
 obtain ⟨hS,hle⟩:=hT.st.sealed hb h1 h2
 exact hn _ w' v hle hS (Zo1 (Zn1 _) _ _ h3)
theorem Z73 {d:Option Nat} {g:Option (Nat×Bool)} {f:Nat} {xs:List X} {l:List EOp} {args:List AV} {res:AV} (hg:gm S g) (hf:Zy2 c.P f args res)
  (ha:AV.le.leL (Zq S xs) args:=by first | exact Zg4 _ | simp [go_sem]) (hp:Zo args=true:=by first | rfl | simp [go_sem]) (h:V c fn K (.ops l::k) (S.put d res)):V c fn K (.ops (⟨d,g,.call f xs⟩::l)::k) S:=
 Z43 hg (sem_call hf ha hp) rfl h
theorem sem_callv {f:Nat} {o:X} {xs:List X} {caps args:List AV} {res:AV} (ho:S.x o = .clo f caps) (hf:Zy2 c.P f args res)
  (hfn:(c.P.funcs[f]?).any (fun fn=>fn.body.isSome&&!(fn.name == "runtime.NumGoroutine"))=true)
  (ha:AV.le.leL (Zq S xs++caps) args) (hp:Zo args=true):Z33 c S (.callv o xs) res S:=by
 intro ro hop M a w hT next Q hn
 obtain ⟨dst,op,ty,pos,af,gd⟩:=ro
 dsimp only at hop
 obtain ⟨t,cargs,argTypes,rfl,rfl,rfl⟩:=cO_callv hop
 have hx:=Z12 hT (.tmp t)
 rw [show S.x (cX (.tmp t)) = .clo f caps from ho] at hx
 obtain ⟨cv,hx1,hx2⟩:=hx
 have hm:=Zs1 _ _ (Zu2 _ _ _ ha (Zj1 (Zj2 hT cargs.toList) hx2)) hp
 have hc:=hf M.H w _ hT.st.hle hT.st.pin.gl hm
 have hrun:(execOp a.eval ⟨dst,.call ⟨.value (.tmp t),cargs,argTypes⟩,ty,pos,af,gd⟩).run c.P w = .ok (.enter f (cargs.map a.eval++cv.toArray)) w:=by
  generalize a.eval=ρ at *
  simp [execOp,resolve,Deferred.ofValue,invoke,hx1,Z53 hfn]
 unfold Oper.wp
 rw [hrun]
 show Calls c.P f (cargs.map a.eval++cv.toArray) w _
 have e1:(cargs.toList.map a.eval++cv).toArray=cargs.map a.eval++cv.toArray:=by apply Array.ext';simp
 rw [←e1]
 refine hc.mono ?_
 rintro e w' ⟨v,H',rfl,hb,h1,h2,h3⟩
 obtain ⟨hS,hle⟩:=hT.st.sealed hb h1 h2
 exact hn _ w' v hle hS (Zo1 (Zn1 _) _ _ h3)
theorem V_callv {d:Option Nat} {g:Option (Nat×Bool)} {f:Nat} {o:X} {xs:List X} {l:List EOp} {caps args:List AV} {res:AV} (hg:gm S g) (ho:S.x o = .clo f caps) (hf:Zy2 c.P f args res)
  (hfn:(c.P.funcs[f]?).any (fun fn=>fn.body.isSome&&!(fn.name == "runtime.NumGoroutine"))=true)
  (ha:AV.le.leL (Zq S xs++caps) args:=by first | exact Zg4 _ | simp [go_sem]) (hp:Zo args=true:=by first | rfl | simp [go_sem]) (h:V c fn K (.ops l::k) (S.put d res)):V c fn K (.ops (⟨d,g,.callv o xs⟩::l)::k) S:=
 Z43 hg (sem_callv ho hf hfn ha hp) rfl h
theorem Z83 {M:Mem} {n:Nat}:∀ {rows:List (List AV)} {vss:List (List Value)},AV.isLL M n rows vss→∀(j:Nat) row,rows[j]?=some row→
  ∃vs,vss[j]?=some vs∧vs.length=n∧AV.isL M row vs∧∀(m:Nat) v,vs[m]?=some v→vss.flatten[j*n+m]?=some v
 | [],_,_,j,row,h=>by simp at h
 | r::rows,_,⟨v,vs,hv,h0,h1,h2⟩,j,row,h=>by
   subst hv
   cases j with
   | zero=>
     simp at h;subst h
     refine ⟨v,by simp,h0,h1,fun m u hm=>?_⟩
     simp only [List.flatten_cons,Nat.zero_mul,Nat.zero_add]
     rw [List.getElem?_append_left (List.getElem?_eq_some_iff.1 hm).1];exact hm
   | succ j=>
     obtain ⟨us,g1,g2,g3,g4⟩:=Z83 h2 j row (by simpa using h)
     refine ⟨us,by simpa using g1,g2,g3,fun m u hm=>?_⟩
     simp only [List.flatten_cons]
     rw [List.getElem?_append_right (by rw [h0,Nat.add_mul];omega),h0,show (j+1)*n+m-n=j*n+m from by rw [Nat.add_mul];omega]
     exact g4 m u hm
theorem idx_run {P:Program} {w:World} {T e n:Nat} (hu:P.underlying T=some (.slice e)) (hs:Z6 P e=some n) {x i:Operand} {ρ:Operand→Value} {ad:Addr} {len cp:Nat} {j:Int}
  (hx:ρ x = .slice (some ad) len cp) (hi:ρ i = .int .i64 j) (h0:0≤j) (h1:j<len) (d:Option Tmp) (ty:TypeId) (pos:String) (af:Array Edge) (gg:Option (Nat×Bool)):
  (execOp ρ ⟨d,.indexAddr T x i,ty,pos,af,gg⟩).run P w = .ok (.value (.pointer (some (ad.add (j.toNat*n))))) w:=by
 simp [execOp,Instr.indexAt,asIntOf,hx,hi,run_underlying hu,Z32 hs,h0,h1]
theorem sem_idx {n m:Nat} {x i:X} {rows:List (List AV)} {j:Int} (row:List AV) (hx:S.x x = .sl m rows) (hi:S.x i = .iv j) (hmn:m=n)
  (h0:0≤j) (hr:rows[j.toNat]?=some row):Z33 c S (.idx n x i) (.elt row 0) S:=by
 intro ro hop M a w hT next Q hn
 obtain ⟨dst,op,ty,pos,af,gd⟩:=ro
 dsimp only at hop
 subst hmn
 obtain ⟨T,y,z,e,rfl,hu,hs,rfl,rfl⟩:=cO_idx hop
 have h1:=Z12 hT y
 have h2:=Z12 hT z
 rw [hx] at h1
 rw [hi] at h2
 obtain ⟨ad,cp,g1,g2,g3⟩:=h1
 have hlt:=(List.getElem?_eq_some_iff.1 hr).1
 obtain ⟨ad,vss,rfl,g4,g5⟩:=g3 (by intro e;subst e;simp at hlt)
 obtain ⟨vs,q1,q2,q3,q4⟩:=Z83 g4 _ row hr
 have hrun:=idx_run (P:=c.P) (w:=w) hu hs g1 h2 h0 (by omega) dst ty pos af gd
 unfold Oper.wp
 rw [hrun]
 refine hn M w _ (.refl M) hT.st ?_
 obtain ⟨s1,s2,cs,T',fr,s3,s4⟩:=g5
 have had:ad.add (j.toNat*m)=⟨ad.block,ad.off+j.toNat*m,none⟩:=by
  obtain ⟨b,o,sp⟩:=ad
  dsimp only at s1
  subst s1
  exact Addr.add_lit _ _ _
 refine ⟨⟨ad.block,ad.off+j.toNat*m,none⟩,vs,by rw [had];rfl,q3,rfl,?_,cs,T',fr,s3,?_⟩
 ·intro v hv
  obtain ⟨t,ht⟩:=List.mem_iff_getElem?.1 hv
  exact s2 v (List.mem_iff_getElem?.2 ⟨_,q4 t v ht⟩)
 ·intro t v ht
  have:=s4 _ v (q4 t v ht)
  dsimp only
  rw [show ad.off+j.toNat*m+t=ad.off+(j.toNat*m+t) from by omega]
  exact this
theorem V_idx {d:Option Nat} {g:Option (Nat×Bool)} {n m:Nat} {x i:X} {l:List EOp} {rows:List (List AV)} {j:Int} (row:List AV) (hg:gm S g) (hx:S.x x = .sl m rows) (hi:S.x i = .iv j) (hmn:m=n)
  (h0:0≤j) (hr:rows[j.toNat]?=some row) (h:V c fn K (.ops l::k) (S.put d (.elt row 0))):V c fn K (.ops (⟨d,g,.idx n x i⟩::l)::k) S:=
 Z43 hg (sem_idx row hx hi hmn h0 hr) rfl h
end
end NX
end Go.Proofs.YthlodgjekbidcaaGreat
/-
  The symbolic machine: sealing, and what grows. No statement of the seat is proved here.
-/
namespace Go.Proofs.YthlodgjekbidcaaGreat
namespace NX
open Go Go.RowKit
theorem pureM_le {H H':Frag} (h:∀k o,H k=some o→H' k=some o):(Z0 H).le (Z0 H'):=
 ⟨Nat.le_refl _,Nat.le_refl _,fun _ _=>rfl,fun _ _=>rfl,h⟩
theorem isLL_pure {H H':Frag} {n:Nat} {rows:List (List AV)} {vss:List (List Value)} (h:∀k o,H k=some o→H' k=some o) (k:AV.isLL (Z0 H) n rows vss):AV.isLL (Z0 H') n rows vss:=
 Zq1 (pureM_le h) _ _ _ k
mutual
theorem subO_is {M M':Mem} {j:Nat} {r:AV} (hM:∀(x:AV) v,x.is M.pure v→x.is M'.pure v) (hH:∀k o,M.H k=some o→M'.H k=some o) (hb:M'.nb=M.nb) (hs:M'.ns=M.ns) (hρ:∀i,i<M.nb→M'.ρ i=M.ρ i) (hσ:∀i,i<M.ns→i≠j→M'.σ i=M.σ i)
  (hr:∀v,j<M.ns→v=M.σ j→r.is M' v):∀(x:AV) (v:Value),x.is M v→(AV.subO j r x).is M' v
 | .any,_,_=>trivial
 | .un,_,k=>k
 | .tt,_,k=>k
 | .ff,_,k=>k
 | .bv _,_,k=>k
 | .iv _,_,k=>k
 | .kv _ _,_,k=>k
 | .sv _,_,k=>k
 | .nl,_,k=>k
 | .nlp,_,k=>k
 | .fn _,_,k=>k
 | .ptr i o,_,k=>⟨by rw [hb];exact k.1,by rw [hρ i k.1];exact k.2⟩
 | .osl i,v,k=>by
   simp only [AV.subO]
   split
   ·rename_i h;rw [beq_iff_eq] at h;subst h;exact hr v k.1 k.2
   ·rename_i h
    have:i≠j:=fun e=>by rw [beq_iff_eq.2 e] at h;simp at h
    exact ⟨by rw [hs];exact k.1,by rw [hσ i k.1 this];exact k.2⟩
 | .oel i a b,v,k=>by
   simp only [AV.subO]
   split
   ·trivial
   ·rename_i h
    have:i≠j:=fun e=>by rw [beq_iff_eq.2 e] at h;simp at h
    exact ⟨by rw [hs];exact k.1,by rw [hσ i k.1 this];exact k.2⟩
 | .ocs i a n b,v,k=>by
   simp only [AV.subO]
   split
   ·trivial
   ·rename_i h
    have:i≠j:=fun e=>by rw [beq_iff_eq.2 e] at h;simp at h
    exact ⟨by rw [hs];exact k.1,by rw [hσ i k.1 this];exact k.2⟩
 | .elt row o,_,⟨a,vs,h1,h2,h3⟩=>⟨a,vs,h1,by
     obtain ⟨us,e1,e2⟩:=hM (.agg row) (.agg vs.toArray) ⟨vs,rfl,h2⟩
     simp at e1;subst e1;exact e2,h3.mono hH⟩
 | .sl n rows,v,k=>hM (.sl n rows) v k
 | .agg l,_,⟨vs,h1,h2⟩=>⟨vs,h1,Z93 hM hH hb hs hρ hσ hr l vs h2⟩
 | .tup l,_,⟨vs,h1,h2⟩=>⟨vs,h1,Z93 hM hH hb hs hρ hσ hr l vs h2⟩
 | .clo _ l,_,⟨vs,h1,h2⟩=>⟨vs,h1,Z93 hM hH hb hs hρ hσ hr l vs h2⟩
theorem Z93 {M M':Mem} {j:Nat} {r:AV} (hM:∀(x:AV) v,x.is M.pure v→x.is M'.pure v) (hH:∀k o,M.H k=some o→M'.H k=some o) (hb:M'.nb=M.nb) (hs:M'.ns=M.ns) (hρ:∀i,i<M.nb→M'.ρ i=M.ρ i) (hσ:∀i,i<M.ns→i≠j→M'.σ i=M.σ i)
  (hr:∀v,j<M.ns→v=M.σ j→r.is M' v):∀(l:List AV) (vs:List Value),AV.isL M l vs→AV.isL M' (Z01 j r l) vs
 | [],_,k=>k
 | x::l,_,⟨v,vs,h1,h2,h3⟩=>⟨v,vs,h1,subO_is hM hH hb hs hρ hσ hr x v h2,Z93 hM hH hb hs hρ hσ hr l vs h3⟩
end
mutual
theorem subB_is {M M':Mem} {j:Nat} {cells:List AV} (hl:M.le M') (hr:∀o v,j<M.nb→v = .pointer (some ⟨M.ρ j,o,none⟩)→AV.is M' (.elt cells o) v):∀(x:AV) (v:Value),x.is M v→(x.subB j cells).is M' v
 | .any,_,_=>trivial
 | .un,_,k=>k
 | .tt,_,k=>k
 | .ff,_,k=>k
 | .bv _,_,k=>k
 | .iv _,_,k=>k
 | .kv _ _,_,k=>k
 | .sv _,_,k=>k
 | .nl,_,k=>k
 | .nlp,_,k=>k
 | .fn _,_,k=>k
 | .ptr i o,v,k=>by
   simp only [AV.subB]
   split
   ·rename_i h;rw [beq_iff_eq] at h;subst h;exact hr o v k.1 k.2
   ·exact Zo1 hl _ _ k
 | .osl i,v,k=>Zo1 hl (.osl i) v k
 | .oel i a b,v,k=>Zo1 hl (.oel i a b) v k
 | .ocs i a n b,v,k=>Zo1 hl (.ocs i a n b) v k
 | .elt row o,v,k=>Zo1 hl (.elt row o) v k
 | .sl n rows,v,k=>Zo1 hl (.sl n rows) v k
 | .agg l,_,⟨vs,h1,h2⟩=>⟨vs,h1,Za3 hl hr l vs h2⟩
 | .tup l,_,⟨vs,h1,h2⟩=>⟨vs,h1,Za3 hl hr l vs h2⟩
 | .clo _ l,_,⟨vs,h1,h2⟩=>⟨vs,h1,Za3 hl hr l vs h2⟩
theorem Za3 {M M':Mem} {j:Nat} {cells:List AV} (hl:M.le M') (hr:∀o v,j<M.nb→v = .pointer (some ⟨M.ρ j,o,none⟩)→AV.is M' (.elt cells o) v):∀(l:List AV) (vs:List Value),AV.isL M l vs→AV.isL M' (Z11 j cells l) vs
 | [],_,k=>k
 | x::l,_,⟨v,vs,h1,h2,h3⟩=>⟨v,vs,h1,subB_is hl hr x v h2,Za3 hl hr l vs h3⟩
end
theorem subOL_get (j:Nat) (r:AV):∀(l:List AV) (t:Nat),Zd (Z01 j r l) t=AV.subO j r (Zd l t)
 | [],_=>rfl
 | _::_,0=>rfl
 | _::l,t+1=>subOL_get j r l t
theorem subBL_get (j:Nat) (r:List AV):∀(l:List AV) (t:Nat),Zd (Z11 j r l) t=(Zd l t).subB j r
 | [],_=>rfl
 | _::_,0=>rfl
 | _::l,t+1=>subBL_get j r l t
theorem Zb3 (j:Nat) (r:AV):∀(l:List AV),(Z01 j r l).length=l.length
 | []=>rfl
 | _::l=>by simp [Z01,Zb3 j r l]
theorem Zc3 (j:Nat) (r:List AV):∀(l:List AV),(Z11 j r l).length=l.length
 | []=>rfl
 | _::l=>by simp [Z11,Zc3 j r l]
theorem Zd3 (f:List AV→List AV):∀l,(mapB f l).length=l.length
 | []=>rfl
 | none::l=>by simp [mapB,Zd3 f l]
 | some _::l=>by simp [mapB,Zd3 f l]
theorem Ze3 (f:List AV→List AV):∀(l:List (Option Blk)) (j:Nat) (B:Blk),Zf (mapB f l) j=some B→∃C,Zf l j=some C∧B=⟨C.T,f C.cells⟩
 | [],j,B,h=>by simp [mapB,Zf] at h
 | none::l,0,B,h=>by simp [mapB,Zf] at h
 | some C::l,0,B,h=>by simp [mapB,Zf] at h;exact ⟨C,rfl,h.symm⟩
 | none::l,j+1,B,h=>Ze3 f l j B (by simpa [mapB,Zf] using h)
 | some _::l,j+1,B,h=>Ze3 f l j B (by simpa [mapB,Zf] using h)
section
variable {c:Ctx} {M:Mem} {S S':St} {a:Act} {w:World} {fn:Func} {K:AV→List (Option Blk)→List (Option Sl)→Prop} {k:List It}
theorem Zf3 {M:Mem} {n:Nat}:∀(rows:List (List AV)) (vss:List (List Value)),AV.isLL M.sl n rows vss→Zz rows=true→AV.isLL M.pure n rows vss
 | [],_,h,_=>h
 | r::l,_,⟨v,q,h0,h1,h2,h3⟩,hp=>by
   simp only [Zz,Z71] at hp
   exact ⟨v,q,h0,h1,Zs1 (M:=M.sl) _ _ h2 hp.1,Zf3 l q h3 hp.2⟩
@[go_sem] theorem puRows_map {α:Type} {f:α→List AV} (h:∀x,Zo (f x)=true):∀l:List α,Zz (l.map f)=true
  | []=>rfl
  | x::l=>by simp only [List.map_cons,Zz,Z71];exact ⟨h x,puRows_map h l⟩
@[go_sem] theorem okRows_map {α:Type} {ns:Nat} {f:α→List AV} (h:∀x,Zx 0 ns (f x)=true):∀l:List α,Zy ns (l.map f)=true
  | []=>rfl
  | x::l=>by simp only [List.map_cons,Zy,Z71];exact ⟨h x,okRows_map h l⟩
theorem Zg3 {z:List AV} (h:Zo z=true):∀n,Zz (List.replicate n z)=true
 | 0=>rfl
 | n+1=>by simp only [List.replicate_succ,Zz,Z71];exact ⟨h,Zg3 h n⟩
theorem Zh3 {ns:Nat} {z:List AV} (h:Zx 0 ns z=true):∀n,Zy ns (List.replicate n z)=true
 | 0=>rfl
 | n+1=>by simp only [List.replicate_succ,Zy,Z71];exact ⟨h,Zh3 h n⟩
theorem Zi3 {ns:Nat} {r:List AV} (hr:Zx 0 ns r=true):∀ {l:List (List AV)} {i:Nat},Zy ns l=true→Zy ns (l.set i r)=true
 | [],_,_=>rfl
 | x::l,0,h=>by simp only [Zy,Z71] at h;simp only [List.set_cons_zero,Zy,Z71];exact ⟨hr,h.2⟩
 | x::l,i+1,h=>by simp only [Zy,Z71] at h;simp only [List.set_cons_succ,Zy,Z71];exact ⟨h.1,Zi3 hr h.2⟩
theorem Zj3 {r:List AV} (hr:Zo r=true):∀ {l:List (List AV)} {i:Nat},Zz l=true→Zz (l.set i r)=true
 | [],_,_=>rfl
 | x::l,0,h=>by simp only [Zz,Z71] at h;simp only [List.set_cons_zero,Zz,Z71];exact ⟨hr,h.2⟩
 | x::l,i+1,h=>by simp only [Zz,Z71] at h;simp only [List.set_cons_succ,Zz,Z71];exact ⟨h.1,Zj3 hr h.2⟩
@[go_sem] theorem okRows_setS {ns:Nat} {r:List AV} {l:List (List AV)} {i:Nat} (h:Z2 (Zy ns l) (Zx 0 ns r)=true):Zy ns (l.set i r)=true:=by
  rw [Z71] at h;exact Zi3 h.2 h.1
@[go_sem] theorem puRows_setS {r:List AV} {l:List (List AV)} {i:Nat} (h:Z2 (Zz l) (Zo r)=true):Zz (l.set i r)=true:=by
  rw [Z71] at h;exact Zj3 h.2 h.1
@[go_sem] theorem puRows_repS {z:List AV} {n:Nat} (h:∀_:Nat,Zo z=true):Zz (List.replicate n z)=true:=Zg3 (h 0) n
@[go_sem] theorem okRows_repS {ns:Nat} {z:List AV} {n:Nat} (h:∀_:Nat,Zx 0 ns z=true):Zy ns (List.replicate n z)=true:=Zh3 (h 0) n
@[go_sem] theorem puRows_app:∀a b:List (List AV),Zz (a++b)=Z2 (Zz a) (Zz b)
  | [],b=>rfl
  | x::a,b=>by
    have:=puRows_app a b
    simp only [List.cons_append,Zz,this]
    cases Zo x<;>rfl
theorem puSS_get:∀ {l:List (Option Sl)} {j:Nat} {L:Sl},puSS l=true→Zf l j=some L→Zz L.rows=true
 | [],_,_,_,h=>by simp [Zf] at h
 | none::l,0,_,_,h=>by simp [Zf] at h
 | none::l,j+1,_,h,hj=>puSS_get (l:=l) (j:=j) (by simpa [puSS] using h) (by simpa [Zf] using hj)
 | some N::l,0,_,h,hj=>by
   simp only [puSS,Z71] at h
   simp only [Zf,Option.some.injEq] at hj
   subst hj;exact h.1
 | some N::l,j+1,_,h,hj=>by
   simp only [puSS,Z71] at h
   exact puSS_get (l:=l) (j:=j) h.2 (by simpa [Zf] using hj)
theorem seal_rel (j:Nat) {L:Sl} (hj:Zf S.ss j=some L) (hpr:Zz L.rows=true) (hT:RelT c M S a w):∃M',M.le M'∧RelT c M' (S.sealS j L) a w∧AV.is M' (.sl L.n L.rows) (M.σ j):=by
 have hS:=hT.st
 obtain ⟨h0,vss,h1,h2,h3,h4⟩:=hS.slc j L hj
 have h1:AV.isLL M.pure L.n L.rows vss:=Zf3 _ _ h1 hpr
 have hjn:j<M.ns:=by rw [hS.ns];exact Zf1 hj
 have key:∃H':Frag,(∀k o,M.H k=some o→H' k=some o)∧(∀k o,H' k=some o→w.heap[k]?=some o)∧(∀k,k<c.w0.heap.size→¬c.bor k→H' k=M.H k)∧
   (∀g,(M.σ j).ownBlock≠some g→H' g=M.H g)∧AV.is (Z0 H') (.sl L.n L.rows) (M.σ j):=by
  rcases h3.2 with ⟨e1,e2⟩ | ⟨g,cp,cur,e1,_,e3,e4,e5,e6,e7⟩
  ·refine ⟨M.H,fun _ _ h=>h,hS.hle,fun _ _ _=>rfl,fun _ _=>rfl,none,0,?_,⟨by omega,fun _=>rfl⟩,fun hne=>?_⟩
   ·rw [e1,e2]
   ·exact absurd (List.length_eq_zero_iff.1 e2) hne
  ·have hg:=h4 g (by rw [e1];rfl)
   refine ⟨fun k=>if k=g then some (.cells cur L.T (0,0)) else M.H k,?_,?_,?_,?_,some ⟨g,0,none⟩,cp,e1,⟨e4,fun h=>by simp at h⟩,fun _=>⟨⟨g,0,none⟩,vss,rfl,?_,rfl,h2,cur,L.T,(0,0),by simp [Z0],?_⟩⟩
   ·intro k o hk
    dsimp only
    rw [if_neg]
    ·exact hk
    ·rintro rfl;rw [hg.2] at hk;simp at hk
   ·intro k o hk
    dsimp only at hk
    split at hk
    ·rename_i e;subst e;simp at hk;subst hk;exact e3
    ·exact hS.hle k o hk
   ·intro k hk hb
    dsimp only
    rw [if_neg]
    rintro rfl
    rcases hg.1 with h | h
    ·omega
    ·exact hb h
   ·intro k hk
    dsimp only
    rw [if_neg]
    rintro rfl
    exact hk (by rw [e1];rfl)
   ·refine isLL_pure (H:=M.H) ?_ h1
    intro k o hk
    show (if k=g then some (Obj.cells cur L.T (0,0)) else M.H k)=some o
    rw [if_neg]
    ·exact hk
    ·intro ek
     rw [ek,hg.2] at hk;simp at hk
   ·intro t v ht
    rw [←e7] at ht
    simp only [Nat.zero_add]
    rw [List.getElem?_take] at ht
    split at ht
    ·simpa using ht
    ·simp at ht
 obtain ⟨H',k1,k2,k3,k4,k5⟩:=key
 let M':Mem:= {M with H:=H'}
 have hle:M.le M':=⟨Nat.le_refl _,Nat.le_refl _,fun _ _=>rfl,fun _ _=>rfl,k1⟩
 have hsub:∀(x:AV) v,x.is M v→(AV.subO j (.sl L.n L.rows) x).is M' v:=
  subO_is (fun x v=>Zo1 hle.pure x v) k1 rfl rfl (fun _ _=>rfl) (fun _ _ _=>rfl) (fun v _ hv=>by subst hv;exact Zo1 (Zn1 M') _ _ k5)
 have hsubL:∀(l:List AV) vs,AV.isL M l vs→AV.isL M' (Z01 j (.sl L.n L.rows) l) vs:=
  Z93 (fun x v=>Zo1 hle.pure x v) k1 rfl rfl (fun _ _=>rfl) (fun _ _ _=>rfl) (fun v _ hv=>by subst hv;exact Zo1 (Zn1 M') _ _ k5)
 refine ⟨M',hle,⟨by simp only [St.sealS,Zb3];exact hT.len,fun t=>?_,hT.df,?_⟩,Zo1 (Zn1 M') _ _ k5⟩
 ·simp only [St.sealS,subOL_get]
  exact hsub _ _ (hT.tm t)
 have liveS:∀i N,Zf (Zg S.ss j none) i=some N→i≠j∧Zf S.ss i=some N:=by
  intro i N hi
  rw [Zd1] at hi
  split at hi
  ·simp at hi
  ·rename_i e
   exact ⟨fun e'=>e ⟨e',Zf1 hj⟩,hi⟩
 refine ⟨by simp only [St.sealS,Zd3];exact hS.nb,by simp only [St.sealS,Ze1];exact hS.ns,hS.so,hS.os,hS.tape,hS.output,hS.size,hS.block,k2,fun k hk hb=>(k3 k hk hb).trans (hS.hold k hk hb),?_,?_,?_,?_,?_,hS.pin.le hle⟩
 ·intro i B hi
  obtain ⟨C,hC,rfl⟩:=Ze3 _ _ _ _ hi
  obtain ⟨g1,g2,vs,g3,g4,g5⟩:=hS.blk i C hC
  exact ⟨g1,(k4 _ (hS.d2 i j C L hC hj)).trans g2,vs,hsubL _ _ g3,g4,g5⟩
 ·intro i N hi
  obtain ⟨hne,hi⟩:=liveS i N hi
  obtain ⟨q0,us,q1,q2,q3,q4⟩:=hS.slc i N hi
  refine ⟨q0,us,Zq1 hle.sl _ _ _ q1,q2,q3,fun g hg=>⟨(q4 g hg).1,(k4 g (fun e=>hne (hS.d3 i j N L g hi hj hg e))).trans (q4 g hg).2⟩⟩
 ·intro i t B C hi ht e
  obtain ⟨B',hB,_⟩:=Ze3 _ _ _ _ hi
  obtain ⟨C',hC,_⟩:=Ze3 _ _ _ _ ht
  exact hS.d1 i t B' C' hB hC e
 ·intro i t B N hi ht
  obtain ⟨B',hB,_⟩:=Ze3 _ _ _ _ hi
  exact hS.d2 i t B' N hB (liveS t N ht).2
 ·intro i t N O g hi ht e1 e2
  exact hS.d3 i t N O g (liveS i N hi).2 (liveS t O ht).2 e1 e2
theorem Zk3 (j:Nat) {L:Sl} (hj:Zf S.ss j=some L) (h:V c fn K k (S.sealS j L)) (hpr:Zz L.rows=true:=by first | rfl | simp [go_sem]):V c fn K k S:=by
 intro rk M a w hc hT
 obtain ⟨M',_,h1,_⟩:=seal_rel j hj hpr hT
 exact h rk M' a w hc h1
theorem sealB_rel (j:Nat) {B:Blk} (hj:Zf S.bs j=some B) (hp:Zo B.cells=true) (hT:RelT c M S a w):∃M',M.le M'∧RelT c M' (S.sealB j B.cells) a w:=by
 have hS:=hT.st
 obtain ⟨m1,m2,vs,m3,m4,m5⟩:=hS.blk j B hj
 let H':Frag:=fun k=>if k=M.ρ j then some (.cells vs.toArray B.T (0,0)) else M.H k
 let M':Mem:= {M with H:=H'}
 have k1:∀k o,M.H k=some o→H' k=some o:=by
  intro k o hk
  show (if k=M.ρ j then _ else _)=_
  rw [if_neg]
  ·exact hk
  ·rintro rfl;rw [m2] at hk;simp at hk
 have k4:∀g,g≠M.ρ j→H' g=M.H g:=fun g hg=>if_neg hg
 have hle:M.le M':=⟨Nat.le_refl _,Nat.le_refl _,fun _ _=>rfl,fun _ _=>rfl,k1⟩
 have hr:∀o v,j<M.nb→v = .pointer (some ⟨M.ρ j,o,none⟩)→AV.is M' (.elt B.cells o) v:=by
  rintro o v _ rfl
  refine ⟨⟨M.ρ j,0,none⟩,vs,by simp,Zp1 hle.pure _ _ (Zs1 _ _ m3 hp),rfl,m5,vs.toArray,B.T,(0,0),if_pos rfl,fun k v hk=>by simpa using hk⟩
 have hsub:=fun x v=>subB_is (cells:=B.cells) hle hr x v
 have hsubL:=fun l vs=>Za3 (cells:=B.cells) hle hr l vs
 refine ⟨M',hle,by simp only [St.sealB,Zc3];exact hT.len,fun t=>?_,hT.df,?_⟩
 ·simp only [St.sealB,subBL_get]
  exact hsub _ _ (hT.tm t)
 have live:∀i C,Zf (Zg (mapB (Z11 j B.cells) S.bs) j none) i=some C→i≠j∧∃D,Zf S.bs i=some D∧C=⟨D.T,Z11 j B.cells D.cells⟩:=by
  intro i C hi
  rw [Zd1] at hi
  split at hi
  ·simp at hi
  ·rename_i e
   exact ⟨fun e'=>e ⟨e',by rw [Zd3];exact Zf1 hj⟩,Ze3 _ _ _ _ hi⟩
 refine ⟨by simp only [St.sealB,Ze1,Zd3];exact hS.nb,hS.ns,hS.so,hS.os,hS.tape,hS.output,hS.size,hS.block,?_,?_,?_,?_,?_,?_,hS.d3,hS.pin.le hle⟩
 ·intro k o hk
  show w.heap[k]?=some o
  have hk':(if k=M.ρ j then some (.cells vs.toArray B.T (0,0)) else M.H k)=some o:=hk
  split at hk'
  ·rename_i e;subst e;simp at hk';subst hk';exact m4
  ·exact hS.hle k o hk'
 ·intro k hk hb
  rw [show M'.H k=M.H k from k4 k (by rintro rfl;rcases m1 with h | h;omega;exact hb h)]
  exact hS.hold k hk hb
 ·intro i C hi
  obtain ⟨hne,D,hD,rfl⟩:=live i C hi
  obtain ⟨g1,g2,us,g3,g4,g5⟩:=hS.blk i D hD
  exact ⟨g1,(k4 _ (fun e=>hne (hS.d1 i j D B hD hj e))).trans g2,us,hsubL _ _ g3,g4,g5⟩
 ·intro i N hi
  obtain ⟨q0,us,q1,q2,q3,q4⟩:=hS.slc i N hi
  exact ⟨q0,us,Zq1 hle.sl _ _ _ q1,q2,q3,fun g hg=>⟨(q4 g hg).1,(k4 g (fun e=>hS.d2 j i B N hj hi (by rw [hg,e]))).trans (q4 g hg).2⟩⟩
 ·intro i t C D hi ht e
  obtain ⟨_,C',hC,_⟩:=live i C hi
  obtain ⟨_,D',hD,_⟩:=live t D ht
  exact hS.d1 i t C' D' hC hD e
 ·intro i t C N hi ht
  obtain ⟨_,C',hC,_⟩:=live i C hi
  exact hS.d2 i t C' N hC ht
theorem V_sealB (j:Nat) {B:Blk} (hj:Zf S.bs j=some B) (hp:Zo B.cells=true) (h:V c fn K k (S.sealB j B.cells)):V c fn K k S:=by
 intro rk M a w hc hT
 obtain ⟨M',_,h1⟩:=sealB_rel j hj hp hT
 exact h rk M' a w hc h1
end
end NX
end Go.Proofs.YthlodgjekbidcaaGreat
