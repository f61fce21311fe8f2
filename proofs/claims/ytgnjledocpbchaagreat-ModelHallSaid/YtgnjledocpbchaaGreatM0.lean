/-
  A small symbolic machine over abstract values: the definitions. No statement of the seat is proved here.
-/
import Derived.Test.YtgnjledocpbchaaGreatProg
import Derived.WalkKit
import Derived.WalkLawsBesides
import Derived.Laws.StructEq
namespace Go.Proofs.YtgnjledocpbchaaGreat
namespace NX
open Go Go.RowKit
theorem Om {p:Prop} (h:p:=by omega):p:=h
abbrev Frag:=Nat→Option Obj
def xk:List (String×Array Value):=[]
def Kb (P:Program) (H:Frag):Prop:=∀s∈xk,∀g,P.globalNamed s.1=some g→∃T fr,H g=some (.cells s.2 T fr)
theorem Kb.mono {P:Program} {H E:Frag} (h:Kb P H) (k:∀k o,H k=some o→E k=some o):Kb P E:=fun s hs g hg=>let ⟨T,fr,e⟩:=h s hs g hg;⟨T,fr,k _ _ e⟩
inductive AV where
 | any
 | un
 | tt
 | ff
 | bv (e:Bool)
 | iv (n:Int)
 | kv (k:IntKind) (n:Int)
 | sv (x:ByteArray)
 | nl
 | nlp
 | fn (f:Nat)
 | ptr (j off:Nat)
 | osl (j:Nat)
 | oel (j i off:Nat)
 | ocs (j lo n m:Nat)
 | elt (row:List AV) (off:Nat)
 | sl (n:Nat) (rows:List (List AV))
 | agg (l:List AV)
 | tup (l:List AV)
 | clo (f:Nat) (caps:List AV)
 deriving Inhabited
structure Mem where
 ρ:Nat→Nat
 σ:Nat→Value
 nb:Nat
 ns:Nat
 H:Frag
def Mem.pure (M:Mem):Mem:=⟨fun _=>0,fun _=>.nilFunc,0,0,M.H⟩
def Mem.sl (M:Mem):Mem:=⟨fun _=>0,M.σ,0,M.ns,M.H⟩
def DL (H:Frag):Mem:=⟨fun _=>0,fun _=>.nilFunc,0,0,H⟩
def LK (H:Frag) (a:Addr) (vs:List Value):Prop:=a.spot=none∧(∀v∈vs,v.oneCell'=true)∧∃cs T fr,H a.block=some (.cells cs T fr)∧∀(k:Nat) v,vs[k]?=some v→cs[a.off+k]?=some v
mutual
def AV.is (M:Mem):AV→Value→Prop
 | .any,_=>True
 | .un,x=>x=undef
 | .tt,x=>x = .bool true
 | .ff,x=>x = .bool false
 | .bv e,x=>x = .bool e
 | .iv n,x=>x = .int .i64 n
 | .kv k n,x=>x = .int k n
 | .sv t,x=>x = .string t
 | .nl,x=>x = .slice none 0 0
 | .nlp,x=>x = .pointer none
 | .fn f,x=>x = .func (.func f) #[] #[]
 | .ptr j off,x=>j<M.nb∧x = .pointer (some ⟨M.ρ j,off,none⟩)
 | .osl j,x=>j<M.ns∧x=M.σ j
 | .oel j k off,x=>j<M.ns∧∃g n c,M.σ j = .slice (some ⟨g,0,none⟩) n c∧x = .pointer (some ⟨g,k+off,none⟩)
 | .ocs j lo n m,x=>j<M.ns∧∃g len c,M.σ j = .slice (some ⟨g,0,none⟩) len c∧x = .slice (some ⟨g,if c=lo then 0 else lo*n,none⟩) m (c-lo)
 | .elt row off,x=>∃(a:Addr) (vs:List Value),x = .pointer (some ⟨a.block,a.off+off,none⟩)∧AV.isL M.pure row vs∧LK M.H a vs
 | .sl n rows,x=>∃a c,x = .slice a rows.length c∧(rows.length≤c∧(a=none→c=0))∧(rows≠ []→∃ad vss,a=some ad∧AV.isLL M.pure n rows vss∧LK M.H ad vss.flatten)
 | .agg l,x=>∃vs:List Value,x = .agg vs.toArray∧AV.isL M l vs
 | .tup l,x=>∃vs:List Value,x = .tuple vs.toArray∧AV.isL M l vs
 | .clo f caps,x=>∃vs:List Value,x = .func (.func f) #[] vs.toArray∧AV.isL M caps vs
def AV.isL (M:Mem):List AV→List Value→Prop
 | [],vs=>vs=[]
 | x::l,vs=>∃v r,vs=v::r∧AV.is M x v∧AV.isL M l r
def AV.isLL (M:Mem) (n:Nat):List (List AV)→List (List Value)→Prop
 | [],vss=>vss=[]
 | x::l,vss=>∃v r,vss=v::r∧v.length=n∧AV.isL M x v∧AV.isLL M n l r
end
def BY:Bool→Bool→Bool
 | true,b=>b
 | false,_=>false
def AF:Nat→Nat→Bool
 | 0,_=>true
 | a+1,b=>match b with
   | 0=>false
   | b+1=>AF a b
inductive X where
 | t (n:Nat)
 | c (a:AV)
 | bad
 deriving Inhabited
inductive EO where
 | mv (x:X)
 | pick (c a b:X)
 | alloc (T:Nat) (zero:List AV)
 | box (T n:Nat) (x:X)
 | load (x:X)
 | loadA (n:Nat) (x:X)
 | store (n:Nat) (a v:X)
 | nilchk (x:X)
 | bin (op:BinOp) (x y:X)
 | eqs (ng:Bool) (ks:List Bool) (x y:X)
 | isnil (ng:Bool) (x:X)
 | bq (ng:Bool) (x y:X)
 | not (x:X)
 | neg (x:X)
 | conv (k:IntKind) (x:X)
 | fld (off:Nat) (x:X)
 | field (off:Nat) (n:Option Nat) (x:X)
 | idx (n:Nat) (x i:X)
 | idxa (len n:Nat) (x i:X)
 | build (zero:List AV) (parts:List (Nat×Nat×X))
 | bsl (T n len:Nat) (zero:List AV) (parts:List (Nat×X))
 | ext (x:X) (i:Nat)
 | mkf (f:Nat) (caps:List X)
 | len (x:X)
 | app (T n bytes:Nat) (x y:X)
 | mm (isMax:Bool) (xs:List X)
 | call (f:Nat) (args:List X)
 | callv (f:X) (args:List X)
 | slice (n:Nat) (x:X) (lo hi:Option X)
 | mks (T n bytes:Nat) (zero:List AV) (x y:X)
 | cap (x:X)
 | apz (T n bytes:Nat) (zero:List AV) (x y:X)
 | ai (len:Nat) (x i:X)
 | copy (n:Nat) (x y:X)
 | clr (zero:List AV) (x:X)
 | sl3 (n:Nat) (x:X) (lo hi mx:Option X)
 | sbin (op:BinOp) (x y:X)
 | slen (x:X)
 | sidx (x i:X)
 | ssl (x:X) (lo hi:Option X)
 | b2s (x:X)
 | xcall (f:Nat) (args:List X)
 | bad
 deriving Inhabited
structure EOp where
 d:Option Nat
 g:Option (Nat×Bool)
 o:EO
 deriving Inhabited
@[go_sem,reducible] def Qa (d:Nat) (o:EO):EOp:=⟨some d,none,o⟩
@[go_sem,reducible] def Qm (d x:Nat):EOp:=Qa d (.mv (.t x))
@[go_sem,reducible] def Qi (d:Nat) (k:Int):EOp:=Qa d (.mv (.c (.iv k)))
@[go_sem,reducible] def Qe (d n x:Nat):EOp:=Qa d (.loadA n (.t x))
@[go_sem,reducible] def Qk (d n x i:Nat):EOp:=Qa d (.idx n (.t x) (.t i))
@[go_sem,reducible] def Qv (d x:Nat) (k:Int):EOp:=Qa d (.bin .add (.t x) (.c (.iv k)))
theorem An {a b:Prop} (h:b) (ha:a:=by simp):a∧b:=⟨ha,h⟩
theorem Bs {α β:Type} {o:Option α} {f:α→Option β} {r:β} (h:o.bind f=some r):∃a,o=some a∧f a=some r:=Option.bind_eq_some_iff.1 h
attribute [go_sem_proc] Nat.reduceBEq Nat.reduceAdd
inductive EC where
 | skip
 | reg (ops:List EOp)
 | drw (ops:List EOp) (af nap:List (List Nat))
 | seq (a b:EC)
 | ite (x:X) (a b:EC)
 | blk (id:Nat) (a:EC)
 | loop (a:EC)
 | exit (id:Nat)
 | scope (a:EC)
 | label (l:Nat)
 | goto (l:Nat)
 | ret
 | bad
 deriving Inhabited
def DB:Value→AV
 | .int .i64 n=>.iv n
 | .int k n=>.kv k n
 | .bool true=>.tt
 | .bool false=>.ff
 | .string s=>.sv s
 | .slice none 0 0=>.nl
 | .pointer none=>.nlp
 | _=>.any
def cX:Operand→X
 | .tmp t=>.t t
 | .const v=>.c (DB v)
 | .func f=>.c (.clo f [])
 | .global _=>.bad
section comp
variable (P:Program)
def F3 (T:TypeId):Option (Option Nat):=
 match P.underlying T,P.info? T with
 | some (.struct _),some i | some (.array _ _),some i=>some (some i.size)
 | some _,some _=>some none
 | _,_=>none
def LH (T:TypeId):Option (List AV):=
 match P.info? T with
 | some i=>match i.zero with
   | some z=>if z.cells.size=i.size then some (z.cells.toList.map DB) else none
   | none=>none
 | none=>none
def Cj (T:TypeId):Option Nat:=(P.info? T).map (·.size)
def TB:List Field→Option (List (Nat×Nat))
 | []=>some []
 | f::l=>match Cj P f.type,TB l with
   | some n,some r=>some ((f.offset,n)::r)
   | _,_=>none
def PJ (g:TypeId→Option (List Bool)):List Field→Nat→Option (List Bool)
 | [],_=>some []
 | f::fs,off=>if f.name≠"_"∧f.offset=off then match g f.type with
   | some l=>(PJ g fs (off+l.length)).map (l ++ ·)
   | none=>none
   else none
def Ie:Nat→TypeId→Option (List Bool)
 | 0,_=>none
 | d+1,T=>match P.underlying T with
   | some (.int _)=>some [true]
   | some .bool=>some [false]
   | some (.struct fs)=>if P.stoodInHeld T=false then match PJ (Ie d) fs.toList 0 with
     | some l=>if Cj P T=some l.length then some l else none
     | none=>none
     else none
   | _=>none
def tC:BinOp→Bool
 | .add | .sub | .mul | .quo | .rem | .and | .or | .xor | .shl | .shr | .eql | .neq | .lss | .leq | .gtr | .geq=>true
 | _=>false
def cO (o:Op):EO:=
 match o with
 | .move x | .assign x=>.mv (cX x)
 | .pick c a b=>.pick (cX c) (cX a) (cX b)
 | .alloc T=>match LH P T with | some z=>.alloc T z | none=>.bad
 | .box T x=>match Cj P T with | some n=>.box T n (cX x) | none=>.bad
 | .load T x=>match F3 P T with
   | some none=>.load (cX x)
   | some (some n)=>.loadA n (cX x)
   | none=>.bad
 | .store T a v=>match Cj P T with | some n=>.store n (cX a) (cX v) | none=>.bad
 | .nilCheck x=>.nilchk (cX x)
 | .binOp op T x y _=>match P.underlying T with
   | some (.int _)=>if tC op then .bin op (cX x) (cX y) else .bad
   | some (.struct _)=>match Ie P 8 T,P.eqGuardType P.depth T with
     | some ks,false=>match op with
       | .eql=>.eqs false ks (cX x) (cX y)
       | .neq=>.eqs true ks (cX x) (cX y)
       | _=>.bad
     | _,_=>.bad
   | some .string=>.sbin op (cX x) (cX y)
   | some .bool=>match op with
     | .eql=>.bq false (cX x) (cX y)
     | .neq=>.bq true (cX x) (cX y)
     | _=>.bad
   | some (.slice _)=>match y with
     | .const (.slice none 0 0)=>match op with
       | .eql=>.isnil false (cX x)
       | .neq=>.isnil true (cX x)
       | _=>.bad
     | _=>.bad
   | some _=>.bad
   | none=>.bad
 | .unOp op _ x=>match op with
   | .not=>.not (cX x)
   | .neg=>.neg (cX x)
   | _=>.bad
 | .convert s t x=>match P.underlying s,P.underlying t with
   | some (.int _),some (.int k)=>.conv k (cX x)
   | some (.slice e),some .string=>match P.underlying e with
     | some (.int .u8)=>.b2s (cX x)
     | _=>.bad
   | _,_=>.bad
 | .fieldAddr T x f=>match P.underlying T with
   | some (.struct fs)=>match fs[f]? with
     | some fd=>if 0<(Cj P fd.type).getD 0 then .fld fd.offset (cX x) else .bad
     | none=>.bad
   | _=>.bad
 | .field T x f=>match P.underlying T with
   | some (.struct fs)=>match fs[f]? with
     | some fd=>match F3 P fd.type with
       | some n=>.field fd.offset n (cX x)
       | none=>.bad
     | none=>.bad
   | _=>.bad
 | .indexAddr T x i=>match P.underlying T with
   | some (.slice e)=>match Cj P e with
     | some n=>.idx n (cX x) (cX i)
     | none=>.bad
   | some (.array l e)=>match Cj P e with
     | some n=>.idxa l n (cX x) (cX i)
     | none=>.bad
   | _=>.bad
 | .index T x i=>match P.underlying T with
   | some (.array l e)=>match F3 P e,Cj P e with
     | some none,some n=>if n=1 then .ai l (cX x) (cX i) else .bad
     | _,_=>.bad
   | some .string=>.sidx (cX x) (cX i)
   | _=>.bad
 | .build T ps=>match P.underlying T,LH P T with
   | some (.struct fs),some z=>match TB P fs.toList with
     | some pl=>match ps.toList.mapM fun (i,x)=>(pl[i]?).map fun on=>(on.1,on.2,cX x) with
       | some l=>.build z l
       | none=>.bad
     | none=>.bad
   | some (.array _ e),some z=>match Cj P e with
     | some n=>.build z (ps.toList.map fun (i,x)=>(i*n,n,cX x))
     | none=>.bad
   | _,_=>.bad
 | .buildSlice T len ps=>match P.underlying T with
   | some (.slice e)=>match Cj P e,LH P e with
     | some n,some z=>.bsl e n len z (ps.toList.map fun (i,x)=>(i,cX x))
     | _,_=>.bad
   | _=>.bad
 | .extract x i=>.ext (cX x) i
 | .makeFunc fn first caps=>match fn with
   | .func f=>if first.size=0 then .mkf f (caps.toList.map cX) else .bad
   | _=>.bad
 | .slice T x lo hi mx=>match P.underlying T,mx with
   | some (.slice e),none=>match Cj P e with
     | some n=>.slice n (cX x) (lo.map cX) (hi.map cX)
     | none=>.bad
   | some (.slice e),some m=>match Cj P e with
     | some n=>.sl3 n (cX x) (lo.map cX) (hi.map cX) (some (cX m))
     | none=>.bad
   | some .string,none=>.ssl (cX x) (lo.map cX) (hi.map cX)
   | _,_=>.bad
 | .makeSlice T x y=>match P.underlying T with
   | some (.slice e)=>match P.info? e with
     | some i=>match i.zero with
       | some z=>if z.cells.size=i.size∧0<i.size then .mks e i.size i.bytes (z.cells.toList.map DB) (cX x) (cX y) else .bad
       | none=>.bad
     | none=>.bad
   | _=>.bad
 | .call c=>match c.callee with
   | .value f=>match f with
     | .func f=>if (P.funcs[f]?).any (fun fn=>fn.body.isSome&&!(fn.name == "runtime.NumGoroutine")) then .call f (c.args.toList.map cX) else .xcall f (c.args.toList.map cX)
     | .tmp t=>.callv (.t t) (c.args.toList.map cX)
     | _=>.bad
   | .invoke _ _=>.bad
   | .builtin bi=>match bi with
     | .len=>match c.argTypes[0]?,c.args.toList with
       | some t0,[x]=>match P.underlying t0 with
         | some (.slice _)=>.len (cX x)
         | some .string=>.slen (cX x)
         | _=>.bad
       | _,_=>.bad
     | .append=>match c.argTypes.toList,c.args.toList with
       | [t0,t1],[x,y]=>if t0=t1 then match P.underlying t0 with
         | some (.slice e)=>match P.info? e with
           | some i=>match i.zero with
             | some z=>if z.cells.size=i.size∧0<i.size then .app e i.size i.bytes (cX x) (cX y) else .bad
             | none=>.bad
           | none=>.bad
         | _=>.bad
         else match P.underlying t0,P.underlying t1 with
          | some (.slice e),some (.int _)=>match P.info? e with
            | some i=>match i.zero with
              | some z=>if z.cells.size=i.size∧0<i.size then .apz e i.size i.bytes (z.cells.toList.map DB) (cX x) (cX y) else .bad
              | none=>.bad
            | none=>.bad
          | _,_=>.bad
       | _,_=>.bad
     | .cap=>match c.argTypes[0]?,c.args.toList with
       | some t0,[x]=>match P.underlying t0 with
         | some (.slice _)=>.cap (cX x)
         | _=>.bad
       | _,_=>.bad
     | .clear=>match c.argTypes.toList,c.args.toList with
       | [t0],[x]=>match P.underlying t0 with
         | some (.slice e)=>match LH P e,Cj P e with
           | some z,some n=>if z.length=n∧0<n then .clr z (cX x) else .bad
           | _,_=>.bad
         | _=>.bad
       | _,_=>.bad
     | .copy=>match c.argTypes.toList,c.args.toList with
       | [t0,_],[x,y]=>match P.underlying t0 with
         | some (.slice e)=>match Cj P e with
           | some n=>.copy n (cX x) (cX y)
           | none=>.bad
         | _=>.bad
       | _,_=>.bad
     | .max=>.mm true (c.args.toList.map cX)
     | .min=>.mm false (c.args.toList.map cX)
     | _=>.bad
 | _=>.bad
def AO (all:Array Oper) (o:Oper):Option EOp:=
 match o.guard with
 | none=>some ⟨o.dst,none,cO P o.op⟩
 | some (j,f)=>match (all[j]?).bind (·.dst) with
   | some t=>some ⟨o.dst,some (t,f),cO P o.op⟩
   | none=>none
def IF (i:Nat):List Nat→Bool
 | []=>false
 | j::l=>match i==j with
   | true=>true
   | false=>IF i l
def LO:List Nat→List Nat→List Nat
 | l,[]=>l
 | l,x::xs=>match IF x l with
   | true=>LO l xs
   | false=>LO (l++[x]) xs
def Lo:List (List Nat)→Nat→List Nat
 | [],_=>[]
 | x::_,0=>x
 | _::l,n+1=>Lo l n
def Pk (acc:List (List Nat)):List Nat→List Nat→List Nat
 | l,[]=>l
 | l,k::w=>Pk acc (LO l (Lo acc k)) w
def Pj:List (List Nat)→List (List Nat)→List (List Nat)
 | acc,[]=>acc
 | acc,w::l=>Pj (acc++[Pk acc w w]) l
def I1 (ops:Array Oper):List (List Nat):=ops.toList.map fun o=>o.after.toList.filterMap fun e=>match Region.binds .any e with | true=>some e.on | false=>none
def Bu (ops:Array Oper):List (List Nat):=Pj [] (I1 ops)
def D7 (ops:Array Oper):List (List Nat):=(List.range ops.size).map fun i=>(List.range ops.size).filter fun j=>match ops[i]?,ops[j]? with
 | some x,some y=>!(i==j)&&!(x.apart ops y)
 | _,_=>false
def cC:Code→Option EC
 | .skip=>some .skip
 | .region _ ops draw=>match ops.toList.mapM (AO P ops) with
   | some l=>match draw with
     | true=>match Region.noSelect ops with
       | true=>some (.drw l (Bu ops) (D7 ops))
       | false=>some .bad
     | false=>some (.reg l)
   | none=>none
 | .seq a b=>match cC a,cC b with | some x,some y=>some (.seq x y) | _,_=>none
 | .cond c a b=>match cC a,cC b with | some x,some y=>some (.ite (cX c) x y) | _,_=>none
 | .block id a=>(cC a).map (.blk id)
 | .loop a=>(cC a).map .loop
 | .exit id=>some (.exit id)
 | .scope a=>(cC a).map .scope
 | .label l=>some (.label l)
 | .goto l=>some (.goto l)
 | .ret=>some .ret
 | _=>some .bad
end comp
structure Blk where
 T:Nat
 cells:List AV
 deriving Inhabited
structure Sl where
 T:Nat
 n:Nat
 rows:List (List AV)
 deriving Inhabited
structure St where
 tm:List AV
 bs:List (Option Blk)
 ss:List (Option Sl)
 deriving Inhabited
def AM:List AV→Nat→AV
 | [],_=>.any
 | x::_,0=>x
 | _::l,n+1=>AM l n
def BC:List AV→Nat→AV→List AV
 | [],_,_=>[]
 | _::l,0,v=>v::l
 | x::l,n+1,v=>x::BC l n v
def Ab {α:Type}:List (Option α)→Nat→Option α
 | [],_=>none
 | x::_,0=>x
 | _::l,n+1=>Ab l n
def Av {α:Type}:List (Option α)→Nat→Option α→List (Option α)
 | [],_,_=>[]
 | _::l,0,v=>v::l
 | x::l,n+1,v=>x::Av l n v
def FE:Nat→List AV→Option (List AV)
 | 0,_=>some []
 | _+1,[]=>none
 | n+1,x::l=>(FE n l).map (x :: ·)
def G5:Nat→List AV→Option (List AV)
 | 0,l=>some l
 | _+1,[]=>none
 | n+1,_::l=>G5 n l
def Db (l:List AV) (o n:Nat):Option (List AV):=
 match G5 o l with
 | some r=>FE n r
 | none=>none
def Fd:List AV→List AV→Option (List AV)
 | l,[]=>some l
 | [],_::_=>none
 | _::l,v::vs=>(Fd l vs).map (v :: ·)
def BS (l:List AV) (o:Nat) (vs:List AV):Option (List AV):=
 match o with
 | 0=>Fd l vs
 | o+1=>match l with
   | []=>none
   | x::l=>(BS l o vs).map (x :: ·)
def Ah {α:Type}:List α→Nat
 | []=>0
 | _::l=>Ah l+1
def St.x (S:St):X→AV
 | .t n=>AM S.tm n
 | .c a=>a
 | .bad=>.any
def St.put (S:St) (d:Option Nat) (v:AV):St:=
 match d with
 | some d=>⟨BC S.tm d v,S.bs,S.ss⟩
 | none=>S
def AV.one:AV→Bool
 | .any | .un | .agg _ | .tup _=>false
 | _=>true
def CA:List AV→Bool
 | []=>true
 | x::l=>BY x.one (CA l)
def AV.cells:AV→Option (List AV)
 | .any | .un | .tup _=>none
 | .agg l=>some l
 | x=>some [x]
def FD:List AV→List (Nat×Nat×AV)→Option (List AV)
 | z,[]=>some z
 | z,(off,n,v)::r=>match v.cells with
   | some cs=>match Ah cs==n with
     | true=>match BS z off cs with
       | some z'=>FD z' r
       | none=>none
     | false=>none
   | none=>none
def PN:Nat→List AV→List AV
 | 0,_=>[]
 | _+1,[]=>[]
 | n+1,x::l=>x::PN n l
def PG:Nat→List AV→List AV
 | 0,l=>l
 | _+1,[]=>[]
 | n+1,_::l=>PG n l
def Kg (n:Nat):Nat→List AV→List (List AV)
 | 0,_=>[]
 | k+1,l=>PN n l::Kg n k (PG n l)
def Hm:Nat→List AV→List AV
 | 0,_=>[]
 | k+1,z=>z++Hm k z
mutual
def AV.pu:AV→Bool
 | .ptr _ _ | .osl _ | .oel _ _ _ | .ocs _ _ _ _=>false
 | .agg l=>AB l
 | .tup l=>AB l
 | .clo _ l=>AB l
 | .any | .un | .tt | .ff | .bv _ | .iv _ | .kv _ _ | .sv _ | .nl | .nlp | .fn _ | .elt _ _ | .sl _ _=>true
def AB:List AV→Bool
 | []=>true
 | x::l=>BY x.pu (AB l)
end
def wr (n:Int):Int:=IntKind.i64.wrap n
def Pd (op:BinOp) (x y:Int):Option (AV×Prop):=
 match op with
 | .add=>some (.iv (wr (x+y)),True)
 | .sub=>some (.iv (wr (x-y)),True)
 | .mul=>some (.iv (wr (x*y)),True)
 | .quo=>some (.iv (wr (x.tdiv y)),y≠0)
 | .rem=>some (.iv (x.tmod y),y≠0)
 | .eql=>some (.bv (decide (x=y)),True)
 | .neq=>some (.bv (!decide (x=y)),True)
 | .lss=>some (.bv (decide (x<y)),True)
 | .leq=>some (.bv (decide (x≤y)),True)
 | .gtr=>some (.bv (decide (y<x)),True)
 | .geq=>some (.bv (decide (y≤x)),True)
 | .shl=>some (.iv (wr (x*2 ^ min y.toNat 64)),0≤y)
 | .shr=>some (.iv (x.fdiv (2 ^ min y.toNat 64)),0≤y)
 | .and=>some (.iv (wr (BitVec.ofInt 64 x &&& BitVec.ofInt 64 y).toNat),True)
 | .or=>some (.iv (wr (BitVec.ofInt 64 x ||| BitVec.ofInt 64 y).toNat),True)
 | .xor=>some (.iv (wr (BitVec.ofInt 64 x ^^^ BitVec.ofInt 64 y).toNat),True)
 | _=>none
def UN:IntKind→IntKind→Bool
 | .i8,.i8 | .i16,.i16 | .i32,.i32 | .i64,.i64 | .u8,.u8 | .u16,.u16 | .u32,.u32 | .u64,.u64=>true
 | _,_=>false
def HH:IntKind→Int→AV
 | .i64,n=>.iv n
 | k,n=>.kv k n
def kw (k:IntKind) (n:Int):Int:=k.wrap n
def Pe (op:BinOp) (k:IntKind) (x y:Int):Option (AV×Prop):=
 match op with
 | .add=>some (.kv k (kw k (x+y)),True)
 | .sub=>some (.kv k (kw k (x-y)),True)
 | .mul=>some (.kv k (kw k (x*y)),True)
 | .quo=>some (.kv k (kw k (x.tdiv y)),y≠0)
 | .rem=>some (.kv k (x.tmod y),y≠0)
 | .eql=>some (.bv (decide (x=y)),True)
 | .neq=>some (.bv (!decide (x=y)),True)
 | .lss=>some (.bv (decide (x<y)),True)
 | .leq=>some (.bv (decide (x≤y)),True)
 | .gtr=>some (.bv (decide (y<x)),True)
 | .geq=>some (.bv (decide (y≤x)),True)
 | .and=>some (.kv k (kw k (BitVec.ofInt k.bits x &&& BitVec.ofInt k.bits y).toNat),True)
 | .or=>some (.kv k (kw k (BitVec.ofInt k.bits x ||| BitVec.ofInt k.bits y).toNat),True)
 | .xor=>some (.kv k (kw k (BitVec.ofInt k.bits x ^^^ BitVec.ofInt k.bits y).toNat),True)
 | _=>none
def HU (op:BinOp) (k:IntKind) (x y:Int):Option (AV×Prop):=
 match op with
 | .shl=>some (HH k (kw k (x*2 ^ min y.toNat k.bits)),0≤y)
 | .shr=>some (HH k (x.fdiv (2 ^ min y.toNat k.bits)),0≤y)
 | _=>none
def F4 (op:BinOp) (u v:AV):Option (AV×Prop):=
 match u with
 | .iv a=>match v with
   | .iv b=>Pd op a b
   | .kv _ b=>HU op .i64 a b
   | _=>none
 | .kv k a=>match v with
   | .kv j b=>match UN k j with
     | true=>match op with
       | .shl=>HU op k a b
       | .shr=>HU op k a b
       | _=>Pe op k a b
     | false=>HU op k a b
   | .iv b=>HU op k a b
   | _=>none
 | _=>none
def seq (x y:ByteArray):Bool:=x.data.toList==y.data.toList
def P0 (op:BinOp) (u v:AV):Option AV:=
 match u with
 | .sv x=>match v with
   | .sv y=>match op with
     | .eql=>some (.bv (seq x y))
     | .neq=>some (.bv (!seq x y))
     | _=>none
   | _=>none
 | _=>none
def YB (x:ByteArray):Int:=x.size
def B6 (S:St):List X→List AV
 | []=>[]
 | x::l=>S.x x::B6 S l
def IC (S:St) (n:Nat):List (Nat×X)→List (Nat×Nat×AV)
 | []=>[]
 | (i,x)::l=>(i*n,n,S.x x)::IC S n l
def Gd (S:St):List (Nat×Nat×X)→List (Nat×Nat×AV)
 | []=>[]
 | (i,n,x)::l=>(i,n,S.x x)::Gd S l
def IG (mx:Bool) (x:Int):List AV→Option Int
 | []=>some x
 | a::l=>match a with
   | .iv y=>match mx with
     | true=>IG mx (max x y) l
     | false=>IG mx (min x y) l
   | _=>none
def Gr:AV→Option Bool
 | .tt=>some true
 | .ff=>some false
 | .bv e=>some e
 | _=>none
def Px:AV→Option Int
 | .iv n=>some n
 | _=>none
def Uw (k:Bool) (x y:AV):Option Bool:=
 match k with
 | true=>match Px x,Px y with
   | some a,some b=>some (decide (a=b))
   | _,_=>none
 | false=>match Gr x,Gr y with
   | some a,some b=>some (a==b)
   | _,_=>none
def Ki:List Bool→List AV→List AV→Option Bool
 | [],l,r=>match l,r with
   | [],[]=>some true
   | _,_=>none
 | k::ks,l,r=>match l,r with
   | x::l,y::r=>match Uw k x y,Ki ks l r with
     | some a,some b=>some (a&&b)
     | _,_=>none
   | _,_=>none
def GY (ng b:Bool):Bool:=
 match ng with
 | true=>!b
 | false=>b
def CS (S:St) (x:AV) (n:Nat):Option (List AV):=
 match x with
 | .ptr j off=>match Ab S.bs j with
   | some B=>Db B.cells off n
   | none=>none
 | .elt row off=>Db row off n
 | _=>none
def tf:AV→AV
 | .bv e=>match e with
   | true=>.tt
   | false=>.ff
 | x=>x
def GG (l:List AV) (t:Nat):AV:=tf (AM l t)
theorem lV {M:Mem} {x:AV} {v:Value} (h:x.is M v):(tf x).is M v:=by
 cases x<;>try exact h
 rename_i e;cases e<;>simpa [tf,AV.is] using h
theorem US {M:Mem} {l:List AV} {t:Nat} {v:Value} (h:(AM l t).is M v):(GG l t).is M v:=lV h
def ev (S:St):EO→Option (AV×St×Prop)
 | .mv x=>some (S.x x,S,True)
 | .pick c a b=>match tf (S.x c) with
   | .tt=>some (S.x a,S,True)
   | .ff=>some (S.x b,S,True)
   | _=>none
 | .alloc T z=>match CA z with
   | true=>some (.ptr (Ah S.bs) 0,⟨S.tm,S.bs++[some ⟨T,z⟩],S.ss⟩,True)
   | false=>none
 | .box T n x=>match (S.x x).cells with
   | some cs=>match BY ((Ah cs==n)) (CA cs) with
     | true=>some (.ptr (Ah S.bs) 0,⟨S.tm,S.bs++[some ⟨T,cs⟩],S.ss⟩,True)
     | false=>none
   | none=>none
 | .load x=>(CS S (S.x x) 1).map fun l=>(AM l 0,S,True)
 | .loadA n x=>(CS S (S.x x) n).map fun l=>(.agg l,S,True)
 | .store n a v=>match S.x a with
   | .ptr j off=>match Ab S.bs j with
     | some B=>match (S.x v).cells with
       | some cs=>match BY ((Ah cs==n)) (CA cs) with
         | true=>(BS B.cells off cs).map fun c=>(.un,⟨S.tm,Av S.bs j (some ⟨B.T,c⟩),S.ss⟩,True)
         | false=>none
       | none=>none
     | none=>none
   | _=>none
 | .nilchk x=>match S.x x with
   | .ptr j off=>some (.ptr j off,S,True)
   | .elt row off=>some (.elt row off,S,True)
   | .oel j k off=>some (.oel j k off,S,True)
   | .clo f caps=>some (.clo f caps,S,True)
   | _=>none
 | .bin op x y=>(F4 op (S.x x) (S.x y)).map fun r=>(r.1,S,r.2)
 | .sbin op x y=>(P0 op (S.x x) (S.x y)).map fun r=>(r,S,True)
 | .slen x=>match S.x x with
   | .sv s=>some (.iv (YB s),S,True)
   | _=>none
 | .eqs ng ks x y=>match S.x x,S.x y with
   | .agg l,.agg r=>(Ki ks l r).map fun e=>(.bv (GY ng e),S,True)
   | _,_=>none
 | .bq ng x y=>match Gr (S.x x),Gr (S.x y) with
   | some a,some b=>some (.bv (GY ng (a==b)),S,True)
   | _,_=>none
 | .not x=>match S.x x with
   | .tt=>some (.ff,S,True)
   | .ff=>some (.tt,S,True)
   | .bv e=>some (.bv (!e),S,True)
   | _=>none
 | .neg x=>match S.x x with
   | .iv a=>some (.iv (wr (-a)),S,True)
   | _=>none
 | .conv .i64 x=>match S.x x with
   | .iv a=>some (.iv (wr a),S,True)
   | .kv _ a=>some (.iv (wr a),S,True)
   | _=>none
 | .conv k x=>match S.x x with
   | .iv a=>some (HH k (kw k a),S,True)
   | .kv _ a=>some (HH k (kw k a),S,True)
   | _=>none
 | .fld off x=>match S.x x with
   | .ptr j o=>some (.ptr j (o+off),S,True)
   | .elt row o=>some (.elt row (o+off),S,True)
   | .oel j k o=>some (.oel j k (o+off),S,True)
   | _=>none
 | .field off (some n) x=>match S.x x with
   | .agg l=>(Db l off n).map fun r=>(.agg r,S,True)
   | _=>none
 | .field off none x=>match S.x x with
   | .agg l=>(Db l off 1).map fun r=>(AM r 0,S,True)
   | _=>none
 | .build z ps=>(FD z (Gd S ps)).map fun l=>(.agg l,S,True)
 | .bsl T n len z ps=>match FD (Hm len z) (IC S n ps) with
   | some l=>match BY (AF 1 n) (BY (AF (len*n) 16777216) (BY ((Ah z==n)) (BY (AB l) (CA l)))) with
     | true=>some (.osl (Ah S.ss),⟨S.tm,S.bs,S.ss++[some ⟨T,n,Kg n len l⟩]⟩,True)
     | false=>none
   | none=>none
 | .ext x k=>match S.x x with
   | .tup l=>(Db l k 1).map fun r=>(AM r 0,S,True)
   | _=>none
 | .mkf f caps=>some (.clo f (B6 S caps),S,True)
 | .len x=>match S.x x with
   | .nl=>some (.iv 0,S,True)
   | .sl _ rows=>some (.iv rows.length,S,True)
   | .osl j=>match Ab S.ss j with
     | some L=>some (.iv L.rows.length,S,True)
     | none=>none
   | .ocs _ _ _ m=>some (.iv m,S,True)
   | _=>none
 | .mm mx xs=>match B6 S xs with
   | .iv x::l=>(IG mx x l).map fun n=>(.iv n,S,True)
   | _=>none
 | _=>none
inductive It where
 | code (c:EC)
 | ops (l:List EOp)
 | blk (id:Nat)
 | lp (b:EC) (n:Nat)
 | sc (e:EC)
 deriving Inhabited
def EW (id:Nat):List It→Option (List It)
 | []=>none
 | x::k=>match x with
   | .blk j=>match j==id with
     | true=>some k
     | false=>EW id k
   | _=>EW id k
def Dv:EC→Nat→Option EC
 | .seq a b,l=>match Dv a l with
   | some r=>some (.seq r b)
   | none=>Dv b l
 | .label j,l=>match j==l with
   | true=>some .skip
   | false=>none
 | _,_=>none
def Gu (l:Nat):List It→Option (List It)
 | []=>none
 | x::k=>match x with
   | .sc e=>match Dv e l with
     | some r=>some (.code r :: .sc e::k)
     | none=>none
   | _=>Gu l k
def J0 (S:St) (o:EOp):Option (St×Prop):=
 match o.g with
 | none=>(ev S o.o).map fun r=>(r.2.1.put o.d r.1,r.2.2)
 | some (t,f)=>match GG S.tm t,f with
   | .tt,true | .ff,false=>(ev S o.o).map fun r=>(r.2.1.put o.d r.1,r.2.2)
   | .tt,false | .ff,true | .un,_=>some (S.put o.d .un,True)
   | _,_=>none
def run:Nat→List It→St→Prop→List It×St×Prop
 | 0,k,S,p=>(k,S,p)
 | _+1,[],S,p=>([],S,p)
 | m+1,.blk _::k,S,p=>run m k S p
 | m+1,.sc _::k,S,p=>run m k S p
 | _+1,.lp b n::k,S,p=>(.lp b n::k,S,p)
 | m+1,.ops []::k,S,p=>run m k S p
 | m+1,.ops (o::l)::k,S,p=>match J0 S o with
   | some r=>run m (.ops l::k) r.1 (p∧r.2)
   | none=>(.ops (o::l)::k,S,p)
 | m+1,.code c::k,S,p=>match c with
   | .skip=>run m k S p
   | .seq a b=>run m (.code a :: .code b::k) S p
   | .blk id a=>run m (.code a :: .blk id::k) S p
   | .reg l=>run m (.ops l::k) S p
   | .exit id=>match EW id k with
     | some k'=>run m k' S p
     | none=>(.code c::k,S,p)
   | .scope a=>run m (.code a :: .sc a::k) S p
   | .label _=>run m k S p
   | .goto l=>match Gu l k with
     | some k'=>run m k' S p
     | none=>(.code c::k,S,p)
   | .ite x a b=>match S.x x with
     | .tt=>run m (.code a::k) S p
     | .ff=>run m (.code b::k) S p
     | _=>(.code c::k,S,p)
   | _=>(.code c::k,S,p)
def Ko (n:Nat) (d e:List (List AV)):Prop:=d.length=e.length∧∀(M:Mem) (vss:List (List Value)),AV.isLL M n d vss→AV.isLL M n e vss
def AV.le:AV→AV→Prop
 | _,.any=>True
 | x,.un=>x = .un
 | x,.tt=>match x with
   | .tt=>True
   | .bv e=>e=true
   | x=>x = .tt
 | x,.ff=>match x with
   | .ff=>True
   | .bv e=>e=false
   | x=>x = .ff
 | x,.bv e=>match x with
   | .tt=>e=true
   | .ff=>e=false
   | .bv d=>d=e
   | x=>x = .bv e
 | x,.iv e=>match x with
   | .iv d=>d=e
   | x=>x = .iv e
 | x,.kv k e=>x = .kv k e
 | x,.sv e=>x = .sv e
 | x,.nl=>x = .nl
 | x,.nlp=>x = .nlp
 | x,.fn f=>x = .fn f
 | x,.ptr i o=>x = .ptr i o
 | x,.osl i=>x = .osl i
 | x,.oel i a b=>x = .oel i a b
 | x,.ocs i a n b=>x = .ocs i a n b
 | x,.elt e j=>match x with
   | .elt d i=>leL d e∧i=j
   | x=>x = .elt e j
 | x,.sl m e=>match x with
   | .nl=>e=[]
   | .sl n d=>n=m∧Ko n d e
   | x=>x = .sl m e
 | x,.agg e=>match x with
   | .agg d=>leL d e
   | x=>x = .agg e
 | x,.tup e=>match x with
   | .tup d=>leL d e
   | x=>x = .tup e
 | x,.clo g e=>match x with
   | .clo f d=>f=g∧leL d e
   | x=>x = .clo g e
where
 leL:List AV→List AV→Prop
  | [],[]=>True
  | x::l,y::r=>AV.le x y∧leL l r
  | _,_=>False
mutual
def AV.ok (nb ns:Nat):AV→Bool
 | .ptr j _=>AF (j+1) nb
 | .osl j=>AF (j+1) ns
 | .oel j _ _=>AF (j+1) ns
 | .ocs j _ _ _=>AF (j+1) ns
 | .agg l=>Cq nb ns l
 | .tup l=>Cq nb ns l
 | .clo _ l=>Cq nb ns l
 | .any | .un | .tt | .ff | .bv _ | .iv _ | .kv _ _ | .sv _ | .nl | .nlp | .fn _ | .elt _ _ | .sl _ _=>true
def Cq (nb ns:Nat):List AV→Bool
 | []=>true
 | x::l=>BY (x.ok nb ns) (Cq nb ns l)
end
def UQ:List AV→List AV→Prop
 | _,[]=>True
 | [],_::_=>False
 | x::l,y::r=>AV.le x y∧UQ l r
def Ib:List (Option Blk)→List (Option Blk)→Prop
 | _,[]=>True
 | _::l,none::r=>Ib l r
 | some B::l,some C::r=>B.T=C.T∧AV.le.leL B.cells C.cells∧Ib l r
 | _,_=>False
def Ic:List (Option Sl)→List (Option Sl)→Prop
 | _,[]=>True
 | _::l,none::r=>Ic l r
 | some B::l,some C::r=>B.T=C.T∧B.n=C.n∧Ko B.n B.rows C.rows∧Ic l r
 | _,_=>False
def JW (nb ns:Nat):List (Option Blk)→Bool
 | []=>true
 | none::l=>JW nb ns l
 | some B::l=>BY (Cq nb ns B.cells) (JW nb ns l)
def CE (ns:Nat):List (List AV)→Bool
 | []=>true
 | r::l=>BY (Cq 0 ns r) (CE ns l)
def JY (ns:Nat):List (Option Sl)→Bool
 | []=>true
 | none::l=>JY ns l
 | some L::l=>BY (CE ns L.rows) (JY ns l)
def St.ok (S:St):Bool:=BY (Cq (Ah S.bs) (Ah S.ss) S.tm) (BY (JW (Ah S.bs) (Ah S.ss) S.bs) (JY (Ah S.ss) S.ss))
def BU:List (List AV)→Bool
 | []=>true
 | r::l=>BY (AB r) (BU l)
def C8:List (Option Sl)→Bool
 | []=>true
 | none::l=>C8 l
 | some L::l=>BY (BU L.rows) (C8 l)
def St.le (S S':St):Prop:=UQ S.tm S'.tm∧Ib S.bs S'.bs∧Ic S.ss S'.ss
mutual
def AV.subO (j:Nat) (r:AV):AV→AV
 | .osl i=>match i==j with
   | true=>r
   | false=>.osl i
 | .oel i a b=>match i==j with
   | true=>.any
   | false=>.oel i a b
 | .ocs i a n b=>match i==j with
   | true=>.any
   | false=>.ocs i a n b
 | .agg l=>.agg (Cr j r l)
 | .tup l=>.tup (Cr j r l)
 | .clo f l=>.clo f (Cr j r l)
 | .any=>.any
 | .un=>.un
 | .tt=>.tt
 | .ff=>.ff
 | .bv e=>.bv e
 | .iv n=>.iv n
 | .kv k n=>.kv k n
 | .sv x=>.sv x
 | .nl=>.nl
 | .nlp=>.nlp
 | .fn f=>.fn f
 | .ptr i o=>.ptr i o
 | .elt row o=>.elt row o
 | .sl n rows=>.sl n rows
def Cr (j:Nat) (r:AV):List AV→List AV
 | []=>[]
 | x::l=>AV.subO j r x::Cr j r l
def AV.subB (j:Nat) (cells:List AV):AV→AV
 | .ptr i o=>match i==j with
   | true=>.elt cells o
   | false=>.ptr i o
 | .agg l=>.agg (FM j cells l)
 | .tup l=>.tup (FM j cells l)
 | .clo f l=>.clo f (FM j cells l)
 | .any=>.any
 | .un=>.un
 | .tt=>.tt
 | .ff=>.ff
 | .bv e=>.bv e
 | .iv n=>.iv n
 | .kv k n=>.kv k n
 | .sv x=>.sv x
 | .nl=>.nl
 | .nlp=>.nlp
 | .fn f=>.fn f
 | .osl i=>.osl i
 | .oel i a b=>.oel i a b
 | .ocs i a n b=>.ocs i a n b
 | .elt row o=>.elt row o
 | .sl n rows=>.sl n rows
def FM (j:Nat) (cells:List AV):List AV→List AV
 | []=>[]
 | x::l=>x.subB j cells::FM j cells l
end
mutual
def AV.ren (p q:Nat):AV→AV
 | .osl i=>match i==p with
   | true=>.osl q
   | false=>match i==q with
     | true=>.any
     | false=>.osl i
 | .oel i a b=>match i==p with
   | true=>.oel q a b
   | false=>match i==q with
     | true=>.any
     | false=>.oel i a b
 | .ocs i a n b=>match i==p with
   | true=>.ocs q a n b
   | false=>match i==q with
     | true=>.any
     | false=>.ocs i a n b
 | .agg l=>.agg (Fq p q l)
 | .tup l=>.tup (Fq p q l)
 | .clo f l=>.clo f (Fq p q l)
 | .any=>.any
 | .un=>.un
 | .tt=>.tt
 | .ff=>.ff
 | .bv e=>.bv e
 | .iv n=>.iv n
 | .kv k n=>.kv k n
 | .sv x=>.sv x
 | .nl=>.nl
 | .nlp=>.nlp
 | .fn f=>.fn f
 | .ptr i o=>.ptr i o
 | .elt row o=>.elt row o
 | .sl n rows=>.sl n rows
def Fq (p q:Nat):List AV→List AV
 | []=>[]
 | x::l=>AV.ren p q x::Fq p q l
end
def Cc (f:List AV→List AV):List (Option Blk)→List (Option Blk)
 | []=>[]
 | none::l=>none::Cc f l
 | some B::l=>some ⟨B.T,f B.cells⟩::Cc f l
def St.sealS (S:St) (j:Nat) (L:Sl):St:=⟨Cr j (.sl L.n L.rows) S.tm,Cc (Cr j (.sl L.n L.rows)) S.bs,Av S.ss j none⟩
def St.sealB (S:St) (j:Nat) (cells:List AV):St:=⟨FM j cells S.tm,Av (Cc (FM j cells) S.bs) j none,S.ss⟩
def St.renS (S:St) (p q:Nat) (L:Sl):St:=⟨Fq p q S.tm,Cc (Fq p q) S.bs,Av (Av S.ss p none) q (some L)⟩
def Ef (S:St) (n:Nat) (x:AV):Option (List (List AV)):=
 match x with
 | .nl=>some []
 | .sl m rows=>match m==n with
   | true=>some rows
   | false=>none
 | .osl j=>match Ab S.ss j with
   | some L=>match L.n==n with
     | true=>some L.rows
     | false=>none
   | none=>none
 | _=>none
inductive ERes where
 | t (n:Nat)
 | c (t:Nat) (n:Option Nat)
def FC (P:Program):List ResultVar→Option (List ERes)
 | []=>some []
 | .tmp t::l=>(FC P l).map (.t t :: ·)
 | .cell t T::l=>match F3 P T,FC P l with
   | some n,some r=>some (.c t n::r)
   | _,_=>none
def HO (S:St):List ERes→Option (List AV)
 | []=>some []
 | .t n::l=>(HO S l).map (AM S.tm n :: ·)
 | .c t none::l=>match CS S (AM S.tm t) 1,HO S l with
   | some r,some q=>some (AM r 0::q)
   | _,_=>none
 | .c t (some n)::l=>match CS S (AM S.tm t) n,HO S l with
   | some r,some q=>some (.agg r::q)
   | _,_=>none
def DM (S:St) (rs:List ERes):Option AV:=
 match HO S rs with
 | some [x]=>some x
 | some l=>some (.tup l)
 | none=>none
def Dh:Nat→List AV
 | 0=>[]
 | n+1=>.un::Dh n
def St.init (args:List AV) (n:Nat):St:=⟨args++Dh n,[],[]⟩
def DV:List Bool→Nat→Bool
 | [],_=>true
 | b::_,0=>b
 | _::l,n+1=>DV l n
def CX:List Bool→Nat→Bool
 | [],_=>false
 | b::_,0=>b
 | _::l,n+1=>CX l n
def Ay:List Bool→Nat→List Bool
 | [],_=>[]
 | _::l,0=>true::l
 | b::l,n+1=>b::Ay l n
def HZ (ld:List Bool):List Nat→Bool
 | []=>true
 | j::l=>BY (CX ld j) (HZ ld l)
def Bx (ld:List Bool):List (List Nat)→Nat→List Nat
 | [],_=>[]
 | w::af,Ac=>match DV ld Ac with
   | true=>Bx ld af (Ac+1)
   | false=>match HZ ld w with
     | true=>Ac::Bx ld af (Ac+1)
     | false=>Bx ld af (Ac+1)
def EN (i:Nat):List Nat→Bool
 | []=>false
 | j::l=>match i==j with
   | true=>true
   | false=>EN i l
def Cv:List (List Nat)→Nat→List Nat
 | [],_=>[]
 | x::_,0=>x
 | _::l,n+1=>Cv l n
def Af:List EOp→Nat→EOp
 | [],_=>⟨none,none,.bad⟩
 | x::_,0=>x
 | _::l,n+1=>Af l n
end NX
end Go.Proofs.YtgnjledocpbchaaGreat
/-
  The symbolic machine, sound over the model: relations between abstract and real states. No statement of the seat is proved here.
-/
namespace Go.Proofs.YtgnjledocpbchaaGreat
namespace NX
open Go Go.RowKit
theorem AS (a b:Bool):BY a b=true↔a=true∧b=true:=by cases a<;>simp [BY]
theorem Da:∀a b:Nat,AF a b=true↔a≤b
 | 0,b=>by simp [AF]
 | a+1,0=>by simp [AF]
 | a+1,b+1=>by simp [AF,Da a b]
theorem Bl {α:Type} (l:List α):Ah l=l.length:=by induction l<;>simp_all [Ah]
theorem Fc (l:List AV) (d:Nat) (v:AV) (t:Nat):AM (BC l d v) t=if t=d∧d<l.length then v else AM l t:=by
 induction l generalizing d t with
 | nil=>simp [BC]
 | cons x l ih=>
   cases d with
   | zero=>cases t<;>simp [BC,AM]
   | succ d=>cases t with
     | zero=>simp [BC,AM]
     | succ t=>simp [BC,AM,ih]
theorem Ig (l:List AV) (d:Nat) (v:AV):(BC l d v).length=l.length:=by
 induction l generalizing d with
 | nil=>rfl
 | cons x l ih=>cases d<;>simp [BC,ih]
theorem tz {α:Type} (l:List (Option α)) (j:Nat) (b:α):Ab l j=some b↔l[j]?=some (some b):=by
 induction l generalizing j with
 | nil=>simp [Ab]
 | cons x l ih=>cases j<;>simp [Ab,ih]
theorem Lp {α:Type} (l:List (Option α)) (x:Option α) (j:Nat):Ab (l++[x]) j=if j=l.length then x else Ab l j:=by
 induction l generalizing j with
 | nil=>cases j<;>simp [Ab]
 | cons y l ih=>cases j<;>simp [Ab,ih]
theorem Dz {α:Type} (l:List (Option α)) (d:Nat) (v:Option α) (j:Nat):Ab (Av l d v) j=if j=d∧d<l.length then v else Ab l j:=by
 induction l generalizing d j with
 | nil=>simp [Av]
 | cons x l ih=>
   cases d with
   | zero=>cases j<;>simp [Av,Ab]
   | succ d=>cases j with
     | zero=>simp [Av,Ab]
     | succ j=>simp [Av,Ab,ih]
theorem Dg {α:Type} (l:List (Option α)) (d:Nat) (v:Option α):(Av l d v).length=l.length:=by
 induction l generalizing d with
 | nil=>rfl
 | cons x l ih=>cases d<;>simp [Av,ih]
theorem CD {α:Type} {l:List (Option α)} {j:Nat} {b:α} (h:Ab l j=some b):j<l.length:=by rw [tz] at h;exact (List.getElem?_eq_some_iff.1 h).1
theorem gH:∀ {n:Nat} {l r:List AV},FE n l=some r→r=l.take n∧n≤l.length
 | 0,l,r,h=>by simp [FE] at h;simp [h]
 | n+1,[],r,h=>by simp [FE] at h
 | n+1,x::l,r,h=>by simp only [FE,Option.map_eq_some_iff] at h;obtain ⟨r',hr,rfl⟩:=h;obtain ⟨h1,h2⟩:=gH hr;simp [h1];omega
theorem ge:∀ {n:Nat} {l r:List AV},G5 n l=some r→r=l.drop n∧n≤l.length
 | 0,l,r,h=>by simp [G5] at h;simp [h]
 | n+1,[],r,h=>by simp [G5] at h
 | n+1,x::l,r,h=>by obtain ⟨h1,h2⟩:=ge (n:=n) (l:=l) h;simp [h1];omega
theorem Kr {l:List AV} {o n:Nat} {r:List AV} (h:Db l o n=some r):r=(l.drop o).take n∧o+n≤l.length:=by
 unfold Db at h;split at h
 ·rename_i r' hr;obtain ⟨rfl,h1⟩:=ge hr;obtain ⟨rfl,h2⟩:=gH h;refine ⟨rfl,?_⟩;simp at h2;omega
 ·simp at h
theorem gJ:∀ {l vs r:List AV},Fd l vs=some r→r=vs++l.drop vs.length∧vs.length≤l.length
 | l,[],r,h=>by simp [Fd] at h;simp [h]
 | [],_::_,r,h=>by simp [Fd] at h
 | _::l,v::vs,r,h=>by simp only [Fd,Option.map_eq_some_iff] at h;obtain ⟨r',hr,rfl⟩:=h;obtain ⟨h1,h2⟩:=gJ hr;simp [h1];omega
theorem Mq:∀ {o:Nat} {l vs r:List AV},BS l o vs=some r→r=l.take o++vs++l.drop (o+vs.length)∧o+vs.length≤l.length
 | 0,l,vs,r,h=>by rw [BS] at h;obtain ⟨h1,h2⟩:=gJ h;simp [h1];omega
 | o+1,[],vs,r,h=>by simp [BS] at h
 | o+1,x::l,vs,r,h=>by simp only [BS,Option.map_eq_some_iff] at h;obtain ⟨r',hr,rfl⟩:=h;obtain ⟨h1,h2⟩:=Mq hr;rw [h1,show o+1+vs.length=(o+vs.length)+1 from by omega];simp;omega
theorem Dl {M:Mem}:∀ {l:List AV} {vs:List Value},AV.isL M l vs→vs.length=l.length
 | [],_,h=>by simp [AV.isL] at h;simp [h]
 | _::_,_,h=>by obtain ⟨v,r,rfl,_,hr⟩:=h;simp [Dl hr]
theorem fW {M:Mem}:∀ {l:List AV} {vs:List Value} (_:AV.isL M l vs) (k:Nat) (x:AV) (v:Value),l[k]?=some x→vs[k]?=some v→x.is M v
 | [],_,_,k,x,v,h1,_=>by simp at h1
 | _::_,_,h,k,x,v,h1,h2=>by
   obtain ⟨u,r,rfl,hu,hr⟩:=h;cases k with
   | zero=>simp at h1 h2;subst h1;subst h2;exact hu
   | succ k=>exact fW hr k x v (by simpa using h1) (by simpa using h2)
theorem ZE {M:Mem}:∀ {l:List AV} {vs:List Value},l.length=vs.length→(∀(k:Nat) (x:AV) (v:Value),l[k]?=some x→vs[k]?=some v→x.is M v)→AV.isL M l vs
 | [],[],_,_=>rfl
 | [],_::_,h,_=>by simp at h
 | _::_,[],h,_=>by simp at h
 | x::l,v::vs,h,hk=>⟨v,vs,rfl,hk 0 x v (by simp) (by simp),ZE (by simpa using h) (fun k y u h1 h2=>hk (k+1) y u (by simpa using h1) (by simpa using h2))⟩
theorem Dw {M:Mem} {a b:List AV} {x y:List Value} (h:AV.isL M a x) (k:AV.isL M b y):AV.isL M (a++b) (x++y):=by
 induction a generalizing x with
 | nil=>simp [AV.isL] at h;subst h;simpa using k
 | cons u a ih=>obtain ⟨v,r,rfl,hv,hr⟩:=h;exact ⟨v,r++y,rfl,hv,ih hr⟩
theorem G3 {M:Mem} {a:List AV} {x:List Value} (n:Nat) (h:AV.isL M a x):AV.isL M (a.take n) (x.take n):=by
 induction a generalizing x n with
 | nil=>simp [AV.isL] at h;subst h;simp [AV.isL]
 | cons u a ih=>
   obtain ⟨v,r,rfl,hv,hr⟩:=h;cases n with
   | zero=>simp [AV.isL]
   | succ n=>exact ⟨v,r.take n,by simp,hv,ih n hr⟩
theorem G2 {M:Mem} {a:List AV} {x:List Value} (n:Nat) (h:AV.isL M a x):AV.isL M (a.drop n) (x.drop n):=by
 induction a generalizing x n with
 | nil=>simp [AV.isL] at h;subst h;simp [AV.isL]
 | cons u a ih=>
   obtain ⟨v,r,rfl,hv,hr⟩:=h;cases n with
   | zero=>exact ⟨v,r,rfl,hv,hr⟩
   | succ n=>simpa using ih n hr
structure Mem.le (M M':Mem):Prop where
 nb:M.nb≤M'.nb
 ns:M.ns≤M'.ns
 ρ:∀j,j<M.nb→M'.ρ j=M.ρ j
 σ:∀j,j<M.ns→M'.σ j=M.σ j
 H:∀k o,M.H k=some o→M'.H k=some o
theorem Mem.le.refl (M:Mem):M.le M:=⟨Nat.le_refl _,Nat.le_refl _,fun _ _=>rfl,fun _ _=>rfl,fun _ _ h=>h⟩
theorem Mem.le.trans {A B C:Mem} (h:A.le B) (k:B.le C):A.le C:=⟨Nat.le_trans h.nb k.nb,Nat.le_trans h.ns k.ns,fun j hj=>(k.ρ j (Nat.lt_of_lt_of_le hj h.nb)).trans (h.ρ j hj),fun j hj=>(k.σ j (Nat.lt_of_lt_of_le hj h.ns)).trans (h.σ j hj),fun _ _ x=>k.H _ _ (h.H _ _ x)⟩
theorem Mem.le.pure {A B:Mem} (h:A.le B):A.pure.le B.pure:=⟨Nat.le_refl _,Nat.le_refl _,fun _ _=>rfl,fun _ _=>rfl,h.H⟩
theorem Mem.le.sl {A B:Mem} (h:A.le B):A.sl.le B.sl:=⟨Nat.le_refl _,h.ns,fun _ _=>rfl,h.σ,h.H⟩
theorem OP (M:Mem):M.pure.le M.sl:=⟨Nat.le_refl _,Nat.zero_le _,fun _ _=>rfl,fun _ h=>absurd h (Nat.not_lt_zero _),fun _ _ h=>h⟩
theorem xa (M:Mem):M.sl.le M:=⟨Nat.zero_le _,Nat.le_refl _,fun _ h=>absurd h (Nat.not_lt_zero _),fun _ _=>rfl,fun _ _ h=>h⟩
theorem OO (M:Mem):M.pure.le M:=⟨Nat.zero_le _,Nat.zero_le _,fun _ h=>absurd h (Nat.not_lt_zero _),fun _ h=>absurd h (Nat.not_lt_zero _),fun _ _ h=>h⟩
theorem LK.mono {H E:Frag} (h:∀k o,H k=some o→E k=some o) {a:Addr} {vs:List Value} (k:LK H a vs):LK E a vs:=let ⟨h1,h2,cs,T,fr,h3,h4⟩:=k;⟨h1,h2,cs,T,fr,h _ _ h3,h4⟩
mutual
theorem Dx {M M':Mem} (h:M.le M'):∀(x:AV) (v:Value),x.is M v→x.is M' v
 | .any,_,_=>trivial
 | .un,_,k=>k
 | .tt,_,k=>k
 | .ff,_,k=>k
 | .bv _,_,k=>k
 | .iv _,_,k=>k
 | .kv _ _,_,k=>k
 | .sv _,_,k=>k
 | .nl,_,k=>k
 | .nlp,_,k=>k
 | .fn _,_,k=>k
 | .ptr j off,x,k=>⟨Nat.lt_of_lt_of_le k.1 h.nb,by rw [h.ρ j k.1];exact k.2⟩
 | .osl j,x,k=>⟨Nat.lt_of_lt_of_le k.1 h.ns,by rw [h.σ j k.1];exact k.2⟩
 | .oel j a off,x,k=>⟨Nat.lt_of_lt_of_le k.1 h.ns,by rw [h.σ j k.1];exact k.2⟩
 | .ocs j a n off,x,k=>⟨Nat.lt_of_lt_of_le k.1 h.ns,by rw [h.σ j k.1];exact k.2⟩
 | .elt row off,x,⟨a,vs,h1,h2,h3⟩=>⟨a,vs,h1,E9 h.pure row vs h2,h3.mono h.H⟩
 | .sl n rows,x,⟨a,c,h1,h2,h3⟩=>⟨a,c,h1,h2,fun hne=>let ⟨ad,vss,g1,g2,g3⟩:=h3 hne;⟨ad,vss,g1,F9 h.pure n rows vss g2,g3.mono h.H⟩⟩
 | .agg l,x,⟨vs,h1,h2⟩=>⟨vs,h1,E9 h l vs h2⟩
 | .tup l,x,⟨vs,h1,h2⟩=>⟨vs,h1,E9 h l vs h2⟩
 | .clo f l,x,⟨vs,h1,h2⟩=>⟨vs,h1,E9 h l vs h2⟩
theorem E9 {M M':Mem} (h:M.le M'):∀(l:List AV) (vs:List Value),AV.isL M l vs→AV.isL M' l vs
 | [],_,k=>k
 | x::l,_,⟨v,r,h1,h2,h3⟩=>⟨v,r,h1,Dx h x v h2,E9 h l r h3⟩
theorem F9 {M M':Mem} (h:M.le M') (n:Nat):∀(l:List (List AV)) (vs:List (List Value)),AV.isLL M n l vs→AV.isLL M' n l vs
 | [],_,k=>k
 | x::l,_,⟨v,r,h1,h0,h2,h3⟩=>⟨v,r,h1,h0,E9 h x v h2,F9 h n l r h3⟩
end
theorem m8 (M:Mem) (v:Value):(DB v).is M v:=by unfold DB;split<;>simp [AV.is]
theorem FU (M:Mem) (vs:List Value):AV.isL M (vs.map DB) vs:=ZE (by simp) fun k x v h1 h2=>by rw [List.getElem?_map,h2] at h1;simp at h1;subst h1;exact m8 M v
theorem bD {M:Mem} {v:Value}:∀ {x:AV},x.is M v→x.one=true→(∀j,x = .osl j→(M.σ j).oneCell'=true)→v.oneCell'=true
 | .any,_,k,_ | .un,_,k,_ | .agg _,_,k,_ | .tup _,_,k,_=>by simp [AV.one] at k
 | .tt,h,_,_ | .ff,h,_,_ | .bv _,h,_,_ | .iv _,h,_,_ | .kv _ _,h,_,_ | .sv _,h,_,_ | .nl,h,_,_ | .nlp,h,_,_ | .fn _,h,_,_=>by simp only [AV.is] at h;subst h;rfl
 | .ptr _ _,h,_,_=>by simp only [AV.is] at h;rw [h.2];rfl
 | .osl j,h,_,hs=>by simp only [AV.is] at h;rw [h.2];exact hs j rfl
 | .oel _ _ _,h,_,_=>by simp only [AV.is] at h;obtain ⟨_,_,_,_,_,h⟩:=h;rw [h];rfl
 | .ocs _ _ _ _,h,_,_=>by simp only [AV.is] at h;obtain ⟨_,_,_,_,_,h⟩:=h;rw [h];rfl
 | .elt _ _,h,_,_=>by simp only [AV.is] at h;obtain ⟨_,_,h,_⟩:=h;rw [h];rfl
 | .sl _ _,h,_,_=>by simp only [AV.is] at h;obtain ⟨_,_,h,_⟩:=h;rw [h];rfl
 | .clo _ _,h,_,_=>by simp only [AV.is] at h;obtain ⟨_,h,_⟩:=h;rw [h];rfl
mutual
theorem bP {M:Mem}:∀(x:AV) (v:Value),x.is M v→x.pu=true→x.is M.pure v
 | .any,_,_,_=>trivial
 | .un,_,k,_=>k
 | .tt,_,k,_=>k
 | .ff,_,k,_=>k
 | .bv _,_,k,_=>k
 | .iv _,_,k,_=>k
 | .kv _ _,_,k,_=>k
 | .sv _,_,k,_=>k
 | .nl,_,k,_=>k
 | .nlp,_,k,_=>k
 | .fn _,_,k,_=>k
 | .ptr _ _,_,_,h=>by simp [AV.pu] at h
 | .osl _,_,_,h=>by simp [AV.pu] at h
 | .oel _ _ _,_,_,h=>by simp [AV.pu] at h
 | .ocs _ _ _ _,_,_,h=>by simp [AV.pu] at h
 | .elt _ _,_,k,_=>k
 | .sl _ _,_,k,_=>k
 | .agg l,_,⟨vs,h1,h2⟩,h=>⟨vs,h1,Fp l vs h2 (by simpa [AV.pu] using h)⟩
 | .tup l,_,⟨vs,h1,h2⟩,h=>⟨vs,h1,Fp l vs h2 (by simpa [AV.pu] using h)⟩
 | .clo _ l,_,⟨vs,h1,h2⟩,h=>⟨vs,h1,Fp l vs h2 (by simpa [AV.pu] using h)⟩
theorem Fp {M:Mem}:∀(l:List AV) (vs:List Value),AV.isL M l vs→AB l=true→AV.isL M.pure l vs
 | [],_,k,_=>k
 | x::l,_,⟨v,r,h1,h2,h3⟩,h=>by simp only [AB,AS] at h;exact ⟨v,r,h1,bP x v h2 h.1,Fp l r h3 h.2⟩
end
theorem ta (n:Nat) (l:List AV):PN n l=l.take n:=by
 induction n generalizing l with
 | zero=>rfl
 | succ n ih=>cases l<;>simp [PN,ih]
theorem si (n:Nat) (l:List AV):PG n l=l.drop n:=by
 induction n generalizing l with
 | zero=>rfl
 | succ n ih=>cases l<;>simp [PG,ih]
theorem eu {M:Mem} (n:Nat):∀(k:Nat) (l:List AV) (vs:List Value),AV.isL M l vs→vs.length=k*n→∃vss,AV.isLL M n (Kg n k l) vss∧vss.flatten=vs
 | 0,l,vs,_,h=>⟨[],rfl,by simp at h;simp [h]⟩
 | k+1,l,vs,hl,h=>by
   have h':vs.length=k*n+n:=by rw [h,Nat.add_mul,Nat.one_mul]
   obtain ⟨vss,h1,h2⟩:=eu n k (l.drop n) (vs.drop n) (G2 n hl) (by simp;omega);refine ⟨vs.take n::vss,⟨vs.take n,vss,rfl,by simp;omega,by rw [ta];exact G3 n hl,by rw [si];exact h1⟩,?_⟩;rw [List.flatten_cons,h2,List.take_append_drop]
theorem ew (n:Nat):∀(k:Nat) (l:List AV),(Kg n k l).length=k
 | 0,_=>rfl
 | k+1,l=>by simp [Kg,ew n k]
theorem ue {w:World} {b e E n:Nat} {v:Value} {xs:List Value} (h:w.ownsRow b e E v n xs):v.oneCell'=true:=by rcases h.2 with ⟨h,_⟩ | ⟨_,_,_,h,_⟩<;>rw [h]<;>rfl
structure Ctx where
 P:Program
 w0:World
 H0:Frag
 bor:Nat→Prop
 np:Nat
 pb:Nat→Nat
 nq:Nat
 ps:Nat→Value
structure Pin (c:Ctx) (M:Mem):Prop where
 nb:c.np≤M.nb
 ρ:∀j,j<c.np→M.ρ j=c.pb j
 ns:c.nq≤M.ns
 σ:∀j,j<c.nq→M.σ j=c.ps j
 gl:Kb c.P M.H
theorem Pin.le {c:Ctx} {M M':Mem} (h:Pin c M) (k:M.le M'):Pin c M':=⟨Nat.le_trans h.nb k.nb,fun j hj=>(k.ρ j (Nat.lt_of_lt_of_le hj h.nb)).trans (h.ρ j hj),Nat.le_trans h.ns k.ns,fun j hj=>(k.σ j (Nat.lt_of_lt_of_le hj h.ns)).trans (h.σ j hj),h.gl.mono k.H⟩
def Fy (c:Ctx) (g:Nat):Prop:=c.w0.heap.size≤g∨c.bor g
structure RelS (c:Ctx) (M:Mem) (bs:List (Option Blk)) (ss:List (Option Sl)) (w:World):Prop where
 nb:M.nb=bs.length
 ns:M.ns=ss.length
 so:∀j,j<M.ns→(M.σ j).oneCell'=true
 os:w.os=c.w0.os
 tape:w.tape=c.w0.tape
 output:w.output=c.w0.output
 size:c.w0.heap.size≤w.heap.size
 block:∀k,k<c.w0.heap.size→¬c.bor k→w.heap[k]?=c.w0.heap[k]?
 hle:∀k o,M.H k=some o→w.heap[k]?=some o
 hold:∀k,k<c.w0.heap.size→¬c.bor k→M.H k=c.H0 k
 blk:∀j B,Ab bs j=some B→Fy c (M.ρ j)∧M.H (M.ρ j)=none∧
  ∃vs:List Value,AV.isL M B.cells vs∧w.heap[M.ρ j]?=some (.cells vs.toArray B.T (0,0))∧∀v∈vs,v.oneCell'=true
 slc:∀j L,Ab ss j=some L→0<L.n∧∃vss:List (List Value),AV.isLL M.sl L.n L.rows vss∧(∀v∈vss.flatten,v.oneCell'=true)∧
  w.ownsRow 0 L.T L.n (M.σ j) L.rows.length vss.flatten∧∀g,(M.σ j).ownBlock=some g→Fy c g∧M.H g=none
 d1:∀i j B C,Ab bs i=some B→Ab bs j=some C→M.ρ i=M.ρ j→i=j
 d2:∀i j B L,Ab bs i=some B→Ab ss j=some L→(M.σ j).ownBlock≠some (M.ρ i)
 d3:∀i j L N g,Ab ss i=some L→Ab ss j=some N→(M.σ i).ownBlock=some g→(M.σ j).ownBlock=some g→i=j
 pin:Pin c M
structure RelT (c:Ctx) (M:Mem) (S:St) (a:Act) (w:World):Prop where
 len:S.tm.length≤a.tmps.size
 tm:∀t,(AM S.tm t).is M (a.tmps.getD t undef)
 df:a.defers=[]
 st:RelS c M S.bs S.ss w
section
variable {c:Ctx} {M:Mem} {bs:List (Option Blk)} {ss:List (Option Sl)} {w:World} {a:Act} {S:St}
theorem RelS.blk_lt (h:RelS c M bs ss w) {j:Nat} {B:Blk} (hj:Ab bs j=some B):M.ρ j<w.heap.size:=by obtain ⟨_,_,vs,_,hv,_⟩:=h.blk j B hj;exact (Array.getElem?_eq_some_iff.1 hv).1
theorem RelS.slc_lt (h:RelS c M bs ss w) {j:Nat} {L:Sl} (hj:Ab ss j=some L) {g:Nat} (hg:(M.σ j).ownBlock=some g):g<w.heap.size:=by obtain ⟨_,vss,_,_,ho,_⟩:=h.slc j L hj;exact (World.ownsRow.lt ho g hg).2
theorem RelS.Hnew (h:RelS c M bs ss w) {k:Nat} (hk:w.heap.size≤k):M.H k=none:=by
 cases hh:M.H k with
 | none=>rfl
 | some o=>have:=h.hle k o hh;have:=(Array.getElem?_eq_some_iff.1 this).1;omega
def Mem.addB (M:Mem) (g:Nat):Mem:= {M with ρ:=fun j=>if j=M.nb then g else M.ρ j,nb:=M.nb+1}
theorem Mem.le_addB (M:Mem) (g:Nat):M.le (M.addB g):=⟨Nat.le_succ _,Nat.le_refl _,fun _ hj=>if_neg (Nat.ne_of_lt hj),fun _ _=>rfl,fun _ _ h=>h⟩
theorem Pt (w:World) (o:Obj) (k:Nat):(w.alloc o).heap[k]?=if k=w.heap.size then some o else w.heap[k]?:=by show (w.heap.push o)[k]?=_;rw [Array.getElem?_push]
theorem RelS.alloc (h:RelS c M bs ss w) (T:Nat) (cells:List AV) (vs:List Value) (hc:AV.isL M cells vs) (h1:∀v∈vs,v.oneCell'=true):
  RelS c (M.addB w.heap.size) (bs++[some ⟨T,cells⟩]) ss (w.alloc (.cells vs.toArray T)):=by
 have hle:=Mem.le_addB M w.heap.size;have hρ:∀j,j<M.nb→(M.addB w.heap.size).ρ j=M.ρ j:=hle.ρ;have hρ':(M.addB w.heap.size).ρ bs.length=w.heap.size:=by simp [Mem.addB,h.nb]
 have old:∀j B,Ab (bs++[some (⟨T,cells⟩:Blk)]) j=some B→(j<bs.length∧Ab bs j=some B)∨(j=bs.length∧B=⟨T,cells⟩):=by
  intro j B hj;rw [Lp] at hj;split at hj
  ·rename_i e;right;exact ⟨e,by simpa using hj.symm⟩
  ·left;exact ⟨CD hj,hj⟩
 refine ⟨by simp [Mem.addB,h.nb],h.ns,h.so,h.os,h.tape,h.output,?_,?_,?_,h.hold,?_,?_,?_,?_,h.d3,h.pin.le hle⟩
 ·have:=h.size;show _≤(w.heap.push _).size;simp;omega
 ·intro k hk hb;rw [Pt,if_neg (by have:=h.size;omega)];exact h.block k hk hb
 ·intro k o hk;have:=h.hle k o hk;have hl:=(Array.getElem?_eq_some_iff.1 this).1;rw [Pt,if_neg Om];exact this
 ·intro j B hj;rcases old j B hj with ⟨hl,hj⟩ | ⟨rfl,rfl⟩
  ·rw [hρ j (by rw [h.nb];exact hl)];obtain ⟨g1,g2,us,g3,g4,g5⟩:=h.blk j B hj;refine ⟨g1,g2,us,E9 hle _ _ g3,?_,g5⟩;rw [Pt,if_neg (by have:=h.blk_lt hj;omega)];exact g4
  ·rw [hρ'];refine ⟨.inl h.size,h.Hnew (Nat.le_refl _),vs,E9 hle _ _ hc,?_,h1⟩;rw [Pt,if_pos rfl]
 ·intro j L hj;obtain ⟨g0,vss,g1,g2,g3,g4⟩:=h.slc j L hj;exact ⟨g0,vss,g1,g2,World.ownsRow.alloc g3 _,g4⟩
 ·intro i j B C hi hj e;rcases old i B hi with ⟨hl,hi⟩ | ⟨rfl,rfl⟩<;>rcases old j C hj with ⟨hl',hj⟩ | ⟨rfl,rfl⟩
  ·rw [hρ i (by rw [h.nb];exact hl),hρ j (by rw [h.nb];exact hl')] at e;exact h.d1 i j B C hi hj e
  ·rw [hρ i (by rw [h.nb];exact hl),hρ'] at e;have:=h.blk_lt hi;omega
  ·rw [hρ j (by rw [h.nb];exact hl'),hρ'] at e;have:=h.blk_lt hj;omega
  ·rfl
 ·intro i j B L hi hj;rcases old i B hi with ⟨hl,hi⟩ | ⟨rfl,rfl⟩
  ·rw [hρ i (by rw [h.nb];exact hl)];exact h.d2 i j B L hi hj
  ·rw [hρ'];intro e;have:=h.slc_lt hj e;omega
def Mem.addS (M:Mem) (v:Value):Mem:= {M with σ:=fun j=>if j=M.ns then v else M.σ j,ns:=M.ns+1}
theorem Mem.le_addS (M:Mem) (v:Value):M.le (M.addS v):=⟨Nat.le_refl _,Nat.le_succ _,fun _ _=>rfl,fun _ hj=>if_neg (Nat.ne_of_lt hj),fun _ _ h=>h⟩
theorem RelS.name (h:RelS c M bs ss w) (L:Sl) (v:Value) (vss:List (List Value)) (h0:0<L.n) (h1:AV.isLL M.sl L.n L.rows vss) (h2:∀v∈vss.flatten,v.oneCell'=true)
  (h3:w.ownsRow 0 L.T L.n v L.rows.length vss.flatten) (h4:∀g,v.ownBlock=some g→Fy c g∧M.H g=none)
  (h5:∀i B,Ab bs i=some B→v.ownBlock≠some (M.ρ i)) (E:∀j N g,Ab ss j=some N→v.ownBlock=some g→(M.σ j).ownBlock≠some g):
  RelS c (M.addS v) bs (ss++[some L]) w:=by
 have hσ:∀j,j<M.ns→(M.addS v).σ j=M.σ j:=(Mem.le_addS M v).σ;have hσ':(M.addS v).σ ss.length=v:=by simp [Mem.addS,h.ns]
 have old:∀j N,Ab (ss++[some L]) j=some N→(j<M.ns∧Ab ss j=some N)∨(j=ss.length∧N=L):=by
  intro j B hj;rw [Lp] at hj;split at hj
  ·rename_i e;right;exact ⟨e,by simpa using hj.symm⟩
  ·left;exact ⟨by rw [h.ns];exact CD hj,hj⟩
 refine ⟨h.nb,by simp [Mem.addS,h.ns],?_,h.os,h.tape,h.output,h.size,h.block,h.hle,h.hold,?_,?_,h.d1,?_,?_,h.pin.le (Mem.le_addS M v)⟩
 ·intro j hj;simp only [Mem.addS] at hj ⊢;split
  ·exact ue h3
  ·exact h.so j Om
 ·intro j B hj;obtain ⟨g1,g2,vs,g3,g4⟩:=h.blk j B hj;exact ⟨g1,g2,vs,E9 (Mem.le_addS M v) _ _ g3,g4⟩
 ·intro j N hj;rcases old j N hj with ⟨hl,hj⟩ | ⟨rfl,rfl⟩
  ·rw [hσ j hl];obtain ⟨q0,us,q1,q2,q3,q4⟩:=h.slc j N hj;exact ⟨q0,us,F9 (Mem.le_addS M v).sl _ _ _ q1,q2,q3,q4⟩
  ·rw [hσ'];exact ⟨h0,vss,F9 (Mem.le_addS M v).sl _ _ _ h1,h2,h3,h4⟩
 ·intro i j B N hi hj;rcases old j N hj with ⟨hl,hj⟩ | ⟨rfl,rfl⟩
  ·rw [hσ j hl];exact h.d2 i j B N hi hj
  ·rw [hσ'];exact h5 i B hi
 ·intro i j N O g hi hj e1 e2;rcases old i N hi with ⟨hl,ki⟩ | ⟨ei,_⟩<;>rcases old j O hj with ⟨hl',kj⟩ | ⟨ej,_⟩
  ·rw [hσ i hl] at e1;rw [hσ j hl'] at e2;exact h.d3 i j N O g ki kj e1 e2
  ·rw [hσ i hl] at e1;rw [ej,hσ'] at e2;exact absurd e1 (E i N g ki e2)
  ·rw [hσ j hl'] at e2;rw [ei,hσ'] at e1;exact absurd e2 (E j O g kj e1)
  ·rw [ei,ej]
theorem Gv (w:World) (g:Nat) (cs:Array Value) (k:Nat):(w.setRow g cs).heap[k]?=if k=g then (w.heap[k]?).map (fun | .cells _ e f=>.cells cs e f | o=>o) else w.heap[k]?:=by
 simp only [World.setRow,Array.getElem?_modify];by_cases hk:g=k
 ·subst hk;simp only [if_true];congr 1
 ·rw [if_neg hk,if_neg (fun e=>hk e.symm)]
theorem RelS.write (h:RelS c M bs ss w) {j:Nat} {B:Blk} (hj:Ab bs j=some B) (cells:List AV) (vs:List Value) (hc:AV.isL M cells vs) (h1:∀v∈vs,v.oneCell'=true):
  RelS c M (Av bs j (some ⟨B.T,cells⟩)) ss (w.setRow (M.ρ j) vs.toArray):=by
 have hlt:=CD hj;obtain ⟨m1,m2,us,m3,m4,m5⟩:=h.blk j B hj;have old:∀i C,Ab (Av bs j (some (⟨B.T,cells⟩:Blk))) i=some C→(i≠j∧Ab bs i=some C)∨(i=j∧C=⟨B.T,cells⟩):=by
  intro i C hi;rw [Dz] at hi;split at hi
  ·rename_i e;right;exact ⟨e.1,by simpa using hi.symm⟩
  ·rename_i e;left;exact ⟨fun e'=>e ⟨e',hlt⟩,hi⟩
 have live:∀i C,Ab (Av bs j (some (⟨B.T,cells⟩:Blk))) i=some C→∃C',Ab bs i=some C':=by
  intro i C hi;rcases old i C hi with ⟨_,hi⟩ | ⟨rfl,_⟩
  ·exact ⟨_,hi⟩
  ·exact ⟨_,hj⟩
 have h6:(w.setRow (M.ρ j) vs.toArray).heap.size=w.heap.size:=by simp [World.setRow]
 refine ⟨by rw [Dg];exact h.nb,h.ns,h.so,h.os,h.tape,h.output,by rw [h6];exact h.size,?_,?_,h.hold,?_,?_,?_,?_,h.d3,h.pin⟩
 ·intro k hk hb;rw [Gv,if_neg]
  ·exact h.block k hk hb
  ·rintro rfl;rcases m1 with m1 | m1
   ·omega
   ·exact hb m1
 ·intro k o hk;rw [Gv,if_neg]
  ·exact h.hle k o hk
  ·rintro rfl;rw [m2] at hk;simp at hk
 ·intro i C hi;rcases old i C hi with ⟨hne,hi⟩ | ⟨rfl,rfl⟩
  ·obtain ⟨g1,g2,xs,g3,g4,g5⟩:=h.blk i C hi;refine ⟨g1,g2,xs,g3,?_,g5⟩;rw [Gv,if_neg (fun e=>hne (h.d1 i j C B hi hj e))];exact g4
  ·refine ⟨m1,m2,vs,hc,?_,h1⟩;rw [Gv,if_pos rfl,m4];rfl
 ·intro i L hi;obtain ⟨g0,vss,g1,g2,g3,g4⟩:=h.slc i L hi;refine ⟨g0,vss,g1,g2,?_,g4⟩;have hg:w.grownBy (w.setRow (M.ρ j) vs.toArray) (some (M.ρ j)):=⟨rfl,rfl,rfl,by rw [h6];exact Nat.le_refl _,fun k _ hk=>by rw [Gv,if_neg (fun e=>hk (by rw [e]))]⟩
  exact World.ownsRow.kept g3 hg (.inr (h.d2 j i B L hj hi))
 ·intro i k C D hi hk e;obtain ⟨C',hi'⟩:=live i C hi;obtain ⟨D',hk'⟩:=live k D hk;exact h.d1 i k C' D' hi' hk' e
 ·intro i k C L hi hk;obtain ⟨C',hi'⟩:=live i C hi;exact h.d2 i k C' L hi' hk
theorem RelS.grow (h:RelS c M bs ss w) {w':World} (hb:Below w.heap.size w w'):RelS c M bs ss w':=
 ⟨h.nb,h.ns,h.so,hb.os.trans h.os,hb.tape.trans h.tape,hb.output.trans h.output,Nat.le_trans h.size hb.size,
   fun k hk hn=>(hb.block k (Nat.lt_of_lt_of_le hk h.size)).trans (h.block k hk hn),
   fun k o hk=>(hb.block k ((Array.getElem?_eq_some_iff.1 (h.hle k o hk)).1)).trans (h.hle k o hk),
   h.hold,
   fun j B hj=>let ⟨g1,g2,vs,g3,g4,g5⟩:=h.blk j B hj;⟨g1,g2,vs,g3,(hb.block _ (h.blk_lt hj)).trans g4,g5⟩,
   fun j L hj=>let ⟨g0,vss,g1,g2,g3,g4⟩:=h.slc j L hj;⟨g0,vss,g1,g2,World.ownsRow.kept g3 (row:=none) ⟨hb.os,hb.tape,hb.output,hb.size,fun k hk _=>hb.block k hk⟩ (by
    cases h6:(M.σ j).ownBlock with
    | none=>exact .inl rfl
    | some g=>exact .inr (by simp)),g4⟩,
   h.d1,h.d2,h.d3,h.pin⟩
theorem RelS.drew (h:RelS c M bs ss w):RelS c M bs ss w.drew:=⟨h.nb,h.ns,h.so,h.os,h.tape,h.output,h.size,h.block,h.hle,h.hold,h.blk,h.slc,h.d1,h.d2,h.d3,h.pin⟩
end
end NX
end Go.Proofs.YtgnjledocpbchaaGreat
/-
  The symbolic machine, sound over the model: its operations and its run. No statement of the seat is proved here.
-/
namespace Go.Proofs.YtgnjledocpbchaaGreat
namespace NX
open Go Go.RowKit
inductive RIt where
 | code (c:Code)
 | ops (all:Array Oper) (l:List Oper)
 | blk (id:Nat)
 | lp (x:Code) (n:Nat)
 | sc (x:Code)
def P8 (P:Program) (x:Code) (Q:Exit→Act→World→Prop) (e:Exit) (a:Act) (w:World):Prop:=∀T:Exit→Act→World→Prop,(∀e a w,(∀l,e≠ .goto l)→Q e a w→T e a w)→(∀l rest a w,findLabel x l=some rest→rest.wp P T a w→T (.goto l) a w)→T e a w
theorem YP {P:Program} {x:Code} {Q:Exit→Act→World→Prop} {e:Exit} {a:Act} {w:World} (he:∀l,e≠ .goto l) (h:Q e a w):P8 P x Q e a w:=fun _ h1 _=>h1 e a w he h
theorem mE {P:Program} {x rest:Code} {Q:Exit→Act→World→Prop} {l:Nat} {a:Act} {w:World} (hf:findLabel x l=some rest) (h:rest.wp P (P8 P x Q) a w):P8 P x Q (.goto l) a w:=fun T h1 h2=>h2 l rest a w hf (wp_mono h fun _ _ _ hj=>hj T h1 h2)
theorem xx {P:Program} {x:Code} {Q:Exit→Act→World→Prop} {a:Act} {w:World} (h:x.wp P (P8 P x Q) a w):(Code.scope x).wp P Q a w:=by
 intro b k cs;obtain ⟨e,a₁,w₁,hj,h8⟩:=h b (.inScope x::k) cs;have:=hj (fun e a w=>∃e' a' w',Q e' a' w'∧∀s,Arrives P s b (.inScope x::k) cs e a w→Arrives P s b k cs e' a' w') (fun e a w he hq=>by
  refine ⟨e,a,w,hq,fun s hs=>?_⟩;cases e with
  | normal=>exact Steps.trans hs (.one step_inScope)
  | exit id=>exact fun k' hk=>hs k' (by simp [exitTo,hk])
  | goto l=>exact absurd rfl (he l)
  | ret=>exact hs
  | panic ch=>exact hs
  | outgrown=>exact hs) (fun l rest a w hf hw=>by
  have hg:gotoIn l (.inScope x::k)=some (.code rest :: .inScope x::k):=by simp [gotoIn,hf]
  obtain ⟨e2,a2,w2,⟨e',a',w',hq,ht⟩,h6⟩:=hw b (.inScope x::k) cs;exact ⟨e',a',w',hq,fun s hs=>.of_steps (hs _ hg) (ht _ h6)⟩)
 obtain ⟨e',a',w',hq,ht⟩:=this;exact ⟨e',a',w',hq,.of_steps (.one step_scope) (ht _ h8)⟩
def D8 (P:Program) (fn:Func) (R:Ending→World→Prop):List RIt→Exit→Act→World→Prop
 | [],e,a,w=>bodyPost P fn R e a w
 | .code x::k,.normal,a,w=>x.wp P (D8 P fn R k) a w
 | .ops all l::k,.normal,a,w=>wpList P all (D8 P fn R k) l a w
 | .lp x n::k,.normal,a,w=>Code.rounds P x (D8 P fn R k) n a w
 | .blk _::k,.normal,a,w=>D8 P fn R k .normal a w
 | .blk id::k,.exit j,a,w=>if j=id then D8 P fn R k .normal a w else D8 P fn R k (.exit j) a w
 | .sc x::k,e,a,w=>P8 P x (D8 P fn R k) e a w
 | _::k,e,a,w=>D8 P fn R k e a w
def mf (P:Program):It→RIt→Prop
 | .code e,.code x=>cC P x=some e
 | .ops l,.ops all rl=>rl.mapM (AO P all)=some l
 | .blk i,.blk j=>i=j
 | .lp e n,.lp x m=>cC P x=some e∧n=m
 | .sc e,.sc x=>cC P x=some e
 | _,_=>False
def IP (P:Program):List It→List RIt→Prop
 | [],rk=>rk=[]
 | x::k,rk=>∃y r,rk=y::r∧mf P x y∧IP P k r
def RK (c:Ctx) (K:AV→List (Option Blk)→List (Option Sl)→Prop):Ending→World→Prop:=fun e w=>∃v M bs ss x,e = .returned v∧RelS c M bs ss w∧AV.is M x v∧K x bs ss
def V (c:Ctx) (fn:Func) (K:AV→List (Option Blk)→List (Option Sl)→Prop) (k:List It) (S:St):Prop:=∀rk M a w,IP c.P k rk→RelT c M S a w→D8 c.P fn (RK c K) rk .normal a w
theorem ox {P:Program} {x:Code} (h:cC P x=some .skip):x = .skip:=by
 cases x<;>simp [cC] at h<;>try rfl
 all_goals (first | ((repeat' (split at h))<;>simp at h;done) | (obtain ⟨_,_,h⟩:=h;split at h<;>simp at h;done))
theorem ee {P:Program} {x:Code} {a b:EC} (h:cC P x=some (.seq a b)):∃y z,x = .seq y z∧cC P y=some a∧cC P z=some b:=by
 cases x<;>simp [cC] at h
 case seq y z=>split at h<;>simp at h;rename_i h1 h2;exact ⟨y,z,rfl,h.1 ▸ h1,h.2 ▸ h2⟩
 all_goals (first | ((repeat' (split at h))<;>simp at h;done) | (obtain ⟨_,_,h⟩:=h;split at h<;>simp at h;done))
theorem Ze {P:Program} {x:Code} {o:X} {a b:EC} (h:cC P x=some (.ite o a b)):∃q y z,x = .cond q y z∧cX q=o∧cC P y=some a∧cC P z=some b:=by
 cases x<;>simp [cC] at h
 case cond q y z=>split at h<;>simp at h;rename_i h1 h2;exact ⟨q,y,z,rfl,h.1,h.2.1 ▸ h1,h.2.2 ▸ h2⟩
 all_goals (first | ((repeat' (split at h))<;>simp at h;done) | (obtain ⟨_,_,h⟩:=h;split at h<;>simp at h;done))
theorem ol {P:Program} {x:Code} {id:Nat} {a:EC} (h:cC P x=some (.blk id a)):∃y,x = .block id y∧cC P y=some a:=by
 cases x<;>simp [cC] at h
 case block i y=>obtain ⟨h1,rfl⟩:=h;exact ⟨y,rfl,h1⟩
 all_goals (first | ((repeat' (split at h))<;>simp at h;done) | (obtain ⟨_,_,h⟩:=h;split at h<;>simp at h;done))
theorem ot {P:Program} {x:Code} {a:EC} (h:cC P x=some (.loop a)):∃y,x = .loop y∧cC P y=some a:=by
 cases x<;>simp [cC] at h
 case loop y=>exact ⟨y,rfl,h⟩
 all_goals (first | ((repeat' (split at h))<;>simp at h;done) | (obtain ⟨_,_,h⟩:=h;split at h<;>simp at h;done))
theorem oo {P:Program} {x:Code} {id:Nat} (h:cC P x=some (.exit id)):x = .exit id:=by
 cases x<;>simp [cC] at h
 case exit i=>rw [h]
 all_goals (first | ((repeat' (split at h))<;>simp at h;done) | (obtain ⟨_,_,h⟩:=h;split at h<;>simp at h;done))
theorem ow {P:Program} {x:Code} {a:EC} (h:cC P x=some (.scope a)):∃y,x = .scope y∧cC P y=some a:=by
 cases x<;>simp [cC] at h
 case scope y=>exact ⟨y,rfl,h⟩
 all_goals (first | ((repeat' (split at h))<;>simp at h;done) | (obtain ⟨_,_,h⟩:=h;split at h<;>simp at h;done))
theorem ec {P:Program} {x:Code} {l:Nat} (h:cC P x=some (.label l)):x = .label l:=by
 cases x<;>simp [cC] at h
 case label i=>rw [h]
 all_goals (first | ((repeat' (split at h))<;>simp at h;done) | (obtain ⟨_,_,h⟩:=h;split at h<;>simp at h;done))
theorem oq {P:Program} {x:Code} {l:Nat} (h:cC P x=some (.goto l)):x = .goto l:=by
 cases x<;>simp [cC] at h
 case goto i=>rw [h]
 all_goals (first | ((repeat' (split at h))<;>simp at h;done) | (obtain ⟨_,_,h⟩:=h;split at h<;>simp at h;done))
theorem qo {P:Program} {l:Nat}:∀(x:Code) {e:EC},cC P x=some e→Dv e l=none→findLabel x l=none:=by
 intro x;induction x with
 | seq y z ihy ihz=>
   intro e hx hn;simp only [cC] at hx;split at hx
   ·rename_i a b ha hb;simp at hx;subst hx;simp only [Dv] at hn;split at hn
    ·simp at hn
    ·rename_i hq;simp only [findLabel,ihy ha hq,ihz hb hn]
   ·simp at hx
 | label j=>
   intro e hx hn;simp only [cC,Option.some.injEq] at hx;subst hx;simp only [Dv] at hn;split at hn
   ·simp at hn
   ·rename_i hj;simp [findLabel,hj]
 | _=>intros;simp [findLabel]
theorem Zn {P:Program} {l:Nat}:∀ {e:EC} {x:Code} {r:EC},cC P x=some e→Dv e l=some r→∃rest,findLabel x l=some rest∧cC P rest=some r
 | .seq a b,x,r,hx,hr=>by
   obtain ⟨y,z,rfl,hy,hz⟩:=ee hx;simp only [Dv] at hr;split at hr
   ·rename_i q hq;obtain ⟨rest,h1,h2⟩:=Zn hy hq;simp at hr;subst hr;exact ⟨.seq rest z,by simp [findLabel,h1],by simp [cC,h2,hz]⟩
   ·rename_i hq;have hn:findLabel y l=none:=qo y hy hq;obtain ⟨rest,h1,h2⟩:=Zn hz hr;exact ⟨rest,by simp [findLabel,hn,h1],h2⟩
 | .label j,x,r,hx,hr=>by
   rw [ec hx];simp only [Dv] at hr;split at hr
   ·rename_i hj;simp at hr;subst hr;exact ⟨.skip,by simp [findLabel,hj],by simp [cC]⟩
   ·simp at hr
 | .skip,_,_,_,hr=>by simp [Dv] at hr
 | .reg _,_,_,_,hr=>by simp [Dv] at hr
 | .drw _ _ _,_,_,_,hr=>by simp [Dv] at hr
 | .ite _ _ _,_,_,_,hr=>by simp [Dv] at hr
 | .blk _ _,_,_,_,hr=>by simp [Dv] at hr
 | .loop _,_,_,_,hr=>by simp [Dv] at hr
 | .exit _,_,_,_,hr=>by simp [Dv] at hr
 | .scope _,_,_,_,hr=>by simp [Dv] at hr
 | .goto _,_,_,_,hr=>by simp [Dv] at hr
 | .ret,_,_,_,hr=>by simp [Dv] at hr
 | .bad,_,_,_,hr=>by simp [Dv] at hr
theorem ov {P:Program} {x:Code} (h:cC P x=some .ret):x = .ret:=by
 cases x<;>simp [cC] at h<;>try rfl
 all_goals (first | ((repeat' (split at h))<;>simp at h;done) | (obtain ⟨_,_,h⟩:=h;split at h<;>simp at h;done))
theorem ed {P:Program} {id:Nat} {ops:Array Oper} {dr:Bool} {e:EC} (h:cC P (.region id ops dr)=some e):
  ∃l,ops.toList.mapM (AO P ops)=some l∧((dr=false∧e = .reg l)∨(dr=true∧Region.noSelect ops=true∧e = .drw l (Bu ops) (D7 ops))∨e = .bad):=by
 simp only [cC] at h;split at h
 ·rename_i l hl;refine ⟨l,hl,?_⟩;split at h
  ·split at h
   ·rename_i hs;simp at h;exact .inr (.inl ⟨rfl,hs,h.symm⟩)
   ·simp at h;exact .inr (.inr h.symm)
  ·simp at h;exact .inl ⟨rfl,h.symm⟩
 ·simp at h
theorem ou {P:Program} {x:Code} {l:List EOp} (h:cC P x=some (.reg l)):∃id ops,x = .region id ops false∧ops.toList.mapM (AO P ops)=some l:=by
 cases x
 case region id ops dr=>
  obtain ⟨l',h1,h2⟩:=ed h;rcases h2 with ⟨rfl,h2⟩ | ⟨_,_,h2⟩ | h2
  ·simp at h2;subst h2;exact ⟨id,ops,rfl,h1⟩
  ·simp at h2
  ·simp at h2
 all_goals (simp [cC] at h)
 all_goals (first | ((repeat' (split at h))<;>simp at h;done) | (obtain ⟨_,_,h⟩:=h;split at h<;>simp at h;done))
theorem om {P:Program} {x:Code} {l:List EOp} {af nap:List (List Nat)} (h:cC P x=some (.drw l af nap)):
  ∃id ops,x = .region id ops true∧ops.toList.mapM (AO P ops)=some l∧Region.noSelect ops=true∧af=Bu ops∧nap=D7 ops:=by
 cases x
 case region id ops dr=>
  obtain ⟨l',h1,h2⟩:=ed h;rcases h2 with ⟨_,h2⟩ | ⟨rfl,hs,h2⟩ | h2
  ·simp at h2
  ·simp at h2;obtain ⟨rfl,rfl,rfl⟩:=h2;exact ⟨id,ops,rfl,h1,hs,rfl,rfl⟩
  ·simp at h2
 all_goals (simp [cC] at h)
 all_goals (first | ((repeat' (split at h))<;>simp at h;done) | (obtain ⟨_,_,h⟩:=h;split at h<;>simp at h;done))
theorem mapM_cons {α β:Type} {f:α→Option β} {l:List α} {o:β} {r:List β} (h:l.mapM f=some (o::r)):∃x l',l=x::l'∧f x=some o∧l'.mapM f=some r:=by
 cases l with
 | nil=>simp at h
 | cons x l'=>simp only [List.mapM_cons,Option.bind_eq_bind,Option.bind_eq_some_iff] at h;obtain ⟨o',h1,r',h2,h3⟩:=h;simp at h3;exact ⟨x,l',rfl,h3.1 ▸ h1,h3.2 ▸ h2⟩
theorem tc {α β:Type} {f:α→Option β} {l:List α} (h:l.mapM f=some []):l=[]:=by
 cases l with
 | nil=>rfl
 | cons x l'=>simp only [List.mapM_cons,Option.bind_eq_bind,Option.bind_eq_some_iff] at h;obtain ⟨o',h1,r',h2,h3⟩:=h;simp at h3
section
variable {c:Ctx} {fn:Func} {K:AV→List (Option Blk)→List (Option Sl)→Prop} {k:List It} {S:St}
theorem F2 {e:EC} (h:∀x,cC c.P x=some e→∀rk M a w,IP c.P k rk→RelT c M S a w→x.wp c.P (D8 c.P fn (RK c K) rk) a w):V c fn K (.code e::k) S:=by
 rintro rk M a w ⟨y,r,rfl,hy,hr⟩ hT;cases y with
 | code x=>exact h x hy r M a w hr hT
 | ops _ _=>exact hy.elim
 | blk _=>exact hy.elim
 | lp _ _=>exact hy.elim
 | sc _=>exact hy.elim
theorem ny (h:V c fn K k S):V c fn K (.code .skip::k) S:=F2 fun x hx rk M a w hr hT=>by rw [ox hx];exact wp_skip (h rk M a w hr hT)
theorem nx {a b:EC} (h:V c fn K (.code a :: .code b::k) S):V c fn K (.code (.seq a b)::k) S:=F2 fun x hx rk M s w hr hT=>by obtain ⟨y,z,rfl,hy,hz⟩:=ee hx;refine wp_seq (wp_mono (h (.code y :: .code z::rk) M s w ⟨_,_,rfl,hy,_,_,rfl,hz,hr⟩ hT) ?_);intro e a w hq;cases e<;>exact hq
theorem mP {id:Nat} {a:EC} (h:V c fn K (.code a :: .blk id::k) S):V c fn K (.code (.blk id a)::k) S:=F2 fun x hx rk M s w hr hT=>by obtain ⟨y,rfl,hy⟩:=ol hx;refine wp_block (wp_mono (h (.code y :: .blk id::rk) M s w ⟨_,_,rfl,hy,_,_,rfl,rfl,hr⟩ hT) ?_);intro e a w hq;cases e<;>exact hq
theorem nv {a:EC} (h:V c fn K (.code a :: .sc a::k) S):V c fn K (.code (.scope a)::k) S:=F2 fun x hx rk M s w hr hT=>by obtain ⟨y,rfl,hy⟩:=ow hx;refine xx (wp_mono (h (.code y :: .sc y::rk) M s w ⟨_,_,rfl,hy,_,_,rfl,hy,hr⟩ hT) ?_);intro e a w hq;cases e<;>exact hq
theorem nc {l:Nat} (h:V c fn K k S):V c fn K (.code (.label l)::k) S:=F2 fun x hx rk M s w hr hT=>by rw [ec hx];exact wp_label (h rk M s w hr hT)
theorem nu {e:EC} (h:V c fn K k S):V c fn K (.sc e::k) S:=by
 rintro rk M a w ⟨y,r,rfl,hy,hr⟩ hT;cases y with
 | code x=>exact hy.elim
 | ops _ _=>exact hy.elim
 | blk _=>exact hy.elim
 | lp _ _=>exact hy.elim
 | sc _=>exact YP (by simp) (h r M a w hr hT)
theorem Ps {P:Program} {l:Nat} {R:Ending→World→Prop}:∀ {k k':List It} {E:List RIt},Gu l k=some k'→IP P k E→
  ∃rk',IP P k' rk'∧∀a w,D8 P fn R rk' .normal a w→D8 P fn R E (.goto l) a w
 | [],k',E,h,_=>by simp [Gu] at h
 | .sc e::k,k',E,h,⟨y,r,h6,hy,hr⟩=>by
   subst h6;cases y with
   | code x=>exact hy.elim
   | ops all l=>exact hy.elim
   | blk i=>exact hy.elim
   | lp _ _=>exact hy.elim
   | sc x=>
     simp only [Gu] at h;split at h
     ·rename_i q hq;simp at h;subst h;obtain ⟨rest,h1,h2⟩:=Zn hy hq;refine ⟨.code rest :: .sc x::r,⟨_,_,rfl,h2,_,_,rfl,hy,hr⟩,fun a w hc=>mE h1 (wp_mono hc ?_)⟩;intro e a w hq;cases e<;>exact hq
     ·simp at h
 | .blk j::k,k',E,h,⟨y,r,h6,hy,hr⟩=>by
   subst h6;simp only [Gu] at h;obtain ⟨rk',h1,h2⟩:=Ps h hr;cases y with
   | blk i=>exact ⟨rk',h1,fun a w hc=>h2 a w hc⟩
   | code x=>exact hy.elim
   | ops all l=>exact hy.elim
   | lp _ _=>exact hy.elim
   | sc _=>exact hy.elim
 | .code _::k,k',E,h,⟨y,r,h6,hy,hr⟩=>by
   subst h6;simp only [Gu] at h;obtain ⟨rk',h1,h2⟩:=Ps h hr;cases y with
   | code x=>exact ⟨rk',h1,fun a w hc=>h2 a w hc⟩
   | ops all l=>exact hy.elim
   | blk i=>exact hy.elim
   | lp _ _=>exact hy.elim
   | sc _=>exact hy.elim
 | .ops _::k,k',E,h,⟨y,r,h6,hy,hr⟩=>by
   subst h6;simp only [Gu] at h;obtain ⟨rk',h1,h2⟩:=Ps h hr;cases y with
   | code x=>exact hy.elim
   | ops all l=>exact ⟨rk',h1,fun a w hc=>h2 a w hc⟩
   | blk i=>exact hy.elim
   | lp _ _=>exact hy.elim
   | sc _=>exact hy.elim
 | .lp _ _::k,k',E,h,⟨y,r,h6,hy,hr⟩=>by
   subst h6;simp only [Gu] at h;obtain ⟨rk',h1,h2⟩:=Ps h hr;cases y with
   | code x=>exact hy.elim
   | ops all l=>exact hy.elim
   | blk i=>exact hy.elim
   | lp _ _=>exact ⟨rk',h1,fun a w hc=>h2 a w hc⟩
   | sc _=>exact hy.elim
theorem n8 {l:Nat} {k':List It} (hu:Gu l k=some k') (h:V c fn K k' S):V c fn K (.code (.goto l)::k) S:=F2 fun x hx rk M s w hr hT=>by rw [oq hx];obtain ⟨rk',h1,h2⟩:=Ps (fn:=fn) (R:=RK c K) hu hr;exact wp_goto (h2 _ _ (h rk' M s w h1 hT))
theorem nm {id:Nat} (h:V c fn K k S):V c fn K (.blk id::k) S:=by
 rintro rk M a w ⟨y,r,rfl,hy,hr⟩ hT;cases y with
 | code x=>exact hy.elim
 | ops _ _=>exact hy.elim
 | blk _=>exact h r M a w hr hT
 | lp _ _=>exact hy.elim
 | sc _=>exact hy.elim
theorem nj (h:V c fn K k S):V c fn K (.ops []::k) S:=by
 rintro rk M a w ⟨y,r,rfl,hy,hr⟩ hT;cases y with
 | code x=>exact hy.elim
 | ops all l=>have:=tc hy;subst this;exact h r M a w hr hT
 | blk _=>exact hy.elim
 | lp _ _=>exact hy.elim
 | sc _=>exact hy.elim
theorem nn {l:List EOp} (h:V c fn K (.ops l::k) S):V c fn K (.code (.reg l)::k) S:=F2 fun x hx rk M s w hr hT=>by obtain ⟨id,ops,rfl,hy⟩:=ou hx;exact wp_region_list (h (.ops ops ops.toList::rk) M s w ⟨_,_,rfl,hy,hr⟩ hT)
theorem P5 {P:Program} {id:Nat} {R:Ending→World→Prop}:∀ {k k':List It} {E:List RIt},EW id k=some k'→IP P k E→
  ∃rk',IP P k' rk'∧∀a w,D8 P fn R rk' .normal a w→D8 P fn R E (.exit id) a w
 | [],k',E,h,_=>by simp [EW] at h
 | .blk j::k,k',E,h,⟨y,r,h6,hy,hr⟩=>by
   subst h6;cases y with
   | code x=>exact hy.elim
   | ops all l=>exact hy.elim
   | blk i=>
     have:j=i:=hy;subst this;simp only [EW] at h;split at h
     ·rename_i hj;rw [beq_iff_eq] at hj;simp at h;subst h;exact ⟨r,hr,fun a w hc=>by simp only [D8,hj,if_true];exact hc⟩
     ·rename_i hj;have hj:¬j=id:=fun e=>by rw [beq_iff_eq.2 e] at hj;simp at hj
      obtain ⟨rk',h1,h2⟩:=P5 h hr;exact ⟨rk',h1,fun a w hc=>by simp only [D8];rw [if_neg (fun e=>hj e.symm)];exact h2 a w hc⟩
   | lp _ _=>exact hy.elim
   | sc _=>exact hy.elim
 | .code _::k,k',E,h,⟨y,r,h6,hy,hr⟩=>by
   subst h6;simp only [EW] at h;obtain ⟨rk',h1,h2⟩:=P5 h hr;cases y with
   | code x=>exact ⟨rk',h1,fun a w hc=>h2 a w hc⟩
   | ops all l=>exact hy.elim
   | blk i=>exact hy.elim
   | lp _ _=>exact hy.elim
   | sc _=>exact hy.elim
 | .ops _::k,k',E,h,⟨y,r,h6,hy,hr⟩=>by
   subst h6;simp only [EW] at h;obtain ⟨rk',h1,h2⟩:=P5 h hr;cases y with
   | code x=>exact hy.elim
   | ops all l=>exact ⟨rk',h1,fun a w hc=>h2 a w hc⟩
   | blk i=>exact hy.elim
   | lp _ _=>exact hy.elim
   | sc _=>exact hy.elim
 | .lp _ _::k,k',E,h,⟨y,r,h6,hy,hr⟩=>by
   subst h6;simp only [EW] at h;obtain ⟨rk',h1,h2⟩:=P5 h hr;cases y with
   | code x=>exact hy.elim
   | ops all l=>exact hy.elim
   | blk i=>exact hy.elim
   | lp _ _=>exact ⟨rk',h1,fun a w hc=>h2 a w hc⟩
   | sc _=>exact hy.elim
 | .sc _::k,k',E,h,⟨y,r,h6,hy,hr⟩=>by
   subst h6;simp only [EW] at h;obtain ⟨rk',h1,h2⟩:=P5 h hr;cases y with
   | code x=>exact hy.elim
   | ops all l=>exact hy.elim
   | blk i=>exact hy.elim
   | lp _ _=>exact hy.elim
   | sc _=>exact ⟨rk',h1,fun a w hc=>YP (by simp) (h2 a w hc)⟩
theorem n5 {id:Nat} {k':List It} (hu:EW id k=some k') (h:V c fn K k' S):V c fn K (.code (.exit id)::k) S:=F2 fun x hx rk M s w hr hT=>by rw [oo hx];obtain ⟨rk',h1,h2⟩:=P5 (fn:=fn) (R:=RK c K) hu hr;exact wp_exit (h2 _ _ (h rk' M s w h1 hT))
theorem Au {M:Mem} {a:Act} {w:World} (E:RelT c M S a w) (o:Operand):(S.x (cX o)).is M (a.eval o):=by
 cases o with
 | tmp t=>exact E.tm t
 | const v=>exact m8 M v
 | global g=>trivial
 | func f=>simp [cX,St.x,AV.is,AV.isL,Act.eval]
theorem nG {o:X} {a b:EC} (hx:S.x o = .tt) (h:V c fn K (.code a::k) S):V c fn K (.code (.ite o a b)::k) S:=F2 fun x hc rk M s w hr hT=>by obtain ⟨q,y,z,rfl,rfl,hy,hz⟩:=Ze hc;have hq:=Au hT q;rw [hx] at hq;exact wp_cond_true hq (h (.code y::rk) M s w ⟨_,_,rfl,hy,hr⟩ hT)
theorem n6 {o:X} {a b:EC} (hx:S.x o = .ff) (h:V c fn K (.code b::k) S):V c fn K (.code (.ite o a b)::k) S:=F2 fun x hc rk M s w hr hT=>by obtain ⟨q,y,z,rfl,rfl,hy,hz⟩:=Ze hc;have hq:=Au hT q;rw [hx] at hq;exact wp_cond_false hq (h (.code z::rk) M s w ⟨_,_,rfl,hz,hr⟩ hT)
theorem FA {o:X} {a b:EC} {e:Bool} (hx:S.x o = .bv e) (h1:e=true→V c fn K (.code a::k) S) (h2:e=false→V c fn K (.code b::k) S):V c fn K (.code (.ite o a b)::k) S:=F2 fun x hc rk M s w hr hT=>by obtain ⟨q,y,z,rfl,rfl,hy,hz⟩:=Ze hc;have hq:=Au hT q;rw [hx] at hq;refine wp_cond_split hq (fun e=>h1 e (.code y::rk) M s w ⟨_,_,rfl,hy,hr⟩ hT) (fun e=>h2 e (.code z::rk) M s w ⟨_,_,rfl,hz,hr⟩ hT)
end
end NX
end Go.Proofs.YtgnjledocpbchaaGreat
/-
  The symbolic machine: structs compared. No statement of the seat is proved here.
-/
namespace Go.Proofs.YtgnjledocpbchaaGreat
namespace NX
open Go Go.RowKit
section
variable {P:Program} {w:World}
theorem dB {T:TypeId} (h:F3 P T=some none):(isAgg T).run P w = .ok false w:=by unfold F3 at h;split at h<;>simp at h;rename_i d i hu hi h6 h8;simp only [isAgg,Sem.run_bind,run_underlying h6,Result.andThen_ok];cases d<;>first | rfl | (exact absurd rfl (hu _)) | (exact absurd rfl (hi _ _))
theorem Uf {T:TypeId} {n:Nat} (h:F3 P T=some (some n)):(isAgg T).run P w = .ok true w∧(sizeOf T).run P w = .ok n w:=by
 unfold F3 at h;split at h<;>simp at h
 ·rename_i i hu hi;subst h;simp [isAgg,run_underlying hu,sizeOf,typeInfo,hi]
 ·rename_i i hu hi;subst h;simp [isAgg,run_underlying hu,sizeOf,typeInfo,hi]
theorem FN {T:TypeId} {n:Nat} (h:Cj P T=some n):(sizeOf T).run P w = .ok n w:=by
 unfold Cj at h;cases hi:P.info? T with
 | none=>simp [hi] at h
 | some i=>simp [hi] at h;subst h;simp [sizeOf,typeInfo,hi]
end
def bt:Bool→Value→Prop
 | true,v=>∃n,v = .int .i64 n
 | false,v=>∃b,v = .bool b
def Dj:List Bool→List Value→Prop
 | [],vs=>vs=[]
 | k::ks,vs=>∃v r,vs=v::r∧bt k v∧Dj ks r
def P7:Value→Value→Bool
 | .int _ a,.int _ b=>a==b
 | .bool a,.bool b=>a==b
 | _,_=>false
def DR:List Value→List Value→Bool
 | x::l,y::r=>P7 x y&&DR l r
 | _,_=>true
theorem Lq:∀ {ks:List Bool} {vs:List Value},Dj ks vs→vs.length=ks.length
 | [],_,h=>by simp [Dj] at h;simp [h]
 | _::_,_,⟨v,r,h0,_,h⟩=>by subst h0;simp [Lq h]
theorem bu:∀ {a b:List Bool} {vs:List Value},Dj (a++b) vs→Dj a (vs.take a.length)∧Dj b (vs.drop a.length)
 | [],b,vs,h=>by simpa [Dj] using h
 | _::a,b,_,⟨v,r,h0,h1,h⟩=>by subst h0;obtain ⟨g1,g2⟩:=bu h;exact ⟨⟨v,r.take a.length,by simp,h1,g1⟩,by simpa using g2⟩
theorem dF:∀(n:Nat) (x y:List Value),x.length=y.length→DR x y=(DR (x.take n) (y.take n)&&DR (x.drop n) (y.drop n))
 | 0,x,y,_=>by simp [DR]
 | n+1,[],[],_=>by simp [DR]
 | n+1,[],_::_,h=>by simp at h
 | n+1,_::_,[],h=>by simp at h
 | n+1,x::l,y::r,h=>by simp [DR,dF n l r (by simpa using h),Bool.and_assoc]
theorem gi {P:Program} {w:World} {D:Nat} {g:TypeId→Option (List Bool)}
  (hg:∀T ks,g T=some ks→∀(xs J:List Value),Dj ks xs→Dj ks J→∀(A B:List Value) (o:Nat),(A.drop o).take ks.length=xs→(B.drop o).take ks.length=J→
    ∃u v,(part T A.toArray o).run P w = .ok u w∧(part T B.toArray o).run P w = .ok v w∧(Op.equalIn D T u v).run P w = .ok (DR xs J) w):
  ∀(E:List Field) (off:Nat) (ks:List Bool),PJ g E off=some ks→∀(A B:List Value),Dj ks (A.drop off)→Dj ks (B.drop off)→
   (Op.eqFields D A.toArray B.toArray E).run P w = .ok (DR (A.drop off) (B.drop off)) w
 | [],off,ks,h,A,B,hA,hB=>by
   simp [PJ] at h;subst h;simp [Dj] at hA hB;have e1:A.drop off=[]:=by simpa using hA
   have e2:B.drop off=[]:=by simpa using hB
   simp [Op.eqFields,e1,e2,DR]
 | f::E,off,ks,h,A,B,hA,hB=>by
   simp only [PJ] at h;split at h
   ·rename_i hf;split at h
    ·rename_i l hl;simp only [Option.map_eq_some_iff] at h;obtain ⟨r,hr,rfl⟩:=h;obtain ⟨a1,a2⟩:=bu hA;obtain ⟨b1,b2⟩:=bu hB;obtain ⟨u,v,r1,r2,r3⟩:=hg f.type l hl _ _ a1 b1 A B off rfl rfl;rw [List.drop_drop] at a2 b2;have ih:=gi hg E (off+l.length) r hr A B a2 b2;have h6:(A.drop off).length=(B.drop off).length:=by rw [Lq hA,Lq hB]
     rw [dF l.length _ _ h6,List.drop_drop,List.drop_drop];have h8:f.name≠"_":=hf.1;simp only [Op.eqFields,h8,ne_eq,not_false_eq_true,if_true,Sem.run_bind,hf.2,r1,r2,r3,Result.andThen_ok];cases DR (List.take l.length (A.drop off)) (List.take l.length (B.drop off))
     ·simp
     ·simpa using ih
    ·simp at h
   ·simp at h
theorem gk {P:Program} {w:World}:∀(d D:Nat),d≤D→∀T ks,Ie P d T=some ks→∀(xs E:List Value),Dj ks xs→Dj ks E→∀(A B:List Value) (o:Nat),(A.drop o).take ks.length=xs→(B.drop o).take ks.length=E→
   ∃u v,(part T A.toArray o).run P w = .ok u w∧(part T B.toArray o).run P w = .ok v w∧(Op.equalIn D T u v).run P w = .ok (DR xs E) w
 | 0,_,_,T,ks,h=>by simp [Ie] at h
 | d+1,0,hd,_,_,_=>by omega
 | d+1,D+1,hd,T,ks,h=>by
   intro xs E hx hy A B o hA hB;simp only [Ie] at h;have one:∀(C:List Value) (z:Value),(C.drop o).take 1=[z]→C[o]?=some z:=by intro C z hz;have:=congrArg (·[0]?) hz;simpa using this
   split at h
   ·rename_i k hu;simp at h;subst h;obtain ⟨x,r,rfl,⟨n,rfl⟩,hr⟩:=hx;obtain ⟨y,r',rfl,⟨m,rfl⟩,hr'⟩:=hy;simp [Dj] at hr hr';subst hr;subst hr';have ha:(isAgg T).run P w = .ok false w:=by simp [isAgg,run_underlying hu]
    refine ⟨.int .i64 n,.int .i64 m,?_,?_,?_⟩
    ·simp [part,ha,one A _ hA]
    ·simp [part,ha,one B _ hB]
    ·rw [run_equalIn_int w D T .i64 k n m hu];simp [DR,P7]
   ·rename_i hu;simp at h;subst h;obtain ⟨x,r,rfl,⟨n,rfl⟩,hr⟩:=hx;obtain ⟨y,r',rfl,⟨m,rfl⟩,hr'⟩:=hy;simp [Dj] at hr hr';subst hr;subst hr';have ha:(isAgg T).run P w = .ok false w:=by simp [isAgg,run_underlying hu]
    refine ⟨.bool n,.bool m,?_,?_,?_⟩
    ·simp [part,ha,one A _ hA]
    ·simp [part,ha,one B _ hB]
    ·rw [run_equalIn_bool' w D T n m hu];simp [DR,P7]
   ·rename_i fs hu;split at h
    ·rename_i hs;have h8:P.fieldsOf T=fs:=by simp [Program.fieldsOf,hu]
     have hu':P.underlying T=some (.struct (P.fieldsOf T)):=by rw [h8];exact hu
     split at h
     ·rename_i l hl;split at h<;>simp at h;rename_i hn;subst h;have h6:(isAgg T).run P w = .ok true w:=by simp [isAgg,run_underlying hu]
      have h9:=FN (P:=P) (w:=w) (T:=T) (n:=l.length) (by simpa using hn);have hw:=Lq hx;have hC:=Lq hy;refine ⟨.agg xs.toArray,.agg E.toArray,?_,?_,?_⟩
      ·simp [part,h6,h9];rw [←hA]
      ·simp [part,h6,h9];rw [←hB]
      ·rw [run_equalIn_struct w D T _ _ hu' hs,h8];exact gi (fun T ks hk=>gk d D Om T ks hk) fs.toList 0 l hl xs E (by simpa using hx) (by simpa using hy)
     ·simp at h
    ·simp at h
   ·simp at h
theorem gj {P:Program} {w:World} {d D:Nat} (hd:d≤D) {T:TypeId} {J:Array Field} {ks:List Bool} (hu:P.underlying T=some (.struct J)) (h:Ie P d T=some ks)
  {xs E:List Value} (hx:Dj ks xs) (hy:Dj ks E):(Op.equalIn D T (.agg xs.toArray) (.agg E.toArray)).run P w = .ok (DR xs E) w:=by
 have h8:=Lq hx;have h9:=Lq hy;obtain ⟨u,v,h1,h2,h3⟩:=gk (P:=P) (w:=w) d D hd T ks h xs E hx hy xs E 0 (by simp [←h8]) (by simp [←h9]);have h6:(isAgg T).run P w = .ok true w:=by simp [isAgg,run_underlying hu]
 have hn:Cj P T=some ks.length:=by
  cases d with
  | zero=>simp [Ie] at h
  | succ d=>
    simp only [Ie,hu] at h;split at h
    ·split at h
     ·split at h<;>simp at h;subst h;assumption
     ·simp at h
    ·simp at h
 have hw:=FN (P:=P) (w:=w) (T:=T) (n:=ks.length) (by simpa using hn);simp [part,h6,hw] at h1;simp [part,h6,hw] at h2;rw [←h8,List.take_length] at h1;rw [←h9,List.take_length] at h2;rw [h1,h2];exact h3
theorem qt {M:Mem} {k:Bool} {x y:AV} {e:Bool} {u v:Value} (h:Uw k x y=some e) (hx:AV.is M x u) (hy:AV.is M y v):bt k u∧bt k v∧P7 u v=e:=by
 cases k<;>simp only [Uw] at h<;>split at h<;>simp at h
 ·rename_i a b h1 h2;have f:∀ {x:AV} {a:Bool} {u:Value},Gr x=some a→AV.is M x u→u = .bool a:=by intro x a u h hx;cases x<;>simp [Gr] at h<;>subst h<;>simpa [AV.is] using hx
  rw [f h1 hx,f h2 hy];exact ⟨⟨_,rfl⟩,⟨_,rfl⟩,by simp [P7,h]⟩
 ·rename_i a b h1 h2;have f:∀ {x:AV} {a:Int} {u:Value},Px x=some a→AV.is M x u→u = .int .i64 a:=by intro x a u h hx;cases x<;>simp [Px] at h;subst h;simpa [AV.is] using hx
  rw [f h1 hx,f h2 hy];refine ⟨⟨_,rfl⟩,⟨_,rfl⟩,?_⟩;rw [←h];simp only [P7];exact Bool.eq_iff_iff.mpr (by simp)
theorem eU {M:Mem}:∀ {ks:List Bool} {l r:List AV} {e:Bool} {us vs:List Value},Ki ks l r=some e→AV.isL M l us→AV.isL M r vs→Dj ks us∧Dj ks vs∧DR us vs=e
 | [],l,r,e,us,vs,h,hx,hy=>by simp only [Ki] at h;split at h<;>simp at h;simp [AV.isL] at hx hy;simp [hx,hy,Dj,DR,←h]
 | k::ks,l,r,e,us,vs,h,hx,hy=>by
   simp only [Ki] at h;split at h
   ·split at h<;>simp at h;rename_i h1 h2;obtain ⟨u,us,rfl,hu,hx⟩:=hx;obtain ⟨v,vs,rfl,hv,hy⟩:=hy;obtain ⟨a1,a2,a3⟩:=qt h1 hu hv;obtain ⟨b1,b2,b3⟩:=eU h2 hx hy;exact ⟨⟨_,_,rfl,a1,b1⟩,⟨_,_,rfl,a2,b2⟩,by simp [DR,a3,b3,h]⟩
   ·simp at h
theorem qu {P:Program} {w:World} {ng:Bool} {T:TypeId} {J:Array Field} {ks:List Bool} (hu:P.underlying T=some (.struct J)) (h:Ie P 8 T=some ks)
  {xs E:List Value} (hx:Dj ks xs) (hy:Dj ks E) {op:BinOp} (ho:op=(if ng then .neq else .eql)):(binOp op T (.agg xs.toArray) (.agg E.toArray)).run P w = .ok (.bool (GY ng (DR xs E))) w:=by
 subst ho;cases ng
 ·simp [run_eql_struct,gj (D:=10000) Om hu h hx hy,GY]
 ·simp [run_neq_struct,gj (D:=10000) Om hu h hx hy,GY]
end NX
end Go.Proofs.YtgnjledocpbchaaGreat
