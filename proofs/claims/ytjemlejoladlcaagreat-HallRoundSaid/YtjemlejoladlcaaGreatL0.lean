/-
  A small symbolic machine over abstract values: the definitions. No statement of the seat is proved here.
-/
import Derived.Test.YtjemlejoladlcaaGreatProg
import Derived.WalkKit
import Derived.WalkLawsBesides
namespace Go.Proofs.YtjemlejoladlcaaGreat
namespace NX
open Go Go.RowKit
theorem Om {p:Prop} (h:p:=by omega):p:=h
abbrev Frag:=Nat→Option Obj
def Z1T:List (String×Array Value):=[]
def Kf (P:Program) (H:Frag):Prop:=∀s∈Z1T,∀g,P.globalNamed s.1=some g→∃T fr,H g=some (.cells s.2 T fr)
theorem Kf.mono {P:Program} {H E:Frag} (h:Kf P H) (k:∀k o,H k=some o→E k=some o):Kf P E:=fun s hs g hg=>let ⟨T,fr,e⟩:=h s hs g hg;⟨T,fr,k _ _ e⟩
inductive AV where
 | any
 | un
 | tt
 | ff
 | bv (e:Bool)
 | iv (n:Int)
 | kv (k:IntKind) (n:Int)
 | sv (x:ByteArray)
 | nl
 | nlp
 | fn (f:Nat)
 | ptr (j off:Nat)
 | osl (j:Nat)
 | oel (j i off:Nat)
 | ocs (j lo n m:Nat)
 | elt (row:List AV) (off:Nat)
 | sl (n:Nat) (rows:List (List AV))
 | agg (l:List AV)
 | tup (l:List AV)
 | clo (f:Nat) (caps:List AV)
 deriving Inhabited
structure Mem where
 ρ:Nat→Nat
 σ:Nat→Value
 nb:Nat
 ns:Nat
 H:Frag
def Mem.pure (M:Mem):Mem:=⟨fun _=>0,fun _=>.nilFunc,0,0,M.H⟩
def Mem.sl (M:Mem):Mem:=⟨fun _=>0,M.σ,0,M.ns,M.H⟩
def DC (H:Frag):Mem:=⟨fun _=>0,fun _=>.nilFunc,0,0,H⟩
def LL (H:Frag) (a:Addr) (vs:List Value):Prop:=a.spot=none∧(∀v∈vs,v.oneCell'=true)∧∃cs T fr,H a.block=some (.cells cs T fr)∧∀(k:Nat) v,vs[k]?=some v→cs[a.off+k]?=some v
mutual
def AV.is (M:Mem):AV→Value→Prop
 | .any,_=>True
 | .un,x=>x=undef
 | .tt,x=>x = .bool true
 | .ff,x=>x = .bool false
 | .bv e,x=>x = .bool e
 | .iv n,x=>x = .int .i64 n
 | .kv k n,x=>x = .int k n
 | .sv t,x=>x = .string t
 | .nl,x=>x = .slice none 0 0
 | .nlp,x=>x = .pointer none
 | .fn f,x=>x = .func (.func f) #[] #[]
 | .ptr j off,x=>j<M.nb∧x = .pointer (some ⟨M.ρ j,off,none⟩)
 | .osl j,x=>j<M.ns∧x=M.σ j
 | .oel j k off,x=>j<M.ns∧∃g n c,M.σ j = .slice (some ⟨g,0,none⟩) n c∧x = .pointer (some ⟨g,k+off,none⟩)
 | .ocs j lo n m,x=>j<M.ns∧∃g len c,M.σ j = .slice (some ⟨g,0,none⟩) len c∧x = .slice (some ⟨g,if c=lo then 0 else lo*n,none⟩) m (c-lo)
 | .elt row off,x=>∃(a:Addr) (vs:List Value),x = .pointer (some ⟨a.block,a.off+off,none⟩)∧AV.isL M.pure row vs∧LL M.H a vs
 | .sl n rows,x=>∃a c,x = .slice a rows.length c∧(rows.length≤c∧(a=none→c=0))∧(rows≠ []→∃ad vss,a=some ad∧AV.isLL M.pure n rows vss∧LL M.H ad vss.flatten)
 | .agg l,x=>∃vs:List Value,x = .agg vs.toArray∧AV.isL M l vs
 | .tup l,x=>∃vs:List Value,x = .tuple vs.toArray∧AV.isL M l vs
 | .clo f caps,x=>∃vs:List Value,x = .func (.func f) #[] vs.toArray∧AV.isL M caps vs
def AV.isL (M:Mem):List AV→List Value→Prop
 | [],vs=>vs=[]
 | x::l,vs=>∃v r,vs=v::r∧AV.is M x v∧AV.isL M l r
def AV.isLL (M:Mem) (n:Nat):List (List AV)→List (List Value)→Prop
 | [],vss=>vss=[]
 | x::l,vss=>∃v r,vss=v::r∧v.length=n∧AV.isL M x v∧AV.isLL M n l r
end
def BS:Bool→Bool→Bool
 | true,b=>b
 | false,_=>false
def AA:Nat→Nat→Bool
 | 0,_=>true
 | a+1,b=>match b with
   | 0=>false
   | b+1=>AA a b
inductive X where
 | t (n:Nat)
 | c (a:AV)
 | bad
 deriving Inhabited
inductive EO where
 | mv (x:X)
 | pick (c a b:X)
 | alloc (T:Nat) (zero:List AV)
 | box (T n:Nat) (x:X)
 | load (x:X)
 | loadA (n:Nat) (x:X)
 | store (n:Nat) (a v:X)
 | nilchk (x:X)
 | bin (op:BinOp) (x y:X)
 | eqs (ng:Bool) (ks:List Bool) (x y:X)
 | isnil (ng:Bool) (x:X)
 | bq (ng:Bool) (x y:X)
 | not (x:X)
 | neg (x:X)
 | conv (k:IntKind) (x:X)
 | fld (off:Nat) (x:X)
 | field (off:Nat) (n:Option Nat) (x:X)
 | idx (n:Nat) (x i:X)
 | idxa (len n:Nat) (x i:X)
 | build (zero:List AV) (parts:List (Nat×Nat×X))
 | bsl (T n len:Nat) (zero:List AV) (parts:List (Nat×X))
 | ext (x:X) (i:Nat)
 | mkf (f:Nat) (caps:List X)
 | len (x:X)
 | app (T n bytes:Nat) (x y:X)
 | mm (isMax:Bool) (xs:List X)
 | call (f:Nat) (args:List X)
 | callv (f:X) (args:List X)
 | slice (n:Nat) (x:X) (lo hi:Option X)
 | mks (T n bytes:Nat) (zero:List AV) (x y:X)
 | cap (x:X)
 | apz (T n bytes:Nat) (zero:List AV) (x y:X)
 | ai (len:Nat) (x i:X)
 | copy (n:Nat) (x y:X)
 | clr (zero:List AV) (x:X)
 | sl3 (n:Nat) (x:X) (lo hi mx:Option X)
 | sbin (op:BinOp) (x y:X)
 | slen (x:X)
 | sidx (x i:X)
 | ssl (x:X) (lo hi:Option X)
 | b2s (x:X)
 | xcall (f:Nat) (args:List X)
 | bad
 deriving Inhabited
structure EOp where
 d:Option Nat
 g:Option (Nat×Bool)
 o:EO
 deriving Inhabited
@[go_sem,reducible] def Qa (d:Nat) (o:EO):EOp:=⟨some d,none,o⟩
@[go_sem,reducible] def Qm (d x:Nat):EOp:=Qa d (.mv (.t x))
@[go_sem,reducible] def Qi (d:Nat) (k:Int):EOp:=Qa d (.mv (.c (.iv k)))
@[go_sem,reducible] def Qe (d n x:Nat):EOp:=Qa d (.loadA n (.t x))
@[go_sem,reducible] def Qk (d n x i:Nat):EOp:=Qa d (.idx n (.t x) (.t i))
@[go_sem,reducible] def Qv (d x:Nat) (k:Int):EOp:=Qa d (.bin .add (.t x) (.c (.iv k)))
@[go_sem,reducible] def Qx (d T n x:Nat):EOp:=Qa d (.box T n (.t x))
theorem An {a b:Prop} (h:b) (ha:a:=by simp):a∧b:=⟨ha,h⟩
theorem Bs {α β:Type} {o:Option α} {f:α→Option β} {r:β} (h:o.bind f=some r):∃a,o=some a∧f a=some r:=Option.bind_eq_some_iff.1 h
attribute [go_sem_proc] Nat.reduceBEq Nat.reduceAdd
inductive EC where
 | skip
 | reg (ops:List EOp)
 | drw (ops:List EOp) (af nap:List (List Nat))
 | seq (a b:EC)
 | ite (x:X) (a b:EC)
 | blk (id:Nat) (a:EC)
 | loop (a:EC)
 | exit (id:Nat)
 | scope (a:EC)
 | label (l:Nat)
 | goto (l:Nat)
 | ret
 | bad
 deriving Inhabited
def Dw:Value→AV
 | .int .i64 n=>.iv n
 | .int k n=>.kv k n
 | .bool true=>.tt
 | .bool false=>.ff
 | .string s=>.sv s
 | .slice none 0 0=>.nl
 | .pointer none=>.nlp
 | _=>.any
def cX:Operand→X
 | .tmp t=>.t t
 | .const v=>.c (Dw v)
 | .func f=>.c (.clo f [])
 | .global _=>.bad
section comp
variable (P:Program)
def Ez (T:TypeId):Option (Option Nat):=
 match P.underlying T,P.info? T with
 | some (.struct _),some i | some (.array _ _),some i=>some (some i.size)
 | some _,some _=>some none
 | _,_=>none
def LI (T:TypeId):Option (List AV):=
 match P.info? T with
 | some i=>match i.zero with
   | some z=>if z.cells.size=i.size then some (z.cells.toList.map Dw) else none
   | none=>none
 | none=>none
def C9 (T:TypeId):Option Nat:=(P.info? T).map (·.size)
def U8:List Field→Option (List (Nat×Nat))
 | []=>some []
 | f::l=>match C9 P f.type,U8 l with
   | some n,some r=>some ((f.offset,n)::r)
   | _,_=>none
def Q2 (g:TypeId→Option (List Bool)):List Field→Nat→Option (List Bool)
 | [],_=>some []
 | f::fs,off=>if f.name≠"_"∧f.offset=off then match g f.type with
   | some l=>(Q2 g fs (off+l.length)).map (l ++ ·)
   | none=>none
   else none
def I7:Nat→TypeId→Option (List Bool)
 | 0,_=>none
 | d+1,T=>match P.underlying T with
   | some (.int _)=>some [true]
   | some .bool=>some [false]
   | some (.struct fs)=>if P.stoodInHeld T=false then match Q2 (I7 d) fs.toList 0 with
     | some l=>if C9 P T=some l.length then some l else none
     | none=>none
     else none
   | _=>none
def xo:BinOp→Bool
 | .add | .sub | .mul | .quo | .rem | .and | .or | .xor | .shl | .shr | .eql | .neq | .lss | .leq | .gtr | .geq=>true
 | _=>false
def cO (o:Op):EO:=
 match o with
 | .move x | .assign x=>.mv (cX x)
 | .pick c a b=>.pick (cX c) (cX a) (cX b)
 | .alloc T=>match LI P T with | some z=>.alloc T z | none=>.bad
 | .box T x=>match C9 P T with | some n=>.box T n (cX x) | none=>.bad
 | .load T x=>match Ez P T with
   | some none=>.load (cX x)
   | some (some n)=>.loadA n (cX x)
   | none=>.bad
 | .store T a v=>match C9 P T with | some n=>.store n (cX a) (cX v) | none=>.bad
 | .nilCheck x=>.nilchk (cX x)
 | .binOp op T x y _=>match P.underlying T with
   | some (.int _)=>if xo op then .bin op (cX x) (cX y) else .bad
   | some (.struct _)=>match I7 P 8 T,P.eqGuardType P.depth T with
     | some ks,false=>match op with
       | .eql=>.eqs false ks (cX x) (cX y)
       | .neq=>.eqs true ks (cX x) (cX y)
       | _=>.bad
     | _,_=>.bad
   | some .string=>.sbin op (cX x) (cX y)
   | some .bool=>match op with
     | .eql=>.bq false (cX x) (cX y)
     | .neq=>.bq true (cX x) (cX y)
     | _=>.bad
   | some (.slice _)=>match y with
     | .const (.slice none 0 0)=>match op with
       | .eql=>.isnil false (cX x)
       | .neq=>.isnil true (cX x)
       | _=>.bad
     | _=>.bad
   | some _=>.bad
   | none=>.bad
 | .unOp op _ x=>match op with
   | .not=>.not (cX x)
   | .neg=>.neg (cX x)
   | _=>.bad
 | .convert s t x=>match P.underlying s,P.underlying t with
   | some (.int _),some (.int k)=>.conv k (cX x)
   | some (.slice e),some .string=>match P.underlying e with
     | some (.int .u8)=>.b2s (cX x)
     | _=>.bad
   | _,_=>.bad
 | .fieldAddr T x f=>match P.underlying T with
   | some (.struct fs)=>match fs[f]? with
     | some fd=>if 0<(C9 P fd.type).getD 0 then .fld fd.offset (cX x) else .bad
     | none=>.bad
   | _=>.bad
 | .field T x f=>match P.underlying T with
   | some (.struct fs)=>match fs[f]? with
     | some fd=>match Ez P fd.type with
       | some n=>.field fd.offset n (cX x)
       | none=>.bad
     | none=>.bad
   | _=>.bad
 | .indexAddr T x i=>match P.underlying T with
   | some (.slice e)=>match C9 P e with
     | some n=>.idx n (cX x) (cX i)
     | none=>.bad
   | some (.array l e)=>match C9 P e with
     | some n=>.idxa l n (cX x) (cX i)
     | none=>.bad
   | _=>.bad
 | .index T x i=>match P.underlying T with
   | some (.array l e)=>match Ez P e,C9 P e with
     | some none,some n=>if n=1 then .ai l (cX x) (cX i) else .bad
     | _,_=>.bad
   | some .string=>.sidx (cX x) (cX i)
   | _=>.bad
 | .build T ps=>match P.underlying T,LI P T with
   | some (.struct fs),some z=>match U8 P fs.toList with
     | some pl=>match ps.toList.mapM fun (i,x)=>(pl[i]?).map fun on=>(on.1,on.2,cX x) with
       | some l=>.build z l
       | none=>.bad
     | none=>.bad
   | some (.array _ e),some z=>match C9 P e with
     | some n=>.build z (ps.toList.map fun (i,x)=>(i*n,n,cX x))
     | none=>.bad
   | _,_=>.bad
 | .buildSlice T len ps=>match P.underlying T with
   | some (.slice e)=>match C9 P e,LI P e with
     | some n,some z=>.bsl e n len z (ps.toList.map fun (i,x)=>(i,cX x))
     | _,_=>.bad
   | _=>.bad
 | .extract x i=>.ext (cX x) i
 | .makeFunc fn first caps=>match fn with
   | .func f=>if first.size=0 then .mkf f (caps.toList.map cX) else .bad
   | _=>.bad
 | .slice T x lo hi mx=>match P.underlying T,mx with
   | some (.slice e),none=>match C9 P e with
     | some n=>.slice n (cX x) (lo.map cX) (hi.map cX)
     | none=>.bad
   | some (.slice e),some m=>match C9 P e with
     | some n=>.sl3 n (cX x) (lo.map cX) (hi.map cX) (some (cX m))
     | none=>.bad
   | some .string,none=>.ssl (cX x) (lo.map cX) (hi.map cX)
   | _,_=>.bad
 | .makeSlice T x y=>match P.underlying T with
   | some (.slice e)=>match P.info? e with
     | some i=>match i.zero with
       | some z=>if z.cells.size=i.size∧0<i.size then .mks e i.size i.bytes (z.cells.toList.map Dw) (cX x) (cX y) else .bad
       | none=>.bad
     | none=>.bad
   | _=>.bad
 | .call c=>match c.callee with
   | .value f=>match f with
     | .func f=>if (P.funcs[f]?).any (fun fn=>fn.body.isSome&&!(fn.name == "runtime.NumGoroutine")) then .call f (c.args.toList.map cX) else .xcall f (c.args.toList.map cX)
     | .tmp t=>.callv (.t t) (c.args.toList.map cX)
     | _=>.bad
   | .invoke _ _=>.bad
   | .builtin bi=>match bi with
     | .len=>match c.argTypes[0]?,c.args.toList with
       | some t0,[x]=>match P.underlying t0 with
         | some (.slice _)=>.len (cX x)
         | some .string=>.slen (cX x)
         | _=>.bad
       | _,_=>.bad
     | .append=>match c.argTypes.toList,c.args.toList with
       | [t0,t1],[x,y]=>if t0=t1 then match P.underlying t0 with
         | some (.slice e)=>match P.info? e with
           | some i=>match i.zero with
             | some z=>if z.cells.size=i.size∧0<i.size then .app e i.size i.bytes (cX x) (cX y) else .bad
             | none=>.bad
           | none=>.bad
         | _=>.bad
         else match P.underlying t0,P.underlying t1 with
          | some (.slice e),some (.int _)=>match P.info? e with
            | some i=>match i.zero with
              | some z=>if z.cells.size=i.size∧0<i.size then .apz e i.size i.bytes (z.cells.toList.map Dw) (cX x) (cX y) else .bad
              | none=>.bad
            | none=>.bad
          | _,_=>.bad
       | _,_=>.bad
     | .cap=>match c.argTypes[0]?,c.args.toList with
       | some t0,[x]=>match P.underlying t0 with
         | some (.slice _)=>.cap (cX x)
         | _=>.bad
       | _,_=>.bad
     | .clear=>match c.argTypes.toList,c.args.toList with
       | [t0],[x]=>match P.underlying t0 with
         | some (.slice e)=>match LI P e,C9 P e with
           | some z,some n=>if z.length=n∧0<n then .clr z (cX x) else .bad
           | _,_=>.bad
         | _=>.bad
       | _,_=>.bad
     | .copy=>match c.argTypes.toList,c.args.toList with
       | [t0,_],[x,y]=>match P.underlying t0 with
         | some (.slice e)=>match C9 P e with
           | some n=>.copy n (cX x) (cX y)
           | none=>.bad
         | _=>.bad
       | _,_=>.bad
     | .max=>.mm true (c.args.toList.map cX)
     | .min=>.mm false (c.args.toList.map cX)
     | _=>.bad
 | _=>.bad
def AL (all:Array Oper) (o:Oper):Option EOp:=
 match o.guard with
 | none=>some ⟨o.dst,none,cO P o.op⟩
 | some (j,f)=>match (all[j]?).bind (·.dst) with
   | some t=>some ⟨o.dst,some (t,f),cO P o.op⟩
   | none=>none
def IJ (i:Nat):List Nat→Bool
 | []=>false
 | j::l=>match i==j with
   | true=>true
   | false=>IJ i l
def LS:List Nat→List Nat→List Nat
 | l,[]=>l
 | l,x::xs=>match IJ x l with
   | true=>LS l xs
   | false=>LS (l++[x]) xs
def Lt:List (List Nat)→Nat→List Nat
 | [],_=>[]
 | x::_,0=>x
 | _::l,n+1=>Lt l n
def PG (acc:List (List Nat)):List Nat→List Nat→List Nat
 | l,[]=>l
 | l,k::w=>PG acc (LS l (Lt acc k)) w
def PF:List (List Nat)→List (List Nat)→List (List Nat)
 | acc,[]=>acc
 | acc,w::l=>PF (acc++[PG acc w w]) l
def HT (ops:Array Oper):List (List Nat):=ops.toList.map fun o=>o.after.toList.filterMap fun e=>match Region.binds .any e with | true=>some e.on | false=>none
def Bn (ops:Array Oper):List (List Nat):=PF [] (HT ops)
def CX (ops:Array Oper):List (List Nat):=(List.range ops.size).map fun i=>(List.range ops.size).filter fun j=>match ops[i]?,ops[j]? with
 | some x,some y=>!(i==j)&&!(x.apart ops y)
 | _,_=>false
def cC:Code→Option EC
 | .skip=>some .skip
 | .region _ ops draw=>match ops.toList.mapM (AL P ops) with
   | some l=>match draw with
     | true=>match Region.noSelect ops with
       | true=>some (.drw l (Bn ops) (CX ops))
       | false=>some .bad
     | false=>some (.reg l)
   | none=>none
 | .seq a b=>match cC a,cC b with | some x,some y=>some (.seq x y) | _,_=>none
 | .cond c a b=>match cC a,cC b with | some x,some y=>some (.ite (cX c) x y) | _,_=>none
 | .block id a=>(cC a).map (.blk id)
 | .loop a=>(cC a).map .loop
 | .exit id=>some (.exit id)
 | .scope a=>(cC a).map .scope
 | .label l=>some (.label l)
 | .goto l=>some (.goto l)
 | .ret=>some .ret
 | _=>some .bad
end comp
structure Blk where
 T:Nat
 cells:List AV
 deriving Inhabited
structure Sl where
 T:Nat
 n:Nat
 rows:List (List AV)
 deriving Inhabited
structure St where
 tm:List AV
 bs:List (Option Blk)
 ss:List (Option Sl)
 deriving Inhabited
def AJ:List AV→Nat→AV
 | [],_=>.any
 | x::_,0=>x
 | _::l,n+1=>AJ l n
def BL:List AV→Nat→AV→List AV
 | [],_,_=>[]
 | _::l,0,v=>v::l
 | x::l,n+1,v=>x::BL l n v
def A2 {α:Type}:List (Option α)→Nat→Option α
 | [],_=>none
 | x::_,0=>x
 | _::l,n+1=>A2 l n
def Ar {α:Type}:List (Option α)→Nat→Option α→List (Option α)
 | [],_,_=>[]
 | _::l,0,v=>v::l
 | x::l,n+1,v=>x::Ar l n v
def Fz:Nat→List AV→Option (List AV)
 | 0,_=>some []
 | _+1,[]=>none
 | n+1,x::l=>(Fz n l).map (x :: ·)
def G1:Nat→List AV→Option (List AV)
 | 0,l=>some l
 | _+1,[]=>none
 | n+1,_::l=>G1 n l
def Dr (l:List AV) (o n:Nat):Option (List AV):=
 match G1 o l with
 | some r=>Fz n r
 | none=>none
def F7:List AV→List AV→Option (List AV)
 | l,[]=>some l
 | [],_::_=>none
 | _::l,v::vs=>(F7 l vs).map (v :: ·)
def BM (l:List AV) (o:Nat) (vs:List AV):Option (List AV):=
 match o with
 | 0=>F7 l vs
 | o+1=>match l with
   | []=>none
   | x::l=>(BM l o vs).map (x :: ·)
def Aa {α:Type}:List α→Nat
 | []=>0
 | _::l=>Aa l+1
def St.x (S:St):X→AV
 | .t n=>AJ S.tm n
 | .c a=>a
 | .bad=>.any
def St.put (S:St) (d:Option Nat) (v:AV):St:=
 match d with
 | some d=>⟨BL S.tm d v,S.bs,S.ss⟩
 | none=>S
def AV.one:AV→Bool
 | .any | .un | .agg _ | .tup _=>false
 | _=>true
def Cs:List AV→Bool
 | []=>true
 | x::l=>BS x.one (Cs l)
def AV.cells:AV→Option (List AV)
 | .any | .un | .tup _=>none
 | .agg l=>some l
 | x=>some [x]
def Fr:List AV→List (Nat×Nat×AV)→Option (List AV)
 | z,[]=>some z
 | z,(off,n,v)::r=>match v.cells with
   | some cs=>match Aa cs==n with
     | true=>match BM z off cs with
       | some z'=>Fr z' r
       | none=>none
     | false=>none
   | none=>none
def Q6:Nat→List AV→List AV
 | 0,_=>[]
 | _+1,[]=>[]
 | n+1,x::l=>x::Q6 n l
def Q1:Nat→List AV→List AV
 | 0,l=>l
 | _+1,[]=>[]
 | n+1,_::l=>Q1 n l
def Kj (n:Nat):Nat→List AV→List (List AV)
 | 0,_=>[]
 | k+1,l=>Q6 n l::Kj n k (Q1 n l)
def Hk:Nat→List AV→List AV
 | 0,_=>[]
 | k+1,z=>z++Hk k z
mutual
def AV.pu:AV→Bool
 | .ptr _ _ | .osl _ | .oel _ _ _ | .ocs _ _ _ _=>false
 | .agg l=>AD l
 | .tup l=>AD l
 | .clo _ l=>AD l
 | .any | .un | .tt | .ff | .bv _ | .iv _ | .kv _ _ | .sv _ | .nl | .nlp | .fn _ | .elt _ _ | .sl _ _=>true
def AD:List AV→Bool
 | []=>true
 | x::l=>BS x.pu (AD l)
end
def wr (n:Int):Int:=IntKind.i64.wrap n
def Px (op:BinOp) (x y:Int):Option (AV×Prop):=
 match op with
 | .add=>some (.iv (wr (x+y)),True)
 | .sub=>some (.iv (wr (x-y)),True)
 | .mul=>some (.iv (wr (x*y)),True)
 | .quo=>some (.iv (wr (x.tdiv y)),y≠0)
 | .rem=>some (.iv (x.tmod y),y≠0)
 | .eql=>some (.bv (decide (x=y)),True)
 | .neq=>some (.bv (!decide (x=y)),True)
 | .lss=>some (.bv (decide (x<y)),True)
 | .leq=>some (.bv (decide (x≤y)),True)
 | .gtr=>some (.bv (decide (y<x)),True)
 | .geq=>some (.bv (decide (y≤x)),True)
 | .shl=>some (.iv (wr (x*2 ^ min y.toNat 64)),0≤y)
 | .shr=>some (.iv (x.fdiv (2 ^ min y.toNat 64)),0≤y)
 | .and=>some (.iv (wr (BitVec.ofInt 64 x &&& BitVec.ofInt 64 y).toNat),True)
 | .or=>some (.iv (wr (BitVec.ofInt 64 x ||| BitVec.ofInt 64 y).toNat),True)
 | .xor=>some (.iv (wr (BitVec.ofInt 64 x ^^^ BitVec.ofInt 64 y).toNat),True)
 | _=>none
def Vf:IntKind→IntKind→Bool
 | .i8,.i8 | .i16,.i16 | .i32,.i32 | .i64,.i64 | .u8,.u8 | .u16,.u16 | .u32,.u32 | .u64,.u64=>true
 | _,_=>false
def Hx:IntKind→Int→AV
 | .i64,n=>.iv n
 | k,n=>.kv k n
def kw (k:IntKind) (n:Int):Int:=k.wrap n
def Py (op:BinOp) (k:IntKind) (x y:Int):Option (AV×Prop):=
 match op with
 | .add=>some (.kv k (kw k (x+y)),True)
 | .sub=>some (.kv k (kw k (x-y)),True)
 | .mul=>some (.kv k (kw k (x*y)),True)
 | .quo=>some (.kv k (kw k (x.tdiv y)),y≠0)
 | .rem=>some (.kv k (x.tmod y),y≠0)
 | .eql=>some (.bv (decide (x=y)),True)
 | .neq=>some (.bv (!decide (x=y)),True)
 | .lss=>some (.bv (decide (x<y)),True)
 | .leq=>some (.bv (decide (x≤y)),True)
 | .gtr=>some (.bv (decide (y<x)),True)
 | .geq=>some (.bv (decide (y≤x)),True)
 | .and=>some (.kv k (kw k (BitVec.ofInt k.bits x &&& BitVec.ofInt k.bits y).toNat),True)
 | .or=>some (.kv k (kw k (BitVec.ofInt k.bits x ||| BitVec.ofInt k.bits y).toNat),True)
 | .xor=>some (.kv k (kw k (BitVec.ofInt k.bits x ^^^ BitVec.ofInt k.bits y).toNat),True)
 | _=>none
def HK (op:BinOp) (k:IntKind) (x y:Int):Option (AV×Prop):=
 match op with
 | .shl=>some (Hx k (kw k (x*2 ^ min y.toNat k.bits)),0≤y)
 | .shr=>some (Hx k (x.fdiv (2 ^ min y.toNat k.bits)),0≤y)
 | _=>none
def EZ (op:BinOp) (u v:AV):Option (AV×Prop):=
 match u with
 | .iv a=>match v with
   | .iv b=>Px op a b
   | .kv _ b=>HK op .i64 a b
   | _=>none
 | .kv k a=>match v with
   | .kv j b=>match Vf k j with
     | true=>match op with
       | .shl=>HK op k a b
       | .shr=>HK op k a b
       | _=>Py op k a b
     | false=>HK op k a b
   | .iv b=>HK op k a b
   | _=>none
 | _=>none
def seq (x y:ByteArray):Bool:=x.data.toList==y.data.toList
def Ph (op:BinOp) (u v:AV):Option AV:=
 match u with
 | .sv x=>match v with
   | .sv y=>match op with
     | .eql=>some (.bv (seq x y))
     | .neq=>some (.bv (!seq x y))
     | _=>none
   | _=>none
 | _=>none
def Ze (x:ByteArray):Int:=x.size
def B8 (S:St):List X→List AV
 | []=>[]
 | x::l=>S.x x::B8 S l
def II (S:St) (n:Nat):List (Nat×X)→List (Nat×Nat×AV)
 | []=>[]
 | (i,x)::l=>(i*n,n,S.x x)::II S n l
def G8 (S:St):List (Nat×Nat×X)→List (Nat×Nat×AV)
 | []=>[]
 | (i,n,x)::l=>(i,n,S.x x)::G8 S l
def IK (mx:Bool) (x:Int):List AV→Option Int
 | []=>some x
 | a::l=>match a with
   | .iv y=>match mx with
     | true=>IK mx (max x y) l
     | false=>IK mx (min x y) l
   | _=>none
def Gk:AV→Option Bool
 | .tt=>some true
 | .ff=>some false
 | .bv e=>some e
 | _=>none
def PV:AV→Option Int
 | .iv n=>some n
 | _=>none
def UV (k:Bool) (x y:AV):Option Bool:=
 match k with
 | true=>match PV x,PV y with
   | some a,some b=>some (decide (a=b))
   | _,_=>none
 | false=>match Gk x,Gk y with
   | some a,some b=>some (a==b)
   | _,_=>none
def Kn:List Bool→List AV→List AV→Option Bool
 | [],l,r=>match l,r with
   | [],[]=>some true
   | _,_=>none
 | k::ks,l,r=>match l,r with
   | x::l,y::r=>match UV k x y,Kn ks l r with
     | some a,some b=>some (a&&b)
     | _,_=>none
   | _,_=>none
def GJ (ng b:Bool):Bool:=
 match ng with
 | true=>!b
 | false=>b
def D3 (S:St) (x:AV) (n:Nat):Option (List AV):=
 match x with
 | .ptr j off=>match A2 S.bs j with
   | some B=>Dr B.cells off n
   | none=>none
 | .elt row off=>Dr row off n
 | _=>none
def tf:AV→AV
 | .bv e=>match e with
   | true=>.tt
   | false=>.ff
 | x=>x
def Gu (l:List AV) (t:Nat):AV:=tf (AJ l t)
theorem o5 {M:Mem} {x:AV} {v:Value} (h:x.is M v):(tf x).is M v:=by
 cases x<;>try exact h
 rename_i e;cases e<;>simpa [tf,AV.is] using h
theorem Vq {M:Mem} {l:List AV} {t:Nat} {v:Value} (h:(AJ l t).is M v):(Gu l t).is M v:=o5 h
def ev (S:St):EO→Option (AV×St×Prop)
 | .mv x=>some (S.x x,S,True)
 | .pick c a b=>match tf (S.x c) with
   | .tt=>some (S.x a,S,True)
   | .ff=>some (S.x b,S,True)
   | _=>none
 | .alloc T z=>match Cs z with
   | true=>some (.ptr (Aa S.bs) 0,⟨S.tm,S.bs++[some ⟨T,z⟩],S.ss⟩,True)
   | false=>none
 | .box T n x=>match (S.x x).cells with
   | some cs=>match BS ((Aa cs==n)) (Cs cs) with
     | true=>some (.ptr (Aa S.bs) 0,⟨S.tm,S.bs++[some ⟨T,cs⟩],S.ss⟩,True)
     | false=>none
   | none=>none
 | .load x=>(D3 S (S.x x) 1).map fun l=>(AJ l 0,S,True)
 | .loadA n x=>(D3 S (S.x x) n).map fun l=>(.agg l,S,True)
 | .store n a v=>match S.x a with
   | .ptr j off=>match A2 S.bs j with
     | some B=>match (S.x v).cells with
       | some cs=>match BS ((Aa cs==n)) (Cs cs) with
         | true=>(BM B.cells off cs).map fun c=>(.un,⟨S.tm,Ar S.bs j (some ⟨B.T,c⟩),S.ss⟩,True)
         | false=>none
       | none=>none
     | none=>none
   | _=>none
 | .nilchk x=>match S.x x with
   | .ptr j off=>some (.ptr j off,S,True)
   | .elt row off=>some (.elt row off,S,True)
   | .oel j k off=>some (.oel j k off,S,True)
   | .clo f caps=>some (.clo f caps,S,True)
   | _=>none
 | .bin op x y=>(EZ op (S.x x) (S.x y)).map fun r=>(r.1,S,r.2)
 | .sbin op x y=>(Ph op (S.x x) (S.x y)).map fun r=>(r,S,True)
 | .slen x=>match S.x x with
   | .sv s=>some (.iv (Ze s),S,True)
   | _=>none
 | .eqs ng ks x y=>match S.x x,S.x y with
   | .agg l,.agg r=>(Kn ks l r).map fun e=>(.bv (GJ ng e),S,True)
   | _,_=>none
 | .bq ng x y=>match Gk (S.x x),Gk (S.x y) with
   | some a,some b=>some (.bv (GJ ng (a==b)),S,True)
   | _,_=>none
 | .not x=>match S.x x with
   | .tt=>some (.ff,S,True)
   | .ff=>some (.tt,S,True)
   | .bv e=>some (.bv (!e),S,True)
   | _=>none
 | .neg x=>match S.x x with
   | .iv a=>some (.iv (wr (-a)),S,True)
   | _=>none
 | .conv .i64 x=>match S.x x with
   | .iv a=>some (.iv (wr a),S,True)
   | .kv _ a=>some (.iv (wr a),S,True)
   | _=>none
 | .conv k x=>match S.x x with
   | .iv a=>some (Hx k (kw k a),S,True)
   | .kv _ a=>some (Hx k (kw k a),S,True)
   | _=>none
 | .fld off x=>match S.x x with
   | .ptr j o=>some (.ptr j (o+off),S,True)
   | .elt row o=>some (.elt row (o+off),S,True)
   | .oel j k o=>some (.oel j k (o+off),S,True)
   | _=>none
 | .field off (some n) x=>match S.x x with
   | .agg l=>(Dr l off n).map fun r=>(.agg r,S,True)
   | _=>none
 | .field off none x=>match S.x x with
   | .agg l=>(Dr l off 1).map fun r=>(AJ r 0,S,True)
   | _=>none
 | .build z ps=>(Fr z (G8 S ps)).map fun l=>(.agg l,S,True)
 | .bsl T n len z ps=>match Fr (Hk len z) (II S n ps) with
   | some l=>match BS (AA 1 n) (BS (AA (len*n) 16777216) (BS ((Aa z==n)) (BS (AD l) (Cs l)))) with
     | true=>some (.osl (Aa S.ss),⟨S.tm,S.bs,S.ss++[some ⟨T,n,Kj n len l⟩]⟩,True)
     | false=>none
   | none=>none
 | .ext x k=>match S.x x with
   | .tup l=>(Dr l k 1).map fun r=>(AJ r 0,S,True)
   | _=>none
 | .mkf f caps=>some (.clo f (B8 S caps),S,True)
 | .len x=>match S.x x with
   | .nl=>some (.iv 0,S,True)
   | .sl _ rows=>some (.iv rows.length,S,True)
   | .osl j=>match A2 S.ss j with
     | some L=>some (.iv L.rows.length,S,True)
     | none=>none
   | .ocs _ _ _ m=>some (.iv m,S,True)
   | _=>none
 | .mm mx xs=>match B8 S xs with
   | .iv x::l=>(IK mx x l).map fun n=>(.iv n,S,True)
   | _=>none
 | _=>none
inductive It where
 | code (c:EC)
 | ops (l:List EOp)
 | blk (id:Nat)
 | lp (b:EC) (n:Nat)
 | sc (e:EC)
 deriving Inhabited
def ET (id:Nat):List It→Option (List It)
 | []=>none
 | x::k=>match x with
   | .blk j=>match j==id with
     | true=>some k
     | false=>ET id k
   | _=>ET id k
def Dk:EC→Nat→Option EC
 | .seq a b,l=>match Dk a l with
   | some r=>some (.seq r b)
   | none=>Dk b l
 | .label j,l=>match j==l with
   | true=>some .skip
   | false=>none
 | _,_=>none
def Gm (l:Nat):List It→Option (List It)
 | []=>none
 | x::k=>match x with
   | .sc e=>match Dk e l with
     | some r=>some (.code r :: .sc e::k)
     | none=>none
   | _=>Gm l k
def Jf (S:St) (o:EOp):Option (St×Prop):=
 match o.g with
 | none=>(ev S o.o).map fun r=>(r.2.1.put o.d r.1,r.2.2)
 | some (t,f)=>match Gu S.tm t,f with
   | .tt,true | .ff,false=>(ev S o.o).map fun r=>(r.2.1.put o.d r.1,r.2.2)
   | .tt,false | .ff,true | .un,_=>some (S.put o.d .un,True)
   | _,_=>none
def run:Nat→List It→St→Prop→List It×St×Prop
 | 0,k,S,p=>(k,S,p)
 | _+1,[],S,p=>([],S,p)
 | m+1,.blk _::k,S,p=>run m k S p
 | m+1,.sc _::k,S,p=>run m k S p
 | _+1,.lp b n::k,S,p=>(.lp b n::k,S,p)
 | m+1,.ops []::k,S,p=>run m k S p
 | m+1,.ops (o::l)::k,S,p=>match Jf S o with
   | some r=>run m (.ops l::k) r.1 (p∧r.2)
   | none=>(.ops (o::l)::k,S,p)
 | m+1,.code c::k,S,p=>match c with
   | .skip=>run m k S p
   | .seq a b=>run m (.code a :: .code b::k) S p
   | .blk id a=>run m (.code a :: .blk id::k) S p
   | .reg l=>run m (.ops l::k) S p
   | .exit id=>match ET id k with
     | some k'=>run m k' S p
     | none=>(.code c::k,S,p)
   | .scope a=>run m (.code a :: .sc a::k) S p
   | .label _=>run m k S p
   | .goto l=>match Gm l k with
     | some k'=>run m k' S p
     | none=>(.code c::k,S,p)
   | .ite x a b=>match S.x x with
     | .tt=>run m (.code a::k) S p
     | .ff=>run m (.code b::k) S p
     | _=>(.code c::k,S,p)
   | _=>(.code c::k,S,p)
def Kt (n:Nat) (d e:List (List AV)):Prop:=d.length=e.length∧∀(M:Mem) (vss:List (List Value)),AV.isLL M n d vss→AV.isLL M n e vss
def AV.le:AV→AV→Prop
 | _,.any=>True
 | x,.un=>x = .un
 | x,.tt=>match x with
   | .tt=>True
   | .bv e=>e=true
   | x=>x = .tt
 | x,.ff=>match x with
   | .ff=>True
   | .bv e=>e=false
   | x=>x = .ff
 | x,.bv e=>match x with
   | .tt=>e=true
   | .ff=>e=false
   | .bv d=>d=e
   | x=>x = .bv e
 | x,.iv e=>match x with
   | .iv d=>d=e
   | x=>x = .iv e
 | x,.kv k e=>x = .kv k e
 | x,.sv e=>x = .sv e
 | x,.nl=>x = .nl
 | x,.nlp=>x = .nlp
 | x,.fn f=>x = .fn f
 | x,.ptr i o=>x = .ptr i o
 | x,.osl i=>x = .osl i
 | x,.oel i a b=>x = .oel i a b
 | x,.ocs i a n b=>x = .ocs i a n b
 | x,.elt e j=>match x with
   | .elt d i=>leL d e∧i=j
   | x=>x = .elt e j
 | x,.sl m e=>match x with
   | .nl=>e=[]
   | .sl n d=>n=m∧Kt n d e
   | x=>x = .sl m e
 | x,.agg e=>match x with
   | .agg d=>leL d e
   | x=>x = .agg e
 | x,.tup e=>match x with
   | .tup d=>leL d e
   | x=>x = .tup e
 | x,.clo g e=>match x with
   | .clo f d=>f=g∧leL d e
   | x=>x = .clo g e
where
 leL:List AV→List AV→Prop
  | [],[]=>True
  | x::l,y::r=>AV.le x y∧leL l r
  | _,_=>False
mutual
def AV.ok (nb ns:Nat):AV→Bool
 | .ptr j _=>AA (j+1) nb
 | .osl j=>AA (j+1) ns
 | .oel j _ _=>AA (j+1) ns
 | .ocs j _ _ _=>AA (j+1) ns
 | .agg l=>Cp nb ns l
 | .tup l=>Cp nb ns l
 | .clo _ l=>Cp nb ns l
 | .any | .un | .tt | .ff | .bv _ | .iv _ | .kv _ _ | .sv _ | .nl | .nlp | .fn _ | .elt _ _ | .sl _ _=>true
def Cp (nb ns:Nat):List AV→Bool
 | []=>true
 | x::l=>BS (x.ok nb ns) (Cp nb ns l)
end
def Vo:List AV→List AV→Prop
 | _,[]=>True
 | [],_::_=>False
 | x::l,y::r=>AV.le x y∧Vo l r
def I5:List (Option Blk)→List (Option Blk)→Prop
 | _,[]=>True
 | _::l,none::r=>I5 l r
 | some B::l,some C::r=>B.T=C.T∧AV.le.leL B.cells C.cells∧I5 l r
 | _,_=>False
def I6:List (Option Sl)→List (Option Sl)→Prop
 | _,[]=>True
 | _::l,none::r=>I6 l r
 | some B::l,some C::r=>B.T=C.T∧B.n=C.n∧Kt B.n B.rows C.rows∧I6 l r
 | _,_=>False
def K2 (nb ns:Nat):List (Option Blk)→Bool
 | []=>true
 | none::l=>K2 nb ns l
 | some B::l=>BS (Cp nb ns B.cells) (K2 nb ns l)
def C4 (ns:Nat):List (List AV)→Bool
 | []=>true
 | r::l=>BS (Cp 0 ns r) (C4 ns l)
def K3 (ns:Nat):List (Option Sl)→Bool
 | []=>true
 | none::l=>K3 ns l
 | some L::l=>BS (C4 ns L.rows) (K3 ns l)
def St.ok (S:St):Bool:=BS (Cp (Aa S.bs) (Aa S.ss) S.tm) (BS (K2 (Aa S.bs) (Aa S.ss) S.bs) (K3 (Aa S.ss) S.ss))
def C1:List (List AV)→Bool
 | []=>true
 | r::l=>BS (AD r) (C1 l)
def C7:List (Option Sl)→Bool
 | []=>true
 | none::l=>C7 l
 | some L::l=>BS (C1 L.rows) (C7 l)
def St.le (S S':St):Prop:=Vo S.tm S'.tm∧I5 S.bs S'.bs∧I6 S.ss S'.ss
mutual
def AV.subO (j:Nat) (r:AV):AV→AV
 | .osl i=>match i==j with
   | true=>r
   | false=>.osl i
 | .oel i a b=>match i==j with
   | true=>.any
   | false=>.oel i a b
 | .ocs i a n b=>match i==j with
   | true=>.any
   | false=>.ocs i a n b
 | .agg l=>.agg (CL j r l)
 | .tup l=>.tup (CL j r l)
 | .clo f l=>.clo f (CL j r l)
 | .any=>.any
 | .un=>.un
 | .tt=>.tt
 | .ff=>.ff
 | .bv e=>.bv e
 | .iv n=>.iv n
 | .kv k n=>.kv k n
 | .sv x=>.sv x
 | .nl=>.nl
 | .nlp=>.nlp
 | .fn f=>.fn f
 | .ptr i o=>.ptr i o
 | .elt row o=>.elt row o
 | .sl n rows=>.sl n rows
def CL (j:Nat) (r:AV):List AV→List AV
 | []=>[]
 | x::l=>AV.subO j r x::CL j r l
def AV.subB (j:Nat) (cells:List AV):AV→AV
 | .ptr i o=>match i==j with
   | true=>.elt cells o
   | false=>.ptr i o
 | .agg l=>.agg (FI j cells l)
 | .tup l=>.tup (FI j cells l)
 | .clo f l=>.clo f (FI j cells l)
 | .any=>.any
 | .un=>.un
 | .tt=>.tt
 | .ff=>.ff
 | .bv e=>.bv e
 | .iv n=>.iv n
 | .kv k n=>.kv k n
 | .sv x=>.sv x
 | .nl=>.nl
 | .nlp=>.nlp
 | .fn f=>.fn f
 | .osl i=>.osl i
 | .oel i a b=>.oel i a b
 | .ocs i a n b=>.ocs i a n b
 | .elt row o=>.elt row o
 | .sl n rows=>.sl n rows
def FI (j:Nat) (cells:List AV):List AV→List AV
 | []=>[]
 | x::l=>x.subB j cells::FI j cells l
end
mutual
def AV.ren (p q:Nat):AV→AV
 | .osl i=>match i==p with
   | true=>.osl q
   | false=>match i==q with
     | true=>.any
     | false=>.osl i
 | .oel i a b=>match i==p with
   | true=>.oel q a b
   | false=>match i==q with
     | true=>.any
     | false=>.oel i a b
 | .ocs i a n b=>match i==p with
   | true=>.ocs q a n b
   | false=>match i==q with
     | true=>.any
     | false=>.ocs i a n b
 | .agg l=>.agg (FE p q l)
 | .tup l=>.tup (FE p q l)
 | .clo f l=>.clo f (FE p q l)
 | .any=>.any
 | .un=>.un
 | .tt=>.tt
 | .ff=>.ff
 | .bv e=>.bv e
 | .iv n=>.iv n
 | .kv k n=>.kv k n
 | .sv x=>.sv x
 | .nl=>.nl
 | .nlp=>.nlp
 | .fn f=>.fn f
 | .ptr i o=>.ptr i o
 | .elt row o=>.elt row o
 | .sl n rows=>.sl n rows
def FE (p q:Nat):List AV→List AV
 | []=>[]
 | x::l=>AV.ren p q x::FE p q l
end
def Cn (f:List AV→List AV):List (Option Blk)→List (Option Blk)
 | []=>[]
 | none::l=>none::Cn f l
 | some B::l=>some ⟨B.T,f B.cells⟩::Cn f l
def St.sealS (S:St) (j:Nat) (L:Sl):St:=⟨CL j (.sl L.n L.rows) S.tm,Cn (CL j (.sl L.n L.rows)) S.bs,Ar S.ss j none⟩
def St.sealB (S:St) (j:Nat) (cells:List AV):St:=⟨FI j cells S.tm,Ar (Cn (FI j cells) S.bs) j none,S.ss⟩
def St.renS (S:St) (p q:Nat) (L:Sl):St:=⟨FE p q S.tm,Cn (FE p q) S.bs,Ar (Ar S.ss p none) q (some L)⟩
def Gh (S:St) (n:Nat) (x:AV):Option (List (List AV)):=
 match x with
 | .nl=>some []
 | .sl m rows=>match m==n with
   | true=>some rows
   | false=>none
 | .osl j=>match A2 S.ss j with
   | some L=>match L.n==n with
     | true=>some L.rows
     | false=>none
   | none=>none
 | _=>none
inductive ERes where
 | t (n:Nat)
 | c (t:Nat) (n:Option Nat)
def Fo (P:Program):List ResultVar→Option (List ERes)
 | []=>some []
 | .tmp t::l=>(Fo P l).map (.t t :: ·)
 | .cell t T::l=>match Ez P T,Fo P l with
   | some n,some r=>some (.c t n::r)
   | _,_=>none
def HD (S:St):List ERes→Option (List AV)
 | []=>some []
 | .t n::l=>(HD S l).map (AJ S.tm n :: ·)
 | .c t none::l=>match D3 S (AJ S.tm t) 1,HD S l with
   | some r,some q=>some (AJ r 0::q)
   | _,_=>none
 | .c t (some n)::l=>match D3 S (AJ S.tm t) n,HD S l with
   | some r,some q=>some (.agg r::q)
   | _,_=>none
def DD (S:St) (rs:List ERes):Option AV:=
 match HD S rs with
 | some [x]=>some x
 | some l=>some (.tup l)
 | none=>none
def D6:Nat→List AV
 | 0=>[]
 | n+1=>.un::D6 n
def St.init (args:List AV) (n:Nat):St:=⟨args++D6 n,[],[]⟩
def DJ:List Bool→Nat→Bool
 | [],_=>true
 | b::_,0=>b
 | _::l,n+1=>DJ l n
def CO:List Bool→Nat→Bool
 | [],_=>false
 | b::_,0=>b
 | _::l,n+1=>CO l n
def Au:List Bool→Nat→List Bool
 | [],_=>[]
 | _::l,0=>true::l
 | b::l,n+1=>b::Au l n
def HR (ld:List Bool):List Nat→Bool
 | []=>true
 | j::l=>BS (CO ld j) (HR ld l)
def Bz (ld:List Bool):List (List Nat)→Nat→List Nat
 | [],_=>[]
 | w::af,A4=>match DJ ld A4 with
   | true=>Bz ld af (A4+1)
   | false=>match HR ld w with
     | true=>A4::Bz ld af (A4+1)
     | false=>Bz ld af (A4+1)
def EH (i:Nat):List Nat→Bool
 | []=>false
 | j::l=>match i==j with
   | true=>true
   | false=>EH i l
def Co:List (List Nat)→Nat→List Nat
 | [],_=>[]
 | x::_,0=>x
 | _::l,n+1=>Co l n
def A8:List EOp→Nat→EOp
 | [],_=>⟨none,none,.bad⟩
 | x::_,0=>x
 | _::l,n+1=>A8 l n
end NX
end Go.Proofs.YtjemlejoladlcaaGreat
