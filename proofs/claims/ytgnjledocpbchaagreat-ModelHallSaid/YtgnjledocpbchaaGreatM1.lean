/-
  The symbolic machine, sound over the model: each operation. No statement of the seat is proved here.
-/
import Derived.LoopN
import Derived.Test.YtgnjledocpbchaaGreatM0
namespace Go.Proofs.YtgnjledocpbchaaGreat
namespace NX
open Go Go.RowKit
section
variable {P:Program} {w:World}
theorem LI {T:TypeId} {z:List AV} (h:LH P T=some z):∃i u,P.info? T=some i∧i.zero=some u∧u.cells.size=i.size∧z=u.cells.toList.map DB:=by
 unfold LH at h;cases hi:P.info? T with
 | none=>simp [hi] at h
 | some i=>
   rw [hi] at h;dsimp only at h;cases hu:i.zero with
   | none=>simp [hu] at h
   | some u=>
     rw [hu] at h;dsimp only at h;split at h
     ·rename_i e;exact ⟨i,u,rfl,hu,e,by simpa using h.symm⟩
     ·simp at h
theorem sZ {g o:Nat} {v:Value} (h:w.cell? ⟨g,o,none⟩=some v):(load ⟨g,o,none⟩).run P w = .ok v w:=by show Sem.run P (Sem.load .plain _ Sem.pure) w=_;unfold Sem.run;rw [h];rfl
theorem ZS {T:TypeId} {g o:Nat} {v:Value} (E:F3 P T=some none) (h:w.cell? ⟨g,o,none⟩=some v):(loadVar T ⟨g,o,none⟩).run P w = .ok v w:=by simp only [loadVar,Sem.run_bind,dB E,Result.andThen_ok];exact sZ h
theorem ZR {T:TypeId} {g o n:Nat} {vs:List Value} (E:F3 P T=some (some n)) (hn:vs.length=n) (h:∀(j:Nat) v,vs[j]?=some v→w.cell? ⟨g,o+j,none⟩=some v):
  (loadVar T ⟨g,o,none⟩).run P w = .ok (.agg vs.toArray) w:=by
 subst hn;have hl:=run_loadCells_list (P:=P) w ⟨g,o,none⟩ vs (fun j v hj=>by rw [Addr.add_lit];exact h j v hj);simp [loadVar,(Uf E).1,(Uf E).2,hl]
theorem nS (T:TypeId) (i:TypeInfo) (z:Value) (hi:P.info? T=some i) (hz:i.zero=some z):
  (Instr.alloc T true (.tuple #[])).run P w = .ok (.pointer (some ⟨w.heap.size,0,none⟩)) (w.alloc (.cells z.cells T)):=by
 simp [Instr.alloc,zeroValue,typeInfo,hi,hz,newVar,newRow]
theorem og (T:TypeId) (v:Value):(Instr.box T v).run P w = .ok (.pointer (some ⟨w.heap.size,0,none⟩)) (w.alloc (.cells v.cells T)):=by simp [Instr.box,newVar,newRow]
end
theorem et {M:Mem} {c:Ctx} {bs ss w} (h:RelS c M bs ss w) {a:Addr} {vs:List Value} (hc:LK M.H a vs) (k:Nat) (v:Value) (hk:vs[k]?=some v):w.cell? ⟨a.block,a.off+k,none⟩=some v:=by obtain ⟨_,_,cs,T,fr,h1,h2⟩:=hc;have:=h.hle _ _ h1;simp [World.cell?,this,h2 k v hk]
theorem Ul {M:Mem} {x:AV} {u:Value} {cs:List AV} (hs:∀j,x = .osl j→u.oneCell'=true) (hx:x.is M u) (hc:x.cells=some cs):AV.isL M cs u.cells.toList:=by
 have Ap:x.one=true→cs=[x]→AV.isL M cs u.cells.toList:=by
  intro h1 h2;subst h2;have:u.oneCell'=true:=bD hx h1 (fun j e=>by subst e;have:=hs j rfl;rw [hx.2] at this;exact this);have hu:u.cells.toList=[u]:=by cases u<;>simp_all [Value.cells,Value.oneCell']
  rw [hu];exact ⟨u,[],rfl,hx,rfl⟩
 cases x<;>simp [AV.cells] at hc<;>first | exact Ap rfl hc.symm | skip
 subst hc;obtain ⟨vs,rfl,h⟩:=hx;simpa [Value.cells] using h
theorem IT {M:Mem}:∀ {cs:List AV} {vs:List Value},AV.isL M cs vs→CA cs=true→(∀j,j<M.ns→(M.σ j).oneCell'=true)→∀v∈vs,v.oneCell'=true
 | [],_,h,_,_,v,hv=>by simp [AV.isL] at h;subst h;simp at hv
 | x::l,_,h,h1,hs,v,hv=>by
   obtain ⟨u,r,rfl,hu,hr⟩:=h;simp only [CA,AS] at h1;rcases List.mem_cons.1 hv with rfl | hv
   ·exact bD hu h1.1 (fun j e=>by subst e;exact hs j hu.1)
   ·exact IT hr h1.2 hs v hv
def Ck (c:Ctx) (M:Mem) (S:St) (a:Act) (w:World) (o:Op) (v:AV) (S1:St):Prop:=
 ∀(d:Option Tmp) (ty:TypeId) (pos:String) (af:Array Edge) (g:Option (Nat×Bool)),
 ∃x M' w',((execOp a.eval ⟨d,o,ty,pos,af,g⟩).run c.P w = .ok (.value x) w'∨((execOp a.eval ⟨d,o,ty,pos,af,g⟩).run c.P w = .ok .skip w'∧x=undef))∧
  M.le M'∧RelS c M' S1.bs S1.ss w'∧S1.tm=S.tm∧v.is M' x
section
variable {c:Ctx} {M:Mem} {S S1:St} {a:Act} {w:World} {v:AV} {q:Prop}
theorem Ck.same {o:Op} {x:Value} (E:RelT c M S a w) (h:∀d ty pos af g,(execOp a.eval ⟨d,o,ty,pos,af,g⟩).run c.P w = .ok (.value x) w) (hv:v.is M x):Ck c M S a w o v S:=fun d ty pos af g=>⟨x,M,w,.inl (h d ty pos af g),.refl M,E.st,rfl,hv⟩
theorem ru (E:RelT c M S a w) (x:Operand):Ck c M S a w (.move x) (S.x (cX x)) S:=.same (x:=a.eval x) E (fun _ _ _ _ _=>rfl) (Au E x)
theorem r8 (E:RelT c M S a w) (x:Operand):Ck c M S a w (.assign x) (S.x (cX x)) S:=.same (x:=a.eval x) E (fun _ _ _ _ _=>rfl) (Au E x)
theorem rz (E:RelT c M S a w) (x y z:Operand) (he:ev S (.pick (cX x) (cX y) (cX z))=some (v,S1,q)):Ck c M S a w (.pick x y z) v S1:=by
 have hx:=lV (Au E x);have hy:=Au E y;have hz:=Au E z;simp only [ev] at he;split at he<;>simp at he
 ·rename_i hx';obtain ⟨rfl,rfl,_⟩:=he;rw [hx'] at hx;refine .same (x:=a.eval y) E (fun _ _ _ _ _=>?_) hy;have h6:a.eval x = .bool true:=hx;generalize a.eval=ρ at *;simp [execOp,h6,asBool]
 ·rename_i hx';obtain ⟨rfl,rfl,_⟩:=he;rw [hx'] at hx;refine .same (x:=a.eval z) E (fun _ _ _ _ _=>?_) hz;have h6:a.eval x = .bool false:=hx;generalize a.eval=ρ at *;simp [execOp,h6,asBool]
theorem qZ (E:RelT c M S a w) (T:TypeId) (he:ev S (cO c.P (.alloc T))=some (v,S1,q)):Ck c M S a w (.alloc T) v S1:=by
 simp only [cO] at he;split at he
 ·rename_i z hz;obtain ⟨i,u,hi,hu,h8,rfl⟩:=LI hz;simp only [ev] at he;split at he<;>simp at he;rename_i h6;obtain ⟨rfl,rfl,_⟩:=he;intro d ty pos af g;have hz:=FU M u.cells.toList;have h1:∀v∈u.cells.toList,v.oneCell'=true:=by intro v hv;have:=IT (FU (M:=M.pure) u.cells.toList) h6 (fun j hj=>absurd hj (Nat.not_lt_zero _)) v hv;exact this
  refine ⟨.pointer (some ⟨w.heap.size,0,none⟩),M.addB w.heap.size,w.alloc (.cells u.cells T),.inl ?_,Mem.le_addB M w.heap.size,?_,rfl,?_⟩
  ·simp [execOp,nS T i u hi hu]
  ·have:=E.st.alloc T (u.cells.toList.map DB) u.cells.toList hz h1;simpa using this
  ·rw [Bl,←E.st.nb];refine ⟨Nat.lt_succ_self _,?_⟩;simp [Mem.addB]
 ·simp [ev] at he
theorem ra (E:RelT c M S a w) (T:TypeId) (x:Operand) (he:ev S (cO c.P (.box T x))=some (v,S1,q)):Ck c M S a w (.box T x) v S1:=by
 have hx:=Au E x;simp only [cO] at he;split at he
 ·rename_i n hn;simp only [ev] at he;split at he
  ·rename_i cs h6;split at he<;>simp at he;rename_i hc;rw [AS,beq_iff_eq] at hc;obtain ⟨rfl,rfl,_⟩:=he;have hl:=Ul (fun j e=>by rw [e] at hx;rw [hx.2];exact E.st.so j hx.1) hx h6;have h1:=IT hl hc.2 E.st.so;generalize h8:a.eval=ρ at hx hl h1;intro d ty pos af g;refine ⟨.pointer (some ⟨w.heap.size,0,none⟩),M.addB w.heap.size,w.alloc (.cells (ρ x).cells T),.inl ?_,Mem.le_addB M w.heap.size,?_,rfl,?_⟩
   ·rw [h8];simp [execOp,og]
   ·have:=E.st.alloc T cs (ρ x).cells.toList hl h1;simpa using this
   ·rw [Bl,←E.st.nb];exact ⟨Nat.lt_succ_self _,by simp [Mem.addB]⟩
  ·simp at he
 ·simp [ev] at he
theorem OT (E:RelT c M S a w) {x:AV} {u:Value} (hx:x.is M u) {n:Nat} {l:List AV} (h:CS S x n=some l):
  ∃g o vs,u = .pointer (some ⟨g,o,none⟩)∧AV.isL M l vs∧vs.length=n∧∀(j:Nat) v,vs[j]?=some v→w.cell? ⟨g,o+j,none⟩=some v:=by
 unfold CS at h;split at h
 ·rename_i j off;split at h
  ·rename_i B hB;obtain ⟨rfl,hle⟩:=Kr h;obtain ⟨_,_,vs,g3,g4,_⟩:=E.st.blk j B hB;refine ⟨M.ρ j,off,(vs.drop off).take n,hx.2,G3 n (G2 off g3),by have:=Dl g3;simp;omega,?_⟩;intro k v hk;rw [List.getElem?_take] at hk;split at hk
   ·simp at hk;simp [World.cell?,g4,hk]
   ·simp at hk
  ·simp at h
 ·rename_i row off;obtain ⟨rfl,hle⟩:=Kr h;obtain ⟨ad,vs,rfl,h2,h3⟩:=hx;have hm:=E9 (OO M) _ _ h2;refine ⟨ad.block,ad.off+off,(vs.drop off).take n,rfl,G3 n (G2 off hm),by have:=Dl h2;simp;omega,?_⟩;intro k v hk;rw [List.getElem?_take] at hk;split at hk
  ·simp at hk;rw [Nat.add_assoc];exact et E.st h3 (off+k) v hk
  ·simp at hk
 ·simp at h
theorem rr (E:RelT c M S a w) (T:TypeId) (x:Operand) (he:ev S (cO c.P (.load T x))=some (v,S1,q)):Ck c M S a w (.load T x) v S1:=by
 have hx:=Au E x;simp only [cO] at he;split at he
 ·rename_i h6;simp only [ev,Option.map_eq_some_iff] at he;obtain ⟨l,hl,he⟩:=he;simp at he;obtain ⟨rfl,rfl,_⟩:=he;obtain ⟨g,o,vs,hu,h2,h3,h4⟩:=OT E hx hl;obtain ⟨u,rfl⟩:∃u,vs=[u]:=by
   cases vs with
   | nil=>simp at h3
   | cons u r=>cases r with
     | nil=>exact ⟨u,rfl⟩
     | cons _ _=>simp at h3
  have hc:=h4 0 u (by simp);refine .same (x:=u) E (fun _ _ _ _ _=>?_) ?_
  ·generalize a.eval=ρ at *;simp only [Nat.add_zero] at hc;simp [execOp,hu,Instr.loadAt,Instr.sureAddr,ZS h6 hc]
  ·cases l with
   | nil=>simp [AV.isL] at h2
   | cons y r=>obtain ⟨_,_,h,hy,_⟩:=h2;simp at h;obtain ⟨rfl,rfl⟩:=h;exact hy
 ·rename_i n h6;simp only [ev,Option.map_eq_some_iff] at he;obtain ⟨l,hl,he⟩:=he;simp at he;obtain ⟨rfl,rfl,_⟩:=he;obtain ⟨g,o,vs,hu,h2,h3,h4⟩:=OT E hx hl;refine .same (x:=.agg vs.toArray) E (fun _ _ _ _ _=>?_) ⟨vs,rfl,h2⟩;generalize a.eval=ρ at *;simp [execOp,hu,Instr.loadAt,Instr.sureAddr,ZR h6 h3 h4]
 ·simp [ev] at he
theorem rC (E:RelT c M S a w) (T:TypeId) (x y:Operand) (he:ev S (cO c.P (.store T x y))=some (v,S1,q)):Ck c M S a w (.store T x y) v S1:=by
 have hx:=Au E x;have hy:=Au E y;simp only [cO] at he;split at he
 ·rename_i n hn;simp only [ev] at he;split at he
  ·rename_i j off hj;split at he
   ·rename_i B hB;split at he
    ·rename_i cs hA;split at he
     ·rename_i hc;rw [AS,beq_iff_eq] at hc;simp only [Option.map_eq_some_iff] at he;obtain ⟨l,hl,he⟩:=he;simp at he;obtain ⟨rfl,rfl,_⟩:=he;obtain ⟨rfl,hle⟩:=Mq hl;have h8:=Ul (fun j e=>by rw [e] at hy;rw [hy.2];exact E.st.so j hy.1) hy hA;have h1:=IT h8 hc.2 E.st.so;obtain ⟨_,_,vs,g3,g4,g5⟩:=E.st.blk j B hB;rw [hj] at hx;have h6:=Dl h8;have hC:=Dl g3;have hn':(a.eval y).cells.size=n:=by rw [←Array.length_toList,h6,←Bl];exact hc.1
      have h9:=run_storeCells_at c.P (M.ρ j) off B.T (a.eval y).cells.toList 0 vs.toArray w g4 (by simp at h6 ⊢;omega) h1;have hw:=E.st.write hB (B.cells.take off++cs++B.cells.drop (off+cs.length)) (vs.take off++(a.eval y).cells.toList++vs.drop (off+(a.eval y).cells.toList.length))
       (Dw (Dw (G3 off g3) h8) (by rw [h6];exact G2 _ g3))
       (by
         intro u hu;simp only [List.mem_append] at hu;rcases hu with (hu | hu) | hu
         ·exact g5 u (List.mem_of_mem_take hu)
         ·exact h1 u hu
         ·exact g5 u (List.mem_of_mem_drop hu))
      unfold Ck;generalize a.eval=ρ at *;intro d ty pos af g;refine ⟨undef,M,_,.inr ⟨?_,rfl⟩,.refl M,hw,rfl,rfl⟩;simp only [Nat.add_zero] at h9;simp only [execOp,hx.2,Instr.storeAt,Instr.sureAddr,Sem.run_bind,Sem.run_pure,Result.andThen_ok,storeVar,FN hn,hn',ne_eq,not_true_eq_false,if_false];rw [h9];rfl
     ·simp at he
    ·simp at he
   ·simp at he
  ·simp at he
 ·simp [ev] at he
theorem rx (E:RelT c M S a w) (x:Operand) (he:ev S (.nilchk (cX x))=some (v,S1,q)):Ck c M S a w (.nilCheck x) v S1:=by
 have hx:=Au E x;simp only [ev] at he;split at he<;>(try rename_i hv)<;>simp only [Option.some.injEq,Prod.mk.injEq,reduceCtorEq] at he<;>obtain ⟨rfl,rfl,rfl⟩:=he<;>rw [hv] at hx
 ·refine .same (x:=a.eval x) E (fun _ _ _ _ _=>?_) hx;generalize a.eval=ρ at *;simp [execOp,hx.2]
 ·refine .same (x:=a.eval x) E (fun _ _ _ _ _=>?_) hx;generalize a.eval=ρ at *;obtain ⟨_,_,h,_⟩:=hx;simp [execOp,h]
 ·refine .same (x:=a.eval x) E (fun _ _ _ _ _=>?_) hx;generalize a.eval=ρ at *;obtain ⟨_,_,_,_,_,h⟩:=hx;simp [execOp,h]
 ·refine .same (x:=a.eval x) E (fun _ _ _ _ _=>?_) hx;generalize a.eval=ρ at *;obtain ⟨_,h,_⟩:=hx;simp [execOp,h]
theorem o7 {P:Program} {w:World} {op:BinOp} {x y:Int} {r:AV} {p:Prop} (h:Pd op x y=some (r,p)) (hp:p) (T:TypeId) (m:Mem):
  ∃u,(binOp op T (.int .i64 x) (.int .i64 y)).run P w = .ok u w∧r.is m u:=by
 cases op<;>simp only [Pd,Option.some.injEq,Prod.mk.injEq,reduceCtorEq] at h<;>obtain ⟨rfl,rfl⟩:=h
 case add=>exact ⟨.int .i64 (wr (x+y)),by simp [binOp,Op.intArith,wr],rfl⟩
 case sub=>exact ⟨.int .i64 (wr (x-y)),by simp [binOp,Op.intArith,wr],rfl⟩
 case mul=>exact ⟨.int .i64 (wr (x*y)),by simp [binOp,Op.intArith,wr],rfl⟩
 case quo=>exact ⟨.int .i64 (wr (x.tdiv y)),by simp [binOp,Op.intDiv,wr,hp],rfl⟩
 case rem=>exact ⟨.int .i64 (x.tmod y),by simp [binOp,Op.intDiv,hp],rfl⟩
 case eql=>exact ⟨.bool (x==y),by simp [binOp,Op.intCmp],by simp [AV.is];rfl⟩
 case neq=>exact ⟨.bool (x != y),by simp [binOp,Op.intCmp],by simp [AV.is];rfl⟩
 case lss=>exact ⟨.bool (x<y),by simp [binOp,Op.intCmp],rfl⟩
 case leq=>exact ⟨.bool (x≤y),by simp [binOp,Op.intCmp],rfl⟩
 case gtr=>exact ⟨.bool (x>y),by simp [binOp,Op.intCmp],rfl⟩
 case geq=>exact ⟨.bool (x≥y),by simp [binOp,Op.intCmp],rfl⟩
 case shl=>exact ⟨.int .i64 (wr (x*2 ^ min y.toNat 64)),by simp [binOp,Op.shift,show ¬y<0 by omega,wr,IntKind.bits],rfl⟩
 case shr=>exact ⟨.int .i64 (x.fdiv (2 ^ min y.toNat 64)),by simp [binOp,Op.shift,show ¬y<0 by omega,IntKind.bits],rfl⟩
 case and=>exact ⟨.int .i64 (wr (BitVec.ofInt 64 x &&& BitVec.ofInt 64 y).toNat),rfl,rfl⟩
 case or=>exact ⟨.int .i64 (wr (BitVec.ofInt 64 x ||| BitVec.ofInt 64 y).toNat),rfl,rfl⟩
 case xor=>exact ⟨.int .i64 (wr (BitVec.ofInt 64 x ^^^ BitVec.ofInt 64 y).toNat),rfl,rfl⟩
theorem Tn {M:Mem} (k:IntKind) (n:Int):(HH k n).is M (.int k n):=by cases k<;>rfl
theorem o6 {P:Program} {w:World} {op:BinOp} {k:IntKind} {x y:Int} {r:AV} {p:Prop} (h:Pe op k x y=some (r,p)) (hp:p) (T:TypeId) (m:Mem):
  ∃u,(binOp op T (.int k x) (.int k y)).run P w = .ok u w∧r.is m u:=by
 cases op<;>simp only [Pe,Option.some.injEq,Prod.mk.injEq,reduceCtorEq] at h<;>obtain ⟨rfl,rfl⟩:=h
 case add=>exact ⟨.int k (kw k (x+y)),by simp [binOp,Op.intArith,kw],rfl⟩
 case sub=>exact ⟨.int k (kw k (x-y)),by simp [binOp,Op.intArith,kw],rfl⟩
 case mul=>exact ⟨.int k (kw k (x*y)),by simp [binOp,Op.intArith,kw],rfl⟩
 case quo=>exact ⟨.int k (kw k (x.tdiv y)),by simp [binOp,Op.intDiv,kw,hp],rfl⟩
 case rem=>exact ⟨.int k (x.tmod y),by simp [binOp,Op.intDiv,hp],rfl⟩
 case eql=>exact ⟨.bool (x==y),by simp [binOp,Op.intCmp],by simp [AV.is];rfl⟩
 case neq=>exact ⟨.bool (x != y),by simp [binOp,Op.intCmp],by simp [AV.is];rfl⟩
 case lss=>exact ⟨.bool (x<y),by simp [binOp,Op.intCmp],rfl⟩
 case leq=>exact ⟨.bool (x≤y),by simp [binOp,Op.intCmp],rfl⟩
 case gtr=>exact ⟨.bool (x>y),by simp [binOp,Op.intCmp],rfl⟩
 case geq=>exact ⟨.bool (x≥y),by simp [binOp,Op.intCmp],rfl⟩
 case and=>exact ⟨.int k (kw k (BitVec.ofInt k.bits x &&& BitVec.ofInt k.bits y).toNat),by simp [binOp,Op.intBits,kw],rfl⟩
 case or=>exact ⟨.int k (kw k (BitVec.ofInt k.bits x ||| BitVec.ofInt k.bits y).toNat),by simp [binOp,Op.intBits,kw],rfl⟩
 case xor=>exact ⟨.int k (kw k (BitVec.ofInt k.bits x ^^^ BitVec.ofInt k.bits y).toNat),by simp [binOp,Op.intBits,kw],rfl⟩
theorem TT {P:Program} {w:World} {op:BinOp} {k j:IntKind} {x y:Int} {r:AV} {p:Prop} (h:HU op k x y=some (r,p)) (hp:p) (T:TypeId) (m:Mem):
  ∃u,(binOp op T (.int k x) (.int j y)).run P w = .ok u w∧r.is m u:=by
 cases op<;>simp only [HU,Option.some.injEq,Prod.mk.injEq,reduceCtorEq] at h<;>obtain ⟨rfl,rfl⟩:=h
 case shl=>exact ⟨.int k (kw k (x*2 ^ min y.toNat k.bits)),by simp [binOp,Op.shift,show ¬y<0 by omega,kw],Tn _ _⟩
 case shr=>exact ⟨.int k (x.fdiv (2 ^ min y.toNat k.bits)),by simp [binOp,Op.shift,show ¬y<0 by omega],Tn _ _⟩
theorem rY {k j:IntKind} (h:UN k j=true):k=j:=by cases k<;>cases j<;>simp_all [UN]
theorem o0 {P:Program} {w:World} {op:BinOp} {u v:AV} {x y:Value} {r:AV} {p:Prop} (h:F4 op u v=some (r,p)) (hp:p) (T:TypeId) {m:Mem} (hu:u.is m x) (hv:v.is m y):
  ∃k a j b,x = .int k a∧y = .int j b∧∃z,(binOp op T x y).run P w = .ok z w∧r.is m z:=by
 cases u with
 | iv a=>cases v with
   | iv b=>simp only [AV.is] at hu hv;subst hu;subst hv;exact ⟨_,_,_,_,rfl,rfl,o7 h hp T m⟩
   | kv j b=>simp only [AV.is] at hu hv;subst hu;subst hv;exact ⟨_,_,_,_,rfl,rfl,TT h hp T m⟩
   | _=>simp [F4] at h
 | kv k a=>cases v with
   | iv b=>simp only [AV.is] at hu hv;subst hu;subst hv;exact ⟨_,_,_,_,rfl,rfl,TT h hp T m⟩
   | kv j b=>
     simp only [AV.is] at hu hv;subst hu;subst hv;refine ⟨_,_,_,_,rfl,rfl,?_⟩;simp only [F4] at h;split at h
     ·rename_i e;obtain rfl:=rY e;split at h
      ·exact TT h hp T m
      ·exact TT h hp T m
      ·exact o6 h hp T m
     ·exact TT h hp T m
   | _=>simp [F4] at h
 | _=>simp [F4] at h
theorem qs {P:Program} {w:World} (op:BinOp) (T:TypeId) (x y:Operand) (k l:IntKind) (m n:Int):(eqGuard op T x y (.int k m) (.int l n)).run P w = .ok () w:=by unfold eqGuard;split<;>rfl
theorem r9 (E:RelT c M S a w) (op:BinOp) (T:TypeId) (x y:Operand) (J:TypeId) (he:ev S (.bin op (cX x) (cX y))=some (v,S1,q)) (hq:q):Ck c M S a w (.binOp op T x y J) v S1:=by have hx:=Au E x;have hy:=Au E y;simp only [ev,Option.map_eq_some_iff,Prod.mk.injEq] at he;obtain ⟨⟨r,p⟩,h1,rfl,rfl,rfl⟩:=he;obtain ⟨k1,m1,k2,m2,hx,hy,u,hu,hr⟩:=o0 (P:=c.P) (w:=w) h1 hq T hx hy;refine .same (x:=u) E (fun _ _ _ _ _=>?_) hr;generalize a.eval=ρ at *;rw [hx,hy] at hu;simp [execOp,hx,hy,qs,hu]
theorem lW (s:ByteArray):s.toList=s.data.toList:=by
 unfold ByteArray.toList;have Ap:∀n i r,s.size-i=n→i≤s.size→ByteArray.toList.loop s i r=r.reverse++s.data.toList.drop i:=by
  intro n;induction n with
  | zero=>
    intro i r hn hi;have:i=s.size:=by omega
    subst this;unfold ByteArray.toList.loop;simp
  | succ n ih=>
    intro i r hn hi;have hlt:i<s.size:=by omega
    have h6:i<s.data.toList.length:=by simpa using hlt
    unfold ByteArray.toList.loop;rw [if_pos hlt,ih (i+1) _ Om Om];rw [List.drop_eq_getElem_cons h6];have hg:s.get! i=s.data.toList[i]:=by
     obtain ⟨d⟩:=s;have h8:i<d.size:=by simpa using h6
     show d[i]! = d.toList[i];rw [getElem!_pos d i h8];simp
    rw [hg];simp
 simpa using Ap s.size 0 [] rfl (Nat.zero_le _)
theorem rA (E:RelT c M S a w) (op:BinOp) (T:TypeId) (x y:Operand) (J:TypeId) (he:ev S (.sbin op (cX x) (cX y))=some (v,S1,q)):Ck c M S a w (.binOp op T x y J) v S1:=by
 have hx:=Au E x;have hy:=Au E y;simp only [ev,Option.map_eq_some_iff,Prod.mk.injEq] at he;obtain ⟨r,h1,rfl,rfl,_⟩:=he;unfold P0 at h1;split at h1
 ·rename_i s e1;split at h1
  ·rename_i t e2;rw [e1] at hx;rw [e2] at hy;simp only [AV.is] at hx hy;have hg:∀o:BinOp,(eqGuard o T x y (.string s) (.string t)).run c.P w = .ok () w:=fun o=>by unfold eqGuard;split<;>rfl
   cases op<;>simp only [Option.some.injEq,reduceCtorEq] at h1<;>subst h1
   ·refine .same (x:=.bool (seq s t)) E (fun _ _ _ _ _=>?_) rfl;generalize a.eval=ρ at *;simp [execOp,hx,hy,hg,binOp,Op.stringOp,lW,seq]
   ·refine .same (x:=.bool (!seq s t)) E (fun _ _ _ _ _=>?_) rfl;generalize a.eval=ρ at *;simp [execOp,hx,hy,hg,binOp,Op.stringOp,lW,seq]
  ·simp at h1
 ·simp at h1
theorem rg (J:RelT c M S a w) (op:BinOp) (T:TypeId) (x y:Operand) (E:TypeId) {U:Array Field} (hu:c.P.underlying T=some (.struct U)) (he:ev S (cO c.P (.binOp op T x y E))=some (v,S1,q)):Ck c M S a w (.binOp op T x y E) v S1:=by
 have hx:=Au J x;have hy:=Au J y;simp only [cO,hu] at he;split at he
 ·rename_i ks hl hg;have go:∀ng:Bool,op=(if ng then .neq else .eql)→ev S (.eqs ng ks (cX x) (cX y))=some (v,S1,q)→Ck c M S a w (.binOp op T x y E) v S1:=by
   intro ng ho he;simp only [ev] at he;split at he<;>try (simp at he;done)
   rename_i l r h6 h8;simp only [Option.map_eq_some_iff,Prod.mk.injEq] at he;obtain ⟨e,h1,rfl,rfl,_⟩:=he;rw [h6] at hx;rw [h8] at hy;simp only [AV.is] at hx hy;obtain ⟨us,hx,h9⟩:=hx;obtain ⟨vs,hy,hw⟩:=hy;obtain ⟨o1,o2,o3⟩:=eU h1 h9 hw;have hr:=qu (w:=w) (ng:=ng) hu hl o1 o2 ho;refine .same (x:=.bool (GY ng e)) J (fun _ _ _ _ _=>?_) rfl;generalize a.eval=ρ at *;simp [execOp,hx,hy,run_eqGuard_agg _ _ _ _ _ _ _ hg,hr,o3]
  split at he
  ·exact go false rfl he
  ·exact go true rfl he
  ·simp [ev] at he
 ·simp [ev] at he
theorem dU {m:Mem} {x:AV} {v:Value} {e:Bool} (h:Gr x=some e) (hx:x.is m v):v = .bool e:=by cases x<;>simp [Gr] at h<;>subst h<;>exact hx
theorem fw (E:RelT c M S a w) (ng:Bool) (op:BinOp) (ho:op=(if ng then .neq else .eql)) (T:TypeId) (x y:Operand) (J:TypeId) (hu:c.P.underlying T=some .bool) (he:ev S (.bq ng (cX x) (cX y))=some (v,S1,q)):Ck c M S a w (.binOp op T x y J) v S1:=by
 have hx:=Au E x;have hy:=Au E y;simp only [ev] at he;split at he<;>try (simp at he;done)
 rename_i e f h1 h2;simp only [Option.some.injEq,Prod.mk.injEq] at he;obtain ⟨rfl,rfl,_⟩:=he;have hx:=dU h1 hx;have hy:=dU h2 hy;refine .same (x:=.bool (GY ng (e==f))) E (fun _ _ _ _ _=>?_) rfl;generalize a.eval=ρ at *;have hr:(Op.equal T (.bool e) (.bool f)).run c.P w = .ok (e==f) w:=run_equalIn_bool w 9999 T e f hu;have hg:∀o:BinOp,(eqGuard o T x y (.bool e) (.bool f)).run c.P w = .ok () w:=fun o=>by unfold eqGuard;split<;>rfl
 cases ng<;>subst ho<;>simp [execOp,hx,hy,hg,binOp,hr,GY]
theorem ry (E:RelT c M S a w) (T:TypeId) (x:Operand) (he:ev S (.not (cX x))=some (v,S1,q)):Ck c M S a w (.unOp .not T x) v S1:=by
 have hx:=Au E x;simp only [ev] at he;split at he<;>(try rename_i hv)<;>simp only [Option.some.injEq,Prod.mk.injEq,reduceCtorEq] at he<;>obtain ⟨rfl,rfl,h0⟩:=he<;>clear h0<;>rw [hv] at hx<;>clear hv<;>simp only [AV.is] at hx
 ·refine .same (x:=.bool false) E (fun _ _ _ _ _=>?_) rfl;generalize a.eval=ρ at *;simp [execOp,hx,Op.unary]
 ·refine .same (x:=.bool true) E (fun _ _ _ _ _=>?_) rfl;generalize a.eval=ρ at *;simp [execOp,hx,Op.unary]
 ·rename_i e;refine .same (x:=.bool (!e)) E (fun _ _ _ _ _=>?_) rfl;generalize a.eval=ρ at *;simp [execOp,hx,Op.unary]
theorem rv (E:RelT c M S a w) (T:TypeId) (x:Operand) (he:ev S (.neg (cX x))=some (v,S1,q)) (hq:q):Ck c M S a w (.unOp .neg T x) v S1:=by have hx:=Au E x;simp only [ev] at he;split at he<;>simp only [Option.some.injEq,Prod.mk.injEq,reduceCtorEq] at he;rename_i e hv;obtain ⟨rfl,rfl,rfl⟩:=he;rw [hv] at hx;simp only [AV.is] at hx;refine .same (x:=.int .i64 (wr (-e))) E (fun _ _ _ _ _=>?_) rfl;generalize a.eval=ρ at *;simp [execOp,hx,Op.unary,Op.intArith,wr]
theorem rf (E:RelT c M S a w) (A B:TypeId) (x:Operand) (he:ev S (cO c.P (.convert A B x))=some (v,S1,q)) (hq:q):Ck c M S a w (.convert A B x) v S1:=by
 have hx:=Au E x;simp only [cO] at he;split at he
 ·rename_i k l hA hB;have Ap:∀j e,a.eval x = .int j e→Ck c M S a w (.convert A B x) (HH l (kw l e)) S:=by intro j e hx;refine .same (x:=.int l (kw l e)) E (fun _ _ _ _ _=>?_) (Tn _ _);generalize a.eval=ρ at *;simp [execOp,hx,convert,run_underlying hA,run_underlying hB,Conv.intToInt,kw]
  cases l<;>simp only [ev] at he<;>split at he<;>simp only [Option.some.injEq,Prod.mk.injEq,reduceCtorEq] at he<;>rename_i e hv<;>obtain ⟨rfl,rfl,rfl⟩:=he<;>rw [hv] at hx<;>exact Ap _ _ hx
 ·split at he<;>simp [ev] at he
 ·simp [ev] at he
theorem rn (E:RelT c M S a w) (T:TypeId) (x:Operand) (f:Nat) (he:ev S (cO c.P (.fieldAddr T x f))=some (v,S1,q)):Ck c M S a w (.fieldAddr T x f) v S1:=by
 have hx:=Au E x;simp only [cO] at he;split at he
 ·rename_i fs h9;split at he
  ·rename_i fd hf;split at he
   ·rename_i h6;have h8:∃n,(sizeOf fd.type).run c.P w = .ok (n+1) w:=by
     cases hn:Cj c.P fd.type with
     | none=>simp [hn] at h6
     | some n=>simp [hn] at h6;exact ⟨n-1,by rw [FN hn];congr 1;omega⟩
    obtain ⟨n,h8⟩:=h8;have run:∀(g o:Nat) (ρ:Operand→Value),ρ x = .pointer (some ⟨g,o,none⟩)→∀d ty pos af gg,(execOp ρ ⟨d,.fieldAddr T x f,ty,pos,af,gg⟩).run c.P w = .ok (.value (.pointer (some ⟨g,o+fd.offset,none⟩))) w:=by intro g o ρ hρ d ty pos af gg;simp [execOp,hρ,Instr.fieldAt,Instr.sureAddr,run_underlying h9,hf,fieldPlace,h8,Addr.add_lit]
    simp only [ev] at he;split at he<;>simp only [Option.some.injEq,Prod.mk.injEq,reduceCtorEq] at he<;>rename_i hv<;>obtain ⟨rfl,rfl,_⟩:=he
    ·rw [hv] at hx;exact .same E (run _ _ _ hx.2) ⟨hx.1,rfl⟩
    ·rw [hv] at hx;obtain ⟨ad,vs,h1,h2,h3⟩:=hx;exact .same E (run _ _ _ h1) ⟨ad,vs,by rw [Nat.add_assoc],h2,h3⟩
    ·rw [hv] at hx;obtain ⟨h0,g,n,cp,h1,h2⟩:=hx;exact .same E (run _ _ _ h2) ⟨h0,g,n,cp,h1,by rw [Nat.add_assoc]⟩
   ·simp [ev] at he
  ·simp [ev] at he
 ·simp [ev] at he
theorem ui {P:Program} {T:TypeId} {vs:List Value} {off:Nat} {v:Value} (E:F3 P T=some none) (h:vs[off]?=some v):(part T vs.toArray off).run P w = .ok v w:=by simp [part,dB E,h]
theorem uh {P:Program} {T:TypeId} {vs:List Value} {off n:Nat} (E:F3 P T=some (some n)):(part T vs.toArray off).run P w = .ok (.agg ((vs.drop off).take n).toArray) w:=by simp [part,(Uf E).1,(Uf E).2]
theorem rm (E:RelT c M S a w) (T:TypeId) (x:Operand) (f:Nat) (he:ev S (cO c.P (.field T x f))=some (v,S1,q)):Ck c M S a w (.field T x f) v S1:=by
 have hx:=Au E x;simp only [cO] at he;split at he
 ·rename_i fs h8;split at he
  ·rename_i fd hf;split at he
   ·rename_i n hn;cases n with
    | none=>
      simp only [ev] at he;split at he<;>simp only [Option.map_eq_some_iff,Prod.mk.injEq,reduceCtorEq] at he;rename_i l hv;obtain ⟨r,hr,rfl,rfl,_⟩:=he;obtain ⟨rfl,hle⟩:=Kr hr;rw [hv] at hx;obtain ⟨vs,h1,h2⟩:=hx;have hl:=Dl h2;have hlt:fd.offset<vs.length:=by omega
      have h6:vs[fd.offset]?=some vs[fd.offset]:=List.getElem?_eq_getElem hlt;refine .same (x:=vs[fd.offset]) E (fun _ _ _ _ _=>?_) ?_
      ·generalize a.eval=ρ at *;simp [execOp,h1,Instr.field,run_underlying h8,hf,asAgg,ui hn h6]
      ·have h3:=G3 1 (G2 fd.offset h2);have e1:(vs.drop fd.offset).take 1=[vs[fd.offset]]:=by rw [List.take_one,List.head?_drop,h6];rfl
       rw [e1] at h3;cases h4:(l.drop fd.offset).take 1 with
       | nil=>rw [h4] at h3;simp [AV.isL] at h3
       | cons y r=>rw [h4] at h3;obtain ⟨_,_,h,hy,_⟩:=h3;simp at h;obtain ⟨rfl,rfl⟩:=h;exact hy
    | some n=>simp only [ev] at he;split at he<;>simp only [Option.map_eq_some_iff,Prod.mk.injEq,reduceCtorEq] at he;rename_i l hv;obtain ⟨r,hr,rfl,rfl,_⟩:=he;obtain ⟨rfl,hle⟩:=Kr hr;rw [hv] at hx;obtain ⟨vs,h1,h2⟩:=hx;refine .same (x:=.agg ((vs.drop fd.offset).take n).toArray) E (fun _ _ _ _ _=>?_) ⟨_,rfl,G3 n (G2 fd.offset h2)⟩;generalize a.eval=ρ at *;simp [execOp,h1,Instr.field,run_underlying h8,hf,asAgg,uh hn]
   ·simp [ev] at he
  ·simp [ev] at he
 ·simp [ev] at he
theorem rh (E:RelT c M S a w) (x:Operand) (k:Nat) (he:ev S (.ext (cX x) k)=some (v,S1,q)):Ck c M S a w (.extract x k) v S1:=by
 have hx:=Au E x;simp only [ev] at he;split at he<;>simp only [Option.map_eq_some_iff,Prod.mk.injEq,reduceCtorEq] at he;rename_i l hv;obtain ⟨r,hr,rfl,rfl,_⟩:=he;obtain ⟨rfl,hle⟩:=Kr hr;rw [hv] at hx;obtain ⟨vs,h1,h2⟩:=hx;have hl:=Dl h2;have hlt:k<vs.length:=by omega
 have h6:vs[k]?=some vs[k]:=List.getElem?_eq_getElem hlt;refine .same (x:=vs[k]) E (fun _ _ _ _ _=>?_) ?_
 ·generalize a.eval=ρ at *;simp [execOp,h1,Instr.extract,h6]
 ·have h3:=G3 1 (G2 k h2);have e1:(vs.drop k).take 1=[vs[k]]:=by rw [List.take_one,List.head?_drop,h6];rfl
  rw [e1] at h3;cases h4:(l.drop k).take 1 with
  | nil=>rw [h4] at h3;simp [AV.isL] at h3
  | cons y r=>rw [h4] at h3;obtain ⟨_,_,h,hy,_⟩:=h3;simp at h;obtain ⟨rfl,rfl⟩:=h;exact hy
theorem Ge (E:RelT c M S a w):∀(l:List Operand),AV.isL M (B6 S (l.map cX)) (l.map a.eval)
 | []=>rfl
 | x::l=>⟨_,_,rfl,Au E x,Ge E l⟩
theorem rt (E:RelT c M S a w) (fn:Fn) (first caps:Array Operand) (he:ev S (cO c.P (.makeFunc fn first caps))=some (v,S1,q)):Ck c M S a w (.makeFunc fn first caps) v S1:=by
 simp only [cO] at he;split at he
 ·rename_i f;split at he
  ·rename_i h0;simp only [ev,Option.some.injEq,Prod.mk.injEq] at he;obtain ⟨rfl,rfl,_⟩:=he;have hm:=Ge E caps.toList;have hf:first = #[]:=by simpa using h0
   subst hf;refine .same (x:=.func (.func f) #[] (caps.map a.eval)) E (fun _ _ _ _ _=>?_) ⟨caps.toList.map a.eval,?_,hm⟩
   ·generalize a.eval=ρ at *;simp [execOp,Instr.makeFunc]
   ·congr 1;apply Array.ext';simp
  ·simp [ev] at he
 ·simp [ev] at he
def OZ (z:List Value) (off:Nat) (cs:List Value):List Value:=z.take off++cs++z.drop (off+cs.length)
theorem qQ (cs:List Value):∀(off k:Nat) (z:Array Value),off+k+cs.length≤z.size→
  (cs.zipIdx k).foldl (fun (acc:Array Value) (x:Value×Nat)=>acc.setIfInBounds (off+x.2) x.1) z=(OZ z.toList (off+k) cs).toArray:=by
 induction cs with
 | nil=>intro off k z _;simp [OZ]
 | cons c cs ih=>
   intro off k z hz;simp only [List.zipIdx_cons,List.foldl_cons];rw [ih off (k+1) _ (by simp at hz ⊢;omega)];apply congrArg List.toArray;simp only [Array.toList_setIfInBounds,OZ];apply List.ext_getElem?;intro j;simp only [List.length_cons] at hz ⊢;simp only [List.getElem?_append,List.length_append,List.length_take,List.length_set,List.getElem?_take,List.getElem?_drop,List.getElem?_set,List.length_cons,Array.length_toList];have e1:min (off+(k+1)) z.size=off+k+1:=by omega
   have e2:min (off+k) z.size=off+k:=by omega
   rw [e1,e2];by_cases h1:j<off+k
   ·have:¬off+k=j:=by omega
    simp only [show j<off+k+1+cs.length from by omega,show j<off+k+(cs.length+1) from by omega,if_true,show j<off+k+1 from by omega,h1,this,if_false,show off+(k+1)=off+k+1 from rfl]
   ·by_cases h2:j=off+k
    ·subst h2;simp [show off+(k+1)=off+k+1 from rfl,show off+k<z.size from by omega,show off+k<off+k+1+cs.length from by omega]
    ·by_cases h3:j<off+k+1+cs.length
     ·have h5:j-(off+k)=(j-(off+k+1))+1:=by omega
      simp only [h3,show j<off+k+(cs.length+1) from by omega,if_true,show ¬j<off+k+1 from by omega,h1,if_false,h5,List.getElem?_cons_succ]
     ·have h6:¬off+k=off+k+1+cs.length+(j-(off+k+1+cs.length)):=by omega
      simp only [h3,show ¬j<off+k+(cs.length+1) from by omega,if_false];rw [if_neg Om];congr 1;omega
theorem Uy (place:Nat→Option (Nat×Nat)):∀(ps:List (Nat×Value)) (z:List Value) (l:List AV) (M:Mem) (J:List AV) (E:List (Nat×Nat×AV)),
  AV.isL M J z→FD J E=some l→E.length=ps.length→
  (∀(k:Nat) i v,ps[k]?=some (i,v)→∃o n x,E[k]?=some (o,n,x)∧place i=some (o,n)∧(∀cs,x.cells=some cs→AV.isL M cs v.cells.toList))→
  ∃r:List Value,Instr.fill place z.toArray ps=some r.toArray∧AV.isL M l r
 | [],z,l,M,J,E,hz,hf,h1,_=>by have:E=[]:=List.length_eq_zero_iff.1 h1;subst this;simp [FD] at hf;subst hf;exact ⟨z,rfl,hz⟩
 | (i,u)::ps,z,l,M,J,E,hz,hf,h1,hp=>by
   obtain ⟨o,n,x,hx,h9,hw⟩:=hp 0 i u (by simp);cases E with
   | nil=>simp at hx
   | cons y E=>
     simp at hx;subst hx;simp only [FD] at hf;split at hf
     ·rename_i cs hA;split at hf
      ·rename_i hn;rw [beq_iff_eq] at hn;split at hf
       ·rename_i z' hz';have h8:=hw cs hA;have h6:=Dl h8;obtain ⟨rfl,hle⟩:=Mq hz';have hI:=Dl hz;rw [Bl] at hn;have hB:u.cells.size=n:=by rw [←Array.length_toList,h6];exact hn
        have hC:AV.isL M (J.take o++cs++J.drop (o+cs.length)) (OZ z o u.cells.toList):=by unfold OZ;exact Dw (Dw (G3 o hz) h8) (by rw [h6];exact G2 _ hz)
        obtain ⟨r,hD,hE⟩:=Uy place ps (OZ z o u.cells.toList) l M _ E hC hf (by simpa using h1)
         (fun k i v hk=>by obtain ⟨o',n',x',g1,g2⟩:=hp (k+1) i v (by simpa using hk);exact ⟨o',n',x',by simpa using g1,g2⟩)
        refine ⟨r,?_,hE⟩;have hG:=qQ u.cells.toList o 0 z.toArray (by simp at h6 ⊢;omega);simp only [Instr.fill,h9];rw [if_neg (by simp [hB];omega)];rw [←hD];congr 1;rw [←Array.foldl_toList,Array.toList_zipIdx];exact hG
       ·simp at hf
      ·simp at hf
     ·simp at hf
theorem jB {P:Program}:∀ {E:List Field} {pl:List (Nat×Nat)},TB P E=some pl→E.mapM (fun f=>(P.info? f.type).map fun i=>(f.offset,i.size))=some pl
 | [],pl,h=>by simp [TB] at h;simp [h]
 | f::l,pl,h=>by simp only [TB] at h;split at h<;>simp at h;rename_i n r h1 h2;subst h;have:=jB h2;simp only [Cj,Option.map_eq_some_iff] at h1;obtain ⟨i,hi,rfl⟩:=h1;simp [List.mapM_cons,hi,this]
theorem JR {α β:Type} {f:α→Option β}:∀ {l:List α} {r:List β},l.mapM f=some r→r.length=l.length∧∀(k:Nat) x,l[k]?=some x→∃y,r[k]?=some y∧f x=some y
 | [],r,h=>by simp at h;subst h;simp
 | x::l,r,h=>by
   simp only [List.mapM_cons,Option.bind_eq_bind,Option.bind_eq_some_iff] at h;obtain ⟨y,h1,r',h2,h3⟩:=h;simp at h3;subst h3;obtain ⟨g1,g2⟩:=JR h2;refine ⟨by simp [g1],fun k u hk=>?_⟩;cases k with
   | zero=>simp at hk;subst hk;exact ⟨y,by simp,h1⟩
   | succ k=>simpa using g2 k u (by simpa using hk)
theorem XD (S:St):∀l:List (Nat×Nat×X),(Gd S l).length=l.length
 | []=>rfl
 | (_,_,_)::l=>by simp [Gd,XD S l]
theorem XC (S:St):∀(l:List (Nat×Nat×X)) (k o n:Nat) (x:X),l[k]?=some (o,n,x)→(Gd S l)[k]?=some (o,n,S.x x)
 | [],k,_,_,_,h=>by simp at h
 | (_,_,_)::l,k,o,n,x,h=>by
   cases k with
   | zero=>simp at h;obtain ⟨rfl,rfl,rfl⟩:=h;simp [Gd]
   | succ k=>simpa [Gd] using XC S l k o n x (by simpa using h)
theorem Uk (E:RelT c M S a w) (x:Operand) (cs:List AV) (h:(S.x (cX x)).cells=some cs):AV.isL M cs (a.eval x).cells.toList:=by have hx:=Au E x;exact Ul (fun j e=>by rw [e] at hx;rw [hx.2];exact E.st.so j hx.1) hx h
theorem rc (E:RelT c M S a w) (T:TypeId) (ps:Array (Nat×Operand)) (he:ev S (cO c.P (.build T ps))=some (v,S1,q)):Ck c M S a w (.build T ps) v S1:=by
 simp only [cO] at he;split at he
 ·rename_i fs z hu hz;obtain ⟨i,u,hi,h8,hw,rfl⟩:=LI hz;split at he
  ·rename_i pl hA;split at he
   ·rename_i l hl;simp only [ev,Option.map_eq_some_iff,Prod.mk.injEq] at he;obtain ⟨r,hr,rfl,rfl,_⟩:=he;obtain ⟨g1,g2⟩:=JR hl;obtain ⟨res,h6,h9⟩:=Uy (pl[·]?) (ps.toList.map fun (i,x)=>(i,a.eval x)) u.cells.toList r M _ _ (FU M _) hr (by rw [XD,g1];simp)
     (fun k i v hk=>by rw [List.getElem?_map,Option.map_eq_some_iff] at hk;obtain ⟨⟨i',x⟩,hk,he⟩:=hk;simp at he;obtain ⟨rfl,rfl⟩:=he;obtain ⟨y,hy,hf⟩:=g2 k _ hk;simp only [Option.map_eq_some_iff] at hf;obtain ⟨⟨o,n⟩,hp,rfl⟩:=hf;exact ⟨o,n,_,XC S l k o n _ hy,hp,fun cs hc=>Uk E x cs hc⟩)
    refine .same (x:=.agg res.toArray) E (fun _ _ _ _ _=>?_) ⟨res,rfl,h9⟩;generalize a.eval=ρ at *;have hB:=run_places (P:=c.P) w fs.toList pl (jB hA);simp only [Array.toArray_toList] at h6;simp [execOp,Instr.build,run_underlying hu,typeInfo,zeroValue,hi,h8,Array.mapM_eq_mapM_toList,hB,h6]
   ·simp [ev] at he
  ·simp [ev] at he
 ·rename_i n e z hu hz;obtain ⟨i,u,hi,h8,hw,rfl⟩:=LI hz;split at he
  ·rename_i sz hs;simp only [ev,Option.map_eq_some_iff,Prod.mk.injEq] at he;obtain ⟨r,hr,rfl,rfl,_⟩:=he;obtain ⟨res,h6,h9⟩:=Uy (fun i=>some (i*sz,sz)) (ps.toList.map fun (i,x)=>(i,a.eval x)) u.cells.toList r M _ _ (FU M _) hr (by rw [XD];simp)
    (fun k i v hk=>by rw [List.getElem?_map,Option.map_eq_some_iff] at hk;obtain ⟨⟨i',x⟩,hk,he⟩:=hk;simp at he;obtain ⟨rfl,rfl⟩:=he;exact ⟨_,_,_,XC S _ k (i'*sz) sz (cX x) (by rw [List.getElem?_map,hk];rfl),rfl,fun cs hc=>Uk E x cs hc⟩)
   refine .same (x:=.agg res.toArray) E (fun _ _ _ _ _=>?_) ⟨res,rfl,h9⟩;generalize a.eval=ρ at *;simp only [Array.toArray_toList] at h6;simp [execOp,Instr.build,run_underlying hu,typeInfo,zeroValue,hi,h8,FN hs,h6]
  ·simp [ev] at he
 ·simp [ev] at he
theorem gM (S:St) (n:Nat):∀l:List (Nat×X),(IC S n l).length=l.length
 | []=>rfl
 | (_,_)::l=>by simp [IC,gM S n l]
theorem gL (S:St) (n:Nat):∀(l:List (Nat×X)) (k i:Nat) (x:X),l[k]?=some (i,x)→(IC S n l)[k]?=some (i*n,n,S.x x)
 | [],k,_,_,h=>by simp at h
 | (_,_)::l,k,i,x,h=>by
   cases k with
   | zero=>simp at h;obtain ⟨rfl,rfl⟩:=h;simp [IC]
   | succ k=>simpa [IC] using gL S n l k i x (by simpa using h)
theorem YI (z:Array Value):∀len:Nat,((Array.range (len*z.size)).map (fun i=>z[i % z.size]!)).toList=(List.replicate len z.toList).flatten:=by
 intro len;by_cases h0:z.size=0
 ·have:z = #[]:=by simpa using h0
  subst this;simp
 induction len with
 | zero=>simp
 | succ len ih=>
   rw [List.replicate_succ',List.flatten_append,←ih,Nat.add_mul,Nat.one_mul];simp only [Array.toList_map,Array.toList_range,List.flatten_cons,List.flatten_nil,List.append_nil];rw [List.range_add,List.map_append];congr 1;apply List.ext_getElem
   ·simp
   ·intro j h1 h2;simp at h1 h2;simp only [List.map_map,List.getElem_map,List.getElem_range,Function.comp,Array.getElem_toList];have:(len*z.size+j) % z.size=j:=by rw [Nat.add_comm,Nat.add_mul_mod_self_right,Nat.mod_eq_of_lt h2]
    simp [this,h2]
theorem gA {M:Mem} {z:List AV} {vs:List Value} (h:AV.isL M z vs):∀k,AV.isL M (Hm k z) (List.replicate k vs).flatten
 | 0=>by simp [Hm,AV.isL]
 | k+1=>by rw [List.replicate_succ,List.flatten_cons];exact Dw h (gA h k)
theorem rb (E:RelT c M S a w) (T:TypeId) (len:Nat) (ps:Array (Nat×Operand)) (he:ev S (cO c.P (.buildSlice T len ps))=some (v,S1,q)):Ck c M S a w (.buildSlice T len ps) v S1:=by
 simp only [cO] at he;split at he
 ·rename_i e hu;split at he
  ·rename_i n z hn hz;obtain ⟨i,u,hi,hO,hW,rfl⟩:=LI hz;simp only [ev] at he;split at he
   ·rename_i l hl;split at he<;>simp only [Option.some.injEq,Prod.mk.injEq,reduceCtorEq] at he;rename_i hc;simp only [AS,Da,beq_iff_eq] at hc;obtain ⟨rfl,rfl,_⟩:=he;obtain ⟨hA,hV,hC,hP,hJ⟩:=hc;have h9:u.cells.size=n:=by rw [Bl] at hC;simpa using hC
    obtain ⟨res,h8,hw⟩:=Uy (fun i=>some (i*n,n)) (ps.toList.map fun (i,x)=>(i,a.eval x)) (List.replicate len u.cells.toList).flatten l M _ _ (gA (FU M u.cells.toList) len) hl (by rw [gM];simp)
     (fun k i v hk=>by rw [List.getElem?_map,Option.map_eq_some_iff] at hk;obtain ⟨⟨i',x⟩,hk,he⟩:=hk;simp at he;obtain ⟨rfl,rfl⟩:=he;exact ⟨_,_,_,gL S n _ k i' (cX x) (by rw [List.getElem?_map,hk];rfl),rfl,fun cs hc=>Uk E x cs hc⟩)
    have h6:res.length=len*n:=by
     have h1:=Dl hw;have:l.length=(Hm len (u.cells.toList.map DB)).length:=by
      clear h8 hw h1;generalize IC S n _=av at hl;generalize Hm len _=zz at hl;induction av generalizing zz with
      | nil=>simp [FD] at hl;rw [hl]
      | cons y av ih=>
        obtain ⟨o,m,x⟩:=y;simp only [FD] at hl;split at hl
        ·split at hl
         ·split at hl
          ·rename_i z' hz';obtain ⟨rfl,hle⟩:=Mq hz';rw [ih _ hl];simp;omega
          ·simp at hl
         ·simp at hl
        ·simp at hl
     have h3:∀k,(Hm k (u.cells.toList.map DB)).length=k*n:=by
      intro k;induction k with
      | zero=>simp [Hm]
      | succ k ih=>simp [Hm,ih,h9,Nat.add_mul];omega
     rw [h1,this,h3]
    have hD:=Fp l res hw hP;have h1:=IT hD hJ (fun j hj=>absurd hj (Nat.not_lt_zero _));obtain ⟨vss,hQ,hE⟩:=eu (M:=M.pure) n len l res hD h6;have hR:=ew n len l;intro d ty pos af g
    let w':=w.alloc (.cells res.toArray e)
    have hK:w'.ownsRow 0 e n (.slice (some ⟨w.heap.size,0,none⟩) len len) len res:=⟨h6,.inr ⟨w.heap.size,len,res.toArray,rfl,Nat.zero_le _,(Pt w _ _).trans (if_pos rfl),Nat.le_refl _,by unfold maxLen;have:len≤len*n:=Nat.le_mul_of_pos_right _ hA;omega,by simp [h6],by simp [←h6]⟩⟩
    have hL:RelS c M S.bs S.ss w':=by exact E.st.grow ((Below.refl _ _).alloc (Nat.le_refl _) _)
    refine ⟨.slice (some ⟨w.heap.size,0,none⟩) len len,M.addS (.slice (some ⟨w.heap.size,0,none⟩) len len),w',.inl ?_,Mem.le_addS M _,?_,rfl,?_⟩
    ·generalize a.eval=ρ at *;have hG:=YI u.cells len;rw [h9] at hG;have hS:(Array.range (len*n)).map (fun i=>u.cells[i % n]!)=((List.replicate len u.cells.toList).flatten).toArray:=by rw [←hG]
     have hbig':¬2 ^ 24<len*n:=by omega
     by_cases hI:len*n=0
     ·have hU:len=0:=by
       rcases Nat.mul_eq_zero.1 hI with h | h
       ·exact h
       ·omega
      subst hU;simp at h8;simp [execOp,Instr.buildSlice,run_underlying hu,FN hn,show Array.range 0=(#[]:Array Nat) from rfl,h8,newRow,w']
     ·simp [execOp,Instr.buildSlice,run_underlying hu,FN hn,hbig',hI,zeroValue,typeInfo,hi,hO,h9,hS,h8,newRow,w']
    ·have:=hL.name ⟨e,n,Kg n len l⟩ (.slice (some ⟨w.heap.size,0,none⟩) len len) vss hA (F9 (OP M) _ _ _ hQ) (by rw [hE];exact h1) (by rw [hE,hR];exact hK)
      (fun g hg=>by simp [Value.ownBlock] at hg;subst hg;exact ⟨.inl E.st.size,E.st.Hnew (Nat.le_refl _)⟩)
      (fun i B hB e=>by simp [Value.ownBlock] at e;have:=E.st.blk_lt hB;omega)
      (fun j N g hN e1 e2=>by simp [Value.ownBlock] at e1;have:=E.st.slc_lt hN e2;omega)
     exact this
    ·rw [Bl,←E.st.ns];exact ⟨Nat.lt_succ_self _,by simp [Mem.addS]⟩
   ·simp at he
  ·simp [ev] at he
 ·simp [ev] at he
theorem PL {P:Program} {w:World} {x:Operand} {argTypes:Array TypeId} {t0 e:TypeId} (h0:argTypes[0]?=some t0) (hu:P.underlying t0=some (.slice e))
  (ad:Option Addr) (m cp:Nat) (ρ:Operand→Value) (hρ:ρ x = .slice ad m cp) (d:Option Tmp) (ty:TypeId) (pos:String) (af:Array Edge) (E:Option (Nat×Bool)):
  (execOp ρ ⟨d,.call ⟨.builtin .len, #[x],argTypes⟩,ty,pos,af,E⟩).run P w = .ok (.value (.int .i64 m)) w:=by
 simp [execOp,resolve,invoke,builtin,Builtin.len_,hρ,h0,run_underlying hu,goInt]
theorem rq (E:RelT c M S a w) {x:Operand} {argTypes:Array TypeId} {t0 e:TypeId} (h0:argTypes[0]?=some t0) (hu:c.P.underlying t0=some (.slice e))
  (he:ev S (.len (cX x))=some (v,S1,q)):Ck c M S a w (.call ⟨.builtin .len, #[x],argTypes⟩) v S1:=by
 have hx:=Au E x;simp only [ev] at he;split at he
 ·rename_i hv;simp only [Option.some.injEq,Prod.mk.injEq] at he;obtain ⟨rfl,rfl,_⟩:=he;rw [hv] at hx;exact .same E (PL h0 hu none 0 0 _ hx) rfl
 ·rename_i m rows hv;simp only [Option.some.injEq,Prod.mk.injEq] at he;obtain ⟨rfl,rfl,_⟩:=he;rw [hv] at hx;obtain ⟨ad,cp,h1,_⟩:=hx;exact .same E (PL h0 hu ad _ cp _ h1) rfl
 ·rename_i j hv;split at he
  ·rename_i L hL;simp only [Option.some.injEq,Prod.mk.injEq] at he;obtain ⟨rfl,rfl,_⟩:=he;rw [hv] at hx;obtain ⟨_,vss,_,_,ho,_⟩:=E.st.slc j L hL;rcases ho.2 with ⟨h1,h2⟩ | ⟨g,cp,cur,h1,_⟩
   ·exact .same E (PL h0 hu none 0 0 _ (hx.2.trans h1)) (by rw [h2];rfl)
   ·exact .same E (PL h0 hu _ _ cp _ (hx.2.trans h1)) rfl
  ·simp at he
 ·rename_i j lo n m hv;simp only [Option.some.injEq,Prod.mk.injEq] at he;obtain ⟨rfl,rfl,_⟩:=he;rw [hv] at hx;obtain ⟨_,g,len,cp,_,h1⟩:=hx;exact .same E (PL h0 hu _ _ _ _ h1) rfl
 ·simp at he
theorem rB (E:RelT c M S a w) {x:Operand} {argTypes:Array TypeId} {t0:TypeId} (h0:argTypes[0]?=some t0) (hu:c.P.underlying t0=some .string)
  (he:ev S (.slen (cX x))=some (v,S1,q)):Ck c M S a w (.call ⟨.builtin .len, #[x],argTypes⟩) v S1:=by
 have hx:=Au E x;simp only [ev] at he;split at he<;>simp only [Option.some.injEq,Prod.mk.injEq,reduceCtorEq] at he;rename_i s hv;obtain ⟨rfl,rfl,_⟩:=he;rw [hv] at hx;simp only [AV.is] at hx;refine .same (x:=.int .i64 (YB s)) E (fun _ _ _ _ _=>?_) rfl;generalize a.eval=ρ at *;simp [execOp,resolve,invoke,builtin,Builtin.len_,hx,h0,run_underlying hu,goInt,YB]
theorem XF {P:Program} {w:World} {m:Mem}:∀(l:List AV) (vs:List Value) (x n:Int),AV.isL m l vs→
  (IG true x l=some n→(vs.foldlM Builtin.max2 (.int .i64 x)).run P w = .ok (.int .i64 n) w)∧(IG false x l=some n→(vs.foldlM Builtin.min2 (.int .i64 x)).run P w = .ok (.int .i64 n) w)
 | [],vs,x,n,h=>by simp [AV.isL] at h;subst h;constructor<;>intro h<;>simp [IG] at h<;>subst h<;>rfl
 | y::l,_,x,n,⟨u,r,hv,hu,hr⟩=>by
   subst hv;cases y<;>try (constructor<;>intro h<;>simp [IG] at h;done)
   rename_i y;simp only [AV.is] at hu;subst hu;constructor<;>intro h<;>simp only [IG] at h
   ·have:=(XF (P:=P) (w:=w) l r (max x y) n hr).1 h;simp only [List.foldlM_cons,Sem.run_bind,Builtin.max2,Sem.run_pure,Result.andThen_ok];rw [←this];congr 3;split<;>omega
   ·have:=(XF (P:=P) (w:=w) l r (min x y) n hr).2 h;simp only [List.foldlM_cons,Sem.run_bind,Builtin.min2,Sem.run_pure,Result.andThen_ok];rw [←this];congr 3;split<;>omega
theorem fx (E:RelT c M S a w) (mx:Bool) {args:Array Operand} {argTypes:Array TypeId}
  (he:ev S (.mm mx (args.toList.map cX))=some (v,S1,q)):Ck c M S a w (.call ⟨.builtin (if mx then .max else .min),args,argTypes⟩) v S1:=by
 have hm:=Ge E args.toList;simp only [ev] at he;split at he
 ·rename_i x l hl;simp only [Option.map_eq_some_iff,Prod.mk.injEq] at he;obtain ⟨n,hn,rfl,rfl,_⟩:=he;rw [hl] at hm;obtain ⟨u,r,h1,h2,h3⟩:=hm;simp only [AV.is] at h2;subst h2;refine .same (x:=.int .i64 n) E (fun _ _ _ _ _=>?_) rfl;generalize a.eval=ρ at *;cases mx
  ·have:=(XF (P:=c.P) (w:=w) l r x n h3).2 hn;simp [execOp,resolve,invoke,builtin,Builtin.min_,h1,this]
  ·have:=(XF (P:=c.P) (w:=w) l r x n h3).1 hn;simp [execOp,resolve,invoke,builtin,Builtin.max_,h1,this]
 ·simp at he
theorem re (E:RelT c M S a w) (J:Call) (he:ev S (cO c.P (.call J))=some (v,S1,q)):Ck c M S a w (.call J) v S1:=by
 obtain ⟨callee,args,argTypes⟩:=J;simp only [cO] at he;split at he
 ·split at he
  ·split at he<;>simp [ev] at he
  ·simp [ev] at he
  ·simp [ev] at he
 ·simp [ev] at he
 ·split at he
  ·split at he
   ·rename_i t0 x h0 h8;split at he
    ·rename_i e hu;have h6:args = #[x]:=by apply Array.ext';simpa using h8
     subst h6;exact rq E h0 hu he
    ·rename_i hu;have h6:args = #[x]:=by apply Array.ext';simpa using h8
     subst h6;exact rB E h0 hu he
    ·simp [ev] at he
   ·simp [ev] at he
  ·split at he
   ·split at he
    ·split at he
     ·split at he
      ·split at he
       ·split at he<;>simp [ev] at he
       ·simp [ev] at he
      ·simp [ev] at he
     ·simp [ev] at he
    ·split at he
     ·split at he
      ·split at he
       ·split at he<;>simp [ev] at he
       ·simp [ev] at he
      ·simp [ev] at he
     ·simp [ev] at he
   ·simp [ev] at he
  ·split at he
   ·split at he<;>simp [ev] at he
   ·simp [ev] at he
  ·(repeat' (split at he))<;>simp [ev] at he
  ·(repeat' (split at he))<;>simp [ev] at he
  ·exact fx E true he
  ·exact fx E false he
  ·simp [ev] at he
theorem fv (E:RelT c M S a w) (o:Op) (he:ev S (cO c.P o)=some (v,S1,q)) (hq:q):Ck c M S a w o v S1:=by
 cases o with
 | move x=>simp only [cO,ev,Option.some.injEq,Prod.mk.injEq] at he;obtain ⟨rfl,rfl,_⟩:=he;exact ru E x
 | assign x=>simp only [cO,ev,Option.some.injEq,Prod.mk.injEq] at he;obtain ⟨rfl,rfl,_⟩:=he;exact r8 E x
 | pick x y z=>exact rz E x y z he
 | alloc T=>exact qZ E T he
 | box T x=>exact ra E T x he
 | build T ps=>exact rc E T ps he
 | buildSlice T n ps=>exact rb E T n ps he
 | load T x=>exact rr E T x he
 | store T x y=>exact rC E T x y he
 | nilCheck x=>exact rx E x he
 | binOp op T x y T2=>
   simp only [cO] at he;split at he
   ·split at he
    ·exact r9 E op T x y T2 he hq
    ·simp [ev] at he
   ·rename_i fs hu;refine rg E op T x y T2 hu (q:=q) ?_;simp only [cO,hu];exact he
   ·exact rA E op T x y T2 he
   ·rename_i hu;split at he
    ·exact fw E false _ rfl T x y T2 hu he
    ·exact fw E true _ rfl T x y T2 hu he
    ·simp [ev] at he
   ·split at he
    ·split at he<;>simp [ev] at he
    ·simp [ev] at he
   ·simp [ev] at he
   ·simp [ev] at he
 | unOp op T x=>
   simp only [cO] at he;split at he
   ·exact ry E T x he
   ·exact rv E T x he hq
   ·simp [ev] at he
 | convert A B x=>exact rf E A B x he hq
 | makeFunc f fi cs=>exact rt E f fi cs he
 | fieldAddr T x f=>exact rn E T x f he
 | field T x f=>exact rm E T x f he
 | extract x k=>exact rh E x k he
 | call ci=>exact re E ci he
 | indexAddr T x i=>
   simp only [cO] at he;split at he
   ·split at he<;>simp [ev] at he
   ·split at he<;>simp [ev] at he
   ·simp [ev] at he
 | index T x i=>
   simp only [cO] at he
   (repeat' (split at he))<;>simp [ev] at he
 | slice T x lo hi mx=>
   simp only [cO] at he
   (repeat' (split at he))<;>simp [ev] at he
 | makeSlice T x y=>
   simp only [cO] at he;split at he
   ·split at he
    ·split at he
     ·split at he<;>simp [ev] at he
     ·simp [ev] at he
    ·simp [ev] at he
   ·simp [ev] at he
 | _=>simp [cO,ev] at he
end
end NX
end Go.Proofs.YtgnjledocpbchaaGreat
/-
  The symbolic machine, sound over the model: its run, and the rules for what it stops at. No statement of the seat is proved here.
-/
namespace Go.Proofs.YtgnjledocpbchaaGreat
namespace NX
open Go Go.RowKit
section
variable {c:Ctx} {M:Mem} {S:St} {a:Act} {w:World} {fn:Func} {K:AV→List (Option Blk)→List (Option Sl)→Prop} {k:List It}
theorem qT (a:Act) (d:Option Tmp) (v:Value) (t:Nat):(a.put d v).tmps.getD t undef=if some t=d∧t<a.tmps.size then v else a.tmps.getD t undef:=by
 cases d with
 | none=>simp [Act.put]
 | some d=>
   simp only [Act.put,Array.getD_eq_getD_getElem?,Array.getElem?_setIfInBounds,Option.some.injEq];by_cases h:t=d
   ·subst h;by_cases h2:t<a.tmps.size
    ·simp [h2]
    ·simp [h2]
   ·rw [if_neg (fun e=>h e.symm),if_neg (fun e=>h e.1)]
theorem ut (a:Act) (d:Option Tmp) (v:Value):(a.put d v).tmps.size=a.tmps.size:=by cases d<;>simp [Act.put]
theorem RelT.put (E:RelT c M S a w) {M':Mem} {w':World} {v:AV} {x:Value} (d:Option Tmp) {bs ss} (hM:M.le M') (J:RelS c M' bs ss w') (hv:v.is M' x):
  RelT c M' ((⟨S.tm,bs,ss⟩:St).put d v) (a.put d x) w':=by
 refine ⟨?_,?_,?_,?_⟩
 ·rw [ut];cases d with
  | none=>exact E.len
  | some d=>simp only [St.put,Ig];exact E.len
 ·intro t;rw [qT];cases d with
  | none=>simpa [St.put] using Dx hM _ _ (E.tm t)
  | some d=>
    simp only [St.put,Fc,Option.some.injEq];by_cases h:t=d
    ·subst h;by_cases h2:t<S.tm.length
     ·rw [if_pos ⟨rfl,h2⟩,if_pos ⟨rfl,Nat.lt_of_lt_of_le h2 E.len⟩];exact hv
     ·rw [if_neg (fun e=>h2 e.2)];have:AM S.tm t = .any:=by
       have hl:S.tm.length≤t:=by omega
       clear E h2;generalize S.tm=l at hl;induction l generalizing t with
       | nil=>rfl
       | cons y l ih=>cases t with
         | zero=>simp at hl
         | succ t=>exact ih t (by simpa using hl)
      rw [this];trivial
    ·rw [if_neg (fun e=>h e.1),if_neg (fun e=>h e.1)];exact Dx hM _ _ (E.tm t)
 ·cases d<;>exact E.df
 ·cases d<;>exact J
theorem YG {all:Array Oper} {j t:Nat} (h:(all[j]?).bind (·.dst)=some t):yielded all a.tmps j=match a.tmps.getD t undef with | .bool b=>some b | _=>none:=by
 unfold yielded;rw [h];simp only [Option.bind_some];cases hh:a.tmps[t]? with
 | none=>simp [hh,undef]
 | some v=>simp [hh];cases v<;>rfl
theorem nD {o:EOp} {l:List EOp} {S':St} {q:Prop} (he:J0 S o=some (S',q)) (hq:q) (h:V c fn K (.ops l::k) S'):V c fn K (.ops (o::l)::k) S:=by
 rintro rk M a w ⟨y,r,rfl,hy,hr⟩ hT;cases y with
 | code x=>exact hy.elim
 | blk i=>exact hy.elim
 | lp _ _=>exact hy.elim
 | sc _=>exact hy.elim
 | ops all rl=>
   obtain ⟨ro,rl',rfl,ho,hl⟩:=mapM_cons hy;have hB:∀ {S1 v q'},ev S (cO c.P ro.op)=some (v,S1,q')→q'→S'=S1.put ro.dst v→wpList c.P all (D8 c.P fn (RK c K) r) rl'=wpList c.P all (D8 c.P fn (RK c K) r) rl'→Region.wanted ro (yielded all a.tmps)=true→
    wpList c.P all (D8 c.P fn (RK c K) r) (ro::rl') a w:=by
    intro S1 v q' h1 h2 h3 _ hw;unfold wpList;rw [if_pos hw];refine .inl ?_;obtain ⟨d,op,ty,pos,af,g⟩:=ro;obtain ⟨x,M',w',h9,hM,hS,h6,hv⟩:=fv hT op h1 h2 d ty pos af g;have hT':RelT c M' S' (a.put d x) w':=by rw [h3];have:=hT.put d hM hS hv;rw [←h6] at this;exact this
    have hk:=h (.ops all rl'::r) M' (a.put d x) w' ⟨_,_,rfl,hl,hr⟩ hT';unfold Oper.wp;rcases h9 with h9 | ⟨h9,hx⟩
    ·rw [h9];exact hk
    ·rw [h9];subst hx;exact hk
   have hA:S'=S.put ro.dst .un→Region.wanted ro (yielded all a.tmps)=false→wpList c.P all (D8 c.P fn (RK c K) r) (ro::rl') a w:=by intro h1 hw;unfold wpList;rw [if_neg (by simp [hw])];refine h (.ops all rl'::r) M (a.put ro.dst undef) w ⟨_,_,rfl,hl,hr⟩ ?_;rw [h1];exact hT.put ro.dst (.refl M) hT.st (v:=.un) rfl
   show wpList c.P all (D8 c.P fn (RK c K) r) (ro::rl') a w;unfold AO at ho;cases hg:ro.guard with
   | none=>rw [hg] at ho;simp only [Option.some.injEq] at ho;subst ho;simp only [J0,Option.map_eq_some_iff,Prod.mk.injEq] at he;obtain ⟨⟨v,S1,q'⟩,h1,h2,h3⟩:=he;dsimp only at h2 h3;subst h3;exact hB h1 hq h2.symm rfl (by simp [Region.wanted,hg])
   | some jf=>
     obtain ⟨j,f⟩:=jf;rw [hg] at ho;dsimp only at ho;split at ho
     ·rename_i t ht;simp only [Option.some.injEq] at ho;subst ho;have h8:=YG (a:=a) ht;have h6:=US (hT.tm t);simp only [J0] at he;split at he
      ·rename_i hv;rw [hv] at h6;simp only [Option.map_eq_some_iff,Prod.mk.injEq] at he;obtain ⟨⟨v,S1,q'⟩,h1,h2,h3⟩:=he;dsimp only at h2 h3;subst h3;exact hB h1 hq h2.symm rfl (by rw [show a.tmps.getD t undef = .bool true from h6] at h8;simp [Region.wanted,hg,h8])
      ·rename_i hv;rw [hv] at h6;simp only [Option.map_eq_some_iff,Prod.mk.injEq] at he;obtain ⟨⟨v,S1,q'⟩,h1,h2,h3⟩:=he;dsimp only at h2 h3;subst h3;exact hB h1 hq h2.symm rfl (by rw [show a.tmps.getD t undef = .bool false from h6] at h8;simp [Region.wanted,hg,h8])
      ·rename_i hv;rw [hv] at h6;simp only [Option.some.injEq,Prod.mk.injEq] at he;exact hA he.1.symm (by rw [show a.tmps.getD t undef = .bool true from h6] at h8;simp [Region.wanted,hg,h8])
      ·rename_i hv;rw [hv] at h6;simp only [Option.some.injEq,Prod.mk.injEq] at he;exact hA he.1.symm (by rw [show a.tmps.getD t undef = .bool false from h6] at h8;simp [Region.wanted,hg,h8])
      ·rename_i hv;rw [hv] at h6;simp only [Option.some.injEq,Prod.mk.injEq] at he;exact hA he.1.symm (by rw [show a.tmps.getD t undef=undef from h6] at h8;simp [undef] at h8;simp [Region.wanted,hg,h8])
      ·simp at he
     ·simp at ho
theorem EE:∀(m:Nat) (k:List It) (S:St) (p:Prop),(run m k S p).2.2→V c fn K (run m k S p).1 (run m k S p).2.1→p∧V c fn K k S
 | 0,k,S,p,hp,h=>⟨hp,h⟩
 | m+1,[],S,p,hp,h=>⟨hp,h⟩
 | m+1,.blk _::k,S,p,hp,h=>by obtain ⟨h1,h2⟩:=EE m k S p hp h;exact ⟨h1,nm h2⟩
 | m+1,.sc _::k,S,p,hp,h=>by obtain ⟨h1,h2⟩:=EE m k S p hp h;exact ⟨h1,nu h2⟩
 | m+1,.lp _ _::k,S,p,hp,h=>⟨hp,h⟩
 | m+1,.ops []::k,S,p,hp,h=>by obtain ⟨h1,h2⟩:=EE m k S p hp h;exact ⟨h1,nj h2⟩
 | m+1,.ops (o::l)::k,S,p,hp,h=>by
   simp only [run] at hp h;split at hp
   ·rename_i r hr;rw [hr] at h;obtain ⟨h1,h2⟩:=EE m _ _ _ hp h;exact ⟨h1.1,nD (S':=r.1) (q:=r.2) hr h1.2 h2⟩
   ·rename_i hr;rw [hr] at h;exact ⟨hp,h⟩
 | m+1,.code e::k,S,p,hp,h=>by
   cases e with
   | skip=>obtain ⟨h1,h2⟩:=EE m k S p hp h;exact ⟨h1,ny h2⟩
   | seq x y=>obtain ⟨h1,h2⟩:=EE m _ S p hp h;exact ⟨h1,nx h2⟩
   | blk id x=>obtain ⟨h1,h2⟩:=EE m _ S p hp h;exact ⟨h1,mP h2⟩
   | reg l=>obtain ⟨h1,h2⟩:=EE m _ S p hp h;exact ⟨h1,nn h2⟩
   | exit id=>
     simp only [run] at hp h;split at hp
     ·rename_i k' hk;rw [hk] at h;obtain ⟨h1,h2⟩:=EE m _ S p hp h;exact ⟨h1,n5 hk h2⟩
     ·rename_i hk;rw [hk] at h;exact ⟨hp,h⟩
   | scope x=>obtain ⟨h1,h2⟩:=EE m _ S p hp h;exact ⟨h1,nv h2⟩
   | label l=>obtain ⟨h1,h2⟩:=EE m k S p hp h;exact ⟨h1,nc h2⟩
   | goto l=>
     simp only [run] at hp h;split at hp
     ·rename_i k' hk;rw [hk] at h;obtain ⟨h1,h2⟩:=EE m _ S p hp h;exact ⟨h1,n8 hk h2⟩
     ·rename_i hk;rw [hk] at h;exact ⟨hp,h⟩
   | ite o x y=>
     simp only [run] at hp h;split at hp
     ·rename_i hk;rw [hk] at h;obtain ⟨h1,h2⟩:=EE m _ S p hp h;exact ⟨h1,nG hk h2⟩
     ·rename_i hk;rw [hk] at h;obtain ⟨h1,h2⟩:=EE m _ S p hp h;exact ⟨h1,n6 hk h2⟩
     ·rename_i h1 h2;split at h
      ·rename_i hk;exact absurd hk h1
      ·rename_i hk;exact absurd hk h2
      ·exact ⟨hp,h⟩
   | _=>exact ⟨hp,h⟩
theorem As (m:Nat) (h:(run m k S True).2.2∧V c fn K (run m k S True).1 (run m k S True).2.1):V c fn K k S:=(EE m k S True h.1 h.2).2
end
end NX
end Go.Proofs.YtgnjledocpbchaaGreat
/-
  The symbolic machine: the rules for what its run stops at. No statement of the seat is proved here.
-/
namespace Go.Proofs.YtgnjledocpbchaaGreat
namespace NX
open Go Go.RowKit
mutual
theorem Mi {M:Mem}:∀(x y:AV) (v:Value),x.le y→x.is M v→y.is M v
 | x,y,v,h,k=>by
   cases y<;>unfold AV.le at h<;>(try dsimp only at h)
   case any=>trivial
   case tt=>split at h<;>first | (subst h;exact k) | exact k
   case ff=>split at h<;>first | (subst h;exact k) | exact k
   case bv e=>split at h<;>(subst h;exact k)
   case iv e=>split at h<;>(subst h;exact k)
   case elt e j=>
    split at h
    ·obtain ⟨a,vs,h1,h2,h3⟩:=k;obtain ⟨h,rfl⟩:=h;exact ⟨a,vs,h1,Et _ _ vs h h2,h3⟩
    ·subst h;exact k
   case sl m e=>
    split at h
    ·subst h;simp only [AV.is] at k;subst k;exact ⟨none,0,rfl,⟨Nat.le_refl _,fun _=>rfl⟩,fun h=>absurd rfl h⟩
    ·obtain ⟨a,c,h1,h2,h3⟩:=k;obtain ⟨rfl,h4,h5⟩:=h;refine ⟨a,c,by rw [←h4];exact h1,by rw [←h4];exact h2,fun hne=>?_⟩;obtain ⟨ad,vss,g1,g2,g3⟩:=h3 (fun e0=>hne (List.length_eq_zero_iff.1 (by rw [←h4,e0];rfl)));exact ⟨ad,vss,g1,h5 _ _ g2,g3⟩
    ·subst h;exact k
   case agg e=>
    split at h
    ·obtain ⟨vs,h1,h2⟩:=k;exact ⟨vs,h1,Et _ _ vs h h2⟩
    ·subst h;exact k
   case tup e=>
    split at h
    ·obtain ⟨vs,h1,h2⟩:=k;exact ⟨vs,h1,Et _ _ vs h h2⟩
    ·subst h;exact k
   case clo g e=>
    split at h
    ·obtain ⟨vs,h1,h2⟩:=k;obtain ⟨rfl,h⟩:=h;exact ⟨vs,h1,Et _ _ vs h h2⟩
    ·subst h;exact k
   all_goals (change _=_ at h;subst h;exact k)
 termination_by x=>SizeOf.sizeOf x
theorem Et {M:Mem}:∀(l r:List AV) (vs:List Value),AV.le.leL l r→AV.isL M l vs→AV.isL M r vs
 | [],[],_,_,k=>k
 | x::l,y::r,_,h,⟨v,vs,h1,h2,h3⟩=>⟨v,vs,h1,Mi x y v h.1 h2,Et l r vs h.2 h3⟩
 | [],_::_,_,h,_=>h.elim
 | _::_,[],_,h,_=>h.elim
 termination_by l=>SizeOf.sizeOf l
end
theorem gh {M:Mem}:∀ {l r:List AV} {f:Nat→Value},UQ l r→(∀t,(AM l t).is M (f t))→r.length≤l.length∧∀t,(AM r t).is M (f t)
 | l,[],f,_,_=>⟨Nat.zero_le _,fun _=>trivial⟩
 | [],_::_,_,h,_=>h.elim
 | x::l,y::r,f,h,k=>by
   obtain ⟨g1,g2⟩:=gh (f:=fun t=>f (t+1)) h.2 (fun t=>k (t+1));refine ⟨by simp;exact g1,fun t=>?_⟩;cases t with
   | zero=>exact Mi x y _ h.1 (k 0)
   | succ t=>exact g2 t
theorem ZL:∀ {l r:List (Option Blk)},Ib l r→r.length≤l.length∧∀j C,Ab r j=some C→∃B,Ab l j=some B∧B.T=C.T∧AV.le.leL B.cells C.cells
 | l,[],_=>⟨Nat.zero_le _,fun j C h=>by simp [Ab] at h⟩
 | [],_::_,h=>by simp [Ib] at h
 | _::l,none::r,h=>by
   obtain ⟨g1,g2⟩:=ZL (l:=l) (r:=r) (by simpa [Ib] using h);refine ⟨by simp;exact g1,fun j C hj=>?_⟩;cases j with
   | zero=>simp [Ab] at hj
   | succ j=>exact g2 j C hj
 | none::l,some _::r,h=>by simp [Ib] at h
 | some B::l,some C::r,h=>by
   simp only [Ib] at h;obtain ⟨g1,g2⟩:=ZL h.2.2;refine ⟨by simp;exact g1,fun j D hj=>?_⟩;cases j with
   | zero=>simp [Ab] at hj;subst hj;exact ⟨B,rfl,h.1,h.2.1⟩
   | succ j=>exact g2 j D hj
theorem ZM:∀ {l r:List (Option Sl)},Ic l r→r.length≤l.length∧∀j C,Ab r j=some C→∃B,Ab l j=some B∧B.T=C.T∧B.n=C.n∧Ko B.n B.rows C.rows
 | l,[],_=>⟨Nat.zero_le _,fun j C h=>by simp [Ab] at h⟩
 | [],_::_,h=>by simp [Ic] at h
 | _::l,none::r,h=>by
   obtain ⟨g1,g2⟩:=ZM (l:=l) (r:=r) (by simpa [Ic] using h);refine ⟨by simp;exact g1,fun j C hj=>?_⟩;cases j with
   | zero=>simp [Ab] at hj
   | succ j=>exact g2 j C hj
 | none::l,some _::r,h=>by simp [Ic] at h
 | some B::l,some C::r,h=>by
   simp only [Ic] at h;obtain ⟨g1,g2⟩:=ZM h.2.2.2;refine ⟨by simp;exact g1,fun j D hj=>?_⟩;cases j with
   | zero=>simp [Ab] at hj;subst hj;exact ⟨B,rfl,h.1,h.2.1,h.2.2.1⟩
   | succ j=>exact g2 j D hj
def Mem.cut (M:Mem) (nb ns:Nat):Mem:= {M with nb:=nb,ns:=ns}
mutual
theorem eH {M:Mem} {nb ns:Nat}:∀(x:AV) (v:Value),x.is M v→x.ok nb ns=true→x.is (M.cut nb ns) v
 | .any,_,_,_=>trivial
 | .un,_,k,_=>k
 | .tt,_,k,_=>k
 | .ff,_,k,_=>k
 | .bv _,_,k,_=>k
 | .iv _,_,k,_=>k
 | .kv _ _,_,k,_=>k
 | .sv _,_,k,_=>k
 | .nl,_,k,_=>k
 | .nlp,_,k,_=>k
 | .fn _,_,k,_=>k
 | .ptr _ _,_,k,h=>⟨(Da _ _).1 h,k.2⟩
 | .osl _,_,k,h=>⟨(Da _ _).1 h,k.2⟩
 | .oel _ _ _,_,k,h=>⟨(Da _ _).1 h,k.2⟩
 | .ocs _ _ _ _,_,k,h=>⟨(Da _ _).1 h,k.2⟩
 | .elt _ _,_,k,_=>k
 | .sl _ _,_,k,_=>k
 | .agg l,_,⟨vs,h1,h2⟩,h=>⟨vs,h1,M4 l vs h2 (by simpa [AV.ok] using h)⟩
 | .tup l,_,⟨vs,h1,h2⟩,h=>⟨vs,h1,M4 l vs h2 (by simpa [AV.ok] using h)⟩
 | .clo _ l,_,⟨vs,h1,h2⟩,h=>⟨vs,h1,M4 l vs h2 (by simpa [AV.ok] using h)⟩
theorem M4 {M:Mem} {nb ns:Nat}:∀(l:List AV) (vs:List Value),AV.isL M l vs→Cq nb ns l=true→AV.isL (M.cut nb ns) l vs
 | [],_,k,_=>k
 | x::l,_,⟨v,r,h1,h2,h3⟩,h=>by simp only [Cq,AS] at h;exact ⟨v,r,h1,eH x v h2 h.1,M4 l r h3 h.2⟩
end
theorem jh {nb ns:Nat}:∀ {l:List AV} (t:Nat),Cq nb ns l=true→(AM l t).ok nb ns=true
 | [],_,_=>rfl
 | x::l,0,h=>by simp only [Cq,AS] at h;exact h.1
 | x::l,t+1,h=>by simp only [Cq,AS] at h;exact jh t h.2
theorem bl {nb ns:Nat}:∀ {l:List (Option Blk)} (t:Nat) B,JW nb ns l=true→Ab l t=some B→Cq nb ns B.cells=true
 | [],_,_,_,h=>by simp [Ab] at h
 | none::l,0,B,_,h2=>by simp [Ab] at h2
 | some C::l,0,B,h,h2=>by simp only [JW,AS] at h;simp [Ab] at h2;subst h2;exact h.1
 | none::l,t+1,B,h,h2=>bl (l:=l) t B (by simpa [JW] using h) h2
 | some C::l,t+1,B,h,h2=>by simp only [JW,AS] at h;exact bl t B h.2 h2
section
variable {c:Ctx} {M:Mem} {S S':St} {a:Act} {w:World} {fn:Func} {K:AV→List (Option Blk)→List (Option Sl)→Prop} {k:List It}
theorem jn {M:Mem} {n s:Nat}:∀ {rows:List (List AV)} {vss:List (List Value)},AV.isLL M.sl n rows vss→CE s rows=true→AV.isLL (M.sl.cut 0 s) n rows vss
 | [],_,h,_=>h
 | r::l,_,⟨v,q,h0,h1,h2,h3⟩,hp=>by simp only [CE,AS] at hp;exact ⟨v,q,h0,h1,M4 _ _ h2 hp.1,jn h3 hp.2⟩
theorem bw {ns:Nat}:∀ {l:List (Option Sl)} {j:Nat} {L:Sl},JY ns l=true→Ab l j=some L→CE ns L.rows=true
 | [],_,_,_,h=>by simp [Ab] at h
 | none::l,0,_,_,h=>by simp [Ab] at h
 | none::l,j+1,_,h,hj=>bw (l:=l) (j:=j) (by simpa [JY] using h) (by simpa [Ab] using hj)
 | some N::l,0,_,h,hj=>by simp only [JY,AS] at h;simp only [Ab,Option.some.injEq] at hj;subst hj;exact h.1
 | some N::l,j+1,_,h,hj=>by simp only [JY,AS] at h;exact bw (l:=l) (j:=j) h.2 (by simpa [Ab] using hj)
theorem RelT.weak (E:RelT c M S a w) (hle:S.le S') (hok:S'.ok=true) (h8:AF c.np (Ah S'.bs)=true) (hqn:AF c.nq (Ah S'.ss)=true):RelT c (M.cut S'.bs.length S'.ss.length) S' a w:=by
 obtain ⟨h1,h2,h3⟩:=hle;simp only [St.ok,AS,Bl] at hok;obtain ⟨g1,g2⟩:=gh (f:=fun t=>a.tmps.getD t undef) h1 E.tm;obtain ⟨b1,b2⟩:=ZL h2;obtain ⟨s1,s2⟩:=ZM h3;refine ⟨Nat.le_trans g1 E.len,fun t=>eH _ _ (g2 t) (jh t hok.1),E.df,?_⟩;have h:=E.st;refine ⟨rfl,rfl,fun j hj=>h.so j (by have hj':j<S'.ss.length:=hj;rw [h.ns];omega),h.os,h.tape,h.output,h.size,h.block,h.hle,h.hold,?_,?_,?_,?_,?_,⟨by rw [Da,Bl] at h8;exact h8,h.pin.ρ,by rw [Da,Bl] at hqn;exact hqn,h.pin.σ,h.pin.gl⟩⟩
 ·intro j C hj;obtain ⟨B,hB,h6,hle⟩:=b2 j C hj;obtain ⟨m1,m2,vs,m3,m4,m5⟩:=h.blk j B hB;exact ⟨m1,m2,vs,M4 _ _ (Et _ _ vs hle m3) (bl j C hok.2.1 hj),by rw [←h6];exact m4,m5⟩
 ·intro j C hj;obtain ⟨L,hL,h6,hn,hl,hr⟩:=s2 j C hj;obtain ⟨m0,vss,m1,m2,m3,m4⟩:=h.slc j L hL;exact ⟨by rw [←hn];exact m0,vss,by rw [←hn];exact jn (s:=S'.ss.length) (hr _ _ m1) (bw hok.2.2 hj),m2,by rw [←h6,←hn,←hl];exact m3,m4⟩
 ·intro i j B C hi hj e;obtain ⟨B',hB,_⟩:=b2 i B hi;obtain ⟨C',hC,_⟩:=b2 j C hj;exact h.d1 i j B' C' hB hC e
 ·intro i j B L hi hj;obtain ⟨B',hB,_⟩:=b2 i B hi;obtain ⟨L',hL,_⟩:=s2 j L hj;exact h.d2 i j B' L' hB hL
 ·intro i j L N g hi hj e1 e2;obtain ⟨L',hL,_⟩:=s2 i L hi;obtain ⟨N',hN,_⟩:=s2 j N hj;exact h.d3 i j L' N' g hL hN e1 e2
theorem Uc (S':St) (hle:S.le S') (hok:S'.ok=true) (h6:AF c.np (Ah S'.bs)=true:=by rfl) (hqn:AF c.nq (Ah S'.ss)=true:=by rfl) (h:V c fn K k S'):V c fn K k S:=fun rk _ a w hc hT=>h rk _ a w hc (hT.weak hle hok h6 hqn)
theorem nf {b:EC} {X:Type} (J:X→Prop) (Sx:X→St) (μ:X→Nat) (E:X) (h0:S.le (Sx E)) (h1:(Sx E).ok=true) (h6:AF c.np (Ah (Sx E).bs)=true) (hqn:AF c.nq (Ah (Sx E).ss)=true) (h2:J E)
  (hb:∀n x,J x→(∀x',J x'→μ x'<μ x→V c fn K (.lp b n::k) (Sx x'))→V c fn K (.code b :: .lp b n::k) (Sx x)):V c fn K (.code (.loop b)::k) S:=by
 have Ap:∀n x,J x→μ x<n→V c fn K (.lp b n::k) (Sx x):=by
  intro n;induction n with
  | zero=>intro x _ h;omega
  | succ n ih=>
    intro x hx hlt rk M a w ⟨y,r,h8,hy,hr⟩ hT;subst h8;cases y with
    | code _=>exact hy.elim
    | ops _ _=>exact hy.elim
    | blk _=>exact hy.elim
    | sc _=>exact hy.elim
    | lp y m=>obtain ⟨hy,hm⟩:=hy;subst hm;have:=hb n x hx (fun x' hx' hlt'=>ih x' hx' Om) (.code y :: .lp y n::r) M a w ⟨_,_,rfl,hy,_,_,rfl,⟨hy,rfl⟩,hr⟩ hT;refine wp_mono this ?_;intro e a w hq;cases e<;>exact hq
 refine Uc (Sx E) h0 h1 h6 hqn ?_;refine F2 fun x hx rk M1 a w hr hT=>?_;obtain ⟨y,rfl,hy⟩:=ot hx;exact wp_loop_rounds (μ E+1) (Ap (μ E+1) E h2 (Nat.lt_succ_self _) (.lp y (μ E+1)::rk) M1 a w ⟨_,_,rfl,⟨hy,rfl⟩,hr⟩ hT)
theorem dN {P:Program} {w:World} (x:Addr):(asAddr (.pointer (some x))).run P w = .ok x w:=rfl
theorem Ph {P:Program}:∀ {rs:List ResultVar} {E:List ERes} {l:List AV},FC P rs=some E→HO S E=some l→c.P=P→RelT c M S a w→
  ∃vs,(rs.mapM fun | .tmp t=>pure (a.tmps.getD t undef) | .cell x t=>do loadVar t (←asAddr (a.tmps.getD x undef)):Sem (List Value)).run P w = .ok vs w∧AV.isL M l vs
 | [],E,l,h1,h2,_,_=>by simp [FC] at h1;subst h1;simp [HO] at h2;subst h2;exact ⟨[],by simp,rfl⟩
 | .tmp t::rs,E,l,h1,h2,hP,hT=>by simp only [FC,Option.map_eq_some_iff] at h1;obtain ⟨es',h1,rfl⟩:=h1;simp only [HO,Option.map_eq_some_iff] at h2;obtain ⟨l',h2,rfl⟩:=h2;obtain ⟨vs,g1,g2⟩:=Ph h1 h2 hP hT;refine ⟨a.tmps.getD t undef::vs,?_,⟨_,_,rfl,hT.tm t,g2⟩⟩;rw [List.mapM_cons];simp only [Sem.run_bind,Sem.run_pure,Result.andThen_ok];rw [g1];rfl
 | .cell x T::rs,E,l,h1,h2,hP,hT=>by
   simp only [FC] at h1;split at h1<;>simp at h1;rename_i n es' h6 h1';subst h1;have hx:=hT.tm x;cases n with
   | none=>
     simp only [HO] at h2;split at h2<;>simp at h2;rename_i r q hr hq;subst h2;obtain ⟨vs,g1,g2⟩:=Ph h1' hq hP hT;obtain ⟨g,o,us,hu,u2,u3,u4⟩:=OT hT hx hr;obtain ⟨u,rfl⟩:∃u,us=[u]:=by
      cases us with
      | nil=>simp at u3
      | cons u r=>cases r with
        | nil=>exact ⟨u,rfl⟩
        | cons _ _=>simp at u3
     have hc:=u4 0 u (by simp);simp only [Nat.add_zero] at hc;refine ⟨u::vs,?_,⟨_,_,rfl,?_,g2⟩⟩
     ·rw [List.mapM_cons];simp only [Sem.run_bind,Sem.run_pure,hu,dN,Result.andThen_ok,ZS h6 hc];rw [g1];rfl
     ·cases r with
      | nil=>simp [AV.isL] at u2
      | cons y r=>obtain ⟨_,_,h,hy,_⟩:=u2;simp at h;obtain ⟨rfl,rfl⟩:=h;exact hy
   | some n=>simp only [HO] at h2;split at h2<;>simp at h2;rename_i r q hr hq;subst h2;obtain ⟨vs,g1,g2⟩:=Ph h1' hq hP hT;obtain ⟨g,o,us,hu,u2,u3,u4⟩:=OT hT hx hr;refine ⟨.agg us.toArray::vs,?_,⟨_,_,rfl,⟨us,rfl,u2⟩,g2⟩⟩;rw [List.mapM_cons];simp only [Sem.run_bind,Sem.run_pure,hu,dN,Result.andThen_ok,ZR h6 u3 u4];rw [g1];rfl
theorem Zo {rs:List ERes} {x:AV} (E:RelT c M S a w) (hr:FC c.P fn.results.toList=some rs) (hx:DM S rs=some x) (J:K x S.bs S.ss):
  a.defers=[]∧∃v,(results fn a.tmps).run c.P w = .ok v w∧RK c K (.returned v) w:=by
 refine ⟨E.df,?_⟩;unfold DM at hx;split at hx
 ·rename_i y hy;simp at hx;subst hx;obtain ⟨vs,g1,g2⟩:=Ph hr hy rfl E;obtain ⟨v,r,rfl,hv,h6⟩:=g2;simp [AV.isL] at h6;subst h6;refine ⟨v,?_,v,M,S.bs,S.ss,y,rfl,E.st,hv,J⟩;unfold results;simp only [Array.mapM_eq_mapM_toList,map_eq_pure_bind,Sem.run_bind]
  erw [g1]
  simp
 ·rename_i l hne hy;simp at hx;subst hx;obtain ⟨vs,g1,g2⟩:=Ph hr hy rfl E;have hl:=Dl g2;refine ⟨.tuple vs.toArray,?_,_,M,S.bs,S.ss,.tup l,rfl,E.st,⟨vs,rfl,g2⟩,J⟩;unfold results;simp only [Array.mapM_eq_mapM_toList,map_eq_pure_bind,Sem.run_bind]
  erw [g1]
  have h1:vs.length≠1:=by
   intro h1;rw [h1] at hl;cases l with
   | nil=>simp at hl
   | cons y r=>cases r with
     | nil=>exact hne y rfl
     | cons _ _=>simp at hl
  simp [h1]
 ·simp at hx
theorem YY {rs:List ERes} {x:AV} (hr:FC c.P fn.results.toList=some rs) (hx:DM S rs=some x) (E:K x S.bs S.ss):V c fn K (.code .ret::k) S:=
 F2 fun y hy rk M a w hk hT=>by
  rw [ov hy];refine wp_ret ?_;have:∀rk,IP c.P k rk→D8 c.P fn (RK c K) rk .ret a w:=by
   clear hk;induction k with
   | nil=>rintro rk rfl;exact Zo hT hr hx E
   | cons i k ih=>rintro rk ⟨y,r,rfl,hy,hr'⟩;cases y<;>first | exact ih r hr' | exact YP (by simp) (ih r hr')
  exact this rk hk
theorem n0 {rs:List ERes} {x:AV} (hr:FC c.P fn.results.toList=some rs) (hx:DM S rs=some x) (E:K x S.bs S.ss):V c fn K [] S:=fun rk M a w hk hT=>by have:rk=[]:=hk;subst this;exact Zo hT hr hx E
end
end NX
end Go.Proofs.YtgnjledocpbchaaGreat
/-
  The symbolic machine: functions, calls, slices. No statement of the seat is proved here.
-/
namespace Go.Proofs.YtgnjledocpbchaaGreat
namespace NX
open Go Go.RowKit
def C4 (P:Program) (f:Nat) (args:List AV) (res:AV):Prop:=
 ∀(H:Frag) (w:World) (vs:List Value),(∀k o,H k=some o→w.heap[k]?=some o)→Kb P H→AV.isL (DL H) args vs→
  Calls P f vs.toArray w fun e w'=>∃v H',e = .returned v∧Below w.heap.size w w'∧(∀k o,H' k=some o→w'.heap[k]?=some o)∧
   (∀k,k<w.heap.size→H' k=H k)∧res.is (DL H') v
structure FnOK (P:Program) (f:Nat) (fn:Func) (body:EC) (rs:List ERes) (np nt:Nat):Prop where
 h:P.funcs[f]?=some fn
 b:∃x,fn.body=some x∧cC P x=some body
 r:FC P fn.results.toList=some rs
 t:fn.ntmps=np+nt
theorem UR:∀(a b:List AV) (t:Nat),AM (a++b) t=if t<a.length then AM a t else AM b (t-a.length)
 | [],b,t=>by simp
 | x::a,b,0=>rfl
 | x::a,b,t+1=>by simp [AM,UR a b t]
theorem UT:∀(n t:Nat),AM (Dh n) t = .un∨(n≤t∧AM (Dh n) t = .any)
 | 0,t=>.inr ⟨Nat.zero_le _,rfl⟩
 | n+1,0=>.inl rfl
 | n+1,t+1=>by
   rcases UT n t with h | ⟨h1,h2⟩
   ·exact .inl h
   ·exact .inr ⟨Om,h2⟩
theorem UU:∀n,(Dh n).length=n
 | 0=>rfl
 | n+1=>by simp [Dh,UU n]
theorem Pz {M:Mem}:∀ {l:List AV} {vs:List Value},AV.isL M l vs→∀t,t<l.length→(AM l t).is M (vs.getD t undef)
 | [],_,_,t,h=>by simp at h
 | x::l,_,⟨v,r,hv,h1,h2⟩,t,h=>by
   subst hv;cases t with
   | zero=>exact h1
   | succ t=>simpa [AM] using Pz h2 t (by simpa using h)
theorem fN {P:Program} {w:World} {H:Frag} {args:List AV} {vs:List Value} {nt:Nat} (hH:∀k o,H k=some o→w.heap[k]?=some o) (h6:Kb P H) (ha:AV.isL (DL H) args vs):
  RelT ⟨P,w,H,fun _=>False,0,fun _=>0,0,fun _=>.nilFunc⟩ (DL H) (St.init args nt) {tmps:=vs.toArray++Array.replicate nt undef,defers:=[]} w:=by
 have hl:=Dl ha;refine ⟨by simp [St.init,UU,hl],fun t=>?_,rfl,⟨rfl,rfl,fun j hj=>absurd hj (Nat.not_lt_zero _),rfl,rfl,rfl,Nat.le_refl _,fun _ _ _=>rfl,hH,fun _ _ _=>rfl,fun j B h=>by simp [St.init,Ab] at h,fun j B h=>by simp [St.init,Ab] at h,fun i j B C h=>by simp [St.init,Ab] at h,fun i j B C h=>by simp [St.init,Ab] at h,fun i j B C g h=>by simp [St.init,Ab] at h,⟨Nat.zero_le _,fun _ h=>absurd h (Nat.not_lt_zero _),Nat.zero_le _,fun _ h=>absurd h (Nat.not_lt_zero _),h6⟩⟩⟩;simp only [St.init,UR,Array.getD_eq_getD_getElem?,Array.getElem?_append,List.size_toArray];by_cases h:t<args.length
 ·rw [if_pos h,if_pos Om];have:=Pz ha t h;simpa [List.getD_eq_getElem?_getD] using this
 ·rw [if_neg h,if_neg Om];rcases UT nt (t-args.length) with h1 | ⟨_,h1⟩
  ·rw [h1];simp only [AV.is,Array.getElem?_replicate];split<;>rfl
  ·rw [h1];trivial
def Ctx.of (P:Program) (w0:World) (H0:Frag):Ctx:=⟨P,w0,H0,fun _=>False,0,fun _=>0,0,fun _=>.nilFunc⟩
theorem mh {P:Program} {f:Nat} {fn:Func} {body:EC} {rs:List ERes} {np nt:Nat} (hf:FnOK P f fn body rs np nt) {args:List AV} {res:AV} (hn:args.length=np) (hp:res.pu=true)
  (h:∀w0 H0,V (Ctx.of P w0 H0) fn (fun x _ _=>x.le res) [.code body] (St.init args nt)):C4 P f args res:=by
 intro H w vs hH h6 ha;obtain ⟨x,hb,hx⟩:=hf.b;have hl:=Dl ha;refine calls_of_wp hf.h hb ?_;have hT:=fN (P:=P) (nt:=nt) hH h6 ha;have e1:fn.ntmps-vs.toArray.size=nt:=by rw [hf.t];simp;omega
 rw [e1];refine wp_mono (h w H [.code x] _ _ w ⟨_,_,rfl,hx,rfl⟩ hT) ?_;have mono:∀e w',RK (Ctx.of P w H) (fun x _ _=>x.le res) e w'→∃v H',e = .returned v∧Below w.heap.size w w'∧(∀k o,H' k=some o→w'.heap[k]?=some o)∧
   (∀k,k<w.heap.size→H' k=H k)∧res.is (DL H') v:=by
  rintro e w' ⟨v,M,bs,ss,y,rfl,hS,hv,hle⟩;exact ⟨v,M.H,rfl,⟨hS.os,hS.tape,hS.output,hS.size,fun k hk=>hS.block k hk (fun h=>h)⟩,hS.hle,fun k hk=>hS.hold k hk (fun h=>h),bP _ _ (Mi _ _ _ hle hv) hp⟩
 intro e a w' hq;cases e with
 | normal=>obtain ⟨h1,v,h2,h3⟩:=hq;exact ⟨h1,v,h2,mono _ _ h3⟩
 | ret=>obtain ⟨h1,v,h2,h3⟩:=hq;exact ⟨h1,v,h2,mono _ _ h3⟩
 | panic ch=>obtain ⟨h1,h2⟩:=hq;exact ⟨h1,mono _ _ h2⟩
 | outgrown=>exact mono _ _ hq
 | exit id=>exact hq
 | goto l=>exact hq
theorem C4.le {P:Program} {f:Nat} {args E:List AV} {res J:AV} (h:C4 P f args res) (ha:AV.le.leL E args) (hr:res.le J):C4 P f E J:=by intro H w vs hH h6 hv;refine (h H w vs hH h6 (Et _ _ _ ha hv)).mono ?_;rintro e w' ⟨v,H',h1,h2,h3,h4,h5⟩;exact ⟨v,H',h1,h2,h3,h4,Mi _ _ _ hr h5⟩
section
variable {c:Ctx} {M:Mem} {S S':St} {a:Act} {w:World} {fn:Func} {K:AV→List (Option Blk)→List (Option Sl)→Prop} {k:List It}
theorem RelS.sealed (h:RelS c M S.bs S.ss w) {w':World} {E:Frag} (hb:Below w.heap.size w w') (h1:∀k o,E k=some o→w'.heap[k]?=some o) (h2:∀k,k<w.heap.size→E k=M.H k):
  RelS c {M with H:=E} S.bs S.ss w'∧M.le {M with H:=E}:=by
 have hle:M.le {M with H:=E}:=⟨Nat.le_refl _,Nat.le_refl _,fun _ _=>rfl,fun _ _=>rfl,fun k o hk=>by have:=(Array.getElem?_eq_some_iff.1 (h.hle k o hk)).1;exact (h2 k this).trans hk⟩
 have g:=h.grow hb;refine ⟨⟨g.nb,g.ns,g.so,g.os,g.tape,g.output,g.size,g.block,h1,?_,?_,?_,g.d1,g.d2,g.d3,g.pin.le hle⟩,hle⟩
 ·intro k hk hn;exact (h2 k (Nat.lt_of_lt_of_le hk h.size)).trans (h.hold k hk hn)
 ·intro j B hj;obtain ⟨g1,g2,vs,g3,g4,g5⟩:=g.blk j B hj;exact ⟨g1,(h2 _ (h.blk_lt hj)).trans g2,vs,E9 hle _ _ g3,g4,g5⟩
 ·intro j L hj;obtain ⟨g0,vss,g1,g2,g3,g4⟩:=g.slc j L hj;exact ⟨g0,vss,F9 hle.sl _ _ _ g1,g2,g3,fun gg hg=>⟨(g4 gg hg).1,(h2 _ (h.slc_lt hj hg)).trans (g4 gg hg).2⟩⟩
def gm (S:St):Option (Nat×Bool)→Prop
 | none=>True
 | some (t,f)=>match GG S.tm t,f with
   | .tt,true=>True
   | .ff,false=>True
   | _,_=>False
theorem YW {d:Option Nat} {g:Option (Nat×Bool)} {o:EO} {l:List EOp} (h9:gm S g)
  (h:∀(ro:Oper),ro.dst=d→cO c.P ro.op=o→∀M a w,RelT c M S a w→∀(E:Act→World→Prop) (Q:Exit→Act→World→Prop),
    (∀M' w' v x bs ss,M.le M'→RelS c M' bs ss w'→v.is M' x→V c fn K (.ops l::k) ((⟨S.tm,bs,ss⟩:St).put d v)→E (a.put d x) w')→ro.wp c.P a w E Q):V c fn K (.ops (⟨d,g,o⟩::l)::k) S:=by
 rintro rk M a w ⟨y,r,rfl,hy,hr⟩ hT;cases y with
 | code x=>exact hy.elim
 | blk i=>exact hy.elim
 | lp _ _=>exact hy.elim
 | sc _=>exact hy.elim
 | ops all rl=>
   obtain ⟨ro,rl',rfl,ho,hl⟩:=mapM_cons hy;show wpList c.P all (D8 c.P fn (RK c K) r) (ro::rl') a w;have fin:Region.wanted ro (yielded all a.tmps)=true→ro.dst=d→cO c.P ro.op=o→wpList c.P all (D8 c.P fn (RK c K) r) (ro::rl') a w:=by intro hw h1 h2;unfold wpList;rw [if_pos hw];refine .inl (h ro h1 h2 M a w hT _ _ ?_);intro M' w' v x bs ss hM hS hv hV;exact hV (.ops all rl'::r) M' _ w' ⟨_,_,rfl,hl,hr⟩ (hT.put d hM hS hv)
   unfold AO at ho;cases hg:ro.guard with
   | none=>rw [hg] at ho;simp only [Option.some.injEq,EOp.mk.injEq] at ho;exact fin (by simp [Region.wanted,hg]) ho.1 ho.2.2
   | some jf=>
     obtain ⟨j,f⟩:=jf;rw [hg] at ho;dsimp only at ho;split at ho
     ·rename_i t ht;simp only [Option.some.injEq,EOp.mk.injEq] at ho;obtain ⟨h1,h2,h3⟩:=ho;subst h2;have h6:=YG (a:=a) ht;have h8:=US (hT.tm t);simp only [gm] at h9;split at h9
      ·rename_i hv;rw [hv] at h8;exact fin (by rw [show a.tmps.getD t undef = .bool true from h8] at h6;simp [Region.wanted,hg,h6]) h1 h3
      ·rename_i hv;rw [hv] at h8;exact fin (by rw [show a.tmps.getD t undef = .bool false from h8] at h6;simp [Region.wanted,hg,h6]) h1 h3
      ·exact h9.elim
     ·simp at ho
def B3 (c:Ctx) (S:St) (o:EO) (v:AV) (S1:St):Prop:=
 ∀(ro:Oper),cO c.P ro.op=o→∀M a w,RelT c M S a w→∀(next:Act→World→Prop) (Q:Exit→Act→World→Prop),
  (∀M' w' x,M.le M'→RelS c M' S1.bs S1.ss w'→v.is M' x→next (a.put ro.dst x) w')→ro.wp c.P a w next Q
theorem Ba {d:Option Nat} {g:Option (Nat×Bool)} {o:EO} {l:List EOp} {v:AV} {S1:St} (h6:gm S g) (hs:B3 c S o v S1) (h8:S1.tm=S.tm)
  (h:V c fn K (.ops l::k) (S1.put d v)):V c fn K (.ops (⟨d,g,o⟩::l)::k) S:=
 YW h6 fun ro hd ho M a w hT next Q hn=>hs ro ho M a w hT next Q fun M' w' x h1 h2 h3=>by have:=hn M' w' v x S1.bs S1.ss h1 h2 h3 (by rw [←h8];exact h);rw [hd];exact this
theorem Yv {o:EO} {v:AV} {S1:St} {q:Prop} (he:ev S o=some (v,S1,q)) (hq:q):B3 c S o v S1:=by
 intro ro ho M a w hT next Q hn
 subst ho;obtain ⟨d,op,ty,pos,af,g⟩:=ro;obtain ⟨x,M',w',h6,hM,hS,h8,hv⟩:=fv hT op he hq d ty pos af g;unfold Oper.wp;rcases h6 with h6 | ⟨h6,hx⟩
 ·rw [h6];exact hn M' w' x hM hS hv
 ·rw [h6];subst hx;exact hn M' w' _ hM hS hv
theorem I2 {P:Program} {w:World} {f:Nat} {args:Array Value} (hf:(P.funcs[f]?).any (fun fn=>fn.body.isSome&&!(fn.name == "runtime.NumGoroutine"))=true):
  (callFunc f args).run P w = .ok (.enter f args) w:=by
 unfold callFunc;cases h:P.funcs[f]? with
 | none=>simp [h] at hf
 | some fn=>
   simp only [h,Option.any_some,Bool.and_eq_true,Bool.not_eq_true'] at hf;simp only [Sem.run_bind,run_program,Result.andThen_ok,h];rw [if_neg (by simp [hf.2])];cases hb:fn.body with
   | none=>simp [hb] at hf
   | some x=>simp
theorem LW {P:Program} {op:Op} {f:Nat} {xs:List X} (ho:cO P op = .call f xs):
  ∃cargs argTypes,op = .call ⟨.value (.func f),cargs,argTypes⟩∧(P.funcs[f]?).any (fun fn=>fn.body.isSome&&!(fn.name == "runtime.NumGoroutine"))=true∧cargs.toList.map cX=xs:=by
 cases op
 case call ci=>
  obtain ⟨callee,cargs,argTypes⟩:=ci;cases callee with
  | value o=>
    cases o with
    | func f'=>
      simp only [cO] at ho;split at ho
      ·rename_i hf;simp only [EO.call.injEq] at ho;obtain ⟨rfl,rfl⟩:=ho;exact ⟨cargs,argTypes,rfl,hf,rfl⟩
      ·simp at ho
    | _=>simp [cO] at ho
  | invoke _ _=>simp [cO] at ho
  | builtin b=>cases b<;>simp only [cO] at ho<;>(repeat' (split at ho))<;>simp at ho
 all_goals (simp only [cO] at ho;(repeat' (split at ho))<;>simp at ho)
theorem Zg {P:Program} {op:Op} {f:X} {xs:List X} (ho:cO P op = .callv f xs):
  ∃t cargs argTypes,op = .call ⟨.value (.tmp t),cargs,argTypes⟩∧f = .t t∧cargs.toList.map cX=xs:=by
 cases op
 case call ci=>
  obtain ⟨callee,cargs,argTypes⟩:=ci;cases callee with
  | value o=>
    cases o with
    | tmp t=>simp only [cO,EO.callv.injEq] at ho;obtain ⟨rfl,rfl⟩:=ho;exact ⟨t,cargs,argTypes,rfl,rfl,rfl⟩
    | func f'=>simp only [cO] at ho;(repeat' (split at ho))<;>simp at ho
    | _=>simp [cO] at ho
  | invoke _ _=>simp [cO] at ho
  | builtin b=>cases b<;>simp only [cO] at ho<;>(repeat' (split at ho))<;>simp at ho
 all_goals (simp only [cO] at ho;(repeat' (split at ho))<;>simp at ho)
theorem Pg {P:Program} {op:Op} {n:Nat} {x i:X} (ho:cO P op = .idx n x i):
  ∃T y j e,op = .indexAddr T y j∧P.underlying T=some (.slice e)∧Cj P e=some n∧cX y=x∧cX j=i:=by
 cases op<;>simp only [cO] at ho<;>(repeat' (split at ho))<;>(try (simp at ho;done));rename_i T y j _ e hT _ n' hn;simp only [EO.idx.injEq] at ho;obtain ⟨rfl,rfl,rfl⟩:=ho;exact ⟨T,y,j,e,rfl,hT,hn,rfl,rfl⟩
theorem Zf {P:Program} {op:Op} {e n b:Nat} {x y:X} (ho:cO P op = .app e n b x y):
  ∃t p q i z,op = .call ⟨.builtin .append, #[p,q], #[t,t]⟩∧P.underlying t=some (.slice e)∧P.info? e=some i∧i.zero=some z∧i.size=n∧i.bytes=b∧z.cells.size=n∧0<n∧cX p=x∧cX q=y:=by
 cases op
 case call ci=>
  obtain ⟨callee,cargs,argTypes⟩:=ci;cases callee with
  | value o=>
    cases o with
    | func f'=>simp only [cO] at ho;(repeat' (split at ho))<;>simp at ho
    | _=>simp [cO] at ho
  | invoke _ _=>simp [cO] at ho
  | builtin b=>
    cases b
    case append=>
     simp only [cO] at ho;split at ho
     ·rename_i t0 t1 p q h1 h2;split at ho
      ·rename_i ht;split at ho
       ·rename_i e' hu;split at ho
        ·rename_i i hi;split at ho
         ·rename_i z hz;split at ho
          ·rename_i h6;simp only [EO.app.injEq] at ho;obtain ⟨rfl,rfl,rfl,rfl,rfl⟩:=ho;subst ht;have e1:cargs = #[p,q]:=by apply Array.ext';simpa using h2
           have e2:argTypes = #[t0,t0]:=by apply Array.ext';simpa using h1
           subst e1;subst e2;exact ⟨t0,p,q,i,z,rfl,hu,hi,hz,rfl,rfl,h6.1,h6.2,rfl,rfl⟩
          ·simp at ho
         ·simp at ho
        ·simp at ho
       ·simp at ho
      ·(repeat' (split at ho))<;>simp at ho
     ·simp at ho
    all_goals (simp only [cO] at ho;(repeat' (split at ho))<;>simp at ho)
 all_goals (simp only [cO] at ho;(repeat' (split at ho))<;>simp at ho)
theorem Ys {f:Nat} {xs:List X} {args:List AV} {res:AV} (hf:C4 c.P f args res)
  (ha:AV.le.leL (B6 S xs) args) (hp:AB args=true):B3 c S (.call f xs) res S:=by
 intro ro ho M a w hT next Q hn
 obtain ⟨dst,op,ty,pos,af,gd⟩:=ro;dsimp only at ho;obtain ⟨cargs,argTypes,rfl,h8,rfl⟩:=LW ho;have hm:=Fp _ _ (Et _ _ _ ha (Ge hT cargs.toList)) hp;have hc:=hf M.H w _ hT.st.hle hT.st.pin.gl hm;have h6:(execOp a.eval ⟨dst,.call ⟨.value (.func f),cargs,argTypes⟩,ty,pos,af,gd⟩).run c.P w = .ok (.enter f (cargs.map a.eval)) w:=by have he:a.eval (.func f) = .func (.func f) #[] #[]:=rfl;generalize a.eval=ρ at *;simp [execOp,resolve,Deferred.ofValue,invoke,he,I2 h8]
 unfold Oper.wp;rw [h6];show Calls c.P f (cargs.map a.eval) w _;have e1:(cargs.toList.map a.eval).toArray=cargs.map a.eval:=by apply Array.ext';simp
 rw [←e1];refine hc.mono ?_;rintro e w' ⟨v,H',rfl,hb,h1,h2,h3⟩;obtain ⟨hS,hle⟩:=hT.st.sealed hb h1 h2;exact hn _ w' v hle hS (Dx (OO _) _ _ h3)
theorem mR {d:Option Nat} {g:Option (Nat×Bool)} {f:Nat} {xs:List X} {l:List EOp} {args:List AV} {res:AV} (hg:gm S g) (hf:C4 c.P f args res)
  (ha:AV.le.leL (B6 S xs) args:=by first | exact AA _ | simp [go_sem]) (hp:AB args=true:=by first | rfl | simp [go_sem]) (h:V c fn K (.ops l::k) (S.put d res)):V c fn K (.ops (⟨d,g,.call f xs⟩::l)::k) S:=
 Ba hg (Ys hf ha hp) rfl h
theorem cx {f:Nat} {o:X} {xs:List X} {caps args:List AV} {res:AV} (ho:S.x o = .clo f caps) (hf:C4 c.P f args res)
  (h9:(c.P.funcs[f]?).any (fun fn=>fn.body.isSome&&!(fn.name == "runtime.NumGoroutine"))=true)
  (ha:AV.le.leL (B6 S xs++caps) args) (hp:AB args=true):B3 c S (.callv o xs) res S:=by
 intro ro h6 M a w hT next Q hn
 obtain ⟨dst,op,ty,pos,af,gd⟩:=ro;dsimp only at h6;obtain ⟨t,cargs,argTypes,rfl,rfl,rfl⟩:=Zg h6;have hx:=Au hT (.tmp t);rw [show S.x (cX (.tmp t)) = .clo f caps from ho] at hx;obtain ⟨cv,hx1,hw⟩:=hx;have hm:=Fp _ _ (Et _ _ _ ha (Dw (Ge hT cargs.toList) hw)) hp;have hc:=hf M.H w _ hT.st.hle hT.st.pin.gl hm;have h8:(execOp a.eval ⟨dst,.call ⟨.value (.tmp t),cargs,argTypes⟩,ty,pos,af,gd⟩).run c.P w = .ok (.enter f (cargs.map a.eval++cv.toArray)) w:=by generalize a.eval=ρ at *;simp [execOp,resolve,Deferred.ofValue,invoke,hx1,I2 h9]
 unfold Oper.wp;rw [h8];show Calls c.P f (cargs.map a.eval++cv.toArray) w _;have e1:(cargs.toList.map a.eval++cv).toArray=cargs.map a.eval++cv.toArray:=by apply Array.ext';simp
 rw [←e1];refine hc.mono ?_;rintro e w' ⟨v,H',rfl,hb,h1,h2,h3⟩;obtain ⟨hS,hle⟩:=hT.st.sealed hb h1 h2;exact hn _ w' v hle hS (Dx (OO _) _ _ h3)
theorem mT {d:Option Nat} {g:Option (Nat×Bool)} {f:Nat} {o:X} {xs:List X} {l:List EOp} {caps args:List AV} {res:AV} (hg:gm S g) (ho:S.x o = .clo f caps) (hf:C4 c.P f args res)
  (h6:(c.P.funcs[f]?).any (fun fn=>fn.body.isSome&&!(fn.name == "runtime.NumGoroutine"))=true)
  (ha:AV.le.leL (B6 S xs++caps) args:=by first | exact AA _ | simp [go_sem]) (hp:AB args=true:=by first | rfl | simp [go_sem]) (h:V c fn K (.ops l::k) (S.put d res)):V c fn K (.ops (⟨d,g,.callv o xs⟩::l)::k) S:=
 Ba hg (cx ho hf h6 ha hp) rfl h
theorem UL {M:Mem} {n:Nat}:∀ {rows:List (List AV)} {vss:List (List Value)},AV.isLL M n rows vss→∀(j:Nat) row,rows[j]?=some row→
  ∃vs,vss[j]?=some vs∧vs.length=n∧AV.isL M row vs∧∀(m:Nat) v,vs[m]?=some v→vss.flatten[j*n+m]?=some v
 | [],_,_,j,row,h=>by simp at h
 | r::rows,_,⟨v,vs,hv,h0,h1,h2⟩,j,row,h=>by
   subst hv;cases j with
   | zero=>simp at h;subst h;refine ⟨v,by simp,h0,h1,fun m u hm=>?_⟩;simp only [List.flatten_cons,Nat.zero_mul,Nat.zero_add];rw [List.getElem?_append_left (List.getElem?_eq_some_iff.1 hm).1];exact hm
   | succ j=>obtain ⟨us,g1,g2,g3,g4⟩:=UL h2 j row (by simpa using h);refine ⟨us,by simpa using g1,g2,g3,fun m u hm=>?_⟩;simp only [List.flatten_cons];rw [List.getElem?_append_right (by rw [h0,Nat.add_mul];omega),h0,show (j+1)*n+m-n=j*n+m from by rw [Nat.add_mul];omega];exact g4 m u hm
theorem fM {P:Program} {w:World} {T e n:Nat} (hu:P.underlying T=some (.slice e)) (hs:Cj P e=some n) {x i:Operand} {ρ:Operand→Value} {ad:Addr} {len cp:Nat} {j:Int}
  (hx:ρ x = .slice (some ad) len cp) (hi:ρ i = .int .i64 j) (h0:0≤j) (h1:j<len) (d:Option Tmp) (ty:TypeId) (pos:String) (af:Array Edge) (E:Option (Nat×Bool)):
  (execOp ρ ⟨d,.indexAddr T x i,ty,pos,af,E⟩).run P w = .ok (.value (.pointer (some (ad.add (j.toNat*n))))) w:=by
 simp [execOp,Instr.indexAt,asIntOf,hx,hi,run_underlying hu,FN hs,h0,h1]
theorem cy {n m:Nat} {x i:X} {rows:List (List AV)} {j:Int} (row:List AV) (hx:S.x x = .sl m rows) (hi:S.x i = .iv j) (h9:m=n)
  (h0:0≤j) (hr:rows[j.toNat]?=some row):B3 c S (.idx n x i) (.elt row 0) S:=by
 intro ro h6 M a w hT next Q hn
 obtain ⟨dst,op,ty,pos,af,gd⟩:=ro;dsimp only at h6;subst h9;obtain ⟨T,y,z,e,rfl,hu,hs,rfl,rfl⟩:=Pg h6;have h1:=Au hT y;have h2:=Au hT z;rw [hx] at h1;rw [hi] at h2;obtain ⟨ad,cp,g1,g2,g3⟩:=h1;have hlt:=(List.getElem?_eq_some_iff.1 hr).1;obtain ⟨ad,vss,rfl,g4,g5⟩:=g3 (by intro e;subst e;simp at hlt);obtain ⟨vs,q1,q2,q3,q4⟩:=UL g4 _ row hr;have h8:=fM (P:=c.P) (w:=w) hu hs g1 h2 h0 Om dst ty pos af gd;unfold Oper.wp;rw [h8];refine hn M w _ (.refl M) hT.st ?_;obtain ⟨s1,s2,cs,T',fr,s3,s4⟩:=g5;have hw:ad.add (j.toNat*m)=⟨ad.block,ad.off+j.toNat*m,none⟩:=by obtain ⟨b,o,sp⟩:=ad;dsimp only at s1;subst s1;exact Addr.add_lit _ _ _
 refine ⟨⟨ad.block,ad.off+j.toNat*m,none⟩,vs,by rw [hw];rfl,q3,rfl,?_,cs,T',fr,s3,?_⟩
 ·intro v hv;obtain ⟨t,ht⟩:=List.mem_iff_getElem?.1 hv;exact s2 v (List.mem_iff_getElem?.2 ⟨_,q4 t v ht⟩)
 ·intro t v ht;have:=s4 _ v (q4 t v ht);dsimp only;rw [show ad.off+j.toNat*m+t=ad.off+(j.toNat*m+t) from by omega];exact this
theorem n9 {d:Option Nat} {g:Option (Nat×Bool)} {n m:Nat} {x i:X} {l:List EOp} {rows:List (List AV)} {j:Int} (row:List AV) (hg:gm S g) (hx:S.x x = .sl m rows) (hi:S.x i = .iv j) (h6:m=n)
  (h0:0≤j) (hr:rows[j.toNat]?=some row) (h:V c fn K (.ops l::k) (S.put d (.elt row 0))):V c fn K (.ops (⟨d,g,.idx n x i⟩::l)::k) S:=
 Ba hg (cy row hx hi h6 h0 hr) rfl h
end
end NX
end Go.Proofs.YtgnjledocpbchaaGreat
/-
  The symbolic machine: sealing, and what grows. No statement of the seat is proved here.
-/
namespace Go.Proofs.YtgnjledocpbchaaGreat
namespace NX
open Go Go.RowKit
theorem ur {H E:Frag} (h:∀k o,H k=some o→E k=some o):(DL H).le (DL E):=⟨Nat.le_refl _,Nat.le_refl _,fun _ _=>rfl,fun _ _=>rfl,h⟩
theorem fT {H E:Frag} {n:Nat} {rows:List (List AV)} {vss:List (List Value)} (h:∀k o,H k=some o→E k=some o) (k:AV.isLL (DL H) n rows vss):AV.isLL (DL E) n rows vss:=F9 (ur h) _ _ _ k
mutual
theorem lN {M M':Mem} {j:Nat} {r:AV} (hM:∀(x:AV) v,x.is M.pure v→x.is M'.pure v) (hH:∀k o,M.H k=some o→M'.H k=some o) (hb:M'.nb=M.nb) (hs:M'.ns=M.ns) (hρ:∀i,i<M.nb→M'.ρ i=M.ρ i) (hσ:∀i,i<M.ns→i≠j→M'.σ i=M.σ i)
  (hr:∀v,j<M.ns→v=M.σ j→r.is M' v):∀(x:AV) (v:Value),x.is M v→(AV.subO j r x).is M' v
 | .any,_,_=>trivial
 | .un,_,k=>k
 | .tt,_,k=>k
 | .ff,_,k=>k
 | .bv _,_,k=>k
 | .iv _,_,k=>k
 | .kv _ _,_,k=>k
 | .sv _,_,k=>k
 | .nl,_,k=>k
 | .nlp,_,k=>k
 | .fn _,_,k=>k
 | .ptr i o,_,k=>⟨by rw [hb];exact k.1,by rw [hρ i k.1];exact k.2⟩
 | .osl i,v,k=>by
   simp only [AV.subO];split
   ·rename_i h;rw [beq_iff_eq] at h;subst h;exact hr v k.1 k.2
   ·rename_i h;have:i≠j:=fun e=>by rw [beq_iff_eq.2 e] at h;simp at h
    exact ⟨by rw [hs];exact k.1,by rw [hσ i k.1 this];exact k.2⟩
 | .oel i a b,v,k=>by
   simp only [AV.subO];split
   ·trivial
   ·rename_i h;have:i≠j:=fun e=>by rw [beq_iff_eq.2 e] at h;simp at h
    exact ⟨by rw [hs];exact k.1,by rw [hσ i k.1 this];exact k.2⟩
 | .ocs i a n b,v,k=>by
   simp only [AV.subO];split
   ·trivial
   ·rename_i h;have:i≠j:=fun e=>by rw [beq_iff_eq.2 e] at h;simp at h
    exact ⟨by rw [hs];exact k.1,by rw [hσ i k.1 this];exact k.2⟩
 | .elt row o,_,⟨a,vs,h1,h2,h3⟩=>⟨a,vs,h1,by obtain ⟨us,e1,e2⟩:=hM (.agg row) (.agg vs.toArray) ⟨vs,rfl,h2⟩;simp at e1;subst e1;exact e2,h3.mono hH⟩
 | .sl n rows,v,k=>hM (.sl n rows) v k
 | .agg l,_,⟨vs,h1,h2⟩=>⟨vs,h1,TX hM hH hb hs hρ hσ hr l vs h2⟩
 | .tup l,_,⟨vs,h1,h2⟩=>⟨vs,h1,TX hM hH hb hs hρ hσ hr l vs h2⟩
 | .clo _ l,_,⟨vs,h1,h2⟩=>⟨vs,h1,TX hM hH hb hs hρ hσ hr l vs h2⟩
theorem TX {M M':Mem} {j:Nat} {r:AV} (hM:∀(x:AV) v,x.is M.pure v→x.is M'.pure v) (hH:∀k o,M.H k=some o→M'.H k=some o) (hb:M'.nb=M.nb) (hs:M'.ns=M.ns) (hρ:∀i,i<M.nb→M'.ρ i=M.ρ i) (hσ:∀i,i<M.ns→i≠j→M'.σ i=M.σ i)
  (hr:∀v,j<M.ns→v=M.σ j→r.is M' v):∀(l:List AV) (vs:List Value),AV.isL M l vs→AV.isL M' (Cr j r l) vs
 | [],_,k=>k
 | x::l,_,⟨v,vs,h1,h2,h3⟩=>⟨v,vs,h1,lN hM hH hb hs hρ hσ hr x v h2,TX hM hH hb hs hρ hσ hr l vs h3⟩
end
mutual
theorem lK {M M':Mem} {j:Nat} {cells:List AV} (hl:M.le M') (hr:∀o v,j<M.nb→v = .pointer (some ⟨M.ρ j,o,none⟩)→AV.is M' (.elt cells o) v):∀(x:AV) (v:Value),x.is M v→(x.subB j cells).is M' v
 | .any,_,_=>trivial
 | .un,_,k=>k
 | .tt,_,k=>k
 | .ff,_,k=>k
 | .bv _,_,k=>k
 | .iv _,_,k=>k
 | .kv _ _,_,k=>k
 | .sv _,_,k=>k
 | .nl,_,k=>k
 | .nlp,_,k=>k
 | .fn _,_,k=>k
 | .ptr i o,v,k=>by
   simp only [AV.subB];split
   ·rename_i h;rw [beq_iff_eq] at h;subst h;exact hr o v k.1 k.2
   ·exact Dx hl _ _ k
 | .osl i,v,k=>Dx hl (.osl i) v k
 | .oel i a b,v,k=>Dx hl (.oel i a b) v k
 | .ocs i a n b,v,k=>Dx hl (.ocs i a n b) v k
 | .elt row o,v,k=>Dx hl (.elt row o) v k
 | .sl n rows,v,k=>Dx hl (.sl n rows) v k
 | .agg l,_,⟨vs,h1,h2⟩=>⟨vs,h1,TW hl hr l vs h2⟩
 | .tup l,_,⟨vs,h1,h2⟩=>⟨vs,h1,TW hl hr l vs h2⟩
 | .clo _ l,_,⟨vs,h1,h2⟩=>⟨vs,h1,TW hl hr l vs h2⟩
theorem TW {M M':Mem} {j:Nat} {cells:List AV} (hl:M.le M') (hr:∀o v,j<M.nb→v = .pointer (some ⟨M.ρ j,o,none⟩)→AV.is M' (.elt cells o) v):∀(l:List AV) (vs:List Value),AV.isL M l vs→AV.isL M' (FM j cells l) vs
 | [],_,k=>k
 | x::l,_,⟨v,vs,h1,h2,h3⟩=>⟨v,vs,h1,lK hl hr x v h2,TW hl hr l vs h3⟩
end
theorem lL (j:Nat) (r:AV):∀(l:List AV) (t:Nat),AM (Cr j r l) t=AV.subO j r (AM l t)
 | [],_=>rfl
 | _::_,0=>rfl
 | _::l,t+1=>lL j r l t
theorem lI (j:Nat) (r:List AV):∀(l:List AV) (t:Nat),AM (FM j r l) t=(AM l t).subB j r
 | [],_=>rfl
 | _::_,0=>rfl
 | _::l,t+1=>lI j r l t
theorem lM (j:Nat) (r:AV):∀(l:List AV),(Cr j r l).length=l.length
 | []=>rfl
 | _::l=>by simp [Cr,lM j r l]
theorem lJ (j:Nat) (r:List AV):∀(l:List AV),(FM j r l).length=l.length
 | []=>rfl
 | _::l=>by simp [FM,lJ j r l]
theorem IB (f:List AV→List AV):∀l,(Cc f l).length=l.length
 | []=>rfl
 | none::l=>by simp [Cc,IB f l]
 | some _::l=>by simp [Cc,IB f l]
theorem Fi (f:List AV→List AV):∀(l:List (Option Blk)) (j:Nat) (B:Blk),Ab (Cc f l) j=some B→∃C,Ab l j=some C∧B=⟨C.T,f C.cells⟩
 | [],j,B,h=>by simp [Cc,Ab] at h
 | none::l,0,B,h=>by simp [Cc,Ab] at h
 | some C::l,0,B,h=>by simp [Cc,Ab] at h;exact ⟨C,rfl,h.symm⟩
 | none::l,j+1,B,h=>Fi f l j B (by simpa [Cc,Ab] using h)
 | some _::l,j+1,B,h=>Fi f l j B (by simpa [Cc,Ab] using h)
section
variable {c:Ctx} {M:Mem} {S S':St} {a:Act} {w:World} {fn:Func} {K:AV→List (Option Blk)→List (Option Sl)→Prop} {k:List It}
theorem Yd {M:Mem} {n:Nat}:∀(rows:List (List AV)) (vss:List (List Value)),AV.isLL M.sl n rows vss→BU rows=true→AV.isLL M.pure n rows vss
 | [],_,h,_=>h
 | r::l,_,⟨v,q,h0,h1,h2,h3⟩,hp=>by simp only [BU,AS] at hp;exact ⟨v,q,h0,h1,Fp (M:=M.sl) _ _ h2 hp.1,Yd l q h3 hp.2⟩
@[go_sem] theorem um {α:Type} {f:α→List AV} (h:∀x,AB (f x)=true):∀l:List α,BU (l.map f)=true
  | []=>rfl
  | x::l=>by simp only [List.map_cons,BU,AS];exact ⟨h x,um h l⟩
@[go_sem] theorem tE {α:Type} {ns:Nat} {f:α→List AV} (h:∀x,Cq 0 ns (f x)=true):∀l:List α,CE ns (l.map f)=true
  | []=>rfl
  | x::l=>by simp only [List.map_cons,CE,AS];exact ⟨h x,tE h l⟩
theorem jG {z:List AV} (h:AB z=true):∀n,BU (List.replicate n z)=true
 | 0=>rfl
 | n+1=>by simp only [List.replicate_succ,BU,AS];exact ⟨h,jG h n⟩
theorem jo {ns:Nat} {z:List AV} (h:Cq 0 ns z=true):∀n,CE ns (List.replicate n z)=true
 | 0=>rfl
 | n+1=>by simp only [List.replicate_succ,CE,AS];exact ⟨h,jo h n⟩
theorem Y4 {ns:Nat} {r:List AV} (hr:Cq 0 ns r=true):∀ {l:List (List AV)} {i:Nat},CE ns l=true→CE ns (l.set i r)=true
 | [],_,_=>rfl
 | x::l,0,h=>by simp only [CE,AS] at h;simp only [List.set_cons_zero,CE,AS];exact ⟨hr,h.2⟩
 | x::l,i+1,h=>by simp only [CE,AS] at h;simp only [List.set_cons_succ,CE,AS];exact ⟨h.1,Y4 hr h.2⟩
theorem jH {r:List AV} (hr:AB r=true):∀ {l:List (List AV)} {i:Nat},BU l=true→BU (l.set i r)=true
 | [],_,_=>rfl
 | x::l,0,h=>by simp only [BU,AS] at h;simp only [List.set_cons_zero,BU,AS];exact ⟨hr,h.2⟩
 | x::l,i+1,h=>by simp only [BU,AS] at h;simp only [List.set_cons_succ,BU,AS];exact ⟨h.1,jH hr h.2⟩
@[go_sem] theorem okRows_setS {ns:Nat} {r:List AV} {l:List (List AV)} {i:Nat} (h:BY (CE ns l) (Cq 0 ns r)=true):CE ns (l.set i r)=true:=by rw [AS] at h;exact Y4 h.2 h.1
@[go_sem] theorem puRows_setS {r:List AV} {l:List (List AV)} {i:Nat} (h:BY (BU l) (AB r)=true):BU (l.set i r)=true:=by rw [AS] at h;exact jH h.2 h.1
@[go_sem] theorem puRows_repS {z:List AV} {n:Nat} (h:∀_:Nat,AB z=true):BU (List.replicate n z)=true:=jG (h 0) n
@[go_sem] theorem okRows_repS {ns:Nat} {z:List AV} {n:Nat} (h:∀_:Nat,Cq 0 ns z=true):CE ns (List.replicate n z)=true:=jo (h 0) n
@[go_sem] theorem ul:∀a b:List (List AV),BU (a++b)=BY (BU a) (BU b)
  | [],b=>rfl
  | x::a,b=>by have:=ul a b;simp only [List.cons_append,BU,this];cases AB x<;>rfl
theorem bO:∀ {l:List (Option Sl)} {j:Nat} {L:Sl},C8 l=true→Ab l j=some L→BU L.rows=true
 | [],_,_,_,h=>by simp [Ab] at h
 | none::l,0,_,_,h=>by simp [Ab] at h
 | none::l,j+1,_,h,hj=>bO (l:=l) (j:=j) (by simpa [C8] using h) (by simpa [Ab] using hj)
 | some N::l,0,_,h,hj=>by simp only [C8,AS] at h;simp only [Ab,Option.some.injEq] at hj;subst hj;exact h.1
 | some N::l,j+1,_,h,hj=>by simp only [C8,AS] at h;exact bO (l:=l) (j:=j) h.2 (by simpa [Ab] using hj)
theorem TR (j:Nat) {L:Sl} (hj:Ab S.ss j=some L) (h9:BU L.rows=true) (E:RelT c M S a w):∃M',M.le M'∧RelT c M' (S.sealS j L) a w∧AV.is M' (.sl L.n L.rows) (M.σ j):=by
 have hS:=E.st;obtain ⟨h0,vss,h1,h2,h3,h4⟩:=hS.slc j L hj;have h1:AV.isLL M.pure L.n L.rows vss:=Yd _ _ h1 h9;have hw:j<M.ns:=by rw [hS.ns];exact CD hj
 have Ap:∃H':Frag,(∀k o,M.H k=some o→H' k=some o)∧(∀k o,H' k=some o→w.heap[k]?=some o)∧(∀k,k<c.w0.heap.size→¬c.bor k→H' k=M.H k)∧
   (∀g,(M.σ j).ownBlock≠some g→H' g=M.H g)∧AV.is (DL H') (.sl L.n L.rows) (M.σ j):=by
  rcases h3.2 with ⟨e1,e2⟩ | ⟨g,cp,cur,e1,_,e3,e4,e5,e6,e7⟩
  ·refine ⟨M.H,fun _ _ h=>h,hS.hle,fun _ _ _=>rfl,fun _ _=>rfl,none,0,?_,⟨Om,fun _=>rfl⟩,fun hne=>?_⟩
   ·rw [e1,e2]
   ·exact absurd (List.length_eq_zero_iff.1 e2) hne
  ·have hg:=h4 g (by rw [e1];rfl);refine ⟨fun k=>if k=g then some (.cells cur L.T (0,0)) else M.H k,?_,?_,?_,?_,some ⟨g,0,none⟩,cp,e1,⟨e4,fun h=>by simp at h⟩,fun _=>⟨⟨g,0,none⟩,vss,rfl,?_,rfl,h2,cur,L.T,(0,0),by simp [DL],?_⟩⟩
   ·intro k o hk;dsimp only;rw [if_neg]
    ·exact hk
    ·rintro rfl;rw [hg.2] at hk;simp at hk
   ·intro k o hk;dsimp only at hk;split at hk
    ·rename_i e;subst e;simp at hk;subst hk;exact e3
    ·exact hS.hle k o hk
   ·intro k hk hb;dsimp only;rw [if_neg];rintro rfl;rcases hg.1 with h | h
    ·omega
    ·exact hb h
   ·intro k hk;dsimp only;rw [if_neg];rintro rfl;exact hk (by rw [e1];rfl)
   ·refine fT (H:=M.H) ?_ h1;intro k o hk;show (if k=g then some (Obj.cells cur L.T (0,0)) else M.H k)=some o;rw [if_neg]
    ·exact hk
    ·intro ek;rw [ek,hg.2] at hk;simp at hk
   ·intro t v ht;rw [←e7] at ht;simp only [Nat.zero_add];rw [List.getElem?_take] at ht;split at ht
    ·simpa using ht
    ·simp at ht
 obtain ⟨H',k1,k2,k3,k4,k5⟩:=Ap
 let M':Mem:= {M with H:=H'}
 have hle:M.le M':=⟨Nat.le_refl _,Nat.le_refl _,fun _ _=>rfl,fun _ _=>rfl,k1⟩
 have h8:∀(x:AV) v,x.is M v→(AV.subO j (.sl L.n L.rows) x).is M' v:=lN (fun x v=>Dx hle.pure x v) k1 rfl rfl (fun _ _=>rfl) (fun _ _ _=>rfl) (fun v _ hv=>by subst hv;exact Dx (OO M') _ _ k5);have h6:∀(l:List AV) vs,AV.isL M l vs→AV.isL M' (Cr j (.sl L.n L.rows) l) vs:=TX (fun x v=>Dx hle.pure x v) k1 rfl rfl (fun _ _=>rfl) (fun _ _ _=>rfl) (fun v _ hv=>by subst hv;exact Dx (OO M') _ _ k5);refine ⟨M',hle,⟨by simp only [St.sealS,lM];exact E.len,fun t=>?_,E.df,?_⟩,Dx (OO M') _ _ k5⟩
 ·simp only [St.sealS,lL];exact h8 _ _ (E.tm t)
 have AR:∀i N,Ab (Av S.ss j none) i=some N→i≠j∧Ab S.ss i=some N:=by
  intro i N hi;rw [Dz] at hi;split at hi
  ·simp at hi
  ·rename_i e;exact ⟨fun e'=>e ⟨e',CD hj⟩,hi⟩
 refine ⟨by simp only [St.sealS,IB];exact hS.nb,by simp only [St.sealS,Dg];exact hS.ns,hS.so,hS.os,hS.tape,hS.output,hS.size,hS.block,k2,fun k hk hb=>(k3 k hk hb).trans (hS.hold k hk hb),?_,?_,?_,?_,?_,hS.pin.le hle⟩
 ·intro i B hi;obtain ⟨C,hC,rfl⟩:=Fi _ _ _ _ hi;obtain ⟨g1,g2,vs,g3,g4,g5⟩:=hS.blk i C hC;exact ⟨g1,(k4 _ (hS.d2 i j C L hC hj)).trans g2,vs,h6 _ _ g3,g4,g5⟩
 ·intro i N hi;obtain ⟨hne,hi⟩:=AR i N hi;obtain ⟨q0,us,q1,q2,q3,q4⟩:=hS.slc i N hi;refine ⟨q0,us,F9 hle.sl _ _ _ q1,q2,q3,fun g hg=>⟨(q4 g hg).1,(k4 g (fun e=>hne (hS.d3 i j N L g hi hj hg e))).trans (q4 g hg).2⟩⟩
 ·intro i t B C hi ht e;obtain ⟨B',hB,_⟩:=Fi _ _ _ _ hi;obtain ⟨C',hC,_⟩:=Fi _ _ _ _ ht;exact hS.d1 i t B' C' hB hC e
 ·intro i t B N hi ht;obtain ⟨B',hB,_⟩:=Fi _ _ _ _ hi;exact hS.d2 i t B' N hB (AR t N ht).2
 ·intro i t N O g hi ht e1 e2;exact hS.d3 i t N O g (AR i N hi).2 (AR t O ht).2 e1 e2
theorem dw (j:Nat) {L:Sl} (hj:Ab S.ss j=some L) (h:V c fn K k (S.sealS j L)) (h6:BU L.rows=true:=by first | rfl | simp [go_sem]):V c fn K k S:=by intro rk M a w hc hT;obtain ⟨M',_,h1,_⟩:=TR j hj h6 hT;exact h rk M' a w hc h1
theorem l6 (j:Nat) {B:Blk} (hj:Ab S.bs j=some B) (hp:AB B.cells=true) (E:RelT c M S a w):∃M',M.le M'∧RelT c M' (S.sealB j B.cells) a w:=by
 have hS:=E.st;obtain ⟨m1,m2,vs,m3,m4,m5⟩:=hS.blk j B hj
 let H':Frag:=fun k=>if k=M.ρ j then some (.cells vs.toArray B.T (0,0)) else M.H k
 let M':Mem:= {M with H:=H'}
 have k1:∀k o,M.H k=some o→H' k=some o:=by
  intro k o hk;show (if k=M.ρ j then _ else _)=_;rw [if_neg]
  ·exact hk
  ·rintro rfl;rw [m2] at hk;simp at hk
 have k4:∀g,g≠M.ρ j→H' g=M.H g:=fun g hg=>if_neg hg;have hle:M.le M':=⟨Nat.le_refl _,Nat.le_refl _,fun _ _=>rfl,fun _ _=>rfl,k1⟩
 have hr:∀o v,j<M.nb→v = .pointer (some ⟨M.ρ j,o,none⟩)→AV.is M' (.elt B.cells o) v:=by rintro o v _ rfl;refine ⟨⟨M.ρ j,0,none⟩,vs,by simp,E9 hle.pure _ _ (Fp _ _ m3 hp),rfl,m5,vs.toArray,B.T,(0,0),if_pos rfl,fun k v hk=>by simpa using hk⟩
 have h8:=fun x v=>lK (cells:=B.cells) hle hr x v;have h6:=fun l vs=>TW (cells:=B.cells) hle hr l vs;refine ⟨M',hle,by simp only [St.sealB,lJ];exact E.len,fun t=>?_,E.df,?_⟩
 ·simp only [St.sealB,lI];exact h8 _ _ (E.tm t)
 have live:∀i C,Ab (Av (Cc (FM j B.cells) S.bs) j none) i=some C→i≠j∧∃D,Ab S.bs i=some D∧C=⟨D.T,FM j B.cells D.cells⟩:=by
  intro i C hi;rw [Dz] at hi;split at hi
  ·simp at hi
  ·rename_i e;exact ⟨fun e'=>e ⟨e',by rw [IB];exact CD hj⟩,Fi _ _ _ _ hi⟩
 refine ⟨by simp only [St.sealB,Dg,IB];exact hS.nb,hS.ns,hS.so,hS.os,hS.tape,hS.output,hS.size,hS.block,?_,?_,?_,?_,?_,?_,hS.d3,hS.pin.le hle⟩
 ·intro k o hk;show w.heap[k]?=some o;have hk':(if k=M.ρ j then some (.cells vs.toArray B.T (0,0)) else M.H k)=some o:=hk;split at hk'
  ·rename_i e;subst e;simp at hk';subst hk';exact m4
  ·exact hS.hle k o hk'
 ·intro k hk hb;rw [show M'.H k=M.H k from k4 k (by rintro rfl;rcases m1 with h | h;omega;exact hb h)];exact hS.hold k hk hb
 ·intro i C hi;obtain ⟨hne,D,hD,rfl⟩:=live i C hi;obtain ⟨g1,g2,us,g3,g4,g5⟩:=hS.blk i D hD;exact ⟨g1,(k4 _ (fun e=>hne (hS.d1 i j D B hD hj e))).trans g2,us,h6 _ _ g3,g4,g5⟩
 ·intro i N hi;obtain ⟨q0,us,q1,q2,q3,q4⟩:=hS.slc i N hi;exact ⟨q0,us,F9 hle.sl _ _ _ q1,q2,q3,fun g hg=>⟨(q4 g hg).1,(k4 g (fun e=>hS.d2 j i B N hj hi (by rw [hg,e]))).trans (q4 g hg).2⟩⟩
 ·intro i t C D hi ht e;obtain ⟨_,C',hC,_⟩:=live i C hi;obtain ⟨_,D',hD,_⟩:=live t D ht;exact hS.d1 i t C' D' hC hD e
 ·intro i t C N hi ht;obtain ⟨_,C',hC,_⟩:=live i C hi;exact hS.d2 i t C' N hC ht
theorem HY (j:Nat) {B:Blk} (hj:Ab S.bs j=some B) (hp:AB B.cells=true) (h:V c fn K k (S.sealB j B.cells)):V c fn K k S:=by intro rk M a w hc hT;obtain ⟨M',_,h1⟩:=l6 j hj hp hT;exact h rk M' a w hc h1
end
end NX
end Go.Proofs.YtgnjledocpbchaaGreat
