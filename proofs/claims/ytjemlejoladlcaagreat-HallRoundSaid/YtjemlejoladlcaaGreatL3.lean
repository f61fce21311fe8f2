/-
  The symbolic machine, sound over the model: each operation. No statement of the seat is proved here.
-/
import Derived.Test.YtjemlejoladlcaaGreatL2
namespace Go.Proofs.YtjemlejoladlcaaGreat
namespace NX
open Go Go.RowKit
section
variable {P:Program} {w:World}
theorem LJ {T:TypeId} {z:List AV} (h:LI P T=some z):∃i u,P.info? T=some i∧i.zero=some u∧u.cells.size=i.size∧z=u.cells.toList.map Dw:=by
 unfold LI at h;cases hi:P.info? T with
 | none=>simp [hi] at h
 | some i=>
   rw [hi] at h;dsimp only at h;cases hu:i.zero with
   | none=>simp [hu] at h
   | some u=>
     rw [hu] at h;dsimp only at h;split at h
     ·rename_i e;exact ⟨i,u,rfl,hu,e,by simpa using h.symm⟩
     ·simp at h
theorem wV {g o:Nat} {v:Value} (h:w.cell? ⟨g,o,none⟩=some v):(load ⟨g,o,none⟩).run P w = .ok v w:=by show Sem.run P (Sem.load .plain _ Sem.pure) w=_;unfold Sem.run;rw [h];rfl
theorem bC {T:TypeId} {g o:Nat} {v:Value} (E:Ez P T=some none) (h:w.cell? ⟨g,o,none⟩=some v):(loadVar T ⟨g,o,none⟩).run P w = .ok v w:=by simp only [loadVar,Sem.run_bind,fo E,Result.andThen_ok];exact wV h
theorem bB {T:TypeId} {g o n:Nat} {vs:List Value} (E:Ez P T=some (some n)) (hn:vs.length=n) (h:∀(j:Nat) v,vs[j]?=some v→w.cell? ⟨g,o+j,none⟩=some v):
  (loadVar T ⟨g,o,none⟩).run P w = .ok (.agg vs.toArray) w:=by
 subst hn;have hl:=run_loadCells_list (P:=P) w ⟨g,o,none⟩ vs (fun j v hj=>by rw [Addr.add_lit];exact h j v hj);simp [loadVar,(UC E).1,(UC E).2,hl]
theorem qf (T:TypeId) (i:TypeInfo) (z:Value) (hi:P.info? T=some i) (hz:i.zero=some z):
  (Instr.alloc T true (.tuple #[])).run P w = .ok (.pointer (some ⟨w.heap.size,0,none⟩)) (w.alloc (.cells z.cells T)):=by
 simp [Instr.alloc,zeroValue,typeInfo,hi,hz,newVar,newRow]
theorem qC (T:TypeId) (v:Value):(Instr.box T v).run P w = .ok (.pointer (some ⟨w.heap.size,0,none⟩)) (w.alloc (.cells v.cells T)):=by simp [Instr.box,newVar,newRow]
end
theorem fT {M:Mem} {c:Ctx} {bs ss w} (h:RelS c M bs ss w) {a:Addr} {vs:List Value} (hc:LL M.H a vs) (k:Nat) (v:Value) (hk:vs[k]?=some v):w.cell? ⟨a.block,a.off+k,none⟩=some v:=by obtain ⟨_,_,cs,T,fr,h1,h2⟩:=hc;have:=h.hle _ _ h1;simp [World.cell?,this,h2 k v hk]
theorem UM {M:Mem} {x:AV} {u:Value} {cs:List AV} (hs:∀j,x = .osl j→u.oneCell'=true) (hx:x.is M u) (hc:x.cells=some cs):AV.isL M cs u.cells.toList:=by
 have Af:x.one=true→cs=[x]→AV.isL M cs u.cells.toList:=by
  intro h1 h2;subst h2;have:u.oneCell'=true:=d8 hx h1 (fun j e=>by subst e;have:=hs j rfl;rw [hx.2] at this;exact this);have hu:u.cells.toList=[u]:=by cases u<;>simp_all [Value.cells,Value.oneCell']
  rw [hu];exact ⟨u,[],rfl,hx,rfl⟩
 cases x<;>simp [AV.cells] at hc<;>first | exact Af rfl hc.symm | skip
 subst hc;obtain ⟨vs,rfl,h⟩:=hx;simpa [Value.cells] using h
theorem Jc {M:Mem}:∀ {cs:List AV} {vs:List Value},AV.isL M cs vs→Cs cs=true→(∀j,j<M.ns→(M.σ j).oneCell'=true)→∀v∈vs,v.oneCell'=true
 | [],_,h,_,_,v,hv=>by simp [AV.isL] at h;subst h;simp at hv
 | x::l,_,h,h1,hs,v,hv=>by
   obtain ⟨u,r,rfl,hu,hr⟩:=h;simp only [Cs,AO] at h1;rcases List.mem_cons.1 hv with rfl | hv
   ·exact d8 hu h1.1 (fun j e=>by subst e;exact hs j hu.1)
   ·exact Jc hr h1.2 hs v hv
def Ce (c:Ctx) (M:Mem) (S:St) (a:Act) (w:World) (o:Op) (v:AV) (S1:St):Prop:=
 ∀(d:Option Tmp) (ty:TypeId) (pos:String) (af:Array Edge) (g:Option (Nat×Bool)),
 ∃x M' w',((execOp a.eval ⟨d,o,ty,pos,af,g⟩).run c.P w = .ok (.value x) w'∨((execOp a.eval ⟨d,o,ty,pos,af,g⟩).run c.P w = .ok .skip w'∧x=undef))∧
  M.le M'∧RelS c M' S1.bs S1.ss w'∧S1.tm=S.tm∧v.is M' x
section
variable {c:Ctx} {M:Mem} {S S1:St} {a:Act} {w:World} {v:AV} {q:Prop}
theorem Ce.same {o:Op} {x:Value} (E:RelT c M S a w) (h:∀d ty pos af g,(execOp a.eval ⟨d,o,ty,pos,af,g⟩).run c.P w = .ok (.value x) w) (hv:v.is M x):Ce c M S a w o v S:=fun d ty pos af g=>⟨x,M,w,.inl (h d ty pos af g),.refl M,E.st,rfl,hv⟩
theorem u5 (E:RelT c M S a w) (x:Operand):Ce c M S a w (.move x) (S.x (cX x)) S:=.same (x:=a.eval x) E (fun _ _ _ _ _=>rfl) (Ak E x)
theorem tK (E:RelT c M S a w) (x:Operand):Ce c M S a w (.assign x) (S.x (cX x)) S:=.same (x:=a.eval x) E (fun _ _ _ _ _=>rfl) (Ak E x)
theorem uc (E:RelT c M S a w) (x y z:Operand) (he:ev S (.pick (cX x) (cX y) (cX z))=some (v,S1,q)):Ce c M S a w (.pick x y z) v S1:=by
 have hx:=o5 (Ak E x);have hy:=Ak E y;have hz:=Ak E z;simp only [ev] at he;split at he<;>simp at he
 ·rename_i hx';obtain ⟨rfl,rfl,_⟩:=he;rw [hx'] at hx;refine .same (x:=a.eval y) E (fun _ _ _ _ _=>?_) hy;have h6:a.eval x = .bool true:=hx;generalize a.eval=ρ at *;simp [execOp,h6,asBool]
 ·rename_i hx';obtain ⟨rfl,rfl,_⟩:=he;rw [hx'] at hx;refine .same (x:=a.eval z) E (fun _ _ _ _ _=>?_) hz;have h6:a.eval x = .bool false:=hx;generalize a.eval=ρ at *;simp [execOp,h6,asBool]
theorem tJ (E:RelT c M S a w) (T:TypeId) (he:ev S (cO c.P (.alloc T))=some (v,S1,q)):Ce c M S a w (.alloc T) v S1:=by
 simp only [cO] at he;split at he
 ·rename_i z hz;obtain ⟨i,u,hi,hu,h8,rfl⟩:=LJ hz;simp only [ev] at he;split at he<;>simp at he;rename_i h6;obtain ⟨rfl,rfl,_⟩:=he;intro d ty pos af g;have hz:=FO M u.cells.toList;have h1:∀v∈u.cells.toList,v.oneCell'=true:=by intro v hv;have:=Jc (FO (M:=M.pure) u.cells.toList) h6 (fun j hj=>absurd hj (Nat.not_lt_zero _)) v hv;exact this
  refine ⟨.pointer (some ⟨w.heap.size,0,none⟩),M.addB w.heap.size,w.alloc (.cells u.cells T),.inl ?_,Mem.le_addB M w.heap.size,?_,rfl,?_⟩
  ·simp [execOp,qf T i u hi hu]
  ·have:=E.st.alloc T (u.cells.toList.map Dw) u.cells.toList hz h1;simpa using this
  ·rw [Bh,←E.st.nb];refine ⟨Nat.lt_succ_self _,?_⟩;simp [Mem.addB]
 ·simp [ev] at he
theorem tM (E:RelT c M S a w) (T:TypeId) (x:Operand) (he:ev S (cO c.P (.box T x))=some (v,S1,q)):Ce c M S a w (.box T x) v S1:=by
 have hx:=Ak E x;simp only [cO] at he;split at he
 ·rename_i n hn;simp only [ev] at he;split at he
  ·rename_i cs h6;split at he<;>simp at he;rename_i hc;rw [AO,beq_iff_eq] at hc;obtain ⟨rfl,rfl,_⟩:=he;have hl:=UM (fun j e=>by rw [e] at hx;rw [hx.2];exact E.st.so j hx.1) hx h6;have h1:=Jc hl hc.2 E.st.so;generalize h8:a.eval=ρ at hx hl h1;intro d ty pos af g;refine ⟨.pointer (some ⟨w.heap.size,0,none⟩),M.addB w.heap.size,w.alloc (.cells (ρ x).cells T),.inl ?_,Mem.le_addB M w.heap.size,?_,rfl,?_⟩
   ·rw [h8];simp [execOp,qC]
   ·have:=E.st.alloc T cs (ρ x).cells.toList hl h1;simpa using this
   ·rw [Bh,←E.st.nb];exact ⟨Nat.lt_succ_self _,by simp [Mem.addB]⟩
  ·simp at he
 ·simp [ev] at he
theorem P5 (E:RelT c M S a w) {x:AV} {u:Value} (hx:x.is M u) {n:Nat} {l:List AV} (h:D3 S x n=some l):
  ∃g o vs,u = .pointer (some ⟨g,o,none⟩)∧AV.isL M l vs∧vs.length=n∧∀(j:Nat) v,vs[j]?=some v→w.cell? ⟨g,o+j,none⟩=some v:=by
 unfold D3 at h;split at h
 ·rename_i j off;split at h
  ·rename_i B hB;obtain ⟨rfl,hle⟩:=Kv h;obtain ⟨_,_,vs,g3,g4,_⟩:=E.st.blk j B hB;refine ⟨M.ρ j,off,(vs.drop off).take n,hx.2,FZ n (FY off g3),by have:=D5 g3;simp;omega,?_⟩;intro k v hk;rw [List.getElem?_take] at hk;split at hk
   ·simp at hk;simp [World.cell?,g4,hk]
   ·simp at hk
  ·simp at h
 ·rename_i row off;obtain ⟨rfl,hle⟩:=Kv h;obtain ⟨ad,vs,rfl,h2,h3⟩:=hx;have hm:=E0 (OZ M) _ _ h2;refine ⟨ad.block,ad.off+off,(vs.drop off).take n,rfl,FZ n (FY off hm),by have:=D5 h2;simp;omega,?_⟩;intro k v hk;rw [List.getElem?_take] at hk;split at hk
  ·simp at hk;rw [Nat.add_assoc];exact fT E.st h3 (off+k) v hk
  ·simp at hk
 ·simp at h
theorem tZ (E:RelT c M S a w) (T:TypeId) (x:Operand) (he:ev S (cO c.P (.load T x))=some (v,S1,q)):Ce c M S a w (.load T x) v S1:=by
 have hx:=Ak E x;simp only [cO] at he;split at he
 ·rename_i h6;simp only [ev,Option.map_eq_some_iff] at he;obtain ⟨l,hl,he⟩:=he;simp at he;obtain ⟨rfl,rfl,_⟩:=he;obtain ⟨g,o,vs,hu,h2,h3,h4⟩:=P5 E hx hl;obtain ⟨u,rfl⟩:∃u,vs=[u]:=by
   cases vs with
   | nil=>simp at h3
   | cons u r=>cases r with
     | nil=>exact ⟨u,rfl⟩
     | cons _ _=>simp at h3
  have hc:=h4 0 u (by simp);refine .same (x:=u) E (fun _ _ _ _ _=>?_) ?_
  ·generalize a.eval=ρ at *;simp only [Nat.add_zero] at hc;simp [execOp,hu,Instr.loadAt,Instr.sureAddr,bC h6 hc]
  ·cases l with
   | nil=>simp [AV.isL] at h2
   | cons y r=>obtain ⟨_,_,h,hy,_⟩:=h2;simp at h;obtain ⟨rfl,rfl⟩:=h;exact hy
 ·rename_i n h6;simp only [ev,Option.map_eq_some_iff] at he;obtain ⟨l,hl,he⟩:=he;simp at he;obtain ⟨rfl,rfl,_⟩:=he;obtain ⟨g,o,vs,hu,h2,h3,h4⟩:=P5 E hx hl;refine .same (x:=.agg vs.toArray) E (fun _ _ _ _ _=>?_) ⟨vs,rfl,h2⟩;generalize a.eval=ρ at *;simp [execOp,hu,Instr.loadAt,Instr.sureAddr,bB h6 h3 h4]
 ·simp [ev] at he
theorem uf (E:RelT c M S a w) (T:TypeId) (x y:Operand) (he:ev S (cO c.P (.store T x y))=some (v,S1,q)):Ce c M S a w (.store T x y) v S1:=by
 have hx:=Ak E x;have hy:=Ak E y;simp only [cO] at he;split at he
 ·rename_i n hn;simp only [ev] at he;split at he
  ·rename_i j off hj;split at he
   ·rename_i B hB;split at he
    ·rename_i cs hw;split at he
     ·rename_i hc;rw [AO,beq_iff_eq] at hc;simp only [Option.map_eq_some_iff] at he;obtain ⟨l,hl,he⟩:=he;simp at he;obtain ⟨rfl,rfl,_⟩:=he;obtain ⟨rfl,hle⟩:=MB hl;have h8:=UM (fun j e=>by rw [e] at hy;rw [hy.2];exact E.st.so j hy.1) hy hw;have h1:=Jc h8 hc.2 E.st.so;obtain ⟨_,_,vs,g3,g4,g5⟩:=E.st.blk j B hB;rw [hj] at hx;have h6:=D5 h8;have hA:=D5 g3;have hn':(a.eval y).cells.size=n:=by rw [←Array.length_toList,h6,←Bh];exact hc.1
      have h9:=run_storeCells_at c.P (M.ρ j) off B.T (a.eval y).cells.toList 0 vs.toArray w g4 (by simp at h6 ⊢;omega) h1;have hd:=E.st.write hB (B.cells.take off++cs++B.cells.drop (off+cs.length)) (vs.take off++(a.eval y).cells.toList++vs.drop (off+(a.eval y).cells.toList.length))
       (BH (BH (FZ off g3) h8) (by rw [h6];exact FY _ g3))
       (by
         intro u hu;simp only [List.mem_append] at hu;rcases hu with (hu | hu) | hu
         ·exact g5 u (List.mem_of_mem_take hu)
         ·exact h1 u hu
         ·exact g5 u (List.mem_of_mem_drop hu))
      unfold Ce;generalize a.eval=ρ at *;intro d ty pos af g;refine ⟨undef,M,_,.inr ⟨?_,rfl⟩,.refl M,hd,rfl,rfl⟩;simp only [Nat.add_zero] at h9;simp only [execOp,hx.2,Instr.storeAt,Instr.sureAddr,Sem.run_bind,Sem.run_pure,Result.andThen_ok,storeVar,Fi hn,hn',ne_eq,not_true_eq_false,if_false];rw [h9];rfl
     ·simp at he
    ·simp at he
   ·simp at he
  ·simp at he
 ·simp [ev] at he
theorem u7 (E:RelT c M S a w) (x:Operand) (he:ev S (.nilchk (cX x))=some (v,S1,q)):Ce c M S a w (.nilCheck x) v S1:=by
 have hx:=Ak E x;simp only [ev] at he;split at he<;>(try rename_i hv)<;>simp only [Option.some.injEq,Prod.mk.injEq,reduceCtorEq] at he<;>obtain ⟨rfl,rfl,rfl⟩:=he<;>rw [hv] at hx
 ·refine .same (x:=a.eval x) E (fun _ _ _ _ _=>?_) hx;generalize a.eval=ρ at *;simp [execOp,hx.2]
 ·refine .same (x:=a.eval x) E (fun _ _ _ _ _=>?_) hx;generalize a.eval=ρ at *;obtain ⟨_,_,h,_⟩:=hx;simp [execOp,h]
 ·refine .same (x:=a.eval x) E (fun _ _ _ _ _=>?_) hx;generalize a.eval=ρ at *;obtain ⟨_,_,_,_,_,h⟩:=hx;simp [execOp,h]
 ·refine .same (x:=a.eval x) E (fun _ _ _ _ _=>?_) hx;generalize a.eval=ρ at *;obtain ⟨_,h,_⟩:=hx;simp [execOp,h]
theorem qv {P:Program} {w:World} {op:BinOp} {x y:Int} {r:AV} {p:Prop} (h:Px op x y=some (r,p)) (hp:p) (T:TypeId) (m:Mem):
  ∃u,(binOp op T (.int .i64 x) (.int .i64 y)).run P w = .ok u w∧r.is m u:=by
 cases op<;>simp only [Px,Option.some.injEq,Prod.mk.injEq,reduceCtorEq] at h<;>obtain ⟨rfl,rfl⟩:=h
 case add=>exact ⟨.int .i64 (wr (x+y)),by simp [binOp,Op.intArith,wr],rfl⟩
 case sub=>exact ⟨.int .i64 (wr (x-y)),by simp [binOp,Op.intArith,wr],rfl⟩
 case mul=>exact ⟨.int .i64 (wr (x*y)),by simp [binOp,Op.intArith,wr],rfl⟩
 case quo=>exact ⟨.int .i64 (wr (x.tdiv y)),by simp [binOp,Op.intDiv,wr,hp],rfl⟩
 case rem=>exact ⟨.int .i64 (x.tmod y),by simp [binOp,Op.intDiv,hp],rfl⟩
 case eql=>exact ⟨.bool (x==y),by simp [binOp,Op.intCmp],by simp [AV.is];rfl⟩
 case neq=>exact ⟨.bool (x != y),by simp [binOp,Op.intCmp],by simp [AV.is];rfl⟩
 case lss=>exact ⟨.bool (x<y),by simp [binOp,Op.intCmp],rfl⟩
 case leq=>exact ⟨.bool (x≤y),by simp [binOp,Op.intCmp],rfl⟩
 case gtr=>exact ⟨.bool (x>y),by simp [binOp,Op.intCmp],rfl⟩
 case geq=>exact ⟨.bool (x≥y),by simp [binOp,Op.intCmp],rfl⟩
 case shl=>exact ⟨.int .i64 (wr (x*2 ^ min y.toNat 64)),by simp [binOp,Op.shift,show ¬y<0 by omega,wr,IntKind.bits],rfl⟩
 case shr=>exact ⟨.int .i64 (x.fdiv (2 ^ min y.toNat 64)),by simp [binOp,Op.shift,show ¬y<0 by omega,IntKind.bits],rfl⟩
 case and=>exact ⟨.int .i64 (wr (BitVec.ofInt 64 x &&& BitVec.ofInt 64 y).toNat),rfl,rfl⟩
 case or=>exact ⟨.int .i64 (wr (BitVec.ofInt 64 x ||| BitVec.ofInt 64 y).toNat),rfl,rfl⟩
 case xor=>exact ⟨.int .i64 (wr (BitVec.ofInt 64 x ^^^ BitVec.ofInt 64 y).toNat),rfl,rfl⟩
theorem TS {M:Mem} (k:IntKind) (n:Int):(Hx k n).is M (.int k n):=by cases k<;>rfl
theorem qu {P:Program} {w:World} {op:BinOp} {k:IntKind} {x y:Int} {r:AV} {p:Prop} (h:Py op k x y=some (r,p)) (hp:p) (T:TypeId) (m:Mem):
  ∃u,(binOp op T (.int k x) (.int k y)).run P w = .ok u w∧r.is m u:=by
 cases op<;>simp only [Py,Option.some.injEq,Prod.mk.injEq,reduceCtorEq] at h<;>obtain ⟨rfl,rfl⟩:=h
 case add=>exact ⟨.int k (kw k (x+y)),by simp [binOp,Op.intArith,kw],rfl⟩
 case sub=>exact ⟨.int k (kw k (x-y)),by simp [binOp,Op.intArith,kw],rfl⟩
 case mul=>exact ⟨.int k (kw k (x*y)),by simp [binOp,Op.intArith,kw],rfl⟩
 case quo=>exact ⟨.int k (kw k (x.tdiv y)),by simp [binOp,Op.intDiv,kw,hp],rfl⟩
 case rem=>exact ⟨.int k (x.tmod y),by simp [binOp,Op.intDiv,hp],rfl⟩
 case eql=>exact ⟨.bool (x==y),by simp [binOp,Op.intCmp],by simp [AV.is];rfl⟩
 case neq=>exact ⟨.bool (x != y),by simp [binOp,Op.intCmp],by simp [AV.is];rfl⟩
 case lss=>exact ⟨.bool (x<y),by simp [binOp,Op.intCmp],rfl⟩
 case leq=>exact ⟨.bool (x≤y),by simp [binOp,Op.intCmp],rfl⟩
 case gtr=>exact ⟨.bool (x>y),by simp [binOp,Op.intCmp],rfl⟩
 case geq=>exact ⟨.bool (x≥y),by simp [binOp,Op.intCmp],rfl⟩
 case and=>exact ⟨.int k (kw k (BitVec.ofInt k.bits x &&& BitVec.ofInt k.bits y).toNat),by simp [binOp,Op.intBits,kw],rfl⟩
 case or=>exact ⟨.int k (kw k (BitVec.ofInt k.bits x ||| BitVec.ofInt k.bits y).toNat),by simp [binOp,Op.intBits,kw],rfl⟩
 case xor=>exact ⟨.int k (kw k (BitVec.ofInt k.bits x ^^^ BitVec.ofInt k.bits y).toNat),by simp [binOp,Op.intBits,kw],rfl⟩
theorem Ui {P:Program} {w:World} {op:BinOp} {k j:IntKind} {x y:Int} {r:AV} {p:Prop} (h:HK op k x y=some (r,p)) (hp:p) (T:TypeId) (m:Mem):
  ∃u,(binOp op T (.int k x) (.int j y)).run P w = .ok u w∧r.is m u:=by
 cases op<;>simp only [HK,Option.some.injEq,Prod.mk.injEq,reduceCtorEq] at h<;>obtain ⟨rfl,rfl⟩:=h
 case shl=>exact ⟨.int k (kw k (x*2 ^ min y.toNat k.bits)),by simp [binOp,Op.shift,show ¬y<0 by omega,kw],TS _ _⟩
 case shr=>exact ⟨.int k (x.fdiv (2 ^ min y.toNat k.bits)),by simp [binOp,Op.shift,show ¬y<0 by omega],TS _ _⟩
theorem wi {k j:IntKind} (h:Vf k j=true):k=j:=by cases k<;>cases j<;>simp_all [Vf]
theorem qs {P:Program} {w:World} {op:BinOp} {u v:AV} {x y:Value} {r:AV} {p:Prop} (h:EZ op u v=some (r,p)) (hp:p) (T:TypeId) {m:Mem} (hu:u.is m x) (hv:v.is m y):
  ∃k a j b,x = .int k a∧y = .int j b∧∃z,(binOp op T x y).run P w = .ok z w∧r.is m z:=by
 cases u with
 | iv a=>cases v with
   | iv b=>simp only [AV.is] at hu hv;subst hu;subst hv;exact ⟨_,_,_,_,rfl,rfl,qv h hp T m⟩
   | kv j b=>simp only [AV.is] at hu hv;subst hu;subst hv;exact ⟨_,_,_,_,rfl,rfl,Ui h hp T m⟩
   | _=>simp [EZ] at h
 | kv k a=>cases v with
   | iv b=>simp only [AV.is] at hu hv;subst hu;subst hv;exact ⟨_,_,_,_,rfl,rfl,Ui h hp T m⟩
   | kv j b=>
     simp only [AV.is] at hu hv;subst hu;subst hv;refine ⟨_,_,_,_,rfl,rfl,?_⟩;simp only [EZ] at h;split at h
     ·rename_i e;obtain rfl:=wi e;split at h
      ·exact Ui h hp T m
      ·exact Ui h hp T m
      ·exact qu h hp T m
     ·exact Ui h hp T m
   | _=>simp [EZ] at h
 | _=>simp [EZ] at h
theorem sR {P:Program} {w:World} (op:BinOp) (T:TypeId) (x y:Operand) (k l:IntKind) (m n:Int):(eqGuard op T x y (.int k m) (.int l n)).run P w = .ok () w:=by unfold eqGuard;split<;>rfl
theorem tL (E:RelT c M S a w) (op:BinOp) (T:TypeId) (x y:Operand) (J:TypeId) (he:ev S (.bin op (cX x) (cX y))=some (v,S1,q)) (hq:q):Ce c M S a w (.binOp op T x y J) v S1:=by have hx:=Ak E x;have hy:=Ak E y;simp only [ev,Option.map_eq_some_iff,Prod.mk.injEq] at he;obtain ⟨⟨r,p⟩,h1,rfl,rfl,rfl⟩:=he;obtain ⟨k1,m1,k2,m2,hx,hy,u,hu,hr⟩:=qs (P:=c.P) (w:=w) h1 hq T hx hy;refine .same (x:=u) E (fun _ _ _ _ _=>?_) hr;generalize a.eval=ρ at *;rw [hx,hy] at hu;simp [execOp,hx,hy,sR,hu]
theorem o9 (s:ByteArray):s.toList=s.data.toList:=by
 unfold ByteArray.toList;have Af:∀n i r,s.size-i=n→i≤s.size→ByteArray.toList.loop s i r=r.reverse++s.data.toList.drop i:=by
  intro n;induction n with
  | zero=>
    intro i r hn hi;have:i=s.size:=by omega
    subst this;unfold ByteArray.toList.loop;simp
  | succ n ih=>
    intro i r hn hi;have hlt:i<s.size:=by omega
    have h6:i<s.data.toList.length:=by simpa using hlt
    unfold ByteArray.toList.loop;rw [if_pos hlt,ih (i+1) _ Om Om];rw [List.drop_eq_getElem_cons h6];have hg:s.get! i=s.data.toList[i]:=by
     obtain ⟨d⟩:=s;have h8:i<d.size:=by simpa using h6
     show d[i]! = d.toList[i];rw [getElem!_pos d i h8];simp
    rw [hg];simp
 simpa using Af s.size 0 [] rfl (Nat.zero_le _)
theorem ud (E:RelT c M S a w) (op:BinOp) (T:TypeId) (x y:Operand) (J:TypeId) (he:ev S (.sbin op (cX x) (cX y))=some (v,S1,q)):Ce c M S a w (.binOp op T x y J) v S1:=by
 have hx:=Ak E x;have hy:=Ak E y;simp only [ev,Option.map_eq_some_iff,Prod.mk.injEq] at he;obtain ⟨r,h1,rfl,rfl,_⟩:=he;unfold Ph at h1;split at h1
 ·rename_i s e1;split at h1
  ·rename_i t e2;rw [e1] at hx;rw [e2] at hy;simp only [AV.is] at hx hy;have hg:∀o:BinOp,(eqGuard o T x y (.string s) (.string t)).run c.P w = .ok () w:=fun o=>by unfold eqGuard;split<;>rfl
   cases op<;>simp only [Option.some.injEq,reduceCtorEq] at h1<;>subst h1
   ·refine .same (x:=.bool (seq s t)) E (fun _ _ _ _ _=>?_) rfl;generalize a.eval=ρ at *;simp [execOp,hx,hy,hg,binOp,Op.stringOp,o9,seq]
   ·refine .same (x:=.bool (!seq s t)) E (fun _ _ _ _ _=>?_) rfl;generalize a.eval=ρ at *;simp [execOp,hx,hy,hg,binOp,Op.stringOp,o9,seq]
  ·simp at h1
 ·simp at h1
theorem tU (J:RelT c M S a w) (op:BinOp) (T:TypeId) (x y:Operand) (E:TypeId) {U:Array Field} (hu:c.P.underlying T=some (.struct U)) (he:ev S (cO c.P (.binOp op T x y E))=some (v,S1,q)):Ce c M S a w (.binOp op T x y E) v S1:=by
 have hx:=Ak J x;have hy:=Ak J y;simp only [cO,hu] at he;split at he
 ·rename_i ks hl hg;have go:∀ng:Bool,op=(if ng then .neq else .eql)→ev S (.eqs ng ks (cX x) (cX y))=some (v,S1,q)→Ce c M S a w (.binOp op T x y E) v S1:=by
   intro ng ho he;simp only [ev] at he;split at he<;>try (simp at he;done)
   rename_i l r h6 h8;simp only [Option.map_eq_some_iff,Prod.mk.injEq] at he;obtain ⟨e,h1,rfl,rfl,_⟩:=he;rw [h6] at hx;rw [h8] at hy;simp only [AV.is] at hx hy;obtain ⟨us,hx,h9⟩:=hx;obtain ⟨vs,hy,hd⟩:=hy;obtain ⟨o1,o2,o3⟩:=gr h1 h9 hd;have hr:=sU (w:=w) (ng:=ng) hu hl o1 o2 ho;refine .same (x:=.bool (GJ ng e)) J (fun _ _ _ _ _=>?_) rfl;generalize a.eval=ρ at *;simp [execOp,hx,hy,run_eqGuard_agg _ _ _ _ _ _ _ hg,hr,o3]
  split at he
  ·exact go false rfl he
  ·exact go true rfl he
  ·simp [ev] at he
 ·simp [ev] at he
theorem fG {m:Mem} {x:AV} {v:Value} {e:Bool} (h:Gk x=some e) (hx:x.is m v):v = .bool e:=by cases x<;>simp [Gk] at h<;>subst h<;>exact hx
theorem gQ (E:RelT c M S a w) (ng:Bool) (op:BinOp) (ho:op=(if ng then .neq else .eql)) (T:TypeId) (x y:Operand) (J:TypeId) (hu:c.P.underlying T=some .bool) (he:ev S (.bq ng (cX x) (cX y))=some (v,S1,q)):Ce c M S a w (.binOp op T x y J) v S1:=by
 have hx:=Ak E x;have hy:=Ak E y;simp only [ev] at he;split at he<;>try (simp at he;done)
 rename_i e f h1 h2;simp only [Option.some.injEq,Prod.mk.injEq] at he;obtain ⟨rfl,rfl,_⟩:=he;have hx:=fG h1 hx;have hy:=fG h2 hy;refine .same (x:=.bool (GJ ng (e==f))) E (fun _ _ _ _ _=>?_) rfl;generalize a.eval=ρ at *;have hr:(Op.equal T (.bool e) (.bool f)).run c.P w = .ok (e==f) w:=run_equalIn_bool w 9999 T e f hu;have hg:∀o:BinOp,(eqGuard o T x y (.bool e) (.bool f)).run c.P w = .ok () w:=fun o=>by unfold eqGuard;split<;>rfl
 cases ng<;>subst ho<;>simp [execOp,hx,hy,hg,binOp,hr,GJ]
theorem u9 (E:RelT c M S a w) (T:TypeId) (x:Operand) (he:ev S (.not (cX x))=some (v,S1,q)):Ce c M S a w (.unOp .not T x) v S1:=by
 have hx:=Ak E x;simp only [ev] at he;split at he<;>(try rename_i hv)<;>simp only [Option.some.injEq,Prod.mk.injEq,reduceCtorEq] at he<;>obtain ⟨rfl,rfl,h0⟩:=he<;>clear h0<;>rw [hv] at hx<;>clear hv<;>simp only [AV.is] at hx
 ·refine .same (x:=.bool false) E (fun _ _ _ _ _=>?_) rfl;generalize a.eval=ρ at *;simp [execOp,hx,Op.unary]
 ·refine .same (x:=.bool true) E (fun _ _ _ _ _=>?_) rfl;generalize a.eval=ρ at *;simp [execOp,hx,Op.unary]
 ·rename_i e;refine .same (x:=.bool (!e)) E (fun _ _ _ _ _=>?_) rfl;generalize a.eval=ρ at *;simp [execOp,hx,Op.unary]
theorem u6 (E:RelT c M S a w) (T:TypeId) (x:Operand) (he:ev S (.neg (cX x))=some (v,S1,q)) (hq:q):Ce c M S a w (.unOp .neg T x) v S1:=by have hx:=Ak E x;simp only [ev] at he;split at he<;>simp only [Option.some.injEq,Prod.mk.injEq,reduceCtorEq] at he;rename_i e hv;obtain ⟨rfl,rfl,rfl⟩:=he;rw [hv] at hx;simp only [AV.is] at hx;refine .same (x:=.int .i64 (wr (-e))) E (fun _ _ _ _ _=>?_) rfl;generalize a.eval=ρ at *;simp [execOp,hx,Op.unary,Op.intArith,wr]
theorem tT (E:RelT c M S a w) (A B:TypeId) (x:Operand) (he:ev S (cO c.P (.convert A B x))=some (v,S1,q)) (hq:q):Ce c M S a w (.convert A B x) v S1:=by
 have hx:=Ak E x;simp only [cO] at he;split at he
 ·rename_i k l hA hB;have Af:∀j e,a.eval x = .int j e→Ce c M S a w (.convert A B x) (Hx l (kw l e)) S:=by intro j e hx;refine .same (x:=.int l (kw l e)) E (fun _ _ _ _ _=>?_) (TS _ _);generalize a.eval=ρ at *;simp [execOp,hx,convert,run_underlying hA,run_underlying hB,Conv.intToInt,kw]
  cases l<;>simp only [ev] at he<;>split at he<;>simp only [Option.some.injEq,Prod.mk.injEq,reduceCtorEq] at he<;>rename_i e hv<;>obtain ⟨rfl,rfl,rfl⟩:=he<;>rw [hv] at hx<;>exact Af _ _ hx
 ·split at he<;>simp [ev] at he
 ·simp [ev] at he
theorem tX (E:RelT c M S a w) (T:TypeId) (x:Operand) (f:Nat) (he:ev S (cO c.P (.fieldAddr T x f))=some (v,S1,q)):Ce c M S a w (.fieldAddr T x f) v S1:=by
 have hx:=Ak E x;simp only [cO] at he;split at he
 ·rename_i fs h9;split at he
  ·rename_i fd hf;split at he
   ·rename_i h6;have h8:∃n,(sizeOf fd.type).run c.P w = .ok (n+1) w:=by
     cases hn:C9 c.P fd.type with
     | none=>simp [hn] at h6
     | some n=>simp [hn] at h6;exact ⟨n-1,by rw [Fi hn];congr 1;omega⟩
    obtain ⟨n,h8⟩:=h8;have run:∀(g o:Nat) (ρ:Operand→Value),ρ x = .pointer (some ⟨g,o,none⟩)→∀d ty pos af gg,(execOp ρ ⟨d,.fieldAddr T x f,ty,pos,af,gg⟩).run c.P w = .ok (.value (.pointer (some ⟨g,o+fd.offset,none⟩))) w:=by intro g o ρ hρ d ty pos af gg;simp [execOp,hρ,Instr.fieldAt,Instr.sureAddr,run_underlying h9,hf,fieldPlace,h8,Addr.add_lit]
    simp only [ev] at he;split at he<;>simp only [Option.some.injEq,Prod.mk.injEq,reduceCtorEq] at he<;>rename_i hv<;>obtain ⟨rfl,rfl,_⟩:=he
    ·rw [hv] at hx;exact .same E (run _ _ _ hx.2) ⟨hx.1,rfl⟩
    ·rw [hv] at hx;obtain ⟨ad,vs,h1,h2,h3⟩:=hx;exact .same E (run _ _ _ h1) ⟨ad,vs,by rw [Nat.add_assoc],h2,h3⟩
    ·rw [hv] at hx;obtain ⟨h0,g,n,cp,h1,h2⟩:=hx;exact .same E (run _ _ _ h2) ⟨h0,g,n,cp,h1,by rw [Nat.add_assoc]⟩
   ·simp [ev] at he
  ·simp [ev] at he
 ·simp [ev] at he
theorem lq {P:Program} {T:TypeId} {vs:List Value} {off:Nat} {v:Value} (E:Ez P T=some none) (h:vs[off]?=some v):(part T vs.toArray off).run P w = .ok v w:=by simp [part,fo E,h]
theorem yk {P:Program} {T:TypeId} {vs:List Value} {off n:Nat} (E:Ez P T=some (some n)):(part T vs.toArray off).run P w = .ok (.agg ((vs.drop off).take n).toArray) w:=by simp [part,(UC E).1,(UC E).2]
theorem tW (E:RelT c M S a w) (T:TypeId) (x:Operand) (f:Nat) (he:ev S (cO c.P (.field T x f))=some (v,S1,q)):Ce c M S a w (.field T x f) v S1:=by
 have hx:=Ak E x;simp only [cO] at he;split at he
 ·rename_i fs h8;split at he
  ·rename_i fd hf;split at he
   ·rename_i n hn;cases n with
    | none=>
      simp only [ev] at he;split at he<;>simp only [Option.map_eq_some_iff,Prod.mk.injEq,reduceCtorEq] at he;rename_i l hv;obtain ⟨r,hr,rfl,rfl,_⟩:=he;obtain ⟨rfl,hle⟩:=Kv hr;rw [hv] at hx;obtain ⟨vs,h1,h2⟩:=hx;have hl:=D5 h2;have hlt:fd.offset<vs.length:=by omega
      have h6:vs[fd.offset]?=some vs[fd.offset]:=List.getElem?_eq_getElem hlt;refine .same (x:=vs[fd.offset]) E (fun _ _ _ _ _=>?_) ?_
      ·generalize a.eval=ρ at *;simp [execOp,h1,Instr.field,run_underlying h8,hf,asAgg,lq hn h6]
      ·have h3:=FZ 1 (FY fd.offset h2);have e1:(vs.drop fd.offset).take 1=[vs[fd.offset]]:=by rw [List.take_one,List.head?_drop,h6];rfl
       rw [e1] at h3;cases h4:(l.drop fd.offset).take 1 with
       | nil=>rw [h4] at h3;simp [AV.isL] at h3
       | cons y r=>rw [h4] at h3;obtain ⟨_,_,h,hy,_⟩:=h3;simp at h;obtain ⟨rfl,rfl⟩:=h;exact hy
    | some n=>simp only [ev] at he;split at he<;>simp only [Option.map_eq_some_iff,Prod.mk.injEq,reduceCtorEq] at he;rename_i l hv;obtain ⟨r,hr,rfl,rfl,_⟩:=he;obtain ⟨rfl,hle⟩:=Kv hr;rw [hv] at hx;obtain ⟨vs,h1,h2⟩:=hx;refine .same (x:=.agg ((vs.drop fd.offset).take n).toArray) E (fun _ _ _ _ _=>?_) ⟨_,rfl,FZ n (FY fd.offset h2)⟩;generalize a.eval=ρ at *;simp [execOp,h1,Instr.field,run_underlying h8,hf,asAgg,yk hn]
   ·simp [ev] at he
  ·simp [ev] at he
 ·simp [ev] at he
theorem tV (E:RelT c M S a w) (x:Operand) (k:Nat) (he:ev S (.ext (cX x) k)=some (v,S1,q)):Ce c M S a w (.extract x k) v S1:=by
 have hx:=Ak E x;simp only [ev] at he;split at he<;>simp only [Option.map_eq_some_iff,Prod.mk.injEq,reduceCtorEq] at he;rename_i l hv;obtain ⟨r,hr,rfl,rfl,_⟩:=he;obtain ⟨rfl,hle⟩:=Kv hr;rw [hv] at hx;obtain ⟨vs,h1,h2⟩:=hx;have hl:=D5 h2;have hlt:k<vs.length:=by omega
 have h6:vs[k]?=some vs[k]:=List.getElem?_eq_getElem hlt;refine .same (x:=vs[k]) E (fun _ _ _ _ _=>?_) ?_
 ·generalize a.eval=ρ at *;simp [execOp,h1,Instr.extract,h6]
 ·have h3:=FZ 1 (FY k h2);have e1:(vs.drop k).take 1=[vs[k]]:=by rw [List.take_one,List.head?_drop,h6];rfl
  rw [e1] at h3;cases h4:(l.drop k).take 1 with
  | nil=>rw [h4] at h3;simp [AV.isL] at h3
  | cons y r=>rw [h4] at h3;obtain ⟨_,_,h,hy,_⟩:=h3;simp at h;obtain ⟨rfl,rfl⟩:=h;exact hy
theorem G9 (E:RelT c M S a w):∀(l:List Operand),AV.isL M (B8 S (l.map cX)) (l.map a.eval)
 | []=>rfl
 | x::l=>⟨_,_,rfl,Ak E x,G9 E l⟩
theorem u1 (E:RelT c M S a w) (fn:Fn) (first caps:Array Operand) (he:ev S (cO c.P (.makeFunc fn first caps))=some (v,S1,q)):Ce c M S a w (.makeFunc fn first caps) v S1:=by
 simp only [cO] at he;split at he
 ·rename_i f;split at he
  ·rename_i h0;simp only [ev,Option.some.injEq,Prod.mk.injEq] at he;obtain ⟨rfl,rfl,_⟩:=he;have hm:=G9 E caps.toList;have hf:first = #[]:=by simpa using h0
   subst hf;refine .same (x:=.func (.func f) #[] (caps.map a.eval)) E (fun _ _ _ _ _=>?_) ⟨caps.toList.map a.eval,?_,hm⟩
   ·generalize a.eval=ρ at *;simp [execOp,Instr.makeFunc]
   ·congr 1;apply Array.ext';simp
  ·simp [ev] at he
 ·simp [ev] at he
def Pg (z:List Value) (off:Nat) (cs:List Value):List Value:=z.take off++cs++z.drop (off+cs.length)
theorem tx (cs:List Value):∀(off k:Nat) (z:Array Value),off+k+cs.length≤z.size→
  (cs.zipIdx k).foldl (fun (acc:Array Value) (x:Value×Nat)=>acc.setIfInBounds (off+x.2) x.1) z=(Pg z.toList (off+k) cs).toArray:=by
 induction cs with
 | nil=>intro off k z _;simp [Pg]
 | cons c cs ih=>
   intro off k z hz;simp only [List.zipIdx_cons,List.foldl_cons];rw [ih off (k+1) _ (by simp at hz ⊢;omega)];apply congrArg List.toArray;simp only [Array.toList_setIfInBounds,Pg];apply List.ext_getElem?;intro j;simp only [List.length_cons] at hz ⊢;simp only [List.getElem?_append,List.length_append,List.length_take,List.length_set,List.getElem?_take,List.getElem?_drop,List.getElem?_set,List.length_cons,Array.length_toList];have e1:min (off+(k+1)) z.size=off+k+1:=by omega
   have e2:min (off+k) z.size=off+k:=by omega
   rw [e1,e2];by_cases h1:j<off+k
   ·have:¬off+k=j:=by omega
    simp only [show j<off+k+1+cs.length from by omega,show j<off+k+(cs.length+1) from by omega,if_true,show j<off+k+1 from by omega,h1,this,if_false,show off+(k+1)=off+k+1 from rfl]
   ·by_cases h2:j=off+k
    ·subst h2;simp [show off+(k+1)=off+k+1 from rfl,show off+k<z.size from by omega,show off+k<off+k+1+cs.length from by omega]
    ·by_cases h3:j<off+k+1+cs.length
     ·have h5:j-(off+k)=(j-(off+k+1))+1:=by omega
      simp only [h3,show j<off+k+(cs.length+1) from by omega,if_true,show ¬j<off+k+1 from by omega,h1,if_false,h5,List.getElem?_cons_succ]
     ·have h6:¬off+k=off+k+1+cs.length+(j-(off+k+1+cs.length)):=by omega
      simp only [h3,show ¬j<off+k+(cs.length+1) from by omega,if_false];rw [if_neg Om];congr 1;omega
theorem UX (place:Nat→Option (Nat×Nat)):∀(ps:List (Nat×Value)) (z:List Value) (l:List AV) (M:Mem) (J:List AV) (E:List (Nat×Nat×AV)),
  AV.isL M J z→Fr J E=some l→E.length=ps.length→
  (∀(k:Nat) i v,ps[k]?=some (i,v)→∃o n x,E[k]?=some (o,n,x)∧place i=some (o,n)∧(∀cs,x.cells=some cs→AV.isL M cs v.cells.toList))→
  ∃r:List Value,Instr.fill place z.toArray ps=some r.toArray∧AV.isL M l r
 | [],z,l,M,J,E,hz,hf,h1,_=>by have:E=[]:=List.length_eq_zero_iff.1 h1;subst this;simp [Fr] at hf;subst hf;exact ⟨z,rfl,hz⟩
 | (i,u)::ps,z,l,M,J,E,hz,hf,h1,hp=>by
   obtain ⟨o,n,x,hx,h9,hd⟩:=hp 0 i u (by simp);cases E with
   | nil=>simp at hx
   | cons y E=>
     simp at hx;subst hx;simp only [Fr] at hf;split at hf
     ·rename_i cs hw;split at hf
      ·rename_i hn;rw [beq_iff_eq] at hn;split at hf
       ·rename_i z' hz';have h8:=hd cs hw;have h6:=D5 h8;obtain ⟨rfl,hle⟩:=MB hz';have hG:=D5 hz;rw [Bh] at hn;have hA:u.cells.size=n:=by rw [←Array.length_toList,h6];exact hn
        have hB:AV.isL M (J.take o++cs++J.drop (o+cs.length)) (Pg z o u.cells.toList):=by unfold Pg;exact BH (BH (FZ o hz) h8) (by rw [h6];exact FY _ hz)
        obtain ⟨r,hC,hD⟩:=UX place ps (Pg z o u.cells.toList) l M _ E hB hf (by simpa using h1)
         (fun k i v hk=>by obtain ⟨o',n',x',g1,g2⟩:=hp (k+1) i v (by simpa using hk);exact ⟨o',n',x',by simpa using g1,g2⟩)
        refine ⟨r,?_,hD⟩;have hE:=tx u.cells.toList o 0 z.toArray (by simp at h6 ⊢;omega);simp only [Instr.fill,h9];rw [if_neg (by simp [hA];omega)];rw [←hC];congr 1;rw [←Array.foldl_toList,Array.toList_zipIdx];exact hE
       ·simp at hf
      ·simp at hf
     ·simp at hf
theorem lu {P:Program}:∀ {J:List Field} {E:List (Nat×Nat)},U8 P J=some E→J.mapM (fun f=>(P.info? f.type).map fun i=>(f.offset,i.size))=some E
 | [],E,h=>by simp [U8] at h;simp [h]
 | f::l,E,h=>by simp only [U8] at h;split at h<;>simp at h;rename_i n r h1 h2;subst h;have:=lu h2;simp only [C9,Option.map_eq_some_iff] at h1;obtain ⟨i,hi,rfl⟩:=h1;simp [List.mapM_cons,hi,this]
theorem JZ {α β:Type} {f:α→Option β}:∀ {l:List α} {r:List β},l.mapM f=some r→r.length=l.length∧∀(k:Nat) x,l[k]?=some x→∃y,r[k]?=some y∧f x=some y
 | [],r,h=>by simp at h;subst h;simp
 | x::l,r,h=>by
   simp only [List.mapM_cons,Option.bind_eq_bind,Option.bind_eq_some_iff] at h;obtain ⟨y,h1,r',h2,h3⟩:=h;simp at h3;subst h3;obtain ⟨g1,g2⟩:=JZ h2;refine ⟨by simp [g1],fun k u hk=>?_⟩;cases k with
   | zero=>simp at hk;subst hk;exact ⟨y,by simp,h1⟩
   | succ k=>simpa using g2 k u (by simpa using hk)
theorem Yf (S:St):∀l:List (Nat×Nat×X),(G8 S l).length=l.length
 | []=>rfl
 | (_,_,_)::l=>by simp [G8,Yf S l]
theorem Ye (S:St):∀(l:List (Nat×Nat×X)) (k o n:Nat) (x:X),l[k]?=some (o,n,x)→(G8 S l)[k]?=some (o,n,S.x x)
 | [],k,_,_,_,h=>by simp at h
 | (_,_,_)::l,k,o,n,x,h=>by
   cases k with
   | zero=>simp at h;obtain ⟨rfl,rfl,rfl⟩:=h;simp [G8]
   | succ k=>simpa [G8] using Ye S l k o n x (by simpa using h)
theorem UL (E:RelT c M S a w) (x:Operand) (cs:List AV) (h:(S.x (cX x)).cells=some cs):AV.isL M cs (a.eval x).cells.toList:=by have hx:=Ak E x;exact UM (fun j e=>by rw [e] at hx;rw [hx.2];exact E.st.so j hx.1) hx h
theorem tP (E:RelT c M S a w) (T:TypeId) (ps:Array (Nat×Operand)) (he:ev S (cO c.P (.build T ps))=some (v,S1,q)):Ce c M S a w (.build T ps) v S1:=by
 simp only [cO] at he;split at he
 ·rename_i fs z hu hz;obtain ⟨i,u,hi,h8,hd,rfl⟩:=LJ hz;split at he
  ·rename_i pl hw;split at he
   ·rename_i l hl;simp only [ev,Option.map_eq_some_iff,Prod.mk.injEq] at he;obtain ⟨r,hr,rfl,rfl,_⟩:=he;obtain ⟨g1,g2⟩:=JZ hl;obtain ⟨res,h6,h9⟩:=UX (pl[·]?) (ps.toList.map fun (i,x)=>(i,a.eval x)) u.cells.toList r M _ _ (FO M _) hr (by rw [Yf,g1];simp)
     (fun k i v hk=>by rw [List.getElem?_map,Option.map_eq_some_iff] at hk;obtain ⟨⟨i',x⟩,hk,he⟩:=hk;simp at he;obtain ⟨rfl,rfl⟩:=he;obtain ⟨y,hy,hf⟩:=g2 k _ hk;simp only [Option.map_eq_some_iff] at hf;obtain ⟨⟨o,n⟩,hp,rfl⟩:=hf;exact ⟨o,n,_,Ye S l k o n _ hy,hp,fun cs hc=>UL E x cs hc⟩)
    refine .same (x:=.agg res.toArray) E (fun _ _ _ _ _=>?_) ⟨res,rfl,h9⟩;generalize a.eval=ρ at *;have hA:=run_places (P:=c.P) w fs.toList pl (lu hw);simp only [Array.toArray_toList] at h6;simp [execOp,Instr.build,run_underlying hu,typeInfo,zeroValue,hi,h8,Array.mapM_eq_mapM_toList,hA,h6]
   ·simp [ev] at he
  ·simp [ev] at he
 ·rename_i n e z hu hz;obtain ⟨i,u,hi,h8,hd,rfl⟩:=LJ hz;split at he
  ·rename_i sz hs;simp only [ev,Option.map_eq_some_iff,Prod.mk.injEq] at he;obtain ⟨r,hr,rfl,rfl,_⟩:=he;obtain ⟨res,h6,h9⟩:=UX (fun i=>some (i*sz,sz)) (ps.toList.map fun (i,x)=>(i,a.eval x)) u.cells.toList r M _ _ (FO M _) hr (by rw [Yf];simp)
    (fun k i v hk=>by rw [List.getElem?_map,Option.map_eq_some_iff] at hk;obtain ⟨⟨i',x⟩,hk,he⟩:=hk;simp at he;obtain ⟨rfl,rfl⟩:=he;exact ⟨_,_,_,Ye S _ k (i'*sz) sz (cX x) (by rw [List.getElem?_map,hk];rfl),rfl,fun cs hc=>UL E x cs hc⟩)
   refine .same (x:=.agg res.toArray) E (fun _ _ _ _ _=>?_) ⟨res,rfl,h9⟩;generalize a.eval=ρ at *;simp only [Array.toArray_toList] at h6;simp [execOp,Instr.build,run_underlying hu,typeInfo,zeroValue,hi,h8,Fi hs,h6]
  ·simp [ev] at he
 ·simp [ev] at he
theorem jJ (S:St) (n:Nat):∀l:List (Nat×X),(II S n l).length=l.length
 | []=>rfl
 | (_,_)::l=>by simp [II,jJ S n l]
theorem jI (S:St) (n:Nat):∀(l:List (Nat×X)) (k i:Nat) (x:X),l[k]?=some (i,x)→(II S n l)[k]?=some (i*n,n,S.x x)
 | [],k,_,_,h=>by simp at h
 | (_,_)::l,k,i,x,h=>by
   cases k with
   | zero=>simp at h;obtain ⟨rfl,rfl⟩:=h;simp [II]
   | succ k=>simpa [II] using jI S n l k i x (by simpa using h)
theorem Zr (z:Array Value):∀len:Nat,((Array.range (len*z.size)).map (fun i=>z[i % z.size]!)).toList=(List.replicate len z.toList).flatten:=by
 intro len;by_cases h0:z.size=0
 ·have:z = #[]:=by simpa using h0
  subst this;simp
 induction len with
 | zero=>simp
 | succ len ih=>
   rw [List.replicate_succ',List.flatten_append,←ih,Nat.add_mul,Nat.one_mul];simp only [Array.toList_map,Array.toList_range,List.flatten_cons,List.flatten_nil,List.append_nil];rw [List.range_add,List.map_append];congr 1;apply List.ext_getElem
   ·simp
   ·intro j h1 h2;simp at h1 h2;simp only [List.map_map,List.getElem_map,List.getElem_range,Function.comp,Array.getElem_toList];have:(len*z.size+j) % z.size=j:=by rw [Nat.add_comm,Nat.add_mul_mod_self_right,Nat.mod_eq_of_lt h2]
    simp [this,h2]
theorem jv {M:Mem} {z:List AV} {vs:List Value} (h:AV.isL M z vs):∀k,AV.isL M (Hk k z) (List.replicate k vs).flatten
 | 0=>by simp [Hk,AV.isL]
 | k+1=>by rw [List.replicate_succ,List.flatten_cons];exact BH h (jv h k)
theorem tO (E:RelT c M S a w) (T:TypeId) (len:Nat) (ps:Array (Nat×Operand)) (he:ev S (cO c.P (.buildSlice T len ps))=some (v,S1,q)):Ce c M S a w (.buildSlice T len ps) v S1:=by
 simp only [cO] at he;split at he
 ·rename_i e hu;split at he
  ·rename_i n z hn hz;obtain ⟨i,u,hi,hL,hV,rfl⟩:=LJ hz;simp only [ev] at he;split at he
   ·rename_i l hl;split at he<;>simp only [Option.some.injEq,Prod.mk.injEq,reduceCtorEq] at he;rename_i hc;simp only [AO,D0,beq_iff_eq] at hc;obtain ⟨rfl,rfl,_⟩:=he;obtain ⟨hw,hU,hA,hO,hI⟩:=hc;have h9:u.cells.size=n:=by rw [Bh] at hA;simpa using hA
    obtain ⟨res,h8,hd⟩:=UX (fun i=>some (i*n,n)) (ps.toList.map fun (i,x)=>(i,a.eval x)) (List.replicate len u.cells.toList).flatten l M _ _ (jv (FO M u.cells.toList) len) hl (by rw [jJ];simp)
     (fun k i v hk=>by rw [List.getElem?_map,Option.map_eq_some_iff] at hk;obtain ⟨⟨i',x⟩,hk,he⟩:=hk;simp at he;obtain ⟨rfl,rfl⟩:=he;exact ⟨_,_,_,jI S n _ k i' (cX x) (by rw [List.getElem?_map,hk];rfl),rfl,fun cs hc=>UL E x cs hc⟩)
    have h6:res.length=len*n:=by
     have h1:=D5 hd;have:l.length=(Hk len (u.cells.toList.map Dw)).length:=by
      clear h8 hd h1;generalize II S n _=av at hl;generalize Hk len _=zz at hl;induction av generalizing zz with
      | nil=>simp [Fr] at hl;rw [hl]
      | cons y av ih=>
        obtain ⟨o,m,x⟩:=y;simp only [Fr] at hl;split at hl
        ·split at hl
         ·split at hl
          ·rename_i z' hz';obtain ⟨rfl,hle⟩:=MB hz';rw [ih _ hl];simp;omega
          ·simp at hl
         ·simp at hl
        ·simp at hl
     have h3:∀k,(Hk k (u.cells.toList.map Dw)).length=k*n:=by
      intro k;induction k with
      | zero=>simp [Hk]
      | succ k ih=>simp [Hk,ih,h9,Nat.add_mul];omega
     rw [h1,this,h3]
    have hC:=Fd l res hd hO;have h1:=Jc hC hI (fun j hj=>absurd hj (Nat.not_lt_zero _));obtain ⟨vss,hP,hD⟩:=fU (M:=M.pure) n len l res hC h6;have hQ:=fV n len l;intro d ty pos af g
    let w':=w.alloc (.cells res.toArray e)
    have hJ:w'.ownsRow 0 e n (.slice (some ⟨w.heap.size,0,none⟩) len len) len res:=⟨h6,.inr ⟨w.heap.size,len,res.toArray,rfl,Nat.zero_le _,(PS w _ _).trans (if_pos rfl),Nat.le_refl _,by unfold maxLen;have:len≤len*n:=Nat.le_mul_of_pos_right _ hw;omega,by simp [h6],by simp [←h6]⟩⟩
    have hK:RelS c M S.bs S.ss w':=by exact E.st.grow ((Below.refl _ _).alloc (Nat.le_refl _) _)
    refine ⟨.slice (some ⟨w.heap.size,0,none⟩) len len,M.addS (.slice (some ⟨w.heap.size,0,none⟩) len len),w',.inl ?_,Mem.le_addS M _,?_,rfl,?_⟩
    ·generalize a.eval=ρ at *;have hE:=Zr u.cells len;rw [h9] at hE;have hR:(Array.range (len*n)).map (fun i=>u.cells[i % n]!)=((List.replicate len u.cells.toList).flatten).toArray:=by rw [←hE]
     have hbig':¬2 ^ 24<len*n:=by omega
     by_cases hG:len*n=0
     ·have hS:len=0:=by
       rcases Nat.mul_eq_zero.1 hG with h | h
       ·exact h
       ·omega
      subst hS;simp at h8;simp [execOp,Instr.buildSlice,run_underlying hu,Fi hn,show Array.range 0=(#[]:Array Nat) from rfl,h8,newRow,w']
     ·simp [execOp,Instr.buildSlice,run_underlying hu,Fi hn,hbig',hG,zeroValue,typeInfo,hi,hL,h9,hR,h8,newRow,w']
    ·have:=hK.name ⟨e,n,Kj n len l⟩ (.slice (some ⟨w.heap.size,0,none⟩) len len) vss hw (EG (Lx M) _ _ _ hP) (by rw [hD];exact h1) (by rw [hD,hQ];exact hJ)
      (fun g hg=>by simp [Value.ownBlock] at hg;subst hg;exact ⟨.inl E.st.size,E.st.Hnew (Nat.le_refl _)⟩)
      (fun i B hB e=>by simp [Value.ownBlock] at e;have:=E.st.blk_lt hB;omega)
      (fun j N g hN e1 e2=>by simp [Value.ownBlock] at e1;have:=E.st.slc_lt hN e2;omega)
     exact this
    ·rw [Bh,←E.st.ns];exact ⟨Nat.lt_succ_self _,by simp [Mem.addS]⟩
   ·simp at he
  ·simp [ev] at he
 ·simp [ev] at he
theorem Q4 {P:Program} {w:World} {x:Operand} {argTypes:Array TypeId} {t0 e:TypeId} (h0:argTypes[0]?=some t0) (hu:P.underlying t0=some (.slice e))
  (ad:Option Addr) (m cp:Nat) (ρ:Operand→Value) (hρ:ρ x = .slice ad m cp) (d:Option Tmp) (ty:TypeId) (pos:String) (af:Array Edge) (E:Option (Nat×Bool)):
  (execOp ρ ⟨d,.call ⟨.builtin .len, #[x],argTypes⟩,ty,pos,af,E⟩).run P w = .ok (.value (.int .i64 m)) w:=by
 simp [execOp,resolve,invoke,builtin,Builtin.len_,hρ,h0,run_underlying hu,goInt]
theorem tY (E:RelT c M S a w) {x:Operand} {argTypes:Array TypeId} {t0 e:TypeId} (h0:argTypes[0]?=some t0) (hu:c.P.underlying t0=some (.slice e))
  (he:ev S (.len (cX x))=some (v,S1,q)):Ce c M S a w (.call ⟨.builtin .len, #[x],argTypes⟩) v S1:=by
 have hx:=Ak E x;simp only [ev] at he;split at he
 ·rename_i hv;simp only [Option.some.injEq,Prod.mk.injEq] at he;obtain ⟨rfl,rfl,_⟩:=he;rw [hv] at hx;exact .same E (Q4 h0 hu none 0 0 _ hx) rfl
 ·rename_i m rows hv;simp only [Option.some.injEq,Prod.mk.injEq] at he;obtain ⟨rfl,rfl,_⟩:=he;rw [hv] at hx;obtain ⟨ad,cp,h1,_⟩:=hx;exact .same E (Q4 h0 hu ad _ cp _ h1) rfl
 ·rename_i j hv;split at he
  ·rename_i L hL;simp only [Option.some.injEq,Prod.mk.injEq] at he;obtain ⟨rfl,rfl,_⟩:=he;rw [hv] at hx;obtain ⟨_,vss,_,_,ho,_⟩:=E.st.slc j L hL;rcases ho.2 with ⟨h1,h2⟩ | ⟨g,cp,cur,h1,_⟩
   ·exact .same E (Q4 h0 hu none 0 0 _ (hx.2.trans h1)) (by rw [h2];rfl)
   ·exact .same E (Q4 h0 hu _ _ cp _ (hx.2.trans h1)) rfl
  ·simp at he
 ·rename_i j lo n m hv;simp only [Option.some.injEq,Prod.mk.injEq] at he;obtain ⟨rfl,rfl,_⟩:=he;rw [hv] at hx;obtain ⟨_,g,len,cp,_,h1⟩:=hx;exact .same E (Q4 h0 hu _ _ _ _ h1) rfl
 ·simp at he
theorem ue (E:RelT c M S a w) {x:Operand} {argTypes:Array TypeId} {t0:TypeId} (h0:argTypes[0]?=some t0) (hu:c.P.underlying t0=some .string)
  (he:ev S (.slen (cX x))=some (v,S1,q)):Ce c M S a w (.call ⟨.builtin .len, #[x],argTypes⟩) v S1:=by
 have hx:=Ak E x;simp only [ev] at he;split at he<;>simp only [Option.some.injEq,Prod.mk.injEq,reduceCtorEq] at he;rename_i s hv;obtain ⟨rfl,rfl,_⟩:=he;rw [hv] at hx;simp only [AV.is] at hx;refine .same (x:=.int .i64 (Ze s)) E (fun _ _ _ _ _=>?_) rfl;generalize a.eval=ρ at *;simp [execOp,resolve,invoke,builtin,Builtin.len_,hx,h0,run_underlying hu,goInt,Ze]
theorem Yi {P:Program} {w:World} {m:Mem}:∀(l:List AV) (vs:List Value) (x n:Int),AV.isL m l vs→
  (IK true x l=some n→(vs.foldlM Builtin.max2 (.int .i64 x)).run P w = .ok (.int .i64 n) w)∧(IK false x l=some n→(vs.foldlM Builtin.min2 (.int .i64 x)).run P w = .ok (.int .i64 n) w)
 | [],vs,x,n,h=>by simp [AV.isL] at h;subst h;constructor<;>intro h<;>simp [IK] at h<;>subst h<;>rfl
 | y::l,_,x,n,⟨u,r,hv,hu,hr⟩=>by
   subst hv;cases y<;>try (constructor<;>intro h<;>simp [IK] at h;done)
   rename_i y;simp only [AV.is] at hu;subst hu;constructor<;>intro h<;>simp only [IK] at h
   ·have:=(Yi (P:=P) (w:=w) l r (max x y) n hr).1 h;simp only [List.foldlM_cons,Sem.run_bind,Builtin.max2,Sem.run_pure,Result.andThen_ok];rw [←this];congr 3;split<;>omega
   ·have:=(Yi (P:=P) (w:=w) l r (min x y) n hr).2 h;simp only [List.foldlM_cons,Sem.run_bind,Builtin.min2,Sem.run_pure,Result.andThen_ok];rw [←this];congr 3;split<;>omega
theorem gR (E:RelT c M S a w) (mx:Bool) {args:Array Operand} {argTypes:Array TypeId}
  (he:ev S (.mm mx (args.toList.map cX))=some (v,S1,q)):Ce c M S a w (.call ⟨.builtin (if mx then .max else .min),args,argTypes⟩) v S1:=by
 have hm:=G9 E args.toList;simp only [ev] at he;split at he
 ·rename_i x l hl;simp only [Option.map_eq_some_iff,Prod.mk.injEq] at he;obtain ⟨n,hn,rfl,rfl,_⟩:=he;rw [hl] at hm;obtain ⟨u,r,h1,h2,h3⟩:=hm;simp only [AV.is] at h2;subst h2;refine .same (x:=.int .i64 n) E (fun _ _ _ _ _=>?_) rfl;generalize a.eval=ρ at *;cases mx
  ·have:=(Yi (P:=c.P) (w:=w) l r x n h3).2 hn;simp [execOp,resolve,invoke,builtin,Builtin.min_,h1,this]
  ·have:=(Yi (P:=c.P) (w:=w) l r x n h3).1 hn;simp [execOp,resolve,invoke,builtin,Builtin.max_,h1,this]
 ·simp at he
theorem tQ (E:RelT c M S a w) (J:Call) (he:ev S (cO c.P (.call J))=some (v,S1,q)):Ce c M S a w (.call J) v S1:=by
 obtain ⟨callee,args,argTypes⟩:=J;simp only [cO] at he;split at he
 ·split at he
  ·split at he<;>simp [ev] at he
  ·simp [ev] at he
  ·simp [ev] at he
 ·simp [ev] at he
 ·split at he
  ·split at he
   ·rename_i t0 x h0 h8;split at he
    ·rename_i e hu;have h6:args = #[x]:=by apply Array.ext';simpa using h8
     subst h6;exact tY E h0 hu he
    ·rename_i hu;have h6:args = #[x]:=by apply Array.ext';simpa using h8
     subst h6;exact ue E h0 hu he
    ·simp [ev] at he
   ·simp [ev] at he
  ·split at he
   ·split at he
    ·split at he
     ·split at he
      ·split at he
       ·split at he<;>simp [ev] at he
       ·simp [ev] at he
      ·simp [ev] at he
     ·simp [ev] at he
    ·split at he
     ·split at he
      ·split at he
       ·split at he<;>simp [ev] at he
       ·simp [ev] at he
      ·simp [ev] at he
     ·simp [ev] at he
   ·simp [ev] at he
  ·split at he
   ·split at he<;>simp [ev] at he
   ·simp [ev] at he
  ·(repeat' (split at he))<;>simp [ev] at he
  ·(repeat' (split at he))<;>simp [ev] at he
  ·exact gR E true he
  ·exact gR E false he
  ·simp [ev] at he
theorem gP (E:RelT c M S a w) (o:Op) (he:ev S (cO c.P o)=some (v,S1,q)) (hq:q):Ce c M S a w o v S1:=by
 cases o with
 | move x=>simp only [cO,ev,Option.some.injEq,Prod.mk.injEq] at he;obtain ⟨rfl,rfl,_⟩:=he;exact u5 E x
 | assign x=>simp only [cO,ev,Option.some.injEq,Prod.mk.injEq] at he;obtain ⟨rfl,rfl,_⟩:=he;exact tK E x
 | pick x y z=>exact uc E x y z he
 | alloc T=>exact tJ E T he
 | box T x=>exact tM E T x he
 | build T ps=>exact tP E T ps he
 | buildSlice T n ps=>exact tO E T n ps he
 | load T x=>exact tZ E T x he
 | store T x y=>exact uf E T x y he
 | nilCheck x=>exact u7 E x he
 | binOp op T x y T2=>
   simp only [cO] at he;split at he
   ·split at he
    ·exact tL E op T x y T2 he hq
    ·simp [ev] at he
   ·rename_i fs hu;refine tU E op T x y T2 hu (q:=q) ?_;simp only [cO,hu];exact he
   ·exact ud E op T x y T2 he
   ·rename_i hu;split at he
    ·exact gQ E false _ rfl T x y T2 hu he
    ·exact gQ E true _ rfl T x y T2 hu he
    ·simp [ev] at he
   ·split at he
    ·split at he<;>simp [ev] at he
    ·simp [ev] at he
   ·simp [ev] at he
   ·simp [ev] at he
 | unOp op T x=>
   simp only [cO] at he;split at he
   ·exact u9 E T x he
   ·exact u6 E T x he hq
   ·simp [ev] at he
 | convert A B x=>exact tT E A B x he hq
 | makeFunc f fi cs=>exact u1 E f fi cs he
 | fieldAddr T x f=>exact tX E T x f he
 | field T x f=>exact tW E T x f he
 | extract x k=>exact tV E x k he
 | call ci=>exact tQ E ci he
 | indexAddr T x i=>
   simp only [cO] at he;split at he
   ·split at he<;>simp [ev] at he
   ·split at he<;>simp [ev] at he
   ·simp [ev] at he
 | index T x i=>
   simp only [cO] at he
   (repeat' (split at he))<;>simp [ev] at he
 | slice T x lo hi mx=>
   simp only [cO] at he
   (repeat' (split at he))<;>simp [ev] at he
 | makeSlice T x y=>
   simp only [cO] at he;split at he
   ·split at he
    ·split at he
     ·split at he<;>simp [ev] at he
     ·simp [ev] at he
    ·simp [ev] at he
   ·simp [ev] at he
 | _=>simp [cO,ev] at he
end
end NX
end Go.Proofs.YtjemlejoladlcaaGreat
