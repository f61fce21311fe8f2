/-
  The symbolic machine: elements of own slices, read and written. No statement of the seat is proved here.
-/
import Derived.Test.YtgamgemlekpepaaGreatH8
namespace Go.Proofs.YtgamgemlekpepaaGreat
namespace NX
open Go Go.RowKit
section
variable {c:Ctx} {M:Mem} {S S':St} {a:Act} {w:World} {fn:Func} {K:AV→List (Option Blk)→List (Option Sl)→Prop} {k:List It} {bs:List (Option Blk)} {ss:List (Option Sl)}
theorem RelS.rewrite (h:RelS c M bs ss w) {j g:Nat} {L:Sl} (hj:Zp ss j=some L) (h6:(M.σ j).ownBlock=some g) {w':World} (hg:w.grownBy w' (some g)) {E:List (List AV)} {vss':List (List Value)} (h1:AV.isLL M.sl L.n E vss')
  (h2:∀v∈vss'.flatten,v.oneCell'=true) (h3:w'.ownsRow 0 L.T L.n (M.σ j) E.length vss'.flatten):RelS c M bs (Zq ss j (some ⟨L.T,L.n,E⟩)) w':=by
 obtain ⟨g0,vss,_,_,hc,h8⟩:=h.slc j L hj;obtain ⟨m1,m2⟩:=h8 g h6;have old:∀i N,Zp (Zq ss j (some (⟨L.T,L.n,E⟩:Sl))) i=some N→(i=j∧N=⟨L.T,L.n,E⟩)∨(i≠j∧Zp ss i=some N):=by
  intro i N hi;rw [Z62] at hi;split at hi
  ·rename_i e;left;exact ⟨e.1,by simpa using hi.symm⟩
  ·rename_i e;right;exact ⟨fun x=>e ⟨x,Z82 hj⟩,hi⟩
 have live:∀i N,Zp (Zq ss j (some (⟨L.T,L.n,E⟩:Sl))) i=some N→∃N',Zp ss i=some N':=by
  intro i N hi;rcases old i N hi with ⟨rfl,_⟩ | ⟨_,h⟩
  ·exact ⟨_,hj⟩
  ·exact ⟨_,h⟩
 obtain ⟨e1,e2,e3,e4,e5⟩:=hg;refine ⟨h.nb,by rw [Z72];exact h.ns,h.so,e1.trans h.os,e2.trans h.tape,e3.trans h.output,Nat.le_trans h.size e4,?_,?_,h.hold,?_,?_,h.d1,?_,?_,h.pin⟩
 ·intro k hk hb;rw [e5 k (Nat.lt_of_lt_of_le hk h.size) (fun e=>by
   simp at e;subst e;rcases m1 with m1 | m1
   ·omega
   ·exact hb m1)]
  exact h.block k hk hb
 ·intro k o hk;have h9:=(Array.getElem?_eq_some_iff.1 (h.hle k o hk)).1;rw [e5 k h9 (fun e=>by simp at e;subst e;rw [m2] at hk;simp at hk)];exact h.hle k o hk
 ·intro i B hi;obtain ⟨g1,g2,vs,g3,g4,g5⟩:=h.blk i B hi;refine ⟨g1,g2,vs,g3,?_,g5⟩;rw [e5 _ (h.blk_lt hi) (fun e=>h.d2 i j B L hi hj (by rw [h6];exact e.symm))];exact g4
 ·intro i N hi;rcases old i N hi with ⟨rfl,rfl⟩ | ⟨hne,hi⟩
  ·exact ⟨g0,vss',h1,h2,h3,h8⟩
  ·obtain ⟨q0,uss,q1,q2,q3,q4⟩:=h.slc i N hi;refine ⟨q0,uss,q1,q2,World.ownsRow.kept q3 (row:=some g) ⟨e1,e2,e3,e4,e5⟩ (.inr fun e=>?_),q4⟩;exact hne (h.d3 i j N L g hi hj e h6)
 ·intro i t B N hi ht;obtain ⟨N',hN⟩:=live t N ht;exact h.d2 i t B N' hi hN
 ·intro i t N O g' hi ht;obtain ⟨N',hN⟩:=live i N hi;obtain ⟨O',hO⟩:=live t O ht;exact h.d3 i t N' O' g' hN hO
theorem Zae (E:RelT c M S a w) {j i:Nat} {L:Sl} {row:List AV} (hj:Zp S.ss j=some L) (hr:L.rows[i]?=some row):
  ∃g cap cur vss vs,M.σ j = .slice (some ⟨g,0,none⟩) L.rows.length cap∧w.heap[g]?=some (.cells cur L.T (0,0))∧cur.size=cap*L.n∧L.rows.length≤cap∧cap≤maxLen∧AV.isLL M.sl L.n L.rows vss∧cur.toList.take (L.rows.length*L.n)=vss.flatten∧
   (∀v∈vss.flatten,v.oneCell'=true)∧vss[i]?=some vs∧vs.length=L.n∧AV.isL M.sl row vs∧(∀(m:Nat) v,vs[m]?=some v→cur[i*L.n+m]?=some v):=by
 obtain ⟨g0,vss,h1,h2,h3,h4⟩:=E.st.slc j L hj;have h6:=(List.getElem?_eq_some_iff.1 hr).1;rcases h3.2 with ⟨_,e3⟩ | ⟨g,cap,cur,e2,_,e3,e4,e5,e6,e7⟩
 ·omega
 ·obtain ⟨vs,q1,q2,q3,q4⟩:=Zi7 h1 i row hr;refine ⟨g,cap,cur,vss,vs,e2,e3,e6,e4,e5,h1,e7,h2,q1,q2,q3,fun m v hm=>?_⟩;have:=q4 m v hm;rw [←e7,List.getElem?_take] at this;split at this
  ·simpa using this
  ·simp at this
theorem Zbe {n j:Nat} {x i:X} {z:Int} {L:Sl} (hx:S.x x = .osl j) (hi:S.x i = .iv z) (hj:Zp S.ss j=some L) (_:L.n=n) (h0:0≤z) (h1:z<L.rows.length):Z67 c S (.idx n x i) (.oel j (z.toNat*n) 0) S:=by
 intro ro h6 M a w hT next Q h9
 obtain ⟨dst,op,ty,pos,af,gd⟩:=ro;dsimp only at h6;obtain ⟨T,y,q,e,rfl,hu,hs,rfl,rfl⟩:=Zc7 h6;have k1:=Z34 hT y;have k2:=Z34 hT q;rw [hx] at k1;rw [hi] at k2;obtain ⟨row,hr⟩:∃row,L.rows[z.toNat]?=some row:=⟨_,List.getElem?_eq_getElem (by omega)⟩
 obtain ⟨g,cap,cur,_,_,e2,_,_,_,_,_⟩:=Zae hT hj hr;have h8:=Zj7 (P:=c.P) (w:=w) hu hs (k1.2.trans e2) k2 h0 h1 dst ty pos af gd;unfold Oper.wp;rw [h8];refine h9 M w _ (.refl M) hT.st ⟨k1.1,g,_,cap,e2,?_⟩;rw [Addr.add_lit];simp
theorem Zce {d:Option Nat} {g:Option (Nat×Bool)} {l:List EOp} {n j:Nat} {x i:X} {z:Int} {L:Sl} (hg:gm S g) (hx:S.x x = .osl j) (hi:S.x i = .iv z) (hj:Zp S.ss j=some L) (E:L.n=n) (h0:0≤z) (h1:z<L.rows.length)
  (h:V c fn K (.ops l::k) (S.put d (.oel j (z.toNat*n) 0))):V c fn K (.ops (⟨d,g,.idx n x i⟩::l)::k) S:=
 Z77 hg (Zbe hx hi hj E h0 h1) rfl h
theorem Zde {α:Type} {l':List α} {z:Int} {v:α} {d:Option Nat} {g:Option (Nat×Bool)} {l:List EOp} {T n j:Nat} {x i:X} (f:α→List AV) (hv:at_ l' z=some v) (hg:gm S g) (hx:S.x x = .osl j) (hi:S.x i = .iv z) (hj:Zp S.ss j=some ⟨T,n,l'.map f⟩)
  (h:V c fn K (.ops l::k) (S.put d (.oel j (z.toNat*n) 0))):V c fn K (.ops (⟨d,g,.idx n x i⟩::l)::k) S:=by
 obtain ⟨h0,hr⟩:=Zgc hv;have:=(List.getElem?_eq_some_iff.1 hr).1;exact Zce hg hx hi hj rfl h0 (by simp;omega) h
theorem Zee {α:Type} {l:List α} {z:Int} {y y':α} (h:at_ l z=some y):at_ (l.set z.toNat y') z=some y':=by obtain ⟨h0,hr⟩:=Zgc h;have:=(List.getElem?_eq_some_iff.1 hr).1;unfold at_;rw [if_pos h0];simp [this]
theorem Zfe {P:Program} {op:Op} {x:X} (E:cO P op = .load x):∃T y,op = .load T y∧Z7 P T=some none∧cX y=x:=by
 cases op
 case load T y=>
  simp only [cO] at E;split at E
  ·rename_i h;simp only [EO.load.injEq] at E;exact ⟨T,y,rfl,h,E⟩
  ·simp at E
  ·simp at E
 all_goals (simp only [cO] at E;(repeat' (split at E))<;>simp at E)
theorem Zge {P:Program} {op:Op} {n:Nat} {x:X} (E:cO P op = .loadA n x):∃T y,op = .load T y∧Z7 P T=some (some n)∧cX y=x:=by
 cases op
 case load T y=>
  simp only [cO] at E;split at E
  ·simp at E
  ·rename_i h;simp only [EO.loadA.injEq] at E;exact ⟨T,y,rfl,by rw [h,E.1],E.2⟩
  ·simp at E
 all_goals (simp only [cO] at E;(repeat' (split at E))<;>simp at E)
theorem Zhe {P:Program} {op:Op} {n:Nat} {x y:X} (E:cO P op = .store n x y):∃T p q,op = .store T p q∧Z9 P T=some n∧cX p=x∧cX q=y:=by
 cases op
 case store T p q=>
  simp only [cO] at E;split at E
  ·rename_i n' h;simp only [EO.store.injEq] at E;exact ⟨T,p,q,rfl,by rw [h,E.1],E.2.1,E.2.2⟩
  ·simp at E
 all_goals (simp only [cO] at E;(repeat' (split at E))<;>simp at E)
theorem Zie (E:RelT c M S a w) {j i n off m:Nat} {L:Sl} {row l:List AV} {u:Value} (hu:(AV.oel j (i*n) off).is M u) (hj:Zp S.ss j=some L) (J:L.n=n) (hr:L.rows[i]?=some row) (hl:Zt row off m=some l):
  ∃g vs,u = .pointer (some ⟨g,i*n+off,none⟩)∧AV.isL M l vs∧vs.length=m∧∀(q:Nat) v,vs[q]?=some v→w.cell? ⟨g,i*n+off+q,none⟩=some v:=by
 subst J;obtain ⟨_,g',n',cap',e1,rfl⟩:=hu;obtain ⟨g,cap,cur,vss,vs,e2,e3,_,_,_,_,_,_,_,q2,q3,q4⟩:=Zae E hj hr;rw [e2] at e1;simp only [Value.slice.injEq,Option.some.injEq,Addr.mk.injEq] at e1;obtain ⟨⟨rfl,_⟩,_⟩:=e1;obtain ⟨rfl,hle⟩:=Zb2 hl;refine ⟨g,(vs.drop off).take m,rfl,Zo2 (Zl2 M) _ _ (Zi2 m (Zj2 off q3)),by have:=Ze2 q3;simp;omega,?_⟩;intro q v hq;rw [List.getElem?_take] at hq;split at hq
 ·simp at hq;have:=q4 _ v hq;simp only [World.cell?,e3];simp only [Option.isSome_none,Bool.false_eq_true,if_false];rw [Nat.add_assoc];exact this
 ·simp at hq
theorem Zje {j i n off:Nat} {x:X} {L:Sl} {row:List AV} {v:AV} (hx:S.x x = .oel j (i*n) off) (hj:Zp S.ss j=some L) (E:L.n=n) (hr:L.rows[i]?=some row) (hl:Zt row off 1=some [v]):Z67 c S (.load x) v S:=by
 intro ro h6 M a w hT next Q h9
 obtain ⟨dst,op,ty,pos,af,gd⟩:=ro;dsimp only at h6;obtain ⟨T,y,rfl,hd,rfl⟩:=Zfe h6;have k1:=Z34 hT y;rw [hx] at k1;obtain ⟨g,vs,hu,h2,h3,h4⟩:=Zie hT k1 hj E hr hl;obtain ⟨u,rfl⟩:∃u,vs=[u]:=by
  cases vs with
  | nil=>simp at h3
  | cons u r=>cases r with
    | nil=>exact ⟨u,rfl⟩
    | cons _ _=>simp at h3
 have hc:=h4 0 u (by simp);have h8:(execOp a.eval ⟨dst,.load T y,ty,pos,af,gd⟩).run c.P w = .ok (.value u) w:=by generalize a.eval=ρ at *;simp only [Nat.add_zero] at hc;simp [execOp,hu,Instr.loadAt,Instr.sureAddr,Zm4 hd hc]
 unfold Oper.wp;rw [h8];refine h9 M w u (.refl M) hT.st ?_;obtain ⟨_,_,h,hy,_⟩:=h2;simp at h;obtain ⟨rfl,rfl⟩:=h;exact hy
theorem Zke {α:Type} {l':List α} {z:Int} {y:α} {d:Option Nat} {g:Option (Nat×Bool)} {l:List EOp} {j T n off:Nat} {x:X} {v:AV} (f:α→List AV) (hv:at_ l' z=some y) (hg:gm S g) (hx:S.x x = .oel j (z.toNat*n) off) (hj:Zp S.ss j=some ⟨T,n,l'.map f⟩)
  (hl:Zt (f y) off 1=some [v]) (h:V c fn K (.ops l::k) (S.put d v)):V c fn K (.ops (⟨d,g,.load x⟩::l)::k) S:=
 Z77 hg (Zje hx hj rfl (Zhc (Zgc hv).2) hl) rfl h
theorem Zle {j i n off m:Nat} {x:X} {L:Sl} {row r:List AV} (hx:S.x x = .oel j (i*n) off) (hj:Zp S.ss j=some L) (E:L.n=n) (hr:L.rows[i]?=some row) (hl:Zt row off m=some r):Z67 c S (.loadA m x) (.agg r) S:=by
 intro ro h6 M a w hT next Q h9
 obtain ⟨dst,op,ty,pos,af,gd⟩:=ro;dsimp only at h6;obtain ⟨T,y,rfl,hc,rfl⟩:=Zge h6;have k1:=Z34 hT y;rw [hx] at k1;obtain ⟨g,vs,hu,h2,h3,h4⟩:=Zie hT k1 hj E hr hl;have h8:(execOp a.eval ⟨dst,.load T y,ty,pos,af,gd⟩).run c.P w = .ok (.value (.agg vs.toArray)) w:=by generalize a.eval=ρ at *;simp [execOp,hu,Instr.loadAt,Instr.sureAddr,Zn4 hc h3 h4]
 unfold Oper.wp;rw [h8];exact h9 M w _ (.refl M) hT.st ⟨vs,rfl,h2⟩
theorem Zme {α:Type} {l':List α} {z:Int} {y:α} {d:Option Nat} {g:Option (Nat×Bool)} {l:List EOp} {j T n off m:Nat} {x:X} {r:List AV} (f:α→List AV) (hv:at_ l' z=some y) (hg:gm S g) (hx:S.x x = .oel j (z.toNat*n) off) (hj:Zp S.ss j=some ⟨T,n,l'.map f⟩)
  (hl:Zt (f y) off m=some r) (h:V c fn K (.ops l::k) (S.put d (.agg r))):V c fn K (.ops (⟨d,g,.loadA m x⟩::l)::k) S:=
 Z77 hg (Zle hx hj rfl (Zhc (Zgc hv).2) hl) rfl h
theorem Zne {M:Mem} {n:Nat}:∀ {rows:List (List AV)} {vss:List (List Value)} {i:Nat} {row:List AV} {vs:List Value},AV.isLL M n rows vss→AV.isL M row vs→vs.length=n→AV.isLL M n (rows.set i row) (vss.set i vs)
 | [],_,i,_,_,h,_,_=>by simp [AV.isLL] at h;subst h;simp [AV.isLL]
 | r::rows,_,0,_,_,⟨v,q,h0,h1,h2,h3⟩,hr,hl=>by subst h0;exact ⟨_,_,rfl,hl,hr,h3⟩
 | r::rows,_,i+1,_,_,⟨v,q,h0,h1,h2,h3⟩,hr,hl=>by subst h0;exact ⟨v,_,rfl,h1,h2,Zne h3 hr hl⟩
theorem Zoe {n off:Nat} {cs:List Value}:∀ {vss:List (List Value)} {i:Nat} {vs:List Value},(∀v∈vss,v.length=n)→vss[i]?=some vs→off+cs.length≤n→
  (vss.set i (vs.take off++cs++vs.drop (off+cs.length))).flatten=vss.flatten.take (i*n+off)++cs++vss.flatten.drop (i*n+off+cs.length)
 | [],i,vs,_,h,_=>by simp at h
 | v::vss,0,vs,hn,h,hle=>by simp at h;subst h;have hv:=hn v (by simp);simp only [List.set_cons_zero,List.flatten_cons,Nat.zero_mul,Nat.zero_add];rw [List.take_append_of_le_length (by omega),List.drop_append_of_le_length (by omega)];simp [List.append_assoc]
 | v::vss,i+1,vs,hn,h,hle=>by have hv:=hn v (by simp);have ih:=Zoe (n:=n) (off:=off) (cs:=cs) (vss:=vss) (i:=i) (vs:=vs) (fun u hu=>hn u (by simp [hu])) (by simpa using h) hle;simp only [List.set_cons_succ,List.flatten_cons];rw [ih,show (i+1)*n+off=v.length+(i*n+off) by rw [hv,Nat.add_mul];omega,show v.length+(i*n+off)+cs.length=v.length+(i*n+off+cs.length) by omega,List.take_length_add_append,List.drop_length_add_append];simp [List.append_assoc]
theorem Zpe {M:Mem} {n:Nat}:∀ {rows:List (List AV)} {vss:List (List Value)},AV.isLL M n rows vss→(∀v∈vss,v.length=n)∧vss.length=rows.length
 | [],_,h=>by simp [AV.isLL] at h;subst h;simp
 | _::rows,_,⟨v,q,h0,h1,h2,h3⟩=>by subst h0;obtain ⟨k1,k2⟩:=Zpe h3;exact ⟨fun u hu=>by rcases List.mem_cons.1 hu with rfl | hu;exact h1;exact k1 u hu,by simp [k2]⟩
def AV.slo:AV→Bool
 | .osl _=>true
 | x=>x.pu
def slL:List AV→Bool
 | []=>true
 | x::l=>Z4 x.slo (slL l)
attribute [go_sem] AV.slo slL
theorem Zqe {M:Mem} (x:AV) (v:Value) (h:x.is M v) (hp:x.slo=true):x.is M.sl v:=by
 cases x
 case osl j=>exact h
 all_goals exact Zn2 (Zk2 M) _ _ (Zt2 _ _ h hp)
theorem Zre {M:Mem}:∀(l:List AV) (vs:List Value),AV.isL M l vs→slL l=true→AV.isL M.sl l vs
 | [],_,h,_=>h
 | x::l,_,⟨v,r,h0,h1,h2⟩,hp=>by simp only [slL,Zz1] at hp;exact ⟨v,r,h0,Zqe x v h1 hp.1,Zre l r h2 hp.2⟩
theorem Zse:∀ {l:List AV},puL l=true→slL l=true
 | [],_=>rfl
 | x::l,h=>by
   simp only [puL,Zz1] at h;simp only [slL,Zz1];refine ⟨?_,Zse h.2⟩;cases x
   case osl j=>rfl
   all_goals exact h.1
theorem Zte {j i n off m:Nat} {x y:X} {L:Sl} {row E cs0 cs:List AV} (hx:S.x x = .oel j (i*n) off) (hj:Zp S.ss j=some L) (J:L.n=n) (hr:L.rows[i]?=some row) (hB:(S.x y).cells=some cs0) (hC:AV.le.leL cs0 cs) (hm:Zw cs=m) (h1:Zx cs=true) (hp:slL cs=true)
  (hl:Zv row off cs=some E):Z67 c S (.store m x y) .un ⟨S.tm,S.bs,Zq S.ss j (some ⟨L.T,L.n,L.rows.set i E⟩)⟩:=by
 intro ro hd M a w hT next Q hD
 obtain ⟨dst,op,ty,pos,af,gd⟩:=ro;dsimp only at hd;obtain ⟨T,p,q,rfl,hE,rfl,rfl⟩:=Zhe hd;have k1:=Z34 hT p;have k2:=Z34 hT q;subst J;rw [hx] at k1;obtain ⟨_,g',n',cap',e1,hG⟩:=k1;obtain ⟨g,cap,cur,vss,vs,e2,e3,e4,e5,e6,e7,e8,e9,q1,q2,q3,q4⟩:=Zae hT hj hr;rw [e2] at e1;simp only [Value.slice.injEq,Option.some.injEq,Addr.mk.injEq] at e1;obtain ⟨⟨rfl,_⟩,_⟩:=e1;have h6:=Zh6 _ _ _ hC (Zr4 (fun j e=>by rw [e] at k2;rw [k2.2];exact hT.st.so j k2.1) k2 hB);have h8:=Zs4 h6 h1 hT.st.so;have ho:=Zre _ _ h6 hp;obtain ⟨rfl,hle⟩:=Zd2 hl;have h9:=Ze2 h6;have hR:=Ze2 q3;have hS:=(List.getElem?_eq_some_iff.1 hr).1;obtain ⟨hI,hU⟩:=Zpe e7;have hJ:(i+1)*L.n≤cap*L.n:=Nat.mul_le_mul_right _ (by omega);have hK:(i+1)*L.n≤L.rows.length*L.n:=Nat.mul_le_mul_right _ (by omega);rw [Nat.add_mul,Nat.one_mul] at hJ hK;have hO:i*L.n+off+(a.eval q).cells.toList.length≤cur.size:=by rw [e4];omega
 have hf:=run_storeCells_at c.P g (i*L.n+off) L.T (a.eval q).cells.toList 0 cur w e3 (by omega) h8;have hsz':(a.eval q).cells.size=m:=by rw [←Array.length_toList,h9,←Z12];exact hm
 have hcur':∀v,(cur.toList.take (i*L.n+off)++v++cur.toList.drop (i*L.n+off+v.length)).length=cur.toList.length∨True:=fun _=>.inr trivial;have hw:(execOp a.eval ⟨dst,.store T p q,ty,pos,af,gd⟩).run c.P w = .ok .skip (w.setRow g (cur.toList.take (i*L.n+off)++(a.eval q).cells.toList++cur.toList.drop (i*L.n+off+(a.eval q).cells.toList.length)).toArray):=by generalize a.eval=ρ at *;simp only [Nat.add_zero] at hf;simp only [execOp,hG,Instr.storeAt,Instr.sureAddr,Sem.run_bind,Sem.run_pure,Result.andThen_ok,storeVar,Z74 hE,hsz',ne_eq,not_true_eq_false,if_false];rw [hf];rfl
 unfold Oper.wp;rw [hw];refine hD M _ _ (.refl M) ?_ rfl;have hvs':AV.isL M.sl (row.take off++cs++row.drop (off+cs.length)) (vs.take off++(a.eval q).cells.toList++vs.drop (off+(a.eval q).cells.toList.length)):=Zh2 (Zh2 (Zi2 off q3) ho) (by rw [h9];exact Zj2 _ q3);have hc:=Zoe (cs:=(a.eval q).cells.toList) (off:=off) hI q1 (by omega);have hP:cur.toList.length=cap*L.n:=by simpa using e4
 have hL:(w.setRow g (cur.toList.take (i*L.n+off)++(a.eval q).cells.toList++cur.toList.drop (i*L.n+off+(a.eval q).cells.toList.length)).toArray).heap[g]?=some (.cells (cur.toList.take (i*L.n+off)++(a.eval q).cells.toList++cur.toList.drop (i*L.n+off+(a.eval q).cells.toList.length)).toArray L.T (0,0)):=by rw [Z23,if_pos rfl,e3];rfl
 refine hT.st.rewrite hj (g:=g) (by rw [e2];rfl) (w':=w.setRow g (cur.toList.take (i*L.n+off)++(a.eval q).cells.toList++cur.toList.drop (i*L.n+off+(a.eval q).cells.toList.length)).toArray)
  ⟨rfl,rfl,rfl,by simp [World.setRow],fun k _ hk=>by rw [Z23,if_neg (fun e=>hk (by rw [e]))]⟩ (vss':=vss.set i (vs.take off++(a.eval q).cells.toList++vs.drop (off+(a.eval q).cells.toList.length))) ?_ ?_ ?_
 ·exact Zne e7 hvs' (by simp only [List.length_append,List.length_take,List.length_drop];omega)
 ·intro v hv;rw [hc] at hv;simp only [List.mem_append] at hv;rcases hv with (hv | hv) | hv
  ·exact e9 v (List.mem_of_mem_take hv)
  ·exact h8 v hv
  ·exact e9 v (List.mem_of_mem_drop hv)
 ·have hQ:vss.flatten.length=L.rows.length*L.n:=Zza e7;refine ⟨?_,.inr ⟨g,cap,_,by rw [List.length_set];exact e2,Nat.zero_le _,hL,by rw [List.length_set];exact e5,e6,?_,?_⟩⟩
  ·rw [hc,List.length_set];simp only [List.length_append,List.length_take,List.length_drop];omega
  ·simp only [List.size_toArray,List.length_append,List.length_take,List.length_drop];omega
  ·rw [hc,List.length_set,←e8];generalize hN:L.rows.length*L.n=N at *;generalize hA:i*L.n+off=A at *;generalize (a.eval q).cells.toList=C at *;generalize cur.toList=D at *;rw [List.append_assoc,List.append_assoc,List.take_append,List.take_of_length_le (by rw [List.length_take];omega),List.take_append,List.take_of_length_le (l:=C) (by rw [List.length_take];omega),List.length_take,Nat.min_eq_left (by omega),List.take_take,Nat.min_eq_left (by omega),List.drop_take];congr 3;omega
theorem Zue {α:Type} {l':List α} {z:Int} {y y':α} {d:Option Nat} {g:Option (Nat×Bool)} {l:List EOp} {j T n off m:Nat} {x v:X} {cs0:List AV} (cs:List AV) (f:α→List AV) (hv:at_ l' z=some y) (hg:gm S g) (hx:S.x x = .oel j (z.toNat*n) off) (hj:Zp S.ss j=some ⟨T,n,l'.map f⟩)
  (h6:(S.x v).cells=some cs0) (h8:AV.le.leL cs0 cs) (hm:Zw cs=m) (h1:Zx cs=true) (hp:puL cs=true) (hl:Zv (f y) off cs=some (f y'))
  (h:V c fn K (.ops l::k) ((⟨S.tm,S.bs,Zq S.ss j (some ⟨T,n,(l'.set z.toNat y').map f⟩)⟩:St).put d .un)):V c fn K (.ops (⟨d,g,.store m x v⟩::l)::k) S:=by
 refine Z77 hg (Zte hx hj rfl (Zhc (Zgc hv).2) h6 h8 hm h1 (Zse hp) hl) rfl ?_;dsimp only;rw [←List.map_set];exact h
end
end NX
end Go.Proofs.YtgamgemlekpepaaGreat
/-
  The symbolic machine: calls that write into the caller's own memory; slices made, own slices cut. No statement of the seat is proved here.
-/
namespace Go.Proofs.YtgamgemlekpepaaGreat
namespace NX
open Go Go.RowKit
def msk {α:Type}:List Bool→List (Option α)→List (Option α)
 | _,[]=>[]
 | [],_::l=>none::msk [] l
 | true::m,x::l=>x::msk m l
 | false::m,_::l=>none::msk m l
def mrg {α:Type}:List Bool→List (Option α)→List (Option α)→List (Option α)
 | _,[],r=>r
 | _,_::_,[]=>[]
 | [],x::l,_::r=>x::mrg [] l r
 | true::m,_::l,y::r=>y::mrg m l r
 | false::m,x::l,_::r=>x::mrg m l r
def mb:List Bool→Nat→Bool
 | [],_=>false
 | b::_,0=>b
 | _::m,j+1=>mb m j
attribute [go_sem] msk mrg
theorem Zve {α:Type}:∀(m:List Bool) (l:List (Option α)),(msk m l).length=l.length
 | _,[]=>by cases ‹List Bool› <;>rfl
 | [],_::l=>by simp [msk,Zve [] l]
 | true::m,x::l=>by simp [msk,Zve m l]
 | false::m,_::l=>by simp [msk,Zve m l]
theorem Zwe {α:Type}:∀ {m:List Bool} {l:List (Option α)} {j:Nat} {B:α},Zp (msk m l) j=some B↔mb m j=true∧Zp l j=some B
 | m,[],j,B=>by cases m<;>simp [msk,Zp]
 | [],x::l,0,B=>by simp [msk,Zp,mb]
 | [],x::l,j+1,B=>by simp [msk,Zp,mb,Zwe (m:=[]) (l:=l) (j:=j)]
 | true::m,x::l,0,B=>by simp [msk,Zp,mb]
 | true::m,x::l,j+1,B=>by simp [msk,Zp,mb,Zwe (m:=m) (l:=l) (j:=j)]
 | false::m,x::l,0,B=>by simp [msk,Zp,mb]
 | false::m,x::l,j+1,B=>by simp [msk,Zp,mb,Zwe (m:=m) (l:=l) (j:=j)]
theorem Zxe {α:Type}:∀(m:List Bool) (l r:List (Option α)),l.length≤r.length→(mrg m l r).length=r.length
 | m,[],r,_=>by cases m<;>rfl
 | m,_::_,[],h=>by simp at h
 | [],x::l,_::r,h=>by simp [mrg,Zxe [] l r (by simpa using h)]
 | true::m,_::l,y::r,h=>by simp [mrg,Zxe m l r (by simpa using h)]
 | false::m,x::l,_::r,h=>by simp [mrg,Zxe m l r (by simpa using h)]
theorem Zye {α:Type}:∀ {m:List Bool} {l r:List (Option α)} {j:Nat} {B:α},l.length≤r.length→Zp (mrg m l r) j=some B→
  (j<l.length∧mb m j=false∧Zp l j=some B)∨((l.length≤j∨mb m j=true)∧Zp r j=some B)
 | m,[],r,j,B,_,h=>.inr ⟨.inl (Nat.zero_le _),by cases m<;>exact h⟩
 | m,_::_,[],j,B,hl,h=>by simp at hl
 | [],x::l,y::r,0,B,hl,h=>.inl ⟨by simp,rfl,h⟩
 | [],x::l,y::r,j+1,B,hl,h=>by
   rcases Zye (m:=[]) (l:=l) (r:=r) (j:=j) (by simpa using hl) h with ⟨h1,_,h3⟩ | ⟨h1,h2⟩
   ·exact .inl ⟨by simpa using h1,rfl,h3⟩
   ·exact .inr ⟨by rcases h1 with h1 | h1;exact .inl (by simpa using h1);simp [mb] at h1,h2⟩
 | true::m,x::l,y::r,0,B,hl,h=>.inr ⟨.inr rfl,h⟩
 | true::m,x::l,y::r,j+1,B,hl,h=>by
   rcases Zye (m:=m) (l:=l) (r:=r) (j:=j) (by simpa using hl) h with ⟨h1,h2,h3⟩ | ⟨h1,h2⟩
   ·exact .inl ⟨by simpa using h1,h2,h3⟩
   ·exact .inr ⟨by rcases h1 with h1 | h1;exact .inl (by simpa using h1);exact .inr h1,h2⟩
 | false::m,x::l,y::r,0,B,hl,h=>.inl ⟨by simp,rfl,h⟩
 | false::m,x::l,y::r,j+1,B,hl,h=>by
   rcases Zye (m:=m) (l:=l) (r:=r) (j:=j) (by simpa using hl) h with ⟨h1,h2,h3⟩ | ⟨h1,h2⟩
   ·exact .inl ⟨by simpa using h1,h2,h3⟩
   ·exact .inr ⟨by rcases h1 with h1 | h1;exact .inl (by simpa using h1);exact .inr h1,h2⟩
def Zze (M:Mem) (bs:List (Option Blk)) (ss:List (Option Sl)) (k:Nat):Prop:=(∃j B,Zp bs j=some B∧M.ρ j=k)∨∃j L,Zp ss j=some L∧(M.σ j).ownBlock=some k
def Ctx.lent (P:Program) (w:World) (M:Mem) (bs:List (Option Blk)) (ss:List (Option Sl)) (np nq:Nat):Ctx:=⟨P,w,M.H,Zze M bs ss,np,M.ρ,nq,M.σ⟩
def Z0f (P:Program) (f:Nat) (args:List AV) (bs:List (Option Blk)) (ss:List (Option Sl)) (v:AV) (E:List (Option Blk)) (J:List (Option Sl)):Prop:=
 bs.length≤E.length∧ss.length≤J.length∧∀(M:Mem) (w:World) (vs:List Value),RelS (Ctx.lent P w M bs ss bs.length ss.length) M bs ss w→AV.isL M args vs→
  Calls P f vs.toArray w fun e w'=>∃u M',e = .returned u∧RelS (Ctx.lent P w M bs ss bs.length ss.length) M' E J w'∧v.is M' u
theorem Z1f {P:Program} {f:Nat} {fn:Func} {body:EC} {rs:List ERes} {np nt:Nat} (U:FnOK P f fn body rs np nt) {args:List AV} {bs E:List (Option Blk)} {ss J:List (Option Sl)} {v:AV} (Y:args.length=np)
  (h1:Z5 (Zw bs) (Zw E)=true) (h2:Z5 (Zw ss) (Zw J)=true) (h3:St.ok ⟨[v],E,J⟩=true)
  (h:∀w M,V (Ctx.lent P w M bs ss (Zw bs) (Zw ss)) fn (fun x b s=>St.le ⟨[x],b,s⟩ ⟨[v],E,J⟩) [.code body] ⟨args++lun nt,bs,ss⟩):Z0f P f args bs ss v E J:=by
 have h1':=h1;have h2':=h2;rw [Z02,Z12,Z12] at h1 h2;refine ⟨h1,h2,fun M w vs hS ha=>?_⟩;obtain ⟨x,hb,hx⟩:=U.b;have hl:=Ze2 ha;refine calls_of_wp U.h hb ?_;have e1:fn.ntmps-vs.toArray.size=nt:=by rw [U.t];simp;omega
 rw [e1];have hT:RelT (Ctx.lent P w M bs ss bs.length ss.length) M ⟨args++lun nt,bs,ss⟩ {tmps:=vs.toArray++Array.replicate nt undef,defers:=[]} w:=by
  refine ⟨by simp [Z17,hl],fun t=>?_,rfl,hS⟩;simp only [Zz6,Array.getD_eq_getD_getElem?,Array.getElem?_append,List.size_toArray];by_cases h:t<args.length
  ·rw [if_pos h,if_pos (by omega)];have:=Z27 ha t h;simpa [List.getD_eq_getElem?_getD] using this
  ·rw [if_neg h,if_neg (by omega)];rcases Z07 nt (t-args.length) with h1 | ⟨_,h1⟩
   ·rw [h1];simp only [AV.is,Array.getElem?_replicate];split<;>rfl
   ·rw [h1];trivial
 have h':=h w M;rw [Z12,Z12] at h';refine wp_mono (h' [.code x] _ _ w ⟨_,_,rfl,hx,rfl⟩ hT) ?_;have mono:∀e w',RK (Ctx.lent P w M bs ss bs.length ss.length) (fun x b s=>St.le ⟨[x],b,s⟩ ⟨[v],E,J⟩) e w'→∃u M',e = .returned u∧RelS (Ctx.lent P w M bs ss bs.length ss.length) M' E J w'∧v.is M' u:=by
  rintro e w' ⟨u,M1,b,s,y,rfl,h6,hv,hle⟩;have h8:RelT (Ctx.lent P w M bs ss bs.length ss.length) M1 ⟨[y],b,s⟩ {tmps:= #[u],defers:=[]} w':=
   ⟨by simp,fun t=>by cases t with
     | zero=>exact hv
     | succ t=>cases t<;>trivial,rfl,h6⟩
  have hW:=h8.weak hle h3 (by rw [Z02,Z12];exact h1) (by rw [Z02,Z12];exact h2);exact ⟨u,_,rfl,hW.st,hW.tm 0⟩
 intro e a w' hq;cases e with
 | normal=>obtain ⟨h1,v,h2,h3⟩:=hq;exact ⟨h1,v,h2,mono _ _ h3⟩
 | ret=>obtain ⟨h1,v,h2,h3⟩:=hq;exact ⟨h1,v,h2,mono _ _ h3⟩
 | panic ch=>obtain ⟨h1,h2⟩:=hq;exact ⟨h1,mono _ _ h2⟩
 | outgrown=>exact mono _ _ hq
 | exit id=>exact hq
 | goto l=>exact hq
theorem Z2f {c:Ctx} {f:Nat} {fn:Func} {body:EC} {rs:List ERes} {np nt:Nat} {k:List It} {S:St} {x v:AV} {E:List (Option Blk)} {J:List (Option Sl)} (ok:FnOK c.P f fn body rs np nt)
 (h:Zs1 S rs=some x) (hle:St.le ⟨[x],S.bs,S.ss⟩ ⟨[v],E,J⟩):V c fn (fun x b s=>St.le ⟨[x],b,s⟩ ⟨[v],E,J⟩) (.code .ret::k) S:=Zw6 ok.r h hle
theorem Z3f {c:Ctx} {f:Nat} {fn:Func} {body:EC} {rs:List ERes} {np nt:Nat} {S:St} {x v:AV} {E:List (Option Blk)} {J:List (Option Sl)} (ok:FnOK c.P f fn body rs np nt)
  (h:Zs1 S rs=some x) (hle:St.le ⟨[x],S.bs,S.ss⟩ ⟨[v],E,J⟩):V c fn (fun x b s=>St.le ⟨[x],b,s⟩ ⟨[v],E,J⟩) [] S:=by
 rintro rk M a w rfl hT;exact Zv6 hT ok.r h hle
section
variable {c:Ctx} {M:Mem} {S S':St} {a:Act} {w:World} {fn:Func} {K:AV→List (Option Blk)→List (Option Sl)→Prop} {k:List It}
theorem Z4f {w w':World} {b e E n:Nat} {v:Value} {xs:List Value} (h:w.ownsRow b e E v n xs) (hh:∀g,v.ownBlock=some g→w'.heap[g]?=w.heap[g]?):w'.ownsRow b e E v n xs:=by refine ⟨h.1,h.2.imp id ?_⟩;rintro ⟨g,cap,cur,rfl,h2,h3,h4⟩;exact ⟨g,cap,cur,rfl,h2,by rw [hh g rfl];exact h3,h4⟩
theorem Z5f (E:RelS c M S.bs S.ss w) (J U:List Bool):RelS (Ctx.lent c.P w M (msk J S.bs) (msk U S.ss) (msk J S.bs).length (msk U S.ss).length) M (msk J S.bs) (msk U S.ss) w:=by
 refine ⟨by rw [Zve];exact E.nb,by rw [Zve];exact E.ns,E.so,rfl,rfl,rfl,Nat.le_refl _,fun _ _ _=>rfl,E.hle,fun _ _ _=>rfl,?_,?_,?_,?_,?_,?_⟩
 ·intro j B hj;obtain ⟨g1,g2,vs,g3,g4,g5⟩:=E.blk j B (Zwe.1 hj).2;exact ⟨.inr (.inl ⟨j,B,hj,rfl⟩),g2,vs,g3,g4,g5⟩
 ·intro j L hj;obtain ⟨g0,vss,g1,g2,g3,g4⟩:=E.slc j L (Zwe.1 hj).2;exact ⟨g0,vss,g1,g2,g3,fun g hg=>⟨.inr (.inr ⟨j,L,hj,hg⟩),(g4 g hg).2⟩⟩
 ·intro i j B C hi hj e;exact E.d1 i j B C (Zwe.1 hi).2 (Zwe.1 hj).2 e
 ·intro i j B L hi hj;exact E.d2 i j B L (Zwe.1 hi).2 (Zwe.1 hj).2
 ·intro i j L N g hi hj;exact E.d3 i j L N g (Zwe.1 hi).2 (Zwe.1 hj).2
 ·exact ⟨by rw [show (Ctx.lent c.P w M (msk J S.bs) (msk U S.ss) (msk J S.bs).length (msk U S.ss).length).np=(msk J S.bs).length from rfl,Zve,E.nb];exact Nat.le_refl _,fun _ _=>rfl,
   by rw [show (Ctx.lent c.P w M (msk J S.bs) (msk U S.ss) (msk J S.bs).length (msk U S.ss).length).nq=(msk U S.ss).length from rfl,Zve,E.ns];exact Nat.le_refl _,fun _ _=>rfl,E.pin.gl⟩
theorem Z6f {J U:List Bool} {M':Mem} {w':World} {Y:List (Option Blk)} {Z:List (Option Sl)} (E:RelS c M S.bs S.ss w) (hb:(msk J S.bs).length≤Y.length) (hs:(msk U S.ss).length≤Z.length)
  (h:RelS (Ctx.lent c.P w M (msk J S.bs) (msk U S.ss) (msk J S.bs).length (msk U S.ss).length) M' Y Z w'):M.le M'∧RelS c M' (mrg J S.bs Y) (mrg U S.ss Z) w':=by
 rw [Zve] at hb hs;have lentMine:∀g,Zze M (msk J S.bs) (msk U S.ss) g→Z03 c g∧M.H g=none:=by
  rintro g (⟨j,B,hj,rfl⟩ | ⟨j,L,hj,hg⟩)
  ·obtain ⟨g1,g2,_⟩:=E.blk j B (Zwe.1 hj).2;exact ⟨g1,g2⟩
  ·obtain ⟨_,_,_,_,_,g4⟩:=E.slc j L (Zwe.1 hj).2;exact g4 g hg
 have size0:=E.size;have size1:w.heap.size≤w'.heap.size:=h.size;have hρ:∀j,j<S.bs.length→M'.ρ j=M.ρ j:=fun j hj=>h.pin.ρ j (by show j<(msk J S.bs).length;rw [Zve];exact hj);have hσ:∀j,j<S.ss.length→M'.σ j=M.σ j:=fun j hj=>h.pin.σ j (by show j<(msk U S.ss).length;rw [Zve];exact hj);have hH:∀k o,M.H k=some o→M'.H k=some o:=by intro k o hk;have h6:=(Array.getElem?_eq_some_iff.1 (E.hle k o hk)).1;have:=h.hold k h6 (fun hl=>by rw [(lentMine k hl).2] at hk;simp at hk);rw [this];exact hk
 have hle:M.le M':=⟨by rw [E.nb,h.nb];exact hb,by rw [E.ns,h.ns];exact hs,fun j hj=>hρ j (by rw [←E.nb];exact hj),fun j hj=>hσ j (by rw [←E.ns];exact hj),hH⟩
 have Zkd1:∀j B,Zp S.bs j=some B→mb J j=false→¬Zze M (msk J S.bs) (msk U S.ss) (M.ρ j):=by
  rintro j B hj hm (⟨i,C,hi,e⟩ | ⟨i,L,hi,e⟩)
  ·have:=E.d1 i j C B (Zwe.1 hi).2 hj e;subst this;rw [(Zwe.1 hi).1] at hm;simp at hm
  ·exact E.d2 j i B L hj (Zwe.1 hi).2 e
 have keepS:∀j L g,Zp S.ss j=some L→mb U j=false→(M.σ j).ownBlock=some g→¬Zze M (msk J S.bs) (msk U S.ss) g:=by
  rintro j L g hj hm hg (⟨i,C,hi,e⟩ | ⟨i,N,hi,e⟩)
  ·exact E.d2 i j C L (Zwe.1 hi).2 hj (by rw [e];exact hg)
  ·have:=E.d3 i j N L g (Zwe.1 hi).2 hj e hg;subst this;rw [(Zwe.1 hi).1] at hm;simp at hm
 have newMine:∀g,Z03 (Ctx.lent c.P w M (msk J S.bs) (msk U S.ss) (msk J S.bs).length (msk U S.ss).length) g→Z03 c g:=by
  rintro g (hg | hg)
  ·exact .inl (Nat.le_trans size0 hg)
  ·exact (lentMine g hg).1
 have apart:∀g k,Z03 (Ctx.lent c.P w M (msk J S.bs) (msk U S.ss) (msk J S.bs).length (msk U S.ss).length) g→k<w.heap.size→¬Zze M (msk J S.bs) (msk U S.ss) k→g≠k:=by
  rintro g k (hg | hg) hk hn rfl
  ·exact Nat.lt_irrefl _ (Nat.lt_of_lt_of_le hk hg)
  ·exact hn hg
 refine ⟨hle,⟨by rw [Zxe _ _ _ hb];exact h.nb,by rw [Zxe _ _ _ hs];exact h.ns,h.so,h.os.trans E.os,h.tape.trans E.tape,h.output.trans E.output,Nat.le_trans size0 size1,?_,h.hle,?_,?_,?_,?_,?_,?_,E.pin.le hle⟩⟩
 ·intro k hk hn;have h8:¬Zze M (msk J S.bs) (msk U S.ss) k:=fun hl=>by
   rcases (lentMine k hl).1 with h1 | h1
   ·omega
   ·exact hn h1
  exact (h.block k (Nat.lt_of_lt_of_le hk size0) h8).trans (E.block k hk hn)
 ·intro k hk hn;have h8:¬Zze M (msk J S.bs) (msk U S.ss) k:=fun hl=>by
   rcases (lentMine k hl).1 with h1 | h1
   ·omega
   ·exact hn h1
  exact (h.hold k (Nat.lt_of_lt_of_le hk size0) h8).trans (E.hold k hk hn)
 ·intro j B hj;rcases Zye hb hj with ⟨h1,h2,h3⟩ | ⟨_,h3⟩
  ·obtain ⟨g1,g2,vs,g3,g4,g5⟩:=E.blk j B h3;have h6:=E.blk_lt h3;have hn:=Zkd1 j B h3 h2;rw [hρ j h1];exact ⟨g1,(h.hold _ h6 hn).trans g2,vs,Zo2 hle _ _ g3,(h.block _ h6 hn).trans g4,g5⟩
  ·obtain ⟨g1,g2,vs,g3,g4,g5⟩:=h.blk j B h3;exact ⟨newMine _ g1,g2,vs,g3,g4,g5⟩
 ·intro j L hj;rcases Zye hs hj with ⟨h1,h2,h3⟩ | ⟨_,h3⟩
  ·obtain ⟨g0,vss,g1,g2,g3,g4⟩:=E.slc j L h3;rw [hσ j h1];exact ⟨g0,vss,Zp2 hle.sl _ _ _ g1,g2,Z4f g3 fun g hg=>h.block g (E.slc_lt h3 hg) (keepS j L g h3 h2 hg),fun g hg=>⟨(g4 g hg).1,(h.hold g (E.slc_lt h3 hg) (keepS j L g h3 h2 hg)).trans (g4 g hg).2⟩⟩
  ·obtain ⟨g0,vss,g1,g2,g3,g4⟩:=h.slc j L h3;exact ⟨g0,vss,g1,g2,g3,fun g hg=>⟨newMine _ (g4 g hg).1,(g4 g hg).2⟩⟩
 ·intro i j B C hi hj e;rcases Zye hb hi with ⟨h1,h2,h3⟩ | ⟨_,h3⟩<;>rcases Zye hb hj with ⟨k1,k2,k3⟩ | ⟨_,k3⟩
  ·rw [hρ i h1,hρ j k1] at e;exact E.d1 i j B C h3 k3 e
  ·rw [hρ i h1] at e;exact absurd e.symm (apart _ _ (h.blk j C k3).1 (E.blk_lt h3) (Zkd1 i B h3 h2))
  ·rw [hρ j k1] at e;exact absurd e (apart _ _ (h.blk i B h3).1 (E.blk_lt k3) (Zkd1 j C k3 k2))
  ·exact h.d1 i j B C h3 k3 e
 ·intro i j B L hi hj;rcases Zye hb hi with ⟨h1,h2,h3⟩ | ⟨_,h3⟩<;>rcases Zye hs hj with ⟨k1,k2,k3⟩ | ⟨_,k3⟩
  ·rw [hρ i h1,hσ j k1];exact E.d2 i j B L h3 k3
  ·rw [hρ i h1];intro e;obtain ⟨_,_,_,_,_,g4⟩:=h.slc j L k3;exact apart _ _ (g4 _ e).1 (E.blk_lt h3) (Zkd1 i B h3 h2) rfl
  ·rw [hσ j k1];intro e;exact apart _ _ (h.blk i B h3).1 (E.slc_lt k3 e) (keepS j L _ k3 k2 e) rfl
  ·exact h.d2 i j B L h3 k3
 ·intro i j L N g hi hj e1 e2;rcases Zye hs hi with ⟨h1,h2,h3⟩ | ⟨_,h3⟩<;>rcases Zye hs hj with ⟨k1,k2,k3⟩ | ⟨_,k3⟩
  ·rw [hσ i h1] at e1;rw [hσ j k1] at e2;exact E.d3 i j L N g h3 k3 e1 e2
  ·rw [hσ i h1] at e1;obtain ⟨_,_,_,_,_,g4⟩:=h.slc j N k3;exact absurd rfl (apart _ _ (g4 g e2).1 (E.slc_lt h3 e1) (keepS i L g h3 h2 e1))
  ·rw [hσ j k1] at e2;obtain ⟨_,_,_,_,_,g4⟩:=h.slc i L h3;exact absurd rfl (apart _ _ (g4 g e1).1 (E.slc_lt k3 e2) (keepS j N g k3 k2 e2))
  ·exact h.d3 i j L N g h3 k3 e1 e2
theorem Z7f {f:Nat} {xs:List X} {args:List AV} {v:AV} {bs E:List (Option Blk)} {ss J:List (Option Sl)} (U Y:List Bool) (Z:Z0f c.P f args bs ss v E J) (h8:msk U S.bs=bs) (h9:msk Y S.ss=ss)
  (ha:AV.le.leL (Z71 S xs) args):Z67 c S (.call f xs) v ⟨S.tm,mrg U S.bs E,mrg Y S.ss J⟩:=by
 subst h8;subst h9;intro ro ho M a w hT next Q hn
 obtain ⟨dst,op,ty,pos,af,gd⟩:=ro;dsimp only at ho;obtain ⟨cargs,argTypes,rfl,hd,rfl⟩:=Za7 ho;have hm:=Zh6 _ _ _ ha (Zo5 hT cargs.toList);obtain ⟨f1,f2,f3⟩:=Z;have hc:=f3 M w _ (Z5f hT.st U Y) hm;have h6:(execOp a.eval ⟨dst,.call ⟨.value (.func f),cargs,argTypes⟩,ty,pos,af,gd⟩).run c.P w = .ok (.enter f (cargs.map a.eval)) w:=by have he:a.eval (.func f) = .func (.func f) #[] #[]:=rfl;generalize a.eval=ρ at *;simp [execOp,resolve,Deferred.ofValue,invoke,he,Z97 hd]
 unfold Oper.wp;rw [h6];show Calls c.P f (cargs.map a.eval) w _;have e1:(cargs.toList.map a.eval).toArray=cargs.map a.eval:=by apply Array.ext';simp
 rw [←e1];refine hc.mono ?_;rintro e w' ⟨u,M',rfl,h1,h2⟩;obtain ⟨hle,hS⟩:=Z6f hT.st f1 f2 h1;exact hn M' w' u hle hS h2
theorem Z8f {d:Option Nat} {g:Option (Nat×Bool)} {l:List EOp} {f:Nat} {xs:List X} {args:List AV} {v:AV} {bs E:List (Option Blk)} {ss J:List (Option Sl)} (U Y:List Bool) (hg:gm S g) (Z:Z0f c.P f args bs ss v E J) (h6:msk U S.bs=bs:=by rfl) (h8:msk Y S.ss=ss:=by rfl)
  (ha:AV.le.leL (Z71 S xs) args:=by first | exact Zqb _ | simp [go_sem]) (h:V c fn K (.ops l::k) ((⟨S.tm,mrg U S.bs E,mrg Y S.ss J⟩:St).put d v)):V c fn K (.ops (⟨d,g,.call f xs⟩::l)::k) S:=
 Z77 hg (Z7f U Y Z h6 h8 ha) rfl h
theorem Z9f {f:Nat} {o:X} {xs:List X} {caps args:List AV} {v:AV} {bs E:List (Option Blk)} {ss J:List (Option Sl)} (U Y:List Bool) (ho:S.x o = .clo f caps) (Z:Z0f c.P f args bs ss v E J)
  (h9:(c.P.funcs[f]?).any (fun fn=>fn.body.isSome&&!(fn.name == "runtime.NumGoroutine"))=true) (hd:msk U S.bs=bs) (hw:msk Y S.ss=ss)
  (ha:AV.le.leL (Z71 S xs++caps) args):Z67 c S (.callv o xs) v ⟨S.tm,mrg U S.bs E,mrg Y S.ss J⟩:=by
 subst hd;subst hw;intro ro h6 M a w hT next Q hn
 obtain ⟨dst,op,ty,pos,af,gd⟩:=ro;dsimp only at h6;obtain ⟨t,cargs,argTypes,rfl,rfl,rfl⟩:=Zb7 h6;have hx:=Z34 hT (.tmp t);rw [show S.x (cX (.tmp t)) = .clo f caps from ho] at hx;obtain ⟨cv,hx1,hA⟩:=hx;have hm:=Zh6 _ _ _ ha (Zh2 (Zo5 hT cargs.toList) hA);obtain ⟨f1,f2,f3⟩:=Z;have hc:=f3 M w _ (Z5f hT.st U Y) hm;have h8:(execOp a.eval ⟨dst,.call ⟨.value (.tmp t),cargs,argTypes⟩,ty,pos,af,gd⟩).run c.P w = .ok (.enter f (cargs.map a.eval++cv.toArray)) w:=by generalize a.eval=ρ at *;simp [execOp,resolve,Deferred.ofValue,invoke,hx1,Z97 h9]
 unfold Oper.wp;rw [h8];show Calls c.P f (cargs.map a.eval++cv.toArray) w _;have e1:(cargs.toList.map a.eval++cv).toArray=cargs.map a.eval++cv.toArray:=by apply Array.ext';simp
 rw [←e1];refine hc.mono ?_;rintro e w' ⟨u,M',rfl,h1,h2⟩;obtain ⟨hle,hS⟩:=Z6f hT.st f1 f2 h1;exact hn M' w' u hle hS h2
theorem Zaf {d:Option Nat} {g:Option (Nat×Bool)} {l:List EOp} {f:Nat} {o:X} {xs:List X} {caps args:List AV} {v:AV} {bs E:List (Option Blk)} {ss J:List (Option Sl)} (U Y:List Bool) (hg:gm S g) (ho:S.x o = .clo f caps) (Z:Z0f c.P f args bs ss v E J)
  (h6:(c.P.funcs[f]?).any (fun fn=>fn.body.isSome&&!(fn.name == "runtime.NumGoroutine"))=true) (h8:msk U S.bs=bs:=by rfl) (h9:msk Y S.ss=ss:=by rfl)
  (ha:AV.le.leL (Z71 S xs++caps) args:=by first | exact Zqb _ | simp [go_sem]) (h:V c fn K (.ops l::k) ((⟨S.tm,mrg U S.bs E,mrg Y S.ss J⟩:St).put d v)):V c fn K (.ops (⟨d,g,.callv o xs⟩::l)::k) S:=
 Z77 hg (Z9f U Y ho Z h6 h8 h9 ha) rfl h
end
end NX
end Go.Proofs.YtgamgemlekpepaaGreat
