/-
  The symbolic machine: elements of own slices, read and written. No statement of the seat is proved here.
-/
import Derived.Test.YtjemlejoladlcaaGreatL8
namespace Go.Proofs.YtjemlejoladlcaaGreat
namespace NX
open Go Go.RowKit
section
variable {c:Ctx} {M:Mem} {S S':St} {a:Act} {w:World} {fn:Func} {K:AV→List (Option Blk)→List (Option Sl)→Prop} {k:List It} {bs:List (Option Blk)} {ss:List (Option Sl)}
theorem RelS.rewrite (h:RelS c M bs ss w) {j g:Nat} {L:Sl} (hj:A2 ss j=some L) (h6:(M.σ j).ownBlock=some g) {w':World} (hg:w.grownBy w' (some g)) {E:List (List AV)} {vss':List (List Value)} (h1:AV.isLL M.sl L.n E vss')
  (h2:∀v∈vss'.flatten,v.oneCell'=true) (h3:w'.ownsRow 0 L.T L.n (M.σ j) E.length vss'.flatten):RelS c M bs (Ar ss j (some ⟨L.T,L.n,E⟩)) w':=by
 obtain ⟨g0,vss,_,_,h9,h8⟩:=h.slc j L hj;obtain ⟨m1,m2⟩:=h8 g h6;have old:∀i N,A2 (Ar ss j (some (⟨L.T,L.n,E⟩:Sl))) i=some N→(i=j∧N=⟨L.T,L.n,E⟩)∨(i≠j∧A2 ss i=some N):=by
  intro i N hi;rw [Du] at hi;split at hi
  ·rename_i e;left;exact ⟨e.1,by simpa using hi.symm⟩
  ·rename_i e;right;exact ⟨fun x=>e ⟨x,Cu hj⟩,hi⟩
 have live:∀i N,A2 (Ar ss j (some (⟨L.T,L.n,E⟩:Sl))) i=some N→∃N',A2 ss i=some N':=by
  intro i N hi;rcases old i N hi with ⟨rfl,_⟩ | ⟨_,h⟩
  ·exact ⟨_,hj⟩
  ·exact ⟨_,h⟩
 obtain ⟨e1,e2,e3,e4,e5⟩:=hg;refine ⟨h.nb,by rw [Dd];exact h.ns,h.so,e1.trans h.os,e2.trans h.tape,e3.trans h.output,Nat.le_trans h.size e4,?_,?_,h.hold,?_,?_,h.d1,?_,?_,h.pin⟩
 ·intro k hk hb;rw [e5 k (Nat.lt_of_lt_of_le hk h.size) (fun e=>by
   simp at e;subst e;rcases m1 with m1 | m1
   ·omega
   ·exact hb m1)]
  exact h.block k hk hb
 ·intro k o hk;have hlt:=(Array.getElem?_eq_some_iff.1 (h.hle k o hk)).1;rw [e5 k hlt (fun e=>by simp at e;subst e;rw [m2] at hk;simp at hk)];exact h.hle k o hk
 ·intro i B hi;obtain ⟨g1,g2,vs,g3,g4,g5⟩:=h.blk i B hi;refine ⟨g1,g2,vs,g3,?_,g5⟩;rw [e5 _ (h.blk_lt hi) (fun e=>h.d2 i j B L hi hj (by rw [h6];exact e.symm))];exact g4
 ·intro i N hi;rcases old i N hi with ⟨rfl,rfl⟩ | ⟨hne,hi⟩
  ·exact ⟨g0,vss',h1,h2,h3,h8⟩
  ·obtain ⟨q0,uss,q1,q2,q3,q4⟩:=h.slc i N hi;refine ⟨q0,uss,q1,q2,World.ownsRow.kept q3 (row:=some g) ⟨e1,e2,e3,e4,e5⟩ (.inr fun e=>?_),q4⟩;exact hne (h.d3 i j N L g hi hj e h6)
 ·intro i t B N hi ht;obtain ⟨N',hN⟩:=live t N ht;exact h.d2 i t B N' hi hN
 ·intro i t N O g' hi ht;obtain ⟨N',hN⟩:=live i N hi;obtain ⟨O',hO⟩:=live t O ht;exact h.d3 i t N' O' g' hN hO
theorem dd (E:RelT c M S a w) {j i:Nat} {L:Sl} {row:List AV} (hj:A2 S.ss j=some L) (hr:L.rows[i]?=some row):
  ∃g cap cur vss vs,M.σ j = .slice (some ⟨g,0,none⟩) L.rows.length cap∧w.heap[g]?=some (.cells cur L.T (0,0))∧cur.size=cap*L.n∧L.rows.length≤cap∧cap≤maxLen∧AV.isLL M.sl L.n L.rows vss∧cur.toList.take (L.rows.length*L.n)=vss.flatten∧
   (∀v∈vss.flatten,v.oneCell'=true)∧vss[i]?=some vs∧vs.length=L.n∧AV.isL M.sl row vs∧(∀(m:Nat) v,vs[m]?=some v→cur[i*L.n+m]?=some v):=by
 obtain ⟨g0,vss,h1,h2,h3,h4⟩:=E.st.slc j L hj;have hlt:=(List.getElem?_eq_some_iff.1 hr).1;rcases h3.2 with ⟨_,e3⟩ | ⟨g,cap,cur,e2,_,e3,e4,e5,e6,e7⟩
 ·omega
 ·obtain ⟨vs,q1,q2,q3,q4⟩:=V8 h1 i row hr;refine ⟨g,cap,cur,vss,vs,e2,e3,e6,e4,e5,h1,e7,h2,q1,q2,q3,fun m v hm=>?_⟩;have:=q4 m v hm;rw [←e7,List.getElem?_take] at this;split at this
  ·simpa using this
  ·simp at this
theorem n8 {n j:Nat} {x i:X} {z:Int} {L:Sl} (hx:S.x x = .osl j) (hi:S.x i = .iv z) (hj:A2 S.ss j=some L) (_:L.n=n) (h0:0≤z) (h1:z<L.rows.length):Bi c S (.idx n x i) (.oel j (z.toNat*n) 0) S:=by
 intro ro h6 M a w hT next Q h9
 obtain ⟨dst,op,ty,pos,af,gd⟩:=ro;dsimp only at h6;obtain ⟨T,y,q,e,rfl,hu,hs,rfl,rfl⟩:=PB h6;have k1:=Ak hT y;have k2:=Ak hT q;rw [hx] at k1;rw [hi] at k2;obtain ⟨row,hr⟩:∃row,L.rows[z.toNat]?=some row:=⟨_,List.getElem?_eq_getElem Om⟩
 obtain ⟨g,cap,cur,_,_,e2,_,_,_,_,_⟩:=dd hT hj hr;have h8:=i9 (P:=c.P) (w:=w) hu hs (k1.2.trans e2) k2 h0 h1 dst ty pos af gd;unfold Oper.wp;rw [h8];refine h9 M w _ (.refl M) hT.st ⟨k1.1,g,_,cap,e2,?_⟩;rw [Addr.add_lit];simp
theorem pA {d:Option Nat} {g:Option (Nat×Bool)} {l:List EOp} {n j:Nat} {x i:X} {z:Int} {L:Sl} (hg:gm S g) (hx:S.x x = .osl j) (hi:S.x i = .iv z) (hj:A2 S.ss j=some L) (hn:L.n=n) (h0:0≤z) (h1:z<L.rows.length)
  (h:V c fn K (.ops l::k) (S.put d (.oel j (z.toNat*n) 0))):V c fn K (.ops (⟨d,g,.idx n x i⟩::l)::k) S:=
 AU hg (n8 hx hi hj hn h0 h1) rfl h
theorem BR {α:Type} {l':List α} {z:Int} {v:α} {d:Option Nat} {g:Option (Nat×Bool)} {l:List EOp} {T n j:Nat} {x i:X} (f:α→List AV) (hv:A4 l' z=some v) (hg:gm S g) (hx:S.x x = .osl j) (hi:S.x i = .iv z) (hj:A2 S.ss j=some ⟨T,n,l'.map f⟩)
  (h:V c fn K (.ops l::k) (S.put d (.oel j (z.toNat*n) 0))):V c fn K (.ops (⟨d,g,.idx n x i⟩::l)::k) S:=by
 obtain ⟨h0,hr⟩:=EA hv;have:=(List.getElem?_eq_some_iff.1 hr).1;exact pA hg hx hi hj rfl h0 (by simp;omega) h
theorem FW {α:Type} {l:List α} {z:Int} {y y':α} (h:A4 l z=some y):A4 (l.set z.toNat y') z=some y':=by obtain ⟨h0,hr⟩:=EA h;have:=(List.getElem?_eq_some_iff.1 hr).1;unfold A4;rw [if_pos h0];simp [this]
theorem qT {P:Program} {op:Op} {x:X} (ho:cO P op = .load x):∃T y,op = .load T y∧Ez P T=some none∧cX y=x:=by
 cases op
 case load T y=>
  simp only [cO] at ho;split at ho
  ·rename_i h;simp only [EO.load.injEq] at ho;exact ⟨T,y,rfl,h,ho⟩
  ·simp at ho
  ·simp at ho
 all_goals (simp only [cO] at ho;(repeat' (split at ho))<;>simp at ho)
theorem qU {P:Program} {op:Op} {n:Nat} {x:X} (ho:cO P op = .loadA n x):∃T y,op = .load T y∧Ez P T=some (some n)∧cX y=x:=by
 cases op
 case load T y=>
  simp only [cO] at ho;split at ho
  ·simp at ho
  ·rename_i h;simp only [EO.loadA.injEq] at ho;exact ⟨T,y,rfl,by rw [h,ho.1],ho.2⟩
  ·simp at ho
 all_goals (simp only [cO] at ho;(repeat' (split at ho))<;>simp at ho)
theorem qY {P:Program} {op:Op} {n:Nat} {x y:X} (ho:cO P op = .store n x y):∃T p q,op = .store T p q∧C9 P T=some n∧cX p=x∧cX q=y:=by
 cases op
 case store T p q=>
  simp only [cO] at ho;split at ho
  ·rename_i n' h;simp only [EO.store.injEq] at ho;exact ⟨T,p,q,rfl,by rw [h,ho.1],ho.2.1,ho.2.2⟩
  ·simp at ho
 all_goals (simp only [cO] at ho;(repeat' (split at ho))<;>simp at ho)
theorem ka (E:RelT c M S a w) {j i n off m:Nat} {L:Sl} {row l:List AV} {u:Value} (hu:(AV.oel j (i*n) off).is M u) (hj:A2 S.ss j=some L) (hn:L.n=n) (hr:L.rows[i]?=some row) (hl:Dr row off m=some l):
  ∃g vs,u = .pointer (some ⟨g,i*n+off,none⟩)∧AV.isL M l vs∧vs.length=m∧∀(q:Nat) v,vs[q]?=some v→w.cell? ⟨g,i*n+off+q,none⟩=some v:=by
 subst hn;obtain ⟨_,g',n',cap',e1,rfl⟩:=hu;obtain ⟨g,cap,cur,vss,vs,e2,e3,_,_,_,_,_,_,_,q2,q3,q4⟩:=dd E hj hr;rw [e2] at e1;simp only [Value.slice.injEq,Option.some.injEq,Addr.mk.injEq] at e1;obtain ⟨⟨rfl,_⟩,_⟩:=e1;obtain ⟨rfl,hle⟩:=Kv hl;refine ⟨g,(vs.drop off).take m,rfl,E0 (Z17 M) _ _ (FZ m (FY off q3)),by have:=D5 q3;simp;omega,?_⟩;intro q v hq;rw [List.getElem?_take] at hq;split at hq
 ·simp at hq;have:=q4 _ v hq;simp only [World.cell?,e3];simp only [Option.isSome_none,Bool.false_eq_true,if_false];rw [Nat.add_assoc];exact this
 ·simp at hq
theorem dP {j i n off:Nat} {x:X} {L:Sl} {row:List AV} {v:AV} (hx:S.x x = .oel j (i*n) off) (hj:A2 S.ss j=some L) (hn:L.n=n) (hr:L.rows[i]?=some row) (hl:Dr row off 1=some [v]):Bi c S (.load x) v S:=by
 intro ro h6 M a w hT next Q h9
 obtain ⟨dst,op,ty,pos,af,gd⟩:=ro;dsimp only at h6;obtain ⟨T,y,rfl,hd,rfl⟩:=qT h6;have k1:=Ak hT y;rw [hx] at k1;obtain ⟨g,vs,hu,h2,h3,h4⟩:=ka hT k1 hj hn hr hl;obtain ⟨u,rfl⟩:∃u,vs=[u]:=by
  cases vs with
  | nil=>simp at h3
  | cons u r=>cases r with
    | nil=>exact ⟨u,rfl⟩
    | cons _ _=>simp at h3
 have hc:=h4 0 u (by simp);have h8:(execOp a.eval ⟨dst,.load T y,ty,pos,af,gd⟩).run c.P w = .ok (.value u) w:=by generalize a.eval=ρ at *;simp only [Nat.add_zero] at hc;simp [execOp,hu,Instr.loadAt,Instr.sureAddr,bC hd hc]
 unfold Oper.wp;rw [h8];refine h9 M w u (.refl M) hT.st ?_;obtain ⟨_,_,h,hy,_⟩:=h2;simp at h;obtain ⟨rfl,rfl⟩:=h;exact hy
theorem CA {α:Type} {l':List α} {z:Int} {y:α} {d:Option Nat} {g:Option (Nat×Bool)} {l:List EOp} {j T n off:Nat} {x:X} {v:AV} (f:α→List AV) (hv:A4 l' z=some y) (hg:gm S g) (hx:S.x x = .oel j (z.toNat*n) off) (hj:A2 S.ss j=some ⟨T,n,l'.map f⟩)
  (hl:Dr (f y) off 1=some [v]) (h:V c fn K (.ops l::k) (S.put d v)):V c fn K (.ops (⟨d,g,.load x⟩::l)::k) S:=
 AU hg (dP hx hj rfl (IP (EA hv).2) hl) rfl h
theorem Z0Q {j i n off m:Nat} {x:X} {L:Sl} {row r:List AV} (hx:S.x x = .oel j (i*n) off) (hj:A2 S.ss j=some L) (hn:L.n=n) (hr:L.rows[i]?=some row) (hl:Dr row off m=some r):Bi c S (.loadA m x) (.agg r) S:=by
 intro ro h6 M a w hT next Q h9
 obtain ⟨dst,op,ty,pos,af,gd⟩:=ro;dsimp only at h6;obtain ⟨T,y,rfl,hd,rfl⟩:=qU h6;have k1:=Ak hT y;rw [hx] at k1;obtain ⟨g,vs,hu,h2,h3,h4⟩:=ka hT k1 hj hn hr hl;have h8:(execOp a.eval ⟨dst,.load T y,ty,pos,af,gd⟩).run c.P w = .ok (.value (.agg vs.toArray)) w:=by generalize a.eval=ρ at *;simp [execOp,hu,Instr.loadAt,Instr.sureAddr,bB hd h3 h4]
 unfold Oper.wp;rw [h8];exact h9 M w _ (.refl M) hT.st ⟨vs,rfl,h2⟩
theorem Fm {α:Type} {l':List α} {z:Int} {y:α} {d:Option Nat} {g:Option (Nat×Bool)} {l:List EOp} {j T n off m:Nat} {x:X} {r:List AV} (f:α→List AV) (hv:A4 l' z=some y) (hg:gm S g) (hx:S.x x = .oel j (z.toNat*n) off) (hj:A2 S.ss j=some ⟨T,n,l'.map f⟩)
  (hl:Dr (f y) off m=some r) (h:V c fn K (.ops l::k) (S.put d (.agg r))):V c fn K (.ops (⟨d,g,.loadA m x⟩::l)::k) S:=
 AU hg (Z0Q hx hj rfl (IP (EA hv).2) hl) rfl h
theorem io {M:Mem} {n:Nat}:∀ {rows:List (List AV)} {vss:List (List Value)} {i:Nat} {row:List AV} {vs:List Value},AV.isLL M n rows vss→AV.isL M row vs→vs.length=n→AV.isLL M n (rows.set i row) (vss.set i vs)
 | [],_,i,_,_,h,_,_=>by simp [AV.isLL] at h;subst h;simp [AV.isLL]
 | r::rows,_,0,_,_,⟨v,q,h0,h1,h2,h3⟩,hr,hl=>by subst h0;exact ⟨_,_,rfl,hl,hr,h3⟩
 | r::rows,_,i+1,_,_,⟨v,q,h0,h1,h2,h3⟩,hr,hl=>by subst h0;exact ⟨v,_,rfl,h1,h2,io h3 hr hl⟩
theorem gJ {n off:Nat} {cs:List Value}:∀ {vss:List (List Value)} {i:Nat} {vs:List Value},(∀v∈vss,v.length=n)→vss[i]?=some vs→off+cs.length≤n→
  (vss.set i (vs.take off++cs++vs.drop (off+cs.length))).flatten=vss.flatten.take (i*n+off)++cs++vss.flatten.drop (i*n+off+cs.length)
 | [],i,vs,_,h,_=>by simp at h
 | v::vss,0,vs,hn,h,hle=>by simp at h;subst h;have hv:=hn v (by simp);simp only [List.set_cons_zero,List.flatten_cons,Nat.zero_mul,Nat.zero_add];rw [List.take_append_of_le_length Om,List.drop_append_of_le_length Om];simp [List.append_assoc]
 | v::vss,i+1,vs,hn,h,hle=>by have hv:=hn v (by simp);have ih:=gJ (n:=n) (off:=off) (cs:=cs) (vss:=vss) (i:=i) (vs:=vs) (fun u hu=>hn u (by simp [hu])) (by simpa using h) hle;simp only [List.set_cons_succ,List.flatten_cons];rw [ih,show (i+1)*n+off=v.length+(i*n+off) by rw [hv,Nat.add_mul];omega,show v.length+(i*n+off)+cs.length=v.length+(i*n+off+cs.length) by omega,List.take_length_add_append,List.drop_length_add_append];simp [List.append_assoc]
theorem Fx {M:Mem} {n:Nat}:∀ {rows:List (List AV)} {vss:List (List Value)},AV.isLL M n rows vss→(∀v∈vss,v.length=n)∧vss.length=rows.length
 | [],_,h=>by simp [AV.isLL] at h;subst h;simp
 | _::rows,_,⟨v,q,h0,h1,h2,h3⟩=>by subst h0;obtain ⟨k1,k2⟩:=Fx h3;exact ⟨fun u hu=>by rcases List.mem_cons.1 hu with rfl | hu;exact h1;exact k1 u hu,by simp [k2]⟩
def AV.slo:AV→Bool
 | .osl _=>true
 | x=>x.pu
def LF:List AV→Bool
 | []=>true
 | x::l=>BS x.slo (LF l)
attribute [go_sem] AV.slo LF
theorem Z18 {M:Mem} (x:AV) (v:Value) (h:x.is M v) (hp:x.slo=true):x.is M.sl v:=by
 cases x
 case osl j=>exact h
 all_goals exact Dm (Lx M) _ _ (dk _ _ h hp)
theorem ny {M:Mem}:∀(l:List AV) (vs:List Value),AV.isL M l vs→LF l=true→AV.isL M.sl l vs
 | [],_,h,_=>h
 | x::l,_,⟨v,r,h0,h1,h2⟩,hp=>by simp only [LF,AO] at hp;exact ⟨v,r,h0,Z18 x v h1 hp.1,ny l r h2 hp.2⟩
theorem dV:∀ {l:List AV},AD l=true→LF l=true
 | [],_=>rfl
 | x::l,h=>by
   simp only [AD,AO] at h;simp only [LF,AO];refine ⟨?_,dV h.2⟩;cases x
   case osl j=>rfl
   all_goals exact h.1
theorem dQ {j i n off m:Nat} {x y:X} {L:Sl} {row E cs0 cs:List AV} (hx:S.x x = .oel j (i*n) off) (hj:A2 S.ss j=some L) (hn:L.n=n) (hr:L.rows[i]?=some row) (hE:(S.x y).cells=some cs0) (hG:AV.le.leL cs0 cs) (hm:Aa cs=m) (h1:Cs cs=true) (hp:LF cs=true)
  (hl:BM row off cs=some E):Bi c S (.store m x y) .un ⟨S.tm,S.bs,Ar S.ss j (some ⟨L.T,L.n,L.rows.set i E⟩)⟩:=by
 intro ro hw M a w hT next Q hI
 obtain ⟨dst,op,ty,pos,af,gd⟩:=ro;dsimp only at hw;obtain ⟨T,p,q,rfl,hJ,rfl,rfl⟩:=qY hw;have k1:=Ak hT p;have k2:=Ak hT q;subst hn;rw [hx] at k1;obtain ⟨_,g',n',cap',e1,hK⟩:=k1;obtain ⟨g,cap,cur,vss,vs,e2,e3,e4,e5,e6,e7,e8,e9,q1,q2,q3,q4⟩:=dd hT hj hr;rw [e2] at e1;simp only [Value.slice.injEq,Option.some.injEq,Addr.mk.injEq] at e1;obtain ⟨⟨rfl,_⟩,_⟩:=e1;have h6:=Ep _ _ _ hG (UM (fun j e=>by rw [e] at k2;rw [k2.2];exact hT.st.so j k2.1) k2 hE);have h8:=Jc h6 h1 hT.st.so;have hC:=ny _ _ h6 hp;obtain ⟨rfl,hle⟩:=MB hl;have h9:=D5 h6;have hV:=D5 q3;have hlt:=(List.getElem?_eq_some_iff.1 hr).1;obtain ⟨hL,hW⟩:=Fx e7;have hO:(i+1)*L.n≤cap*L.n:=Nat.mul_le_mul_right _ Om;have hP:(i+1)*L.n≤L.rows.length*L.n:=Nat.mul_le_mul_right _ Om;rw [Nat.add_mul,Nat.one_mul] at hO hP;have hR:i*L.n+off+(a.eval q).cells.toList.length≤cur.size:=by rw [e4];omega
 have hB:=run_storeCells_at c.P g (i*L.n+off) L.T (a.eval q).cells.toList 0 cur w e3 Om h8;have hsz':(a.eval q).cells.size=m:=by rw [←Array.length_toList,h9,←Bh];exact hm
 have hcur':∀v,(cur.toList.take (i*L.n+off)++v++cur.toList.drop (i*L.n+off+v.length)).length=cur.toList.length∨True:=fun _=>.inr trivial;have hD:(execOp a.eval ⟨dst,.store T p q,ty,pos,af,gd⟩).run c.P w = .ok .skip (w.setRow g (cur.toList.take (i*L.n+off)++(a.eval q).cells.toList++cur.toList.drop (i*L.n+off+(a.eval q).cells.toList.length)).toArray):=by generalize a.eval=ρ at *;simp only [Nat.add_zero] at hB;simp only [execOp,hK,Instr.storeAt,Instr.sureAddr,Sem.run_bind,Sem.run_pure,Result.andThen_ok,storeVar,Fi hJ,hsz',ne_eq,not_true_eq_false,if_false];rw [hB];rfl
 unfold Oper.wp;rw [hD];refine hI M _ _ (.refl M) ?_ rfl;have hvs':AV.isL M.sl (row.take off++cs++row.drop (off+cs.length)) (vs.take off++(a.eval q).cells.toList++vs.drop (off+(a.eval q).cells.toList.length)):=BH (BH (FZ off q3) hC) (by rw [h9];exact FY _ q3);have hd:=gJ (cs:=(a.eval q).cells.toList) (off:=off) hL q1 Om;have hS:cur.toList.length=cap*L.n:=by simpa using e4
 have hQ:(w.setRow g (cur.toList.take (i*L.n+off)++(a.eval q).cells.toList++cur.toList.drop (i*L.n+off+(a.eval q).cells.toList.length)).toArray).heap[g]?=some (.cells (cur.toList.take (i*L.n+off)++(a.eval q).cells.toList++cur.toList.drop (i*L.n+off+(a.eval q).cells.toList.length)).toArray L.T (0,0)):=by rw [Gp,if_pos rfl,e3];rfl
 refine hT.st.rewrite hj (g:=g) (by rw [e2];rfl) (w':=w.setRow g (cur.toList.take (i*L.n+off)++(a.eval q).cells.toList++cur.toList.drop (i*L.n+off+(a.eval q).cells.toList.length)).toArray)
  ⟨rfl,rfl,rfl,by simp [World.setRow],fun k _ hk=>by rw [Gp,if_neg (fun e=>hk (by rw [e]))]⟩ (vss':=vss.set i (vs.take off++(a.eval q).cells.toList++vs.drop (off+(a.eval q).cells.toList.length))) ?_ ?_ ?_
 ·exact io e7 hvs' (by simp only [List.length_append,List.length_take,List.length_drop];omega)
 ·intro v hv;rw [hd] at hv;simp only [List.mem_append] at hv;rcases hv with (hv | hv) | hv
  ·exact e9 v (List.mem_of_mem_take hv)
  ·exact h8 v hv
  ·exact e9 v (List.mem_of_mem_drop hv)
 ·have hU:vss.flatten.length=L.rows.length*L.n:=Dl e7;refine ⟨?_,.inr ⟨g,cap,_,by rw [List.length_set];exact e2,Nat.zero_le _,hQ,by rw [List.length_set];exact e5,e6,?_,?_⟩⟩
  ·rw [hd,List.length_set];simp only [List.length_append,List.length_take,List.length_drop];omega
  ·simp only [List.size_toArray,List.length_append,List.length_take,List.length_drop];omega
  ·rw [hd,List.length_set,←e8];generalize hN:L.rows.length*L.n=N at *;generalize hA:i*L.n+off=A at *;generalize (a.eval q).cells.toList=C at *;generalize cur.toList=D at *;rw [List.append_assoc,List.append_assoc,List.take_append,List.take_of_length_le (by rw [List.length_take];omega),List.take_append,List.take_of_length_le (l:=C) (by rw [List.length_take];omega),List.length_take,Nat.min_eq_left Om,List.take_take,Nat.min_eq_left Om,List.drop_take];congr 3;omega
theorem Dz {α:Type} {l':List α} {z:Int} {y y':α} {d:Option Nat} {g:Option (Nat×Bool)} {l:List EOp} {j T n off m:Nat} {x v:X} {cs0:List AV} (cs:List AV) (f:α→List AV) (hv:A4 l' z=some y) (hg:gm S g) (hx:S.x x = .oel j (z.toNat*n) off) (hj:A2 S.ss j=some ⟨T,n,l'.map f⟩)
  (h6:(S.x v).cells=some cs0) (h8:AV.le.leL cs0 cs) (hm:Aa cs=m) (h1:Cs cs=true) (hp:AD cs=true) (hl:BM (f y) off cs=some (f y'))
  (h:V c fn K (.ops l::k) ((⟨S.tm,S.bs,Ar S.ss j (some ⟨T,n,(l'.set z.toNat y').map f⟩)⟩:St).put d .un)):V c fn K (.ops (⟨d,g,.store m x v⟩::l)::k) S:=by
 refine AU hg (dQ hx hj rfl (IP (EA hv).2) h6 h8 hm h1 (dV hp) hl) rfl ?_;dsimp only;rw [←List.map_set];exact h
end
end NX
end Go.Proofs.YtjemlejoladlcaaGreat
/-
  The symbolic machine: calls that write into the caller's own memory; slices made, own slices cut. No statement of the seat is proved here.
-/
namespace Go.Proofs.YtjemlejoladlcaaGreat
namespace NX
open Go Go.RowKit
def Aq {α:Type}:List Bool→List (Option α)→List (Option α)
 | _,[]=>[]
 | [],_::l=>none::Aq [] l
 | true::m,x::l=>x::Aq m l
 | false::m,_::l=>none::Aq m l
def Bt {α:Type}:List Bool→List (Option α)→List (Option α)→List (Option α)
 | _,[],r=>r
 | _,_::_,[]=>[]
 | [],x::l,_::r=>x::Bt [] l r
 | true::m,_::l,y::r=>y::Bt m l r
 | false::m,x::l,_::r=>x::Bt m l r
def mb:List Bool→Nat→Bool
 | [],_=>false
 | b::_,0=>b
 | _::m,j+1=>mb m j
attribute [go_sem] Aq Bt
theorem Hz {α:Type}:∀(m:List Bool) (l:List (Option α)),(Aq m l).length=l.length
 | _,[]=>by cases ‹List Bool› <;>rfl
 | [],_::l=>by simp [Aq,Hz [] l]
 | true::m,x::l=>by simp [Aq,Hz m l]
 | false::m,_::l=>by simp [Aq,Hz m l]
theorem DV {α:Type}:∀ {m:List Bool} {l:List (Option α)} {j:Nat} {B:α},A2 (Aq m l) j=some B↔mb m j=true∧A2 l j=some B
 | m,[],j,B=>by cases m<;>simp [Aq,A2]
 | [],x::l,0,B=>by simp [Aq,A2,mb]
 | [],x::l,j+1,B=>by simp [Aq,A2,mb,DV (m:=[]) (l:=l) (j:=j)]
 | true::m,x::l,0,B=>by simp [Aq,A2,mb]
 | true::m,x::l,j+1,B=>by simp [Aq,A2,mb,DV (m:=m) (l:=l) (j:=j)]
 | false::m,x::l,0,B=>by simp [Aq,A2,mb]
 | false::m,x::l,j+1,B=>by simp [Aq,A2,mb,DV (m:=m) (l:=l) (j:=j)]
theorem TT {α:Type}:∀(m:List Bool) (l r:List (Option α)),l.length≤r.length→(Bt m l r).length=r.length
 | m,[],r,_=>by cases m<;>rfl
 | m,_::_,[],h=>by simp at h
 | [],x::l,_::r,h=>by simp [Bt,TT [] l r (by simpa using h)]
 | true::m,_::l,y::r,h=>by simp [Bt,TT m l r (by simpa using h)]
 | false::m,x::l,_::r,h=>by simp [Bt,TT m l r (by simpa using h)]
theorem Gz {α:Type}:∀ {m:List Bool} {l r:List (Option α)} {j:Nat} {B:α},l.length≤r.length→A2 (Bt m l r) j=some B→
  (j<l.length∧mb m j=false∧A2 l j=some B)∨((l.length≤j∨mb m j=true)∧A2 r j=some B)
 | m,[],r,j,B,_,h=>.inr ⟨.inl (Nat.zero_le _),by cases m<;>exact h⟩
 | m,_::_,[],j,B,hl,h=>by simp at hl
 | [],x::l,y::r,0,B,hl,h=>.inl ⟨by simp,rfl,h⟩
 | [],x::l,y::r,j+1,B,hl,h=>by
   rcases Gz (m:=[]) (l:=l) (r:=r) (j:=j) (by simpa using hl) h with ⟨h1,_,h3⟩ | ⟨h1,h2⟩
   ·exact .inl ⟨by simpa using h1,rfl,h3⟩
   ·exact .inr ⟨by rcases h1 with h1 | h1;exact .inl (by simpa using h1);simp [mb] at h1,h2⟩
 | true::m,x::l,y::r,0,B,hl,h=>.inr ⟨.inr rfl,h⟩
 | true::m,x::l,y::r,j+1,B,hl,h=>by
   rcases Gz (m:=m) (l:=l) (r:=r) (j:=j) (by simpa using hl) h with ⟨h1,h2,h3⟩ | ⟨h1,h2⟩
   ·exact .inl ⟨by simpa using h1,h2,h3⟩
   ·exact .inr ⟨by rcases h1 with h1 | h1;exact .inl (by simpa using h1);exact .inr h1,h2⟩
 | false::m,x::l,y::r,0,B,hl,h=>.inl ⟨by simp,rfl,h⟩
 | false::m,x::l,y::r,j+1,B,hl,h=>by
   rcases Gz (m:=m) (l:=l) (r:=r) (j:=j) (by simpa using hl) h with ⟨h1,h2,h3⟩ | ⟨h1,h2⟩
   ·exact .inl ⟨by simpa using h1,h2,h3⟩
   ·exact .inr ⟨by rcases h1 with h1 | h1;exact .inl (by simpa using h1);exact .inr h1,h2⟩
def Gt (M:Mem) (bs:List (Option Blk)) (ss:List (Option Sl)) (k:Nat):Prop:=(∃j B,A2 bs j=some B∧M.ρ j=k)∨∃j L,A2 ss j=some L∧(M.σ j).ownBlock=some k
def Ctx.lent (P:Program) (w:World) (M:Mem) (bs:List (Option Blk)) (ss:List (Option Sl)) (np nq:Nat):Ctx:=⟨P,w,M.H,Gt M bs ss,np,M.ρ,nq,M.σ⟩
def Cr (P:Program) (f:Nat) (args:List AV) (bs:List (Option Blk)) (ss:List (Option Sl)) (v:AV) (bs':List (Option Blk)) (ss':List (Option Sl)):Prop:=
 bs.length≤bs'.length∧ss.length≤ss'.length∧∀(M:Mem) (w:World) (vs:List Value),RelS (Ctx.lent P w M bs ss bs.length ss.length) M bs ss w→AV.isL M args vs→
  Calls P f vs.toArray w fun e w'=>∃u M',e = .returned u∧RelS (Ctx.lent P w M bs ss bs.length ss.length) M' bs' ss' w'∧v.is M' u
theorem oy {P:Program} {f:Nat} {fn:Func} {body:EC} {rs:List ERes} {np nt:Nat} (hf:FnOK P f fn body rs np nt) {args:List AV} {bs bs':List (Option Blk)} {ss ss':List (Option Sl)} {v:AV} (hn:args.length=np)
  (h1:AA (Aa bs) (Aa bs')=true) (h2:AA (Aa ss) (Aa ss')=true) (h3:St.ok ⟨[v],bs',ss'⟩=true)
  (h:∀w M,V (Ctx.lent P w M bs ss (Aa bs) (Aa ss)) fn (fun x b s=>St.le ⟨[x],b,s⟩ ⟨[v],bs',ss'⟩) [.code body] ⟨args++D6 nt,bs,ss⟩):Cr P f args bs ss v bs' ss':=by
 have h1':=h1;have h2':=h2;rw [D0,Bh,Bh] at h1 h2;refine ⟨h1,h2,fun M w vs hS ha=>?_⟩;obtain ⟨x,hb,hx⟩:=hf.b;have hl:=D5 ha;refine calls_of_wp hf.h hb ?_;have e1:fn.ntmps-vs.toArray.size=nt:=by rw [hf.t];simp;omega
 rw [e1];have hT:RelT (Ctx.lent P w M bs ss bs.length ss.length) M ⟨args++D6 nt,bs,ss⟩ {tmps:=vs.toArray++Array.replicate nt undef,defers:=[]} w:=by
  refine ⟨by simp [Vu,hl],fun t=>?_,rfl,hS⟩;simp only [Vp,Array.getD_eq_getD_getElem?,Array.getElem?_append,List.size_toArray];by_cases h:t<args.length
  ·rw [if_pos h,if_pos Om];have:=PX ha t h;simpa [List.getD_eq_getElem?_getD] using this
  ·rw [if_neg h,if_neg Om];rcases Vt nt (t-args.length) with h1 | ⟨_,h1⟩
   ·rw [h1];simp only [AV.is,Array.getElem?_replicate];split<;>rfl
   ·rw [h1];trivial
 have h':=h w M;rw [Bh,Bh] at h';refine wp_mono (h' [.code x] _ _ w ⟨_,_,rfl,hx,rfl⟩ hT) ?_;have mono:∀e w',RK (Ctx.lent P w M bs ss bs.length ss.length) (fun x b s=>St.le ⟨[x],b,s⟩ ⟨[v],bs',ss'⟩) e w'→∃u M',e = .returned u∧RelS (Ctx.lent P w M bs ss bs.length ss.length) M' bs' ss' w'∧v.is M' u:=by
  rintro e w' ⟨u,M1,b,s,y,rfl,h6,hv,hle⟩;have h8:RelT (Ctx.lent P w M bs ss bs.length ss.length) M1 ⟨[y],b,s⟩ {tmps:= #[u],defers:=[]} w':=
   ⟨by simp,fun t=>by cases t with
     | zero=>exact hv
     | succ t=>cases t<;>trivial,rfl,h6⟩
  have hW:=h8.weak hle h3 (by rw [D0,Bh];exact h1) (by rw [D0,Bh];exact h2);exact ⟨u,_,rfl,hW.st,hW.tm 0⟩
 intro e a w' hq;cases e with
 | normal=>obtain ⟨h1,v,h2,h3⟩:=hq;exact ⟨h1,v,h2,mono _ _ h3⟩
 | ret=>obtain ⟨h1,v,h2,h3⟩:=hq;exact ⟨h1,v,h2,mono _ _ h3⟩
 | panic ch=>obtain ⟨h1,h2⟩:=hq;exact ⟨h1,mono _ _ h2⟩
 | outgrown=>exact mono _ _ hq
 | exit id=>exact hq
 | goto l=>exact hq
theorem fe {c:Ctx} {f:Nat} {fn:Func} {body:EC} {rs:List ERes} {np nt:Nat} {k:List It} {S:St} {x v:AV} {bs':List (Option Blk)} {ss':List (Option Sl)} (ok:FnOK c.P f fn body rs np nt)
 (h:DD S rs=some x) (hle:St.le ⟨[x],S.bs,S.ss⟩ ⟨[v],bs',ss'⟩):V c fn (fun x b s=>St.le ⟨[x],b,s⟩ ⟨[v],bs',ss'⟩) (.code .ret::k) S:=ZD ok.r h hle
theorem p7 {c:Ctx} {f:Nat} {fn:Func} {body:EC} {rs:List ERes} {np nt:Nat} {S:St} {x v:AV} {bs':List (Option Blk)} {ss':List (Option Sl)} (ok:FnOK c.P f fn body rs np nt)
  (h:DD S rs=some x) (hle:St.le ⟨[x],S.bs,S.ss⟩ ⟨[v],bs',ss'⟩):V c fn (fun x b s=>St.le ⟨[x],b,s⟩ ⟨[v],bs',ss'⟩) [] S:=by
 rintro rk M a w rfl hT;exact am hT ok.r h hle
section
variable {c:Ctx} {M:Mem} {S S':St} {a:Act} {w:World} {fn:Func} {K:AV→List (Option Blk)→List (Option Sl)→Prop} {k:List It}
theorem yg {w w':World} {b e E n:Nat} {v:Value} {xs:List Value} (h:w.ownsRow b e E v n xs) (hh:∀g,v.ownBlock=some g→w'.heap[g]?=w.heap[g]?):w'.ownsRow b e E v n xs:=by refine ⟨h.1,h.2.imp id ?_⟩;rintro ⟨g,cap,cur,rfl,h2,h3,h4⟩;exact ⟨g,cap,cur,rfl,h2,by rw [hh g rfl];exact h3,h4⟩
theorem jm (E:RelS c M S.bs S.ss w) (J U:List Bool):RelS (Ctx.lent c.P w M (Aq J S.bs) (Aq U S.ss) (Aq J S.bs).length (Aq U S.ss).length) M (Aq J S.bs) (Aq U S.ss) w:=by
 refine ⟨by rw [Hz];exact E.nb,by rw [Hz];exact E.ns,E.so,rfl,rfl,rfl,Nat.le_refl _,fun _ _ _=>rfl,E.hle,fun _ _ _=>rfl,?_,?_,?_,?_,?_,?_⟩
 ·intro j B hj;obtain ⟨g1,g2,vs,g3,g4,g5⟩:=E.blk j B (DV.1 hj).2;exact ⟨.inr (.inl ⟨j,B,hj,rfl⟩),g2,vs,g3,g4,g5⟩
 ·intro j L hj;obtain ⟨g0,vss,g1,g2,g3,g4⟩:=E.slc j L (DV.1 hj).2;exact ⟨g0,vss,g1,g2,g3,fun g hg=>⟨.inr (.inr ⟨j,L,hj,hg⟩),(g4 g hg).2⟩⟩
 ·intro i j B C hi hj e;exact E.d1 i j B C (DV.1 hi).2 (DV.1 hj).2 e
 ·intro i j B L hi hj;exact E.d2 i j B L (DV.1 hi).2 (DV.1 hj).2
 ·intro i j L N g hi hj;exact E.d3 i j L N g (DV.1 hi).2 (DV.1 hj).2
 ·exact ⟨by rw [show (Ctx.lent c.P w M (Aq J S.bs) (Aq U S.ss) (Aq J S.bs).length (Aq U S.ss).length).np=(Aq J S.bs).length from rfl,Hz,E.nb];exact Nat.le_refl _,fun _ _=>rfl,
   by rw [show (Ctx.lent c.P w M (Aq J S.bs) (Aq U S.ss) (Aq J S.bs).length (Aq U S.ss).length).nq=(Aq U S.ss).length from rfl,Hz,E.ns];exact Nat.le_refl _,fun _ _=>rfl,E.pin.gl⟩
theorem jn {J U:List Bool} {M':Mem} {w':World} {bs':List (Option Blk)} {ss':List (Option Sl)} (E:RelS c M S.bs S.ss w) (hb:(Aq J S.bs).length≤bs'.length) (hs:(Aq U S.ss).length≤ss'.length)
  (h:RelS (Ctx.lent c.P w M (Aq J S.bs) (Aq U S.ss) (Aq J S.bs).length (Aq U S.ss).length) M' bs' ss' w'):M.le M'∧RelS c M' (Bt J S.bs bs') (Bt U S.ss ss') w':=by
 rw [Hz] at hb hs;have lentMine:∀g,Gt M (Aq J S.bs) (Aq U S.ss) g→Fl c g∧M.H g=none:=by
  rintro g (⟨j,B,hj,rfl⟩ | ⟨j,L,hj,hg⟩)
  ·obtain ⟨g1,g2,_⟩:=E.blk j B (DV.1 hj).2;exact ⟨g1,g2⟩
  ·obtain ⟨_,_,_,_,_,g4⟩:=E.slc j L (DV.1 hj).2;exact g4 g hg
 have size0:=E.size;have size1:w.heap.size≤w'.heap.size:=h.size;have hρ:∀j,j<S.bs.length→M'.ρ j=M.ρ j:=fun j hj=>h.pin.ρ j (by show j<(Aq J S.bs).length;rw [Hz];exact hj);have hσ:∀j,j<S.ss.length→M'.σ j=M.σ j:=fun j hj=>h.pin.σ j (by show j<(Aq U S.ss).length;rw [Hz];exact hj);have hH:∀k o,M.H k=some o→M'.H k=some o:=by intro k o hk;have hlt:=(Array.getElem?_eq_some_iff.1 (E.hle k o hk)).1;have:=h.hold k hlt (fun hl=>by rw [(lentMine k hl).2] at hk;simp at hk);rw [this];exact hk
 have hle:M.le M':=⟨by rw [E.nb,h.nb];exact hb,by rw [E.ns,h.ns];exact hs,fun j hj=>hρ j (by rw [←E.nb];exact hj),fun j hj=>hσ j (by rw [←E.ns];exact hj),hH⟩
 have F4:∀j B,A2 S.bs j=some B→mb J j=false→¬Gt M (Aq J S.bs) (Aq U S.ss) (M.ρ j):=by
  rintro j B hj hm (⟨i,C,hi,e⟩ | ⟨i,L,hi,e⟩)
  ·have:=E.d1 i j C B (DV.1 hi).2 hj e;subst this;rw [(DV.1 hi).1] at hm;simp at hm
  ·exact E.d2 j i B L hj (DV.1 hi).2 e
 have keepS:∀j L g,A2 S.ss j=some L→mb U j=false→(M.σ j).ownBlock=some g→¬Gt M (Aq J S.bs) (Aq U S.ss) g:=by
  rintro j L g hj hm hg (⟨i,C,hi,e⟩ | ⟨i,N,hi,e⟩)
  ·exact E.d2 i j C L (DV.1 hi).2 hj (by rw [e];exact hg)
  ·have:=E.d3 i j N L g (DV.1 hi).2 hj e hg;subst this;rw [(DV.1 hi).1] at hm;simp at hm
 have newMine:∀g,Fl (Ctx.lent c.P w M (Aq J S.bs) (Aq U S.ss) (Aq J S.bs).length (Aq U S.ss).length) g→Fl c g:=by
  rintro g (hg | hg)
  ·exact .inl (Nat.le_trans size0 hg)
  ·exact (lentMine g hg).1
 have apart:∀g k,Fl (Ctx.lent c.P w M (Aq J S.bs) (Aq U S.ss) (Aq J S.bs).length (Aq U S.ss).length) g→k<w.heap.size→¬Gt M (Aq J S.bs) (Aq U S.ss) k→g≠k:=by
  rintro g k (hg | hg) hk hn rfl
  ·exact Nat.lt_irrefl _ (Nat.lt_of_lt_of_le hk hg)
  ·exact hn hg
 refine ⟨hle,⟨by rw [TT _ _ _ hb];exact h.nb,by rw [TT _ _ _ hs];exact h.ns,h.so,h.os.trans E.os,h.tape.trans E.tape,h.output.trans E.output,Nat.le_trans size0 size1,?_,h.hle,?_,?_,?_,?_,?_,?_,E.pin.le hle⟩⟩
 ·intro k hk hn;have h6:¬Gt M (Aq J S.bs) (Aq U S.ss) k:=fun hl=>by
   rcases (lentMine k hl).1 with h1 | h1
   ·omega
   ·exact hn h1
  exact (h.block k (Nat.lt_of_lt_of_le hk size0) h6).trans (E.block k hk hn)
 ·intro k hk hn;have h6:¬Gt M (Aq J S.bs) (Aq U S.ss) k:=fun hl=>by
   rcases (lentMine k hl).1 with h1 | h1
   ·omega
   ·exact hn h1
  exact (h.hold k (Nat.lt_of_lt_of_le hk size0) h6).trans (E.hold k hk hn)
 ·intro j B hj;rcases Gz hb hj with ⟨h1,h2,h3⟩ | ⟨_,h3⟩
  ·obtain ⟨g1,g2,vs,g3,g4,g5⟩:=E.blk j B h3;have hlt:=E.blk_lt h3;have hn:=F4 j B h3 h2;rw [hρ j h1];exact ⟨g1,(h.hold _ hlt hn).trans g2,vs,E0 hle _ _ g3,(h.block _ hlt hn).trans g4,g5⟩
  ·obtain ⟨g1,g2,vs,g3,g4,g5⟩:=h.blk j B h3;exact ⟨newMine _ g1,g2,vs,g3,g4,g5⟩
 ·intro j L hj;rcases Gz hs hj with ⟨h1,h2,h3⟩ | ⟨_,h3⟩
  ·obtain ⟨g0,vss,g1,g2,g3,g4⟩:=E.slc j L h3;rw [hσ j h1];exact ⟨g0,vss,EG hle.sl _ _ _ g1,g2,yg g3 fun g hg=>h.block g (E.slc_lt h3 hg) (keepS j L g h3 h2 hg),fun g hg=>⟨(g4 g hg).1,(h.hold g (E.slc_lt h3 hg) (keepS j L g h3 h2 hg)).trans (g4 g hg).2⟩⟩
  ·obtain ⟨g0,vss,g1,g2,g3,g4⟩:=h.slc j L h3;exact ⟨g0,vss,g1,g2,g3,fun g hg=>⟨newMine _ (g4 g hg).1,(g4 g hg).2⟩⟩
 ·intro i j B C hi hj e;rcases Gz hb hi with ⟨h1,h2,h3⟩ | ⟨_,h3⟩<;>rcases Gz hb hj with ⟨k1,k2,k3⟩ | ⟨_,k3⟩
  ·rw [hρ i h1,hρ j k1] at e;exact E.d1 i j B C h3 k3 e
  ·rw [hρ i h1] at e;exact absurd e.symm (apart _ _ (h.blk j C k3).1 (E.blk_lt h3) (F4 i B h3 h2))
  ·rw [hρ j k1] at e;exact absurd e (apart _ _ (h.blk i B h3).1 (E.blk_lt k3) (F4 j C k3 k2))
  ·exact h.d1 i j B C h3 k3 e
 ·intro i j B L hi hj;rcases Gz hb hi with ⟨h1,h2,h3⟩ | ⟨_,h3⟩<;>rcases Gz hs hj with ⟨k1,k2,k3⟩ | ⟨_,k3⟩
  ·rw [hρ i h1,hσ j k1];exact E.d2 i j B L h3 k3
  ·rw [hρ i h1];intro e;obtain ⟨_,_,_,_,_,g4⟩:=h.slc j L k3;exact apart _ _ (g4 _ e).1 (E.blk_lt h3) (F4 i B h3 h2) rfl
  ·rw [hσ j k1];intro e;exact apart _ _ (h.blk i B h3).1 (E.slc_lt k3 e) (keepS j L _ k3 k2 e) rfl
  ·exact h.d2 i j B L h3 k3
 ·intro i j L N g hi hj e1 e2;rcases Gz hs hi with ⟨h1,h2,h3⟩ | ⟨_,h3⟩<;>rcases Gz hs hj with ⟨k1,k2,k3⟩ | ⟨_,k3⟩
  ·rw [hσ i h1] at e1;rw [hσ j k1] at e2;exact E.d3 i j L N g h3 k3 e1 e2
  ·rw [hσ i h1] at e1;obtain ⟨_,_,_,_,_,g4⟩:=h.slc j N k3;exact absurd rfl (apart _ _ (g4 g e2).1 (E.slc_lt h3 e1) (keepS i L g h3 h2 e1))
  ·rw [hσ j k1] at e2;obtain ⟨_,_,_,_,_,g4⟩:=h.slc i L h3;exact absurd rfl (apart _ _ (g4 g e1).1 (E.slc_lt k3 e2) (keepS j N g k3 k2 e2))
  ·exact h.d3 i j L N g h3 k3 e1 e2
theorem Z5 {f:Nat} {xs:List X} {args:List AV} {v:AV} {bs bs':List (Option Blk)} {ss ss':List (Option Sl)} (E J:List Bool) (hf:Cr c.P f args bs ss v bs' ss') (h8:Aq E S.bs=bs) (h9:Aq J S.ss=ss)
  (ha:AV.le.leL (B8 S xs) args):Bi c S (.call f xs) v ⟨S.tm,Bt E S.bs bs',Bt J S.ss ss'⟩:=by
 subst h8;subst h9;intro ro ho M a w hT next Q hn
 obtain ⟨dst,op,ty,pos,af,gd⟩:=ro;dsimp only at ho;obtain ⟨cargs,argTypes,rfl,hd,rfl⟩:=LY ho;have hm:=Ep _ _ _ ha (G9 hT cargs.toList);obtain ⟨f1,f2,f3⟩:=hf;have hc:=f3 M w _ (jm hT.st E J) hm;have h6:(execOp a.eval ⟨dst,.call ⟨.value (.func f),cargs,argTypes⟩,ty,pos,af,gd⟩).run c.P w = .ok (.enter f (cargs.map a.eval)) w:=by have he:a.eval (.func f) = .func (.func f) #[] #[]:=rfl;generalize a.eval=ρ at *;simp [execOp,resolve,Deferred.ofValue,invoke,he,HU hd]
 unfold Oper.wp;rw [h6];show Calls c.P f (cargs.map a.eval) w _;have e1:(cargs.toList.map a.eval).toArray=cargs.map a.eval:=by apply Array.ext';simp
 rw [←e1];refine hc.mono ?_;rintro e w' ⟨u,M',rfl,h1,h2⟩;obtain ⟨hle,hS⟩:=jn hT.st f1 f2 h1;exact hn M' w' u hle hS h2
theorem IZ {d:Option Nat} {g:Option (Nat×Bool)} {l:List EOp} {f:Nat} {xs:List X} {args:List AV} {v:AV} {bs bs':List (Option Blk)} {ss ss':List (Option Sl)} (E J:List Bool) (hg:gm S g) (hf:Cr c.P f args bs ss v bs' ss') (h6:Aq E S.bs=bs:=by rfl) (h8:Aq J S.ss=ss:=by rfl)
  (ha:AV.le.leL (B8 S xs) args:=by first | exact Am _ | simp [go_sem]) (h:V c fn K (.ops l::k) ((⟨S.tm,Bt E S.bs bs',Bt J S.ss ss'⟩:St).put d v)):V c fn K (.ops (⟨d,g,.call f xs⟩::l)::k) S:=
 AU hg (Z5 E J hf h6 h8 ha) rfl h
theorem Z0J {f:Nat} {o:X} {xs:List X} {caps args:List AV} {v:AV} {bs bs':List (Option Blk)} {ss ss':List (Option Sl)} (E J:List Bool) (ho:S.x o = .clo f caps) (hf:Cr c.P f args bs ss v bs' ss')
  (h9:(c.P.funcs[f]?).any (fun fn=>fn.body.isSome&&!(fn.name == "runtime.NumGoroutine"))=true) (hd:Aq E S.bs=bs) (hw:Aq J S.ss=ss)
  (ha:AV.le.leL (B8 S xs++caps) args):Bi c S (.callv o xs) v ⟨S.tm,Bt E S.bs bs',Bt J S.ss ss'⟩:=by
 subst hd;subst hw;intro ro h6 M a w hT next Q hn
 obtain ⟨dst,op,ty,pos,af,gd⟩:=ro;dsimp only at h6;obtain ⟨t,cargs,argTypes,rfl,rfl,rfl⟩:=ZY h6;have hx:=Ak hT (.tmp t);rw [show S.x (cX (.tmp t)) = .clo f caps from ho] at hx;obtain ⟨cv,hx1,hA⟩:=hx;have hm:=Ep _ _ _ ha (BH (G9 hT cargs.toList) hA);obtain ⟨f1,f2,f3⟩:=hf;have hc:=f3 M w _ (jm hT.st E J) hm;have h8:(execOp a.eval ⟨dst,.call ⟨.value (.tmp t),cargs,argTypes⟩,ty,pos,af,gd⟩).run c.P w = .ok (.enter f (cargs.map a.eval++cv.toArray)) w:=by generalize a.eval=ρ at *;simp [execOp,resolve,Deferred.ofValue,invoke,hx1,HU h9]
 unfold Oper.wp;rw [h8];show Calls c.P f (cargs.map a.eval++cv.toArray) w _;have e1:(cargs.toList.map a.eval++cv).toArray=cargs.map a.eval++cv.toArray:=by apply Array.ext';simp
 rw [←e1];refine hc.mono ?_;rintro e w' ⟨u,M',rfl,h1,h2⟩;obtain ⟨hle,hS⟩:=jn hT.st f1 f2 h1;exact hn M' w' u hle hS h2
theorem J0 {d:Option Nat} {g:Option (Nat×Bool)} {l:List EOp} {f:Nat} {o:X} {xs:List X} {caps args:List AV} {v:AV} {bs bs':List (Option Blk)} {ss ss':List (Option Sl)} (E J:List Bool) (hg:gm S g) (ho:S.x o = .clo f caps) (hf:Cr c.P f args bs ss v bs' ss')
  (h6:(c.P.funcs[f]?).any (fun fn=>fn.body.isSome&&!(fn.name == "runtime.NumGoroutine"))=true) (h8:Aq E S.bs=bs:=by rfl) (h9:Aq J S.ss=ss:=by rfl)
  (ha:AV.le.leL (B8 S xs++caps) args:=by first | exact Am _ | simp [go_sem]) (h:V c fn K (.ops l::k) ((⟨S.tm,Bt E S.bs bs',Bt J S.ss ss'⟩:St).put d v)):V c fn K (.ops (⟨d,g,.callv o xs⟩::l)::k) S:=
 AU hg (Z0J E J ho hf h6 h8 h9 ha) rfl h
end
end NX
end Go.Proofs.YtjemlejoladlcaaGreat
