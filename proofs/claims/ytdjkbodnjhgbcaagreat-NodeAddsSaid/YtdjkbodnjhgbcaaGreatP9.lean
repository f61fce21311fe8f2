/-
  The symbolic machine: elements of own slices, read and written. No statement of the seat is proved here.
-/
import Derived.Test.YtdjkbodnjhgbcaaGreatP8
namespace Go.Proofs.YtdjkbodnjhgbcaaGreat
namespace NX
open Go Go.RowKit
section
variable {c:Ctx} {M:Mem} {S S':St} {a:Act} {w:World} {fn:Func} {K:AV→List (Option Blk)→List (Option Sl)→Prop} {k:List It} {bs:List (Option Blk)} {ss:List (Option Sl)}
theorem RelS.rewrite (h:RelS c M bs ss w) {j g:Nat} {L:Sl} (hj:Zf ss j=some L) (h6:(M.σ j).ownBlock=some g) {w':World} (hg:w.grownBy w' (some g)) {rows':List (List AV)} {vss':List (List Value)} (h1:AV.isLL M.sl L.n rows' vss')
  (h2:∀v∈vss'.flatten,v.oneCell'=true) (h3:w'.ownsRow 0 L.T L.n (M.σ j) rows'.length vss'.flatten):RelS c M bs (Zg ss j (some ⟨L.T,L.n,rows'⟩)) w':=by
 obtain ⟨g0,vss,_,_,hc,h8⟩:=h.slc j L hj
 obtain ⟨m1,m2⟩:=h8 g h6
 have old:∀i N,Zf (Zg ss j (some (⟨L.T,L.n,rows'⟩:Sl))) i=some N→(i=j∧N=⟨L.T,L.n,rows'⟩)∨(i≠j∧Zf ss i=some N):=by
  intro i N hi
  rw [Ze1] at hi
  split at hi
  ·rename_i e;left;exact ⟨e.1,by simpa using hi.symm⟩
  ·rename_i e;right;exact ⟨fun x=>e ⟨x,Zg1 hj⟩,hi⟩
 have live:∀i N,Zf (Zg ss j (some (⟨L.T,L.n,rows'⟩:Sl))) i=some N→∃N',Zf ss i=some N':=by
  intro i N hi
  rcases old i N hi with ⟨rfl,_⟩ | ⟨_,h⟩
  ·exact ⟨_,hj⟩
  ·exact ⟨_,h⟩
 obtain ⟨e1,e2,e3,e4,e5⟩:=hg
 refine ⟨h.nb,by rw [Zf1];exact h.ns,h.so,e1.trans h.os,e2.trans h.tape,e3.trans h.output,Nat.le_trans h.size e4,?_,?_,h.hold,?_,?_,h.d1,?_,?_,h.pin⟩
 ·intro k hk hb
  rw [e5 k (Nat.lt_of_lt_of_le hk h.size) (fun e=>by
   simp at e;subst e
   rcases m1 with m1 | m1
   ·omega
   ·exact hb m1)]
  exact h.block k hk hb
 ·intro k o hk
  have h9:=(Array.getElem?_eq_some_iff.1 (h.hle k o hk)).1
  rw [e5 k h9 (fun e=>by simp at e;subst e;rw [m2] at hk;simp at hk)]
  exact h.hle k o hk
 ·intro i B hi
  obtain ⟨g1,g2,vs,g3,g4,g5⟩:=h.blk i B hi
  refine ⟨g1,g2,vs,g3,?_,g5⟩
  rw [e5 _ (h.blk_lt hi) (fun e=>h.d2 i j B L hi hj (by rw [h6];exact e.symm))]
  exact g4
 ·intro i N hi
  rcases old i N hi with ⟨rfl,rfl⟩ | ⟨hne,hi⟩
  ·exact ⟨g0,vss',h1,h2,h3,h8⟩
  ·obtain ⟨q0,uss,q1,q2,q3,q4⟩:=h.slc i N hi
   refine ⟨q0,uss,q1,q2,World.ownsRow.kept q3 (row:=some g) ⟨e1,e2,e3,e4,e5⟩ (.inr fun e=>?_),q4⟩
   exact hne (h.d3 i j N L g hi hj e h6)
 ·intro i t B N hi ht
  obtain ⟨N',hN⟩:=live t N ht
  exact h.d2 i t B N' hi hN
 ·intro i t N O g' hi ht
  obtain ⟨N',hN⟩:=live i N hi
  obtain ⟨O',hO⟩:=live t O ht
  exact h.d3 i t N' O' g' hN hO
theorem own_row (hT:RelT c M S a w) {j i:Nat} {L:Sl} {row:List AV} (hj:Zf S.ss j=some L) (hr:L.rows[i]?=some row):
  ∃g cap cur vss vs,M.σ j = .slice (some ⟨g,0,none⟩) L.rows.length cap∧w.heap[g]?=some (.cells cur L.T (0,0))∧cur.size=cap*L.n∧L.rows.length≤cap∧cap≤maxLen∧AV.isLL M.sl L.n L.rows vss∧cur.toList.take (L.rows.length*L.n)=vss.flatten∧
   (∀v∈vss.flatten,v.oneCell'=true)∧vss[i]?=some vs∧vs.length=L.n∧AV.isL M.sl row vs∧(∀(m:Nat) v,vs[m]?=some v→cur[i*L.n+m]?=some v):=by
 obtain ⟨g0,vss,h1,h2,h3,h4⟩:=hT.st.slc j L hj
 have h6:=(List.getElem?_eq_some_iff.1 hr).1
 rcases h3.2 with ⟨_,e3⟩ | ⟨g,cap,cur,e2,_,e3,e4,e5,e6,e7⟩
 ·omega
 ·obtain ⟨vs,q1,q2,q3,q4⟩:=Z83 h1 i row hr
  refine ⟨g,cap,cur,vss,vs,e2,e3,e6,e4,e5,h1,e7,h2,q1,q2,q3,fun m v hm=>?_⟩
  have:=q4 m v hm
  rw [←e7,List.getElem?_take] at this
  split at this
  ·simpa using this
  ·simp at this
theorem sem_idxO {n j:Nat} {x i:X} {z:Int} {L:Sl} (hx:S.x x = .osl j) (hi:S.x i = .iv z) (hj:Zf S.ss j=some L) (_:L.n=n) (h0:0≤z) (h1:z<L.rows.length):Z43 c S (.idx n x i) (.oel j (z.toNat*n) 0) S:=by
 intro ro h6 M a w hT next Q h9
 obtain ⟨dst,op,ty,pos,af,gd⟩:=ro
 dsimp only at h6
 obtain ⟨T,y,q,e,rfl,hu,hs,rfl,rfl⟩:=cO_idx h6
 have k1:=Z22 hT y
 have k2:=Z22 hT q
 rw [hx] at k1
 rw [hi] at k2
 obtain ⟨row,hr⟩:∃row,L.rows[z.toNat]?=some row:=⟨_,List.getElem?_eq_getElem (by omega)⟩
 obtain ⟨g,cap,cur,_,_,e2,_,_,_,_,_⟩:=own_row hT hj hr
 have h8:=idx_run (P:=c.P) (w:=w) hu hs (k1.2.trans e2) k2 h0 h1 dst ty pos af gd
 unfold Oper.wp
 rw [h8]
 refine h9 M w _ (.refl M) hT.st ⟨k1.1,g,_,cap,e2,?_⟩
 rw [Addr.add_lit];simp
theorem V_idxO {d:Option Nat} {g:Option (Nat×Bool)} {l:List EOp} {n j:Nat} {x i:X} {z:Int} {L:Sl} (hg:gm S g) (hx:S.x x = .osl j) (hi:S.x i = .iv z) (hj:Zf S.ss j=some L) (hn:L.n=n) (h0:0≤z) (h1:z<L.rows.length)
  (h:V c fn K (.ops l::k) (S.put d (.oel j (z.toNat*n) 0))):V c fn K (.ops (⟨d,g,.idx n x i⟩::l)::k) S:=
 Z53 hg (sem_idxO hx hi hj hn h0 h1) rfl h
theorem Zd5 {α:Type} {l':List α} {z:Int} {v:α} {d:Option Nat} {g:Option (Nat×Bool)} {l:List EOp} {T n j:Nat} {x i:X} (f:α→List AV) (hv:at_ l' z=some v) (hg:gm S g) (hx:S.x x = .osl j) (hi:S.x i = .iv z) (hj:Zf S.ss j=some ⟨T,n,l'.map f⟩)
  (h:V c fn K (.ops l::k) (S.put d (.oel j (z.toNat*n) 0))):V c fn K (.ops (⟨d,g,.idx n x i⟩::l)::k) S:=by
 obtain ⟨h0,hr⟩:=Zq4 hv
 have:=(List.getElem?_eq_some_iff.1 hr).1
 exact V_idxO hg hx hi hj rfl h0 (by simp;omega) h
theorem Ze5 {α:Type} {l:List α} {z:Int} {y y':α} (h:at_ l z=some y):at_ (l.set z.toNat y') z=some y':=by
 obtain ⟨h0,hr⟩:=Zq4 h
 have:=(List.getElem?_eq_some_iff.1 hr).1
 unfold at_
 rw [if_pos h0];simp [this]
theorem cO_load {P:Program} {op:Op} {x:X} (ho:cO P op = .load x):∃T y,op = .load T y∧Z4 P T=some none∧cX y=x:=by
 cases op
 case load T y=>
  simp only [cO] at ho
  split at ho
  ·rename_i h;simp only [EO.load.injEq] at ho;exact ⟨T,y,rfl,h,ho⟩
  ·simp at ho
  ·simp at ho
 all_goals (simp only [cO] at ho;(repeat' (split at ho))<;>simp at ho)
theorem cO_loadA {P:Program} {op:Op} {n:Nat} {x:X} (ho:cO P op = .loadA n x):∃T y,op = .load T y∧Z4 P T=some (some n)∧cX y=x:=by
 cases op
 case load T y=>
  simp only [cO] at ho
  split at ho
  ·simp at ho
  ·rename_i h;simp only [EO.loadA.injEq] at ho;exact ⟨T,y,rfl,by rw [h,ho.1],ho.2⟩
  ·simp at ho
 all_goals (simp only [cO] at ho;(repeat' (split at ho))<;>simp at ho)
theorem cO_storeX {P:Program} {op:Op} {n:Nat} {x y:X} (ho:cO P op = .store n x y):∃T p q,op = .store T p q∧Z6 P T=some n∧cX p=x∧cX q=y:=by
 cases op
 case store T p q=>
  simp only [cO] at ho
  split at ho
  ·rename_i n' h;simp only [EO.store.injEq] at ho;exact ⟨T,p,q,rfl,by rw [h,ho.1],ho.2.1,ho.2.2⟩
  ·simp at ho
 all_goals (simp only [cO] at ho;(repeat' (split at ho))<;>simp at ho)
theorem oel_cells (hT:RelT c M S a w) {j i n off m:Nat} {L:Sl} {row l:List AV} {u:Value} (hu:(AV.oel j (i*n) off).is M u) (hj:Zf S.ss j=some L) (hn:L.n=n) (hr:L.rows[i]?=some row) (hl:Zh row off m=some l):
  ∃g vs,u = .pointer (some ⟨g,i*n+off,none⟩)∧AV.isL M l vs∧vs.length=m∧∀(q:Nat) v,vs[q]?=some v→w.cell? ⟨g,i*n+off+q,none⟩=some v:=by
 subst hn
 obtain ⟨_,g',n',cap',e1,rfl⟩:=hu
 obtain ⟨g,cap,cur,vss,vs,e2,e3,_,_,_,_,_,_,_,q2,q3,q4⟩:=own_row hT hj hr
 rw [e2] at e1
 simp only [Value.slice.injEq,Option.some.injEq,Addr.mk.injEq] at e1
 obtain ⟨⟨rfl,_⟩,_⟩:=e1
 obtain ⟨rfl,hle⟩:=Zh1 hl
 refine ⟨g,(vs.drop off).take m,rfl,Zq1 (sl_le M) _ _ (Zl1 m (Zm1 off q3)),by have:=Zj1 q3;simp;omega,?_⟩
 intro q v hq
 rw [List.getElem?_take] at hq
 split at hq
 ·simp at hq
  have:=q4 _ v hq
  simp only [World.cell?,e3]
  simp only [Option.isSome_none,Bool.false_eq_true,if_false]
  rw [Nat.add_assoc];exact this
 ·simp at hq
theorem sem_loadO {j i n off:Nat} {x:X} {L:Sl} {row:List AV} {v:AV} (hx:S.x x = .oel j (i*n) off) (hj:Zf S.ss j=some L) (hn:L.n=n) (hr:L.rows[i]?=some row) (hl:Zh row off 1=some [v]):Z43 c S (.load x) v S:=by
 intro ro h6 M a w hT next Q h9
 obtain ⟨dst,op,ty,pos,af,gd⟩:=ro
 dsimp only at h6
 obtain ⟨T,y,rfl,hd,rfl⟩:=cO_load h6
 have k1:=Z22 hT y
 rw [hx] at k1
 obtain ⟨g,vs,hu,h2,h3,h4⟩:=oel_cells hT k1 hj hn hr hl
 obtain ⟨u,rfl⟩:∃u,vs=[u]:=by
  cases vs with
  | nil=>simp at h3
  | cons u r=>cases r with
    | nil=>exact ⟨u,rfl⟩
    | cons _ _=>simp at h3
 have hc:=h4 0 u (by simp)
 have h8:(execOp a.eval ⟨dst,.load T y,ty,pos,af,gd⟩).run c.P w = .ok (.value u) w:=by
  generalize a.eval=ρ at *
  simp only [Nat.add_zero] at hc
  simp [execOp,hu,Instr.loadAt,Instr.sureAddr,Zd2 hd hc]
 unfold Oper.wp
 rw [h8]
 refine h9 M w u (.refl M) hT.st ?_
 obtain ⟨_,_,h,hy,_⟩:=h2
 simp at h;obtain ⟨rfl,rfl⟩:=h;exact hy
theorem Zf5 {α:Type} {l':List α} {z:Int} {y:α} {d:Option Nat} {g:Option (Nat×Bool)} {l:List EOp} {j T n off:Nat} {x:X} {v:AV} (f:α→List AV) (hv:at_ l' z=some y) (hg:gm S g) (hx:S.x x = .oel j (z.toNat*n) off) (hj:Zf S.ss j=some ⟨T,n,l'.map f⟩)
  (hl:Zh (f y) off 1=some [v]) (h:V c fn K (.ops l::k) (S.put d v)):V c fn K (.ops (⟨d,g,.load x⟩::l)::k) S:=
 Z53 hg (sem_loadO hx hj rfl (Zr4 (Zq4 hv).2) hl) rfl h
theorem sem_loadAO {j i n off m:Nat} {x:X} {L:Sl} {row r:List AV} (hx:S.x x = .oel j (i*n) off) (hj:Zf S.ss j=some L) (hn:L.n=n) (hr:L.rows[i]?=some row) (hl:Zh row off m=some r):Z43 c S (.loadA m x) (.agg r) S:=by
 intro ro h6 M a w hT next Q h9
 obtain ⟨dst,op,ty,pos,af,gd⟩:=ro
 dsimp only at h6
 obtain ⟨T,y,rfl,hc,rfl⟩:=cO_loadA h6
 have k1:=Z22 hT y
 rw [hx] at k1
 obtain ⟨g,vs,hu,h2,h3,h4⟩:=oel_cells hT k1 hj hn hr hl
 have h8:(execOp a.eval ⟨dst,.load T y,ty,pos,af,gd⟩).run c.P w = .ok (.value (.agg vs.toArray)) w:=by
  generalize a.eval=ρ at *
  simp [execOp,hu,Instr.loadAt,Instr.sureAddr,Ze2 hc h3 h4]
 unfold Oper.wp
 rw [h8]
 exact h9 M w _ (.refl M) hT.st ⟨vs,rfl,h2⟩
theorem Zg5 {α:Type} {l':List α} {z:Int} {y:α} {d:Option Nat} {g:Option (Nat×Bool)} {l:List EOp} {j T n off m:Nat} {x:X} {r:List AV} (f:α→List AV) (hv:at_ l' z=some y) (hg:gm S g) (hx:S.x x = .oel j (z.toNat*n) off) (hj:Zf S.ss j=some ⟨T,n,l'.map f⟩)
  (hl:Zh (f y) off m=some r) (h:V c fn K (.ops l::k) (S.put d (.agg r))):V c fn K (.ops (⟨d,g,.loadA m x⟩::l)::k) S:=
 Z53 hg (sem_loadAO hx hj rfl (Zr4 (Zq4 hv).2) hl) rfl h
theorem isLL_set {M:Mem} {n:Nat}:∀ {rows:List (List AV)} {vss:List (List Value)} {i:Nat} {row:List AV} {vs:List Value},AV.isLL M n rows vss→AV.isL M row vs→vs.length=n→AV.isLL M n (rows.set i row) (vss.set i vs)
 | [],_,i,_,_,h,_,_=>by simp [AV.isLL] at h;subst h;simp [AV.isLL]
 | r::rows,_,0,_,_,⟨v,q,h0,h1,h2,h3⟩,hr,hl=>by subst h0;exact ⟨_,_,rfl,hl,hr,h3⟩
 | r::rows,_,i+1,_,_,⟨v,q,h0,h1,h2,h3⟩,hr,hl=>by subst h0;exact ⟨v,_,rfl,h1,h2,isLL_set h3 hr hl⟩
theorem Zh5 {n off:Nat} {cs:List Value}:∀ {vss:List (List Value)} {i:Nat} {vs:List Value},(∀v∈vss,v.length=n)→vss[i]?=some vs→off+cs.length≤n→
  (vss.set i (vs.take off++cs++vs.drop (off+cs.length))).flatten=vss.flatten.take (i*n+off)++cs++vss.flatten.drop (i*n+off+cs.length)
 | [],i,vs,_,h,_=>by simp at h
 | v::vss,0,vs,hn,h,hle=>by
   simp at h;subst h
   have hv:=hn v (by simp)
   simp only [List.set_cons_zero,List.flatten_cons,Nat.zero_mul,Nat.zero_add]
   rw [List.take_append_of_le_length (by omega),List.drop_append_of_le_length (by omega)]
   simp [List.append_assoc]
 | v::vss,i+1,vs,hn,h,hle=>by
   have hv:=hn v (by simp)
   have ih:=Zh5 (n:=n) (off:=off) (cs:=cs) (vss:=vss) (i:=i) (vs:=vs) (fun u hu=>hn u (by simp [hu])) (by simpa using h) hle
   simp only [List.set_cons_succ,List.flatten_cons]
   rw [ih,show (i+1)*n+off=v.length+(i*n+off) by rw [hv,Nat.add_mul];omega,show v.length+(i*n+off)+cs.length=v.length+(i*n+off+cs.length) by omega,List.take_length_add_append,List.drop_length_add_append]
   simp [List.append_assoc]
theorem Zi5 {M:Mem} {n:Nat}:∀ {rows:List (List AV)} {vss:List (List Value)},AV.isLL M n rows vss→(∀v∈vss,v.length=n)∧vss.length=rows.length
 | [],_,h=>by simp [AV.isLL] at h;subst h;simp
 | _::rows,_,⟨v,q,h0,h1,h2,h3⟩=>by
   subst h0
   obtain ⟨k1,k2⟩:=Zi5 h3
   exact ⟨fun u hu=>by rcases List.mem_cons.1 hu with rfl | hu;exact h1;exact k1 u hu,by simp [k2]⟩
def AV.slo:AV→Bool
 | .osl _=>true
 | x=>x.pu
def slL:List AV→Bool
 | []=>true
 | x::l=>Z2 x.slo (slL l)
attribute [go_sem] AV.slo slL
theorem slo_is {M:Mem} (x:AV) (v:Value) (h:x.is M v) (hp:x.slo=true):x.is M.sl v:=by
 cases x
 case osl j=>exact h
 all_goals exact Zp1 (Zn1 M) _ _ (pu_is _ _ h hp)
theorem slL_is {M:Mem}:∀(l:List AV) (vs:List Value),AV.isL M l vs→slL l=true→AV.isL M.sl l vs
 | [],_,h,_=>h
 | x::l,_,⟨v,r,h0,h1,h2⟩,hp=>by
   simp only [slL,Z81] at hp
   exact ⟨v,r,h0,slo_is x v h1 hp.1,slL_is l r h2 hp.2⟩
theorem slL_pu:∀ {l:List AV},Zo l=true→slL l=true
 | [],_=>rfl
 | x::l,h=>by
   simp only [Zo,Z81] at h
   simp only [slL,Z81]
   refine ⟨?_,slL_pu h.2⟩
   cases x
   case osl j=>rfl
   all_goals exact h.1
theorem Zj5 {j i n off m:Nat} {x y:X} {L:Sl} {row row' cs0 cs:List AV} (hx:S.x x = .oel j (i*n) off) (hj:Zf S.ss j=some L) (hn:L.n=n) (hr:L.rows[i]?=some row) (hw:(S.x y).cells=some cs0) (hB:AV.le.leL cs0 cs) (hm:Zj cs=m) (h1:Zk cs=true) (hp:slL cs=true)
  (hl:Zi row off cs=some row'):Z43 c S (.store m x y) .un ⟨S.tm,S.bs,Zg S.ss j (some ⟨L.T,L.n,L.rows.set i row'⟩)⟩:=by
 intro ro hd M a w hT next Q hC
 obtain ⟨dst,op,ty,pos,af,gd⟩:=ro
 dsimp only at hd
 obtain ⟨T,p,q,rfl,hD,rfl,rfl⟩:=cO_storeX hd
 have k1:=Z22 hT p
 have k2:=Z22 hT q
 subst hn
 rw [hx] at k1
 obtain ⟨_,g',n',cap',e1,hE⟩:=k1
 obtain ⟨g,cap,cur,vss,vs,e2,e3,e4,e5,e6,e7,e8,e9,q1,q2,q3,q4⟩:=own_row hT hj hr
 rw [e2] at e1
 simp only [Value.slice.injEq,Option.some.injEq,Addr.mk.injEq] at e1
 obtain ⟨⟨rfl,_⟩,_⟩:=e1
 have h6:=Zw2 _ _ _ hB (Zf2 (fun j e=>by rw [e] at k2;rw [k2.2];exact hT.st.so j k2.1) k2 hw)
 have h8:=Zg2 h6 h1 hT.st.so
 have hf:=slL_is _ _ h6 hp
 obtain ⟨rfl,hle⟩:=Zi1 hl
 have h9:=Zj1 h6
 have hQ:=Zj1 q3
 have hR:=(List.getElem?_eq_some_iff.1 hr).1
 obtain ⟨hG,hS⟩:=Zi5 e7
 have hI:(i+1)*L.n≤cap*L.n:=Nat.mul_le_mul_right _ (by omega)
 have hJ:(i+1)*L.n≤L.rows.length*L.n:=Nat.mul_le_mul_right _ (by omega)
 rw [Nat.add_mul,Nat.one_mul] at hI hJ
 have hL:i*L.n+off+(a.eval q).cells.toList.length≤cur.size:=by rw [e4];omega
 have he:=run_storeCells_at c.P g (i*L.n+off) L.T (a.eval q).cells.toList 0 cur w e3 (by omega) h8
 have hsz':(a.eval q).cells.size=m:=by rw [←Array.length_toList,h9,←Za1];exact hm
 have hcur':∀v,(cur.toList.take (i*L.n+off)++v++cur.toList.drop (i*L.n+off+v.length)).length=cur.toList.length∨True:=fun _=>.inr trivial
 have ho:(execOp a.eval ⟨dst,.store T p q,ty,pos,af,gd⟩).run c.P w = .ok .skip (w.setRow g (cur.toList.take (i*L.n+off)++(a.eval q).cells.toList++cur.toList.drop (i*L.n+off+(a.eval q).cells.toList.length)).toArray):=by
  generalize a.eval=ρ at *
  simp only [Nat.add_zero] at he
  simp only [execOp,hE,Instr.storeAt,Instr.sureAddr,Sem.run_bind,Sem.run_pure,Result.andThen_ok,storeVar,Z52 hD,hsz',ne_eq,not_true_eq_false,if_false]
  rw [he]
  rfl
 unfold Oper.wp
 rw [ho]
 refine hC M _ _ (.refl M) ?_ rfl
 have hvs':AV.isL M.sl (row.take off++cs++row.drop (off+cs.length)) (vs.take off++(a.eval q).cells.toList++vs.drop (off+(a.eval q).cells.toList.length)):=
  Zk1 (Zk1 (Zl1 off q3) hf) (by rw [h9];exact Zm1 _ q3)
 have hc:=Zh5 (cs:=(a.eval q).cells.toList) (off:=off) hG q1 (by omega)
 have hO:cur.toList.length=cap*L.n:=by simpa using e4
 have hK:(w.setRow g (cur.toList.take (i*L.n+off)++(a.eval q).cells.toList++cur.toList.drop (i*L.n+off+(a.eval q).cells.toList.length)).toArray).heap[g]?=some (.cells (cur.toList.take (i*L.n+off)++(a.eval q).cells.toList++cur.toList.drop (i*L.n+off+(a.eval q).cells.toList.length)).toArray L.T (0,0)):=by
  rw [Zw1,if_pos rfl,e3];rfl
 refine hT.st.rewrite hj (g:=g) (by rw [e2];rfl) (w':=w.setRow g (cur.toList.take (i*L.n+off)++(a.eval q).cells.toList++cur.toList.drop (i*L.n+off+(a.eval q).cells.toList.length)).toArray)
  ⟨rfl,rfl,rfl,by simp [World.setRow],fun k _ hk=>by rw [Zw1,if_neg (fun e=>hk (by rw [e]))]⟩ (vss':=vss.set i (vs.take off++(a.eval q).cells.toList++vs.drop (off+(a.eval q).cells.toList.length))) ?_ ?_ ?_
 ·exact isLL_set e7 hvs' (by simp only [List.length_append,List.length_take,List.length_drop];omega)
 ·intro v hv
  rw [hc] at hv
  simp only [List.mem_append] at hv
  rcases hv with (hv | hv) | hv
  ·exact e9 v (List.mem_of_mem_take hv)
  ·exact h8 v hv
  ·exact e9 v (List.mem_of_mem_drop hv)
 ·have hP:vss.flatten.length=L.rows.length*L.n:=Zc4 e7
  refine ⟨?_,.inr ⟨g,cap,_,by rw [List.length_set];exact e2,Nat.zero_le _,hK,by rw [List.length_set];exact e5,e6,?_,?_⟩⟩
  ·rw [hc,List.length_set];simp only [List.length_append,List.length_take,List.length_drop];omega
  ·simp only [List.size_toArray,List.length_append,List.length_take,List.length_drop];omega
  ·rw [hc,List.length_set,←e8]
   generalize hN:L.rows.length*L.n=N at *
   generalize hA:i*L.n+off=A at *
   generalize (a.eval q).cells.toList=C at *
   generalize cur.toList=D at *
   rw [List.append_assoc,List.append_assoc,List.take_append,List.take_of_length_le (by rw [List.length_take];omega),List.take_append,List.take_of_length_le (l:=C) (by rw [List.length_take];omega),List.length_take,Nat.min_eq_left (by omega),List.take_take,Nat.min_eq_left (by omega),List.drop_take]
   congr 3
   omega
theorem Zk5 {α:Type} {l':List α} {z:Int} {y y':α} {d:Option Nat} {g:Option (Nat×Bool)} {l:List EOp} {j T n off m:Nat} {x v:X} {cs0:List AV} (cs:List AV) (f:α→List AV) (hv:at_ l' z=some y) (hg:gm S g) (hx:S.x x = .oel j (z.toNat*n) off) (hj:Zf S.ss j=some ⟨T,n,l'.map f⟩)
  (h6:(S.x v).cells=some cs0) (h8:AV.le.leL cs0 cs) (hm:Zj cs=m) (h1:Zk cs=true) (hp:Zo cs=true) (hl:Zi (f y) off cs=some (f y'))
  (h:V c fn K (.ops l::k) ((⟨S.tm,S.bs,Zg S.ss j (some ⟨T,n,(l'.set z.toNat y').map f⟩)⟩:St).put d .un)):V c fn K (.ops (⟨d,g,.store m x v⟩::l)::k) S:=by
 refine Z53 hg (Zj5 hx hj rfl (Zr4 (Zq4 hv).2) h6 h8 hm h1 (slL_pu hp) hl) rfl ?_
 dsimp only
 rw [←List.map_set]
 exact h
end
end NX
end Go.Proofs.YtdjkbodnjhgbcaaGreat
/-
  The symbolic machine: calls that write into the caller's own memory; slices made, own slices cut. No statement of the seat is proved here.
-/
namespace Go.Proofs.YtdjkbodnjhgbcaaGreat
namespace NX
open Go Go.RowKit
def msk {α:Type}:List Bool→List (Option α)→List (Option α)
 | _,[]=>[]
 | [],_::l=>none::msk [] l
 | true::m,x::l=>x::msk m l
 | false::m,_::l=>none::msk m l
def mrg {α:Type}:List Bool→List (Option α)→List (Option α)→List (Option α)
 | _,[],r=>r
 | _,_::_,[]=>[]
 | [],x::l,_::r=>x::mrg [] l r
 | true::m,_::l,y::r=>y::mrg m l r
 | false::m,x::l,_::r=>x::mrg m l r
def mb:List Bool→Nat→Bool
 | [],_=>false
 | b::_,0=>b
 | _::m,j+1=>mb m j
attribute [go_sem] msk mrg
theorem Zl5 {α:Type}:∀(m:List Bool) (l:List (Option α)),(msk m l).length=l.length
 | _,[]=>by cases ‹List Bool› <;>rfl
 | [],_::l=>by simp [msk,Zl5 [] l]
 | true::m,x::l=>by simp [msk,Zl5 m l]
 | false::m,_::l=>by simp [msk,Zl5 m l]
theorem Zm5 {α:Type}:∀ {m:List Bool} {l:List (Option α)} {j:Nat} {B:α},Zf (msk m l) j=some B↔mb m j=true∧Zf l j=some B
 | m,[],j,B=>by cases m<;>simp [msk,Zf]
 | [],x::l,0,B=>by simp [msk,Zf,mb]
 | [],x::l,j+1,B=>by simp [msk,Zf,mb,Zm5 (m:=[]) (l:=l) (j:=j)]
 | true::m,x::l,0,B=>by simp [msk,Zf,mb]
 | true::m,x::l,j+1,B=>by simp [msk,Zf,mb,Zm5 (m:=m) (l:=l) (j:=j)]
 | false::m,x::l,0,B=>by simp [msk,Zf,mb]
 | false::m,x::l,j+1,B=>by simp [msk,Zf,mb,Zm5 (m:=m) (l:=l) (j:=j)]
theorem Zn5 {α:Type}:∀(m:List Bool) (l r:List (Option α)),l.length≤r.length→(mrg m l r).length=r.length
 | m,[],r,_=>by cases m<;>rfl
 | m,_::_,[],h=>by simp at h
 | [],x::l,_::r,h=>by simp [mrg,Zn5 [] l r (by simpa using h)]
 | true::m,_::l,y::r,h=>by simp [mrg,Zn5 m l r (by simpa using h)]
 | false::m,x::l,_::r,h=>by simp [mrg,Zn5 m l r (by simpa using h)]
theorem Zo5 {α:Type}:∀ {m:List Bool} {l r:List (Option α)} {j:Nat} {B:α},l.length≤r.length→Zf (mrg m l r) j=some B→
  (j<l.length∧mb m j=false∧Zf l j=some B)∨((l.length≤j∨mb m j=true)∧Zf r j=some B)
 | m,[],r,j,B,_,h=>.inr ⟨.inl (Nat.zero_le _),by cases m<;>exact h⟩
 | m,_::_,[],j,B,hl,h=>by simp at hl
 | [],x::l,y::r,0,B,hl,h=>.inl ⟨by simp,rfl,h⟩
 | [],x::l,y::r,j+1,B,hl,h=>by
   rcases Zo5 (m:=[]) (l:=l) (r:=r) (j:=j) (by simpa using hl) h with ⟨h1,_,h3⟩ | ⟨h1,h2⟩
   ·exact .inl ⟨by simpa using h1,rfl,h3⟩
   ·exact .inr ⟨by rcases h1 with h1 | h1;exact .inl (by simpa using h1);simp [mb] at h1,h2⟩
 | true::m,x::l,y::r,0,B,hl,h=>.inr ⟨.inr rfl,h⟩
 | true::m,x::l,y::r,j+1,B,hl,h=>by
   rcases Zo5 (m:=m) (l:=l) (r:=r) (j:=j) (by simpa using hl) h with ⟨h1,h2,h3⟩ | ⟨h1,h2⟩
   ·exact .inl ⟨by simpa using h1,h2,h3⟩
   ·exact .inr ⟨by rcases h1 with h1 | h1;exact .inl (by simpa using h1);exact .inr h1,h2⟩
 | false::m,x::l,y::r,0,B,hl,h=>.inl ⟨by simp,rfl,h⟩
 | false::m,x::l,y::r,j+1,B,hl,h=>by
   rcases Zo5 (m:=m) (l:=l) (r:=r) (j:=j) (by simpa using hl) h with ⟨h1,h2,h3⟩ | ⟨h1,h2⟩
   ·exact .inl ⟨by simpa using h1,h2,h3⟩
   ·exact .inr ⟨by rcases h1 with h1 | h1;exact .inl (by simpa using h1);exact .inr h1,h2⟩
def Zp5 (M:Mem) (bs:List (Option Blk)) (ss:List (Option Sl)) (k:Nat):Prop:=
 (∃j B,Zf bs j=some B∧M.ρ j=k)∨∃j L,Zf ss j=some L∧(M.σ j).ownBlock=some k
def Ctx.lent (P:Program) (w:World) (M:Mem) (bs:List (Option Blk)) (ss:List (Option Sl)) (np nq:Nat):Ctx:=⟨P,w,M.H,Zp5 M bs ss,np,M.ρ,nq,M.σ⟩
def Zq5 (P:Program) (f:Nat) (args:List AV) (bs:List (Option Blk)) (ss:List (Option Sl)) (v:AV) (bs':List (Option Blk)) (ss':List (Option Sl)):Prop:=
 bs.length≤bs'.length∧ss.length≤ss'.length∧∀(M:Mem) (w:World) (vs:List Value),RelS (Ctx.lent P w M bs ss bs.length ss.length) M bs ss w→AV.isL M args vs→
  Calls P f vs.toArray w fun e w'=>∃u M',e = .returned u∧RelS (Ctx.lent P w M bs ss bs.length ss.length) M' bs' ss' w'∧v.is M' u
theorem FunT_intro {P:Program} {f:Nat} {fn:Func} {body:EC} {rs:List ERes} {np nt:Nat} (hf:FnOK P f fn body rs np nt) {args:List AV} {bs bs':List (Option Blk)} {ss ss':List (Option Sl)} {v:AV} (hn:args.length=np)
  (h1:Z3 (Zj bs) (Zj bs')=true) (h2:Z3 (Zj ss) (Zj ss')=true) (h3:St.ok ⟨[v],bs',ss'⟩=true)
  (h:∀w M,V (Ctx.lent P w M bs ss (Zj bs) (Zj ss)) fn (fun x b s=>St.le ⟨[x],b,s⟩ ⟨[v],bs',ss'⟩) [.code body] ⟨args++lun nt,bs,ss⟩):Zq5 P f args bs ss v bs' ss':=by
 have h1':=h1;have h2':=h2
 rw [Z91,Za1,Za1] at h1 h2
 refine ⟨h1,h2,fun M w vs hS ha=>?_⟩
 obtain ⟨x,hb,hx⟩:=hf.b
 have hl:=Zj1 ha
 refine calls_of_wp hf.h hb ?_
 have e1:fn.ntmps-vs.toArray.size=nt:=by rw [hf.t];simp;omega
 rw [e1]
 have hT:RelT (Ctx.lent P w M bs ss bs.length ss.length) M ⟨args++lun nt,bs,ss⟩ {tmps:=vs.toArray++Array.replicate nt undef,defers:=[]} w:=by
  refine ⟨by simp [Z23,hl],fun t=>?_,rfl,hS⟩
  simp only [Z13,Array.getD_eq_getD_getElem?,Array.getElem?_append,List.size_toArray]
  by_cases h:t<args.length
  ·rw [if_pos h,if_pos (by omega)]
   have:=Z33 ha t h
   simpa [List.getD_eq_getElem?_getD] using this
  ·rw [if_neg h,if_neg (by omega)]
   rcases lun_get nt (t-args.length) with h1 | ⟨_,h1⟩
   ·rw [h1]
    simp only [AV.is,Array.getElem?_replicate]
    split<;>rfl
   ·rw [h1];trivial
 have h':=h w M
 rw [Za1,Za1] at h'
 refine wp_mono (h' [.code x] _ _ w ⟨_,_,rfl,hx,rfl⟩ hT) ?_
 have mono:∀e w',RK (Ctx.lent P w M bs ss bs.length ss.length) (fun x b s=>St.le ⟨[x],b,s⟩ ⟨[v],bs',ss'⟩) e w'→∃u M',e = .returned u∧RelS (Ctx.lent P w M bs ss bs.length ss.length) M' bs' ss' w'∧v.is M' u:=by
  rintro e w' ⟨u,M1,b,s,y,rfl,h6,hv,hle⟩
  have h8:RelT (Ctx.lent P w M bs ss bs.length ss.length) M1 ⟨[y],b,s⟩ {tmps:= #[u],defers:=[]} w':=
   ⟨by simp,fun t=>by cases t with
     | zero=>exact hv
     | succ t=>cases t<;>trivial,rfl,h6⟩
  have hW:=h8.weak hle h3 (by rw [Z91,Za1];exact h1) (by rw [Z91,Za1];exact h2)
  exact ⟨u,_,rfl,hW.st,hW.tm 0⟩
 intro e a w' hq
 cases e with
 | normal=>obtain ⟨h1,v,h2,h3⟩:=hq;exact ⟨h1,v,h2,mono _ _ h3⟩
 | ret=>obtain ⟨h1,v,h2,h3⟩:=hq;exact ⟨h1,v,h2,mono _ _ h3⟩
 | panic ch=>obtain ⟨h1,h2⟩:=hq;exact ⟨h1,mono _ _ h2⟩
 | outgrown=>exact mono _ _ hq
 | exit id=>exact hq
 | goto l=>exact hq
theorem T_done {c:Ctx} {f:Nat} {fn:Func} {body:EC} {rs:List ERes} {np nt:Nat} {k:List It} {S:St} {x v:AV} {bs':List (Option Blk)} {ss':List (Option Sl)} (ok:FnOK c.P f fn body rs np nt)
 (h:resV S rs=some x) (hle:St.le ⟨[x],S.bs,S.ss⟩ ⟨[v],bs',ss'⟩):V c fn (fun x b s=>St.le ⟨[x],b,s⟩ ⟨[v],bs',ss'⟩) (.code .ret::k) S:=V_ret ok.r h hle
theorem T_stop {c:Ctx} {f:Nat} {fn:Func} {body:EC} {rs:List ERes} {np nt:Nat} {S:St} {x v:AV} {bs':List (Option Blk)} {ss':List (Option Sl)} (ok:FnOK c.P f fn body rs np nt)
  (h:resV S rs=some x) (hle:St.le ⟨[x],S.bs,S.ss⟩ ⟨[v],bs',ss'⟩):V c fn (fun x b s=>St.le ⟨[x],b,s⟩ ⟨[v],bs',ss'⟩) [] S:=by
 rintro rk M a w rfl hT
 exact end_post hT ok.r h hle
section
variable {c:Ctx} {M:Mem} {S S':St} {a:Act} {w:World} {fn:Func} {K:AV→List (Option Blk)→List (Option Sl)→Prop} {k:List It}
theorem ownsRow_heap {w w':World} {b e sz n:Nat} {v:Value} {xs:List Value} (h:w.ownsRow b e sz v n xs) (hh:∀g,v.ownBlock=some g→w'.heap[g]?=w.heap[g]?):w'.ownsRow b e sz v n xs:=by
 refine ⟨h.1,h.2.imp id ?_⟩
 rintro ⟨g,cap,cur,rfl,h2,h3,h4⟩
 exact ⟨g,cap,cur,rfl,h2,by rw [hh g rfl];exact h3,h4⟩
theorem lend_in (hS:RelS c M S.bs S.ss w) (lb ls:List Bool):RelS (Ctx.lent c.P w M (msk lb S.bs) (msk ls S.ss) (msk lb S.bs).length (msk ls S.ss).length) M (msk lb S.bs) (msk ls S.ss) w:=by
 refine ⟨by rw [Zl5];exact hS.nb,by rw [Zl5];exact hS.ns,hS.so,rfl,rfl,rfl,Nat.le_refl _,fun _ _ _=>rfl,hS.hle,fun _ _ _=>rfl,?_,?_,?_,?_,?_,?_⟩
 ·intro j B hj
  obtain ⟨g1,g2,vs,g3,g4,g5⟩:=hS.blk j B (Zm5.1 hj).2
  exact ⟨.inr (.inl ⟨j,B,hj,rfl⟩),g2,vs,g3,g4,g5⟩
 ·intro j L hj
  obtain ⟨g0,vss,g1,g2,g3,g4⟩:=hS.slc j L (Zm5.1 hj).2
  exact ⟨g0,vss,g1,g2,g3,fun g hg=>⟨.inr (.inr ⟨j,L,hj,hg⟩),(g4 g hg).2⟩⟩
 ·intro i j B C hi hj e;exact hS.d1 i j B C (Zm5.1 hi).2 (Zm5.1 hj).2 e
 ·intro i j B L hi hj;exact hS.d2 i j B L (Zm5.1 hi).2 (Zm5.1 hj).2
 ·intro i j L N g hi hj;exact hS.d3 i j L N g (Zm5.1 hi).2 (Zm5.1 hj).2
 ·exact ⟨by rw [show (Ctx.lent c.P w M (msk lb S.bs) (msk ls S.ss) (msk lb S.bs).length (msk ls S.ss).length).np=(msk lb S.bs).length from rfl,Zl5,hS.nb];exact Nat.le_refl _,fun _ _=>rfl,
   by rw [show (Ctx.lent c.P w M (msk lb S.bs) (msk ls S.ss) (msk lb S.bs).length (msk ls S.ss).length).nq=(msk ls S.ss).length from rfl,Zl5,hS.ns];exact Nat.le_refl _,fun _ _=>rfl,hS.pin.gl⟩
theorem lend_out {lb ls:List Bool} {M':Mem} {w':World} {bs':List (Option Blk)} {ss':List (Option Sl)} (hS:RelS c M S.bs S.ss w) (hb:(msk lb S.bs).length≤bs'.length) (hs:(msk ls S.ss).length≤ss'.length)
  (h:RelS (Ctx.lent c.P w M (msk lb S.bs) (msk ls S.ss) (msk lb S.bs).length (msk ls S.ss).length) M' bs' ss' w'):M.le M'∧RelS c M' (mrg lb S.bs bs') (mrg ls S.ss ss') w':=by
 rw [Zl5] at hb hs
 have lentMine:∀g,Zp5 M (msk lb S.bs) (msk ls S.ss) g→Mine c g∧M.H g=none:=by
  rintro g (⟨j,B,hj,rfl⟩ | ⟨j,L,hj,hg⟩)
  ·obtain ⟨g1,g2,_⟩:=hS.blk j B (Zm5.1 hj).2;exact ⟨g1,g2⟩
  ·obtain ⟨_,_,_,_,_,g4⟩:=hS.slc j L (Zm5.1 hj).2;exact g4 g hg
 have size0:=hS.size
 have size1:w.heap.size≤w'.heap.size:=h.size
 have hρ:∀j,j<S.bs.length→M'.ρ j=M.ρ j:=fun j hj=>h.pin.ρ j (by show j<(msk lb S.bs).length;rw [Zl5];exact hj)
 have hσ:∀j,j<S.ss.length→M'.σ j=M.σ j:=fun j hj=>h.pin.σ j (by show j<(msk ls S.ss).length;rw [Zl5];exact hj)
 have hH:∀k o,M.H k=some o→M'.H k=some o:=by
  intro k o hk
  have h6:=(Array.getElem?_eq_some_iff.1 (hS.hle k o hk)).1
  have:=h.hold k h6 (fun hl=>by rw [(lentMine k hl).2] at hk;simp at hk)
  rw [this];exact hk
 have hle:M.le M':=⟨by rw [hS.nb,h.nb];exact hb,by rw [hS.ns,h.ns];exact hs,fun j hj=>hρ j (by rw [←hS.nb];exact hj),fun j hj=>hσ j (by rw [←hS.ns];exact hj),hH⟩
 have keepB:∀j B,Zf S.bs j=some B→mb lb j=false→¬Zp5 M (msk lb S.bs) (msk ls S.ss) (M.ρ j):=by
  rintro j B hj hm (⟨i,C,hi,e⟩ | ⟨i,L,hi,e⟩)
  ·have:=hS.d1 i j C B (Zm5.1 hi).2 hj e
   subst this
   rw [(Zm5.1 hi).1] at hm;simp at hm
  ·exact hS.d2 j i B L hj (Zm5.1 hi).2 e
 have keepS:∀j L g,Zf S.ss j=some L→mb ls j=false→(M.σ j).ownBlock=some g→¬Zp5 M (msk lb S.bs) (msk ls S.ss) g:=by
  rintro j L g hj hm hg (⟨i,C,hi,e⟩ | ⟨i,N,hi,e⟩)
  ·exact hS.d2 i j C L (Zm5.1 hi).2 hj (by rw [e];exact hg)
  ·have:=hS.d3 i j N L g (Zm5.1 hi).2 hj e hg
   subst this
   rw [(Zm5.1 hi).1] at hm;simp at hm
 have newMine:∀g,Mine (Ctx.lent c.P w M (msk lb S.bs) (msk ls S.ss) (msk lb S.bs).length (msk ls S.ss).length) g→Mine c g:=by
  rintro g (hg | hg)
  ·exact .inl (Nat.le_trans size0 hg)
  ·exact (lentMine g hg).1
 have apart:∀g k,Mine (Ctx.lent c.P w M (msk lb S.bs) (msk ls S.ss) (msk lb S.bs).length (msk ls S.ss).length) g→k<w.heap.size→¬Zp5 M (msk lb S.bs) (msk ls S.ss) k→g≠k:=by
  rintro g k (hg | hg) hk hn rfl
  ·exact Nat.lt_irrefl _ (Nat.lt_of_lt_of_le hk hg)
  ·exact hn hg
 refine ⟨hle,⟨by rw [Zn5 _ _ _ hb];exact h.nb,by rw [Zn5 _ _ _ hs];exact h.ns,h.so,h.os.trans hS.os,h.tape.trans hS.tape,h.output.trans hS.output,Nat.le_trans size0 size1,?_,h.hle,?_,?_,?_,?_,?_,?_,hS.pin.le hle⟩⟩
 ·intro k hk hn
  have h8:¬Zp5 M (msk lb S.bs) (msk ls S.ss) k:=fun hl=>by
   rcases (lentMine k hl).1 with h1 | h1
   ·omega
   ·exact hn h1
  exact (h.block k (Nat.lt_of_lt_of_le hk size0) h8).trans (hS.block k hk hn)
 ·intro k hk hn
  have h8:¬Zp5 M (msk lb S.bs) (msk ls S.ss) k:=fun hl=>by
   rcases (lentMine k hl).1 with h1 | h1
   ·omega
   ·exact hn h1
  exact (h.hold k (Nat.lt_of_lt_of_le hk size0) h8).trans (hS.hold k hk hn)
 ·intro j B hj
  rcases Zo5 hb hj with ⟨h1,h2,h3⟩ | ⟨_,h3⟩
  ·obtain ⟨g1,g2,vs,g3,g4,g5⟩:=hS.blk j B h3
   have h6:=hS.blk_lt h3
   have hn:=keepB j B h3 h2
   rw [hρ j h1]
   exact ⟨g1,(h.hold _ h6 hn).trans g2,vs,Zq1 hle _ _ g3,(h.block _ h6 hn).trans g4,g5⟩
  ·obtain ⟨g1,g2,vs,g3,g4,g5⟩:=h.blk j B h3
   exact ⟨newMine _ g1,g2,vs,g3,g4,g5⟩
 ·intro j L hj
  rcases Zo5 hs hj with ⟨h1,h2,h3⟩ | ⟨_,h3⟩
  ·obtain ⟨g0,vss,g1,g2,g3,g4⟩:=hS.slc j L h3
   rw [hσ j h1]
   exact ⟨g0,vss,Zr1 hle.sl _ _ _ g1,g2,ownsRow_heap g3 fun g hg=>h.block g (hS.slc_lt h3 hg) (keepS j L g h3 h2 hg),fun g hg=>⟨(g4 g hg).1,(h.hold g (hS.slc_lt h3 hg) (keepS j L g h3 h2 hg)).trans (g4 g hg).2⟩⟩
  ·obtain ⟨g0,vss,g1,g2,g3,g4⟩:=h.slc j L h3
   exact ⟨g0,vss,g1,g2,g3,fun g hg=>⟨newMine _ (g4 g hg).1,(g4 g hg).2⟩⟩
 ·intro i j B C hi hj e
  rcases Zo5 hb hi with ⟨h1,h2,h3⟩ | ⟨_,h3⟩<;>rcases Zo5 hb hj with ⟨k1,k2,k3⟩ | ⟨_,k3⟩
  ·rw [hρ i h1,hρ j k1] at e;exact hS.d1 i j B C h3 k3 e
  ·rw [hρ i h1] at e
   exact absurd e.symm (apart _ _ (h.blk j C k3).1 (hS.blk_lt h3) (keepB i B h3 h2))
  ·rw [hρ j k1] at e
   exact absurd e (apart _ _ (h.blk i B h3).1 (hS.blk_lt k3) (keepB j C k3 k2))
  ·exact h.d1 i j B C h3 k3 e
 ·intro i j B L hi hj
  rcases Zo5 hb hi with ⟨h1,h2,h3⟩ | ⟨_,h3⟩<;>rcases Zo5 hs hj with ⟨k1,k2,k3⟩ | ⟨_,k3⟩
  ·rw [hρ i h1,hσ j k1];exact hS.d2 i j B L h3 k3
  ·rw [hρ i h1]
   intro e
   obtain ⟨_,_,_,_,_,g4⟩:=h.slc j L k3
   exact apart _ _ (g4 _ e).1 (hS.blk_lt h3) (keepB i B h3 h2) rfl
  ·rw [hσ j k1]
   intro e
   exact apart _ _ (h.blk i B h3).1 (hS.slc_lt k3 e) (keepS j L _ k3 k2 e) rfl
  ·exact h.d2 i j B L h3 k3
 ·intro i j L N g hi hj e1 e2
  rcases Zo5 hs hi with ⟨h1,h2,h3⟩ | ⟨_,h3⟩<;>rcases Zo5 hs hj with ⟨k1,k2,k3⟩ | ⟨_,k3⟩
  ·rw [hσ i h1] at e1;rw [hσ j k1] at e2;exact hS.d3 i j L N g h3 k3 e1 e2
  ·rw [hσ i h1] at e1
   obtain ⟨_,_,_,_,_,g4⟩:=h.slc j N k3
   exact absurd rfl (apart _ _ (g4 g e2).1 (hS.slc_lt h3 e1) (keepS i L g h3 h2 e1))
  ·rw [hσ j k1] at e2
   obtain ⟨_,_,_,_,_,g4⟩:=h.slc i L h3
   exact absurd rfl (apart _ _ (g4 g e1).1 (hS.slc_lt k3 e2) (keepS j N g k3 k2 e2))
  ·exact h.d3 i j L N g h3 k3 e1 e2
theorem Zr5 {f:Nat} {xs:List X} {args:List AV} {v:AV} {bs bs':List (Option Blk)} {ss ss':List (Option Sl)} (lb ls:List Bool) (hf:Zq5 c.P f args bs ss v bs' ss') (h8:msk lb S.bs=bs) (h9:msk ls S.ss=ss)
  (ha:AV.le.leL (Zq S xs) args):Z43 c S (.call f xs) v ⟨S.tm,mrg lb S.bs bs',mrg ls S.ss ss'⟩:=by
 subst h8;subst h9
 intro ro ho M a w hT next Q hn
 obtain ⟨dst,op,ty,pos,af,gd⟩:=ro
 dsimp only at ho
 obtain ⟨cargs,argTypes,rfl,hd,rfl⟩:=Z73 ho
 have hm:=Zw2 _ _ _ ha (Zl2 hT cargs.toList)
 obtain ⟨f1,f2,f3⟩:=hf
 have hc:=f3 M w _ (lend_in hT.st lb ls) hm
 have h6:(execOp a.eval ⟨dst,.call ⟨.value (.func f),cargs,argTypes⟩,ty,pos,af,gd⟩).run c.P w = .ok (.enter f (cargs.map a.eval)) w:=by
  have he:a.eval (.func f) = .func (.func f) #[] #[]:=rfl
  generalize a.eval=ρ at *
  simp [execOp,resolve,Deferred.ofValue,invoke,he,Z63 hd]
 unfold Oper.wp
 rw [h6]
 show Calls c.P f (cargs.map a.eval) w _
 have e1:(cargs.toList.map a.eval).toArray=cargs.map a.eval:=by apply Array.ext';simp
 rw [←e1]
 refine hc.mono ?_
 rintro e w' ⟨u,M',rfl,h1,h2⟩
 obtain ⟨hle,hS⟩:=lend_out hT.st f1 f2 h1
 exact hn M' w' u hle hS h2
theorem Zs5 {d:Option Nat} {g:Option (Nat×Bool)} {l:List EOp} {f:Nat} {xs:List X} {args:List AV} {v:AV} {bs bs':List (Option Blk)} {ss ss':List (Option Sl)} (lb ls:List Bool) (hg:gm S g) (hf:Zq5 c.P f args bs ss v bs' ss') (h6:msk lb S.bs=bs:=by rfl) (h8:msk ls S.ss=ss:=by rfl)
  (ha:AV.le.leL (Zq S xs) args:=by first | exact Zi4 _ | simp [go_sem]) (h:V c fn K (.ops l::k) ((⟨S.tm,mrg lb S.bs bs',mrg ls S.ss ss'⟩:St).put d v)):V c fn K (.ops (⟨d,g,.call f xs⟩::l)::k) S:=
 Z53 hg (Zr5 lb ls hf h6 h8 ha) rfl h
theorem sem_callvT {f:Nat} {o:X} {xs:List X} {caps args:List AV} {v:AV} {bs bs':List (Option Blk)} {ss ss':List (Option Sl)} (lb ls:List Bool) (ho:S.x o = .clo f caps) (hf:Zq5 c.P f args bs ss v bs' ss')
  (h9:(c.P.funcs[f]?).any (fun fn=>fn.body.isSome&&!(fn.name == "runtime.NumGoroutine"))=true) (hd:msk lb S.bs=bs) (he:msk ls S.ss=ss)
  (ha:AV.le.leL (Zq S xs++caps) args):Z43 c S (.callv o xs) v ⟨S.tm,mrg lb S.bs bs',mrg ls S.ss ss'⟩:=by
 subst hd;subst he
 intro ro h6 M a w hT next Q hn
 obtain ⟨dst,op,ty,pos,af,gd⟩:=ro
 dsimp only at h6
 obtain ⟨t,cargs,argTypes,rfl,rfl,rfl⟩:=cO_callv h6
 have hx:=Z22 hT (.tmp t)
 rw [show S.x (cX (.tmp t)) = .clo f caps from ho] at hx
 obtain ⟨cv,hx1,hw⟩:=hx
 have hm:=Zw2 _ _ _ ha (Zk1 (Zl2 hT cargs.toList) hw)
 obtain ⟨f1,f2,f3⟩:=hf
 have hc:=f3 M w _ (lend_in hT.st lb ls) hm
 have h8:(execOp a.eval ⟨dst,.call ⟨.value (.tmp t),cargs,argTypes⟩,ty,pos,af,gd⟩).run c.P w = .ok (.enter f (cargs.map a.eval++cv.toArray)) w:=by
  generalize a.eval=ρ at *
  simp [execOp,resolve,Deferred.ofValue,invoke,hx1,Z63 h9]
 unfold Oper.wp
 rw [h8]
 show Calls c.P f (cargs.map a.eval++cv.toArray) w _
 have e1:(cargs.toList.map a.eval++cv).toArray=cargs.map a.eval++cv.toArray:=by apply Array.ext';simp
 rw [←e1]
 refine hc.mono ?_
 rintro e w' ⟨u,M',rfl,h1,h2⟩
 obtain ⟨hle,hS⟩:=lend_out hT.st f1 f2 h1
 exact hn M' w' u hle hS h2
theorem Zt5 {d:Option Nat} {g:Option (Nat×Bool)} {l:List EOp} {f:Nat} {o:X} {xs:List X} {caps args:List AV} {v:AV} {bs bs':List (Option Blk)} {ss ss':List (Option Sl)} (lb ls:List Bool) (hg:gm S g) (ho:S.x o = .clo f caps) (hf:Zq5 c.P f args bs ss v bs' ss')
  (h6:(c.P.funcs[f]?).any (fun fn=>fn.body.isSome&&!(fn.name == "runtime.NumGoroutine"))=true) (h8:msk lb S.bs=bs:=by rfl) (h9:msk ls S.ss=ss:=by rfl)
  (ha:AV.le.leL (Zq S xs++caps) args:=by first | exact Zi4 _ | simp [go_sem]) (h:V c fn K (.ops l::k) ((⟨S.tm,mrg lb S.bs bs',mrg ls S.ss ss'⟩:St).put d v)):V c fn K (.ops (⟨d,g,.callv o xs⟩::l)::k) S:=
 Z53 hg (sem_callvT lb ls ho hf h6 h8 h9 ha) rfl h
end
end NX
end Go.Proofs.YtdjkbodnjhgbcaaGreat
