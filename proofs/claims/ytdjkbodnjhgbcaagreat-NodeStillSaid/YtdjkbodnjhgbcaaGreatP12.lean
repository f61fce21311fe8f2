/-
  The symbolic machine: a value is laid into an own slice (slices.Insert). No statement of the seat is proved here.
-/
import Derived.Laws.Externs
import Derived.Lib.Overlaps
import Derived.Lib.AppendZerosOnto
import Derived.Test.YtdjkbodnjhgbcaaGreatP11
namespace Go.Proofs.YtdjkbodnjhgbcaaGreat
namespace NX
open Go Go.RowKit
@[go_sem] def ptrRow {α:Type} (f:α→List AV) (x:α):List AV:=[.elt (f x) 0]
def capV:Value→Nat
 | .slice _ _ c=>c
 | _=>0
theorem cO_xcall {P:Program} {op:Op} {f:Nat} {xs:List X} (ho:cO P op = .xcall f xs):
  ∃cargs argTypes,op = .call ⟨.value (.func f),cargs,argTypes⟩∧cargs.toList.map cX=xs:=by
 cases op
 case call ci=>
  obtain ⟨callee,cargs,argTypes⟩:=ci
  cases callee with
  | value o=>
    cases o with
    | func f'=>
      simp only [cO] at ho
      split at ho
      ·simp at ho
      ·simp only [EO.xcall.injEq] at ho
       obtain ⟨rfl,rfl⟩:=ho
       exact ⟨cargs,argTypes,rfl,rfl⟩
    | _=>simp [cO] at ho
  | invoke _ _=>simp [cO] at ho
  | builtin b=>cases b<;>simp only [cO] at ho<;>(repeat' (split at ho))<;>simp at ho
 all_goals (simp only [cO] at ho;(repeat' (split at ho))<;>simp at ho)
theorem Zc6 {P:Program} (w:World) (dT sT ty elem:TypeId) (g o dLen dCap:Nat) (a:Addr) (sLen sCap n:Nat) (cur:Array Value) (t:TypeId) (cs:List Value)
  (hu:P.underlying dT=some (.slice elem)) (hs:(P.info? elem).map (·.size)=some n)
  (hg:w.heap[g]?=some (.cells cur t (0,0))) (hn:cs.length=Nat.min sLen dLen*n)
  (h8:∀j v,cs[j]?=some v→w.cell? (a.add j)=some v) (h9:o+cs.length≤cur.size) (h1:∀v∈cs,v.oneCell'=true):
  (Builtin.copy_ #[dT,sT] ty #[.slice (some ⟨g,o,none⟩) dLen dCap,.slice (some a) sLen sCap]).run P w =
    .ok (goInt (Nat.min sLen dLen)) (w.setRow g (cur.toList.take o++cs++cur.toList.drop (o+cs.length)).toArray):=by
 have hl:=run_loadCells_list (P:=P) w a cs h8
 have h6:=run_storeCells_at P g o t cs 0 cur w hg (by simpa using h9) h1
 cases hq:P.info? elem with
 | none=>simp [hq] at hs
 | some i=>
   have hi:i.size=n:=by simpa [hq] using hs
   simp only [Nat.add_zero] at h6
   simp [Builtin.copy_,run_underlying hu,Builtin.lenOf,Builtin.firstCells,sizeOf,typeInfo,hq,hi,←hn,hl,h6]
section
variable {c:Ctx} {M:Mem} {S S':St} {a:Act} {w:World} {fn:Func} {K:AV→List (Option Blk)→List (Option Sl)→Prop} {k:List It}
theorem sem_xcall {f:Nat} {xs:List X} {v:AV} (h:∀M a w,RelT c M S a w→∀vs,AV.isL M (Zq S xs) vs→∃u,(callFunc f vs.toArray).run c.P w = .ok (.value u) w∧v.is M u):Z43 c S (.xcall f xs) v S:=by
 intro ro ho M a w hT next Q hn
 obtain ⟨dst,op,ty,pos,af,gd⟩:=ro
 dsimp only at ho
 obtain ⟨cargs,argTypes,rfl,rfl⟩:=cO_xcall ho
 obtain ⟨u,hr,hu⟩:=h M a w hT _ (Zl2 hT cargs.toList)
 have e1:(cargs.toList.map a.eval).toArray=cargs.map a.eval:=by apply Array.ext';simp
 rw [e1] at hr
 have h6:(execOp a.eval ⟨dst,.call ⟨.value (.func f),cargs,argTypes⟩,ty,pos,af,gd⟩).run c.P w = .ok (.value u) w:=by
  have he:a.eval (.func f) = .func (.func f) #[] #[]:=rfl
  generalize a.eval=ρ at *
  simp [execOp,resolve,Deferred.ofValue,invoke,he,hr]
 unfold Oper.wp
 rw [h6]
 exact hn M w u (.refl M) hT.st hu
theorem Zd6 {j:Nat} {x:X} {L:Sl} (hx:S.x x = .osl j) (hj:Zf S.ss j=some L) (hn:j<c.nq):Z43 c S (.cap x) (.iv (capV (c.ps j))) S:=by
 intro ro h8 M a w h6 next Q hd
 obtain ⟨dst,op,ty,pos,af,gd⟩:=ro
 dsimp only at h8
 obtain ⟨q,ats,t0,e,rfl,h0,hu,rfl⟩:=cO_cap h8
 have k1:=Z22 h6 q
 rw [hx] at k1
 have hc:∃d l,M.σ j = .slice d l (capV (M.σ j)):=by
  obtain ⟨g0,vss,h1,h2,h3,h4⟩:=h6.st.slc j _ hj
  rcases h3.2 with ⟨e2,e3⟩ | ⟨g,cap,cur,e2,_⟩
  ·exact ⟨none,0,by rw [e2];rfl⟩
  ·exact ⟨some ⟨g,0,none⟩,L.rows.length,by rw [e2];rfl⟩
 obtain ⟨d,l,hc⟩:=hc
 have k2:=k1.2.trans hc
 rw [h6.st.pin.σ j hn] at k2
 generalize capV (c.ps j)=cp at *
 have h9:(execOp a.eval ⟨dst,.call ⟨.builtin .cap, #[q],ats⟩,ty,pos,af,gd⟩).run c.P w = .ok (.value (.int .i64 cp)) w:=by
  generalize a.eval=ρ at *
  simp [execOp,resolve,invoke,builtin,Builtin.cap_,h0,run_underlying hu,k2]
  rfl
 unfold Oper.wp
 rw [h9]
 exact hd M w _ (.refl M) h6.st rfl
theorem Ze6 {j q g L cap n:Nat} {x:X} {lo hi:Option X} {h:Int} (hx:S.x x = .osl j) (hd:j<c.nq) (hqn:q<c.nq) (he:c.ps j = .slice (some ⟨g,0,none⟩) L cap) (hf:c.ps q = .slice (some ⟨g,0,none⟩) (L+1) cap) (hc:L+1≤cap)
  (hn:bnd S lo 0=some 0) (ho:bnd S hi L=some h) (hh:h=(L:Int)+1):Z43 c S (.slice n x lo hi) (.osl q) S:=by
 subst hh
 intro ro h8 M a w h6 next Q hw
 obtain ⟨dst,op,ty,pos,af,gd⟩:=ro
 dsimp only at h8
 obtain ⟨T',y,lo',hi',e,rfl,hu,hs,rfl,rfl,rfl⟩:=Z35 h8
 have hS:=h6.st
 have k1:=Z22 h6 y
 rw [hx] at k1
 have b1:=Z36 (Z22 h6) lo' 0 0 hn
 have b2:=Z36 (Z22 h6) hi' L ((L:Int)+1) ho
 have h9:=Z56 (P:=c.P) (w:=w) hu hs (ρ:=a.eval) (ad:=some ⟨g,0,none⟩) (len:=L) (cp:=cap) (lo:=0) (hi:=(L:Int)+1) (k1.2.trans ((hS.pin.σ j hd).trans he)) b1 b2 (by omega) (by omega) (by omega) dst ty pos af gd
 unfold Oper.wp
 rw [h9]
 refine hw M w _ (.refl M) hS ⟨Nat.lt_of_lt_of_le hqn hS.pin.ns,?_⟩
 rw [hS.pin.σ q hqn,hf]
 have:((L:Int)+1).toNat=L+1:=by omega
 rw [this]
 simp only [Option.map,Int.toNat_zero,Nat.zero_mul,Nat.sub_zero,Addr.add_lit,Nat.add_zero,ite_self]
theorem Zf6 {q g m cap n:Nat} {x:X} {lo hi:Option X} {l h:Int} (hx:S.x x = .osl q) (hqn:q<c.nq) (he:c.ps q = .slice (some ⟨g,0,none⟩) m cap) (hc:m≤cap)
  (hf:bnd S lo 0=some l) (hn:bnd S hi m=some h) (h0:0≤l) (h1:l≤h) (h2:h≤m):Z43 c S (.slice n x lo hi) (.ocs q l.toNat n (h.toNat-l.toNat)) S:=by
 intro ro h9 M a w h6 next Q ho
 obtain ⟨dst,op,ty,pos,af,gd⟩:=ro
 dsimp only at h9
 obtain ⟨T',y,lo',hi',e,rfl,hu,hs,rfl,rfl,rfl⟩:=Z35 h9
 have hS:=h6.st
 have k1:=Z22 h6 y
 rw [hx] at k1
 have b1:=Z36 (Z22 h6) lo' 0 l hf
 have b2:=Z36 (Z22 h6) hi' m h hn
 have e2:=(hS.pin.σ q hqn).trans he
 have hd:=Z56 (P:=c.P) (w:=w) hu hs (ρ:=a.eval) (ad:=some ⟨g,0,none⟩) (len:=m) (cp:=cap) (lo:=l) (hi:=h) (k1.2.trans e2) b1 b2 h0 h1 (by omega) dst ty pos af gd
 unfold Oper.wp
 rw [hd]
 refine ho M w _ (.refl M) hS ⟨k1.1,g,m,cap,e2,?_⟩
 by_cases h8:cap=l.toNat
 ·rw [if_pos h8,if_pos h8]
 ·rw [if_neg h8,if_neg h8]
  simp only [Option.map,Addr.add_lit,Nat.zero_add]
theorem ovl_run {P:Program} {w:World} {f:Nat} {fn:Func} {tS tR e n:Nat} (hf:P.funcs[f]?=some fn) (h1:(fn.name == "runtime.NumGoroutine")=false) (h2:fn.body.isNone=true) (h3:Extern.findNext fn=none)
  (h4:Extern.find fn=some (Extern.SlicesOverlaps.overlaps #[tS,tS] #[tR])) (hu:P.underlying tS=some (.slice e)) (hs:Z6 P e=some n) {a b:Addr} {la ca lb cb:Nat} {cu cv:Array Value} {tA tB:TypeId}
  (ha:w.heap[a.block]?=some (.cells cu tA (0,0))) (hb:w.heap[b.block]?=some (.cells cv tB (0,0))) (hne:a.block≠b.block) (hk:cv.size≠0):
  (callFunc f #[.slice (some a) la ca,.slice (some b) lb cb]).run P w = .ok (.value (.bool false)) w:=by
 rw [run_callFunc_extern hf h1 h2 h3 h4]
 rw [Lib.run_overlaps_apart w tS tR e hu n (fun w=>Z52 hs) a b la ca lb cb hne tA tB cu.size cv.size (by simp [World.shape?,ha]) (by simp [World.shape?,hb]) hk (by simp [World.frozen?,ha]) (by simp [World.frozen?,ha])]
 rfl
theorem sem_ovl {f:Nat} {ft:Func} {tS tR e n:Nat} (hf:c.P.funcs[f]?=some ft) (h1:(ft.name == "runtime.NumGoroutine")=false) (h2:ft.body.isNone=true) (h3:Extern.findNext ft=none)
  (h4:Extern.find ft=some (Extern.SlicesOverlaps.overlaps #[tS,tS] #[tR])) (hu:c.P.underlying tS=some (.slice e)) (hs:Z6 c.P e=some n)
  {j kk q g L cap lo m:Nat} {Lj Lk:Sl} {x y:X} (hx:S.x x = .osl kk) (hy:S.x y = .ocs q lo n m) (hj:Zf S.ss j=some Lj) (hk:Zf S.ss kk=some Lk) (hne:kk≠j) (h6:0<Lk.rows.length) (h8:0<Lj.rows.length)
  (h9:j<c.nq) (hqn:q<c.nq) (hc:c.ps j = .slice (some ⟨g,0,none⟩) L cap) (hd:c.ps q = .slice (some ⟨g,0,none⟩) (L+1) cap):Z43 c S (.xcall f [x,y]) .ff S:=by
 refine sem_xcall fun M a w hT vs hv=>?_
 simp only [Zq,hx,hy] at hv
 obtain ⟨v1,r1,rfl,q1,v2,r2,rfl,q2,q3⟩:=hv
 simp only [AV.isL] at q3
 subst q3
 obtain ⟨g1,cap1,cur1,vss1,e1,e3,e4,e5,e6,w1,w2,e7⟩:=Z26 (T:=Lj.T) (n:=Lj.n) (rows:=Lj.rows) hT.st hj h8
 obtain ⟨g2,cap2,cur2,vss2,f1,f3,f4,f5,f6,x1,x2,f7⟩:=Z26 (T:=Lk.T) (n:=Lk.n) (rows:=Lk.rows) hT.st hk h6
 have hg:g1=g:=by
  have:=e1.symm.trans ((hT.st.pin.σ j h9).trans hc)
  simp at this;exact this.1
 subst hg
 obtain ⟨_,q1⟩:=q1
 obtain ⟨_,g3,n3,c3,z1,z2⟩:=q2
 have he:g3=g1:=by
  have:=z1.symm.trans ((hT.st.pin.σ q hqn).trans hd)
  simp at this;exact this.1
 subst he
 have hn:g2≠g3:=fun e=>hne (hT.st.d3 kk j Lk Lj g2 hk hj (by rw [f1];rfl) (by rw [e1,←e];rfl))
 obtain ⟨l0,_⟩:=hT.st.slc j _ hj
 refine ⟨.bool false,?_,rfl⟩
 rw [show [v1,v2].toArray = #[v1,v2] from rfl,q1,f1,z2]
 refine ovl_run hf h1 h2 h3 h4 hu hs (a:=⟨g2,0,none⟩) (b:=⟨g3,_,none⟩) f3 e3 hn ?_
 rw [e6]
 exact Nat.ne_of_gt (Nat.mul_pos (by omega) l0)
theorem RelS.grownQ (h:RelS c M S.bs S.ss w) {w':World} {v:Value} {L:Sl} {vss:List (List Value)} {ss:List (Option Sl)} {q:Nat}
  (hd:ss.length=S.ss.length) (h6:∀j N,Zf ss j=some N→Zf S.ss j=some N∧∀g,v.ownBlock=some g→(M.σ j).ownBlock≠some g)
  (hv:∀i B,Zf S.bs i=some B→v.ownBlock≠some (M.ρ i)) (hc:∀g,v.ownBlock=some g→Mine c g∧M.H g=none)
  (hg:w.grownBy w' v.ownBlock) (h8:(M.σ q).ownBlock=v.ownBlock) (hq:q<S.ss.length)
  (h0:0<L.n) (h1:AV.isLL M.sl L.n L.rows vss) (h2:∀x∈vss.flatten,x.oneCell'=true) (h3:w'.ownsRow 0 L.T L.n (M.σ q) L.rows.length vss.flatten):
  RelS c M S.bs (Zg ss q (some L)) w':=by
 have h9:∀k,k<w.heap.size→v.ownBlock≠some k→w'.heap[k]?=w.heap[k]?:=fun k hk hne=>hg.block k hk (fun e=>hne e.symm)
 have live:∀i N,Zf (Zg ss q (some L)) i=some N→(i=q∧N=L)∨Zf ss i=some N:=by
  intro i N hi
  rw [Ze1] at hi
  split at hi
  ·rename_i e
   simp only [Option.some.injEq] at hi
   exact .inl ⟨e.1,hi.symm⟩
  ·exact .inr hi
 refine ⟨h.nb,by rw [h.ns,Zf1,hd],h.so,hg.os.trans h.os,hg.tape.trans h.tape,hg.output.trans h.output,Nat.le_trans h.size hg.size,?_,?_,h.hold,?_,?_,h.d1,?_,?_,h.pin⟩
 ·intro k hk hb
  rw [h9 k (Nat.lt_of_lt_of_le hk h.size)]
  ·exact h.block k hk hb
  ·intro e
   rcases (hc k e).1 with h | h
   ·omega
   ·exact hb h
 ·intro k o hk
  rw [h9 k (Array.getElem?_eq_some_iff.1 (h.hle k o hk)).1]
  ·exact h.hle k o hk
  ·intro e;rw [(hc k e).2] at hk;simp at hk
 ·intro j B hj
  obtain ⟨g1,g2,vs,g3,g4,g5⟩:=h.blk j B hj
  refine ⟨g1,g2,vs,g3,?_,g5⟩
  rw [h9 _ (h.blk_lt hj)]
  ·exact g4
  ·exact hv j B hj
 ·intro j N hj
  rcases live j N hj with ⟨rfl,rfl⟩ | hj
  ·exact ⟨h0,vss,h1,h2,h3,fun g he=>hc g (by rw [←h8];exact he)⟩
  ·obtain ⟨hj,hne⟩:=h6 j N hj
   obtain ⟨q0,us,q1,q2,q3,q4⟩:=h.slc j N hj
   refine ⟨q0,us,q1,q2,World.ownsRow.kept q3 hg ?_,q4⟩
   cases hf:v.ownBlock with
   | none=>
     cases ho:(M.σ j).ownBlock with
     | none=>exact .inl rfl
     | some g=>right;simp
   | some g=>right;exact hne g hf
 ·intro i j B N hi hj
  rcases live j N hj with ⟨rfl,rfl⟩ | hj
  ·rw [h8];exact hv i B hi
  ·exact h.d2 i j B N hi (h6 j N hj).1
 ·intro i j N O g hi hj e1 e2
  rcases live i N hi with ⟨ei,_⟩ | hi<;>rcases live j O hj with ⟨ej,_⟩ | hj
  ·rw [ei,ej]
  ·rw [ei] at e1
   exact absurd e2 ((h6 j O hj).2 g (by rw [←h8];exact e1))
  ·rw [ej] at e2
   exact absurd e1 ((h6 i N hi).2 g (by rw [←h8];exact e2))
  ·exact h.d3 i j N O g (h6 i N hi).1 (h6 j O hj).1 e1 e2
theorem Zg6 {j q g L cap n T i:Nat} {x y:X} {rows:List (List AV)} (hx:S.x x = .ocs q (i+1) n (L-i)) (hy:S.x y = .ocs q i n (L+1-i)) (hj:Zf S.ss j=some ⟨T,n,rows⟩) (hL:rows.length=L) (hi:i<L) (hI:q<S.ss.length)
  (hJ:j<c.nq) (hqn:q<c.nq) (hK:c.ps j = .slice (some ⟨g,0,none⟩) L cap) (hN:c.ps q = .slice (some ⟨g,0,none⟩) (L+1) cap) (hc:L+1≤cap):
  Z43 c S (.copy n x y) (.iv ((L-i:Nat):Int)) ⟨S.tm,S.bs,Zg (Zg S.ss j none) q (some ⟨T,n,rows.take (i+1)++rows.drop i⟩)⟩:=by
 intro ro hB M a w hT next Q hO
 obtain ⟨dst,op,ty,pos,af,gd⟩:=ro
 dsimp only at hB
 obtain ⟨p,r,t,u,e,rfl,hu,hs,rfl,rfl⟩:=cO_copy hB
 have k1:=Z22 hT p
 have k2:=Z22 hT r
 rw [hx] at k1
 rw [hy] at k2
 have hS:=hT.st
 have sj:=(hS.pin.σ j hJ).trans hK
 have sq:=(hS.pin.σ q hqn).trans hN
 obtain ⟨_,g1,n1,c1,k1,k1'⟩:=k1
 obtain ⟨_,g2,n2,c2,k2,k2'⟩:=k2
 rw [sq] at k1 k2
 simp only [Value.slice.injEq,Option.some.injEq,Addr.mk.injEq] at k1 k2
 obtain ⟨⟨rfl,_⟩,rfl,rfl⟩:=k1
 obtain ⟨⟨rfl,_⟩,_,rfl⟩:=k2
 obtain ⟨gg,cc,cur,vss,e2,e3,e4,e5,e6,v1,v2,e7⟩:=Z26 hS hj (by omega)
 rw [sj] at e2
 simp only [Value.slice.injEq,Option.some.injEq,Addr.mk.injEq] at e2
 obtain ⟨⟨rfl,_⟩,_,rfl⟩:=e2
 rw [if_neg (by omega)] at k1' k2'
 obtain ⟨g0,_,_,_,_,q4⟩:=hS.slc j _ hj
 dsimp only at g0
 have h8:=(Zi5 v1).1
 have hQ:=Zc4 v1
 have hw:AV.isLL M.sl n (rows.drop i) (vss.drop i):=by
  have:=Z55 v1 i rows.length
  rw [List.take_length] at this
  have e:vss.take rows.length=vss:=List.take_of_length_le (by rw [(Zi5 v1).2];exact Nat.le_refl _)
  rwa [e] at this
 have hC:AV.isLL M.sl n (rows.take (i+1)) (vss.take (i+1)):=by
  have:=Z55 v1 0 (i+1)
  simpa using this
 have h6:=Zc4 hw
 rw [List.length_drop,hL] at h6
 have hD:(vss.drop i).flatten=vss.flatten.drop (i*n):=(Z06 h8 i).2
 have hd:(vss.take (i+1)).flatten=vss.flatten.take ((i+1)*n):=(Z06 h8 (i+1)).1
 have he:∀v∈(vss.drop i).flatten,v.oneCell'=true:=fun v hv=>by
  rw [hD] at hv;exact v2 v (List.mem_of_mem_drop hv)
 have hf:∀(z:Nat) v,(vss.drop i).flatten[z]?=some v→w.cell? ((⟨g,i*n,none⟩:Addr).add z)=some v:=fun z v hv=>by
  rw [hD,List.getElem?_drop,←e7,List.getElem?_take] at hv
  split at hv
  ·rw [Addr.add_lit]
   simp only [World.cell?,e3]
   simpa using hv
  ·simp at hv
 have m1:(i+1)*n+(L-i)*n=(L+1)*n:=by rw [←Nat.add_mul];congr 1;omega
 have m2:(L+1)*n≤cap*n:=Nat.mul_le_mul_right _ hc
 have m3:(i+1)*n≤L*n:=Nat.mul_le_mul_right _ (by omega)
 have hn:Nat.min (L+1-i) (L-i)=L-i:=by simp only [Nat.min_def];split<;>omega
 have ho:=copy_exec (P:=c.P) (w:=w) (p:=p) (q:=r) (t:=t) (u:=u) (ρ:=a.eval) (d:=dst) (ty:=ty) (pos:=pos) (af:=af) (gd:=gd) (by
  rw [k1',k2']
  exact Zc6 (P:=c.P) w t u ty e g ((i+1)*n) (L-i) _ ⟨g,i*n,none⟩ (L+1-i) _ n cur T (vss.drop i).flatten hu (szOf_info hs) e3 (by rw [h6,hn]) hf (by rw [h6,e6];omega) he)
 rw [hn,h6] at ho
 unfold Oper.wp
 rw [ho]
 have hP:cur.toList.length=cap*n:=by simpa using e6
 refine hO M _ _ (.refl M) ?_ rfl
 have hE:(vss.take (i+1)++vss.drop i).flatten=cur.toList.take ((i+1)*n)++(vss.drop i).flatten:=by
  rw [List.flatten_append,hd,←e7,List.take_take,Nat.min_eq_left (by rw [hL];exact m3)]
 refine RelS.grownQ (v:=M.σ j) (vss:=vss.take (i+1)++vss.drop i) hS (Zf1 _ _ _) ?_ (fun z B hz=>hS.d2 z j B _ hz hj) q4 ?_ ?_ hI g0 (Zb4 hC hw) ?_ ?_
 ·intro z N hz
  rw [Ze1] at hz
  split at hz
  ·simp at hz
  ·rename_i e
   refine ⟨hz,fun g hg e2=>e ⟨?_,Zg1 hj⟩⟩
   exact hS.d3 z j N _ g hz hj e2 hg
 ·rw [sj]
  refine ⟨rfl,rfl,rfl,by simp [World.setRow],fun z hz hne=>?_⟩
  rw [Zw1,if_neg]
  rintro rfl
  exact hne rfl
 ·rw [sj,sq];rfl
 ·intro v hv
  rw [List.flatten_append] at hv
  rcases List.mem_append.1 hv with hv | hv
  ·rw [hd] at hv;exact v2 v (List.mem_of_mem_take hv)
  ·exact he v hv
 ·have hG:(rows.take (i+1)++rows.drop i).length=L+1:=by rw [List.length_append,List.length_take,List.length_drop];omega
  have hA:(vss.take (i+1)++vss.drop i).flatten.length=(L+1)*n:=by
   have:=Zc4 (Zb4 hC hw)
   rw [this,hG]
  dsimp only
  rw [hG]
  refine ⟨hA,.inr ⟨g,cap,_,sq,Nat.zero_le _,by rw [Zw1,if_pos rfl,e3];rfl,hc,e5,?_,?_⟩⟩
  ·have h9:(cur.toList.take ((i+1)*n)++(vss.drop i).flatten++cur.toList.drop ((i+1)*n+(L-i)*n)).length=cap*n:=by
    rw [List.length_append,List.length_append,List.length_take,List.length_drop,h6,hP];omega
   simpa using h9
  ·rw [hE]
   rw [List.take_left']
   rw [←hE,hA]
theorem sem_copyVV {q j T T' n o1 m1 o2 m2:Nat} {x y:X} {rows rs:List (List AV)} (hx:S.x x = .ocs q o1 n m1) (hy:S.x y = .ocs j o2 n m2) (hq:Zf S.ss q=some ⟨T,n,rows⟩) (hj:Zf S.ss j=some ⟨T',n,rs⟩)
  (h1:o1+m1≤rows.length) (h2:o2+m2≤rs.length) (l1:o1<rows.length) (l2:o2<rs.length):
  Z43 c S (.copy n x y) (.iv (min m2 m1:Nat)) ⟨S.tm,S.bs,Zg S.ss q (some ⟨T,n,rows.take o1++(rs.take (o2+min m2 m1)).drop o2++rows.drop (o1+min m2 m1)⟩)⟩:=by
 intro ro hd M a w hT next Q hn
 obtain ⟨dst,op,ty,pos,af,gd⟩:=ro
 dsimp only at hd
 obtain ⟨p,r,t,u,e,rfl,hu,hs,rfl,rfl⟩:=cO_copy hd
 have k1:=Z22 hT p
 have k2:=Z22 hT r
 rw [hx] at k1
 rw [hy] at k2
 obtain ⟨_,g1,n1,c1,k1,k1'⟩:=k1
 obtain ⟨_,g2,n2,c2,k2,k2'⟩:=k2
 obtain ⟨g,cap,cur,vss,e2,e3,e4,e5,e6,v1,v2,e7⟩:=Z26 hT.st hq (by omega)
 obtain ⟨g',cap',cur',ws,f2,f3,f4,f5,f6,w1,w2,f7⟩:=Z26 hT.st hj (by omega)
 rw [e2] at k1
 rw [f2] at k2
 simp only [Value.slice.injEq,Option.some.injEq,Addr.mk.injEq] at k1 k2
 obtain ⟨⟨rfl,_⟩,rfl,rfl⟩:=k1
 obtain ⟨⟨rfl,_⟩,_,rfl⟩:=k2
 rw [if_neg (by omega)] at k1' k2'
 have hw:=Z55 w1 o2 (o2+min m2 m1)
 have h8:=Zc4 hw
 have hk:((rs.take (o2+min m2 m1)).drop o2).length=min m2 m1:=by rw [List.length_drop,List.length_take];omega
 rw [hk] at h8
 have h6:=(Zi5 w1).1
 have he:((ws.take (o2+min m2 m1)).drop o2).flatten=(ws.flatten.take ((o2+min m2 m1)*n)).drop (o2*n):=by
  rw [(Z06 (fun v hv=>h6 v (List.mem_of_mem_take hv)) o2).2,(Z06 h6 _).1]
 have h9:∀v∈((ws.take (o2+min m2 m1)).drop o2).flatten,v.oneCell'=true:=fun v hv=>by
  rw [he] at hv;exact w2 v (List.mem_of_mem_take (List.mem_of_mem_drop hv))
 have hc:∀(i:Nat) v,((ws.take (o2+min m2 m1)).drop o2).flatten[i]?=some v→w.cell? ((⟨g',o2*n,none⟩:Addr).add i)=some v:=fun i v hv=>by
  rw [he,List.getElem?_drop,List.getElem?_take] at hv
  split at hv
  ·rw [←f7,List.getElem?_take] at hv
   split at hv
   ·rw [Addr.add_lit]
    simp only [World.cell?,f3]
    simpa using hv
   ·simp at hv
  ·simp at hv
 have m1':(o1+min m2 m1)*n≤cap*n:=Nat.mul_le_mul_right _ (by omega)
 rw [Nat.add_mul] at m1'
 have hf:=copy_exec (P:=c.P) (w:=w) (p:=p) (q:=r) (t:=t) (u:=u) (ρ:=a.eval) (d:=dst) (ty:=ty) (pos:=pos) (af:=af) (gd:=gd) (by
  rw [k1',k2']
  exact Zc6 (P:=c.P) w t u ty e g (o1*n) m1 _ ⟨g',o2*n,none⟩ m2 _ n cur T ((ws.take (o2+min m2 m1)).drop o2).flatten hu (szOf_info hs) e3 (h8.trans rfl) hc (by rw [h8,e6];exact m1') h9)
 unfold Oper.wp
 rw [hf]
 have hW:=Z16 hT.st hq e2 e3 e4 e5 e6 v1 v2 e7 (A:=o1) hw h9 (by rw [hk];omega)
 rw [hk] at hW
 exact hn M _ _ (.refl M) hW rfl
theorem V_asV (t j:Nat) {T n:Nat} {rows:List (List AV)} (ht:Zd S.tm t = .osl j) (hj:Zf S.ss j=some ⟨T,n,rows⟩) (hr:0<rows.length)
  (h:V c fn K k ⟨Ze S.tm t (.ocs j 0 n rows.length),S.bs,S.ss⟩):V c fn K k S:=by
 intro rk M a w hc hT
 obtain ⟨g,cap,cur,vss,e2,e3,e4,e5,e6,v1,v2,e7⟩:=Z26 hT.st hj hr
 refine h rk _ a w hc ⟨by rw [Zc1];exact hT.len,fun u=>?_,hT.df,hT.st⟩
 rw [Zb1]
 split
 ·rename_i e
  have hu:=hT.tm u
  rw [e.1,ht] at hu
  rw [e.1]
  refine ⟨hu.1,g,rows.length,cap,e2,?_⟩
  rw [hu.2,e2,Nat.zero_mul,ite_self,Nat.sub_zero]
 ·exact hT.tm u
theorem sem_apzV {j T e n b i:Nat} {z:List AV} {x y:X} {m:Int} {rows:List (List AV)} (hx:S.x x = .ocs j 0 n i) (hj:Zf S.ss j=some ⟨T,n,rows⟩) (hr:i<rows.length) (hJ:j<c.nq) (hy:S.x y = .iv m) (h0:0<m) (h8:(capV (c.ps j):Int)<i+m) (hT:T=e)
  (hb:(i+m)*b≤140737488355328) (hQ:i+m≤9223372036854775807) (hD:Zk z=true):
  Z43 c S (.apz e n b z x y) (.osl (Zj S.ss)) ⟨S.tm,S.bs,S.ss++[some ⟨e,n,rows.take i++List.replicate m.toNat z⟩]⟩:=by
 subst hT
 intro ro hw M a w h9 next Q hK
 obtain ⟨dst,op,ty,pos,af,gd⟩:=ro
 dsimp only at hw
 obtain ⟨t,tn,kk,p,q,i',u,rfl,hu,hk,hi,hz,hn,hL,hN,rfl,rfl,rfl,rfl⟩:=cO_apz hw
 have k1:=Z22 h9 p
 have k2:=Z22 h9 q
 rw [hx] at k1
 rw [hy] at k2
 simp only [AV.is] at k2
 obtain ⟨k,rfl⟩:∃k:Nat,m=k:=⟨m.toNat,by omega⟩
 have hS:=h9.st
 obtain ⟨g0,_⟩:=hS.slc j _ hj
 obtain ⟨g,cap,cur,vss,e2,e3,e4,e5,e6,v1,v2,e7⟩:=Z26 hS hj (by omega)
 obtain ⟨_,g1,n1,c1,k1,k1'⟩:=k1
 rw [e2] at k1
 simp only [Value.slice.injEq,Option.some.injEq,Addr.mk.injEq] at k1
 obtain ⟨⟨rfl,_⟩,_,rfl⟩:=k1
 rw [Nat.zero_mul,ite_self,Nat.sub_zero] at k1'
 rw [←hS.pin.σ j hJ,e2] at h8
 simp only [capV] at h8
 have ho:=(Zi5 v1).1
 have hB:AV.isLL M.sl n (rows.take i) (vss.take i):=by
  have:=Z55 v1 0 i
  simpa using this
 have h6:=Zc4 hB
 rw [List.length_take,Nat.min_eq_left (by omega)] at h6
 have hc:(vss.take i).flatten=vss.flatten.take (i*n):=(Z06 ho i).1
 have hb':(i+k)*i'.bytes≤140737488355328:=by
  have:(((i+k)*i'.bytes:Nat):Int)≤140737488355328:=by rw [Int.natCast_mul,Int.natCast_add];exact hb
  omega
 have hb'':k*i'.bytes≤(i+k)*i'.bytes:=Nat.mul_le_mul_right _ (by omega)
 have hold:(Builtin.firstCells i'.size i (.slice (some ⟨g,0,none⟩) i cap)).run c.P w.drew = .ok (vss.take i).flatten.toArray w.drew:=by
  refine run_firstCells_some w.drew i'.size i ⟨g,0,none⟩ i cap _ (by rw [h6,hL]) (fun z v hv=>?_)
  rw [hc,←e7,List.getElem?_take,List.getElem?_take] at hv
  split at hv
  ·split at hv
   ·rw [Addr.add_lit]
    show w.cell? _=_
    simp only [World.cell?,e3,Nat.zero_add]
    simpa using hv
   ·simp at hv
  ·simp at hv
 have r1:=Lib.run_append_grow_zeros (P:=c.P) w t tn ty T i' u .i64 kk hu hk hi hz (some ⟨g,0,none⟩) i cap _ hold k (by omega) (by omega) (by omega) (by omega) (by omega) (growslice_fits (by omega) hb')
 have hE:(execOp a.eval ⟨dst,.call ⟨.builtin .append, #[p,q], #[t,tn]⟩,ty,pos,af,gd⟩).run c.P w = .ok (.value (.slice (some ⟨w.heap.size,0,none⟩) (i+k) (grownCap w (i+k) cap T))) (w.drew.alloc (.cells ((vss.take i).flatten.toArray++Builtin.zeroCells u.cells k++Builtin.zeroCells u.cells (grownCap w (i+k) cap T-(i+k))) T)):=by
  generalize a.eval=ρ at *
  simp [execOp,resolve,invoke,builtin,k1',k2,r1]
 unfold Oper.wp
 rw [hE]
 have hO:∀k,(Builtin.zeroCells u.cells k).toList=(List.replicate k u.cells.toList).flatten:=fun k=>Zr2 u.cells k
 have hG:u.cells.toList.length=n:=by simpa using hn
 have hv:=Zu5 (Zs1 M.sl u.cells.toList) k
 rw [hG] at hv
 have hd:∀v∈u.cells.toList,v.oneCell'=true:=Zg2 (Zs1 M _) hD hS.so
 have hP:=grownCap_ge w (i+k) cap T
 have hI:=grownCap_le_maxLen w (i+k) cap T (by unfold maxLen;omega)
 have he:∀q,(Builtin.zeroCells u.cells q).size=q*n:=by intro q;simp [Builtin.zeroCells,hn]
 have hg:w.grownBy (w.drew.alloc (.cells ((vss.take i).flatten.toArray++Builtin.zeroCells u.cells k++Builtin.zeroCells u.cells (grownCap w (i+k) cap T-(i+k))) T)) none:=by
  refine ⟨rfl,rfl,rfl,?_,fun j hj _=>?_⟩
  ·show w.heap.size≤(w.heap.push _).size;simp
  ·show (w.heap.push _)[j]?=_
   rw [Array.getElem?_push,if_neg (by omega)]
 have hC:(rows.take i++List.replicate k (u.cells.toList.map zav)).length=i+k:=by rw [List.length_append,List.length_take,List.length_replicate];omega
 have hA:=Zb4 hB hv
 have hf:=Zc4 hA
 rw [hC] at hf
 have hr':RelS c (M.addS (.slice (some ⟨w.heap.size,0,none⟩) (i+k) (grownCap w (i+k) cap T))) S.bs (S.ss++[some (⟨T,n,rows.take i++List.replicate k (u.cells.toList.map zav)⟩:Sl)]) (w.drew.alloc (.cells ((vss.take i).flatten.toArray++Builtin.zeroCells u.cells k++Builtin.zeroCells u.cells (grownCap w (i+k) cap T-(i+k))) T)):=by
  refine RelS.grown (v:=.slice none 0 0) (vss:=vss.take i++List.replicate k u.cells.toList) hS rfl ?_ (.inl rfl) ?_ hg (.inr fun g hg=>?_) hN hA ?_ ?_
  ·intro i N hi;exact ⟨hi,fun g hg=>by simp [Value.ownBlock] at hg⟩
  ·intro g hg;simp [Value.ownBlock] at hg
  ·simp [Value.ownBlock] at hg;omega
  ·intro v hv
   rw [List.flatten_append] at hv
   rcases List.mem_append.1 hv with hv | hv
   ·rw [hc] at hv;exact v2 v (List.mem_of_mem_take hv)
   ·simp only [List.mem_flatten,List.mem_replicate] at hv
    obtain ⟨l,⟨_,rfl⟩,hv⟩:=hv
    exact hd v hv
  ·dsimp only
   rw [hC]
   refine ⟨hf,.inr ⟨w.heap.size,grownCap w (i+k) cap T,(vss.take i).flatten.toArray++Builtin.zeroCells u.cells k++Builtin.zeroCells u.cells (grownCap w (i+k) cap T-(i+k)),rfl,Nat.zero_le _,?_,hP,hI,?_,?_⟩⟩
   ·show (w.heap.push _)[w.heap.size]?=_
    rw [Array.getElem?_push,if_pos rfl]
   ·rw [Array.size_append,Array.size_append,he,he,List.size_toArray,h6,←Nat.add_mul,←Nat.add_mul];congr 1;omega
   ·rw [Array.toList_append,Array.toList_append,hO]
    show List.take _ ((vss.take i).flatten++_++_)=_
    rw [←List.flatten_append,List.take_left']
    exact hf
 refine hK _ _ _ (Mem.le_addS M _) (by simpa using hr') ?_
 rw [Za1,←hS.ns]
 exact ⟨Nat.lt_succ_self _,by simp [Mem.addS]⟩
theorem RelS.ctx {c':Ctx} {bs:List (Option Blk)} {ss:List (Option Sl)} (h:RelS c M bs ss w) (hw:c'.w0=c.w0) (hH:c'.H0=c.H0) (hb:∀k,c'.bor k↔c.bor k) (hp:Pin c' M):RelS c' M bs ss w:=by
 have hm:∀g,Mine c g→Mine c' g:=fun g hg=>hg.imp (by rw [hw];exact id) (hb g).2
 refine ⟨h.nb,h.ns,h.so,by rw [hw];exact h.os,by rw [hw];exact h.tape,by rw [hw];exact h.output,by rw [hw];exact h.size,fun k hk hn=>by rw [hw] at hk ⊢;exact h.block k hk fun e=>hn ((hb k).2 e),h.hle,fun k hk hn=>by rw [hw] at hk;rw [hH];exact h.hold k hk fun e=>hn ((hb k).2 e),?_,?_,h.d1,h.d2,h.d3,hp⟩
 ·intro j B hj
  obtain ⟨g1,g2⟩:=h.blk j B hj
  exact ⟨hm _ g1,g2⟩
 ·intro j L hj
  obtain ⟨g0,vss,g1,g2,g3,g4⟩:=h.slc j L hj
  exact ⟨g0,vss,g1,g2,g3,fun g hg=>⟨hm _ (g4 g hg).1,(g4 g hg).2⟩⟩
theorem lent_run {f:Nat} {body:EC} {rs:List ERes} {np nt:Nat} (hf:FnOK c.P f fn body rs np nt) {args:List AV} {bs bs':List (Option Blk)} {ss ss':List (Option Sl)} {v:AV} (hn:args.length=np)
  (h1:c.np≤bs'.length) (h2:c.nq≤ss'.length) (h3:St.ok ⟨[v],bs',ss'⟩=true)
  (h:V c fn (fun x b s=>St.le ⟨[x],b,s⟩ ⟨[v],bs',ss'⟩) [.code body] ⟨args++lun nt,bs,ss⟩) {vs:List Value} (hS:RelS c M bs ss w) (ha:AV.isL M args vs):
  Calls c.P f vs.toArray w fun e w'=>∃u M',e = .returned u∧RelS c M' bs' ss' w'∧v.is M' u:=by
 obtain ⟨x,hb,hx⟩:=hf.b
 have hl:=Zj1 ha
 refine calls_of_wp hf.h hb ?_
 have e1:fn.ntmps-vs.toArray.size=nt:=by rw [hf.t];simp;omega
 rw [e1]
 have hT:RelT c M ⟨args++lun nt,bs,ss⟩ {tmps:=vs.toArray++Array.replicate nt undef,defers:=[]} w:=by
  refine ⟨by simp [Z23,hl],fun t=>?_,rfl,hS⟩
  simp only [Z13,Array.getD_eq_getD_getElem?,Array.getElem?_append,List.size_toArray]
  by_cases h:t<args.length
  ·rw [if_pos h,if_pos (by omega)]
   have:=Z33 ha t h
   simpa [List.getD_eq_getElem?_getD] using this
  ·rw [if_neg h,if_neg (by omega)]
   rcases lun_get nt (t-args.length) with h1 | ⟨_,h1⟩
   ·rw [h1]
    simp only [AV.is,Array.getElem?_replicate]
    split<;>rfl
   ·rw [h1];trivial
 refine wp_mono (h [.code x] _ _ w ⟨_,_,rfl,hx,rfl⟩ hT) ?_
 have mono:∀e w',RK c (fun x b s=>St.le ⟨[x],b,s⟩ ⟨[v],bs',ss'⟩) e w'→∃u M',e = .returned u∧RelS c M' bs' ss' w'∧v.is M' u:=by
  rintro e w' ⟨u,M1,b,s,y,rfl,h6,hv,hle⟩
  have h8:RelT c M1 ⟨[y],b,s⟩ {tmps:= #[u],defers:=[]} w':=
   ⟨by simp,fun t=>by cases t with
     | zero=>exact hv
     | succ t=>cases t<;>trivial,rfl,h6⟩
  have hW:=h8.weak hle h3 (by rw [Z91,Za1];exact h1) (by rw [Z91,Za1];exact h2)
  exact ⟨u,_,rfl,hW.st,hW.tm 0⟩
 intro e a w' hq
 cases e with
 | normal=>obtain ⟨h1,v,h2,h3⟩:=hq;exact ⟨h1,v,h2,mono _ _ h3⟩
 | ret=>obtain ⟨h1,v,h2,h3⟩:=hq;exact ⟨h1,v,h2,mono _ _ h3⟩
 | panic ch=>obtain ⟨h1,h2⟩:=hq;exact ⟨h1,mono _ _ h2⟩
 | outgrown=>exact mono _ _ hq
 | exit id=>exact hq
 | goto l=>exact hq
theorem FunT_room {P:Program} {f:Nat} {body:EC} {rs:List ERes} {np nt:Nat} (hf:FnOK P f fn body rs np nt) {args:List AV} {bs bs':List (Option Blk)} {ss ss':List (Option Sl)} {v:AV} (hn:args.length=np)
  (h1:Z3 (Zj bs) (Zj bs')=true) (h2:Z3 (Zj ss+1) (Zj ss')=true) (h3:St.ok ⟨[v],bs',ss'⟩=true) {j L:Nat} {Lj:Sl} (hj:Zf ss j=some Lj) (hL:Lj.rows.length=L) (q:Prop) (h8:q→0<L)
  (hA:∀w M,(q→capV (M.σ j)<L+1)→V (Ctx.lent P w M bs ss (Zj bs) (Zj ss)) fn (fun x b s=>St.le ⟨[x],b,s⟩ ⟨[v],bs',ss'⟩) [.code body] ⟨args++lun nt,bs,ss⟩)
  (hB:∀w M g cap,q→M.σ j = .slice (some ⟨g,0,none⟩) L cap→L+1≤cap→M.σ (Zj ss) = .slice (some ⟨g,0,none⟩) (L+1) cap→V (Ctx.lent P w M bs (ss++[none]) (Zj bs) (Zj ss+1)) fn (fun x b s=>St.le ⟨[x],b,s⟩ ⟨[v],bs',ss'⟩) [.code body] ⟨args++lun nt,bs,ss++[none]⟩):Zq5 P f args bs ss v bs' ss':=by
 rw [Z91,Za1,Za1] at h1 h2
 refine ⟨h1,by omega,fun M w vs hS ha=>?_⟩
 by_cases hc:q∧L+1≤capV (M.σ j)
 ·obtain ⟨hq,hc⟩:=hc
  obtain ⟨g,cap,cur,vss,e2,e3,e4,e5,e6,v1,v2,e7⟩:=Z26 (S:=⟨[],bs,ss⟩) (T:=Lj.T) (n:=Lj.n) (rows:=Lj.rows) hS hj (by rw [hL];exact h8 hq)
  rw [hL] at e2
  rw [e2] at hc
  simp only [capV] at hc
  have hns:M.ns=Zj ss:=by rw [hS.ns,Za1]
  have hle:=Mem.le_addS M (.slice (some ⟨g,0,none⟩) (L+1) cap)
  have h9:j<M.ns:=by rw [hS.ns];exact Zg1 hj
  have hσ:∀i,i<M.ns→(M.addS (.slice (some ⟨g,0,none⟩) (L+1) cap)).σ i=M.σ i:=hle.σ
  have live:∀i N,Zf (ss++[none]) i=some N→i<M.ns∧Zf ss i=some N:=by
   intro i N hi
   rw [Zd1] at hi
   split at hi
   ·simp at hi
   ·exact ⟨by rw [hS.ns];exact Zg1 hi,hi⟩
  have back:∀i N,Zf ss i=some N→Zf (ss++[none]) i=some N:=by
   intro i N hi
   rw [Zd1,if_neg (Nat.ne_of_lt (Zg1 hi))];exact hi
  have h6:∀k,Zp5 (M.addS (.slice (some ⟨g,0,none⟩) (L+1) cap)) bs (ss++[none]) k↔Zp5 M bs ss k:=by
   intro k
   constructor
   ·rintro (⟨i,B,hi,e⟩ | ⟨i,N,hi,e⟩)
    ·exact .inl ⟨i,B,hi,e⟩
    ·obtain ⟨hl,hi⟩:=live i N hi
     rw [hσ i hl] at e
     exact .inr ⟨i,N,hi,e⟩
   ·rintro (⟨i,B,hi,e⟩ | ⟨i,N,hi,e⟩)
    ·exact .inl ⟨i,B,hi,e⟩
    ·refine .inr ⟨i,N,back i N hi,?_⟩
     rw [hσ i (by rw [hS.ns];exact Zg1 hi)];exact e
  have hd:RelS (Ctx.lent P w (M.addS (.slice (some ⟨g,0,none⟩) (L+1) cap)) bs (ss++[none]) (Zj bs) (Zj ss+1)) (M.addS (.slice (some ⟨g,0,none⟩) (L+1) cap)) bs (ss++[none]) w:=by
   have hb:RelS (Ctx.lent P w M bs ss bs.length ss.length) (M.addS (.slice (some ⟨g,0,none⟩) (L+1) cap)) bs (ss++[none]) w:=by
    refine ⟨hS.nb,by simp [Mem.addS,hS.ns],?_,hS.os,hS.tape,hS.output,hS.size,hS.block,hS.hle,hS.hold,?_,?_,hS.d1,?_,?_,hS.pin.le hle⟩
    ·intro i hi
     simp only [Mem.addS] at hi ⊢
     split
     ·rfl
     ·exact hS.so i (by omega)
    ·intro i B hi
     obtain ⟨g1,g2,us,g3,g4⟩:=hS.blk i B hi
     exact ⟨g1,g2,us,Zq1 hle _ _ g3,g4⟩
    ·intro i N hi
     obtain ⟨hl,hi⟩:=live i N hi
     rw [hσ i hl]
     obtain ⟨g0,us,q1,q2,q3,q4⟩:=hS.slc i N hi
     exact ⟨g0,us,Zr1 hle.sl _ _ _ q1,q2,q3,q4⟩
    ·intro i z B N hi hz
     obtain ⟨hl,hz⟩:=live z N hz
     rw [hσ z hl];exact hS.d2 i z B N hi hz
    ·intro i z N O g hi hz e1 e2
     obtain ⟨hl,hi⟩:=live i N hi
     obtain ⟨hl',hz⟩:=live z O hz
     rw [hσ i hl] at e1
     rw [hσ z hl'] at e2
     exact hS.d3 i z N O g hi hz e1 e2
   refine hb.ctx rfl rfl h6 ⟨?_,fun _ _=>rfl,?_,fun _ _=>rfl,hS.pin.gl⟩
   ·show Zj bs≤M.nb;rw [hS.nb,Za1];exact Nat.le_refl _
   ·show Zj ss+1≤M.ns+1;rw [hS.ns,Za1];exact Nat.le_refl _
  refine (lent_run (c:=Ctx.lent P w (M.addS (.slice (some ⟨g,0,none⟩) (L+1) cap)) bs (ss++[none]) (Zj bs) (Zj ss+1)) hf hn (by show Zj bs≤_;rw [Za1];exact h1) (by show Zj ss+1≤_;rw [Za1];exact h2) h3 (hB w _ g cap hq ?_ hc ?_) hd (Zq1 hle _ _ ha)).mono ?_
  ·rw [hσ j h9];exact e2
  ·rw [←hns];simp [Mem.addS]
  ·rintro e w' ⟨u,M',rfl,hR,hu⟩
   refine ⟨u,M',rfl,hR.ctx rfl rfl (fun k=>(h6 k).symm) ⟨?_,fun i hi=>?_,?_,fun i hi=>?_,hR.pin.gl⟩,hu⟩
   ·have:=hR.pin.nb
    have e:Zj bs≤M'.nb:=this
    rwa [Za1] at e
   ·exact hR.pin.ρ i (by show i<Zj bs;rw [Za1];exact hi)
   ·have:=hR.pin.ns
    have e:Zj ss+1≤M'.ns:=this
    rw [Za1] at e
    exact Nat.le_of_succ_le e
   ·have hi':i<ss.length:=hi
    have:=hR.pin.σ i (by show i<Zj ss+1;rw [Za1];omega)
    rw [this]
    exact hσ i (by rw [hS.ns];exact hi')
 ·have hA':=hA w M (fun hq=>by
   by_cases he:capV (M.σ j)<L+1
   ·exact he
   ·exact absurd ⟨hq,by omega⟩ hc)
  rw [Za1,Za1] at hA'
  exact lent_run (c:=Ctx.lent P w M bs ss bs.length ss.length) hf hn h1 (Nat.le_of_succ_le h2) h3 hA' hS ha
theorem V_isnilO {d:Option Nat} {g:Option (Nat×Bool)} {ng:Bool} {x:X} {j:Nat} {L:Sl} {l:List EOp} (hg:gm S g) (hx:S.x x = .osl j) (hj:Zf S.ss j=some L)
  (h1:L.rows=[]→V c fn K (.ops l::k) (S.put d (match ng with | true=>.ff | false=>.tt))) (h2:V c fn K (.ops l::k) (S.put d (match ng with | true=>.tt | false=>.ff))):V c fn K (.ops (⟨d,g,.isnil ng x⟩::l)::k) S:=by
 refine V_op hg fun ro hd h6 M a w hT next Q hn=>?_
 obtain ⟨dst,op,ty,pos,af,gd⟩:=ro
 dsimp only at h6 hd
 subst hd
 obtain ⟨T,y,T2,e,rfl,hu,rfl⟩:=cO_isnil h6
 have hv:=Z22 hT y
 rw [hx] at hv
 obtain ⟨g0,vss,q1,q2,q3,q4⟩:=hT.st.slc j L hj
 have hc:∃ad n cp,M.σ j = .slice ad n cp∧(ad=none→L.rows=[]):=by
  rcases q3.2 with ⟨e2,e3⟩ | ⟨g,cap,cur,e2,_⟩
  ·exact ⟨none,0,0,e2,fun _=>List.length_eq_zero_iff.1 e3⟩
  ·exact ⟨some ⟨g,0,none⟩,_,_,e2,fun h=>by simp at h⟩
 obtain ⟨ad,n,cp,e2,g2'⟩:=hc
 have g1:=hv.2.trans e2
 have hr:(Op.equal T (.slice ad n cp) (.slice none 0 0)).run c.P w = .ok ad.isNone w:=run_equal_slice_nil w T e ad n cp hu
 have hf:∀o:BinOp,(eqGuard o T y (.const (.slice none 0 0)) (.slice ad n cp) (.slice none 0 0)).run c.P w = .ok () w:=fun o=>by unfold eqGuard;split<;>rfl
 have h9:(execOp a.eval ⟨dst,.binOp (nilOp ng) T y (.const (.slice none 0 0)) T2,ty,pos,af,gd⟩).run c.P w = .ok (.value (.bool (ngv ng ad.isNone))) w:=by
  have he:a.eval (.const (.slice none 0 0)) = .slice none 0 0:=rfl
  generalize a.eval=ρ at *
  cases ng<;>simp [nilOp,ngv,execOp,g1,he,hf,binOp,hr]
 unfold Oper.wp
 rw [h9]
 cases ho:ad with
 | none=>
   have h8:=h1 (g2' ho)
   cases ng
   ·exact hn M w .tt (.bool true) S.bs S.ss (.refl M) hT.st rfl h8
   ·exact hn M w .ff (.bool false) S.bs S.ss (.refl M) hT.st rfl h8
 | some b=>
   cases ng
   ·exact hn M w .ff (.bool false) S.bs S.ss (.refl M) hT.st rfl h2
   ·exact hn M w .tt (.bool true) S.bs S.ss (.refl M) hT.st rfl h2
def ins_ {α:Type} (b:Nat) (l:List α) (i:Int) (v:α):Option (List α):=
 if 0≤i∧i≤l.length∧(l.length+1)*b≤140737488355328∧l.length+1≤9223372036854775807 then some (l.take i.toNat++v::l.drop i.toNat) else none
theorem Zh6 {j T n:Nat} {x:X} {lo:Option X} {rows:List (List AV)} {l:Int} (hx:S.x x = .osl j) (hj:Zf S.ss j=some ⟨T,n,rows⟩) (hc:bnd S lo 0=some l) (h0:0≤l) (h1:l≤rows.length):Z43 c S (.slice n x lo none) .any S:=by
 intro ro h9 M a w h8 next Q hd
 obtain ⟨dst,op,ty,pos,af,gd⟩:=ro
 dsimp only at h9
 obtain ⟨T',y,lo',hi',e,rfl,hu,hs,rfl,rfl,he⟩:=Z35 h9
 have hS:=h8.st
 have k1:=Z22 h8 y
 rw [hx] at k1
 have hh:hi'=none:=by cases hi' with
  | none=>rfl
  | some o=>simp at he
 subst hh
 have b1:=Z36 (Z22 h8) lo' 0 l hc
 obtain ⟨g0,vss,q1,q2,q3,q4⟩:=hS.slc j _ hj
 dsimp only at q3
 have h6:∃v,(execOp a.eval ⟨dst,.slice T' y lo' none none,ty,pos,af,gd⟩).run c.P w = .ok (.value v) w:=by
  rcases q3.2 with ⟨r1,r2⟩ | ⟨g,cap,cur,r1,r2,r3,r4,r5,r6,r7⟩
  ·exact ⟨_,Z45 (P:=c.P) (w:=w) hu hs (ρ:=a.eval) (ad:=none) (len:=0) (cp:=0) (lo:=l) (hi:=0) (h:=none) (k1.2.trans r1) (Nat.le_refl _) b1 rfl h0 (by omega) (by omega) dst ty pos af gd⟩
  ·exact ⟨_,Z45 (P:=c.P) (w:=w) hu hs (ρ:=a.eval) (ad:=some ⟨g,0,none⟩) (len:=rows.length) (cp:=cap) (lo:=l) (hi:=rows.length) (h:=none) (k1.2.trans r1) r4 b1 rfl h0 h1 (Int.le_refl _) dst ty pos af gd⟩
 obtain ⟨v,h6⟩:=h6
 unfold Oper.wp
 rw [h6]
 exact hd M w _ (.refl M) hS trivial
theorem Zi6 {q j T T' n o1 m1 o2 m2:Nat} {x y:X} {rows rs:List (List AV)} (rows':List (List AV)) (hx:S.x x = .ocs q o1 n m1) (hy:S.x y = .ocs j o2 n m2) (hq:Zf S.ss q=some ⟨T,n,rows⟩) (hj:Zf S.ss j=some ⟨T',n,rs⟩)
  (h1:o1+m1≤rows.length) (h2:o2+m2≤rs.length) (l1:o1<rows.length) (l2:o2<rs.length) (he:rows.take o1++(rs.take (o2+min m2 m1)).drop o2++rows.drop (o1+min m2 m1)=rows'):
  Z43 c S (.copy n x y) (.iv (min m2 m1:Nat)) ⟨S.tm,S.bs,Zg S.ss q (some ⟨T,n,rows'⟩)⟩:=by
 subst he
 exact sem_copyVV hx hy hq hj h1 h2 l1 l2
end
section
variable {β:Type}
theorem grow1 {rows:List β} {i k m m':Nat} {z y:β} (hi:i<rows.length) (hk:k=rows.length+1-i) (hm:0<m) (hm':m'=1):
  (rows.take i++List.replicate k z).take i++([y].take (0+min m' m)).drop 0++(rows.take i++List.replicate k z).drop (i+min m' m)=rows.take i++y::List.replicate (rows.length-i) z:=by
 subst hk;subst hm'
 rw [Nat.min_eq_left (by omega)]
 refine List.ext_getElem? fun q=>?_
 simp only [Nat.zero_add,List.take_succ_cons,List.take_zero,List.drop_zero,List.getElem?_append,List.getElem?_take,List.getElem?_drop,List.getElem?_replicate,List.length_append,List.length_take,List.length_replicate,List.getElem?_cons,List.getElem?_nil,List.length_cons,List.length_nil]
 (repeat' split)<;>first | rfl | (exfalso;omega) | (congr 1;omega)
theorem grow2 {rows:List β} {i m m':Nat} {z y:β} (hi:i<rows.length) (hm:m=rows.length-i) (hm':m'=rows.length-i):
  (rows.take i++y::List.replicate (rows.length-i) z).take (i+1)++(rows.take (i+min m' m)).drop i++(rows.take i++y::List.replicate (rows.length-i) z).drop (i+1+min m' m)=rows.take i++y::rows.drop i:=by
 subst hm;subst hm'
 have hl:(rows.take i).length=i:=by rw [List.length_take];omega
 have e1:(rows.take i++y::List.replicate (rows.length-i) z).take (i+1)=rows.take i++[y]:=by
  have:=List.take_length_add_append (l₁:=rows.take i) (l₂:=y::List.replicate (rows.length-i) z) 1
  rw [hl] at this
  rw [this];rfl
 have e2:(rows.take i++y::List.replicate (rows.length-i) z).drop (i+1+(rows.length-i))=[]:=by
  apply List.drop_eq_nil_of_le
  rw [List.length_append,hl,List.length_cons,List.length_replicate];omega
 rw [Nat.min_self,show i+(rows.length-i)=rows.length by omega,List.take_length,e1,e2]
 simp
theorem shift1 {rows:List β} {i m m':Nat} {y:β} (hi:i<rows.length) (hm:0<m) (hm':m'=1):
  (rows.take (i+1)++rows.drop i).take i++([y].take (0+min m' m)).drop 0++(rows.take (i+1)++rows.drop i).drop (i+min m' m)=rows.take i++y::rows.drop i:=by
 subst hm'
 rw [Nat.min_eq_left (by omega)]
 refine List.ext_getElem? fun q=>?_
 simp only [Nat.zero_add,List.take_succ_cons,List.take_zero,List.drop_zero,List.getElem?_append,List.getElem?_take,List.getElem?_drop,List.length_append,List.length_take,List.length_drop,List.getElem?_cons,List.getElem?_nil,List.length_cons,List.length_nil]
 (repeat' split)<;>first | rfl | (exfalso;omega) | (congr 1;omega)
end
def insS_ {α:Type} (b:Nat) (l:List α) (i:Int):List α→Option (List α)
 | [v]=>ins_ b l i v
 | _=>none
theorem insS_some {α:Type} {b:Nat} {l:List α} {i:Int} {vs:List α} {r:List α} (h:insS_ b l i vs=some r):∃v,vs=[v]∧ins_ b l i v=some r:=by
 unfold insS_ at h
 split at h
 ·exact ⟨_,rfl,h⟩
 ·simp at h
theorem ins_some {α:Type} {b:Nat} {l:List α} {i:Int} {v:α} {r:List α} (h:ins_ b l i v=some r):
  r=l.take i.toNat++v::l.drop i.toNat∧0≤i∧i≤l.length∧(l.length+1)*b≤140737488355328∧l.length+1≤9223372036854775807:=by
 unfold ins_ at h
 split at h
 ·rename_i hh
  simp only [Option.some.injEq] at h
  exact ⟨h.symm,hh⟩
 ·simp at h
end NX
end Go.Proofs.YtdjkbodnjhgbcaaGreat
