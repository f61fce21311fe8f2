/-
  The symbolic machine: calls in drawn regions that are lent own blocks. No statement of the seat is proved here.
-/
import Derived.Laws.Externs
import Derived.Lib.Overlaps
import Derived.Lib.AppendZerosOnto
import Derived.Test.YtjemlejoladlcaaGreatL11
namespace Go.Proofs.YtjemlejoladlcaaGreat
namespace NX
open Go Go.RowKit
mutual
theorem yz (p q:Nat):∀(x:AV),x.pu=true→AV.ren p q x=x:=by
 intro x h;cases x<;>simp_all [AV.pu,AV.ren]
 all_goals exact P1 p q _ h
theorem P1 (p q:Nat):∀(l:List AV),AD l=true→FE p q l=l
 | [],_=>rfl
 | x::l,h=>by simp only [AD] at h;cases hx:x.pu<;>simp [hx,BS] at h;simp [FE,yz p q x hx,P1 p q l h]
end
def HY (af:List (List Nat)) (i:Nat):List EOp→Nat→Bool
 | [],_=>true
 | o::l,k=>BS (match F3 o.o with | true=>OX (EH k (Co af i)) (EH i (Co af k)) | false=>true) (HY af i l (k+1))
theorem gH {af:List (List Nat)} {i:Nat}:∀ {l:List EOp} {k:Nat},HY af i l k=true→∀j,F3 (A8 l j).o=true→k+j∈Co af i∨i∈Co af (k+j)
 | [],_,_,j,h=>by simp [A8,F3] at h
 | o::l,k,h,0,hl=>by simp only [HY,AO] at h;simp only [A8] at hl;rw [hl] at h;have:=h.1;simp only [YH,Lr] at this;simpa using this
 | o::l,k,h,j+1,hl=>by simp only [HY,AO] at h;have:=gH h.2 j (by simpa [A8] using hl);rw [show k+(j+1)=k+1+j by omega];exact this
theorem ts {ops:List EOp} {af:List (List Nat)} {i:Nat} (h:HY af i ops 0=true):UZ ops af i:=fun k hk=>by have:=gH h k hk;rwa [Nat.zero_add] at this
section
variable {c:Ctx} {S:St} {all:Array Oper} {ops:List EOp} {af:List (List Nat)} {Φ:St→Prop} {m':Nat} {ld:List Bool}
theorem eN (h6:all.toList.mapM (AL c.P all)=some ops) {i f:Nat} {xs:List X} {args:List AV} {v:AV} {bs bs':List (Option Blk)} {ss ss':List (Option Sl)} (h8:HY af i ops 0=true) (E J:List Bool) (ho:(A8 ops i).o = .call f xs) (hg:gm S (A8 ops i).g) (hf:Cr c.P f args bs ss v bs' ss')
  (h9:Aq E S.bs=bs:=by rfl) (hd:Aq J S.ss=ss:=by rfl) (ha:AV.le.leL (B8 S xs) args:=by first | exact Am _ | simp [go_sem])
  (h:G c all ops af Φ m' (Au ld i) ((⟨S.tm,Bt E S.bs bs',Bt J S.ss ss'⟩:St).put (A8 ops i).d v)):GO c all ops af Φ m' ld S i:=
 oH (S1:=⟨S.tm,Bt E S.bs bs',Bt J S.ss ss'⟩) h6 hg (by rw [ho];exact Z5 (c:=c) E J hf h9 hd ha) rfl (ts h8) h
end
end NX
end Go.Proofs.YtjemlejoladlcaaGreat
/-
  The symbolic machine: a value is laid into an own slice (slices.Insert). No statement of the seat is proved here.
-/
namespace Go.Proofs.YtjemlejoladlcaaGreat
namespace NX
open Go Go.RowKit
@[go_sem] def lz {α:Type} (f:α→List AV) (x:α):List AV:=[.elt (f x) 0]
def Ed:Value→Nat
 | .slice _ _ c=>c
 | _=>0
theorem qZ {P:Program} {op:Op} {f:Nat} {xs:List X} (ho:cO P op = .xcall f xs):
  ∃cargs argTypes,op = .call ⟨.value (.func f),cargs,argTypes⟩∧cargs.toList.map cX=xs:=by
 cases op
 case call ci=>
  obtain ⟨callee,cargs,argTypes⟩:=ci;cases callee with
  | value o=>
    cases o with
    | func f'=>
      simp only [cO] at ho;split at ho
      ·simp at ho
      ·simp only [EO.xcall.injEq] at ho;obtain ⟨rfl,rfl⟩:=ho;exact ⟨cargs,argTypes,rfl,rfl⟩
    | _=>simp [cO] at ho
  | invoke _ _=>simp [cO] at ho
  | builtin b=>cases b<;>simp only [cO] at ho<;>(repeat' (split at ho))<;>simp at ho
 all_goals (simp only [cO] at ho;(repeat' (split at ho))<;>simp at ho)
theorem lW {P:Program} (w:World) (dT sT ty U:TypeId) (g o J Z:Nat) (a:Addr) (Y sCap n:Nat) (E:Array Value) (t:TypeId) (cs:List Value)
  (hu:P.underlying dT=some (.slice U)) (hs:(P.info? U).map (·.size)=some n)
  (hg:w.heap[g]?=some (.cells E t (0,0))) (hn:cs.length=Nat.min Y J*n)
  (h8:∀j v,cs[j]?=some v→w.cell? (a.add j)=some v) (h9:o+cs.length≤E.size) (h1:∀v∈cs,v.oneCell'=true):
  (Builtin.copy_ #[dT,sT] ty #[.slice (some ⟨g,o,none⟩) J Z,.slice (some a) Y sCap]).run P w =
    .ok (goInt (Nat.min Y J)) (w.setRow g (E.toList.take o++cs++E.toList.drop (o+cs.length)).toArray):=by
 have hl:=run_loadCells_list (P:=P) w a cs h8;have h6:=run_storeCells_at P g o t cs 0 E w hg (by simpa using h9) h1;cases hq:P.info? U with
 | none=>simp [hq] at hs
 | some i=>
   have hi:i.size=n:=by simpa [hq] using hs
   simp only [Nat.add_zero] at h6;simp [Builtin.copy_,run_underlying hu,Builtin.lenOf,Builtin.firstCells,sizeOf,typeInfo,hq,hi,←hn,hl,h6]
section
variable {c:Ctx} {M:Mem} {S S':St} {a:Act} {w:World} {fn:Func} {K:AV→List (Option Blk)→List (Option Sl)→Prop} {k:List It}
theorem Z0W {f:Nat} {xs:List X} {v:AV} (h:∀M a w,RelT c M S a w→∀vs,AV.isL M (B8 S xs) vs→∃u,(callFunc f vs.toArray).run c.P w = .ok (.value u) w∧v.is M u):Bi c S (.xcall f xs) v S:=by
 intro ro ho M a w hT next Q hn
 obtain ⟨dst,op,ty,pos,af,gd⟩:=ro;dsimp only at ho;obtain ⟨cargs,argTypes,rfl,rfl⟩:=qZ ho;obtain ⟨u,hr,hu⟩:=h M a w hT _ (G9 hT cargs.toList);have e1:(cargs.toList.map a.eval).toArray=cargs.map a.eval:=by apply Array.ext';simp
 rw [e1] at hr;have h6:(execOp a.eval ⟨dst,.call ⟨.value (.func f),cargs,argTypes⟩,ty,pos,af,gd⟩).run c.P w = .ok (.value u) w:=by have he:a.eval (.func f) = .func (.func f) #[] #[]:=rfl;generalize a.eval=ρ at *;simp [execOp,resolve,Deferred.ofValue,invoke,he,hr]
 unfold Oper.wp;rw [h6];exact hn M w u (.refl M) hT.st hu
theorem Z6 {j:Nat} {x:X} {L:Sl} (hx:S.x x = .osl j) (hj:A2 S.ss j=some L) (hn:j<c.nq):Bi c S (.cap x) (.iv (Ed (c.ps j))) S:=by
 intro ro h8 M a w h6 next Q hd
 obtain ⟨dst,op,ty,pos,af,gd⟩:=ro;dsimp only at h8;obtain ⟨q,ats,t0,e,rfl,h0,hu,rfl⟩:=fR h8;have k1:=Ak h6 q;rw [hx] at k1;have hc:∃d l,M.σ j = .slice d l (Ed (M.σ j)):=by
  obtain ⟨g0,vss,h1,h2,h3,h4⟩:=h6.st.slc j _ hj;rcases h3.2 with ⟨e2,e3⟩ | ⟨g,cap,cur,e2,_⟩
  ·exact ⟨none,0,by rw [e2];rfl⟩
  ·exact ⟨some ⟨g,0,none⟩,L.rows.length,by rw [e2];rfl⟩
 obtain ⟨d,l,hc⟩:=hc;have k2:=k1.2.trans hc;rw [h6.st.pin.σ j hn] at k2;generalize Ed (c.ps j)=cp at *;have h9:(execOp a.eval ⟨dst,.call ⟨.builtin .cap, #[q],ats⟩,ty,pos,af,gd⟩).run c.P w = .ok (.value (.int .i64 cp)) w:=by generalize a.eval=ρ at *;simp [execOp,resolve,invoke,builtin,Builtin.cap_,h0,run_underlying hu,k2];rfl
 unfold Oper.wp;rw [h9];exact hd M w _ (.refl M) h6.st rfl
theorem nh {j q g L cap n:Nat} {x:X} {lo hi:Option X} {h:Int} (hx:S.x x = .osl j) (hd:j<c.nq) (hqn:q<c.nq) (hw:c.ps j = .slice (some ⟨g,0,none⟩) L cap) (hA:c.ps q = .slice (some ⟨g,0,none⟩) (L+1) cap) (hc:L+1≤cap)
  (hB:AY S lo 0=some 0) (hC:AY S hi L=some h) (hh:h=(L:Int)+1):Bi c S (.slice n x lo hi) (.osl q) S:=by
 subst hh;intro ro h8 M a w h6 next Q hD
 obtain ⟨dst,op,ty,pos,af,gd⟩:=ro;dsimp only at h8;obtain ⟨T',y,lo',hi',e,rfl,hu,hs,rfl,rfl,rfl⟩:=H8 h8;have hS:=h6.st;have k1:=Ak h6 y;rw [hx] at k1;have b1:=HS (Ak h6) lo' 0 0 hB;have b2:=HS (Ak h6) hi' L ((L:Int)+1) hC;have h9:=dW (P:=c.P) (w:=w) hu hs (ρ:=a.eval) (ad:=some ⟨g,0,none⟩) (len:=L) (cp:=cap) (lo:=0) (hi:=(L:Int)+1) (k1.2.trans ((hS.pin.σ j hd).trans hw)) b1 b2 Om Om Om dst ty pos af gd;unfold Oper.wp;rw [h9];refine hD M w _ (.refl M) hS ⟨Nat.lt_of_lt_of_le hqn hS.pin.ns,?_⟩;rw [hS.pin.σ q hqn,hA];have:((L:Int)+1).toNat=L+1:=by omega
 rw [this];simp only [Option.map,Int.toNat_zero,Nat.zero_mul,Nat.sub_zero,Addr.add_lit,Nat.add_zero,ite_self]
theorem Ff {q g m cap n:Nat} {x:X} {lo hi:Option X} {l h:Int} (hx:S.x x = .osl q) (hqn:q<c.nq) (hw:c.ps q = .slice (some ⟨g,0,none⟩) m cap) (hc:m≤cap)
  (hA:AY S lo 0=some l) (hB:AY S hi m=some h) (h0:0≤l) (h1:l≤h) (h2:h≤m):Bi c S (.slice n x lo hi) (.ocs q l.toNat n (h.toNat-l.toNat)) S:=by
 intro ro h9 M a w h6 next Q hC
 obtain ⟨dst,op,ty,pos,af,gd⟩:=ro;dsimp only at h9;obtain ⟨T',y,lo',hi',e,rfl,hu,hs,rfl,rfl,rfl⟩:=H8 h9;have hS:=h6.st;have k1:=Ak h6 y;rw [hx] at k1;have b1:=HS (Ak h6) lo' 0 l hA;have b2:=HS (Ak h6) hi' m h hB;have e2:=(hS.pin.σ q hqn).trans hw;have hd:=dW (P:=c.P) (w:=w) hu hs (ρ:=a.eval) (ad:=some ⟨g,0,none⟩) (len:=m) (cp:=cap) (lo:=l) (hi:=h) (k1.2.trans e2) b1 b2 h0 h1 Om dst ty pos af gd;unfold Oper.wp;rw [hd];refine hC M w _ (.refl M) hS ⟨k1.1,g,m,cap,e2,?_⟩;by_cases h8:cap=l.toNat
 ·rw [if_pos h8,if_pos h8]
 ·rw [if_neg h8,if_neg h8];simp only [Option.map,Addr.add_lit,Nat.zero_add]
theorem yb {P:Program} {w:World} {f:Nat} {fn:Func} {tS tR e n:Nat} (hf:P.funcs[f]?=some fn) (h1:(fn.name == "runtime.NumGoroutine")=false) (h2:fn.body.isNone=true) (h3:Extern.findNext fn=none)
  (h4:Extern.find fn=some (Extern.SlicesOverlaps.overlaps #[tS,tS] #[tR])) (hu:P.underlying tS=some (.slice e)) (hs:C9 P e=some n) {a b:Addr} {Z J lb U:Nat} {Y E:Array Value} {tA tB:TypeId}
  (ha:w.heap[a.block]?=some (.cells Y tA (0,0))) (hb:w.heap[b.block]?=some (.cells E tB (0,0))) (hne:a.block≠b.block) (hk:E.size≠0):
  (callFunc f #[.slice (some a) Z J,.slice (some b) lb U]).run P w = .ok (.value (.bool false)) w:=by
 rw [run_callFunc_extern hf h1 h2 h3 h4];rw [Lib.run_overlaps_apart w tS tR e hu n (fun w=>Fi hs) a b Z J lb U hne tA tB Y.size E.size (by simp [World.shape?,ha]) (by simp [World.shape?,hb]) hk (by simp [World.frozen?,ha]) (by simp [World.frozen?,ha])];rfl
theorem nc {f:Nat} {ft:Func} {tS tR e n:Nat} (hf:c.P.funcs[f]?=some ft) (h1:(ft.name == "runtime.NumGoroutine")=false) (h2:ft.body.isNone=true) (h3:Extern.findNext ft=none)
  (h4:Extern.find ft=some (Extern.SlicesOverlaps.overlaps #[tS,tS] #[tR])) (hu:c.P.underlying tS=some (.slice e)) (hs:C9 c.P e=some n)
  {j U q g L cap lo m:Nat} {E J:Sl} {x y:X} (hx:S.x x = .osl U) (hy:S.x y = .ocs q lo n m) (hj:A2 S.ss j=some E) (hk:A2 S.ss U=some J) (hne:U≠j) (h6:0<J.rows.length) (h8:0<E.rows.length)
  (h9:j<c.nq) (hqn:q<c.nq) (hd:c.ps j = .slice (some ⟨g,0,none⟩) L cap) (hw:c.ps q = .slice (some ⟨g,0,none⟩) (L+1) cap):Bi c S (.xcall f [x,y]) .ff S:=by
 refine Z0W fun M a w hT vs hv=>?_;simp only [B8,hx,hy] at hv;obtain ⟨v1,r1,rfl,q1,v2,r2,rfl,q2,q3⟩:=hv;simp only [AV.isL] at q3;subst q3;obtain ⟨g1,cap1,cur1,vss1,e1,e3,e4,e5,e6,w1,w2,e7⟩:=Ew (T:=E.T) (n:=E.n) (rows:=E.rows) hT.st hj h8;obtain ⟨g2,cap2,cur2,vss2,f1,f3,f4,f5,f6,x1,x2,f7⟩:=Ew (T:=J.T) (n:=J.n) (rows:=J.rows) hT.st hk h6;have hg:g1=g:=by have:=e1.symm.trans ((hT.st.pin.σ j h9).trans hd);simp at this;exact this.1
 subst hg;obtain ⟨_,q1⟩:=q1;obtain ⟨_,g3,n3,c3,z1,z2⟩:=q2;have hA:g3=g1:=by have:=z1.symm.trans ((hT.st.pin.σ q hqn).trans hw);simp at this;exact this.1
 subst hA;have hB:g2≠g3:=fun e=>hne (hT.st.d3 U j J E g2 hk hj (by rw [f1];rfl) (by rw [e1,←e];rfl));obtain ⟨l0,_⟩:=hT.st.slc j _ hj;refine ⟨.bool false,?_,rfl⟩;rw [show [v1,v2].toArray = #[v1,v2] from rfl,q1,f1,z2];refine yb hf h1 h2 h3 h4 hu hs (a:=⟨g2,0,none⟩) (b:=⟨g3,_,none⟩) f3 e3 hB ?_;rw [e6];exact Nat.ne_of_gt (Nat.mul_pos Om l0)
theorem RelS.grownQ (h:RelS c M S.bs S.ss w) {w':World} {v:Value} {L:Sl} {vss:List (List Value)} {ss:List (Option Sl)} {q:Nat}
  (hw:ss.length=S.ss.length) (h6:∀j N,A2 ss j=some N→A2 S.ss j=some N∧∀g,v.ownBlock=some g→(M.σ j).ownBlock≠some g)
  (hv:∀i B,A2 S.bs i=some B→v.ownBlock≠some (M.ρ i)) (hd:∀g,v.ownBlock=some g→Fl c g∧M.H g=none)
  (hg:w.grownBy w' v.ownBlock) (h8:(M.σ q).ownBlock=v.ownBlock) (hq:q<S.ss.length)
  (h0:0<L.n) (h1:AV.isLL M.sl L.n L.rows vss) (h2:∀x∈vss.flatten,x.oneCell'=true) (h3:w'.ownsRow 0 L.T L.n (M.σ q) L.rows.length vss.flatten):
  RelS c M S.bs (Ar ss q (some L)) w':=by
 have h9:∀k,k<w.heap.size→v.ownBlock≠some k→w'.heap[k]?=w.heap[k]?:=fun k hk hne=>hg.block k hk (fun e=>hne e.symm);have live:∀i N,A2 (Ar ss q (some L)) i=some N→(i=q∧N=L)∨A2 ss i=some N:=by
  intro i N hi;rw [Du] at hi;split at hi
  ·rename_i e;simp only [Option.some.injEq] at hi;exact .inl ⟨e.1,hi.symm⟩
  ·exact .inr hi
 refine ⟨h.nb,by rw [h.ns,Dd,hw],h.so,hg.os.trans h.os,hg.tape.trans h.tape,hg.output.trans h.output,Nat.le_trans h.size hg.size,?_,?_,h.hold,?_,?_,h.d1,?_,?_,h.pin⟩
 ·intro k hk hb;rw [h9 k (Nat.lt_of_lt_of_le hk h.size)]
  ·exact h.block k hk hb
  ·intro e;rcases (hd k e).1 with h | h
   ·omega
   ·exact hb h
 ·intro k o hk;rw [h9 k (Array.getElem?_eq_some_iff.1 (h.hle k o hk)).1]
  ·exact h.hle k o hk
  ·intro e;rw [(hd k e).2] at hk;simp at hk
 ·intro j B hj;obtain ⟨g1,g2,vs,g3,g4,g5⟩:=h.blk j B hj;refine ⟨g1,g2,vs,g3,?_,g5⟩;rw [h9 _ (h.blk_lt hj)]
  ·exact g4
  ·exact hv j B hj
 ·intro j N hj;rcases live j N hj with ⟨rfl,rfl⟩ | hj
  ·exact ⟨h0,vss,h1,h2,h3,fun g hA=>hd g (by rw [←h8];exact hA)⟩
  ·obtain ⟨hj,hne⟩:=h6 j N hj;obtain ⟨q0,us,q1,q2,q3,q4⟩:=h.slc j N hj;refine ⟨q0,us,q1,q2,World.ownsRow.kept q3 hg ?_,q4⟩;cases hB:v.ownBlock with
   | none=>
     cases ho:(M.σ j).ownBlock with
     | none=>exact .inl rfl
     | some g=>right;simp
   | some g=>right;exact hne g hB
 ·intro i j B N hi hj;rcases live j N hj with ⟨rfl,rfl⟩ | hj
  ·rw [h8];exact hv i B hi
  ·exact h.d2 i j B N hi (h6 j N hj).1
 ·intro i j N O g hi hj e1 e2;rcases live i N hi with ⟨ei,_⟩ | hi<;>rcases live j O hj with ⟨ej,_⟩ | hj
  ·rw [ei,ej]
  ·rw [ei] at e1;exact absurd e2 ((h6 j O hj).2 g (by rw [←h8];exact e1))
  ·rw [ej] at e2;exact absurd e1 ((h6 i N hi).2 g (by rw [←h8];exact e2))
  ·exact h.d3 i j N O g (h6 i N hi).1 (h6 j O hj).1 e1 e2
theorem Z8 {j q g L cap n T i:Nat} {x y:X} {rows:List (List AV)} (hx:S.x x = .ocs q (i+1) n (L-i)) (hy:S.x y = .ocs q i n (L+1-i)) (hj:A2 S.ss j=some ⟨T,n,rows⟩) (E:rows.length=L) (hi:i<L) (hO:q<S.ss.length)
  (hP:j<c.nq) (hqn:q<c.nq) (hQ:c.ps j = .slice (some ⟨g,0,none⟩) L cap) (hR:c.ps q = .slice (some ⟨g,0,none⟩) (L+1) cap) (hc:L+1≤cap):
  Bi c S (.copy n x y) (.iv ((L-i:Nat):Int)) ⟨S.tm,S.bs,Ar (Ar S.ss j none) q (some ⟨T,n,rows.take (i+1)++rows.drop i⟩)⟩:=by
 intro ro hG M a w hT next Q hU
 obtain ⟨dst,op,ty,pos,af,gd⟩:=ro;dsimp only at hG;obtain ⟨p,r,t,u,e,rfl,hu,hs,rfl,rfl⟩:=UK hG;have k1:=Ak hT p;have k2:=Ak hT r;rw [hx] at k1;rw [hy] at k2;have hS:=hT.st;have sj:=(hS.pin.σ j hP).trans hQ;have sq:=(hS.pin.σ q hqn).trans hR;obtain ⟨_,g1,n1,c1,k1,k1'⟩:=k1;obtain ⟨_,g2,n2,c2,k2,k2'⟩:=k2;rw [sq] at k1 k2;simp only [Value.slice.injEq,Option.some.injEq,Addr.mk.injEq] at k1 k2;obtain ⟨⟨rfl,_⟩,rfl,rfl⟩:=k1;obtain ⟨⟨rfl,_⟩,_,rfl⟩:=k2;obtain ⟨gg,cc,cur,vss,e2,e3,e4,e5,e6,v1,v2,e7⟩:=Ew hS hj Om;rw [sj] at e2;simp only [Value.slice.injEq,Option.some.injEq,Addr.mk.injEq] at e2;obtain ⟨⟨rfl,_⟩,_,rfl⟩:=e2;rw [if_neg Om] at k1' k2';obtain ⟨g0,_,_,_,_,q4⟩:=hS.slc j _ hj;dsimp only at g0;have h8:=(Fx v1).1;have hW:=Dl v1;have hw:AV.isLL M.sl n (rows.drop i) (vss.drop i):=by have:=F2 v1 i rows.length;rw [List.take_length] at this;have e:vss.take rows.length=vss:=List.take_of_length_le (by rw [(Fx v1).2];exact Nat.le_refl _);rwa [e] at this
 have hI:AV.isLL M.sl n (rows.take (i+1)) (vss.take (i+1)):=by have:=F2 v1 0 (i+1);simpa using this
 have h6:=Dl hw;rw [List.length_drop,E] at h6;have hJ:(vss.drop i).flatten=vss.flatten.drop (i*n):=(Fu h8 i).2;have hd:(vss.take (i+1)).flatten=vss.flatten.take ((i+1)*n):=(Fu h8 (i+1)).1;have hA:∀v∈(vss.drop i).flatten,v.oneCell'=true:=fun v hv=>by rw [hJ] at hv;exact v2 v (List.mem_of_mem_drop hv)
 have hB:∀(z:Nat) v,(vss.drop i).flatten[z]?=some v→w.cell? ((⟨g,i*n,none⟩:Addr).add z)=some v:=fun z v hv=>by
  rw [hJ,List.getElem?_drop,←e7,List.getElem?_take] at hv;split at hv
  ·rw [Addr.add_lit];simp only [World.cell?,e3];simpa using hv
  ·simp at hv
 have m1:(i+1)*n+(L-i)*n=(L+1)*n:=by rw [←Nat.add_mul];congr 1;omega
 have m2:(L+1)*n≤cap*n:=Nat.mul_le_mul_right _ hc;have m3:(i+1)*n≤L*n:=Nat.mul_le_mul_right _ Om;have hC:Nat.min (L+1-i) (L-i)=L-i:=by simp only [Nat.min_def];split<;>omega
 have hD:=PK (P:=c.P) (w:=w) (p:=p) (q:=r) (t:=t) (u:=u) (ρ:=a.eval) (d:=dst) (ty:=ty) (pos:=pos) (af:=af) (gd:=gd) (by rw [k1',k2'];exact lW (P:=c.P) w t u ty e g ((i+1)*n) (L-i) _ ⟨g,i*n,none⟩ (L+1-i) _ n cur T (vss.drop i).flatten hu (Uo hs) e3 (by rw [h6,hC]) hB (by rw [h6,e6];omega) hA);rw [hC,h6] at hD;unfold Oper.wp;rw [hD];have hV:cur.toList.length=cap*n:=by simpa using e6
 refine hU M _ _ (.refl M) ?_ rfl;have hK:(vss.take (i+1)++vss.drop i).flatten=cur.toList.take ((i+1)*n)++(vss.drop i).flatten:=by rw [List.flatten_append,hd,←e7,List.take_take,Nat.min_eq_left (by rw [E];exact m3)]
 refine RelS.grownQ (v:=M.σ j) (vss:=vss.take (i+1)++vss.drop i) hS (Dd _ _ _) ?_ (fun z B hz=>hS.d2 z j B _ hz hj) q4 ?_ ?_ hO g0 (Jn hI hw) ?_ ?_
 ·intro z N hz;rw [Du] at hz;split at hz
  ·simp at hz
  ·rename_i e;refine ⟨hz,fun g hg e2=>e ⟨?_,Cu hj⟩⟩;exact hS.d3 z j N _ g hz hj e2 hg
 ·rw [sj];refine ⟨rfl,rfl,rfl,by simp [World.setRow],fun z hz hne=>?_⟩;rw [Gp,if_neg];rintro rfl;exact hne rfl
 ·rw [sj,sq];rfl
 ·intro v hv;rw [List.flatten_append] at hv;rcases List.mem_append.1 hv with hv | hv
  ·rw [hd] at hv;exact v2 v (List.mem_of_mem_take hv)
  ·exact hA v hv
 ·have hN:(rows.take (i+1)++rows.drop i).length=L+1:=by rw [List.length_append,List.length_take,List.length_drop];omega
  have hE:(vss.take (i+1)++vss.drop i).flatten.length=(L+1)*n:=by have:=Dl (Jn hI hw);rw [this,hN]
  dsimp only;rw [hN];refine ⟨hE,.inr ⟨g,cap,_,sq,Nat.zero_le _,by rw [Gp,if_pos rfl,e3];rfl,hc,e5,?_,?_⟩⟩
  ·have h9:(cur.toList.take ((i+1)*n)++(vss.drop i).flatten++cur.toList.drop ((i+1)*n+(L-i)*n)).length=cap*n:=by rw [List.length_append,List.length_append,List.length_take,List.length_drop,h6,hV];omega
   simpa using h9
  ·rw [hK];rw [List.take_left'];rw [←hK,hE]
theorem Z0O {q j T E n o1 m1 o2 m2:Nat} {x y:X} {rows rs:List (List AV)} (hx:S.x x = .ocs q o1 n m1) (hy:S.x y = .ocs j o2 n m2) (hq:A2 S.ss q=some ⟨T,n,rows⟩) (hj:A2 S.ss j=some ⟨E,n,rs⟩)
  (h1:o1+m1≤rows.length) (h2:o2+m2≤rs.length) (J:o1<rows.length) (U:o2<rs.length):
  Bi c S (.copy n x y) (.iv (min m2 m1:Nat)) ⟨S.tm,S.bs,Ar S.ss q (some ⟨T,n,rows.take o1++(rs.take (o2+min m2 m1)).drop o2++rows.drop (o1+min m2 m1)⟩)⟩:=by
 intro ro hA M a w hT next Q hD
 obtain ⟨dst,op,ty,pos,af,gd⟩:=ro;dsimp only at hA;obtain ⟨p,r,t,u,e,rfl,hu,hs,rfl,rfl⟩:=UK hA;have k1:=Ak hT p;have k2:=Ak hT r;rw [hx] at k1;rw [hy] at k2;obtain ⟨_,g1,n1,c1,k1,k1'⟩:=k1;obtain ⟨_,g2,n2,c2,k2,k2'⟩:=k2;obtain ⟨g,cap,cur,vss,e2,e3,e4,e5,e6,v1,v2,e7⟩:=Ew hT.st hq Om;obtain ⟨g',cap',cur',ws,f2,f3,f4,f5,f6,w1,w2,f7⟩:=Ew hT.st hj Om;rw [e2] at k1;rw [f2] at k2;simp only [Value.slice.injEq,Option.some.injEq,Addr.mk.injEq] at k1 k2;obtain ⟨⟨rfl,_⟩,rfl,rfl⟩:=k1;obtain ⟨⟨rfl,_⟩,_,rfl⟩:=k2;rw [if_neg Om] at k1' k2';have hw:=F2 w1 o2 (o2+min m2 m1);have h8:=Dl hw;have hk:((rs.take (o2+min m2 m1)).drop o2).length=min m2 m1:=by rw [List.length_drop,List.length_take];omega
 rw [hk] at h8;have h6:=(Fx w1).1;have hB:((ws.take (o2+min m2 m1)).drop o2).flatten=(ws.flatten.take ((o2+min m2 m1)*n)).drop (o2*n):=by rw [(Fu (fun v hv=>h6 v (List.mem_of_mem_take hv)) o2).2,(Fu h6 _).1]
 have h9:∀v∈((ws.take (o2+min m2 m1)).drop o2).flatten,v.oneCell'=true:=fun v hv=>by rw [hB] at hv;exact w2 v (List.mem_of_mem_take (List.mem_of_mem_drop hv))
 have hd:∀(i:Nat) v,((ws.take (o2+min m2 m1)).drop o2).flatten[i]?=some v→w.cell? ((⟨g',o2*n,none⟩:Addr).add i)=some v:=fun i v hv=>by
  rw [hB,List.getElem?_drop,List.getElem?_take] at hv;split at hv
  ·rw [←f7,List.getElem?_take] at hv;split at hv
   ·rw [Addr.add_lit];simp only [World.cell?,f3];simpa using hv
   ·simp at hv
  ·simp at hv
 have m1':(o1+min m2 m1)*n≤cap*n:=Nat.mul_le_mul_right _ Om;rw [Nat.add_mul] at m1';have hC:=PK (P:=c.P) (w:=w) (p:=p) (q:=r) (t:=t) (u:=u) (ρ:=a.eval) (d:=dst) (ty:=ty) (pos:=pos) (af:=af) (gd:=gd) (by rw [k1',k2'];exact lW (P:=c.P) w t u ty e g (o1*n) m1 _ ⟨g',o2*n,none⟩ m2 _ n cur T ((ws.take (o2+min m2 m1)).drop o2).flatten hu (Uo hs) e3 (h8.trans rfl) hd (by rw [h8,e6];exact m1') h9);unfold Oper.wp;rw [hC];have hW:=U7 hT.st hq e2 e3 e4 e5 e6 v1 v2 e7 (A:=o1) hw h9 (by rw [hk];omega);rw [hk] at hW;exact hD M _ _ (.refl M) hW rfl
theorem LO (t j:Nat) {T n:Nat} {rows:List (List AV)} (ht:AJ S.tm t = .osl j) (hj:A2 S.ss j=some ⟨T,n,rows⟩) (hr:0<rows.length)
  (h:V c fn K k ⟨BL S.tm t (.ocs j 0 n rows.length),S.bs,S.ss⟩):V c fn K k S:=by
 intro rk M a w hc hT;obtain ⟨g,cap,cur,vss,e2,e3,e4,e5,e6,v1,v2,e7⟩:=Ew hT.st hj hr;refine h rk _ a w hc ⟨by rw [I8];exact hT.len,fun u=>?_,hT.df,hT.st⟩;rw [F6];split
 ·rename_i e;have hu:=hT.tm u;rw [e.1,ht] at hu;rw [e.1];refine ⟨hu.1,g,rows.length,cap,e2,?_⟩;rw [hu.2,e2,Nat.zero_mul,ite_self,Nat.sub_zero]
 ·exact hT.tm u
theorem mX {j T e n b i:Nat} {z:List AV} {x y:X} {m:Int} {rows:List (List AV)} (hx:S.x x = .ocs j 0 n i) (hj:A2 S.ss j=some ⟨T,n,rows⟩) (hr:i<rows.length) (hO:j<c.nq) (hy:S.x y = .iv m) (h0:0<m) (h8:(Ed (c.ps j):Int)<i+m) (E:T=e)
  (hb:(i+m)*b≤140737488355328) (hW:i+m≤9223372036854775807) (hJ:Cs z=true):
  Bi c S (.apz e n b z x y) (.osl (Aa S.ss)) ⟨S.tm,S.bs,S.ss++[some ⟨e,n,rows.take i++List.replicate m.toNat z⟩]⟩:=by
 subst E;intro ro hE M a w h9 next Q hP
 obtain ⟨dst,op,ty,pos,af,gd⟩:=ro;dsimp only at hE;obtain ⟨t,tn,kk,p,q,i',u,rfl,hu,hk,hi,hz,hn,hQ,hR,rfl,rfl,rfl,rfl⟩:=fQ hE;have k1:=Ak h9 p;have k2:=Ak h9 q;rw [hx] at k1;rw [hy] at k2;simp only [AV.is] at k2;obtain ⟨k,rfl⟩:∃k:Nat,m=k:=⟨m.toNat,Om⟩
 have hS:=h9.st;obtain ⟨g0,_⟩:=hS.slc j _ hj;obtain ⟨g,cap,cur,vss,e2,e3,e4,e5,e6,v1,v2,e7⟩:=Ew hS hj Om;obtain ⟨_,g1,n1,c1,k1,k1'⟩:=k1;rw [e2] at k1;simp only [Value.slice.injEq,Option.some.injEq,Addr.mk.injEq] at k1;obtain ⟨⟨rfl,_⟩,_,rfl⟩:=k1;rw [Nat.zero_mul,ite_self,Nat.sub_zero] at k1';rw [←hS.pin.σ j hO,e2] at h8;simp only [Ed] at h8;have hD:=(Fx v1).1;have hG:AV.isLL M.sl n (rows.take i) (vss.take i):=by have:=F2 v1 0 i;simpa using this
 have h6:=Dl hG;rw [List.length_take,Nat.min_eq_left Om] at h6;have hd:(vss.take i).flatten=vss.flatten.take (i*n):=(Fu hD i).1;have hb':(i+k)*i'.bytes≤140737488355328:=by
  have:(((i+k)*i'.bytes:Nat):Int)≤140737488355328:=by rw [Int.natCast_mul,Int.natCast_add];exact hb
  omega
 have hb'':k*i'.bytes≤(i+k)*i'.bytes:=Nat.mul_le_mul_right _ Om;have hold:(Builtin.firstCells i'.size i (.slice (some ⟨g,0,none⟩) i cap)).run c.P w.drew = .ok (vss.take i).flatten.toArray w.drew:=by
  refine run_firstCells_some w.drew i'.size i ⟨g,0,none⟩ i cap _ (by rw [h6,hQ]) (fun z v hv=>?_);rw [hd,←e7,List.getElem?_take,List.getElem?_take] at hv;split at hv
  ·split at hv
   ·rw [Addr.add_lit];show w.cell? _=_;simp only [World.cell?,e3,Nat.zero_add];simpa using hv
   ·simp at hv
  ·simp at hv
 have r1:=Lib.run_append_grow_zeros (P:=c.P) w t tn ty T i' u .i64 kk hu hk hi hz (some ⟨g,0,none⟩) i cap _ hold k Om Om Om Om Om (growslice_fits Om hb');have hK:(execOp a.eval ⟨dst,.call ⟨.builtin .append, #[p,q], #[t,tn]⟩,ty,pos,af,gd⟩).run c.P w = .ok (.value (.slice (some ⟨w.heap.size,0,none⟩) (i+k) (grownCap w (i+k) cap T))) (w.drew.alloc (.cells ((vss.take i).flatten.toArray++Builtin.zeroCells u.cells k++Builtin.zeroCells u.cells (grownCap w (i+k) cap T-(i+k))) T)):=by generalize a.eval=ρ at *;simp [execOp,resolve,invoke,builtin,k1',k2,r1]
 unfold Oper.wp;rw [hK];have hU:∀k,(Builtin.zeroCells u.cells k).toList=(List.replicate k u.cells.toList).flatten:=fun k=>Zr u.cells k;have hL:u.cells.toList.length=n:=by simpa using hn
 have hv:=PW (FO M.sl u.cells.toList) k;rw [hL] at hv;have hw:∀v∈u.cells.toList,v.oneCell'=true:=Jc (FO M _) hJ hS.so;have hV:=grownCap_ge w (i+k) cap T;have hN:=grownCap_le_maxLen w (i+k) cap T (by unfold maxLen;omega);have hB:∀q,(Builtin.zeroCells u.cells q).size=q*n:=by intro q;simp [Builtin.zeroCells,hn]
 have hg:w.grownBy (w.drew.alloc (.cells ((vss.take i).flatten.toArray++Builtin.zeroCells u.cells k++Builtin.zeroCells u.cells (grownCap w (i+k) cap T-(i+k))) T)) none:=by
  refine ⟨rfl,rfl,rfl,?_,fun j hj _=>?_⟩
  ·show w.heap.size≤(w.heap.push _).size;simp
  ·show (w.heap.push _)[j]?=_;rw [Array.getElem?_push,if_neg Om]
 have hI:(rows.take i++List.replicate k (u.cells.toList.map Dw)).length=i+k:=by rw [List.length_append,List.length_take,List.length_replicate];omega
 have hA:=Jn hG hv;have hC:=Dl hA;rw [hI] at hC;have hr':RelS c (M.addS (.slice (some ⟨w.heap.size,0,none⟩) (i+k) (grownCap w (i+k) cap T))) S.bs (S.ss++[some (⟨T,n,rows.take i++List.replicate k (u.cells.toList.map Dw)⟩:Sl)]) (w.drew.alloc (.cells ((vss.take i).flatten.toArray++Builtin.zeroCells u.cells k++Builtin.zeroCells u.cells (grownCap w (i+k) cap T-(i+k))) T)):=by
  refine RelS.grown (v:=.slice none 0 0) (vss:=vss.take i++List.replicate k u.cells.toList) hS rfl ?_ (.inl rfl) ?_ hg (.inr fun g hg=>?_) hR hA ?_ ?_
  ·intro i N hi;exact ⟨hi,fun g hg=>by simp [Value.ownBlock] at hg⟩
  ·intro g hg;simp [Value.ownBlock] at hg
  ·simp [Value.ownBlock] at hg;omega
  ·intro v hv;rw [List.flatten_append] at hv;rcases List.mem_append.1 hv with hv | hv
   ·rw [hd] at hv;exact v2 v (List.mem_of_mem_take hv)
   ·simp only [List.mem_flatten,List.mem_replicate] at hv;obtain ⟨l,⟨_,rfl⟩,hv⟩:=hv;exact hw v hv
  ·dsimp only;rw [hI];refine ⟨hC,.inr ⟨w.heap.size,grownCap w (i+k) cap T,(vss.take i).flatten.toArray++Builtin.zeroCells u.cells k++Builtin.zeroCells u.cells (grownCap w (i+k) cap T-(i+k)),rfl,Nat.zero_le _,?_,hV,hN,?_,?_⟩⟩
   ·show (w.heap.push _)[w.heap.size]?=_;rw [Array.getElem?_push,if_pos rfl]
   ·rw [Array.size_append,Array.size_append,hB,hB,List.size_toArray,h6,←Nat.add_mul,←Nat.add_mul];congr 1;omega
   ·rw [Array.toList_append,Array.toList_append,hU];show List.take _ ((vss.take i).flatten++_++_)=_;rw [←List.flatten_append,List.take_left'];exact hC
 refine hP _ _ _ (Mem.le_addS M _) (by simpa using hr') ?_;rw [Bh,←hS.ns];exact ⟨Nat.lt_succ_self _,by simp [Mem.addS]⟩
theorem RelS.ctx {J:Ctx} {bs:List (Option Blk)} {ss:List (Option Sl)} (h:RelS c M bs ss w) (E:J.w0=c.w0) (hH:J.H0=c.H0) (hb:∀k,J.bor k↔c.bor k) (hp:Pin J M):RelS J M bs ss w:=by
 have hm:∀g,Fl c g→Fl J g:=fun g hg=>hg.imp (by rw [E];exact id) (hb g).2;refine ⟨h.nb,h.ns,h.so,by rw [E];exact h.os,by rw [E];exact h.tape,by rw [E];exact h.output,by rw [E];exact h.size,fun k hk hn=>by rw [E] at hk ⊢;exact h.block k hk fun e=>hn ((hb k).2 e),h.hle,fun k hk hn=>by rw [E] at hk;rw [hH];exact h.hold k hk fun e=>hn ((hb k).2 e),?_,?_,h.d1,h.d2,h.d3,hp⟩
 ·intro j B hj;obtain ⟨g1,g2⟩:=h.blk j B hj;exact ⟨hm _ g1,g2⟩
 ·intro j L hj;obtain ⟨g0,vss,g1,g2,g3,g4⟩:=h.slc j L hj;exact ⟨g0,vss,g1,g2,g3,fun g hg=>⟨hm _ (g4 g hg).1,(g4 g hg).2⟩⟩
theorem jo {f:Nat} {body:EC} {rs:List ERes} {np nt:Nat} (hf:FnOK c.P f fn body rs np nt) {args:List AV} {bs bs':List (Option Blk)} {ss ss':List (Option Sl)} {v:AV} (hn:args.length=np)
  (h1:c.np≤bs'.length) (h2:c.nq≤ss'.length) (h3:St.ok ⟨[v],bs',ss'⟩=true)
  (h:V c fn (fun x b s=>St.le ⟨[x],b,s⟩ ⟨[v],bs',ss'⟩) [.code body] ⟨args++D6 nt,bs,ss⟩) {vs:List Value} (E:RelS c M bs ss w) (ha:AV.isL M args vs):
  Calls c.P f vs.toArray w fun e w'=>∃u M',e = .returned u∧RelS c M' bs' ss' w'∧v.is M' u:=by
 obtain ⟨x,hb,hx⟩:=hf.b;have hl:=D5 ha;refine calls_of_wp hf.h hb ?_;have e1:fn.ntmps-vs.toArray.size=nt:=by rw [hf.t];simp;omega
 rw [e1];have hT:RelT c M ⟨args++D6 nt,bs,ss⟩ {tmps:=vs.toArray++Array.replicate nt undef,defers:=[]} w:=by
  refine ⟨by simp [Vu,hl],fun t=>?_,rfl,E⟩;simp only [Vp,Array.getD_eq_getD_getElem?,Array.getElem?_append,List.size_toArray];by_cases h:t<args.length
  ·rw [if_pos h,if_pos Om];have:=PX ha t h;simpa [List.getD_eq_getElem?_getD] using this
  ·rw [if_neg h,if_neg Om];rcases Vt nt (t-args.length) with h1 | ⟨_,h1⟩
   ·rw [h1];simp only [AV.is,Array.getElem?_replicate];split<;>rfl
   ·rw [h1];trivial
 refine wp_mono (h [.code x] _ _ w ⟨_,_,rfl,hx,rfl⟩ hT) ?_;have mono:∀e w',RK c (fun x b s=>St.le ⟨[x],b,s⟩ ⟨[v],bs',ss'⟩) e w'→∃u M',e = .returned u∧RelS c M' bs' ss' w'∧v.is M' u:=by
  rintro e w' ⟨u,M1,b,s,y,rfl,h6,hv,hle⟩;have h8:RelT c M1 ⟨[y],b,s⟩ {tmps:= #[u],defers:=[]} w':=
   ⟨by simp,fun t=>by cases t with
     | zero=>exact hv
     | succ t=>cases t<;>trivial,rfl,h6⟩
  have hW:=h8.weak hle h3 (by rw [D0,Bh];exact h1) (by rw [D0,Bh];exact h2);exact ⟨u,_,rfl,hW.st,hW.tm 0⟩
 intro e a w' hq;cases e with
 | normal=>obtain ⟨h1,v,h2,h3⟩:=hq;exact ⟨h1,v,h2,mono _ _ h3⟩
 | ret=>obtain ⟨h1,v,h2,h3⟩:=hq;exact ⟨h1,v,h2,mono _ _ h3⟩
 | panic ch=>obtain ⟨h1,h2⟩:=hq;exact ⟨h1,mono _ _ h2⟩
 | outgrown=>exact mono _ _ hq
 | exit id=>exact hq
 | goto l=>exact hq
theorem eK {P:Program} {f:Nat} {body:EC} {rs:List ERes} {np nt:Nat} (hf:FnOK P f fn body rs np nt) {args:List AV} {bs bs':List (Option Blk)} {ss ss':List (Option Sl)} {v:AV} (hn:args.length=np)
  (h1:AA (Aa bs) (Aa bs')=true) (h2:AA (Aa ss+1) (Aa ss')=true) (h3:St.ok ⟨[v],bs',ss'⟩=true) {j L:Nat} {E:Sl} (hj:A2 ss j=some E) (J:E.rows.length=L) (q:Prop) (h8:q→0<L)
  (U:∀w M,(q→Ed (M.σ j)<L+1)→V (Ctx.lent P w M bs ss (Aa bs) (Aa ss)) fn (fun x b s=>St.le ⟨[x],b,s⟩ ⟨[v],bs',ss'⟩) [.code body] ⟨args++D6 nt,bs,ss⟩)
  (Y:∀w M g cap,q→M.σ j = .slice (some ⟨g,0,none⟩) L cap→L+1≤cap→M.σ (Aa ss) = .slice (some ⟨g,0,none⟩) (L+1) cap→V (Ctx.lent P w M bs (ss++[none]) (Aa bs) (Aa ss+1)) fn (fun x b s=>St.le ⟨[x],b,s⟩ ⟨[v],bs',ss'⟩) [.code body] ⟨args++D6 nt,bs,ss++[none]⟩):Cr P f args bs ss v bs' ss':=by
 rw [D0,Bh,Bh] at h1 h2;refine ⟨h1,Om,fun M w vs hS ha=>?_⟩;by_cases hc:q∧L+1≤Ed (M.σ j)
 ·obtain ⟨hq,hc⟩:=hc;obtain ⟨g,cap,cur,vss,e2,e3,e4,e5,e6,v1,v2,e7⟩:=Ew (S:=⟨[],bs,ss⟩) (T:=E.T) (n:=E.n) (rows:=E.rows) hS hj (by rw [J];exact h8 hq);rw [J] at e2;rw [e2] at hc;simp only [Ed] at hc;have hns:M.ns=Aa ss:=by rw [hS.ns,Bh]
  have hle:=Mem.le_addS M (.slice (some ⟨g,0,none⟩) (L+1) cap);have h9:j<M.ns:=by rw [hS.ns];exact Cu hj
  have hσ:∀i,i<M.ns→(M.addS (.slice (some ⟨g,0,none⟩) (L+1) cap)).σ i=M.σ i:=hle.σ;have live:∀i N,A2 (ss++[none]) i=some N→i<M.ns∧A2 ss i=some N:=by
   intro i N hi;rw [OK] at hi;split at hi
   ·simp at hi
   ·exact ⟨by rw [hS.ns];exact Cu hi,hi⟩
  have back:∀i N,A2 ss i=some N→A2 (ss++[none]) i=some N:=by intro i N hi;rw [OK,if_neg (Nat.ne_of_lt (Cu hi))];exact hi
  have h6:∀k,Gt (M.addS (.slice (some ⟨g,0,none⟩) (L+1) cap)) bs (ss++[none]) k↔Gt M bs ss k:=by
   intro k;constructor
   ·rintro (⟨i,B,hi,e⟩ | ⟨i,N,hi,e⟩)
    ·exact .inl ⟨i,B,hi,e⟩
    ·obtain ⟨hl,hi⟩:=live i N hi;rw [hσ i hl] at e;exact .inr ⟨i,N,hi,e⟩
   ·rintro (⟨i,B,hi,e⟩ | ⟨i,N,hi,e⟩)
    ·exact .inl ⟨i,B,hi,e⟩
    ·refine .inr ⟨i,N,back i N hi,?_⟩;rw [hσ i (by rw [hS.ns];exact Cu hi)];exact e
  have hd:RelS (Ctx.lent P w (M.addS (.slice (some ⟨g,0,none⟩) (L+1) cap)) bs (ss++[none]) (Aa bs) (Aa ss+1)) (M.addS (.slice (some ⟨g,0,none⟩) (L+1) cap)) bs (ss++[none]) w:=by
   have hb:RelS (Ctx.lent P w M bs ss bs.length ss.length) (M.addS (.slice (some ⟨g,0,none⟩) (L+1) cap)) bs (ss++[none]) w:=by
    refine ⟨hS.nb,by simp [Mem.addS,hS.ns],?_,hS.os,hS.tape,hS.output,hS.size,hS.block,hS.hle,hS.hold,?_,?_,hS.d1,?_,?_,hS.pin.le hle⟩
    ·intro i hi;simp only [Mem.addS] at hi ⊢;split
     ·rfl
     ·exact hS.so i Om
    ·intro i B hi;obtain ⟨g1,g2,us,g3,g4⟩:=hS.blk i B hi;exact ⟨g1,g2,us,E0 hle _ _ g3,g4⟩
    ·intro i N hi;obtain ⟨hl,hi⟩:=live i N hi;rw [hσ i hl];obtain ⟨g0,us,q1,q2,q3,q4⟩:=hS.slc i N hi;exact ⟨g0,us,EG hle.sl _ _ _ q1,q2,q3,q4⟩
    ·intro i z B N hi hz;obtain ⟨hl,hz⟩:=live z N hz;rw [hσ z hl];exact hS.d2 i z B N hi hz
    ·intro i z N O g hi hz e1 e2;obtain ⟨hl,hi⟩:=live i N hi;obtain ⟨hl',hz⟩:=live z O hz;rw [hσ i hl] at e1;rw [hσ z hl'] at e2;exact hS.d3 i z N O g hi hz e1 e2
   refine hb.ctx rfl rfl h6 ⟨?_,fun _ _=>rfl,?_,fun _ _=>rfl,hS.pin.gl⟩
   ·show Aa bs≤M.nb;rw [hS.nb,Bh];exact Nat.le_refl _
   ·show Aa ss+1≤M.ns+1;rw [hS.ns,Bh];exact Nat.le_refl _
  refine (jo (c:=Ctx.lent P w (M.addS (.slice (some ⟨g,0,none⟩) (L+1) cap)) bs (ss++[none]) (Aa bs) (Aa ss+1)) hf hn (by show Aa bs≤_;rw [Bh];exact h1) (by show Aa ss+1≤_;rw [Bh];exact h2) h3 (Y w _ g cap hq ?_ hc ?_) hd (E0 hle _ _ ha)).mono ?_
  ·rw [hσ j h9];exact e2
  ·rw [←hns];simp [Mem.addS]
  ·rintro e w' ⟨u,M',rfl,hR,hu⟩;refine ⟨u,M',rfl,hR.ctx rfl rfl (fun k=>(h6 k).symm) ⟨?_,fun i hi=>?_,?_,fun i hi=>?_,hR.pin.gl⟩,hu⟩
   ·have:=hR.pin.nb;have e:Aa bs≤M'.nb:=this;rwa [Bh] at e
   ·exact hR.pin.ρ i (by show i<Aa bs;rw [Bh];exact hi)
   ·have:=hR.pin.ns;have e:Aa ss+1≤M'.ns:=this;rw [Bh] at e;exact Nat.le_of_succ_le e
   ·have hi':i<ss.length:=hi;have:=hR.pin.σ i (by show i<Aa ss+1;rw [Bh];omega);rw [this];exact hσ i (by rw [hS.ns];exact hi')
 ·have hA':=U w M (fun hq=>by
   by_cases hw:Ed (M.σ j)<L+1
   ·exact hw
   ·exact absurd ⟨hq,Om⟩ hc)
  rw [Bh,Bh] at hA';exact jo (c:=Ctx.lent P w M bs ss bs.length ss.length) hf hn h1 (Nat.le_of_succ_le h2) h3 hA' hS ha
theorem ZA {d:Option Nat} {g:Option (Nat×Bool)} {ng:Bool} {x:X} {j:Nat} {L:Sl} {l:List EOp} (hg:gm S g) (hx:S.x x = .osl j) (hj:A2 S.ss j=some L)
  (h1:L.rows=[]→V c fn K (.ops l::k) (S.put d (match ng with | true=>.ff | false=>.tt))) (h2:V c fn K (.ops l::k) (S.put d (match ng with | true=>.tt | false=>.ff))):V c fn K (.ops (⟨d,g,.isnil ng x⟩::l)::k) S:=by
 refine ZB hg fun ro hd h6 M a w hT next Q hn=>?_
 obtain ⟨dst,op,ty,pos,af,gd⟩:=ro;dsimp only at h6 hd;subst hd;obtain ⟨T,y,T2,e,rfl,hu,rfl⟩:=fS h6;have hv:=Ak hT y;rw [hx] at hv;obtain ⟨g0,vss,q1,q2,q3,q4⟩:=hT.st.slc j L hj;have hw:∃ad n cp,M.σ j = .slice ad n cp∧(ad=none→L.rows=[]):=by
  rcases q3.2 with ⟨e2,e3⟩ | ⟨g,cap,cur,e2,_⟩
  ·exact ⟨none,0,0,e2,fun _=>List.length_eq_zero_iff.1 e3⟩
  ·exact ⟨some ⟨g,0,none⟩,_,_,e2,fun h=>by simp at h⟩
 obtain ⟨ad,n,cp,e2,g2'⟩:=hw;have g1:=hv.2.trans e2;have hr:(Op.equal T (.slice ad n cp) (.slice none 0 0)).run c.P w = .ok ad.isNone w:=run_equal_slice_nil w T e ad n cp hu;have hA:∀o:BinOp,(eqGuard o T y (.const (.slice none 0 0)) (.slice ad n cp) (.slice none 0 0)).run c.P w = .ok () w:=fun o=>by unfold eqGuard;split<;>rfl
 have h9:(execOp a.eval ⟨dst,.binOp (TV ng) T y (.const (.slice none 0 0)) T2,ty,pos,af,gd⟩).run c.P w = .ok (.value (.bool (Yn ng ad.isNone))) w:=by have he:a.eval (.const (.slice none 0 0)) = .slice none 0 0:=rfl;generalize a.eval=ρ at *;cases ng<;>simp [TV,Yn,execOp,g1,he,hA,binOp,hr]
 unfold Oper.wp;rw [h9];cases hB:ad with
 | none=>
   have h8:=h1 (g2' hB);cases ng
   ·exact hn M w .tt (.bool true) S.bs S.ss (.refl M) hT.st rfl h8
   ·exact hn M w .ff (.bool false) S.bs S.ss (.refl M) hT.st rfl h8
 | some b=>
   cases ng
   ·exact hn M w .ff (.bool false) S.bs S.ss (.refl M) hT.st rfl h2
   ·exact hn M w .tt (.bool true) S.bs S.ss (.refl M) hT.st rfl h2
def Mi {α:Type} (b:Nat) (l:List α) (i:Int) (v:α):Option (List α):=if 0≤i∧i≤l.length∧(l.length+1)*b≤140737488355328∧l.length+1≤9223372036854775807 then some (l.take i.toNat++v::l.drop i.toNat) else none
theorem Z9 {j T n:Nat} {x:X} {lo:Option X} {rows:List (List AV)} {l:Int} (hx:S.x x = .osl j) (hj:A2 S.ss j=some ⟨T,n,rows⟩) (hd:AY S lo 0=some l) (h0:0≤l) (h1:l≤rows.length):Bi c S (.slice n x lo none) .any S:=by
 intro ro h9 M a w h8 next Q hw
 obtain ⟨dst,op,ty,pos,af,gd⟩:=ro;dsimp only at h9;obtain ⟨T',y,lo',hi',e,rfl,hu,hs,rfl,rfl,hA⟩:=H8 h9;have hS:=h8.st;have k1:=Ak h8 y;rw [hx] at k1;have hh:hi'=none:=by cases hi' with
  | none=>rfl
  | some o=>simp at hA
 subst hh;have b1:=HS (Ak h8) lo' 0 l hd;obtain ⟨g0,vss,q1,q2,q3,q4⟩:=hS.slc j _ hj;dsimp only at q3;have h6:∃v,(execOp a.eval ⟨dst,.slice T' y lo' none none,ty,pos,af,gd⟩).run c.P w = .ok (.value v) w:=by
  rcases q3.2 with ⟨r1,r2⟩ | ⟨g,cap,cur,r1,r2,r3,r4,r5,r6,r7⟩
  ·exact ⟨_,LG (P:=c.P) (w:=w) hu hs (ρ:=a.eval) (ad:=none) (len:=0) (cp:=0) (lo:=l) (hi:=0) (h:=none) (k1.2.trans r1) (Nat.le_refl _) b1 rfl h0 Om Om dst ty pos af gd⟩
  ·exact ⟨_,LG (P:=c.P) (w:=w) hu hs (ρ:=a.eval) (ad:=some ⟨g,0,none⟩) (len:=rows.length) (cp:=cap) (lo:=l) (hi:=rows.length) (h:=none) (k1.2.trans r1) r4 b1 rfl h0 h1 (Int.le_refl _) dst ty pos af gd⟩
 obtain ⟨v,h6⟩:=h6;unfold Oper.wp;rw [h6];exact hw M w _ (.refl M) hS trivial
theorem HH {q j T J n o1 m1 o2 m2:Nat} {x y:X} {rows rs:List (List AV)} (E:List (List AV)) (hx:S.x x = .ocs q o1 n m1) (hy:S.x y = .ocs j o2 n m2) (hq:A2 S.ss q=some ⟨T,n,rows⟩) (hj:A2 S.ss j=some ⟨J,n,rs⟩)
  (h1:o1+m1≤rows.length) (h2:o2+m2≤rs.length) (U:o1<rows.length) (Y:o2<rs.length) (he:rows.take o1++(rs.take (o2+min m2 m1)).drop o2++rows.drop (o1+min m2 m1)=E):
  Bi c S (.copy n x y) (.iv (min m2 m1:Nat)) ⟨S.tm,S.bs,Ar S.ss q (some ⟨T,n,E⟩)⟩:=by
 subst he;exact Z0O hx hy hq hj h1 h2 U Y
end
section
variable {β:Type}
theorem gX {rows:List β} {i k m m':Nat} {z y:β} (hi:i<rows.length) (hk:k=rows.length+1-i) (hm:0<m) (hm':m'=1):
  (rows.take i++List.replicate k z).take i++([y].take (0+min m' m)).drop 0++(rows.take i++List.replicate k z).drop (i+min m' m)=rows.take i++y::List.replicate (rows.length-i) z:=by
 subst hk;subst hm';rw [Nat.min_eq_left Om];refine List.ext_getElem? fun q=>?_;simp only [Nat.zero_add,List.take_succ_cons,List.take_zero,List.drop_zero,List.getElem?_append,List.getElem?_take,List.getElem?_drop,List.getElem?_replicate,List.length_append,List.length_take,List.length_replicate,List.getElem?_cons,List.getElem?_nil,List.length_cons,List.length_nil]
 (repeat' split)<;>first | rfl | (exfalso;omega) | (congr 1;omega)
theorem V6 {rows:List β} {i m m':Nat} {z y:β} (hi:i<rows.length) (hm:m=rows.length-i) (hm':m'=rows.length-i):
  (rows.take i++y::List.replicate (rows.length-i) z).take (i+1)++(rows.take (i+min m' m)).drop i++(rows.take i++y::List.replicate (rows.length-i) z).drop (i+1+min m' m)=rows.take i++y::rows.drop i:=by
 subst hm;subst hm';have hl:(rows.take i).length=i:=by rw [List.length_take];omega
 have e1:(rows.take i++y::List.replicate (rows.length-i) z).take (i+1)=rows.take i++[y]:=by have:=List.take_length_add_append (l₁:=rows.take i) (l₂:=y::List.replicate (rows.length-i) z) 1;rw [hl] at this;rw [this];rfl
 have e2:(rows.take i++y::List.replicate (rows.length-i) z).drop (i+1+(rows.length-i))=[]:=by apply List.drop_eq_nil_of_le;rw [List.length_append,hl,List.length_cons,List.length_replicate];omega
 rw [Nat.min_self,show i+(rows.length-i)=rows.length by omega,List.take_length,e1,e2];simp
theorem Zb {rows:List β} {i m m':Nat} {y:β} (hi:i<rows.length) (hm:0<m) (hm':m'=1):
  (rows.take (i+1)++rows.drop i).take i++([y].take (0+min m' m)).drop 0++(rows.take (i+1)++rows.drop i).drop (i+min m' m)=rows.take i++y::rows.drop i:=by
 subst hm';rw [Nat.min_eq_left Om];refine List.ext_getElem? fun q=>?_;simp only [Nat.zero_add,List.take_succ_cons,List.take_zero,List.drop_zero,List.getElem?_append,List.getElem?_take,List.getElem?_drop,List.length_append,List.length_take,List.length_drop,List.getElem?_cons,List.getElem?_nil,List.length_cons,List.length_nil]
 (repeat' split)<;>first | rfl | (exfalso;omega) | (congr 1;omega)
end
def PU {α:Type} (b:Nat) (l:List α) (i:Int):List α→Option (List α)
 | [v]=>Mi b l i v
 | _=>none
theorem ie {α:Type} {b:Nat} {l:List α} {i:Int} {vs:List α} {r:List α} (h:PU b l i vs=some r):∃v,vs=[v]∧Mi b l i v=some r:=by
 unfold PU at h;split at h
 ·exact ⟨_,rfl,h⟩
 ·simp at h
theorem ii {α:Type} {b:Nat} {l:List α} {i:Int} {v:α} {r:List α} (h:Mi b l i v=some r):
  r=l.take i.toNat++v::l.drop i.toNat∧0≤i∧i≤l.length∧(l.length+1)*b≤140737488355328∧l.length+1≤9223372036854775807:=by
 unfold Mi at h;split at h
 ·rename_i hh;simp only [Option.some.injEq] at h;exact ⟨h.symm,hh⟩
 ·simp at h
end NX
end Go.Proofs.YtjemlejoladlcaaGreat
