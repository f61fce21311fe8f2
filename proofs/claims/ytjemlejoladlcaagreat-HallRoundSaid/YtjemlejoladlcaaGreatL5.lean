/-
  The symbolic machine: sealing, and what grows. No statement of the seat is proved here.
-/
import Derived.Test.YtjemlejoladlcaaGreatL4
namespace Go.Proofs.YtjemlejoladlcaaGreat
namespace NX
open Go Go.RowKit
theorem yp {H E:Frag} (h:∀k o,H k=some o→E k=some o):(DC H).le (DC E):=⟨Nat.le_refl _,Nat.le_refl _,fun _ _=>rfl,fun _ _=>rfl,h⟩
theorem il {H E:Frag} {n:Nat} {rows:List (List AV)} {vss:List (List Value)} (h:∀k o,H k=some o→E k=some o) (k:AV.isLL (DC H) n rows vss):AV.isLL (DC E) n rows vss:=EG (yp h) _ _ _ k
mutual
theorem nK {M M':Mem} {j:Nat} {r:AV} (hM:∀(x:AV) v,x.is M.pure v→x.is M'.pure v) (hH:∀k o,M.H k=some o→M'.H k=some o) (hb:M'.nb=M.nb) (hs:M'.ns=M.ns) (hρ:∀i,i<M.nb→M'.ρ i=M.ρ i) (hσ:∀i,i<M.ns→i≠j→M'.σ i=M.σ i)
  (hr:∀v,j<M.ns→v=M.σ j→r.is M' v):∀(x:AV) (v:Value),x.is M v→(AV.subO j r x).is M' v
 | .any,_,_=>trivial
 | .un,_,k=>k
 | .tt,_,k=>k
 | .ff,_,k=>k
 | .bv _,_,k=>k
 | .iv _,_,k=>k
 | .kv _ _,_,k=>k
 | .sv _,_,k=>k
 | .nl,_,k=>k
 | .nlp,_,k=>k
 | .fn _,_,k=>k
 | .ptr i o,_,k=>⟨by rw [hb];exact k.1,by rw [hρ i k.1];exact k.2⟩
 | .osl i,v,k=>by
   simp only [AV.subO];split
   ·rename_i h;rw [beq_iff_eq] at h;subst h;exact hr v k.1 k.2
   ·rename_i h;have:i≠j:=fun e=>by rw [beq_iff_eq.2 e] at h;simp at h
    exact ⟨by rw [hs];exact k.1,by rw [hσ i k.1 this];exact k.2⟩
 | .oel i a b,v,k=>by
   simp only [AV.subO];split
   ·trivial
   ·rename_i h;have:i≠j:=fun e=>by rw [beq_iff_eq.2 e] at h;simp at h
    exact ⟨by rw [hs];exact k.1,by rw [hσ i k.1 this];exact k.2⟩
 | .ocs i a n b,v,k=>by
   simp only [AV.subO];split
   ·trivial
   ·rename_i h;have:i≠j:=fun e=>by rw [beq_iff_eq.2 e] at h;simp at h
    exact ⟨by rw [hs];exact k.1,by rw [hσ i k.1 this];exact k.2⟩
 | .elt row o,_,⟨a,vs,h1,h2,h3⟩=>⟨a,vs,h1,by obtain ⟨us,e1,e2⟩:=hM (.agg row) (.agg vs.toArray) ⟨vs,rfl,h2⟩;simp at e1;subst e1;exact e2,h3.mono hH⟩
 | .sl n rows,v,k=>hM (.sl n rows) v k
 | .agg l,_,⟨vs,h1,h2⟩=>⟨vs,h1,Ul hM hH hb hs hρ hσ hr l vs h2⟩
 | .tup l,_,⟨vs,h1,h2⟩=>⟨vs,h1,Ul hM hH hb hs hρ hσ hr l vs h2⟩
 | .clo _ l,_,⟨vs,h1,h2⟩=>⟨vs,h1,Ul hM hH hb hs hρ hσ hr l vs h2⟩
theorem Ul {M M':Mem} {j:Nat} {r:AV} (hM:∀(x:AV) v,x.is M.pure v→x.is M'.pure v) (hH:∀k o,M.H k=some o→M'.H k=some o) (hb:M'.nb=M.nb) (hs:M'.ns=M.ns) (hρ:∀i,i<M.nb→M'.ρ i=M.ρ i) (hσ:∀i,i<M.ns→i≠j→M'.σ i=M.σ i)
  (hr:∀v,j<M.ns→v=M.σ j→r.is M' v):∀(l:List AV) (vs:List Value),AV.isL M l vs→AV.isL M' (CL j r l) vs
 | [],_,k=>k
 | x::l,_,⟨v,vs,h1,h2,h3⟩=>⟨v,vs,h1,nK hM hH hb hs hρ hσ hr x v h2,Ul hM hH hb hs hρ hσ hr l vs h3⟩
end
mutual
theorem nH {M M':Mem} {j:Nat} {cells:List AV} (hl:M.le M') (hr:∀o v,j<M.nb→v = .pointer (some ⟨M.ρ j,o,none⟩)→AV.is M' (.elt cells o) v):∀(x:AV) (v:Value),x.is M v→(x.subB j cells).is M' v
 | .any,_,_=>trivial
 | .un,_,k=>k
 | .tt,_,k=>k
 | .ff,_,k=>k
 | .bv _,_,k=>k
 | .iv _,_,k=>k
 | .kv _ _,_,k=>k
 | .sv _,_,k=>k
 | .nl,_,k=>k
 | .nlp,_,k=>k
 | .fn _,_,k=>k
 | .ptr i o,v,k=>by
   simp only [AV.subB];split
   ·rename_i h;rw [beq_iff_eq] at h;subst h;exact hr o v k.1 k.2
   ·exact Dm hl _ _ k
 | .osl i,v,k=>Dm hl (.osl i) v k
 | .oel i a b,v,k=>Dm hl (.oel i a b) v k
 | .ocs i a n b,v,k=>Dm hl (.ocs i a n b) v k
 | .elt row o,v,k=>Dm hl (.elt row o) v k
 | .sl n rows,v,k=>Dm hl (.sl n rows) v k
 | .agg l,_,⟨vs,h1,h2⟩=>⟨vs,h1,Uk hl hr l vs h2⟩
 | .tup l,_,⟨vs,h1,h2⟩=>⟨vs,h1,Uk hl hr l vs h2⟩
 | .clo _ l,_,⟨vs,h1,h2⟩=>⟨vs,h1,Uk hl hr l vs h2⟩
theorem Uk {M M':Mem} {j:Nat} {cells:List AV} (hl:M.le M') (hr:∀o v,j<M.nb→v = .pointer (some ⟨M.ρ j,o,none⟩)→AV.is M' (.elt cells o) v):∀(l:List AV) (vs:List Value),AV.isL M l vs→AV.isL M' (FI j cells l) vs
 | [],_,k=>k
 | x::l,_,⟨v,vs,h1,h2,h3⟩=>⟨v,vs,h1,nH hl hr x v h2,Uk hl hr l vs h3⟩
end
theorem nI (j:Nat) (r:AV):∀(l:List AV) (t:Nat),AJ (CL j r l) t=AV.subO j r (AJ l t)
 | [],_=>rfl
 | _::_,0=>rfl
 | _::l,t+1=>nI j r l t
theorem nF (j:Nat) (r:List AV):∀(l:List AV) (t:Nat),AJ (FI j r l) t=(AJ l t).subB j r
 | [],_=>rfl
 | _::_,0=>rfl
 | _::l,t+1=>nF j r l t
theorem nJ (j:Nat) (r:AV):∀(l:List AV),(CL j r l).length=l.length
 | []=>rfl
 | _::l=>by simp [CL,nJ j r l]
theorem nG (j:Nat) (r:List AV):∀(l:List AV),(FI j r l).length=l.length
 | []=>rfl
 | _::l=>by simp [FI,nG j r l]
theorem IH (f:List AV→List AV):∀l,(Cn f l).length=l.length
 | []=>rfl
 | none::l=>by simp [Cn,IH f l]
 | some _::l=>by simp [Cn,IH f l]
theorem Fa (f:List AV→List AV):∀(l:List (Option Blk)) (j:Nat) (B:Blk),A2 (Cn f l) j=some B→∃C,A2 l j=some C∧B=⟨C.T,f C.cells⟩
 | [],j,B,h=>by simp [Cn,A2] at h
 | none::l,0,B,h=>by simp [Cn,A2] at h
 | some C::l,0,B,h=>by simp [Cn,A2] at h;exact ⟨C,rfl,h.symm⟩
 | none::l,j+1,B,h=>Fa f l j B (by simpa [Cn,A2] using h)
 | some _::l,j+1,B,h=>Fa f l j B (by simpa [Cn,A2] using h)
section
variable {c:Ctx} {M:Mem} {S S':St} {a:Act} {w:World} {fn:Func} {K:AV→List (Option Blk)→List (Option Sl)→Prop} {k:List It}
theorem YN {M:Mem} {n:Nat}:∀(rows:List (List AV)) (vss:List (List Value)),AV.isLL M.sl n rows vss→C1 rows=true→AV.isLL M.pure n rows vss
 | [],_,h,_=>h
 | r::l,_,⟨v,q,h0,h1,h2,h3⟩,hp=>by simp only [C1,AO] at hp;exact ⟨v,q,h0,h1,Fd (M:=M.sl) _ _ h2 hp.1,YN l q h3 hp.2⟩
@[go_sem] theorem lA {α:Type} {f:α→List AV} (h:∀x,AD (f x)=true):∀l:List α,C1 (l.map f)=true
  | []=>rfl
  | x::l=>by simp only [List.map_cons,C1,AO];exact ⟨h x,lA h l⟩
@[go_sem] theorem xq {α:Type} {ns:Nat} {f:α→List AV} (h:∀x,Cp 0 ns (f x)=true):∀l:List α,C4 ns (l.map f)=true
  | []=>rfl
  | x::l=>by simp only [List.map_cons,C4,AO];exact ⟨h x,xq h l⟩
theorem lB {z:List AV} (h:AD z=true):∀n,C1 (List.replicate n z)=true
 | 0=>rfl
 | n+1=>by simp only [List.replicate_succ,C1,AO];exact ⟨h,lB h n⟩
theorem YB {ns:Nat} {z:List AV} (h:Cp 0 ns z=true):∀n,C4 ns (List.replicate n z)=true
 | 0=>rfl
 | n+1=>by simp only [List.replicate_succ,C4,AO];exact ⟨h,YB h n⟩
theorem YC {ns:Nat} {r:List AV} (hr:Cp 0 ns r=true):∀ {l:List (List AV)} {i:Nat},C4 ns l=true→C4 ns (l.set i r)=true
 | [],_,_=>rfl
 | x::l,0,h=>by simp only [C4,AO] at h;simp only [List.set_cons_zero,C4,AO];exact ⟨hr,h.2⟩
 | x::l,i+1,h=>by simp only [C4,AO] at h;simp only [List.set_cons_succ,C4,AO];exact ⟨h.1,YC hr h.2⟩
theorem lC {r:List AV} (hr:AD r=true):∀ {l:List (List AV)} {i:Nat},C1 l=true→C1 (l.set i r)=true
 | [],_,_=>rfl
 | x::l,0,h=>by simp only [C1,AO] at h;simp only [List.set_cons_zero,C1,AO];exact ⟨hr,h.2⟩
 | x::l,i+1,h=>by simp only [C1,AO] at h;simp only [List.set_cons_succ,C1,AO];exact ⟨h.1,lC hr h.2⟩
@[go_sem] theorem okRows_setS {ns:Nat} {r:List AV} {l:List (List AV)} {i:Nat} (h:BS (C4 ns l) (Cp 0 ns r)=true):C4 ns (l.set i r)=true:=by rw [AO] at h;exact YC h.2 h.1
@[go_sem] theorem puRows_setS {r:List AV} {l:List (List AV)} {i:Nat} (h:BS (C1 l) (AD r)=true):C1 (l.set i r)=true:=by rw [AO] at h;exact lC h.2 h.1
@[go_sem] theorem puRows_repS {z:List AV} {n:Nat} (h:∀_:Nat,AD z=true):C1 (List.replicate n z)=true:=lB (h 0) n
@[go_sem] theorem okRows_repS {ns:Nat} {z:List AV} {n:Nat} (h:∀_:Nat,Cp 0 ns z=true):C4 ns (List.replicate n z)=true:=YB (h 0) n
@[go_sem] theorem ym:∀a b:List (List AV),C1 (a++b)=BS (C1 a) (C1 b)
  | [],b=>rfl
  | x::a,b=>by have:=ym a b;simp only [List.cons_append,C1,this];cases AD x<;>rfl
theorem dj:∀ {l:List (Option Sl)} {j:Nat} {L:Sl},C7 l=true→A2 l j=some L→C1 L.rows=true
 | [],_,_,_,h=>by simp [A2] at h
 | none::l,0,_,_,h=>by simp [A2] at h
 | none::l,j+1,_,h,hj=>dj (l:=l) (j:=j) (by simpa [C7] using h) (by simpa [A2] using hj)
 | some N::l,0,_,h,hj=>by simp only [C7,AO] at h;simp only [A2,Option.some.injEq] at hj;subst hj;exact h.1
 | some N::l,j+1,_,h,hj=>by simp only [C7,AO] at h;exact dj (l:=l) (j:=j) h.2 (by simpa [A2] using hj)
theorem Z2 (j:Nat) {L:Sl} (hj:A2 S.ss j=some L) (hpr:C1 L.rows=true) (E:RelT c M S a w):∃M',M.le M'∧RelT c M' (S.sealS j L) a w∧AV.is M' (.sl L.n L.rows) (M.σ j):=by
 have hS:=E.st;obtain ⟨h0,vss,h1,h2,h3,h4⟩:=hS.slc j L hj;have h1:AV.isLL M.pure L.n L.rows vss:=YN _ _ h1 hpr;have h9:j<M.ns:=by rw [hS.ns];exact Cu hj
 have Af:∃H':Frag,(∀k o,M.H k=some o→H' k=some o)∧(∀k o,H' k=some o→w.heap[k]?=some o)∧(∀k,k<c.w0.heap.size→¬c.bor k→H' k=M.H k)∧
   (∀g,(M.σ j).ownBlock≠some g→H' g=M.H g)∧AV.is (DC H') (.sl L.n L.rows) (M.σ j):=by
  rcases h3.2 with ⟨e1,e2⟩ | ⟨g,cp,cur,e1,_,e3,e4,e5,e6,e7⟩
  ·refine ⟨M.H,fun _ _ h=>h,hS.hle,fun _ _ _=>rfl,fun _ _=>rfl,none,0,?_,⟨Om,fun _=>rfl⟩,fun hne=>?_⟩
   ·rw [e1,e2]
   ·exact absurd (List.length_eq_zero_iff.1 e2) hne
  ·have hg:=h4 g (by rw [e1];rfl);refine ⟨fun k=>if k=g then some (.cells cur L.T (0,0)) else M.H k,?_,?_,?_,?_,some ⟨g,0,none⟩,cp,e1,⟨e4,fun h=>by simp at h⟩,fun _=>⟨⟨g,0,none⟩,vss,rfl,?_,rfl,h2,cur,L.T,(0,0),by simp [DC],?_⟩⟩
   ·intro k o hk;dsimp only;rw [if_neg]
    ·exact hk
    ·rintro rfl;rw [hg.2] at hk;simp at hk
   ·intro k o hk;dsimp only at hk;split at hk
    ·rename_i e;subst e;simp at hk;subst hk;exact e3
    ·exact hS.hle k o hk
   ·intro k hk hb;dsimp only;rw [if_neg];rintro rfl;rcases hg.1 with h | h
    ·omega
    ·exact hb h
   ·intro k hk;dsimp only;rw [if_neg];rintro rfl;exact hk (by rw [e1];rfl)
   ·refine il (H:=M.H) ?_ h1;intro k o hk;show (if k=g then some (Obj.cells cur L.T (0,0)) else M.H k)=some o;rw [if_neg]
    ·exact hk
    ·intro ek;rw [ek,hg.2] at hk;simp at hk
   ·intro t v ht;rw [←e7] at ht;simp only [Nat.zero_add];rw [List.getElem?_take] at ht;split at ht
    ·simpa using ht
    ·simp at ht
 obtain ⟨H',k1,k2,k3,k4,k5⟩:=Af
 let M':Mem:= {M with H:=H'}
 have hle:M.le M':=⟨Nat.le_refl _,Nat.le_refl _,fun _ _=>rfl,fun _ _=>rfl,k1⟩
 have h8:∀(x:AV) v,x.is M v→(AV.subO j (.sl L.n L.rows) x).is M' v:=nK (fun x v=>Dm hle.pure x v) k1 rfl rfl (fun _ _=>rfl) (fun _ _ _=>rfl) (fun v _ hv=>by subst hv;exact Dm (OZ M') _ _ k5);have h6:∀(l:List AV) vs,AV.isL M l vs→AV.isL M' (CL j (.sl L.n L.rows) l) vs:=Ul (fun x v=>Dm hle.pure x v) k1 rfl rfl (fun _ _=>rfl) (fun _ _ _=>rfl) (fun v _ hv=>by subst hv;exact Dm (OZ M') _ _ k5);refine ⟨M',hle,⟨by simp only [St.sealS,nJ];exact E.len,fun t=>?_,E.df,?_⟩,Dm (OZ M') _ _ k5⟩
 ·simp only [St.sealS,nI];exact h8 _ _ (E.tm t)
 have liveS:∀i N,A2 (Ar S.ss j none) i=some N→i≠j∧A2 S.ss i=some N:=by
  intro i N hi;rw [Du] at hi;split at hi
  ·simp at hi
  ·rename_i e;exact ⟨fun e'=>e ⟨e',Cu hj⟩,hi⟩
 refine ⟨by simp only [St.sealS,IH];exact hS.nb,by simp only [St.sealS,Dd];exact hS.ns,hS.so,hS.os,hS.tape,hS.output,hS.size,hS.block,k2,fun k hk hb=>(k3 k hk hb).trans (hS.hold k hk hb),?_,?_,?_,?_,?_,hS.pin.le hle⟩
 ·intro i B hi;obtain ⟨C,hC,rfl⟩:=Fa _ _ _ _ hi;obtain ⟨g1,g2,vs,g3,g4,g5⟩:=hS.blk i C hC;exact ⟨g1,(k4 _ (hS.d2 i j C L hC hj)).trans g2,vs,h6 _ _ g3,g4,g5⟩
 ·intro i N hi;obtain ⟨hne,hi⟩:=liveS i N hi;obtain ⟨q0,us,q1,q2,q3,q4⟩:=hS.slc i N hi;refine ⟨q0,us,EG hle.sl _ _ _ q1,q2,q3,fun g hg=>⟨(q4 g hg).1,(k4 g (fun e=>hne (hS.d3 i j N L g hi hj hg e))).trans (q4 g hg).2⟩⟩
 ·intro i t B C hi ht e;obtain ⟨B',hB,_⟩:=Fa _ _ _ _ hi;obtain ⟨C',hC,_⟩:=Fa _ _ _ _ ht;exact hS.d1 i t B' C' hB hC e
 ·intro i t B N hi ht;obtain ⟨B',hB,_⟩:=Fa _ _ _ _ hi;exact hS.d2 i t B' N hB (liveS t N ht).2
 ·intro i t N O g hi ht e1 e2;exact hS.d3 i t N O g (liveS i N hi).2 (liveS t O ht).2 e1 e2
theorem pN (j:Nat) {L:Sl} (hj:A2 S.ss j=some L) (h:V c fn K k (S.sealS j L)) (hpr:C1 L.rows=true:=by first | rfl | simp [go_sem]):V c fn K k S:=by intro rk M a w hc hT;obtain ⟨M',_,h1,_⟩:=Z2 j hj hpr hT;exact h rk M' a w hc h1
theorem mP (j:Nat) {B:Blk} (hj:A2 S.bs j=some B) (hp:AD B.cells=true) (E:RelT c M S a w):∃M',M.le M'∧RelT c M' (S.sealB j B.cells) a w:=by
 have hS:=E.st;obtain ⟨m1,m2,vs,m3,m4,m5⟩:=hS.blk j B hj
 let H':Frag:=fun k=>if k=M.ρ j then some (.cells vs.toArray B.T (0,0)) else M.H k
 let M':Mem:= {M with H:=H'}
 have k1:∀k o,M.H k=some o→H' k=some o:=by
  intro k o hk;show (if k=M.ρ j then _ else _)=_;rw [if_neg]
  ·exact hk
  ·rintro rfl;rw [m2] at hk;simp at hk
 have k4:∀g,g≠M.ρ j→H' g=M.H g:=fun g hg=>if_neg hg;have hle:M.le M':=⟨Nat.le_refl _,Nat.le_refl _,fun _ _=>rfl,fun _ _=>rfl,k1⟩
 have hr:∀o v,j<M.nb→v = .pointer (some ⟨M.ρ j,o,none⟩)→AV.is M' (.elt B.cells o) v:=by rintro o v _ rfl;refine ⟨⟨M.ρ j,0,none⟩,vs,by simp,E0 hle.pure _ _ (Fd _ _ m3 hp),rfl,m5,vs.toArray,B.T,(0,0),if_pos rfl,fun k v hk=>by simpa using hk⟩
 have h8:=fun x v=>nH (cells:=B.cells) hle hr x v;have h6:=fun l vs=>Uk (cells:=B.cells) hle hr l vs;refine ⟨M',hle,by simp only [St.sealB,nG];exact E.len,fun t=>?_,E.df,?_⟩
 ·simp only [St.sealB,nF];exact h8 _ _ (E.tm t)
 have live:∀i C,A2 (Ar (Cn (FI j B.cells) S.bs) j none) i=some C→i≠j∧∃D,A2 S.bs i=some D∧C=⟨D.T,FI j B.cells D.cells⟩:=by
  intro i C hi;rw [Du] at hi;split at hi
  ·simp at hi
  ·rename_i e;exact ⟨fun e'=>e ⟨e',by rw [IH];exact Cu hj⟩,Fa _ _ _ _ hi⟩
 refine ⟨by simp only [St.sealB,Dd,IH];exact hS.nb,hS.ns,hS.so,hS.os,hS.tape,hS.output,hS.size,hS.block,?_,?_,?_,?_,?_,?_,hS.d3,hS.pin.le hle⟩
 ·intro k o hk;show w.heap[k]?=some o;have hk':(if k=M.ρ j then some (.cells vs.toArray B.T (0,0)) else M.H k)=some o:=hk;split at hk'
  ·rename_i e;subst e;simp at hk';subst hk';exact m4
  ·exact hS.hle k o hk'
 ·intro k hk hb;rw [show M'.H k=M.H k from k4 k (by rintro rfl;rcases m1 with h | h;omega;exact hb h)];exact hS.hold k hk hb
 ·intro i C hi;obtain ⟨hne,D,hD,rfl⟩:=live i C hi;obtain ⟨g1,g2,us,g3,g4,g5⟩:=hS.blk i D hD;exact ⟨g1,(k4 _ (fun e=>hne (hS.d1 i j D B hD hj e))).trans g2,us,h6 _ _ g3,g4,g5⟩
 ·intro i N hi;obtain ⟨q0,us,q1,q2,q3,q4⟩:=hS.slc i N hi;exact ⟨q0,us,EG hle.sl _ _ _ q1,q2,q3,fun g hg=>⟨(q4 g hg).1,(k4 g (fun e=>hS.d2 j i B N hj hi (by rw [hg,e]))).trans (q4 g hg).2⟩⟩
 ·intro i t C D hi ht e;obtain ⟨_,C',hC,_⟩:=live i C hi;obtain ⟨_,D',hD,_⟩:=live t D ht;exact hS.d1 i t C' D' hC hD e
 ·intro i t C N hi ht;obtain ⟨_,C',hC,_⟩:=live i C hi;exact hS.d2 i t C' N hC ht
theorem H3 (j:Nat) {B:Blk} (hj:A2 S.bs j=some B) (hp:AD B.cells=true) (h:V c fn K k (S.sealB j B.cells)):V c fn K k S:=by intro rk M a w hc hT;obtain ⟨M',_,h1⟩:=mP j hj hp hT;exact h rk M' a w hc h1
end
end NX
end Go.Proofs.YtjemlejoladlcaaGreat
