/-
  The symbolic machine: sealing, and what grows. No statement of the seat is proved here.
-/
import Derived.Test.YtgamgemlekpepaaGreatK5
namespace Go.Proofs.YtgamgemlekpepaaGreat
namespace NX
open Go Go.RowKit
theorem Zn7 {H J:Frag} (h:∀k o,H k=some o→J k=some o):(Z2 H).le (Z2 J):=⟨Nat.le_refl _,Nat.le_refl _,fun _ _=>rfl,fun _ _=>rfl,h⟩
theorem Zo7 {H J:Frag} {n:Nat} {rows:List (List AV)} {vss:List (List Value)} (h:∀k o,H k=some o→J k=some o) (k:AV.isLL (Z2 H) n rows vss):AV.isLL (Z2 J) n rows vss:=Zp2 (Zn7 h) _ _ _ k
mutual
theorem Zp7 {M M':Mem} {j:Nat} {r:AV} (hM:∀(x:AV) v,x.is M.pure v→x.is M'.pure v) (hH:∀k o,M.H k=some o→M'.H k=some o) (hb:M'.nb=M.nb) (hs:M'.ns=M.ns) (hρ:∀i,i<M.nb→M'.ρ i=M.ρ i) (hσ:∀i,i<M.ns→i≠j→M'.σ i=M.σ i)
  (hr:∀v,j<M.ns→v=M.σ j→r.is M' v):∀(x:AV) (v:Value),x.is M v→(AV.subO j r x).is M' v
 | .any,_,_=>trivial
 | .un,_,k=>k
 | .tt,_,k=>k
 | .ff,_,k=>k
 | .bv _,_,k=>k
 | .iv _,_,k=>k
 | .kv _ _,_,k=>k
 | .sv _,_,k=>k
 | .nl,_,k=>k
 | .nlp,_,k=>k
 | .fn _,_,k=>k
 | .ptr i o,_,k=>⟨by rw [hb];exact k.1,by rw [hρ i k.1];exact k.2⟩
 | .osl i,v,k=>by
   simp only [AV.subO];split
   ·rename_i h;rw [beq_iff_eq] at h;subst h;exact hr v k.1 k.2
   ·rename_i h;have:i≠j:=fun e=>by rw [beq_iff_eq.2 e] at h;simp at h
    exact ⟨by rw [hs];exact k.1,by rw [hσ i k.1 this];exact k.2⟩
 | .oel i a b,v,k=>by
   simp only [AV.subO];split
   ·trivial
   ·rename_i h;have:i≠j:=fun e=>by rw [beq_iff_eq.2 e] at h;simp at h
    exact ⟨by rw [hs];exact k.1,by rw [hσ i k.1 this];exact k.2⟩
 | .ocs i a n b,v,k=>by
   simp only [AV.subO];split
   ·trivial
   ·rename_i h;have:i≠j:=fun e=>by rw [beq_iff_eq.2 e] at h;simp at h
    exact ⟨by rw [hs];exact k.1,by rw [hσ i k.1 this];exact k.2⟩
 | .elt row o,_,⟨a,vs,h1,h2,h3⟩=>⟨a,vs,h1,by obtain ⟨us,e1,e2⟩:=hM (.agg row) (.agg vs.toArray) ⟨vs,rfl,h2⟩;simp at e1;subst e1;exact e2,h3.mono hH⟩
 | .sl n rows,v,k=>hM (.sl n rows) v k
 | .agg l,_,⟨vs,h1,h2⟩=>⟨vs,h1,Zq7 hM hH hb hs hρ hσ hr l vs h2⟩
 | .tup l,_,⟨vs,h1,h2⟩=>⟨vs,h1,Zq7 hM hH hb hs hρ hσ hr l vs h2⟩
 | .clo _ l,_,⟨vs,h1,h2⟩=>⟨vs,h1,Zq7 hM hH hb hs hρ hσ hr l vs h2⟩
theorem Zq7 {M M':Mem} {j:Nat} {r:AV} (hM:∀(x:AV) v,x.is M.pure v→x.is M'.pure v) (hH:∀k o,M.H k=some o→M'.H k=some o) (hb:M'.nb=M.nb) (hs:M'.ns=M.ns) (hρ:∀i,i<M.nb→M'.ρ i=M.ρ i) (hσ:∀i,i<M.ns→i≠j→M'.σ i=M.σ i)
  (hr:∀v,j<M.ns→v=M.σ j→r.is M' v):∀(l:List AV) (vs:List Value),AV.isL M l vs→AV.isL M' (Zl1 j r l) vs
 | [],_,k=>k
 | x::l,_,⟨v,vs,h1,h2,h3⟩=>⟨v,vs,h1,Zp7 hM hH hb hs hρ hσ hr x v h2,Zq7 hM hH hb hs hρ hσ hr l vs h3⟩
end
mutual
theorem Zr7 {M M':Mem} {j:Nat} {cells:List AV} (hl:M.le M') (hr:∀o v,j<M.nb→v = .pointer (some ⟨M.ρ j,o,none⟩)→AV.is M' (.elt cells o) v):∀(x:AV) (v:Value),x.is M v→(x.subB j cells).is M' v
 | .any,_,_=>trivial
 | .un,_,k=>k
 | .tt,_,k=>k
 | .ff,_,k=>k
 | .bv _,_,k=>k
 | .iv _,_,k=>k
 | .kv _ _,_,k=>k
 | .sv _,_,k=>k
 | .nl,_,k=>k
 | .nlp,_,k=>k
 | .fn _,_,k=>k
 | .ptr i o,v,k=>by
   simp only [AV.subB];split
   ·rename_i h;rw [beq_iff_eq] at h;subst h;exact hr o v k.1 k.2
   ·exact Zn2 hl _ _ k
 | .osl i,v,k=>Zn2 hl (.osl i) v k
 | .oel i a b,v,k=>Zn2 hl (.oel i a b) v k
 | .ocs i a n b,v,k=>Zn2 hl (.ocs i a n b) v k
 | .elt row o,v,k=>Zn2 hl (.elt row o) v k
 | .sl n rows,v,k=>Zn2 hl (.sl n rows) v k
 | .agg l,_,⟨vs,h1,h2⟩=>⟨vs,h1,Zs7 hl hr l vs h2⟩
 | .tup l,_,⟨vs,h1,h2⟩=>⟨vs,h1,Zs7 hl hr l vs h2⟩
 | .clo _ l,_,⟨vs,h1,h2⟩=>⟨vs,h1,Zs7 hl hr l vs h2⟩
theorem Zs7 {M M':Mem} {j:Nat} {cells:List AV} (hl:M.le M') (hr:∀o v,j<M.nb→v = .pointer (some ⟨M.ρ j,o,none⟩)→AV.is M' (.elt cells o) v):∀(l:List AV) (vs:List Value),AV.isL M l vs→AV.isL M' (Zm1 j cells l) vs
 | [],_,k=>k
 | x::l,_,⟨v,vs,h1,h2,h3⟩=>⟨v,vs,h1,Zr7 hl hr x v h2,Zs7 hl hr l vs h3⟩
end
theorem Zt7 (j:Nat) (r:AV):∀(l:List AV) (t:Nat),Zn (Zl1 j r l) t=AV.subO j r (Zn l t)
 | [],_=>rfl
 | _::_,0=>rfl
 | _::l,t+1=>Zt7 j r l t
theorem Zu7 (j:Nat) (r:List AV):∀(l:List AV) (t:Nat),Zn (Zm1 j r l) t=(Zn l t).subB j r
 | [],_=>rfl
 | _::_,0=>rfl
 | _::l,t+1=>Zu7 j r l t
theorem Zv7 (j:Nat) (r:AV):∀(l:List AV),(Zl1 j r l).length=l.length
 | []=>rfl
 | _::l=>by simp [Zl1,Zv7 j r l]
theorem Zw7 (j:Nat) (r:List AV):∀(l:List AV),(Zm1 j r l).length=l.length
 | []=>rfl
 | _::l=>by simp [Zm1,Zw7 j r l]
theorem Zx7 (f:List AV→List AV):∀l,(Zo1 f l).length=l.length
 | []=>rfl
 | none::l=>by simp [Zo1,Zx7 f l]
 | some _::l=>by simp [Zo1,Zx7 f l]
theorem Zy7 (f:List AV→List AV):∀(l:List (Option Blk)) (j:Nat) (B:Blk),Zp (Zo1 f l) j=some B→∃C,Zp l j=some C∧B=⟨C.T,f C.cells⟩
 | [],j,B,h=>by simp [Zo1,Zp] at h
 | none::l,0,B,h=>by simp [Zo1,Zp] at h
 | some C::l,0,B,h=>by simp [Zo1,Zp] at h;exact ⟨C,rfl,h.symm⟩
 | none::l,j+1,B,h=>Zy7 f l j B (by simpa [Zo1,Zp] using h)
 | some _::l,j+1,B,h=>Zy7 f l j B (by simpa [Zo1,Zp] using h)
section
variable {c:Ctx} {M:Mem} {S S':St} {a:Act} {w:World} {fn:Func} {K:AV→List (Option Blk)→List (Option Sl)→Prop} {k:List It}
theorem Zz7 {M:Mem} {n:Nat}:∀(rows:List (List AV)) (vss:List (List Value)),AV.isLL M.sl n rows vss→Zj1 rows=true→AV.isLL M.pure n rows vss
 | [],_,h,_=>h
 | r::l,_,⟨v,q,h0,h1,h2,h3⟩,hp=>by simp only [Zj1,Zz1] at hp;exact ⟨v,q,h0,h1,Zu2 (M:=M.sl) _ _ h2 hp.1,Zz7 l q h3 hp.2⟩
@[go_sem] theorem Z08 {α:Type} {f:α→List AV} (h:∀x,puL (f x)=true):∀l:List α,Zj1 (l.map f)=true
  | []=>rfl
  | x::l=>by simp only [List.map_cons,Zj1,Zz1];exact ⟨h x,Z08 h l⟩
@[go_sem] theorem Z18 {α:Type} {ns:Nat} {f:α→List AV} (h:∀x,okL 0 ns (f x)=true):∀l:List α,Zh1 ns (l.map f)=true
  | []=>rfl
  | x::l=>by simp only [List.map_cons,Zh1,Zz1];exact ⟨h x,Z18 h l⟩
theorem Z28 {z:List AV} (h:puL z=true):∀n,Zj1 (List.replicate n z)=true
 | 0=>rfl
 | n+1=>by simp only [List.replicate_succ,Zj1,Zz1];exact ⟨h,Z28 h n⟩
theorem Z38 {ns:Nat} {z:List AV} (h:okL 0 ns z=true):∀n,Zh1 ns (List.replicate n z)=true
 | 0=>rfl
 | n+1=>by simp only [List.replicate_succ,Zh1,Zz1];exact ⟨h,Z38 h n⟩
theorem Z48 {ns:Nat} {r:List AV} (hr:okL 0 ns r=true):∀ {l:List (List AV)} {i:Nat},Zh1 ns l=true→Zh1 ns (l.set i r)=true
 | [],_,_=>rfl
 | x::l,0,h=>by simp only [Zh1,Zz1] at h;simp only [List.set_cons_zero,Zh1,Zz1];exact ⟨hr,h.2⟩
 | x::l,i+1,h=>by simp only [Zh1,Zz1] at h;simp only [List.set_cons_succ,Zh1,Zz1];exact ⟨h.1,Z48 hr h.2⟩
theorem Z58 {r:List AV} (hr:puL r=true):∀ {l:List (List AV)} {i:Nat},Zj1 l=true→Zj1 (l.set i r)=true
 | [],_,_=>rfl
 | x::l,0,h=>by simp only [Zj1,Zz1] at h;simp only [List.set_cons_zero,Zj1,Zz1];exact ⟨hr,h.2⟩
 | x::l,i+1,h=>by simp only [Zj1,Zz1] at h;simp only [List.set_cons_succ,Zj1,Zz1];exact ⟨h.1,Z58 hr h.2⟩
@[go_sem] theorem Z68 {ns:Nat} {r:List AV} {l:List (List AV)} {i:Nat} (h:Z4 (Zh1 ns l) (okL 0 ns r)=true):Zh1 ns (l.set i r)=true:=by rw [Zz1] at h;exact Z48 h.2 h.1
@[go_sem] theorem Z78 {r:List AV} {l:List (List AV)} {i:Nat} (h:Z4 (Zj1 l) (puL r)=true):Zj1 (l.set i r)=true:=by rw [Zz1] at h;exact Z58 h.2 h.1
@[go_sem] theorem Z88 {z:List AV} {n:Nat} (h:∀_:Nat,puL z=true):Zj1 (List.replicate n z)=true:=Z28 (h 0) n
@[go_sem] theorem Z98 {ns:Nat} {z:List AV} {n:Nat} (h:∀_:Nat,okL 0 ns z=true):Zh1 ns (List.replicate n z)=true:=Z38 (h 0) n
@[go_sem] theorem Za8:∀a b:List (List AV),Zj1 (a++b)=Z4 (Zj1 a) (Zj1 b)
  | [],b=>rfl
  | x::a,b=>by have:=Za8 a b;simp only [List.cons_append,Zj1,this];cases puL x<;>rfl
theorem Zb8:∀ {l:List (Option Sl)} {j:Nat} {L:Sl},Zk1 l=true→Zp l j=some L→Zj1 L.rows=true
 | [],_,_,_,h=>by simp [Zp] at h
 | none::l,0,_,_,h=>by simp [Zp] at h
 | none::l,j+1,_,h,hj=>Zb8 (l:=l) (j:=j) (by simpa [Zk1] using h) (by simpa [Zp] using hj)
 | some N::l,0,_,h,hj=>by simp only [Zk1,Zz1] at h;simp only [Zp,Option.some.injEq] at hj;subst hj;exact h.1
 | some N::l,j+1,_,h,hj=>by simp only [Zk1,Zz1] at h;exact Zb8 (l:=l) (j:=j) h.2 (by simpa [Zp] using hj)
theorem Zc8 (j:Nat) {L:Sl} (hj:Zp S.ss j=some L) (h9:Zj1 L.rows=true) (J:RelT c M S a w):∃M',M.le M'∧RelT c M' (S.sealS j L) a w∧AV.is M' (.sl L.n L.rows) (M.σ j):=by
 have hS:=J.st;obtain ⟨h0,vss,h1,h2,h3,h4⟩:=hS.slc j L hj;have h1:AV.isLL M.pure L.n L.rows vss:=Zz7 _ _ h1 h9;have hc:j<M.ns:=by rw [hS.ns];exact Z82 hj
 have key:∃H':Frag,(∀k o,M.H k=some o→H' k=some o)∧(∀k o,H' k=some o→w.heap[k]?=some o)∧(∀k,k<c.w0.heap.size→¬c.bor k→H' k=M.H k)∧
   (∀g,(M.σ j).ownBlock≠some g→H' g=M.H g)∧AV.is (Z2 H') (.sl L.n L.rows) (M.σ j):=by
  rcases h3.2 with ⟨e1,e2⟩ | ⟨g,cp,cur,e1,_,e3,e4,e5,e6,e7⟩
  ·refine ⟨M.H,fun _ _ h=>h,hS.hle,fun _ _ _=>rfl,fun _ _=>rfl,none,0,?_,⟨by omega,fun _=>rfl⟩,fun hne=>?_⟩
   ·rw [e1,e2]
   ·exact absurd (List.length_eq_zero_iff.1 e2) hne
  ·have hg:=h4 g (by rw [e1];rfl);refine ⟨fun k=>if k=g then some (.cells cur L.T (0,0)) else M.H k,?_,?_,?_,?_,some ⟨g,0,none⟩,cp,e1,⟨e4,fun h=>by simp at h⟩,fun _=>⟨⟨g,0,none⟩,vss,rfl,?_,rfl,h2,cur,L.T,(0,0),by simp [Z2],?_⟩⟩
   ·intro k o hk;dsimp only;rw [if_neg]
    ·exact hk
    ·rintro rfl;rw [hg.2] at hk;simp at hk
   ·intro k o hk;dsimp only at hk;split at hk
    ·rename_i e;subst e;simp at hk;subst hk;exact e3
    ·exact hS.hle k o hk
   ·intro k hk hb;dsimp only;rw [if_neg];rintro rfl;rcases hg.1 with h | h
    ·omega
    ·exact hb h
   ·intro k hk;dsimp only;rw [if_neg];rintro rfl;exact hk (by rw [e1];rfl)
   ·refine Zo7 (H:=M.H) ?_ h1;intro k o hk;show (if k=g then some (Obj.cells cur L.T (0,0)) else M.H k)=some o;rw [if_neg]
    ·exact hk
    ·intro ek;rw [ek,hg.2] at hk;simp at hk
   ·intro t v ht;rw [←e7] at ht;simp only [Nat.zero_add];rw [List.getElem?_take] at ht;split at ht
    ·simpa using ht
    ·simp at ht
 obtain ⟨H',k1,k2,k3,k4,k5⟩:=key
 let M':Mem:= {M with H:=H'}
 have hle:M.le M':=⟨Nat.le_refl _,Nat.le_refl _,fun _ _=>rfl,fun _ _=>rfl,k1⟩
 have h8:∀(x:AV) v,x.is M v→(AV.subO j (.sl L.n L.rows) x).is M' v:=Zp7 (fun x v=>Zn2 hle.pure x v) k1 rfl rfl (fun _ _=>rfl) (fun _ _ _=>rfl) (fun v _ hv=>by subst hv;exact Zn2 (Zm2 M') _ _ k5);have h6:∀(l:List AV) vs,AV.isL M l vs→AV.isL M' (Zl1 j (.sl L.n L.rows) l) vs:=Zq7 (fun x v=>Zn2 hle.pure x v) k1 rfl rfl (fun _ _=>rfl) (fun _ _ _=>rfl) (fun v _ hv=>by subst hv;exact Zn2 (Zm2 M') _ _ k5);refine ⟨M',hle,⟨by simp only [St.sealS,Zv7];exact J.len,fun t=>?_,J.df,?_⟩,Zn2 (Zm2 M') _ _ k5⟩
 ·simp only [St.sealS,Zt7];exact h8 _ _ (J.tm t)
 have liveS:∀i N,Zp (Zq S.ss j none) i=some N→i≠j∧Zp S.ss i=some N:=by
  intro i N hi;rw [Z62] at hi;split at hi
  ·simp at hi
  ·rename_i e;exact ⟨fun e'=>e ⟨e',Z82 hj⟩,hi⟩
 refine ⟨by simp only [St.sealS,Zx7];exact hS.nb,by simp only [St.sealS,Z72];exact hS.ns,hS.so,hS.os,hS.tape,hS.output,hS.size,hS.block,k2,fun k hk hb=>(k3 k hk hb).trans (hS.hold k hk hb),?_,?_,?_,?_,?_,hS.pin.le hle⟩
 ·intro i B hi;obtain ⟨C,hC,rfl⟩:=Zy7 _ _ _ _ hi;obtain ⟨g1,g2,vs,g3,g4,g5⟩:=hS.blk i C hC;exact ⟨g1,(k4 _ (hS.d2 i j C L hC hj)).trans g2,vs,h6 _ _ g3,g4,g5⟩
 ·intro i N hi;obtain ⟨hne,hi⟩:=liveS i N hi;obtain ⟨q0,us,q1,q2,q3,q4⟩:=hS.slc i N hi;refine ⟨q0,us,Zp2 hle.sl _ _ _ q1,q2,q3,fun g hg=>⟨(q4 g hg).1,(k4 g (fun e=>hne (hS.d3 i j N L g hi hj hg e))).trans (q4 g hg).2⟩⟩
 ·intro i t B C hi ht e;obtain ⟨B',hB,_⟩:=Zy7 _ _ _ _ hi;obtain ⟨C',hC,_⟩:=Zy7 _ _ _ _ ht;exact hS.d1 i t B' C' hB hC e
 ·intro i t B N hi ht;obtain ⟨B',hB,_⟩:=Zy7 _ _ _ _ hi;exact hS.d2 i t B' N hB (liveS t N ht).2
 ·intro i t N O g hi ht e1 e2;exact hS.d3 i t N O g (liveS i N hi).2 (liveS t O ht).2 e1 e2
theorem Zd8 (j:Nat) {L:Sl} (hj:Zp S.ss j=some L) (h:V c fn K k (S.sealS j L)) (h6:Zj1 L.rows=true:=by first | rfl | simp [go_sem]):V c fn K k S:=by intro rk M a w hc hT;obtain ⟨M',_,h1,_⟩:=Zc8 j hj h6 hT;exact h rk M' a w hc h1
theorem Ze8 (j:Nat) {B:Blk} (hj:Zp S.bs j=some B) (hp:puL B.cells=true) (J:RelT c M S a w):∃M',M.le M'∧RelT c M' (S.sealB j B.cells) a w:=by
 have hS:=J.st;obtain ⟨m1,m2,vs,m3,m4,m5⟩:=hS.blk j B hj
 let H':Frag:=fun k=>if k=M.ρ j then some (.cells vs.toArray B.T (0,0)) else M.H k
 let M':Mem:= {M with H:=H'}
 have k1:∀k o,M.H k=some o→H' k=some o:=by
  intro k o hk;show (if k=M.ρ j then _ else _)=_;rw [if_neg]
  ·exact hk
  ·rintro rfl;rw [m2] at hk;simp at hk
 have k4:∀g,g≠M.ρ j→H' g=M.H g:=fun g hg=>if_neg hg;have hle:M.le M':=⟨Nat.le_refl _,Nat.le_refl _,fun _ _=>rfl,fun _ _=>rfl,k1⟩
 have hr:∀o v,j<M.nb→v = .pointer (some ⟨M.ρ j,o,none⟩)→AV.is M' (.elt B.cells o) v:=by rintro o v _ rfl;refine ⟨⟨M.ρ j,0,none⟩,vs,by simp,Zo2 hle.pure _ _ (Zu2 _ _ m3 hp),rfl,m5,vs.toArray,B.T,(0,0),if_pos rfl,fun k v hk=>by simpa using hk⟩
 have h8:=fun x v=>Zr7 (cells:=B.cells) hle hr x v;have h6:=fun l vs=>Zs7 (cells:=B.cells) hle hr l vs;refine ⟨M',hle,by simp only [St.sealB,Zw7];exact J.len,fun t=>?_,J.df,?_⟩
 ·simp only [St.sealB,Zu7];exact h8 _ _ (J.tm t)
 have live:∀i C,Zp (Zq (Zo1 (Zm1 j B.cells) S.bs) j none) i=some C→i≠j∧∃D,Zp S.bs i=some D∧C=⟨D.T,Zm1 j B.cells D.cells⟩:=by
  intro i C hi;rw [Z62] at hi;split at hi
  ·simp at hi
  ·rename_i e;exact ⟨fun e'=>e ⟨e',by rw [Zx7];exact Z82 hj⟩,Zy7 _ _ _ _ hi⟩
 refine ⟨by simp only [St.sealB,Z72,Zx7];exact hS.nb,hS.ns,hS.so,hS.os,hS.tape,hS.output,hS.size,hS.block,?_,?_,?_,?_,?_,?_,hS.d3,hS.pin.le hle⟩
 ·intro k o hk;show w.heap[k]?=some o;have hk':(if k=M.ρ j then some (.cells vs.toArray B.T (0,0)) else M.H k)=some o:=hk;split at hk'
  ·rename_i e;subst e;simp at hk';subst hk';exact m4
  ·exact hS.hle k o hk'
 ·intro k hk hb;rw [show M'.H k=M.H k from k4 k (by rintro rfl;rcases m1 with h | h;omega;exact hb h)];exact hS.hold k hk hb
 ·intro i C hi;obtain ⟨hne,D,hD,rfl⟩:=live i C hi;obtain ⟨g1,g2,us,g3,g4,g5⟩:=hS.blk i D hD;exact ⟨g1,(k4 _ (fun e=>hne (hS.d1 i j D B hD hj e))).trans g2,us,h6 _ _ g3,g4,g5⟩
 ·intro i N hi;obtain ⟨q0,us,q1,q2,q3,q4⟩:=hS.slc i N hi;exact ⟨q0,us,Zp2 hle.sl _ _ _ q1,q2,q3,fun g hg=>⟨(q4 g hg).1,(k4 g (fun e=>hS.d2 j i B N hj hi (by rw [hg,e]))).trans (q4 g hg).2⟩⟩
 ·intro i t C D hi ht e;obtain ⟨_,C',hC,_⟩:=live i C hi;obtain ⟨_,D',hD,_⟩:=live t D ht;exact hS.d1 i t C' D' hC hD e
 ·intro i t C N hi ht;obtain ⟨_,C',hC,_⟩:=live i C hi;exact hS.d2 i t C' N hC ht
theorem Zf8 (j:Nat) {B:Blk} (hj:Zp S.bs j=some B) (hp:puL B.cells=true) (h:V c fn K k (S.sealB j B.cells)):V c fn K k S:=by intro rk M a w hc hT;obtain ⟨M',_,h1⟩:=Ze8 j hj hp hT;exact h rk M' a w hc h1
end
end NX
end Go.Proofs.YtgamgemlekpepaaGreat
