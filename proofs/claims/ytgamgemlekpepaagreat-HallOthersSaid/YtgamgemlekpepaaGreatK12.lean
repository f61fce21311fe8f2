/-
  The symbolic machine: calls that write into the caller's own memory; slices made, own slices cut. No statement of the seat is proved here.
-/
import Derived.Test.YtgamgemlekpepaaGreatK11
namespace Go.Proofs.YtgamgemlekpepaaGreat
namespace NX
open Go Go.RowKit
def msk {α:Type}:List Bool→List (Option α)→List (Option α)
 | _,[]=>[]
 | [],_::l=>none::msk [] l
 | true::m,x::l=>x::msk m l
 | false::m,_::l=>none::msk m l
def mrg {α:Type}:List Bool→List (Option α)→List (Option α)→List (Option α)
 | _,[],r=>r
 | _,_::_,[]=>[]
 | [],x::l,_::r=>x::mrg [] l r
 | true::m,_::l,y::r=>y::mrg m l r
 | false::m,x::l,_::r=>x::mrg m l r
def mb:List Bool→Nat→Bool
 | [],_=>false
 | b::_,0=>b
 | _::m,j+1=>mb m j
attribute [go_sem] msk mrg
theorem Zwe {α:Type}:∀(m:List Bool) (l:List (Option α)),(msk m l).length=l.length
 | _,[]=>by cases ‹List Bool› <;>rfl
 | [],_::l=>by simp [msk,Zwe [] l]
 | true::m,x::l=>by simp [msk,Zwe m l]
 | false::m,_::l=>by simp [msk,Zwe m l]
theorem Zxe {α:Type}:∀ {m:List Bool} {l:List (Option α)} {j:Nat} {B:α},Zp (msk m l) j=some B↔mb m j=true∧Zp l j=some B
 | m,[],j,B=>by cases m<;>simp [msk,Zp]
 | [],x::l,0,B=>by simp [msk,Zp,mb]
 | [],x::l,j+1,B=>by simp [msk,Zp,mb,Zxe (m:=[]) (l:=l) (j:=j)]
 | true::m,x::l,0,B=>by simp [msk,Zp,mb]
 | true::m,x::l,j+1,B=>by simp [msk,Zp,mb,Zxe (m:=m) (l:=l) (j:=j)]
 | false::m,x::l,0,B=>by simp [msk,Zp,mb]
 | false::m,x::l,j+1,B=>by simp [msk,Zp,mb,Zxe (m:=m) (l:=l) (j:=j)]
theorem Zye {α:Type}:∀(m:List Bool) (l r:List (Option α)),l.length≤r.length→(mrg m l r).length=r.length
 | m,[],r,_=>by cases m<;>rfl
 | m,_::_,[],h=>by simp at h
 | [],x::l,_::r,h=>by simp [mrg,Zye [] l r (by simpa using h)]
 | true::m,_::l,y::r,h=>by simp [mrg,Zye m l r (by simpa using h)]
 | false::m,x::l,_::r,h=>by simp [mrg,Zye m l r (by simpa using h)]
theorem Zze {α:Type}:∀ {m:List Bool} {l r:List (Option α)} {j:Nat} {B:α},l.length≤r.length→Zp (mrg m l r) j=some B→
  (j<l.length∧mb m j=false∧Zp l j=some B)∨((l.length≤j∨mb m j=true)∧Zp r j=some B)
 | m,[],r,j,B,_,h=>.inr ⟨.inl (Nat.zero_le _),by cases m<;>exact h⟩
 | m,_::_,[],j,B,hl,h=>by simp at hl
 | [],x::l,y::r,0,B,hl,h=>.inl ⟨by simp,rfl,h⟩
 | [],x::l,y::r,j+1,B,hl,h=>by
   rcases Zze (m:=[]) (l:=l) (r:=r) (j:=j) (by simpa using hl) h with ⟨h1,_,h3⟩ | ⟨h1,h2⟩
   ·exact .inl ⟨by simpa using h1,rfl,h3⟩
   ·exact .inr ⟨by rcases h1 with h1 | h1;exact .inl (by simpa using h1);simp [mb] at h1,h2⟩
 | true::m,x::l,y::r,0,B,hl,h=>.inr ⟨.inr rfl,h⟩
 | true::m,x::l,y::r,j+1,B,hl,h=>by
   rcases Zze (m:=m) (l:=l) (r:=r) (j:=j) (by simpa using hl) h with ⟨h1,h2,h3⟩ | ⟨h1,h2⟩
   ·exact .inl ⟨by simpa using h1,h2,h3⟩
   ·exact .inr ⟨by rcases h1 with h1 | h1;exact .inl (by simpa using h1);exact .inr h1,h2⟩
 | false::m,x::l,y::r,0,B,hl,h=>.inl ⟨by simp,rfl,h⟩
 | false::m,x::l,y::r,j+1,B,hl,h=>by
   rcases Zze (m:=m) (l:=l) (r:=r) (j:=j) (by simpa using hl) h with ⟨h1,h2,h3⟩ | ⟨h1,h2⟩
   ·exact .inl ⟨by simpa using h1,h2,h3⟩
   ·exact .inr ⟨by rcases h1 with h1 | h1;exact .inl (by simpa using h1);exact .inr h1,h2⟩
def Z0f (M:Mem) (bs:List (Option Blk)) (ss:List (Option Sl)) (k:Nat):Prop:=(∃j B,Zp bs j=some B∧M.ρ j=k)∨∃j L,Zp ss j=some L∧(M.σ j).ownBlock=some k
def Ctx.lent (P:Program) (w:World) (M:Mem) (bs:List (Option Blk)) (ss:List (Option Sl)) (np nq:Nat):Ctx:=⟨P,w,M.H,Z0f M bs ss,np,M.ρ,nq,M.σ⟩
def Z1f (P:Program) (f:Nat) (args:List AV) (bs:List (Option Blk)) (ss:List (Option Sl)) (v:AV) (bs':List (Option Blk)) (ss':List (Option Sl)):Prop:=
 bs.length≤bs'.length∧ss.length≤ss'.length∧∀(M:Mem) (w:World) (vs:List Value),RelS (Ctx.lent P w M bs ss bs.length ss.length) M bs ss w→AV.isL M args vs→
  Calls P f vs.toArray w fun e w'=>∃u M',e = .returned u∧RelS (Ctx.lent P w M bs ss bs.length ss.length) M' bs' ss' w'∧v.is M' u
theorem Z2f {P:Program} {f:Nat} {fn:Func} {body:EC} {rs:List ERes} {np nt:Nat} (J:FnOK P f fn body rs np nt) {args:List AV} {bs bs':List (Option Blk)} {ss ss':List (Option Sl)} {v:AV} (U:args.length=np)
  (h1:Z5 (Zw bs) (Zw bs')=true) (h2:Z5 (Zw ss) (Zw ss')=true) (h3:St.ok ⟨[v],bs',ss'⟩=true)
  (h:∀w M,V (Ctx.lent P w M bs ss (Zw bs) (Zw ss)) fn (fun x b s=>St.le ⟨[x],b,s⟩ ⟨[v],bs',ss'⟩) [.code body] ⟨args++lun nt,bs,ss⟩):Z1f P f args bs ss v bs' ss':=by
 have h1':=h1;have h2':=h2;rw [Z02,Z12,Z12] at h1 h2;refine ⟨h1,h2,fun M w vs hS ha=>?_⟩;obtain ⟨x,hb,hx⟩:=J.b;have hl:=Ze2 ha;refine calls_of_wp J.h hb ?_;have e1:fn.ntmps-vs.toArray.size=nt:=by rw [J.t];simp;omega
 rw [e1];have hT:RelT (Ctx.lent P w M bs ss bs.length ss.length) M ⟨args++lun nt,bs,ss⟩ {tmps:=vs.toArray++Array.replicate nt undef,defers:=[]} w:=by
  refine ⟨by simp [Z27,hl],fun t=>?_,rfl,hS⟩;simp only [Z07,Array.getD_eq_getD_getElem?,Array.getElem?_append,List.size_toArray];by_cases h:t<args.length
  ·rw [if_pos h,if_pos (by omega)];have:=Z37 ha t h;simpa [List.getD_eq_getElem?_getD] using this
  ·rw [if_neg h,if_neg (by omega)];rcases Z17 nt (t-args.length) with h1 | ⟨_,h1⟩
   ·rw [h1];simp only [AV.is,Array.getElem?_replicate];split<;>rfl
   ·rw [h1];trivial
 have h':=h w M;rw [Z12,Z12] at h';refine wp_mono (h' [.code x] _ _ w ⟨_,_,rfl,hx,rfl⟩ hT) ?_;have mono:∀e w',RK (Ctx.lent P w M bs ss bs.length ss.length) (fun x b s=>St.le ⟨[x],b,s⟩ ⟨[v],bs',ss'⟩) e w'→∃u M',e = .returned u∧RelS (Ctx.lent P w M bs ss bs.length ss.length) M' bs' ss' w'∧v.is M' u:=by
  rintro e w' ⟨u,M1,b,s,y,rfl,h6,hv,hle⟩;have h8:RelT (Ctx.lent P w M bs ss bs.length ss.length) M1 ⟨[y],b,s⟩ {tmps:= #[u],defers:=[]} w':=
   ⟨by simp,fun t=>by cases t with
     | zero=>exact hv
     | succ t=>cases t<;>trivial,rfl,h6⟩
  have hW:=h8.weak hle h3 (by rw [Z02,Z12];exact h1) (by rw [Z02,Z12];exact h2);exact ⟨u,_,rfl,hW.st,hW.tm 0⟩
 intro e a w' hq;cases e with
 | normal=>obtain ⟨h1,v,h2,h3⟩:=hq;exact ⟨h1,v,h2,mono _ _ h3⟩
 | ret=>obtain ⟨h1,v,h2,h3⟩:=hq;exact ⟨h1,v,h2,mono _ _ h3⟩
 | panic ch=>obtain ⟨h1,h2⟩:=hq;exact ⟨h1,mono _ _ h2⟩
 | outgrown=>exact mono _ _ hq
 | exit id=>exact hq
 | goto l=>exact hq
theorem Z3f {c:Ctx} {f:Nat} {fn:Func} {body:EC} {rs:List ERes} {np nt:Nat} {k:List It} {S:St} {x v:AV} {bs':List (Option Blk)} {ss':List (Option Sl)} (ok:FnOK c.P f fn body rs np nt)
 (h:Zs1 S rs=some x) (hle:St.le ⟨[x],S.bs,S.ss⟩ ⟨[v],bs',ss'⟩):V c fn (fun x b s=>St.le ⟨[x],b,s⟩ ⟨[v],bs',ss'⟩) (.code .ret::k) S:=Zx6 ok.r h hle
theorem Z4f {c:Ctx} {f:Nat} {fn:Func} {body:EC} {rs:List ERes} {np nt:Nat} {S:St} {x v:AV} {bs':List (Option Blk)} {ss':List (Option Sl)} (ok:FnOK c.P f fn body rs np nt)
  (h:Zs1 S rs=some x) (hle:St.le ⟨[x],S.bs,S.ss⟩ ⟨[v],bs',ss'⟩):V c fn (fun x b s=>St.le ⟨[x],b,s⟩ ⟨[v],bs',ss'⟩) [] S:=by
 rintro rk M a w rfl hT;exact Zw6 hT ok.r h hle
section
variable {c:Ctx} {M:Mem} {S S':St} {a:Act} {w:World} {fn:Func} {K:AV→List (Option Blk)→List (Option Sl)→Prop} {k:List It}
theorem Z5f {w w':World} {b e J n:Nat} {v:Value} {xs:List Value} (h:w.ownsRow b e J v n xs) (hh:∀g,v.ownBlock=some g→w'.heap[g]?=w.heap[g]?):w'.ownsRow b e J v n xs:=by refine ⟨h.1,h.2.imp id ?_⟩;rintro ⟨g,cap,cur,rfl,h2,h3,h4⟩;exact ⟨g,cap,cur,rfl,h2,by rw [hh g rfl];exact h3,h4⟩
theorem Z6f (J:RelS c M S.bs S.ss w) (U Y:List Bool):RelS (Ctx.lent c.P w M (msk U S.bs) (msk Y S.ss) (msk U S.bs).length (msk Y S.ss).length) M (msk U S.bs) (msk Y S.ss) w:=by
 refine ⟨by rw [Zwe];exact J.nb,by rw [Zwe];exact J.ns,J.so,rfl,rfl,rfl,Nat.le_refl _,fun _ _ _=>rfl,J.hle,fun _ _ _=>rfl,?_,?_,?_,?_,?_,?_⟩
 ·intro j B hj;obtain ⟨g1,g2,vs,g3,g4,g5⟩:=J.blk j B (Zxe.1 hj).2;exact ⟨.inr (.inl ⟨j,B,hj,rfl⟩),g2,vs,g3,g4,g5⟩
 ·intro j L hj;obtain ⟨g0,vss,g1,g2,g3,g4⟩:=J.slc j L (Zxe.1 hj).2;exact ⟨g0,vss,g1,g2,g3,fun g hg=>⟨.inr (.inr ⟨j,L,hj,hg⟩),(g4 g hg).2⟩⟩
 ·intro i j B C hi hj e;exact J.d1 i j B C (Zxe.1 hi).2 (Zxe.1 hj).2 e
 ·intro i j B L hi hj;exact J.d2 i j B L (Zxe.1 hi).2 (Zxe.1 hj).2
 ·intro i j L N g hi hj;exact J.d3 i j L N g (Zxe.1 hi).2 (Zxe.1 hj).2
 ·exact ⟨by rw [show (Ctx.lent c.P w M (msk U S.bs) (msk Y S.ss) (msk U S.bs).length (msk Y S.ss).length).np=(msk U S.bs).length from rfl,Zwe,J.nb];exact Nat.le_refl _,fun _ _=>rfl,
   by rw [show (Ctx.lent c.P w M (msk U S.bs) (msk Y S.ss) (msk U S.bs).length (msk Y S.ss).length).nq=(msk Y S.ss).length from rfl,Zwe,J.ns];exact Nat.le_refl _,fun _ _=>rfl,J.pin.gl⟩
theorem Z7f {U Y:List Bool} {M':Mem} {w':World} {bs':List (Option Blk)} {ss':List (Option Sl)} (J:RelS c M S.bs S.ss w) (hb:(msk U S.bs).length≤bs'.length) (hs:(msk Y S.ss).length≤ss'.length)
  (h:RelS (Ctx.lent c.P w M (msk U S.bs) (msk Y S.ss) (msk U S.bs).length (msk Y S.ss).length) M' bs' ss' w'):M.le M'∧RelS c M' (mrg U S.bs bs') (mrg Y S.ss ss') w':=by
 rw [Zwe] at hb hs;have lentMine:∀g,Z0f M (msk U S.bs) (msk Y S.ss) g→Z03 c g∧M.H g=none:=by
  rintro g (⟨j,B,hj,rfl⟩ | ⟨j,L,hj,hg⟩)
  ·obtain ⟨g1,g2,_⟩:=J.blk j B (Zxe.1 hj).2;exact ⟨g1,g2⟩
  ·obtain ⟨_,_,_,_,_,g4⟩:=J.slc j L (Zxe.1 hj).2;exact g4 g hg
 have size0:=J.size;have size1:w.heap.size≤w'.heap.size:=h.size;have hρ:∀j,j<S.bs.length→M'.ρ j=M.ρ j:=fun j hj=>h.pin.ρ j (by show j<(msk U S.bs).length;rw [Zwe];exact hj);have hσ:∀j,j<S.ss.length→M'.σ j=M.σ j:=fun j hj=>h.pin.σ j (by show j<(msk Y S.ss).length;rw [Zwe];exact hj);have hH:∀k o,M.H k=some o→M'.H k=some o:=by intro k o hk;have h6:=(Array.getElem?_eq_some_iff.1 (J.hle k o hk)).1;have:=h.hold k h6 (fun hl=>by rw [(lentMine k hl).2] at hk;simp at hk);rw [this];exact hk
 have hle:M.le M':=⟨by rw [J.nb,h.nb];exact hb,by rw [J.ns,h.ns];exact hs,fun j hj=>hρ j (by rw [←J.nb];exact hj),fun j hj=>hσ j (by rw [←J.ns];exact hj),hH⟩
 have Z2e1:∀j B,Zp S.bs j=some B→mb U j=false→¬Z0f M (msk U S.bs) (msk Y S.ss) (M.ρ j):=by
  rintro j B hj hm (⟨i,C,hi,e⟩ | ⟨i,L,hi,e⟩)
  ·have:=J.d1 i j C B (Zxe.1 hi).2 hj e;subst this;rw [(Zxe.1 hi).1] at hm;simp at hm
  ·exact J.d2 j i B L hj (Zxe.1 hi).2 e
 have keepS:∀j L g,Zp S.ss j=some L→mb Y j=false→(M.σ j).ownBlock=some g→¬Z0f M (msk U S.bs) (msk Y S.ss) g:=by
  rintro j L g hj hm hg (⟨i,C,hi,e⟩ | ⟨i,N,hi,e⟩)
  ·exact J.d2 i j C L (Zxe.1 hi).2 hj (by rw [e];exact hg)
  ·have:=J.d3 i j N L g (Zxe.1 hi).2 hj e hg;subst this;rw [(Zxe.1 hi).1] at hm;simp at hm
 have newMine:∀g,Z03 (Ctx.lent c.P w M (msk U S.bs) (msk Y S.ss) (msk U S.bs).length (msk Y S.ss).length) g→Z03 c g:=by
  rintro g (hg | hg)
  ·exact .inl (Nat.le_trans size0 hg)
  ·exact (lentMine g hg).1
 have apart:∀g k,Z03 (Ctx.lent c.P w M (msk U S.bs) (msk Y S.ss) (msk U S.bs).length (msk Y S.ss).length) g→k<w.heap.size→¬Z0f M (msk U S.bs) (msk Y S.ss) k→g≠k:=by
  rintro g k (hg | hg) hk hn rfl
  ·exact Nat.lt_irrefl _ (Nat.lt_of_lt_of_le hk hg)
  ·exact hn hg
 refine ⟨hle,⟨by rw [Zye _ _ _ hb];exact h.nb,by rw [Zye _ _ _ hs];exact h.ns,h.so,h.os.trans J.os,h.tape.trans J.tape,h.output.trans J.output,Nat.le_trans size0 size1,?_,h.hle,?_,?_,?_,?_,?_,?_,J.pin.le hle⟩⟩
 ·intro k hk hn;have h8:¬Z0f M (msk U S.bs) (msk Y S.ss) k:=fun hl=>by
   rcases (lentMine k hl).1 with h1 | h1
   ·omega
   ·exact hn h1
  exact (h.block k (Nat.lt_of_lt_of_le hk size0) h8).trans (J.block k hk hn)
 ·intro k hk hn;have h8:¬Z0f M (msk U S.bs) (msk Y S.ss) k:=fun hl=>by
   rcases (lentMine k hl).1 with h1 | h1
   ·omega
   ·exact hn h1
  exact (h.hold k (Nat.lt_of_lt_of_le hk size0) h8).trans (J.hold k hk hn)
 ·intro j B hj;rcases Zze hb hj with ⟨h1,h2,h3⟩ | ⟨_,h3⟩
  ·obtain ⟨g1,g2,vs,g3,g4,g5⟩:=J.blk j B h3;have h6:=J.blk_lt h3;have hn:=Z2e1 j B h3 h2;rw [hρ j h1];exact ⟨g1,(h.hold _ h6 hn).trans g2,vs,Zo2 hle _ _ g3,(h.block _ h6 hn).trans g4,g5⟩
  ·obtain ⟨g1,g2,vs,g3,g4,g5⟩:=h.blk j B h3;exact ⟨newMine _ g1,g2,vs,g3,g4,g5⟩
 ·intro j L hj;rcases Zze hs hj with ⟨h1,h2,h3⟩ | ⟨_,h3⟩
  ·obtain ⟨g0,vss,g1,g2,g3,g4⟩:=J.slc j L h3;rw [hσ j h1];exact ⟨g0,vss,Zp2 hle.sl _ _ _ g1,g2,Z5f g3 fun g hg=>h.block g (J.slc_lt h3 hg) (keepS j L g h3 h2 hg),fun g hg=>⟨(g4 g hg).1,(h.hold g (J.slc_lt h3 hg) (keepS j L g h3 h2 hg)).trans (g4 g hg).2⟩⟩
  ·obtain ⟨g0,vss,g1,g2,g3,g4⟩:=h.slc j L h3;exact ⟨g0,vss,g1,g2,g3,fun g hg=>⟨newMine _ (g4 g hg).1,(g4 g hg).2⟩⟩
 ·intro i j B C hi hj e;rcases Zze hb hi with ⟨h1,h2,h3⟩ | ⟨_,h3⟩<;>rcases Zze hb hj with ⟨k1,k2,k3⟩ | ⟨_,k3⟩
  ·rw [hρ i h1,hρ j k1] at e;exact J.d1 i j B C h3 k3 e
  ·rw [hρ i h1] at e;exact absurd e.symm (apart _ _ (h.blk j C k3).1 (J.blk_lt h3) (Z2e1 i B h3 h2))
  ·rw [hρ j k1] at e;exact absurd e (apart _ _ (h.blk i B h3).1 (J.blk_lt k3) (Z2e1 j C k3 k2))
  ·exact h.d1 i j B C h3 k3 e
 ·intro i j B L hi hj;rcases Zze hb hi with ⟨h1,h2,h3⟩ | ⟨_,h3⟩<;>rcases Zze hs hj with ⟨k1,k2,k3⟩ | ⟨_,k3⟩
  ·rw [hρ i h1,hσ j k1];exact J.d2 i j B L h3 k3
  ·rw [hρ i h1];intro e;obtain ⟨_,_,_,_,_,g4⟩:=h.slc j L k3;exact apart _ _ (g4 _ e).1 (J.blk_lt h3) (Z2e1 i B h3 h2) rfl
  ·rw [hσ j k1];intro e;exact apart _ _ (h.blk i B h3).1 (J.slc_lt k3 e) (keepS j L _ k3 k2 e) rfl
  ·exact h.d2 i j B L h3 k3
 ·intro i j L N g hi hj e1 e2;rcases Zze hs hi with ⟨h1,h2,h3⟩ | ⟨_,h3⟩<;>rcases Zze hs hj with ⟨k1,k2,k3⟩ | ⟨_,k3⟩
  ·rw [hσ i h1] at e1;rw [hσ j k1] at e2;exact J.d3 i j L N g h3 k3 e1 e2
  ·rw [hσ i h1] at e1;obtain ⟨_,_,_,_,_,g4⟩:=h.slc j N k3;exact absurd rfl (apart _ _ (g4 g e2).1 (J.slc_lt h3 e1) (keepS i L g h3 h2 e1))
  ·rw [hσ j k1] at e2;obtain ⟨_,_,_,_,_,g4⟩:=h.slc i L h3;exact absurd rfl (apart _ _ (g4 g e1).1 (J.slc_lt k3 e2) (keepS j N g k3 k2 e2))
  ·exact h.d3 i j L N g h3 k3 e1 e2
theorem Z8f {f:Nat} {xs:List X} {args:List AV} {v:AV} {bs bs':List (Option Blk)} {ss ss':List (Option Sl)} (J U:List Bool) (Y:Z1f c.P f args bs ss v bs' ss') (h8:msk J S.bs=bs) (h9:msk U S.ss=ss)
  (ha:AV.le.leL (Z71 S xs) args):Z77 c S (.call f xs) v ⟨S.tm,mrg J S.bs bs',mrg U S.ss ss'⟩:=by
 subst h8;subst h9;intro ro ho M a w hT next Q hn
 obtain ⟨dst,op,ty,pos,af,gd⟩:=ro;dsimp only at ho;obtain ⟨cargs,argTypes,rfl,hd,rfl⟩:=Zb7 ho;have hm:=Zi6 _ _ _ ha (Zp5 hT cargs.toList);obtain ⟨f1,f2,f3⟩:=Y;have hc:=f3 M w _ (Z6f hT.st J U) hm;have h6:(execOp a.eval ⟨dst,.call ⟨.value (.func f),cargs,argTypes⟩,ty,pos,af,gd⟩).run c.P w = .ok (.enter f (cargs.map a.eval)) w:=by have he:a.eval (.func f) = .func (.func f) #[] #[]:=rfl;generalize a.eval=ρ at *;simp [execOp,resolve,Deferred.ofValue,invoke,he,Za7 hd]
 unfold Oper.wp;rw [h6];show Calls c.P f (cargs.map a.eval) w _;have e1:(cargs.toList.map a.eval).toArray=cargs.map a.eval:=by apply Array.ext';simp
 rw [←e1];refine hc.mono ?_;rintro e w' ⟨u,M',rfl,h1,h2⟩;obtain ⟨hle,hS⟩:=Z7f hT.st f1 f2 h1;exact hn M' w' u hle hS h2
theorem Z9f {d:Option Nat} {g:Option (Nat×Bool)} {l:List EOp} {f:Nat} {xs:List X} {args:List AV} {v:AV} {bs bs':List (Option Blk)} {ss ss':List (Option Sl)} (J U:List Bool) (hg:gm S g) (Y:Z1f c.P f args bs ss v bs' ss') (h6:msk J S.bs=bs:=by rfl) (h8:msk U S.ss=ss:=by rfl)
  (ha:AV.le.leL (Z71 S xs) args:=by first | exact Zrb _ | simp [go_sem]) (h:V c fn K (.ops l::k) ((⟨S.tm,mrg J S.bs bs',mrg U S.ss ss'⟩:St).put d v)):V c fn K (.ops (⟨d,g,.call f xs⟩::l)::k) S:=
 Z87 hg (Z8f J U Y h6 h8 ha) rfl h
theorem Zaf {f:Nat} {o:X} {xs:List X} {caps args:List AV} {v:AV} {bs bs':List (Option Blk)} {ss ss':List (Option Sl)} (J U:List Bool) (Z:S.x o = .clo f caps) (Y:Z1f c.P f args bs ss v bs' ss')
  (h9:(c.P.funcs[f]?).any (fun fn=>fn.body.isSome&&!(fn.name == "runtime.NumGoroutine"))=true) (hd:msk J S.bs=bs) (hw:msk U S.ss=ss)
  (ha:AV.le.leL (Z71 S xs++caps) args):Z77 c S (.callv o xs) v ⟨S.tm,mrg J S.bs bs',mrg U S.ss ss'⟩:=by
 subst hd;subst hw;intro ro h6 M a w hT next Q hn
 obtain ⟨dst,op,ty,pos,af,gd⟩:=ro;dsimp only at h6;obtain ⟨t,cargs,argTypes,rfl,rfl,rfl⟩:=Zc7 h6;have hx:=Z34 hT (.tmp t);rw [show S.x (cX (.tmp t)) = .clo f caps from Z] at hx;obtain ⟨cv,hx1,hA⟩:=hx;have hm:=Zi6 _ _ _ ha (Zh2 (Zp5 hT cargs.toList) hA);obtain ⟨f1,f2,f3⟩:=Y;have hc:=f3 M w _ (Z6f hT.st J U) hm;have h8:(execOp a.eval ⟨dst,.call ⟨.value (.tmp t),cargs,argTypes⟩,ty,pos,af,gd⟩).run c.P w = .ok (.enter f (cargs.map a.eval++cv.toArray)) w:=by generalize a.eval=ρ at *;simp [execOp,resolve,Deferred.ofValue,invoke,hx1,Za7 h9]
 unfold Oper.wp;rw [h8];show Calls c.P f (cargs.map a.eval++cv.toArray) w _;have e1:(cargs.toList.map a.eval++cv).toArray=cargs.map a.eval++cv.toArray:=by apply Array.ext';simp
 rw [←e1];refine hc.mono ?_;rintro e w' ⟨u,M',rfl,h1,h2⟩;obtain ⟨hle,hS⟩:=Z7f hT.st f1 f2 h1;exact hn M' w' u hle hS h2
theorem Zbf {d:Option Nat} {g:Option (Nat×Bool)} {l:List EOp} {f:Nat} {o:X} {xs:List X} {caps args:List AV} {v:AV} {bs bs':List (Option Blk)} {ss ss':List (Option Sl)} (J U:List Bool) (hg:gm S g) (Z:S.x o = .clo f caps) (Y:Z1f c.P f args bs ss v bs' ss')
  (h6:(c.P.funcs[f]?).any (fun fn=>fn.body.isSome&&!(fn.name == "runtime.NumGoroutine"))=true) (h8:msk J S.bs=bs:=by rfl) (h9:msk U S.ss=ss:=by rfl)
  (ha:AV.le.leL (Z71 S xs++caps) args:=by first | exact Zrb _ | simp [go_sem]) (h:V c fn K (.ops l::k) ((⟨S.tm,mrg J S.bs bs',mrg U S.ss ss'⟩:St).put d v)):V c fn K (.ops (⟨d,g,.callv o xs⟩::l)::k) S:=
 Z87 hg (Zaf J U Z Y h6 h8 h9 ha) rfl h
end
end NX
end Go.Proofs.YtgamgemlekpepaaGreat
