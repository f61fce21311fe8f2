/-
  The symbolic machine: own blocks change their names; what is appended is sealed at once. No statement of the seat is proved here.
-/
import Derived.Test.YtgamgemlekpepaaGreatK10
namespace Go.Proofs.YtgamgemlekpepaaGreat
namespace NX
open Go Go.RowKit
def swN (p q i:Nat):Nat:=match i==p with
 | true=>q
 | false=>match i==q with
   | true=>p
   | false=>i
theorem Zwd (p q i:Nat):swN p q i=if i=p then q else if i=q then p else i:=by
 unfold swN;cases h:i==p
 ·have h1:i≠p:=by simpa using h
  rw [if_neg h1];cases h2:i==q
  ·have h3:i≠q:=by simpa using h2
   rw [if_neg h3]
  ·have h3:i=q:=by simpa using h2
   rw [if_pos h3]
 ·have h1:i=p:=by simpa using h
  rw [if_pos h1]
theorem Zxd (p q i:Nat):swN p q (swN p q i)=i:=by
 simp only [Zwd];by_cases h1:i=p
 ·rw [if_pos h1];by_cases h2:q=p
  ·rw [if_pos h2,h1,h2]
  ·rw [if_neg h2,if_pos rfl,h1]
 ·rw [if_neg h1];by_cases h2:i=q
  ·rw [if_pos h2,if_pos rfl,h2]
  ·rw [if_neg h2,if_neg h1,if_neg h2]
theorem Zyd {p q i n:Nat} (hp:p<n) (hq:q<n) (hi:i<n):swN p q i<n:=by
 rw [Zwd];split
 ·exact hq
 ·split
  ·exact hp
  ·exact hi
mutual
def AV.swB (p q:Nat):AV→AV
 | .ptr i o=>.ptr (swN p q i) o
 | .agg l=>.agg (Zzd p q l)
 | .tup l=>.tup (Zzd p q l)
 | .clo f l=>.clo f (Zzd p q l)
 | .any=>.any
 | .un=>.un
 | .tt=>.tt
 | .ff=>.ff
 | .bv e=>.bv e
 | .iv n=>.iv n
 | .kv k n=>.kv k n
 | .sv x=>.sv x
 | .nl=>.nl
 | .nlp=>.nlp
 | .fn f=>.fn f
 | .osl i=>.osl i
 | .oel i a b=>.oel i a b
 | .ocs i a n b=>.ocs i a n b
 | .elt row o=>.elt row o
 | .sl n rows=>.sl n rows
def Zzd (p q:Nat):List AV→List AV
 | []=>[]
 | x::l=>x.swB p q::Zzd p q l
end
def St.swB (S:St) (p q:Nat):St:=⟨Zzd p q S.tm,Zq (Zq (Zo1 (Zzd p q) S.bs) p (Zp (Zo1 (Zzd p q) S.bs) q)) q (Zp (Zo1 (Zzd p q) S.bs) p),S.ss⟩
attribute [go_sem] AV.swB Zzd St.swB swN
theorem Z0e (p q:Nat):∀l,(Zzd p q l).length=l.length
 | []=>rfl
 | _::l=>by simp [Zzd,Z0e p q l]
theorem Z1e (p q:Nat):∀(l:List AV) (t:Nat),Zn (Zzd p q l) t=(Zn l t).swB p q
 | [],_=>by simp [Zzd,Zn,AV.swB]
 | _::_,0=>rfl
 | _::l,t+1=>Z1e p q l t
section
variable {c:Ctx} {M:Mem} {S S':St} {a:Act} {w:World} {fn:Func} {K:AV→List (Option Blk)→List (Option Sl)→Prop} {k:List It}
mutual
theorem Z2e {M M':Mem} {p q:Nat} (hp:p<M.nb) (hq:q<M.nb) (hρ:∀i,M'.ρ i=M.ρ (swN p q i)) (hnb:M'.nb=M.nb) (hns:M'.ns=M.ns) (hσ:M'.σ=M.σ) (hH:M'.H=M.H):∀(x:AV) (v:Value),x.is M v→(x.swB p q).is M' v
 | .any,_,_=>trivial
 | .un,_,k | .tt,_,k | .ff,_,k | .bv _,_,k | .iv _,_,k | .kv _ _,_,k | .sv _,_,k | .nl,_,k | .nlp,_,k | .fn _,_,k=>k
 | .ptr j off,x,k=>⟨by rw [hnb];exact Zyd hp hq k.1,by rw [hρ,Zxd];exact k.2⟩
 | .osl j,x,k=>⟨by rw [hns];exact k.1,by rw [hσ];exact k.2⟩
 | .oel j a off,x,k=>⟨by rw [hns];exact k.1,by rw [hσ];exact k.2⟩
 | .ocs j a n off,x,k=>⟨by rw [hns];exact k.1,by rw [hσ];exact k.2⟩
 | .elt row off,x,⟨a,vs,h1,h2,h3⟩=>⟨a,vs,h1,by rw [show M'.pure=M.pure by simp [Mem.pure,hH]];exact h2,by rw [hH];exact h3⟩
 | .sl n rows,x,⟨a,c,h1,h2,h3⟩=>⟨a,c,h1,h2,by rw [show M'.pure=M.pure by simp [Mem.pure,hH],hH];exact h3⟩
 | .agg l,x,⟨vs,h1,h2⟩=>⟨vs,h1,Z3e hp hq hρ hnb hns hσ hH l vs h2⟩
 | .tup l,x,⟨vs,h1,h2⟩=>⟨vs,h1,Z3e hp hq hρ hnb hns hσ hH l vs h2⟩
 | .clo f l,x,⟨vs,h1,h2⟩=>⟨vs,h1,Z3e hp hq hρ hnb hns hσ hH l vs h2⟩
theorem Z3e {M M':Mem} {p q:Nat} (hp:p<M.nb) (hq:q<M.nb) (hρ:∀i,M'.ρ i=M.ρ (swN p q i)) (hnb:M'.nb=M.nb) (hns:M'.ns=M.ns) (hσ:M'.σ=M.σ) (hH:M'.H=M.H):∀(l:List AV) (vs:List Value),AV.isL M l vs→AV.isL M' (Zzd p q l) vs
 | [],_,k=>k
 | x::l,_,⟨v,r,h1,h2,h3⟩=>⟨v,r,h1,Z2e hp hq hρ hnb hns hσ hH x v h2,Z3e hp hq hρ hnb hns hσ hH l r h3⟩
end
theorem Z4e (p q:Nat) (hp:Z5 (p+1) (Zw S.bs)=true) (hq:Z5 (q+1) (Zw S.bs)=true) (h:V c fn K k (S.swB p q)) (h6:Z5 c.np p=true:=by rfl) (hqn:Z5 c.np q=true:=by rfl):V c fn K k S:=by
 intro rk M a w hc hT;rw [Z02,Z12] at hp hq;have hS:=hT.st;have hp':p<M.nb:=by rw [hS.nb];exact hp
 have hq':q<M.nb:=by rw [hS.nb];exact hq
 let M':Mem:= {M with ρ:=fun i=>M.ρ (swN p q i)}
 have hx:=fun x v=>Z2e (M:=M) (M':=M') hp' hq' (fun _=>rfl) rfl rfl rfl rfl x v;have h8:=fun x v=>Z3e (M:=M) (M':=M') hp' hq' (fun _=>rfl) rfl rfl rfl rfl x v;have get:∀i B,Zp (S.swB p q).bs i=some B→∃C,Zp S.bs (swN p q i)=some C∧B=⟨C.T,Zzd p q C.cells⟩:=by
  intro i B hi;simp only [St.swB] at hi;rw [Z62] at hi;split at hi
  ·rename_i e;obtain ⟨rfl,_⟩:=e;have:swN p i i=p:=by rw [Zwd];by_cases h:i=p<;>simp [h]
   rw [this];exact Zy7 _ _ _ _ hi
  ·rename_i e;rw [Z62] at hi;split at hi
   ·rename_i e2;obtain ⟨rfl,_⟩:=e2;have:swN i q i=q:=by simp [Zwd]
    rw [this];exact Zy7 _ _ _ _ hi
   ·rename_i e2;have n1:i≠q:=fun h=>e ⟨h,by rw [Z72,Zx7];exact hq⟩;have n2:i≠p:=fun h=>e2 ⟨h,by rw [Zx7];exact hp⟩;have:swN p q i=i:=by rw [Zwd,if_neg n2,if_neg n1]
    rw [this];exact Zy7 _ _ _ _ hi
 refine h rk M' a w hc ⟨by simp only [St.swB,Z0e];exact hT.len,fun t=>by simp only [St.swB,Z1e];exact hx _ _ (hT.tm t),hT.df,?_⟩;refine ⟨by simp only [St.swB,Z72,Zx7];exact hS.nb,hS.ns,hS.so,hS.os,hS.tape,hS.output,hS.size,hS.block,hS.hle,hS.hold,?_,hS.slc,?_,?_,hS.d3,⟨hS.pin.nb,fun j hj=>by rw [Z02] at h6 hqn;show M.ρ (swN p q j)=_;rw [Zwd,if_neg (by omega),if_neg (by omega)];exact hS.pin.ρ j hj,hS.pin.ns,hS.pin.σ,hS.pin.gl⟩⟩
 ·intro i B hi;obtain ⟨C,hC,rfl⟩:=get i B hi;obtain ⟨g1,g2,vs,g3,g4,g5⟩:=hS.blk _ C hC;exact ⟨g1,g2,vs,h8 _ _ g3,g4,g5⟩
 ·intro i j B C hi hj e;obtain ⟨B',hB,_⟩:=get i B hi;obtain ⟨C',hC,_⟩:=get j C hj;have:=hS.d1 _ _ B' C' hB hC e;rw [←Zxd p q i,this,Zxd]
 ·intro i j B L hi hj;obtain ⟨B',hB,_⟩:=get i B hi;exact hS.d2 _ j B' L hB hj
end
theorem Z5e {c:Ctx} {all:Array Oper} {ops:List EOp} (h6:all.toList.mapM (Ze c.P all)=some ops) (h8:Region.noSelect all=true) {Φ:St→Prop} (r:Nat):
  ∀(m:Nat) (ld:List Bool) (S:St) (p:Prop),(Zja ops (Zl all) (Zm all) m ld S p).2.2.2→
   G c all ops (Zl all) Φ ((Zja ops (Zl all) (Zm all) m ld S p).1+r) (Zja ops (Zl all) (Zm all) m ld S p).2.1 (Zja ops (Zl all) (Zm all) m ld S p).2.2.1→p∧G c all ops (Zl all) Φ (m+r) ld S
 | 0,ld,S,p,hp,h=>⟨hp,h⟩
 | m+1,ld,S,p,hp,h=>by
   simp only [Zja] at hp h;split at hp
   ·rename_i x hx;rw [hx] at h;obtain ⟨i,v,q⟩:=x;obtain ⟨h1,h2⟩:=Z5e h6 h8 r m _ _ _ hp h;obtain ⟨k1,k2,k3,k4⟩:=Zka hx;refine ⟨h1.1,?_⟩;rw [show m+1+r=(m+r)+1 by omega];exact Zea h6 h8 i h1.2 (m+r) ld S k1 k2 k3 k4 h2
   ·rename_i hx;rw [hx] at h;exact ⟨hp,h⟩
theorem Z6e {c:Ctx} {all:Array Oper} {ops:List EOp} {af nap:List (List Nat)} (h6:all.toList.mapM (Ze c.P all)=some ops) (h8:Region.noSelect all=true) (hc:af=Zl all) (h9:nap=Zm all) {Φ:St→Prop} (m r:Nat)
  {ld:List Bool} {S:St} (h:(Zja ops af nap m ld S True).2.2.2∧G c all ops af Φ ((Zja ops af nap m ld S True).1+r) (Zja ops af nap m ld S True).2.1 (Zja ops af nap m ld S True).2.2.1):G c all ops af Φ (m+r) ld S:=by
 subst hc;subst h9;exact (Z5e h6 h8 r _ _ _ True h.1 h.2).2
def tN:Nat→Prop
 | 0=>True
 | n+1=>tN n∧True
theorem Z7e:∀n,tN n
 | 0=>trivial
 | n+1=>⟨Z7e n,trivial⟩
def an:Nat→List AV→List AV
 | 0,l=>l
 | n+1,l=>.any::an n l
attribute [go_sem] an
def rp (b:Bool):Nat→List Bool→List Bool
 | 0,l=>l
 | n+1,l=>b::rp b n l
def rl:List Nat→List Bool
 | []=>[]
 | [n]=>rp true n []
 | n::m::r=>rp true n (rp false m (rl r))
def skp:Nat→(List AV→List AV)→List AV→List AV
 | 0,f,l=>f l
 | n+1,f,[]=>.any::skp n f []
 | n+1,f,x::l=>x::skp n f l
def ptv:List AV→(List AV→List AV)→List AV→List AV
 | [],f,l=>f l
 | v::vs,f,[]=>v::ptv vs f []
 | v::vs,f,_::l=>v::ptv vs f l
def pt:List (Nat×List AV)→List AV→List AV
 | [],l=>l
 | (n,vs)::p,l=>skp n (ptv vs (pt p)) l
attribute [go_sem] skp ptv pt rp rl
theorem Z8e {c:Ctx} {all:Array Oper} {ops:List EOp} {af nap:List (List Nat)} (h6:all.toList.mapM (Ze c.P all)=some ops) (h8:Region.noSelect all=true) (hc:af=Zl all) (h9:nap=Zm all) {Φ:St→Prop} (m r:Nat)
  {ld:List Bool} {S:St} (ld':List Bool) (S':St) (he:Zja ops af nap m ld S True=(0,ld',S',tN m)) (h:G c all ops af Φ r ld' S'):G c all ops af Φ (m+r) ld S:=
 Z6e h6 h8 hc h9 m r (by rw [he];exact ⟨Z7e m,by simpa using h⟩)
theorem Z9e {c:Ctx} {all:Array Oper} {ops:List EOp} {af nap:List (List Nat)} (h6:all.toList.mapM (Ze c.P all)=some ops) (h8:Region.noSelect all=true) (hc:af=Zl all) (h9:nap=Zm all) {Φ:St→Prop} (m r:Nat)
  {ld:List Bool} {S:St} (b:List Nat) (u:List (Nat×List AV)) (he:Zja ops af nap m ld S True=(0,rl b,⟨pt u S.tm,S.bs,S.ss⟩,tN m)) (h:G c all ops af Φ r (rl b) ⟨pt u S.tm,S.bs,S.ss⟩):G c all ops af Φ (m+r) ld S:=
 Z8e h6 h8 hc h9 m r _ _ he h
theorem Zae {P:Program} {w0:World} {H0:Frag} {f:Nat} {fn:Func} {body:EC} {rs:List ERes} {np nt:Nat} {k:List It} {S:St} {T n j:Nat} {α:Type} {e r:List α} (g:α→List AV) (ok:FnOK P f fn body rs np nt) (h:some e=some r)
  (hr:Zs1 S rs=some (.osl j)) (hj:Zp S.ss j=some ⟨T,n,e.map g⟩):V (Ctx.of P w0 H0) fn (fun x _ ss=>∃j,x = .osl j∧Zp ss j=some ⟨T,n,r.map g⟩) (.code .ret::k) S:=by
 obtain rfl:=Option.some.inj h;exact Zsd ok hr hj
end NX
end Go.Proofs.YtgamgemlekpepaaGreat
/-
  The symbolic machine: elements of own slices, read and written. No statement of the seat is proved here.
-/
namespace Go.Proofs.YtgamgemlekpepaaGreat
namespace NX
open Go Go.RowKit
section
variable {c:Ctx} {M:Mem} {S S':St} {a:Act} {w:World} {fn:Func} {K:AV→List (Option Blk)→List (Option Sl)→Prop} {k:List It} {bs:List (Option Blk)} {ss:List (Option Sl)}
theorem RelS.rewrite (h:RelS c M bs ss w) {j g:Nat} {L:Sl} (hj:Zp ss j=some L) (h6:(M.σ j).ownBlock=some g) {w':World} (hg:w.grownBy w' (some g)) {J:List (List AV)} {vss':List (List Value)} (h1:AV.isLL M.sl L.n J vss')
  (h2:∀v∈vss'.flatten,v.oneCell'=true) (h3:w'.ownsRow 0 L.T L.n (M.σ j) J.length vss'.flatten):RelS c M bs (Zq ss j (some ⟨L.T,L.n,J⟩)) w':=by
 obtain ⟨g0,vss,_,_,hc,h8⟩:=h.slc j L hj;obtain ⟨m1,m2⟩:=h8 g h6;have old:∀i N,Zp (Zq ss j (some (⟨L.T,L.n,J⟩:Sl))) i=some N→(i=j∧N=⟨L.T,L.n,J⟩)∨(i≠j∧Zp ss i=some N):=by
  intro i N hi;rw [Z62] at hi;split at hi
  ·rename_i e;left;exact ⟨e.1,by simpa using hi.symm⟩
  ·rename_i e;right;exact ⟨fun x=>e ⟨x,Z82 hj⟩,hi⟩
 have live:∀i N,Zp (Zq ss j (some (⟨L.T,L.n,J⟩:Sl))) i=some N→∃N',Zp ss i=some N':=by
  intro i N hi;rcases old i N hi with ⟨rfl,_⟩ | ⟨_,h⟩
  ·exact ⟨_,hj⟩
  ·exact ⟨_,h⟩
 obtain ⟨e1,e2,e3,e4,e5⟩:=hg;refine ⟨h.nb,by rw [Z72];exact h.ns,h.so,e1.trans h.os,e2.trans h.tape,e3.trans h.output,Nat.le_trans h.size e4,?_,?_,h.hold,?_,?_,h.d1,?_,?_,h.pin⟩
 ·intro k hk hb;rw [e5 k (Nat.lt_of_lt_of_le hk h.size) (fun e=>by
   simp at e;subst e;rcases m1 with m1 | m1
   ·omega
   ·exact hb m1)]
  exact h.block k hk hb
 ·intro k o hk;have h9:=(Array.getElem?_eq_some_iff.1 (h.hle k o hk)).1;rw [e5 k h9 (fun e=>by simp at e;subst e;rw [m2] at hk;simp at hk)];exact h.hle k o hk
 ·intro i B hi;obtain ⟨g1,g2,vs,g3,g4,g5⟩:=h.blk i B hi;refine ⟨g1,g2,vs,g3,?_,g5⟩;rw [e5 _ (h.blk_lt hi) (fun e=>h.d2 i j B L hi hj (by rw [h6];exact e.symm))];exact g4
 ·intro i N hi;rcases old i N hi with ⟨rfl,rfl⟩ | ⟨hne,hi⟩
  ·exact ⟨g0,vss',h1,h2,h3,h8⟩
  ·obtain ⟨q0,uss,q1,q2,q3,q4⟩:=h.slc i N hi;refine ⟨q0,uss,q1,q2,World.ownsRow.kept q3 (row:=some g) ⟨e1,e2,e3,e4,e5⟩ (.inr fun e=>?_),q4⟩;exact hne (h.d3 i j N L g hi hj e h6)
 ·intro i t B N hi ht;obtain ⟨N',hN⟩:=live t N ht;exact h.d2 i t B N' hi hN
 ·intro i t N O g' hi ht;obtain ⟨N',hN⟩:=live i N hi;obtain ⟨O',hO⟩:=live t O ht;exact h.d3 i t N' O' g' hN hO
theorem Zbe (J:RelT c M S a w) {j i:Nat} {L:Sl} {row:List AV} (hj:Zp S.ss j=some L) (hr:L.rows[i]?=some row):
  ∃g cap cur vss vs,M.σ j = .slice (some ⟨g,0,none⟩) L.rows.length cap∧w.heap[g]?=some (.cells cur L.T (0,0))∧cur.size=cap*L.n∧L.rows.length≤cap∧cap≤maxLen∧AV.isLL M.sl L.n L.rows vss∧cur.toList.take (L.rows.length*L.n)=vss.flatten∧
   (∀v∈vss.flatten,v.oneCell'=true)∧vss[i]?=some vs∧vs.length=L.n∧AV.isL M.sl row vs∧(∀(m:Nat) v,vs[m]?=some v→cur[i*L.n+m]?=some v):=by
 obtain ⟨g0,vss,h1,h2,h3,h4⟩:=J.st.slc j L hj;have h6:=(List.getElem?_eq_some_iff.1 hr).1;rcases h3.2 with ⟨_,e3⟩ | ⟨g,cap,cur,e2,_,e3,e4,e5,e6,e7⟩
 ·omega
 ·obtain ⟨vs,q1,q2,q3,q4⟩:=Zj7 h1 i row hr;refine ⟨g,cap,cur,vss,vs,e2,e3,e6,e4,e5,h1,e7,h2,q1,q2,q3,fun m v hm=>?_⟩;have:=q4 m v hm;rw [←e7,List.getElem?_take] at this;split at this
  ·simpa using this
  ·simp at this
theorem Zce {n j:Nat} {x i:X} {z:Int} {L:Sl} (hx:S.x x = .osl j) (hi:S.x i = .iv z) (hj:Zp S.ss j=some L) (_:L.n=n) (h0:0≤z) (h1:z<L.rows.length):Z77 c S (.idx n x i) (.oel j (z.toNat*n) 0) S:=by
 intro ro h6 M a w hT next Q h9
 obtain ⟨dst,op,ty,pos,af,gd⟩:=ro;dsimp only at h6;obtain ⟨T,y,q,e,rfl,hu,hs,rfl,rfl⟩:=Zd7 h6;have k1:=Z34 hT y;have k2:=Z34 hT q;rw [hx] at k1;rw [hi] at k2;obtain ⟨row,hr⟩:∃row,L.rows[z.toNat]?=some row:=⟨_,List.getElem?_eq_getElem (by omega)⟩
 obtain ⟨g,cap,cur,_,_,e2,_,_,_,_,_⟩:=Zbe hT hj hr;have h8:=Zk7 (P:=c.P) (w:=w) hu hs (k1.2.trans e2) k2 h0 h1 dst ty pos af gd;unfold Oper.wp;rw [h8];refine h9 M w _ (.refl M) hT.st ⟨k1.1,g,_,cap,e2,?_⟩;rw [Addr.add_lit];simp
theorem Zde {d:Option Nat} {g:Option (Nat×Bool)} {l:List EOp} {n j:Nat} {x i:X} {z:Int} {L:Sl} (hg:gm S g) (hx:S.x x = .osl j) (hi:S.x i = .iv z) (hj:Zp S.ss j=some L) (J:L.n=n) (h0:0≤z) (h1:z<L.rows.length)
  (h:V c fn K (.ops l::k) (S.put d (.oel j (z.toNat*n) 0))):V c fn K (.ops (⟨d,g,.idx n x i⟩::l)::k) S:=
 Z87 hg (Zce hx hi hj J h0 h1) rfl h
theorem Zee {α:Type} {l':List α} {z:Int} {v:α} {d:Option Nat} {g:Option (Nat×Bool)} {l:List EOp} {T n j:Nat} {x i:X} (f:α→List AV) (hv:at_ l' z=some v) (hg:gm S g) (hx:S.x x = .osl j) (hi:S.x i = .iv z) (hj:Zp S.ss j=some ⟨T,n,l'.map f⟩)
  (h:V c fn K (.ops l::k) (S.put d (.oel j (z.toNat*n) 0))):V c fn K (.ops (⟨d,g,.idx n x i⟩::l)::k) S:=by
 obtain ⟨h0,hr⟩:=Zhc hv;have:=(List.getElem?_eq_some_iff.1 hr).1;exact Zde hg hx hi hj rfl h0 (by simp;omega) h
theorem Zfe {α:Type} {l:List α} {z:Int} {y y':α} (h:at_ l z=some y):at_ (l.set z.toNat y') z=some y':=by obtain ⟨h0,hr⟩:=Zhc h;have:=(List.getElem?_eq_some_iff.1 hr).1;unfold at_;rw [if_pos h0];simp [this]
theorem Zge {P:Program} {op:Op} {x:X} (J:cO P op = .load x):∃T y,op = .load T y∧Z7 P T=some none∧cX y=x:=by
 cases op
 case load T y=>
  simp only [cO] at J;split at J
  ·rename_i h;simp only [EO.load.injEq] at J;exact ⟨T,y,rfl,h,J⟩
  ·simp at J
  ·simp at J
 all_goals (simp only [cO] at J;(repeat' (split at J))<;>simp at J)
theorem Zhe {P:Program} {op:Op} {n:Nat} {x:X} (J:cO P op = .loadA n x):∃T y,op = .load T y∧Z7 P T=some (some n)∧cX y=x:=by
 cases op
 case load T y=>
  simp only [cO] at J;split at J
  ·simp at J
  ·rename_i h;simp only [EO.loadA.injEq] at J;exact ⟨T,y,rfl,by rw [h,J.1],J.2⟩
  ·simp at J
 all_goals (simp only [cO] at J;(repeat' (split at J))<;>simp at J)
theorem Zie {P:Program} {op:Op} {n:Nat} {x y:X} (J:cO P op = .store n x y):∃T p q,op = .store T p q∧Z9 P T=some n∧cX p=x∧cX q=y:=by
 cases op
 case store T p q=>
  simp only [cO] at J;split at J
  ·rename_i n' h;simp only [EO.store.injEq] at J;exact ⟨T,p,q,rfl,by rw [h,J.1],J.2.1,J.2.2⟩
  ·simp at J
 all_goals (simp only [cO] at J;(repeat' (split at J))<;>simp at J)
theorem Zje (J:RelT c M S a w) {j i n off m:Nat} {L:Sl} {row l:List AV} {u:Value} (hu:(AV.oel j (i*n) off).is M u) (hj:Zp S.ss j=some L) (U:L.n=n) (hr:L.rows[i]?=some row) (hl:Zt row off m=some l):
  ∃g vs,u = .pointer (some ⟨g,i*n+off,none⟩)∧AV.isL M l vs∧vs.length=m∧∀(q:Nat) v,vs[q]?=some v→w.cell? ⟨g,i*n+off+q,none⟩=some v:=by
 subst U;obtain ⟨_,g',n',cap',e1,rfl⟩:=hu;obtain ⟨g,cap,cur,vss,vs,e2,e3,_,_,_,_,_,_,_,q2,q3,q4⟩:=Zbe J hj hr;rw [e2] at e1;simp only [Value.slice.injEq,Option.some.injEq,Addr.mk.injEq] at e1;obtain ⟨⟨rfl,_⟩,_⟩:=e1;obtain ⟨rfl,hle⟩:=Zb2 hl;refine ⟨g,(vs.drop off).take m,rfl,Zo2 (Zl2 M) _ _ (Zi2 m (Zj2 off q3)),by have:=Ze2 q3;simp;omega,?_⟩;intro q v hq;rw [List.getElem?_take] at hq;split at hq
 ·simp at hq;have:=q4 _ v hq;simp only [World.cell?,e3];simp only [Option.isSome_none,Bool.false_eq_true,if_false];rw [Nat.add_assoc];exact this
 ·simp at hq
theorem Zke {j i n off:Nat} {x:X} {L:Sl} {row:List AV} {v:AV} (hx:S.x x = .oel j (i*n) off) (hj:Zp S.ss j=some L) (J:L.n=n) (hr:L.rows[i]?=some row) (hl:Zt row off 1=some [v]):Z77 c S (.load x) v S:=by
 intro ro h6 M a w hT next Q h9
 obtain ⟨dst,op,ty,pos,af,gd⟩:=ro;dsimp only at h6;obtain ⟨T,y,rfl,hd,rfl⟩:=Zge h6;have k1:=Z34 hT y;rw [hx] at k1;obtain ⟨g,vs,hu,h2,h3,h4⟩:=Zje hT k1 hj J hr hl;obtain ⟨u,rfl⟩:∃u,vs=[u]:=by
  cases vs with
  | nil=>simp at h3
  | cons u r=>cases r with
    | nil=>exact ⟨u,rfl⟩
    | cons _ _=>simp at h3
 have hc:=h4 0 u (by simp);have h8:(execOp a.eval ⟨dst,.load T y,ty,pos,af,gd⟩).run c.P w = .ok (.value u) w:=by generalize a.eval=ρ at *;simp only [Nat.add_zero] at hc;simp [execOp,hu,Instr.loadAt,Instr.sureAddr,Zm4 hd hc]
 unfold Oper.wp;rw [h8];refine h9 M w u (.refl M) hT.st ?_;obtain ⟨_,_,h,hy,_⟩:=h2;simp at h;obtain ⟨rfl,rfl⟩:=h;exact hy
theorem Zle {α:Type} {l':List α} {z:Int} {y:α} {d:Option Nat} {g:Option (Nat×Bool)} {l:List EOp} {j T n off:Nat} {x:X} {v:AV} (f:α→List AV) (hv:at_ l' z=some y) (hg:gm S g) (hx:S.x x = .oel j (z.toNat*n) off) (hj:Zp S.ss j=some ⟨T,n,l'.map f⟩)
  (hl:Zt (f y) off 1=some [v]) (h:V c fn K (.ops l::k) (S.put d v)):V c fn K (.ops (⟨d,g,.load x⟩::l)::k) S:=
 Z87 hg (Zke hx hj rfl (Zic (Zhc hv).2) hl) rfl h
theorem Zme {j i n off m:Nat} {x:X} {L:Sl} {row r:List AV} (hx:S.x x = .oel j (i*n) off) (hj:Zp S.ss j=some L) (J:L.n=n) (hr:L.rows[i]?=some row) (hl:Zt row off m=some r):Z77 c S (.loadA m x) (.agg r) S:=by
 intro ro h6 M a w hT next Q h9
 obtain ⟨dst,op,ty,pos,af,gd⟩:=ro;dsimp only at h6;obtain ⟨T,y,rfl,hc,rfl⟩:=Zhe h6;have k1:=Z34 hT y;rw [hx] at k1;obtain ⟨g,vs,hu,h2,h3,h4⟩:=Zje hT k1 hj J hr hl;have h8:(execOp a.eval ⟨dst,.load T y,ty,pos,af,gd⟩).run c.P w = .ok (.value (.agg vs.toArray)) w:=by generalize a.eval=ρ at *;simp [execOp,hu,Instr.loadAt,Instr.sureAddr,Zn4 hc h3 h4]
 unfold Oper.wp;rw [h8];exact h9 M w _ (.refl M) hT.st ⟨vs,rfl,h2⟩
theorem Zne {α:Type} {l':List α} {z:Int} {y:α} {d:Option Nat} {g:Option (Nat×Bool)} {l:List EOp} {j T n off m:Nat} {x:X} {r:List AV} (f:α→List AV) (hv:at_ l' z=some y) (hg:gm S g) (hx:S.x x = .oel j (z.toNat*n) off) (hj:Zp S.ss j=some ⟨T,n,l'.map f⟩)
  (hl:Zt (f y) off m=some r) (h:V c fn K (.ops l::k) (S.put d (.agg r))):V c fn K (.ops (⟨d,g,.loadA m x⟩::l)::k) S:=
 Z87 hg (Zme hx hj rfl (Zic (Zhc hv).2) hl) rfl h
theorem Zoe {M:Mem} {n:Nat}:∀ {rows:List (List AV)} {vss:List (List Value)} {i:Nat} {row:List AV} {vs:List Value},AV.isLL M n rows vss→AV.isL M row vs→vs.length=n→AV.isLL M n (rows.set i row) (vss.set i vs)
 | [],_,i,_,_,h,_,_=>by simp [AV.isLL] at h;subst h;simp [AV.isLL]
 | r::rows,_,0,_,_,⟨v,q,h0,h1,h2,h3⟩,hr,hl=>by subst h0;exact ⟨_,_,rfl,hl,hr,h3⟩
 | r::rows,_,i+1,_,_,⟨v,q,h0,h1,h2,h3⟩,hr,hl=>by subst h0;exact ⟨v,_,rfl,h1,h2,Zoe h3 hr hl⟩
theorem Zpe {n off:Nat} {cs:List Value}:∀ {vss:List (List Value)} {i:Nat} {vs:List Value},(∀v∈vss,v.length=n)→vss[i]?=some vs→off+cs.length≤n→
  (vss.set i (vs.take off++cs++vs.drop (off+cs.length))).flatten=vss.flatten.take (i*n+off)++cs++vss.flatten.drop (i*n+off+cs.length)
 | [],i,vs,_,h,_=>by simp at h
 | v::vss,0,vs,hn,h,hle=>by simp at h;subst h;have hv:=hn v (by simp);simp only [List.set_cons_zero,List.flatten_cons,Nat.zero_mul,Nat.zero_add];rw [List.take_append_of_le_length (by omega),List.drop_append_of_le_length (by omega)];simp [List.append_assoc]
 | v::vss,i+1,vs,hn,h,hle=>by have hv:=hn v (by simp);have ih:=Zpe (n:=n) (off:=off) (cs:=cs) (vss:=vss) (i:=i) (vs:=vs) (fun u hu=>hn u (by simp [hu])) (by simpa using h) hle;simp only [List.set_cons_succ,List.flatten_cons];rw [ih,show (i+1)*n+off=v.length+(i*n+off) by rw [hv,Nat.add_mul];omega,show v.length+(i*n+off)+cs.length=v.length+(i*n+off+cs.length) by omega,List.take_length_add_append,List.drop_length_add_append];simp [List.append_assoc]
theorem Zqe {M:Mem} {n:Nat}:∀ {rows:List (List AV)} {vss:List (List Value)},AV.isLL M n rows vss→(∀v∈vss,v.length=n)∧vss.length=rows.length
 | [],_,h=>by simp [AV.isLL] at h;subst h;simp
 | _::rows,_,⟨v,q,h0,h1,h2,h3⟩=>by subst h0;obtain ⟨k1,k2⟩:=Zqe h3;exact ⟨fun u hu=>by rcases List.mem_cons.1 hu with rfl | hu;exact h1;exact k1 u hu,by simp [k2]⟩
def AV.slo:AV→Bool
 | .osl _=>true
 | x=>x.pu
def slL:List AV→Bool
 | []=>true
 | x::l=>Z4 x.slo (slL l)
attribute [go_sem] AV.slo slL
theorem Zre {M:Mem} (x:AV) (v:Value) (h:x.is M v) (hp:x.slo=true):x.is M.sl v:=by
 cases x
 case osl j=>exact h
 all_goals exact Zn2 (Zk2 M) _ _ (Zt2 _ _ h hp)
theorem Zse {M:Mem}:∀(l:List AV) (vs:List Value),AV.isL M l vs→slL l=true→AV.isL M.sl l vs
 | [],_,h,_=>h
 | x::l,_,⟨v,r,h0,h1,h2⟩,hp=>by simp only [slL,Zz1] at hp;exact ⟨v,r,h0,Zre x v h1 hp.1,Zse l r h2 hp.2⟩
theorem Zte:∀ {l:List AV},puL l=true→slL l=true
 | [],_=>rfl
 | x::l,h=>by
   simp only [puL,Zz1] at h;simp only [slL,Zz1];refine ⟨?_,Zte h.2⟩;cases x
   case osl j=>rfl
   all_goals exact h.1
theorem Zue {j i n off m:Nat} {x y:X} {L:Sl} {row J cs0 cs:List AV} (hx:S.x x = .oel j (i*n) off) (hj:Zp S.ss j=some L) (U:L.n=n) (hr:L.rows[i]?=some row) (hB:(S.x y).cells=some cs0) (hC:AV.le.leL cs0 cs) (hm:Zw cs=m) (h1:Zx cs=true) (hp:slL cs=true)
  (hl:Zv row off cs=some J):Z77 c S (.store m x y) .un ⟨S.tm,S.bs,Zq S.ss j (some ⟨L.T,L.n,L.rows.set i J⟩)⟩:=by
 intro ro hd M a w hT next Q hD
 obtain ⟨dst,op,ty,pos,af,gd⟩:=ro;dsimp only at hd;obtain ⟨T,p,q,rfl,hE,rfl,rfl⟩:=Zie hd;have k1:=Z34 hT p;have k2:=Z34 hT q;subst U;rw [hx] at k1;obtain ⟨_,g',n',cap',e1,hG⟩:=k1;obtain ⟨g,cap,cur,vss,vs,e2,e3,e4,e5,e6,e7,e8,e9,q1,q2,q3,q4⟩:=Zbe hT hj hr;rw [e2] at e1;simp only [Value.slice.injEq,Option.some.injEq,Addr.mk.injEq] at e1;obtain ⟨⟨rfl,_⟩,_⟩:=e1;have h6:=Zi6 _ _ _ hC (Zr4 (fun j e=>by rw [e] at k2;rw [k2.2];exact hT.st.so j k2.1) k2 hB);have h8:=Zs4 h6 h1 hT.st.so;have ho:=Zse _ _ h6 hp;obtain ⟨rfl,hle⟩:=Zd2 hl;have h9:=Ze2 h6;have hR:=Ze2 q3;have hS:=(List.getElem?_eq_some_iff.1 hr).1;obtain ⟨hI,hU⟩:=Zqe e7;have hJ:(i+1)*L.n≤cap*L.n:=Nat.mul_le_mul_right _ (by omega);have hK:(i+1)*L.n≤L.rows.length*L.n:=Nat.mul_le_mul_right _ (by omega);rw [Nat.add_mul,Nat.one_mul] at hJ hK;have hO:i*L.n+off+(a.eval q).cells.toList.length≤cur.size:=by rw [e4];omega
 have hf:=run_storeCells_at c.P g (i*L.n+off) L.T (a.eval q).cells.toList 0 cur w e3 (by omega) h8;have hsz':(a.eval q).cells.size=m:=by rw [←Array.length_toList,h9,←Z12];exact hm
 have hcur':∀v,(cur.toList.take (i*L.n+off)++v++cur.toList.drop (i*L.n+off+v.length)).length=cur.toList.length∨True:=fun _=>.inr trivial;have hw:(execOp a.eval ⟨dst,.store T p q,ty,pos,af,gd⟩).run c.P w = .ok .skip (w.setRow g (cur.toList.take (i*L.n+off)++(a.eval q).cells.toList++cur.toList.drop (i*L.n+off+(a.eval q).cells.toList.length)).toArray):=by generalize a.eval=ρ at *;simp only [Nat.add_zero] at hf;simp only [execOp,hG,Instr.storeAt,Instr.sureAddr,Sem.run_bind,Sem.run_pure,Result.andThen_ok,storeVar,Z74 hE,hsz',ne_eq,not_true_eq_false,if_false];rw [hf];rfl
 unfold Oper.wp;rw [hw];refine hD M _ _ (.refl M) ?_ rfl;have hvs':AV.isL M.sl (row.take off++cs++row.drop (off+cs.length)) (vs.take off++(a.eval q).cells.toList++vs.drop (off+(a.eval q).cells.toList.length)):=Zh2 (Zh2 (Zi2 off q3) ho) (by rw [h9];exact Zj2 _ q3);have hc:=Zpe (cs:=(a.eval q).cells.toList) (off:=off) hI q1 (by omega);have hP:cur.toList.length=cap*L.n:=by simpa using e4
 have hL:(w.setRow g (cur.toList.take (i*L.n+off)++(a.eval q).cells.toList++cur.toList.drop (i*L.n+off+(a.eval q).cells.toList.length)).toArray).heap[g]?=some (.cells (cur.toList.take (i*L.n+off)++(a.eval q).cells.toList++cur.toList.drop (i*L.n+off+(a.eval q).cells.toList.length)).toArray L.T (0,0)):=by rw [Z23,if_pos rfl,e3];rfl
 refine hT.st.rewrite hj (g:=g) (by rw [e2];rfl) (w':=w.setRow g (cur.toList.take (i*L.n+off)++(a.eval q).cells.toList++cur.toList.drop (i*L.n+off+(a.eval q).cells.toList.length)).toArray)
  ⟨rfl,rfl,rfl,by simp [World.setRow],fun k _ hk=>by rw [Z23,if_neg (fun e=>hk (by rw [e]))]⟩ (vss':=vss.set i (vs.take off++(a.eval q).cells.toList++vs.drop (off+(a.eval q).cells.toList.length))) ?_ ?_ ?_
 ·exact Zoe e7 hvs' (by simp only [List.length_append,List.length_take,List.length_drop];omega)
 ·intro v hv;rw [hc] at hv;simp only [List.mem_append] at hv;rcases hv with (hv | hv) | hv
  ·exact e9 v (List.mem_of_mem_take hv)
  ·exact h8 v hv
  ·exact e9 v (List.mem_of_mem_drop hv)
 ·have hQ:vss.flatten.length=L.rows.length*L.n:=Z0b e7;refine ⟨?_,.inr ⟨g,cap,_,by rw [List.length_set];exact e2,Nat.zero_le _,hL,by rw [List.length_set];exact e5,e6,?_,?_⟩⟩
  ·rw [hc,List.length_set];simp only [List.length_append,List.length_take,List.length_drop];omega
  ·simp only [List.size_toArray,List.length_append,List.length_take,List.length_drop];omega
  ·rw [hc,List.length_set,←e8];generalize hN:L.rows.length*L.n=N at *;generalize hA:i*L.n+off=A at *;generalize (a.eval q).cells.toList=C at *;generalize cur.toList=D at *;rw [List.append_assoc,List.append_assoc,List.take_append,List.take_of_length_le (by rw [List.length_take];omega),List.take_append,List.take_of_length_le (l:=C) (by rw [List.length_take];omega),List.length_take,Nat.min_eq_left (by omega),List.take_take,Nat.min_eq_left (by omega),List.drop_take];congr 3;omega
theorem Zve {α:Type} {l':List α} {z:Int} {y y':α} {d:Option Nat} {g:Option (Nat×Bool)} {l:List EOp} {j T n off m:Nat} {x v:X} {cs0:List AV} (cs:List AV) (f:α→List AV) (hv:at_ l' z=some y) (hg:gm S g) (hx:S.x x = .oel j (z.toNat*n) off) (hj:Zp S.ss j=some ⟨T,n,l'.map f⟩)
  (h6:(S.x v).cells=some cs0) (h8:AV.le.leL cs0 cs) (hm:Zw cs=m) (h1:Zx cs=true) (hp:puL cs=true) (hl:Zv (f y) off cs=some (f y'))
  (h:V c fn K (.ops l::k) ((⟨S.tm,S.bs,Zq S.ss j (some ⟨T,n,(l'.set z.toNat y').map f⟩)⟩:St).put d .un)):V c fn K (.ops (⟨d,g,.store m x v⟩::l)::k) S:=by
 refine Z87 hg (Zue hx hj rfl (Zic (Zhc hv).2) h6 h8 hm h1 (Zte hp) hl) rfl ?_;dsimp only;rw [←List.map_set];exact h
end
end NX
end Go.Proofs.YtgamgemlekpepaaGreat
