/-
  The symbolic machine: slices made; own slices cut; elements of own slices in drawn regions. No statement of the seat is proved here.
-/
import Derived.Laws.OwnMore
import Derived.Lib.AppendZeros
import Derived.ProofKit
import Derived.OpenShut
import Derived.Carry
import Derived.Laws.CopyRow
import Derived.Laws.IdiomCopy
import Derived.Test.YtgamgemlekpepaaGreatH9
namespace Go.Proofs.YtgamgemlekpepaaGreat
namespace NX
open Go Go.RowKit
def mk_ {α:Type} (b:Nat) (n:Int) (z:α):Option (List α):=if 0≤n∧b*n≤281474976710656∧n≤9223372036854775807 then some (List.replicate n.toNat z) else none
theorem Zbf {α:Type} {b:Nat} {n:Int} {z:α} {l:List α} (h:mk_ b n z=some l):l=List.replicate n.toNat z∧0≤n∧b*n≤281474976710656∧n≤9223372036854775807:=by
 unfold mk_ at h;split at h
 ·rename_i h1;simp at h;exact ⟨h.symm,h1⟩
 ·simp at h
theorem Zcf {P:Program} {op:Op} {e n b:Nat} {z:List AV} {x y:X} (E:cO P op = .mks e n b z x y):
  ∃T p q i u,op = .makeSlice T p q∧P.underlying T=some (.slice e)∧P.info? e=some i∧i.zero=some u∧u.cells.size=n∧i.size=n∧0<n∧i.bytes=b∧z=u.cells.toList.map Z6∧cX p=x∧cX q=y:=by
 cases op
 case makeSlice T p q=>
  simp only [cO] at E;split at E
  ·rename_i e' hu;split at E
   ·rename_i i hi;split at E
    ·rename_i u hz;split at E
     ·rename_i hs;simp only [EO.mks.injEq] at E;obtain ⟨rfl,rfl,rfl,rfl,rfl,rfl⟩:=E;exact ⟨T,p,q,i,u,rfl,hu,hi,hz,hs.1,rfl,hs.2,rfl,rfl,rfl,rfl⟩
     ·simp at E
    ·simp at E
   ·simp at E
  ·simp at E
 all_goals (simp only [cO] at E;(repeat' (split at E))<;>simp at E)
theorem Zdf {M:Mem} {z:List AV} {vs:List Value} (h:AV.isL M z vs):∀k,AV.isLL M vs.length (List.replicate k z) (List.replicate k vs)
 | 0=>rfl
 | k+1=>⟨vs,_,rfl,rfl,h,Zdf h k⟩
section
variable {c:Ctx} {M:Mem} {S S':St} {a:Act} {w:World} {fn:Func} {K:AV→List (Option Blk)→List (Option Sl)→Prop} {k:List It}
theorem Zef {v:Value} (h:(Z6 v).one=true):v.oneCell'=true:=by unfold Z6 at h;split at h<;>first | rfl | simp [AV.one] at h
theorem Zff {e n b:Nat} {z:List AV} {x y:X} {m:Int} (hx:S.x x = .iv m) (hy:S.x y = .iv m) (h0:0≤m) (hb:b*m≤281474976710656) (hC:m≤9223372036854775807) (hc:Zx z=true):
  Z67 c S (.mks e n b z x y) (.osl (Zw S.ss)) ⟨S.tm,S.bs,S.ss++[some ⟨e,n,List.replicate m.toNat z⟩]⟩:=by
 intro ro h9 M a w h6 next Q ho
 obtain ⟨dst,op,ty,pos,af,gd⟩:=ro;dsimp only at h9;obtain ⟨T,p,q,i,u,rfl,hu,hi,hz,hn,hw,hA,rfl,rfl,rfl,rfl⟩:=Zcf h9;have k1:=Z34 h6 p;have k2:=Z34 h6 q;rw [hx] at k1;rw [hy] at k2;obtain ⟨k,rfl⟩:∃k:Nat,m=k:=⟨m.toNat,by omega⟩
 have hS:=h6.st;have hb':i.bytes*k≤281474976710656:=by
  have:((i.bytes*k:Nat):Int)≤281474976710656:=by rw [Int.natCast_mul];exact hb
  omega
 obtain ⟨w',r1,r2,r3⟩:=run_make_full (P:=c.P) (w:=w) 0 T e i u n hu hi hz hw .i64 .i64 k hb' (by unfold maxLen;omega) (Nat.zero_le _);have hd:(execOp a.eval ⟨dst,.makeSlice T p q,ty,pos,af,gd⟩).run c.P w = .ok (.value (.slice (some ⟨w.heap.size,0,none⟩) k k)) w':=by generalize a.eval=ρ at *;simp [execOp,show ρ p = .int .i64 k from k1,show ρ q = .int .i64 k from k2,r1]
 unfold Oper.wp;rw [hd];have hB:(madeCells u.cells (k*n)).toList=(List.replicate k u.cells.toList).flatten:=by rw [←hn];exact Z06 u.cells k
 have hf:u.cells.toList.length=n:=by simpa using hn
 have hv:=Zdf (Zr2 M.sl u.cells.toList) k;rw [hf] at hv;have h8:∀v∈u.cells.toList,v.oneCell'=true:=by
  have:∀l:List Value,Zx (l.map Z6)=true→∀v∈l,v.oneCell'=true:=by
   intro l;induction l with
   | nil=>simp
   | cons v l ih=>
     intro h u hu;simp only [List.map_cons,Zx,Zz1] at h;rcases List.mem_cons.1 hu with rfl | hu
     ·exact Zef h.1
     ·exact ih h.2 u hu
  exact this _ hc
 have hr:RelS c (M.addS (.slice (some ⟨w.heap.size,0,none⟩) k k)) S.bs (S.ss++[some (⟨e,n,List.replicate k (u.cells.toList.map Z6)⟩:Sl)]) w':=by
  refine RelS.grown (v:=.slice none 0 0) (vss:=List.replicate k u.cells.toList) hS rfl ?_ (.inl rfl) ?_ r3 (.inr fun g hg=>?_) hA hv ?_ ?_
  ·intro i N hi;exact ⟨hi,fun g hg=>by simp [Value.ownBlock] at hg⟩
  ·intro g hg;simp [Value.ownBlock] at hg
  ·simp [Value.ownBlock] at hg;omega
  ·intro v hv;simp only [List.mem_flatten,List.mem_replicate] at hv;obtain ⟨l,⟨_,rfl⟩,hv⟩:=hv;exact h8 v hv
  ·rw [←hB,List.length_replicate];exact r2
 refine ho _ w' _ (Mem.le_addS M _) (by simpa using hr) ?_;rw [Z12,←hS.ns];exact ⟨Nat.lt_succ_self _,by simp [Mem.addS]⟩
theorem Zgf {α:Type} {l':List α} {m:Int} {y:α} {d:Option Nat} {g:Option (Nat×Bool)} {l:List EOp} {e n b:Nat} {z:List AV} {p q:X} (f:α→List AV) (hv:mk_ b m y=some l') (hg:gm S g) (hx:S.x p = .iv m) (hy:S.x q = .iv m) (hz:f y=z) (h6:Zx z=true)
  (h:V c fn K (.ops l::k) ((⟨S.tm,S.bs,S.ss++[some ⟨e,n,l'.map f⟩]⟩:St).put d (.osl (Zw S.ss)))):V c fn K (.ops (⟨d,g,.mks e n b z p q⟩::l)::k) S:=by
 obtain ⟨rfl,h0,h1,h2⟩:=Zbf hv;rw [List.map_replicate,hz] at h;exact Z77 hg (Zff hx hy h0 h1 h2 h6) rfl h
theorem Zhf {n j:Nat} {x:X} {lo hi:Option X} {m:Int} {L:Sl} (hx:S.x x = .osl j) (hj:Zp S.ss j=some L) (E:L.n=n) (hB:bnd S lo 0=some 0) (hC:bnd S hi L.rows.length=some m) (h0:0≤m) (h1:m≤L.rows.length):
  Z67 c S (.slice n x lo hi) (.osl (Zw S.ss)) ⟨S.tm,S.bs,Zq S.ss j none++[some ⟨L.T,n,L.rows.take m.toNat⟩]⟩:=by
 subst E;intro ro hd M a w hc next Q hD
 obtain ⟨dst,op,ty,pos,af,gd⟩:=ro;dsimp only at hd;obtain ⟨T,y,l,h,e,rfl,hu,hs,rfl,rfl,rfl⟩:=Zdd hd;have hS:=hc.st;have k1:=Z34 hc y;rw [hx] at k1;obtain ⟨g0,vss,q1,q2,q3,q4⟩:=hS.slc j L hj;have hf:∀(o:Option Operand) (z r:Int),bnd S (o.map cX) z=some r→match o with | none=>r=z | some o=>a.eval o = .int .i64 r:=by
  intro o z r hb;cases o with
  | none=>simpa [bnd] using hb.symm
  | some o=>
    simp only [Option.map_some,bnd] at hb;have:=Z34 hc o;split at hb
    ·rename_i n' hn';rw [hn'] at this;simp at hb;subst hb;exact this
    ·simp at hb
 have e1:=hf l 0 0 hB;have e2:=hf h L.rows.length m hC;obtain ⟨hE,hG⟩:=Zpe q1;have hw:∃v',(execOp a.eval ⟨dst,.slice T y l h none,ty,pos,af,gd⟩).run c.P w = .ok (.value v') w∧v'.ownBlock=(M.σ j).ownBlock∧w.ownsRow 0 L.T L.n v' (L.rows.take m.toNat).length (vss.take m.toNat).flatten:=by
  have h8:(L.rows.take m.toNat).length=m.toNat:=by rw [List.length_take];omega
  have hA:(vss.take m.toNat).flatten=vss.flatten.take (m.toNat*L.n):=by
   have:∀(q:List (List Value)) (k:Nat),(∀v∈q,v.length=L.n)→(q.take k).flatten=q.flatten.take (k*L.n):=by
    intro q;induction q with
    | nil=>intro k _;simp
    | cons v q ih=>
      intro k hq;cases k with
      | zero=>simp
      | succ k=>have hv:=hq v (by simp);rw [List.take_succ_cons,List.flatten_cons,List.flatten_cons,ih k fun u hu=>hq u (by simp [hu]),show (k+1)*L.n=v.length+k*L.n by rw [hv,Nat.add_mul];omega,List.take_length_add_append]
   exact this vss m.toNat hE
  have h9:(vss.take m.toNat).flatten.length=m.toNat*L.n:=by have:=Zza (Zfd q1 0 m.toNat);simp only [List.drop_zero] at this;rw [this,h8]
  rcases q3.2 with ⟨r1,r2⟩ | ⟨g,cap,cur,r1,r2,r3,r4,r5,r6,r7⟩
  ·have hm:m=0:=by omega
   subst hm;have h6:=Zed (P:=c.P) (w:=w) hu hs (ρ:=a.eval) (ad:=none) (len:=0) (cp:=0) (lo:=0) (hi:=0) (k1.2.trans r1) (Nat.le_refl _) e1 (by rw [r2] at e2;exact e2) (by omega) (by omega) (by omega) dst ty pos af gd;refine ⟨_,h6,by rw [r1];simp [Value.ownBlock],⟨by rw [h9,h8],.inl ⟨by simp,by simp⟩⟩⟩
  ·have h6:=Zed (P:=c.P) (w:=w) hu hs (ρ:=a.eval) (ad:=some ⟨g,0,none⟩) (len:=L.rows.length) (cp:=cap) (lo:=0) (hi:=m) (k1.2.trans r1) r4 e1 e2 (by omega) h0 h1 dst ty pos af gd;refine ⟨_,h6,by rw [r1];simp only [Option.map];split<;>simp [Value.ownBlock,Addr.add],⟨by rw [h9,h8],.inr ⟨g,cap,cur,?_,r2,r3,by rw [h8];omega,r5,r6,?_⟩⟩⟩
   ·rw [h8];simp only [Option.map,Int.toNat_zero,Nat.zero_mul,Nat.sub_zero];split<;>simp [Addr.add]
   ·rw [h8,hA,←r7,List.take_take,Nat.min_eq_left (Nat.mul_le_mul_right _ (by omega))]
 obtain ⟨v',h6,hb,ho⟩:=hw;unfold Oper.wp;rw [h6];have hr:RelS c (M.addS v') S.bs (Zq S.ss j none++[some (⟨L.T,L.n,L.rows.take m.toNat⟩:Sl)]) w:=by
  refine RelS.grown (v:=M.σ j) (vss:=vss.take m.toNat) hS (Z72 _ _ _) ?_ (.inr fun i B hi=>hS.d2 i j B L hi hj) q4 ⟨rfl,rfl,rfl,Nat.le_refl _,fun _ _ _=>rfl⟩ (.inl hb) g0 (by have:=Zfd q1 0 m.toNat;simpa using this) ?_ ho
  ·intro i N hi;rw [Z62] at hi;split at hi
   ·simp at hi
   ·rename_i e;refine ⟨hi,fun g hg e2=>e ⟨?_,Z82 hj⟩⟩;exact hS.d3 i j N L g hi hj e2 hg
  ·intro v hv;simp only [List.mem_flatten] at hv;obtain ⟨r,hr,hv⟩:=hv;exact q2 v (List.mem_flatten.2 ⟨r,List.mem_of_mem_take hr,hv⟩)
 refine hD _ w _ (Mem.le_addS M _) hr ?_;rw [Z12,←hS.ns];exact ⟨Nat.lt_succ_self _,by simp [Mem.addS]⟩
theorem Zif {α:Type} {l' v:List α} {m:Int} {d:Option Nat} {g:Option (Nat×Bool)} {l:List EOp} {T n j:Nat} {x:X} {lo hi:Option X} (f:α→List AV) (hv:Z8c l' 0 m=some v) (hg:gm S g) (hx:S.x x = .osl j) (hj:Zp S.ss j=some ⟨T,n,l'.map f⟩) (h6:bnd S lo 0=some 0) (h8:bnd S hi (ln f l')=some m)
  (h:V c fn K (.ops l::k) ((⟨S.tm,S.bs,Zq S.ss j none++[some ⟨T,n,v.map f⟩]⟩:St).put d (.osl (Zw S.ss)))):V c fn K (.ops (⟨d,g,.slice n x lo hi⟩::l)::k) S:=by
 unfold Z8c at hv;split at hv
 ·rename_i h1;simp at hv;subst hv;rw [List.map_take] at h;exact Z77 hg (Zhf hx hj rfl h6 h8 h1.2.1 (by simpa using h1.2.2)) rfl h
 ·simp at hv
theorem Zjf {n:Nat} {x:X} {lo hi:Option X} (hx:S.x x = .nl) (hd:bnd S lo 0=some 0) (hf:bnd S hi 0=some 0):Z67 c S (.slice n x lo hi) .nl S:=by
 intro ro h8 M a w h6 next Q hn
 obtain ⟨dst,op,ty,pos,af,gd⟩:=ro;dsimp only at h8;obtain ⟨T,y,l,h,e,rfl,hu,hs,rfl,rfl,rfl⟩:=Zdd h8;have k1:=Z34 h6 y;rw [hx] at k1;have h9:∀(o:Option Operand) (z r:Int),bnd S (o.map cX) z=some r→match o with | none=>r=z | some o=>a.eval o = .int .i64 r:=by
  intro o z r hb;cases o with
  | none=>simpa [bnd] using hb.symm
  | some o=>
    simp only [Option.map_some,bnd] at hb;have:=Z34 h6 o;split at hb
    ·rename_i n' hn';rw [hn'] at this;simp at hb;subst hb;exact this
    ·simp at hb
 have hc:=Zed (P:=c.P) (w:=w) hu hs (ρ:=a.eval) (ad:=none) (len:=0) (cp:=0) (lo:=0) (hi:=0) k1 (Nat.le_refl _) (h9 l 0 0 hd) (h9 h 0 0 hf) (by omega) (by omega) (by omega) dst ty pos af gd;unfold Oper.wp;rw [hc];exact hn M w _ (.refl M) h6.st (by simp [AV.is])
theorem Zkf {d:Option Nat} {g:Option (Nat×Bool)} {l:List EOp} {n:Nat} {x:X} {lo hi:Option X} (hg:gm S g) (hx:S.x x = .nl) (h6:bnd S lo 0=some 0) (h8:bnd S hi 0=some 0) (h:V c fn K (.ops l::k) (S.put d .nl)):V c fn K (.ops (⟨d,g,.slice n x lo hi⟩::l)::k) S:=Z77 hg (Zjf hx h6 h8) rfl h
theorem Zlf {P:Program} {op:Op} {x:X} (E:cO P op = .cap x):∃q ats t0 e,op = .call ⟨.builtin .cap, #[q],ats⟩∧ats[0]?=some t0∧P.underlying t0=some (.slice e)∧cX q=x:=by
 cases op
 case call ci=>
  obtain ⟨callee,cargs,argTypes⟩:=ci;cases callee with
  | value o=>
    cases o with
    | func f'=>simp only [cO] at E;(repeat' (split at E))<;>simp at E
    | _=>simp [cO] at E
  | invoke _ _=>simp [cO] at E
  | builtin b=>
    cases b
    case cap=>
     simp only [cO] at E;split at E
     ·rename_i t0 q h1 h2;split at E
      ·rename_i e hu;simp only [EO.cap.injEq] at E;have e1:cargs = #[q]:=by apply Array.ext';simpa using h2
       subst e1;exact ⟨q,argTypes,t0,e,rfl,h1,hu,E⟩
      ·simp at E
     ·simp at E
    all_goals (simp only [cO] at E;(repeat' (split at E))<;>simp at E)
 all_goals (simp only [cO] at E;(repeat' (split at E))<;>simp at E)
theorem Zmf {x:X} (hx:S.x x = .nl):Z67 c S (.cap x) (.iv 0) S:=by
 intro ro h6 M a w h8 next Q hc
 obtain ⟨dst,op,ty,pos,af,gd⟩:=ro;dsimp only at h6;obtain ⟨q,ats,t0,e,rfl,h0,hu,rfl⟩:=Zlf h6;have k1:=Z34 h8 q;rw [hx] at k1;simp only [AV.is] at k1;have h9:(execOp a.eval ⟨dst,.call ⟨.builtin .cap, #[q],ats⟩,ty,pos,af,gd⟩).run c.P w = .ok (.value (.int .i64 0)) w:=by generalize a.eval=ρ at *;simp [execOp,resolve,invoke,builtin,Builtin.cap_,h0,run_underlying hu,k1];rfl
 unfold Oper.wp;rw [h9];exact hc M w _ (.refl M) h8.st rfl
theorem Znf {d:Option Nat} {g:Option (Nat×Bool)} {l:List EOp} {x:X} (hg:gm S g) (hx:S.x x = .nl) (h:V c fn K (.ops l::k) (S.put d (.iv 0))):V c fn K (.ops (⟨d,g,.cap x⟩::l)::k) S:=Z77 hg (Zmf hx) rfl h
theorem Zof {P:Program} {op:Op} {e n b:Nat} {z:List AV} {x y:X} (E:cO P op = .apz e n b z x y):
  ∃t tn k p q i u,op = .call ⟨.builtin .append, #[p,q], #[t,tn]⟩∧P.underlying t=some (.slice e)∧P.underlying tn=some (.int k)∧P.info? e=some i∧i.zero=some u∧u.cells.size=n∧i.size=n∧0<n∧i.bytes=b∧z=u.cells.toList.map Z6∧cX p=x∧cX q=y:=by
 cases op
 case call ci=>
  obtain ⟨callee,cargs,argTypes⟩:=ci;cases callee with
  | value o=>
    cases o with
    | func f'=>simp only [cO] at E;(repeat' (split at E))<;>simp at E
    | _=>simp [cO] at E
  | invoke _ _=>simp [cO] at E
  | builtin b=>
    cases b
    case append=>
     simp only [cO] at E;split at E
     ·rename_i t0 t1 p q h1 h2;split at E
      ·(repeat' (split at E))<;>simp at E
      ·split at E
       ·rename_i e' k hu hk;split at E
        ·rename_i i hi;split at E
         ·rename_i u hz;split at E
          ·rename_i hs;simp only [EO.apz.injEq] at E;obtain ⟨rfl,rfl,rfl,rfl,rfl,rfl⟩:=E;have e1:cargs = #[p,q]:=by apply Array.ext';simpa using h2
           have e2:argTypes = #[t0,t1]:=by apply Array.ext';simpa using h1
           subst e1;subst e2;exact ⟨t0,t1,k,p,q,i,u,rfl,hu,hk,hi,hz,hs.1,rfl,hs.2,rfl,rfl,rfl,rfl⟩
          ·simp at E
         ·simp at E
        ·simp at E
       ·simp at E
     ·simp at E
    all_goals (simp only [cO] at E;(repeat' (split at E))<;>simp at E)
 all_goals (simp only [cO] at E;(repeat' (split at E))<;>simp at E)
def Zpf {α:Type} (b:Nat) (n:Int) (z:α):Option (List α):=if 0<n∧n*b≤140737488355328∧n≤9223372036854775807 then some (List.replicate n.toNat z) else none
theorem Zqf {e n b:Nat} {z:List AV} {x y:X} {m:Int} (hx:S.x x = .nl) (hy:S.x y = .iv m) (h0:0<m) (hb:m*b≤140737488355328) (hB:m≤9223372036854775807) (hf:Zx z=true):
  Z67 c S (.apz e n b z x y) (.osl (Zw S.ss)) ⟨S.tm,S.bs,S.ss++[some ⟨e,n,List.replicate m.toNat z⟩]⟩:=by
 intro ro hd M a w h8 next Q hC
 obtain ⟨dst,op,ty,pos,af,gd⟩:=ro;dsimp only at hd;obtain ⟨t,tn,kk,p,q,i,u,rfl,hu,hk,hi,hz,hn,hG,hD,rfl,rfl,rfl,rfl⟩:=Zof hd;have k1:=Z34 h8 p;have k2:=Z34 h8 q;rw [hx] at k1;rw [hy] at k2;simp only [AV.is] at k1 k2;obtain ⟨k,rfl⟩:∃k:Nat,m=k:=⟨m.toNat,by omega⟩
 have hS:=h8.st;have hb':k*i.bytes≤140737488355328:=by
  have:((k*i.bytes:Nat):Int)≤140737488355328:=by rw [Int.natCast_mul];exact hb
  omega
 have r1:=Lib.run_append_nil_zeros (P:=c.P) w t tn ty e i u .i64 kk hu hk hi hz k (by omega) (by omega) hB (by omega);have ho:(execOp a.eval ⟨dst,.call ⟨.builtin .append, #[p,q], #[t,tn]⟩,ty,pos,af,gd⟩).run c.P w = .ok (.value (.slice (some ⟨w.heap.size,0,none⟩) k (grownCap w k 0 e))) (w.drew.alloc (.cells (Builtin.zeroCells u.cells k++Builtin.zeroCells u.cells (grownCap w k 0 e-k)) e)):=by generalize a.eval=ρ at *;simp [execOp,resolve,invoke,builtin,k1,k2,r1]
 unfold Oper.wp;rw [ho];have h9:∀k,(Builtin.zeroCells u.cells k).toList=(List.replicate k u.cells.toList).flatten:=fun k=>Z06 u.cells k;have hw:u.cells.toList.length=n:=by simpa using hn
 have hv:=Zdf (Zr2 M.sl u.cells.toList) k;rw [hw] at hv;have hc:∀v∈u.cells.toList,v.oneCell'=true:=by
  have:∀l:List Value,Zx (l.map Z6)=true→∀v∈l,v.oneCell'=true:=by
   intro l;induction l with
   | nil=>simp
   | cons v l ih=>
     intro h u hu;simp only [List.map_cons,Zx,Zz1] at h;rcases List.mem_cons.1 hu with rfl | hu
     ·exact Zef h.1
     ·exact ih h.2 u hu
  exact this _ hf
 have hE:=grownCap_ge w k 0 e;have hA:=grownCap_le_maxLen w k 0 e (by unfold maxLen;omega);have h6:∀q,(Builtin.zeroCells u.cells q).size=q*n:=by intro q;simp [Builtin.zeroCells,hn]
 have hg:w.grownBy (w.drew.alloc (.cells (Builtin.zeroCells u.cells k++Builtin.zeroCells u.cells (grownCap w k 0 e-k)) e)) none:=by
  refine ⟨rfl,rfl,rfl,?_,fun j hj _=>?_⟩
  ·show w.heap.size≤(w.heap.push _).size;simp
  ·show (w.heap.push _)[j]?=_;rw [Array.getElem?_push,if_neg (by omega)]
 have hr:RelS c (M.addS (.slice (some ⟨w.heap.size,0,none⟩) k (grownCap w k 0 e))) S.bs (S.ss++[some (⟨e,n,List.replicate k (u.cells.toList.map Z6)⟩:Sl)]) (w.drew.alloc (.cells (Builtin.zeroCells u.cells k++Builtin.zeroCells u.cells (grownCap w k 0 e-k)) e)):=by
  refine RelS.grown (v:=.slice none 0 0) (vss:=List.replicate k u.cells.toList) hS rfl ?_ (.inl rfl) ?_ hg (.inr fun g hg=>?_) hD hv ?_ ?_
  ·intro i N hi;exact ⟨hi,fun g hg=>by simp [Value.ownBlock] at hg⟩
  ·intro g hg;simp [Value.ownBlock] at hg
  ·simp [Value.ownBlock] at hg;omega
  ·intro v hv;simp only [List.mem_flatten,List.mem_replicate] at hv;obtain ⟨l,⟨_,rfl⟩,hv⟩:=hv;exact hc v hv
  ·rw [List.length_replicate];refine ⟨by rw [←h9];simp [h6],.inr ⟨w.heap.size,grownCap w k 0 e,Builtin.zeroCells u.cells k++Builtin.zeroCells u.cells (grownCap w k 0 e-k),rfl,Nat.zero_le _,?_,hE,hA,?_,?_⟩⟩
   ·show (w.heap.push _)[w.heap.size]?=_;rw [Array.getElem?_push,if_pos rfl]
   ·rw [Array.size_append,h6,h6,←Nat.add_mul];congr 1;omega
   ·rw [Array.toList_append,h9,List.take_left'];rw [←h9];simp [h6]
 refine hC _ _ _ (Mem.le_addS M _) (by simpa using hr) ?_;rw [Z12,←hS.ns];exact ⟨Nat.lt_succ_self _,by simp [Mem.addS]⟩
theorem Zrf {α:Type} {l':List α} {m:Int} {y:α} {d:Option Nat} {g:Option (Nat×Bool)} {l:List EOp} {e n b:Nat} {z:List AV} {p q:X} (f:α→List AV) (hv:Zpf b m y=some l') (hg:gm S g) (hx:S.x p = .nl) (hy:S.x q = .iv m) (hz:f y=z) (h6:Zx z=true)
  (h:V c fn K (.ops l::k) ((⟨S.tm,S.bs,S.ss++[some ⟨e,n,l'.map f⟩]⟩:St).put d (.osl (Zw S.ss)))):V c fn K (.ops (⟨d,g,.apz e n b z p q⟩::l)::k) S:=by
 unfold Zpf at hv;split at hv
 ·rename_i h1;simp at hv;subst hv;rw [List.map_replicate,hz] at h;exact Z77 hg (Zqf hx hy h1.1 h1.2.1 h1.2.2 h6) rfl h
 ·simp at hv
section
variable {all:Array Oper} {ops:List EOp} {af:List (List Nat)} {Φ:St→Prop} {m:Nat} {ld:List Bool}
theorem Zsf (h6:all.toList.mapM (Ze c.P all)=some ops) {i:Nat} {α:Type} {l':List α} {z:Int} {v:α} {T n j:Nat} {x y:X} (f:α→List AV) (hv:at_ l' z=some v) (E:(Zy1 ops i).o = .idx n x y) (hg:gm S (Zy1 ops i).g) (hx:S.x x = .osl j) (hi:S.x y = .iv z) (hj:Zp S.ss j=some ⟨T,n,l'.map f⟩)
  (h:G c all ops af Φ m (Zu1 ld i) (S.put (Zy1 ops i).d (.oel j (z.toNat*n) 0))):GO c all ops af Φ m ld S i:=by
 obtain ⟨h0,hr⟩:=Zgc hv;have:=(List.getElem?_eq_some_iff.1 hr).1;exact Zpa h6 hg (by rw [E];exact Zbe hx hi hj rfl h0 (by simp;omega)) rfl (Z7a _ _) h
theorem Ztf (h6:all.toList.mapM (Ze c.P all)=some ops) {i:Nat} {α:Type} {l':List α} {z:Int} {y:α} {j T n off:Nat} {x:X} {v:AV} (f:α→List AV) (hv:at_ l' z=some y) (E:(Zy1 ops i).o = .load x) (hg:gm S (Zy1 ops i).g) (hx:S.x x = .oel j (z.toNat*n) off) (hj:Zp S.ss j=some ⟨T,n,l'.map f⟩)
  (hl:Zt (f y) off 1=some [v]) (h:G c all ops af Φ m (Zu1 ld i) (S.put (Zy1 ops i).d v)):GO c all ops af Φ m ld S i:=
 Zpa h6 hg (by rw [E];exact Zje hx hj rfl (Zhc (Zgc hv).2) hl) rfl (Z7a _ _) h
theorem Zuf (h6:all.toList.mapM (Ze c.P all)=some ops) {i:Nat} {α:Type} {l':List α} {z:Int} {y y':α} {j T n off q:Nat} {x v:X} {cs0:List AV} (cs:List AV) (f:α→List AV) (hv:at_ l' z=some y) (E:(Zy1 ops i).o = .store q x v) (hg:gm S (Zy1 ops i).g) (hx:S.x x = .oel j (z.toNat*n) off) (hj:Zp S.ss j=some ⟨T,n,l'.map f⟩)
  (h8:(S.x v).cells=some cs0) (h9:AV.le.leL cs0 cs) (hm:Zw cs=q) (h1:Zx cs=true) (hp:puL cs=true) (hl:Zv (f y) off cs=some (f y'))
  (h:G c all ops af Φ m (Zu1 ld i) ((⟨S.tm,S.bs,Zq S.ss j (some ⟨T,n,(l'.set z.toNat y').map f⟩)⟩:St).put (Zy1 ops i).d .un)):GO c all ops af Φ m ld S i:=by
 refine Zpa (S1:=⟨S.tm,S.bs,Zq S.ss j (some ⟨T,n,(l'.set z.toNat y').map f⟩)⟩) h6 hg ?_ rfl (by rw [E];exact fun _ _ _ _ h _ _=>h) h;rw [E,List.map_set];exact Zte hx hj rfl (Zhc (Zgc hv).2) h8 h9 hm h1 (Zse hp) hl
theorem Zvf (h6:all.toList.mapM (Ze c.P all)=some ops) {i:Nat} {α:Type} {l':List α} {z:Int} {y y':α} {j T n off q:Nat} {x v:X} {cs0:List AV} (cs:List AV) (f:α→List AV) (hv:at_ (l'.set z.toNat y) z=some y) (E:(Zy1 ops i).o = .store q x v) (hg:gm S (Zy1 ops i).g) (hx:S.x x = .oel j (z.toNat*n) off) (hj:Zp S.ss j=some ⟨T,n,(l'.set z.toNat y).map f⟩)
  (h8:(S.x v).cells=some cs0) (h9:AV.le.leL cs0 cs) (hm:Zw cs=q) (h1:Zx cs=true) (hp:puL cs=true) (hl:Zv (f y) off cs=some (f y'))
  (h:G c all ops af Φ m (Zu1 ld i) ((⟨S.tm,S.bs,Zq S.ss j (some ⟨T,n,(l'.set z.toNat y').map f⟩)⟩:St).put (Zy1 ops i).d .un)):GO c all ops af Φ m ld S i:=
 Zuf h6 cs f hv E hg hx hj h8 h9 hm h1 hp hl (by rw [List.set_set];exact h)
end
end
section
variable {c:Ctx} {S:St} {fn:Func} {K:AV→List (Option Blk)→List (Option Sl)→Prop} {k:List It}
theorem Zwf (t:Nat) (y:AV) (hle:AV.le (Zn S.tm t) y) (h:V c fn K k ⟨Zo S.tm t y,S.bs,S.ss⟩):V c fn K k S:=by
 intro rk M a w hc hT;refine h rk M a w hc ⟨by rw [Z32];exact hT.len,fun u=>?_,hT.df,hT.st⟩;rw [Z22];split
 ·rename_i e;obtain ⟨rfl,_⟩:=e;exact Zg6 _ _ _ hle (hT.tm u)
 ·exact hT.tm u
theorem Zxf (T n:Nat) (E:Z5 1 n=true) (h:V c fn K k ⟨S.tm,S.bs,S.ss++[some ⟨T,n,[]⟩]⟩):V c fn K k S:=by intro rk M a w hc hT;have hS:=hT.st;rw [Z02] at E;have hr:=hS.name ⟨T,n,[]⟩ (.slice none 0 0) [] E rfl (by simp) (World.ownsRow_nil w 0 T n) (fun g hg=>by simp [Value.ownBlock] at hg) (fun i B _=>by simp [Value.ownBlock]) (fun j N g _ hg=>by simp [Value.ownBlock] at hg);exact h rk _ a w hc ⟨hT.len,fun u=>Zn2 (Mem.le_addS M (.slice none 0 0)) _ _ (hT.tm u),hT.df,hr⟩
theorem Zyf {all:Array Oper} {ops:List EOp} {af:List (List Nat)} {Φ:St→Prop} {m:Nat} {ld:List Bool} (E:AV) (h6:all.toList.mapM (Ze c.P all)=some ops) {i:Nat} {v:AV} {S1:St} {q:Prop} (he:geO S (Zy1 ops i)=some (v,S1,q)) (hq:q) (hle:AV.le v E)
  (h:G c all ops af Φ m (Zu1 ld i) (S1.put (Zy1 ops i).d E)):GO c all ops af Φ m ld S i:=by
 unfold geO at he;split at he
 ·rename_i hg;exact .inr ⟨Zea hg,E,S1,fun ro h8 M a w hT next Q hn=>Z87 he hq ro (Z69 (Z79 h6 h8)).2 M a w hT next Q fun M' w' x h1 h2 h3=>hn M' w' x h1 h2 (Zg6 _ _ _ hle h3),(Zsa he).1,.inl (Zsa he).2,h⟩
 ·simp at he
end
end NX
end Go.Proofs.YtgamgemlekpepaaGreat
/-
  From what a machine computes to what a row says: arguments as data, and what is left of them. No statement of the seat is proved here.
-/
namespace Go.Proofs.YtgamgemlekpepaaGreat
namespace NX
open Go Go.RowKit Go.ChangeShapes Go.WideShapes
def Opn (P:Program) (t:TypeId) {α:Type} (row:α→List AV):Prop:=
 ∀ {H:Type} (enc:TypeId×Value→H) (w:World) (base:Nat) (sp:Nat→Bool) (h6:Bool) (fuel:Nat) (cs:List Value) (x:DataW H×List MemPlace),
   DataW.trod enc P w base sp h6 fuel t cs=some x→∃v:α,AV.isL (Z2 fun k=>w.heap[k]?) (row v) cs
theorem Zzf {P:Program} {t:TypeId} (ht:P.underlying t=some (.int .i64)):Opn P t Z3d:=by intro H enc w base sp h6 fuel cs x h;obtain ⟨n,rfl,_,_⟩:=DataW.trod_int ht h;exact ⟨n,_,_,rfl,rfl,rfl⟩
theorem cells?_get {w:World} {E:Nat} {a:Addr} {n:Nat} {l:List Value} (h:w.cells? E a n=some l):l.length=n∧∀i v,l[i]?=some v→w.cell? (a.add i)=some v:=by
 unfold World.cells? at h;split at h
 ·obtain ⟨h1,h2⟩:=Zt5 h;refine ⟨by simpa using h1,fun i v hv=>?_⟩;have h6:i<n:=by have:=(List.getElem?_eq_some_iff.1 hv).1;simp at h1;omega
  obtain ⟨y,hy1,h8⟩:=h2 i i (by simp [h6]);rw [hv] at hy1;simp at hy1;subst hy1;exact h8
 ·simp at h
theorem cell?_none {w:World} {a:Addr} {v:Value} (h:w.cell? a=some v):a.spot=none∧∃cs T fr,w.heap[a.block]?=some (.cells cs T fr)∧cs[a.off]?=some v:=by
 unfold World.cell? at h;split at h
 ·rename_i cs T fr hc;split at h
  ·simp at h
  ·rename_i hs;exact ⟨by cases h6:a.spot<;>simp_all,cs,T,fr,hc,h⟩
 ·simp at h
theorem Z0g {M:Mem} {l:List AV} {vs:List Value} (h:AV.isL M l vs) (hp:Zx l=true) (E:puL l=true):∀v∈vs,v.oneCell'=true:=by
 induction l generalizing vs with
 | nil=>simp [AV.isL] at h;subst h;simp
 | cons x l ih=>
   obtain ⟨v,r,rfl,h1,h2⟩:=h;simp only [Zx,Zz1] at hp;simp only [puL,Zz1] at E;intro u hu;rcases List.mem_cons.1 hu with rfl | hu
   ·exact Zs2 h1 hp.1 (fun j e=>by subst e;simp [AV.pu] at E)
   ·exact ih h2 hp.2 E.2 u hu
theorem Z1g (a:Addr) (i k:Nat) (ha:a.spot=none):(a.add i).add k=⟨a.block,a.off+i+k,none⟩:=by obtain ⟨b,o,sp⟩:=a;dsimp only at ha;subst ha;simp [Addr.add];split<;>split<;>simp_all [Nat.add_assoc]
theorem Z2g {P:Program} {t e:TypeId} {n:Nat} {α:Type} {row:α→List AV} (ht:P.underlying t=some (.slice e)) (E:P.cellsOf e=n) (hB:0<n) (h8:∀v,(row v).length=n∧Zx (row v)=true∧puL (row v)=true) (he:Opn P e row):Opn P t (Z7d n row):=by
 intro H enc w base sp hC fuel cs x h;rcases DataW.trod_slice ht h with ⟨rfl,_⟩ | ⟨a,len,cap,elems,rest,m,_,rfl,_,hb,hE,hP,hQ,h9,_,_⟩
 ·exact ⟨[],_,_,rfl,⟨none,0,rfl,⟨Nat.le_refl _,fun _=>rfl⟩,fun hne=>absurd rfl hne⟩,rfl⟩
 ·rw [E] at h9;have each:∀i,i<len→∃v:α,∃l,w.cells? base (a.add (i*n)) n=some l∧AV.isL (Z2 fun k=>w.heap[k]?) (row v) l:=by
   intro i hi;have hg:=h9 i hi;have hf:∃y,elems[i]?=some y:=⟨_,List.getElem?_eq_getElem (by omega)⟩
   obtain ⟨y,hy⟩:=hf;rw [hy,Option.bind_eq_some_iff] at hg;obtain ⟨l,hl,hd⟩:=hg;obtain ⟨v,hv⟩:=he enc w base sp hC m l y hd;exact ⟨v,l,hl,hv⟩
  have build:∀k,k≤len→∃(vs:List α) (vss:List (List Value)),vs.length=k∧AV.isLL (Z2 fun k=>w.heap[k]?) n (vs.map row) vss∧(∀v∈vss.flatten,v.oneCell'=true)∧
    ∀j u,vss.flatten[j]?=some u→∃i q,i<k∧q<n∧j=i*n+q∧w.cell? ((a.add (i*n)).add q)=some u:=by
   intro k;induction k with
   | zero=>intro _;exact ⟨[],[],rfl,rfl,by simp,by simp⟩
   | succ k ih=>
     intro hk;obtain ⟨vs,vss,h1,h2,h3,h4⟩:=ih (by omega);obtain ⟨v,l,hl,hv⟩:=each k (by omega);obtain ⟨hG,hI⟩:=cells?_get hl;refine ⟨vs++[v],vss++[l],by simp [h1],?_,?_,?_⟩
     ·rw [List.map_append];exact Zya h2 ⟨l,[],rfl,hG,hv,rfl⟩
     ·intro u hu;rw [List.flatten_append,List.mem_append] at hu;rcases hu with hu | hu
      ·exact h3 u hu
      ·exact Z0g hv (h8 v).2.1 (h8 v).2.2 u (by simpa using hu)
     ·intro j u hj;have ho:vss.flatten.length=k*n:=by have:=Zza h2;simpa [h1] using this
      rw [List.flatten_append] at hj;by_cases hJ:j<vss.flatten.length
      ·rw [List.getElem?_append_left hJ] at hj;obtain ⟨i,q,g1,g2,g3,g4⟩:=h4 j u hj;exact ⟨i,q,by omega,g2,g3,g4⟩
      ·rw [List.getElem?_append_right (by omega),ho] at hj;simp only [List.flatten_cons,List.flatten_nil,List.append_nil] at hj;have hq:=(List.getElem?_eq_some_iff.1 hj).1;exact ⟨k,j-k*n,by omega,by omega,by omega,hI _ _ hj⟩
  obtain ⟨vs,vss,h1,h2,h3,h4⟩:=build len (Nat.le_refl _);refine ⟨vs,_,[],rfl,⟨some a,cap,by simp [h1],⟨by simpa [h1] using hE,fun h=>by simp at h⟩,fun hne=>⟨a,vss,rfl,h2,?_⟩⟩,rfl⟩;have hD:0<len:=by
   rcases Nat.eq_zero_or_pos len with h0 | h0
   ·exfalso;apply hne;rw [List.map_eq_nil_iff];exact List.length_eq_zero_iff.1 (by omega)
   ·exact h0
  have ho:vss.flatten.length=len*n:=by have:=Zza h2;simpa [h1] using this
  have hO:0<len*n:=Nat.mul_pos hD hB;obtain ⟨u0,hK⟩:∃u,vss.flatten[0]?=some u:=⟨_,List.getElem?_eq_getElem (by omega)⟩
  obtain ⟨i0,q0,_,_,e0,g0⟩:=h4 0 u0 hK;have hL:i0*n=0:=by omega
  have hN:q0=0:=by omega
  rw [hL,hN] at g0;have hw:a.spot=none:=(cell?_none (a:=a) (by simpa [Addr.add] using g0)).1;obtain ⟨_,cs0,T0,fr0,hc,_⟩:=cell?_none (a:=a) (by simpa [Addr.add] using g0);refine ⟨hw,h3,cs0,T0,fr0,hc,fun j u hj=>?_⟩;obtain ⟨i,q,g1,g2,g3,g4⟩:=h4 j u hj;rw [Z1g a _ _ hw] at g4;obtain ⟨_,cs1,T1,fr1,h6,hA⟩:=cell?_none g4;dsimp only at h6 hA;rw [hc] at h6;simp only [Option.some.injEq,Obj.cells.injEq] at h6;obtain ⟨rfl,_,_⟩:=h6;rw [g3,←Nat.add_assoc];exact hA
theorem Z3g {P:Program} {t:TypeId} {α:Type} {row:α→List AV} (ho:Opn P t row) {Y:Array Field} (ht:P.underlying t=some (.struct Y)) {H:Type} {enc:TypeId×Value→H} {w:World} {U:Nat} {r:Reach} {E:Nat} {J:Nat→Bool} {h6:Bool} {v:Value} {d:DataW H} {ps:List MemPlace}
  (hv:Value.okWide P w r U t v) (Z:DataW.Trod enc P w E J h6 t v d ps):∃x:α,AV.is (Z2 fun k=>w.heap[k]?) (.agg (row x)) v:=by
 obtain ⟨fuel,hf⟩:=Z;obtain ⟨x,hx⟩:=ho enc w E J h6 fuel _ _ hf;unfold Value.okWide at hv;rw [ht] at hv;obtain ⟨cs,rfl,_,_⟩:=hv;exact ⟨x,cs.toList,by simp,hx⟩
theorem Z4g {P:Program} {H:Type} {enc:TypeId×Value→H} (hl:laidOutB P=true) {W U:World} (Y:Below W.heap.size W U):∀ {E:List TypeId} {vs:List Value} {J:List (DataW H)} {ps:List MemPlace},
  (E.all fun t=>P.readableRec t&&decide (t<P.types.size))=true→DataW.TrodAll enc P W 0 (fun _=>true) true E vs J ps→(∀x∈ps,x.block<W.heap.size)→
  DataW.TrodAll enc P U 0 (fun b=>decide (b<W.heap.size)) true E vs J ps
 | [],[],[],ps,_,h,_=>h
 | t::E,v::vs,d::J,ps,hr,⟨p,q,h1,h2,e⟩,h6=>by simp only [List.all_cons,Bool.and_eq_true,decide_eq_true_eq] at hr;subst e;exact ⟨p,q,Below.trod hl hr.1.1 hr.1.2 h1 Y (fun x hx=>h6 x (List.mem_append_left _ hx)),Z4g hl Y (by simpa using hr.2) h2 (fun x hx=>h6 x (List.mem_append_right _ hx)),rfl⟩
 | [],_::_,_,_,_,h,_=>by simp [DataW.TrodAll] at h
 | [],[],_::_,_,_,h,_=>by simp [DataW.TrodAll] at h
 | _::_,[],_,_,_,h,_=>by simp [DataW.TrodAll] at h
 | _::_,_::_,[],_,_,h,_=>by simp [DataW.TrodAll] at h
theorem Z5g {P:Program} {H:Type} {enc:TypeId×Value→H} {w:World} {b:Nat} {U:Nat→Bool} {h6:Bool}:∀ {E:List TypeId} {vs:List Value} {J:List (DataW H)} {ps:List MemPlace},DataW.TrodAll enc P w b U h6 E vs J ps→J.length=E.length∧vs.length=E.length
 | [],[],[],_,_=>⟨rfl,rfl⟩
 | _::_,_::_,_::_,_,⟨_,_,_,h,_⟩=>by have:=Z5g h;simp [this]
 | [],_::_,_,_,h=>by simp [DataW.TrodAll] at h
 | [],[],_::_,_,h=>by simp [DataW.TrodAll] at h
 | _::_,[],_,_,h=>by simp [DataW.TrodAll] at h
 | _::_,_::_,[],_,h=>by simp [DataW.TrodAll] at h
theorem Z6g {P:Program} {fn:Func} {s:ChangeSpec} (hl:laidOutB P=true) (hr:(fn.params.toList.all fun t=>P.readableRec t&&decide (t<P.types.size))=true) (hv:s.vars=[]) {Y:TypeId} (h6:fn.resultTypes = #[Y]) (hb:P.underlying Y=some .bool)
  {H:Type} {enc:TypeId×Value→H} {W U:World} {args:Array Value} {J Z:List (DataW H)} {E:List MemPlace}
  (hs:J.length=fn.params.size→s.fn H J={results:=[.lit (.bool true)],args:=J})
  (hW:DataW.Whole enc P fn.params.toList s.vars false W args.toList J Z E) (hB:Below W.heap.size W U):s.post enc P fn false true false false W args (.bool true) U:=by
 have hW':=hW;obtain ⟨p,q,hA,hV,rfl,h9,hc⟩:=hW;rw [hv] at hV;obtain ⟨rfl,rfl⟩:=trodVars_none hV;have h8:=(Z5g hA).1;have e1:s.fn H (J++[])={results:=[.lit (.bool true)],args:=J}:=by rw [List.append_nil];exact hs (by simpa using h8)
 refine ⟨J,[],p++[],[],p,[],hW',?_,?_,?_,hB.frame _,fun h=>by cases h⟩
 ·rw [e1,h6];exact trodAll_mk1 (shut_bool hb _)
 ·rw [e1];exact Z4g hl hB hr hA (fun x hx=>hW'.lt x (List.mem_append_left _ hx))
 ·rw [e1,hv];rfl
end NX
end Go.Proofs.YtgamgemlekpepaaGreat
/-
  The symbolic machine: copies into own slices; numbers of other kinds. No statement of the seat is proved here.
-/
namespace Go.Proofs.YtgamgemlekpepaaGreat
namespace NX
open Go Go.RowKit
theorem Z7g {P:Program} {op:Op} {n:Nat} {x y:X} (E:cO P op = .copy n x y):∃p q t u e,op = .call ⟨.builtin .copy, #[p,q], #[t,u]⟩∧P.underlying t=some (.slice e)∧Z9 P e=some n∧cX p=x∧cX q=y:=by
 cases op
 case call ci=>
  obtain ⟨callee,cargs,argTypes⟩:=ci;cases callee with
  | value o=>
    cases o with
    | func f'=>simp only [cO] at E;(repeat' (split at E))<;>simp at E
    | _=>simp [cO] at E
  | invoke _ _=>simp [cO] at E
  | builtin b=>
    cases b
    case copy=>
     simp only [cO] at E;split at E
     ·rename_i t0 u0 p q h1 h2;split at E
      ·rename_i e hu;split at E
       ·rename_i m hs;simp only [EO.copy.injEq] at E;obtain ⟨rfl,rfl,rfl⟩:=E;have e1:cargs = #[p,q]:=by apply Array.ext';simpa using h2
        have e2:argTypes = #[t0,u0]:=by apply Array.ext';simpa using h1
        subst e1;subst e2;exact ⟨p,q,t0,u0,e,rfl,hu,hs,rfl,rfl⟩
       ·simp at E
      ·simp at E
     ·simp at E
    all_goals (simp only [cO] at E;(repeat' (split at E))<;>simp at E)
 all_goals (simp only [cO] at E;(repeat' (split at E))<;>simp at E)
@[go_sem] theorem Z8g:Zg1 1 [[AV.tt]] [[AV.bv true]]=True:=eq_true ⟨rfl,fun M vss h=>by obtain ⟨vs,r,rfl,h1,h2,h3⟩:=h;obtain ⟨v,l,rfl,h4,h5⟩:=h2;exact ⟨_,_,rfl,h1,⟨_,_,rfl,h4,h5⟩,h3⟩⟩
section
variable {c:Ctx} {M:Mem} {S S':St} {a:Act} {w:World} {fn:Func} {K:AV→List (Option Blk)→List (Option Sl)→Prop} {k:List It}
theorem Z9g {P:Program} {e n:Nat} (h:Z9 P e=some n):(P.info? e).map (·.size)=some n:=by unfold Z9 at h;simpa using h
theorem Zag {n:Nat}:∀ {l:List (List Value)},(∀v∈l,v.length=n)→∀k,(l.take k).flatten=l.flatten.take (k*n)∧(l.drop k).flatten=l.flatten.drop (k*n)
 | [],_,k=>by simp
 | v::l,hl,0=>by simp
 | v::l,hl,k+1=>by
   have hv:=hl v (by simp);obtain ⟨i1,i2⟩:=Zag (l:=l) (fun u hu=>hl u (by simp [hu])) k;have e:(k+1)*n=v.length+k*n:=by rw [hv,Nat.add_mul];omega
   simp only [List.take_succ_cons,List.drop_succ_cons,List.flatten_cons,i1,i2,e];rw [List.take_length_add_append,List.drop_length_add_append];exact ⟨rfl,rfl⟩
theorem Zbg (h:RelS c M S.bs S.ss w) {j T n:Nat} {rows:List (List AV)} (hj:Zp S.ss j=some ⟨T,n,rows⟩) {g cap:Nat} {E:Array Value} (e2:M.σ j = .slice (some ⟨g,0,none⟩) rows.length cap) (e3:w.heap[g]?=some (.cells E T (0,0))) (U:rows.length≤cap) (e5:cap≤maxLen) (e6:E.size=cap*n)
  {vss:List (List Value)} (J:AV.isLL M.sl n rows vss) (Z:∀v∈vss.flatten,v.oneCell'=true) (e7:E.toList.take (rows.length*n)=vss.flatten) {A:Nat} {R:List (List AV)} {C:List (List Value)} (Y:AV.isLL M.sl n R C) (hC:∀v∈C.flatten,v.oneCell'=true) (hA:A+R.length≤rows.length):
  RelS c M S.bs (Zq S.ss j (some ⟨T,n,rows.take A++R++rows.drop (A+R.length)⟩)) (w.setRow g (E.toList.take (A*n)++C.flatten++E.toList.drop (A*n+C.flatten.length)).toArray):=by
 have hc:=Zza Y;have hB:=Zza J;have hf:=Zag (Zpe J).1;have hd:(w.setRow g (E.toList.take (A*n)++C.flatten++E.toList.drop (A*n+C.flatten.length)).toArray).heap[g]?=some (.cells (E.toList.take (A*n)++C.flatten++E.toList.drop (A*n+C.flatten.length)).toArray T (0,0)):=by rw [Z23,if_pos rfl,e3];rfl
 have hn:E.toList.length=cap*n:=by simpa using e6
 have h8:(vss.take A++C++vss.drop (A+R.length)).flatten=vss.flatten.take (A*n)++C.flatten++vss.flatten.drop (A*n+R.length*n):=by rw [List.flatten_append,List.flatten_append,(hf A).1,(hf (A+R.length)).2,Nat.add_mul]
 have q1:(A+R.length)*n≤rows.length*n:=Nat.mul_le_mul_right _ hA;have q2:rows.length*n≤cap*n:=Nat.mul_le_mul_right _ U;rw [Nat.add_mul] at q1;refine h.rewrite hj (g:=g) (by rw [e2];rfl) (w':=w.setRow g (E.toList.take (A*n)++C.flatten++E.toList.drop (A*n+C.flatten.length)).toArray) ⟨rfl,rfl,rfl,by simp [World.setRow],fun k _ hk=>by rw [Z23,if_neg (fun e=>hk (by rw [e]))]⟩ (vss':=vss.take A++C++vss.drop (A+R.length)) ?_ ?_ ?_
 ·have t1:=Zfd J 0 A;have t2:=Zfd J (A+R.length) rows.length;simp only [List.drop_zero] at t1;rw [List.take_of_length_le (Nat.le_refl _),List.take_of_length_le (by have:=(Zpe J).2;omega)] at t2;exact Zya (Zya t1 Y) t2
 ·intro v hv;rw [h8] at hv;simp only [List.mem_append] at hv;rcases hv with (hv | hv) | hv
  ·exact Z v (List.mem_of_mem_take hv)
  ·exact hC v hv
  ·exact Z v (List.mem_of_mem_drop hv)
 ·have h6:(rows.take A++R++rows.drop (A+R.length)).length=rows.length:=by simp only [List.length_append,List.length_take,List.length_drop];omega
  refine ⟨?_,.inr ⟨g,cap,_,by rw [h6];exact e2,Nat.zero_le _,hd,by rw [h6];exact U,e5,?_,?_⟩⟩
  ·rw [h8,h6];simp only [List.length_append,List.length_take,List.length_drop];omega
  ·simp only [List.size_toArray,List.length_append,List.length_take,List.length_drop];omega
  ·rw [h8,h6,←e7,hc];generalize C.flatten=D at *;generalize E.toList=L at *;generalize rows.length*n=N at *;generalize A*n=a at *;rw [←hc] at q1 ⊢;refine List.ext_getElem? fun i=>?_;simp only [List.getElem?_take,List.getElem?_append,List.length_append,List.length_take,List.getElem?_drop,hn];have ho:min a (cap*n)=a:=by omega
   have hw:min N (cap*n)=N:=by omega
   have h9:min a N=a:=by omega
   simp only [ho,hw];by_cases h1:i<N
   ·by_cases h2:i<a+D.length
    ·by_cases h3:i<a
     ·simp [h1,h2,h3,h9]
     ·simp [h1,h2,h3,h9]
    ·have h3:a+D.length+(i-(a+D.length))=i:=by omega
     simp [h1,h2,h3,h9]
   ·by_cases h2:i<a+D.length
    ·omega
    ·have h3:a+D.length+(i-(a+D.length))=i:=by omega
     simp [h1,h2,h3,h9]
theorem Zcg (h:RelS c M S.bs S.ss w) {j T n:Nat} {rows:List (List AV)} (hj:Zp S.ss j=some ⟨T,n,rows⟩) (h0:0<rows.length):
  ∃g cap cur vss,M.σ j = .slice (some ⟨g,0,none⟩) rows.length cap∧w.heap[g]?=some (.cells cur T (0,0))∧rows.length≤cap∧cap≤maxLen∧cur.size=cap*n∧AV.isLL M.sl n rows vss∧(∀v∈vss.flatten,v.oneCell'=true)∧cur.toList.take (rows.length*n)=vss.flatten:=by
 obtain ⟨g0,vss,h1,h2,h3,h4⟩:=h.slc j _ hj;dsimp only at h1 h3 g0;rcases h3.2 with ⟨_,e3⟩ | ⟨g,cap,cur,e2,_,e3,e4,e5,e6,e7⟩
 ·omega
 ·exact ⟨g,cap,cur,vss,e2,e3,e4,e5,e6,h1,h2,e7⟩
theorem Zdg {P:Program} {w w':World} {p q:Operand} {t u:TypeId} {ρ:Operand→Value} {d:Option Tmp} {ty:TypeId} {pos:String} {af:Array Go.Edge} {gd:Option (Nat×Bool)} {v:Value}
  (h:(Builtin.copy_ #[t,u] ty #[ρ p,ρ q]).run P w = .ok v w'):(execOp ρ ⟨d,.call ⟨.builtin .copy, #[p,q], #[t,u]⟩,ty,pos,af,gd⟩).run P w = .ok (.value v) w':=by
 simp [execOp,resolve,invoke,builtin,h]
theorem Zeg:∀(l:List (Option Sl)) (j:Nat) (L:Sl),Zp l j=some L→Zq l j (some L)=l
 | [],j,L,h=>by simp [Zp] at h
 | x::l,0,L,h=>by simp [Zp] at h;subst h;rfl
 | x::l,j+1,L,h=>by simp only [Zq];rw [Zeg l j L (by simpa [Zp] using h)]
theorem Zfg {ρ:Operand→Value} (hx:∀o:Operand,(S.x (cX o)).is M (ρ o)):∀(o:Option Operand) (z r:Int),bnd S (o.map cX) z=some r→match o with | none=>r=z | some o=>ρ o = .int .i64 r:=by
 intro o z r hb;cases o with
 | none=>simpa [bnd] using hb.symm
 | some o=>
   simp only [Option.map_some,bnd] at hb;have:=hx o;split at hb
   ·rename_i n' hn';rw [hn'] at this;simp at hb;subst hb;exact this
   ·simp at hb
theorem Zgg {j T n:Nat} {x:X} {lo hi:Option X} {rows:List (List AV)} {l h:Int} (hx:S.x x = .osl j) (hj:Zp S.ss j=some ⟨T,n,rows⟩) (hr:0<rows.length) (hd:bnd S lo 0=some l) (hf:bnd S hi rows.length=some h) (h0:0≤l) (h1:l≤h) (h2:h≤rows.length):
  Z67 c S (.slice n x lo hi) (.ocs j l.toNat n (h.toNat-l.toNat)) S:=by
 intro ro h8 M a w h6 next Q hn
 obtain ⟨dst,op,ty,pos,af,gd⟩:=ro;dsimp only at h8;obtain ⟨T',y,lo',hi',e,rfl,hu,hs,rfl,rfl,rfl⟩:=Zdd h8;have hS:=h6.st;have k1:=Z34 h6 y;rw [hx] at k1;obtain ⟨g,cap,cur,vss,e2,e3,e4,e5,e6,v1,v2,e7⟩:=Zcg hS hj hr;have b1:=Zfg (Z34 h6) lo' 0 l hd;have b2:=Zfg (Z34 h6) hi' rows.length h hf;have h9:=Zed (P:=c.P) (w:=w) hu hs (ρ:=a.eval) (ad:=some ⟨g,0,none⟩) (len:=rows.length) (cp:=cap) (lo:=l) (hi:=h) (k1.2.trans e2) e4 b1 b2 h0 h1 h2 dst ty pos af gd;unfold Oper.wp;rw [h9];refine hn M w _ (.refl M) hS ⟨k1.1,g,rows.length,cap,e2,?_⟩;by_cases hc:cap=l.toNat
 ·rw [if_pos hc,if_pos hc]
 ·rw [if_neg hc,if_neg hc];simp only [Option.map,Addr.add_lit,Nat.zero_add]
end
end NX
end Go.Proofs.YtgamgemlekpepaaGreat
