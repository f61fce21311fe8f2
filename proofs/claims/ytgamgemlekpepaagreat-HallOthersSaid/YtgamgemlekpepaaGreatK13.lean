/-
  The symbolic machine: slices made; own slices cut; elements of own slices in drawn regions. No statement of the seat is proved here.
-/
import Derived.Laws.OwnMore
import Derived.Lib.AppendZeros
import Derived.Test.YtgamgemlekpepaaGreatK12
namespace Go.Proofs.YtgamgemlekpepaaGreat
namespace NX
open Go Go.RowKit
def mk_ {α:Type} (b:Nat) (n:Int) (z:α):Option (List α):=if 0≤n∧b*n≤281474976710656∧n≤9223372036854775807 then some (List.replicate n.toNat z) else none
theorem Zcf {α:Type} {b:Nat} {n:Int} {z:α} {l:List α} (h:mk_ b n z=some l):l=List.replicate n.toNat z∧0≤n∧b*n≤281474976710656∧n≤9223372036854775807:=by
 unfold mk_ at h;split at h
 ·rename_i h1;simp at h;exact ⟨h.symm,h1⟩
 ·simp at h
theorem Zdf {P:Program} {op:Op} {e n b:Nat} {z:List AV} {x y:X} (J:cO P op = .mks e n b z x y):
  ∃T p q i u,op = .makeSlice T p q∧P.underlying T=some (.slice e)∧P.info? e=some i∧i.zero=some u∧u.cells.size=n∧i.size=n∧0<n∧i.bytes=b∧z=u.cells.toList.map Z6∧cX p=x∧cX q=y:=by
 cases op
 case makeSlice T p q=>
  simp only [cO] at J;split at J
  ·rename_i e' hu;split at J
   ·rename_i i hi;split at J
    ·rename_i u hz;split at J
     ·rename_i hs;simp only [EO.mks.injEq] at J;obtain ⟨rfl,rfl,rfl,rfl,rfl,rfl⟩:=J;exact ⟨T,p,q,i,u,rfl,hu,hi,hz,hs.1,rfl,hs.2,rfl,rfl,rfl,rfl⟩
     ·simp at J
    ·simp at J
   ·simp at J
  ·simp at J
 all_goals (simp only [cO] at J;(repeat' (split at J))<;>simp at J)
theorem Zef {M:Mem} {z:List AV} {vs:List Value} (h:AV.isL M z vs):∀k,AV.isLL M vs.length (List.replicate k z) (List.replicate k vs)
 | 0=>rfl
 | k+1=>⟨vs,_,rfl,rfl,h,Zef h k⟩
section
variable {c:Ctx} {M:Mem} {S S':St} {a:Act} {w:World} {fn:Func} {K:AV→List (Option Blk)→List (Option Sl)→Prop} {k:List It}
theorem Zff {v:Value} (h:(Z6 v).one=true):v.oneCell'=true:=by unfold Z6 at h;split at h<;>first | rfl | simp [AV.one] at h
theorem Zgf {e n b:Nat} {z:List AV} {x y:X} {m:Int} (hx:S.x x = .iv m) (hy:S.x y = .iv m) (h0:0≤m) (hb:b*m≤281474976710656) (hC:m≤9223372036854775807) (hc:Zx z=true):
  Z77 c S (.mks e n b z x y) (.osl (Zw S.ss)) ⟨S.tm,S.bs,S.ss++[some ⟨e,n,List.replicate m.toNat z⟩]⟩:=by
 intro ro h9 M a w h6 next Q ho
 obtain ⟨dst,op,ty,pos,af,gd⟩:=ro;dsimp only at h9;obtain ⟨T,p,q,i,u,rfl,hu,hi,hz,hn,hw,hA,rfl,rfl,rfl,rfl⟩:=Zdf h9;have k1:=Z34 h6 p;have k2:=Z34 h6 q;rw [hx] at k1;rw [hy] at k2;obtain ⟨k,rfl⟩:∃k:Nat,m=k:=⟨m.toNat,by omega⟩
 have hS:=h6.st;have hb':i.bytes*k≤281474976710656:=by
  have:((i.bytes*k:Nat):Int)≤281474976710656:=by rw [Int.natCast_mul];exact hb
  omega
 obtain ⟨w',r1,r2,r3⟩:=run_make_full (P:=c.P) (w:=w) 0 T e i u n hu hi hz hw .i64 .i64 k hb' (by unfold maxLen;omega) (Nat.zero_le _);have hd:(execOp a.eval ⟨dst,.makeSlice T p q,ty,pos,af,gd⟩).run c.P w = .ok (.value (.slice (some ⟨w.heap.size,0,none⟩) k k)) w':=by generalize a.eval=ρ at *;simp [execOp,show ρ p = .int .i64 k from k1,show ρ q = .int .i64 k from k2,r1]
 unfold Oper.wp;rw [hd];have hB:(madeCells u.cells (k*n)).toList=(List.replicate k u.cells.toList).flatten:=by rw [←hn];exact Z16 u.cells k
 have hf:u.cells.toList.length=n:=by simpa using hn
 have hv:=Zef (Zr2 M.sl u.cells.toList) k;rw [hf] at hv;have h8:∀v∈u.cells.toList,v.oneCell'=true:=by
  have:∀l:List Value,Zx (l.map Z6)=true→∀v∈l,v.oneCell'=true:=by
   intro l;induction l with
   | nil=>simp
   | cons v l ih=>
     intro h u hu;simp only [List.map_cons,Zx,Zz1] at h;rcases List.mem_cons.1 hu with rfl | hu
     ·exact Zff h.1
     ·exact ih h.2 u hu
  exact this _ hc
 have hr:RelS c (M.addS (.slice (some ⟨w.heap.size,0,none⟩) k k)) S.bs (S.ss++[some (⟨e,n,List.replicate k (u.cells.toList.map Z6)⟩:Sl)]) w':=by
  refine RelS.grown (v:=.slice none 0 0) (vss:=List.replicate k u.cells.toList) hS rfl ?_ (.inl rfl) ?_ r3 (.inr fun g hg=>?_) hA hv ?_ ?_
  ·intro i N hi;exact ⟨hi,fun g hg=>by simp [Value.ownBlock] at hg⟩
  ·intro g hg;simp [Value.ownBlock] at hg
  ·simp [Value.ownBlock] at hg;omega
  ·intro v hv;simp only [List.mem_flatten,List.mem_replicate] at hv;obtain ⟨l,⟨_,rfl⟩,hv⟩:=hv;exact h8 v hv
  ·rw [←hB,List.length_replicate];exact r2
 refine ho _ w' _ (Mem.le_addS M _) (by simpa using hr) ?_;rw [Z12,←hS.ns];exact ⟨Nat.lt_succ_self _,by simp [Mem.addS]⟩
theorem Zhf {α:Type} {l':List α} {m:Int} {y:α} {d:Option Nat} {g:Option (Nat×Bool)} {l:List EOp} {e n b:Nat} {z:List AV} {p q:X} (f:α→List AV) (hv:mk_ b m y=some l') (hg:gm S g) (hx:S.x p = .iv m) (hy:S.x q = .iv m) (hz:f y=z) (h6:Zx z=true)
  (h:V c fn K (.ops l::k) ((⟨S.tm,S.bs,S.ss++[some ⟨e,n,l'.map f⟩]⟩:St).put d (.osl (Zw S.ss)))):V c fn K (.ops (⟨d,g,.mks e n b z p q⟩::l)::k) S:=by
 obtain ⟨rfl,h0,h1,h2⟩:=Zcf hv;rw [List.map_replicate,hz] at h;exact Z87 hg (Zgf hx hy h0 h1 h2 h6) rfl h
theorem Zif {n j:Nat} {x:X} {lo hi:Option X} {m:Int} {L:Sl} (hx:S.x x = .osl j) (hj:Zp S.ss j=some L) (J:L.n=n) (hB:bnd S lo 0=some 0) (hC:bnd S hi L.rows.length=some m) (h0:0≤m) (h1:m≤L.rows.length):
  Z77 c S (.slice n x lo hi) (.osl (Zw S.ss)) ⟨S.tm,S.bs,Zq S.ss j none++[some ⟨L.T,n,L.rows.take m.toNat⟩]⟩:=by
 subst J;intro ro hd M a w hc next Q hD
 obtain ⟨dst,op,ty,pos,af,gd⟩:=ro;dsimp only at hd;obtain ⟨T,y,l,h,e,rfl,hu,hs,rfl,rfl,rfl⟩:=Zed hd;have hS:=hc.st;have k1:=Z34 hc y;rw [hx] at k1;obtain ⟨g0,vss,q1,q2,q3,q4⟩:=hS.slc j L hj;have hf:∀(o:Option Operand) (z r:Int),bnd S (o.map cX) z=some r→match o with | none=>r=z | some o=>a.eval o = .int .i64 r:=by
  intro o z r hb;cases o with
  | none=>simpa [bnd] using hb.symm
  | some o=>
    simp only [Option.map_some,bnd] at hb;have:=Z34 hc o;split at hb
    ·rename_i n' hn';rw [hn'] at this;simp at hb;subst hb;exact this
    ·simp at hb
 have e1:=hf l 0 0 hB;have e2:=hf h L.rows.length m hC;obtain ⟨hE,hG⟩:=Zqe q1;have hw:∃v',(execOp a.eval ⟨dst,.slice T y l h none,ty,pos,af,gd⟩).run c.P w = .ok (.value v') w∧v'.ownBlock=(M.σ j).ownBlock∧w.ownsRow 0 L.T L.n v' (L.rows.take m.toNat).length (vss.take m.toNat).flatten:=by
  have h8:(L.rows.take m.toNat).length=m.toNat:=by rw [List.length_take];omega
  have hA:(vss.take m.toNat).flatten=vss.flatten.take (m.toNat*L.n):=by
   have:∀(q:List (List Value)) (k:Nat),(∀v∈q,v.length=L.n)→(q.take k).flatten=q.flatten.take (k*L.n):=by
    intro q;induction q with
    | nil=>intro k _;simp
    | cons v q ih=>
      intro k hq;cases k with
      | zero=>simp
      | succ k=>have hv:=hq v (by simp);rw [List.take_succ_cons,List.flatten_cons,List.flatten_cons,ih k fun u hu=>hq u (by simp [hu]),show (k+1)*L.n=v.length+k*L.n by rw [hv,Nat.add_mul];omega,List.take_length_add_append]
   exact this vss m.toNat hE
  have h9:(vss.take m.toNat).flatten.length=m.toNat*L.n:=by have:=Z0b (Zgd q1 0 m.toNat);simp only [List.drop_zero] at this;rw [this,h8]
  rcases q3.2 with ⟨r1,r2⟩ | ⟨g,cap,cur,r1,r2,r3,r4,r5,r6,r7⟩
  ·have hm:m=0:=by omega
   subst hm;have h6:=Zfd (P:=c.P) (w:=w) hu hs (ρ:=a.eval) (ad:=none) (len:=0) (cp:=0) (lo:=0) (hi:=0) (k1.2.trans r1) (Nat.le_refl _) e1 (by rw [r2] at e2;exact e2) (by omega) (by omega) (by omega) dst ty pos af gd;refine ⟨_,h6,by rw [r1];simp [Value.ownBlock],⟨by rw [h9,h8],.inl ⟨by simp,by simp⟩⟩⟩
  ·have h6:=Zfd (P:=c.P) (w:=w) hu hs (ρ:=a.eval) (ad:=some ⟨g,0,none⟩) (len:=L.rows.length) (cp:=cap) (lo:=0) (hi:=m) (k1.2.trans r1) r4 e1 e2 (by omega) h0 h1 dst ty pos af gd;refine ⟨_,h6,by rw [r1];simp only [Option.map];split<;>simp [Value.ownBlock,Addr.add],⟨by rw [h9,h8],.inr ⟨g,cap,cur,?_,r2,r3,by rw [h8];omega,r5,r6,?_⟩⟩⟩
   ·rw [h8];simp only [Option.map,Int.toNat_zero,Nat.zero_mul,Nat.sub_zero];split<;>simp [Addr.add]
   ·rw [h8,hA,←r7,List.take_take,Nat.min_eq_left (Nat.mul_le_mul_right _ (by omega))]
 obtain ⟨v',h6,hb,ho⟩:=hw;unfold Oper.wp;rw [h6];have hr:RelS c (M.addS v') S.bs (Zq S.ss j none++[some (⟨L.T,L.n,L.rows.take m.toNat⟩:Sl)]) w:=by
  refine RelS.grown (v:=M.σ j) (vss:=vss.take m.toNat) hS (Z72 _ _ _) ?_ (.inr fun i B hi=>hS.d2 i j B L hi hj) q4 ⟨rfl,rfl,rfl,Nat.le_refl _,fun _ _ _=>rfl⟩ (.inl hb) g0 (by have:=Zgd q1 0 m.toNat;simpa using this) ?_ ho
  ·intro i N hi;rw [Z62] at hi;split at hi
   ·simp at hi
   ·rename_i e;refine ⟨hi,fun g hg e2=>e ⟨?_,Z82 hj⟩⟩;exact hS.d3 i j N L g hi hj e2 hg
  ·intro v hv;simp only [List.mem_flatten] at hv;obtain ⟨r,hr,hv⟩:=hv;exact q2 v (List.mem_flatten.2 ⟨r,List.mem_of_mem_take hr,hv⟩)
 refine hD _ w _ (Mem.le_addS M _) hr ?_;rw [Z12,←hS.ns];exact ⟨Nat.lt_succ_self _,by simp [Mem.addS]⟩
theorem Zjf {α:Type} {l' v:List α} {m:Int} {d:Option Nat} {g:Option (Nat×Bool)} {l:List EOp} {T n j:Nat} {x:X} {lo hi:Option X} (f:α→List AV) (hv:Z9c l' 0 m=some v) (hg:gm S g) (hx:S.x x = .osl j) (hj:Zp S.ss j=some ⟨T,n,l'.map f⟩) (h6:bnd S lo 0=some 0) (h8:bnd S hi (ln f l')=some m)
  (h:V c fn K (.ops l::k) ((⟨S.tm,S.bs,Zq S.ss j none++[some ⟨T,n,v.map f⟩]⟩:St).put d (.osl (Zw S.ss)))):V c fn K (.ops (⟨d,g,.slice n x lo hi⟩::l)::k) S:=by
 unfold Z9c at hv;split at hv
 ·rename_i h1;simp at hv;subst hv;rw [List.map_take] at h;exact Z87 hg (Zif hx hj rfl h6 h8 h1.2.1 (by simpa using h1.2.2)) rfl h
 ·simp at hv
theorem Zkf {n:Nat} {x:X} {lo hi:Option X} (hx:S.x x = .nl) (hd:bnd S lo 0=some 0) (hf:bnd S hi 0=some 0):Z77 c S (.slice n x lo hi) .nl S:=by
 intro ro h8 M a w h6 next Q hn
 obtain ⟨dst,op,ty,pos,af,gd⟩:=ro;dsimp only at h8;obtain ⟨T,y,l,h,e,rfl,hu,hs,rfl,rfl,rfl⟩:=Zed h8;have k1:=Z34 h6 y;rw [hx] at k1;have h9:∀(o:Option Operand) (z r:Int),bnd S (o.map cX) z=some r→match o with | none=>r=z | some o=>a.eval o = .int .i64 r:=by
  intro o z r hb;cases o with
  | none=>simpa [bnd] using hb.symm
  | some o=>
    simp only [Option.map_some,bnd] at hb;have:=Z34 h6 o;split at hb
    ·rename_i n' hn';rw [hn'] at this;simp at hb;subst hb;exact this
    ·simp at hb
 have hc:=Zfd (P:=c.P) (w:=w) hu hs (ρ:=a.eval) (ad:=none) (len:=0) (cp:=0) (lo:=0) (hi:=0) k1 (Nat.le_refl _) (h9 l 0 0 hd) (h9 h 0 0 hf) (by omega) (by omega) (by omega) dst ty pos af gd;unfold Oper.wp;rw [hc];exact hn M w _ (.refl M) h6.st (by simp [AV.is])
theorem Zlf {d:Option Nat} {g:Option (Nat×Bool)} {l:List EOp} {n:Nat} {x:X} {lo hi:Option X} (hg:gm S g) (hx:S.x x = .nl) (h6:bnd S lo 0=some 0) (h8:bnd S hi 0=some 0) (h:V c fn K (.ops l::k) (S.put d .nl)):V c fn K (.ops (⟨d,g,.slice n x lo hi⟩::l)::k) S:=Z87 hg (Zkf hx h6 h8) rfl h
theorem Zmf {P:Program} {op:Op} {x:X} (J:cO P op = .cap x):∃q ats t0 e,op = .call ⟨.builtin .cap, #[q],ats⟩∧ats[0]?=some t0∧P.underlying t0=some (.slice e)∧cX q=x:=by
 cases op
 case call ci=>
  obtain ⟨callee,cargs,argTypes⟩:=ci;cases callee with
  | value o=>
    cases o with
    | func f'=>simp only [cO] at J;(repeat' (split at J))<;>simp at J
    | _=>simp [cO] at J
  | invoke _ _=>simp [cO] at J
  | builtin b=>
    cases b
    case cap=>
     simp only [cO] at J;split at J
     ·rename_i t0 q h1 h2;split at J
      ·rename_i e hu;simp only [EO.cap.injEq] at J;have e1:cargs = #[q]:=by apply Array.ext';simpa using h2
       subst e1;exact ⟨q,argTypes,t0,e,rfl,h1,hu,J⟩
      ·simp at J
     ·simp at J
    all_goals (simp only [cO] at J;(repeat' (split at J))<;>simp at J)
 all_goals (simp only [cO] at J;(repeat' (split at J))<;>simp at J)
theorem Znf {x:X} (hx:S.x x = .nl):Z77 c S (.cap x) (.iv 0) S:=by
 intro ro h6 M a w h8 next Q hc
 obtain ⟨dst,op,ty,pos,af,gd⟩:=ro;dsimp only at h6;obtain ⟨q,ats,t0,e,rfl,h0,hu,rfl⟩:=Zmf h6;have k1:=Z34 h8 q;rw [hx] at k1;simp only [AV.is] at k1;have h9:(execOp a.eval ⟨dst,.call ⟨.builtin .cap, #[q],ats⟩,ty,pos,af,gd⟩).run c.P w = .ok (.value (.int .i64 0)) w:=by generalize a.eval=ρ at *;simp [execOp,resolve,invoke,builtin,Builtin.cap_,h0,run_underlying hu,k1];rfl
 unfold Oper.wp;rw [h9];exact hc M w _ (.refl M) h8.st rfl
theorem Zof {d:Option Nat} {g:Option (Nat×Bool)} {l:List EOp} {x:X} (hg:gm S g) (hx:S.x x = .nl) (h:V c fn K (.ops l::k) (S.put d (.iv 0))):V c fn K (.ops (⟨d,g,.cap x⟩::l)::k) S:=Z87 hg (Znf hx) rfl h
theorem Zpf {P:Program} {op:Op} {e n b:Nat} {z:List AV} {x y:X} (J:cO P op = .apz e n b z x y):
  ∃t tn k p q i u,op = .call ⟨.builtin .append, #[p,q], #[t,tn]⟩∧P.underlying t=some (.slice e)∧P.underlying tn=some (.int k)∧P.info? e=some i∧i.zero=some u∧u.cells.size=n∧i.size=n∧0<n∧i.bytes=b∧z=u.cells.toList.map Z6∧cX p=x∧cX q=y:=by
 cases op
 case call ci=>
  obtain ⟨callee,cargs,argTypes⟩:=ci;cases callee with
  | value o=>
    cases o with
    | func f'=>simp only [cO] at J;(repeat' (split at J))<;>simp at J
    | _=>simp [cO] at J
  | invoke _ _=>simp [cO] at J
  | builtin b=>
    cases b
    case append=>
     simp only [cO] at J;split at J
     ·rename_i t0 t1 p q h1 h2;split at J
      ·(repeat' (split at J))<;>simp at J
      ·split at J
       ·rename_i e' k hu hk;split at J
        ·rename_i i hi;split at J
         ·rename_i u hz;split at J
          ·rename_i hs;simp only [EO.apz.injEq] at J;obtain ⟨rfl,rfl,rfl,rfl,rfl,rfl⟩:=J;have e1:cargs = #[p,q]:=by apply Array.ext';simpa using h2
           have e2:argTypes = #[t0,t1]:=by apply Array.ext';simpa using h1
           subst e1;subst e2;exact ⟨t0,t1,k,p,q,i,u,rfl,hu,hk,hi,hz,hs.1,rfl,hs.2,rfl,rfl,rfl,rfl⟩
          ·simp at J
         ·simp at J
        ·simp at J
       ·simp at J
     ·simp at J
    all_goals (simp only [cO] at J;(repeat' (split at J))<;>simp at J)
 all_goals (simp only [cO] at J;(repeat' (split at J))<;>simp at J)
def Zqf {α:Type} (b:Nat) (n:Int) (z:α):Option (List α):=if 0<n∧n*b≤140737488355328∧n≤9223372036854775807 then some (List.replicate n.toNat z) else none
theorem Zrf {e n b:Nat} {z:List AV} {x y:X} {m:Int} (hx:S.x x = .nl) (hy:S.x y = .iv m) (h0:0<m) (hb:m*b≤140737488355328) (hB:m≤9223372036854775807) (hf:Zx z=true):
  Z77 c S (.apz e n b z x y) (.osl (Zw S.ss)) ⟨S.tm,S.bs,S.ss++[some ⟨e,n,List.replicate m.toNat z⟩]⟩:=by
 intro ro hd M a w h8 next Q hC
 obtain ⟨dst,op,ty,pos,af,gd⟩:=ro;dsimp only at hd;obtain ⟨t,tn,kk,p,q,i,u,rfl,hu,hk,hi,hz,hn,hG,hD,rfl,rfl,rfl,rfl⟩:=Zpf hd;have k1:=Z34 h8 p;have k2:=Z34 h8 q;rw [hx] at k1;rw [hy] at k2;simp only [AV.is] at k1 k2;obtain ⟨k,rfl⟩:∃k:Nat,m=k:=⟨m.toNat,by omega⟩
 have hS:=h8.st;have hb':k*i.bytes≤140737488355328:=by
  have:((k*i.bytes:Nat):Int)≤140737488355328:=by rw [Int.natCast_mul];exact hb
  omega
 have r1:=Lib.run_append_nil_zeros (P:=c.P) w t tn ty e i u .i64 kk hu hk hi hz k (by omega) (by omega) hB (by omega);have ho:(execOp a.eval ⟨dst,.call ⟨.builtin .append, #[p,q], #[t,tn]⟩,ty,pos,af,gd⟩).run c.P w = .ok (.value (.slice (some ⟨w.heap.size,0,none⟩) k (grownCap w k 0 e))) (w.drew.alloc (.cells (Builtin.zeroCells u.cells k++Builtin.zeroCells u.cells (grownCap w k 0 e-k)) e)):=by generalize a.eval=ρ at *;simp [execOp,resolve,invoke,builtin,k1,k2,r1]
 unfold Oper.wp;rw [ho];have h9:∀k,(Builtin.zeroCells u.cells k).toList=(List.replicate k u.cells.toList).flatten:=fun k=>Z16 u.cells k;have hw:u.cells.toList.length=n:=by simpa using hn
 have hv:=Zef (Zr2 M.sl u.cells.toList) k;rw [hw] at hv;have hc:∀v∈u.cells.toList,v.oneCell'=true:=by
  have:∀l:List Value,Zx (l.map Z6)=true→∀v∈l,v.oneCell'=true:=by
   intro l;induction l with
   | nil=>simp
   | cons v l ih=>
     intro h u hu;simp only [List.map_cons,Zx,Zz1] at h;rcases List.mem_cons.1 hu with rfl | hu
     ·exact Zff h.1
     ·exact ih h.2 u hu
  exact this _ hf
 have hE:=grownCap_ge w k 0 e;have hA:=grownCap_le_maxLen w k 0 e (by unfold maxLen;omega);have h6:∀q,(Builtin.zeroCells u.cells q).size=q*n:=by intro q;simp [Builtin.zeroCells,hn]
 have hg:w.grownBy (w.drew.alloc (.cells (Builtin.zeroCells u.cells k++Builtin.zeroCells u.cells (grownCap w k 0 e-k)) e)) none:=by
  refine ⟨rfl,rfl,rfl,?_,fun j hj _=>?_⟩
  ·show w.heap.size≤(w.heap.push _).size;simp
  ·show (w.heap.push _)[j]?=_;rw [Array.getElem?_push,if_neg (by omega)]
 have hr:RelS c (M.addS (.slice (some ⟨w.heap.size,0,none⟩) k (grownCap w k 0 e))) S.bs (S.ss++[some (⟨e,n,List.replicate k (u.cells.toList.map Z6)⟩:Sl)]) (w.drew.alloc (.cells (Builtin.zeroCells u.cells k++Builtin.zeroCells u.cells (grownCap w k 0 e-k)) e)):=by
  refine RelS.grown (v:=.slice none 0 0) (vss:=List.replicate k u.cells.toList) hS rfl ?_ (.inl rfl) ?_ hg (.inr fun g hg=>?_) hD hv ?_ ?_
  ·intro i N hi;exact ⟨hi,fun g hg=>by simp [Value.ownBlock] at hg⟩
  ·intro g hg;simp [Value.ownBlock] at hg
  ·simp [Value.ownBlock] at hg;omega
  ·intro v hv;simp only [List.mem_flatten,List.mem_replicate] at hv;obtain ⟨l,⟨_,rfl⟩,hv⟩:=hv;exact hc v hv
  ·rw [List.length_replicate];refine ⟨by rw [←h9];simp [h6],.inr ⟨w.heap.size,grownCap w k 0 e,Builtin.zeroCells u.cells k++Builtin.zeroCells u.cells (grownCap w k 0 e-k),rfl,Nat.zero_le _,?_,hE,hA,?_,?_⟩⟩
   ·show (w.heap.push _)[w.heap.size]?=_;rw [Array.getElem?_push,if_pos rfl]
   ·rw [Array.size_append,h6,h6,←Nat.add_mul];congr 1;omega
   ·rw [Array.toList_append,h9,List.take_left'];rw [←h9];simp [h6]
 refine hC _ _ _ (Mem.le_addS M _) (by simpa using hr) ?_;rw [Z12,←hS.ns];exact ⟨Nat.lt_succ_self _,by simp [Mem.addS]⟩
theorem Zsf {α:Type} {l':List α} {m:Int} {y:α} {d:Option Nat} {g:Option (Nat×Bool)} {l:List EOp} {e n b:Nat} {z:List AV} {p q:X} (f:α→List AV) (hv:Zqf b m y=some l') (hg:gm S g) (hx:S.x p = .nl) (hy:S.x q = .iv m) (hz:f y=z) (h6:Zx z=true)
  (h:V c fn K (.ops l::k) ((⟨S.tm,S.bs,S.ss++[some ⟨e,n,l'.map f⟩]⟩:St).put d (.osl (Zw S.ss)))):V c fn K (.ops (⟨d,g,.apz e n b z p q⟩::l)::k) S:=by
 unfold Zqf at hv;split at hv
 ·rename_i h1;simp at hv;subst hv;rw [List.map_replicate,hz] at h;exact Z87 hg (Zrf hx hy h1.1 h1.2.1 h1.2.2 h6) rfl h
 ·simp at hv
section
variable {all:Array Oper} {ops:List EOp} {af:List (List Nat)} {Φ:St→Prop} {m:Nat} {ld:List Bool}
theorem Ztf (h6:all.toList.mapM (Ze c.P all)=some ops) {i:Nat} {α:Type} {l':List α} {z:Int} {v:α} {T n j:Nat} {x y:X} (f:α→List AV) (hv:at_ l' z=some v) (J:(Zy1 ops i).o = .idx n x y) (hg:gm S (Zy1 ops i).g) (hx:S.x x = .osl j) (hi:S.x y = .iv z) (hj:Zp S.ss j=some ⟨T,n,l'.map f⟩)
  (h:G c all ops af Φ m (Zu1 ld i) (S.put (Zy1 ops i).d (.oel j (z.toNat*n) 0))):GO c all ops af Φ m ld S i:=by
 obtain ⟨h0,hr⟩:=Zhc hv;have:=(List.getElem?_eq_some_iff.1 hr).1;exact Zqa h6 hg (by rw [J];exact Zce hx hi hj rfl h0 (by simp;omega)) rfl (Z8a _ _) h
theorem Zuf (h6:all.toList.mapM (Ze c.P all)=some ops) {i:Nat} {α:Type} {l':List α} {z:Int} {y:α} {j T n off:Nat} {x:X} {v:AV} (f:α→List AV) (hv:at_ l' z=some y) (J:(Zy1 ops i).o = .load x) (hg:gm S (Zy1 ops i).g) (hx:S.x x = .oel j (z.toNat*n) off) (hj:Zp S.ss j=some ⟨T,n,l'.map f⟩)
  (hl:Zt (f y) off 1=some [v]) (h:G c all ops af Φ m (Zu1 ld i) (S.put (Zy1 ops i).d v)):GO c all ops af Φ m ld S i:=
 Zqa h6 hg (by rw [J];exact Zke hx hj rfl (Zic (Zhc hv).2) hl) rfl (Z8a _ _) h
theorem Zvf (h6:all.toList.mapM (Ze c.P all)=some ops) {i:Nat} {α:Type} {l':List α} {z:Int} {y y':α} {j T n off q:Nat} {x v:X} {cs0:List AV} (cs:List AV) (f:α→List AV) (hv:at_ l' z=some y) (J:(Zy1 ops i).o = .store q x v) (hg:gm S (Zy1 ops i).g) (hx:S.x x = .oel j (z.toNat*n) off) (hj:Zp S.ss j=some ⟨T,n,l'.map f⟩)
  (h8:(S.x v).cells=some cs0) (h9:AV.le.leL cs0 cs) (hm:Zw cs=q) (h1:Zx cs=true) (hp:puL cs=true) (hl:Zv (f y) off cs=some (f y'))
  (h:G c all ops af Φ m (Zu1 ld i) ((⟨S.tm,S.bs,Zq S.ss j (some ⟨T,n,(l'.set z.toNat y').map f⟩)⟩:St).put (Zy1 ops i).d .un)):GO c all ops af Φ m ld S i:=by
 refine Zqa (S1:=⟨S.tm,S.bs,Zq S.ss j (some ⟨T,n,(l'.set z.toNat y').map f⟩)⟩) h6 hg ?_ rfl (by rw [J];exact fun _ _ _ _ h _ _=>h) h;rw [J,List.map_set];exact Zue hx hj rfl (Zic (Zhc hv).2) h8 h9 hm h1 (Zte hp) hl
theorem Zwf (h6:all.toList.mapM (Ze c.P all)=some ops) {i:Nat} {α:Type} {l':List α} {z:Int} {y y':α} {j T n off q:Nat} {x v:X} {cs0:List AV} (cs:List AV) (f:α→List AV) (hv:at_ (l'.set z.toNat y) z=some y) (J:(Zy1 ops i).o = .store q x v) (hg:gm S (Zy1 ops i).g) (hx:S.x x = .oel j (z.toNat*n) off) (hj:Zp S.ss j=some ⟨T,n,(l'.set z.toNat y).map f⟩)
  (h8:(S.x v).cells=some cs0) (h9:AV.le.leL cs0 cs) (hm:Zw cs=q) (h1:Zx cs=true) (hp:puL cs=true) (hl:Zv (f y) off cs=some (f y'))
  (h:G c all ops af Φ m (Zu1 ld i) ((⟨S.tm,S.bs,Zq S.ss j (some ⟨T,n,(l'.set z.toNat y').map f⟩)⟩:St).put (Zy1 ops i).d .un)):GO c all ops af Φ m ld S i:=
 Zvf h6 cs f hv J hg hx hj h8 h9 hm h1 hp hl (by rw [List.set_set];exact h)
end
end
section
variable {c:Ctx} {S:St} {fn:Func} {K:AV→List (Option Blk)→List (Option Sl)→Prop} {k:List It}
theorem Zxf (t:Nat) (y:AV) (hle:AV.le (Zn S.tm t) y) (h:V c fn K k ⟨Zo S.tm t y,S.bs,S.ss⟩):V c fn K k S:=by
 intro rk M a w hc hT;refine h rk M a w hc ⟨by rw [Z32];exact hT.len,fun u=>?_,hT.df,hT.st⟩;rw [Z22];split
 ·rename_i e;obtain ⟨rfl,_⟩:=e;exact Zh6 _ _ _ hle (hT.tm u)
 ·exact hT.tm u
theorem Zyf (T n:Nat) (J:Z5 1 n=true) (h:V c fn K k ⟨S.tm,S.bs,S.ss++[some ⟨T,n,[]⟩]⟩):V c fn K k S:=by intro rk M a w hc hT;have hS:=hT.st;rw [Z02] at J;have hr:=hS.name ⟨T,n,[]⟩ (.slice none 0 0) [] J rfl (by simp) (World.ownsRow_nil w 0 T n) (fun g hg=>by simp [Value.ownBlock] at hg) (fun i B _=>by simp [Value.ownBlock]) (fun j N g _ hg=>by simp [Value.ownBlock] at hg);exact h rk _ a w hc ⟨hT.len,fun u=>Zn2 (Mem.le_addS M (.slice none 0 0)) _ _ (hT.tm u),hT.df,hr⟩
theorem Zzf {all:Array Oper} {ops:List EOp} {af:List (List Nat)} {Φ:St→Prop} {m:Nat} {ld:List Bool} (J:AV) (h6:all.toList.mapM (Ze c.P all)=some ops) {i:Nat} {v:AV} {S1:St} {q:Prop} (he:geO S (Zy1 ops i)=some (v,S1,q)) (hq:q) (hle:AV.le v J)
  (h:G c all ops af Φ m (Zu1 ld i) (S1.put (Zy1 ops i).d J)):GO c all ops af Φ m ld S i:=by
 unfold geO at he;split at he
 ·rename_i hg;exact .inr ⟨Zfa hg,J,S1,fun ro h8 M a w hT next Q hn=>Z97 he hq ro (Z79 (Z89 h6 h8)).2 M a w hT next Q fun M' w' x h1 h2 h3=>hn M' w' x h1 h2 (Zh6 _ _ _ hle h3),(Zta he).1,.inl (Zta he).2,h⟩
 ·simp at he
end
end NX
end Go.Proofs.YtgamgemlekpepaaGreat
