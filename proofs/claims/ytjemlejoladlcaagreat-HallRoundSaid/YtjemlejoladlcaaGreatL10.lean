/-
  The symbolic machine: slices made; own slices cut; elements of own slices in drawn regions. No statement of the seat is proved here.
-/
import Derived.Laws.OwnMore
import Derived.Lib.AppendZeros
import Derived.ProofKit
import Derived.OpenShut
import Derived.Carry
import Derived.Test.YtjemlejoladlcaaGreatL9
namespace Go.Proofs.YtjemlejoladlcaaGreat
namespace NX
open Go Go.RowKit
def OE {α:Type} (b:Nat) (n:Int) (z:α):Option (List α):=if 0≤n∧b*n≤281474976710656∧n≤9223372036854775807 then some (List.replicate n.toNat z) else none
theorem xc {α:Type} {b:Nat} {n:Int} {z:α} {l:List α} (h:OE b n z=some l):l=List.replicate n.toNat z∧0≤n∧b*n≤281474976710656∧n≤9223372036854775807:=by
 unfold OE at h;split at h
 ·rename_i h1;simp at h;exact ⟨h.symm,h1⟩
 ·simp at h
theorem qV {P:Program} {op:Op} {e n b:Nat} {z:List AV} {x y:X} (ho:cO P op = .mks e n b z x y):
  ∃T p q i u,op = .makeSlice T p q∧P.underlying T=some (.slice e)∧P.info? e=some i∧i.zero=some u∧u.cells.size=n∧i.size=n∧0<n∧i.bytes=b∧z=u.cells.toList.map Dw∧cX p=x∧cX q=y:=by
 cases op
 case makeSlice T p q=>
  simp only [cO] at ho;split at ho
  ·rename_i e' hu;split at ho
   ·rename_i i hi;split at ho
    ·rename_i u hz;split at ho
     ·rename_i hs;simp only [EO.mks.injEq] at ho;obtain ⟨rfl,rfl,rfl,rfl,rfl,rfl⟩:=ho;exact ⟨T,p,q,i,u,rfl,hu,hi,hz,hs.1,rfl,hs.2,rfl,rfl,rfl,rfl⟩
     ·simp at ho
    ·simp at ho
   ·simp at ho
  ·simp at ho
 all_goals (simp only [cO] at ho;(repeat' (split at ho))<;>simp at ho)
theorem PW {M:Mem} {z:List AV} {vs:List Value} (h:AV.isL M z vs):∀k,AV.isLL M vs.length (List.replicate k z) (List.replicate k vs)
 | 0=>rfl
 | k+1=>⟨vs,_,rfl,rfl,h,PW h k⟩
section
variable {c:Ctx} {M:Mem} {S S':St} {a:Act} {w:World} {fn:Func} {K:AV→List (Option Blk)→List (Option Sl)→Prop} {k:List It}
theorem ol {v:Value} (h:(Dw v).one=true):v.oneCell'=true:=by unfold Dw at h;split at h<;>first | rfl | simp [AV.one] at h
theorem na {e n b:Nat} {z:List AV} {x y:X} {m:Int} (hx:S.x x = .iv m) (hy:S.x y = .iv m) (h0:0≤m) (hb:b*m≤281474976710656) (hG:m≤9223372036854775807) (hd:Cs z=true):
  Bi c S (.mks e n b z x y) (.osl (Aa S.ss)) ⟨S.tm,S.bs,S.ss++[some ⟨e,n,List.replicate m.toNat z⟩]⟩:=by
 intro ro h9 M a w h6 next Q hB
 obtain ⟨dst,op,ty,pos,af,gd⟩:=ro;dsimp only at h9;obtain ⟨T,p,q,i,u,rfl,hu,hi,hz,hn,hC,hD,rfl,rfl,rfl,rfl⟩:=qV h9;have k1:=Ak h6 p;have k2:=Ak h6 q;rw [hx] at k1;rw [hy] at k2;obtain ⟨k,rfl⟩:∃k:Nat,m=k:=⟨m.toNat,Om⟩
 have hS:=h6.st;have hb':i.bytes*k≤281474976710656:=by
  have:((i.bytes*k:Nat):Int)≤281474976710656:=by rw [Int.natCast_mul];exact hb
  omega
 obtain ⟨w',r1,r2,r3⟩:=run_make_full (P:=c.P) (w:=w) 0 T e i u n hu hi hz hC .i64 .i64 k hb' (by unfold maxLen;omega) (Nat.zero_le _);have hw:(execOp a.eval ⟨dst,.makeSlice T p q,ty,pos,af,gd⟩).run c.P w = .ok (.value (.slice (some ⟨w.heap.size,0,none⟩) k k)) w':=by generalize a.eval=ρ at *;simp [execOp,show ρ p = .int .i64 k from k1,show ρ q = .int .i64 k from k2,r1]
 unfold Oper.wp;rw [hw];have hE:(madeCells u.cells (k*n)).toList=(List.replicate k u.cells.toList).flatten:=by rw [←hn];exact Zr u.cells k
 have hA:u.cells.toList.length=n:=by simpa using hn
 have hv:=PW (FO M.sl u.cells.toList) k;rw [hA] at hv;have h8:∀v∈u.cells.toList,v.oneCell'=true:=by
  have:∀l:List Value,Cs (l.map Dw)=true→∀v∈l,v.oneCell'=true:=by
   intro l;induction l with
   | nil=>simp
   | cons v l ih=>
     intro h u hu;simp only [List.map_cons,Cs,AO] at h;rcases List.mem_cons.1 hu with rfl | hu
     ·exact ol h.1
     ·exact ih h.2 u hu
  exact this _ hd
 have hr:RelS c (M.addS (.slice (some ⟨w.heap.size,0,none⟩) k k)) S.bs (S.ss++[some (⟨e,n,List.replicate k (u.cells.toList.map Dw)⟩:Sl)]) w':=by
  refine RelS.grown (v:=.slice none 0 0) (vss:=List.replicate k u.cells.toList) hS rfl ?_ (.inl rfl) ?_ r3 (.inr fun g hg=>?_) hD hv ?_ ?_
  ·intro i N hi;exact ⟨hi,fun g hg=>by simp [Value.ownBlock] at hg⟩
  ·intro g hg;simp [Value.ownBlock] at hg
  ·simp [Value.ownBlock] at hg;omega
  ·intro v hv;simp only [List.mem_flatten,List.mem_replicate] at hv;obtain ⟨l,⟨_,rfl⟩,hv⟩:=hv;exact h8 v hv
  ·rw [←hE,List.length_replicate];exact r2
 refine hB _ w' _ (Mem.le_addS M _) (by simpa using hr) ?_;rw [Bh,←hS.ns];exact ⟨Nat.lt_succ_self _,by simp [Mem.addS]⟩
theorem pE {α:Type} {l':List α} {m:Int} {y:α} {d:Option Nat} {g:Option (Nat×Bool)} {l:List EOp} {e n b:Nat} {z:List AV} {p q:X} (f:α→List AV) (hv:OE b m y=some l') (hg:gm S g) (hx:S.x p = .iv m) (hy:S.x q = .iv m) (hz:f y=z) (h6:Cs z=true)
  (h:V c fn K (.ops l::k) ((⟨S.tm,S.bs,S.ss++[some ⟨e,n,l'.map f⟩]⟩:St).put d (.osl (Aa S.ss)))):V c fn K (.ops (⟨d,g,.mks e n b z p q⟩::l)::k) S:=by
 obtain ⟨rfl,h0,h1,h2⟩:=xc hv;rw [List.map_replicate,hz] at h;exact AU hg (na hx hy h0 h1 h2 h6) rfl h
theorem Z0P {n j:Nat} {x:X} {lo hi:Option X} {m:Int} {L:Sl} (hx:S.x x = .osl j) (hj:A2 S.ss j=some L) (hn:L.n=n) (hD:AY S lo 0=some 0) (hE:AY S hi L.rows.length=some m) (h0:0≤m) (h1:m≤L.rows.length):
  Bi c S (.slice n x lo hi) (.osl (Aa S.ss)) ⟨S.tm,S.bs,Ar S.ss j none++[some ⟨L.T,n,L.rows.take m.toNat⟩]⟩:=by
 subst hn;intro ro hw M a w hd next Q hG
 obtain ⟨dst,op,ty,pos,af,gd⟩:=ro;dsimp only at hw;obtain ⟨T,y,l,h,e,rfl,hu,hs,rfl,rfl,rfl⟩:=H8 hw;have hS:=hd.st;have k1:=Ak hd y;rw [hx] at k1;obtain ⟨g0,vss,q1,q2,q3,q4⟩:=hS.slc j L hj;have hA:∀(o:Option Operand) (z r:Int),AY S (o.map cX) z=some r→match o with | none=>r=z | some o=>a.eval o = .int .i64 r:=by
  intro o z r hb;cases o with
  | none=>simpa [AY] using hb.symm
  | some o=>
    simp only [Option.map_some,AY] at hb;have:=Ak hd o;split at hb
    ·rename_i n' hn';rw [hn'] at this;simp at hb;subst hb;exact this
    ·simp at hb
 have e1:=hA l 0 0 hD;have e2:=hA h L.rows.length m hE;obtain ⟨hI,hJ⟩:=Fx q1;have hB:∃v',(execOp a.eval ⟨dst,.slice T y l h none,ty,pos,af,gd⟩).run c.P w = .ok (.value v') w∧v'.ownBlock=(M.σ j).ownBlock∧w.ownsRow 0 L.T L.n v' (L.rows.take m.toNat).length (vss.take m.toNat).flatten:=by
  have h8:(L.rows.take m.toNat).length=m.toNat:=by rw [List.length_take];omega
  have hC:(vss.take m.toNat).flatten=vss.flatten.take (m.toNat*L.n):=by
   have:∀(q:List (List Value)) (k:Nat),(∀v∈q,v.length=L.n)→(q.take k).flatten=q.flatten.take (k*L.n):=by
    intro q;induction q with
    | nil=>intro k _;simp
    | cons v q ih=>
      intro k hq;cases k with
      | zero=>simp
      | succ k=>have hv:=hq v (by simp);rw [List.take_succ_cons,List.flatten_cons,List.flatten_cons,ih k fun u hu=>hq u (by simp [hu]),show (k+1)*L.n=v.length+k*L.n by rw [hv,Nat.add_mul];omega,List.take_length_add_append]
   exact this vss m.toNat hI
  have h9:(vss.take m.toNat).flatten.length=m.toNat*L.n:=by have:=Dl (F2 q1 0 m.toNat);simp only [List.drop_zero] at this;rw [this,h8]
  rcases q3.2 with ⟨r1,r2⟩ | ⟨g,cap,cur,r1,r2,r3,r4,r5,r6,r7⟩
  ·have hm:m=0:=by omega
   subst hm;have h6:=LG (P:=c.P) (w:=w) hu hs (ρ:=a.eval) (ad:=none) (len:=0) (cp:=0) (lo:=0) (hi:=0) (k1.2.trans r1) (Nat.le_refl _) e1 (by rw [r2] at e2;exact e2) Om Om Om dst ty pos af gd;refine ⟨_,h6,by rw [r1];simp [Value.ownBlock],⟨by rw [h9,h8],.inl ⟨by simp,by simp⟩⟩⟩
  ·have h6:=LG (P:=c.P) (w:=w) hu hs (ρ:=a.eval) (ad:=some ⟨g,0,none⟩) (len:=L.rows.length) (cp:=cap) (lo:=0) (hi:=m) (k1.2.trans r1) r4 e1 e2 Om h0 h1 dst ty pos af gd;refine ⟨_,h6,by rw [r1];simp only [Option.map];split<;>simp [Value.ownBlock,Addr.add],⟨by rw [h9,h8],.inr ⟨g,cap,cur,?_,r2,r3,by rw [h8];omega,r5,r6,?_⟩⟩⟩
   ·rw [h8];simp only [Option.map,Int.toNat_zero,Nat.zero_mul,Nat.sub_zero];split<;>simp [Addr.add]
   ·rw [h8,hC,←r7,List.take_take,Nat.min_eq_left (Nat.mul_le_mul_right _ Om)]
 obtain ⟨v',h6,hb,ho⟩:=hB;unfold Oper.wp;rw [h6];have hr:RelS c (M.addS v') S.bs (Ar S.ss j none++[some (⟨L.T,L.n,L.rows.take m.toNat⟩:Sl)]) w:=by
  refine RelS.grown (v:=M.σ j) (vss:=vss.take m.toNat) hS (Dd _ _ _) ?_ (.inr fun i B hi=>hS.d2 i j B L hi hj) q4 ⟨rfl,rfl,rfl,Nat.le_refl _,fun _ _ _=>rfl⟩ (.inl hb) g0 (by have:=F2 q1 0 m.toNat;simpa using this) ?_ ho
  ·intro i N hi;rw [Du] at hi;split at hi
   ·simp at hi
   ·rename_i e;refine ⟨hi,fun g hg e2=>e ⟨?_,Cu hj⟩⟩;exact hS.d3 i j N L g hi hj e2 hg
  ·intro v hv;simp only [List.mem_flatten] at hv;obtain ⟨r,hr,hv⟩:=hv;exact q2 v (List.mem_flatten.2 ⟨r,List.mem_of_mem_take hr,hv⟩)
 refine hG _ w _ (Mem.le_addS M _) hr ?_;rw [Bh,←hS.ns];exact ⟨Nat.lt_succ_self _,by simp [Mem.addS]⟩
theorem Pt {α:Type} {l' v:List α} {m:Int} {d:Option Nat} {g:Option (Nat×Bool)} {l:List EOp} {T n j:Nat} {x:X} {lo hi:Option X} (f:α→List AV) (hv:Cj l' 0 m=some v) (hg:gm S g) (hx:S.x x = .osl j) (hj:A2 S.ss j=some ⟨T,n,l'.map f⟩) (h6:AY S lo 0=some 0) (h8:AY S hi (ln f l')=some m)
  (h:V c fn K (.ops l::k) ((⟨S.tm,S.bs,Ar S.ss j none++[some ⟨T,n,v.map f⟩]⟩:St).put d (.osl (Aa S.ss)))):V c fn K (.ops (⟨d,g,.slice n x lo hi⟩::l)::k) S:=by
 unfold Cj at hv;split at hv
 ·rename_i h1;simp at hv;subst hv;rw [List.map_take] at h;exact AU hg (Z0P hx hj rfl h6 h8 h1.2.1 (by simpa using h1.2.2)) rfl h
 ·simp at hv
theorem Z0S {n:Nat} {x:X} {lo hi:Option X} (hx:S.x x = .nl) (hw:AY S lo 0=some 0) (hA:AY S hi 0=some 0):Bi c S (.slice n x lo hi) .nl S:=by
 intro ro h8 M a w h6 next Q hB
 obtain ⟨dst,op,ty,pos,af,gd⟩:=ro;dsimp only at h8;obtain ⟨T,y,l,h,e,rfl,hu,hs,rfl,rfl,rfl⟩:=H8 h8;have k1:=Ak h6 y;rw [hx] at k1;have h9:∀(o:Option Operand) (z r:Int),AY S (o.map cX) z=some r→match o with | none=>r=z | some o=>a.eval o = .int .i64 r:=by
  intro o z r hb;cases o with
  | none=>simpa [AY] using hb.symm
  | some o=>
    simp only [Option.map_some,AY] at hb;have:=Ak h6 o;split at hb
    ·rename_i n' hn';rw [hn'] at this;simp at hb;subst hb;exact this
    ·simp at hb
 have hd:=LG (P:=c.P) (w:=w) hu hs (ρ:=a.eval) (ad:=none) (len:=0) (cp:=0) (lo:=0) (hi:=0) k1 (Nat.le_refl _) (h9 l 0 0 hw) (h9 h 0 0 hA) Om Om Om dst ty pos af gd;unfold Oper.wp;rw [hd];exact hB M w _ (.refl M) h6.st (by simp [AV.is])
theorem fk {d:Option Nat} {g:Option (Nat×Bool)} {l:List EOp} {n:Nat} {x:X} {lo hi:Option X} (hg:gm S g) (hx:S.x x = .nl) (h6:AY S lo 0=some 0) (h8:AY S hi 0=some 0) (h:V c fn K (.ops l::k) (S.put d .nl)):V c fn K (.ops (⟨d,g,.slice n x lo hi⟩::l)::k) S:=AU hg (Z0S hx h6 h8) rfl h
theorem fR {P:Program} {op:Op} {x:X} (ho:cO P op = .cap x):∃q ats t0 e,op = .call ⟨.builtin .cap, #[q],ats⟩∧ats[0]?=some t0∧P.underlying t0=some (.slice e)∧cX q=x:=by
 cases op
 case call ci=>
  obtain ⟨callee,cargs,argTypes⟩:=ci;cases callee with
  | value o=>
    cases o with
    | func f'=>simp only [cO] at ho;(repeat' (split at ho))<;>simp at ho
    | _=>simp [cO] at ho
  | invoke _ _=>simp [cO] at ho
  | builtin b=>
    cases b
    case cap=>
     simp only [cO] at ho;split at ho
     ·rename_i t0 q h1 h2;split at ho
      ·rename_i e hu;simp only [EO.cap.injEq] at ho;have e1:cargs = #[q]:=by apply Array.ext';simpa using h2
       subst e1;exact ⟨q,argTypes,t0,e,rfl,h1,hu,ho⟩
      ·simp at ho
     ·simp at ho
    all_goals (simp only [cO] at ho;(repeat' (split at ho))<;>simp at ho)
 all_goals (simp only [cO] at ho;(repeat' (split at ho))<;>simp at ho)
theorem Z0K {x:X} (hx:S.x x = .nl):Bi c S (.cap x) (.iv 0) S:=by
 intro ro h6 M a w h8 next Q hd
 obtain ⟨dst,op,ty,pos,af,gd⟩:=ro;dsimp only at h6;obtain ⟨q,ats,t0,e,rfl,h0,hu,rfl⟩:=fR h6;have k1:=Ak h8 q;rw [hx] at k1;simp only [AV.is] at k1;have h9:(execOp a.eval ⟨dst,.call ⟨.builtin .cap, #[q],ats⟩,ty,pos,af,gd⟩).run c.P w = .ok (.value (.int .i64 0)) w:=by generalize a.eval=ρ at *;simp [execOp,resolve,invoke,builtin,Builtin.cap_,h0,run_underlying hu,k1];rfl
 unfold Oper.wp;rw [h9];exact hd M w _ (.refl M) h8.st rfl
theorem Uz {d:Option Nat} {g:Option (Nat×Bool)} {l:List EOp} {x:X} (hg:gm S g) (hx:S.x x = .nl) (h:V c fn K (.ops l::k) (S.put d (.iv 0))):V c fn K (.ops (⟨d,g,.cap x⟩::l)::k) S:=AU hg (Z0K hx) rfl h
theorem fQ {P:Program} {op:Op} {e n b:Nat} {z:List AV} {x y:X} (ho:cO P op = .apz e n b z x y):
  ∃t tn k p q i u,op = .call ⟨.builtin .append, #[p,q], #[t,tn]⟩∧P.underlying t=some (.slice e)∧P.underlying tn=some (.int k)∧P.info? e=some i∧i.zero=some u∧u.cells.size=n∧i.size=n∧0<n∧i.bytes=b∧z=u.cells.toList.map Dw∧cX p=x∧cX q=y:=by
 cases op
 case call ci=>
  obtain ⟨callee,cargs,argTypes⟩:=ci;cases callee with
  | value o=>
    cases o with
    | func f'=>simp only [cO] at ho;(repeat' (split at ho))<;>simp at ho
    | _=>simp [cO] at ho
  | invoke _ _=>simp [cO] at ho
  | builtin b=>
    cases b
    case append=>
     simp only [cO] at ho;split at ho
     ·rename_i t0 t1 p q h1 h2;split at ho
      ·(repeat' (split at ho))<;>simp at ho
      ·split at ho
       ·rename_i e' k hu hk;split at ho
        ·rename_i i hi;split at ho
         ·rename_i u hz;split at ho
          ·rename_i hs;simp only [EO.apz.injEq] at ho;obtain ⟨rfl,rfl,rfl,rfl,rfl,rfl⟩:=ho;have e1:cargs = #[p,q]:=by apply Array.ext';simpa using h2
           have e2:argTypes = #[t0,t1]:=by apply Array.ext';simpa using h1
           subst e1;subst e2;exact ⟨t0,t1,k,p,q,i,u,rfl,hu,hk,hi,hz,hs.1,rfl,hs.2,rfl,rfl,rfl,rfl⟩
          ·simp at ho
         ·simp at ho
        ·simp at ho
       ·simp at ho
     ·simp at ho
    all_goals (simp only [cO] at ho;(repeat' (split at ho))<;>simp at ho)
 all_goals (simp only [cO] at ho;(repeat' (split at ho))<;>simp at ho)
def LU {α:Type} (b:Nat) (n:Int) (z:α):Option (List α):=if 0<n∧n*b≤140737488355328∧n≤9223372036854775807 then some (List.replicate n.toNat z) else none
theorem Z0G {e n b:Nat} {z:List AV} {x y:X} {m:Int} (hx:S.x x = .nl) (hy:S.x y = .iv m) (h0:0<m) (hb:m*b≤140737488355328) (hE:m≤9223372036854775807) (hA:Cs z=true):
  Bi c S (.apz e n b z x y) (.osl (Aa S.ss)) ⟨S.tm,S.bs,S.ss++[some ⟨e,n,List.replicate m.toNat z⟩]⟩:=by
 intro ro hw M a w h8 next Q hG
 obtain ⟨dst,op,ty,pos,af,gd⟩:=ro;dsimp only at hw;obtain ⟨t,tn,kk,p,q,i,u,rfl,hu,hk,hi,hz,hn,hK,hI,rfl,rfl,rfl,rfl⟩:=fQ hw;have k1:=Ak h8 p;have k2:=Ak h8 q;rw [hx] at k1;rw [hy] at k2;simp only [AV.is] at k1 k2;obtain ⟨k,rfl⟩:∃k:Nat,m=k:=⟨m.toNat,Om⟩
 have hS:=h8.st;have hb':k*i.bytes≤140737488355328:=by
  have:((k*i.bytes:Nat):Int)≤140737488355328:=by rw [Int.natCast_mul];exact hb
  omega
 have r1:=Lib.run_append_nil_zeros (P:=c.P) w t tn ty e i u .i64 kk hu hk hi hz k Om Om hE Om;have hB:(execOp a.eval ⟨dst,.call ⟨.builtin .append, #[p,q], #[t,tn]⟩,ty,pos,af,gd⟩).run c.P w = .ok (.value (.slice (some ⟨w.heap.size,0,none⟩) k (grownCap w k 0 e))) (w.drew.alloc (.cells (Builtin.zeroCells u.cells k++Builtin.zeroCells u.cells (grownCap w k 0 e-k)) e)):=by generalize a.eval=ρ at *;simp [execOp,resolve,invoke,builtin,k1,k2,r1]
 unfold Oper.wp;rw [hB];have h9:∀k,(Builtin.zeroCells u.cells k).toList=(List.replicate k u.cells.toList).flatten:=fun k=>Zr u.cells k;have hC:u.cells.toList.length=n:=by simpa using hn
 have hv:=PW (FO M.sl u.cells.toList) k;rw [hC] at hv;have hd:∀v∈u.cells.toList,v.oneCell'=true:=by
  have:∀l:List Value,Cs (l.map Dw)=true→∀v∈l,v.oneCell'=true:=by
   intro l;induction l with
   | nil=>simp
   | cons v l ih=>
     intro h u hu;simp only [List.map_cons,Cs,AO] at h;rcases List.mem_cons.1 hu with rfl | hu
     ·exact ol h.1
     ·exact ih h.2 u hu
  exact this _ hA
 have hJ:=grownCap_ge w k 0 e;have hD:=grownCap_le_maxLen w k 0 e (by unfold maxLen;omega);have h6:∀q,(Builtin.zeroCells u.cells q).size=q*n:=by intro q;simp [Builtin.zeroCells,hn]
 have hg:w.grownBy (w.drew.alloc (.cells (Builtin.zeroCells u.cells k++Builtin.zeroCells u.cells (grownCap w k 0 e-k)) e)) none:=by
  refine ⟨rfl,rfl,rfl,?_,fun j hj _=>?_⟩
  ·show w.heap.size≤(w.heap.push _).size;simp
  ·show (w.heap.push _)[j]?=_;rw [Array.getElem?_push,if_neg Om]
 have hr:RelS c (M.addS (.slice (some ⟨w.heap.size,0,none⟩) k (grownCap w k 0 e))) S.bs (S.ss++[some (⟨e,n,List.replicate k (u.cells.toList.map Dw)⟩:Sl)]) (w.drew.alloc (.cells (Builtin.zeroCells u.cells k++Builtin.zeroCells u.cells (grownCap w k 0 e-k)) e)):=by
  refine RelS.grown (v:=.slice none 0 0) (vss:=List.replicate k u.cells.toList) hS rfl ?_ (.inl rfl) ?_ hg (.inr fun g hg=>?_) hI hv ?_ ?_
  ·intro i N hi;exact ⟨hi,fun g hg=>by simp [Value.ownBlock] at hg⟩
  ·intro g hg;simp [Value.ownBlock] at hg
  ·simp [Value.ownBlock] at hg;omega
  ·intro v hv;simp only [List.mem_flatten,List.mem_replicate] at hv;obtain ⟨l,⟨_,rfl⟩,hv⟩:=hv;exact hd v hv
  ·rw [List.length_replicate];refine ⟨by rw [←h9];simp [h6],.inr ⟨w.heap.size,grownCap w k 0 e,Builtin.zeroCells u.cells k++Builtin.zeroCells u.cells (grownCap w k 0 e-k),rfl,Nat.zero_le _,?_,hJ,hD,?_,?_⟩⟩
   ·show (w.heap.push _)[w.heap.size]?=_;rw [Array.getElem?_push,if_pos rfl]
   ·rw [Array.size_append,h6,h6,←Nat.add_mul];congr 1;omega
   ·rw [Array.toList_append,h9,List.take_left'];rw [←h9];simp [h6]
 refine hG _ _ _ (Mem.le_addS M _) (by simpa using hr) ?_;rw [Bh,←hS.ns];exact ⟨Nat.lt_succ_self _,by simp [Mem.addS]⟩
theorem fg {α:Type} {l':List α} {m:Int} {y:α} {d:Option Nat} {g:Option (Nat×Bool)} {l:List EOp} {e n b:Nat} {z:List AV} {p q:X} (f:α→List AV) (hv:LU b m y=some l') (hg:gm S g) (hx:S.x p = .nl) (hy:S.x q = .iv m) (hz:f y=z) (h6:Cs z=true)
  (h:V c fn K (.ops l::k) ((⟨S.tm,S.bs,S.ss++[some ⟨e,n,l'.map f⟩]⟩:St).put d (.osl (Aa S.ss)))):V c fn K (.ops (⟨d,g,.apz e n b z p q⟩::l)::k) S:=by
 unfold LU at hv;split at hv
 ·rename_i h1;simp at hv;subst hv;rw [List.map_replicate,hz] at h;exact AU hg (Z0G hx hy h1.1 h1.2.1 h1.2.2 h6) rfl h
 ·simp at hv
section
variable {all:Array Oper} {ops:List EOp} {af:List (List Nat)} {Φ:St→Prop} {m:Nat} {ld:List Bool}
theorem oF (h6:all.toList.mapM (AL c.P all)=some ops) {i:Nat} {α:Type} {l':List α} {z:Int} {v:α} {T n j:Nat} {x y:X} (f:α→List AV) (hv:A4 l' z=some v) (ho:(A8 ops i).o = .idx n x y) (hg:gm S (A8 ops i).g) (hx:S.x x = .osl j) (hi:S.x y = .iv z) (hj:A2 S.ss j=some ⟨T,n,l'.map f⟩)
  (h:G c all ops af Φ m (Au ld i) (S.put (A8 ops i).d (.oel j (z.toNat*n) 0))):GO c all ops af Φ m ld S i:=by
 obtain ⟨h0,hr⟩:=EA hv;have:=(List.getElem?_eq_some_iff.1 hr).1;exact Bk h6 hg (by rw [ho];exact n8 hx hi hj rfl h0 (by simp;omega)) rfl (Cg _ _) h
theorem oG (h6:all.toList.mapM (AL c.P all)=some ops) {i:Nat} {α:Type} {l':List α} {z:Int} {y:α} {j T n off:Nat} {x:X} {v:AV} (f:α→List AV) (hv:A4 l' z=some y) (ho:(A8 ops i).o = .load x) (hg:gm S (A8 ops i).g) (hx:S.x x = .oel j (z.toNat*n) off) (hj:A2 S.ss j=some ⟨T,n,l'.map f⟩)
  (hl:Dr (f y) off 1=some [v]) (h:G c all ops af Φ m (Au ld i) (S.put (A8 ops i).d v)):GO c all ops af Φ m ld S i:=
 Bk h6 hg (by rw [ho];exact dP hx hj rfl (IP (EA hv).2) hl) rfl (Cg _ _) h
theorem Zs (h6:all.toList.mapM (AL c.P all)=some ops) {i:Nat} {α:Type} {l':List α} {z:Int} {y y':α} {j T n off q:Nat} {x v:X} {cs0:List AV} (cs:List AV) (f:α→List AV) (hv:A4 l' z=some y) (ho:(A8 ops i).o = .store q x v) (hg:gm S (A8 ops i).g) (hx:S.x x = .oel j (z.toNat*n) off) (hj:A2 S.ss j=some ⟨T,n,l'.map f⟩)
  (h8:(S.x v).cells=some cs0) (h9:AV.le.leL cs0 cs) (hm:Aa cs=q) (h1:Cs cs=true) (hp:AD cs=true) (hl:BM (f y) off cs=some (f y'))
  (h:G c all ops af Φ m (Au ld i) ((⟨S.tm,S.bs,Ar S.ss j (some ⟨T,n,(l'.set z.toNat y').map f⟩)⟩:St).put (A8 ops i).d .un)):GO c all ops af Φ m ld S i:=by
 refine Bk (S1:=⟨S.tm,S.bs,Ar S.ss j (some ⟨T,n,(l'.set z.toNat y').map f⟩)⟩) h6 hg ?_ rfl (by rw [ho];exact fun _ _ _ _ h _ _=>h) h;rw [ho,List.map_set];exact dQ hx hj rfl (IP (EA hv).2) h8 h9 hm h1 (dV hp) hl
theorem oI (h6:all.toList.mapM (AL c.P all)=some ops) {i:Nat} {α:Type} {l':List α} {z:Int} {y y':α} {j T n off q:Nat} {x v:X} {cs0:List AV} (cs:List AV) (f:α→List AV) (hv:A4 (l'.set z.toNat y) z=some y) (ho:(A8 ops i).o = .store q x v) (hg:gm S (A8 ops i).g) (hx:S.x x = .oel j (z.toNat*n) off) (hj:A2 S.ss j=some ⟨T,n,(l'.set z.toNat y).map f⟩)
  (h8:(S.x v).cells=some cs0) (h9:AV.le.leL cs0 cs) (hm:Aa cs=q) (h1:Cs cs=true) (hp:AD cs=true) (hl:BM (f y) off cs=some (f y'))
  (h:G c all ops af Φ m (Au ld i) ((⟨S.tm,S.bs,Ar S.ss j (some ⟨T,n,(l'.set z.toNat y').map f⟩)⟩:St).put (A8 ops i).d .un)):GO c all ops af Φ m ld S i:=
 Zs h6 cs f hv ho hg hx hj h8 h9 hm h1 hp hl (by rw [List.set_set];exact h)
end
end
section
variable {c:Ctx} {S:St} {fn:Func} {K:AV→List (Option Blk)→List (Option Sl)→Prop} {k:List It}
theorem ZC (t:Nat) (y:AV) (hle:AV.le (AJ S.tm t) y) (h:V c fn K k ⟨BL S.tm t y,S.bs,S.ss⟩):V c fn K k S:=by
 intro rk M a w hc hT;refine h rk M a w hc ⟨by rw [I8];exact hT.len,fun u=>?_,hT.df,hT.st⟩;rw [F6];split
 ·rename_i e;obtain ⟨rfl,_⟩:=e;exact Mw _ _ _ hle (hT.tm u)
 ·exact hT.tm u
theorem pF (T n:Nat) (hn:AA 1 n=true) (h:V c fn K k ⟨S.tm,S.bs,S.ss++[some ⟨T,n,[]⟩]⟩):V c fn K k S:=by intro rk M a w hc hT;have hS:=hT.st;rw [D0] at hn;have hr:=hS.name ⟨T,n,[]⟩ (.slice none 0 0) [] hn rfl (by simp) (World.ownsRow_nil w 0 T n) (fun g hg=>by simp [Value.ownBlock] at hg) (fun i B _=>by simp [Value.ownBlock]) (fun j N g _ hg=>by simp [Value.ownBlock] at hg);exact h rk _ a w hc ⟨hT.len,fun u=>Dm (Mem.le_addS M (.slice none 0 0)) _ _ (hT.tm u),hT.df,hr⟩
theorem HQ {all:Array Oper} {ops:List EOp} {af:List (List Nat)} {Φ:St→Prop} {m:Nat} {ld:List Bool} (v':AV) (h6:all.toList.mapM (AL c.P all)=some ops) {i:Nat} {v:AV} {S1:St} {q:Prop} (he:I0 S (A8 ops i)=some (v,S1,q)) (hq:q) (hle:AV.le v v')
  (h:G c all ops af Φ m (Au ld i) (S1.put (A8 ops i).d v')):GO c all ops af Φ m ld S i:=by
 unfold I0 at he;split at he
 ·rename_i hg;exact .inr ⟨aK hg,v',S1,fun ro h8 M a w hT next Q hn=>Z7 he hq ro (LZ (OW h6 h8)).2 M a w hT next Q fun M' w' x h1 h2 h3=>hn M' w' x h1 h2 (Mw _ _ _ hle h3),(UW he).1,.inl (UW he).2,h⟩
 ·simp at he
end
end NX
end Go.Proofs.YtjemlejoladlcaaGreat
/-
  From what a machine computes to what a row says: arguments as data, and what is left of them. No statement of the seat is proved here.
-/
namespace Go.Proofs.YtjemlejoladlcaaGreat
namespace NX
open Go Go.RowKit Go.ChangeShapes Go.WideShapes
def Cy (P:Program) (t:TypeId) {α:Type} (row:α→List AV):Prop:=
 ∀ {H:Type} (enc:TypeId×Value→H) (w:World) (base:Nat) (sp:Nat→Bool) (h6:Bool) (fuel:Nat) (cs:List Value) (x:DataW H×List MemPlace),
   DataW.trod enc P w base sp h6 fuel t cs=some x→∃v:α,AV.isL (DC fun k=>w.heap[k]?) (row v) cs
theorem Ck {P:Program} {t:TypeId} (ht:P.underlying t=some (.int .i64)):Cy P t Ad:=by intro H enc w base sp h6 fuel cs x h;obtain ⟨n,rfl,_,_⟩:=DataW.trod_int ht h;exact ⟨n,_,_,rfl,rfl,rfl⟩
theorem d9 {P:Program} {t:TypeId} (ht:P.underlying t=some .bool):Cy P t DW:=by intro H enc w base sp h6 fuel cs x h;obtain ⟨n,rfl,_⟩:=DataW.trod_bool ht h;exact ⟨n,_,_,rfl,rfl,rfl⟩
theorem cells?_get {w:World} {E:Nat} {a:Addr} {n:Nat} {l:List Value} (h:w.cells? E a n=some l):l.length=n∧∀i v,l[i]?=some v→w.cell? (a.add i)=some v:=by
 unfold World.cells? at h;split at h
 ·obtain ⟨h1,h2⟩:=JZ h;refine ⟨by simpa using h1,fun i v hv=>?_⟩;have hlt:i<n:=by have:=(List.getElem?_eq_some_iff.1 hv).1;simp at h1;omega
  obtain ⟨y,hy1,h6⟩:=h2 i i (by simp [hlt]);rw [hv] at hy1;simp at hy1;subst hy1;exact h6
 ·simp at h
theorem cell?_none {w:World} {a:Addr} {v:Value} (h:w.cell? a=some v):a.spot=none∧∃cs T fr,w.heap[a.block]?=some (.cells cs T fr)∧cs[a.off]?=some v:=by
 unfold World.cell? at h;split at h
 ·rename_i cs T fr hc;split at h
  ·simp at h
  ·rename_i hs;exact ⟨by cases h6:a.spot<;>simp_all,cs,T,fr,hc,h⟩
 ·simp at h
theorem uy {M:Mem} {l:List AV} {vs:List Value} (h:AV.isL M l vs) (hp:Cs l=true) (ho:AD l=true):∀v∈vs,v.oneCell'=true:=by
 induction l generalizing vs with
 | nil=>simp [AV.isL] at h;subst h;simp
 | cons x l ih=>
   obtain ⟨v,r,rfl,h1,h2⟩:=h;simp only [Cs,AO] at hp;simp only [AD,AO] at ho;intro u hu;rcases List.mem_cons.1 hu with rfl | hu
   ·exact d8 h1 hp.1 (fun j e=>by subst e;simp [AV.pu] at ho)
   ·exact ih h2 hp.2 ho.2 u hu
theorem qa (a:Addr) (i k:Nat) (ha:a.spot=none):(a.add i).add k=⟨a.block,a.off+i+k,none⟩:=by obtain ⟨b,o,sp⟩:=a;dsimp only at ha;subst ha;simp [Addr.add];split<;>split<;>simp_all [Nat.add_assoc]
theorem IM {P:Program} {t e:TypeId} {n:Nat} {α:Type} {row:α→List AV} (ht:P.underlying t=some (.slice e)) (hn:P.cellsOf e=n) (hE:0<n) (h8:∀v,(row v).length=n∧Cs (row v)=true∧AD (row v)=true) (he:Cy P e row):Cy P t (Ci n row):=by
 intro H enc w base sp hG fuel cs x h;rcases DataW.trod_slice ht h with ⟨rfl,_⟩ | ⟨a,len,cap,elems,rest,m,_,rfl,_,hb,hJ,hS,hT,h9,_,_⟩
 ·exact ⟨[],_,_,rfl,⟨none,0,rfl,⟨Nat.le_refl _,fun _=>rfl⟩,fun hne=>absurd rfl hne⟩,rfl⟩
 ·rw [hn] at h9;have each:∀i,i<len→∃v:α,∃l,w.cells? base (a.add (i*n)) n=some l∧AV.isL (DC fun k=>w.heap[k]?) (row v) l:=by
   intro i hi;have hg:=h9 i hi;have hA:∃y,elems[i]?=some y:=⟨_,List.getElem?_eq_getElem Om⟩
   obtain ⟨y,hy⟩:=hA;rw [hy,Option.bind_eq_some_iff] at hg;obtain ⟨l,hl,hd⟩:=hg;obtain ⟨v,hv⟩:=he enc w base sp hG m l y hd;exact ⟨v,l,hl,hv⟩
  have build:∀k,k≤len→∃(vs:List α) (vss:List (List Value)),vs.length=k∧AV.isLL (DC fun k=>w.heap[k]?) n (vs.map row) vss∧(∀v∈vss.flatten,v.oneCell'=true)∧
    ∀j u,vss.flatten[j]?=some u→∃i q,i<k∧q<n∧j=i*n+q∧w.cell? ((a.add (i*n)).add q)=some u:=by
   intro k;induction k with
   | zero=>intro _;exact ⟨[],[],rfl,rfl,by simp,by simp⟩
   | succ k ih=>
     intro hk;obtain ⟨vs,vss,h1,h2,h3,h4⟩:=ih Om;obtain ⟨v,l,hl,hv⟩:=each k Om;obtain ⟨hK,hL⟩:=cells?_get hl;refine ⟨vs++[v],vss++[l],by simp [h1],?_,?_,?_⟩
     ·rw [List.map_append];exact Jn h2 ⟨l,[],rfl,hK,hv,rfl⟩
     ·intro u hu;rw [List.flatten_append,List.mem_append] at hu;rcases hu with hu | hu
      ·exact h3 u hu
      ·exact uy hv (h8 v).2.1 (h8 v).2.2 u (by simpa using hu)
     ·intro j u hj;have hB:vss.flatten.length=k*n:=by have:=Dl h2;simpa [h1] using this
      rw [List.flatten_append] at hj;by_cases hN:j<vss.flatten.length
      ·rw [List.getElem?_append_left hN] at hj;obtain ⟨i,q,g1,g2,g3,g4⟩:=h4 j u hj;exact ⟨i,q,Om,g2,g3,g4⟩
      ·rw [List.getElem?_append_right Om,hB] at hj;simp only [List.flatten_cons,List.flatten_nil,List.append_nil] at hj;have hq:=(List.getElem?_eq_some_iff.1 hj).1;exact ⟨k,j-k*n,Om,Om,Om,hL _ _ hj⟩
  obtain ⟨vs,vss,h1,h2,h3,h4⟩:=build len (Nat.le_refl _);refine ⟨vs,_,[],rfl,⟨some a,cap,by simp [h1],⟨by simpa [h1] using hJ,fun h=>by simp at h⟩,fun hne=>⟨a,vss,rfl,h2,?_⟩⟩,rfl⟩;have hI:0<len:=by
   rcases Nat.eq_zero_or_pos len with h0 | h0
   ·exfalso;apply hne;rw [List.map_eq_nil_iff];exact List.length_eq_zero_iff.1 Om
   ·exact h0
  have hB:vss.flatten.length=len*n:=by have:=Dl h2;simpa [h1] using this
  have hR:0<len*n:=Nat.mul_pos hI hE;obtain ⟨u0,hO⟩:∃u,vss.flatten[0]?=some u:=⟨_,List.getElem?_eq_getElem Om⟩
  obtain ⟨i0,q0,_,_,e0,g0⟩:=h4 0 u0 hO;have hP:i0*n=0:=by omega
  have hQ:q0=0:=by omega
  rw [hP,hQ] at g0;have hC:a.spot=none:=(cell?_none (a:=a) (by simpa [Addr.add] using g0)).1;obtain ⟨_,cs0,T0,fr0,hw,_⟩:=cell?_none (a:=a) (by simpa [Addr.add] using g0);refine ⟨hC,h3,cs0,T0,fr0,hw,fun j u hj=>?_⟩;obtain ⟨i,q,g1,g2,g3,g4⟩:=h4 j u hj;rw [qa a _ _ hC] at g4;obtain ⟨_,cs1,T1,fr1,h6,hD⟩:=cell?_none g4;dsimp only at h6 hD;rw [hw] at h6;simp only [Option.some.injEq,Obj.cells.injEq] at h6;obtain ⟨rfl,_,_⟩:=h6;rw [g3,←Nat.add_assoc];exact hD
theorem ZQ {P:Program} {t:TypeId} {α:Type} {row:α→List AV} (ho:Cy P t row) {Y:Array Field} (ht:P.underlying t=some (.struct Y)) {H:Type} {enc:TypeId×Value→H} {w:World} {U:Nat} {r:Reach} {E:Nat} {J:Nat→Bool} {h6:Bool} {v:Value} {d:DataW H} {ps:List MemPlace}
  (hv:Value.okWide P w r U t v) (Z:DataW.Trod enc P w E J h6 t v d ps):∃x:α,AV.is (DC fun k=>w.heap[k]?) (.agg (row x)) v:=by
 obtain ⟨fuel,hf⟩:=Z;obtain ⟨x,hx⟩:=ho enc w E J h6 fuel _ _ hf;unfold Value.okWide at hv;rw [ht] at hv;obtain ⟨cs,rfl,_,_⟩:=hv;exact ⟨x,cs.toList,by simp,hx⟩
theorem ZR {P:Program} {t e:TypeId} {n:Nat} {α:Type} {row:α→List AV} (ho:Cy P t (Ci n row)) (ht:P.underlying t=some (.slice e)) {H:Type} {enc:TypeId×Value→H} {w:World} {U:Nat} {r:Reach} {E:Nat} {J:Nat→Bool} {h6:Bool} {v:Value} {d:DataW H} {ps:List MemPlace}
  (hv:Value.okWide P w r U t v) (Y:DataW.Trod enc P w E J h6 t v d ps):∃x:List α,AV.is (DC fun k=>w.heap[k]?) (.sl n (x.map row)) v:=by
 obtain ⟨fuel,hf⟩:=Y;obtain ⟨x,hx⟩:=ho enc w E J h6 fuel _ _ hf;obtain ⟨a0,len,cap,rfl⟩:=okWide_slice ht hv;obtain ⟨u,q,h1,h2,_⟩:=hx;simp [Value.cells] at h1;exact ⟨x,by rw [h1.1];exact h2⟩
theorem od {P:Program} {H:Type} {enc:TypeId×Value→H} (hl:laidOutB P=true) {W U:World} (Y:Below W.heap.size W U):∀ {E:List TypeId} {vs:List Value} {J:List (DataW H)} {ps:List MemPlace},
  (E.all fun t=>P.readableRec t&&decide (t<P.types.size))=true→DataW.TrodAll enc P W 0 (fun _=>true) true E vs J ps→(∀x∈ps,x.block<W.heap.size)→
  DataW.TrodAll enc P U 0 (fun b=>decide (b<W.heap.size)) true E vs J ps
 | [],[],[],ps,_,h,_=>h
 | t::E,v::vs,d::J,ps,hr,⟨p,q,h1,h2,e⟩,hlt=>by simp only [List.all_cons,Bool.and_eq_true,decide_eq_true_eq] at hr;subst e;exact ⟨p,q,Below.trod hl hr.1.1 hr.1.2 h1 Y (fun x hx=>hlt x (List.mem_append_left _ hx)),od hl Y (by simpa using hr.2) h2 (fun x hx=>hlt x (List.mem_append_right _ hx)),rfl⟩
 | [],_::_,_,_,_,h,_=>by simp [DataW.TrodAll] at h
 | [],[],_::_,_,_,h,_=>by simp [DataW.TrodAll] at h
 | _::_,[],_,_,_,h,_=>by simp [DataW.TrodAll] at h
 | _::_,_::_,[],_,_,h,_=>by simp [DataW.TrodAll] at h
theorem oe {P:Program} {H:Type} {enc:TypeId×Value→H} {w:World} {b:Nat} {U:Nat→Bool} {h6:Bool}:∀ {E:List TypeId} {vs:List Value} {J:List (DataW H)} {ps:List MemPlace},DataW.TrodAll enc P w b U h6 E vs J ps→J.length=E.length∧vs.length=E.length
 | [],[],[],_,_=>⟨rfl,rfl⟩
 | _::_,_::_,_::_,_,⟨_,_,_,h,_⟩=>by have:=oe h;simp [this]
 | [],_::_,_,_,h=>by simp [DataW.TrodAll] at h
 | [],[],_::_,_,h=>by simp [DataW.TrodAll] at h
 | _::_,[],_,_,h=>by simp [DataW.TrodAll] at h
 | _::_,_::_,[],_,h=>by simp [DataW.TrodAll] at h
theorem bp {P:Program} {fn:Func} {s:ChangeSpec} (hl:laidOutB P=true) (hr:(fn.params.toList.all fun t=>P.readableRec t&&decide (t<P.types.size))=true) (hv:s.vars=[]) {Y:TypeId} (h6:fn.resultTypes = #[Y]) (hb:P.underlying Y=some .bool)
  {H:Type} {enc:TypeId×Value→H} {W U:World} {args:Array Value} {J Z:List (DataW H)} {E:List MemPlace}
  (hs:J.length=fn.params.size→s.fn H J={results:=[.lit (.bool true)],args:=J})
  (hW:DataW.Whole enc P fn.params.toList s.vars false W args.toList J Z E) (hB:Below W.heap.size W U):s.post enc P fn false true false false W args (.bool true) U:=by
 have hW':=hW;obtain ⟨p,q,hA,hV,rfl,h9,hd⟩:=hW;rw [hv] at hV;obtain ⟨rfl,rfl⟩:=trodVars_none hV;have h8:=(oe hA).1;have e1:s.fn H (J++[])={results:=[.lit (.bool true)],args:=J}:=by rw [List.append_nil];exact hs (by simpa using h8)
 refine ⟨J,[],p++[],[],p,[],hW',?_,?_,?_,hB.frame _,fun h=>by cases h⟩
 ·rw [e1,h6];exact trodAll_mk1 (shut_bool hb _)
 ·rw [e1];exact od hl hB hr hA (fun x hx=>hW'.lt x (List.mem_append_left _ hx))
 ·rw [e1,hv];rfl
end NX
end Go.Proofs.YtjemlejoladlcaaGreat
