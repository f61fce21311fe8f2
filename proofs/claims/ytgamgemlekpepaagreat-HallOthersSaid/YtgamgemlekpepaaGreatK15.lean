/-
  The symbolic machine: parts of own slices: cut, cleared, laid behind one another. No statement of the seat is proved here.
-/
import Derived.Laws.BytesString
import Derived.Test.YtgamgemlekpepaaGreatK14
namespace Go.Proofs.YtgamgemlekpepaaGreat
namespace NX
open Go Go.RowKit
section
variable {c:Ctx} {M:Mem} {S S':St} {a:Act} {w:World} {fn:Func} {K:AV→List (Option Blk)→List (Option Sl)→Prop} {k:List It}
theorem Zjg {P:Program} {w:World} {T e n:Nat} (hu:P.underlying T=some (.slice e)) (hs:Z9 P e=some n) {x:Operand} {l h:Option Operand} {ρ:Operand→Value} {ad:Option Addr} {len cp:Nat} {lo hi:Int}
  (hx:ρ x = .slice ad len cp) (hl:match l with | none=>lo=0 | some o=>ρ o = .int .i64 lo) (hh:match h with | none=>hi=len | some o=>ρ o = .int .i64 hi) (h0:0≤lo) (h1:lo≤hi) (h2:hi≤cp)
  (d:Option Tmp) (ty:TypeId) (pos:String) (af:Array Go.Edge) (J:Option (Nat×Bool)):
  (execOp ρ ⟨d,.slice T x l h none,ty,pos,af,J⟩).run P w = .ok (.value (.slice (if cp=lo.toNat then ad else ad.map (·.add (lo.toNat*n))) (hi.toNat-lo.toNat) (cp-lo.toNat))) w:=by
 have key:(Instr.sliceBounds true len cp (l.map ρ) (h.map ρ) none).run P w = .ok (lo.toNat,hi.toNat,cp) w:=by
  cases l<;>cases h<;>simp only at hl hh<;>simp only [Option.map,Instr.sliceBounds]
  ·subst hl;simp [hh]
  ·subst hl;simp [Instr.sliceBound,asIntOf,hh,h2,show 0≤hi by omega]
  ·subst hh;simp [Instr.sliceBound,asIntOf,hl,h0,h1]
  ·simp [Instr.sliceBound,asIntOf,hl,hh,h0,h1,h2,show 0≤hi by omega,Int.toNat_of_nonneg (show 0≤hi by omega)]
 simp [execOp,Instr.sliceAt,Instr.slice,hx,run_underlying hu,key,Z74 hs]
theorem Zkg {j T n m:Nat} {x:X} {lo hi:Option X} {rows:List (List AV)} {l h:Int} (hx:S.x x = .ocs j 0 n m) (hj:Zp S.ss j=some ⟨T,n,rows⟩) (hr:0<rows.length) (hd:bnd S lo 0=some l) (hf:bnd S hi m=some h) (h0:0≤l) (h1:l≤h) (h2:h≤rows.length):
  Z77 c S (.slice n x lo hi) (.ocs j l.toNat n (h.toNat-l.toNat)) S:=by
 intro ro h8 M a w h6 next Q hn
 obtain ⟨dst,op,ty,pos,af,gd⟩:=ro;dsimp only at h8;obtain ⟨T',y,lo',hi',e,rfl,hu,hs,rfl,rfl,rfl⟩:=Zed h8;have hS:=h6.st;have k1:=Z34 h6 y;rw [hx] at k1;obtain ⟨ho,g1,n1,c1,k1,k1'⟩:=k1;obtain ⟨g,cap,cur,vss,e2,e3,e4,e5,e6,v1,v2,e7⟩:=Zeg hS hj hr;rw [e2] at k1;simp only [Value.slice.injEq,Option.some.injEq,Addr.mk.injEq] at k1;obtain ⟨⟨rfl,_⟩,_,rfl⟩:=k1;rw [Nat.zero_mul,ite_self,Nat.sub_zero] at k1';have b1:=Zhg (Z34 h6) lo' 0 l hd;have b2:=Zhg (Z34 h6) hi' m h hf;have h9:=Zjg (P:=c.P) (w:=w) hu hs (ρ:=a.eval) (ad:=some ⟨g,0,none⟩) (len:=m) (cp:=cap) (lo:=l) (hi:=h) k1' b1 b2 h0 h1 (by omega) dst ty pos af gd;unfold Oper.wp;rw [h9];refine hn M w _ (.refl M) hS ⟨ho,g,rows.length,cap,e2,?_⟩;by_cases hc:cap=l.toNat
 ·rw [if_pos hc,if_pos hc]
 ·rw [if_neg hc,if_neg hc];simp only [Option.map,Addr.add_lit,Nat.zero_add]
theorem Zlg {P:Program} {op:Op} {n:Nat} {x:X} {lo hi mx:Option X} (J:cO P op = .sl3 n x lo hi mx):
  ∃T y l h m e,op = .slice T y l h (some m)∧P.underlying T=some (.slice e)∧Z9 P e=some n∧cX y=x∧l.map cX=lo∧h.map cX=hi∧some (cX m)=mx:=by
 cases op
 case slice T y l h mx'=>
  simp only [cO] at J;split at J
  ·split at J<;>simp at J
  ·rename_i m e hu;split at J
   ·rename_i n' hn;simp only [EO.sl3.injEq] at J;obtain ⟨rfl,rfl,rfl,rfl,rfl⟩:=J;exact ⟨T,y,l,h,_,_,rfl,hu,hn,rfl,rfl,rfl,rfl⟩
   ·simp at J
  ·simp at J
  ·simp at J
 all_goals (simp only [cO] at J;(repeat' (split at J))<;>simp at J)
theorem Zmg {j T n:Nat} {x J xh xm:X} {rows:List (List AV)} {l h m:Int} (hx:S.x x = .osl j) (hj:Zp S.ss j=some ⟨T,n,rows⟩) (hr:0<rows.length) (hl:S.x J = .iv l) (hh:S.x xh = .iv h) (hm:S.x xm = .iv m) (h0:0≤l) (h1:l≤h) (h2:h≤m) (h3:m≤rows.length):
  Z77 c S (.sl3 n x (some J) (some xh) (some xm)) .any S:=by
 intro ro h9 M a w h6 next Q hc
 obtain ⟨dst,op,ty,pos,af,gd⟩:=ro;dsimp only at h9;obtain ⟨T',y,lo',hi',mx',e,rfl,hu,hs,rfl,q1,q2,q3⟩:=Zlg h9;cases lo' with
 | none=>simp at q1
 | some lo'=>
   cases hi' with
   | none=>simp at q2
   | some hi'=>
     simp only [Option.map_some,Option.some.injEq] at q1 q2 q3;have hS:=h6.st;have k1:=Z34 h6 y;rw [hx] at k1;obtain ⟨g,cap,cur,vss,e2,e3,e4,e5,e6,v1,v2,e7⟩:=Zeg hS hj hr;have b1:=Z34 h6 lo';have b2:=Z34 h6 hi';have b3:=Z34 h6 mx';rw [q1,hl] at b1;rw [q2,hh] at b2;rw [q3,hm] at b3;simp only [AV.is] at b1 b2 b3;have k1':=k1.2.trans e2;have h8:∃v,(execOp a.eval ⟨dst,.slice T' y (some lo') (some hi') (some mx'),ty,pos,af,gd⟩).run c.P w = .ok (.value v) w:=by
      have key:(Instr.sliceBounds true rows.length cap ((some lo').map a.eval) ((some hi').map a.eval) (some (a.eval mx'))).run c.P w = .ok (l.toNat,h.toNat,m.toNat) w:=by simp [Instr.sliceBounds,Instr.sliceBound,asIntOf,b1,b2,b3,show 0≤m by omega,show m≤(cap:Int) by omega,show 0≤h by omega,h0,h1,h2,Int.toNat_of_nonneg (show 0≤m by omega),Int.toNat_of_nonneg (show 0≤h by omega)]
      generalize a.eval=ρ at *;refine ⟨.slice (if m.toNat=l.toNat then some ⟨g,0,none⟩ else (some ⟨g,0,none⟩:Option Addr).map (·.add (l.toNat*n))) (h.toNat-l.toNat) (m.toNat-l.toNat),?_⟩;simp only [Option.map_some] at key;simp [execOp,Instr.sliceAt,Instr.slice,k1',run_underlying hu,Z74 hs,key]
     obtain ⟨v,h8⟩:=h8;unfold Oper.wp;rw [h8];exact hc M w _ (.refl M) hS trivial
theorem Zng {P:Program} {op:Op} {z:List AV} {x:X} (J:cO P op = .clr z x):∃p t e n,op = .call ⟨.builtin .clear, #[p], #[t]⟩∧P.underlying t=some (.slice e)∧Z8 P e=some z∧Z9 P e=some n∧z.length=n∧0<n∧cX p=x:=by
 cases op
 case call ci=>
  obtain ⟨callee,cargs,argTypes⟩:=ci;cases callee with
  | value o=>
    cases o with
    | func f'=>simp only [cO] at J;(repeat' (split at J))<;>simp at J
    | _=>simp [cO] at J
  | invoke _ _=>simp [cO] at J
  | builtin b=>
    cases b
    case clear=>
     simp only [cO] at J;split at J
     ·rename_i t0 p h1 h2;split at J
      ·rename_i e hu;split at J
       ·rename_i z' n hz hs;split at J
        ·rename_i hc;simp only [EO.clr.injEq] at J;obtain ⟨rfl,rfl⟩:=J;have e1:cargs = #[p]:=by apply Array.ext';simpa using h2
         have e2:argTypes = #[t0]:=by apply Array.ext';simpa using h1
         subst e1;subst e2;exact ⟨p,t0,e,n,rfl,hu,hz,hs,hc.1,hc.2,rfl⟩
        ·simp at J
       ·simp at J
      ·simp at J
     ·simp at J
    all_goals (simp only [cO] at J;(repeat' (split at J))<;>simp at J)
 all_goals (simp only [cO] at J;(repeat' (split at J))<;>simp at J)
theorem Zog (z:Array Value):∀n,(Builtin.zeroCells z n).toList=(List.replicate n z.toList).flatten
 | 0=>by simp [Builtin.zeroCells]
 | n+1=>by
   have ih:=Zog z n;simp only [Builtin.zeroCells,Array.toList_map,Array.toList_range] at ih ⊢;rw [List.replicate_succ',List.flatten_append,←ih,Nat.add_mul,Nat.one_mul,List.range_add,List.map_append];congr 1;rw [List.map_map];simp only [List.flatten_cons,List.flatten_nil,List.append_nil];refine List.ext_getElem? fun i=>?_;rw [List.getElem?_map];by_cases hi:i<z.size
   ·rw [List.getElem?_range hi];simp only [Option.map_some,Function.comp,Nat.mul_add_mod_self_right];rw [Nat.mod_eq_of_lt hi];simp [hi]
   ·rw [List.getElem?_eq_none (by simp;omega),List.getElem?_eq_none (by simp;omega)];rfl
theorem Zpg {j T n lo m:Nat} {x:X} {z:List AV} {rows:List (List AV)} (hx:S.x x = .ocs j lo n m) (hj:Zp S.ss j=some ⟨T,n,rows⟩) (hr:0<rows.length) (hD:lo+m≤rows.length) (J:List AV) (hz:AV.le.leL z J) (hp:puL J=true) (U:z.length=n) (h1:Zx z=true):
  Z77 c S (.clr z x) (.tup []) ⟨S.tm,S.bs,Zq S.ss j (some ⟨T,n,rows.take lo++List.replicate m J++rows.drop (lo+m)⟩)⟩:=by
 intro ro hc M a w hT next Q hd
 obtain ⟨dst,op,ty,pos,af,gd⟩:=ro;dsimp only at hc;obtain ⟨p,t,e,n',rfl,hu,hE,hs,hL,hN,rfl⟩:=Zng hc;have hG:n'=n:=by omega
 subst hG;have k1:=Z34 hT p;rw [hx] at k1;obtain ⟨hO,g1,n1,c1,k1,k1'⟩:=k1;obtain ⟨g,cap,cur,vss,e2,e3,e4,e5,e6,v1,v2,e7⟩:=Zeg hT.st hj hr;rw [e2] at k1;simp only [Value.slice.injEq,Option.some.injEq,Addr.mk.injEq] at k1;obtain ⟨⟨rfl,_⟩,_,rfl⟩:=k1;obtain ⟨i,u,hi,h9,hP,rfl⟩:=Zk4 hE;have hI:AV.isL M.sl J u.cells.toList:=Zo2 (Zk2 M) _ _ (Zu2 _ _ (Zi6 (M:=M) _ _ _ hz (Zr2 M _)) hp);have hw:u.cells.toList.length=n':=by simpa using U
 have hA:∀v∈u.cells.toList,v.oneCell'=true:=Zs4 (Zr2 M _) h1 hT.st.so;have hC:=Zef hI m;rw [hw] at hC;have hf:∀v∈(List.replicate m u.cells.toList).flatten,v.oneCell'=true:=fun v hv=>by obtain ⟨l,hl,hv⟩:=List.mem_flatten.1 hv;rw [List.eq_of_mem_replicate hl] at hv;exact hA v hv
 have ho:=Z0b hC;rw [List.length_replicate] at ho;have hW:=Zdg hT.st hj e2 e3 e4 e5 e6 v1 v2 e7 (A:=lo) hC hf (by rw [List.length_replicate];exact hD);rw [List.length_replicate] at hW;by_cases hJ:m=0
 ·subst hJ;have h6:(execOp a.eval ⟨dst,.call ⟨.builtin .clear, #[p], #[t]⟩,ty,pos,af,gd⟩).run c.P w = .ok (.value (.tuple #[])) w:=by generalize a.eval=ρ at *;simp [execOp,resolve,invoke,builtin,Builtin.clear_,run_underlying hu,k1']
  unfold Oper.wp;rw [h6];refine hd M _ _ (.refl M) ?_ ⟨[],rfl,rfl⟩;simp only [List.replicate_zero,List.append_nil,Nat.add_zero,List.take_append_drop];show RelS c M S.bs (Zq S.ss j (some ⟨T,n',rows⟩)) w;rw [Zgg _ _ _ hj];exact hT.st
 ·have hB:¬cap=lo:=by omega
  rw [if_neg hB] at k1';have q1:(lo+m)*n'≤cap*n':=Nat.mul_le_mul_right _ (by omega);rw [Nat.add_mul] at q1;have h8:=run_storeCells_at c.P g (lo*n') T (List.replicate m u.cells.toList).flatten 0 cur w e3 (by rw [Nat.add_zero,ho,e6];exact q1) hf;rw [Nat.add_zero] at h8;have h6:(execOp a.eval ⟨dst,.call ⟨.builtin .clear, #[p], #[t]⟩,ty,pos,af,gd⟩).run c.P w = .ok (.value (.tuple #[])) (w.setRow g (cur.toList.take (lo*n')++(List.replicate m u.cells.toList).flatten++cur.toList.drop (lo*n'+(List.replicate m u.cells.toList).flatten.length)).toArray):=by
   have hK:(zeroValue e).run c.P w = .ok u w:=by simp [zeroValue,typeInfo,hi,h9]
   rw [←Zog] at h8 ⊢;generalize a.eval=ρ at *;obtain ⟨m',rfl⟩:∃m',m=m'+1:=⟨m-1,by omega⟩
   simp [execOp,resolve,invoke,builtin,Builtin.clear_,run_underlying hu,k1',hK,h8]
  unfold Oper.wp;rw [h6];exact hd M _ _ (.refl M) hW ⟨[],rfl,rfl⟩
theorem Zqg {j e n b i lo m:Nat} {x y:X} {rows:List (List AV)} (hx:S.x x = .ocs j 0 n i) (hy:S.x y = .ocs j lo n m) (hj:Zp S.ss j=some ⟨e,n,rows⟩) (hr:0<rows.length) (h1:i+m≤rows.length) (h2:lo+m≤rows.length):
  Z77 c S (.app e n b x y) (.ocs j 0 n (i+m)) ⟨S.tm,S.bs,Zq S.ss j (some ⟨e,n,rows.take i++(rows.take (lo+m)).drop lo++rows.drop (i+m)⟩)⟩:=by
 intro ro hn M a w hT next Q hC
 obtain ⟨dst,op,ty,pos,af,gd⟩:=ro;dsimp only at hn;obtain ⟨t,p,q,inf,z,rfl,hu,hi,hz,h9,hG,hI,hJ,rfl,rfl⟩:=Ze7 hn;have k1:=Z34 hT p;have k2:=Z34 hT q;rw [hx] at k1;rw [hy] at k2;obtain ⟨hD,g1,n1,c1,k1,k1'⟩:=k1;obtain ⟨_,g2,n2,c2,k2,k2'⟩:=k2;obtain ⟨g,cap,cur,vss,e2,e3,e4,e5,e6,v1,v2,e7⟩:=Zeg hT.st hj hr;rw [e2] at k1 k2;simp only [Value.slice.injEq,Option.some.injEq,Addr.mk.injEq] at k1 k2;obtain ⟨⟨rfl,_⟩,_,rfl⟩:=k1;obtain ⟨⟨rfl,_⟩,_,rfl⟩:=k2;rw [Nat.zero_mul,ite_self,Nat.sub_zero] at k1';have hw:=Zgd v1 lo (lo+m);have h6:=Z0b hw;have hk:((rows.take (lo+m)).drop lo).length=m:=by rw [List.length_drop,List.length_take];omega
 rw [hk] at h6;have h8:=(Zqe v1).1;have ho:((vss.take (lo+m)).drop lo).flatten=(vss.flatten.take ((lo+m)*n)).drop (lo*n):=by rw [(Zcg (fun v hv=>h8 v (List.mem_of_mem_take hv)) lo).2,(Zcg h8 _).1]
 have hd:∀v∈((vss.take (lo+m)).drop lo).flatten,v.oneCell'=true:=fun v hv=>by rw [ho] at hv;exact v2 v (List.mem_of_mem_take (List.mem_of_mem_drop hv))
 have q1:(i+m)*n≤cap*n:=Nat.mul_le_mul_right _ (by omega);rw [Nat.add_mul] at q1;have hf:∀(u:Nat) v,((vss.take (lo+m)).drop lo).flatten[u]?=some v→w.cell? ((⟨g,if cap=lo then 0 else lo*n,none⟩:Addr).add u)=some v:=fun u v hv=>by
  by_cases hc:cap=lo
  ·have hE:m=0:=by omega
   have hA:((vss.take (lo+m)).drop lo).flatten.length=0:=by rw [h6,hE,Nat.zero_mul]
   rw [List.eq_nil_of_length_eq_zero hA] at hv;simp at hv
  ·rw [if_neg hc];rw [ho,List.getElem?_drop,List.getElem?_take] at hv;split at hv
   ·rw [←e7,List.getElem?_take] at hv;split at hv
    ·rw [Addr.add_lit];simp only [World.cell?,e3];simpa using hv
    ·simp at hv
   ·simp at hv
 have hB:=Z2b (P:=c.P) (w:=w) (p:=p) (q:=q) (t:=t) (ρ:=a.eval) dst ty pos af gd (by rw [k1',k2'];exact run_append_room (P:=c.P) w t ty e inf hu hi g i cap cur e3 ⟨g,if cap=lo then 0 else lo*n,none⟩ m (cap-lo) ((vss.take (lo+m)).drop lo).flatten (by rw [h6,h9]) hf hd (by omega) (by rw [h9,h6,e6];exact q1));unfold Oper.wp;rw [hB,h9];have hW:=Zdg hT.st hj e2 e3 e4 e5 e6 v1 v2 e7 (A:=i) hw hd (by rw [hk];omega);rw [hk] at hW;refine hC M _ _ (.refl M) hW ⟨hD,g,rows.length,cap,e2,?_⟩;rw [Nat.zero_mul,ite_self,Nat.sub_zero]
theorem Zrg (t j n m:Nat) {L:Sl} (ht:Zn S.tm t = .ocs j 0 n m) (hj:Zp S.ss j=some L) (J:L.n=n) (hr:0<L.rows.length) (hm:m≤L.rows.length) (h:V c fn K k ⟨Zo S.tm t (.osl (Zw S.ss)),S.bs,Zq S.ss j none++[some ⟨L.T,n,L.rows.take m⟩]⟩):V c fn K k S:=by
 subst J;intro rk M a w hc hT;have hS:=hT.st;have k1:=hT.tm t;rw [ht] at k1;obtain ⟨h9,g1,n1,c1,k1,k1'⟩:=k1;obtain ⟨g,cap,cur,vss,e2,e3,e4,e5,e6,v1,v2,e7⟩:=Zeg (T:=L.T) (n:=L.n) (rows:=L.rows) hS hj hr;rw [e2] at k1;simp only [Value.slice.injEq,Option.some.injEq,Addr.mk.injEq] at k1;obtain ⟨⟨rfl,_⟩,_,rfl⟩:=k1;rw [Nat.zero_mul,ite_self,Nat.sub_zero] at k1';obtain ⟨g0,_,_,_,_,q4⟩:=hS.slc j L hj;have hw:=Zgd v1 0 m;simp only [List.drop_zero] at hw;have h6:(vss.take m).flatten=vss.flatten.take (m*L.n):=(Zcg (Zqe v1).1 m).1;have h8:=Z0b hw;rw [List.length_take,Nat.min_eq_left hm] at h8;have hr:RelS c (M.addS (.slice (some ⟨g,0,none⟩) m cap)) S.bs (Zq S.ss j none++[some (⟨L.T,L.n,L.rows.take m⟩:Sl)]) w:=by
  refine RelS.grown (v:=M.σ j) (vss:=vss.take m) hS (Z72 _ _ _) ?_ (.inr fun i B hi=>hS.d2 i j B L hi hj) q4 ⟨rfl,rfl,rfl,Nat.le_refl _,fun _ _ _=>rfl⟩ (.inl (by rw [e2];rfl)) g0 hw ?_ ?_
  ·intro i N hi;rw [Z62] at hi;split at hi
   ·simp at hi
   ·rename_i e;refine ⟨hi,fun g hg e2=>e ⟨?_,Z82 hj⟩⟩;exact hS.d3 i j N L g hi hj e2 hg
  ·intro v hv;rw [h6] at hv;exact v2 v (List.mem_of_mem_take hv)
  ·refine ⟨by rw [h8,List.length_take,Nat.min_eq_left hm],.inr ⟨g,cap,cur,by rw [List.length_take,Nat.min_eq_left hm],Nat.zero_le _,e3,by rw [List.length_take,Nat.min_eq_left hm];omega,e5,e6,?_⟩⟩;rw [List.length_take,Nat.min_eq_left hm,h6,←e7,List.take_take,Nat.min_eq_left (Nat.mul_le_mul_right _ hm)]
 have hle:=Mem.le_addS M (.slice (some ⟨g,0,none⟩) m cap);refine h rk _ a w hc ⟨by rw [Z32];exact hT.len,fun u=>?_,hT.df,hr⟩;rw [Z22];split
 ·rename_i e;have hu:=hT.tm u;obtain ⟨rfl,_⟩:=e;refine ⟨by rw [Z12,←hS.ns];exact Nat.lt_succ_self _,?_⟩;rw [k1',Z12,←hS.ns];simp [Mem.addS]
 ·exact Zn2 hle _ _ (hT.tm u)
end
end NX
end Go.Proofs.YtgamgemlekpepaaGreat
/-
  The symbolic machine: strings. No statement of the seat is proved here.
-/
namespace Go.Proofs.YtgamgemlekpepaaGreat
namespace NX
open Go Go.RowKit
section
variable {c:Ctx} {M:Mem} {S S':St} {a:Act} {w:World} {fn:Func} {K:AV→List (Option Blk)→List (Option Sl)→Prop} {k:List It}
end
end NX
end Go.Proofs.YtgamgemlekpepaaGreat
/-
  The symbolic machine: strings in drawn regions, arrays by their addresses, parts of own slices with a model. No statement of the seat is proved here.
-/
namespace Go.Proofs.YtgamgemlekpepaaGreat
namespace NX
open Go Go.RowKit
section
variable {c:Ctx} {M:Mem} {S S':St} {a:Act} {w:World} {fn:Func} {K:AV→List (Option Blk)→List (Option Sl)→Prop} {k:List It}
section
variable {all:Array Oper} {ops:List EOp} {af:List (List Nat)} {Φ:St→Prop} {m':Nat} {ld:List Bool} {nap:List (List Nat)}
end
theorem Zsg {all:Array Oper} {ops:List EOp} {af:List (List Nat)} {Φ:St→Prop} {m':Nat} {ld:List Bool} (h6:all.toList.mapM (Ze c.P all)=some ops) {i f:Nat} {xs:List X} {args:List AV} {v:AV} {bs bs':List (Option Blk)} {ss ss':List (Option Sl)} (U J:List Bool) (Z:(Zy1 ops i).o = .call f xs) (hg:gm S (Zy1 ops i).g) (Y:Z1f c.P f args bs ss v bs' ss')
  (h8:msk U S.bs=bs:=by rfl) (h9:msk J S.ss=ss:=by rfl) (hc:mrg U S.bs bs'=S.bs:=by rfl) (ha:AV.le.leL (Z71 S xs) args:=by first | exact Zrb _ | simp [go_sem])
  (h:G c all ops af Φ m' (Zu1 ld i) ((⟨S.tm,S.bs,mrg J S.ss ss'⟩:St).put (Zy1 ops i).d v)):GO c all ops af Φ m' ld S i:=by
 refine Zqa (S1:=⟨S.tm,S.bs,mrg J S.ss ss'⟩) h6 hg ?_ rfl (fun _ _ _ _ h1 _ _=>h1) h;rw [Z];have:=Z8f (c:=c) U J Y h8 h9 ha;rw [hc] at this;exact this
def vw_ (n:Int) (lo hi:Int):Option Unit:=if 0<n∧0≤lo∧lo≤hi∧hi≤n then some () else none
theorem Ztg {n lo hi:Int} {u:Unit} (h:vw_ n lo hi=some u):0<n∧0≤lo∧lo≤hi∧hi≤n:=by
 unfold vw_ at h;split at h
 ·assumption
 ·simp at h
def Zug {α:Type} (l:List α) (lo m:Nat) (z:α):Option (List α):=if 0<l.length∧lo+m≤l.length then some (l.take lo++List.replicate m z++l.drop (lo+m)) else none
def Zvg {α:Type} (l:List α) (i lo m:Nat):Option (List α):=if 0<l.length∧i+m≤l.length∧lo+m≤l.length then some (l.take i++(l.take (lo+m)).drop lo++l.drop (i+m)) else none
def Zwg {α:Type} (l:List α) (m:Nat):Option (List α):=if 0<l.length∧m≤l.length then some (l.take m) else none
variable {α:Type}
theorem Zxg {l':List α} {u:Unit} {d:Option Nat} {g:Option (Nat×Bool)} {J:List EOp} {T n j:Nat} {x:X} {lo hi:Option X} {l h:Int} (f:α→List AV) (hv:vw_ (ln f l') l h=some u) (hg:gm S g) (hx:S.x x = .osl j) (hj:Zp S.ss j=some ⟨T,n,l'.map f⟩) (h6:bnd S lo 0=some l) (h8:bnd S hi (ln f l')=some h)
  (U:V c fn K (.ops J::k) (S.put d (.ocs j l.toNat n (h.toNat-l.toNat)))):V c fn K (.ops (⟨d,g,.slice n x lo hi⟩::J)::k) S:=by
 obtain ⟨h0,h1,h2,h3⟩:=Ztg hv;unfold ln at h0 h3;exact Z87 hg (Zig hx hj (by omega) h6 h8 h1 h2 h3) rfl U
theorem Zyg {all:Array Oper} {ops:List EOp} {af:List (List Nat)} {Φ:St→Prop} {m':Nat} {ld:List Bool} {i:Nat} {l':List α} {u:Unit} {T n j:Nat} {x:X} {lo hi:Option X} {l h:Int} (f:α→List AV) (hv:vw_ (ln f l') l h=some u) (h6:all.toList.mapM (Ze c.P all)=some ops) (U:(Zy1 ops i).o = .slice n x lo hi) (hg:gm S (Zy1 ops i).g) (hx:S.x x = .osl j) (hj:Zp S.ss j=some ⟨T,n,l'.map f⟩) (h8:bnd S lo 0=some l) (h9:bnd S hi (ln f l')=some h)
  (J:G c all ops af Φ m' (Zu1 ld i) (S.put (Zy1 ops i).d (.ocs j l.toNat n (h.toNat-l.toNat)))):GO c all ops af Φ m' ld S i:=by
 obtain ⟨h0,h1,h2,h3⟩:=Ztg hv;unfold ln at h0 h3;exact Zqa h6 hg (by rw [U];exact Zig hx hj (by omega) h8 h9 h1 h2 h3) rfl (fun _ _ _ _ h1 _ _=>h1) J
theorem Zzg {l':List α} {u:Unit} {d:Option Nat} {g:Option (Nat×Bool)} {J:List EOp} {T n j m:Nat} {x:X} {lo hi:Option X} {l h:Int} (f:α→List AV) (hv:vw_ (ln f l') l h=some u) (hg:gm S g) (hx:S.x x = .ocs j 0 n m) (hj:Zp S.ss j=some ⟨T,n,l'.map f⟩) (h6:bnd S lo 0=some l) (h8:bnd S hi m=some h)
  (U:V c fn K (.ops J::k) (S.put d (.ocs j l.toNat n (h.toNat-l.toNat)))):V c fn K (.ops (⟨d,g,.slice n x lo hi⟩::J)::k) S:=by
 obtain ⟨h0,h1,h2,h3⟩:=Ztg hv;unfold ln at h0 h3;exact Z87 hg (Zkg hx hj (by omega) h6 h8 h1 h2 h3) rfl U
theorem Z0h {l':List α} {u u':Unit} {d:Option Nat} {g:Option (Nat×Bool)} {U:List EOp} {T n j:Nat} {x Y xh xm:X} {l h m:Int} (f:α→List AV) (hv:vw_ (ln f l') l h=some u) (J:vw_ (ln f l') h m=some u') (hg:gm S g) (hx:S.x x = .osl j) (hj:Zp S.ss j=some ⟨T,n,l'.map f⟩) (h6:S.x Y = .iv l) (h8:S.x xh = .iv h) (hm:S.x xm = .iv m)
  (Z:V c fn K (.ops U::k) (S.put d .any)):V c fn K (.ops (⟨d,g,.sl3 n x (some Y) (some xh) (some xm)⟩::U)::k) S:=by
 obtain ⟨h0,h1,h2,h3⟩:=Ztg hv;obtain ⟨_,_,h4,h5⟩:=Ztg J;unfold ln at h0 h5;exact Z87 hg (Zmg hx hj (by omega) h6 h8 hm h1 h2 h4 h5) rfl Z
theorem Z1h {l' v:List α} {d:Option Nat} {g:Option (Nat×Bool)} {J:List EOp} {T n j lo m:Nat} {x:X} {z:List AV} {y:α} (f:α→List AV) (hv:Zug l' lo m y=some v) (hg:gm S g) (hx:S.x x = .ocs j lo n m) (hj:Zp S.ss j=some ⟨T,n,l'.map f⟩) (hz:AV.le.leL z (f y)) (hp:puL (f y)=true) (Y:z.length=n) (h1:Zx z=true)
  (U:V c fn K (.ops J::k) ((⟨S.tm,S.bs,Zq S.ss j (some ⟨T,n,v.map f⟩)⟩:St).put d (.tup []))):V c fn K (.ops (⟨d,g,.clr z x⟩::J)::k) S:=by
 unfold Zug at hv;split at hv
 ·rename_i hb;simp only [Option.some.injEq] at hv;subst hv;refine Z87 hg (Zpg hx hj (by simpa using hb.1) (by simpa using hb.2) (f y) hz hp Y h1) rfl ?_;simpa [List.map_append,List.map_take,List.map_drop,List.map_replicate] using U
 ·simp at hv
theorem Z2h {all:Array Oper} {ops:List EOp} {af:List (List Nat)} {Φ:St→Prop} {m':Nat} {ld:List Bool} {J:Nat} {l' v:List α} {e n b j i lo m:Nat} {x y:X} (f:α→List AV) (hv:Zvg l' i lo m=some v) (h6:all.toList.mapM (Ze c.P all)=some ops) (Y:(Zy1 ops J).o = .app e n b x y) (hg:gm S (Zy1 ops J).g) (hx:S.x x = .ocs j 0 n i) (hy:S.x y = .ocs j lo n m) (hj:Zp S.ss j=some ⟨e,n,l'.map f⟩)
  (U:G c all ops af Φ m' (Zu1 ld J) ((⟨S.tm,S.bs,Zq S.ss j (some ⟨e,n,v.map f⟩)⟩:St).put (Zy1 ops J).d (.ocs j 0 n (i+m)))):GO c all ops af Φ m' ld S J:=by
 unfold Zvg at hv;split at hv
 ·rename_i hb;simp only [Option.some.injEq] at hv;subst hv;refine Zqa (S1:=⟨S.tm,S.bs,Zq S.ss j (some ⟨e,n,(l'.take i++(l'.take (lo+m)).drop lo++l'.drop (i+m)).map f⟩)⟩) h6 hg ?_ rfl (fun _ _ _ _ h1 _ _=>h1) U;rw [Y];have:=Zqg (c:=c) (b:=b) hx hy hj (by simpa using hb.1) (by simpa using hb.2.1) (by simpa using hb.2.2);simpa [List.map_append,List.map_take,List.map_drop] using this
 ·simp at hv
theorem Z3h {l' v:List α} (t j n m:Nat) {T:Nat} (f:α→List AV) (hv:Zwg l' m=some v) (ht:Zn S.tm t = .ocs j 0 n m) (hj:Zp S.ss j=some ⟨T,n,l'.map f⟩)
  (h:V c fn K k ⟨Zo S.tm t (.osl (Zw S.ss)),S.bs,Zq S.ss j none++[some ⟨T,n,v.map f⟩]⟩):V c fn K k S:=by
 unfold Zwg at hv;split at hv
 ·rename_i hb;simp only [Option.some.injEq] at hv;subst hv;refine Zrg t j n m ht hj rfl (by simpa using hb.1) (by simpa using hb.2) ?_;rw [List.map_take] at h;exact h
 ·simp at hv
end
end NX
end Go.Proofs.YtgamgemlekpepaaGreat
