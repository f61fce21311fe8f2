/-
  The symbolic machine: parts of own slices: cut, cleared, laid behind one another. No statement of the seat is proved here.
-/
import Derived.Laws.BytesString
import Derived.Test.YtgamgemlekpepaaGreatH10
namespace Go.Proofs.YtgamgemlekpepaaGreat
namespace NX
open Go Go.RowKit
section
variable {c:Ctx} {M:Mem} {S S':St} {a:Act} {w:World} {fn:Func} {K:AV→List (Option Blk)→List (Option Sl)→Prop} {k:List It}
theorem Zhg {P:Program} {w:World} {T e n:Nat} (hu:P.underlying T=some (.slice e)) (hs:Z9 P e=some n) {x:Operand} {l h:Option Operand} {ρ:Operand→Value} {ad:Option Addr} {len cp:Nat} {lo hi:Int}
  (hx:ρ x = .slice ad len cp) (hl:match l with | none=>lo=0 | some o=>ρ o = .int .i64 lo) (hh:match h with | none=>hi=len | some o=>ρ o = .int .i64 hi) (h0:0≤lo) (h1:lo≤hi) (h2:hi≤cp)
  (d:Option Tmp) (ty:TypeId) (pos:String) (af:Array Go.Edge) (E:Option (Nat×Bool)):
  (execOp ρ ⟨d,.slice T x l h none,ty,pos,af,E⟩).run P w = .ok (.value (.slice (if cp=lo.toNat then ad else ad.map (·.add (lo.toNat*n))) (hi.toNat-lo.toNat) (cp-lo.toNat))) w:=by
 have key:(Instr.sliceBounds true len cp (l.map ρ) (h.map ρ) none).run P w = .ok (lo.toNat,hi.toNat,cp) w:=by
  cases l<;>cases h<;>simp only at hl hh<;>simp only [Option.map,Instr.sliceBounds]
  ·subst hl;simp [hh]
  ·subst hl;simp [Instr.sliceBound,asIntOf,hh,h2,show 0≤hi by omega]
  ·subst hh;simp [Instr.sliceBound,asIntOf,hl,h0,h1]
  ·simp [Instr.sliceBound,asIntOf,hl,hh,h0,h1,h2,show 0≤hi by omega,Int.toNat_of_nonneg (show 0≤hi by omega)]
 simp [execOp,Instr.sliceAt,Instr.slice,hx,run_underlying hu,key,Z74 hs]
theorem Zig {j T n m:Nat} {x:X} {lo hi:Option X} {rows:List (List AV)} {l h:Int} (hx:S.x x = .ocs j 0 n m) (hj:Zp S.ss j=some ⟨T,n,rows⟩) (hr:0<rows.length) (hd:bnd S lo 0=some l) (hf:bnd S hi m=some h) (h0:0≤l) (h1:l≤h) (h2:h≤rows.length):
  Z67 c S (.slice n x lo hi) (.ocs j l.toNat n (h.toNat-l.toNat)) S:=by
 intro ro h8 M a w h6 next Q hn
 obtain ⟨dst,op,ty,pos,af,gd⟩:=ro;dsimp only at h8;obtain ⟨T',y,lo',hi',e,rfl,hu,hs,rfl,rfl,rfl⟩:=Zdd h8;have hS:=h6.st;have k1:=Z34 h6 y;rw [hx] at k1;obtain ⟨ho,g1,n1,c1,k1,k1'⟩:=k1;obtain ⟨g,cap,cur,vss,e2,e3,e4,e5,e6,v1,v2,e7⟩:=Zcg hS hj hr;rw [e2] at k1;simp only [Value.slice.injEq,Option.some.injEq,Addr.mk.injEq] at k1;obtain ⟨⟨rfl,_⟩,_,rfl⟩:=k1;rw [Nat.zero_mul,ite_self,Nat.sub_zero] at k1';have b1:=Zfg (Z34 h6) lo' 0 l hd;have b2:=Zfg (Z34 h6) hi' m h hf;have h9:=Zhg (P:=c.P) (w:=w) hu hs (ρ:=a.eval) (ad:=some ⟨g,0,none⟩) (len:=m) (cp:=cap) (lo:=l) (hi:=h) k1' b1 b2 h0 h1 (by omega) dst ty pos af gd;unfold Oper.wp;rw [h9];refine hn M w _ (.refl M) hS ⟨ho,g,rows.length,cap,e2,?_⟩;by_cases hc:cap=l.toNat
 ·rw [if_pos hc,if_pos hc]
 ·rw [if_neg hc,if_neg hc];simp only [Option.map,Addr.add_lit,Nat.zero_add]
theorem Zjg {P:Program} {op:Op} {n:Nat} {x:X} {lo hi mx:Option X} (E:cO P op = .sl3 n x lo hi mx):
  ∃T y l h m e,op = .slice T y l h (some m)∧P.underlying T=some (.slice e)∧Z9 P e=some n∧cX y=x∧l.map cX=lo∧h.map cX=hi∧some (cX m)=mx:=by
 cases op
 case slice T y l h mx'=>
  simp only [cO] at E;split at E
  ·split at E<;>simp at E
  ·rename_i m e hu;split at E
   ·rename_i n' hn;simp only [EO.sl3.injEq] at E;obtain ⟨rfl,rfl,rfl,rfl,rfl⟩:=E;exact ⟨T,y,l,h,_,_,rfl,hu,hn,rfl,rfl,rfl,rfl⟩
   ·simp at E
  ·simp at E
  ·simp at E
 all_goals (simp only [cO] at E;(repeat' (split at E))<;>simp at E)
theorem Zkg {j T n:Nat} {x E xh xm:X} {rows:List (List AV)} {l h m:Int} (hx:S.x x = .osl j) (hj:Zp S.ss j=some ⟨T,n,rows⟩) (hr:0<rows.length) (hl:S.x E = .iv l) (hh:S.x xh = .iv h) (hm:S.x xm = .iv m) (h0:0≤l) (h1:l≤h) (h2:h≤m) (h3:m≤rows.length):
  Z67 c S (.sl3 n x (some E) (some xh) (some xm)) .any S:=by
 intro ro h9 M a w h6 next Q hc
 obtain ⟨dst,op,ty,pos,af,gd⟩:=ro;dsimp only at h9;obtain ⟨T',y,lo',hi',mx',e,rfl,hu,hs,rfl,q1,q2,q3⟩:=Zjg h9;cases lo' with
 | none=>simp at q1
 | some lo'=>
   cases hi' with
   | none=>simp at q2
   | some hi'=>
     simp only [Option.map_some,Option.some.injEq] at q1 q2 q3;have hS:=h6.st;have k1:=Z34 h6 y;rw [hx] at k1;obtain ⟨g,cap,cur,vss,e2,e3,e4,e5,e6,v1,v2,e7⟩:=Zcg hS hj hr;have b1:=Z34 h6 lo';have b2:=Z34 h6 hi';have b3:=Z34 h6 mx';rw [q1,hl] at b1;rw [q2,hh] at b2;rw [q3,hm] at b3;simp only [AV.is] at b1 b2 b3;have k1':=k1.2.trans e2;have h8:∃v,(execOp a.eval ⟨dst,.slice T' y (some lo') (some hi') (some mx'),ty,pos,af,gd⟩).run c.P w = .ok (.value v) w:=by
      have key:(Instr.sliceBounds true rows.length cap ((some lo').map a.eval) ((some hi').map a.eval) (some (a.eval mx'))).run c.P w = .ok (l.toNat,h.toNat,m.toNat) w:=by simp [Instr.sliceBounds,Instr.sliceBound,asIntOf,b1,b2,b3,show 0≤m by omega,show m≤(cap:Int) by omega,show 0≤h by omega,h0,h1,h2,Int.toNat_of_nonneg (show 0≤m by omega),Int.toNat_of_nonneg (show 0≤h by omega)]
      generalize a.eval=ρ at *;refine ⟨.slice (if m.toNat=l.toNat then some ⟨g,0,none⟩ else (some ⟨g,0,none⟩:Option Addr).map (·.add (l.toNat*n))) (h.toNat-l.toNat) (m.toNat-l.toNat),?_⟩;simp only [Option.map_some] at key;simp [execOp,Instr.sliceAt,Instr.slice,k1',run_underlying hu,Z74 hs,key]
     obtain ⟨v,h8⟩:=h8;unfold Oper.wp;rw [h8];exact hc M w _ (.refl M) hS trivial
theorem Zlg {P:Program} {op:Op} {z:List AV} {x:X} (E:cO P op = .clr z x):∃p t e n,op = .call ⟨.builtin .clear, #[p], #[t]⟩∧P.underlying t=some (.slice e)∧Z8 P e=some z∧Z9 P e=some n∧z.length=n∧0<n∧cX p=x:=by
 cases op
 case call ci=>
  obtain ⟨callee,cargs,argTypes⟩:=ci;cases callee with
  | value o=>
    cases o with
    | func f'=>simp only [cO] at E;(repeat' (split at E))<;>simp at E
    | _=>simp [cO] at E
  | invoke _ _=>simp [cO] at E
  | builtin b=>
    cases b
    case clear=>
     simp only [cO] at E;split at E
     ·rename_i t0 p h1 h2;split at E
      ·rename_i e hu;split at E
       ·rename_i z' n hz hs;split at E
        ·rename_i hc;simp only [EO.clr.injEq] at E;obtain ⟨rfl,rfl⟩:=E;have e1:cargs = #[p]:=by apply Array.ext';simpa using h2
         have e2:argTypes = #[t0]:=by apply Array.ext';simpa using h1
         subst e1;subst e2;exact ⟨p,t0,e,n,rfl,hu,hz,hs,hc.1,hc.2,rfl⟩
        ·simp at E
       ·simp at E
      ·simp at E
     ·simp at E
    all_goals (simp only [cO] at E;(repeat' (split at E))<;>simp at E)
 all_goals (simp only [cO] at E;(repeat' (split at E))<;>simp at E)
theorem Zmg (z:Array Value):∀n,(Builtin.zeroCells z n).toList=(List.replicate n z.toList).flatten
 | 0=>by simp [Builtin.zeroCells]
 | n+1=>by
   have ih:=Zmg z n;simp only [Builtin.zeroCells,Array.toList_map,Array.toList_range] at ih ⊢;rw [List.replicate_succ',List.flatten_append,←ih,Nat.add_mul,Nat.one_mul,List.range_add,List.map_append];congr 1;rw [List.map_map];simp only [List.flatten_cons,List.flatten_nil,List.append_nil];refine List.ext_getElem? fun i=>?_;rw [List.getElem?_map];by_cases hi:i<z.size
   ·rw [List.getElem?_range hi];simp only [Option.map_some,Function.comp,Nat.mul_add_mod_self_right];rw [Nat.mod_eq_of_lt hi];simp [hi]
   ·rw [List.getElem?_eq_none (by simp;omega),List.getElem?_eq_none (by simp;omega)];rfl
theorem Zng {j T n lo m:Nat} {x:X} {z:List AV} {rows:List (List AV)} (hx:S.x x = .ocs j lo n m) (hj:Zp S.ss j=some ⟨T,n,rows⟩) (hr:0<rows.length) (hD:lo+m≤rows.length) (E:List AV) (hz:AV.le.leL z E) (hp:puL E=true) (J:z.length=n) (h1:Zx z=true):
  Z67 c S (.clr z x) (.tup []) ⟨S.tm,S.bs,Zq S.ss j (some ⟨T,n,rows.take lo++List.replicate m E++rows.drop (lo+m)⟩)⟩:=by
 intro ro hc M a w hT next Q hd
 obtain ⟨dst,op,ty,pos,af,gd⟩:=ro;dsimp only at hc;obtain ⟨p,t,e,n',rfl,hu,hE,hs,hL,hN,rfl⟩:=Zlg hc;have hG:n'=n:=by omega
 subst hG;have k1:=Z34 hT p;rw [hx] at k1;obtain ⟨hO,g1,n1,c1,k1,k1'⟩:=k1;obtain ⟨g,cap,cur,vss,e2,e3,e4,e5,e6,v1,v2,e7⟩:=Zcg hT.st hj hr;rw [e2] at k1;simp only [Value.slice.injEq,Option.some.injEq,Addr.mk.injEq] at k1;obtain ⟨⟨rfl,_⟩,_,rfl⟩:=k1;obtain ⟨i,u,hi,h9,hP,rfl⟩:=Zk4 hE;have hI:AV.isL M.sl E u.cells.toList:=Zo2 (Zk2 M) _ _ (Zu2 _ _ (Zh6 (M:=M) _ _ _ hz (Zr2 M _)) hp);have hw:u.cells.toList.length=n':=by simpa using J
 have hA:∀v∈u.cells.toList,v.oneCell'=true:=Zs4 (Zr2 M _) h1 hT.st.so;have hC:=Zdf hI m;rw [hw] at hC;have hf:∀v∈(List.replicate m u.cells.toList).flatten,v.oneCell'=true:=fun v hv=>by obtain ⟨l,hl,hv⟩:=List.mem_flatten.1 hv;rw [List.eq_of_mem_replicate hl] at hv;exact hA v hv
 have ho:=Zza hC;rw [List.length_replicate] at ho;have hW:=Zbg hT.st hj e2 e3 e4 e5 e6 v1 v2 e7 (A:=lo) hC hf (by rw [List.length_replicate];exact hD);rw [List.length_replicate] at hW;by_cases hJ:m=0
 ·subst hJ;have h6:(execOp a.eval ⟨dst,.call ⟨.builtin .clear, #[p], #[t]⟩,ty,pos,af,gd⟩).run c.P w = .ok (.value (.tuple #[])) w:=by generalize a.eval=ρ at *;simp [execOp,resolve,invoke,builtin,Builtin.clear_,run_underlying hu,k1']
  unfold Oper.wp;rw [h6];refine hd M _ _ (.refl M) ?_ ⟨[],rfl,rfl⟩;simp only [List.replicate_zero,List.append_nil,Nat.add_zero,List.take_append_drop];show RelS c M S.bs (Zq S.ss j (some ⟨T,n',rows⟩)) w;rw [Zeg _ _ _ hj];exact hT.st
 ·have hB:¬cap=lo:=by omega
  rw [if_neg hB] at k1';have q1:(lo+m)*n'≤cap*n':=Nat.mul_le_mul_right _ (by omega);rw [Nat.add_mul] at q1;have h8:=run_storeCells_at c.P g (lo*n') T (List.replicate m u.cells.toList).flatten 0 cur w e3 (by rw [Nat.add_zero,ho,e6];exact q1) hf;rw [Nat.add_zero] at h8;have h6:(execOp a.eval ⟨dst,.call ⟨.builtin .clear, #[p], #[t]⟩,ty,pos,af,gd⟩).run c.P w = .ok (.value (.tuple #[])) (w.setRow g (cur.toList.take (lo*n')++(List.replicate m u.cells.toList).flatten++cur.toList.drop (lo*n'+(List.replicate m u.cells.toList).flatten.length)).toArray):=by
   have hK:(zeroValue e).run c.P w = .ok u w:=by simp [zeroValue,typeInfo,hi,h9]
   rw [←Zmg] at h8 ⊢;generalize a.eval=ρ at *;obtain ⟨m',rfl⟩:∃m',m=m'+1:=⟨m-1,by omega⟩
   simp [execOp,resolve,invoke,builtin,Builtin.clear_,run_underlying hu,k1',hK,h8]
  unfold Oper.wp;rw [h6];exact hd M _ _ (.refl M) hW ⟨[],rfl,rfl⟩
theorem Zog {j e n b i lo m:Nat} {x y:X} {rows:List (List AV)} (hx:S.x x = .ocs j 0 n i) (hy:S.x y = .ocs j lo n m) (hj:Zp S.ss j=some ⟨e,n,rows⟩) (hr:0<rows.length) (h1:i+m≤rows.length) (h2:lo+m≤rows.length):
  Z67 c S (.app e n b x y) (.ocs j 0 n (i+m)) ⟨S.tm,S.bs,Zq S.ss j (some ⟨e,n,rows.take i++(rows.take (lo+m)).drop lo++rows.drop (i+m)⟩)⟩:=by
 intro ro hn M a w hT next Q hC
 obtain ⟨dst,op,ty,pos,af,gd⟩:=ro;dsimp only at hn;obtain ⟨t,p,q,inf,z,rfl,hu,hi,hz,h9,hG,hI,hJ,rfl,rfl⟩:=Zd7 hn;have k1:=Z34 hT p;have k2:=Z34 hT q;rw [hx] at k1;rw [hy] at k2;obtain ⟨hD,g1,n1,c1,k1,k1'⟩:=k1;obtain ⟨_,g2,n2,c2,k2,k2'⟩:=k2;obtain ⟨g,cap,cur,vss,e2,e3,e4,e5,e6,v1,v2,e7⟩:=Zcg hT.st hj hr;rw [e2] at k1 k2;simp only [Value.slice.injEq,Option.some.injEq,Addr.mk.injEq] at k1 k2;obtain ⟨⟨rfl,_⟩,_,rfl⟩:=k1;obtain ⟨⟨rfl,_⟩,_,rfl⟩:=k2;rw [Nat.zero_mul,ite_self,Nat.sub_zero] at k1';have hw:=Zfd v1 lo (lo+m);have h6:=Zza hw;have hk:((rows.take (lo+m)).drop lo).length=m:=by rw [List.length_drop,List.length_take];omega
 rw [hk] at h6;have h8:=(Zpe v1).1;have ho:((vss.take (lo+m)).drop lo).flatten=(vss.flatten.take ((lo+m)*n)).drop (lo*n):=by rw [(Zag (fun v hv=>h8 v (List.mem_of_mem_take hv)) lo).2,(Zag h8 _).1]
 have hd:∀v∈((vss.take (lo+m)).drop lo).flatten,v.oneCell'=true:=fun v hv=>by rw [ho] at hv;exact v2 v (List.mem_of_mem_take (List.mem_of_mem_drop hv))
 have q1:(i+m)*n≤cap*n:=Nat.mul_le_mul_right _ (by omega);rw [Nat.add_mul] at q1;have hf:∀(u:Nat) v,((vss.take (lo+m)).drop lo).flatten[u]?=some v→w.cell? ((⟨g,if cap=lo then 0 else lo*n,none⟩:Addr).add u)=some v:=fun u v hv=>by
  by_cases hc:cap=lo
  ·have hE:m=0:=by omega
   have hA:((vss.take (lo+m)).drop lo).flatten.length=0:=by rw [h6,hE,Nat.zero_mul]
   rw [List.eq_nil_of_length_eq_zero hA] at hv;simp at hv
  ·rw [if_neg hc];rw [ho,List.getElem?_drop,List.getElem?_take] at hv;split at hv
   ·rw [←e7,List.getElem?_take] at hv;split at hv
    ·rw [Addr.add_lit];simp only [World.cell?,e3];simpa using hv
    ·simp at hv
   ·simp at hv
 have hB:=Z1b (P:=c.P) (w:=w) (p:=p) (q:=q) (t:=t) (ρ:=a.eval) dst ty pos af gd (by rw [k1',k2'];exact run_append_room (P:=c.P) w t ty e inf hu hi g i cap cur e3 ⟨g,if cap=lo then 0 else lo*n,none⟩ m (cap-lo) ((vss.take (lo+m)).drop lo).flatten (by rw [h6,h9]) hf hd (by omega) (by rw [h9,h6,e6];exact q1));unfold Oper.wp;rw [hB,h9];have hW:=Zbg hT.st hj e2 e3 e4 e5 e6 v1 v2 e7 (A:=i) hw hd (by rw [hk];omega);rw [hk] at hW;refine hC M _ _ (.refl M) hW ⟨hD,g,rows.length,cap,e2,?_⟩;rw [Nat.zero_mul,ite_self,Nat.sub_zero]
theorem Zpg (t j n m:Nat) {L:Sl} (ht:Zn S.tm t = .ocs j 0 n m) (hj:Zp S.ss j=some L) (E:L.n=n) (hr:0<L.rows.length) (hm:m≤L.rows.length) (h:V c fn K k ⟨Zo S.tm t (.osl (Zw S.ss)),S.bs,Zq S.ss j none++[some ⟨L.T,n,L.rows.take m⟩]⟩):V c fn K k S:=by
 subst E;intro rk M a w hc hT;have hS:=hT.st;have k1:=hT.tm t;rw [ht] at k1;obtain ⟨h9,g1,n1,c1,k1,k1'⟩:=k1;obtain ⟨g,cap,cur,vss,e2,e3,e4,e5,e6,v1,v2,e7⟩:=Zcg (T:=L.T) (n:=L.n) (rows:=L.rows) hS hj hr;rw [e2] at k1;simp only [Value.slice.injEq,Option.some.injEq,Addr.mk.injEq] at k1;obtain ⟨⟨rfl,_⟩,_,rfl⟩:=k1;rw [Nat.zero_mul,ite_self,Nat.sub_zero] at k1';obtain ⟨g0,_,_,_,_,q4⟩:=hS.slc j L hj;have hw:=Zfd v1 0 m;simp only [List.drop_zero] at hw;have h6:(vss.take m).flatten=vss.flatten.take (m*L.n):=(Zag (Zpe v1).1 m).1;have h8:=Zza hw;rw [List.length_take,Nat.min_eq_left hm] at h8;have hr:RelS c (M.addS (.slice (some ⟨g,0,none⟩) m cap)) S.bs (Zq S.ss j none++[some (⟨L.T,L.n,L.rows.take m⟩:Sl)]) w:=by
  refine RelS.grown (v:=M.σ j) (vss:=vss.take m) hS (Z72 _ _ _) ?_ (.inr fun i B hi=>hS.d2 i j B L hi hj) q4 ⟨rfl,rfl,rfl,Nat.le_refl _,fun _ _ _=>rfl⟩ (.inl (by rw [e2];rfl)) g0 hw ?_ ?_
  ·intro i N hi;rw [Z62] at hi;split at hi
   ·simp at hi
   ·rename_i e;refine ⟨hi,fun g hg e2=>e ⟨?_,Z82 hj⟩⟩;exact hS.d3 i j N L g hi hj e2 hg
  ·intro v hv;rw [h6] at hv;exact v2 v (List.mem_of_mem_take hv)
  ·refine ⟨by rw [h8,List.length_take,Nat.min_eq_left hm],.inr ⟨g,cap,cur,by rw [List.length_take,Nat.min_eq_left hm],Nat.zero_le _,e3,by rw [List.length_take,Nat.min_eq_left hm];omega,e5,e6,?_⟩⟩;rw [List.length_take,Nat.min_eq_left hm,h6,←e7,List.take_take,Nat.min_eq_left (Nat.mul_le_mul_right _ hm)]
 have hle:=Mem.le_addS M (.slice (some ⟨g,0,none⟩) m cap);refine h rk _ a w hc ⟨by rw [Z32];exact hT.len,fun u=>?_,hT.df,hr⟩;rw [Z22];split
 ·rename_i e;have hu:=hT.tm u;obtain ⟨rfl,_⟩:=e;refine ⟨by rw [Z12,←hS.ns];exact Nat.lt_succ_self _,?_⟩;rw [k1',Z12,←hS.ns];simp [Mem.addS]
 ·exact Zn2 hle _ _ (hT.tm u)
end
end NX
end Go.Proofs.YtgamgemlekpepaaGreat
/-
  The symbolic machine: strings. No statement of the seat is proved here.
-/
namespace Go.Proofs.YtgamgemlekpepaaGreat
namespace NX
open Go Go.RowKit
section
variable {c:Ctx} {M:Mem} {S S':St} {a:Act} {w:World} {fn:Func} {K:AV→List (Option Blk)→List (Option Sl)→Prop} {k:List It}
end
end NX
end Go.Proofs.YtgamgemlekpepaaGreat
/-
  The symbolic machine: strings in drawn regions, arrays by their addresses, parts of own slices with a model. No statement of the seat is proved here.
-/
namespace Go.Proofs.YtgamgemlekpepaaGreat
namespace NX
open Go Go.RowKit
section
variable {c:Ctx} {M:Mem} {S S':St} {a:Act} {w:World} {fn:Func} {K:AV→List (Option Blk)→List (Option Sl)→Prop} {k:List It}
section
variable {all:Array Oper} {ops:List EOp} {af:List (List Nat)} {Φ:St→Prop} {m':Nat} {ld:List Bool} {nap:List (List Nat)}
end
theorem Zqg {all:Array Oper} {ops:List EOp} {af:List (List Nat)} {Φ:St→Prop} {m':Nat} {ld:List Bool} (h6:all.toList.mapM (Ze c.P all)=some ops) {i f:Nat} {xs:List X} {args:List AV} {v:AV} {bs J:List (Option Blk)} {ss E:List (Option Sl)} (Y U:List Bool) (ho:(Zy1 ops i).o = .call f xs) (hg:gm S (Zy1 ops i).g) (Z:Z0f c.P f args bs ss v J E)
  (h8:msk Y S.bs=bs:=by rfl) (h9:msk U S.ss=ss:=by rfl) (hc:mrg Y S.bs J=S.bs:=by rfl) (ha:AV.le.leL (Z71 S xs) args:=by first | exact Zqb _ | simp [go_sem])
  (h:G c all ops af Φ m' (Zu1 ld i) ((⟨S.tm,S.bs,mrg U S.ss E⟩:St).put (Zy1 ops i).d v)):GO c all ops af Φ m' ld S i:=by
 refine Zpa (S1:=⟨S.tm,S.bs,mrg U S.ss E⟩) h6 hg ?_ rfl (fun _ _ _ _ h1 _ _=>h1) h;rw [ho];have:=Z7f (c:=c) Y U Z h8 h9 ha;rw [hc] at this;exact this
def vw_ (n:Int) (lo hi:Int):Option Unit:=if 0<n∧0≤lo∧lo≤hi∧hi≤n then some () else none
theorem Zrg {n lo hi:Int} {u:Unit} (h:vw_ n lo hi=some u):0<n∧0≤lo∧lo≤hi∧hi≤n:=by
 unfold vw_ at h;split at h
 ·assumption
 ·simp at h
def Zsg {α:Type} (l:List α) (lo m:Nat) (z:α):Option (List α):=if 0<l.length∧lo+m≤l.length then some (l.take lo++List.replicate m z++l.drop (lo+m)) else none
def Ztg {α:Type} (l:List α) (i lo m:Nat):Option (List α):=if 0<l.length∧i+m≤l.length∧lo+m≤l.length then some (l.take i++(l.take (lo+m)).drop lo++l.drop (i+m)) else none
def Zug {α:Type} (l:List α) (m:Nat):Option (List α):=if 0<l.length∧m≤l.length then some (l.take m) else none
variable {α:Type}
theorem Zvg {l':List α} {u:Unit} {d:Option Nat} {g:Option (Nat×Bool)} {E:List EOp} {T n j:Nat} {x:X} {lo hi:Option X} {l h:Int} (f:α→List AV) (hv:vw_ (ln f l') l h=some u) (hg:gm S g) (hx:S.x x = .osl j) (hj:Zp S.ss j=some ⟨T,n,l'.map f⟩) (h6:bnd S lo 0=some l) (h8:bnd S hi (ln f l')=some h)
  (J:V c fn K (.ops E::k) (S.put d (.ocs j l.toNat n (h.toNat-l.toNat)))):V c fn K (.ops (⟨d,g,.slice n x lo hi⟩::E)::k) S:=by
 obtain ⟨h0,h1,h2,h3⟩:=Zrg hv;unfold ln at h0 h3;exact Z77 hg (Zgg hx hj (by omega) h6 h8 h1 h2 h3) rfl J
theorem Zwg {all:Array Oper} {ops:List EOp} {af:List (List Nat)} {Φ:St→Prop} {m':Nat} {ld:List Bool} {i:Nat} {l':List α} {u:Unit} {T n j:Nat} {x:X} {lo hi:Option X} {l h:Int} (f:α→List AV) (hv:vw_ (ln f l') l h=some u) (h6:all.toList.mapM (Ze c.P all)=some ops) (J:(Zy1 ops i).o = .slice n x lo hi) (hg:gm S (Zy1 ops i).g) (hx:S.x x = .osl j) (hj:Zp S.ss j=some ⟨T,n,l'.map f⟩) (h8:bnd S lo 0=some l) (h9:bnd S hi (ln f l')=some h)
  (E:G c all ops af Φ m' (Zu1 ld i) (S.put (Zy1 ops i).d (.ocs j l.toNat n (h.toNat-l.toNat)))):GO c all ops af Φ m' ld S i:=by
 obtain ⟨h0,h1,h2,h3⟩:=Zrg hv;unfold ln at h0 h3;exact Zpa h6 hg (by rw [J];exact Zgg hx hj (by omega) h8 h9 h1 h2 h3) rfl (fun _ _ _ _ h1 _ _=>h1) E
theorem Zxg {l':List α} {u:Unit} {d:Option Nat} {g:Option (Nat×Bool)} {E:List EOp} {T n j m:Nat} {x:X} {lo hi:Option X} {l h:Int} (f:α→List AV) (hv:vw_ (ln f l') l h=some u) (hg:gm S g) (hx:S.x x = .ocs j 0 n m) (hj:Zp S.ss j=some ⟨T,n,l'.map f⟩) (h6:bnd S lo 0=some l) (h8:bnd S hi m=some h)
  (J:V c fn K (.ops E::k) (S.put d (.ocs j l.toNat n (h.toNat-l.toNat)))):V c fn K (.ops (⟨d,g,.slice n x lo hi⟩::E)::k) S:=by
 obtain ⟨h0,h1,h2,h3⟩:=Zrg hv;unfold ln at h0 h3;exact Z77 hg (Zig hx hj (by omega) h6 h8 h1 h2 h3) rfl J
theorem Zyg {l':List α} {u Z:Unit} {d:Option Nat} {g:Option (Nat×Bool)} {J:List EOp} {T n j:Nat} {x U xh xm:X} {l h m:Int} (f:α→List AV) (hv:vw_ (ln f l') l h=some u) (E:vw_ (ln f l') h m=some Z) (hg:gm S g) (hx:S.x x = .osl j) (hj:Zp S.ss j=some ⟨T,n,l'.map f⟩) (h6:S.x U = .iv l) (h8:S.x xh = .iv h) (hm:S.x xm = .iv m)
  (Y:V c fn K (.ops J::k) (S.put d .any)):V c fn K (.ops (⟨d,g,.sl3 n x (some U) (some xh) (some xm)⟩::J)::k) S:=by
 obtain ⟨h0,h1,h2,h3⟩:=Zrg hv;obtain ⟨_,_,h4,h5⟩:=Zrg E;unfold ln at h0 h5;exact Z77 hg (Zkg hx hj (by omega) h6 h8 hm h1 h2 h4 h5) rfl Y
theorem Zzg {l' v:List α} {d:Option Nat} {g:Option (Nat×Bool)} {E:List EOp} {T n j lo m:Nat} {x:X} {z:List AV} {y:α} (f:α→List AV) (hv:Zsg l' lo m y=some v) (hg:gm S g) (hx:S.x x = .ocs j lo n m) (hj:Zp S.ss j=some ⟨T,n,l'.map f⟩) (hz:AV.le.leL z (f y)) (hp:puL (f y)=true) (U:z.length=n) (h1:Zx z=true)
  (J:V c fn K (.ops E::k) ((⟨S.tm,S.bs,Zq S.ss j (some ⟨T,n,v.map f⟩)⟩:St).put d (.tup []))):V c fn K (.ops (⟨d,g,.clr z x⟩::E)::k) S:=by
 unfold Zsg at hv;split at hv
 ·rename_i hb;simp only [Option.some.injEq] at hv;subst hv;refine Z77 hg (Zng hx hj (by simpa using hb.1) (by simpa using hb.2) (f y) hz hp U h1) rfl ?_;simpa [List.map_append,List.map_take,List.map_drop,List.map_replicate] using J
 ·simp at hv
theorem Z0h {all:Array Oper} {ops:List EOp} {af:List (List Nat)} {Φ:St→Prop} {m':Nat} {ld:List Bool} {E:Nat} {l' v:List α} {e n b j i lo m:Nat} {x y:X} (f:α→List AV) (hv:Ztg l' i lo m=some v) (h6:all.toList.mapM (Ze c.P all)=some ops) (U:(Zy1 ops E).o = .app e n b x y) (hg:gm S (Zy1 ops E).g) (hx:S.x x = .ocs j 0 n i) (hy:S.x y = .ocs j lo n m) (hj:Zp S.ss j=some ⟨e,n,l'.map f⟩)
  (J:G c all ops af Φ m' (Zu1 ld E) ((⟨S.tm,S.bs,Zq S.ss j (some ⟨e,n,v.map f⟩)⟩:St).put (Zy1 ops E).d (.ocs j 0 n (i+m)))):GO c all ops af Φ m' ld S E:=by
 unfold Ztg at hv;split at hv
 ·rename_i hb;simp only [Option.some.injEq] at hv;subst hv;refine Zpa (S1:=⟨S.tm,S.bs,Zq S.ss j (some ⟨e,n,(l'.take i++(l'.take (lo+m)).drop lo++l'.drop (i+m)).map f⟩)⟩) h6 hg ?_ rfl (fun _ _ _ _ h1 _ _=>h1) J;rw [U];have:=Zog (c:=c) (b:=b) hx hy hj (by simpa using hb.1) (by simpa using hb.2.1) (by simpa using hb.2.2);simpa [List.map_append,List.map_take,List.map_drop] using this
 ·simp at hv
theorem Z1h {l' v:List α} (t j n m:Nat) {T:Nat} (f:α→List AV) (hv:Zug l' m=some v) (ht:Zn S.tm t = .ocs j 0 n m) (hj:Zp S.ss j=some ⟨T,n,l'.map f⟩)
  (h:V c fn K k ⟨Zo S.tm t (.osl (Zw S.ss)),S.bs,Zq S.ss j none++[some ⟨T,n,v.map f⟩]⟩):V c fn K k S:=by
 unfold Zug at hv;split at hv
 ·rename_i hb;simp only [Option.some.injEq] at hv;subst hv;refine Zpg t j n m ht hj rfl (by simpa using hb.1) (by simpa using hb.2) ?_;rw [List.map_take] at h;exact h
 ·simp at hv
end
end NX
end Go.Proofs.YtgamgemlekpepaaGreat
/-
  The symbolic machine: an own slice of which one row has the name of another own slice. No statement of the seat is proved here.
-/
namespace Go.Proofs.YtgamgemlekpepaaGreat
namespace NX
open Go Go.RowKit
def Z2h (rows:List (List AV)) (z off k:Nat):List (List AV):=
 match rows[z]? with
 | none=>rows
 | some r=>match Zv r off [.osl k] with
   | none=>rows
   | some r'=>rows.set z r'
theorem Z3h {nb ns:Nat} {a:AV}:∀ {l r:List AV},Zu l [a]=some r→okL nb ns l=true→a.ok nb ns=true→okL nb ns r=true
 | [],_,h,_,_=>by simp [Zu] at h
 | x::l,r,h,hl,ha=>by simp only [Zu,Option.map_some,Option.some.injEq] at h;subst h;simp only [okL,Zz1] at hl ⊢;exact ⟨ha,hl.2⟩
theorem Z4h {nb ns:Nat} {a:AV}:∀ {o:Nat} {l r:List AV},Zv l o [a]=some r→okL nb ns l=true→a.ok nb ns=true→okL nb ns r=true
 | 0,l,r,h,hl,ha=>Z3h (l:=l) (by simpa [Zv] using h) hl ha
 | o+1,[],_,h,_,_=>by simp [Zv] at h
 | o+1,x::l,r,h,hl,ha=>by simp only [Zv,Option.map_eq_some_iff] at h;obtain ⟨q,hq,rfl⟩:=h;simp only [okL,Zz1] at hl ⊢;exact ⟨hl.1,Z4h hq hl.2 ha⟩
theorem Z5h {ns:Nat}:∀ {l:List (List AV)} {i:Nat} {r:List AV},Zh1 ns l=true→l[i]?=some r→okL 0 ns r=true
 | [],_,_,_,h=>by simp at h
 | x::l,0,_,h,hi=>by simp only [Zh1,Zz1] at h;simp at hi;subst hi;exact h.1
 | x::l,i+1,_,h,hi=>by simp only [Zh1,Zz1] at h;exact Z5h h.2 (by simpa using hi)
theorem Z6h {ns:Nat} {rows:List (List AV)} {z off k:Nat} (h:Zh1 ns rows=true) (hk:Z5 (k+1) ns=true):Zh1 ns (Z2h rows z off k)=true:=by
 unfold Z2h;split
 ·exact h
 ·rename_i r hr;split
  ·exact h
  ·rename_i r' hr';exact Z38 (Z4h hr' (Z5h h hr) hk) h
@[go_sem] theorem Z7h {ns:Nat} {rows:List (List AV)} {z off k:Nat} (h:Z4 (Zh1 ns rows) (Z5 (k+1) ns)=true):Zh1 ns (Z2h rows z off k)=true:=by rw [Zz1] at h;exact Z6h h.1 h.2
@[go_sem] theorem Z8h {ns:Nat} {l:List (List AV)} {r:List AV} {i z off k:Nat} (h:Z4 (Zh1 ns l) (Z4 (okL 0 ns r) (Z5 (k+1) ns))=true):Zh1 ns (Z2h (l.set i r) z off k)=true:=by rw [Zz1,Zz1] at h;exact Z6h (Z38 h.2.1 h.1) h.2.2
theorem Z9h {α:Type} {l:List α} {f:α→List AV} {z:Int} {y:α} {off k:Nat} {r:List AV} (hv:at_ l z=some y) (hl:Zv (f y) off [.osl k]=some r):Z2h (l.map f) z.toNat off k=(l.map f).set z.toNat r:=by unfold Z2h;rw [Zhc (Zgc hv).2];simp only [hl]
theorem Zah {a:AV}:∀ {o:Nat} {l r:List AV},Zv l o [a]=some r→Zt r o 1=some [a]
 | 0,[],r,h=>by simp [Zv,Zu] at h
 | 0,x::l,r,h=>by simp only [Zv,Zu,Option.map_some,Option.some.injEq] at h;subst h;rfl
 | o+1,[],_,h=>by simp [Zv] at h
 | o+1,x::l,r,h=>by simp only [Zv,Option.map_eq_some_iff] at h;obtain ⟨q,hq,rfl⟩:=h;have:=Zah hq;exact this
theorem Zbh {M:Mem} {a b:AV} (h6:∀v,a.is M v→b.is M v):∀ {o:Nat} {l r r':List AV},Zv l o [a]=some r→Zv l o [b]=some r'→∀vs,AV.isL M r vs→AV.isL M r' vs
 | 0,[],r,_,h,_=>by simp [Zv,Zu] at h
 | 0,x::l,r,r',h,h'=>by simp only [Zv,Zu,Option.map_some,Option.some.injEq] at h h';subst h;subst h';rintro vs ⟨v,q,rfl,h1,h2⟩;exact ⟨v,q,rfl,h6 v h1,h2⟩
 | o+1,[],_,_,h,_=>by simp [Zv] at h
 | o+1,x::l,r,r',h,h'=>by simp only [Zv,Option.map_eq_some_iff] at h h';obtain ⟨q,hq,rfl⟩:=h;obtain ⟨q',hq',rfl⟩:=h';rintro vs ⟨v,u,rfl,h1,h2⟩;exact ⟨v,u,rfl,h1,Zbh h6 hq hq' u h2⟩
theorem Zch {M:Mem} {n:Nat} {r':List AV}:∀ {rows:List (List AV)} {i:Nat} {r:List AV} {vss:List (List Value)},rows[i]?=some r→(∀vs,AV.isL M r vs→AV.isL M r' vs)→AV.isLL M n rows vss→AV.isLL M n (rows.set i r') vss
 | [],_,_,_,h,_,_=>by simp at h
 | x::l,0,r,vss,h,k,⟨v,q,h0,h1,h2,h3⟩=>by simp at h;subst h;exact ⟨v,q,h0,h1,k v h2,h3⟩
 | x::l,i+1,r,vss,h,k,⟨v,q,h0,h1,h2,h3⟩=>⟨v,q,h0,h1,h2,Zch (by simpa using h) k h3⟩
section
variable {c:Ctx} {M:Mem} {S S':St} {a:Act} {w:World} {fn:Func} {K:AV→List (Option Blk)→List (Option Sl)→Prop} {k:List It}
theorem Zdh {bs:List (Option Blk)} {ss:List (Option Sl)} (J:RelS c M bs ss w) {j T n:Nat} {rows E:List (List AV)} (hj:Zp ss j=some ⟨T,n,rows⟩) (hl:E.length=rows.length) (h:∀vss,AV.isLL M.sl n rows vss→AV.isLL M.sl n E vss):
  RelS c M bs (Zq ss j (some ⟨T,n,E⟩)) w:=by
 have live:∀i N,Zp (Zq ss j (some ⟨T,n,E⟩)) i=some N→(i=j∧N=⟨T,n,E⟩)∨Zp ss i=some N:=by
  intro i N hi;rw [Z62] at hi;split at hi
  ·rename_i e;simp only [Option.some.injEq] at hi;exact .inl ⟨e.1,hi.symm⟩
  ·exact .inr hi
 have old:∀i N,Zp (Zq ss j (some ⟨T,n,E⟩)) i=some N→∃N',Zp ss i=some N':=by
  intro i N hi;rcases live i N hi with ⟨rfl,_⟩ | h
  ·exact ⟨_,hj⟩
  ·exact ⟨_,h⟩
 refine ⟨J.nb,by rw [Z72];exact J.ns,J.so,J.os,J.tape,J.output,J.size,J.block,J.hle,J.hold,J.blk,?_,J.d1,?_,?_,J.pin⟩
 ·intro i N hi;rcases live i N hi with ⟨rfl,rfl⟩ | h'
  ·obtain ⟨q0,us,q1,q2,q3,q4⟩:=J.slc i _ hj;exact ⟨q0,us,h _ q1,q2,by dsimp only at q3 ⊢;rw [hl];exact q3,q4⟩
  ·exact J.slc i N h'
 ·intro i t B N hi ht;obtain ⟨N',h'⟩:=old t N ht;exact J.d2 i t B N' hi h'
 ·intro i t N O g hi ht e1 e2;obtain ⟨N',h1⟩:=old i N hi;obtain ⟨O',h2⟩:=old t O ht;exact J.d3 i t N' O' g h1 h2 e1 e2
theorem Zeh (j k':Nat) {α:Type} {l:List α} {f:α→List AV} {z:Int} {y:α} (y':α) {T n off J E:Nat} {rows:List (List AV)} {q:List AV} (hv:at_ l z=some y) (hj:Zp S.ss j=some ⟨T,n,Z2h (l.map f) z.toNat off k'⟩) (hk:Zp S.ss k'=some ⟨J,E,rows⟩) (hne:(k'==j)=false)
  (hq:Zv (f y) off [.osl k']=some q) (hl:Zv (f y) off [.sl E rows]=some (f y'))
  (h:V c fn K k ⟨(S.sealS k' ⟨J,E,rows⟩).tm,(S.sealS k' ⟨J,E,rows⟩).bs,Zq (Zq S.ss k' none) j (some ⟨T,n,(l.set z.toNat y').map f⟩)⟩) (h8:Zj1 rows=true:=by first | rfl | simp [go_sem]):V c fn K k S:=by
 intro rk M a w hc hT;obtain ⟨M',hle,h1,h2⟩:=Zb8 k' hk h8 hT;refine h rk M' a w hc ⟨h1.len,h1.tm,h1.df,?_⟩;have hne':k'≠j:=by simpa using hne
 have h9:Zp (Zq S.ss k' none) j=some ⟨T,n,Z2h (l.map f) z.toNat off k'⟩:=by rw [Z62,if_neg (fun e=>hne' e.1.symm)];exact hj
 refine Zdh h1.st h9 (by rw [Z9h hv hq];simp) fun vss h6=>?_;rw [Z9h hv hq] at h6;have hd:z.toNat<(l.map f).length:=by have:=(List.getElem?_eq_some_iff.1 (Zgc hv).2).1;simpa using this
 have:=Zch (i:=z.toNat) (r:=q) (r':=f y') (by rw [List.getElem?_set_self hd]) (Zbh (a:=.osl k') (b:=.sl E rows) (fun v hv=>?_) hq hl) h6
 ·rw [List.set_set,←List.map_set] at this;exact this
 ·simp only [AV.is] at hv;obtain ⟨_,rfl⟩:=hv;have e:M'.sl.σ k'=M.σ k':=by show M'.σ k'=M.σ k';exact hle.σ k' (by rw [hT.st.ns];exact Z82 hk)
  rw [e];exact h2
theorem Zfh {α:Type} {l':List α} {z:Int} {y:α} {j k' T n off:Nat} {x v:X} {q:List AV} (f:α→List AV) (hv:at_ l' z=some y) (hx:S.x x = .oel j (z.toNat*n) off) (hj:Zp S.ss j=some ⟨T,n,l'.map f⟩) (h6:S.x v = .osl k') (hq:Zv (f y) off [.osl k']=some q):
  Z67 c S (.store 1 x v) .un ⟨S.tm,S.bs,Zq S.ss j (some ⟨T,n,Z2h (l'.map f) z.toNat off k'⟩)⟩:=by
 rw [Z9h hv hq];exact Zte hx hj rfl (Zhc (Zgc hv).2) (cs0:=[.osl k']) (by rw [h6];rfl) (Zqb _) rfl rfl rfl hq
theorem Zgh {α:Type} {l':List α} {z:Int} {y:α} {j k' T n off:Nat} {x:X} {q:List AV} (f:α→List AV) (hv:at_ l' z=some y) (hx:S.x x = .oel j (z.toNat*n) off) (hj:Zp S.ss j=some ⟨T,n,Z2h (l'.map f) z.toNat off k'⟩) (hq:Zv (f y) off [.osl k']=some q):
  Z67 c S (.load x) (.osl k') S:=by
 rw [Z9h hv hq] at hj;have h6:z.toNat<(l'.map f).length:=by have:=(List.getElem?_eq_some_iff.1 (Zgc hv).2).1;simpa using this
 exact Zje hx hj rfl (by rw [List.getElem?_set_self h6]) (Zah hq)
theorem Zhh {α:Type} {l':List α} {z:Int} {y:α} {d:Option Nat} {g:Option (Nat×Bool)} {l:List EOp} {j k' T n off:Nat} {x v:X} {q:List AV} (f:α→List AV) (hv:at_ l' z=some y) (hg:gm S g) (hx:S.x x = .oel j (z.toNat*n) off) (hj:Zp S.ss j=some ⟨T,n,l'.map f⟩) (h6:S.x v = .osl k') (hq:Zv (f y) off [.osl k']=some q)
  (h:V c fn K (.ops l::k) ((⟨S.tm,S.bs,Zq S.ss j (some ⟨T,n,Z2h (l'.map f) z.toNat off k'⟩)⟩:St).put d .un)):V c fn K (.ops (⟨d,g,.store 1 x v⟩::l)::k) S:=
 Z77 hg (Zfh f hv hx hj h6 hq) rfl h
theorem Zih {α:Type} {l':List α} {z:Int} {y:α} {d:Option Nat} {g:Option (Nat×Bool)} {l:List EOp} {j k' T n off:Nat} {x:X} {q:List AV} (f:α→List AV) (hv:at_ l' z=some y) (hg:gm S g) (hx:S.x x = .oel j (z.toNat*n) off) (hj:Zp S.ss j=some ⟨T,n,Z2h (l'.map f) z.toNat off k'⟩) (hq:Zv (f y) off [.osl k']=some q)
  (h:V c fn K (.ops l::k) (S.put d (.osl k'))):V c fn K (.ops (⟨d,g,.load x⟩::l)::k) S:=
 Z77 hg (Zgh f hv hx hj hq) rfl h
section
variable {all:Array Oper} {ops:List EOp} {af:List (List Nat)} {Φ:St→Prop} {m:Nat} {ld:List Bool}
theorem Zjh (h6:all.toList.mapM (Ze c.P all)=some ops) {i:Nat} {α:Type} {l':List α} {z:Int} {y:α} {j k' T n off:Nat} {x:X} {q:List AV} (f:α→List AV) (hv:at_ l' z=some y) (E:(Zy1 ops i).o = .load x) (hg:gm S (Zy1 ops i).g) (hx:S.x x = .oel j (z.toNat*n) off) (hj:Zp S.ss j=some ⟨T,n,Z2h (l'.map f) z.toNat off k'⟩) (hq:Zv (f y) off [.osl k']=some q)
  (h:G c all ops af Φ m (Zu1 ld i) (S.put (Zy1 ops i).d (.osl k'))):GO c all ops af Φ m ld S i:=
 Zpa h6 hg (by rw [E];exact Zgh f hv hx hj hq) rfl (Z7a _ _) h
end
end
end NX
end Go.Proofs.YtgamgemlekpepaaGreat
/-
  The symbolic machine: calls in drawn regions that are lent own blocks. No statement of the seat is proved here.
-/
namespace Go.Proofs.YtgamgemlekpepaaGreat
namespace NX
open Go Go.RowKit
mutual
theorem Zkh (p q:Nat):∀(x:AV),x.pu=true→AV.ren p q x=x:=by
 intro x h;cases x<;>simp_all [AV.pu,AV.ren]
 all_goals exact Zlh p q _ h
theorem Zlh (p q:Nat):∀(l:List AV),puL l=true→Zn1 p q l=l
 | [],_=>rfl
 | x::l,h=>by simp only [puL] at h;cases hx:x.pu<;>simp [hx,Z4] at h;simp [Zn1,Zkh p q x hx,Zlh p q l h]
end
def Zmh (af:List (List Nat)) (i:Nat):List EOp→Nat→Bool
 | [],_=>true
 | o::l,k=>Z4 (match Zp8 o.o with | true=>orb (Zw1 k (Zx1 af i)) (Zw1 i (Zx1 af k)) | false=>true) (Zmh af i l (k+1))
theorem Znh {af:List (List Nat)} {i:Nat}:∀ {l:List EOp} {k:Nat},Zmh af i l k=true→∀j,Zp8 (Zy1 l j).o=true→k+j∈Zx1 af i∨i∈Zx1 af (k+j)
 | [],_,_,j,h=>by simp [Zy1,Zp8] at h
 | o::l,k,h,0,hl=>by simp only [Zmh,Zz1] at h;simp only [Zy1] at hl;rw [hl] at h;have:=h.1;simp only [Zi9,Zk8] at this;simpa using this
 | o::l,k,h,j+1,hl=>by simp only [Zmh,Zz1] at h;have:=Znh h.2 j (by simpa [Zy1] using hl);rw [show k+(j+1)=k+1+j by omega];exact this
theorem Zoh {ops:List EOp} {af:List (List Nat)} {i:Nat} (h:Zmh af i ops 0=true):Zq8 ops af i:=fun k hk=>by have:=Znh h k hk;rwa [Nat.zero_add] at this
section
variable {c:Ctx} {S:St} {all:Array Oper} {ops:List EOp} {af:List (List Nat)} {Φ:St→Prop} {m':Nat} {ld:List Bool}
theorem Zph (h6:all.toList.mapM (Ze c.P all)=some ops) {i f:Nat} {xs:List X} {args:List AV} {v:AV} {bs E:List (Option Blk)} {ss J:List (Option Sl)} (h8:Zmh af i ops 0=true) (U Y:List Bool) (ho:(Zy1 ops i).o = .call f xs) (hg:gm S (Zy1 ops i).g) (Z:Z0f c.P f args bs ss v E J)
  (h9:msk U S.bs=bs:=by rfl) (hc:msk Y S.ss=ss:=by rfl) (ha:AV.le.leL (Z71 S xs) args:=by first | exact Zqb _ | simp [go_sem])
  (h:G c all ops af Φ m' (Zu1 ld i) ((⟨S.tm,mrg U S.bs E,mrg Y S.ss J⟩:St).put (Zy1 ops i).d v)):GO c all ops af Φ m' ld S i:=
 Zqa (S1:=⟨S.tm,mrg U S.bs E,mrg Y S.ss J⟩) h6 hg (by rw [ho];exact Z7f (c:=c) U Y Z h9 hc ha) rfl (Zoh h8) h
end
end NX
end Go.Proofs.YtgamgemlekpepaaGreat
