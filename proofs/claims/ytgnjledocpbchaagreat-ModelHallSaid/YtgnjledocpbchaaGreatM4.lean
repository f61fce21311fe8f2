/-
  The symbolic machine: parts of own slices: cut, cleared, laid behind one another. No statement of the seat is proved here.
-/
import Derived.Laws.BytesString
import Derived.Laws.Externs
import Derived.Lib.Overlaps
import Derived.Lib.AppendZerosOnto
import Derived.KernelRfl
import Derived.Test.YtgnjledocpbchaaGreatM3
namespace Go.Proofs.YtgnjledocpbchaaGreat
namespace NX
open Go Go.RowKit
section
variable {c:Ctx} {M:Mem} {S S':St} {a:Act} {w:World} {fn:Func} {K:AV→List (Option Blk)→List (Option Sl)→Prop} {k:List It}
theorem cI {P:Program} {w:World} {T e n:Nat} (hu:P.underlying T=some (.slice e)) (hs:Cj P e=some n) {x:Operand} {l h:Option Operand} {ρ:Operand→Value} {ad:Option Addr} {len cp:Nat} {lo hi:Int}
  (hx:ρ x = .slice ad len cp) (hl:match l with | none=>lo=0 | some o=>ρ o = .int .i64 lo) (hh:match h with | none=>hi=len | some o=>ρ o = .int .i64 hi) (h0:0≤lo) (h1:lo≤hi) (h2:hi≤cp)
  (d:Option Tmp) (ty:TypeId) (pos:String) (af:Array Go.Edge) (E:Option (Nat×Bool)):
  (execOp ρ ⟨d,.slice T x l h none,ty,pos,af,E⟩).run P w = .ok (.value (.slice (if cp=lo.toNat then ad else ad.map (·.add (lo.toNat*n))) (hi.toNat-lo.toNat) (cp-lo.toNat))) w:=by
 have Ap:(Instr.sliceBounds true len cp (l.map ρ) (h.map ρ) none).run P w = .ok (lo.toNat,hi.toNat,cp) w:=by
  cases l<;>cases h<;>simp only at hl hh<;>simp only [Option.map,Instr.sliceBounds]
  ·subst hl;simp [hh]
  ·subst hl;simp [Instr.sliceBound,asIntOf,hh,h2,show 0≤hi by omega]
  ·subst hh;simp [Instr.sliceBound,asIntOf,hl,h0,h1]
  ·simp [Instr.sliceBound,asIntOf,hl,hh,h0,h1,h2,show 0≤hi by omega,Int.toNat_of_nonneg (show 0≤hi by omega)]
 simp [execOp,Instr.sliceAt,Instr.slice,hx,run_underlying hu,Ap,FN hs]
theorem wO {j T n m:Nat} {x:X} {lo hi:Option X} {rows:List (List AV)} {l h:Int} (hx:S.x x = .ocs j 0 n m) (hj:Ab S.ss j=some ⟨T,n,rows⟩) (hr:0<rows.length) (hw:Bb S lo 0=some l) (hA:Bb S hi m=some h) (h0:0≤l) (h1:l≤h) (h2:h≤rows.length):
  B3 c S (.slice n x lo hi) (.ocs j l.toNat n (h.toNat-l.toNat)) S:=by
 intro ro h8 M a w h6 next Q hB
 obtain ⟨dst,op,ty,pos,af,gd⟩:=ro;dsimp only at h8;obtain ⟨T',y,lo',hi',e,rfl,hu,hs,rfl,rfl,rfl⟩:=Hd h8;have hS:=h6.st;have k1:=Au h6 y;rw [hx] at k1;obtain ⟨hC,g1,n1,c1,k1,k1'⟩:=k1;obtain ⟨g,cap,cur,vss,e2,e3,e4,e5,e6,v1,v2,e7⟩:=Fo hS hj hr;rw [e2] at k1;simp only [Value.slice.injEq,Option.some.injEq,Addr.mk.injEq] at k1;obtain ⟨⟨rfl,_⟩,_,rfl⟩:=k1;rw [Nat.zero_mul,ite_self,Nat.sub_zero] at k1';have b1:=I0 (Au h6) lo' 0 l hw;have b2:=I0 (Au h6) hi' m h hA;have h9:=cI (P:=c.P) (w:=w) hu hs (ρ:=a.eval) (ad:=some ⟨g,0,none⟩) (len:=m) (cp:=cap) (lo:=l) (hi:=h) k1' b1 b2 h0 h1 Om dst ty pos af gd;unfold Oper.wp;rw [h9];refine hB M w _ (.refl M) hS ⟨hC,g,rows.length,cap,e2,?_⟩;by_cases hc:cap=l.toNat
 ·rw [if_pos hc,if_pos hc]
 ·rw [if_neg hc,if_neg hc];simp only [Option.map,Addr.add_lit,Nat.zero_add]
theorem oD {P:Program} {op:Op} {n:Nat} {x:X} {lo hi mx:Option X} (ho:cO P op = .sl3 n x lo hi mx):
  ∃T y l h m e,op = .slice T y l h (some m)∧P.underlying T=some (.slice e)∧Cj P e=some n∧cX y=x∧l.map cX=lo∧h.map cX=hi∧some (cX m)=mx:=by
 cases op
 case slice T y l h mx'=>
  simp only [cO] at ho;split at ho
  ·split at ho<;>simp at ho
  ·rename_i m e hu;split at ho
   ·rename_i n' hn;simp only [EO.sl3.injEq] at ho;obtain ⟨rfl,rfl,rfl,rfl,rfl⟩:=ho;exact ⟨T,y,l,h,_,_,rfl,hu,hn,rfl,rfl,rfl,rfl⟩
   ·simp at ho
  ·simp at ho
  ·simp at ho
 all_goals (simp only [cO] at ho;(repeat' (split at ho))<;>simp at ho)
theorem wL {j T n:Nat} {x E xh xm:X} {rows:List (List AV)} {l h m:Int} (hx:S.x x = .osl j) (hj:Ab S.ss j=some ⟨T,n,rows⟩) (hr:0<rows.length) (hl:S.x E = .iv l) (hh:S.x xh = .iv h) (hm:S.x xm = .iv m) (h0:0≤l) (h1:l≤h) (h2:h≤m) (h3:m≤rows.length):
  B3 c S (.sl3 n x (some E) (some xh) (some xm)) .any S:=by
 intro ro h9 M a w h6 next Q hw
 obtain ⟨dst,op,ty,pos,af,gd⟩:=ro;dsimp only at h9;obtain ⟨T',y,lo',hi',mx',e,rfl,hu,hs,rfl,q1,q2,q3⟩:=oD h9;cases lo' with
 | none=>simp at q1
 | some lo'=>
   cases hi' with
   | none=>simp at q2
   | some hi'=>
     simp only [Option.map_some,Option.some.injEq] at q1 q2 q3;have hS:=h6.st;have k1:=Au h6 y;rw [hx] at k1;obtain ⟨g,cap,cur,vss,e2,e3,e4,e5,e6,v1,v2,e7⟩:=Fo hS hj hr;have b1:=Au h6 lo';have b2:=Au h6 hi';have b3:=Au h6 mx';rw [q1,hl] at b1;rw [q2,hh] at b2;rw [q3,hm] at b3;simp only [AV.is] at b1 b2 b3;have k1':=k1.2.trans e2;have h8:∃v,(execOp a.eval ⟨dst,.slice T' y (some lo') (some hi') (some mx'),ty,pos,af,gd⟩).run c.P w = .ok (.value v) w:=by
      have Ap:(Instr.sliceBounds true rows.length cap ((some lo').map a.eval) ((some hi').map a.eval) (some (a.eval mx'))).run c.P w = .ok (l.toNat,h.toNat,m.toNat) w:=by simp [Instr.sliceBounds,Instr.sliceBound,asIntOf,b1,b2,b3,show 0≤m by omega,show m≤(cap:Int) by omega,show 0≤h by omega,h0,h1,h2,Int.toNat_of_nonneg (show 0≤m by omega),Int.toNat_of_nonneg (show 0≤h by omega)]
      generalize a.eval=ρ at *;refine ⟨.slice (if m.toNat=l.toNat then some ⟨g,0,none⟩ else (some ⟨g,0,none⟩:Option Addr).map (·.add (l.toNat*n))) (h.toNat-l.toNat) (m.toNat-l.toNat),?_⟩;simp only [Option.map_some] at Ap;simp [execOp,Instr.sliceAt,Instr.slice,k1',run_underlying hu,FN hs,Ap]
     obtain ⟨v,h8⟩:=h8;unfold Oper.wp;rw [h8];exact hw M w _ (.refl M) hS trivial
theorem oz {P:Program} {op:Op} {z:List AV} {x:X} (ho:cO P op = .clr z x):∃p t e n,op = .call ⟨.builtin .clear, #[p], #[t]⟩∧P.underlying t=some (.slice e)∧LH P e=some z∧Cj P e=some n∧z.length=n∧0<n∧cX p=x:=by
 cases op
 case call ci=>
  obtain ⟨callee,cargs,argTypes⟩:=ci;cases callee with
  | value o=>
    cases o with
    | func f'=>simp only [cO] at ho;(repeat' (split at ho))<;>simp at ho
    | _=>simp [cO] at ho
  | invoke _ _=>simp [cO] at ho
  | builtin b=>
    cases b
    case clear=>
     simp only [cO] at ho;split at ho
     ·rename_i t0 p h1 h2;split at ho
      ·rename_i e hu;split at ho
       ·rename_i z' n hz hs;split at ho
        ·rename_i hc;simp only [EO.clr.injEq] at ho;obtain ⟨rfl,rfl⟩:=ho;have e1:cargs = #[p]:=by apply Array.ext';simpa using h2
         have e2:argTypes = #[t0]:=by apply Array.ext';simpa using h1
         subst e1;subst e2;exact ⟨p,t0,e,n,rfl,hu,hz,hs,hc.1,hc.2,rfl⟩
        ·simp at ho
       ·simp at ho
      ·simp at ho
     ·simp at ho
    all_goals (simp only [cO] at ho;(repeat' (split at ho))<;>simp at ho)
 all_goals (simp only [cO] at ho;(repeat' (split at ho))<;>simp at ho)
theorem ma (z:Array Value):∀n,(Builtin.zeroCells z n).toList=(List.replicate n z.toList).flatten
 | 0=>by simp [Builtin.zeroCells]
 | n+1=>by
   have ih:=ma z n;simp only [Builtin.zeroCells,Array.toList_map,Array.toList_range] at ih ⊢;rw [List.replicate_succ',List.flatten_append,←ih,Nat.add_mul,Nat.one_mul,List.range_add,List.map_append];congr 1;rw [List.map_map];simp only [List.flatten_cons,List.flatten_nil,List.append_nil];refine List.ext_getElem? fun i=>?_;rw [List.getElem?_map];by_cases hi:i<z.size
   ·rw [List.getElem?_range hi];simp only [Option.map_some,Function.comp,Nat.mul_add_mod_self_right];rw [Nat.mod_eq_of_lt hi];simp [hi]
   ·rw [List.getElem?_eq_none (by simp;omega),List.getElem?_eq_none (by simp;omega)];rfl
theorem wG {j T n lo m:Nat} {x:X} {z:List AV} {rows:List (List AV)} (hx:S.x x = .ocs j lo n m) (hj:Ab S.ss j=some ⟨T,n,rows⟩) (hr:0<rows.length) (hJ:lo+m≤rows.length) (E:List AV) (hz:AV.le.leL z E) (hp:AB E=true) (hn:z.length=n) (h1:CA z=true):
  B3 c S (.clr z x) (.tup []) ⟨S.tm,S.bs,Av S.ss j (some ⟨T,n,rows.take lo++List.replicate m E++rows.drop (lo+m)⟩)⟩:=by
 intro ro hw M a w hT next Q hA
 obtain ⟨dst,op,ty,pos,af,gd⟩:=ro;dsimp only at hw;obtain ⟨p,t,e,n',rfl,hu,hK,hs,hQ,hR,rfl⟩:=oz hw;have hL:n'=n:=by omega
 subst hL;have k1:=Au hT p;rw [hx] at k1;obtain ⟨hS,g1,n1,c1,k1,k1'⟩:=k1;obtain ⟨g,cap,cur,vss,e2,e3,e4,e5,e6,v1,v2,e7⟩:=Fo hT.st hj hr;rw [e2] at k1;simp only [Value.slice.injEq,Option.some.injEq,Addr.mk.injEq] at k1;obtain ⟨⟨rfl,_⟩,_,rfl⟩:=k1;obtain ⟨i,u,hi,h9,hU,rfl⟩:=LI hK;have hN:AV.isL M.sl E u.cells.toList:=E9 (OP M) _ _ (Fp _ _ (Et (M:=M) _ _ _ hz (FU M _)) hp);have hE:u.cells.toList.length=n':=by simpa using hn
 have hG:∀v∈u.cells.toList,v.oneCell'=true:=IT (FU M _) h1 hT.st.so;have hC:=Py hN m;rw [hE] at hC;have hB:∀v∈(List.replicate m u.cells.toList).flatten,v.oneCell'=true:=fun v hv=>by obtain ⟨l,hl,hv⟩:=List.mem_flatten.1 hv;rw [List.eq_of_mem_replicate hl] at hv;exact hG v hv
 have hD:=E1 hC;rw [List.length_replicate] at hD;have hW:=bH hT.st hj e2 e3 e4 e5 e6 v1 v2 e7 (A:=lo) hC hB (by rw [List.length_replicate];exact hJ);rw [List.length_replicate] at hW;by_cases hO:m=0
 ·subst hO;have h6:(execOp a.eval ⟨dst,.call ⟨.builtin .clear, #[p], #[t]⟩,ty,pos,af,gd⟩).run c.P w = .ok (.value (.tuple #[])) w:=by generalize a.eval=ρ at *;simp [execOp,resolve,invoke,builtin,Builtin.clear_,run_underlying hu,k1']
  unfold Oper.wp;rw [h6];refine hA M _ _ (.refl M) ?_ ⟨[],rfl,rfl⟩;simp only [List.replicate_zero,List.append_nil,Nat.add_zero,List.take_append_drop];show RelS c M S.bs (Av S.ss j (some ⟨T,n',rows⟩)) w;rw [jz _ _ _ hj];exact hT.st
 ·have hI:¬cap=lo:=by omega
  rw [if_neg hI] at k1';have q1:(lo+m)*n'≤cap*n':=Nat.mul_le_mul_right _ Om;rw [Nat.add_mul] at q1;have h8:=run_storeCells_at c.P g (lo*n') T (List.replicate m u.cells.toList).flatten 0 cur w e3 (by rw [Nat.add_zero,hD,e6];exact q1) hB;rw [Nat.add_zero] at h8;have h6:(execOp a.eval ⟨dst,.call ⟨.builtin .clear, #[p], #[t]⟩,ty,pos,af,gd⟩).run c.P w = .ok (.value (.tuple #[])) (w.setRow g (cur.toList.take (lo*n')++(List.replicate m u.cells.toList).flatten++cur.toList.drop (lo*n'+(List.replicate m u.cells.toList).flatten.length)).toArray):=by
   have hP:(zeroValue e).run c.P w = .ok u w:=by simp [zeroValue,typeInfo,hi,h9]
   rw [←ma] at h8 ⊢;generalize a.eval=ρ at *;obtain ⟨m',rfl⟩:∃m',m=m'+1:=⟨m-1,Om⟩
   simp [execOp,resolve,invoke,builtin,Builtin.clear_,run_underlying hu,k1',hP,h8]
  unfold Oper.wp;rw [h6];exact hA M _ _ (.refl M) hW ⟨[],rfl,rfl⟩
theorem wA {j e n b i lo m:Nat} {x y:X} {rows:List (List AV)} (hx:S.x x = .ocs j 0 n i) (hy:S.x y = .ocs j lo n m) (hj:Ab S.ss j=some ⟨e,n,rows⟩) (hr:0<rows.length) (h1:i+m≤rows.length) (h2:lo+m≤rows.length):
  B3 c S (.app e n b x y) (.ocs j 0 n (i+m)) ⟨S.tm,S.bs,Av S.ss j (some ⟨e,n,rows.take i++(rows.take (lo+m)).drop lo++rows.drop (i+m)⟩)⟩:=by
 intro ro hC M a w hT next Q hI
 obtain ⟨dst,op,ty,pos,af,gd⟩:=ro;dsimp only at hC;obtain ⟨t,p,q,inf,z,rfl,hu,hi,hz,h9,hL,hN,hO,rfl,rfl⟩:=Zf hC;have k1:=Au hT p;have k2:=Au hT q;rw [hx] at k1;rw [hy] at k2;obtain ⟨hJ,g1,n1,c1,k1,k1'⟩:=k1;obtain ⟨_,g2,n2,c2,k2,k2'⟩:=k2;obtain ⟨g,cap,cur,vss,e2,e3,e4,e5,e6,v1,v2,e7⟩:=Fo hT.st hj hr;rw [e2] at k1 k2;simp only [Value.slice.injEq,Option.some.injEq,Addr.mk.injEq] at k1 k2;obtain ⟨⟨rfl,_⟩,_,rfl⟩:=k1;obtain ⟨⟨rfl,_⟩,_,rfl⟩:=k2;rw [Nat.zero_mul,ite_self,Nat.sub_zero] at k1';have hw:=G1 v1 lo (lo+m);have h6:=E1 hw;have hk:((rows.take (lo+m)).drop lo).length=m:=by rw [List.length_drop,List.length_take];omega
 rw [hk] at h6;have h8:=(Gy v1).1;have hD:((vss.take (lo+m)).drop lo).flatten=(vss.flatten.take ((lo+m)*n)).drop (lo*n):=by rw [(Hi (fun v hv=>h8 v (List.mem_of_mem_take hv)) lo).2,(Hi h8 _).1]
 have hA:∀v∈((vss.take (lo+m)).drop lo).flatten,v.oneCell'=true:=fun v hv=>by rw [hD] at hv;exact v2 v (List.mem_of_mem_take (List.mem_of_mem_drop hv))
 have q1:(i+m)*n≤cap*n:=Nat.mul_le_mul_right _ Om;rw [Nat.add_mul] at q1;have hB:∀(u:Nat) v,((vss.take (lo+m)).drop lo).flatten[u]?=some v→w.cell? ((⟨g,if cap=lo then 0 else lo*n,none⟩:Addr).add u)=some v:=fun u v hv=>by
  by_cases hc:cap=lo
  ·have hK:m=0:=by omega
   have hE:((vss.take (lo+m)).drop lo).flatten.length=0:=by rw [h6,hK,Nat.zero_mul]
   rw [List.eq_nil_of_length_eq_zero hE] at hv;simp at hv
  ·rw [if_neg hc];rw [hD,List.getElem?_drop,List.getElem?_take] at hv;split at hv
   ·rw [←e7,List.getElem?_take] at hv;split at hv
    ·rw [Addr.add_lit];simp only [World.cell?,e3];simpa using hv
    ·simp at hv
   ·simp at hv
 have hG:=Z5 (P:=c.P) (w:=w) (p:=p) (q:=q) (t:=t) (ρ:=a.eval) dst ty pos af gd (by rw [k1',k2'];exact run_append_room (P:=c.P) w t ty e inf hu hi g i cap cur e3 ⟨g,if cap=lo then 0 else lo*n,none⟩ m (cap-lo) ((vss.take (lo+m)).drop lo).flatten (by rw [h6,h9]) hB hA Om (by rw [h9,h6,e6];exact q1));unfold Oper.wp;rw [hG,h9];have hW:=bH hT.st hj e2 e3 e4 e5 e6 v1 v2 e7 (A:=i) hw hA (by rw [hk];omega);rw [hk] at hW;refine hI M _ _ (.refl M) hW ⟨hJ,g,rows.length,cap,e2,?_⟩;rw [Nat.zero_mul,ite_self,Nat.sub_zero]
theorem mW (t j n m:Nat) {L:Sl} (ht:AM S.tm t = .ocs j 0 n m) (hj:Ab S.ss j=some L) (hn:L.n=n) (hr:0<L.rows.length) (hm:m≤L.rows.length) (h:V c fn K k ⟨BC S.tm t (.osl (Ah S.ss)),S.bs,Av S.ss j none++[some ⟨L.T,n,L.rows.take m⟩]⟩):V c fn K k S:=by
 subst hn;intro rk M a w hc hT;have hS:=hT.st;have k1:=hT.tm t;rw [ht] at k1;obtain ⟨h9,g1,n1,c1,k1,k1'⟩:=k1;obtain ⟨g,cap,cur,vss,e2,e3,e4,e5,e6,v1,v2,e7⟩:=Fo (T:=L.T) (n:=L.n) (rows:=L.rows) hS hj hr;rw [e2] at k1;simp only [Value.slice.injEq,Option.some.injEq,Addr.mk.injEq] at k1;obtain ⟨⟨rfl,_⟩,_,rfl⟩:=k1;rw [Nat.zero_mul,ite_self,Nat.sub_zero] at k1';obtain ⟨g0,_,_,_,_,q4⟩:=hS.slc j L hj;have hw:=G1 v1 0 m;simp only [List.drop_zero] at hw;have h6:(vss.take m).flatten=vss.flatten.take (m*L.n):=(Hi (Gy v1).1 m).1;have h8:=E1 hw;rw [List.length_take,Nat.min_eq_left hm] at h8;have hr:RelS c (M.addS (.slice (some ⟨g,0,none⟩) m cap)) S.bs (Av S.ss j none++[some (⟨L.T,L.n,L.rows.take m⟩:Sl)]) w:=by
  refine RelS.grown (v:=M.σ j) (vss:=vss.take m) hS (Dg _ _ _) ?_ (.inr fun i B hi=>hS.d2 i j B L hi hj) q4 ⟨rfl,rfl,rfl,Nat.le_refl _,fun _ _ _=>rfl⟩ (.inl (by rw [e2];rfl)) g0 hw ?_ ?_
  ·intro i N hi;rw [Dz] at hi;split at hi
   ·simp at hi
   ·rename_i e;refine ⟨hi,fun g hg e2=>e ⟨?_,CD hj⟩⟩;exact hS.d3 i j N L g hi hj e2 hg
  ·intro v hv;rw [h6] at hv;exact v2 v (List.mem_of_mem_take hv)
  ·refine ⟨by rw [h8,List.length_take,Nat.min_eq_left hm],.inr ⟨g,cap,cur,by rw [List.length_take,Nat.min_eq_left hm],Nat.zero_le _,e3,by rw [List.length_take,Nat.min_eq_left hm];omega,e5,e6,?_⟩⟩;rw [List.length_take,Nat.min_eq_left hm,h6,←e7,List.take_take,Nat.min_eq_left (Nat.mul_le_mul_right _ hm)]
 have hle:=Mem.le_addS M (.slice (some ⟨g,0,none⟩) m cap);refine h rk _ a w hc ⟨by rw [Ig];exact hT.len,fun u=>?_,hT.df,hr⟩;rw [Fc];split
 ·rename_i e;have hu:=hT.tm u;obtain ⟨rfl,_⟩:=e;refine ⟨by rw [Bl,←hS.ns];exact Nat.lt_succ_self _,?_⟩;rw [k1',Bl,←hS.ns];simp [Mem.addS]
 ·exact Dx hle _ _ (hT.tm u)
end
end NX
end Go.Proofs.YtgnjledocpbchaaGreat
/-
  The symbolic machine: strings. No statement of the seat is proved here.
-/
namespace Go.Proofs.YtgnjledocpbchaaGreat
namespace NX
open Go Go.RowKit
section
variable {c:Ctx} {M:Mem} {S S':St} {a:Act} {w:World} {fn:Func} {K:AV→List (Option Blk)→List (Option Sl)→Prop} {k:List It}
end
end NX
end Go.Proofs.YtgnjledocpbchaaGreat
/-
  The symbolic machine: strings in drawn regions, arrays by their addresses, parts of own slices with a model. No statement of the seat is proved here.
-/
namespace Go.Proofs.YtgnjledocpbchaaGreat
namespace NX
open Go Go.RowKit
section
variable {c:Ctx} {M:Mem} {S S':St} {a:Act} {w:World} {fn:Func} {K:AV→List (Option Blk)→List (Option Sl)→Prop} {k:List It}
section
variable {all:Array Oper} {ops:List EOp} {af:List (List Nat)} {Φ:St→Prop} {m':Nat} {ld:List Bool} {nap:List (List Nat)}
end
theorem ms {all:Array Oper} {ops:List EOp} {af:List (List Nat)} {Φ:St→Prop} {m':Nat} {ld:List Bool} (h6:all.toList.mapM (AO c.P all)=some ops) {i f:Nat} {xs:List X} {args:List AV} {v:AV} {bs bs':List (Option Blk)} {ss ss':List (Option Sl)} (J E:List Bool) (ho:(Af ops i).o = .call f xs) (hg:gm S (Af ops i).g) (hf:CL c.P f args bs ss v bs' ss')
  (h8:Ax J S.bs=bs:=by rfl) (h9:Ax E S.ss=ss:=by rfl) (hw:BA J S.bs bs'=S.bs:=by rfl) (ha:AV.le.leL (B6 S xs) args:=by first | exact AA _ | simp [go_sem])
  (h:G c all ops af Φ m' (Ay ld i) ((⟨S.tm,S.bs,BA E S.ss ss'⟩:St).put (Af ops i).d v)):GO c all ops af Φ m' ld S i:=by
 refine Bz (S1:=⟨S.tm,S.bs,BA E S.ss ss'⟩) h6 hg ?_ rfl (fun _ _ _ _ h1 _ _=>h1) h;rw [ho];have:=Yt (c:=c) J E hf h8 h9 ha;rw [hw] at this;exact this
def DQ (n:Int) (lo hi:Int):Option Unit:=if 0<n∧0≤lo∧lo≤hi∧hi≤n then some () else none
theorem U2 {n lo hi:Int} {u:Unit} (h:DQ n lo hi=some u):0<n∧0≤lo∧lo≤hi∧hi≤n:=by
 unfold DQ at h;split at h
 ·assumption
 ·simp at h
def He {α:Type} (l:List α) (lo m:Nat) (z:α):Option (List α):=if 0<l.length∧lo+m≤l.length then some (l.take lo++List.replicate m z++l.drop (lo+m)) else none
def XH {α:Type} (l:List α) (i lo m:Nat):Option (List α):=if 0<l.length∧i+m≤l.length∧lo+m≤l.length then some (l.take i++(l.take (lo+m)).drop lo++l.drop (i+m)) else none
def Up {α:Type} (l:List α) (m:Nat):Option (List α):=if 0<l.length∧m≤l.length then some (l.take m) else none
variable {α:Type}
theorem YZ {l':List α} {u:Unit} {d:Option Nat} {g:Option (Nat×Bool)} {E:List EOp} {T n j:Nat} {x:X} {lo hi:Option X} {l h:Int} (f:α→List AV) (hv:DQ (ln f l') l h=some u) (hg:gm S g) (hx:S.x x = .osl j) (hj:Ab S.ss j=some ⟨T,n,l'.map f⟩) (h6:Bb S lo 0=some l) (h8:Bb S hi (ln f l')=some h)
  (J:V c fn K (.ops E::k) (S.put d (.ocs j l.toNat n (h.toNat-l.toNat)))):V c fn K (.ops (⟨d,g,.slice n x lo hi⟩::E)::k) S:=by
 obtain ⟨h0,h1,h2,h3⟩:=U2 hv;unfold ln at h0 h3;exact Ba hg (Fs hx hj Om h6 h8 h1 h2 h3) rfl J
theorem U4 {all:Array Oper} {ops:List EOp} {af:List (List Nat)} {Φ:St→Prop} {m':Nat} {ld:List Bool} {i:Nat} {l':List α} {u:Unit} {T n j:Nat} {x:X} {lo hi:Option X} {l h:Int} (f:α→List AV) (hv:DQ (ln f l') l h=some u) (h6:all.toList.mapM (AO c.P all)=some ops) (ho:(Af ops i).o = .slice n x lo hi) (hg:gm S (Af ops i).g) (hx:S.x x = .osl j) (hj:Ab S.ss j=some ⟨T,n,l'.map f⟩) (h8:Bb S lo 0=some l) (h9:Bb S hi (ln f l')=some h)
  (E:G c all ops af Φ m' (Ay ld i) (S.put (Af ops i).d (.ocs j l.toNat n (h.toNat-l.toNat)))):GO c all ops af Φ m' ld S i:=by
 obtain ⟨h0,h1,h2,h3⟩:=U2 hv;unfold ln at h0 h3;exact Bz h6 hg (by rw [ho];exact Fs hx hj Om h8 h9 h1 h2 h3) rfl (fun _ _ _ _ h1 _ _=>h1) E
theorem nH {l':List α} {u:Unit} {d:Option Nat} {g:Option (Nat×Bool)} {E:List EOp} {T n j m:Nat} {x:X} {lo hi:Option X} {l h:Int} (f:α→List AV) (hv:DQ (ln f l') l h=some u) (hg:gm S g) (hx:S.x x = .ocs j 0 n m) (hj:Ab S.ss j=some ⟨T,n,l'.map f⟩) (h6:Bb S lo 0=some l) (h8:Bb S hi m=some h)
  (J:V c fn K (.ops E::k) (S.put d (.ocs j l.toNat n (h.toNat-l.toNat)))):V c fn K (.ops (⟨d,g,.slice n x lo hi⟩::E)::k) S:=by
 obtain ⟨h0,h1,h2,h3⟩:=U2 hv;unfold ln at h0 h3;exact Ba hg (wO hx hj Om h6 h8 h1 h2 h3) rfl J
theorem nA {l':List α} {u Z:Unit} {d:Option Nat} {g:Option (Nat×Bool)} {J:List EOp} {T n j:Nat} {x U xh xm:X} {l h m:Int} (f:α→List AV) (hv:DQ (ln f l') l h=some u) (E:DQ (ln f l') h m=some Z) (hg:gm S g) (hx:S.x x = .osl j) (hj:Ab S.ss j=some ⟨T,n,l'.map f⟩) (h6:S.x U = .iv l) (h8:S.x xh = .iv h) (hm:S.x xm = .iv m)
  (Y:V c fn K (.ops J::k) (S.put d .any)):V c fn K (.ops (⟨d,g,.sl3 n x (some U) (some xh) (some xm)⟩::J)::k) S:=by
 obtain ⟨h0,h1,h2,h3⟩:=U2 hv;obtain ⟨_,_,h4,h5⟩:=U2 E;unfold ln at h0 h5;exact Ba hg (wL hx hj Om h6 h8 hm h1 h2 h4 h5) rfl Y
theorem Ua {l' v:List α} {d:Option Nat} {g:Option (Nat×Bool)} {E:List EOp} {T n j lo m:Nat} {x:X} {z:List AV} {y:α} (f:α→List AV) (hv:He l' lo m y=some v) (hg:gm S g) (hx:S.x x = .ocs j lo n m) (hj:Ab S.ss j=some ⟨T,n,l'.map f⟩) (hz:AV.le.leL z (f y)) (hp:AB (f y)=true) (hn:z.length=n) (h1:CA z=true)
  (J:V c fn K (.ops E::k) ((⟨S.tm,S.bs,Av S.ss j (some ⟨T,n,v.map f⟩)⟩:St).put d (.tup []))):V c fn K (.ops (⟨d,g,.clr z x⟩::E)::k) S:=by
 unfold He at hv;split at hv
 ·rename_i hb;simp only [Option.some.injEq] at hv;subst hv;refine Ba hg (wG hx hj (by simpa using hb.1) (by simpa using hb.2) (f y) hz hp hn h1) rfl ?_;simpa [List.map_append,List.map_take,List.map_drop,List.map_replicate] using J
 ·simp at hv
theorem db {all:Array Oper} {ops:List EOp} {af:List (List Nat)} {Φ:St→Prop} {m':Nat} {ld:List Bool} {E:Nat} {l' v:List α} {e n b j i lo m:Nat} {x y:X} (f:α→List AV) (hv:XH l' i lo m=some v) (h6:all.toList.mapM (AO c.P all)=some ops) (ho:(Af ops E).o = .app e n b x y) (hg:gm S (Af ops E).g) (hx:S.x x = .ocs j 0 n i) (hy:S.x y = .ocs j lo n m) (hj:Ab S.ss j=some ⟨e,n,l'.map f⟩)
  (J:G c all ops af Φ m' (Ay ld E) ((⟨S.tm,S.bs,Av S.ss j (some ⟨e,n,v.map f⟩)⟩:St).put (Af ops E).d (.ocs j 0 n (i+m)))):GO c all ops af Φ m' ld S E:=by
 unfold XH at hv;split at hv
 ·rename_i hb;simp only [Option.some.injEq] at hv;subst hv;refine Bz (S1:=⟨S.tm,S.bs,Av S.ss j (some ⟨e,n,(l'.take i++(l'.take (lo+m)).drop lo++l'.drop (i+m)).map f⟩)⟩) h6 hg ?_ rfl (fun _ _ _ _ h1 _ _=>h1) J;rw [ho];have:=wA (c:=c) (b:=b) hx hy hj (by simpa using hb.1) (by simpa using hb.2.1) (by simpa using hb.2.2);simpa [List.map_append,List.map_take,List.map_drop] using this
 ·simp at hv
theorem mX {l' v:List α} (t j n m:Nat) {T:Nat} (f:α→List AV) (hv:Up l' m=some v) (ht:AM S.tm t = .ocs j 0 n m) (hj:Ab S.ss j=some ⟨T,n,l'.map f⟩)
  (h:V c fn K k ⟨BC S.tm t (.osl (Ah S.ss)),S.bs,Av S.ss j none++[some ⟨T,n,v.map f⟩]⟩):V c fn K k S:=by
 unfold Up at hv;split at hv
 ·rename_i hb;simp only [Option.some.injEq] at hv;subst hv;refine mW t j n m ht hj rfl (by simpa using hb.1) (by simpa using hb.2) ?_;rw [List.map_take] at h;exact h
 ·simp at hv
end
end NX
end Go.Proofs.YtgnjledocpbchaaGreat
/-
  The symbolic machine: an own slice of which one row has the name of another own slice. No statement of the seat is proved here.
-/
namespace Go.Proofs.YtgnjledocpbchaaGreat
namespace NX
open Go Go.RowKit
def Es (rows:List (List AV)) (z off k:Nat):List (List AV):=
 match rows[z]? with
 | none=>rows
 | some r=>match BS r off [.osl k] with
   | none=>rows
   | some r'=>rows.set z r'
theorem tb {nb ns:Nat} {a:AV}:∀ {l r:List AV},Fd l [a]=some r→Cq nb ns l=true→a.ok nb ns=true→Cq nb ns r=true
 | [],_,h,_,_=>by simp [Fd] at h
 | x::l,r,h,hl,ha=>by simp only [Fd,Option.map_some,Option.some.injEq] at h;subst h;simp only [Cq,AS] at hl ⊢;exact ⟨ha,hl.2⟩
theorem gC {nb ns:Nat} {a:AV}:∀ {o:Nat} {l r:List AV},BS l o [a]=some r→Cq nb ns l=true→a.ok nb ns=true→Cq nb ns r=true
 | 0,l,r,h,hl,ha=>tb (l:=l) (by simpa [BS] using h) hl ha
 | o+1,[],_,h,_,_=>by simp [BS] at h
 | o+1,x::l,r,h,hl,ha=>by simp only [BS,Option.map_eq_some_iff] at h;obtain ⟨q,hq,rfl⟩:=h;simp only [Cq,AS] at hl ⊢;exact ⟨hl.1,gC hq hl.2 ha⟩
theorem jm {ns:Nat}:∀ {l:List (List AV)} {i:Nat} {r:List AV},CE ns l=true→l[i]?=some r→Cq 0 ns r=true
 | [],_,_,_,h=>by simp at h
 | x::l,0,_,h,hi=>by simp only [CE,AS] at h;simp at hi;subst hi;exact h.1
 | x::l,i+1,_,h,hi=>by simp only [CE,AS] at h;exact jm h.2 (by simpa using hi)
theorem jl {ns:Nat} {rows:List (List AV)} {z off k:Nat} (h:CE ns rows=true) (hk:AF (k+1) ns=true):CE ns (Es rows z off k)=true:=by
 unfold Es;split
 ·exact h
 ·rename_i r hr;split
  ·exact h
  ·rename_i r' hr';exact Y4 (gC hr' (jm h hr) hk) h
@[go_sem] theorem okRows_fixS {ns:Nat} {rows:List (List AV)} {z off k:Nat} (h:BY (CE ns rows) (AF (k+1) ns)=true):CE ns (Es rows z off k)=true:=by rw [AS] at h;exact jl h.1 h.2
@[go_sem] theorem okRows_fixSS {ns:Nat} {l:List (List AV)} {r:List AV} {i z off k:Nat} (h:BY (CE ns l) (BY (Cq 0 ns r) (AF (k+1) ns))=true):CE ns (Es (l.set i r) z off k)=true:=by rw [AS,AS] at h;exact jl (Y4 h.2.1 h.1) h.2.2
theorem UB {α:Type} {l:List α} {f:α→List AV} {z:Int} {y:α} {off k:Nat} {r:List AV} (hv:Ac l z=some y) (hl:BS (f y) off [.osl k]=some r):Es (l.map f) z.toNat off k=(l.map f).set z.toNat r:=by unfold Es;rw [FJ (DD hv).2];simp only [hl]
theorem gD {a:AV}:∀ {o:Nat} {l r:List AV},BS l o [a]=some r→Db r o 1=some [a]
 | 0,[],r,h=>by simp [BS,Fd] at h
 | 0,x::l,r,h=>by simp only [BS,Fd,Option.map_some,Option.some.injEq] at h;subst h;rfl
 | o+1,[],_,h=>by simp [BS] at h
 | o+1,x::l,r,h=>by simp only [BS,Option.map_eq_some_iff] at h;obtain ⟨q,hq,rfl⟩:=h;have:=gD hq;exact this
theorem gB {M:Mem} {a b:AV} (hab:∀v,a.is M v→b.is M v):∀ {o:Nat} {l r r':List AV},BS l o [a]=some r→BS l o [b]=some r'→∀vs,AV.isL M r vs→AV.isL M r' vs
 | 0,[],r,_,h,_=>by simp [BS,Fd] at h
 | 0,x::l,r,r',h,h'=>by simp only [BS,Fd,Option.map_some,Option.some.injEq] at h h';subst h;subst h';rintro vs ⟨v,q,rfl,h1,h2⟩;exact ⟨v,q,rfl,hab v h1,h2⟩
 | o+1,[],_,_,h,_=>by simp [BS] at h
 | o+1,x::l,r,r',h,h'=>by simp only [BS,Option.map_eq_some_iff] at h h';obtain ⟨q,hq,rfl⟩:=h;obtain ⟨q',hq',rfl⟩:=h';rintro vs ⟨v,u,rfl,h1,h2⟩;exact ⟨v,u,rfl,h1,gB hab hq hq' u h2⟩
theorem fU {M:Mem} {n:Nat} {r':List AV}:∀ {rows:List (List AV)} {i:Nat} {r:List AV} {vss:List (List Value)},rows[i]?=some r→(∀vs,AV.isL M r vs→AV.isL M r' vs)→AV.isLL M n rows vss→AV.isLL M n (rows.set i r') vss
 | [],_,_,_,h,_,_=>by simp at h
 | x::l,0,r,vss,h,k,⟨v,q,h0,h1,h2,h3⟩=>by simp at h;subst h;exact ⟨v,q,h0,h1,k v h2,h3⟩
 | x::l,i+1,r,vss,h,k,⟨v,q,h0,h1,h2,h3⟩=>⟨v,q,h0,h1,h2,fU (by simpa using h) k h3⟩
section
variable {c:Ctx} {M:Mem} {S S':St} {a:Act} {w:World} {fn:Func} {K:AV→List (Option Blk)→List (Option Sl)→Prop} {k:List It}
theorem uC {bs:List (Option Blk)} {ss:List (Option Sl)} (J:RelS c M bs ss w) {j T n:Nat} {rows E:List (List AV)} (hj:Ab ss j=some ⟨T,n,rows⟩) (hl:E.length=rows.length) (h:∀vss,AV.isLL M.sl n rows vss→AV.isLL M.sl n E vss):
  RelS c M bs (Av ss j (some ⟨T,n,E⟩)) w:=by
 have live:∀i N,Ab (Av ss j (some ⟨T,n,E⟩)) i=some N→(i=j∧N=⟨T,n,E⟩)∨Ab ss i=some N:=by
  intro i N hi;rw [Dz] at hi;split at hi
  ·rename_i e;simp only [Option.some.injEq] at hi;exact .inl ⟨e.1,hi.symm⟩
  ·exact .inr hi
 have old:∀i N,Ab (Av ss j (some ⟨T,n,E⟩)) i=some N→∃N',Ab ss i=some N':=by
  intro i N hi;rcases live i N hi with ⟨rfl,_⟩ | h
  ·exact ⟨_,hj⟩
  ·exact ⟨_,h⟩
 refine ⟨J.nb,by rw [Dg];exact J.ns,J.so,J.os,J.tape,J.output,J.size,J.block,J.hle,J.hold,J.blk,?_,J.d1,?_,?_,J.pin⟩
 ·intro i N hi;rcases live i N hi with ⟨rfl,rfl⟩ | h'
  ·obtain ⟨q0,us,q1,q2,q3,q4⟩:=J.slc i _ hj;exact ⟨q0,us,h _ q1,q2,by dsimp only at q3 ⊢;rw [hl];exact q3,q4⟩
  ·exact J.slc i N h'
 ·intro i t B N hi ht;obtain ⟨N',h'⟩:=old t N ht;exact J.d2 i t B N' hi h'
 ·intro i t N O g hi ht e1 e2;obtain ⟨N',h1⟩:=old i N hi;obtain ⟨O',h2⟩:=old t O ht;exact J.d3 i t N' O' g h1 h2 e1 e2
theorem dx (j k':Nat) {α:Type} {l:List α} {f:α→List AV} {z:Int} {y:α} (y':α) {T n off J E:Nat} {rows:List (List AV)} {q:List AV} (hv:Ac l z=some y) (hj:Ab S.ss j=some ⟨T,n,Es (l.map f) z.toNat off k'⟩) (hk:Ab S.ss k'=some ⟨J,E,rows⟩) (hne:(k'==j)=false)
  (hq:BS (f y) off [.osl k']=some q) (hl:BS (f y) off [.sl E rows]=some (f y'))
  (h:V c fn K k ⟨(S.sealS k' ⟨J,E,rows⟩).tm,(S.sealS k' ⟨J,E,rows⟩).bs,Av (Av S.ss k' none) j (some ⟨T,n,(l.set z.toNat y').map f⟩)⟩) (h8:BU rows=true:=by first | rfl | simp [go_sem]):V c fn K k S:=by
 intro rk M a w hc hT;obtain ⟨M',hle,h1,h2⟩:=TR k' hk h8 hT;refine h rk M' a w hc ⟨h1.len,h1.tm,h1.df,?_⟩;have hne':k'≠j:=by simpa using hne
 have h9:Ab (Av S.ss k' none) j=some ⟨T,n,Es (l.map f) z.toNat off k'⟩:=by rw [Dz,if_neg (fun e=>hne' e.1.symm)];exact hj
 refine uC h1.st h9 (by rw [UB hv hq];simp) fun vss h6=>?_;rw [UB hv hq] at h6;have hlt:z.toNat<(l.map f).length:=by have:=(List.getElem?_eq_some_iff.1 (DD hv).2).1;simpa using this
 have:=fU (i:=z.toNat) (r:=q) (r':=f y') (by rw [List.getElem?_set_self hlt]) (gB (a:=.osl k') (b:=.sl E rows) (fun v hv=>?_) hq hl) h6
 ·rw [List.set_set,←List.map_set] at this;exact this
 ·simp only [AV.is] at hv;obtain ⟨_,rfl⟩:=hv;have e:M'.sl.σ k'=M.σ k':=by show M'.σ k'=M.σ k';exact hle.σ k' (by rw [hT.st.ns];exact CD hk)
  rw [e];exact h2
theorem ll {α:Type} {l':List α} {z:Int} {y:α} {j k' T n off:Nat} {x v:X} {q:List AV} (f:α→List AV) (hv:Ac l' z=some y) (hx:S.x x = .oel j (z.toNat*n) off) (hj:Ab S.ss j=some ⟨T,n,l'.map f⟩) (h6:S.x v = .osl k') (hq:BS (f y) off [.osl k']=some q):
  B3 c S (.store 1 x v) .un ⟨S.tm,S.bs,Av S.ss j (some ⟨T,n,Es (l'.map f) z.toNat off k'⟩)⟩:=by
 rw [UB hv hq];exact cB hx hj rfl (FJ (DD hv).2) (cs0:=[.osl k']) (by rw [h6];rfl) (AA _) rfl rfl rfl hq
theorem lh {α:Type} {l':List α} {z:Int} {y:α} {j k' T n off:Nat} {x:X} {q:List AV} (f:α→List AV) (hv:Ac l' z=some y) (hx:S.x x = .oel j (z.toNat*n) off) (hj:Ab S.ss j=some ⟨T,n,Es (l'.map f) z.toNat off k'⟩) (hq:BS (f y) off [.osl k']=some q):
  B3 c S (.load x) (.osl k') S:=by
 rw [UB hv hq] at hj;have hlt:z.toNat<(l'.map f).length:=by have:=(List.getElem?_eq_some_iff.1 (DD hv).2).1;simpa using this
 exact Yw hx hj rfl (by rw [List.getElem?_set_self hlt]) (gD hq)
theorem nF {α:Type} {l':List α} {z:Int} {y:α} {d:Option Nat} {g:Option (Nat×Bool)} {l:List EOp} {j k' T n off:Nat} {x v:X} {q:List AV} (f:α→List AV) (hv:Ac l' z=some y) (hg:gm S g) (hx:S.x x = .oel j (z.toNat*n) off) (hj:Ab S.ss j=some ⟨T,n,l'.map f⟩) (h6:S.x v = .osl k') (hq:BS (f y) off [.osl k']=some q)
  (h:V c fn K (.ops l::k) ((⟨S.tm,S.bs,Av S.ss j (some ⟨T,n,Es (l'.map f) z.toNat off k'⟩)⟩:St).put d .un)):V c fn K (.ops (⟨d,g,.store 1 x v⟩::l)::k) S:=
 Ba hg (ll f hv hx hj h6 hq) rfl h
theorem dv {α:Type} {l':List α} {z:Int} {y:α} {d:Option Nat} {g:Option (Nat×Bool)} {l:List EOp} {j k' T n off:Nat} {x:X} {q:List AV} (f:α→List AV) (hv:Ac l' z=some y) (hg:gm S g) (hx:S.x x = .oel j (z.toNat*n) off) (hj:Ab S.ss j=some ⟨T,n,Es (l'.map f) z.toNat off k'⟩) (hq:BS (f y) off [.osl k']=some q)
  (h:V c fn K (.ops l::k) (S.put d (.osl k'))):V c fn K (.ops (⟨d,g,.load x⟩::l)::k) S:=
 Ba hg (lh f hv hx hj hq) rfl h
section
variable {all:Array Oper} {ops:List EOp} {af:List (List Nat)} {Φ:St→Prop} {m:Nat} {ld:List Bool}
theorem YL (h6:all.toList.mapM (AO c.P all)=some ops) {i:Nat} {α:Type} {l':List α} {z:Int} {y:α} {j k' T n off:Nat} {x v:X} {q:List AV} (f:α→List AV) (hv:Ac l' z=some y) (ho:(Af ops i).o = .store 1 x v) (hg:gm S (Af ops i).g) (hx:S.x x = .oel j (z.toNat*n) off) (hj:Ab S.ss j=some ⟨T,n,l'.map f⟩) (h8:S.x v = .osl k') (hq:BS (f y) off [.osl k']=some q)
  (h:G c all ops af Φ m (Ay ld i) ((⟨S.tm,S.bs,Av S.ss j (some ⟨T,n,Es (l'.map f) z.toNat off k'⟩)⟩:St).put (Af ops i).d .un)):GO c all ops af Φ m ld S i:=
 Bz (S1:=⟨S.tm,S.bs,Av S.ss j (some ⟨T,n,Es (l'.map f) z.toNat off k'⟩)⟩) h6 hg (by rw [ho];exact ll f hv hx hj h8 hq) rfl (by rw [ho];exact fun _ _ _ _ h _ _=>h) h
theorem EZ (h6:all.toList.mapM (AO c.P all)=some ops) {i:Nat} {α:Type} {l':List α} {z:Int} {y:α} {j k' T n off:Nat} {x:X} {q:List AV} (f:α→List AV) (hv:Ac l' z=some y) (ho:(Af ops i).o = .load x) (hg:gm S (Af ops i).g) (hx:S.x x = .oel j (z.toNat*n) off) (hj:Ab S.ss j=some ⟨T,n,Es (l'.map f) z.toNat off k'⟩) (hq:BS (f y) off [.osl k']=some q)
  (h:G c all ops af Φ m (Ay ld i) (S.put (Af ops i).d (.osl k'))):GO c all ops af Φ m ld S i:=
 Bz h6 hg (by rw [ho];exact lh f hv hx hj hq) rfl (CB _ _) h
end
end
end NX
end Go.Proofs.YtgnjledocpbchaaGreat
/-
  The symbolic machine: calls in drawn regions that are lent own blocks. No statement of the seat is proved here.
-/
namespace Go.Proofs.YtgnjledocpbchaaGreat
namespace NX
open Go Go.RowKit
mutual
theorem uD (p q:Nat):∀(x:AV),x.pu=true→AV.ren p q x=x:=by
 intro x h;cases x<;>simp_all [AV.pu,AV.ren]
 all_goals exact bT p q _ h
theorem bT (p q:Nat):∀(l:List AV),AB l=true→Fq p q l=l
 | [],_=>rfl
 | x::l,h=>by simp only [AB] at h;cases hx:x.pu<;>simp [hx,BY] at h;simp [Fq,uD p q x hx,bT p q l h]
end
def Hh (af:List (List Nat)) (i:Nat):List EOp→Nat→Bool
 | [],_=>true
 | o::l,k=>BY (match Fa o.o with | true=>ON (EN k (Cv af i)) (EN i (Cv af k)) | false=>true) (Hh af i l (k+1))
theorem fj {af:List (List Nat)} {i:Nat}:∀ {l:List EOp} {k:Nat},Hh af i l k=true→∀j,Fa (Af l j).o=true→k+j∈Cv af i∨i∈Cv af (k+j)
 | [],_,_,j,h=>by simp [Af,Fa] at h
 | o::l,k,h,0,hl=>by simp only [Hh,AS] at h;simp only [Af] at hl;rw [hl] at h;have:=h.1;simp only [Y9,Lm] at this;simpa using this
 | o::l,k,h,j+1,hl=>by simp only [Hh,AS] at h;have:=fj h.2 j (by simpa [Af] using hl);rw [show k+(j+1)=k+1+j by omega];exact this
theorem fk {ops:List EOp} {af:List (List Nat)} {i:Nat} (h:Hh af i ops 0=true):UA ops af i:=fun k hk=>by have:=fj h k hk;rwa [Nat.zero_add] at this
section
variable {c:Ctx} {S:St} {all:Array Oper} {ops:List EOp} {af:List (List Nat)} {Φ:St→Prop} {m':Nat} {ld:List Bool}
theorem dc (h6:all.toList.mapM (AO c.P all)=some ops) {i f:Nat} {xs:List X} {args:List AV} {v:AV} {bs bs':List (Option Blk)} {ss ss':List (Option Sl)} (h8:Hh af i ops 0=true) (E J:List Bool) (ho:(Af ops i).o = .call f xs) (hg:gm S (Af ops i).g) (hf:CL c.P f args bs ss v bs' ss')
  (h9:Ax E S.bs=bs:=by rfl) (hw:Ax J S.ss=ss:=by rfl) (ha:AV.le.leL (B6 S xs) args:=by first | exact AA _ | simp [go_sem])
  (h:G c all ops af Φ m' (Ay ld i) ((⟨S.tm,BA E S.bs bs',BA J S.ss ss'⟩:St).put (Af ops i).d v)):GO c all ops af Φ m' ld S i:=
 de (S1:=⟨S.tm,BA E S.bs bs',BA J S.ss ss'⟩) h6 hg (by rw [ho];exact Yt (c:=c) E J hf h9 hw ha) rfl (fk h8) h
end
end NX
end Go.Proofs.YtgnjledocpbchaaGreat
/-
  The symbolic machine: a value is laid into an own slice (slices.Insert). No statement of the seat is proved here.
-/
namespace Go.Proofs.YtgnjledocpbchaaGreat
namespace NX
open Go Go.RowKit
@[go_sem] def bM {α:Type} (f:α→List AV) (x:α):List AV:=[.elt (f x) 0]
def Ei:Value→Nat
 | .slice _ _ c=>c
 | _=>0
theorem oG {P:Program} {op:Op} {f:Nat} {xs:List X} (ho:cO P op = .xcall f xs):
  ∃cargs argTypes,op = .call ⟨.value (.func f),cargs,argTypes⟩∧cargs.toList.map cX=xs:=by
 cases op
 case call ci=>
  obtain ⟨callee,cargs,argTypes⟩:=ci;cases callee with
  | value o=>
    cases o with
    | func f'=>
      simp only [cO] at ho;split at ho
      ·simp at ho
      ·simp only [EO.xcall.injEq] at ho;obtain ⟨rfl,rfl⟩:=ho;exact ⟨cargs,argTypes,rfl,rfl⟩
    | _=>simp [cO] at ho
  | invoke _ _=>simp [cO] at ho
  | builtin b=>cases b<;>simp only [cO] at ho<;>(repeat' (split at ho))<;>simp at ho
 all_goals (simp only [cO] at ho;(repeat' (split at ho))<;>simp at ho)
theorem ka {P:Program} (w:World) (dT sT ty U:TypeId) (g o J Z:Nat) (a:Addr) (Y sCap n:Nat) (E:Array Value) (t:TypeId) (cs:List Value)
  (hu:P.underlying dT=some (.slice U)) (hs:(P.info? U).map (·.size)=some n)
  (hg:w.heap[g]?=some (.cells E t (0,0))) (hn:cs.length=Nat.min Y J*n)
  (h8:∀j v,cs[j]?=some v→w.cell? (a.add j)=some v) (h9:o+cs.length≤E.size) (h1:∀v∈cs,v.oneCell'=true):
  (Builtin.copy_ #[dT,sT] ty #[.slice (some ⟨g,o,none⟩) J Z,.slice (some a) Y sCap]).run P w =
    .ok (goInt (Nat.min Y J)) (w.setRow g (E.toList.take o++cs++E.toList.drop (o+cs.length)).toArray):=by
 have hl:=run_loadCells_list (P:=P) w a cs h8;have h6:=run_storeCells_at P g o t cs 0 E w hg (by simpa using h9) h1;cases hq:P.info? U with
 | none=>simp [hq] at hs
 | some i=>
   have hi:i.size=n:=by simpa [hq] using hs
   simp only [Nat.add_zero] at h6;simp [Builtin.copy_,run_underlying hu,Builtin.lenOf,Builtin.firstCells,sizeOf,typeInfo,hq,hi,←hn,hl,h6]
section
variable {c:Ctx} {M:Mem} {S S':St} {a:Act} {w:World} {fn:Func} {K:AV→List (Option Blk)→List (Option Sl)→Prop} {k:List It}
theorem wP {f:Nat} {xs:List X} {v:AV} (h:∀M a w,RelT c M S a w→∀vs,AV.isL M (B6 S xs) vs→∃u,(callFunc f vs.toArray).run c.P w = .ok (.value u) w∧v.is M u):B3 c S (.xcall f xs) v S:=by
 intro ro ho M a w hT next Q hn
 obtain ⟨dst,op,ty,pos,af,gd⟩:=ro;dsimp only at ho;obtain ⟨cargs,argTypes,rfl,rfl⟩:=oG ho;obtain ⟨u,hr,hu⟩:=h M a w hT _ (Ge hT cargs.toList);have e1:(cargs.toList.map a.eval).toArray=cargs.map a.eval:=by apply Array.ext';simp
 rw [e1] at hr;have h6:(execOp a.eval ⟨dst,.call ⟨.value (.func f),cargs,argTypes⟩,ty,pos,af,gd⟩).run c.P w = .ok (.value u) w:=by have he:a.eval (.func f) = .func (.func f) #[] #[]:=rfl;generalize a.eval=ρ at *;simp [execOp,resolve,Deferred.ofValue,invoke,he,hr]
 unfold Oper.wp;rw [h6];exact hn M w u (.refl M) hT.st hu
theorem Yu {j:Nat} {x:X} {L:Sl} (hx:S.x x = .osl j) (hj:Ab S.ss j=some L) (hn:j<c.nq):B3 c S (.cap x) (.iv (Ei (c.ps j))) S:=by
 intro ro h8 M a w h6 next Q hw
 obtain ⟨dst,op,ty,pos,af,gd⟩:=ro;dsimp only at h8;obtain ⟨q,ats,t0,e,rfl,h0,hu,rfl⟩:=en h8;have k1:=Au h6 q;rw [hx] at k1;have hc:∃d l,M.σ j = .slice d l (Ei (M.σ j)):=by
  obtain ⟨g0,vss,h1,h2,h3,h4⟩:=h6.st.slc j _ hj;rcases h3.2 with ⟨e2,e3⟩ | ⟨g,cap,cur,e2,_⟩
  ·exact ⟨none,0,by rw [e2];rfl⟩
  ·exact ⟨some ⟨g,0,none⟩,L.rows.length,by rw [e2];rfl⟩
 obtain ⟨d,l,hc⟩:=hc;have k2:=k1.2.trans hc;rw [h6.st.pin.σ j hn] at k2;generalize Ei (c.ps j)=cp at *;have h9:(execOp a.eval ⟨dst,.call ⟨.builtin .cap, #[q],ats⟩,ty,pos,af,gd⟩).run c.P w = .ok (.value (.int .i64 cp)) w:=by generalize a.eval=ρ at *;simp [execOp,resolve,invoke,builtin,Builtin.cap_,h0,run_underlying hu,k2];rfl
 unfold Oper.wp;rw [h9];exact hw M w _ (.refl M) h6.st rfl
theorem lk {j q g L cap n:Nat} {x:X} {lo hi:Option X} {h:Int} (hx:S.x x = .osl j) (hw:j<c.nq) (hqn:q<c.nq) (hA:c.ps j = .slice (some ⟨g,0,none⟩) L cap) (hB:c.ps q = .slice (some ⟨g,0,none⟩) (L+1) cap) (hc:L+1≤cap)
  (hC:Bb S lo 0=some 0) (hD:Bb S hi L=some h) (hh:h=(L:Int)+1):B3 c S (.slice n x lo hi) (.osl q) S:=by
 subst hh;intro ro h8 M a w h6 next Q hE
 obtain ⟨dst,op,ty,pos,af,gd⟩:=ro;dsimp only at h8;obtain ⟨T',y,lo',hi',e,rfl,hu,hs,rfl,rfl,rfl⟩:=Hd h8;have hS:=h6.st;have k1:=Au h6 y;rw [hx] at k1;have b1:=I0 (Au h6) lo' 0 0 hC;have b2:=I0 (Au h6) hi' L ((L:Int)+1) hD;have h9:=cI (P:=c.P) (w:=w) hu hs (ρ:=a.eval) (ad:=some ⟨g,0,none⟩) (len:=L) (cp:=cap) (lo:=0) (hi:=(L:Int)+1) (k1.2.trans ((hS.pin.σ j hw).trans hA)) b1 b2 Om Om Om dst ty pos af gd;unfold Oper.wp;rw [h9];refine hE M w _ (.refl M) hS ⟨Nat.lt_of_lt_of_le hqn hS.pin.ns,?_⟩;rw [hS.pin.σ q hqn,hB];have:((L:Int)+1).toNat=L+1:=by omega
 rw [this];simp only [Option.map,Int.toNat_zero,Nat.zero_mul,Nat.sub_zero,Addr.add_lit,Nat.add_zero,ite_self]
theorem Fu {q g m cap n:Nat} {x:X} {lo hi:Option X} {l h:Int} (hx:S.x x = .osl q) (hqn:q<c.nq) (hA:c.ps q = .slice (some ⟨g,0,none⟩) m cap) (hc:m≤cap)
  (hB:Bb S lo 0=some l) (hC:Bb S hi m=some h) (h0:0≤l) (h1:l≤h) (h2:h≤m):B3 c S (.slice n x lo hi) (.ocs q l.toNat n (h.toNat-l.toNat)) S:=by
 intro ro h9 M a w h6 next Q hD
 obtain ⟨dst,op,ty,pos,af,gd⟩:=ro;dsimp only at h9;obtain ⟨T',y,lo',hi',e,rfl,hu,hs,rfl,rfl,rfl⟩:=Hd h9;have hS:=h6.st;have k1:=Au h6 y;rw [hx] at k1;have b1:=I0 (Au h6) lo' 0 l hB;have b2:=I0 (Au h6) hi' m h hC;have e2:=(hS.pin.σ q hqn).trans hA;have hw:=cI (P:=c.P) (w:=w) hu hs (ρ:=a.eval) (ad:=some ⟨g,0,none⟩) (len:=m) (cp:=cap) (lo:=l) (hi:=h) (k1.2.trans e2) b1 b2 h0 h1 Om dst ty pos af gd;unfold Oper.wp;rw [hw];refine hD M w _ (.refl M) hS ⟨k1.1,g,m,cap,e2,?_⟩;by_cases h8:cap=l.toNat
 ·rw [if_pos h8,if_pos h8]
 ·rw [if_neg h8,if_neg h8];simp only [Option.map,Addr.add_lit,Nat.zero_add]
theorem uc {P:Program} {w:World} {f:Nat} {fn:Func} {tS tR e n:Nat} (hf:P.funcs[f]?=some fn) (h1:(fn.name == "runtime.NumGoroutine")=false) (h2:fn.body.isNone=true) (h3:Extern.findNext fn=none)
  (h4:Extern.find fn=some (Extern.SlicesOverlaps.overlaps #[tS,tS] #[tR])) (hu:P.underlying tS=some (.slice e)) (hs:Cj P e=some n) {a b:Addr} {Z J lb U:Nat} {Y E:Array Value} {tA tB:TypeId}
  (ha:w.heap[a.block]?=some (.cells Y tA (0,0))) (hb:w.heap[b.block]?=some (.cells E tB (0,0))) (hne:a.block≠b.block) (hk:E.size≠0):
  (callFunc f #[.slice (some a) Z J,.slice (some b) lb U]).run P w = .ok (.value (.bool false)) w:=by
 rw [run_callFunc_extern hf h1 h2 h3 h4];rw [Lib.run_overlaps_apart w tS tR e hu n (fun w=>FN hs) a b Z J lb U hne tA tB Y.size E.size (by simp [World.shape?,ha]) (by simp [World.shape?,hb]) hk (by simp [World.frozen?,ha]) (by simp [World.frozen?,ha])];rfl
theorem li {f:Nat} {ft:Func} {tS tR e n:Nat} (hf:c.P.funcs[f]?=some ft) (h1:(ft.name == "runtime.NumGoroutine")=false) (h2:ft.body.isNone=true) (h3:Extern.findNext ft=none)
  (h4:Extern.find ft=some (Extern.SlicesOverlaps.overlaps #[tS,tS] #[tR])) (hu:c.P.underlying tS=some (.slice e)) (hs:Cj c.P e=some n)
  {j U q g L cap lo m:Nat} {E J:Sl} {x y:X} (hx:S.x x = .osl U) (hy:S.x y = .ocs q lo n m) (hj:Ab S.ss j=some E) (hk:Ab S.ss U=some J) (hne:U≠j) (h6:0<J.rows.length) (h8:0<E.rows.length)
  (h9:j<c.nq) (hqn:q<c.nq) (hw:c.ps j = .slice (some ⟨g,0,none⟩) L cap) (hA:c.ps q = .slice (some ⟨g,0,none⟩) (L+1) cap):B3 c S (.xcall f [x,y]) .ff S:=by
 refine wP fun M a w hT vs hv=>?_;simp only [B6,hx,hy] at hv;obtain ⟨v1,r1,rfl,q1,v2,r2,rfl,q2,q3⟩:=hv;simp only [AV.isL] at q3;subst q3;obtain ⟨g1,cap1,cur1,vss1,e1,e3,e4,e5,e6,w1,w2,e7⟩:=Fo (T:=E.T) (n:=E.n) (rows:=E.rows) hT.st hj h8;obtain ⟨g2,cap2,cur2,vss2,f1,f3,f4,f5,f6,x1,x2,f7⟩:=Fo (T:=J.T) (n:=J.n) (rows:=J.rows) hT.st hk h6;have hg:g1=g:=by have:=e1.symm.trans ((hT.st.pin.σ j h9).trans hw);simp at this;exact this.1
 subst hg;obtain ⟨_,q1⟩:=q1;obtain ⟨_,g3,n3,c3,z1,z2⟩:=q2;have hB:g3=g1:=by have:=z1.symm.trans ((hT.st.pin.σ q hqn).trans hA);simp at this;exact this.1
 subst hB;have hC:g2≠g3:=fun e=>hne (hT.st.d3 U j J E g2 hk hj (by rw [f1];rfl) (by rw [e1,←e];rfl));obtain ⟨l0,_⟩:=hT.st.slc j _ hj;refine ⟨.bool false,?_,rfl⟩;rw [show [v1,v2].toArray = #[v1,v2] from rfl,q1,f1,z2];refine uc hf h1 h2 h3 h4 hu hs (a:=⟨g2,0,none⟩) (b:=⟨g3,_,none⟩) f3 e3 hC ?_;rw [e6];exact Nat.ne_of_gt (Nat.mul_pos Om l0)
theorem RelS.grownQ (h:RelS c M S.bs S.ss w) {w':World} {v:Value} {L:Sl} {vss:List (List Value)} {ss:List (Option Sl)} {q:Nat}
  (hA:ss.length=S.ss.length) (h6:∀j N,Ab ss j=some N→Ab S.ss j=some N∧∀g,v.ownBlock=some g→(M.σ j).ownBlock≠some g)
  (hv:∀i B,Ab S.bs i=some B→v.ownBlock≠some (M.ρ i)) (hw:∀g,v.ownBlock=some g→Fy c g∧M.H g=none)
  (hg:w.grownBy w' v.ownBlock) (h8:(M.σ q).ownBlock=v.ownBlock) (hq:q<S.ss.length)
  (h0:0<L.n) (h1:AV.isLL M.sl L.n L.rows vss) (h2:∀x∈vss.flatten,x.oneCell'=true) (h3:w'.ownsRow 0 L.T L.n (M.σ q) L.rows.length vss.flatten):
  RelS c M S.bs (Av ss q (some L)) w':=by
 have h9:∀k,k<w.heap.size→v.ownBlock≠some k→w'.heap[k]?=w.heap[k]?:=fun k hk hne=>hg.block k hk (fun e=>hne e.symm);have live:∀i N,Ab (Av ss q (some L)) i=some N→(i=q∧N=L)∨Ab ss i=some N:=by
  intro i N hi;rw [Dz] at hi;split at hi
  ·rename_i e;simp only [Option.some.injEq] at hi;exact .inl ⟨e.1,hi.symm⟩
  ·exact .inr hi
 refine ⟨h.nb,by rw [h.ns,Dg,hA],h.so,hg.os.trans h.os,hg.tape.trans h.tape,hg.output.trans h.output,Nat.le_trans h.size hg.size,?_,?_,h.hold,?_,?_,h.d1,?_,?_,h.pin⟩
 ·intro k hk hb;rw [h9 k (Nat.lt_of_lt_of_le hk h.size)]
  ·exact h.block k hk hb
  ·intro e;rcases (hw k e).1 with h | h
   ·omega
   ·exact hb h
 ·intro k o hk;rw [h9 k (Array.getElem?_eq_some_iff.1 (h.hle k o hk)).1]
  ·exact h.hle k o hk
  ·intro e;rw [(hw k e).2] at hk;simp at hk
 ·intro j B hj;obtain ⟨g1,g2,vs,g3,g4,g5⟩:=h.blk j B hj;refine ⟨g1,g2,vs,g3,?_,g5⟩;rw [h9 _ (h.blk_lt hj)]
  ·exact g4
  ·exact hv j B hj
 ·intro j N hj;rcases live j N hj with ⟨rfl,rfl⟩ | hj
  ·exact ⟨h0,vss,h1,h2,h3,fun g hB=>hw g (by rw [←h8];exact hB)⟩
  ·obtain ⟨hj,hne⟩:=h6 j N hj;obtain ⟨q0,us,q1,q2,q3,q4⟩:=h.slc j N hj;refine ⟨q0,us,q1,q2,World.ownsRow.kept q3 hg ?_,q4⟩;cases hC:v.ownBlock with
   | none=>
     cases ho:(M.σ j).ownBlock with
     | none=>exact .inl rfl
     | some g=>right;simp
   | some g=>right;exact hne g hC
 ·intro i j B N hi hj;rcases live j N hj with ⟨rfl,rfl⟩ | hj
  ·rw [h8];exact hv i B hi
  ·exact h.d2 i j B N hi (h6 j N hj).1
 ·intro i j N O g hi hj e1 e2;rcases live i N hi with ⟨ei,_⟩ | hi<;>rcases live j O hj with ⟨ej,_⟩ | hj
  ·rw [ei,ej]
  ·rw [ei] at e1;exact absurd e2 ((h6 j O hj).2 g (by rw [←h8];exact e1))
  ·rw [ej] at e2;exact absurd e1 ((h6 i N hi).2 g (by rw [←h8];exact e2))
  ·exact h.d3 i j N O g (h6 i N hi).1 (h6 j O hj).1 e1 e2
theorem Yx {j q g L cap n T i:Nat} {x y:X} {rows:List (List AV)} (hx:S.x x = .ocs q (i+1) n (L-i)) (hy:S.x y = .ocs q i n (L+1-i)) (hj:Ab S.ss j=some ⟨T,n,rows⟩) (E:rows.length=L) (hi:i<L) (hP:q<S.ss.length)
  (hQ:j<c.nq) (hqn:q<c.nq) (hR:c.ps j = .slice (some ⟨g,0,none⟩) L cap) (hU:c.ps q = .slice (some ⟨g,0,none⟩) (L+1) cap) (hc:L+1≤cap):
  B3 c S (.copy n x y) (.iv ((L-i:Nat):Int)) ⟨S.tm,S.bs,Av (Av S.ss j none) q (some ⟨T,n,rows.take (i+1)++rows.drop i⟩)⟩:=by
 intro ro hI M a w hT next Q hV
 obtain ⟨dst,op,ty,pos,af,gd⟩:=ro;dsimp only at hI;obtain ⟨p,r,t,u,e,rfl,hu,hs,rfl,rfl⟩:=eo hI;have k1:=Au hT p;have k2:=Au hT r;rw [hx] at k1;rw [hy] at k2;have hS:=hT.st;have sj:=(hS.pin.σ j hQ).trans hR;have sq:=(hS.pin.σ q hqn).trans hU;obtain ⟨_,g1,n1,c1,k1,k1'⟩:=k1;obtain ⟨_,g2,n2,c2,k2,k2'⟩:=k2;rw [sq] at k1 k2;simp only [Value.slice.injEq,Option.some.injEq,Addr.mk.injEq] at k1 k2;obtain ⟨⟨rfl,_⟩,rfl,rfl⟩:=k1;obtain ⟨⟨rfl,_⟩,_,rfl⟩:=k2;obtain ⟨gg,cc,cur,vss,e2,e3,e4,e5,e6,v1,v2,e7⟩:=Fo hS hj Om;rw [sj] at e2;simp only [Value.slice.injEq,Option.some.injEq,Addr.mk.injEq] at e2;obtain ⟨⟨rfl,_⟩,_,rfl⟩:=e2;rw [if_neg Om] at k1' k2';obtain ⟨g0,_,_,_,_,q4⟩:=hS.slc j _ hj;dsimp only at g0;have h8:=(Gy v1).1;have hX:=E1 v1;have hw:AV.isLL M.sl n (rows.drop i) (vss.drop i):=by have:=G1 v1 i rows.length;rw [List.take_length] at this;have e:vss.take rows.length=vss:=List.take_of_length_le (by rw [(Gy v1).2];exact Nat.le_refl _);rwa [e] at this
 have hJ:AV.isLL M.sl n (rows.take (i+1)) (vss.take (i+1)):=by have:=G1 v1 0 (i+1);simpa using this
 have h6:=E1 hw;rw [List.length_drop,E] at h6;have hK:(vss.drop i).flatten=vss.flatten.drop (i*n):=(Hi h8 i).2;have hA:(vss.take (i+1)).flatten=vss.flatten.take ((i+1)*n):=(Hi h8 (i+1)).1;have hB:∀v∈(vss.drop i).flatten,v.oneCell'=true:=fun v hv=>by rw [hK] at hv;exact v2 v (List.mem_of_mem_drop hv)
 have hC:∀(z:Nat) v,(vss.drop i).flatten[z]?=some v→w.cell? ((⟨g,i*n,none⟩:Addr).add z)=some v:=fun z v hv=>by
  rw [hK,List.getElem?_drop,←e7,List.getElem?_take] at hv;split at hv
  ·rw [Addr.add_lit];simp only [World.cell?,e3];simpa using hv
  ·simp at hv
 have m1:(i+1)*n+(L-i)*n=(L+1)*n:=by rw [←Nat.add_mul];congr 1;omega
 have m2:(L+1)*n≤cap*n:=Nat.mul_le_mul_right _ hc;have m3:(i+1)*n≤L*n:=Nat.mul_le_mul_right _ Om;have hD:Nat.min (L+1-i) (L-i)=L-i:=by simp only [Nat.min_def];split<;>omega
 have hE:=eE (P:=c.P) (w:=w) (p:=p) (q:=r) (t:=t) (u:=u) (ρ:=a.eval) (d:=dst) (ty:=ty) (pos:=pos) (af:=af) (gd:=gd) (by rw [k1',k2'];exact ka (P:=c.P) w t u ty e g ((i+1)*n) (L-i) _ ⟨g,i*n,none⟩ (L+1-i) _ n cur T (vss.drop i).flatten hu (lS hs) e3 (by rw [h6,hD]) hC (by rw [h6,e6];omega) hB);rw [hD,h6] at hE;unfold Oper.wp;rw [hE];have hW:cur.toList.length=cap*n:=by simpa using e6
 refine hV M _ _ (.refl M) ?_ rfl;have hN:(vss.take (i+1)++vss.drop i).flatten=cur.toList.take ((i+1)*n)++(vss.drop i).flatten:=by rw [List.flatten_append,hA,←e7,List.take_take,Nat.min_eq_left (by rw [E];exact m3)]
 refine RelS.grownQ (v:=M.σ j) (vss:=vss.take (i+1)++vss.drop i) hS (Dg _ _ _) ?_ (fun z B hz=>hS.d2 z j B _ hz hj) q4 ?_ ?_ hP g0 (Jg hJ hw) ?_ ?_
 ·intro z N hz;rw [Dz] at hz;split at hz
  ·simp at hz
  ·rename_i e;refine ⟨hz,fun g hg e2=>e ⟨?_,CD hj⟩⟩;exact hS.d3 z j N _ g hz hj e2 hg
 ·rw [sj];refine ⟨rfl,rfl,rfl,by simp [World.setRow],fun z hz hne=>?_⟩;rw [Gv,if_neg];rintro rfl;exact hne rfl
 ·rw [sj,sq];rfl
 ·intro v hv;rw [List.flatten_append] at hv;rcases List.mem_append.1 hv with hv | hv
  ·rw [hA] at hv;exact v2 v (List.mem_of_mem_take hv)
  ·exact hB v hv
 ·have hO:(rows.take (i+1)++rows.drop i).length=L+1:=by rw [List.length_append,List.length_take,List.length_drop];omega
  have hG:(vss.take (i+1)++vss.drop i).flatten.length=(L+1)*n:=by have:=E1 (Jg hJ hw);rw [this,hO]
  dsimp only;rw [hO];refine ⟨hG,.inr ⟨g,cap,_,sq,Nat.zero_le _,by rw [Gv,if_pos rfl,e3];rfl,hc,e5,?_,?_⟩⟩
  ·have h9:(cur.toList.take ((i+1)*n)++(vss.drop i).flatten++cur.toList.drop ((i+1)*n+(L-i)*n)).length=cap*n:=by rw [List.length_append,List.length_append,List.length_take,List.length_drop,h6,hW];omega
   simpa using h9
  ·rw [hN];rw [List.take_left'];rw [←hN,hG]
theorem wI {q j T U n o1 m1 E J:Nat} {x y:X} {rows rs:List (List AV)} (hx:S.x x = .ocs q o1 n m1) (hy:S.x y = .ocs j E n J) (hq:Ab S.ss q=some ⟨T,n,rows⟩) (hj:Ab S.ss j=some ⟨U,n,rs⟩)
  (h1:o1+m1≤rows.length) (h2:E+J≤rs.length) (Y:o1<rows.length) (Z:E<rs.length):
  B3 c S (.copy n x y) (.iv (min J m1:Nat)) ⟨S.tm,S.bs,Av S.ss q (some ⟨T,n,rows.take o1++(rs.take (E+min J m1)).drop E++rows.drop (o1+min J m1)⟩)⟩:=by
 intro ro hB M a w hT next Q hE
 obtain ⟨dst,op,ty,pos,af,gd⟩:=ro;dsimp only at hB;obtain ⟨p,r,t,u,e,rfl,hu,hs,rfl,rfl⟩:=eo hB;have k1:=Au hT p;have k2:=Au hT r;rw [hx] at k1;rw [hy] at k2;obtain ⟨_,g1,n1,c1,k1,k1'⟩:=k1;obtain ⟨_,g2,n2,c2,k2,k2'⟩:=k2;obtain ⟨g,cap,cur,vss,e2,e3,e4,e5,e6,v1,v2,e7⟩:=Fo hT.st hq Om;obtain ⟨g',cap',cur',ws,f2,f3,f4,f5,f6,w1,w2,f7⟩:=Fo hT.st hj Om;rw [e2] at k1;rw [f2] at k2;simp only [Value.slice.injEq,Option.some.injEq,Addr.mk.injEq] at k1 k2;obtain ⟨⟨rfl,_⟩,rfl,rfl⟩:=k1;obtain ⟨⟨rfl,_⟩,_,rfl⟩:=k2;rw [if_neg Om] at k1' k2';have hw:=G1 w1 E (E+min J m1);have h8:=E1 hw;have hk:((rs.take (E+min J m1)).drop E).length=min J m1:=by rw [List.length_drop,List.length_take];omega
 rw [hk] at h8;have h6:=(Gy w1).1;have hC:((ws.take (E+min J m1)).drop E).flatten=(ws.flatten.take ((E+min J m1)*n)).drop (E*n):=by rw [(Hi (fun v hv=>h6 v (List.mem_of_mem_take hv)) E).2,(Hi h6 _).1]
 have h9:∀v∈((ws.take (E+min J m1)).drop E).flatten,v.oneCell'=true:=fun v hv=>by rw [hC] at hv;exact w2 v (List.mem_of_mem_take (List.mem_of_mem_drop hv))
 have hA:∀(i:Nat) v,((ws.take (E+min J m1)).drop E).flatten[i]?=some v→w.cell? ((⟨g',E*n,none⟩:Addr).add i)=some v:=fun i v hv=>by
  rw [hC,List.getElem?_drop,List.getElem?_take] at hv;split at hv
  ·rw [←f7,List.getElem?_take] at hv;split at hv
   ·rw [Addr.add_lit];simp only [World.cell?,f3];simpa using hv
   ·simp at hv
  ·simp at hv
 have m1':(o1+min J m1)*n≤cap*n:=Nat.mul_le_mul_right _ Om;rw [Nat.add_mul] at m1';have hD:=eE (P:=c.P) (w:=w) (p:=p) (q:=r) (t:=t) (u:=u) (ρ:=a.eval) (d:=dst) (ty:=ty) (pos:=pos) (af:=af) (gd:=gd) (by rw [k1',k2'];exact ka (P:=c.P) w t u ty e g (o1*n) m1 _ ⟨g',E*n,none⟩ J _ n cur T ((ws.take (E+min J m1)).drop E).flatten hu (lS hs) e3 (h8.trans rfl) hA (by rw [h8,e6];exact m1') h9);unfold Oper.wp;rw [hD];have hW:=bH hT.st hq e2 e3 e4 e5 e6 v1 v2 e7 (A:=o1) hw h9 (by rw [hk];omega);rw [hk] at hW;exact hE M _ _ (.refl M) hW rfl
theorem LN (t j:Nat) {T n:Nat} {rows:List (List AV)} (ht:AM S.tm t = .osl j) (hj:Ab S.ss j=some ⟨T,n,rows⟩) (hr:0<rows.length)
  (h:V c fn K k ⟨BC S.tm t (.ocs j 0 n rows.length),S.bs,S.ss⟩):V c fn K k S:=by
 intro rk M a w hc hT;obtain ⟨g,cap,cur,vss,e2,e3,e4,e5,e6,v1,v2,e7⟩:=Fo hT.st hj hr;refine h rk _ a w hc ⟨by rw [Ig];exact hT.len,fun u=>?_,hT.df,hT.st⟩;rw [Fc];split
 ·rename_i e;have hu:=hT.tm u;rw [e.1,ht] at hu;rw [e.1];refine ⟨hu.1,g,rows.length,cap,e2,?_⟩;rw [hu.2,e2,Nat.zero_mul,ite_self,Nat.sub_zero]
 ·exact hT.tm u
theorem lc {j T e n b i:Nat} {z:List AV} {x y:X} {m:Int} {rows:List (List AV)} (hx:S.x x = .ocs j 0 n i) (hj:Ab S.ss j=some ⟨T,n,rows⟩) (hr:i<rows.length) (hP:j<c.nq) (hy:S.x y = .iv m) (h0:0<m) (h8:(Ei (c.ps j):Int)<i+m) (E:T=e)
  (hb:(i+m)*b≤140737488355328) (hX:i+m≤9223372036854775807) (hK:CA z=true):
  B3 c S (.apz e n b z x y) (.osl (Ah S.ss)) ⟨S.tm,S.bs,S.ss++[some ⟨e,n,rows.take i++List.replicate m.toNat z⟩]⟩:=by
 subst E;intro ro hG M a w h9 next Q hQ
 obtain ⟨dst,op,ty,pos,af,gd⟩:=ro;dsimp only at hG;obtain ⟨t,tn,kk,p,q,i',u,rfl,hu,hk,hi,hz,hn,hR,hU,rfl,rfl,rfl,rfl⟩:=ef hG;have k1:=Au h9 p;have k2:=Au h9 q;rw [hx] at k1;rw [hy] at k2;simp only [AV.is] at k2;obtain ⟨k,rfl⟩:∃k:Nat,m=k:=⟨m.toNat,Om⟩
 have hS:=h9.st;obtain ⟨g0,_⟩:=hS.slc j _ hj;obtain ⟨g,cap,cur,vss,e2,e3,e4,e5,e6,v1,v2,e7⟩:=Fo hS hj Om;obtain ⟨_,g1,n1,c1,k1,k1'⟩:=k1;rw [e2] at k1;simp only [Value.slice.injEq,Option.some.injEq,Addr.mk.injEq] at k1;obtain ⟨⟨rfl,_⟩,_,rfl⟩:=k1;rw [Nat.zero_mul,ite_self,Nat.sub_zero] at k1';rw [←hS.pin.σ j hP,e2] at h8;simp only [Ei] at h8;have hE:=(Gy v1).1;have hI:AV.isLL M.sl n (rows.take i) (vss.take i):=by have:=G1 v1 0 i;simpa using this
 have h6:=E1 hI;rw [List.length_take,Nat.min_eq_left Om] at h6;have hw:(vss.take i).flatten=vss.flatten.take (i*n):=(Hi hE i).1;have hb':(i+k)*i'.bytes≤140737488355328:=by
  have:(((i+k)*i'.bytes:Nat):Int)≤140737488355328:=by rw [Int.natCast_mul,Int.natCast_add];exact hb
  omega
 have hb'':k*i'.bytes≤(i+k)*i'.bytes:=Nat.mul_le_mul_right _ Om;have hold:(Builtin.firstCells i'.size i (.slice (some ⟨g,0,none⟩) i cap)).run c.P w.drew = .ok (vss.take i).flatten.toArray w.drew:=by
  refine run_firstCells_some w.drew i'.size i ⟨g,0,none⟩ i cap _ (by rw [h6,hR]) (fun z v hv=>?_);rw [hw,←e7,List.getElem?_take,List.getElem?_take] at hv;split at hv
  ·split at hv
   ·rw [Addr.add_lit];show w.cell? _=_;simp only [World.cell?,e3,Nat.zero_add];simpa using hv
   ·simp at hv
  ·simp at hv
 have r1:=Lib.run_append_grow_zeros (P:=c.P) w t tn ty T i' u .i64 kk hu hk hi hz (some ⟨g,0,none⟩) i cap _ hold k Om Om Om Om Om (growslice_fits Om hb');have hL:(execOp a.eval ⟨dst,.call ⟨.builtin .append, #[p,q], #[t,tn]⟩,ty,pos,af,gd⟩).run c.P w = .ok (.value (.slice (some ⟨w.heap.size,0,none⟩) (i+k) (grownCap w (i+k) cap T))) (w.drew.alloc (.cells ((vss.take i).flatten.toArray++Builtin.zeroCells u.cells k++Builtin.zeroCells u.cells (grownCap w (i+k) cap T-(i+k))) T)):=by generalize a.eval=ρ at *;simp [execOp,resolve,invoke,builtin,k1',k2,r1]
 unfold Oper.wp;rw [hL];have hV:∀k,(Builtin.zeroCells u.cells k).toList=(List.replicate k u.cells.toList).flatten:=fun k=>YI u.cells k;have hN:u.cells.toList.length=n:=by simpa using hn
 have hv:=Py (FU M.sl u.cells.toList) k;rw [hN] at hv;have hB:∀v∈u.cells.toList,v.oneCell'=true:=IT (FU M _) hK hS.so;have hW:=grownCap_ge w (i+k) cap T;have hO:=grownCap_le_maxLen w (i+k) cap T (by unfold maxLen;omega);have hC:∀q,(Builtin.zeroCells u.cells q).size=q*n:=by intro q;simp [Builtin.zeroCells,hn]
 have hg:w.grownBy (w.drew.alloc (.cells ((vss.take i).flatten.toArray++Builtin.zeroCells u.cells k++Builtin.zeroCells u.cells (grownCap w (i+k) cap T-(i+k))) T)) none:=by
  refine ⟨rfl,rfl,rfl,?_,fun j hj _=>?_⟩
  ·show w.heap.size≤(w.heap.push _).size;simp
  ·show (w.heap.push _)[j]?=_;rw [Array.getElem?_push,if_neg Om]
 have hJ:(rows.take i++List.replicate k (u.cells.toList.map DB)).length=i+k:=by rw [List.length_append,List.length_take,List.length_replicate];omega
 have hA:=Jg hI hv;have hD:=E1 hA;rw [hJ] at hD;have hr':RelS c (M.addS (.slice (some ⟨w.heap.size,0,none⟩) (i+k) (grownCap w (i+k) cap T))) S.bs (S.ss++[some (⟨T,n,rows.take i++List.replicate k (u.cells.toList.map DB)⟩:Sl)]) (w.drew.alloc (.cells ((vss.take i).flatten.toArray++Builtin.zeroCells u.cells k++Builtin.zeroCells u.cells (grownCap w (i+k) cap T-(i+k))) T)):=by
  refine RelS.grown (v:=.slice none 0 0) (vss:=vss.take i++List.replicate k u.cells.toList) hS rfl ?_ (.inl rfl) ?_ hg (.inr fun g hg=>?_) hU hA ?_ ?_
  ·intro i N hi;exact ⟨hi,fun g hg=>by simp [Value.ownBlock] at hg⟩
  ·intro g hg;simp [Value.ownBlock] at hg
  ·simp [Value.ownBlock] at hg;omega
  ·intro v hv;rw [List.flatten_append] at hv;rcases List.mem_append.1 hv with hv | hv
   ·rw [hw] at hv;exact v2 v (List.mem_of_mem_take hv)
   ·simp only [List.mem_flatten,List.mem_replicate] at hv;obtain ⟨l,⟨_,rfl⟩,hv⟩:=hv;exact hB v hv
  ·dsimp only;rw [hJ];refine ⟨hD,.inr ⟨w.heap.size,grownCap w (i+k) cap T,(vss.take i).flatten.toArray++Builtin.zeroCells u.cells k++Builtin.zeroCells u.cells (grownCap w (i+k) cap T-(i+k)),rfl,Nat.zero_le _,?_,hW,hO,?_,?_⟩⟩
   ·show (w.heap.push _)[w.heap.size]?=_;rw [Array.getElem?_push,if_pos rfl]
   ·rw [Array.size_append,Array.size_append,hC,hC,List.size_toArray,h6,←Nat.add_mul,←Nat.add_mul];congr 1;omega
   ·rw [Array.toList_append,Array.toList_append,hV];show List.take _ ((vss.take i).flatten++_++_)=_;rw [←List.flatten_append,List.take_left'];exact hD
 refine hQ _ _ _ (Mem.le_addS M _) (by simpa using hr') ?_;rw [Bl,←hS.ns];exact ⟨Nat.lt_succ_self _,by simp [Mem.addS]⟩
theorem RelS.ctx {J:Ctx} {bs:List (Option Blk)} {ss:List (Option Sl)} (h:RelS c M bs ss w) (E:J.w0=c.w0) (hH:J.H0=c.H0) (hb:∀k,J.bor k↔c.bor k) (hp:Pin J M):RelS J M bs ss w:=by
 have hm:∀g,Fy c g→Fy J g:=fun g hg=>hg.imp (by rw [E];exact id) (hb g).2;refine ⟨h.nb,h.ns,h.so,by rw [E];exact h.os,by rw [E];exact h.tape,by rw [E];exact h.output,by rw [E];exact h.size,fun k hk hn=>by rw [E] at hk ⊢;exact h.block k hk fun e=>hn ((hb k).2 e),h.hle,fun k hk hn=>by rw [E] at hk;rw [hH];exact h.hold k hk fun e=>hn ((hb k).2 e),?_,?_,h.d1,h.d2,h.d3,hp⟩
 ·intro j B hj;obtain ⟨g1,g2⟩:=h.blk j B hj;exact ⟨hm _ g1,g2⟩
 ·intro j L hj;obtain ⟨g0,vss,g1,g2,g3,g4⟩:=h.slc j L hj;exact ⟨g0,vss,g1,g2,g3,fun g hg=>⟨hm _ (g4 g hg).1,(g4 g hg).2⟩⟩
theorem gu {f:Nat} {body:EC} {rs:List ERes} {np nt:Nat} (hf:FnOK c.P f fn body rs np nt) {args:List AV} {bs bs':List (Option Blk)} {ss ss':List (Option Sl)} {v:AV} (hn:args.length=np)
  (h1:c.np≤bs'.length) (h2:c.nq≤ss'.length) (h3:St.ok ⟨[v],bs',ss'⟩=true)
  (h:V c fn (fun x b s=>St.le ⟨[x],b,s⟩ ⟨[v],bs',ss'⟩) [.code body] ⟨args++Dh nt,bs,ss⟩) {vs:List Value} (E:RelS c M bs ss w) (ha:AV.isL M args vs):
  Calls c.P f vs.toArray w fun e w'=>∃u M',e = .returned u∧RelS c M' bs' ss' w'∧v.is M' u:=by
 obtain ⟨x,hb,hx⟩:=hf.b;have hl:=Dl ha;refine calls_of_wp hf.h hb ?_;have e1:fn.ntmps-vs.toArray.size=nt:=by rw [hf.t];simp;omega
 rw [e1];have hT:RelT c M ⟨args++Dh nt,bs,ss⟩ {tmps:=vs.toArray++Array.replicate nt undef,defers:=[]} w:=by
  refine ⟨by simp [UU,hl],fun t=>?_,rfl,E⟩;simp only [UR,Array.getD_eq_getD_getElem?,Array.getElem?_append,List.size_toArray];by_cases h:t<args.length
  ·rw [if_pos h,if_pos Om];have:=Pz ha t h;simpa [List.getD_eq_getElem?_getD] using this
  ·rw [if_neg h,if_neg Om];rcases UT nt (t-args.length) with h1 | ⟨_,h1⟩
   ·rw [h1];simp only [AV.is,Array.getElem?_replicate];split<;>rfl
   ·rw [h1];trivial
 refine wp_mono (h [.code x] _ _ w ⟨_,_,rfl,hx,rfl⟩ hT) ?_;have mono:∀e w',RK c (fun x b s=>St.le ⟨[x],b,s⟩ ⟨[v],bs',ss'⟩) e w'→∃u M',e = .returned u∧RelS c M' bs' ss' w'∧v.is M' u:=by
  rintro e w' ⟨u,M1,b,s,y,rfl,h6,hv,hle⟩;have h8:RelT c M1 ⟨[y],b,s⟩ {tmps:= #[u],defers:=[]} w':=
   ⟨by simp,fun t=>by cases t with
     | zero=>exact hv
     | succ t=>cases t<;>trivial,rfl,h6⟩
  have hW:=h8.weak hle h3 (by rw [Da,Bl];exact h1) (by rw [Da,Bl];exact h2);exact ⟨u,_,rfl,hW.st,hW.tm 0⟩
 intro e a w' hq;cases e with
 | normal=>obtain ⟨h1,v,h2,h3⟩:=hq;exact ⟨h1,v,h2,mono _ _ h3⟩
 | ret=>obtain ⟨h1,v,h2,h3⟩:=hq;exact ⟨h1,v,h2,mono _ _ h3⟩
 | panic ch=>obtain ⟨h1,h2⟩:=hq;exact ⟨h1,mono _ _ h2⟩
 | outgrown=>exact mono _ _ hq
 | exit id=>exact hq
 | goto l=>exact hq
theorem da {P:Program} {f:Nat} {body:EC} {rs:List ERes} {np nt:Nat} (hf:FnOK P f fn body rs np nt) {args:List AV} {bs bs':List (Option Blk)} {ss ss':List (Option Sl)} {v:AV} (hn:args.length=np)
  (h1:AF (Ah bs) (Ah bs')=true) (h2:AF (Ah ss+1) (Ah ss')=true) (h3:St.ok ⟨[v],bs',ss'⟩=true) {j L:Nat} {E:Sl} (hj:Ab ss j=some E) (J:E.rows.length=L) (q:Prop) (h8:q→0<L)
  (U:∀w M,(q→Ei (M.σ j)<L+1)→V (Ctx.lent P w M bs ss (Ah bs) (Ah ss)) fn (fun x b s=>St.le ⟨[x],b,s⟩ ⟨[v],bs',ss'⟩) [.code body] ⟨args++Dh nt,bs,ss⟩)
  (Y:∀w M g cap,q→M.σ j = .slice (some ⟨g,0,none⟩) L cap→L+1≤cap→M.σ (Ah ss) = .slice (some ⟨g,0,none⟩) (L+1) cap→V (Ctx.lent P w M bs (ss++[none]) (Ah bs) (Ah ss+1)) fn (fun x b s=>St.le ⟨[x],b,s⟩ ⟨[v],bs',ss'⟩) [.code body] ⟨args++Dh nt,bs,ss++[none]⟩):CL P f args bs ss v bs' ss':=by
 rw [Da,Bl,Bl] at h1 h2;refine ⟨h1,Om,fun M w vs hS ha=>?_⟩;by_cases hc:q∧L+1≤Ei (M.σ j)
 ·obtain ⟨hq,hc⟩:=hc;obtain ⟨g,cap,cur,vss,e2,e3,e4,e5,e6,v1,v2,e7⟩:=Fo (S:=⟨[],bs,ss⟩) (T:=E.T) (n:=E.n) (rows:=E.rows) hS hj (by rw [J];exact h8 hq);rw [J] at e2;rw [e2] at hc;simp only [Ei] at hc;have hns:M.ns=Ah ss:=by rw [hS.ns,Bl]
  have hle:=Mem.le_addS M (.slice (some ⟨g,0,none⟩) (L+1) cap);have h9:j<M.ns:=by rw [hS.ns];exact CD hj
  have hσ:∀i,i<M.ns→(M.addS (.slice (some ⟨g,0,none⟩) (L+1) cap)).σ i=M.σ i:=hle.σ;have live:∀i N,Ab (ss++[none]) i=some N→i<M.ns∧Ab ss i=some N:=by
   intro i N hi;rw [Lp] at hi;split at hi
   ·simp at hi
   ·exact ⟨by rw [hS.ns];exact CD hi,hi⟩
  have back:∀i N,Ab ss i=some N→Ab (ss++[none]) i=some N:=by intro i N hi;rw [Lp,if_neg (Nat.ne_of_lt (CD hi))];exact hi
  have h6:∀k,Gz (M.addS (.slice (some ⟨g,0,none⟩) (L+1) cap)) bs (ss++[none]) k↔Gz M bs ss k:=by
   intro k;constructor
   ·rintro (⟨i,B,hi,e⟩ | ⟨i,N,hi,e⟩)
    ·exact .inl ⟨i,B,hi,e⟩
    ·obtain ⟨hl,hi⟩:=live i N hi;rw [hσ i hl] at e;exact .inr ⟨i,N,hi,e⟩
   ·rintro (⟨i,B,hi,e⟩ | ⟨i,N,hi,e⟩)
    ·exact .inl ⟨i,B,hi,e⟩
    ·refine .inr ⟨i,N,back i N hi,?_⟩;rw [hσ i (by rw [hS.ns];exact CD hi)];exact e
  have hw:RelS (Ctx.lent P w (M.addS (.slice (some ⟨g,0,none⟩) (L+1) cap)) bs (ss++[none]) (Ah bs) (Ah ss+1)) (M.addS (.slice (some ⟨g,0,none⟩) (L+1) cap)) bs (ss++[none]) w:=by
   have hb:RelS (Ctx.lent P w M bs ss bs.length ss.length) (M.addS (.slice (some ⟨g,0,none⟩) (L+1) cap)) bs (ss++[none]) w:=by
    refine ⟨hS.nb,by simp [Mem.addS,hS.ns],?_,hS.os,hS.tape,hS.output,hS.size,hS.block,hS.hle,hS.hold,?_,?_,hS.d1,?_,?_,hS.pin.le hle⟩
    ·intro i hi;simp only [Mem.addS] at hi ⊢;split
     ·rfl
     ·exact hS.so i Om
    ·intro i B hi;obtain ⟨g1,g2,us,g3,g4⟩:=hS.blk i B hi;exact ⟨g1,g2,us,E9 hle _ _ g3,g4⟩
    ·intro i N hi;obtain ⟨hl,hi⟩:=live i N hi;rw [hσ i hl];obtain ⟨g0,us,q1,q2,q3,q4⟩:=hS.slc i N hi;exact ⟨g0,us,F9 hle.sl _ _ _ q1,q2,q3,q4⟩
    ·intro i z B N hi hz;obtain ⟨hl,hz⟩:=live z N hz;rw [hσ z hl];exact hS.d2 i z B N hi hz
    ·intro i z N O g hi hz e1 e2;obtain ⟨hl,hi⟩:=live i N hi;obtain ⟨hl',hz⟩:=live z O hz;rw [hσ i hl] at e1;rw [hσ z hl'] at e2;exact hS.d3 i z N O g hi hz e1 e2
   refine hb.ctx rfl rfl h6 ⟨?_,fun _ _=>rfl,?_,fun _ _=>rfl,hS.pin.gl⟩
   ·show Ah bs≤M.nb;rw [hS.nb,Bl];exact Nat.le_refl _
   ·show Ah ss+1≤M.ns+1;rw [hS.ns,Bl];exact Nat.le_refl _
  refine (gu (c:=Ctx.lent P w (M.addS (.slice (some ⟨g,0,none⟩) (L+1) cap)) bs (ss++[none]) (Ah bs) (Ah ss+1)) hf hn (by show Ah bs≤_;rw [Bl];exact h1) (by show Ah ss+1≤_;rw [Bl];exact h2) h3 (Y w _ g cap hq ?_ hc ?_) hw (E9 hle _ _ ha)).mono ?_
  ·rw [hσ j h9];exact e2
  ·rw [←hns];simp [Mem.addS]
  ·rintro e w' ⟨u,M',rfl,hR,hu⟩;refine ⟨u,M',rfl,hR.ctx rfl rfl (fun k=>(h6 k).symm) ⟨?_,fun i hi=>?_,?_,fun i hi=>?_,hR.pin.gl⟩,hu⟩
   ·have:=hR.pin.nb;have e:Ah bs≤M'.nb:=this;rwa [Bl] at e
   ·exact hR.pin.ρ i (by show i<Ah bs;rw [Bl];exact hi)
   ·have:=hR.pin.ns;have e:Ah ss+1≤M'.ns:=this;rw [Bl] at e;exact Nat.le_of_succ_le e
   ·have hi':i<ss.length:=hi;have:=hR.pin.σ i (by show i<Ah ss+1;rw [Bl];omega);rw [this];exact hσ i (by rw [hS.ns];exact hi')
 ·have hA':=U w M (fun hq=>by
   by_cases hC:Ei (M.σ j)<L+1
   ·exact hC
   ·exact absurd ⟨hq,Om⟩ hc)
  rw [Bl,Bl] at hA';exact gu (c:=Ctx.lent P w M bs ss bs.length ss.length) hf hn h1 (Nat.le_of_succ_le h2) h3 hA' hS ha
theorem YV {d:Option Nat} {g:Option (Nat×Bool)} {ng:Bool} {x:X} {j:Nat} {L:Sl} {l:List EOp} (hg:gm S g) (hx:S.x x = .osl j) (hj:Ab S.ss j=some L)
  (h1:L.rows=[]→V c fn K (.ops l::k) (S.put d (match ng with | true=>.ff | false=>.tt))) (h2:V c fn K (.ops l::k) (S.put d (match ng with | true=>.tt | false=>.ff))):V c fn K (.ops (⟨d,g,.isnil ng x⟩::l)::k) S:=by
 refine YW hg fun ro hd h6 M a w hT next Q hn=>?_
 obtain ⟨dst,op,ty,pos,af,gd⟩:=ro;dsimp only at h6 hd;subst hd;obtain ⟨T,y,T2,e,rfl,hu,rfl⟩:=er h6;have hv:=Au hT y;rw [hx] at hv;obtain ⟨g0,vss,q1,q2,q3,q4⟩:=hT.st.slc j L hj;have hw:∃ad n cp,M.σ j = .slice ad n cp∧(ad=none→L.rows=[]):=by
  rcases q3.2 with ⟨e2,e3⟩ | ⟨g,cap,cur,e2,_⟩
  ·exact ⟨none,0,0,e2,fun _=>List.length_eq_zero_iff.1 e3⟩
  ·exact ⟨some ⟨g,0,none⟩,_,_,e2,fun h=>by simp at h⟩
 obtain ⟨ad,n,cp,e2,g2'⟩:=hw;have g1:=hv.2.trans e2;have hr:(Op.equal T (.slice ad n cp) (.slice none 0 0)).run c.P w = .ok ad.isNone w:=run_equal_slice_nil w T e ad n cp hu;have hA:∀o:BinOp,(eqGuard o T y (.const (.slice none 0 0)) (.slice ad n cp) (.slice none 0 0)).run c.P w = .ok () w:=fun o=>by unfold eqGuard;split<;>rfl
 have h9:(execOp a.eval ⟨dst,.binOp (Tr ng) T y (.const (.slice none 0 0)) T2,ty,pos,af,gd⟩).run c.P w = .ok (.value (.bool (XK ng ad.isNone))) w:=by have he:a.eval (.const (.slice none 0 0)) = .slice none 0 0:=rfl;generalize a.eval=ρ at *;cases ng<;>simp [Tr,XK,execOp,g1,he,hA,binOp,hr]
 unfold Oper.wp;rw [h9];cases hB:ad with
 | none=>
   have h8:=h1 (g2' hB);cases ng
   ·exact hn M w .tt (.bool true) S.bs S.ss (.refl M) hT.st rfl h8
   ·exact hn M w .ff (.bool false) S.bs S.ss (.refl M) hT.st rfl h8
 | some b=>
   cases ng
   ·exact hn M w .ff (.bool false) S.bs S.ss (.refl M) hT.st rfl h2
   ·exact hn M w .tt (.bool true) S.bs S.ss (.refl M) hT.st rfl h2
def Mf {α:Type} (b:Nat) (l:List α) (i:Int) (v:α):Option (List α):=if 0≤i∧i≤l.length∧(l.length+1)*b≤140737488355328∧l.length+1≤9223372036854775807 then some (l.take i.toNat++v::l.drop i.toNat) else none
theorem Yy {j T n:Nat} {x:X} {lo:Option X} {rows:List (List AV)} {l:Int} (hx:S.x x = .osl j) (hj:Ab S.ss j=some ⟨T,n,rows⟩) (hw:Bb S lo 0=some l) (h0:0≤l) (h1:l≤rows.length):B3 c S (.slice n x lo none) .any S:=by
 intro ro h9 M a w h8 next Q hA
 obtain ⟨dst,op,ty,pos,af,gd⟩:=ro;dsimp only at h9;obtain ⟨T',y,lo',hi',e,rfl,hu,hs,rfl,rfl,hB⟩:=Hd h9;have hS:=h8.st;have k1:=Au h8 y;rw [hx] at k1;have hh:hi'=none:=by cases hi' with
  | none=>rfl
  | some o=>simp at hB
 subst hh;have b1:=I0 (Au h8) lo' 0 l hw;obtain ⟨g0,vss,q1,q2,q3,q4⟩:=hS.slc j _ hj;dsimp only at q3;have h6:∃v,(execOp a.eval ⟨dst,.slice T' y lo' none none,ty,pos,af,gd⟩).run c.P w = .ok (.value v) w:=by
  rcases q3.2 with ⟨r1,r2⟩ | ⟨g,cap,cur,r1,r2,r3,r4,r5,r6,r7⟩
  ·exact ⟨_,LD (P:=c.P) (w:=w) hu hs (ρ:=a.eval) (ad:=none) (len:=0) (cp:=0) (lo:=l) (hi:=0) (h:=none) (k1.2.trans r1) (Nat.le_refl _) b1 rfl h0 Om Om dst ty pos af gd⟩
  ·exact ⟨_,LD (P:=c.P) (w:=w) hu hs (ρ:=a.eval) (ad:=some ⟨g,0,none⟩) (len:=rows.length) (cp:=cap) (lo:=l) (hi:=rows.length) (h:=none) (k1.2.trans r1) r4 b1 rfl h0 h1 (Int.le_refl _) dst ty pos af gd⟩
 obtain ⟨v,h6⟩:=h6;unfold Oper.wp;rw [h6];exact hA M w _ (.refl M) hS trivial
theorem HR {q j T Y n o1 m1 U J:Nat} {x y:X} {rows rs:List (List AV)} (E:List (List AV)) (hx:S.x x = .ocs q o1 n m1) (hy:S.x y = .ocs j U n J) (hq:Ab S.ss q=some ⟨T,n,rows⟩) (hj:Ab S.ss j=some ⟨Y,n,rs⟩)
  (h1:o1+m1≤rows.length) (h2:U+J≤rs.length) (Z:o1<rows.length) (l2:U<rs.length) (he:rows.take o1++(rs.take (U+min J m1)).drop U++rows.drop (o1+min J m1)=E):
  B3 c S (.copy n x y) (.iv (min J m1:Nat)) ⟨S.tm,S.bs,Av S.ss q (some ⟨T,n,E⟩)⟩:=by
 subst he;exact wI hx hy hq hj h1 h2 Z l2
end
section
variable {β:Type}
theorem fH {rows:List β} {i k m m':Nat} {z y:β} (hi:i<rows.length) (hk:k=rows.length+1-i) (hm:0<m) (E:m'=1):
  (rows.take i++List.replicate k z).take i++([y].take (0+min m' m)).drop 0++(rows.take i++List.replicate k z).drop (i+min m' m)=rows.take i++y::List.replicate (rows.length-i) z:=by
 subst hk;subst E;rw [Nat.min_eq_left Om];refine List.ext_getElem? fun q=>?_;simp only [Nat.zero_add,List.take_succ_cons,List.take_zero,List.drop_zero,List.getElem?_append,List.getElem?_take,List.getElem?_drop,List.getElem?_replicate,List.length_append,List.length_take,List.length_replicate,List.getElem?_cons,List.getElem?_nil,List.length_cons,List.length_nil]
 (repeat' split)<;>first | rfl | (exfalso;omega) | (congr 1;omega)
theorem UI {rows:List β} {i m m':Nat} {z y:β} (hi:i<rows.length) (hm:m=rows.length-i) (E:m'=rows.length-i):
  (rows.take i++y::List.replicate (rows.length-i) z).take (i+1)++(rows.take (i+min m' m)).drop i++(rows.take i++y::List.replicate (rows.length-i) z).drop (i+1+min m' m)=rows.take i++y::rows.drop i:=by
 subst hm;subst E;have hl:(rows.take i).length=i:=by rw [List.length_take];omega
 have e1:(rows.take i++y::List.replicate (rows.length-i) z).take (i+1)=rows.take i++[y]:=by have:=List.take_length_add_append (l₁:=rows.take i) (l₂:=y::List.replicate (rows.length-i) z) 1;rw [hl] at this;rw [this];rfl
 have e2:(rows.take i++y::List.replicate (rows.length-i) z).drop (i+1+(rows.length-i))=[]:=by apply List.drop_eq_nil_of_le;rw [List.length_append,hl,List.length_cons,List.length_replicate];omega
 rw [Nat.min_self,show i+(rows.length-i)=rows.length by omega,List.take_length,e1,e2];simp
theorem Yz {rows:List β} {i m m':Nat} {y:β} (hi:i<rows.length) (hm:0<m) (E:m'=1):
  (rows.take (i+1)++rows.drop i).take i++([y].take (0+min m' m)).drop 0++(rows.take (i+1)++rows.drop i).drop (i+min m' m)=rows.take i++y::rows.drop i:=by
 subst E;rw [Nat.min_eq_left Om];refine List.ext_getElem? fun q=>?_;simp only [Nat.zero_add,List.take_succ_cons,List.take_zero,List.drop_zero,List.getElem?_append,List.getElem?_take,List.getElem?_drop,List.length_append,List.length_take,List.length_drop,List.getElem?_cons,List.getElem?_nil,List.length_cons,List.length_nil]
 (repeat' split)<;>first | rfl | (exfalso;omega) | (congr 1;omega)
end
def Pv {α:Type} (b:Nat) (l:List α) (i:Int):List α→Option (List α)
 | [v]=>Mf b l i v
 | _=>none
theorem fO {α:Type} {b:Nat} {l:List α} {i:Int} {vs:List α} {r:List α} (h:Pv b l i vs=some r):∃v,vs=[v]∧Mf b l i v=some r:=by
 unfold Pv at h;split at h
 ·exact ⟨_,rfl,h⟩
 ·simp at h
theorem fQ {α:Type} {b:Nat} {l:List α} {i:Int} {v:α} {r:List α} (h:Mf b l i v=some r):
  r=l.take i.toNat++v::l.drop i.toNat∧0≤i∧i≤l.length∧(l.length+1)*b≤140737488355328∧l.length+1≤9223372036854775807:=by
 unfold Mf at h;split at h
 ·rename_i hh;simp only [Option.some.injEq] at h;exact ⟨h.symm,hh⟩
 ·simp at h
end NX
end Go.Proofs.YtgnjledocpbchaaGreat
/-
  The symbolic machine: a function that is lent own memory, whatever the names are by which its caller has it. No statement of the seat is proved here.
-/
namespace Go.Proofs.YtgnjledocpbchaaGreat
namespace NX
open Go Go.RowKit
def Bh:List Nat→Nat→Nat→Nat
 | [],B,i=>B+i
 | x::_,_,0=>x
 | _::l,B,i+1=>Bh l B i
mutual
def AV.rnF (pb ps:List Nat) (B Q:Nat):AV→AV
 | .ptr j off=>.ptr (Bh pb B j) off
 | .osl j=>.osl (Bh ps Q j)
 | .oel j i off=>.oel (Bh ps Q j) i off
 | .ocs j lo n m=>.ocs (Bh ps Q j) lo n m
 | .agg l=>.agg (Dd pb ps B Q l)
 | .tup l=>.tup (Dd pb ps B Q l)
 | .clo f l=>.clo f (Dd pb ps B Q l)
 | .any=>.any
 | .un=>.un
 | .tt=>.tt
 | .ff=>.ff
 | .bv e=>.bv e
 | .iv n=>.iv n
 | .kv k n=>.kv k n
 | .sv x=>.sv x
 | .nl=>.nl
 | .nlp=>.nlp
 | .fn f=>.fn f
 | .elt r o=>.elt r o
 | .sl n rows=>.sl n rows
def Dd (pb ps:List Nat) (B Q:Nat):List AV→List AV
 | []=>[]
 | x::l=>AV.rnF pb ps B Q x::Dd pb ps B Q l
end
def BP (pb ps:List Nat) (B Q:Nat):List (Option Blk)→List (Option Blk)
 | []=>[]
 | none::l=>none::BP pb ps B Q l
 | some b::l=>some ⟨b.T,Dd pb ps B Q b.cells⟩::BP pb ps B Q l
def AU {α:Type}:Nat→List (Option α)
 | 0=>[]
 | n+1=>none::AU n
def AI {α:Type}:List (Option α)→List Nat→List (Option α)→List (Option α)
 | l,_,[]=>l
 | l,[],x::r=>l++x::r
 | l,k::p,x::r=>AI (Av l k x) p r
def Tl (k:Nat):List Nat→Bool
 | []=>false
 | x::l=>match k==x with
   | true=>true
   | false=>Tl k l
def Cd (B:Nat):List Nat→Bool
 | []=>true
 | x::l=>BY (AF (x+1) B) (match Tl x l with
   | true=>false
   | false=>Cd B l)
attribute [go_sem] Bh AV.rnF Dd BP AU AI
theorem b6 (k:Nat):∀l,Tl k l=true↔k∈l
 | []=>by simp [Tl]
 | x::l=>by
   simp only [Tl];split
   ·rename_i h;simp at h;simp [h]
   ·rename_i h;simp at h;simp [h,b6 k l]
theorem XL {B:Nat}:∀ {l:List Nat},Cd B l=true→∀x∈l,x<B
 | [],_,_,h=>by simp at h
 | x::l,h,y,hy=>by
   simp only [Cd,AS,Da] at h;rcases List.mem_cons.1 hy with rfl | hy
   ·exact h.1
   ·have:=h.2;split at this
    ·simp at this
    ·exact XL this y hy
theorem TF:∀ {p:List Nat} {B i:Nat},i<p.length→Bh p B i∈p
 | [],_,_,h=>by simp at h
 | x::l,_,0,_=>by simp [Bh]
 | x::l,B,i+1,h=>by simp only [Bh];exact List.mem_cons_of_mem _ (TF (by simpa using h))
theorem JZ:∀ {p:List Nat} {B i:Nat},p.length≤i→Bh p B i=B+(i-p.length)
 | [],_,_,_=>by simp [Bh]
 | x::l,_,0,h=>by simp at h
 | x::l,B,i+1,h=>by simp only [Bh];rw [JZ (by simpa using h)];simp
theorem bW:∀ {p:List Nat} {B i j:Nat},Cd B p=true→Bh p B i=Bh p B j→i=j
 | [],_,_,_,_,h=>by simp only [Bh] at h;omega
 | x::l,B,i,j,hn,h=>by
   have hn':=hn;simp only [Cd,AS,Da] at hn;obtain ⟨hx,h2⟩:=hn;split at h2
   ·simp at h2
   ·rename_i hm;have hm:x∉l:=fun h6=>by rw [(b6 x l).2 h6] at hm;simp at hm
    have Ap:∀i,Bh l B i≠x:=by
     intro i e;by_cases hi:i<l.length
     ·exact hm (e ▸ TF hi)
     ·rw [JZ Om] at e;omega
    cases i with
    | zero=>cases j with
      | zero=>rfl
      | succ j=>simp only [Bh] at h;exact absurd h.symm (Ap j)
    | succ i=>cases j with
      | zero=>simp only [Bh] at h;exact absurd h (Ap i)
      | succ j=>simp only [Bh] at h;rw [bW h2 h]
theorem GZ {α:Type}:∀n,(AU n:List (Option α)).length=n
 | 0=>rfl
 | n+1=>by simp [AU,GZ n]
theorem bj {α:Type}:∀n j,Ab (AU n:List (Option α)) j=none
 | 0,j=>by simp [AU,Ab]
 | n+1,0=>by simp [AU,Ab]
 | n+1,j+1=>by simp [AU,Ab,bj n j]
theorem YC {α:Type}:∀(l:List (Option α)) (p:List Nat) (r:List (Option α)),p.length≤r.length→(AI l p r).length=l.length+(r.length-p.length)
 | l,p,[],h=>by
   have:p.length=0:=by simpa using h
   simp [AI,this]
 | l,[],x::r,_=>by simp [AI]
 | l,k::p,x::r,h=>by simp only [AI];rw [YC _ p r (by simpa using h),Dg];simp
theorem lF {α:Type}:∀(l:List (Option α)) (p:List Nat) (r:List (Option α)),p.length=r.length→(AI l p r).length=l.length:=by intro l p r h;rw [YC l p r Om,h];simp
theorem cJ {α:Type}:∀ {l:List (Option α)} {p:List Nat} {r:List (Option α)} {j:Nat} {x:α},p.length≤r.length→Ab (AI l p r) j=some x→
  Ab l j=some x∨∃i,Bh p l.length i=j∧Ab r i=some x
 | l,p,[],j,x,h,h1=>.inl (by simpa [AI] using h1)
 | l,[],y::r,j,x,_,h1=>by
   simp only [AI] at h1;have:∀(l:List (Option α)) (j:Nat),Ab (l++y::r) j=some x→Ab l j=some x∨∃i,l.length+i=j∧Ab (y::r) i=some x:=by
    intro l;induction l with
    | nil=>intro j h;exact .inr ⟨j,by simp,h⟩
    | cons z l ih=>
      intro j h;cases j with
      | zero=>exact .inl h
      | succ j=>
        rcases ih j h with h | ⟨i,h2,h3⟩
        ·exact .inl h
        ·exact .inr ⟨i,by simp;omega,h3⟩
   rcases this l j h1 with h | ⟨i,h2,h3⟩
   ·exact .inl h
   ·exact .inr ⟨i,by simpa [Bh] using h2,h3⟩
 | l,k::p,y::r,j,x,h,h1=>by
   simp only [AI] at h1;rcases cJ (by simpa using h) h1 with h2 | ⟨i,h2,h3⟩
   ·rw [Dz] at h2;split at h2
    ·rename_i e;exact .inr ⟨0,by simp [Bh,e.1],by simpa [Ab] using h2⟩
    ·exact .inl h2
   ·rw [Dg] at h2;exact .inr ⟨i+1,by simpa [Bh] using h2,by simpa [Ab] using h3⟩
theorem lE {α:Type}:∀ {l:List (Option α)} {p:List Nat} {r:List (Option α)} {j:Nat},j<l.length→j∉p→Ab (AI l p r) j=Ab l j
 | l,p,[],j,_,_=>by simp [AI]
 | l,[],y::r,j,h,_=>by
   simp only [AI];have:∀(l:List (Option α)) (j:Nat),j<l.length→Ab (l++y::r) j=Ab l j:=by
    intro l;induction l with
    | nil=>intro j h;simp at h
    | cons z l ih=>intro j h;cases j with
      | zero=>rfl
      | succ j=>exact ih j (by simpa using h)
   exact this l j h
 | l,k::p,y::r,j,h,hn=>by simp only [AI];rw [lE (by rw [Dg];exact h) (fun e=>hn (List.mem_cons_of_mem _ e)),Dz,if_neg (fun e=>hn (by rw [e.1];simp))]
theorem cK {α:Type}:∀ {l:List (Option α)} {p:List Nat} {r:List (Option α)} {i:Nat} {x:α},Cd l.length p=true→Ab r i=some x→Ab (AI l p r) (Bh p l.length i)=some x
 | l,p,[],i,x,_,h=>by simp [Ab] at h
 | l,[],y::r,i,x,_,h=>by
   simp only [AI,Bh];have:∀(l:List (Option α)) (i:Nat),Ab (l++y::r) (l.length+i)=Ab (y::r) i:=by
    intro l;induction l with
    | nil=>intro i;simp
    | cons z l ih=>intro i;rw [show (z::l).length+i=(l.length+i)+1 by simp;omega];simpa [Ab] using ih i
   rw [this];exact h
 | l,k::p,y::r,i,x,hn,h=>by
   have h8:=hn;simp only [Cd,AS,Da] at hn;obtain ⟨hk,h2⟩:=hn;split at h2
   ·simp at h2
   ·rename_i hm;have hm:k∉p:=fun h6=>by rw [(b6 k p).2 h6] at hm;simp at hm
    simp only [AI];cases i with
    | zero=>simp only [Bh];rw [lE (by rw [Dg];exact hk) hm,Dz,if_pos ⟨rfl,hk⟩];simpa [Ab] using h
    | succ i=>simp only [Bh];have:=cK (l:=Av l k y) (p:=p) (r:=r) (i:=i) (x:=x) (by rw [Dg];exact h2) (by simpa [Ab] using h);rwa [Dg] at this
mutual
theorem uK (pb ps:List Nat) (B Q:Nat):∀(x:AV),x.pu=true→AV.rnF pb ps B Q x=x:=by
 intro x h;cases x<;>simp_all [AV.pu,AV.rnF]
 all_goals exact Yh pb ps B Q _ h
theorem Yh (pb ps:List Nat) (B Q:Nat):∀(l:List AV),AB l=true→Dd pb ps B Q l=l
 | [],_=>rfl
 | x::l,h=>by simp only [AB] at h;cases hx:x.pu<;>simp [hx,BY] at h;simp [Dd,uK pb ps B Q x hx,Yh pb ps B Q l h]
end
def Mem.inn (M:Mem) (pb ps:List Nat):Mem:=⟨fun i=>M.ρ (Bh pb M.nb i),fun i=>M.σ (Bh ps M.ns i),pb.length,ps.length,M.H⟩
mutual
theorem uJ {M:Mem} {pb ps:List Nat} (hpb:Cd M.nb pb=true) (hps:Cd M.ns ps=true):∀(x:AV) (v:Value),(x.rnF pb ps M.nb M.ns).is M v→x.is (M.inn pb ps) v
 | .any,_,_=>trivial
 | .un,_,k=>k
 | .tt,_,k=>k
 | .ff,_,k=>k
 | .bv _,_,k=>k
 | .iv _,_,k=>k
 | .kv _ _,_,k=>k
 | .sv _,_,k=>k
 | .nl,_,k=>k
 | .nlp,_,k=>k
 | .fn _,_,k=>k
 | .ptr j off,_,k=>by
   refine ⟨?_,k.2⟩;have h1:Bh pb M.nb j<M.nb:=k.1;by_cases h:j<pb.length
   ·exact h
   ·rw [JZ Om] at h1;omega
 | .osl j,_,k=>by
   refine ⟨?_,k.2⟩;have h1:Bh ps M.ns j<M.ns:=k.1;by_cases h:j<ps.length
   ·exact h
   ·rw [JZ Om] at h1;omega
 | .oel j a off,_,k=>by
   refine ⟨?_,k.2⟩;have h1:Bh ps M.ns j<M.ns:=k.1;by_cases h:j<ps.length
   ·exact h
   ·rw [JZ Om] at h1;omega
 | .ocs j a n off,_,k=>by
   refine ⟨?_,k.2⟩;have h1:Bh ps M.ns j<M.ns:=k.1;by_cases h:j<ps.length
   ·exact h
   ·rw [JZ Om] at h1;omega
 | .elt row off,_,k=>k
 | .sl n rows,_,k=>k
 | .agg l,_,⟨vs,h1,h2⟩=>⟨vs,h1,OS hpb hps l vs h2⟩
 | .tup l,_,⟨vs,h1,h2⟩=>⟨vs,h1,OS hpb hps l vs h2⟩
 | .clo f l,_,⟨vs,h1,h2⟩=>⟨vs,h1,OS hpb hps l vs h2⟩
theorem OS {M:Mem} {pb ps:List Nat} (hpb:Cd M.nb pb=true) (hps:Cd M.ns ps=true):∀(l:List AV) (vs:List Value),AV.isL M (Dd pb ps M.nb M.ns l) vs→AV.isL (M.inn pb ps) l vs
 | [],_,k=>k
 | x::l,_,⟨v,r,h1,h2,h3⟩=>⟨v,r,h1,uJ hpb hps x v h2,OS hpb hps l r h3⟩
end
def Mem.out (M M':Mem) (pb ps:List Nat):Mem:=⟨fun k=>if k<M.nb then M.ρ k else M'.ρ (pb.length+(k-M.nb)),fun k=>if k<M.ns then M.σ k else M'.σ (ps.length+(k-M.ns)),M.nb+(M'.nb-pb.length),M.ns+(M'.ns-ps.length),M'.H⟩
section
variable {M M':Mem} {pb ps:List Nat}
theorem u7 (hpb:Cd M.nb pb=true) (hp:∀j,j<pb.length→M'.ρ j=(M.inn pb ps).ρ j) (hl:pb.length≤M'.nb) {j:Nat} (hj:j<M'.nb):Bh pb M.nb j<(M.out M' pb ps).nb∧(M.out M' pb ps).ρ (Bh pb M.nb j)=M'.ρ j:=by
 by_cases h:j<pb.length
 ·have hlt:=XL hpb _ (TF (B:=M.nb) h);refine ⟨Nat.lt_of_lt_of_le hlt (Nat.le_add_right _ _),?_⟩;simp only [Mem.out];rw [if_pos hlt,hp j h];rfl
 ·have e:=JZ (p:=pb) (B:=M.nb) (i:=j) Om;rw [e];refine ⟨by simp only [Mem.out];omega,?_⟩;simp only [Mem.out];rw [if_neg Om];congr 1;omega
theorem u9 (hps:Cd M.ns ps=true) (hp:∀j,j<ps.length→M'.σ j=(M.inn pb ps).σ j) (hl:ps.length≤M'.ns) {j:Nat} (hj:j<M'.ns):Bh ps M.ns j<(M.out M' pb ps).ns∧(M.out M' pb ps).σ (Bh ps M.ns j)=M'.σ j:=by
 by_cases h:j<ps.length
 ·have hlt:=XL hps _ (TF (B:=M.ns) h);refine ⟨Nat.lt_of_lt_of_le hlt (Nat.le_add_right _ _),?_⟩;simp only [Mem.out];rw [if_pos hlt,hp j h];rfl
 ·have e:=JZ (p:=ps) (B:=M.ns) (i:=j) Om;rw [e];refine ⟨by simp only [Mem.out];omega,?_⟩;simp only [Mem.out];rw [if_neg Om];congr 1;omega
mutual
theorem jZ (ob:∀ {j:Nat},j<M'.nb→Bh pb M.nb j<(M.out M' pb ps).nb∧(M.out M' pb ps).ρ (Bh pb M.nb j)=M'.ρ j) (os:∀ {j:Nat},j<M'.ns→Bh ps M.ns j<(M.out M' pb ps).ns∧(M.out M' pb ps).σ (Bh ps M.ns j)=M'.σ j):∀(x:AV) (v:Value),x.is M' v→(x.rnF pb ps M.nb M.ns).is (M.out M' pb ps) v
 | .any,_,_=>trivial
 | .un,_,k=>k
 | .tt,_,k=>k
 | .ff,_,k=>k
 | .bv _,_,k=>k
 | .iv _,_,k=>k
 | .kv _ _,_,k=>k
 | .sv _,_,k=>k
 | .nl,_,k=>k
 | .nlp,_,k=>k
 | .fn _,_,k=>k
 | .ptr j off,_,k=>⟨(ob k.1).1,by rw [(ob k.1).2];exact k.2⟩
 | .osl j,_,k=>⟨(os k.1).1,by rw [(os k.1).2];exact k.2⟩
 | .oel j a off,_,k=>⟨(os k.1).1,by rw [(os k.1).2];exact k.2⟩
 | .ocs j a n off,_,k=>⟨(os k.1).1,by rw [(os k.1).2];exact k.2⟩
 | .elt row off,_,k=>k
 | .sl n rows,_,k=>k
 | .agg l,_,⟨vs,h1,h2⟩=>⟨vs,h1,TE ob os l vs h2⟩
 | .tup l,_,⟨vs,h1,h2⟩=>⟨vs,h1,TE ob os l vs h2⟩
 | .clo f l,_,⟨vs,h1,h2⟩=>⟨vs,h1,TE ob os l vs h2⟩
theorem TE (ob:∀ {j:Nat},j<M'.nb→Bh pb M.nb j<(M.out M' pb ps).nb∧(M.out M' pb ps).ρ (Bh pb M.nb j)=M'.ρ j) (os:∀ {j:Nat},j<M'.ns→Bh ps M.ns j<(M.out M' pb ps).ns∧(M.out M' pb ps).σ (Bh ps M.ns j)=M'.σ j):∀(l:List AV) (vs:List Value),AV.isL M' l vs→AV.isL (M.out M' pb ps) (Dd pb ps M.nb M.ns l) vs
 | [],_,k=>k
 | x::l,_,⟨v,r,h1,h2,h3⟩=>⟨v,r,h1,jZ ob os x v h2,TE ob os l r h3⟩
end
end
theorem OR (pb ps:List Nat) (B Q:Nat):∀l,(BP pb ps B Q l).length=l.length
 | []=>rfl
 | none::l=>by simp [BP,OR pb ps B Q l]
 | some b::l=>by simp [BP,OR pb ps B Q l]
theorem Yg {pb ps:List Nat} {B Q:Nat}:∀ {l:List (Option Blk)} {i:Nat} {x:Blk},Ab (BP pb ps B Q l) i=some x↔∃y,Ab l i=some y∧x=⟨y.T,Dd pb ps B Q y.cells⟩
 | [],i,x=>by simp [BP,Ab]
 | none::l,0,x=>by simp [BP,Ab]
 | none::l,i+1,x=>by simpa [BP,Ab] using Yg (l:=l)
 | some b::l,0,x=>by simp [BP,Ab,eq_comm]
 | some b::l,i+1,x=>by simpa [BP,Ab] using Yg (l:=l)
theorem bN {M M':Mem} (hH:M.H=M'.H) {n:Nat}:∀ {rows:List (List AV)} {vss:List (List Value)},BU rows=true→AV.isLL M n rows vss→AV.isLL M' n rows vss
 | [],_,_,h=>h
 | r::rows,_,hp,⟨v,q,h0,h1,h2,h3⟩=>by
   simp only [BU,AS] at hp;have e:M.pure.le M':=⟨Nat.zero_le _,Nat.zero_le _,fun _ h=>absurd h (Nat.not_lt_zero _),fun _ h=>absurd h (Nat.not_lt_zero _),fun k o h=>by rw [←hH];exact h⟩
   exact ⟨v,q,h0,h1,E9 e _ _ (Fp r v h2 hp.1),bN hH hp.2 h3⟩
theorem Ye:∀ {ss:List (Option Sl)} {j:Nat} {L:Sl},C8 ss=true→Ab ss j=some L→BU L.rows=true
 | [],_,_,_,h=>by simp [Ab] at h
 | none::l,0,_,_,h=>by simp [Ab] at h
 | none::l,j+1,_,hp,h=>Ye (ss:=l) (by simpa [C8] using hp) (by simpa [Ab] using h)
 | some L::l,0,_,hp,h=>by simp only [C8,AS] at hp;simp [Ab] at h;subst h;exact hp.1
 | some L::l,j+1,_,hp,h=>by simp only [C8,AS] at hp;exact Ye hp.2 (by simpa [Ab] using h)
theorem EY {P:Program} {f:Nat} {args:List AV} {bs bs':List (Option Blk)} {ss ss':List (Option Sl)} {v:AV} (pb ps:List Nat) (B Q:Nat) (h:CL P f args bs ss v bs' ss')
  (hb:Ah pb=Ah bs:=by rfl) (hs:Ah ps=Ah ss:=by rfl) (hpb:Cd B pb=true:=by rfl) (hps:Cd Q ps=true:=by rfl) (hp:C8 ss=true:=by first | rfl | simp [go_sem]) (hp':C8 ss'=true:=by first | rfl | simp [go_sem]):
  CL P f (Dd pb ps B Q args) (AI (AU B) pb (BP pb ps B Q bs)) (AI (AU Q) ps ss) (v.rnF pb ps B Q) (AI (AU B) pb (BP pb ps B Q bs')) (AI (AU Q) ps ss'):=by
 rw [Bl,Bl] at hb hs;obtain ⟨f1,f2,f3⟩:=h;have lb:(AI (AU B) pb (BP pb ps B Q bs)).length=B:=by rw [lF _ _ _ (by rw [OR,hb]),GZ]
 have ls:(AI (AU Q) ps ss).length=Q:=by rw [lF _ _ _ hs,GZ]
 have lb':(AI (AU B) pb (BP pb ps B Q bs')).length=B+(bs'.length-pb.length):=by rw [YC _ _ _ (by rw [OR];omega),GZ,OR]
 have ls':(AI (AU Q) ps ss').length=Q+(ss'.length-ps.length):=by rw [YC _ _ _ Om,GZ]
 have gb:∀ {l:List (Option Blk)} {j:Nat} {x:Blk},pb.length≤l.length→Ab (AI (AU B) pb (BP pb ps B Q l)) j=some x→∃i y,Bh pb B i=j∧Ab l i=some y∧x=⟨y.T,Dd pb ps B Q y.cells⟩:=by
  intro l j x hl hj;rcases cJ (by rw [OR];exact hl) hj with h | ⟨i,h1,h2⟩
  ·rw [bj] at h;simp at h
  ·obtain ⟨y,h3,h4⟩:=Yg.1 h2;rw [GZ] at h1;exact ⟨i,y,h1,h3,h4⟩
 have gs:∀ {l:List (Option Sl)} {j:Nat} {x:Sl},ps.length≤l.length→Ab (AI (AU Q) ps l) j=some x→∃i,Bh ps Q i=j∧Ab l i=some x:=by
  intro l j x hl hj;rcases cJ hl hj with h | ⟨i,h1,h2⟩
  ·rw [bj] at h;simp at h
  ·rw [GZ] at h1;exact ⟨i,h1,h2⟩
 have pB:∀ {l:List (Option Blk)} {i:Nat} {y:Blk},Ab l i=some y→Ab (AI (AU B) pb (BP pb ps B Q l)) (Bh pb B i)=some ⟨y.T,Dd pb ps B Q y.cells⟩:=by intro l i y hy;have:=cK (l:=AU B) (p:=pb) (r:=BP pb ps B Q l) (i:=i) (x:=⟨y.T,Dd pb ps B Q y.cells⟩) (by rw [GZ];exact hpb) (Yg.2 ⟨y,hy,rfl⟩);rwa [GZ] at this
 have pS:∀ {l:List (Option Sl)} {i:Nat} {y:Sl},Ab l i=some y→Ab (AI (AU Q) ps l) (Bh ps Q i)=some y:=by intro l i y hy;have:=cK (l:=AU Q) (p:=ps) (r:=l) (i:=i) (x:=y) (by rw [GZ];exact hps) hy;rwa [GZ] at this
 refine ⟨by rw [lb,lb'];omega,by rw [ls,ls'];omega,fun M w vs hS ha=>?_⟩;have hnb:M.nb=B:=by rw [hS.nb,lb]
 have hns:M.ns=Q:=by rw [hS.ns,ls]
 subst hnb;subst hns;have h6:∀k,Gz M (AI (AU M.nb) pb (BP pb ps M.nb M.ns bs)) (AI (AU M.ns) ps ss) k↔Gz (M.inn pb ps) bs ss k:=by
  intro k;constructor
  ·rintro (⟨j,x,hj,e⟩ | ⟨j,x,hj,e⟩)
   ·obtain ⟨i,y,h1,h2,_⟩:=gb Om hj;exact .inl ⟨i,y,h2,by rw [←e,←h1];rfl⟩
   ·obtain ⟨i,h1,h2⟩:=gs Om hj;exact .inr ⟨i,x,h2,by rw [←e,←h1];rfl⟩
  ·rintro (⟨i,y,hi,e⟩ | ⟨i,y,hi,e⟩)
   ·exact .inl ⟨_,_,pB hi,e⟩
   ·exact .inr ⟨_,_,pS hi,e⟩
 have h8:RelS (Ctx.lent P w (M.inn pb ps) bs ss bs.length ss.length) (M.inn pb ps) bs ss w:=by
  refine ⟨hb,hs,?_,rfl,rfl,rfl,Nat.le_refl _,fun _ _ _=>rfl,hS.hle,fun _ _ _=>rfl,?_,?_,?_,?_,?_,⟨Nat.le_of_eq hb.symm,fun _ _=>rfl,Nat.le_of_eq hs.symm,fun _ _=>rfl,hS.pin.gl⟩⟩
  ·intro i hi;exact hS.so _ (XL hps _ (TF hi))
  ·intro i y hy;obtain ⟨g1,g2,us,g3,g4,g5⟩:=hS.blk _ _ (pB hy);exact ⟨.inr (.inl ⟨i,y,hy,rfl⟩),g2,us,OS hpb hps _ _ g3,g4,g5⟩
  ·intro i y hy;obtain ⟨g0,vss,q1,q2,q3,q4⟩:=hS.slc _ _ (pS hy);exact ⟨g0,vss,bN (M:=M.sl) (M':=(M.inn pb ps).sl) rfl (Ye hp hy) q1,q2,q3,fun g hg=>⟨.inr (.inr ⟨i,y,hy,hg⟩),(q4 g hg).2⟩⟩
  ·intro i j x y hi hj e;exact bW hpb (hS.d1 _ _ _ _ (pB hi) (pB hj) e)
  ·intro i j x y hi hj;exact hS.d2 _ _ _ _ (pB hi) (pS hj)
  ·intro i j x y g hi hj e1 e2;exact bW hps (hS.d3 _ _ _ _ g (pS hi) (pS hj) e1 e2)
 refine (f3 (M.inn pb ps) w vs h8 (OS hpb hps _ _ ha)).mono ?_;rintro e w' ⟨u,M',rfl,hR,hu⟩;have hρ:∀j,j<pb.length→M'.ρ j=(M.inn pb ps).ρ j:=fun j hj=>hR.pin.ρ j (by show j<bs.length;omega);have hσ:∀j,j<ps.length→M'.σ j=(M.inn pb ps).σ j:=fun j hj=>hR.pin.σ j (by show j<ss.length;omega);have ob:∀ {j:Nat},j<M'.nb→Bh pb M.nb j<(M.out M' pb ps).nb∧(M.out M' pb ps).ρ (Bh pb M.nb j)=M'.ρ j:=fun hj=>u7 hpb hρ (by rw [hR.nb];omega) hj;have os:∀ {j:Nat},j<M'.ns→Bh ps M.ns j<(M.out M' pb ps).ns∧(M.out M' pb ps).σ (Bh ps M.ns j)=M'.σ j:=fun hj=>u9 hps hσ (by rw [hR.ns];omega) hj;have hm:∀g,Fy (Ctx.lent P w (M.inn pb ps) bs ss bs.length ss.length) g→Fy (Ctx.lent P w M (AI (AU M.nb) pb (BP pb ps M.nb M.ns bs)) (AI (AU M.ns) ps ss) (AI (AU M.nb) pb (BP pb ps M.nb M.ns bs)).length (AI (AU M.ns) ps ss).length) g:=fun g hg=>hg.imp id (h6 g).2;refine ⟨u,M.out M' pb ps,rfl,?_,jZ ob os v u hu⟩;refine ⟨?_,?_,?_,hR.os,hR.tape,hR.output,hR.size,fun k hk hn=>hR.block k hk fun e=>hn ((h6 k).2 e),hR.hle,fun k hk hn=>hR.hold k hk fun e=>hn ((h6 k).2 e),?_,?_,?_,?_,?_,?_⟩
 ·show M.nb+(M'.nb-pb.length)=_;rw [lb',hR.nb]
 ·show M.ns+(M'.ns-ps.length)=_;rw [ls',hR.ns]
 ·intro j hj;simp only [Mem.out] at hj ⊢;split
  ·rename_i h;exact hS.so j h
  ·exact hR.so _ (by have:=hR.ns;omega)
 ·intro j x hj;obtain ⟨i,y,h1,h2,rfl⟩:=gb Om hj;subst h1;obtain ⟨g1,g2,us,g3,g4,g5⟩:=hR.blk i y h2;have hi:i<M'.nb:=by rw [hR.nb];exact CD h2
  rw [(ob hi).2];exact ⟨hm _ g1,g2,us,TE ob os _ _ g3,g4,g5⟩
 ·intro j x hj;obtain ⟨i,h1,h2⟩:=gs Om hj;subst h1;obtain ⟨g0,vss,q1,q2,q3,q4⟩:=hR.slc i x h2;have hi:i<M'.ns:=by rw [hR.ns];exact CD h2
  rw [(os hi).2];exact ⟨g0,vss,bN (M:=M'.sl) (M':=(M.out M' pb ps).sl) rfl (Ye hp' h2) q1,q2,q3,fun g hg=>⟨hm _ (q4 g hg).1,(q4 g hg).2⟩⟩
 ·intro i j x y hi hj e;obtain ⟨i',x',h1,h2,_⟩:=gb Om hi;obtain ⟨j',y',k1,k2,_⟩:=gb Om hj;subst h1;subst k1;rw [(ob (by rw [hR.nb];exact CD h2)).2,(ob (by rw [hR.nb];exact CD k2)).2] at e;rw [hR.d1 _ _ _ _ h2 k2 e]
 ·intro i j x y hi hj;obtain ⟨i',x',h1,h2,_⟩:=gb Om hi;obtain ⟨j',k1,k2⟩:=gs Om hj;subst h1;subst k1;rw [(ob (by rw [hR.nb];exact CD h2)).2,(os (by rw [hR.ns];exact CD k2)).2];exact hR.d2 _ _ _ _ h2 k2
 ·intro i j x y g hi hj e1 e2;obtain ⟨i',h1,h2⟩:=gs Om hi;obtain ⟨j',k1,k2⟩:=gs Om hj;subst h1;subst k1;rw [(os (by rw [hR.ns];exact CD h2)).2] at e1;rw [(os (by rw [hR.ns];exact CD k2)).2] at e2;rw [hR.d3 _ _ _ _ g h2 k2 e1 e2]
 ·refine ⟨by rw [lb];exact Nat.le_add_right _ _,fun j hj=>?_,by rw [ls];exact Nat.le_add_right _ _,fun j hj=>?_,hR.pin.gl⟩
  ·have hj:j<M.nb:=by rw [←lb];exact hj
   simp only [Mem.out];rw [if_pos hj];rfl
  ·have hj:j<M.ns:=by rw [←ls];exact hj
   simp only [Mem.out];rw [if_pos hj];rfl
end NX
end Go.Proofs.YtgnjledocpbchaaGreat
/-
  Compiled code, written by computing it. No statement of the seat is proved here.
-/
namespace Go.Proofs.YtgnjledocpbchaaGreat
namespace NX
open Go
attribute [go_sem_proc] Int.reduceOfNat Int.reduceNegSucc
def u6:Op→List Operand
 | .call c | .go c | .defer c=>(match c.callee with | .value f=>[f] | .invoke r _=>[r] | .builtin _=>[])++c.args.toList
 | .makeFunc _ a b=>a.toList++b.toList
 | .slice _ x l h m=>x::(l.toList++h.toList++m.toList)
 | .select _ _=>[]
 | o=>o.operands.toList
def gw (ops:List Oper) (o:Oper):List Nat:=(u6 o.op).filterMap (fun x=>match x with | .tmp t=>some t | _=>none)++(match o.guard with | some (g,_)=>(match ops[g]? with | some x=>x.dst.toList | none=>[]) | none=>[])
def nT (ops:List Oper) (x y:Oper):Bool:=(match x.dst with | some d=>!IF d (gw ops y)&&(match y.dst with | some e=>!(e==d) | none=>true) | none=>true)&&(match y.dst with | some d=>!IF d (gw ops x) | none=>true)
def ZD:Nat→List Nat→List Nat
 | 0,l=>l
 | n+1,l=>ZD n (n::l)
def oy (ops:List Oper):List (List Nat):=
 (ZD ops.length []).map fun i=>(ZD ops.length []).filter fun j=>match ops[i]?,ops[j]? with
   | some x,some y=>!(i==j)&&!(nT ops x y)
   | _,_=>false
def cZ (P:Program):Code→Option EC
 | .skip=>some .skip
 | .region _ ops draw=>match ops.toList.mapM (AO P ops) with
   | some l=>match draw with
     | true=>some (.drw l (Bu ops) (oy ops.toList))
     | false=>some (.reg l)
   | none=>none
 | .seq a b=>match cZ P a,cZ P b with | some x,some y=>some (.seq x y) | _,_=>none
 | .cond c a b=>match cZ P a,cZ P b with | some x,some y=>some (.ite (cX c) x y) | _,_=>none
 | .block id a=>(cZ P a).map (.blk id)
 | .loop a=>(cZ P a).map .loop
 | .exit id=>some (.exit id)
 | .scope a=>(cZ P a).map .scope
 | .label l=>some (.label l)
 | .goto l=>some (.goto l)
 | .ret=>some .ret
 | _=>some .bad
def cF (P:Program) (f:Func):Option EC:=match f.body with | some c=>cZ P c | none=>none
theorem AP {P:Program} {f:Nat} {fn:Func} {body:EC} {rs:List ERes} {np nt:Nat} {x:Code} (h:P.funcs[f]?=some fn:=by kernel_rfl) (hb:fn.body=some x:=by exact rfl) (hc:cC P x=some body:=by kernel_rfl) (r:FC P fn.results.toList=some rs:=by kernel_rfl) (t:fn.ntmps=np+nt:=by kernel_rfl):FnOK P f fn body rs np nt:=⟨h,⟨x,hb,hc⟩,r,t⟩
theorem hF (f:Func):cF Tryz.prog f=cF Tryz.prog f:=rfl
abbrev DP (f:Func):= {x:EC // cF Tryz.prog f=some x}
abbrev HA (c:Ctx) (all:Array Oper) (ops:List EOp) (af nap:List (List Nat)):Prop:=all.toList.mapM (AO c.P all)=some ops∧Region.noSelect all=true∧af=Bu all∧nap=D7 all
section
variable {c:Ctx} {all:Array Oper} {ops:List EOp} {af nap:List (List Nat)} {Φ:St→Prop} {m:Nat} {ld:List Bool} {S:St}
theorem GE (h6:all.toList.mapM (AO c.P all)=some ops) (i:Nat) {v:AV} {S1:St} {q:Prop} (h:G c all ops af Φ m (Ay ld i) (S1.put (Af ops i).d v)) (hr:Bx ld af 0=[i]:=by exact rfl) (he:I7 S (Af ops i)=some (v,S1,q):=by exact rfl) (hq:q:=by trivial):G c all ops af Φ (m+1) ld S:=Ak i hr (dd h6 he hq h)
theorem GV (h6:all.toList.mapM (AO c.P all)=some ops) {i:Nat} {v:AV} {S1:St} {q:Prop} (h:G c all ops af Φ m (Ay ld i) (S1.put (Af ops i).d v)) (he:I7 S (Af ops i)=some (v,S1,q):=by exact rfl) (hq:q:=by trivial):GO c all ops af Φ m ld S i:=dd h6 he hq h
theorem GD (h:Φ S) (hr:Bx ld af 0=[]:=by exact rfl):G c all ops af Φ m ld S:=dg hr h m
theorem GN (H:HA c all ops af nap) (m r:Nat) (h:(Ct ops af nap m ld S True).2.2.2∧G c all ops af Φ ((Ct ops af nap m ld S True).1+r) (Ct ops af nap m ld S True).2.1 (Ct ops af nap m ld S True).2.2.1):G c all ops af Φ (m+r) ld S:=dh H.1 H.2.1 H.2.2.1 H.2.2.2 m r h
theorem GP (H:HA c all ops af nap) (m r:Nat) (b:List Nat) (u:List (Nat×List AV)) (h:G c all ops af Φ r (rl b) ⟨pt u S.tm,S.bs,S.ss⟩) (he:Ct ops af nap m ld S True=(0,rl b,⟨pt u S.tm,S.bs,S.ss⟩,tN m):=by kernel_rfl):G c all ops af Φ (m+r) ld S:=mC H.1 H.2.1 H.2.2.1 H.2.2.2 m r b u he h
theorem GA {α:Type} {b:Nat} {l' m' v:List α} (f:α→List AV) (hv:AE b l' m'=some v) (h6:all.toList.mapM (AO c.P all)=some ops) {i e n j:Nat} {x y:X} (h:G c all ops af Φ m (Ay ld i) ((S.app j ⟨e,n,v.map f⟩).put (Af ops i).d (.osl (Ah S.ss)))) (ho:(Af ops i).o = .app e n b x y:=by exact rfl) (hg:gm S (Af ops i).g:=by trivial)
 (hx:S.x x = .osl j:=by exact rfl) (hj:Ab S.ss j=some ⟨e,n,l'.map f⟩:=by exact rfl) (hy:Ef S n (S.x y)=some (m'.map f):=by exact rfl):GO c all ops af Φ m ld S i:=mo f hv h6 ho hg hx hj hy h
theorem GL (h6:all.toList.mapM (AO c.P all)=some ops) {i:Nat} {α:Type} {l':List α} {z:Int} {y:α} {j T n off:Nat} {x:X} {v:AV} (f:α→List AV) (hv:Ac l' z=some y) (h:G c all ops af Φ m (Ay ld i) (S.put (Af ops i).d v)) (ho:(Af ops i).o = .load x:=by exact rfl) (hg:gm S (Af ops i).g:=by trivial) (hx:S.x x = .oel j (z.toNat*n) off:=by exact rfl) (hj:Ab S.ss j=some ⟨T,n,l'.map f⟩:=by exact rfl)
 (hl:Db (f y) off 1=some [v]:=by exact rfl):GO c all ops af Φ m ld S i:=my h6 f hv ho hg hx hj hl h
theorem GI (h6:all.toList.mapM (AO c.P all)=some ops) {i:Nat} {α:Type} {l':List α} {z:Int} {v:α} {T n j:Nat} {x y:X} (f:α→List AV) (hv:Ac l' z=some v) (h:G c all ops af Φ m (Ay ld i) (S.put (Af ops i).d (.oel j (z.toNat*n) 0))) (ho:(Af ops i).o = .idx n x y:=by exact rfl) (hg:gm S (Af ops i).g:=by trivial) (hx:S.x x = .osl j:=by exact rfl) (hi:S.x y = .iv z:=by exact rfl) (hj:Ab S.ss j=some ⟨T,n,l'.map f⟩:=by exact rfl):GO c all ops af Φ m ld S i:=mw h6 f hv ho hg hx hi hj h
end
section
variable {c:Ctx} {S:St} {fn:Func} {K:AV→List (Option Blk)→List (Option Sl)→Prop} {k:List It} {β:Type}
theorem AD {ops:List EOp} {af nap:List (List Nat)} (h:∀all,HA c all ops af nap→G c all ops af (fun S'=>V c fn K k S') (Ah ops) (Kj (Ah ops)) S) (hm:c.P.follows .mixedOrders=true:=by kernel_rfl):V c fn K (.code (.drw ops af nap)::k) S:=mZ hm fun all h6 hs h8 h9=>h all ⟨h6,hs,h9,h8⟩
@[go_sem] def bU (S:St) (p q:Nat):St:=match Ab S.ss p with | some L=>S.renS p q L | none=>S
theorem Ub (p q:Nat) (h:V c fn K k (bU S p q)) (hp:(Ab S.ss p).isSome=true:=by exact rfl) (hq:AF (q+1) (Ah S.ss)=true:=by exact rfl) (h6:(p==q)=false:=by exact rfl) (hqn:AF c.nq q=true:=by rfl) (h8:C8 S.ss=true:=by first | rfl | simp [go_sem]):V c fn K k S:=by
 cases hL:Ab S.ss p with
 | none=>rw [hL] at hp;simp at hp
 | some L=>unfold bU at h;rw [hL] at h;exact nr p q hL hq h6 h hqn h8
theorem dy (j:Nat) {L:Sl} (h:V c fn K k (S.sealS j L)) (hj:Ab S.ss j=some L:=by exact rfl) (h6:BU L.rows=true:=by first | rfl | simp [go_sem]):V c fn K k S:=dw j hj h h6
theorem MI {o:X} {a b:EC} {e:Bool} {A B:Option β} {r:β} (h:A0 e A B=some r) (h1:A=some r→V c fn K (.code a::k) S) (h2:B=some r→V c fn K (.code b::k) S) (hx:S.x o = .bv e:=by exact rfl):V c fn K (.code (.ite o a b)::k) S:=mH h hx (fun _=>h1) fun _=>h2
theorem MC (t:Nat) {e:Bool} {A B:Option β} {r:β} (h:A0 e A B=some r) (h1:A=some r→V c fn K k ⟨BC S.tm t .tt,S.bs,S.ss⟩) (h2:B=some r→V c fn K k ⟨BC S.tm t .ff,S.bs,S.ss⟩) (ht:AM S.tm t = .bv e:=by exact rfl):V c fn K k S:=mG t h ht (fun _=>h1) fun _=>h2
theorem E7 {f:Nat} {fn:Func} {body:EC} {rs:List ERes} {np nt:Nat} {x v:AV} {bs':List (Option Blk)} {ss':List (Option Sl)} (ok:FnOK c.P f fn body rs np nt) (h:DM S rs=some x:=by exact rfl) (hle:St.le ⟨[x],S.bs,S.ss⟩ ⟨[v],bs',ss'⟩:=by simp [go_sem]):V c fn (fun x b s=>St.le ⟨[x],b,s⟩ ⟨[v],bs',ss'⟩) (.code .ret::k) S:=dt ok h hle
end
theorem FT {P:Program} {f:Nat} {fn:Func} {body:EC} {rs:List ERes} {np nt:Nat} (hf:FnOK P f fn body rs np nt) {args:List AV} {bs bs':List (Option Blk)} {ss ss':List (Option Sl)} {v:AV}
 (h:∀w M,V (Ctx.lent P w M bs ss (Ah bs) (Ah ss)) fn (fun x b s=>St.le ⟨[x],b,s⟩ ⟨[v],bs',ss'⟩) [.code body] ⟨args++Dh nt,bs,ss⟩) (hn:args.length=np:=by exact rfl) (h1:AF (Ah bs) (Ah bs')=true:=by exact rfl) (h2:AF (Ah ss) (Ah ss')=true:=by exact rfl) (h3:St.ok ⟨[v],bs',ss'⟩=true:=by first | rfl | simp [go_sem]):CL P f args bs ss v bs' ss':=mi hf hn h1 h2 h3 h
theorem FP {P:Program} {f:Nat} {fn:Func} {body:EC} {rs:List ERes} {np nt:Nat} (hf:FnOK P f fn body rs np nt) {args:List AV} {res:AV} (h:∀w0 H0,V (Ctx.of P w0 H0) fn (fun x _ _=>x.le res) [.code body] (St.init args nt)) (hn:args.length=np:=by exact rfl) (hp:res.pu=true:=by exact rfl):C4 P f args res:=mh hf hn hp h
@[go_sem] def BD (l:List Nat):Nat→Nat→List Bool
  | 0,_=>[]
  | n+1,i=>IF i l::BD l n (i+1)
attribute [go_sem] IF
section
variable {c:Ctx} {S:St} {fn:Func} {K:AV→List (Option Blk)→List (Option Sl)→Prop} {k:List It}
theorem mQ {d:Option Nat} {g:Option (Nat×Bool)} {l:List EOp} {f:Nat} {xs:List X} {args:List AV} {v:AV} {bs bs':List (Option Blk)} {ss ss':List (Option Sl)} (pb ps:List Nat) (B Q:Nat) (h0:CL c.P f args bs ss v bs' ss')
  (h:V c fn K (.ops l::k) ((⟨S.tm,BA (BD pb B 0) S.bs (AI (AU B) pb (BP pb ps B Q bs')),BA (BD ps Q 0) S.ss (AI (AU Q) ps ss')⟩:St).put d (v.rnF pb ps B Q))) (hb:Ah pb=Ah bs:=by rfl) (hs:Ah ps=Ah ss:=by rfl) (hpb:Cd B pb=true:=by rfl) (hps:Cd Q ps=true:=by rfl) (hp:C8 ss=true:=by first | rfl | simp [go_sem]) (hp':C8 ss'=true:=by first | rfl | simp [go_sem])
  (h6:Ax (BD pb B 0) S.bs=AI (AU B) pb (BP pb ps B Q bs):=by rfl) (h8:Ax (BD ps Q 0) S.ss=AI (AU Q) ps ss:=by rfl) (ha:AV.le.leL (B6 S xs) (Dd pb ps B Q args):=by first | exact AA _ | simp [go_sem]) (hg:gm S g:=by trivial):V c fn K (.ops (⟨d,g,.call f xs⟩::l)::k) S:=
 IR (BD pb B 0) (BD ps Q 0) hg (EY pb ps B Q h0 hb hs hpb hps hp hp') h6 h8 ha h
end
section
variable {c:Ctx} {all:Array Oper} {ops:List EOp} {af:List (List Nat)} {Φ:St→Prop} {m':Nat} {ld:List Bool} {S:St}
theorem HX (h6:all.toList.mapM (AO c.P all)=some ops) {i f:Nat} {xs:List X} {args:List AV} {v:AV} {bs bs':List (Option Blk)} {ss ss':List (Option Sl)} (pb ps:List Nat) (B Q:Nat) (h0:CL c.P f args bs ss v bs' ss')
  (h:G c all ops af Φ m' (Ay ld i) ((⟨S.tm,S.bs,BA (BD ps Q 0) S.ss (AI (AU Q) ps ss')⟩:St).put (Af ops i).d (v.rnF pb ps B Q))) (hb:Ah pb=Ah bs:=by rfl) (hs:Ah ps=Ah ss:=by rfl) (hpb:Cd B pb=true:=by rfl) (hps:Cd Q ps=true:=by rfl) (hp:C8 ss=true:=by first | rfl | simp [go_sem]) (hp':C8 ss'=true:=by first | rfl | simp [go_sem]) (ho:(Af ops i).o = .call f xs:=by exact rfl) (hg:gm S (Af ops i).g:=by trivial)
  (h8:Ax (BD pb B 0) S.bs=AI (AU B) pb (BP pb ps B Q bs):=by rfl) (h9:Ax (BD ps Q 0) S.ss=AI (AU Q) ps ss:=by rfl) (hw:BA (BD pb B 0) S.bs (AI (AU B) pb (BP pb ps B Q bs'))=S.bs:=by rfl) (ha:AV.le.leL (B6 S xs) (Dd pb ps B Q args):=by first | exact AA _ | simp [go_sem]):GO c all ops af Φ m' ld S i:=
 ms h6 (BD pb B 0) (BD ps Q 0) ho hg (EY pb ps B Q h0 hb hs hpb hps hp hp') h8 h9 hw ha h
theorem mp (h6:all.toList.mapM (AO c.P all)=some ops) {i f:Nat} {xs:List X} {args:List AV} {v:AV} {bs bs':List (Option Blk)} {ss ss':List (Option Sl)} (pb ps:List Nat) (B Q:Nat) (h0:CL c.P f args bs ss v bs' ss')
  (h:G c all ops af Φ m' (Ay ld i) ((⟨S.tm,BA (BD pb B 0) S.bs (AI (AU B) pb (BP pb ps B Q bs')),BA (BD ps Q 0) S.ss (AI (AU Q) ps ss')⟩:St).put (Af ops i).d (v.rnF pb ps B Q))) (h8:Hh af i ops 0=true:=by kernel_rfl) (hb:Ah pb=Ah bs:=by rfl) (hs:Ah ps=Ah ss:=by rfl) (hpb:Cd B pb=true:=by rfl) (hps:Cd Q ps=true:=by rfl) (hp:C8 ss=true:=by first | rfl | simp [go_sem]) (hp':C8 ss'=true:=by first | rfl | simp [go_sem]) (ho:(Af ops i).o = .call f xs:=by exact rfl) (hg:gm S (Af ops i).g:=by trivial)
  (h9:Ax (BD pb B 0) S.bs=AI (AU B) pb (BP pb ps B Q bs):=by rfl) (hw:Ax (BD ps Q 0) S.ss=AI (AU Q) ps ss:=by rfl) (ha:AV.le.leL (B6 S xs) (Dd pb ps B Q args):=by first | exact AA _ | simp [go_sem]):GO c all ops af Φ m' ld S i:=
 dc h6 h8 (BD pb B 0) (BD ps Q 0) ho hg (EY pb ps B Q h0 hb hs hpb hps hp hp') h9 hw ha h
end
section
variable {c:Ctx} {S S':St} {fn:Func} {K:AV→List (Option Blk)→List (Option Sl)→Prop} {k:List It}
theorem LR {S:St}:CT S S:=CT.refl S
theorem VC {d:Option Nat} {g:Option (Nat×Bool)} {f:Nat} {xs:List X} {l:List EOp} {args:List AV} {res:AV} (hf:C4 c.P f args res) (h:V c fn K (.ops l::k) (S.put d res))
 (ha:AV.le.leL (B6 S xs) args:=by first | exact AA _ | simp [go_sem]) (hp:AB args=true:=by first | rfl | simp [go_sem]) (hg:gm S g:=by trivial):V c fn K (.ops (⟨d,g,.call f xs⟩::l)::k) S:=mR hg hf ha hp h
theorem VL {d:Option Nat} {g:Option (Nat×Bool)} {f:Nat} {xs:List X} {l:List EOp} {args:List AV} {res:AV} (hs:CT S S') (hf:C4 c.P f args res) (h:V c fn K (.ops l::k) (S.put d res))
 (ha:AV.le.leL (B6 S' xs) args:=by first | exact AA _ | simp [go_sem]) (hp:AB args=true:=by first | rfl | simp [go_sem]) (h6:res.flat=true:=by rfl) (hg:gm S g:=by trivial):V c fn K (.ops (⟨d,g,.call f xs⟩::l)::k) S:=mS hg hs hf ha hp h6 h
end
section
variable {c:Ctx} {all:Array Oper} {ops:List EOp} {af:List (List Nat)} {Φ:St→Prop} {m:Nat} {ld:List Bool} {S S':St}
theorem GC (h6:all.toList.mapM (AO c.P all)=some ops) {i f:Nat} {xs:List X} {args:List AV} {res:AV} (hf:C4 c.P f args res) (h:G c all ops af Φ m (Ay ld i) (S.put (Af ops i).d res)) (ho:(Af ops i).o = .call f xs:=by exact rfl) (hg:gm S (Af ops i).g:=by trivial)
 (ha:AV.le.leL (B6 S xs) args:=by first | exact AA _ | simp [go_sem]) (hp:AB args=true:=by first | rfl | simp [go_sem]):GO c all ops af Φ m ld S i:=mq h6 ho hg hf ha hp h
theorem GK (h6:all.toList.mapM (AO c.P all)=some ops) {i f:Nat} {xs:List X} {args:List AV} {res:AV} (hs:CT S S') (hf:C4 c.P f args res) (h:G c all ops af Φ m (Ay ld i) (S.put (Af ops i).d res)) (ho:(Af ops i).o = .call f xs:=by exact rfl) (hg:gm S (Af ops i).g:=by trivial)
 (ha:AV.le.leL (B6 S' xs) args:=by first | exact AA _ | simp [go_sem]) (hp:AB args=true:=by first | rfl | simp [go_sem]) (h8:res.flat=true:=by rfl):GO c all ops af Φ m ld S i:=mr h6 ho hg hs hf ha hp h8 h
end
end NX
end Go.Proofs.YtgnjledocpbchaaGreat
/-
  Runs whose end is told by simplifying it. No statement of the seat is proved here.
-/
namespace Go.Proofs.YtgnjledocpbchaaGreat
namespace NX
open Go
section
variable {c:Ctx} {S S':St} {fn:Func} {K:AV→List (Option Blk)→List (Option Sl)→Prop} {k k':List It} {p:Prop}
theorem Vg (m:Nat) (h:V c fn K k' S') (he:run m k S True=(k',S',p):=by dsimp only[go_sem]<;>exact rfl) (hp:p:=by simp):V c fn K k S:=As m (by rw [he];exact ⟨hp,h⟩)
end
section
variable {c:Ctx} {all:Array Oper} {ops:List EOp} {af nap:List (List Nat)} {Φ:St→Prop} {m:Nat} {ld ld':List Bool} {S S':St} {p:Prop}
theorem Gn (H:HA c all ops af nap) (m r:Nat) (h:G c all ops af Φ r ld' S') (he:Ct ops af nap m ld S True=(0,ld',S',p):=by dsimp only[go_sem]<;>exact rfl) (hp:p:=by simp):G c all ops af Φ (m+r) ld S:=GN H m r (by rw [he];exact ⟨hp,by simpa using h⟩)
end
theorem MD {P:Program} {w0:World} {H0:Frag} {f:Nat} {fn:Func} {body:EC} {rs:List ERes} {np nt:Nat} {β:Type} {e r:β} {T:AV} {S:St} {k:List It} (ok:FnOK P f fn body rs np nt) (h:some e=some r)
 (hl:e=r→Kn (DM S rs) T:=by rintro rfl;first | exact le_refl _ | simp [go_sem]):V (Ctx.of P w0 H0) fn (fun x _ _=>x.le T) (.code .ret::k) S:=mY ok (hl (Option.some.inj h))
theorem MS {P:Program} {w0:World} {H0:Frag} {f:Nat} {fn:Func} {body:EC} {rs:List ERes} {np nt:Nat} {β:Type} {e r:β} {T:AV} {S:St} (ok:FnOK P f fn body rs np nt) (h:some e=some r)
 (hl:e=r→Kn (DM S rs) T:=by rintro rfl;first | exact le_refl _ | simp [go_sem]):V (Ctx.of P w0 H0) fn (fun x _ _=>x.le T) [] S:=nE ok (hl (Option.some.inj h))
end NX
end Go.Proofs.YtgnjledocpbchaaGreat
