/-
  The symbolic machine: parts of own slices: cut, cleared, laid behind one another. No statement of the seat is proved here.
-/
import Derived.Laws.BytesString
import Derived.Test.YtdjkbodnjhgbcaaGreatP10
namespace Go.Proofs.YtdjkbodnjhgbcaaGreat
namespace NX
open Go Go.RowKit
section
variable {c:Ctx} {M:Mem} {S S':St} {a:Act} {w:World} {fn:Func} {K:AV→List (Option Blk)→List (Option Sl)→Prop} {k:List It}
theorem Z56 {P:Program} {w:World} {T e n:Nat} (hu:P.underlying T=some (.slice e)) (hs:Z6 P e=some n) {x:Operand} {l h:Option Operand} {ρ:Operand→Value} {ad:Option Addr} {len cp:Nat} {lo hi:Int}
  (hx:ρ x = .slice ad len cp) (hl:match l with | none=>lo=0 | some o=>ρ o = .int .i64 lo) (hh:match h with | none=>hi=len | some o=>ρ o = .int .i64 hi) (h0:0≤lo) (h1:lo≤hi) (h2:hi≤cp)
  (d:Option Tmp) (ty:TypeId) (pos:String) (af:Array Go.Edge) (gg:Option (Nat×Bool)):
  (execOp ρ ⟨d,.slice T x l h none,ty,pos,af,gg⟩).run P w = .ok (.value (.slice (if cp=lo.toNat then ad else ad.map (·.add (lo.toNat*n))) (hi.toNat-lo.toNat) (cp-lo.toNat))) w:=by
 have key:(Instr.sliceBounds true len cp (l.map ρ) (h.map ρ) none).run P w = .ok (lo.toNat,hi.toNat,cp) w:=by
  cases l<;>cases h<;>simp only at hl hh<;>simp only [Option.map,Instr.sliceBounds]
  ·subst hl;simp [hh]
  ·subst hl;simp [Instr.sliceBound,asIntOf,hh,h2,show 0≤hi by omega]
  ·subst hh;simp [Instr.sliceBound,asIntOf,hl,h0,h1]
  ·simp [Instr.sliceBound,asIntOf,hl,hh,h0,h1,h2,show 0≤hi by omega,Int.toNat_of_nonneg (show 0≤hi by omega)]
 simp [execOp,Instr.sliceAt,Instr.slice,hx,run_underlying hu,key,Z52 hs]
theorem sem_viewV {j T n m:Nat} {x:X} {lo hi:Option X} {rows:List (List AV)} {l h:Int} (hx:S.x x = .ocs j 0 n m) (hj:Zf S.ss j=some ⟨T,n,rows⟩) (hr:0<rows.length) (hd:bnd S lo 0=some l) (he:bnd S hi m=some h) (h0:0≤l) (h1:l≤h) (h2:h≤rows.length):
  Z43 c S (.slice n x lo hi) (.ocs j l.toNat n (h.toNat-l.toNat)) S:=by
 intro ro h8 M a w h6 next Q hf
 obtain ⟨dst,op,ty,pos,af,gd⟩:=ro
 dsimp only at h8
 obtain ⟨T',y,lo',hi',e,rfl,hu,hs,rfl,rfl,rfl⟩:=Z35 h8
 have hS:=h6.st
 have k1:=Z22 h6 y
 rw [hx] at k1
 obtain ⟨hn,g1,n1,c1,k1,k1'⟩:=k1
 obtain ⟨g,cap,cur,vss,e2,e3,e4,e5,e6,v1,v2,e7⟩:=Z26 hS hj hr
 rw [e2] at k1
 simp only [Value.slice.injEq,Option.some.injEq,Addr.mk.injEq] at k1
 obtain ⟨⟨rfl,_⟩,_,rfl⟩:=k1
 rw [Nat.zero_mul,ite_self,Nat.sub_zero] at k1'
 have b1:=Z36 (Z22 h6) lo' 0 l hd
 have b2:=Z36 (Z22 h6) hi' m h he
 have h9:=Z56 (P:=c.P) (w:=w) hu hs (ρ:=a.eval) (ad:=some ⟨g,0,none⟩) (len:=m) (cp:=cap) (lo:=l) (hi:=h) k1' b1 b2 h0 h1 (by omega) dst ty pos af gd
 unfold Oper.wp
 rw [h9]
 refine hf M w _ (.refl M) hS ⟨hn,g,rows.length,cap,e2,?_⟩
 by_cases hc:cap=l.toNat
 ·rw [if_pos hc,if_pos hc]
 ·rw [if_neg hc,if_neg hc]
  simp only [Option.map,Addr.add_lit,Nat.zero_add]
theorem cO_sl3 {P:Program} {op:Op} {n:Nat} {x:X} {lo hi mx:Option X} (ho:cO P op = .sl3 n x lo hi mx):
  ∃T y l h m e,op = .slice T y l h (some m)∧P.underlying T=some (.slice e)∧Z6 P e=some n∧cX y=x∧l.map cX=lo∧h.map cX=hi∧some (cX m)=mx:=by
 cases op
 case slice T y l h mx'=>
  simp only [cO] at ho
  split at ho
  ·split at ho<;>simp at ho
  ·rename_i m e hu
   split at ho
   ·rename_i n' hn
    simp only [EO.sl3.injEq] at ho
    obtain ⟨rfl,rfl,rfl,rfl,rfl⟩:=ho
    exact ⟨T,y,l,h,_,_,rfl,hu,hn,rfl,rfl,rfl,rfl⟩
   ·simp at ho
  ·simp at ho
  ·simp at ho
 all_goals (simp only [cO] at ho;(repeat' (split at ho))<;>simp at ho)
theorem sem_sl3 {j T n:Nat} {x xl xh xm:X} {rows:List (List AV)} {l h m:Int} (hx:S.x x = .osl j) (hj:Zf S.ss j=some ⟨T,n,rows⟩) (hr:0<rows.length) (hl:S.x xl = .iv l) (hh:S.x xh = .iv h) (hm:S.x xm = .iv m) (h0:0≤l) (h1:l≤h) (h2:h≤m) (h3:m≤rows.length):
  Z43 c S (.sl3 n x (some xl) (some xh) (some xm)) .any S:=by
 intro ro h9 M a w h6 next Q hc
 obtain ⟨dst,op,ty,pos,af,gd⟩:=ro
 dsimp only at h9
 obtain ⟨T',y,lo',hi',mx',e,rfl,hu,hs,rfl,q1,q2,q3⟩:=cO_sl3 h9
 cases lo' with
 | none=>simp at q1
 | some lo'=>
   cases hi' with
   | none=>simp at q2
   | some hi'=>
     simp only [Option.map_some,Option.some.injEq] at q1 q2 q3
     have hS:=h6.st
     have k1:=Z22 h6 y
     rw [hx] at k1
     obtain ⟨g,cap,cur,vss,e2,e3,e4,e5,e6,v1,v2,e7⟩:=Z26 hS hj hr
     have b1:=Z22 h6 lo'
     have b2:=Z22 h6 hi'
     have b3:=Z22 h6 mx'
     rw [q1,hl] at b1
     rw [q2,hh] at b2
     rw [q3,hm] at b3
     simp only [AV.is] at b1 b2 b3
     have k1':=k1.2.trans e2
     have h8:∃v,(execOp a.eval ⟨dst,.slice T' y (some lo') (some hi') (some mx'),ty,pos,af,gd⟩).run c.P w = .ok (.value v) w:=by
      have key:(Instr.sliceBounds true rows.length cap ((some lo').map a.eval) ((some hi').map a.eval) (some (a.eval mx'))).run c.P w = .ok (l.toNat,h.toNat,m.toNat) w:=by
       simp [Instr.sliceBounds,Instr.sliceBound,asIntOf,b1,b2,b3,show 0≤m by omega,show m≤(cap:Int) by omega,show 0≤h by omega,h0,h1,h2,Int.toNat_of_nonneg (show 0≤m by omega),Int.toNat_of_nonneg (show 0≤h by omega)]
      generalize a.eval=ρ at *
      refine ⟨.slice (if m.toNat=l.toNat then some ⟨g,0,none⟩ else (some ⟨g,0,none⟩:Option Addr).map (·.add (l.toNat*n))) (h.toNat-l.toNat) (m.toNat-l.toNat),?_⟩
      simp only [Option.map_some] at key
      simp [execOp,Instr.sliceAt,Instr.slice,k1',run_underlying hu,Z52 hs,key]
     obtain ⟨v,h8⟩:=h8
     unfold Oper.wp
     rw [h8]
     exact hc M w _ (.refl M) hS trivial
theorem cO_clr {P:Program} {op:Op} {z:List AV} {x:X} (ho:cO P op = .clr z x):∃p t e n,op = .call ⟨.builtin .clear, #[p], #[t]⟩∧P.underlying t=some (.slice e)∧Z5 P e=some z∧Z6 P e=some n∧z.length=n∧0<n∧cX p=x:=by
 cases op
 case call ci=>
  obtain ⟨callee,cargs,argTypes⟩:=ci
  cases callee with
  | value o=>
    cases o with
    | func f'=>simp only [cO] at ho;(repeat' (split at ho))<;>simp at ho
    | _=>simp [cO] at ho
  | invoke _ _=>simp [cO] at ho
  | builtin b=>
    cases b
    case clear=>
     simp only [cO] at ho
     split at ho
     ·rename_i t0 p h1 h2
      split at ho
      ·rename_i e hu
       split at ho
       ·rename_i z' n hz hs
        split at ho
        ·rename_i hc
         simp only [EO.clr.injEq] at ho
         obtain ⟨rfl,rfl⟩:=ho
         have e1:cargs = #[p]:=by apply Array.ext';simpa using h2
         have e2:argTypes = #[t0]:=by apply Array.ext';simpa using h1
         subst e1;subst e2
         exact ⟨p,t0,e,n,rfl,hu,hz,hs,hc.1,hc.2,rfl⟩
        ·simp at ho
       ·simp at ho
      ·simp at ho
     ·simp at ho
    all_goals (simp only [cO] at ho;(repeat' (split at ho))<;>simp at ho)
 all_goals (simp only [cO] at ho;(repeat' (split at ho))<;>simp at ho)
theorem Z66 (z:Array Value):∀n,(Builtin.zeroCells z n).toList=(List.replicate n z.toList).flatten
 | 0=>by simp [Builtin.zeroCells]
 | n+1=>by
   have ih:=Z66 z n
   simp only [Builtin.zeroCells,Array.toList_map,Array.toList_range] at ih ⊢
   rw [List.replicate_succ',List.flatten_append,←ih,Nat.add_mul,Nat.one_mul,List.range_add,List.map_append]
   congr 1
   rw [List.map_map]
   simp only [List.flatten_cons,List.flatten_nil,List.append_nil]
   refine List.ext_getElem? fun i=>?_
   rw [List.getElem?_map]
   by_cases hi:i<z.size
   ·rw [List.getElem?_range hi]
    simp only [Option.map_some,Function.comp,Nat.mul_add_mod_self_right]
    rw [Nat.mod_eq_of_lt hi]
    simp [hi]
   ·rw [List.getElem?_eq_none (by simp;omega),List.getElem?_eq_none (by simp;omega)];rfl
theorem sem_clr {j T n lo m:Nat} {x:X} {z:List AV} {rows:List (List AV)} (hx:S.x x = .ocs j lo n m) (hj:Zf S.ss j=some ⟨T,n,rows⟩) (hr:0<rows.length) (hB:lo+m≤rows.length) (z':List AV) (hz:AV.le.leL z z') (hp:Zo z'=true) (hn:z.length=n) (h1:Zk z=true):
  Z43 c S (.clr z x) (.tup []) ⟨S.tm,S.bs,Zg S.ss j (some ⟨T,n,rows.take lo++List.replicate m z'++rows.drop (lo+m)⟩)⟩:=by
 intro ro hc M a w hT next Q hd
 obtain ⟨dst,op,ty,pos,af,gd⟩:=ro
 dsimp only at hc
 obtain ⟨p,t,e,n',rfl,hu,hD,hs,hK,hL,rfl⟩:=cO_clr hc
 have hE:n'=n:=by omega
 subst hE
 have k1:=Z22 hT p
 rw [hx] at k1
 obtain ⟨hN,g1,n1,c1,k1,k1'⟩:=k1
 obtain ⟨g,cap,cur,vss,e2,e3,e4,e5,e6,v1,v2,e7⟩:=Z26 hT.st hj hr
 rw [e2] at k1
 simp only [Value.slice.injEq,Option.some.injEq,Addr.mk.injEq] at k1
 obtain ⟨⟨rfl,_⟩,_,rfl⟩:=k1
 obtain ⟨i,u,hi,h9,hO,rfl⟩:=Zc2 hD
 have hG:AV.isL M.sl z' u.cells.toList:=Zq1 (Zn1 M) _ _ (Zt1 _ _ (Zw2 (M:=M) _ _ _ hz (Zs1 M _)) hp)
 have ho:u.cells.toList.length=n':=by simpa using hn
 have hw:∀v∈u.cells.toList,v.oneCell'=true:=Zg2 (Zs1 M _) h1 hT.st.so
 have hC:=Zu5 hG m
 rw [ho] at hC
 have he:∀v∈(List.replicate m u.cells.toList).flatten,v.oneCell'=true:=fun v hv=>by
  obtain ⟨l,hl,hv⟩:=List.mem_flatten.1 hv
  rw [List.eq_of_mem_replicate hl] at hv
  exact hw v hv
 have hf:=Zc4 hC
 rw [List.length_replicate] at hf
 have hW:=Z16 hT.st hj e2 e3 e4 e5 e6 v1 v2 e7 (A:=lo) hC he (by rw [List.length_replicate];exact hB)
 rw [List.length_replicate] at hW
 by_cases hI:m=0
 ·subst hI
  have h6:(execOp a.eval ⟨dst,.call ⟨.builtin .clear, #[p], #[t]⟩,ty,pos,af,gd⟩).run c.P w = .ok (.value (.tuple #[])) w:=by
   generalize a.eval=ρ at *
   simp [execOp,resolve,invoke,builtin,Builtin.clear_,run_underlying hu,k1']
  unfold Oper.wp
  rw [h6]
  refine hd M _ _ (.refl M) ?_ ⟨[],rfl,rfl⟩
  simp only [List.replicate_zero,List.append_nil,Nat.add_zero,List.take_append_drop]
  show RelS c M S.bs (Zg S.ss j (some ⟨T,n',rows⟩)) w
  rw [oput_self _ _ _ hj];exact hT.st
 ·have hA:¬cap=lo:=by omega
  rw [if_neg hA] at k1'
  have q1:(lo+m)*n'≤cap*n':=Nat.mul_le_mul_right _ (by omega)
  rw [Nat.add_mul] at q1
  have h8:=run_storeCells_at c.P g (lo*n') T (List.replicate m u.cells.toList).flatten 0 cur w e3 (by rw [Nat.add_zero,hf,e6];exact q1) he
  rw [Nat.add_zero] at h8
  have h6:(execOp a.eval ⟨dst,.call ⟨.builtin .clear, #[p], #[t]⟩,ty,pos,af,gd⟩).run c.P w = .ok (.value (.tuple #[])) (w.setRow g (cur.toList.take (lo*n')++(List.replicate m u.cells.toList).flatten++cur.toList.drop (lo*n'+(List.replicate m u.cells.toList).flatten.length)).toArray):=by
   have hJ:(zeroValue e).run c.P w = .ok u w:=by simp [zeroValue,typeInfo,hi,h9]
   rw [←Z66] at h8 ⊢
   generalize a.eval=ρ at *
   obtain ⟨m',rfl⟩:∃m',m=m'+1:=⟨m-1,by omega⟩
   simp [execOp,resolve,invoke,builtin,Builtin.clear_,run_underlying hu,k1',hJ,h8]
  unfold Oper.wp
  rw [h6]
  exact hd M _ _ (.refl M) hW ⟨[],rfl,rfl⟩
theorem sem_appV {j e n b i lo m:Nat} {x y:X} {rows:List (List AV)} (hx:S.x x = .ocs j 0 n i) (hy:S.x y = .ocs j lo n m) (hj:Zf S.ss j=some ⟨e,n,rows⟩) (hr:0<rows.length) (h1:i+m≤rows.length) (h2:lo+m≤rows.length):
  Z43 c S (.app e n b x y) (.ocs j 0 n (i+m)) ⟨S.tm,S.bs,Zg S.ss j (some ⟨e,n,rows.take i++(rows.take (lo+m)).drop lo++rows.drop (i+m)⟩)⟩:=by
 intro ro hf M a w hT next Q hB
 obtain ⟨dst,op,ty,pos,af,gd⟩:=ro
 dsimp only at hf
 obtain ⟨t,p,q,inf,z,rfl,hu,hi,hz,h9,hE,hG,hI,rfl,rfl⟩:=cO_app hf
 have k1:=Z22 hT p
 have k2:=Z22 hT q
 rw [hx] at k1
 rw [hy] at k2
 obtain ⟨hC,g1,n1,c1,k1,k1'⟩:=k1
 obtain ⟨_,g2,n2,c2,k2,k2'⟩:=k2
 obtain ⟨g,cap,cur,vss,e2,e3,e4,e5,e6,v1,v2,e7⟩:=Z26 hT.st hj hr
 rw [e2] at k1 k2
 simp only [Value.slice.injEq,Option.some.injEq,Addr.mk.injEq] at k1 k2
 obtain ⟨⟨rfl,_⟩,_,rfl⟩:=k1
 obtain ⟨⟨rfl,_⟩,_,rfl⟩:=k2
 rw [Nat.zero_mul,ite_self,Nat.sub_zero] at k1'
 have hw:=Z55 v1 lo (lo+m)
 have h6:=Zc4 hw
 have hk:((rows.take (lo+m)).drop lo).length=m:=by rw [List.length_drop,List.length_take];omega
 rw [hk] at h6
 have h8:=(Zi5 v1).1
 have hn:((vss.take (lo+m)).drop lo).flatten=(vss.flatten.take ((lo+m)*n)).drop (lo*n):=by
  rw [(Z06 (fun v hv=>h8 v (List.mem_of_mem_take hv)) lo).2,(Z06 h8 _).1]
 have hd:∀v∈((vss.take (lo+m)).drop lo).flatten,v.oneCell'=true:=fun v hv=>by
  rw [hn] at hv;exact v2 v (List.mem_of_mem_take (List.mem_of_mem_drop hv))
 have q1:(i+m)*n≤cap*n:=Nat.mul_le_mul_right _ (by omega)
 rw [Nat.add_mul] at q1
 have he:∀(u:Nat) v,((vss.take (lo+m)).drop lo).flatten[u]?=some v→w.cell? ((⟨g,if cap=lo then 0 else lo*n,none⟩:Addr).add u)=some v:=fun u v hv=>by
  by_cases hc:cap=lo
  ·have hD:m=0:=by omega
   have ho:((vss.take (lo+m)).drop lo).flatten.length=0:=by rw [h6,hD,Nat.zero_mul]
   rw [List.eq_nil_of_length_eq_zero ho] at hv
   simp at hv
  ·rw [if_neg hc]
   rw [hn,List.getElem?_drop,List.getElem?_take] at hv
   split at hv
   ·rw [←e7,List.getElem?_take] at hv
    split at hv
    ·rw [Addr.add_lit]
     simp only [World.cell?,e3]
     simpa using hv
    ·simp at hv
   ·simp at hv
 have hA:=app_exec (P:=c.P) (w:=w) (p:=p) (q:=q) (t:=t) (ρ:=a.eval) dst ty pos af gd (by
  rw [k1',k2']
  exact run_append_room (P:=c.P) w t ty e inf hu hi g i cap cur e3 ⟨g,if cap=lo then 0 else lo*n,none⟩ m (cap-lo) ((vss.take (lo+m)).drop lo).flatten (by rw [h6,h9]) he hd (by omega) (by rw [h9,h6,e6];exact q1))
 unfold Oper.wp
 rw [hA,h9]
 have hW:=Z16 hT.st hj e2 e3 e4 e5 e6 v1 v2 e7 (A:=i) hw hd (by rw [hk];omega)
 rw [hk] at hW
 refine hB M _ _ (.refl M) hW ⟨hC,g,rows.length,cap,e2,?_⟩
 rw [Nat.zero_mul,ite_self,Nat.sub_zero]
theorem V_cutV (t j n m:Nat) {L:Sl} (ht:Zd S.tm t = .ocs j 0 n m) (hj:Zf S.ss j=some L) (hn:L.n=n) (hr:0<L.rows.length) (hm:m≤L.rows.length) (h:V c fn K k ⟨Ze S.tm t (.osl (Zj S.ss)),S.bs,Zg S.ss j none++[some ⟨L.T,n,L.rows.take m⟩]⟩):V c fn K k S:=by
 subst hn
 intro rk M a w hc hT
 have hS:=hT.st
 have k1:=hT.tm t
 rw [ht] at k1
 obtain ⟨h9,g1,n1,c1,k1,k1'⟩:=k1
 obtain ⟨g,cap,cur,vss,e2,e3,e4,e5,e6,v1,v2,e7⟩:=Z26 (T:=L.T) (n:=L.n) (rows:=L.rows) hS hj hr
 rw [e2] at k1
 simp only [Value.slice.injEq,Option.some.injEq,Addr.mk.injEq] at k1
 obtain ⟨⟨rfl,_⟩,_,rfl⟩:=k1
 rw [Nat.zero_mul,ite_self,Nat.sub_zero] at k1'
 obtain ⟨g0,_,_,_,_,q4⟩:=hS.slc j L hj
 have hw:=Z55 v1 0 m
 simp only [List.drop_zero] at hw
 have h6:(vss.take m).flatten=vss.flatten.take (m*L.n):=(Z06 (Zi5 v1).1 m).1
 have h8:=Zc4 hw
 rw [List.length_take,Nat.min_eq_left hm] at h8
 have hr:RelS c (M.addS (.slice (some ⟨g,0,none⟩) m cap)) S.bs (Zg S.ss j none++[some (⟨L.T,L.n,L.rows.take m⟩:Sl)]) w:=by
  refine RelS.grown (v:=M.σ j) (vss:=vss.take m) hS (Zf1 _ _ _) ?_ (.inr fun i B hi=>hS.d2 i j B L hi hj) q4 ⟨rfl,rfl,rfl,Nat.le_refl _,fun _ _ _=>rfl⟩ (.inl (by rw [e2];rfl)) g0 hw ?_ ?_
  ·intro i N hi
   rw [Ze1] at hi
   split at hi
   ·simp at hi
   ·rename_i e
    refine ⟨hi,fun g hg e2=>e ⟨?_,Zg1 hj⟩⟩
    exact hS.d3 i j N L g hi hj e2 hg
  ·intro v hv
   rw [h6] at hv
   exact v2 v (List.mem_of_mem_take hv)
  ·refine ⟨by rw [h8,List.length_take,Nat.min_eq_left hm],.inr ⟨g,cap,cur,by rw [List.length_take,Nat.min_eq_left hm],Nat.zero_le _,e3,by rw [List.length_take,Nat.min_eq_left hm];omega,e5,e6,?_⟩⟩
   rw [List.length_take,Nat.min_eq_left hm,h6,←e7,List.take_take,Nat.min_eq_left (Nat.mul_le_mul_right _ hm)]
 have hle:=Mem.le_addS M (.slice (some ⟨g,0,none⟩) m cap)
 refine h rk _ a w hc ⟨by rw [Zc1];exact hT.len,fun u=>?_,hT.df,hr⟩
 rw [Zb1]
 split
 ·rename_i e
  have hu:=hT.tm u
  obtain ⟨rfl,_⟩:=e
  refine ⟨by rw [Za1,←hS.ns];exact Nat.lt_succ_self _,?_⟩
  rw [k1',Za1,←hS.ns]
  simp [Mem.addS]
 ·exact Zp1 hle _ _ (hT.tm u)
end
end NX
end Go.Proofs.YtdjkbodnjhgbcaaGreat
/-
  The symbolic machine: strings. No statement of the seat is proved here.
-/
namespace Go.Proofs.YtdjkbodnjhgbcaaGreat
namespace NX
open Go Go.RowKit
section
variable {c:Ctx} {M:Mem} {S S':St} {a:Act} {w:World} {fn:Func} {K:AV→List (Option Blk)→List (Option Sl)→Prop} {k:List It}
end
end NX
end Go.Proofs.YtdjkbodnjhgbcaaGreat
/-
  The symbolic machine: strings in drawn regions, arrays by their addresses, parts of own slices with a model. No statement of the seat is proved here.
-/
namespace Go.Proofs.YtdjkbodnjhgbcaaGreat
namespace NX
open Go Go.RowKit
section
variable {c:Ctx} {M:Mem} {S S':St} {a:Act} {w:World} {fn:Func} {K:AV→List (Option Blk)→List (Option Sl)→Prop} {k:List It}
section
variable {all:Array Oper} {ops:List EOp} {af:List (List Nat)} {Φ:St→Prop} {m':Nat} {ld:List Bool} {nap:List (List Nat)}
end
theorem GO_callT {all:Array Oper} {ops:List EOp} {af:List (List Nat)} {Φ:St→Prop} {m':Nat} {ld:List Bool} (h6:all.toList.mapM (Za c.P all)=some ops) {i f:Nat} {xs:List X} {args:List AV} {v:AV} {bs bs':List (Option Blk)} {ss ss':List (Option Sl)} (lb ls:List Bool) (ho:(Z71 ops i).o = .call f xs) (hg:gm S (Z71 ops i).g) (hf:Zq5 c.P f args bs ss v bs' ss')
  (h8:msk lb S.bs=bs:=by rfl) (h9:msk ls S.ss=ss:=by rfl) (hc:mrg lb S.bs bs'=S.bs:=by rfl) (ha:AV.le.leL (Zq S xs) args:=by first | exact Zi4 _ | simp [go_sem])
  (h:G c all ops af Φ m' (Z41 ld i) ((⟨S.tm,S.bs,mrg ls S.ss ss'⟩:St).put (Z71 ops i).d v)):GO c all ops af Φ m' ld S i:=by
 refine Z94 (S1:=⟨S.tm,S.bs,mrg ls S.ss ss'⟩) h6 hg ?_ rfl (fun _ _ _ _ h1 _ _=>h1) h
 rw [ho]
 have:=Zr5 (c:=c) lb ls hf h8 h9 ha
 rw [hc] at this
 exact this
def vw_ (n:Int) (lo hi:Int):Option Unit:=if 0<n∧0≤lo∧lo≤hi∧hi≤n then some () else none
theorem Z76 {n lo hi:Int} {u:Unit} (h:vw_ n lo hi=some u):0<n∧0≤lo∧lo≤hi∧hi≤n:=by
 unfold vw_ at h
 split at h
 ·assumption
 ·simp at h
def clr_ {α:Type} (l:List α) (lo m:Nat) (z:α):Option (List α):=if 0<l.length∧lo+m≤l.length then some (l.take lo++List.replicate m z++l.drop (lo+m)) else none
def mvv_ {α:Type} (l:List α) (i lo m:Nat):Option (List α):=if 0<l.length∧i+m≤l.length∧lo+m≤l.length then some (l.take i++(l.take (lo+m)).drop lo++l.drop (i+m)) else none
def cut_ {α:Type} (l:List α) (m:Nat):Option (List α):=if 0<l.length∧m≤l.length then some (l.take m) else none
variable {α:Type}
theorem V_viewM {l':List α} {u:Unit} {d:Option Nat} {g:Option (Nat×Bool)} {ol:List EOp} {T n j:Nat} {x:X} {lo hi:Option X} {l h:Int} (f:α→List AV) (hv:vw_ (ln f l') l h=some u) (hg:gm S g) (hx:S.x x = .osl j) (hj:Zf S.ss j=some ⟨T,n,l'.map f⟩) (h6:bnd S lo 0=some l) (h8:bnd S hi (ln f l')=some h)
  (hV:V c fn K (.ops ol::k) (S.put d (.ocs j l.toNat n (h.toNat-l.toNat)))):V c fn K (.ops (⟨d,g,.slice n x lo hi⟩::ol)::k) S:=by
 obtain ⟨h0,h1,h2,h3⟩:=Z76 hv
 unfold ln at h0 h3
 exact Z53 hg (Z46 hx hj (by omega) h6 h8 h1 h2 h3) rfl hV
theorem Z86 {all:Array Oper} {ops:List EOp} {af:List (List Nat)} {Φ:St→Prop} {m':Nat} {ld:List Bool} {i:Nat} {l':List α} {u:Unit} {T n j:Nat} {x:X} {lo hi:Option X} {l h:Int} (f:α→List AV) (hv:vw_ (ln f l') l h=some u) (h6:all.toList.mapM (Za c.P all)=some ops) (ho:(Z71 ops i).o = .slice n x lo hi) (hg:gm S (Z71 ops i).g) (hx:S.x x = .osl j) (hj:Zf S.ss j=some ⟨T,n,l'.map f⟩) (h8:bnd S lo 0=some l) (h9:bnd S hi (ln f l')=some h)
  (hV:G c all ops af Φ m' (Z41 ld i) (S.put (Z71 ops i).d (.ocs j l.toNat n (h.toNat-l.toNat)))):GO c all ops af Φ m' ld S i:=by
 obtain ⟨h0,h1,h2,h3⟩:=Z76 hv
 unfold ln at h0 h3
 exact Z94 h6 hg (by rw [ho];exact Z46 hx hj (by omega) h8 h9 h1 h2 h3) rfl (fun _ _ _ _ h1 _ _=>h1) hV
theorem V_viewVM {l':List α} {u:Unit} {d:Option Nat} {g:Option (Nat×Bool)} {ol:List EOp} {T n j m:Nat} {x:X} {lo hi:Option X} {l h:Int} (f:α→List AV) (hv:vw_ (ln f l') l h=some u) (hg:gm S g) (hx:S.x x = .ocs j 0 n m) (hj:Zf S.ss j=some ⟨T,n,l'.map f⟩) (h6:bnd S lo 0=some l) (h8:bnd S hi m=some h)
  (hV:V c fn K (.ops ol::k) (S.put d (.ocs j l.toNat n (h.toNat-l.toNat)))):V c fn K (.ops (⟨d,g,.slice n x lo hi⟩::ol)::k) S:=by
 obtain ⟨h0,h1,h2,h3⟩:=Z76 hv
 unfold ln at h0 h3
 exact Z53 hg (sem_viewV hx hj (by omega) h6 h8 h1 h2 h3) rfl hV
theorem V_sl3M {l':List α} {u u':Unit} {d:Option Nat} {g:Option (Nat×Bool)} {ol:List EOp} {T n j:Nat} {x xl xh xm:X} {l h m:Int} (f:α→List AV) (hv:vw_ (ln f l') l h=some u) (hv':vw_ (ln f l') h m=some u') (hg:gm S g) (hx:S.x x = .osl j) (hj:Zf S.ss j=some ⟨T,n,l'.map f⟩) (h6:S.x xl = .iv l) (h8:S.x xh = .iv h) (hm:S.x xm = .iv m)
  (hV:V c fn K (.ops ol::k) (S.put d .any)):V c fn K (.ops (⟨d,g,.sl3 n x (some xl) (some xh) (some xm)⟩::ol)::k) S:=by
 obtain ⟨h0,h1,h2,h3⟩:=Z76 hv
 obtain ⟨_,_,h4,h5⟩:=Z76 hv'
 unfold ln at h0 h5
 exact Z53 hg (sem_sl3 hx hj (by omega) h6 h8 hm h1 h2 h4 h5) rfl hV
theorem V_clrM {l' v:List α} {d:Option Nat} {g:Option (Nat×Bool)} {ol:List EOp} {T n j lo m:Nat} {x:X} {z:List AV} {y:α} (f:α→List AV) (hv:clr_ l' lo m y=some v) (hg:gm S g) (hx:S.x x = .ocs j lo n m) (hj:Zf S.ss j=some ⟨T,n,l'.map f⟩) (hz:AV.le.leL z (f y)) (hp:Zo (f y)=true) (hn:z.length=n) (h1:Zk z=true)
  (hV:V c fn K (.ops ol::k) ((⟨S.tm,S.bs,Zg S.ss j (some ⟨T,n,v.map f⟩)⟩:St).put d (.tup []))):V c fn K (.ops (⟨d,g,.clr z x⟩::ol)::k) S:=by
 unfold clr_ at hv
 split at hv
 ·rename_i hb
  simp only [Option.some.injEq] at hv;subst hv
  refine Z53 hg (sem_clr hx hj (by simpa using hb.1) (by simpa using hb.2) (f y) hz hp hn h1) rfl ?_
  simpa [List.map_append,List.map_take,List.map_drop,List.map_replicate] using hV
 ·simp at hv
theorem GO_appVM {all:Array Oper} {ops:List EOp} {af:List (List Nat)} {Φ:St→Prop} {m':Nat} {ld:List Bool} {i':Nat} {l' v:List α} {e n b j i lo m:Nat} {x y:X} (f:α→List AV) (hv:mvv_ l' i lo m=some v) (h6:all.toList.mapM (Za c.P all)=some ops) (ho:(Z71 ops i').o = .app e n b x y) (hg:gm S (Z71 ops i').g) (hx:S.x x = .ocs j 0 n i) (hy:S.x y = .ocs j lo n m) (hj:Zf S.ss j=some ⟨e,n,l'.map f⟩)
  (hV:G c all ops af Φ m' (Z41 ld i') ((⟨S.tm,S.bs,Zg S.ss j (some ⟨e,n,v.map f⟩)⟩:St).put (Z71 ops i').d (.ocs j 0 n (i+m)))):GO c all ops af Φ m' ld S i':=by
 unfold mvv_ at hv
 split at hv
 ·rename_i hb
  simp only [Option.some.injEq] at hv;subst hv
  refine Z94 (S1:=⟨S.tm,S.bs,Zg S.ss j (some ⟨e,n,(l'.take i++(l'.take (lo+m)).drop lo++l'.drop (i+m)).map f⟩)⟩) h6 hg ?_ rfl (fun _ _ _ _ h1 _ _=>h1) hV
  rw [ho]
  have:=sem_appV (c:=c) (b:=b) hx hy hj (by simpa using hb.1) (by simpa using hb.2.1) (by simpa using hb.2.2)
  simpa [List.map_append,List.map_take,List.map_drop] using this
 ·simp at hv
theorem V_cutVM {l' v:List α} (t j n m:Nat) {T:Nat} (f:α→List AV) (hv:cut_ l' m=some v) (ht:Zd S.tm t = .ocs j 0 n m) (hj:Zf S.ss j=some ⟨T,n,l'.map f⟩)
  (h:V c fn K k ⟨Ze S.tm t (.osl (Zj S.ss)),S.bs,Zg S.ss j none++[some ⟨T,n,v.map f⟩]⟩):V c fn K k S:=by
 unfold cut_ at hv
 split at hv
 ·rename_i hb
  simp only [Option.some.injEq] at hv;subst hv
  refine V_cutV t j n m ht hj rfl (by simpa using hb.1) (by simpa using hb.2) ?_
  rw [List.map_take] at h
  exact h
 ·simp at hv
end
end NX
end Go.Proofs.YtdjkbodnjhgbcaaGreat
/-
  The symbolic machine: an own slice of which one row has the name of another own slice. No statement of the seat is proved here.
-/
namespace Go.Proofs.YtdjkbodnjhgbcaaGreat
namespace NX
open Go Go.RowKit
def fixR (rows:List (List AV)) (z off k:Nat):List (List AV):=
 match rows[z]? with
 | none=>rows
 | some r=>match Zi r off [.osl k] with
   | none=>rows
   | some r'=>rows.set z r'
theorem lwr_ok {nb ns:Nat} {a:AV}:∀ {l r:List AV},lwr l [a]=some r→Zx nb ns l=true→a.ok nb ns=true→Zx nb ns r=true
 | [],_,h,_,_=>by simp [lwr] at h
 | x::l,r,h,hl,ha=>by
   simp only [lwr,Option.map_some,Option.some.injEq] at h
   subst h
   simp only [Zx,Z81] at hl ⊢
   exact ⟨ha,hl.2⟩
theorem lset_ok {nb ns:Nat} {a:AV}:∀ {o:Nat} {l r:List AV},Zi l o [a]=some r→Zx nb ns l=true→a.ok nb ns=true→Zx nb ns r=true
 | 0,l,r,h,hl,ha=>lwr_ok (l:=l) (by simpa [Zi] using h) hl ha
 | o+1,[],_,h,_,_=>by simp [Zi] at h
 | o+1,x::l,r,h,hl,ha=>by
   simp only [Zi,Option.map_eq_some_iff] at h
   obtain ⟨q,hq,rfl⟩:=h
   simp only [Zx,Z81] at hl ⊢
   exact ⟨hl.1,lset_ok hq hl.2 ha⟩
theorem Z96 {ns:Nat}:∀ {l:List (List AV)} {i:Nat} {r:List AV},Zy ns l=true→l[i]?=some r→Zx 0 ns r=true
 | [],_,_,_,h=>by simp at h
 | x::l,0,_,h,hi=>by simp only [Zy,Z81] at h;simp at hi;subst hi;exact h.1
 | x::l,i+1,_,h,hi=>by simp only [Zy,Z81] at h;exact Z96 h.2 (by simpa using hi)
theorem Za6 {ns:Nat} {rows:List (List AV)} {z off k:Nat} (h:Zy ns rows=true) (hk:Z3 (k+1) ns=true):Zy ns (fixR rows z off k)=true:=by
 unfold fixR
 split
 ·exact h
 ·rename_i r hr
  split
  ·exact h
  ·rename_i r' hr'
   exact Zi3 (lset_ok hr' (Z96 h hr) hk) h
@[go_sem] theorem okRows_fixS {ns:Nat} {rows:List (List AV)} {z off k:Nat} (h:Z2 (Zy ns rows) (Z3 (k+1) ns)=true):Zy ns (fixR rows z off k)=true:=by
  rw [Z81] at h;exact Za6 h.1 h.2
@[go_sem] theorem okRows_fixSS {ns:Nat} {l:List (List AV)} {r:List AV} {i z off k:Nat} (h:Z2 (Zy ns l) (Z2 (Zx 0 ns r) (Z3 (k+1) ns))=true):Zy ns (fixR (l.set i r) z off k)=true:=by
  rw [Z81,Z81] at h;exact Za6 (Zi3 h.2.1 h.1) h.2.2
section
variable {c:Ctx} {M:Mem} {S S':St} {a:Act} {w:World} {fn:Func} {K:AV→List (Option Blk)→List (Option Sl)→Prop} {k:List It}
section
variable {all:Array Oper} {ops:List EOp} {af:List (List Nat)} {Φ:St→Prop} {m:Nat} {ld:List Bool}
end
end
end NX
end Go.Proofs.YtdjkbodnjhgbcaaGreat
/-
  The symbolic machine: calls in drawn regions that are lent own blocks. No statement of the seat is proved here.
-/
namespace Go.Proofs.YtdjkbodnjhgbcaaGreat
namespace NX
open Go Go.RowKit
mutual
theorem ren_pu (p q:Nat):∀(x:AV),x.pu=true→AV.ren p q x=x:=by
 intro x h
 cases x<;>simp_all [AV.pu,AV.ren]
 all_goals exact Zb6 p q _ h
theorem Zb6 (p q:Nat):∀(l:List AV),Zo l=true→renL p q l=l
 | [],_=>rfl
 | x::l,h=>by
   simp only [Zo] at h
   cases hx:x.pu<;>simp [hx,Z2] at h
   simp [renL,ren_pu p q x hx,Zb6 p q l h]
end
def fixB (af:List (List Nat)) (i:Nat):List EOp→Nat→Bool
 | [],_=>true
 | o::l,k=>Z2 (match isLd o.o with | true=>orb (memN k (Z61 af i)) (memN i (Z61 af k)) | false=>true) (fixB af i l (k+1))
theorem fixB_get {af:List (List Nat)} {i:Nat}:∀ {l:List EOp} {k:Nat},fixB af i l k=true→∀j,isLd (Z71 l j).o=true→k+j∈Z61 af i∨i∈Z61 af (k+j)
 | [],_,_,j,h=>by simp [Z71,isLd] at h
 | o::l,k,h,0,hl=>by
   simp only [fixB,Z81] at h
   simp only [Z71] at hl
   rw [hl] at h
   have:=h.1
   simp only [orb_iff,Zo3] at this
   simpa using this
 | o::l,k,h,j+1,hl=>by
   simp only [fixB,Z81] at h
   have:=fixB_get h.2 j (by simpa [Z71] using hl)
   rw [show k+(j+1)=k+1+j by omega];exact this
theorem fixL_of {ops:List EOp} {af:List (List Nat)} {i:Nat} (h:fixB af i ops 0=true):fixL ops af i:=fun k hk=>by
 have:=fixB_get h k hk
 rwa [Nat.zero_add] at this
section
variable {c:Ctx} {S:St} {all:Array Oper} {ops:List EOp} {af:List (List Nat)} {Φ:St→Prop} {m':Nat} {ld:List Bool}
theorem GO_callTF (h6:all.toList.mapM (Za c.P all)=some ops) {i f:Nat} {xs:List X} {args:List AV} {v:AV} {bs bs':List (Option Blk)} {ss ss':List (Option Sl)} (h8:fixB af i ops 0=true) (lb ls:List Bool) (ho:(Z71 ops i).o = .call f xs) (hg:gm S (Z71 ops i).g) (hf:Zq5 c.P f args bs ss v bs' ss')
  (h9:msk lb S.bs=bs:=by rfl) (hc:msk ls S.ss=ss:=by rfl) (ha:AV.le.leL (Zq S xs) args:=by first | exact Zi4 _ | simp [go_sem])
  (h:G c all ops af Φ m' (Z41 ld i) ((⟨S.tm,mrg lb S.bs bs',mrg ls S.ss ss'⟩:St).put (Z71 ops i).d v)):GO c all ops af Φ m' ld S i:=
 GO_semF (S1:=⟨S.tm,mrg lb S.bs bs',mrg ls S.ss ss'⟩) h6 hg (by rw [ho];exact Zr5 (c:=c) lb ls hf h9 hc ha) rfl (fixL_of h8) h
end
end NX
end Go.Proofs.YtdjkbodnjhgbcaaGreat
