/-
  The symbolic machine: copies into own slices; numbers of other kinds. No statement of the seat is proved here.
-/
import Derived.Laws.CopyRow
import Derived.Laws.IdiomCopy
import Derived.KernelRfl
import Derived.Test.YtadebhbiglmodaaY1
import Derived.Test.YtadebhbiglmodaaY2
namespace Go.Proofs.Ytadebhbiglmodaa
namespace NX
open Go Go.RowKit
theorem cO_copy {P:Program} {op:Op} {n:Nat} {x y:X} (ho:cO P op = .copy n x y):∃p q t u e,op = .call ⟨.builtin .copy, #[p,q], #[t,u]⟩∧P.underlying t=some (.slice e)∧Z6 P e=some n∧cX p=x∧cX q=y:=by
 cases op
 case call ci=>
  obtain ⟨callee,cargs,argTypes⟩:=ci
  cases callee with
  | value o=>
    cases o with
    | func f'=>simp only [cO] at ho;(repeat' (split at ho))<;>simp at ho
    | _=>simp [cO] at ho
  | invoke _ _=>simp [cO] at ho
  | builtin b=>
    cases b
    case copy=>
     simp only [cO] at ho
     split at ho
     ·rename_i t0 u0 p q h1 h2
      split at ho
      ·rename_i e hu
       split at ho
       ·rename_i m hs
        simp only [EO.copy.injEq] at ho
        obtain ⟨rfl,rfl,rfl⟩:=ho
        have e1:cargs = #[p,q]:=by apply Array.ext';simpa using h2
        have e2:argTypes = #[t0,u0]:=by apply Array.ext';simpa using h1
        subst e1;subst e2
        exact ⟨p,q,t0,u0,e,rfl,hu,hs,rfl,rfl⟩
       ·simp at ho
      ·simp at ho
     ·simp at ho
    all_goals (simp only [cO] at ho;(repeat' (split at ho))<;>simp at ho)
 all_goals (simp only [cO] at ho;(repeat' (split at ho))<;>simp at ho)
@[go_sem] theorem leRows_tt:Zv 1 [[AV.tt]] [[AV.bv true]]=True:=eq_true ⟨rfl,fun M vss h=>by
  obtain ⟨vs,r,rfl,h1,h2,h3⟩:=h
  obtain ⟨v,l,rfl,h4,h5⟩:=h2
  exact ⟨_,_,rfl,h1,⟨_,_,rfl,h4,h5⟩,h3⟩⟩
section
variable {c:Ctx} {M:Mem} {S S':St} {a:Act} {w:World} {fn:Func} {K:AV→List (Option Blk)→List (Option Sl)→Prop} {k:List It}
theorem Zdb {P:Program} {e n:Nat} (h:Z6 P e=some n):(P.info? e).map (·.size)=some n:=by
 unfold Z6 at h
 simpa using h
theorem own_write (h:RelS c M S.bs S.ss w) {j T:Nat} {rows:List (List AV)} (hj:Zf S.ss j=some ⟨T,1,rows⟩) {g cap:Nat} {cur:Array Value} (e2:M.σ j = .slice (some ⟨g,0,none⟩) rows.length cap) (e3:w.heap[g]?=some (.cells cur T (0,0))) (e4:rows.length≤cap) (e5:cap≤maxLen) (e6:cur.size=cap*1)
  {vss:List (List Value)} (v1:AV.isLL M.pure 1 rows vss) (v2:∀v∈vss.flatten,v.oneCell'=true) (e7:cur.toList.take (rows.length*1)=vss.flatten) {A:Nat} {R:List (List AV)} {C:List (List Value)} (hR:AV.isLL M.pure 1 R C) (hC:∀v∈C.flatten,v.oneCell'=true) (hA:A+R.length≤rows.length):
  RelS c M S.bs (Zg S.ss j (some ⟨T,1,rows.take A++R++rows.drop (A+R.length)⟩)) (w.setRow g (cur.toList.take A++C.flatten++cur.toList.drop (A+C.flatten.length)).toArray):=by
 have hlC:=Zz3 hR
 have hlv:=Zz3 v1
 rw [Nat.mul_one] at hlC hlv e6 e7
 have hflat:∀(l:List (List Value)),(∀v∈l,v.length=1)→∀k,(l.take k).flatten=l.flatten.take k∧(l.drop k).flatten=l.flatten.drop k:=by
  intro l
  induction l with
  | nil=>intro _ k;simp
  | cons v l ih=>
    intro hl k
    have hv:=hl v (by simp)
    cases k with
    | zero=>simp
    | succ k=>
      obtain ⟨i1,i2⟩:=ih (fun u hu=>hl u (by simp [hu])) k
      obtain ⟨u,rfl⟩:∃u,v=[u]:=by
       match v,hv with
       | [u],_=>exact ⟨u,rfl⟩
      simp [i1,i2]
 have hf:=hflat vss (Zz4 v1).1
 have hbl:(w.setRow g (cur.toList.take A++C.flatten++cur.toList.drop (A+C.flatten.length)).toArray).heap[g]?=some (.cells (cur.toList.take A++C.flatten++cur.toList.drop (A+C.flatten.length)).toArray T (0,0)):=by
  rw [Zs1,if_pos rfl,e3];rfl
 have hcl:cur.toList.length=cap:=by simpa using e6
 have hnew:(vss.take A++C++vss.drop (A+R.length)).flatten=vss.flatten.take A++C.flatten++vss.flatten.drop (A+R.length):=by
  rw [List.flatten_append,List.flatten_append,(hf A).1,(hf (A+R.length)).2]
 refine h.rewrite hj (g:=g) (by rw [e2];rfl) (w':=w.setRow g (cur.toList.take A++C.flatten++cur.toList.drop (A+C.flatten.length)).toArray) ⟨rfl,rfl,rfl,by simp [World.setRow],fun k _ hk=>by rw [Zs1,if_neg (fun e=>hk (by rw [e]))]⟩ (vss':=vss.take A++C++vss.drop (A+R.length)) ?_ ?_ ?_
 ·have t1:=Zt4 v1 0 A
  have t2:=Zt4 v1 (A+R.length) rows.length
  simp only [List.drop_zero] at t1
  rw [List.take_of_length_le (Nat.le_refl _),List.take_of_length_le (by have:=(Zz4 v1).2;omega)] at t2
  exact Zy3 (Zy3 t1 hR) t2
 ·intro v hv
  rw [hnew] at hv
  simp only [List.mem_append] at hv
  rcases hv with (hv | hv) | hv
  ·exact v2 v (List.mem_of_mem_take hv)
  ·exact hC v hv
  ·exact v2 v (List.mem_of_mem_drop hv)
 ·have hlen:(rows.take A++R++rows.drop (A+R.length)).length=rows.length:=by simp only [List.length_append,List.length_take,List.length_drop];omega
  refine ⟨?_,.inr ⟨g,cap,_,by rw [hlen];exact e2,Nat.zero_le _,hbl,by rw [hlen];exact e4,e5,?_,?_⟩⟩
  ·rw [hnew,hlen];simp only [List.length_append,List.length_take,List.length_drop];omega
  ·simp only [List.size_toArray,List.length_append,List.length_take,List.length_drop];omega
  ·rw [hnew,hlen,Nat.mul_one,←e7]
   generalize C.flatten=D at *
   generalize cur.toList=L at *
   rw [hlC]
   generalize R.length=r at *
   rw [←hlC] at hA ⊢
   refine List.ext_getElem? fun i=>?_
   simp only [List.getElem?_take,List.getElem?_append,List.length_append,List.length_take,List.getElem?_drop,hcl]
   have hm1:min A cap=A:=by omega
   have hm3:min rows.length cap=rows.length:=by omega
   have hm4:min A rows.length=A:=by omega
   simp only [hm1,hm3]
   by_cases h1:i<rows.length
   ·by_cases h2:i<A+D.length
    ·by_cases h3:i<A
     ·simp [h1,h2,h3,hm4]
     ·simp [h1,h2,h3,hm4]
    ·have h3:A+D.length+(i-(A+D.length))=i:=by omega
     simp [h1,h2,h3,hm4]
   ·by_cases h2:i<A+D.length
    ·omega
    ·have h3:A+D.length+(i-(A+D.length))=i:=by omega
     simp [h1,h2,h3,hm4]
theorem Zeb (h:RelS c M S.bs S.ss w) {j T:Nat} {rows:List (List AV)} (hj:Zf S.ss j=some ⟨T,1,rows⟩) (h0:0<rows.length):
  ∃g cap cur vss,M.σ j = .slice (some ⟨g,0,none⟩) rows.length cap∧w.heap[g]?=some (.cells cur T (0,0))∧rows.length≤cap∧cap≤maxLen∧cur.size=cap*1∧AV.isLL M.pure 1 rows vss∧(∀v∈vss.flatten,v.oneCell'=true)∧cur.toList.take (rows.length*1)=vss.flatten:=by
 obtain ⟨g0,vss,h1,h2,h3,h4⟩:=h.slc j _ hj
 dsimp only at h1 h3 g0
 rcases h3.2 with ⟨_,e3⟩ | ⟨g,cap,cur,e2,_,e3,e4,e5,e6,e7⟩
 ·omega
 ·exact ⟨g,cap,cur,vss,e2,e3,e4,e5,e6,h1,h2,e7⟩
theorem Zfb {P:Program} {w w':World} {p q:Operand} {t u:TypeId} {ρ:Operand→Value} {d:Option Tmp} {ty:TypeId} {pos:String} {af:Array Go.Edge} {gd:Option (Nat×Bool)} {v:Value}
  (h:(Builtin.copy_ #[t,u] ty #[ρ p,ρ q]).run P w = .ok v w'):(execOp ρ ⟨d,.call ⟨.builtin .copy, #[p,q], #[t,u]⟩,ty,pos,af,gd⟩).run P w = .ok (.value v) w':=by
 simp [execOp,resolve,invoke,builtin,h]
theorem sem_copyS {j T:Nat} {x y:X} {rows rs:List (List AV)} (hx:S.x x = .osl j) (hj:Zf S.ss j=some ⟨T,1,rows⟩) (hy:S.x y = .sl 1 rs):
  Zy2 c S (.copy 1 x y) (.iv (min rs.length rows.length:Nat)) ⟨S.tm,S.bs,Zg S.ss j (some ⟨T,1,rs.take (min rs.length rows.length)++rows.drop (min rs.length rows.length)⟩)⟩:=by
 intro ro hop M a w hT next Q hnx
 obtain ⟨dst,op,ty,pos,af,gd⟩:=ro
 dsimp only at hop
 obtain ⟨p,q,t,u,e,rfl,hu,hs,rfl,rfl⟩:=cO_copy hop
 have k1:=Zy1 hT p
 have k2:=Zy1 hT q
 rw [hx] at k1
 rw [hy] at k2
 obtain ⟨sa,sc,k2,_,k3⟩:=k2
 have hself:∀(l:List (Option Sl)) (j:Nat) (L:Sl),Zf l j=some L→Zg l j (some L)=l:=by
  intro l
  induction l with
  | nil=>intro j L h;simp [Zf] at h
  | cons x l ih=>intro j L h;cases j with
    | zero=>simp [Zf] at h;subst h;rfl
    | succ j=>simp only [Zg];rw [ih j L (by simpa [Zf] using h)]
 by_cases h0:min rs.length rows.length=0
 ·have hd:∃d n cp,M.σ j = .slice d n cp∧n=rows.length:=by
   obtain ⟨g0,vss,h1,h2,h3,h4⟩:=hT.st.slc j _ hj
   dsimp only at h3
   rcases h3.2 with ⟨e2,e3⟩ | ⟨g,cap,cur,e2,_⟩
   ·exact ⟨_,_,_,e2,e3.symm⟩
   ·exact ⟨_,_,_,e2,rfl⟩
  obtain ⟨d,n,cp,hd,rfl⟩:=hd
  have hrun:=Zfb (P:=c.P) (w:=w) (w':=w) (p:=p) (q:=q) (t:=t) (u:=u) (ρ:=a.eval) (d:=dst) (ty:=ty) (pos:=pos) (af:=af) (gd:=gd) (v:=goInt 0) (by
   rw [k1.2,hd,k2]
   exact run_copy_none w t u ty e _ _ _ _ _ _ hu (Zdb hs) h0)
  unfold Oper.wp
  rw [hrun]
  refine hnx M w _ (.refl M) ?_ (by rw [h0];rfl)
  rw [h0,List.take_zero,List.drop_zero,List.nil_append]
  show RelS c M S.bs (Zg S.ss j (some ⟨T,1,rows⟩)) w
  rw [hself _ _ _ hj];exact hT.st
 ·have hr1:0<rows.length:=by omega
  have hr2:rs≠ []:=fun e=>by rw [e] at h0;simp at h0
  obtain ⟨g,cap,cur,vss,e2,e3,e4,e5,e6,v1,v2,e7⟩:=Zeb hT.st hj hr1
  obtain ⟨ad,ws,rfl,w1,w2⟩:=k3 hr2
  obtain ⟨c1,c2,cs,cT,cf,c3,c4⟩:=w2
  have hw:=Zt4 w1 0 (min rs.length rows.length)
  simp only [List.drop_zero] at hw
  have hwl:=Zz3 hw
  have hk0:(rs.take (min rs.length rows.length)).length=min rs.length rows.length:=by rw [List.length_take];omega
  rw [Nat.mul_one,hk0] at hwl
  have hwf:(ws.take (min rs.length rows.length)).flatten=ws.flatten.take (min rs.length rows.length):=by
   have h1:=(Zz4 w1).1
   have:∀(l:List (List Value)),(∀v∈l,v.length=1)→∀k,(l.take k).flatten=l.flatten.take k:=by
    intro l
    induction l with
    | nil=>intro _ k;simp
    | cons v l ih=>
      intro hl k
      have hv:=hl v (by simp)
      cases k with
      | zero=>simp
      | succ k=>
        have i1:=ih (fun u hu=>hl u (by simp [hu])) k
        obtain ⟨u,rfl⟩:∃u,v=[u]:=by
         match v,hv with
         | [u],_=>exact ⟨u,rfl⟩
        simp [i1]
   exact this ws h1 _
  have hone:∀v∈(ws.take (min rs.length rows.length)).flatten,v.oneCell'=true:=fun v hv=>by
   rw [hwf] at hv;exact c2 v (List.mem_of_mem_take hv)
  have hcells:∀(i:Nat) v,(ws.take (min rs.length rows.length)).flatten[i]?=some v→w.cell? (ad.add i)=some v:=fun i v hv=>by
   rw [hwf,List.getElem?_take] at hv
   split at hv
   ·have h5:=hT.st.hle _ _ c3
    have h6:=c4 i v hv
    have h7:ad.add i=⟨ad.block,ad.off+i,none⟩:=by
     obtain ⟨b,o,s⟩:=ad
     dsimp only at c1
     subst c1
     exact Addr.add_lit _ _ _
    rw [h7]
    simp [World.cell?,h5,h6]
   ·simp at hv
  have hrun:=Zfb (P:=c.P) (w:=w) (p:=p) (q:=q) (t:=t) (u:=u) (ρ:=a.eval) (d:=dst) (ty:=ty) (pos:=pos) (af:=af) (gd:=gd) (by
   rw [k1.2,e2,k2]
   exact run_copy_row c.P w t u ty e g 0 rows.length cap ad rs.length sc cur T (ws.take (min rs.length rows.length)).flatten hu (Zdb hs) e3 (hwl.trans rfl) hcells (by rw [hwl,Nat.zero_add,e6];omega) hone)
  unfold Oper.wp
  rw [hrun]
  have hW:=own_write hT.st hj e2 e3 e4 e5 e6 v1 v2 e7 (A:=0) hw hone (by rw [List.length_take];omega)
  have hk:(rs.take (min rs.length rows.length)).length=min rs.length rows.length:=by rw [List.length_take];omega
  rw [hk,List.take_zero,List.nil_append,Nat.zero_add] at hW
  refine hnx M _ _ (.refl M) hW ?_
  rw [hwl]
  rfl
theorem Zgb {j T:Nat} {x:X} {lo hi:Option X} {rows:List (List AV)} {l h:Int} (hx:S.x x = .osl j) (hj:Zf S.ss j=some ⟨T,1,rows⟩) (hr:0<rows.length) (hlo:bnd S lo 0=some l) (hhi:bnd S hi rows.length=some h) (h0:0≤l) (h1:l≤h) (h2:h≤rows.length) (h3:l<rows.length):
  Zy2 c S (.slice 1 x lo hi) (.ocs j l.toNat (h.toNat-l.toNat)) S:=by
 intro ro hop M a w hRT next Q hnx
 obtain ⟨dst,op,ty,pos,af,gd⟩:=ro
 dsimp only at hop
 obtain ⟨T',y,lo',hi',e,rfl,hu,hs,rfl,rfl,rfl⟩:=Zs4 hop
 have hS:=hRT.st
 have k1:=Zy1 hRT y
 rw [hx] at k1
 obtain ⟨g,cap,cur,vss,e2,e3,e4,e5,e6,v1,v2,e7⟩:=Zeb hS hj hr
 have hbl:∀(o:Option Operand) (z r:Int),bnd S (o.map cX) z=some r→match o with | none=>r=z | some o=>a.eval o = .int .i64 r:=by
  intro o z r hb
  cases o with
  | none=>simpa [bnd] using hb.symm
  | some o=>
    simp only [Option.map_some,bnd] at hb
    have:=Zy1 hRT o
    split at hb
    ·rename_i n' hn'
     rw [hn'] at this
     simp at hb;subst hb;exact this
    ·simp at hb
 have b1:=hbl lo' 0 l hlo
 have b2:=hbl hi' rows.length h hhi
 have hrun:=slice_run (P:=c.P) (w:=w) hu hs (ρ:=a.eval) (ad:=some ⟨g,0,none⟩) (len:=rows.length) (cp:=cap) (lo:=l) (hi:=h) (k1.2.trans e2) e4 b1 b2 h0 h1 h2 dst ty pos af gd
 unfold Oper.wp
 rw [hrun,if_neg (by omega)]
 refine hnx M w _ (.refl M) hS ⟨k1.1,g,rows.length,cap,cap-l.toNat,e2,?_⟩
 simp only [Option.map,Addr.add_lit,Nat.mul_one,Nat.zero_add]
theorem sem_copyV {j T o1 m1 o2 m2:Nat} {x y:X} {rows:List (List AV)} (hx:S.x x = .ocs j o1 m1) (hy:S.x y = .ocs j o2 m2) (hj:Zf S.ss j=some ⟨T,1,rows⟩) (hr:0<rows.length) (h1:o1+m1≤rows.length) (h2:o2+m2≤rows.length):
  Zy2 c S (.copy 1 x y) (.iv (min m2 m1:Nat)) ⟨S.tm,S.bs,Zg S.ss j (some ⟨T,1,rows.take o1++(rows.take (o2+min m2 m1)).drop o2++rows.drop (o1+min m2 m1)⟩)⟩:=by
 intro ro hop M a w hT next Q hnx
 obtain ⟨dst,op,ty,pos,af,gd⟩:=ro
 dsimp only at hop
 obtain ⟨p,q,t,u,e,rfl,hu,hs,rfl,rfl⟩:=cO_copy hop
 have k1:=Zy1 hT p
 have k2:=Zy1 hT q
 rw [hx] at k1
 rw [hy] at k2
 obtain ⟨_,g1,n1,c1,c1',k1,k1'⟩:=k1
 obtain ⟨_,g2,n2,c2,c2',k2,k2'⟩:=k2
 obtain ⟨g,cap,cur,vss,e2,e3,e4,e5,e6,v1,v2,e7⟩:=Zeb hT.st hj hr
 rw [e2] at k1 k2
 simp only [Value.slice.injEq,Option.some.injEq,Addr.mk.injEq] at k1 k2
 obtain ⟨⟨rfl,_⟩,_⟩:=k1
 obtain ⟨⟨rfl,_⟩,_⟩:=k2
 have hw:=Zt4 v1 o2 (o2+min m2 m1)
 have hwl:=Zz3 hw
 have hk:((rows.take (o2+min m2 m1)).drop o2).length=min m2 m1:=by rw [List.length_drop,List.length_take];omega
 rw [Nat.mul_one,hk] at hwl
 have hflat:∀(l:List (List Value)),(∀v∈l,v.length=1)→∀k,(l.take k).flatten=l.flatten.take k∧(l.drop k).flatten=l.flatten.drop k:=by
  intro l
  induction l with
  | nil=>intro _ k;simp
  | cons v l ih=>
    intro hl k
    have hv:=hl v (by simp)
    cases k with
    | zero=>simp
    | succ k=>
      obtain ⟨i1,i2⟩:=ih (fun u hu=>hl u (by simp [hu])) k
      obtain ⟨u,rfl⟩:∃u,v=[u]:=by
       match v,hv with
       | [u],_=>exact ⟨u,rfl⟩
      simp [i1,i2]
 have hlen1:=(Zz4 v1).1
 have hwf:((vss.take (o2+min m2 m1)).drop o2).flatten=(vss.flatten.take (o2+min m2 m1)).drop o2:=by
  rw [(hflat (vss.take (o2+min m2 m1)) (fun v hv=>hlen1 v (List.mem_of_mem_take hv)) o2).2,(hflat vss hlen1 _).1]
 have hone:∀v∈((vss.take (o2+min m2 m1)).drop o2).flatten,v.oneCell'=true:=fun v hv=>by
  rw [hwf] at hv;exact v2 v (List.mem_of_mem_take (List.mem_of_mem_drop hv))
 have hcells:∀(i:Nat) v,((vss.take (o2+min m2 m1)).drop o2).flatten[i]?=some v→w.cell? ((⟨g,o2,none⟩:Addr).add i)=some v:=fun i v hv=>by
  rw [hwf,List.getElem?_drop,List.getElem?_take] at hv
  split at hv
  ·rw [←e7,List.getElem?_take] at hv
   split at hv
   ·rw [Addr.add_lit]
    simp only [World.cell?,e3]
    simpa using hv
   ·simp at hv
  ·simp at hv
 have hrun:=Zfb (P:=c.P) (w:=w) (p:=p) (q:=q) (t:=t) (u:=u) (ρ:=a.eval) (d:=dst) (ty:=ty) (pos:=pos) (af:=af) (gd:=gd) (by
  rw [k1',k2']
  exact run_copy_row c.P w t u ty e g o1 m1 c1' ⟨g,o2,none⟩ m2 c2' cur T ((vss.take (o2+min m2 m1)).drop o2).flatten hu (Zdb hs) e3 (hwl.trans rfl) hcells (by rw [hwl,e6];omega) hone)
 unfold Oper.wp
 rw [hrun]
 have hW:=own_write hT.st hj e2 e3 e4 e5 e6 v1 v2 e7 (A:=o1) hw hone (by rw [hk];omega)
 rw [hk] at hW
 refine hnx M _ _ (.refl M) hW ?_
 rw [hwl]
 rfl
theorem cO_bin {P:Program} {op:Op} {b:BinOp} {x y:X} (ho:cO P op = .bin b x y):∃T p q T2,op = .binOp b T p q T2∧cX p=x∧cX q=y:=by
 cases op
 case binOp b' T p q T2=>
  simp only [cO] at ho
  (repeat' (split at ho))<;>simp only [EO.bin.injEq,reduceCtorEq] at ho
  obtain ⟨rfl,rfl,rfl⟩:=ho
  exact ⟨T,p,q,T2,rfl,rfl,rfl⟩
 all_goals (simp only [cO] at ho;(repeat' (split at ho))<;>simp at ho)
def kin (b:BinOp) (k:IntKind) (m n:Int) (r:AV):Prop:=match b with
 | .add=>r = .kv k (k.wrap (m+n))
 | .mul=>r = .kv k (k.wrap (m*n))
 | .and=>r = .kv k (k.wrap ((BitVec.ofInt k.bits m &&& BitVec.ofInt k.bits n).toNat))
 | .shr=>0≤n∧r = .kv k (m.fdiv (2 ^ min n.toNat k.bits))
 | .gtr=>r = .bv (decide (n<m))
 | _=>False
theorem sem_bink {b:BinOp} {x y:X} {kk:IntKind} {m n:Int} {r:AV} (hx:S.x x = .kv kk m) (hy:S.x y = .kv kk n) (h:kin b kk m n r):Zy2 c S (.bin b x y) r S:=by
 intro ro hop M a w hT next Q hnx
 obtain ⟨dst,op,ty,pos,af,gd⟩:=ro
 dsimp only at hop
 obtain ⟨T,p,q,T2,rfl,rfl,rfl⟩:=cO_bin hop
 have k1:=Zy1 hT p
 have k2:=Zy1 hT q
 rw [hx] at k1
 rw [hy] at k2
 simp only [AV.is] at k1 k2
 have hrun:∃v,(execOp a.eval ⟨dst,.binOp b T p q T2,ty,pos,af,gd⟩).run c.P w = .ok (.value v) w∧r.is M v:=by
  generalize a.eval=ρ at *
  cases b<;>simp only [kin] at h
  case add=>subst h;exact ⟨.int kk (kk.wrap (m+n)),by simp [execOp,k1,k2,Ze2,binOp,Op.intArith],rfl⟩
  case mul=>subst h;exact ⟨.int kk (kk.wrap (m*n)),by simp [execOp,k1,k2,Ze2,binOp,Op.intArith],rfl⟩
  case and=>subst h;exact ⟨.int kk (kk.wrap ((BitVec.ofInt kk.bits m &&& BitVec.ofInt kk.bits n).toNat)),by simp [execOp,k1,k2,Ze2,binOp,Op.intBits],rfl⟩
  case shr=>
   obtain ⟨h0,rfl⟩:=h
   exact ⟨.int kk (m.fdiv (2 ^ min n.toNat kk.bits)),by simp [execOp,k1,k2,Ze2,binOp,Op.shift,show ¬n<0 by omega],rfl⟩
  case gtr=>subst h;exact ⟨.bool (m>n),by simp [execOp,k1,k2,Ze2,binOp,Op.intCmp],rfl⟩
 obtain ⟨v,hrun,hv⟩:=hrun
 unfold Oper.wp
 rw [hrun]
 exact hnx M w _ (.refl M) hT.st hv
theorem Zhb {d:Option Nat} {g:Option (Nat×Bool)} {l:List EOp} {b:BinOp} {x y:X} {kk:IntKind} {m n:Int} (r:AV) (h:kin b kk m n r) (hg:gm S g) (hx:S.x x = .kv kk m) (hy:S.x y = .kv kk n)
 (hn:V c fn K (.ops l::k) (S.put d r)):V c fn K (.ops (⟨d,g,.bin b x y⟩::l)::k) S:=Zz2 hg (sem_bink hx hy h) rfl hn
theorem cO_conv {P:Program} {op:Op} {k:IntKind} {x:X} (ho:cO P op = .conv k x):∃A B p j,op = .convert A B p∧P.underlying A=some (.int j)∧P.underlying B=some (.int k)∧cX p=x:=by
 cases op
 case convert A B p=>
  simp only [cO] at ho
  split at ho
  ·rename_i j k' hA hB
   simp only [EO.conv.injEq] at ho
   obtain ⟨rfl,rfl⟩:=ho
   exact ⟨A,B,p,j,rfl,hA,hB,rfl⟩
  ·simp at ho
 all_goals (simp only [cO] at ho;(repeat' (split at ho))<;>simp at ho)
theorem sem_convK {x:X} {kk:IntKind} {m:Int} (hx:S.x x = .iv m) (hw:kk.wrap m=m):Zy2 c S (.conv kk x) (.kv kk m) S:=by
 intro ro hop M a w hT next Q hnx
 obtain ⟨dst,op,ty,pos,af,gd⟩:=ro
 dsimp only at hop
 obtain ⟨A,B,p,j,rfl,hA,hB,rfl⟩:=cO_conv hop
 have k1:=Zy1 hT p
 rw [hx] at k1
 simp only [AV.is] at k1
 have hrun:(execOp a.eval ⟨dst,.convert A B p,ty,pos,af,gd⟩).run c.P w = .ok (.value (.int kk m)) w:=by
  generalize a.eval=ρ at *
  simp [execOp,k1,convert,run_underlying hA,run_underlying hB,Conv.intToInt,hw]
 unfold Oper.wp
 rw [hrun]
 exact hnx M w _ (.refl M) hT.st rfl
theorem sem_convI {x:X} {kk:IntKind} {m:Int} (hx:S.x x = .kv kk m) (hw:wr m=m):Zy2 c S (.conv .i64 x) (.iv m) S:=by
 intro ro hop M a w hT next Q hnx
 obtain ⟨dst,op,ty,pos,af,gd⟩:=ro
 dsimp only at hop
 obtain ⟨A,B,p,j,rfl,hA,hB,rfl⟩:=cO_conv hop
 have k1:=Zy1 hT p
 rw [hx] at k1
 simp only [AV.is] at k1
 unfold wr at hw
 have hrun:(execOp a.eval ⟨dst,.convert A B p,ty,pos,af,gd⟩).run c.P w = .ok (.value (.int .i64 m)) w:=by
  generalize a.eval=ρ at *
  simp [execOp,k1,convert,run_underlying hA,run_underlying hB,Conv.intToInt,hw]
 unfold Oper.wp
 rw [hrun]
 exact hnx M w _ (.refl M) hT.st rfl
end
end NX
end Go.Proofs.Ytadebhbiglmodaa
/-
  The function slices.Repeat[[]bool,bool]: its code compiled, a model, and that the code answers as the model. Written by a program of ours (lb.py). No statement of the seat is proved here.
-/
namespace Go.Proofs.Ytadebhbiglmodaa
namespace NX
open Go
set_option maxRecDepth 100000
set_option maxHeartbeats 4000000
@[go_sem] def e145:EC:=.seq (.reg [(Qa 4 (.mv (.c (.kv .u64 0)))),(Qa 5 (.mv (.c (.kv .u64 0))))]) (.seq (.reg [(Qm 14 0),(Qa 15 (.bin .and (.t 14) (.c (.kv .u64 4294967295)))),(Qm 6 15)]) (.seq (.reg [(Qm 16 0),(Qa 17 (.bin .shr (.t 16) (.c (.kv .u64 32)))),(Qm 7 17)]) (.seq (.reg [(Qm 18 1),(Qa 19 (.bin .and (.t 18) (.c (.kv .u64 4294967295)))),(Qm 8 19)]) (.seq (.reg [(Qm 20 1),(Qa 21 (.bin .shr (.t 20) (.c (.kv .u64 32)))),(Qm 9 21)]) (.seq (.reg [(Qm 22 6),(Qm 23 8),(Qa 24 (.bin .mul (.t 22) (.t 23))),(Qm 10 24)]) (.seq (.reg [(Qm 25 7),(Qm 26 8),(Qa 27 (.bin .mul (.t 25) (.t 26))),(Qm 28 10),(Qa 29 (.bin .shr (.t 28) (.c (.kv .u64 32)))),(Qa 30 (.bin .add (.t 27) (.t 29))),(Qm 11 30)]) (.seq (.reg [(Qm 31 11),(Qa 32 (.bin .and (.t 31) (.c (.kv .u64 4294967295)))),(Qm 12 32)]) (.seq (.reg [(Qm 33 11),(Qa 34 (.bin .shr (.t 33) (.c (.kv .u64 32)))),(Qm 13 34)]) (.seq (.reg [(Qm 35 12),(Qm 36 6),(Qm 37 9),(Qa 38 (.bin .mul (.t 36) (.t 37))),(Qa 39 (.bin .add (.t 35) (.t 38))),(Qm 12 39)]) (.seq (.reg [(Qm 40 7),(Qm 41 9),(Qa 42 (.bin .mul (.t 40) (.t 41))),(Qm 43 13),(Qa 44 (.bin .add (.t 42) (.t 43))),(Qm 45 12),(Qa 46 (.bin .shr (.t 45) (.c (.kv .u64 32)))),(Qa 47 (.bin .add (.t 44) (.t 46))),(Qm 4 47)]) (.seq (.reg [(Qm 48 0),(Qm 49 1),(Qa 50 (.bin .mul (.t 48) (.t 49))),(Qm 5 50)]) (.ret))))))))))))
theorem ok145:FnOK Try.prog 145 Try.f145 e145 [.t 4,.t 5] 2 49:=⟨by kernel_rfl,⟨_,rfl,by kernel_rfl⟩,by kernel_rfl,by kernel_rfl⟩
@[go_sem] def e130:EC:=.seq (.reg [(Qa 4 (.mv (.c (.kv .u64 0)))),(Qa 5 (.mv (.c (.kv .u64 0))))]) (.seq (.ite (.c .ff) (.seq (.reg [(Qm 11 0),(Qa 12 (.conv .u32 (.t 11))),(Qm 13 1),(Qa 14 (.conv .u32 (.t 13))),(Qa 15 (.call 144 [(.t 12),(.t 14)])),(Qm 10 15),(Qa 16 (.ext (.t 10) 0)),(Qa 17 (.ext (.t 10) 1)),(Qm 6 16),(Qm 7 17)]) (.seq (.reg [(Qm 18 6),(Qa 19 (.conv .u64 (.t 18))),(Qm 20 7),(Qa 21 (.conv .u64 (.t 20))),(Qm 4 19),(Qm 5 21)]) (.ret))) (.skip)) (.seq (.reg [(Qm 23 0),(Qm 24 1),(Qa 25 (.call 145 [(.t 23),(.t 24)])),(Qm 22 25),(Qa 26 (.ext (.t 22) 0)),(Qa 27 (.ext (.t 22) 1)),(Qm 8 26),(Qm 9 27)]) (.seq (.reg [(Qm 28 8),(Qm 29 9),(Qm 4 28),(Qm 5 29)]) (.ret))))
theorem ok130:FnOK Try.prog 130 Try.f130 e130 [.t 4,.t 5] 2 28:=⟨by kernel_rfl,⟨_,rfl,by kernel_rfl⟩,by kernel_rfl,by kernel_rfl⟩
@[go_sem] def e116_L0:EC:=.seq (.seq (.reg [(Qm 34 8),(Qm 35 7),(Qa 36 (.len (.t 35))),(Qa 37 (.bin .lss (.t 34) (.t 36)))]) (.ite (.t 37) (.skip) (.exit 0))) (.blk 1 (.drw [(Qm 38 8),(Qm 39 7),(Qm 40 8),(Qa 41 (.slice 1 (.t 39) (some (.t 40)) none)),(Qm 42 7),(Qm 43 8),(Qa 44 (.slice 1 (.t 42) none (some (.t 43)))),(Qa 45 (.copy 1 (.t 41) (.t 44))),(Qa 46 (.bin .add (.t 38) (.t 45))),(Qm 8 46)] [[],[],[],[1,2],[],[],[4,5],[3,6],[0,7],[8,7,0,1,2,3,4,5,6,7,8]] [[8,9],[3],[3,9],[1,2,7],[6],[6,9],[4,5,7],[3,6,8],[0,7,9],[0,2,5,8]]))
@[go_sem] def e116:EC:=.seq (.reg [(Qa 4 (.mv (.c .nl)))]) (.seq (.seq (.reg [(Qm 9 1),(Qa 10 (.bin .lss (.t 9) (.c (.iv 0))))]) (.ite (.t 10) (.reg [(Qa 11 .bad),(Qb .bad)]) (.skip))) (.seq (.reg [(Qm 13 0),(Qa 14 (.len (.t 13))),(Qa 15 (.conv .u64 (.t 14))),(Qm 16 1),(Qa 17 (.conv .u64 (.t 16))),(Qa 18 (.call 130 [(.t 15),(.t 17)])),(Qm 12 18),(Qa 19 (.ext (.t 12) 0)),(Qa 20 (.ext (.t 12) 1)),(Qm 5 19),(Qm 6 20)]) (.seq (.seq (.reg [(Qm 21 5),(Qa 22 (.bin .gtr (.t 21) (.c (.kv .u64 0)))),(Qm 23 22),(Qg 24 23 false (.mv (.t 6))),(Qg 25 23 false (.bin .gtr (.t 24) (.c (.kv .u64 9223372036854775807)))),(Qq 26 23 25)]) (.ite (.t 26) (.reg [(Qa 27 .bad),(Qb .bad)]) (.skip))) (.seq (.reg [(Qm 28 6),(Qa 29 (.conv .i64 (.t 28))),(Qa 30 (.mks 4 1 1 [.ff] (.t 29) (.t 29))),(Qm 7 30)]) (.seq (.reg [(Qm 31 7),(Qm 32 0),(Qa 33 (.copy 1 (.t 31) (.t 32))),(Qm 8 33)]) (.seq (.blk 0 (.loop e116_L0)) (.seq (.reg [(Qm 47 7),(Qm 4 47)]) (.ret))))))))
theorem ok116:FnOK Try.prog 116 Try.f116 e116 [.t 4] 2 46:=⟨by kernel_rfl,⟨_,rfl,by kernel_rfl⟩,by kernel_rfl,by kernel_rfl⟩
theorem kin_and {m n v:Int} (h:IntKind.u64.wrap ((BitVec.ofInt IntKind.u64.bits m &&& BitVec.ofInt IntKind.u64.bits n).toNat)=v):kin .and .u64 m n (.kv .u64 v):=by subst h;rfl
theorem Zib {m v:Int} (h:m.fdiv (2 ^ 32)=v):kin .shr .u64 m 32 (.kv .u64 v):=by subst h;exact ⟨by omega,rfl⟩
theorem Zjb {m n v:Int} (h:IntKind.u64.wrap (m*n)=v):kin .mul .u64 m n (.kv .u64 v):=by subst h;rfl
theorem kin_add {m n v:Int} (h:IntKind.u64.wrap (m+n)=v):kin .add .u64 m n (.kv .u64 v):=by subst h;rfl
theorem small65 {p:Int→Prop} (h:∀k:Fin 65,p (k.val:Int)) {n:Int} (h0:0≤n) (h1:n≤64):p n:=by
 have:=h ⟨n.toNat,by omega⟩
 simpa [Int.toNat_of_nonneg h0] using this
def Zkb (m k:Nat):List (List AV):=List.replicate k (Zp4 true)++List.replicate (m-k) [.ff]
theorem rowsK_len {m k:Nat} (h:k≤m):(Zkb m k).length=m:=by simp [Zkb];omega
theorem rowsK_first (m:Nat):(List.map Zp4 [true]).take (min (List.map Zp4 [true]).length (List.replicate m [AV.ff]).length)++(List.replicate m [AV.ff]).drop (min (List.map Zp4 [true]).length (List.replicate m [AV.ff]).length)=Zkb m (min 1 m):=by
 cases m with
 | zero=>rfl
 | succ m=>simp [Zkb]
theorem Zlb {m k:Nat} (h:k<m):(Zkb m k).take k++((Zkb m k).take (0+min k (m-k))).drop 0++(Zkb m k).drop (k+min k (m-k))=Zkb m (k+min k (m-k)):=by
 unfold Zkb
 refine List.ext_getElem? fun i=>?_
 simp only [List.getElem?_append,List.getElem?_take,List.getElem?_drop,List.getElem?_replicate,List.length_append,List.length_take,List.length_drop,List.length_replicate]
 (repeat' split)<;>first | rfl | (exfalso;omega)
theorem rowsK_end (m:Nat):Zkb m m=List.map Zp4 (List.replicate m true):=by simp [Zkb]
theorem Zmb {n:Int} (h0:0≤n) (h1:n≤1000):wr n=n:=IntWalk.i64_in n ⟨by omega,by omega⟩
theorem wr_in {n:Int} (h0:0≤n) (h1:n≤64):wr n=n:=IntWalk.i64_in n ⟨by omega,by omega⟩
theorem k_Mul64 (n:Int) (h0:0≤n) (h1:n≤64):Zu2 Try.prog 145 [.kv .u64 1,.kv .u64 n] (.tup [.kv .u64 0,.kv .u64 n]):=by
 have a1:IntKind.u64.wrap ((BitVec.ofInt IntKind.u64.bits 1 &&& BitVec.ofInt IntKind.u64.bits 4294967295).toNat)=1:=by decide
 have an:IntKind.u64.wrap ((BitVec.ofInt IntKind.u64.bits n &&& BitVec.ofInt IntKind.u64.bits 4294967295).toNat)=n:=small65 (p:=fun n=>IntKind.u64.wrap ((BitVec.ofInt IntKind.u64.bits n &&& BitVec.ofInt IntKind.u64.bits 4294967295).toNat)=n) (by decide) h0 h1
 have a0:IntKind.u64.wrap ((BitVec.ofInt IntKind.u64.bits 0 &&& BitVec.ofInt IntKind.u64.bits 4294967295).toNat)=0:=by decide
 have s1:(1:Int).fdiv (2 ^ 32)=0:=by decide
 have s0:(0:Int).fdiv (2 ^ 32)=0:=by decide
 have sn:n.fdiv (2 ^ 32)=0:=small65 (p:=fun n=>n.fdiv (2 ^ 32)=0) (by decide) h0 h1
 have m1:IntKind.u64.wrap (1*n)=n:=small65 (p:=fun n=>IntKind.u64.wrap (1*n)=n) (by decide) h0 h1
 have m0:IntKind.u64.wrap (0*n)=0:=by rw [Int.zero_mul];decide
 have m10:IntKind.u64.wrap (1*0)=0:=by decide
 have m00:IntKind.u64.wrap (0*0)=0:=by decide
 have p0:IntKind.u64.wrap (0+0)=0:=by decide
 refine Zx2 ok145 rfl rfl fun w0 H0=>?_
 refine Zo2 100 ?_
 dsimp only [e145,go_sem]
 refine An ?_
 refine Zhb _ (kin_and a1) trivial rfl rfl ?_
 refine Zo2 100 ?_
 dsimp only [go_sem]
 refine An ?_
 refine Zhb _ (Zib s1) trivial rfl rfl ?_
 refine Zo2 100 ?_
 dsimp only [go_sem]
 refine An ?_
 refine Zhb _ (kin_and an) trivial rfl rfl ?_
 refine Zo2 100 ?_
 dsimp only [go_sem]
 refine An ?_
 refine Zhb _ (Zib sn) trivial rfl rfl ?_
 refine Zo2 100 ?_
 dsimp only [go_sem]
 refine An ?_
 refine Zhb _ (Zjb m1) trivial rfl rfl ?_
 refine Zo2 100 ?_
 dsimp only [go_sem]
 refine An ?_
 refine Zhb _ (Zjb m0) trivial rfl rfl ?_
 refine Zo2 100 ?_
 dsimp only [go_sem]
 refine An ?_
 refine Zhb _ (Zib sn) trivial rfl rfl ?_
 refine Zo2 100 ?_
 dsimp only [go_sem]
 refine An ?_
 refine Zhb _ (kin_add p0) trivial rfl rfl ?_
 refine Zo2 100 ?_
 dsimp only [go_sem]
 refine An ?_
 refine Zhb _ (kin_and a0) trivial rfl rfl ?_
 refine Zo2 100 ?_
 dsimp only [go_sem]
 refine An ?_
 refine Zhb _ (Zib s0) trivial rfl rfl ?_
 refine Zo2 100 ?_
 dsimp only [go_sem]
 refine An ?_
 refine Zhb _ (Zjb m10) trivial rfl rfl ?_
 refine Zo2 100 ?_
 dsimp only [go_sem]
 refine An ?_
 refine Zhb _ (kin_add p0) trivial rfl rfl ?_
 refine Zo2 100 ?_
 dsimp only [go_sem]
 refine An ?_
 refine Zhb _ (Zjb m00) trivial rfl rfl ?_
 refine Zo2 100 ?_
 dsimp only [go_sem]
 refine An ?_
 refine Zhb _ (kin_add p0) trivial rfl rfl ?_
 refine Zo2 100 ?_
 dsimp only [go_sem]
 refine An ?_
 refine Zhb _ (Zib s0) trivial rfl rfl ?_
 refine Zo2 100 ?_
 dsimp only [go_sem]
 refine An ?_
 refine Zhb _ (kin_add p0) trivial rfl rfl ?_
 refine Zo2 100 ?_
 dsimp only [go_sem]
 refine An ?_
 refine Zhb _ (Zjb m1) trivial rfl rfl ?_
 refine Zo2 100 ?_
 dsimp only [go_sem]
 refine An ?_
 exact Zi4 (res:=fun (_:Unit)=>.tup [.kv .u64 0,.kv .u64 n]) (r:=()) ok145 rfl (by first | exact le_refl _ | simp [go_sem])
theorem k_Mul (n:Int) (h0:0≤n) (h1:n≤64):Zu2 Try.prog 130 [.kv .u64 1,.kv .u64 n] (.tup [.kv .u64 0,.kv .u64 n]):=by
 refine Zx2 ok130 rfl rfl fun w0 H0=>?_
 refine Zo2 100 ?_
 dsimp only [e130,go_sem]
 refine An ?_
 refine Z23 trivial (k_Mul64 n h0 h1) (h:=?_)
 refine Zo2 100 ?_
 dsimp only [go_sem]
 refine An ?_
 exact Zi4 (res:=fun (_:Unit)=>.tup [.kv .u64 0,.kv .u64 n]) (r:=()) ok130 rfl (by first | exact le_refl _ | simp [go_sem])
noncomputable def Znb (x1:List Bool) (x2:Int):Option (List Bool):=if x1=[true]∧0≤x2∧x2≤64 then some (List.replicate x2.toNat true) else none
theorem Zob (x1:List Bool) (x2:Int) (r:List Bool) (h:Znb x1 x2=some r):FunO Try.prog 116 [.sl 1 (List.map Zp4 x1),.iv x2] 4 1 (List.map Zp4 r):=by
 unfold Znb at h
 split at h
 ·rename_i hc
  obtain ⟨rfl,h0,h1⟩:=hc
  simp only [Option.some.injEq] at h
  subst h
  refine Zu4 ok116 rfl fun w0 H0=>?_
  refine Zo2 100 ?_
  dsimp only [e116,go_sem]
  refine An ?_
  refine V_ite rfl (fun e=>absurd e (by rw [decide_eq_false (by omega)];simp)) fun _=>?_
  refine Zo2 100 ?_
  dsimp only [go_sem]
  refine An ?_
  refine Zz2 trivial (sem_convK (kk:=.u64) (m:=1) rfl (by decide)) rfl ?_
  refine Zo2 100 ?_
  dsimp only [go_sem]
  refine An ?_
  refine Zz2 trivial (sem_convK (kk:=.u64) (m:=x2) rfl (small65 (p:=fun n=>IntKind.u64.wrap n=n) (by decide) h0 h1)) rfl ?_
  refine Zo2 100 ?_
  dsimp only [go_sem]
  refine An ?_
  refine Z23 trivial (k_Mul x2 h0 h1) (h:=?_)
  refine Zo2 100 ?_
  dsimp only [go_sem]
  refine An ?_
  refine Zhb (b:=.gtr) _ rfl trivial rfl rfl ?_
  refine V_put1 22 .ff rfl ?_
  refine Zo2 100 ?_
  dsimp only [go_sem]
  refine An ?_
  refine Zhb (b:=.gtr) _ rfl trivial rfl rfl ?_
  refine V_put1 25 .ff (decide_eq_false (by omega)) ?_
  refine Zo2 100 ?_
  dsimp only [go_sem]
  refine An ?_
  refine Zz2 trivial (sem_convI (m:=x2) rfl (wr_in h0 h1)) rfl ?_
  refine Zo2 100 ?_
  dsimp only [go_sem]
  refine An ?_
  obtain ⟨m,rfl⟩:∃m:Nat,x2=m:=⟨x2.toNat,by omega⟩
  refine Zz2 trivial (sem_mks (m:=m) rfl rfl h0 (by omega) (by omega) rfl) rfl ?_
  refine Zo2 100 ?_
  dsimp only [go_sem]
  refine An ?_
  refine Zz2 trivial (sem_copyS (j:=0) rfl rfl rfl) rfl ?_
  refine Zo2 100 ?_
  dsimp only [go_sem]
  refine An ?_
  rw [show (m:Int).toNat=m from rfl,rowsK_first]
  have hm1:min (List.map Zp4 [true]).length (List.replicate m [AV.ff]).length=min 1 m:=by simp
  rw [hm1]
  refine V_loop (X:=Nat) (fun k=>k≤m∧(0<m→0<k)) (fun k=>⟨an 7 (.osl 0 :: .iv k::an 39 []),[],[some ⟨4,1,Zkb m k⟩]⟩) (fun k=>m-k) (min 1 m) (by simp [go_sem]) rfl rfl rfl ⟨by omega,by omega⟩ ?_
  rintro n k ⟨hk1,hk2⟩ ih
  refine Zo2 100 ?_
  dsimp only [go_sem]
  refine An ?_
  rw [rowsK_len hk1]
  refine V_ite rfl (fun hlt=>?_) fun hge=>?_
  ·have hlt:k<m:=by simpa using hlt
   have hl:=rowsK_len hk1
   refine Zo2 100 ?_
   dsimp only [go_sem]
   refine An ?_
   refine Zi3 (by kernel_rfl) fun all hall hs hnap haf=>?_
   dsimp only [go_sem]
   refine Zv4 hall hs haf hnap 5 5 ?_
   dsimp only [go_sem]
   refine An ?_
   refine G_two 3 6 rfl ?_ ?_
   ·refine Zu3 hall (i:=3) trivial (Zgb (lo:=some (.t 40)) (hi:=none) (l:=k) (h:=((Zkb m k).length:Nat)) rfl rfl (by omega) rfl rfl (by omega) (by omega) (by omega) (by omega)) rfl (Zq3 _ _) ?_
    dsimp only [go_sem]
    refine Zt3 6 rfl ?_
    refine Zu3 hall (i:=6) trivial (Zgb (lo:=none) (hi:=some (.t 43)) (l:=0) (h:=k) rfl rfl (by omega) rfl rfl (by omega) (by omega) (by omega) (by omega)) rfl (Zq3 _ _) ?_
    dsimp only [go_sem]
    refine Zt3 7 rfl ?_
    refine Zu3 hall (i:=7) trivial (sem_copyV (j:=0) (o1:=k) (m1:=(Zkb m k).length-k) (o2:=0) (m2:=k) rfl rfl rfl (by omega) (by omega) (by omega)) rfl (fun _ _ _ _ h _ _=>h) ?_
    dsimp only [go_sem]
    rw [hl,Zlb hlt]
    refine Zv4 hall hs haf hnap 2 0 ?_
    dsimp only [go_sem]
    refine An ?_
    refine Zs3 rfl ?_ _
    refine Zo2 100 ?_
    dsimp only [go_sem]
    refine An ?_
    have hw:wr ((k:Int)+(min k (m-k):Nat))=(k+min k (m-k):Nat):=by rw [Zmb (by omega) (by omega)];omega
    rw [hw]
    exact Zr2 _ (by simp [go_sem]) rfl (h:=ih (k+min k (m-k)) ⟨by omega,by omega⟩ (by omega))
   ·refine Zu3 hall (i:=6) trivial (Zgb (lo:=none) (hi:=some (.t 43)) (l:=0) (h:=k) rfl rfl (by omega) rfl rfl (by omega) (by omega) (by omega) (by omega)) rfl (Zq3 _ _) ?_
    dsimp only [go_sem]
    refine Zt3 3 rfl ?_
    refine Zu3 hall (i:=3) trivial (Zgb (lo:=some (.t 40)) (hi:=none) (l:=k) (h:=((Zkb m k).length:Nat)) rfl rfl (by omega) rfl rfl (by omega) (by omega) (by omega) (by omega)) rfl (Zq3 _ _) ?_
    dsimp only [go_sem]
    refine Zt3 7 rfl ?_
    refine Zu3 hall (i:=7) trivial (sem_copyV (j:=0) (o1:=k) (m1:=(Zkb m k).length-k) (o2:=0) (m2:=k) rfl rfl rfl (by omega) (by omega) (by omega)) rfl (fun _ _ _ _ h _ _=>h) ?_
    dsimp only [go_sem]
    rw [hl,Zlb hlt]
    refine Zv4 hall hs haf hnap 2 0 ?_
    dsimp only [go_sem]
    refine An ?_
    refine Zs3 rfl ?_ _
    refine Zo2 100 ?_
    dsimp only [go_sem]
    refine An ?_
    have hw:wr ((k:Int)+(min k (m-k):Nat))=(k+min k (m-k):Nat):=by rw [Zmb (by omega) (by omega)];omega
    rw [hw]
    exact Zr2 _ (by simp [go_sem]) rfl (h:=ih (k+min k (m-k)) ⟨by omega,by omega⟩ (by omega))
  ·have hge:k=m:=by simp at hge;omega
   subst hge
   refine Zo2 100 ?_
   dsimp only [go_sem]
   refine An ?_
   rw [rowsK_end]
   exact O_doneM Zp4 (e:=List.replicate k true) ok116 rfl rfl rfl
 ·simp at h
set_option maxRecDepth 100000
set_option maxHeartbeats 4000000
@[go_sem] def e117:EC:=.seq (.reg [(Qx 3 62 2 0),(Qa 4 (.mv (.c .ff)))]) (.seq (.reg [(Qf 5 1 3),(Ql 6 5),(Ql 7 1),(Qa 8 (.bin .eql (.t 6) (.t 7))),(Qm 9 8),(Qn 10 9 true 2),(Qh 11 9 true 0 3),(Qn 12 9 true 11),(Qg 13 9 true (.idx 1 (.t 10) (.t 12))),(Qn 14 9 true 13),(Qp 15 9 14),(Qm 4 15)]) (.ret))
theorem ok117:FnOK Try.prog 117 Try.f117 e117 [.t 4] 3 13:=⟨by kernel_rfl,⟨_,rfl,by kernel_rfl⟩,by kernel_rfl,by kernel_rfl⟩
noncomputable def Zpb:Bool→Option Bool
| x5=>
 some x5
noncomputable def Zqb (x1:Arc) (x2:Int) (x3:(List Bool)):Option Bool:=
 ifb (decide (x1.To=x2)) (
 (at_ x3 x1.From).bind fun x4=>
 Zpb x4) (
 Zpb false)
theorem k_dag_run_1 (x1:Arc) (x2:Int) (x3:(List Bool)) (r:Bool) (h:Zqb x1 x2 x3=some r):Zu2 Try.prog 117 [.agg (Arc.row x1),.elt (Zo4 x2) 0,.elt ((slRow 1 Zp4) x3) 0] (.bv r):=by
 refine Zx2 ok117 rfl rfl fun w0 H0=>?_
 rw [Zqb] at h
 refine Zo2 12 ?_;dsimp only [go_sem];refine An ?_;refine Z94 (fun (x5:Bool)=>(⟨(an 4 (.bv x5::an 11 [])),[],[]⟩:St)) Zpb r ?_ fun J1=>?_
 ·intro x5 h;rw [Zpb] at h;(try dsimp only);exact Zi4 (res:=fun (r:Bool)=>.bv r) ok117 h
 ·refine Zh4 9 h rfl (fun _ h=>?_) fun _ h=>?_
  ·dsimp only [go_sem];refine Zo2 3 ?_;dsimp only [go_sem];refine An ?_;obtain ⟨x4,ex4,h⟩:=Bs h;refine Ze4 Zp4 ex4 trivial rfl rfl rfl ?_;refine Zo2 4 ?_;dsimp only [go_sem];refine An ?_;exact Zk4 J1 (s:=x4) h
  ·dsimp only [go_sem];refine Zo2 8 ?_;dsimp only [go_sem];refine An ?_;exact Zk4 J1 (s:=false) h
set_option maxRecDepth 100000
set_option maxHeartbeats 4000000
@[go_sem] def e131_L0:EC:=.seq (.reg [(Qa 9 (.bin .lss (.t 8) (.t 7)))]) (.seq (.ite (.t 9) (.skip) (.exit 0)) (.seq (.blk 1 (.seq (.reg [(Qm 10 8),(Qm 5 10)]) (.seq (.reg [(Qm 11 1),(Qm 12 0),(Qm 13 5),(Qk 14 2 12 13),(Qe 15 2 14),(Qa 16 (.callv (.t 11) [(.t 15)]))]) (.ite (.t 16) (.seq (.reg [(Qm 17 5),(Qm 4 17)]) (.ret)) (.skip))))) (.reg [(Qv 18 8 1),(Qm 8 18)])))
@[go_sem] def e131:EC:=.seq (.reg [(Qi 4 0)]) (.seq (.seq (.reg [(Qm 6 0),(Qa 7 (.len (.t 6))),(Qi 8 0)]) (.blk 0 (.loop e131_L0))) (.seq (.reg [(Qa 4 (.mv (.c (.iv (-1)))))]) (.ret)))
theorem ok131:FnOK Try.prog 131 Try.f131 e131 [.t 4] 2 17:=⟨by kernel_rfl,⟨_,rfl,by kernel_rfl⟩,by kernel_rfl,by kernel_rfl⟩
noncomputable def Zrb:Unit→Option Int
| ()=>
 some (-1)
noncomputable def Zsb (x1:(List Arc)) (p1:(Arc→Option Bool)):Int→Option (Int ⊕ Int)
| x5=>
 ifb (decide (x5<(ln Arc.row x1))) (
 (at_ x1 x5).bind fun x6=>
 (p1 x6).bind fun x7=>
 ifb x7 (
 Option.map Sum.inr (some x5)) (
 some (.inl (wr (x5+1))))) (
 Option.map Sum.inr (Zrb ()))
noncomputable def Ztb (x1:(List Arc)) (p1:(Arc→Option Bool)):Option Int:=
 loop (Zsb x1 p1) 0
theorem Zub (x1:(List Arc)) (g1:Nat) (caps1:List AV) (p1:(Arc→Option Bool)) (hc1:CloOK Try.prog g1 caps1 (fun z=>[.agg (Arc.row z)]) p1 (fun z=>.bv z)) (r:Int) (h:Ztb x1 p1=some r):Zu2 Try.prog 131 [.sl 2 (List.map Arc.row x1),.clo g1 caps1] (.iv r):=by
 refine Zx2 ok131 rfl rfl fun w0 H0=>?_
 rw [Ztb] at h
 refine Zo2 11 ?_;dsimp only [go_sem];refine An ?_;refine Z94 (fun (_:Unit)=>(⟨(an 19 []),[],[]⟩:St)) Zrb r ?_ fun J1=>?_
 ·rintro ⟨⟩ h;rw [Zrb] at h;(try dsimp only);refine Zo2 4 ?_;dsimp only [go_sem];refine An ?_;exact Zi4 (res:=fun (r:Int)=>.iv r) ok131 h
 ·refine Zo2 1 ?_;dsimp only [go_sem];refine An ?_;refine Za4 h (fun (x5:Int)=>(⟨(.sl 2 (List.map Arc.row x1) :: .clo g1 caps1::an 5 (.iv (ln Arc.row x1) :: .iv x5::an 10 [])),[],[]⟩:St)) (by simp [go_sem]) (by intro x5;first | rfl | simp [go_sem,Z24 _ hc1.pu]) ?_;rintro n1 x5 y1 h hin1 hout1;rw [Zsb] at h;(try dsimp only);refine Zo2 5 ?_;dsimp only [go_sem];refine An ?_;refine Zb4 h rfl (fun _ h=>?_) fun _ h=>?_
  ·refine Zo2 13 ?_;dsimp only [go_sem];refine An ?_;obtain ⟨x6,ex6,h⟩:=Bs h;refine Ze4 Arc.row ex6 trivial rfl rfl rfl ?_;refine Zo2 1 ?_;dsimp only [go_sem];refine An ?_;obtain ⟨x7,ex7,h⟩:=Bs h;refine Zn4 trivial rfl hc1 (x:=x6) ex7 (by first | exact Z34 _ | simp [go_sem]) (by first | rfl | simp [go_sem,hc1.pu]) ?_;refine Zo2 1 ?_;dsimp only [go_sem];refine An ?_;refine Zb4 h rfl (fun _ h=>?_) fun _ h=>?_
   ·refine Zo2 5 ?_;dsimp only [go_sem];refine An ?_;exact Zi4 (res:=fun (r:Int)=>.iv r) ok131 (Z84 h hout1)
   ·refine Zo2 6 ?_;dsimp only [go_sem];refine An ?_;exact Zj4 h hin1 (hok:=by first | rfl | simp [go_sem,Z24 _ hc1.pu])
  ·refine Zo2 1 ?_;dsimp only [go_sem];refine An ?_;exact Zk4 J1 (s:=()) (Z84 h hout1) (hok:=by first | rfl | simp [go_sem,Z24 _ hc1.pu])
set_option maxRecDepth 100000
set_option maxHeartbeats 4000000
@[go_sem] def e118:EC:=.seq (.reg [(Qa 4 (.mv (.c .ff)))]) (.seq (.reg [(Qm 5 0),(Qm 6 1),(Qa 7 (.call 131 [(.t 5),(.t 6)])),(Qa 8 (.bin .geq (.t 7) (.c (.iv 0)))),(Qm 4 8)]) (.ret))
theorem ok118:FnOK Try.prog 118 Try.f118 e118 [.t 4] 2 7:=⟨by kernel_rfl,⟨_,rfl,by kernel_rfl⟩,by kernel_rfl,by kernel_rfl⟩
noncomputable def Zvb (x1:(List Arc)) (p1:(Arc→Option Bool)):Option Bool:=
 (Ztb x1 p1).bind fun x2=>
 some (decide (0≤x2))
theorem Zwb (x1:(List Arc)) (g1:Nat) (caps1:List AV) (p1:(Arc→Option Bool)) (hc1:CloOK Try.prog g1 caps1 (fun z=>[.agg (Arc.row z)]) p1 (fun z=>.bv z)) (r:Bool) (h:Zvb x1 p1=some r):Zu2 Try.prog 118 [.sl 2 (List.map Arc.row x1),.clo g1 caps1] (.bv r):=by
 refine Zx2 ok118 rfl rfl fun w0 H0=>?_
 rw [Zvb] at h
 refine Zo2 8 ?_;dsimp only [go_sem];refine An ?_;obtain ⟨x2,ex2,h⟩:=Bs h;refine Z23 trivial (Zub x1 _ _ p1 hc1 _ ex2) (hp:=(by first | rfl | simp [go_sem,hc1.pu])) (h:=?_);refine Zo2 3 ?_;dsimp only [go_sem];refine An ?_;exact Zi4 (res:=fun (r:Bool)=>.bv r) ok118 h
set_option maxRecDepth 100000
set_option maxHeartbeats 4000000
@[go_sem] def e93_L0:EC:=.seq (.reg [(Qa 13 (.bin .lss (.t 12) (.t 11)))]) (.seq (.ite (.t 13) (.skip) (.exit 0)) (.seq (.blk 1 (.seq (.reg [(Qm 14 12),(Qa 6 (.alloc 3 [.iv 0])),(Qs 1 6 14)]) (.seq (.reg [(Qa 15 (.mkf 117 [(.t 6),(.t 5)])),(Qm 7 15)]) (.seq (.reg [(Ql 16 5),(Ql 17 6),(Qk 18 1 16 17),(Ql 19 18),(Qm 20 19),(Qg 21 20 true (.mv (.t 1))),(Qg 22 20 true (.mv (.t 7))),(Qg 23 20 true (.call 118 [(.t 21),(.t 22)])),(Qg 24 20 true (.not (.t 23))),(Qp 25 20 24)]) (.ite (.t 25) (.seq (.reg [(Ql 26 5),(Ql 27 6),(Qk 28 1 26 27),(Qb (.store 1 (.t 28) (.c .ff)))]) (.seq (.reg [(Qm 29 4),(Ql 30 6),(Qa 31 (.bsl 3 1 1 [.iv 0] [(0,(.t 30))])),(Qa 32 (.app 3 1 8 (.t 29) (.t 31))),(Qm 4 32)]) (.goto 0))) (.skip)))))) (.reg [(Qv 33 12 1),(Qm 12 33)])))
@[go_sem] def e93:EC:=.seq (.reg [(Qa 4 (.mv (.c .nl))),(Qa 5 (.alloc 119 [.nl]))]) (.scope (.seq (.reg [(Qa 8 (.bsl 4 1 1 [.ff] [(0,(.c .tt))])),(Qm 9 0),(Qa 10 (.call 116 [(.t 8),(.t 9)])),(Qs 1 5 10)]) (.seq (.label 0) (.seq (.seq (.reg [(Qm 11 0),(Qi 12 0)]) (.blk 0 (.loop e93_L0))) (.seq (.drw [(Qm 34 4),(Ql 35 5),(Qm 4 34),(Qs 1 5 35)] [[],[],[0,0],[1,2,0,1,2]] [[2],[3],[0],[1]]) (.ret))))))
theorem ok93:FnOK Try.prog 93 Try.f93 e93 [.t 4,.c 5 none] 2 34:=⟨by kernel_rfl,⟨_,rfl,by kernel_rfl⟩,by kernel_rfl,by kernel_rfl⟩
noncomputable def Zxb (x22:(List Bool)) (x23:(List Int)):Unit→Option (((List Bool)×(List Int)) ⊕ ((List Int)×(List Bool)))
| ()=>
 Option.map Sum.inr (some (x23,x22))
noncomputable def Zyb (x22:(List Bool)) (x23:(List Int)) (x29:Int):Bool→Option (Int ⊕ (((List Bool)×(List Int)) ⊕ ((List Int)×(List Bool))))
| x32=>
 ifb x32 (
 (app_ 8 x23 ([x29])).bind fun x33=>
 Option.map Sum.inr (some (.inl (x22.set (x29).toNat false,x33)))) (
 some (.inl (wr (x29+1))))
noncomputable def Zzb (x1:Int) (x2:(List Arc)) (x22:(List Bool)) (x23:(List Int)):Int→Option (Int ⊕ (((List Bool)×(List Int)) ⊕ ((List Int)×(List Bool))))
| x29=>
 ifb (decide (x29<x1)) (
 (at_ x22 x29).bind fun x30=>
 ifb x30 (
 (Zvb x2 ((fun z=>Zqb z x29 x22))).bind fun x31=>
 (Zyb x22 x23 x29) (!x31)) (
 (Zyb x22 x23 x29) false)) (
 Option.map Sum.inr ((Zxb x22 x23) ()))
noncomputable def Z0c (x1:Int) (x2:(List Arc)):((List Bool)×(List Int))→Option (((List Bool)×(List Int)) ⊕ ((List Int)×(List Bool)))
| (x22,x23)=>
 loop (Zzb x1 x2 x22 x23) 0
noncomputable def Z1c (x1:Int) (x2:(List Arc)):Option ((List Int)×(List Bool)):=
 (Znb ([true]) x1).bind fun x3=>
 loop (Z0c x1 x2) (x3,([]:List Int))
theorem k_dag_run (x1:Int) (x2:(List Arc)) (r:((List Int)×(List Bool))) (h:Z1c x1 x2=some r):Zu2 Try.prog 93 [.iv x1,.sl 2 (List.map Arc.row x2)] (.tup [.sl 1 (List.map Zo4 r.1),.sl 1 (List.map Zp4 r.2)]):=by
 refine Zx2 ok93 rfl rfl fun w0 H0=>?_
 rw [Z1c] at h
 refine Zo2 10 ?_;dsimp only [go_sem];refine An ?_;refine Za3 0 rfl ?_;dsimp only [go_sem];obtain ⟨x3,ex3,h⟩:=Bs h;refine V_callO trivial (Zob ([true]) x1 _ ex3) (h:=?_);refine Zo2 4 ?_;dsimp only [go_sem];refine An ?_;refine V_own 4 3 1 rfl rfl ?_;dsimp only [go_sem]
 refine M_jump h (fun ((x22,x23):((List Bool)×(List Int)))=>(⟨(.iv x1 :: .sl 2 (List.map Arc.row x2) :: .any :: .any :: .osl 2 :: .ptr 0 0::an 30 []),[some ⟨119,[.osl 1]⟩],[none,some ⟨4,1,List.map Zp4 x22⟩,some ⟨3,1,List.map Zo4 x23⟩]⟩:St)) (by simp [go_sem]) (by rintro ⟨x22,x23⟩;first | rfl | simp [go_sem]) (by rintro ⟨x22,x23⟩;rfl) (by rintro ⟨x22,x23⟩;rfl) ?_;rintro ⟨x22,x23⟩ y1 h hin1 hout1;rw [Z0c] at h;(try dsimp only);refine Zo2 6 ?_;dsimp only [go_sem];refine An ?_
 refine Z94 (fun (_:Unit)=>(⟨(an 4 (.osl 2 :: .ptr 0 0::an 30 [])),[some ⟨119,[.osl 1]⟩],[none,some ⟨4,1,List.map Zp4 x22⟩,some ⟨3,1,List.map Zo4 x23⟩]⟩:St)) (Zxb x22 x23) y1 ?_ fun J1=>?_
 ·rintro ⟨⟩ h;rw [Zxb] at h;(try dsimp only);refine Zo2 1 ?_;dsimp only [go_sem];refine An ?_;refine Zi3 (by kernel_rfl) fun all hall hs hnap haf=>?_;dsimp only [go_sem];refine Zv4 hall hs haf hnap 2 2 ?_;dsimp only [go_sem];refine An ?_;refine Zt3 1 rfl ?_;refine Zw3 hall rfl trivial ?_;dsimp only [go_sem];refine Zt3 3 rfl ?_;refine Zw3 hall rfl trivial ?_;dsimp only [go_sem];refine Zs3 rfl ?_ _;refine Za3 2 rfl ?_;dsimp only [go_sem];refine Za3 1 rfl ?_;dsimp only [go_sem]
  exact Zi4 (res:=fun (r:((List Int)×(List Bool)))=>.tup [.sl 1 (List.map Zo4 r.1),.sl 1 (List.map Zp4 r.2)]) ok93 (Z84 h hout1)
 ·refine Zo2 1 ?_;dsimp only [go_sem];refine An ?_;refine Za4 h (fun (x29:Int)=>(⟨(.iv x1 :: .sl 2 (List.map Arc.row x2) :: .any :: .any :: .osl 2 :: .ptr 0 0::an 5 (.iv x1 :: .iv x29::an 23 [])),[some ⟨119,[.osl 1]⟩],[none,some ⟨4,1,List.map Zp4 x22⟩,some ⟨3,1,List.map Zo4 x23⟩]⟩:St)) (by simp [go_sem]) (by intro x29;first | rfl | simp [go_sem]) ?_;rintro n2 x29 y2 h hin2 hout2;rw [Zzb] at h;(try dsimp only);refine Zo2 5 ?_;dsimp only [go_sem];refine An ?_;refine Zb4 h rfl (fun _ h=>?_) fun _ h=>?_
  ·refine Zo2 18 ?_;dsimp only [go_sem];refine An ?_;obtain ⟨x30,ex30,h⟩:=Bs h;refine Zx4 Zp4 ex30 trivial rfl rfl rfl ?_;refine V_loadO Zp4 ex30 trivial rfl rfl rfl ?_;refine Zo2 1 ?_;dsimp only [go_sem];refine An ?_
   refine Z94 (fun (x32:Bool)=>(⟨(.iv x1 :: .sl 2 (List.map Arc.row x2) :: .any :: .any :: .osl 2 :: .ptr 0 0 :: .ptr 1 0::an 4 (.iv x1 :: .iv x29::an 12 (.bv x32::an 10 []))),[some ⟨119,[.osl 1]⟩,some ⟨3,[.iv x29]⟩],[none,some ⟨4,1,List.map Zp4 x22⟩,some ⟨3,1,List.map Zo4 x23⟩]⟩:St)) (Zyb x22 x23 x29) y2 ?_ fun J2=>?_
   ·intro x32 h;rw [Zyb] at h;(try dsimp only);refine Zb4 h rfl (fun _ h=>?_) fun _ h=>?_
    ·refine Zo2 4 ?_;dsimp only [go_sem];refine An ?_;refine Zx4 Zp4 ex30 trivial rfl rfl rfl ?_;refine V_storeO [.bv false] Zp4 (y':=false) ex30 trivial rfl rfl rfl (by first | exact Z34 _ | simp [go_sem]) rfl rfl rfl rfl ?_;refine Zo2 6 ?_;dsimp only [go_sem];refine An ?_;obtain ⟨x33,ex33,h⟩:=Bs h;refine Zg4 Zo4 ex33 trivial rfl rfl rfl ?_;refine Zo2 5 ?_;dsimp only [go_sem];refine An ?_;refine V_ren 4 2 rfl rfl rfl ?_;dsimp only [go_sem];exact Zj4 (Z84 h hout2) hin1
    ·refine Zo2 6 ?_;dsimp only [go_sem];refine An ?_;exact Zj4 h hin2
   ·refine Zh4 20 h rfl (fun _ h=>?_) fun _ h=>?_
    ·dsimp only [go_sem];refine Zo2 2 ?_;dsimp only [go_sem];refine An ?_;obtain ⟨x31,ex31,h⟩:=Bs h;refine Zm4 trivial ((((Zl4.refl _).slice 1 rfl).block 0 rfl rfl).block 1 rfl rfl) (Zwb x2 _ _ ((fun z=>Zqb z x29 x22)) ⟨by kernel_rfl,rfl,fun z r hz=>k_dag_run_1 z x29 x22 r hz⟩ _ ex31) (h:=?_);refine Zo2 3 ?_;dsimp only [go_sem];refine An ?_;exact Zk4 J2 (s:=!x31) h
    ·dsimp only [go_sem];refine Zo2 6 ?_;dsimp only [go_sem];refine An ?_;exact Zk4 J2 (s:=false) h
  ·refine Zo2 1 ?_;dsimp only [go_sem];refine An ?_;exact Zk4 J1 (s:=()) (Z84 h hout2)
set_option maxRecDepth 100000
set_option maxHeartbeats 4000000
@[go_sem] def e66:EC:=.seq (.reg [(Qa 4 (.mv (.c .nl))),(Qa 5 (.mv (.c .ff)))]) (.seq (.seq (.reg [(Qm 8 0),(Qm 9 1),(Qa 10 (.call 92 [(.t 8),(.t 9)])),(Qa 11 (.bin .neq (.t 10) (.c (.iv 0))))]) (.ite (.t 11) (.seq (.reg [(Qa 4 (.mv (.c .nl))),(Qa 5 (.mv (.c .ff)))]) (.ret)) (.skip))) (.seq (.reg [(Qm 13 0),(Qm 14 1),(Qa 15 (.call 93 [(.t 13),(.t 14)])),(Qm 12 15),(Qa 16 (.ext (.t 12) 0)),(Qa 17 (.ext (.t 12) 1)),(Qm 6 16),(Qm 7 17)]) (.seq (.seq (.reg [(Qm 18 6),(Qa 19 (.len (.t 18))),(Qm 20 0),(Qa 21 (.bin .lss (.t 19) (.t 20)))]) (.ite (.t 21) (.seq (.reg [(Qa 4 (.mv (.c .nl))),(Qa 5 (.mv (.c .ff)))]) (.ret)) (.skip))) (.seq (.reg [(Qm 22 6),(Qm 4 22),(Qa 5 (.mv (.c .tt)))]) (.ret)))))
theorem ok66:FnOK Try.prog 66 Try.f66 e66 [.t 4,.t 5] 2 21:=⟨by kernel_rfl,⟨_,rfl,by kernel_rfl⟩,by kernel_rfl,by kernel_rfl⟩
noncomputable def Z2c (x1:Int) (x2:(List Arc)):Option ((List Int)×Bool):=
 (Zcb x1 x2).bind fun x3=>
 ifb (!decide (x3=0)) (
 some (([]:(List Int)),false)) (
 (Z1c x1 x2).bind fun x4=>
 ifb (decide ((ln Zo4 x4.1)<x1)) (
 some (([]:(List Int)),false)) (
 some (x4.1,true)))
theorem k_dag_Order (x1:Int) (x2:(List Arc)) (r:((List Int)×Bool)) (h:Z2c x1 x2=some r):Zu2 Try.prog 66 [.iv x1,.sl 2 (List.map Arc.row x2)] (.tup [.sl 1 (List.map Zo4 r.1),.bv r.2]):=by
 refine Zx2 ok66 rfl rfl fun w0 H0=>?_
 rw [Z2c] at h
 refine Zo2 10 ?_;dsimp only [go_sem];refine An ?_;obtain ⟨x3,ex3,h⟩:=Bs h;refine Z23 trivial (k_dag_Check x1 x2 _ ex3) (h:=?_);refine Zo2 2 ?_;dsimp only [go_sem];refine An ?_;refine Zb4 h rfl (fun _ h=>?_) fun _ h=>?_
 ·refine Zo2 5 ?_;dsimp only [go_sem];refine An ?_;exact Zi4 (res:=fun (r:((List Int)×Bool))=>.tup [.sl 1 (List.map Zo4 r.1),.bv r.2]) ok66 h
 ·refine Zo2 5 ?_;dsimp only [go_sem];refine An ?_;obtain ⟨x4,ex4,h⟩:=Bs h;refine Z23 trivial (k_dag_run x1 x2 _ ex4) (h:=?_);refine Zo2 14 ?_;dsimp only [go_sem];refine An ?_;refine Zb4 h rfl (fun _ h=>?_) fun _ h=>?_
  ·refine Zo2 5 ?_;dsimp only [go_sem];refine An ?_;exact Zi4 (res:=fun (r:((List Int)×Bool))=>.tup [.sl 1 (List.map Zo4 r.1),.bv r.2]) ok66 h
  ·refine Zo2 7 ?_;dsimp only [go_sem];refine An ?_;exact Zi4 (res:=fun (r:((List Int)×Bool))=>.tup [.sl 1 (List.map Zo4 r.1),.bv r.2]) ok66 h
theorem Z3c (l:List Arc) (p:Arc→Option Bool) (q:Arc→Bool) (hl:l.length≤4000000000000000000) (hp:∀x∈l,p x=some (q x)):Ztb l p=some (plc (l.findIdx? q)):=by
 unfold Ztb
 refine Zk5 l _ q hl (fun k x hx=>?_) ?_
 ·simp only [Zsb,Zd5 hx,Z85,Zb5 hx,Option.bind_some,hp x (List.mem_iff_getElem?.2 ⟨k,hx⟩),Zg5 hx hl]
  cases q x<;>rfl
 ·simp only [Zsb,Ze5,Z95,Zrb,Option.map_some]
theorem Z4c (l:List Arc) (p:Arc→Option Bool) (q:Arc→Bool) (hl:l.length≤4000000000000000000) (hp:∀x∈l,p x=some (q x)):Zvb l p=some (l.any q):=by
 unfold Zvb
 rw [Z3c l p q hl hp,Option.bind_some,Zi5,Zl5]
theorem s_ContainsArc (l:List Arc) (x:Arc) (hl:l.length≤1000000):Z6b l x=some (decide (x∈l)):=by
 have h1:Z4b l x=some (plc (l.findIdx? fun y=>decide (x=y))):=by
  unfold Z4b
  refine Zk5 l _ (fun y=>decide (x=y)) (by omega) (fun k y hy=>?_) ?_
  ·simp only [Z3b,Zd5 hy,Z85,Zb5 hy,Option.bind_some,Arc_eqB,Zg5 hy (show l.length≤4000000000000000000 by omega)]
   cases decide (x=y)<;>rfl
  ·simp only [Z3b,Ze5,Z95,Z2b,Option.map_some]
 simp only [Z6b,h1,Option.bind_some,Zi5,Zl5]
 congr 1
 rw [Bool.eq_iff_iff,List.any_eq_true,decide_eq_true_iff]
 constructor
 ·rintro ⟨y,hy,h⟩
  have:x=y:=by simpa using h
  exact this ▸ hy
 ·intro h;exact ⟨x,h,by simp⟩
structure ArcsR (N:Nat) (r:Nat→Int) (l:List Arc):Prop where
 n:N≤64
 len:l.length≤400
 nd:l.Nodup
 ok:∀z∈l,0≤z.From∧z.From<N∧0≤z.To∧z.To<N∧r z.To.toNat<r z.From.toNat
theorem s_dagCheck {N:Nat} {r:Nat→Int} {l:List Arc} (h:ArcsR N r l):Zcb N l=some 0:=by
 have hn:=h.n
 have hlen:=h.len
 have node:∀x:Int,0≤x→x<N→Z0b x N=some true:=fun x h0 h1=>by
  unfold Z0b
  rw [decide_eq_true h0,Z85,decide_eq_true h1];rfl
 unfold Zcb
 rw [decide_eq_false (by omega),Z95,decide_eq_false (by omega),Z95,Zq4,decide_eq_false (by omega)]
 dsimp only [Zbb]
 rw [Z95]
 refine Zx6 l _ (fun pre=>(pre.length:Int)) 0 (fun pre x post hp=>?_) ?_
 ·have hx:=Zy6 hp
  have hm:=Zz6 hp
  obtain ⟨a1,a2,a3,a4,a5⟩:=h.ok x (Z07 hp)
  dsimp only [Zab]
  have hne:¬x.From=x.To:=fun e=>by rw [e] at a5;omega
  have hsub:sub_ l 0 (pre.length:Int)=some pre:=by
   unfold sub_
   rw [if_pos ⟨by omega,by omega,by omega⟩,hp]
   simp
  have hni:x∉pre:=by
   have hnd:=h.nd
   rw [hp,List.nodup_append] at hnd
   intro hm2
   exact hnd.2.2 x hm2 x (by simp) rfl
  rw [Zd5 hx,Z85,Zb5 hx,Option.bind_some,node _ a1 a2,Option.bind_some,Bool.not_true,Z95,node _ a3 a4,Option.bind_some,Bool.not_true,Z95,decide_eq_false hne,Z95,hsub,Option.bind_some,s_ContainsArc _ _ (by omega),Option.bind_some,decide_eq_false hni]
  dsimp only [Z9b]
  rw [Z95,Z17,Zf5 (by omega)]
 ·dsimp only [Zab]
  rw [Ze5,Z95];rfl
def Z5c (L:List Bool) (a:Nat):Bool:=L[a]?.getD false
def blkB (l:List Arc) (L:List Bool) (a:Nat):Bool:=l.any fun z=>decide (z.To=(a:Int))&&Z5c L z.From.toNat
def Z6c (l:List Arc) (L:List Bool) (a:Nat):Bool:=Z5c L a&&!blkB l L a
theorem at_left {L:List Bool} {a:Nat} (h:a<L.length):at_ L (a:Int)=some (Z5c L a):=by
 have:=Zb5 (List.getElem?_eq_getElem h)
 rw [this,Z5c,List.getElem?_eq_getElem h];rfl
theorem s_blk {N:Nat} {r:Nat→Int} {l:List Arc} (h:ArcsR N r l) {L:List Bool} (hL:L.length=N) (a:Nat):Zvb l (fun z=>Zqb z (a:Int) L)=some (blkB l L a):=by
 have hlen:=h.len
 refine Z4c l _ (fun z=>decide (z.To=(a:Int))&&Z5c L z.From.toNat) (by omega) fun z hz=>?_
 obtain ⟨a1,a2,_⟩:=h.ok z hz
 have:=at_left (L:=L) (a:=z.From.toNat) (by omega)
 rw [Int.toNat_of_nonneg a1] at this
 unfold Zqb
 cases decide (z.To=(a:Int)) with
 | true=>rw [Z85,this];rfl
 | false=>rfl
def Z7c (N:Nat) (l:List Arc) (L:List Bool) (O:List Int) (k:Nat):(List Bool×List Int) ⊕ (List Int×List Bool):=
 match (List.range' k (N-k)).find? (Z6c l L) with | some a=>.inl (L.set a false,O++[(a:Int)]) | none=>.inr (O,L)
theorem ord_in {N:Nat} {r:Nat→Int} {l:List Arc} (h:ArcsR N r l) {L:List Bool} (hL:L.length=N) {O:List Int} (hO:O.length≤64):loop (Zzb N l L O) 0=some (Z7c N l L O 0):=by
 have hn:=h.n
 refine loop_natI N (Zzb N l L O) (fun k=>(k:Int)) (fun k=>some (Z7c N l L O k)) (fun k hk=>?_) ?_
 ·have hr:List.range' k (N-k)=k::List.range' (k+1) (N-(k+1)):=by
   rw [show N-k=(N-(k+1))+1 by omega,List.range'_succ]
  have e0:Z7c N l L O k=if Z6c l L k then .inl (L.set k false,O++[(k:Int)]) else Z7c N l L O (k+1):=by
   unfold Z7c
   rw [hr,List.find?_cons]
   cases Z6c l L k<;>rfl
  dsimp only [Zzb]
  rw [decide_eq_true (by omega),Z85,at_left (by omega),Option.bind_some]
  have skip:Zyb L O (k:Int) false=some (.inl ((k+1:Nat):Int)):=by
   dsimp only [Zyb]
   rw [Z95,Zf5 (by omega)]
  cases hq:Z5c L k with
  | false=>
    left
    refine ⟨by rw [Z95,skip],?_⟩
    rw [e0,show Z6c l L k=false by unfold Z6c;rw [hq];rfl,if_neg (by simp)]
  | true=>
    rw [Z85,s_blk h hL,Option.bind_some]
    cases hb:blkB l L k with
    | true=>
      left
      refine ⟨by rw [Bool.not_true,skip],?_⟩
      rw [e0,show Z6c l L k=false by unfold Z6c;rw [hq,hb];rfl,if_neg (by simp)]
    | false=>
      right
      refine ⟨.inl (L.set k false,O++[(k:Int)]),?_,?_⟩
      ·rw [Bool.not_false]
       dsimp only [Zyb]
       rw [Z85,Zc5 _ _ (by omega) (by simp only [List.length_singleton];omega),Option.bind_some]
       rfl
      ·rw [e0,show Z6c l L k=true by unfold Z6c;rw [hq,hb];rfl,if_pos rfl]
 ·dsimp only [Zzb]
  rw [decide_eq_false (by omega),Z95]
  have:Z7c N l L O N = .inr (O,L):=by
   unfold Z7c
   rw [Nat.sub_self];rfl
  rw [this];rfl
theorem top2 (r:Nat→Int):∀ {l:List Nat},l≠ []→∃a∈l,∀b∈l,r b≤r a
 | [],h=>absurd rfl h
 | [a],_=>⟨a,by simp,fun b hb=>by simp at hb;subst hb;omega⟩
 | a::c::l,_=>by
   obtain ⟨t,ht,hm⟩:=top2 r (l:=c::l) (by simp)
   by_cases h:r t≤r a
   ·exact ⟨a,by simp,fun b hb=>by
     rcases List.mem_cons.1 hb with rfl | hb
     ·omega
     ·have:=hm b hb;omega⟩
   ·exact ⟨t,List.mem_cons_of_mem _ ht,fun b hb=>by
     rcases List.mem_cons.1 hb with rfl | hb
     ·omega
     ·exact hm b hb⟩
theorem some_free {N:Nat} {r:Nat→Int} {l:List Arc} (h:ArcsR N r l) {L:List Bool} (hL:L.length=N) (ht:0<L.count true):∃a,a<N∧Z6c l L a=true:=by
 have hne:(List.range N).filter (Z5c L)≠ []:=fun e=>by
  obtain ⟨k,hk⟩:=List.mem_iff_getElem?.1 (List.count_pos_iff.1 ht)
  have hlt:=(List.getElem?_eq_some_iff.1 hk).1
  have:k∈(List.range N).filter (Z5c L):=List.mem_filter.2 ⟨List.mem_range.2 (by omega),by unfold Z5c;rw [hk];rfl⟩
  rw [e] at this;simp at this
 obtain ⟨a,ha,hmax⟩:=top2 r hne
 obtain ⟨a1,a2⟩:=List.mem_filter.1 ha
 have a1:=List.mem_range.1 a1
 refine ⟨a,a1,?_⟩
 unfold Z6c
 rw [a2,Bool.true_and]
 have:blkB l L a=false:=by
  unfold blkB
  rw [List.any_eq_false]
  intro z hz hc
  rw [Bool.and_eq_true,decide_eq_true_eq] at hc
  obtain ⟨z1,z2,z3,z4,z5⟩:=h.ok z hz
  have hm:=hmax z.From.toNat (List.mem_filter.2 ⟨List.mem_range.2 (by omega),hc.2⟩)
  have e:z.To.toNat=a:=by omega
  rw [e] at z5
  omega
 rw [this];rfl
theorem count_set {L:List Bool} {a:Nat} (h:L[a]?=some true):(L.set a false).count true+1=L.count true:=by
 induction L generalizing a with
 | nil=>simp at h
 | cons b L ih=>
   cases a with
   | zero=>
     have:b=true:=by simpa using h
     subst this
     simp
   | succ a=>
     have:=ih (a:=a) (by simpa using h)
     simp only [List.set_cons_succ,List.count_cons]
     omega
theorem ord_out {N:Nat} {r:Nat→Int} {l:List Arc} (h:ArcsR N r l):∀(k:Nat) (L:List Bool) (O:List Int),L.length=N→L.count true=k→O.length+k=N→(∀a∈O,0≤a∧a<(N:Int))→
  ∃O' L',loop (Z0c N l) (L,O)=some (O',L')∧O'.length=N∧∀a∈O',0≤a∧a<(N:Int)
 | 0,L,O,hL,hk,hO,hr=>by
   have hn:=h.n
   have hf:Z7c N l L O 0 = .inr (O,L):=by
    unfold Z7c
    have:(List.range' 0 (N-0)).find? (Z6c l L)=none:=by
     rw [List.find?_eq_none]
     intro a _ hc
     unfold Z6c Z5c at hc
     rw [Bool.and_eq_true] at hc
     have hm:true∈L:=by
      cases hq:L[a]? with
      | none=>rw [hq] at hc;simp at hc
      | some b=>
        rw [hq] at hc
        have:b=true:=by simpa using hc.1
        rw [this] at hq
        exact List.mem_iff_getElem?.2 ⟨a,hq⟩
     have:=List.count_pos_iff.2 hm
     omega
    rw [this]
   refine ⟨O,L,?_,by omega,hr⟩
   rw [Z74]
   dsimp only [Z0c]
   rw [ord_in h hL (by omega),hf]
 | k+1,L,O,hL,hk,hO,hr=>by
   have hn:=h.n
   obtain ⟨a0,ha0,hfree⟩:=some_free h hL (by omega)
   cases hq:(List.range' 0 (N-0)).find? (Z6c l L) with
   | none=>
     rw [List.find?_eq_none] at hq
     exact absurd hfree (hq a0 (by rw [List.mem_range'_1];omega))
   | some a=>
     have hf:Z7c N l L O 0 = .inl (L.set a false,O++[(a:Int)]):=by
      unfold Z7c;rw [hq]
     have ha:=List.mem_of_find?_eq_some hq
     have hfa:=List.find?_some hq
     rw [List.mem_range'_1] at ha
     unfold Z6c at hfa
     rw [Bool.and_eq_true] at hfa
     have hLa:L[a]?=some true:=by
      have h1:=hfa.1
      unfold Z5c at h1
      cases hc:L[a]? with
      | none=>rw [hc] at h1;simp at h1
      | some b=>rw [hc] at h1;have:b=true:=by simpa using h1
                rw [this]
     have hcs:=count_set hLa
     obtain ⟨O',L',h1,h2,h3⟩:=ord_out h k (L.set a false) (O++[(a:Int)]) (by rw [List.length_set];exact hL) (by omega) (by rw [List.length_append,List.length_singleton];omega) (fun b hb=>by
      rcases List.mem_append.1 hb with hb | hb
      ·exact hr b hb
      ·rw [List.mem_singleton] at hb;omega)
     refine ⟨O',L',?_,h2,h3⟩
     rw [Z74]
     dsimp only [Z0c]
     rw [ord_in h hL (by omega),hf]
     exact h1
theorem s_dagOrder {N:Nat} {r:Nat→Int} {l:List Arc} (h:ArcsR N r l):∃O,Z2c N l=some (O,true)∧O.length=N∧∀a∈O,0≤a∧a<(N:Int):=by
 have hn:=h.n
 obtain ⟨O,L,h1,h2,h3⟩:=ord_out h N (List.replicate N true) [] (by simp) (by simp) (by simp) (by simp)
 refine ⟨O,?_,h2,h3⟩
 unfold Z2c
 rw [s_dagCheck h,Option.bind_some,show decide ((0:Int)=0)=true from rfl,Bool.not_true,Z95]
 have hR:Znb [true] (N:Int)=some (List.replicate N true):=by
  unfold Znb
  rw [if_pos ⟨rfl,by omega,by omega⟩]
  rfl
 have hrun:Z1c (N:Int) l=some (O,L):=by
  unfold Z1c
  rw [hR,Option.bind_some]
  exact h1
 rw [hrun,Option.bind_some,Zq4]
 dsimp only
 rw [h2,decide_eq_false (by omega),Z95]
set_option maxRecDepth 100000
set_option maxHeartbeats 4000000
@[go_sem] def e26_L0:EC:=.seq (.seq (.reg [(Qm 20 5),(Qf 21 1 2),(Ql 22 21),(Qa 23 (.len (.t 22))),(Qa 24 (.bin .lss (.t 20) (.t 23)))]) (.ite (.t 24) (.skip) (.exit 0))) (.seq (.blk 1 (.seq (.drw [(Qf 27 1 2),(Ql 28 27),(Qm 29 5),(Qk 30 2 28 29),(Qe 31 2 30),(Qf 32 1 3),(Ql 33 32),(Qm 34 5),(Qk 35 2 33 34),(Qe 36 2 35),(Qa 37 (.eqs true [true,true] (.t 31) (.t 36)))] [[],[0],[],[1,2],[3],[],[5],[],[6,7],[8],[4,9]] [[1],[0,3],[3],[1,2,4],[3,10],[6],[5,8],[8],[6,7,9],[8,10],[4,9]]) (.ite (.t 37) (.seq (.reg [(Qa 4 (.mv (.c .ff)))]) (.ret)) (.skip)))) (.reg [(Qm 25 5),(Qv 26 25 1),(Qm 5 26)]))
@[go_sem] def e26:EC:=.seq (.reg [(Qx 2 24 2 0),(Qx 3 24 2 1),(Qa 4 (.mv (.c .ff)))]) (.seq (.seq (.reg [(Qf 6 0 2),(Ql 7 6),(Qf 8 0 3),(Ql 9 8),(Qa 10 (.bin .neq (.t 7) (.t 9))),(Qm 11 10),(Qh 12 11 false 1 2),(Qn 13 11 false 12),(Qg 14 11 false (.len (.t 13))),(Qh 15 11 false 1 3),(Qn 16 11 false 15),(Qg 17 11 false (.len (.t 16))),(Qg 18 11 false (.bin .neq (.t 14) (.t 17))),(Qq 19 11 18)]) (.ite (.t 19) (.seq (.reg [(Qa 4 (.mv (.c .ff)))]) (.ret)) (.skip))) (.seq (.seq (.reg [(Qi 5 0)]) (.blk 0 (.loop e26_L0))) (.seq (.reg [(Qa 4 (.mv (.c .tt)))]) (.ret))))
theorem ok26:FnOK Try.prog 26 Try.f26 e26 [.t 4] 2 36:=⟨by kernel_rfl,⟨_,rfl,by kernel_rfl⟩,by kernel_rfl,by kernel_rfl⟩
noncomputable def Z8c:Unit→Option Bool
| ()=>
 some true
noncomputable def Z9c (x1:Graph) (x2:Graph):Int→Option (Int ⊕ Bool)
| x7=>
 ifb (decide (x7<(ln Edge.row x1.Edges))) (
 (at_ x1.Edges x7).bind fun x8=>
 (at_ x2.Edges x7).bind fun x9=>
 ifb (!(decide (x8.A=x9.A)&&(decide (x8.B=x9.B)&&true))) (
 Option.map Sum.inr (some false)) (
 some (.inl (wr (x7+1))))) (
 Option.map Sum.inr (Z8c ()))
noncomputable def Zac (x1:Graph) (x2:Graph):Bool→Option Bool
| x3=>
 ifb x3 (
 some false) (
 loop (Z9c x1 x2) 0)
noncomputable def Zbc (x1:Graph) (x2:Graph):Option Bool:=
 ifb (!decide (x1.N=x2.N)) (
 (Zac x1 x2) true) (
 (Zac x1 x2) (!decide ((ln Edge.row x1.Edges)=(ln Edge.row x2.Edges))))
theorem Zcc (x1:Graph) (x2:Graph) (r:Bool) (h:Zbc x1 x2=some r):Zu2 Try.prog 26 [.agg (Graph.row x1),.agg (Graph.row x2)] (.bv r):=by
 refine Zx2 ok26 rfl rfl fun w0 H0=>?_
 rw [Zbc] at h
 refine Zo2 15 ?_;dsimp only [go_sem];refine An ?_;refine Z94 (fun (x3:Bool)=>(⟨(.any :: .any :: .ptr 0 0 :: .ptr 1 0::an 15 (.bv x3::an 18 [])),[some ⟨24,[.iv x1.N,.sl 2 (List.map Edge.row x1.Edges)]⟩,some ⟨24,[.iv x2.N,.sl 2 (List.map Edge.row x2.Edges)]⟩],[]⟩:St)) (Zac x1 x2) r ?_ fun J1=>?_
 ·intro x3 h;rw [Zac] at h;(try dsimp only);refine Zb4 h rfl (fun _ h=>?_) fun _ h=>?_
  ·refine Zo2 4 ?_;dsimp only [go_sem];refine An ?_;exact Zi4 (res:=fun (r:Bool)=>.bv r) ok26 h
  ·refine Zo2 6 ?_;dsimp only [go_sem];refine An ?_;refine Z94 (fun (_:Unit)=>(⟨(an 38 []),[],[]⟩:St)) Z8c r ?_ fun J2=>?_
   ·rintro ⟨⟩ h;rw [Z8c] at h;(try dsimp only);refine Zo2 4 ?_;dsimp only [go_sem];refine An ?_;exact Zi4 (res:=fun (r:Bool)=>.bv r) ok26 h
   ·refine Zo2 1 ?_;dsimp only [go_sem];refine An ?_;refine Za4 h (fun (x7:Int)=>(⟨(.any :: .any :: .ptr 0 0 :: .ptr 1 0 :: .any :: .iv x7::an 32 []),[some ⟨24,[.iv x1.N,.sl 2 (List.map Edge.row x1.Edges)]⟩,some ⟨24,[.iv x2.N,.sl 2 (List.map Edge.row x2.Edges)]⟩],[]⟩:St)) (by simp [go_sem]) (by intro x7;first | rfl | simp [go_sem]) ?_;rintro n1 x7 y1 h hin1 hout1;rw [Z9c] at h;(try dsimp only);refine Zo2 9 ?_;dsimp only [go_sem];refine An ?_;refine Zb4 h rfl (fun _ h=>?_) fun _ h=>?_
    ·refine Zo2 4 ?_;dsimp only [go_sem];refine An ?_;refine Zi3 (by kernel_rfl) fun all hall hs hnap haf=>?_;dsimp only [go_sem];refine Zw4 hall hs haf hnap 6 5 [3,2,3,3] [(27,[.ptr 0 1,.sl 2 (List.map Edge.row x1.Edges),.iv x7]),(2,[.ptr 1 1,.sl 2 (List.map Edge.row x2.Edges),.iv x7])] (by kernel_rfl) ?_;dsimp only [go_sem];obtain ⟨x8,ex8,h⟩:=Bs h;refine Zf4 hall hs haf hnap 3 Edge.row ex8 rfl rfl trivial rfl rfl rfl rfl ?_;refine Zv4 hall hs haf hnap 1 3 ?_;dsimp only [go_sem];refine An ?_;obtain ⟨x9,ex9,h⟩:=Bs h
     refine Zf4 hall hs haf hnap 8 Edge.row ex9 rfl rfl trivial rfl rfl rfl rfl ?_;refine Zv4 hall hs haf hnap 2 0 ?_;dsimp only [go_sem];refine An ?_;refine Zs3 rfl ?_ _;refine Zb4 h rfl (fun _ h=>?_) fun _ h=>?_
     ·refine Zo2 4 ?_;dsimp only [go_sem];refine An ?_;exact Zi4 (res:=fun (r:Bool)=>.bv r) ok26 (Z84 h hout1)
     ·refine Zo2 7 ?_;dsimp only [go_sem];refine An ?_;exact Zj4 h hin1
    ·refine Zo2 1 ?_;dsimp only [go_sem];refine An ?_;exact Zk4 J2 (s:=()) (Z84 h hout1)
 ·refine Zh4 11 h rfl (fun _ h=>?_) fun _ h=>?_
  ·dsimp only [go_sem];refine Zo2 9 ?_;dsimp only [go_sem];refine An ?_;exact Zk4 J1 (s:=true) h
  ·dsimp only [go_sem];refine Zo2 9 ?_;dsimp only [go_sem];refine An ?_;exact Zk4 J1 (s:=!decide ((ln Edge.row x1.Edges)=(ln Edge.row x2.Edges))) h
set_option maxRecDepth 100000
set_option maxHeartbeats 4000000
@[go_sem] def e57_L0:EC:=.seq (.reg [(Qa 18 (.bin .lss (.t 17) (.t 16)))]) (.seq (.ite (.t 18) (.skip) (.exit 0)) (.seq (.blk 1 (.seq (.reg [(Qm 19 17),(Qk 20 3 15 17),(Qe 21 3 20),(Qa 8 (.alloc 39 [.iv 0,.iv 0,.nl])),(Qm 7 19),(Qs 3 8 21)]) (.seq (.reg [(Qm 22 1),(Qm 23 7),(Qk 24 3 22 23),(Qe 25 3 24),(Qa 9 (.alloc 39 [.iv 0,.iv 0,.nl])),(Qs 3 9 25)]) (.seq (.reg [(Qm 26 2),(Qe 27 3 8),(Qe 28 3 9),(Qa 29 (.callv (.t 26) [(.t 27),(.t 28)])),(Qa 30 (.not (.t 29)))]) (.ite (.t 30) (.seq (.reg [(Qa 6 (.mv (.c .ff)))]) (.ret)) (.skip)))))) (.reg [(Qv 31 17 1),(Qm 17 31)])))
@[go_sem] def e57:EC:=.seq (.reg [(Qa 6 (.mv (.c .ff)))]) (.seq (.seq (.reg [(Qm 10 0),(Qa 11 (.len (.t 10))),(Qm 12 1),(Qa 13 (.len (.t 12))),(Qa 14 (.bin .neq (.t 11) (.t 13)))]) (.ite (.t 14) (.seq (.reg [(Qa 6 (.mv (.c .ff)))]) (.ret)) (.skip))) (.seq (.seq (.reg [(Qm 15 0),(Qa 16 (.len (.t 15))),(Qi 17 0)]) (.blk 0 (.loop e57_L0))) (.seq (.reg [(Qa 6 (.mv (.c .tt)))]) (.ret))))
theorem ok57:FnOK Try.prog 57 Try.f57 e57 [.t 6] 3 29:=⟨by kernel_rfl,⟨_,rfl,by kernel_rfl⟩,by kernel_rfl,by kernel_rfl⟩
noncomputable def Zdc:Unit→Option Bool
| ()=>
 some true
noncomputable def Zec (x1:(List Diner)) (x2:(List Diner)) (p2:((Diner×Diner)→Option Bool)):Int→Option (Int ⊕ Bool)
| x7=>
 ifb (decide (x7<(ln Diner.row x1))) (
 (at_ x1 x7).bind fun x8=>
 (at_ x2 x7).bind fun x9=>
 (p2 (x8,x9)).bind fun x10=>
 ifb (!x10) (
 Option.map Sum.inr (some false)) (
 some (.inl (wr (x7+1))))) (
 Option.map Sum.inr (Zdc ()))
noncomputable def Zfc (x1:(List Diner)) (x2:(List Diner)) (p2:((Diner×Diner)→Option Bool)):Option Bool:=
 ifb (!decide ((ln Diner.row x1)=(ln Diner.row x2))) (
 some false) (
 loop (Zec x1 x2 p2) 0)
theorem Zgc (x1:(List Diner)) (x2:(List Diner)) (g2:Nat) (caps2:List AV) (p2:((Diner×Diner)→Option Bool)) (hc2:CloOK Try.prog g2 caps2 (fun z=>[.agg (Diner.row z.1),.agg (Diner.row z.2)]) p2 (fun z=>.bv z)) (r:Bool) (h:Zfc x1 x2 p2=some r):Zu2 Try.prog 57 [.sl 3 (List.map Diner.row x1),.sl 3 (List.map Diner.row x2),.clo g2 caps2] (.bv r):=by
 refine Zx2 ok57 rfl rfl fun w0 H0=>?_
 rw [Zfc] at h
 refine Zo2 13 ?_;dsimp only [go_sem];refine An ?_;refine Zb4 h rfl (fun _ h=>?_) fun _ h=>?_
 ·refine Zo2 4 ?_;dsimp only [go_sem];refine An ?_;exact Zi4 (res:=fun (r:Bool)=>.bv r) ok57 h
 ·refine Zo2 8 ?_;dsimp only [go_sem];refine An ?_;refine Z94 (fun (_:Unit)=>(⟨(an 32 []),[],[]⟩:St)) Zdc r ?_ fun J1=>?_
  ·rintro ⟨⟩ h;rw [Zdc] at h;(try dsimp only);refine Zo2 4 ?_;dsimp only [go_sem];refine An ?_;exact Zi4 (res:=fun (r:Bool)=>.bv r) ok57 h
  ·refine Zo2 1 ?_;dsimp only [go_sem];refine An ?_;refine Za4 h (fun (x7:Int)=>(⟨(.any :: .sl 3 (List.map Diner.row x2) :: .clo g2 caps2::an 12 (.sl 3 (List.map Diner.row x1) :: .iv (ln Diner.row x1) :: .iv x7::an 14 [])),[],[]⟩:St)) (by simp [go_sem]) (by intro x7;first | rfl | simp [go_sem,Z24 _ hc2.pu]) ?_;rintro n1 x7 y1 h hin1 hout1;rw [Zec] at h;(try dsimp only);refine Zo2 5 ?_;dsimp only [go_sem];refine An ?_;refine Zb4 h rfl (fun _ h=>?_) fun _ h=>?_
   ·refine Zo2 6 ?_;dsimp only [go_sem];refine An ?_;obtain ⟨x8,ex8,h⟩:=Bs h;refine Ze4 Diner.row ex8 trivial rfl rfl rfl ?_;refine Zo2 9 ?_;dsimp only [go_sem];refine An ?_;obtain ⟨x9,ex9,h⟩:=Bs h;refine Ze4 Diner.row ex9 trivial rfl rfl rfl ?_;refine Zo2 9 ?_;dsimp only [go_sem];refine An ?_;obtain ⟨x10,ex10,h⟩:=Bs h;refine Zn4 trivial rfl hc2 (x:=(x8,x9)) ex10 (by first | exact Z34 _ | simp [go_sem]) (by first | rfl | simp [go_sem,hc2.pu]) ?_;refine Zo2 2 ?_;dsimp only [go_sem];refine An ?_
    refine Zb4 h rfl (fun _ h=>?_) fun _ h=>?_
    ·refine Zo2 4 ?_;dsimp only [go_sem];refine An ?_;exact Zi4 (res:=fun (r:Bool)=>.bv r) ok57 (Z84 h hout1)
    ·refine Zo2 6 ?_;dsimp only [go_sem];refine An ?_;exact Zj4 h hin1 (hok:=by first | rfl | simp [go_sem,Z24 _ hc2.pu])
   ·refine Zo2 1 ?_;dsimp only [go_sem];refine An ?_;exact Zk4 J1 (s:=()) (Z84 h hout1) (hok:=by first | rfl | simp [go_sem,Z24 _ hc2.pu])
set_option maxRecDepth 100000
set_option maxHeartbeats 4000000
@[go_sem] def e58:EC:=.seq (.reg [(Qx 2 39 3 0),(Qx 3 39 3 1),(Qa 4 (.mv (.c .ff)))]) (.seq (.reg [(Qf 5 0 2),(Ql 6 5),(Qf 7 0 3),(Ql 8 7),(Qa 9 (.bin .eql (.t 6) (.t 8))),(Qm 10 9),(Qh 11 10 true 1 2),(Qn 12 10 true 11),(Qh 13 10 true 1 3),(Qn 14 10 true 13),(Qg 15 10 true (.bin .eql (.t 12) (.t 14))),(Qp 16 10 15),(Qm 17 16),(Qh 18 17 true 2 2),(Qn 19 17 true 18),(Qh 20 17 true 2 3),(Qn 21 17 true 20),(Qg 22 17 true (.call 59 [(.t 19),(.t 21)])),(Qp 23 17 22),(Qm 4 23)]) (.ret))
theorem ok58:FnOK Try.prog 58 Try.f58 e58 [.t 4] 2 22:=⟨by kernel_rfl,⟨_,rfl,by kernel_rfl⟩,by kernel_rfl,by kernel_rfl⟩
noncomputable def Zhc:Bool→Option Bool
| x4=>
 some x4
noncomputable def Zic (x1:Diner) (x2:Diner):Option Bool:=
 ifb (decide (x1.ID=x2.ID)) (
 ifb (decide (x1.Phase=x2.Phase)) (
 (Z65 x1.Sides x2.Sides).bind fun x3=>
 Zhc x3) (
 Zhc false)) (
 Zhc false)
theorem Zjc (x1:Diner) (x2:Diner) (r:Bool) (h:Zic x1 x2=some r):Zu2 Try.prog 58 [.agg (Diner.row x1),.agg (Diner.row x2)] (.bv r):=by
 refine Zx2 ok58 rfl rfl fun w0 H0=>?_
 rw [Zic] at h
 refine Zo2 14 ?_;dsimp only [go_sem];refine An ?_;refine Z94 (fun (x4:Bool)=>(⟨(an 4 (.bv x4::an 19 [])),[],[]⟩:St)) Zhc r ?_ fun J1=>?_
 ·intro x4 h;rw [Zhc] at h;(try dsimp only);exact Zi4 (res:=fun (r:Bool)=>.bv r) ok58 h
 ·refine Zh4 10 h rfl (fun _ h=>?_) fun _ h=>?_
  ·dsimp only [go_sem];refine Zo2 7 ?_;dsimp only [go_sem];refine An ?_;refine Zh4 17 h rfl (fun _ h=>?_) fun _ h=>?_
   ·dsimp only [go_sem];refine Zo2 4 ?_;dsimp only [go_sem];refine An ?_;obtain ⟨x3,ex3,h⟩:=Bs h;refine Z23 trivial (Z75 x1.Sides x2.Sides _ ex3) (h:=?_);refine Zo2 3 ?_;dsimp only [go_sem];refine An ?_;exact Zk4 J1 (s:=x3) h
   ·dsimp only [go_sem];refine Zo2 8 ?_;dsimp only [go_sem];refine An ?_;exact Zk4 J1 (s:=false) h
  ·dsimp only [go_sem];refine Zo2 15 ?_;dsimp only [go_sem];refine An ?_;exact Zk4 J1 (s:=false) h
set_option maxRecDepth 100000
set_option maxHeartbeats 4000000
@[go_sem] def e27:EC:=.seq (.reg [(Qa 4 (.mv (.c .ff)))]) (.seq (.reg [(Qm 5 0),(Qm 6 1),(Qa 7 (.call 57 [(.t 5),(.t 6),(.c (.clo 58 []))])),(Qm 4 7)]) (.ret))
theorem ok27:FnOK Try.prog 27 Try.f27 e27 [.t 4] 2 6:=⟨by kernel_rfl,⟨_,rfl,by kernel_rfl⟩,by kernel_rfl,by kernel_rfl⟩
noncomputable def Zkc (x1:(List Diner)) (x2:(List Diner)):Option Bool:=
 (Zfc x1 x2 ((fun z=>Zic z.1 z.2))).bind fun x3=>
 some x3
theorem Zlc (x1:(List Diner)) (x2:(List Diner)) (r:Bool) (h:Zkc x1 x2=some r):Zu2 Try.prog 27 [.sl 3 (List.map Diner.row x1),.sl 3 (List.map Diner.row x2)] (.bv r):=by
 refine Zx2 ok27 rfl rfl fun w0 H0=>?_
 rw [Zkc] at h
 refine Zo2 8 ?_;dsimp only [go_sem];refine An ?_;obtain ⟨x3,ex3,h⟩:=Bs h;refine Z23 trivial (Zgc x1 x2 _ _ ((fun z=>Zic z.1 z.2)) ⟨by kernel_rfl,rfl,fun z r hz=>Zjc z.1 z.2 r hz⟩ _ ex3) (h:=?_);refine Zo2 2 ?_;dsimp only [go_sem];refine An ?_;exact Zi4 (res:=fun (r:Bool)=>.bv r) ok27 h
set_option maxRecDepth 100000
set_option maxHeartbeats 4000000
@[go_sem] def e13:EC:=.seq (.reg [(Qa 0 (.mv (.c .ff)))]) (.seq (.reg [(Qa 9 (.build [.iv 0,.iv 0] [(0,1,(.c (.iv 0))),(1,1,(.c (.iv 1)))])),(Qa 10 (.bsl 58 2 1 [.iv 0,.iv 0] [(0,(.t 9))])),(Qa 11 (.build [.iv 0,.nl] [(0,1,(.c (.iv 2))),(1,1,(.t 10))])),(Qa 1 (.alloc 24 [.iv 0,.nl])),(Qs 2 1 11)]) (.seq (.reg [(Qe 13 2 1),(Qa 14 (.bsl 3 1 2 [.iv 0] [(0,(.c (.iv 1))),(1,(.c (.iv 2)))])),(Qa 15 (.call 14 [(.t 13),(.t 14)])),(Qm 12 15),(Qa 16 (.ext (.t 12) 0)),(Qa 17 (.ext (.t 12) 1)),(Qm 2 16),(Qm 3 17)]) (.seq (.seq (.reg [(Qm 18 3),(Qa 19 (.bin .neq (.t 18) (.c (.iv 0)))),(Qm 20 19),(Qg 21 20 false (.mv (.t 2))),(Qg 22 20 false (.len (.t 21))),(Qg 23 20 false (.bin .neq (.t 22) (.c (.iv 2)))),(Qq 24 20 23)]) (.ite (.t 24) (.seq (.reg [(Qa 0 (.mv (.c .ff)))]) (.ret)) (.skip))) (.seq (.reg [(Qm 26 2),(Qa 27 (.call 21 [(.t 26)])),(Qm 25 27),(Qa 28 (.ext (.t 25) 0)),(Qa 29 (.ext (.t 25) 1)),(Qa 4 (.alloc 24 [.iv 0,.nl])),(Qs 2 4 28),(Qm 5 29)]) (.seq (.reg [(Qm 31 2),(Qa 32 (.idx 3 (.t 31) (.c (.iv 1)))),(Qe 33 3 32),(Qa 34 (.call 24 [(.t 33),(.c (.iv 0))])),(Qm 30 34),(Qa 35 (.ext (.t 30) 0)),(Qa 36 (.ext (.t 30) 1)),(Qa 6 (.alloc 49 [.iv 0,.iv 0,.iv 0,.ff,.ff,.ff,.ff,.ff])),(Qs 8 6 35),(Qm 7 36)]) (.seq (.reg [(Qm 37 2),(Qa 38 (.build [.nl,.nl] [(0,1,(.t 37))])),(Qa 39 (.call 29 [(.t 38)])),(Qm 8 39)]) (.seq (.reg [(Qm 40 5),(Qm 41 40),(Qg 42 41 true (.loadA 2 (.t 1))),(Qg 43 41 true (.loadA 2 (.t 4))),(Qg 44 41 true (.call 26 [(.t 42),(.t 43)])),(Qp 45 41 44),(Qm 46 45),(Qg 47 46 true (.mv (.t 7))),(Qp 48 46 47),(Qm 49 48),(Qh 50 49 true 3 6),(Qn 51 49 true 50),(Qp 52 49 51),(Qm 53 52),(Qh 54 53 true 4 6),(Qn 55 53 true 54),(Qp 56 53 55),(Qm 57 56),(Qh 58 57 true 5 6),(Qn 59 57 true 58),(Qg 60 57 true (.not (.t 59))),(Qp 61 57 60),(Qm 62 61),(Qg 63 62 true (.mv (.t 8))),(Qg 64 62 true (.len (.t 63))),(Qg 65 62 true (.bin .eql (.t 64) (.c (.iv 1)))),(Qp 66 62 65),(Qm 67 66),(Qg 68 67 true (.mv (.t 8))),(Qg 69 67 true (.idx 2 (.t 68) (.c (.iv 0)))),(Qg 70 67 true (.loadA 2 (.t 69))),(Qg 71 67 true (.build [.iv 0,.iv 0] [(0,1,(.c (.iv 0))),(1,1,(.c (.iv 1)))])),(Qg 72 67 true (.eqs false [true,true] (.t 70) (.t 71))),(Qp 73 67 72),(Qm 74 73),(Qg 75 74 true (.mv (.t 2))),(Qg 76 74 true (.mv (.t 2))),(Qg 77 74 true (.call 27 [(.t 75),(.t 76)])),(Qp 78 74 77),(Qm 79 78),(Qg 80 79 true (.mv (.t 2))),(Qg 81 79 true (.call 27 [(.t 80),(.c .nl)])),(Qg 82 79 true (.not (.t 81))),(Qp 83 79 82),(Qm 0 83)]) (.ret))))))))
theorem ok13:FnOK Try.prog 13 Try.f13 e13 [.t 0] 0 84:=⟨by kernel_rfl,⟨_,rfl,by kernel_rfl⟩,by kernel_rfl,by kernel_rfl⟩
noncomputable def Zmc:Bool→Option Bool
| x11=>
 some x11
noncomputable def Znc (x1:((List Diner)×Int)):Bool→Option Bool
| x2=>
 ifb x2 (
 some false) (
 (Zb7 x1.1).bind fun x3=>
 (at_ x1.1 1).bind fun x4=>
 (Zs6 x4 0).bind fun x5=>
 (Zna ((Scene.mk x1.1 (([]:(List Mail)))))).bind fun x6=>
 ifb x3.2 (
 (Zbc ((Graph.mk 2 ([(Edge.mk 0 1)]))) x3.1).bind fun x7=>
 ifb x7 (
 ifb x5.2 (
 ifb x5.1.Fork (
 ifb x5.1.Dirty (
 ifb (!x5.1.Token) (
 ifb (decide ((ln Arc.row x6)=1)) (
 (at_ x6 0).bind fun x8=>
 ifb (decide (x8.From=0)&&(decide (x8.To=1)&&true)) (
 (Zkc x1.1 x1.1).bind fun x9=>
 ifb x9 (
 (Zkc x1.1 (([]:(List Diner)))).bind fun x10=>
 Zmc (!x10)) (
 Zmc false)) (
 Zmc false)) (
 Zmc false)) (
 Zmc false)) (
 Zmc false)) (
 Zmc false)) (
 Zmc false)) (
 Zmc false)) (
 Zmc false))
noncomputable def Zoc:Option Bool:=
 (Zh8 ((Graph.mk 2 ([(Edge.mk 0 1)]))) ([1,2])).bind fun x1=>
 ifb (!decide (x1.2=0)) (
 (Znc x1) true) (
 (Znc x1) (!decide ((ln Diner.row x1.1)=2)))
theorem Zpc (r:Bool) (h:Zoc=some r):Zu2 Try.prog 13 [] (.bv r):=by
 refine Zx2 ok13 rfl rfl fun w0 H0=>?_
 rw [Zoc] at h
 refine Zo2 16 ?_;dsimp only [go_sem];refine An ?_;refine Za3 0 rfl ?_;dsimp only [go_sem];refine Za3 1 rfl ?_;dsimp only [go_sem];obtain ⟨x1,ex1,h⟩:=Bs h;refine Z23 trivial (Zi8 ((Graph.mk 2 ([(Edge.mk 0 1)]))) ([1,2]) _ ex1) (h:=?_);refine Zo2 12 ?_;dsimp only [go_sem];refine An ?_;refine Z94 (fun (x2:Bool)=>(⟨(.any :: .ptr 0 0 :: .sl 3 (List.map Diner.row x1.1)::an 21 (.bv x2::an 59 [])),[some ⟨24,[.iv 2,.sl 2 (List.map Edge.row ([(Edge.mk 0 1)]))]⟩],[]⟩:St)) (Znc x1) r ?_ fun J1=>?_
 ·intro x2 h;rw [Znc] at h;(try dsimp only);refine Zb4 h rfl (fun _ h=>?_) fun _ h=>?_
  ·refine Zo2 4 ?_;dsimp only [go_sem];refine An ?_;exact Zi4 (res:=fun (r:Bool)=>.bv r) ok13 h
  ·refine Zo2 4 ?_;dsimp only [go_sem];refine An ?_;obtain ⟨x3,ex3,h⟩:=Bs h;refine Z23 trivial (k_place_Graph x1.1 _ ex3) (h:=?_);refine Zo2 10 ?_;dsimp only [go_sem];refine An ?_;obtain ⟨x4,ex4,h⟩:=Bs h;refine Ze4 Diner.row ex4 trivial rfl rfl rfl ?_;refine Zo2 1 ?_;dsimp only [go_sem];refine An ?_;obtain ⟨x5,ex5,h⟩:=Bs h;refine Z23 trivial (Zt6 x4 0 _ ex5) (h:=?_);refine Zo2 11 ?_;dsimp only [go_sem];refine An ?_;obtain ⟨x6,ex6,h⟩:=Bs h;refine Z23 trivial (Zoa ((Scene.mk x1.1 (([]:(List Mail))))) _ ex6) (h:=?_)
   refine Zo2 6 ?_;dsimp only [go_sem];refine An ?_;refine Z94 (fun (x11:Bool)=>(⟨(.bv x11::an 83 []),[],[]⟩:St)) Zmc r ?_ fun J2=>?_
   ·intro x11 h;rw [Zmc] at h;(try dsimp only);exact Zi4 (res:=fun (r:Bool)=>.bv r) ok13 h
   ·refine Zh4 41 h rfl (fun _ h=>?_) fun _ h=>?_
    ·dsimp only [go_sem];refine Zo2 2 ?_;dsimp only [go_sem];refine An ?_;obtain ⟨x7,ex7,h⟩:=Bs h;refine Z23 trivial (Zcc ((Graph.mk 2 ([(Edge.mk 0 1)]))) x3.1 _ ex7) (h:=?_);refine Zo2 2 ?_;dsimp only [go_sem];refine An ?_;refine Zh4 46 h rfl (fun _ h=>?_) fun _ h=>?_
     ·dsimp only [go_sem];refine Zo2 3 ?_;dsimp only [go_sem];refine An ?_;refine Zh4 49 h rfl (fun _ h=>?_) fun _ h=>?_
      ·dsimp only [go_sem];refine Zo2 4 ?_;dsimp only [go_sem];refine An ?_;refine Zh4 53 h rfl (fun _ h=>?_) fun _ h=>?_
       ·dsimp only [go_sem];refine Zo2 4 ?_;dsimp only [go_sem];refine An ?_;refine Zh4 57 h rfl (fun _ h=>?_) fun _ h=>?_
        ·dsimp only [go_sem];refine Zo2 5 ?_;dsimp only [go_sem];refine An ?_;refine Zh4 62 h rfl (fun _ h=>?_) fun _ h=>?_
         ·dsimp only [go_sem];refine Zo2 5 ?_;dsimp only [go_sem];refine An ?_;refine Zh4 67 h rfl (fun _ h=>?_) fun _ h=>?_
          ·dsimp only [go_sem];refine Zo2 1 ?_;dsimp only [go_sem];refine An ?_;obtain ⟨x8,ex8,h⟩:=Bs h;refine Ze4 Arc.row ex8 trivial rfl rfl rfl ?_;refine Zo2 5 ?_;dsimp only [go_sem];refine An ?_;refine Zh4 74 h rfl (fun _ h=>?_) fun _ h=>?_
           ·dsimp only [go_sem];refine Zo2 2 ?_;dsimp only [go_sem];refine An ?_;obtain ⟨x9,ex9,h⟩:=Bs h;refine Z23 trivial (Zlc x1.1 x1.1 _ ex9) (h:=?_);refine Zo2 2 ?_;dsimp only [go_sem];refine An ?_;refine Zh4 79 h rfl (fun _ h=>?_) fun _ h=>?_
            ·dsimp only [go_sem];refine Zo2 1 ?_;dsimp only [go_sem];refine An ?_;obtain ⟨x10,ex10,h⟩:=Bs h;refine Z23 trivial (Zlc x1.1 (([]:(List Diner))) _ ex10) (h:=?_);refine Zo2 4 ?_;dsimp only [go_sem];refine An ?_;exact Zk4 J2 (s:=!x10) h
            ·dsimp only [go_sem];refine Zo2 6 ?_;dsimp only [go_sem];refine An ?_;exact Zk4 J2 (s:=false) h
           ·dsimp only [go_sem];refine Zo2 11 ?_;dsimp only [go_sem];refine An ?_;exact Zk4 J2 (s:=false) h
          ·dsimp only [go_sem];refine Zo2 18 ?_;dsimp only [go_sem];refine An ?_;exact Zk4 J2 (s:=false) h
         ·dsimp only [go_sem];refine Zo2 23 ?_;dsimp only [go_sem];refine An ?_;exact Zk4 J2 (s:=false) h
        ·dsimp only [go_sem];refine Zo2 28 ?_;dsimp only [go_sem];refine An ?_;exact Zk4 J2 (s:=false) h
       ·dsimp only [go_sem];refine Zo2 32 ?_;dsimp only [go_sem];refine An ?_;exact Zk4 J2 (s:=false) h
      ·dsimp only [go_sem];refine Zo2 36 ?_;dsimp only [go_sem];refine An ?_;exact Zk4 J2 (s:=false) h
     ·dsimp only [go_sem];refine Zo2 39 ?_;dsimp only [go_sem];refine An ?_;exact Zk4 J2 (s:=false) h
    ·dsimp only [go_sem];refine Zo2 44 ?_;dsimp only [go_sem];refine An ?_;exact Zk4 J2 (s:=false) h
 ·refine Zh4 20 h rfl (fun _ h=>?_) fun _ h=>?_
  ·dsimp only [go_sem];refine Zo2 5 ?_;dsimp only [go_sem];refine An ?_;exact Zk4 J1 (s:=true) h
  ·dsimp only [go_sem];refine Zo2 5 ?_;dsimp only [go_sem];refine An ?_;exact Zk4 J1 (s:=!decide ((ln Diner.row x1.1)=2)) h
set_option maxRecDepth 100000
set_option maxHeartbeats 4000000
@[go_sem] def e33_L1:EC:=.seq (.reg [(Qa 32 (.bin .lss (.t 31) (.t 30)))]) (.seq (.ite (.t 32) (.skip) (.exit 2)) (.seq (.blk 3 (.seq (.reg [(Qk 33 2 29 31),(Qe 34 2 33),(Qa 12 (.alloc 62 [.iv 0,.iv 0])),(Qs 2 12 34)]) (.seq (.reg [(Qf 35 0 12),(Ql 36 35),(Qm 37 10),(Qa 38 (.bin .eql (.t 36) (.t 37)))]) (.ite (.t 38) (.drw [(Qm 39 8),(Qf 40 1 12),(Ql 41 40),(Qm 42 8),(Qf 43 1 12),(Ql 44 43),(Qk 45 1 42 44),(Ql 46 45),(Qm 47 8),(Qm 48 10),(Qk 49 1 47 48),(Ql 50 49),(Qv 51 50 1),(Qa 52 (.mm true [(.t 46),(.t 51)])),(Qk 53 1 39 41),(Qs 1 53 52)] [[],[],[1],[],[],[4],[3,5],[6],[],[],[8,9],[10],[11],[7,12],[0,2,0,1,2,3,4,5,6,7,8,9,10,11,12,13],[14,13,0,1,2,3,4,5,6,7,8,9,10,11,12,13]] [[14],[2],[1,14],[6],[5],[4,6],[3,5,7],[6,13],[10],[10],[8,9,11],[10,12],[11,13],[7,12,15],[0,2,15],[13,14]]) (.skip))))) (.reg [(Qv 54 31 1),(Qm 31 54)])))
@[go_sem] def e33_L0:EC:=.seq (.reg [(Qa 26 (.bin .lss (.t 25) (.t 24)))]) (.seq (.ite (.t 26) (.skip) (.exit 0)) (.seq (.blk 1 (.seq (.reg [(Qk 27 1 23 25),(Ql 28 27),(Qm 10 28)]) (.seq (.reg [(Qm 29 1),(Qa 30 (.len (.t 29))),(Qi 31 0)]) (.blk 2 (.loop e33_L1))))) (.reg [(Qv 55 25 1),(Qm 25 55)])))
@[go_sem] def e33:EC:=.seq (.reg [(Qa 4 (.mv (.c .nl))),(Qa 5 (.mv (.c .ff)))]) (.seq (.reg [(Qm 14 0),(Qm 15 1),(Qa 16 (.call 66 [(.t 14),(.t 15)])),(Qm 13 16),(Qa 17 (.ext (.t 13) 0)),(Qa 18 (.ext (.t 13) 1)),(Qm 6 17),(Qm 7 18)]) (.seq (.seq (.reg [(Qm 19 7),(Qa 20 (.not (.t 19)))]) (.ite (.t 20) (.seq (.reg [(Qa 4 (.mv (.c .nl))),(Qa 5 (.mv (.c .ff)))]) (.ret)) (.skip))) (.seq (.reg [(Qm 21 0),(Qa 22 (.mks 3 1 8 [.iv 0] (.t 21) (.t 21))),(Qm 8 22)]) (.seq (.seq (.reg [(Qm 23 6),(Qa 24 (.len (.t 23))),(Qi 25 0)]) (.blk 0 (.loop e33_L0))) (.seq (.reg [(Qm 56 8),(Qm 4 56),(Qa 5 (.mv (.c .tt)))]) (.ret))))))
theorem ok33:FnOK Try.prog 33 Try.f33 e33 [.t 4,.t 5] 2 55:=⟨by kernel_rfl,⟨_,rfl,by kernel_rfl⟩,by kernel_rfl,by kernel_rfl⟩
noncomputable def Zqc:(List Int)→Option ((List Int)×Bool)
| x65=>
 some (x65,true)
noncomputable def Zrc (x31:Int):(List Int)→Option ((Int×(List Int)) ⊕ ((List Int)×Bool))
| x57=>
 some (.inl (wr (x31+1),x57))
noncomputable def Zsc (x40:Int):(List Int)→Option ((Int×(List Int)) ⊕ ((Int×(List Int)) ⊕ ((List Int)×Bool)))
| x45=>
 some (.inl (wr (x40+1),x45))
noncomputable def Ztc (x2:(List Arc)) (x31:Int) (x33:Int):(Int×(List Int))→Option ((Int×(List Int)) ⊕ ((Int×(List Int)) ⊕ ((List Int)×Bool)))
| (x40,x41)=>
 ifb (decide (x40<(ln Arc.row x2))) (
 (at_ x2 x40).bind fun x42=>
 ifb (decide (x42.From=x33)) (
 (at_ x41 x42.To).bind fun x43=>
 (at_ x41 x33).bind fun x44=>
 (Zsc x40) (x41.set (x42.To).toNat ((max x43 (wr (x44+1)))))) (
 (Zsc x40) x41)) (
 Option.map Sum.inr ((Zrc x31) x41))
noncomputable def Zuc (x2:(List Arc)) (x3:((List Int)×Bool)):(Int×(List Int))→Option ((Int×(List Int)) ⊕ ((List Int)×Bool))
| (x31,x32)=>
 ifb (decide (x31<(ln Zo4 x3.1))) (
 (at_ x3.1 x31).bind fun x33=>
 loop (Ztc x2 x31 x33) (0,x32)) (
 Option.map Sum.inr (Zqc x32))
noncomputable def Zvc (x1:Int) (x2:(List Arc)):Option ((List Int)×Bool):=
 (Z2c x1 x2).bind fun x3=>
 ifb (!x3.2) (
 some (([]:(List Int)),false)) (
 (mk_ 8 x1 0).bind fun x4=>
 loop (Zuc x2 x3) (0,x4))
theorem k_dag_Depths (x1:Int) (x2:(List Arc)) (r:((List Int)×Bool)) (h:Zvc x1 x2=some r):Zu2 Try.prog 33 [.iv x1,.sl 2 (List.map Arc.row x2)] (.tup [.sl 1 (List.map Zo4 r.1),.bv r.2]):=by
 refine Zx2 ok33 rfl rfl fun w0 H0=>?_
 rw [Zvc] at h
 refine Zo2 9 ?_;dsimp only [go_sem];refine An ?_;obtain ⟨x3,ex3,h⟩:=Bs h;refine Z23 trivial (k_dag_Order x1 x2 _ ex3) (h:=?_);refine Zo2 12 ?_;dsimp only [go_sem];refine An ?_;refine Zb4 h rfl (fun _ h=>?_) fun _ h=>?_
 ·refine Zo2 5 ?_;dsimp only [go_sem];refine An ?_;exact Zi4 (res:=fun (r:((List Int)×Bool))=>.tup [.sl 1 (List.map Zo4 r.1),.bv r.2]) ok33 h
 ·refine Zo2 4 ?_;dsimp only [go_sem];refine An ?_;obtain ⟨x4,ex4,h⟩:=Bs h;refine V_mksM Zo4 ex4 trivial rfl rfl rfl rfl ?_;refine Zo2 9 ?_;dsimp only [go_sem];refine An ?_;refine Z94 (fun (x65:(List Int))=>(⟨(an 8 (.osl 0::an 48 [])),[],[some ⟨3,1,List.map Zo4 x65⟩]⟩:St)) Zqc r ?_ fun J1=>?_
  ·intro x65 h;rw [Zqc] at h;(try dsimp only);refine Zo2 6 ?_;dsimp only [go_sem];refine An ?_;refine Za3 0 rfl ?_;dsimp only [go_sem];exact Zi4 (res:=fun (r:((List Int)×Bool))=>.tup [.sl 1 (List.map Zo4 r.1),.bv r.2]) ok33 h
  ·refine Zo2 1 ?_;dsimp only [go_sem];refine An ?_;refine Za4 h (fun ((x31,x32):(Int×(List Int)))=>(⟨(.any :: .sl 2 (List.map Arc.row x2)::an 6 (.osl 0::an 14 (.sl 1 (List.map Zo4 x3.1) :: .iv (ln Zo4 x3.1) :: .iv x31::an 31 []))),[],[some ⟨3,1,List.map Zo4 x32⟩]⟩:St)) (by simp [go_sem]) (by rintro ⟨x31,x32⟩;first | rfl | simp [go_sem]) ?_;rintro n1 ⟨x31,x32⟩ y1 h hin1 hout1;rw [Zuc] at h;(try dsimp only);refine Zo2 5 ?_;dsimp only [go_sem];refine An ?_;refine Zb4 h rfl (fun _ h=>?_) fun _ h=>?_
   ·refine Zo2 5 ?_;dsimp only [go_sem];refine An ?_;obtain ⟨x33,ex33,h⟩:=Bs h;refine Ze4 Zo4 ex33 trivial rfl rfl rfl ?_;refine Zo2 9 ?_;dsimp only [go_sem];refine An ?_;refine Z94 (fun (x57:(List Int))=>(⟨(.any :: .sl 2 (List.map Arc.row x2)::an 6 (.osl 0::an 14 (.sl 1 (List.map Zo4 x3.1) :: .iv (ln Zo4 x3.1) :: .iv x31::an 31 []))),[],[some ⟨3,1,List.map Zo4 x57⟩]⟩:St)) (Zrc x31) y1 ?_ fun J2=>?_
    ·intro x57 h;rw [Zrc] at h;(try dsimp only);refine Zo2 5 ?_;dsimp only [go_sem];refine An ?_;exact Zj4 h hin1
    ·refine Zo2 1 ?_;dsimp only [go_sem];refine An ?_;refine Za4 h (fun ((x40,x41):(Int×(List Int)))=>(⟨(.any :: .sl 2 (List.map Arc.row x2)::an 6 (.osl 0 :: .any :: .iv x33::an 12 (.sl 1 (List.map Zo4 x3.1) :: .iv (ln Zo4 x3.1) :: .iv x31::an 3 (.sl 2 (List.map Arc.row x2) :: .iv (ln Arc.row x2) :: .iv x40::an 25 [])))),[],[some ⟨3,1,List.map Zo4 x41⟩]⟩:St)) (by simp [go_sem]) (by rintro ⟨x40,x41⟩;first | rfl | simp [go_sem]) ?_;rintro n2 ⟨x40,x41⟩ y2 h hin2 hout2;rw [Ztc] at h;(try dsimp only);refine Zo2 5 ?_;dsimp only [go_sem]
     refine An ?_;refine Zb4 h rfl (fun _ h=>?_) fun _ h=>?_
     ·refine Zo2 5 ?_;dsimp only [go_sem];refine An ?_;obtain ⟨x42,ex42,h⟩:=Bs h;refine Ze4 Arc.row ex42 trivial rfl rfl rfl ?_;refine Zo2 11 ?_;dsimp only [go_sem];refine An ?_;refine Z94 (fun (x45:(List Int))=>(⟨(.any :: .sl 2 (List.map Arc.row x2)::an 6 (.osl 0 :: .any :: .iv x33::an 12 (.sl 1 (List.map Zo4 x3.1) :: .iv (ln Zo4 x3.1) :: .iv x31::an 3 (.sl 2 (List.map Arc.row x2) :: .iv (ln Arc.row x2) :: .iv x40::an 25 [])))),[],[some ⟨3,1,List.map Zo4 x45⟩]⟩:St)) (Zsc x40) y2 ?_ fun J3=>?_
      ·intro x45 h;rw [Zsc] at h;(try dsimp only);refine Zo2 5 ?_;dsimp only [go_sem];refine An ?_;exact Zj4 h hin2
      ·refine Zb4 h rfl (fun _ h=>?_) fun _ h=>?_
       ·refine Zi3 (by kernel_rfl) fun all hall hs hnap haf=>?_;dsimp only [go_sem];refine Zw4 hall hs haf hnap 8 8 [6,2,2,6] [(39,[.osl 0,.ptr 0 1,.iv x42.To,.osl 0,.ptr 0 1,.iv x42.To]),(2,[.osl 0,.iv x33])] (by kernel_rfl) ?_;dsimp only [go_sem];obtain ⟨x43,ex43,h⟩:=Bs h;obtain ⟨x44,ex44,h⟩:=Bs h;refine G_two 6 10 rfl ?_ ?_
        ·refine Z15 hall Zo4 ex43 rfl trivial rfl rfl rfl ?_;dsimp only [go_sem];refine G_two 7 10 rfl ?_ ?_
         ·refine Z25 hall Zo4 ex43 rfl trivial rfl rfl rfl ?_;dsimp only [go_sem];refine Zt3 10 rfl ?_;refine Z15 hall Zo4 ex44 rfl trivial rfl rfl rfl ?_;dsimp only [go_sem];refine Zt3 11 rfl ?_;refine Z25 hall Zo4 ex44 rfl trivial rfl rfl rfl ?_;dsimp only [go_sem];refine Zv4 hall hs haf hnap 1 3 ?_;dsimp only [go_sem];refine An ?_;refine Zt3 13 rfl ?_;refine Zw3 hall rfl trivial ?_;dsimp only [go_sem];refine Zt3 14 rfl ?_;refine Z15 hall Zo4 ex43 rfl trivial rfl rfl rfl ?_;dsimp only [go_sem];refine Zt3 15 rfl ?_
          refine Z35 hall [.iv ((max x43 (wr (x44+1))))] Zo4 (y':=(max x43 (wr (x44+1)))) ex43 rfl trivial rfl rfl rfl (by first | exact Z34 _ | simp [go_sem]) rfl rfl rfl rfl ?_;dsimp only [go_sem];refine Zs3 rfl ?_ _;exact Zk4 J3 (s:=x41.set (x42.To).toNat ((max x43 (wr (x44+1))))) h
         ·refine Z15 hall Zo4 ex44 rfl trivial rfl rfl rfl ?_;dsimp only [go_sem];refine G_two 7 11 rfl ?_ ?_
          ·refine Z25 hall Zo4 ex43 rfl trivial rfl rfl rfl ?_;dsimp only [go_sem];refine Zt3 11 rfl ?_;refine Z25 hall Zo4 ex44 rfl trivial rfl rfl rfl ?_;dsimp only [go_sem];refine Zv4 hall hs haf hnap 1 3 ?_;dsimp only [go_sem];refine An ?_;refine Zt3 13 rfl ?_;refine Zw3 hall rfl trivial ?_;dsimp only [go_sem];refine Zt3 14 rfl ?_;refine Z15 hall Zo4 ex43 rfl trivial rfl rfl rfl ?_;dsimp only [go_sem];refine Zt3 15 rfl ?_
           refine Z35 hall [.iv ((max x43 (wr (x44+1))))] Zo4 (y':=(max x43 (wr (x44+1)))) ex43 rfl trivial rfl rfl rfl (by first | exact Z34 _ | simp [go_sem]) rfl rfl rfl rfl ?_;dsimp only [go_sem];refine Zs3 rfl ?_ _;exact Zk4 J3 (s:=x41.set (x42.To).toNat ((max x43 (wr (x44+1))))) h
          ·refine Z25 hall Zo4 ex44 rfl trivial rfl rfl rfl ?_;dsimp only [go_sem];refine Zv4 hall hs haf hnap 1 4 ?_;dsimp only [go_sem];refine An ?_;refine Zt3 7 rfl ?_;refine Z25 hall Zo4 ex43 rfl trivial rfl rfl rfl ?_;dsimp only [go_sem];refine Zt3 13 rfl ?_;refine Zw3 hall rfl trivial ?_;dsimp only [go_sem];refine Zt3 14 rfl ?_;refine Z15 hall Zo4 ex43 rfl trivial rfl rfl rfl ?_;dsimp only [go_sem];refine Zt3 15 rfl ?_
           refine Z35 hall [.iv ((max x43 (wr (x44+1))))] Zo4 (y':=(max x43 (wr (x44+1)))) ex43 rfl trivial rfl rfl rfl (by first | exact Z34 _ | simp [go_sem]) rfl rfl rfl rfl ?_;dsimp only [go_sem];refine Zs3 rfl ?_ _;exact Zk4 J3 (s:=x41.set (x42.To).toNat ((max x43 (wr (x44+1))))) h
        ·refine Z15 hall Zo4 ex44 rfl trivial rfl rfl rfl ?_;dsimp only [go_sem];refine G_two 6 11 rfl ?_ ?_
         ·refine Z15 hall Zo4 ex43 rfl trivial rfl rfl rfl ?_;dsimp only [go_sem];refine G_two 7 11 rfl ?_ ?_
          ·refine Z25 hall Zo4 ex43 rfl trivial rfl rfl rfl ?_;dsimp only [go_sem];refine Zt3 11 rfl ?_;refine Z25 hall Zo4 ex44 rfl trivial rfl rfl rfl ?_;dsimp only [go_sem];refine Zv4 hall hs haf hnap 1 3 ?_;dsimp only [go_sem];refine An ?_;refine Zt3 13 rfl ?_;refine Zw3 hall rfl trivial ?_;dsimp only [go_sem];refine Zt3 14 rfl ?_;refine Z15 hall Zo4 ex43 rfl trivial rfl rfl rfl ?_;dsimp only [go_sem];refine Zt3 15 rfl ?_
           refine Z35 hall [.iv ((max x43 (wr (x44+1))))] Zo4 (y':=(max x43 (wr (x44+1)))) ex43 rfl trivial rfl rfl rfl (by first | exact Z34 _ | simp [go_sem]) rfl rfl rfl rfl ?_;dsimp only [go_sem];refine Zs3 rfl ?_ _;exact Zk4 J3 (s:=x41.set (x42.To).toNat ((max x43 (wr (x44+1))))) h
          ·refine Z25 hall Zo4 ex44 rfl trivial rfl rfl rfl ?_;dsimp only [go_sem];refine Zv4 hall hs haf hnap 1 4 ?_;dsimp only [go_sem];refine An ?_;refine Zt3 7 rfl ?_;refine Z25 hall Zo4 ex43 rfl trivial rfl rfl rfl ?_;dsimp only [go_sem];refine Zt3 13 rfl ?_;refine Zw3 hall rfl trivial ?_;dsimp only [go_sem];refine Zt3 14 rfl ?_;refine Z15 hall Zo4 ex43 rfl trivial rfl rfl rfl ?_;dsimp only [go_sem];refine Zt3 15 rfl ?_
           refine Z35 hall [.iv ((max x43 (wr (x44+1))))] Zo4 (y':=(max x43 (wr (x44+1)))) ex43 rfl trivial rfl rfl rfl (by first | exact Z34 _ | simp [go_sem]) rfl rfl rfl rfl ?_;dsimp only [go_sem];refine Zs3 rfl ?_ _;exact Zk4 J3 (s:=x41.set (x42.To).toNat ((max x43 (wr (x44+1))))) h
         ·refine Z25 hall Zo4 ex44 rfl trivial rfl rfl rfl ?_;dsimp only [go_sem];refine Zv4 hall hs haf hnap 1 5 ?_;dsimp only [go_sem];refine An ?_;refine Zt3 6 rfl ?_;refine Z15 hall Zo4 ex43 rfl trivial rfl rfl rfl ?_;dsimp only [go_sem];refine Zt3 7 rfl ?_;refine Z25 hall Zo4 ex43 rfl trivial rfl rfl rfl ?_;dsimp only [go_sem];refine Zt3 13 rfl ?_;refine Zw3 hall rfl trivial ?_;dsimp only [go_sem];refine Zt3 14 rfl ?_;refine Z15 hall Zo4 ex43 rfl trivial rfl rfl rfl ?_;dsimp only [go_sem];refine Zt3 15 rfl ?_
          refine Z35 hall [.iv ((max x43 (wr (x44+1))))] Zo4 (y':=(max x43 (wr (x44+1)))) ex43 rfl trivial rfl rfl rfl (by first | exact Z34 _ | simp [go_sem]) rfl rfl rfl rfl ?_;dsimp only [go_sem];refine Zs3 rfl ?_ _;exact Zk4 J3 (s:=x41.set (x42.To).toNat ((max x43 (wr (x44+1))))) h
       ·refine Zo2 1 ?_;dsimp only [go_sem];refine An ?_;exact Zk4 J3 (s:=x41) h
     ·refine Zo2 1 ?_;dsimp only [go_sem];refine An ?_;exact Zk4 J2 (s:=x41) (Z84 h hout2)
   ·refine Zo2 1 ?_;dsimp only [go_sem];refine An ?_;exact Zk4 J1 (s:=x32) (Z84 h hout1)
set_option maxRecDepth 100000
set_option maxHeartbeats 4000000
@[go_sem] def e67_L0:EC:=.seq (.seq (.reg [(Qm 12 4),(Qm 13 0),(Qa 14 (.len (.t 13))),(Qa 15 (.bin .lss (.t 12) (.t 14)))]) (.ite (.t 15) (.skip) (.exit 0))) (.seq (.blk 1 (.reg [(Qm 18 3),(Qm 19 0),(Qm 20 4),(Qk 21 1 19 20),(Ql 22 21),(Qa 23 (.mm true [(.t 18),(.t 22)])),(Qm 3 23)])) (.reg [(Qm 16 4),(Qv 17 16 1),(Qm 4 17)]))
@[go_sem] def e67:EC:=.seq (.reg [(Qi 2 0)]) (.seq (.seq (.reg [(Qm 5 0),(Qa 6 (.len (.t 5))),(Qa 7 (.bin .lss (.t 6) (.c (.iv 1))))]) (.ite (.t 7) (.reg [(Qa 8 .bad),(Qb .bad)]) (.skip))) (.seq (.reg [(Qm 9 0),(Qa 10 (.idx 1 (.t 9) (.c (.iv 0)))),(Ql 11 10),(Qm 3 11)]) (.seq (.seq (.reg [(Qi 4 1)]) (.blk 0 (.loop e67_L0))) (.seq (.reg [(Qm 24 3),(Qm 2 24)]) (.ret)))))
theorem ok67:FnOK Try.prog 67 Try.f67 e67 [.t 2] 1 24:=⟨by kernel_rfl,⟨_,rfl,by kernel_rfl⟩,by kernel_rfl,by kernel_rfl⟩
noncomputable def Zwc:Int→Option Int
| x14=>
 some x14
noncomputable def Zxc (x1:(List Int)):(Int×Int)→Option ((Int×Int) ⊕ Int)
| (x6,x7)=>
 ifb (decide (x7<(ln Zo4 x1))) (
 (at_ x1 x7).bind fun x8=>
 some (.inl ((max x6 x8),wr (x7+1)))) (
 Option.map Sum.inr (Zwc x6))
noncomputable def Zyc (x1:(List Int)):Unit→Option Int
| ()=>
 (at_ x1 0).bind fun x2=>
 loop (Zxc x1) (x2,1)
noncomputable def Zzc (x1:(List Int)):Option Int:=
 ifb (decide ((ln Zo4 x1)<1)) (
 none) (
 (Zyc x1) ())
theorem Z0d (x1:(List Int)) (r:Int) (h:Zzc x1=some r):Zu2 Try.prog 67 [.sl 1 (List.map Zo4 x1)] (.iv r):=by
 refine Zx2 ok67 rfl rfl fun w0 H0=>?_
 rw [Zzc] at h
 refine Zo2 11 ?_;dsimp only [go_sem];refine An ?_;refine Z94 (fun (_:Unit)=>(⟨(.sl 1 (List.map Zo4 x1)::an 24 []),[],[]⟩:St)) (Zyc x1) r ?_ fun J1=>?_
 ·rintro ⟨⟩ h;rw [Zyc] at h;(try dsimp only);refine Zo2 3 ?_;dsimp only [go_sem];refine An ?_;obtain ⟨x2,ex2,h⟩:=Bs h;refine Ze4 Zo4 ex2 trivial rfl rfl rfl ?_;refine Zo2 8 ?_;dsimp only [go_sem];refine An ?_;refine Z94 (fun (x14:Int)=>(⟨(an 3 (.iv x14::an 21 [])),[],[]⟩:St)) Zwc r ?_ fun J2=>?_
  ·intro x14 h;rw [Zwc] at h;(try dsimp only);refine Zo2 5 ?_;dsimp only [go_sem];refine An ?_;exact Zi4 (res:=fun (r:Int)=>.iv r) ok67 h
  ·refine Zo2 1 ?_;dsimp only [go_sem];refine An ?_;refine Za4 h (fun ((x6,x7):(Int×Int))=>(⟨(.sl 1 (List.map Zo4 x1) :: .any :: .any :: .iv x6 :: .iv x7::an 20 []),[],[]⟩:St)) (by simp [go_sem]) (by rintro ⟨x6,x7⟩;first | rfl | simp [go_sem]) ?_;rintro n1 ⟨x6,x7⟩ y1 h hin1 hout1;rw [Zxc] at h;(try dsimp only);refine Zo2 8 ?_;dsimp only [go_sem];refine An ?_;refine Zb4 h rfl (fun _ h=>?_) fun _ h=>?_
   ·refine Zo2 7 ?_;dsimp only [go_sem];refine An ?_;obtain ⟨x8,ex8,h⟩:=Bs h;refine Ze4 Zo4 ex8 trivial rfl rfl rfl ?_;refine Zo2 10 ?_;dsimp only [go_sem];refine An ?_;exact Zj4 h hin1
   ·refine Zo2 1 ?_;dsimp only [go_sem];refine An ?_;exact Zk4 J2 (s:=x6) (Z84 h hout1)
 ·refine Zb4 h rfl (fun _ h=>?_) fun _ h=>?_
  ·cases h
  ·refine Zo2 1 ?_;dsimp only [go_sem];refine An ?_;exact Zk4 J1 (s:=()) h
set_option maxRecDepth 100000
set_option maxHeartbeats 4000000
@[go_sem] def e34:EC:=.seq (.reg [(Qi 2 0)]) (.seq (.reg [(Qa 3 (.bsl 3 1 1 [.iv 0] [(0,(.c (.iv 0)))])),(Qm 4 0),(Qa 5 (.app 3 1 8 (.t 3) (.t 4))),(Qa 6 (.call 67 [(.t 5)])),(Qa 7 (.mm true [(.c (.iv 0)),(.t 6)])),(Qm 2 7)]) (.ret))
theorem ok34:FnOK Try.prog 34 Try.f34 e34 [.t 2] 1 7:=⟨by kernel_rfl,⟨_,rfl,by kernel_rfl⟩,by kernel_rfl,by kernel_rfl⟩
noncomputable def Z1d (x1:(List Int)):Option Int:=
 (app_ 8 ([0]) x1).bind fun x2=>
 (Zzc x2).bind fun x3=>
 some (max 0 x3)
theorem k_colour_Most (x1:(List Int)) (r:Int) (h:Z1d x1=some r):Zu2 Try.prog 34 [.sl 1 (List.map Zo4 x1)] (.iv r):=by
 refine Zx2 ok34 rfl rfl fun w0 H0=>?_
 rw [Z1d] at h
 refine Zo2 8 ?_;dsimp only [go_sem];refine An ?_;obtain ⟨x2,ex2,h⟩:=Bs h;refine Zg4 Zo4 ex2 trivial rfl rfl rfl ?_;obtain ⟨x3,ex3,h⟩:=Bs h;refine Zm4 trivial ((Zl4.refl _).slice 1 rfl) (Z0d x2 _ ex3) (h:=?_);refine Zo2 3 ?_;dsimp only [go_sem];refine An ?_;exact Zi4 (res:=fun (r:Int)=>.iv r) ok34 h
set_option maxRecDepth 100000
set_option maxHeartbeats 4000000
@[go_sem] def e8_L1:EC:=.seq (.seq (.reg [(Qm 101 12),(Qm 102 10),(Qa 103 (.len (.t 102))),(Qa 104 (.bin .lss (.t 101) (.t 103)))]) (.ite (.t 104) (.skip) (.exit 2))) (.seq (.blk 3 (.seq (.drw [(Qm 107 10),(Qm 108 12),(Qk 109 1 107 108),(Ql 110 109),(Qm 111 3),(Qa 112 (.call 34 [(.t 111)])),(Qa 113 (.bin .geq (.t 110) (.t 112)))] [[],[],[0,1],[2],[],[4],[3,5]] [[2],[2],[0,1,3],[2,6],[5],[4,6],[3,5]]) (.ite (.t 113) (.seq (.reg [(Qa 2 (.mv (.c .ff)))]) (.ret)) (.skip)))) (.reg [(Qm 105 12),(Qv 106 105 1),(Qm 12 106)]))
@[go_sem] def e8_L0:EC:=.seq (.seq (.reg [(Qm 56 9),(Qm 57 8),(Qa 58 (.len (.t 57))),(Qa 59 (.bin .lss (.t 56) (.t 58)))]) (.ite (.t 59) (.skip) (.exit 0))) (.seq (.blk 1 (.seq (.drw [(Qm 62 3),(Qm 63 8),(Qm 64 9),(Qk 65 2 63 64),(Qf 66 0 65),(Ql 67 66),(Qk 68 1 62 67),(Ql 69 68),(Qm 70 3),(Qm 71 8),(Qm 72 9),(Qk 73 2 71 72),(Qf 74 1 73),(Ql 75 74),(Qk 76 1 70 75),(Ql 77 76),(Qa 78 (.bin .geq (.t 69) (.t 77))),(Qm 79 78),(Qg 80 79 false (.loadA 2 (.t 1))),(Qg 81 79 false (.mv (.t 8))),(Qg 82 79 false (.mv (.t 9))),(Qg 83 79 false (.idx 2 (.t 81) (.t 82))),(Qh 84 79 false 0 83),(Qn 85 79 false 84),(Qg 86 79 false (.mv (.t 8))),(Qg 87 79 false (.mv (.t 9))),(Qg 88 79 false (.idx 2 (.t 86) (.t 87))),(Qh 89 79 false 1 88),(Qn 90 79 false 89),(Qg 91 79 false (.call 32 [(.t 80),(.t 85),(.t 90)])),(Qg 92 79 false (.not (.t 91))),(Qq 93 79 92)] [[],[],[],[1,2],[3],[4],[0,5],[6],[],[],[],[9,10],[11],[12],[8,13],[14],[7,15],[16],[17],[17],[17],[19,20,17],[21,17],[22,17],[17],[17],[24,25,17],[26,17],[27,17],[18,23,28,17,17],[29,17],[17,30]] [[6],[3],[3],[1,2,4],[3,5],[4,6],[0,5,7],[6,16],[14],[11],[11],[9,10,12],[11,13],[12,14],[8,13,15],[14,16],[7,15,17],[16,18,19,20,21,22,23,24,25,26,27,28,29,30,31],[17,29],[17,21],[17,21],[17,19,20,22],[17,21,23],[17,22,29],[17,26],[17,26],[17,24,25,27],[17,26,28],[17,27,29],[17,18,23,28,30],[17,29,31],[17,30]]) (.ite (.t 93) (.seq (.reg [(Qa 2 (.mv (.c .ff)))]) (.ret)) (.skip)))) (.reg [(Qm 60 9),(Qv 61 60 1),(Qm 9 61)]))
@[go_sem] def e8:EC:=.seq (.reg [(Qx 1 24 2 0),(Qa 2 (.mv (.c .ff)))]) (.seq (.seq (.reg [(Qa 13 (.call 13 [])),(Qa 14 (.not (.t 13))),(Qm 15 14),(Qh 16 15 false 1 1),(Qn 17 15 false 16),(Qg 18 15 false (.len (.t 17))),(Qg 19 15 false (.bin .gtr (.t 18) (.c (.iv 60)))),(Qq 20 15 19),(Qm 21 20),(Qh 22 21 false 0 1),(Qn 23 21 false 22),(Qg 24 21 false (.bin .gtr (.t 23) (.c (.iv 24)))),(Qq 25 21 24)]) (.ite (.t 25) (.seq (.reg [(Qa 26 (.call 13 [])),(Qm 2 26)]) (.ret)) (.skip))) (.seq (.reg [(Qe 28 2 1),(Qa 29 (.call 15 [(.t 28)])),(Qa 30 (.call 31 [(.t 29)])),(Qm 27 30),(Qa 31 (.ext (.t 27) 0)),(Qa 32 (.ext (.t 27) 1)),(Qa 33 (.ext (.t 27) 2)),(Qm 3 31),(Qm 4 32),(Qm 5 33)]) (.seq (.seq (.reg [(Qm 34 5),(Qa 35 (.bin .neq (.t 34) (.c (.iv 0))))]) (.ite (.t 35) (.seq (.reg [(Qa 2 (.mv (.c .tt)))]) (.ret)) (.skip))) (.seq (.reg [(Qe 37 2 1),(Qa 38 (.call 15 [(.t 37)])),(Qm 39 3),(Qa 40 (.call 14 [(.t 38),(.t 39)])),(Qm 36 40),(Qa 41 (.ext (.t 36) 0)),(Qa 42 (.ext (.t 36) 1)),(Qm 6 41),(Qm 7 42)]) (.seq (.reg [(Qm 43 6),(Qa 44 (.build [.nl,.nl] [(0,1,(.t 43))])),(Qa 45 (.call 29 [(.t 44)])),(Qm 8 45)]) (.seq (.seq (.reg [(Qm 46 7),(Qa 47 (.bin .neq (.t 46) (.c (.iv 0)))),(Qm 48 47),(Qg 49 48 false (.mv (.t 8))),(Qg 50 48 false (.len (.t 49))),(Qh 51 48 false 1 1),(Qn 52 48 false 51),(Qg 53 48 false (.len (.t 52))),(Qg 54 48 false (.bin .neq (.t 50) (.t 53))),(Qq 55 48 54)]) (.ite (.t 55) (.seq (.reg [(Qa 2 (.mv (.c .ff)))]) (.ret)) (.skip))) (.seq (.seq (.reg [(Qi 9 0)]) (.blk 0 (.loop e8_L0))) (.seq (.reg [(Qf 95 0 1),(Ql 96 95),(Qm 97 8),(Qa 98 (.call 33 [(.t 96),(.t 97)])),(Qm 94 98),(Qa 99 (.ext (.t 94) 0)),(Qa 100 (.ext (.t 94) 1)),(Qm 10 99),(Qm 11 100)]) (.seq (.seq (.reg [(Qi 12 0)]) (.blk 2 (.loop e8_L1))) (.seq (.reg [(Qm 114 11),(Qm 2 114)]) (.ret)))))))))))
theorem ok8:FnOK Try.prog 8 Try.f8 e8 [.t 2] 1 114:=⟨by kernel_rfl,⟨_,rfl,by kernel_rfl⟩,by kernel_rfl,by kernel_rfl⟩
noncomputable def Z2d (x34:((List Int)×Bool)):Unit→Option Bool
| ()=>
 some x34.2
noncomputable def Z3d (x6:((List Int)×Int×Int)) (x34:((List Int)×Bool)):Int→Option (Int ⊕ Bool)
| x38=>
 ifb (decide (x38<(ln Zo4 x34.1))) (
 (at_ x34.1 x38).bind fun x39=>
 (Z1d x6.1).bind fun x40=>
 ifb (decide (x40≤x39)) (
 Option.map Sum.inr (some false)) (
 some (.inl (wr (x38+1))))) (
 Option.map Sum.inr ((Z2d x34) ()))
noncomputable def Z4d (x1:Graph) (x6:((List Int)×Int×Int)) (x9:(List Arc)):Unit→Option Bool
| ()=>
 (Zvc x1.N x9).bind fun x34=>
 loop (Z3d x6 x34) 0
noncomputable def Z5d (x20:Int):Bool→Option (Int ⊕ Bool)
| x28=>
 ifb x28 (
 Option.map Sum.inr (some false)) (
 some (.inl (wr (x20+1))))
noncomputable def Z6d (x1:Graph) (x6:((List Int)×Int×Int)) (x9:(List Arc)):Int→Option (Int ⊕ Bool)
| x20=>
 ifb (decide (x20<(ln Arc.row x9))) (
 (at_ x9 x20).bind fun x21=>
 (at_ x6.1 x21.From).bind fun x22=>
 (at_ x9 x20).bind fun x23=>
 (at_ x6.1 x23.To).bind fun x24=>
 ifb (decide (x24≤x22)) (
 (Z5d x20) true) (
 (at_ x9 x20).bind fun x25=>
 (at_ x9 x20).bind fun x26=>
 (Z08 x1 x25.From x26.To).bind fun x27=>
 (Z5d x20) (!x27))) (
 Option.map Sum.inr ((Z4d x1 x6 x9) ()))
noncomputable def Z7d (x1:Graph) (x6:((List Int)×Int×Int)) (x9:(List Arc)):Bool→Option Bool
| x10=>
 ifb x10 (
 some false) (
 loop (Z6d x1 x6 x9) 0)
noncomputable def Z8d (x1:Graph):Bool→Option Bool
| x3=>
 ifb x3 (
 (Zoc).bind fun x4=>
 some x4) (
 (Zu6 x1).bind fun x5=>
 (Zo9 x5).bind fun x6=>
 ifb (!decide (x6.2.2=0)) (
 some true) (
 (Zu6 x1).bind fun x7=>
 (Zh8 x7 x6.1).bind fun x8=>
 (Zna ((Scene.mk x8.1 (([]:(List Mail)))))).bind fun x9=>
 ifb (!decide (x8.2=0)) (
 (Z7d x1 x6 x9) true) (
 (Z7d x1 x6 x9) (!decide ((ln Arc.row x9)=(ln Edge.row x1.Edges))))))
noncomputable def Z9d (x1:Graph):Option Bool:=
 (Zoc).bind fun x2=>
 ifb (!x2) (
 (Z8d x1) true) (
 ifb (decide (60<(ln Edge.row x1.Edges))) (
 (Z8d x1) true) (
 (Z8d x1) (decide (24<x1.N))))
theorem Zad (x1:Graph) (r:Bool) (h:Z9d x1=some r):Zu2 Try.prog 8 [.agg (Graph.row x1)] (.bv r):=by
 refine Zx2 ok8 rfl rfl fun w0 H0=>?_
 rw [Z9d] at h
 refine Zo2 8 ?_;dsimp only [go_sem];refine An ?_;obtain ⟨x2,ex2,h⟩:=Bs h;refine Z23 trivial (Zpc _ ex2) (h:=?_);refine Zo2 2 ?_;dsimp only [go_sem];refine An ?_;refine Z94 (fun (x3:Bool)=>(⟨(.any :: .ptr 0 0::an 23 (.bv x3::an 89 [])),[some ⟨24,[.iv x1.N,.sl 2 (List.map Edge.row x1.Edges)]⟩],[]⟩:St)) (Z8d x1) r ?_ fun J1=>?_
 ·intro x3 h;rw [Z8d] at h;(try dsimp only);refine Zb4 h rfl (fun _ h=>?_) fun _ h=>?_
  ·refine Zo2 2 ?_;dsimp only [go_sem];refine An ?_;obtain ⟨x4,ex4,h⟩:=Bs h;refine Z23 trivial (Zpc _ ex4) (h:=?_);refine Zo2 2 ?_;dsimp only [go_sem];refine An ?_;exact Zi4 (res:=fun (r:Bool)=>.bv r) ok8 h
  ·refine Zo2 4 ?_;dsimp only [go_sem];refine An ?_;obtain ⟨x5,ex5,h⟩:=Bs h;refine Z23 trivial (Zv6 x1 _ ex5) (h:=?_);obtain ⟨x6,ex6,h⟩:=Bs h;refine Z23 trivial (k_colour_Run x5 _ ex6) (h:=?_);refine Zo2 14 ?_;dsimp only [go_sem];refine An ?_;refine Zb4 h rfl (fun _ h=>?_) fun _ h=>?_
   ·refine Zo2 4 ?_;dsimp only [go_sem];refine An ?_;exact Zi4 (res:=fun (r:Bool)=>.bv r) ok8 h
   ·refine Zo2 4 ?_;dsimp only [go_sem];refine An ?_;obtain ⟨x7,ex7,h⟩:=Bs h;refine Z23 trivial (Zv6 x1 _ ex7) (h:=?_);refine Zo2 1 ?_;dsimp only [go_sem];refine An ?_;obtain ⟨x8,ex8,h⟩:=Bs h;refine Z23 trivial (Zi8 x7 x6.1 _ ex8) (h:=?_);refine Zo2 10 ?_;dsimp only [go_sem];refine An ?_;obtain ⟨x9,ex9,h⟩:=Bs h;refine Z23 trivial (Zoa ((Scene.mk x8.1 (([]:(List Mail))))) _ ex9) (h:=?_);refine Zo2 8 ?_;dsimp only [go_sem];refine An ?_
    refine Z94 (fun (x10:Bool)=>(⟨(.any :: .ptr 0 0 :: .any :: .sl 1 (List.map Zo4 x6.1)::an 4 (.sl 2 (List.map Arc.row x9)::an 46 (.bv x10::an 59 []))),[some ⟨24,[.iv x1.N,.sl 2 (List.map Edge.row x1.Edges)]⟩],[]⟩:St)) (Z7d x1 x6 x9) r ?_ fun J2=>?_
    ·intro x10 h;rw [Z7d] at h;(try dsimp only);refine Zb4 h rfl (fun _ h=>?_) fun _ h=>?_
     ·refine Zo2 4 ?_;dsimp only [go_sem];refine An ?_;exact Zi4 (res:=fun (r:Bool)=>.bv r) ok8 h
     ·refine Zo2 6 ?_;dsimp only [go_sem];refine An ?_;refine Z94 (fun (_:Unit)=>(⟨(.any :: .ptr 0 0 :: .any :: .sl 1 (List.map Zo4 x6.1)::an 4 (.sl 2 (List.map Arc.row x9)::an 106 [])),[some ⟨24,[.iv x1.N,.sl 2 (List.map Edge.row x1.Edges)]⟩],[]⟩:St)) (Z4d x1 x6 x9) r ?_ fun J3=>?_
      ·rintro ⟨⟩ h;rw [Z4d] at h;(try dsimp only);refine Zo2 5 ?_;dsimp only [go_sem];refine An ?_;obtain ⟨x34,ex34,h⟩:=Bs h;refine Z23 trivial (k_dag_Depths x1.N x9 _ ex34) (h:=?_);refine Zo2 11 ?_;dsimp only [go_sem];refine An ?_;refine Z94 (fun (_:Unit)=>(⟨(an 11 (.bv x34.2::an 103 [])),[],[]⟩:St)) (Z2d x34) r ?_ fun J5=>?_
       ·rintro ⟨⟩ h;rw [Z2d] at h;(try dsimp only);refine Zo2 5 ?_;dsimp only [go_sem];refine An ?_;exact Zi4 (res:=fun (r:Bool)=>.bv r) ok8 h
       ·refine Zo2 1 ?_;dsimp only [go_sem];refine An ?_;refine Za4 h (fun (x38:Int)=>(⟨(an 3 (.sl 1 (List.map Zo4 x6.1)::an 6 (.sl 1 (List.map Zo4 x34.1) :: .bv x34.2 :: .iv x38::an 102 []))),[],[]⟩:St)) (by simp [go_sem]) (by intro x38;first | rfl | simp [go_sem]) ?_;rintro n1 x38 y1 h hin1 hout1;rw [Z3d] at h;(try dsimp only);refine Zo2 8 ?_;dsimp only [go_sem];refine An ?_;refine Zb4 h rfl (fun _ h=>?_) fun _ h=>?_
        ·refine Zo2 4 ?_;dsimp only [go_sem];refine An ?_;refine Zi3 (by kernel_rfl) fun all hall hs hnap haf=>?_;dsimp only [go_sem];refine Zv4 hall hs haf hnap 3 4 ?_;dsimp only [go_sem];refine An ?_;obtain ⟨x39,ex39,h⟩:=Bs h;refine Zf4 hall hs haf hnap 2 Zo4 ex39 rfl rfl trivial rfl rfl rfl rfl ?_;refine Zv4 hall hs haf hnap 1 2 ?_;dsimp only [go_sem];refine An ?_;refine Zt3 5 rfl ?_;obtain ⟨x40,ex40,h⟩:=Bs h;refine Zx3 hall rfl trivial (k_colour_Most x6.1 _ ex40) (h:=?_);dsimp only [go_sem];refine Zv4 hall hs haf hnap 1 0 ?_
         dsimp only [go_sem];refine An ?_;refine Zs3 rfl ?_ _;refine Zb4 h rfl (fun _ h=>?_) fun _ h=>?_
         ·refine Zo2 4 ?_;dsimp only [go_sem];refine An ?_;exact Zi4 (res:=fun (r:Bool)=>.bv r) ok8 (Z84 h hout1)
         ·refine Zo2 7 ?_;dsimp only [go_sem];refine An ?_;exact Zj4 h hin1
        ·refine Zo2 1 ?_;dsimp only [go_sem];refine An ?_;exact Zk4 J5 (s:=()) (Z84 h hout1)
      ·refine Zo2 1 ?_;dsimp only [go_sem];refine An ?_;refine Za4 h (fun (x20:Int)=>(⟨(.any :: .ptr 0 0 :: .any :: .sl 1 (List.map Zo4 x6.1)::an 4 (.sl 2 (List.map Arc.row x9) :: .iv x20::an 105 [])),[some ⟨24,[.iv x1.N,.sl 2 (List.map Edge.row x1.Edges)]⟩],[]⟩:St)) (by simp [go_sem]) (by intro x20;first | rfl | simp [go_sem]) ?_;rintro n1 x20 y1 h hin1 hout1;rw [Z6d] at h;(try dsimp only);refine Zo2 8 ?_;dsimp only [go_sem];refine An ?_;refine Zb4 h rfl (fun _ h=>?_) fun _ h=>?_
       ·refine Zo2 4 ?_;dsimp only [go_sem];refine An ?_;refine Z94 (fun (x28:Bool)=>(⟨(.any :: .ptr 0 0 :: .any :: .sl 1 (List.map Zo4 x6.1)::an 4 (.sl 2 (List.map Arc.row x9) :: .iv x20::an 83 (.bv x28::an 21 []))),[some ⟨24,[.iv x1.N,.sl 2 (List.map Edge.row x1.Edges)]⟩],[]⟩:St)) (Z5d x20) y1 ?_ fun J4=>?_
        ·intro x28 h;rw [Z5d] at h;(try dsimp only);refine Zb4 h rfl (fun _ h=>?_) fun _ h=>?_
         ·refine Zo2 4 ?_;dsimp only [go_sem];refine An ?_;exact Zi4 (res:=fun (r:Bool)=>.bv r) ok8 (Z84 h hout1)
         ·refine Zo2 7 ?_;dsimp only [go_sem];refine An ?_;exact Zj4 h hin1
        ·refine Zi3 (by kernel_rfl) fun all hall hs hnap haf=>?_;dsimp only [go_sem];refine Zw4 hall hs haf hnap 6 26 [3,5,3,21] [(62,[.sl 1 (List.map Zo4 x6.1),.sl 2 (List.map Arc.row x9),.iv x20]),(5,[.sl 1 (List.map Zo4 x6.1),.sl 2 (List.map Arc.row x9),.iv x20])] (by kernel_rfl) ?_;dsimp only [go_sem];obtain ⟨x21,ex21,h⟩:=Bs h;refine Zf4 hall hs haf hnap 3 Arc.row ex21 rfl rfl trivial rfl rfl rfl rfl ?_;refine Zw4 hall hs haf hnap 2 23 [6,2,3,21] [(66,[.elt [.iv x21.From,.iv x21.To] 0,.iv x21.From])] (by kernel_rfl) ?_;dsimp only [go_sem]
         obtain ⟨x22,ex22,h⟩:=Bs h;refine Zf4 hall hs haf hnap 6 Zo4 ex22 rfl rfl trivial rfl rfl rfl rfl ?_;refine Zv4 hall hs haf hnap 1 21 ?_;dsimp only [go_sem];refine An ?_;obtain ⟨x23,ex23,h⟩:=Bs h;refine Zf4 hall hs haf hnap 11 Arc.row ex23 rfl rfl trivial rfl rfl rfl rfl ?_;refine Zw4 hall hs haf hnap 2 18 [14,18] [(74,[.elt [.iv x23.From,.iv x23.To] 1,.iv x23.To])] (by kernel_rfl) ?_;dsimp only [go_sem];obtain ⟨x24,ex24,h⟩:=Bs h;refine Zf4 hall hs haf hnap 14 Zo4 ex24 rfl rfl trivial rfl rfl rfl rfl ?_
         refine Zw4 hall hs haf hnap 3 14 [18,14] [(77,[.iv x24,.bv (decide (x24≤x22)),.bv (decide (x24≤x22))])] (by kernel_rfl) ?_;dsimp only [go_sem];refine Zr4 79 h rfl (fun _ h=>?_) fun _ h=>?_
         ·dsimp only [go_sem];refine Zw4 hall hs haf hnap 14 0 [32] [(80,[.un,.un,.un,.un,.un,.un,.un,.un,.un,.un,.un,.un,.un,.tt])] (by kernel_rfl) ?_;dsimp only [go_sem];refine Zs3 rfl ?_ _;exact Zk4 J4 (s:=true) h
         ·dsimp only [go_sem];refine Zw4 hall hs haf hnap 5 9 [21,3,2,6] [(80,[.agg [.iv x1.N,.sl 2 (List.map Edge.row x1.Edges)],.sl 2 (List.map Arc.row x9),.iv x20]),(3,[.sl 2 (List.map Arc.row x9),.iv x20])] (by kernel_rfl) ?_;dsimp only [go_sem];obtain ⟨x25,ex25,h⟩:=Bs h;refine Zf4 hall hs haf hnap 21 Arc.row ex25 rfl rfl trivial rfl rfl rfl rfl ?_;refine Zw4 hall hs haf hnap 2 6 [26,6] [(84,[.elt [.iv x25.From,.iv x25.To] 0,.iv x25.From])] (by kernel_rfl) ?_;dsimp only [go_sem];obtain ⟨x26,ex26,h⟩:=Bs h
          refine Zf4 hall hs haf hnap 26 Arc.row ex26 rfl rfl trivial rfl rfl rfl rfl ?_;refine Zw4 hall hs haf hnap 2 3 [29,3] [(89,[.elt [.iv x26.From,.iv x26.To] 1,.iv x26.To])] (by kernel_rfl) ?_;dsimp only [go_sem];refine Zt3 29 rfl ?_;obtain ⟨x27,ex27,h⟩:=Bs h;refine Zx3 hall rfl trivial (Z18 x1 x25.From x26.To _ ex27) (h:=?_);dsimp only [go_sem];refine Zw4 hall hs haf hnap 2 0 [32] [(92,[.bv (!x27),.bv (!x27)])] (by kernel_rfl) ?_;dsimp only [go_sem];refine Zs3 rfl ?_ _;exact Zk4 J4 (s:=!x27) h
       ·refine Zo2 1 ?_;dsimp only [go_sem];refine An ?_;exact Zk4 J3 (s:=()) (Z84 h hout1)
    ·refine Zh4 48 h rfl (fun _ h=>?_) fun _ h=>?_
     ·dsimp only [go_sem];refine Zo2 8 ?_;dsimp only [go_sem];refine An ?_;exact Zk4 J2 (s:=true) h
     ·dsimp only [go_sem];refine Zo2 8 ?_;dsimp only [go_sem];refine An ?_;exact Zk4 J2 (s:=!decide ((ln Arc.row x9)=(ln Edge.row x1.Edges))) h
 ·refine Zh4 15 h rfl (fun _ h=>?_) fun _ h=>?_
  ·dsimp only [go_sem];refine Zo2 11 ?_;dsimp only [go_sem];refine An ?_;exact Zk4 J1 (s:=true) h
  ·dsimp only [go_sem];refine Zo2 6 ?_;dsimp only [go_sem];refine An ?_;refine Zh4 21 h rfl (fun _ h=>?_) fun _ h=>?_
   ·dsimp only [go_sem];refine Zo2 5 ?_;dsimp only [go_sem];refine An ?_;exact Zk4 J1 (s:=true) h
   ·dsimp only [go_sem];refine Zo2 5 ?_;dsimp only [go_sem];refine An ?_;exact Zk4 J1 (s:=decide (24<x1.N)) h
set_option maxRecDepth 100000
set_option maxHeartbeats 4000000
theorem s_placeSame1 (a b:Diner) (hl:a.Sides.length≤1000000):Zic a b=some (decide (a=b)):=by
 obtain ⟨a1,a2,l⟩:=a
 obtain ⟨b1,b2,m⟩:=b
 dsimp only at hl
 simp only [Zic,Zhc,s_EqualSide l m hl,Diner.mk.injEq]
 by_cases h1:a1=b1<;>by_cases h2:a2=b2<;>simp [h1,h2]
theorem s_placeSame (l m:List Diner) (hl:fewD l):Zkc l m=some (decide (l=m)):=by
 simp only [Zkc,Zfc,ln_dec]
 by_cases h:l.length=m.length
 ·simp only [h,decide_true,Bool.not_true,Z95]
  rw [Z27 l m _ (fun x y=>decide (x=y)) h (by have:=hl.1;omega) (fun k x y hx hy=>by
   simp only [Zec,Zd5 hx,Z85,Zb5 hx,Zb5 hy,Option.bind_some,s_placeSame1 x y (by have:=hl.2 x (List.mem_iff_getElem?.2 ⟨k,hx⟩);omega),Zg5 hx (show l.length≤4000000000000000000 by have:=hl.1;omega),Za5,Option.map_some]
   cases decide (x=y)<;>rfl) (by simp only [Zec,Ze5,Z95,Zdc,Option.map_some]),Z37 l m h]
  rfl
 ·simp [h,len_ne h]
theorem s_r03Same (g h:Graph) (hl:g.Edges.length≤1000000):Zbc g h=some (decide (g=h)):=by
 obtain ⟨n,l⟩:=g
 obtain ⟨n',m⟩:=h
 dsimp only at hl
 simp only [Zbc,Zac,ln_dec,Graph.mk.injEq]
 by_cases h1:n=n'
 ·by_cases h:l.length=m.length
  ·simp only [h1,h,decide_true,Bool.not_true,Z95,true_and]
   rw [Z27 l m _ (fun x y=>decide (x=y)) h (by omega) (fun k x y hx hy=>by
    simp only [Z9c,Zd5 hx,Z85,Zb5 hx,Zb5 hy,Option.bind_some,Edge_eqB,Zg5 hx (show l.length≤4000000000000000000 by omega),Za5,Option.map_some]
    cases decide (x=y)<;>rfl) (by simp only [Z9c,Ze5,Z95,Z8c,Option.map_some]),Z37 l m h]
  ·simp [h1,h];rintro rfl;exact h rfl
 ·simp [h1]
set_option maxRecDepth 100000
set_option maxHeartbeats 4000000
set_option maxRecDepth 100000
set_option maxHeartbeats 4000000
set_option maxRecDepth 100000
set_option maxHeartbeats 4000000
set_option maxRecDepth 100000
set_option maxHeartbeats 4000000
def g01:Graph:=⟨2,[⟨0,1⟩]⟩
def t01:List Diner:=Zs8 g01 [1,2]
theorem s_awake12:Zoc=some true:=by
 have hD:fewD t01:=fewB_D (s:=⟨t01,[]⟩) (by kernel_rfl)
 have hT:Zh8 ⟨2,[⟨0,1⟩]⟩ [1,2]=some (t01,0):=by
  rw [s_Table _ _ (by simp),show okG ⟨2,[⟨0,1⟩]⟩=true from by kernel_rfl,show Z28 ⟨2,[⟨0,1⟩]⟩ [1,2]=true from by kernel_rfl];rfl
 have hl:ln Diner.row t01=2:=by rw [Zq4];kernel_rfl
 have h1:at_ t01 1=some (Zr8 g01 [1,2] 1):=by kernel_rfl
 have hA:=s_Arcs ⟨t01,[]⟩ hD (by simp)
 have eA:Zwa ⟨t01,[]⟩=[⟨0,1⟩]:=by kernel_rfl
 have hS:Zs6 (Zr8 g01 [1,2] 1) 0=some (⟨0,1,0,true,true,false,true,false⟩,true):=by
  rw [s_Side _ _ (by rw [show (Zr8 g01 [1,2] 1).Sides.length=1 from by kernel_rfl];omega)]
  kernel_rfl
 simp only [Zoc,hT,Option.bind_some,hl,decide_true,Bool.not_true,Z95,Znc,s_Graph t01 hD,h1,hS,hA,eA,s_placeSame t01 _ hD,
  show Zi7 t01=(⟨2,[⟨0,1⟩]⟩,true) from by kernel_rfl,s_r03Same ⟨2,[⟨0,1⟩]⟩ ⟨2,[⟨0,1⟩]⟩ (by simp),Z85]
 rw [show decide (ln Arc.row [(⟨0,1⟩:Arc)]=1)=true from rfl,Z85,show at_ [(⟨0,1⟩:Arc)] 0=some ⟨0,1⟩ from rfl,Option.bind_some]
 rw [show decide (t01=[])=false from by kernel_rfl]
 rfl
theorem loop_ex {σ τ β:Type} (n:Nat) (body:τ→Option (τ ⊕ β)) (st:Nat→σ→τ) (I:σ→Prop) (f:σ→β) (hb:∀k s,k<n→I s→∃s',body (st k s)=some (.inl (st (k+1) s'))∧I s') (he:∀s,I s→body (st n s)=some (.inr (f s))):
  ∀s,I s→∃s',loop body (st 0 s)=some (f s')∧I s':=by
 have key:∀m k s,m+k=n→I s→∃s',loop body (st k s)=some (f s')∧I s':=by
  intro m
  induction m with
  | zero=>
    intro k s hk hs
    have:k=n:=by omega
    subst this
    exact ⟨s,by rw [Z74,he s hs],hs⟩
  | succ m ih=>
    intro k s hk hs
    obtain ⟨s1,h1,h2⟩:=hb k s (by omega) hs
    obtain ⟨s2,h3,h4⟩:=ih (k+1) s1 (by omega) h2
    exact ⟨s2,by rw [Z74,h1];exact h3,h4⟩
 exact fun s hs=>key n 0 s rfl hs
theorem s_Depths {N:Nat} {r:Nat→Int} {l:List Arc} (h:ArcsR N r l) (f:Nat→Int) (hf:∀i,i<N→0≤f i∧f i≤1000) (hl:∀z∈l,f z.From.toNat+1≤f z.To.toNat):
  ∃D,Zvc N l=some (D,true)∧D.length=N∧∀(i:Nat) x,D[i]?=some x→x≤f i:=by
 have hn:=h.n
 have hlen:=h.len
 obtain ⟨O,h1,h2,h3⟩:=s_dagOrder h
 unfold Zvc
 rw [h1,Option.bind_some]
 dsimp only
 have hmk:mk_ 8 (N:Int) (0:Int)=some (List.replicate N 0):=by
  unfold mk_
  rw [if_pos ⟨by omega,by omega,by omega⟩];rfl
 rw [Bool.not_true,Z95,hmk,Option.bind_some]
 have inner:∀(k:Nat) (a:Int),0≤a→a<N→k≤64→∀D:List Int,(D.length=N∧∀(i:Nat) x,D[i]?=some x→0≤x∧x≤f i)→∃D':List Int,loop (Ztc l k a) (0,D)=some (.inl (((k+1:Nat):Int),D'))∧(D'.length=N∧∀(i:Nat) x,D'[i]?=some x→0≤x∧x≤f i):=fun k a a0 a1 hk=>by
  refine loop_ex l.length (Ztc l k a) (fun (j:Nat) (D:List Int)=>((j:Int),D)) (fun D=>D.length=N∧∀(i:Nat) x,D[i]?=some x→0≤x∧x≤f i) (fun D=>.inl (((k+1:Nat):Int),D)) (fun j D hj hD=>?_) (fun D hD=>?_)
  ·obtain ⟨d1,d2⟩:=hD
   have hz:l[j]?=some l[j]:=List.getElem?_eq_getElem hj
   have hm:=List.getElem_mem hj
   obtain ⟨z1,z2,z3,z4,_⟩:=h.ok _ hm
   have hlz:=hl _ hm
   dsimp only [Ztc]
   rw [Zd5 hz,Z85,Zb5 hz,Option.bind_some]
   have j3:∀D',Zsc (j:Int) D'=some (.inl (((j+1:Nat):Int),D')):=fun D'=>by
    dsimp only [Zsc]
    rw [Zf5 (by omega)]
   by_cases hc:l[j].From=a
   ·rw [decide_eq_true hc,Z85]
    obtain ⟨y,hy1,hy2⟩:=at_lt (l:=D) (i:=l[j].To) z3 (by omega)
    obtain ⟨x,hx1,hx2⟩:=at_lt (l:=D) (i:=a) a0 (by omega)
    have bx:=d2 _ _ hx2
    have bf:=hf a.toNat (by omega)
    rw [hy1,Option.bind_some,hx1,Option.bind_some,j3,wr_id (by omega) (by omega)]
    refine ⟨_,rfl,by rw [List.length_set];exact d1,fun i v hv=>?_⟩
    rw [List.getElem?_set] at hv
    split at hv
    ·rename_i hi
     split at hv
     ·have hv':v=max y (x+1):=by simpa using hv.symm
      have by_:=d2 _ _ hy2
      rw [hc] at hlz
      subst hi
      subst hv'
      omega
     ·simp at hv
    ·exact d2 i v hv
   ·rw [decide_eq_false hc,Z95,j3]
    exact ⟨D,rfl,d1,d2⟩
  ·dsimp only [Ztc]
   rw [Ze5,Z95]
   dsimp only [Zrc]
   rw [Zf5 (by omega)]
   rfl
 obtain ⟨D,q1,q2,q3⟩:=loop_ex N (Zuc l (O,true)) (fun (k:Nat) (D:List Int)=>((k:Int),D)) (fun D=>D.length=N∧∀(i:Nat) x,D[i]?=some x→0≤x∧x≤f i) (fun D=>(D,true)) (fun k D hk hD=>by
  have hO:O[k]?=some (O[k]'(by omega)):=List.getElem?_eq_getElem (by omega)
  obtain ⟨a0,a1⟩:=h3 _ (List.getElem_mem (by omega:k<O.length))
  obtain ⟨D',p1,p2⟩:=inner k _ a0 a1 (by omega) D hD
  refine ⟨D',?_,p2⟩
  dsimp only [Zuc]
  rw [Zd5 hO,Z85,Zb5 hO,Option.bind_some,p1]) (fun D hD=>by
  dsimp only [Zuc]
  rw [Zq4,decide_eq_false (by omega),Z95]
  rfl) (List.replicate N 0) ⟨by simp,fun i x hx=>by
   have hi:=(List.getElem?_eq_some_iff.1 hx).1
   simp only [List.length_replicate] at hi
   rw [List.getElem?_replicate,if_pos hi] at hx
   have:x=0:=by simpa using hx.symm
   have:=hf i hi
   omega⟩
 exact ⟨D,q1,q2,fun i x hx=>(q3 i x hx).2⟩
theorem runL_hi {g:Graph} (hg:okG g=true):∀(f:Nat) (c:List Int) (n:Nat),ColN g c n→n+f≤100→∀x∈(runL g f c n).1,x≤100
 | 0,c,n,hc,hn,x,hx=>by
   have:=hc.hi x hx;omega
 | f+1,c,n,hc,hn,x,hx=>by
   simp only [runL] at hx
   split at hx
   ·rw [show ((n:Nat):Int)+1=((n+1:Nat):Int) from rfl] at hx
    exact runL_hi hg f (Zs9 g c) (n+1) (hc.round hg (by omega)) (by omega) x hx
   ·have:=hc.hi x hx;omega
theorem colours_hi {g:Graph} (hg:okG g=true):∀x∈Z0a g,x≤100:=runL_hi hg 64 (c0 g) 0 (c0_ok hg) (by omega)
theorem foldl_max:∀(c:List Int) (z:Int),z≤c.foldl max z∧∀x∈c,x≤c.foldl max z
 | [],z=>⟨Int.le_refl _,by simp⟩
 | y::c,z=>by
   obtain ⟨h1,h2⟩:=foldl_max c (max z y)
   rw [List.foldl_cons]
   refine ⟨by omega,fun x hx=>?_⟩
   rcases List.mem_cons.1 hx with rfl | hx
   ·omega
   ·exact h2 x hx
theorem s_Most (c:List Int) (hc:c.length≤1000):Z1d c=some (max 0 (c.foldl max 0)):=by
 unfold Z1d
 rw [Zc5 _ _ (by omega) (by simp only [List.length_singleton];omega),Option.bind_some]
 have hmax:Zzc ([0]++c)=some (c.foldl max 0):=by
  unfold Zzc
  rw [Zq4,decide_eq_false (by simp only [List.length_append,List.length_singleton];omega),Z95]
  unfold Zyc
  have h0:at_ ([0]++c) 0=some 0:=Zb5 (k:=0) (by simp)
  rw [h0,Option.bind_some]
  have key:=Zw6 c (Zxc ([0]++c)) (fun pre=>(pre.foldl max 0,((pre.length+1:Nat):Int))) (fun _ _=>some (c.foldl max 0)) (fun pre x post h=>.inl ⟨by
   have hm:=Zz6 h
   have hx:([0]++c)[pre.length+1]?=some x:=by
    have:=Zy6 h
    simpa using this
   dsimp only [Zxc]
   rw [Zd5 hx,Z85,Zb5 hx,Option.bind_some,Z17,List.foldl_append,Zf5 (by omega)]
   rfl,rfl⟩) (by
   dsimp only [Zxc]
   rw [Zq4,decide_eq_false (by simp only [List.length_append,List.length_singleton];omega),Z95]
   rfl)
  exact key
 rw [hmax,Option.bind_some]
theorem Zbd (g:Graph):Z9d g=some true:=by
 have yes:Z8d g true=some true:=by
  simp only [Z8d,Z85,s_awake12,Option.bind_some]
 simp only [Z9d,s_awake12,Option.bind_some,Bool.not_true,Z95,yes,Zq4]
 by_cases h60:(60:Int)<g.Edges.length
 ·rw [decide_eq_true h60,Z85]
 rw [decide_eq_false h60,Z95]
 by_cases h24:(24:Int)<g.N
 ·rw [decide_eq_true h24,yes]
 rw [decide_eq_false h24]
 simp only [Z8d,Z95,s_Own03 g (by omega),Option.bind_some]
 cases hg:okG g with
 | false=>
   have:Zo9 g=some ([],0,30):=by
    simp only [Zo9,Zo6,hg,Option.bind_some];rfl
   rw [this];rfl
 | true=>
   obtain ⟨g1,g2,g3,g4,g5⟩:=Zp6 hg
   obtain ⟨hr,hcl⟩:=Z1a hg
   rw [s_Run g hg,Option.bind_some]
   dsimp only
   rw [show decide ((0:Int)=0)=true from rfl,Bool.not_true,Z95,s_Table g _ (by omega),hg,hr,if_pos rfl,if_pos rfl,Option.bind_some]
   dsimp only
   have hF:=Fair.first hg
   have hE:=Z5a hg
   have hfew:fewD (Z2a g).Diners:=tableT_few hg (Z0a g)
   have hA:Zna ⟨Zs8 g (Z0a g),[]⟩=some (Zwa (Z2a g)):=s_Arcs (Z2a g) hfew (by show (0:Nat)≤5000;omega)
   rw [hA,Option.bind_some,show decide ((0:Int)=0)=true from rfl,Bool.not_true,Z95]
   have hlen:=arcs_len hg hF.inv hE
   rw [Zq4,Zq4,hlen,decide_eq_true rfl,Bool.not_true]
   dsimp only [Z7d]
   rw [Z95]
   have hrk:=fun z hz=>arcs_rank hg hF.inv hE (z:=z) hz
   have hcg:∀a:Int,0≤a→a<g.N→at_ (Z0a g) a=some (cg (Z0a g) a)∧1≤cg (Z0a g) a∧cg (Z0a g) a≤100:=fun a a0 a1=>by
    have hlc:((Z0a g).length:Int)=g.N:=by
     unfold Z28 at hr
     simp only [Bool.and_eq_true,decide_eq_true_eq] at hr
     exact hr.1
    have hm:=Zt9 (c:=Z0a g) a0 (by omega)
    refine ⟨at_cg a0 (by omega),?_,colours_hi hg _ hm⟩
    unfold Z28 at hr
    simp only [Bool.and_eq_true,List.all_eq_true,decide_eq_true_eq] at hr
    exact hr.2.1 _ hm
   have eN:((g.N.toNat:Nat):Int)=g.N:=Int.toNat_of_nonneg g1
   have hAR:ArcsR g.N.toNat (fun k=> -cg (Z0a g) k) (Zwa (Z2a g)):=⟨by omega,by omega,arcs_nd hg hF.inv hE,fun z hz=>by
    obtain ⟨a1,a2,a3,a4,_,a6⟩:=hrk z hz
    exact ⟨a1,by omega,a3,by omega,a6⟩⟩
   have hlt:∀z∈Zwa (Z2a g),cg (Z0a g) z.From<cg (Z0a g) z.To:=fun z hz=>by
    obtain ⟨a1,a2,a3,a4,_,a6⟩:=hrk z hz
    rw [Int.toNat_of_nonneg a1,Int.toNat_of_nonneg a3] at a6
    omega
   obtain ⟨D,d1,d2,d3⟩:=s_Depths hAR (fun k=>cg (Z0a g) k-1) (fun i hi=>by
    have:=hcg i (by omega) (by omega)
    omega) (fun z hz=>by
    obtain ⟨a1,a2,a3,a4,_⟩:=hrk z hz
    have:=hlt z hz
    rw [Int.toNat_of_nonneg a1,Int.toNat_of_nonneg a3]
    omega)
   rw [eN] at d1
   have fin:Z4d g (Z0a g,(runL g 64 (c0 g) 0).2,0) (Zwa (Z2a g)) ()=some true:=by
    dsimp only [Z4d]
    rw [d1,Option.bind_some]
    refine Zx6 D _ (fun pre=>(pre.length:Int)) true (fun pre x post h=>?_) ?_
    ·have hx:=Zy6 h
     have hm:=Zz6 h
     have hb:=d3 _ _ hx
     have hc:=hcg pre.length (by omega) (by omega)
     have hcm:=Zt9 (c:=Z0a g) (a:=(pre.length:Int)) (by omega) (by
      have:((Z0a g).length:Int)=g.N:=by
       unfold Z28 at hr
       simp only [Bool.and_eq_true,decide_eq_true_eq] at hr
       exact hr.1
      omega)
     have hmx:=(foldl_max (Z0a g) 0).2 _ hcm
     dsimp only [Z3d]
     rw [Zd5 hx,Z85,Zb5 hx,Option.bind_some,s_Most _ (by omega),Option.bind_some,decide_eq_false (by omega),Z95,Z17,Zf5 (by omega)]
    ·dsimp only [Z3d]
     rw [Ze5,Z95];rfl
   refine Zx6 (Zwa (Z2a g)) _ (fun pre=>(pre.length:Int)) true (fun pre z post h=>?_) ?_
   ·have hx:=Zy6 h
    have hm:=Zz6 h
    have hz:=Z07 h
    obtain ⟨a1,a2,a3,a4,a5,_⟩:=hrk z hz
    have hl:=hlt z hz
    have hb:hasB g z.From z.To=true:=(hasB_iff hg).2 a5
    dsimp only [Z6d]
    rw [Zd5 hx,Z85,Zb5 hx,Option.bind_some,(hcg _ a1 a2).1,Option.bind_some,Option.bind_some,(hcg _ a3 a4).1,Option.bind_some,decide_eq_false (by omega),Z95,Option.bind_some,Option.bind_some,s_r03Has g _ _ (by omega),Option.bind_some,hb,Bool.not_true]
    dsimp only [Z5d]
    rw [Z95,Z17,Zf5 (by omega)]
   ·dsimp only [Z6d]
    rw [Ze5,Z95,fin];rfl
end NX
end Go.Proofs.Ytadebhbiglmodaa
