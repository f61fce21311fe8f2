/-
  The symbolic machine: copies into own slices; numbers of other kinds. No statement of the seat is proved here.
-/
import Derived.Laws.CopyRow
import Derived.Laws.IdiomCopy
import Derived.Laws.BytesString
import Derived.Test.YtjemlejoladlcaaGreatL10
namespace Go.Proofs.YtjemlejoladlcaaGreat
namespace NX
open Go Go.RowKit
theorem UK {P:Program} {op:Op} {n:Nat} {x y:X} (ho:cO P op = .copy n x y):∃p q t u e,op = .call ⟨.builtin .copy, #[p,q], #[t,u]⟩∧P.underlying t=some (.slice e)∧C9 P e=some n∧cX p=x∧cX q=y:=by
 cases op
 case call ci=>
  obtain ⟨callee,cargs,argTypes⟩:=ci;cases callee with
  | value o=>
    cases o with
    | func f'=>simp only [cO] at ho;(repeat' (split at ho))<;>simp at ho
    | _=>simp [cO] at ho
  | invoke _ _=>simp [cO] at ho
  | builtin b=>
    cases b
    case copy=>
     simp only [cO] at ho;split at ho
     ·rename_i t0 u0 p q h1 h2;split at ho
      ·rename_i e hu;split at ho
       ·rename_i m hs;simp only [EO.copy.injEq] at ho;obtain ⟨rfl,rfl,rfl⟩:=ho;have e1:cargs = #[p,q]:=by apply Array.ext';simpa using h2
        have e2:argTypes = #[t0,u0]:=by apply Array.ext';simpa using h1
        subst e1;subst e2;exact ⟨p,q,t0,u0,e,rfl,hu,hs,rfl,rfl⟩
       ·simp at ho
      ·simp at ho
     ·simp at ho
    all_goals (simp only [cO] at ho;(repeat' (split at ho))<;>simp at ho)
 all_goals (simp only [cO] at ho;(repeat' (split at ho))<;>simp at ho)
@[go_sem] theorem leRows_tt:Kt 1 [[AV.tt]] [[AV.bv true]]=True:=eq_true ⟨rfl,fun M vss h=>by obtain ⟨vs,r,rfl,h1,h2,h3⟩:=h;obtain ⟨v,l,rfl,h4,h5⟩:=h2;exact ⟨_,_,rfl,h1,⟨_,_,rfl,h4,h5⟩,h3⟩⟩
section
variable {c:Ctx} {M:Mem} {S S':St} {a:Act} {w:World} {fn:Func} {K:AV→List (Option Blk)→List (Option Sl)→Prop} {k:List It}
theorem Uo {P:Program} {e n:Nat} (h:C9 P e=some n):(P.info? e).map (·.size)=some n:=by unfold C9 at h;simpa using h
theorem Fu {n:Nat}:∀ {l:List (List Value)},(∀v∈l,v.length=n)→∀k,(l.take k).flatten=l.flatten.take (k*n)∧(l.drop k).flatten=l.flatten.drop (k*n)
 | [],_,k=>by simp
 | v::l,hl,0=>by simp
 | v::l,hl,k+1=>by
   have hv:=hl v (by simp);obtain ⟨i1,i2⟩:=Fu (l:=l) (fun u hu=>hl u (by simp [hu])) k;have e:(k+1)*n=v.length+k*n:=by rw [hv,Nat.add_mul];omega
   simp only [List.take_succ_cons,List.drop_succ_cons,List.flatten_cons,i1,i2,e];rw [List.take_length_add_append,List.drop_length_add_append];exact ⟨rfl,rfl⟩
theorem U7 (h:RelS c M S.bs S.ss w) {j T n:Nat} {rows:List (List AV)} (hj:A2 S.ss j=some ⟨T,n,rows⟩) {g cap:Nat} {E:Array Value} (e2:M.σ j = .slice (some ⟨g,0,none⟩) rows.length cap) (e3:w.heap[g]?=some (.cells E T (0,0))) (U:rows.length≤cap) (e5:cap≤maxLen) (e6:E.size=cap*n)
  {vss:List (List Value)} (J:AV.isLL M.sl n rows vss) (Z:∀v∈vss.flatten,v.oneCell'=true) (e7:E.toList.take (rows.length*n)=vss.flatten) {A:Nat} {R:List (List AV)} {C:List (List Value)} (Y:AV.isLL M.sl n R C) (hC:∀v∈C.flatten,v.oneCell'=true) (hA:A+R.length≤rows.length):
  RelS c M S.bs (Ar S.ss j (some ⟨T,n,rows.take A++R++rows.drop (A+R.length)⟩)) (w.setRow g (E.toList.take (A*n)++C.flatten++E.toList.drop (A*n+C.flatten.length)).toArray):=by
 have hd:=Dl Y;have hG:=Dl J;have hf:=Fu (Fx J).1;have hw:(w.setRow g (E.toList.take (A*n)++C.flatten++E.toList.drop (A*n+C.flatten.length)).toArray).heap[g]?=some (.cells (E.toList.take (A*n)++C.flatten++E.toList.drop (A*n+C.flatten.length)).toArray T (0,0)):=by rw [Gp,if_pos rfl,e3];rfl
 have hB:E.toList.length=cap*n:=by simpa using e6
 have h8:(vss.take A++C++vss.drop (A+R.length)).flatten=vss.flatten.take (A*n)++C.flatten++vss.flatten.drop (A*n+R.length*n):=by rw [List.flatten_append,List.flatten_append,(hf A).1,(hf (A+R.length)).2,Nat.add_mul]
 have q1:(A+R.length)*n≤rows.length*n:=Nat.mul_le_mul_right _ hA;have q2:rows.length*n≤cap*n:=Nat.mul_le_mul_right _ U;rw [Nat.add_mul] at q1;refine h.rewrite hj (g:=g) (by rw [e2];rfl) (w':=w.setRow g (E.toList.take (A*n)++C.flatten++E.toList.drop (A*n+C.flatten.length)).toArray) ⟨rfl,rfl,rfl,by simp [World.setRow],fun k _ hk=>by rw [Gp,if_neg (fun e=>hk (by rw [e]))]⟩ (vss':=vss.take A++C++vss.drop (A+R.length)) ?_ ?_ ?_
 ·have t1:=F2 J 0 A;have t2:=F2 J (A+R.length) rows.length;simp only [List.drop_zero] at t1;rw [List.take_of_length_le (Nat.le_refl _),List.take_of_length_le (by have:=(Fx J).2;omega)] at t2;exact Jn (Jn t1 Y) t2
 ·intro v hv;rw [h8] at hv;simp only [List.mem_append] at hv;rcases hv with (hv | hv) | hv
  ·exact Z v (List.mem_of_mem_take hv)
  ·exact hC v hv
  ·exact Z v (List.mem_of_mem_drop hv)
 ·have h6:(rows.take A++R++rows.drop (A+R.length)).length=rows.length:=by simp only [List.length_append,List.length_take,List.length_drop];omega
  refine ⟨?_,.inr ⟨g,cap,_,by rw [h6];exact e2,Nat.zero_le _,hw,by rw [h6];exact U,e5,?_,?_⟩⟩
  ·rw [h8,h6];simp only [List.length_append,List.length_take,List.length_drop];omega
  ·simp only [List.size_toArray,List.length_append,List.length_take,List.length_drop];omega
  ·rw [h8,h6,←e7,hd];generalize C.flatten=D at *;generalize E.toList=L at *;generalize rows.length*n=N at *;generalize A*n=a at *;rw [←hd] at q1 ⊢;refine List.ext_getElem? fun i=>?_;simp only [List.getElem?_take,List.getElem?_append,List.length_append,List.length_take,List.getElem?_drop,hB];have hD:min a (cap*n)=a:=by omega
   have hE:min N (cap*n)=N:=by omega
   have h9:min a N=a:=by omega
   simp only [hD,hE];by_cases h1:i<N
   ·by_cases h2:i<a+D.length
    ·by_cases h3:i<a
     ·simp [h1,h2,h3,h9]
     ·simp [h1,h2,h3,h9]
    ·have h3:a+D.length+(i-(a+D.length))=i:=by omega
     simp [h1,h2,h3,h9]
   ·by_cases h2:i<a+D.length
    ·omega
    ·have h3:a+D.length+(i-(a+D.length))=i:=by omega
     simp [h1,h2,h3,h9]
theorem Ew (h:RelS c M S.bs S.ss w) {j T n:Nat} {rows:List (List AV)} (hj:A2 S.ss j=some ⟨T,n,rows⟩) (h0:0<rows.length):
  ∃g cap cur vss,M.σ j = .slice (some ⟨g,0,none⟩) rows.length cap∧w.heap[g]?=some (.cells cur T (0,0))∧rows.length≤cap∧cap≤maxLen∧cur.size=cap*n∧AV.isLL M.sl n rows vss∧(∀v∈vss.flatten,v.oneCell'=true)∧cur.toList.take (rows.length*n)=vss.flatten:=by
 obtain ⟨g0,vss,h1,h2,h3,h4⟩:=h.slc j _ hj;dsimp only at h1 h3 g0;rcases h3.2 with ⟨_,e3⟩ | ⟨g,cap,cur,e2,_,e3,e4,e5,e6,e7⟩
 ·omega
 ·exact ⟨g,cap,cur,vss,e2,e3,e4,e5,e6,h1,h2,e7⟩
theorem PK {P:Program} {w w':World} {p q:Operand} {t u:TypeId} {ρ:Operand→Value} {d:Option Tmp} {ty:TypeId} {pos:String} {af:Array Go.Edge} {gd:Option (Nat×Bool)} {v:Value}
  (h:(Builtin.copy_ #[t,u] ty #[ρ p,ρ q]).run P w = .ok v w'):(execOp ρ ⟨d,.call ⟨.builtin .copy, #[p,q], #[t,u]⟩,ty,pos,af,gd⟩).run P w = .ok (.value v) w':=by
 simp [execOp,resolve,invoke,builtin,h]
theorem dc:∀(l:List (Option Sl)) (j:Nat) (L:Sl),A2 l j=some L→Ar l j (some L)=l
 | [],j,L,h=>by simp [A2] at h
 | x::l,0,L,h=>by simp [A2] at h;subst h;rfl
 | x::l,j+1,L,h=>by simp only [Ar];rw [dc l j L (by simpa [A2] using h)]
theorem Z0N {j T:Nat} {x y:X} {rows rs:List (List AV)} (hx:S.x x = .osl j) (hj:A2 S.ss j=some ⟨T,1,rows⟩) (hy:S.x y = .sl 1 rs):
  Bi c S (.copy 1 x y) (.iv (min rs.length rows.length:Nat)) ⟨S.tm,S.bs,Ar S.ss j (some ⟨T,1,rs.take (min rs.length rows.length)++rows.drop (min rs.length rows.length)⟩)⟩:=by
 intro ro hC M a w hT next Q hD
 obtain ⟨dst,op,ty,pos,af,gd⟩:=ro;dsimp only at hC;obtain ⟨p,q,t,u,e,rfl,hu,hs,rfl,rfl⟩:=UK hC;have k1:=Ak hT p;have k2:=Ak hT q;rw [hx] at k1;rw [hy] at k2;obtain ⟨sa,sc,k2,_,k3⟩:=k2;by_cases h0:min rs.length rows.length=0
 ·have hd:∃d n cp,M.σ j = .slice d n cp∧n=rows.length:=by
   obtain ⟨g0,vss,h1,h2,h3,h4⟩:=hT.st.slc j _ hj;dsimp only at h3;rcases h3.2 with ⟨e2,e3⟩ | ⟨g,cap,cur,e2,_⟩
   ·exact ⟨_,_,_,e2,e3.symm⟩
   ·exact ⟨_,_,_,e2,rfl⟩
  obtain ⟨d,n,cp,hd,rfl⟩:=hd;have h8:=PK (P:=c.P) (w:=w) (w':=w) (p:=p) (q:=q) (t:=t) (u:=u) (ρ:=a.eval) (d:=dst) (ty:=ty) (pos:=pos) (af:=af) (gd:=gd) (v:=goInt 0) (by rw [k1.2,hd,k2];exact run_copy_none w t u ty e _ _ _ _ _ _ hu (Uo hs) h0);unfold Oper.wp;rw [h8];refine hD M w _ (.refl M) ?_ (by rw [h0];rfl);rw [h0,List.take_zero,List.drop_zero,List.nil_append];show RelS c M S.bs (Ar S.ss j (some ⟨T,1,rows⟩)) w;rw [dc _ _ _ hj];exact hT.st
 ·have hI:0<rows.length:=by omega
  have hJ:rs≠ []:=fun e=>by rw [e] at h0;simp at h0
  obtain ⟨g,cap,cur,vss,e2,e3,e4,e5,e6,v1,v2,e7⟩:=Ew hT.st hj hI;obtain ⟨ad,ws,rfl,w1,w2⟩:=k3 hJ;obtain ⟨c1,c2,cs,cT,cf,c3,c4⟩:=w2;have hw:=F2 w1 0 (min rs.length rows.length);simp only [List.drop_zero] at hw;have h9:=Dl hw;have hE:(rs.take (min rs.length rows.length)).length=min rs.length rows.length:=by rw [List.length_take];omega
  rw [Nat.mul_one,hE] at h9;have hG:(ws.take (min rs.length rows.length)).flatten=ws.flatten.take (min rs.length rows.length):=by rw [(Fu (Fx w1).1 _).1,Nat.mul_one]
  have hA:∀v∈(ws.take (min rs.length rows.length)).flatten,v.oneCell'=true:=fun v hv=>by rw [hG] at hv;exact c2 v (List.mem_of_mem_take hv)
  have hB:∀(i:Nat) v,(ws.take (min rs.length rows.length)).flatten[i]?=some v→w.cell? (ad.add i)=some v:=fun i v hv=>by
   rw [hG,List.getElem?_take] at hv;split at hv
   ·have h5:=hT.st.hle _ _ c3;have h6:=c4 i v hv;have h7:ad.add i=⟨ad.block,ad.off+i,none⟩:=by obtain ⟨b,o,s⟩:=ad;dsimp only at c1;subst c1;exact Addr.add_lit _ _ _
    rw [h7];simp [World.cell?,h5,h6]
   ·simp at hv
  have h8:=PK (P:=c.P) (w:=w) (p:=p) (q:=q) (t:=t) (u:=u) (ρ:=a.eval) (d:=dst) (ty:=ty) (pos:=pos) (af:=af) (gd:=gd) (by rw [k1.2,e2,k2];exact run_copy_row c.P w t u ty e g 0 rows.length cap ad rs.length sc cur T (ws.take (min rs.length rows.length)).flatten hu (Uo hs) e3 (h9.trans rfl) hB (by rw [h9,Nat.zero_add,e6];omega) hA);unfold Oper.wp;rw [h8];have hW:=U7 hT.st hj e2 e3 e4 e5 e6 v1 v2 e7 (A:=0) (EG (Lx M) _ _ _ hw) hA (by rw [List.length_take];omega);rw [hE,List.take_zero,List.nil_append,Nat.zero_add,Nat.zero_mul] at hW;refine hD M _ _ (.refl M) hW ?_;rw [h9];rfl
theorem HS {ρ:Operand→Value} (hx:∀o:Operand,(S.x (cX o)).is M (ρ o)):∀(o:Option Operand) (z r:Int),AY S (o.map cX) z=some r→match o with | none=>r=z | some o=>ρ o = .int .i64 r:=by
 intro o z r hb;cases o with
 | none=>simpa [AY] using hb.symm
 | some o=>
   simp only [Option.map_some,AY] at hb;have:=hx o;split at hb
   ·rename_i n' hn';rw [hn'] at this;simp at hb;subst hb;exact this
   ·simp at hb
theorem E9 {j T n:Nat} {x:X} {lo hi:Option X} {rows:List (List AV)} {l h:Int} (hx:S.x x = .osl j) (hj:A2 S.ss j=some ⟨T,n,rows⟩) (hr:0<rows.length) (hd:AY S lo 0=some l) (hw:AY S hi rows.length=some h) (h0:0≤l) (h1:l≤h) (h2:h≤rows.length):
  Bi c S (.slice n x lo hi) (.ocs j l.toNat n (h.toNat-l.toNat)) S:=by
 intro ro h8 M a w h6 next Q hA
 obtain ⟨dst,op,ty,pos,af,gd⟩:=ro;dsimp only at h8;obtain ⟨T',y,lo',hi',e,rfl,hu,hs,rfl,rfl,rfl⟩:=H8 h8;have hS:=h6.st;have k1:=Ak h6 y;rw [hx] at k1;obtain ⟨g,cap,cur,vss,e2,e3,e4,e5,e6,v1,v2,e7⟩:=Ew hS hj hr;have b1:=HS (Ak h6) lo' 0 l hd;have b2:=HS (Ak h6) hi' rows.length h hw;have h9:=LG (P:=c.P) (w:=w) hu hs (ρ:=a.eval) (ad:=some ⟨g,0,none⟩) (len:=rows.length) (cp:=cap) (lo:=l) (hi:=h) (k1.2.trans e2) e4 b1 b2 h0 h1 h2 dst ty pos af gd;unfold Oper.wp;rw [h9];refine hA M w _ (.refl M) hS ⟨k1.1,g,rows.length,cap,e2,?_⟩;by_cases hc:cap=l.toNat
 ·rw [if_pos hc,if_pos hc]
 ·rw [if_neg hc,if_neg hc];simp only [Option.map,Addr.add_lit,Nat.zero_add]
theorem n6 {j T o1 m1 o2 m2:Nat} {x y:X} {rows:List (List AV)} (hx:S.x x = .ocs j o1 1 m1) (hy:S.x y = .ocs j o2 1 m2) (hj:A2 S.ss j=some ⟨T,1,rows⟩) (hr:0<rows.length) (h1:o1+m1≤rows.length) (h2:o2+m2≤rows.length) (E:o1<rows.length) (J:o2<rows.length):
  Bi c S (.copy 1 x y) (.iv (min m2 m1:Nat)) ⟨S.tm,S.bs,Ar S.ss j (some ⟨T,1,rows.take o1++(rows.take (o2+min m2 m1)).drop o2++rows.drop (o1+min m2 m1)⟩)⟩:=by
 intro ro hA M a w hT next Q hD
 obtain ⟨dst,op,ty,pos,af,gd⟩:=ro;dsimp only at hA;obtain ⟨p,q,t,u,e,rfl,hu,hs,rfl,rfl⟩:=UK hA;have k1:=Ak hT p;have k2:=Ak hT q;rw [hx] at k1;rw [hy] at k2;obtain ⟨_,g1,n1,c1,k1,k1'⟩:=k1;obtain ⟨_,g2,n2,c2,k2,k2'⟩:=k2;obtain ⟨g,cap,cur,vss,e2,e3,e4,e5,e6,v1,v2,e7⟩:=Ew hT.st hj hr;rw [e2] at k1 k2;simp only [Value.slice.injEq,Option.some.injEq,Addr.mk.injEq] at k1 k2;obtain ⟨⟨rfl,_⟩,rfl,rfl⟩:=k1;obtain ⟨⟨rfl,_⟩,_,rfl⟩:=k2;rw [if_neg Om,Nat.mul_one] at k1' k2';have hw:=F2 v1 o2 (o2+min m2 m1);have h6:=Dl hw;have hk:((rows.take (o2+min m2 m1)).drop o2).length=min m2 m1:=by rw [List.length_drop,List.length_take];omega
 rw [Nat.mul_one,hk] at h6;have h8:=(Fx v1).1;have hB:((vss.take (o2+min m2 m1)).drop o2).flatten=(vss.flatten.take (o2+min m2 m1)).drop o2:=by rw [(Fu (fun v hv=>h8 v (List.mem_of_mem_take hv)) o2).2,(Fu h8 _).1,Nat.mul_one,Nat.mul_one]
 have h9:∀v∈((vss.take (o2+min m2 m1)).drop o2).flatten,v.oneCell'=true:=fun v hv=>by rw [hB] at hv;exact v2 v (List.mem_of_mem_take (List.mem_of_mem_drop hv))
 have hd:∀(i:Nat) v,((vss.take (o2+min m2 m1)).drop o2).flatten[i]?=some v→w.cell? ((⟨g,o2,none⟩:Addr).add i)=some v:=fun i v hv=>by
  rw [hB,List.getElem?_drop,List.getElem?_take] at hv;split at hv
  ·rw [←e7,List.getElem?_take] at hv;split at hv
   ·rw [Addr.add_lit];simp only [World.cell?,e3];simpa using hv
   ·simp at hv
  ·simp at hv
 have hC:=PK (P:=c.P) (w:=w) (p:=p) (q:=q) (t:=t) (u:=u) (ρ:=a.eval) (d:=dst) (ty:=ty) (pos:=pos) (af:=af) (gd:=gd) (by rw [k1',k2'];exact run_copy_row c.P w t u ty e g o1 m1 _ ⟨g,o2,none⟩ m2 _ cur T ((vss.take (o2+min m2 m1)).drop o2).flatten hu (Uo hs) e3 (h6.trans rfl) hd (by rw [h6,e6];omega) h9);unfold Oper.wp;rw [hC];have hW:=U7 hT.st hj e2 e3 e4 e5 e6 v1 v2 e7 (A:=o1) hw h9 (by rw [hk];omega);rw [hk,Nat.mul_one] at hW;refine hD M _ _ (.refl M) hW ?_;rw [h6];rfl
end
end NX
end Go.Proofs.YtjemlejoladlcaaGreat
/-
  The symbolic machine: parts of own slices: cut, cleared, laid behind one another. No statement of the seat is proved here.
-/
namespace Go.Proofs.YtjemlejoladlcaaGreat
namespace NX
open Go Go.RowKit
section
variable {c:Ctx} {M:Mem} {S S':St} {a:Act} {w:World} {fn:Func} {K:AV→List (Option Blk)→List (Option Sl)→Prop} {k:List It}
theorem dW {P:Program} {w:World} {T e n:Nat} (hu:P.underlying T=some (.slice e)) (hs:C9 P e=some n) {x:Operand} {l h:Option Operand} {ρ:Operand→Value} {ad:Option Addr} {len cp:Nat} {lo hi:Int}
  (hx:ρ x = .slice ad len cp) (hl:match l with | none=>lo=0 | some o=>ρ o = .int .i64 lo) (hh:match h with | none=>hi=len | some o=>ρ o = .int .i64 hi) (h0:0≤lo) (h1:lo≤hi) (h2:hi≤cp)
  (d:Option Tmp) (ty:TypeId) (pos:String) (af:Array Go.Edge) (E:Option (Nat×Bool)):
  (execOp ρ ⟨d,.slice T x l h none,ty,pos,af,E⟩).run P w = .ok (.value (.slice (if cp=lo.toNat then ad else ad.map (·.add (lo.toNat*n))) (hi.toNat-lo.toNat) (cp-lo.toNat))) w:=by
 have Af:(Instr.sliceBounds true len cp (l.map ρ) (h.map ρ) none).run P w = .ok (lo.toNat,hi.toNat,cp) w:=by
  cases l<;>cases h<;>simp only at hl hh<;>simp only [Option.map,Instr.sliceBounds]
  ·subst hl;simp [hh]
  ·subst hl;simp [Instr.sliceBound,asIntOf,hh,h2,show 0≤hi by omega]
  ·subst hh;simp [Instr.sliceBound,asIntOf,hl,h0,h1]
  ·simp [Instr.sliceBound,asIntOf,hl,hh,h0,h1,h2,show 0≤hi by omega,Int.toNat_of_nonneg (show 0≤hi by omega)]
 simp [execOp,Instr.sliceAt,Instr.slice,hx,run_underlying hu,Af,Fi hs]
theorem Z0V {j T n m:Nat} {x:X} {lo hi:Option X} {rows:List (List AV)} {l h:Int} (hx:S.x x = .ocs j 0 n m) (hj:A2 S.ss j=some ⟨T,n,rows⟩) (hr:0<rows.length) (hd:AY S lo 0=some l) (hw:AY S hi m=some h) (h0:0≤l) (h1:l≤h) (h2:h≤rows.length):
  Bi c S (.slice n x lo hi) (.ocs j l.toNat n (h.toNat-l.toNat)) S:=by
 intro ro h8 M a w h6 next Q hA
 obtain ⟨dst,op,ty,pos,af,gd⟩:=ro;dsimp only at h8;obtain ⟨T',y,lo',hi',e,rfl,hu,hs,rfl,rfl,rfl⟩:=H8 h8;have hS:=h6.st;have k1:=Ak h6 y;rw [hx] at k1;obtain ⟨hB,g1,n1,c1,k1,k1'⟩:=k1;obtain ⟨g,cap,cur,vss,e2,e3,e4,e5,e6,v1,v2,e7⟩:=Ew hS hj hr;rw [e2] at k1;simp only [Value.slice.injEq,Option.some.injEq,Addr.mk.injEq] at k1;obtain ⟨⟨rfl,_⟩,_,rfl⟩:=k1;rw [Nat.zero_mul,ite_self,Nat.sub_zero] at k1';have b1:=HS (Ak h6) lo' 0 l hd;have b2:=HS (Ak h6) hi' m h hw;have h9:=dW (P:=c.P) (w:=w) hu hs (ρ:=a.eval) (ad:=some ⟨g,0,none⟩) (len:=m) (cp:=cap) (lo:=l) (hi:=h) k1' b1 b2 h0 h1 Om dst ty pos af gd;unfold Oper.wp;rw [h9];refine hA M w _ (.refl M) hS ⟨hB,g,rows.length,cap,e2,?_⟩;by_cases hc:cap=l.toNat
 ·rw [if_pos hc,if_pos hc]
 ·rw [if_neg hc,if_neg hc];simp only [Option.map,Addr.add_lit,Nat.zero_add]
theorem qW {P:Program} {op:Op} {n:Nat} {x:X} {lo hi mx:Option X} (ho:cO P op = .sl3 n x lo hi mx):
  ∃T y l h m e,op = .slice T y l h (some m)∧P.underlying T=some (.slice e)∧C9 P e=some n∧cX y=x∧l.map cX=lo∧h.map cX=hi∧some (cX m)=mx:=by
 cases op
 case slice T y l h mx'=>
  simp only [cO] at ho;split at ho
  ·split at ho<;>simp at ho
  ·rename_i m e hu;split at ho
   ·rename_i n' hn;simp only [EO.sl3.injEq] at ho;obtain ⟨rfl,rfl,rfl,rfl,rfl⟩:=ho;exact ⟨T,y,l,h,_,_,rfl,hu,hn,rfl,rfl,rfl,rfl⟩
   ·simp at ho
  ·simp at ho
  ·simp at ho
 all_goals (simp only [cO] at ho;(repeat' (split at ho))<;>simp at ho)
theorem Z0R {j T n:Nat} {x E xh xm:X} {rows:List (List AV)} {l h m:Int} (hx:S.x x = .osl j) (hj:A2 S.ss j=some ⟨T,n,rows⟩) (hr:0<rows.length) (hl:S.x E = .iv l) (hh:S.x xh = .iv h) (hm:S.x xm = .iv m) (h0:0≤l) (h1:l≤h) (h2:h≤m) (h3:m≤rows.length):
  Bi c S (.sl3 n x (some E) (some xh) (some xm)) .any S:=by
 intro ro h9 M a w h6 next Q hd
 obtain ⟨dst,op,ty,pos,af,gd⟩:=ro;dsimp only at h9;obtain ⟨T',y,lo',hi',mx',e,rfl,hu,hs,rfl,q1,q2,q3⟩:=qW h9;cases lo' with
 | none=>simp at q1
 | some lo'=>
   cases hi' with
   | none=>simp at q2
   | some hi'=>
     simp only [Option.map_some,Option.some.injEq] at q1 q2 q3;have hS:=h6.st;have k1:=Ak h6 y;rw [hx] at k1;obtain ⟨g,cap,cur,vss,e2,e3,e4,e5,e6,v1,v2,e7⟩:=Ew hS hj hr;have b1:=Ak h6 lo';have b2:=Ak h6 hi';have b3:=Ak h6 mx';rw [q1,hl] at b1;rw [q2,hh] at b2;rw [q3,hm] at b3;simp only [AV.is] at b1 b2 b3;have k1':=k1.2.trans e2;have h8:∃v,(execOp a.eval ⟨dst,.slice T' y (some lo') (some hi') (some mx'),ty,pos,af,gd⟩).run c.P w = .ok (.value v) w:=by
      have Af:(Instr.sliceBounds true rows.length cap ((some lo').map a.eval) ((some hi').map a.eval) (some (a.eval mx'))).run c.P w = .ok (l.toNat,h.toNat,m.toNat) w:=by simp [Instr.sliceBounds,Instr.sliceBound,asIntOf,b1,b2,b3,show 0≤m by omega,show m≤(cap:Int) by omega,show 0≤h by omega,h0,h1,h2,Int.toNat_of_nonneg (show 0≤m by omega),Int.toNat_of_nonneg (show 0≤h by omega)]
      generalize a.eval=ρ at *;refine ⟨.slice (if m.toNat=l.toNat then some ⟨g,0,none⟩ else (some ⟨g,0,none⟩:Option Addr).map (·.add (l.toNat*n))) (h.toNat-l.toNat) (m.toNat-l.toNat),?_⟩;simp only [Option.map_some] at Af;simp [execOp,Instr.sliceAt,Instr.slice,k1',run_underlying hu,Fi hs,Af]
     obtain ⟨v,h8⟩:=h8;unfold Oper.wp;rw [h8];exact hd M w _ (.refl M) hS trivial
theorem qS {P:Program} {op:Op} {z:List AV} {x:X} (ho:cO P op = .clr z x):∃p t e n,op = .call ⟨.builtin .clear, #[p], #[t]⟩∧P.underlying t=some (.slice e)∧LI P e=some z∧C9 P e=some n∧z.length=n∧0<n∧cX p=x:=by
 cases op
 case call ci=>
  obtain ⟨callee,cargs,argTypes⟩:=ci;cases callee with
  | value o=>
    cases o with
    | func f'=>simp only [cO] at ho;(repeat' (split at ho))<;>simp at ho
    | _=>simp [cO] at ho
  | invoke _ _=>simp [cO] at ho
  | builtin b=>
    cases b
    case clear=>
     simp only [cO] at ho;split at ho
     ·rename_i t0 p h1 h2;split at ho
      ·rename_i e hu;split at ho
       ·rename_i z' n hz hs;split at ho
        ·rename_i hc;simp only [EO.clr.injEq] at ho;obtain ⟨rfl,rfl⟩:=ho;have e1:cargs = #[p]:=by apply Array.ext';simpa using h2
         have e2:argTypes = #[t0]:=by apply Array.ext';simpa using h1
         subst e1;subst e2;exact ⟨p,t0,e,n,rfl,hu,hz,hs,hc.1,hc.2,rfl⟩
        ·simp at ho
       ·simp at ho
      ·simp at ho
     ·simp at ho
    all_goals (simp only [cO] at ho;(repeat' (split at ho))<;>simp at ho)
 all_goals (simp only [cO] at ho;(repeat' (split at ho))<;>simp at ho)
theorem om (z:Array Value):∀n,(Builtin.zeroCells z n).toList=(List.replicate n z.toList).flatten
 | 0=>by simp [Builtin.zeroCells]
 | n+1=>by
   have ih:=om z n;simp only [Builtin.zeroCells,Array.toList_map,Array.toList_range] at ih ⊢;rw [List.replicate_succ',List.flatten_append,←ih,Nat.add_mul,Nat.one_mul,List.range_add,List.map_append];congr 1;rw [List.map_map];simp only [List.flatten_cons,List.flatten_nil,List.append_nil];refine List.ext_getElem? fun i=>?_;rw [List.getElem?_map];by_cases hi:i<z.size
   ·rw [List.getElem?_range hi];simp only [Option.map_some,Function.comp,Nat.mul_add_mod_self_right];rw [Nat.mod_eq_of_lt hi];simp [hi]
   ·rw [List.getElem?_eq_none (by simp;omega),List.getElem?_eq_none (by simp;omega)];rfl
theorem Z0L {j T n lo m:Nat} {x:X} {z:List AV} {rows:List (List AV)} (hx:S.x x = .ocs j lo n m) (hj:A2 S.ss j=some ⟨T,n,rows⟩) (hr:0<rows.length) (hI:lo+m≤rows.length) (E:List AV) (hz:AV.le.leL z E) (hp:AD E=true) (hn:z.length=n) (h1:Cs z=true):
  Bi c S (.clr z x) (.tup []) ⟨S.tm,S.bs,Ar S.ss j (some ⟨T,n,rows.take lo++List.replicate m E++rows.drop (lo+m)⟩)⟩:=by
 intro ro hd M a w hT next Q hw
 obtain ⟨dst,op,ty,pos,af,gd⟩:=ro;dsimp only at hd;obtain ⟨p,t,e,n',rfl,hu,hJ,hs,hP,hQ,rfl⟩:=qS hd;have hK:n'=n:=by omega
 subst hK;have k1:=Ak hT p;rw [hx] at k1;obtain ⟨hR,g1,n1,c1,k1,k1'⟩:=k1;obtain ⟨g,cap,cur,vss,e2,e3,e4,e5,e6,v1,v2,e7⟩:=Ew hT.st hj hr;rw [e2] at k1;simp only [Value.slice.injEq,Option.some.injEq,Addr.mk.injEq] at k1;obtain ⟨⟨rfl,_⟩,_,rfl⟩:=k1;obtain ⟨i,u,hi,h9,hS,rfl⟩:=LJ hJ;have hL:AV.isL M.sl E u.cells.toList:=E0 (Lx M) _ _ (Fd _ _ (Ep (M:=M) _ _ _ hz (FO M _)) hp);have hD:u.cells.toList.length=n':=by simpa using hn
 have hE:∀v∈u.cells.toList,v.oneCell'=true:=Jc (FO M _) h1 hT.st.so;have hC:=PW hL m;rw [hD] at hC;have hA:∀v∈(List.replicate m u.cells.toList).flatten,v.oneCell'=true:=fun v hv=>by obtain ⟨l,hl,hv⟩:=List.mem_flatten.1 hv;rw [List.eq_of_mem_replicate hl] at hv;exact hE v hv
 have hB:=Dl hC;rw [List.length_replicate] at hB;have hW:=U7 hT.st hj e2 e3 e4 e5 e6 v1 v2 e7 (A:=lo) hC hA (by rw [List.length_replicate];exact hI);rw [List.length_replicate] at hW;by_cases hN:m=0
 ·subst hN;have h6:(execOp a.eval ⟨dst,.call ⟨.builtin .clear, #[p], #[t]⟩,ty,pos,af,gd⟩).run c.P w = .ok (.value (.tuple #[])) w:=by generalize a.eval=ρ at *;simp [execOp,resolve,invoke,builtin,Builtin.clear_,run_underlying hu,k1']
  unfold Oper.wp;rw [h6];refine hw M _ _ (.refl M) ?_ ⟨[],rfl,rfl⟩;simp only [List.replicate_zero,List.append_nil,Nat.add_zero,List.take_append_drop];show RelS c M S.bs (Ar S.ss j (some ⟨T,n',rows⟩)) w;rw [dc _ _ _ hj];exact hT.st
 ·have hG:¬cap=lo:=by omega
  rw [if_neg hG] at k1';have q1:(lo+m)*n'≤cap*n':=Nat.mul_le_mul_right _ Om;rw [Nat.add_mul] at q1;have h8:=run_storeCells_at c.P g (lo*n') T (List.replicate m u.cells.toList).flatten 0 cur w e3 (by rw [Nat.add_zero,hB,e6];exact q1) hA;rw [Nat.add_zero] at h8;have h6:(execOp a.eval ⟨dst,.call ⟨.builtin .clear, #[p], #[t]⟩,ty,pos,af,gd⟩).run c.P w = .ok (.value (.tuple #[])) (w.setRow g (cur.toList.take (lo*n')++(List.replicate m u.cells.toList).flatten++cur.toList.drop (lo*n'+(List.replicate m u.cells.toList).flatten.length)).toArray):=by
   have hO:(zeroValue e).run c.P w = .ok u w:=by simp [zeroValue,typeInfo,hi,h9]
   rw [←om] at h8 ⊢;generalize a.eval=ρ at *;obtain ⟨m',rfl⟩:∃m',m=m'+1:=⟨m-1,Om⟩
   simp [execOp,resolve,invoke,builtin,Builtin.clear_,run_underlying hu,k1',hO,h8]
  unfold Oper.wp;rw [h6];exact hw M _ _ (.refl M) hW ⟨[],rfl,rfl⟩
theorem Z0F {j e n b i lo m:Nat} {x y:X} {rows:List (List AV)} (hx:S.x x = .ocs j 0 n i) (hy:S.x y = .ocs j lo n m) (hj:A2 S.ss j=some ⟨e,n,rows⟩) (hr:0<rows.length) (h1:i+m≤rows.length) (h2:lo+m≤rows.length):
  Bi c S (.app e n b x y) (.ocs j 0 n (i+m)) ⟨S.tm,S.bs,Ar S.ss j (some ⟨e,n,rows.take i++(rows.take (lo+m)).drop lo++rows.drop (i+m)⟩)⟩:=by
 intro ro hB M a w hT next Q hG
 obtain ⟨dst,op,ty,pos,af,gd⟩:=ro;dsimp only at hB;obtain ⟨t,p,q,inf,z,rfl,hu,hi,hz,h9,hK,hL,hN,rfl,rfl⟩:=ZX hB;have k1:=Ak hT p;have k2:=Ak hT q;rw [hx] at k1;rw [hy] at k2;obtain ⟨hI,g1,n1,c1,k1,k1'⟩:=k1;obtain ⟨_,g2,n2,c2,k2,k2'⟩:=k2;obtain ⟨g,cap,cur,vss,e2,e3,e4,e5,e6,v1,v2,e7⟩:=Ew hT.st hj hr;rw [e2] at k1 k2;simp only [Value.slice.injEq,Option.some.injEq,Addr.mk.injEq] at k1 k2;obtain ⟨⟨rfl,_⟩,_,rfl⟩:=k1;obtain ⟨⟨rfl,_⟩,_,rfl⟩:=k2;rw [Nat.zero_mul,ite_self,Nat.sub_zero] at k1';have hw:=F2 v1 lo (lo+m);have h6:=Dl hw;have hk:((rows.take (lo+m)).drop lo).length=m:=by rw [List.length_drop,List.length_take];omega
 rw [hk] at h6;have h8:=(Fx v1).1;have hC:((vss.take (lo+m)).drop lo).flatten=(vss.flatten.take ((lo+m)*n)).drop (lo*n):=by rw [(Fu (fun v hv=>h8 v (List.mem_of_mem_take hv)) lo).2,(Fu h8 _).1]
 have hd:∀v∈((vss.take (lo+m)).drop lo).flatten,v.oneCell'=true:=fun v hv=>by rw [hC] at hv;exact v2 v (List.mem_of_mem_take (List.mem_of_mem_drop hv))
 have q1:(i+m)*n≤cap*n:=Nat.mul_le_mul_right _ Om;rw [Nat.add_mul] at q1;have hA:∀(u:Nat) v,((vss.take (lo+m)).drop lo).flatten[u]?=some v→w.cell? ((⟨g,if cap=lo then 0 else lo*n,none⟩:Addr).add u)=some v:=fun u v hv=>by
  by_cases hc:cap=lo
  ·have hJ:m=0:=by omega
   have hD:((vss.take (lo+m)).drop lo).flatten.length=0:=by rw [h6,hJ,Nat.zero_mul]
   rw [List.eq_nil_of_length_eq_zero hD] at hv;simp at hv
  ·rw [if_neg hc];rw [hC,List.getElem?_drop,List.getElem?_take] at hv;split at hv
   ·rw [←e7,List.getElem?_take] at hv;split at hv
    ·rw [Addr.add_lit];simp only [World.cell?,e3];simpa using hv
    ·simp at hv
   ·simp at hv
 have hE:=ZM (P:=c.P) (w:=w) (p:=p) (q:=q) (t:=t) (ρ:=a.eval) dst ty pos af gd (by rw [k1',k2'];exact run_append_room (P:=c.P) w t ty e inf hu hi g i cap cur e3 ⟨g,if cap=lo then 0 else lo*n,none⟩ m (cap-lo) ((vss.take (lo+m)).drop lo).flatten (by rw [h6,h9]) hA hd Om (by rw [h9,h6,e6];exact q1));unfold Oper.wp;rw [hE,h9];have hW:=U7 hT.st hj e2 e3 e4 e5 e6 v1 v2 e7 (A:=i) hw hd (by rw [hk];omega);rw [hk] at hW;refine hG M _ _ (.refl M) hW ⟨hI,g,rows.length,cap,e2,?_⟩;rw [Nat.zero_mul,ite_self,Nat.sub_zero]
theorem pj (t j n m:Nat) {L:Sl} (ht:AJ S.tm t = .ocs j 0 n m) (hj:A2 S.ss j=some L) (hn:L.n=n) (hr:0<L.rows.length) (hm:m≤L.rows.length) (h:V c fn K k ⟨BL S.tm t (.osl (Aa S.ss)),S.bs,Ar S.ss j none++[some ⟨L.T,n,L.rows.take m⟩]⟩):V c fn K k S:=by
 subst hn;intro rk M a w hc hT;have hS:=hT.st;have k1:=hT.tm t;rw [ht] at k1;obtain ⟨h9,g1,n1,c1,k1,k1'⟩:=k1;obtain ⟨g,cap,cur,vss,e2,e3,e4,e5,e6,v1,v2,e7⟩:=Ew (T:=L.T) (n:=L.n) (rows:=L.rows) hS hj hr;rw [e2] at k1;simp only [Value.slice.injEq,Option.some.injEq,Addr.mk.injEq] at k1;obtain ⟨⟨rfl,_⟩,_,rfl⟩:=k1;rw [Nat.zero_mul,ite_self,Nat.sub_zero] at k1';obtain ⟨g0,_,_,_,_,q4⟩:=hS.slc j L hj;have hw:=F2 v1 0 m;simp only [List.drop_zero] at hw;have h6:(vss.take m).flatten=vss.flatten.take (m*L.n):=(Fu (Fx v1).1 m).1;have h8:=Dl hw;rw [List.length_take,Nat.min_eq_left hm] at h8;have hr:RelS c (M.addS (.slice (some ⟨g,0,none⟩) m cap)) S.bs (Ar S.ss j none++[some (⟨L.T,L.n,L.rows.take m⟩:Sl)]) w:=by
  refine RelS.grown (v:=M.σ j) (vss:=vss.take m) hS (Dd _ _ _) ?_ (.inr fun i B hi=>hS.d2 i j B L hi hj) q4 ⟨rfl,rfl,rfl,Nat.le_refl _,fun _ _ _=>rfl⟩ (.inl (by rw [e2];rfl)) g0 hw ?_ ?_
  ·intro i N hi;rw [Du] at hi;split at hi
   ·simp at hi
   ·rename_i e;refine ⟨hi,fun g hg e2=>e ⟨?_,Cu hj⟩⟩;exact hS.d3 i j N L g hi hj e2 hg
  ·intro v hv;rw [h6] at hv;exact v2 v (List.mem_of_mem_take hv)
  ·refine ⟨by rw [h8,List.length_take,Nat.min_eq_left hm],.inr ⟨g,cap,cur,by rw [List.length_take,Nat.min_eq_left hm],Nat.zero_le _,e3,by rw [List.length_take,Nat.min_eq_left hm];omega,e5,e6,?_⟩⟩;rw [List.length_take,Nat.min_eq_left hm,h6,←e7,List.take_take,Nat.min_eq_left (Nat.mul_le_mul_right _ hm)]
 have hle:=Mem.le_addS M (.slice (some ⟨g,0,none⟩) m cap);refine h rk _ a w hc ⟨by rw [I8];exact hT.len,fun u=>?_,hT.df,hr⟩;rw [F6];split
 ·rename_i e;have hu:=hT.tm u;obtain ⟨rfl,_⟩:=e;refine ⟨by rw [Bh,←hS.ns];exact Nat.lt_succ_self _,?_⟩;rw [k1',Bh,←hS.ns];simp [Mem.addS]
 ·exact Dm hle _ _ (hT.tm u)
end
end NX
end Go.Proofs.YtjemlejoladlcaaGreat
/-
  The symbolic machine: strings. No statement of the seat is proved here.
-/
namespace Go.Proofs.YtjemlejoladlcaaGreat
namespace NX
open Go Go.RowKit
section
variable {c:Ctx} {M:Mem} {S S':St} {a:Act} {w:World} {fn:Func} {K:AV→List (Option Blk)→List (Option Sl)→Prop} {k:List It}
end
end NX
end Go.Proofs.YtjemlejoladlcaaGreat
/-
  The symbolic machine: strings in drawn regions, arrays by their addresses, parts of own slices with a model. No statement of the seat is proved here.
-/
namespace Go.Proofs.YtjemlejoladlcaaGreat
namespace NX
open Go Go.RowKit
section
variable {c:Ctx} {M:Mem} {S S':St} {a:Act} {w:World} {fn:Func} {K:AV→List (Option Blk)→List (Option Sl)→Prop} {k:List It}
section
variable {all:Array Oper} {ops:List EOp} {af:List (List Nat)} {Φ:St→Prop} {m':Nat} {ld:List Bool} {nap:List (List Nat)}
end
theorem oE {all:Array Oper} {ops:List EOp} {af:List (List Nat)} {Φ:St→Prop} {m':Nat} {ld:List Bool} (h6:all.toList.mapM (AL c.P all)=some ops) {i f:Nat} {xs:List X} {args:List AV} {v:AV} {bs bs':List (Option Blk)} {ss ss':List (Option Sl)} (J E:List Bool) (ho:(A8 ops i).o = .call f xs) (hg:gm S (A8 ops i).g) (hf:Cr c.P f args bs ss v bs' ss')
  (h8:Aq J S.bs=bs:=by rfl) (h9:Aq E S.ss=ss:=by rfl) (hd:Bt J S.bs bs'=S.bs:=by rfl) (ha:AV.le.leL (B8 S xs) args:=by first | exact Am _ | simp [go_sem])
  (h:G c all ops af Φ m' (Au ld i) ((⟨S.tm,S.bs,Bt E S.ss ss'⟩:St).put (A8 ops i).d v)):GO c all ops af Φ m' ld S i:=by
 refine Bk (S1:=⟨S.tm,S.bs,Bt E S.ss ss'⟩) h6 hg ?_ rfl (fun _ _ _ _ h1 _ _=>h1) h;rw [ho];have:=Z5 (c:=c) J E hf h8 h9 ha;rw [hd] at this;exact this
def DE (n:Int) (lo hi:Int):Option Unit:=if 0<n∧0≤lo∧lo≤hi∧hi≤n then some () else none
theorem Ut {n lo hi:Int} {u:Unit} (h:DE n lo hi=some u):0<n∧0≤lo∧lo≤hi∧hi≤n:=by
 unfold DE at h;split at h
 ·assumption
 ·simp at h
def H9 {α:Type} (l:List α) (lo m:Nat) (z:α):Option (List α):=if 0<l.length∧lo+m≤l.length then some (l.take lo++List.replicate m z++l.drop (lo+m)) else none
def Yk {α:Type} (l:List α) (i lo m:Nat):Option (List α):=if 0<l.length∧i+m≤l.length∧lo+m≤l.length then some (l.take i++(l.take (lo+m)).drop lo++l.drop (i+m)) else none
def UQ {α:Type} (l:List α) (m:Nat):Option (List α):=if 0<l.length∧m≤l.length then some (l.take m) else none
variable {α:Type}
theorem ZF {l':List α} {u:Unit} {d:Option Nat} {g:Option (Nat×Bool)} {E:List EOp} {T n j:Nat} {x:X} {lo hi:Option X} {l h:Int} (f:α→List AV) (hv:DE (ln f l') l h=some u) (hg:gm S g) (hx:S.x x = .osl j) (hj:A2 S.ss j=some ⟨T,n,l'.map f⟩) (h6:AY S lo 0=some l) (h8:AY S hi (ln f l')=some h)
  (J:V c fn K (.ops E::k) (S.put d (.ocs j l.toNat n (h.toNat-l.toNat)))):V c fn K (.ops (⟨d,g,.slice n x lo hi⟩::E)::k) S:=by
 obtain ⟨h0,h1,h2,h3⟩:=Ut hv;unfold ln at h0 h3;exact AU hg (E9 hx hj Om h6 h8 h1 h2 h3) rfl J
theorem Uw {all:Array Oper} {ops:List EOp} {af:List (List Nat)} {Φ:St→Prop} {m':Nat} {ld:List Bool} {i:Nat} {l':List α} {u:Unit} {T n j:Nat} {x:X} {lo hi:Option X} {l h:Int} (f:α→List AV) (hv:DE (ln f l') l h=some u) (h6:all.toList.mapM (AL c.P all)=some ops) (ho:(A8 ops i).o = .slice n x lo hi) (hg:gm S (A8 ops i).g) (hx:S.x x = .osl j) (hj:A2 S.ss j=some ⟨T,n,l'.map f⟩) (h8:AY S lo 0=some l) (h9:AY S hi (ln f l')=some h)
  (E:G c all ops af Φ m' (Au ld i) (S.put (A8 ops i).d (.ocs j l.toNat n (h.toNat-l.toNat)))):GO c all ops af Φ m' ld S i:=by
 obtain ⟨h0,h1,h2,h3⟩:=Ut hv;unfold ln at h0 h3;exact Bk h6 hg (by rw [ho];exact E9 hx hj Om h8 h9 h1 h2 h3) rfl (fun _ _ _ _ h1 _ _=>h1) E
theorem pY {l':List α} {u:Unit} {d:Option Nat} {g:Option (Nat×Bool)} {E:List EOp} {T n j m:Nat} {x:X} {lo hi:Option X} {l h:Int} (f:α→List AV) (hv:DE (ln f l') l h=some u) (hg:gm S g) (hx:S.x x = .ocs j 0 n m) (hj:A2 S.ss j=some ⟨T,n,l'.map f⟩) (h6:AY S lo 0=some l) (h8:AY S hi m=some h)
  (J:V c fn K (.ops E::k) (S.put d (.ocs j l.toNat n (h.toNat-l.toNat)))):V c fn K (.ops (⟨d,g,.slice n x lo hi⟩::E)::k) S:=by
 obtain ⟨h0,h1,h2,h3⟩:=Ut hv;unfold ln at h0 h3;exact AU hg (Z0V hx hj Om h6 h8 h1 h2 h3) rfl J
theorem pR {l':List α} {u Z:Unit} {d:Option Nat} {g:Option (Nat×Bool)} {J:List EOp} {T n j:Nat} {x U xh xm:X} {l h m:Int} (f:α→List AV) (hv:DE (ln f l') l h=some u) (E:DE (ln f l') h m=some Z) (hg:gm S g) (hx:S.x x = .osl j) (hj:A2 S.ss j=some ⟨T,n,l'.map f⟩) (h6:S.x U = .iv l) (h8:S.x xh = .iv h) (hm:S.x xm = .iv m)
  (Y:V c fn K (.ops J::k) (S.put d .any)):V c fn K (.ops (⟨d,g,.sl3 n x (some U) (some xh) (some xm)⟩::J)::k) S:=by
 obtain ⟨h0,h1,h2,h3⟩:=Ut hv;obtain ⟨_,_,h4,h5⟩:=Ut E;unfold ln at h0 h5;exact AU hg (Z0R hx hj Om h6 h8 hm h1 h2 h4 h5) rfl Y
theorem UA {l' v:List α} {d:Option Nat} {g:Option (Nat×Bool)} {E:List EOp} {T n j lo m:Nat} {x:X} {z:List AV} {y:α} (f:α→List AV) (hv:H9 l' lo m y=some v) (hg:gm S g) (hx:S.x x = .ocs j lo n m) (hj:A2 S.ss j=some ⟨T,n,l'.map f⟩) (hz:AV.le.leL z (f y)) (hp:AD (f y)=true) (hn:z.length=n) (h1:Cs z=true)
  (J:V c fn K (.ops E::k) ((⟨S.tm,S.bs,Ar S.ss j (some ⟨T,n,v.map f⟩)⟩:St).put d (.tup []))):V c fn K (.ops (⟨d,g,.clr z x⟩::E)::k) S:=by
 unfold H9 at hv;split at hv
 ·rename_i hb;simp only [Option.some.injEq] at hv;subst hv;refine AU hg (Z0L hx hj (by simpa using hb.1) (by simpa using hb.2) (f y) hz hp hn h1) rfl ?_;simpa [List.map_append,List.map_take,List.map_drop,List.map_replicate] using J
 ·simp at hv
theorem eL {all:Array Oper} {ops:List EOp} {af:List (List Nat)} {Φ:St→Prop} {m':Nat} {ld:List Bool} {E:Nat} {l' v:List α} {e n b j i lo m:Nat} {x y:X} (f:α→List AV) (hv:Yk l' i lo m=some v) (h6:all.toList.mapM (AL c.P all)=some ops) (ho:(A8 ops E).o = .app e n b x y) (hg:gm S (A8 ops E).g) (hx:S.x x = .ocs j 0 n i) (hy:S.x y = .ocs j lo n m) (hj:A2 S.ss j=some ⟨e,n,l'.map f⟩)
  (J:G c all ops af Φ m' (Au ld E) ((⟨S.tm,S.bs,Ar S.ss j (some ⟨e,n,v.map f⟩)⟩:St).put (A8 ops E).d (.ocs j 0 n (i+m)))):GO c all ops af Φ m' ld S E:=by
 unfold Yk at hv;split at hv
 ·rename_i hb;simp only [Option.some.injEq] at hv;subst hv;refine Bk (S1:=⟨S.tm,S.bs,Ar S.ss j (some ⟨e,n,(l'.take i++(l'.take (lo+m)).drop lo++l'.drop (i+m)).map f⟩)⟩) h6 hg ?_ rfl (fun _ _ _ _ h1 _ _=>h1) J;rw [ho];have:=Z0F (c:=c) (b:=b) hx hy hj (by simpa using hb.1) (by simpa using hb.2.1) (by simpa using hb.2.2);simpa [List.map_append,List.map_take,List.map_drop] using this
 ·simp at hv
theorem pk {l' v:List α} (t j n m:Nat) {T:Nat} (f:α→List AV) (hv:UQ l' m=some v) (ht:AJ S.tm t = .ocs j 0 n m) (hj:A2 S.ss j=some ⟨T,n,l'.map f⟩)
  (h:V c fn K k ⟨BL S.tm t (.osl (Aa S.ss)),S.bs,Ar S.ss j none++[some ⟨T,n,v.map f⟩]⟩):V c fn K k S:=by
 unfold UQ at hv;split at hv
 ·rename_i hb;simp only [Option.some.injEq] at hv;subst hv;refine pj t j n m ht hj rfl (by simpa using hb.1) (by simpa using hb.2) ?_;rw [List.map_take] at h;exact h
 ·simp at hv
end
end NX
end Go.Proofs.YtjemlejoladlcaaGreat
/-
  The symbolic machine: an own slice of which one row has the name of another own slice. No statement of the seat is proved here.
-/
namespace Go.Proofs.YtjemlejoladlcaaGreat
namespace NX
open Go Go.RowKit
def Fs (rows:List (List AV)) (z off k:Nat):List (List AV):=
 match rows[z]? with
 | none=>rows
 | some r=>match BM r off [.osl k] with
   | none=>rows
   | some r'=>rows.set z r'
theorem wZ {nb ns:Nat} {a:AV}:∀ {l r:List AV},F7 l [a]=some r→Cp nb ns l=true→a.ok nb ns=true→Cp nb ns r=true
 | [],_,h,_,_=>by simp [F7] at h
 | x::l,r,h,hl,ha=>by simp only [F7,Option.map_some,Option.some.injEq] at h;subst h;simp only [Cp,AO] at hl ⊢;exact ⟨ha,hl.2⟩
theorem jx {nb ns:Nat} {a:AV}:∀ {o:Nat} {l r:List AV},BM l o [a]=some r→Cp nb ns l=true→a.ok nb ns=true→Cp nb ns r=true
 | 0,l,r,h,hl,ha=>wZ (l:=l) (by simpa [BM] using h) hl ha
 | o+1,[],_,h,_,_=>by simp [BM] at h
 | o+1,x::l,r,h,hl,ha=>by simp only [BM,Option.map_eq_some_iff] at h;obtain ⟨q,hq,rfl⟩:=h;simp only [Cp,AO] at hl ⊢;exact ⟨hl.1,jx hq hl.2 ha⟩
theorem kT {ns:Nat}:∀ {l:List (List AV)} {i:Nat} {r:List AV},C4 ns l=true→l[i]?=some r→Cp 0 ns r=true
 | [],_,_,_,h=>by simp at h
 | x::l,0,_,h,hi=>by simp only [C4,AO] at h;simp at hi;subst hi;exact h.1
 | x::l,i+1,_,h,hi=>by simp only [C4,AO] at h;exact kT h.2 (by simpa using hi)
theorem kS {ns:Nat} {rows:List (List AV)} {z off k:Nat} (h:C4 ns rows=true) (hk:AA (k+1) ns=true):C4 ns (Fs rows z off k)=true:=by
 unfold Fs;split
 ·exact h
 ·rename_i r hr;split
  ·exact h
  ·rename_i r' hr';exact YC (jx hr' (kT h hr) hk) h
@[go_sem] theorem okRows_fixS {ns:Nat} {rows:List (List AV)} {z off k:Nat} (h:BS (C4 ns rows) (AA (k+1) ns)=true):C4 ns (Fs rows z off k)=true:=by rw [AO] at h;exact kS h.1 h.2
@[go_sem] theorem okRows_fixSS {ns:Nat} {l:List (List AV)} {r:List AV} {i z off k:Nat} (h:BS (C4 ns l) (BS (Cp 0 ns r) (AA (k+1) ns))=true):C4 ns (Fs (l.set i r) z off k)=true:=by rw [AO,AO] at h;exact kS (YC h.2.1 h.1) h.2.2
theorem V0 {α:Type} {l:List α} {f:α→List AV} {z:Int} {y:α} {off k:Nat} {r:List AV} (hv:A4 l z=some y) (hl:BM (f y) off [.osl k]=some r):Fs (l.map f) z.toNat off k=(l.map f).set z.toNat r:=by unfold Fs;rw [IP (EA hv).2];simp only [hl]
theorem jy {a:AV}:∀ {o:Nat} {l r:List AV},BM l o [a]=some r→Dr r o 1=some [a]
 | 0,[],r,h=>by simp [BM,F7] at h
 | 0,x::l,r,h=>by simp only [BM,F7,Option.map_some,Option.some.injEq] at h;subst h;rfl
 | o+1,[],_,h=>by simp [BM] at h
 | o+1,x::l,r,h=>by simp only [BM,Option.map_eq_some_iff] at h;obtain ⟨q,hq,rfl⟩:=h;have:=jy hq;exact this
theorem jw {M:Mem} {a b:AV} (hab:∀v,a.is M v→b.is M v):∀ {o:Nat} {l r r':List AV},BM l o [a]=some r→BM l o [b]=some r'→∀vs,AV.isL M r vs→AV.isL M r' vs
 | 0,[],r,_,h,_=>by simp [BM,F7] at h
 | 0,x::l,r,r',h,h'=>by simp only [BM,F7,Option.map_some,Option.some.injEq] at h h';subst h;subst h';rintro vs ⟨v,q,rfl,h1,h2⟩;exact ⟨v,q,rfl,hab v h1,h2⟩
 | o+1,[],_,_,h,_=>by simp [BM] at h
 | o+1,x::l,r,r',h,h'=>by simp only [BM,Option.map_eq_some_iff] at h h';obtain ⟨q,hq,rfl⟩:=h;obtain ⟨q',hq',rfl⟩:=h';rintro vs ⟨v,u,rfl,h1,h2⟩;exact ⟨v,u,rfl,h1,jw hab hq hq' u h2⟩
theorem im {M:Mem} {n:Nat} {r':List AV}:∀ {rows:List (List AV)} {i:Nat} {r:List AV} {vss:List (List Value)},rows[i]?=some r→(∀vs,AV.isL M r vs→AV.isL M r' vs)→AV.isLL M n rows vss→AV.isLL M n (rows.set i r') vss
 | [],_,_,_,h,_,_=>by simp at h
 | x::l,0,r,vss,h,k,⟨v,q,h0,h1,h2,h3⟩=>by simp at h;subst h;exact ⟨v,q,h0,h1,k v h2,h3⟩
 | x::l,i+1,r,vss,h,k,⟨v,q,h0,h1,h2,h3⟩=>⟨v,q,h0,h1,h2,im (by simpa using h) k h3⟩
section
variable {c:Ctx} {M:Mem} {S S':St} {a:Act} {w:World} {fn:Func} {K:AV→List (Option Blk)→List (Option Sl)→Prop} {k:List It}
theorem yy {bs:List (Option Blk)} {ss:List (Option Sl)} (J:RelS c M bs ss w) {j T n:Nat} {rows E:List (List AV)} (hj:A2 ss j=some ⟨T,n,rows⟩) (hl:E.length=rows.length) (h:∀vss,AV.isLL M.sl n rows vss→AV.isLL M.sl n E vss):
  RelS c M bs (Ar ss j (some ⟨T,n,E⟩)) w:=by
 have live:∀i N,A2 (Ar ss j (some ⟨T,n,E⟩)) i=some N→(i=j∧N=⟨T,n,E⟩)∨A2 ss i=some N:=by
  intro i N hi;rw [Du] at hi;split at hi
  ·rename_i e;simp only [Option.some.injEq] at hi;exact .inl ⟨e.1,hi.symm⟩
  ·exact .inr hi
 have old:∀i N,A2 (Ar ss j (some ⟨T,n,E⟩)) i=some N→∃N',A2 ss i=some N':=by
  intro i N hi;rcases live i N hi with ⟨rfl,_⟩ | h
  ·exact ⟨_,hj⟩
  ·exact ⟨_,h⟩
 refine ⟨J.nb,by rw [Dd];exact J.ns,J.so,J.os,J.tape,J.output,J.size,J.block,J.hle,J.hold,J.blk,?_,J.d1,?_,?_,J.pin⟩
 ·intro i N hi;rcases live i N hi with ⟨rfl,rfl⟩ | h'
  ·obtain ⟨q0,us,q1,q2,q3,q4⟩:=J.slc i _ hj;exact ⟨q0,us,h _ q1,q2,by dsimp only at q3 ⊢;rw [hl];exact q3,q4⟩
  ·exact J.slc i N h'
 ·intro i t B N hi ht;obtain ⟨N',h'⟩:=old t N ht;exact J.d2 i t B N' hi h'
 ·intro i t N O g hi ht e1 e2;obtain ⟨N',h1⟩:=old i N hi;obtain ⟨O',h2⟩:=old t O ht;exact J.d3 i t N' O' g h1 h2 e1 e2
theorem pO (j k':Nat) {α:Type} {l:List α} {f:α→List AV} {z:Int} {y:α} (y':α) {T n off J E:Nat} {rows:List (List AV)} {q:List AV} (hv:A4 l z=some y) (hj:A2 S.ss j=some ⟨T,n,Fs (l.map f) z.toNat off k'⟩) (hk:A2 S.ss k'=some ⟨J,E,rows⟩) (hne:(k'==j)=false)
  (hq:BM (f y) off [.osl k']=some q) (hl:BM (f y) off [.sl E rows]=some (f y'))
  (h:V c fn K k ⟨(S.sealS k' ⟨J,E,rows⟩).tm,(S.sealS k' ⟨J,E,rows⟩).bs,Ar (Ar S.ss k' none) j (some ⟨T,n,(l.set z.toNat y').map f⟩)⟩) (hpr:C1 rows=true:=by first | rfl | simp [go_sem]):V c fn K k S:=by
 intro rk M a w hc hT;obtain ⟨M',hle,h1,h2⟩:=Z2 k' hk hpr hT;refine h rk M' a w hc ⟨h1.len,h1.tm,h1.df,?_⟩;have hne':k'≠j:=by simpa using hne
 have h8:A2 (Ar S.ss k' none) j=some ⟨T,n,Fs (l.map f) z.toNat off k'⟩:=by rw [Du,if_neg (fun e=>hne' e.1.symm)];exact hj
 refine yy h1.st h8 (by rw [V0 hv hq];simp) fun vss h6=>?_;rw [V0 hv hq] at h6;have hlt:z.toNat<(l.map f).length:=by have:=(List.getElem?_eq_some_iff.1 (EA hv).2).1;simpa using this
 have:=im (i:=z.toNat) (r:=q) (r':=f y') (by rw [List.getElem?_set_self hlt]) (jw (a:=.osl k') (b:=.sl E rows) (fun v hv=>?_) hq hl) h6
 ·rw [List.set_set,←List.map_set] at this;exact this
 ·simp only [AV.is] at hv;obtain ⟨_,rfl⟩:=hv;have e:M'.sl.σ k'=M.σ k':=by show M'.σ k'=M.σ k';exact hle.σ k' (by rw [hT.st.ns];exact Cu hk)
  rw [e];exact h2
theorem Z0U {α:Type} {l':List α} {z:Int} {y:α} {j k' T n off:Nat} {x v:X} {q:List AV} (f:α→List AV) (hv:A4 l' z=some y) (hx:S.x x = .oel j (z.toNat*n) off) (hj:A2 S.ss j=some ⟨T,n,l'.map f⟩) (h6:S.x v = .osl k') (hq:BM (f y) off [.osl k']=some q):
  Bi c S (.store 1 x v) .un ⟨S.tm,S.bs,Ar S.ss j (some ⟨T,n,Fs (l'.map f) z.toNat off k'⟩)⟩:=by
 rw [V0 hv hq];exact dQ hx hj rfl (IP (EA hv).2) (cs0:=[.osl k']) (by rw [h6];rfl) (Am _) rfl rfl rfl hq
theorem n9 {α:Type} {l':List α} {z:Int} {y:α} {j k' T n off:Nat} {x:X} {q:List AV} (f:α→List AV) (hv:A4 l' z=some y) (hx:S.x x = .oel j (z.toNat*n) off) (hj:A2 S.ss j=some ⟨T,n,Fs (l'.map f) z.toNat off k'⟩) (hq:BM (f y) off [.osl k']=some q):
  Bi c S (.load x) (.osl k') S:=by
 rw [V0 hv hq] at hj;have hlt:z.toNat<(l'.map f).length:=by have:=(List.getElem?_eq_some_iff.1 (EA hv).2).1;simpa using this
 exact dP hx hj rfl (by rw [List.getElem?_set_self hlt]) (jy hq)
theorem pW {α:Type} {l':List α} {z:Int} {y:α} {d:Option Nat} {g:Option (Nat×Bool)} {l:List EOp} {j k' T n off:Nat} {x v:X} {q:List AV} (f:α→List AV) (hv:A4 l' z=some y) (hg:gm S g) (hx:S.x x = .oel j (z.toNat*n) off) (hj:A2 S.ss j=some ⟨T,n,l'.map f⟩) (h6:S.x v = .osl k') (hq:BM (f y) off [.osl k']=some q)
  (h:V c fn K (.ops l::k) ((⟨S.tm,S.bs,Ar S.ss j (some ⟨T,n,Fs (l'.map f) z.toNat off k'⟩)⟩:St).put d .un)):V c fn K (.ops (⟨d,g,.store 1 x v⟩::l)::k) S:=
 AU hg (Z0U f hv hx hj h6 hq) rfl h
theorem pD {α:Type} {l':List α} {z:Int} {y:α} {d:Option Nat} {g:Option (Nat×Bool)} {l:List EOp} {j k' T n off:Nat} {x:X} {q:List AV} (f:α→List AV) (hv:A4 l' z=some y) (hg:gm S g) (hx:S.x x = .oel j (z.toNat*n) off) (hj:A2 S.ss j=some ⟨T,n,Fs (l'.map f) z.toNat off k'⟩) (hq:BM (f y) off [.osl k']=some q)
  (h:V c fn K (.ops l::k) (S.put d (.osl k'))):V c fn K (.ops (⟨d,g,.load x⟩::l)::k) S:=
 AU hg (n9 f hv hx hj hq) rfl h
section
variable {all:Array Oper} {ops:List EOp} {af:List (List Nat)} {Φ:St→Prop} {m:Nat} {ld:List Bool}
theorem Ke (h6:all.toList.mapM (AL c.P all)=some ops) {i:Nat} {α:Type} {l':List α} {z:Int} {y:α} {j k' T n off:Nat} {x:X} {q:List AV} (f:α→List AV) (hv:A4 l' z=some y) (ho:(A8 ops i).o = .load x) (hg:gm S (A8 ops i).g) (hx:S.x x = .oel j (z.toNat*n) off) (hj:A2 S.ss j=some ⟨T,n,Fs (l'.map f) z.toNat off k'⟩) (hq:BM (f y) off [.osl k']=some q)
  (h:G c all ops af Φ m (Au ld i) (S.put (A8 ops i).d (.osl k'))):GO c all ops af Φ m ld S i:=
 Bk h6 hg (by rw [ho];exact n9 f hv hx hj hq) rfl (Cg _ _) h
end
end
end NX
end Go.Proofs.YtjemlejoladlcaaGreat
