/-
  From what a machine computes to what a row says: arguments as data, and what is left of them. No statement of the seat is proved here.
-/
import Derived.ProofKit
import Derived.OpenShut
import Derived.Carry
import Derived.Laws.CopyRow
import Derived.Laws.IdiomCopy
import Derived.Test.YtgamgemlekpepaaGreatK13
namespace Go.Proofs.YtgamgemlekpepaaGreat
namespace NX
open Go Go.RowKit Go.ChangeShapes Go.WideShapes
def Opn (P:Program) (t:TypeId) {α:Type} (row:α→List AV):Prop:=
 ∀ {H:Type} (enc:TypeId×Value→H) (w:World) (base:Nat) (sp:Nat→Bool) (h6:Bool) (fuel:Nat) (cs:List Value) (x:DataW H×List MemPlace),
   DataW.trod enc P w base sp h6 fuel t cs=some x→∃v:α,AV.isL (Z2 fun k=>w.heap[k]?) (row v) cs
theorem Z0g {P:Program} {t:TypeId} (ht:P.underlying t=some (.int .i64)):Opn P t Z4d:=by intro H enc w base sp h6 fuel cs x h;obtain ⟨n,rfl,_,_⟩:=DataW.trod_int ht h;exact ⟨n,_,_,rfl,rfl,rfl⟩
theorem Z1g {P:Program} {t:TypeId} (ht:P.underlying t=some .bool):Opn P t Z5d:=by intro H enc w base sp h6 fuel cs x h;obtain ⟨n,rfl,_⟩:=DataW.trod_bool ht h;exact ⟨n,_,_,rfl,rfl,rfl⟩
theorem cells?_get {w:World} {J:Nat} {a:Addr} {n:Nat} {l:List Value} (h:w.cells? J a n=some l):l.length=n∧∀i v,l[i]?=some v→w.cell? (a.add i)=some v:=by
 unfold World.cells? at h;split at h
 ·obtain ⟨h1,h2⟩:=Zu5 h;refine ⟨by simpa using h1,fun i v hv=>?_⟩;have h6:i<n:=by have:=(List.getElem?_eq_some_iff.1 hv).1;simp at h1;omega
  obtain ⟨y,hy1,h8⟩:=h2 i i (by simp [h6]);rw [hv] at hy1;simp at hy1;subst hy1;exact h8
 ·simp at h
theorem cell?_none {w:World} {a:Addr} {v:Value} (h:w.cell? a=some v):a.spot=none∧∃cs T fr,w.heap[a.block]?=some (.cells cs T fr)∧cs[a.off]?=some v:=by
 unfold World.cell? at h;split at h
 ·rename_i cs T fr hc;split at h
  ·simp at h
  ·rename_i hs;exact ⟨by cases h6:a.spot<;>simp_all,cs,T,fr,hc,h⟩
 ·simp at h
theorem Z2g {M:Mem} {l:List AV} {vs:List Value} (h:AV.isL M l vs) (hp:Zx l=true) (J:puL l=true):∀v∈vs,v.oneCell'=true:=by
 induction l generalizing vs with
 | nil=>simp [AV.isL] at h;subst h;simp
 | cons x l ih=>
   obtain ⟨v,r,rfl,h1,h2⟩:=h;simp only [Zx,Zz1] at hp;simp only [puL,Zz1] at J;intro u hu;rcases List.mem_cons.1 hu with rfl | hu
   ·exact Zs2 h1 hp.1 (fun j e=>by subst e;simp [AV.pu] at J)
   ·exact ih h2 hp.2 J.2 u hu
theorem Z3g (a:Addr) (i k:Nat) (ha:a.spot=none):(a.add i).add k=⟨a.block,a.off+i+k,none⟩:=by obtain ⟨b,o,sp⟩:=a;dsimp only at ha;subst ha;simp [Addr.add];split<;>split<;>simp_all [Nat.add_assoc]
theorem Z4g {P:Program} {t e:TypeId} {n:Nat} {α:Type} {row:α→List AV} (ht:P.underlying t=some (.slice e)) (J:P.cellsOf e=n) (hB:0<n) (h8:∀v,(row v).length=n∧Zx (row v)=true∧puL (row v)=true) (he:Opn P e row):Opn P t (Z8d n row):=by
 intro H enc w base sp hC fuel cs x h;rcases DataW.trod_slice ht h with ⟨rfl,_⟩ | ⟨a,len,cap,elems,rest,m,_,rfl,_,hb,hE,hP,hQ,h9,_,_⟩
 ·exact ⟨[],_,_,rfl,⟨none,0,rfl,⟨Nat.le_refl _,fun _=>rfl⟩,fun hne=>absurd rfl hne⟩,rfl⟩
 ·rw [J] at h9;have each:∀i,i<len→∃v:α,∃l,w.cells? base (a.add (i*n)) n=some l∧AV.isL (Z2 fun k=>w.heap[k]?) (row v) l:=by
   intro i hi;have hg:=h9 i hi;have hf:∃y,elems[i]?=some y:=⟨_,List.getElem?_eq_getElem (by omega)⟩
   obtain ⟨y,hy⟩:=hf;rw [hy,Option.bind_eq_some_iff] at hg;obtain ⟨l,hl,hd⟩:=hg;obtain ⟨v,hv⟩:=he enc w base sp hC m l y hd;exact ⟨v,l,hl,hv⟩
  have build:∀k,k≤len→∃(vs:List α) (vss:List (List Value)),vs.length=k∧AV.isLL (Z2 fun k=>w.heap[k]?) n (vs.map row) vss∧(∀v∈vss.flatten,v.oneCell'=true)∧
    ∀j u,vss.flatten[j]?=some u→∃i q,i<k∧q<n∧j=i*n+q∧w.cell? ((a.add (i*n)).add q)=some u:=by
   intro k;induction k with
   | zero=>intro _;exact ⟨[],[],rfl,rfl,by simp,by simp⟩
   | succ k ih=>
     intro hk;obtain ⟨vs,vss,h1,h2,h3,h4⟩:=ih (by omega);obtain ⟨v,l,hl,hv⟩:=each k (by omega);obtain ⟨hG,hI⟩:=cells?_get hl;refine ⟨vs++[v],vss++[l],by simp [h1],?_,?_,?_⟩
     ·rw [List.map_append];exact Zza h2 ⟨l,[],rfl,hG,hv,rfl⟩
     ·intro u hu;rw [List.flatten_append,List.mem_append] at hu;rcases hu with hu | hu
      ·exact h3 u hu
      ·exact Z2g hv (h8 v).2.1 (h8 v).2.2 u (by simpa using hu)
     ·intro j u hj;have ho:vss.flatten.length=k*n:=by have:=Z0b h2;simpa [h1] using this
      rw [List.flatten_append] at hj;by_cases hJ:j<vss.flatten.length
      ·rw [List.getElem?_append_left hJ] at hj;obtain ⟨i,q,g1,g2,g3,g4⟩:=h4 j u hj;exact ⟨i,q,by omega,g2,g3,g4⟩
      ·rw [List.getElem?_append_right (by omega),ho] at hj;simp only [List.flatten_cons,List.flatten_nil,List.append_nil] at hj;have hq:=(List.getElem?_eq_some_iff.1 hj).1;exact ⟨k,j-k*n,by omega,by omega,by omega,hI _ _ hj⟩
  obtain ⟨vs,vss,h1,h2,h3,h4⟩:=build len (Nat.le_refl _);refine ⟨vs,_,[],rfl,⟨some a,cap,by simp [h1],⟨by simpa [h1] using hE,fun h=>by simp at h⟩,fun hne=>⟨a,vss,rfl,h2,?_⟩⟩,rfl⟩;have hD:0<len:=by
   rcases Nat.eq_zero_or_pos len with h0 | h0
   ·exfalso;apply hne;rw [List.map_eq_nil_iff];exact List.length_eq_zero_iff.1 (by omega)
   ·exact h0
  have ho:vss.flatten.length=len*n:=by have:=Z0b h2;simpa [h1] using this
  have hO:0<len*n:=Nat.mul_pos hD hB;obtain ⟨u0,hK⟩:∃u,vss.flatten[0]?=some u:=⟨_,List.getElem?_eq_getElem (by omega)⟩
  obtain ⟨i0,q0,_,_,e0,g0⟩:=h4 0 u0 hK;have hL:i0*n=0:=by omega
  have hN:q0=0:=by omega
  rw [hL,hN] at g0;have hw:a.spot=none:=(cell?_none (a:=a) (by simpa [Addr.add] using g0)).1;obtain ⟨_,cs0,T0,fr0,hc,_⟩:=cell?_none (a:=a) (by simpa [Addr.add] using g0);refine ⟨hw,h3,cs0,T0,fr0,hc,fun j u hj=>?_⟩;obtain ⟨i,q,g1,g2,g3,g4⟩:=h4 j u hj;rw [Z3g a _ _ hw] at g4;obtain ⟨_,cs1,T1,fr1,h6,hA⟩:=cell?_none g4;dsimp only at h6 hA;rw [hc] at h6;simp only [Option.some.injEq,Obj.cells.injEq] at h6;obtain ⟨rfl,_,_⟩:=h6;rw [g3,←Nat.add_assoc];exact hA
theorem Z5g {P:Program} {t:TypeId} {α:Type} {row:α→List AV} (ho:Opn P t row) {Z:Array Field} (ht:P.underlying t=some (.struct Z)) {H:Type} {enc:TypeId×Value→H} {w:World} {Y:Nat} {r:Reach} {J:Nat} {U:Nat→Bool} {h6:Bool} {v:Value} {d:DataW H} {ps:List MemPlace}
  (hv:Value.okWide P w r Y t v) (hd:DataW.Trod enc P w J U h6 t v d ps):∃x:α,AV.is (Z2 fun k=>w.heap[k]?) (.agg (row x)) v:=by
 obtain ⟨fuel,hf⟩:=hd;obtain ⟨x,hx⟩:=ho enc w J U h6 fuel _ _ hf;unfold Value.okWide at hv;rw [ht] at hv;obtain ⟨cs,rfl,_,_⟩:=hv;exact ⟨x,cs.toList,by simp,hx⟩
theorem Z6g {P:Program} {H:Type} {enc:TypeId×Value→H} (hl:laidOutB P=true) {W Y:World} (Z:Below W.heap.size W Y):∀ {J:List TypeId} {vs:List Value} {U:List (DataW H)} {ps:List MemPlace},
  (J.all fun t=>P.readableRec t&&decide (t<P.types.size))=true→DataW.TrodAll enc P W 0 (fun _=>true) true J vs U ps→(∀x∈ps,x.block<W.heap.size)→
  DataW.TrodAll enc P Y 0 (fun b=>decide (b<W.heap.size)) true J vs U ps
 | [],[],[],ps,_,h,_=>h
 | t::J,v::vs,d::U,ps,hr,⟨p,q,h1,h2,e⟩,h6=>by simp only [List.all_cons,Bool.and_eq_true,decide_eq_true_eq] at hr;subst e;exact ⟨p,q,Below.trod hl hr.1.1 hr.1.2 h1 Z (fun x hx=>h6 x (List.mem_append_left _ hx)),Z6g hl Z (by simpa using hr.2) h2 (fun x hx=>h6 x (List.mem_append_right _ hx)),rfl⟩
 | [],_::_,_,_,_,h,_=>by simp [DataW.TrodAll] at h
 | [],[],_::_,_,_,h,_=>by simp [DataW.TrodAll] at h
 | _::_,[],_,_,_,h,_=>by simp [DataW.TrodAll] at h
 | _::_,_::_,[],_,_,h,_=>by simp [DataW.TrodAll] at h
theorem Z7g {P:Program} {H:Type} {enc:TypeId×Value→H} {w:World} {b:Nat} {Y:Nat→Bool} {h6:Bool}:∀ {J:List TypeId} {vs:List Value} {U:List (DataW H)} {ps:List MemPlace},DataW.TrodAll enc P w b Y h6 J vs U ps→U.length=J.length∧vs.length=J.length
 | [],[],[],_,_=>⟨rfl,rfl⟩
 | _::_,_::_,_::_,_,⟨_,_,_,h,_⟩=>by have:=Z7g h;simp [this]
 | [],_::_,_,_,h=>by simp [DataW.TrodAll] at h
 | [],[],_::_,_,h=>by simp [DataW.TrodAll] at h
 | _::_,[],_,_,h=>by simp [DataW.TrodAll] at h
 | _::_,_::_,[],_,h=>by simp [DataW.TrodAll] at h
theorem Z8g {P:Program} {fn:Func} {s:ChangeSpec} (hl:laidOutB P=true) (hr:(fn.params.toList.all fun t=>P.readableRec t&&decide (t<P.types.size))=true) (hv:s.vars=[]) {Z:TypeId} (h6:fn.resultTypes = #[Z]) (hb:P.underlying Z=some .bool)
  {H:Type} {enc:TypeId×Value→H} {W Y:World} {args:Array Value} {U gs:List (DataW H)} {J:List MemPlace}
  (hs:U.length=fn.params.size→s.fn H U={results:=[.lit (.bool true)],args:=U})
  (hW:DataW.Whole enc P fn.params.toList s.vars false W args.toList U gs J) (hB:Below W.heap.size W Y):s.post enc P fn false true false false W args (.bool true) Y:=by
 have hW':=hW;obtain ⟨p,q,hA,hV,rfl,h9,hc⟩:=hW;rw [hv] at hV;obtain ⟨rfl,rfl⟩:=trodVars_none hV;have h8:=(Z7g hA).1;have e1:s.fn H (U++[])={results:=[.lit (.bool true)],args:=U}:=by rw [List.append_nil];exact hs (by simpa using h8)
 refine ⟨U,[],p++[],[],p,[],hW',?_,?_,?_,hB.frame _,fun h=>by cases h⟩
 ·rw [e1,h6];exact trodAll_mk1 (shut_bool hb _)
 ·rw [e1];exact Z6g hl hB hr hA (fun x hx=>hW'.lt x (List.mem_append_left _ hx))
 ·rw [e1,hv];rfl
end NX
end Go.Proofs.YtgamgemlekpepaaGreat
/-
  The symbolic machine: copies into own slices; numbers of other kinds. No statement of the seat is proved here.
-/
namespace Go.Proofs.YtgamgemlekpepaaGreat
namespace NX
open Go Go.RowKit
theorem Z9g {P:Program} {op:Op} {n:Nat} {x y:X} (J:cO P op = .copy n x y):∃p q t u e,op = .call ⟨.builtin .copy, #[p,q], #[t,u]⟩∧P.underlying t=some (.slice e)∧Z9 P e=some n∧cX p=x∧cX q=y:=by
 cases op
 case call ci=>
  obtain ⟨callee,cargs,argTypes⟩:=ci;cases callee with
  | value o=>
    cases o with
    | func f'=>simp only [cO] at J;(repeat' (split at J))<;>simp at J
    | _=>simp [cO] at J
  | invoke _ _=>simp [cO] at J
  | builtin b=>
    cases b
    case copy=>
     simp only [cO] at J;split at J
     ·rename_i t0 u0 p q h1 h2;split at J
      ·rename_i e hu;split at J
       ·rename_i m hs;simp only [EO.copy.injEq] at J;obtain ⟨rfl,rfl,rfl⟩:=J;have e1:cargs = #[p,q]:=by apply Array.ext';simpa using h2
        have e2:argTypes = #[t0,u0]:=by apply Array.ext';simpa using h1
        subst e1;subst e2;exact ⟨p,q,t0,u0,e,rfl,hu,hs,rfl,rfl⟩
       ·simp at J
      ·simp at J
     ·simp at J
    all_goals (simp only [cO] at J;(repeat' (split at J))<;>simp at J)
 all_goals (simp only [cO] at J;(repeat' (split at J))<;>simp at J)
@[go_sem] theorem Zag:Zg1 1 [[AV.tt]] [[AV.bv true]]=True:=eq_true ⟨rfl,fun M vss h=>by obtain ⟨vs,r,rfl,h1,h2,h3⟩:=h;obtain ⟨v,l,rfl,h4,h5⟩:=h2;exact ⟨_,_,rfl,h1,⟨_,_,rfl,h4,h5⟩,h3⟩⟩
section
variable {c:Ctx} {M:Mem} {S S':St} {a:Act} {w:World} {fn:Func} {K:AV→List (Option Blk)→List (Option Sl)→Prop} {k:List It}
theorem Zbg {P:Program} {e n:Nat} (h:Z9 P e=some n):(P.info? e).map (·.size)=some n:=by unfold Z9 at h;simpa using h
theorem Zcg {n:Nat}:∀ {l:List (List Value)},(∀v∈l,v.length=n)→∀k,(l.take k).flatten=l.flatten.take (k*n)∧(l.drop k).flatten=l.flatten.drop (k*n)
 | [],_,k=>by simp
 | v::l,hl,0=>by simp
 | v::l,hl,k+1=>by
   have hv:=hl v (by simp);obtain ⟨i1,i2⟩:=Zcg (l:=l) (fun u hu=>hl u (by simp [hu])) k;have e:(k+1)*n=v.length+k*n:=by rw [hv,Nat.add_mul];omega
   simp only [List.take_succ_cons,List.drop_succ_cons,List.flatten_cons,i1,i2,e];rw [List.take_length_add_append,List.drop_length_add_append];exact ⟨rfl,rfl⟩
theorem Zdg (h:RelS c M S.bs S.ss w) {j T n:Nat} {rows:List (List AV)} (hj:Zp S.ss j=some ⟨T,n,rows⟩) {g cap:Nat} {J:Array Value} (e2:M.σ j = .slice (some ⟨g,0,none⟩) rows.length cap) (e3:w.heap[g]?=some (.cells J T (0,0))) (e4:rows.length≤cap) (e5:cap≤maxLen) (e6:J.size=cap*n)
  {vss:List (List Value)} (U:AV.isLL M.sl n rows vss) (Z:∀v∈vss.flatten,v.oneCell'=true) (e7:J.toList.take (rows.length*n)=vss.flatten) {A:Nat} {R:List (List AV)} {C:List (List Value)} (Y:AV.isLL M.sl n R C) (hC:∀v∈C.flatten,v.oneCell'=true) (hA:A+R.length≤rows.length):
  RelS c M S.bs (Zq S.ss j (some ⟨T,n,rows.take A++R++rows.drop (A+R.length)⟩)) (w.setRow g (J.toList.take (A*n)++C.flatten++J.toList.drop (A*n+C.flatten.length)).toArray):=by
 have hc:=Z0b Y;have hB:=Z0b U;have hf:=Zcg (Zqe U).1;have hd:(w.setRow g (J.toList.take (A*n)++C.flatten++J.toList.drop (A*n+C.flatten.length)).toArray).heap[g]?=some (.cells (J.toList.take (A*n)++C.flatten++J.toList.drop (A*n+C.flatten.length)).toArray T (0,0)):=by rw [Z23,if_pos rfl,e3];rfl
 have hn:J.toList.length=cap*n:=by simpa using e6
 have h8:(vss.take A++C++vss.drop (A+R.length)).flatten=vss.flatten.take (A*n)++C.flatten++vss.flatten.drop (A*n+R.length*n):=by rw [List.flatten_append,List.flatten_append,(hf A).1,(hf (A+R.length)).2,Nat.add_mul]
 have q1:(A+R.length)*n≤rows.length*n:=Nat.mul_le_mul_right _ hA;have q2:rows.length*n≤cap*n:=Nat.mul_le_mul_right _ e4;rw [Nat.add_mul] at q1;refine h.rewrite hj (g:=g) (by rw [e2];rfl) (w':=w.setRow g (J.toList.take (A*n)++C.flatten++J.toList.drop (A*n+C.flatten.length)).toArray) ⟨rfl,rfl,rfl,by simp [World.setRow],fun k _ hk=>by rw [Z23,if_neg (fun e=>hk (by rw [e]))]⟩ (vss':=vss.take A++C++vss.drop (A+R.length)) ?_ ?_ ?_
 ·have t1:=Zgd U 0 A;have t2:=Zgd U (A+R.length) rows.length;simp only [List.drop_zero] at t1;rw [List.take_of_length_le (Nat.le_refl _),List.take_of_length_le (by have:=(Zqe U).2;omega)] at t2;exact Zza (Zza t1 Y) t2
 ·intro v hv;rw [h8] at hv;simp only [List.mem_append] at hv;rcases hv with (hv | hv) | hv
  ·exact Z v (List.mem_of_mem_take hv)
  ·exact hC v hv
  ·exact Z v (List.mem_of_mem_drop hv)
 ·have h6:(rows.take A++R++rows.drop (A+R.length)).length=rows.length:=by simp only [List.length_append,List.length_take,List.length_drop];omega
  refine ⟨?_,.inr ⟨g,cap,_,by rw [h6];exact e2,Nat.zero_le _,hd,by rw [h6];exact e4,e5,?_,?_⟩⟩
  ·rw [h8,h6];simp only [List.length_append,List.length_take,List.length_drop];omega
  ·simp only [List.size_toArray,List.length_append,List.length_take,List.length_drop];omega
  ·rw [h8,h6,←e7,hc];generalize C.flatten=D at *;generalize J.toList=L at *;generalize rows.length*n=N at *;generalize A*n=a at *;rw [←hc] at q1 ⊢;refine List.ext_getElem? fun i=>?_;simp only [List.getElem?_take,List.getElem?_append,List.length_append,List.length_take,List.getElem?_drop,hn];have ho:min a (cap*n)=a:=by omega
   have hw:min N (cap*n)=N:=by omega
   have h9:min a N=a:=by omega
   simp only [ho,hw];by_cases h1:i<N
   ·by_cases h2:i<a+D.length
    ·by_cases h3:i<a
     ·simp [h1,h2,h3,h9]
     ·simp [h1,h2,h3,h9]
    ·have h3:a+D.length+(i-(a+D.length))=i:=by omega
     simp [h1,h2,h3,h9]
   ·by_cases h2:i<a+D.length
    ·omega
    ·have h3:a+D.length+(i-(a+D.length))=i:=by omega
     simp [h1,h2,h3,h9]
theorem Zeg (h:RelS c M S.bs S.ss w) {j T n:Nat} {rows:List (List AV)} (hj:Zp S.ss j=some ⟨T,n,rows⟩) (h0:0<rows.length):
  ∃g cap cur vss,M.σ j = .slice (some ⟨g,0,none⟩) rows.length cap∧w.heap[g]?=some (.cells cur T (0,0))∧rows.length≤cap∧cap≤maxLen∧cur.size=cap*n∧AV.isLL M.sl n rows vss∧(∀v∈vss.flatten,v.oneCell'=true)∧cur.toList.take (rows.length*n)=vss.flatten:=by
 obtain ⟨g0,vss,h1,h2,h3,h4⟩:=h.slc j _ hj;dsimp only at h1 h3 g0;rcases h3.2 with ⟨_,e3⟩ | ⟨g,cap,cur,e2,_,e3,e4,e5,e6,e7⟩
 ·omega
 ·exact ⟨g,cap,cur,vss,e2,e3,e4,e5,e6,h1,h2,e7⟩
theorem Zfg {P:Program} {w w':World} {p q:Operand} {t u:TypeId} {ρ:Operand→Value} {d:Option Tmp} {ty:TypeId} {pos:String} {af:Array Go.Edge} {gd:Option (Nat×Bool)} {v:Value}
  (h:(Builtin.copy_ #[t,u] ty #[ρ p,ρ q]).run P w = .ok v w'):(execOp ρ ⟨d,.call ⟨.builtin .copy, #[p,q], #[t,u]⟩,ty,pos,af,gd⟩).run P w = .ok (.value v) w':=by
 simp [execOp,resolve,invoke,builtin,h]
theorem Zgg:∀(l:List (Option Sl)) (j:Nat) (L:Sl),Zp l j=some L→Zq l j (some L)=l
 | [],j,L,h=>by simp [Zp] at h
 | x::l,0,L,h=>by simp [Zp] at h;subst h;rfl
 | x::l,j+1,L,h=>by simp only [Zq];rw [Zgg l j L (by simpa [Zp] using h)]
theorem Zhg {ρ:Operand→Value} (hx:∀o:Operand,(S.x (cX o)).is M (ρ o)):∀(o:Option Operand) (z r:Int),bnd S (o.map cX) z=some r→match o with | none=>r=z | some o=>ρ o = .int .i64 r:=by
 intro o z r hb;cases o with
 | none=>simpa [bnd] using hb.symm
 | some o=>
   simp only [Option.map_some,bnd] at hb;have:=hx o;split at hb
   ·rename_i n' hn';rw [hn'] at this;simp at hb;subst hb;exact this
   ·simp at hb
theorem Zig {j T n:Nat} {x:X} {lo hi:Option X} {rows:List (List AV)} {l h:Int} (hx:S.x x = .osl j) (hj:Zp S.ss j=some ⟨T,n,rows⟩) (hr:0<rows.length) (hd:bnd S lo 0=some l) (hf:bnd S hi rows.length=some h) (h0:0≤l) (h1:l≤h) (h2:h≤rows.length):
  Z77 c S (.slice n x lo hi) (.ocs j l.toNat n (h.toNat-l.toNat)) S:=by
 intro ro h8 M a w h6 next Q hn
 obtain ⟨dst,op,ty,pos,af,gd⟩:=ro;dsimp only at h8;obtain ⟨T',y,lo',hi',e,rfl,hu,hs,rfl,rfl,rfl⟩:=Zed h8;have hS:=h6.st;have k1:=Z34 h6 y;rw [hx] at k1;obtain ⟨g,cap,cur,vss,e2,e3,e4,e5,e6,v1,v2,e7⟩:=Zeg hS hj hr;have b1:=Zhg (Z34 h6) lo' 0 l hd;have b2:=Zhg (Z34 h6) hi' rows.length h hf;have h9:=Zfd (P:=c.P) (w:=w) hu hs (ρ:=a.eval) (ad:=some ⟨g,0,none⟩) (len:=rows.length) (cp:=cap) (lo:=l) (hi:=h) (k1.2.trans e2) e4 b1 b2 h0 h1 h2 dst ty pos af gd;unfold Oper.wp;rw [h9];refine hn M w _ (.refl M) hS ⟨k1.1,g,rows.length,cap,e2,?_⟩;by_cases hc:cap=l.toNat
 ·rw [if_pos hc,if_pos hc]
 ·rw [if_neg hc,if_neg hc];simp only [Option.map,Addr.add_lit,Nat.zero_add]
end
end NX
end Go.Proofs.YtgamgemlekpepaaGreat
