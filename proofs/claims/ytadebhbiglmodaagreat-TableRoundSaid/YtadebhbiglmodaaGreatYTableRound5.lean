/-
  From what a machine computes to what a row says: arguments as data, and what is left of them. No statement of the seat is proved here.
-/
import Derived.ProofKit
import Derived.OpenShut
import Derived.Carry
import Derived.Test.YtadebhbiglmodaaGreatY1
namespace Go.Proofs.YtadebhbiglmodaaGreat
namespace NX
open Go Go.RowKit Go.ChangeShapes Go.WideShapes
def Opn (P:Program) (t:TypeId) {α:Type} (row:α→List AV):Prop:=
 ∀ {H:Type} (enc:TypeId×Value→H) (w:World) (base:Nat) (sp:Nat→Bool) (held:Bool) (fuel:Nat) (cs:List Value) (x:DataW H×List MemPlace),
   DataW.trod enc P w base sp held fuel t cs=some x→∃v:α,AV.isL (Z0 fun k=>w.heap[k]?) (row v) cs
theorem Zvj {P:Program} {t:TypeId} (ht:P.underlying t=some (.int .i64)):Opn P t Zx4:=by
 intro H enc w base sp held fuel cs x h
 obtain ⟨n,rfl,_,_⟩:=DataW.trod_int ht h
 exact ⟨n,_,_,rfl,rfl,rfl⟩
theorem cells?_get {w:World} {base:Nat} {a:Addr} {n:Nat} {l:List Value} (h:w.cells? base a n=some l):l.length=n∧∀i v,l[i]?=some v→w.cell? (a.add i)=some v:=by
 unfold World.cells? at h
 split at h
 ·obtain ⟨h1,h2⟩:=Zh2 h
  refine ⟨by simpa using h1,fun i v hv=>?_⟩
  have hlt:i<n:=by have:=(List.getElem?_eq_some_iff.1 hv).1;simp at h1;omega
  obtain ⟨y,hy1,hy2⟩:=h2 i i (by simp [hlt])
  rw [hv] at hy1
  simp at hy1;subst hy1
  exact hy2
 ·simp at h
theorem cell?_none {w:World} {a:Addr} {v:Value} (h:w.cell? a=some v):a.spot=none∧∃cs T fr,w.heap[a.block]?=some (.cells cs T fr)∧cs[a.off]?=some v:=by
 unfold World.cell? at h
 split at h
 ·rename_i cs T fr hc
  split at h
  ·simp at h
  ·rename_i hs
   exact ⟨by cases hsp:a.spot<;>simp_all,cs,T,fr,hc,h⟩
 ·simp at h
theorem isL_one {M:Mem} {l:List AV} {vs:List Value} (h:AV.isL M l vs) (hp:Zk l=true) (ho:Zo l=true):∀v∈vs,v.oneCell'=true:=by
 induction l generalizing vs with
 | nil=>simp [AV.isL] at h;subst h;simp
 | cons x l ih=>
   obtain ⟨v,r,rfl,h1,h2⟩:=h
   simp only [Zk,Z51] at hp
   simp only [Zo,Z51] at ho
   intro u hu
   rcases List.mem_cons.1 hu with rfl | hu
   ·exact one_is h1 hp.1 (fun j e=>by subst e;simp [AV.pu] at ho)
   ·exact ih h2 hp.2 ho.2 u hu
theorem add_add (a:Addr) (i k:Nat) (ha:a.spot=none):(a.add i).add k=⟨a.block,a.off+i+k,none⟩:=by
 obtain ⟨b,o,sp⟩:=a
 dsimp only at ha
 subst ha
 simp [Addr.add]
 split<;>split<;>simp_all [Nat.add_assoc]
theorem opn_slice {P:Program} {t e:TypeId} {n:Nat} {α:Type} {row:α→List AV} (ht:P.underlying t=some (.slice e)) (hn:P.cellsOf e=n) (hpos:0<n) (hrow:∀v,(row v).length=n∧Zk (row v)=true∧Zo (row v)=true) (he:Opn P e row):Opn P t (Zz4 n row):=by
 intro H enc w base sp held fuel cs x h
 rcases DataW.trod_slice ht h with ⟨rfl,_⟩ | ⟨a,len,cap,elems,rest,m,_,rfl,_,hb,hlc,hcm,hel,hget,_,_⟩
 ·exact ⟨[],_,_,rfl,⟨none,0,rfl,⟨Nat.le_refl _,fun _=>rfl⟩,fun hne=>absurd rfl hne⟩,rfl⟩
 ·rw [hn] at hget
  have each:∀i,i<len→∃v:α,∃l,w.cells? base (a.add (i*n)) n=some l∧AV.isL (Z0 fun k=>w.heap[k]?) (row v) l:=by
   intro i hi
   have hg:=hget i hi
   have hsome:∃y,elems[i]?=some y:=⟨_,List.getElem?_eq_getElem (by omega)⟩
   obtain ⟨y,hy⟩:=hsome
   rw [hy,Option.bind_eq_some_iff] at hg
   obtain ⟨l,hl,hd⟩:=hg
   obtain ⟨v,hv⟩:=he enc w base sp held m l y hd
   exact ⟨v,l,hl,hv⟩
  have build:∀k,k≤len→∃(vs:List α) (vss:List (List Value)),vs.length=k∧AV.isLL (Z0 fun k=>w.heap[k]?) n (vs.map row) vss∧(∀v∈vss.flatten,v.oneCell'=true)∧
    ∀j u,vss.flatten[j]?=some u→∃i q,i<k∧q<n∧j=i*n+q∧w.cell? ((a.add (i*n)).add q)=some u:=by
   intro k
   induction k with
   | zero=>intro _;exact ⟨[],[],rfl,rfl,by simp,by simp⟩
   | succ k ih=>
     intro hk
     obtain ⟨vs,vss,h1,h2,h3,h4⟩:=ih (by omega)
     obtain ⟨v,l,hl,hv⟩:=each k (by omega)
     obtain ⟨hl1,hl2⟩:=cells?_get hl
     refine ⟨vs++[v],vss++[l],by simp [h1],?_,?_,?_⟩
     ·rw [List.map_append]
      exact Z14 h2 ⟨l,[],rfl,hl1,hv,rfl⟩
     ·intro u hu
      rw [List.flatten_append,List.mem_append] at hu
      rcases hu with hu | hu
      ·exact h3 u hu
      ·exact isL_one hv (hrow v).2.1 (hrow v).2.2 u (by simpa using hu)
     ·intro j u hj
      have hfl:vss.flatten.length=k*n:=by have:=Z24 h2;simpa [h1] using this
      rw [List.flatten_append] at hj
      by_cases hjl:j<vss.flatten.length
      ·rw [List.getElem?_append_left hjl] at hj
       obtain ⟨i,q,g1,g2,g3,g4⟩:=h4 j u hj
       exact ⟨i,q,by omega,g2,g3,g4⟩
      ·rw [List.getElem?_append_right (by omega),hfl] at hj
       simp only [List.flatten_cons,List.flatten_nil,List.append_nil] at hj
       have hq:=(List.getElem?_eq_some_iff.1 hj).1
       exact ⟨k,j-k*n,by omega,by omega,by omega,hl2 _ _ hj⟩
  obtain ⟨vs,vss,h1,h2,h3,h4⟩:=build len (Nat.le_refl _)
  refine ⟨vs,_,[],rfl,⟨some a,cap,by simp [h1],⟨by simpa [h1] using hlc,fun h=>by simp at h⟩,fun hne=>⟨a,vss,rfl,h2,?_⟩⟩,rfl⟩
  have hlen:0<len:=by
   rcases Nat.eq_zero_or_pos len with h0 | h0
   ·exfalso;apply hne;rw [List.map_eq_nil_iff];exact List.length_eq_zero_iff.1 (by omega)
   ·exact h0
  have hfl:vss.flatten.length=len*n:=by have:=Z24 h2;simpa [h1] using this
  have hpos2:0<len*n:=Nat.mul_pos hlen hpos
  obtain ⟨u0,hu0⟩:∃u,vss.flatten[0]?=some u:=⟨_,List.getElem?_eq_getElem (by omega)⟩
  obtain ⟨i0,q0,_,_,e0,g0⟩:=h4 0 u0 hu0
  have hi0:i0*n=0:=by omega
  have hq0:q0=0:=by omega
  rw [hi0,hq0] at g0
  have hsp:a.spot=none:=(cell?_none (a:=a) (by simpa [Addr.add] using g0)).1
  obtain ⟨_,cs0,T0,fr0,hblk,_⟩:=cell?_none (a:=a) (by simpa [Addr.add] using g0)
  refine ⟨hsp,h3,cs0,T0,fr0,hblk,fun j u hj=>?_⟩
  obtain ⟨i,q,g1,g2,g3,g4⟩:=h4 j u hj
  rw [add_add a _ _ hsp] at g4
  obtain ⟨_,cs1,T1,fr1,hb1,hc1⟩:=cell?_none g4
  dsimp only at hb1 hc1
  rw [hblk] at hb1
  simp only [Option.some.injEq,Obj.cells.injEq] at hb1
  obtain ⟨rfl,_,_⟩:=hb1
  rw [g3,←Nat.add_assoc];exact hc1
theorem arg_agg {P:Program} {t:TypeId} {α:Type} {row:α→List AV} (ho:Opn P t row) {fs:Array Field} (ht:P.underlying t=some (.struct fs)) {H:Type} {enc:TypeId×Value→H} {w:World} {b0:Nat} {r:Reach} {base:Nat} {sp:Nat→Bool} {held:Bool} {v:Value} {d:DataW H} {ps:List MemPlace}
  (hv:Value.okWide P w r b0 t v) (hd:DataW.Trod enc P w base sp held t v d ps):∃x:α,AV.is (Z0 fun k=>w.heap[k]?) (.agg (row x)) v:=by
 obtain ⟨fuel,hf⟩:=hd
 obtain ⟨x,hx⟩:=ho enc w base sp held fuel _ _ hf
 unfold Value.okWide at hv
 rw [ht] at hv
 obtain ⟨cs,rfl,_,_⟩:=hv
 exact ⟨x,cs.toList,by simp,hx⟩
theorem arg_slice {P:Program} {t e:TypeId} {n:Nat} {α:Type} {row:α→List AV} (ho:Opn P t (Zz4 n row)) (ht:P.underlying t=some (.slice e)) {H:Type} {enc:TypeId×Value→H} {w:World} {b0:Nat} {r:Reach} {base:Nat} {sp:Nat→Bool} {held:Bool} {v:Value} {d:DataW H} {ps:List MemPlace}
  (hv:Value.okWide P w r b0 t v) (hd:DataW.Trod enc P w base sp held t v d ps):∃x:List α,AV.is (Z0 fun k=>w.heap[k]?) (.sl n (x.map row)) v:=by
 obtain ⟨fuel,hf⟩:=hd
 obtain ⟨x,hx⟩:=ho enc w base sp held fuel _ _ hf
 obtain ⟨a0,len,cap,rfl⟩:=okWide_slice ht hv
 obtain ⟨u,q,h1,h2,_⟩:=hx
 simp [Value.cells] at h1
 exact ⟨x,by rw [h1.1];exact h2⟩
theorem Zwj {P:Program} {H:Type} {enc:TypeId×Value→H} (hl:laidOutB P=true) {W W':World} (hB:Below W.heap.size W W'):∀ {ts:List TypeId} {vs:List Value} {ds:List (DataW H)} {ps:List MemPlace},
  (ts.all fun t=>P.readableRec t&&decide (t<P.types.size))=true→DataW.TrodAll enc P W 0 (fun _=>true) true ts vs ds ps→(∀x∈ps,x.block<W.heap.size)→
  DataW.TrodAll enc P W' 0 (fun b=>decide (b<W.heap.size)) true ts vs ds ps
 | [],[],[],ps,_,h,_=>h
 | t::ts,v::vs,d::ds,ps,hr,⟨p,q,h1,h2,e⟩,hlt=>by
   simp only [List.all_cons,Bool.and_eq_true,decide_eq_true_eq] at hr
   subst e
   exact ⟨p,q,Below.trod hl hr.1.1 hr.1.2 h1 hB (fun x hx=>hlt x (List.mem_append_left _ hx)),Zwj hl hB (by simpa using hr.2) h2 (fun x hx=>hlt x (List.mem_append_right _ hx)),rfl⟩
 | [],_::_,_,_,_,h,_=>by simp [DataW.TrodAll] at h
 | [],[],_::_,_,_,h,_=>by simp [DataW.TrodAll] at h
 | _::_,[],_,_,_,h,_=>by simp [DataW.TrodAll] at h
 | _::_,_::_,[],_,_,h,_=>by simp [DataW.TrodAll] at h
theorem Zxj {P:Program} {H:Type} {enc:TypeId×Value→H} {w:World} {b:Nat} {sp:Nat→Bool} {held:Bool}:∀ {ts:List TypeId} {vs:List Value} {ds:List (DataW H)} {ps:List MemPlace},DataW.TrodAll enc P w b sp held ts vs ds ps→ds.length=ts.length∧vs.length=ts.length
 | [],[],[],_,_=>⟨rfl,rfl⟩
 | _::_,_::_,_::_,_,⟨_,_,_,h,_⟩=>by have:=Zxj h;simp [this]
 | [],_::_,_,_,h=>by simp [DataW.TrodAll] at h
 | [],[],_::_,_,h=>by simp [DataW.TrodAll] at h
 | _::_,[],_,_,h=>by simp [DataW.TrodAll] at h
 | _::_,_::_,[],_,h=>by simp [DataW.TrodAll] at h
theorem law_post {P:Program} {fn:Func} {s:ChangeSpec} (hl:laidOutB P=true) (hr:(fn.params.toList.all fun t=>P.readableRec t&&decide (t<P.types.size))=true) (hv:s.vars=[]) {tb:TypeId} (hres:fn.resultTypes = #[tb]) (hb:P.underlying tb=some .bool)
  {H:Type} {enc:TypeId×Value→H} {W W':World} {args:Array Value} {ds gs:List (DataW H)} {before:List MemPlace}
  (hs:ds.length=fn.params.size→s.fn H ds={results:=[.lit (.bool true)],args:=ds})
  (hW:DataW.Whole enc P fn.params.toList s.vars false W args.toList ds gs before) (hB:Below W.heap.size W W'):s.post enc P fn false true false false W args (.bool true) W':=by
 have hW':=hW
 obtain ⟨p,q,hA,hV,rfl,hfz,hnd⟩:=hW
 rw [hv] at hV
 obtain ⟨rfl,rfl⟩:=trodVars_none hV
 have hlen:=(Zxj hA).1
 have e1:s.fn H (ds++[])={results:=[.lit (.bool true)],args:=ds}:=by rw [List.append_nil];exact hs (by simpa using hlen)
 refine ⟨ds,[],p++[],[],p,[],hW',?_,?_,?_,hB.frame _,fun h=>by cases h⟩
 ·rw [e1,hres];exact trodAll_mk1 (shut_bool hb _)
 ·rw [e1];exact Zwj hl hB hr hA (fun x hx=>hW'.lt x (List.mem_append_left _ hx))
 ·rw [e1,hv];rfl
end NX
end Go.Proofs.YtadebhbiglmodaaGreat
