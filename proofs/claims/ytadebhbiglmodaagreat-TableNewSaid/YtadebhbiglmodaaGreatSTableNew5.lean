/-
  From what a machine computes to what a row says: arguments as data, and what is left of them. No statement of the seat is proved here.
-/
import Derived.ProofKit
import Derived.OpenShut
import Derived.Carry
import Derived.KernelRfl
import Derived.Test.YtadebhbiglmodaaGreatS1
import Derived.Test.YtadebhbiglmodaaGreatS2
import Derived.Test.YtadebhbiglmodaaGreatS4
import Derived.Test.YtadebhbiglmodaaGreatS3
namespace Go.Proofs.YtadebhbiglmodaaGreat
namespace NX
open Go Go.RowKit Go.ChangeShapes Go.WideShapes
def Opn (P:Program) (t:TypeId) {α:Type} (row:α→List AV):Prop:=
 ∀ {H:Type} (enc:TypeId×Value→H) (w:World) (base:Nat) (sp:Nat→Bool) (held:Bool) (fuel:Nat) (cs:List Value) (x:DataW H×List MemPlace),
   DataW.trod enc P w base sp held fuel t cs=some x→∃v:α,AV.isL (Z0 fun k=>w.heap[k]?) (row v) cs
theorem opn_int {P:Program} {t:TypeId} (ht:P.underlying t=some (.int .i64)):Opn P t Z45:=by
 intro H enc w base sp held fuel cs x h
 obtain ⟨n,rfl,_,_⟩:=DataW.trod_int ht h
 exact ⟨n,_,_,rfl,rfl,rfl⟩
theorem opn_bool {P:Program} {t:TypeId} (ht:P.underlying t=some .bool):Opn P t boolRow:=by
 intro H enc w base sp held fuel cs x h
 obtain ⟨n,rfl,_⟩:=DataW.trod_bool ht h
 exact ⟨n,_,_,rfl,rfl,rfl⟩
theorem opn_string {P:Program} {t:TypeId} (ht:P.underlying t=some .string):Opn P t strRow:=by
 intro H enc w base sp held fuel cs x h
 obtain ⟨n,rfl,_⟩:=DataW.trod_string ht h
 exact ⟨n,_,_,rfl,rfl,rfl⟩
theorem cells?_get {w:World} {base:Nat} {a:Addr} {n:Nat} {l:List Value} (h:w.cells? base a n=some l):l.length=n∧∀i v,l[i]?=some v→w.cell? (a.add i)=some v:=by
 unfold World.cells? at h
 split at h
 ·obtain ⟨h1,h2⟩:=Ze2 h
  refine ⟨by simpa using h1,fun i v hv=>?_⟩
  have hlt:i<n:=by have:=(List.getElem?_eq_some_iff.1 hv).1;simp at h1;omega
  obtain ⟨y,hy1,hy2⟩:=h2 i i (by simp [hlt])
  rw [hv] at hy1
  simp at hy1;subst hy1
  exact hy2
 ·simp at h
theorem cell?_none {w:World} {a:Addr} {v:Value} (h:w.cell? a=some v):a.spot=none∧∃cs T fr,w.heap[a.block]?=some (.cells cs T fr)∧cs[a.off]?=some v:=by
 unfold World.cell? at h
 split at h
 ·rename_i cs T fr hc
  split at h
  ·simp at h
  ·rename_i hs
   exact ⟨by cases hsp:a.spot<;>simp_all,cs,T,fr,hc,h⟩
 ·simp at h
theorem isL_one {M:Mem} {l:List AV} {vs:List Value} (h:AV.isL M l vs) (hp:Zk l=true) (ho:Zo l=true):∀v∈vs,v.oneCell'=true:=by
 induction l generalizing vs with
 | nil=>simp [AV.isL] at h;subst h;simp
 | cons x l ih=>
   obtain ⟨v,r,rfl,h1,h2⟩:=h
   simp only [Zk,Z51] at hp
   simp only [Zo,Z51] at ho
   intro u hu
   rcases List.mem_cons.1 hu with rfl | hu
   ·exact one_is h1 hp.1 (fun j e=>by subst e;simp [AV.pu] at ho)
   ·exact ih h2 hp.2 ho.2 u hu
theorem add_add (a:Addr) (i k:Nat) (ha:a.spot=none):(a.add i).add k=⟨a.block,a.off+i+k,none⟩:=by
 obtain ⟨b,o,sp⟩:=a
 dsimp only at ha
 subst ha
 simp [Addr.add]
 split<;>split<;>simp_all [Nat.add_assoc]
theorem opn_slice {P:Program} {t e:TypeId} {n:Nat} {α:Type} {row:α→List AV} (ht:P.underlying t=some (.slice e)) (hn:P.cellsOf e=n) (hpos:0<n) (hrow:∀v,(row v).length=n∧Zk (row v)=true∧Zo (row v)=true) (he:Opn P e row):Opn P t (Z55 n row):=by
 intro H enc w base sp held fuel cs x h
 rcases DataW.trod_slice ht h with ⟨rfl,_⟩ | ⟨a,len,cap,elems,rest,m,_,rfl,_,hb,hlc,hcm,hel,hget,_,_⟩
 ·exact ⟨[],_,_,rfl,⟨none,0,rfl,⟨Nat.le_refl _,fun _=>rfl⟩,fun hne=>absurd rfl hne⟩,rfl⟩
 ·rw [hn] at hget
  have each:∀i,i<len→∃v:α,∃l,w.cells? base (a.add (i*n)) n=some l∧AV.isL (Z0 fun k=>w.heap[k]?) (row v) l:=by
   intro i hi
   have hg:=hget i hi
   have hsome:∃y,elems[i]?=some y:=⟨_,List.getElem?_eq_getElem (by omega)⟩
   obtain ⟨y,hy⟩:=hsome
   rw [hy,Option.bind_eq_some_iff] at hg
   obtain ⟨l,hl,hd⟩:=hg
   obtain ⟨v,hv⟩:=he enc w base sp held m l y hd
   exact ⟨v,l,hl,hv⟩
  have build:∀k,k≤len→∃(vs:List α) (vss:List (List Value)),vs.length=k∧AV.isLL (Z0 fun k=>w.heap[k]?) n (vs.map row) vss∧(∀v∈vss.flatten,v.oneCell'=true)∧
    ∀j u,vss.flatten[j]?=some u→∃i q,i<k∧q<n∧j=i*n+q∧w.cell? ((a.add (i*n)).add q)=some u:=by
   intro k
   induction k with
   | zero=>intro _;exact ⟨[],[],rfl,rfl,by simp,by simp⟩
   | succ k ih=>
     intro hk
     obtain ⟨vs,vss,h1,h2,h3,h4⟩:=ih (by omega)
     obtain ⟨v,l,hl,hv⟩:=each k (by omega)
     obtain ⟨hl1,hl2⟩:=cells?_get hl
     refine ⟨vs++[v],vss++[l],by simp [h1],?_,?_,?_⟩
     ·rw [List.map_append]
      exact Z04 h2 ⟨l,[],rfl,hl1,hv,rfl⟩
     ·intro u hu
      rw [List.flatten_append,List.mem_append] at hu
      rcases hu with hu | hu
      ·exact h3 u hu
      ·exact isL_one hv (hrow v).2.1 (hrow v).2.2 u (by simpa using hu)
     ·intro j u hj
      have hfl:vss.flatten.length=k*n:=by have:=Z14 h2;simpa [h1] using this
      rw [List.flatten_append] at hj
      by_cases hjl:j<vss.flatten.length
      ·rw [List.getElem?_append_left hjl] at hj
       obtain ⟨i,q,g1,g2,g3,g4⟩:=h4 j u hj
       exact ⟨i,q,by omega,g2,g3,g4⟩
      ·rw [List.getElem?_append_right (by omega),hfl] at hj
       simp only [List.flatten_cons,List.flatten_nil,List.append_nil] at hj
       have hq:=(List.getElem?_eq_some_iff.1 hj).1
       exact ⟨k,j-k*n,by omega,by omega,by omega,hl2 _ _ hj⟩
  obtain ⟨vs,vss,h1,h2,h3,h4⟩:=build len (Nat.le_refl _)
  refine ⟨vs,_,[],rfl,⟨some a,cap,by simp [h1],⟨by simpa [h1] using hlc,fun h=>by simp at h⟩,fun hne=>⟨a,vss,rfl,h2,?_⟩⟩,rfl⟩
  have hlen:0<len:=by
   rcases Nat.eq_zero_or_pos len with h0 | h0
   ·exfalso;apply hne;rw [List.map_eq_nil_iff];exact List.length_eq_zero_iff.1 (by omega)
   ·exact h0
  have hfl:vss.flatten.length=len*n:=by have:=Z14 h2;simpa [h1] using this
  have hpos2:0<len*n:=Nat.mul_pos hlen hpos
  obtain ⟨u0,hu0⟩:∃u,vss.flatten[0]?=some u:=⟨_,List.getElem?_eq_getElem (by omega)⟩
  obtain ⟨i0,q0,_,_,e0,g0⟩:=h4 0 u0 hu0
  have hi0:i0*n=0:=by omega
  have hq0:q0=0:=by omega
  rw [hi0,hq0] at g0
  have hsp:a.spot=none:=(cell?_none (a:=a) (by simpa [Addr.add] using g0)).1
  obtain ⟨_,cs0,T0,fr0,hblk,_⟩:=cell?_none (a:=a) (by simpa [Addr.add] using g0)
  refine ⟨hsp,h3,cs0,T0,fr0,hblk,fun j u hj=>?_⟩
  obtain ⟨i,q,g1,g2,g3,g4⟩:=h4 j u hj
  rw [add_add a _ _ hsp] at g4
  obtain ⟨_,cs1,T1,fr1,hb1,hc1⟩:=cell?_none g4
  dsimp only at hb1 hc1
  rw [hblk] at hb1
  simp only [Option.some.injEq,Obj.cells.injEq] at hb1
  obtain ⟨rfl,_,_⟩:=hb1
  rw [g3,←Nat.add_assoc];exact hc1
theorem take_drop_append {α:Type} (cs:List α) (a b:Nat):(cs.drop a).take b++cs.drop (a+b)=cs.drop a:=by
 rw [←List.drop_drop];exact List.take_append_drop b (cs.drop a)
theorem arg_agg {P:Program} {t:TypeId} {α:Type} {row:α→List AV} (ho:Opn P t row) {fs:Array Field} (ht:P.underlying t=some (.struct fs)) {H:Type} {enc:TypeId×Value→H} {w:World} {b0:Nat} {r:Reach} {base:Nat} {sp:Nat→Bool} {held:Bool} {v:Value} {d:DataW H} {ps:List MemPlace}
  (hv:Value.okWide P w r b0 t v) (hd:DataW.Trod enc P w base sp held t v d ps):∃x:α,AV.is (Z0 fun k=>w.heap[k]?) (.agg (row x)) v:=by
 obtain ⟨fuel,hf⟩:=hd
 obtain ⟨x,hx⟩:=ho enc w base sp held fuel _ _ hf
 unfold Value.okWide at hv
 rw [ht] at hv
 obtain ⟨cs,rfl,_,_⟩:=hv
 exact ⟨x,cs.toList,by simp,hx⟩
theorem arg_int {P:Program} {t:TypeId} (ht:P.underlying t=some (.int .i64)) {H:Type} {enc:TypeId×Value→H} {w:World} {b0:Nat} {r:Reach} {base:Nat} {sp:Nat→Bool} {held:Bool} {v:Value} {d:DataW H} {ps:List MemPlace}
  (hv:Value.okWide P w r b0 t v) (hd:DataW.Trod enc P w base sp held t v d ps):∃x:Int,AV.is (Z0 fun k=>w.heap[k]?) (.iv x) v:=by
 obtain ⟨n,rfl,_⟩:=open_int ht hv hd
 exact ⟨n,rfl⟩
theorem arg_slice {P:Program} {t e:TypeId} {n:Nat} {α:Type} {row:α→List AV} (ho:Opn P t (Z55 n row)) (ht:P.underlying t=some (.slice e)) {H:Type} {enc:TypeId×Value→H} {w:World} {b0:Nat} {r:Reach} {base:Nat} {sp:Nat→Bool} {held:Bool} {v:Value} {d:DataW H} {ps:List MemPlace}
  (hv:Value.okWide P w r b0 t v) (hd:DataW.Trod enc P w base sp held t v d ps):∃x:List α,AV.is (Z0 fun k=>w.heap[k]?) (.sl n (x.map row)) v:=by
 obtain ⟨fuel,hf⟩:=hd
 obtain ⟨x,hx⟩:=ho enc w base sp held fuel _ _ hf
 obtain ⟨a0,len,cap,rfl⟩:=okWide_slice ht hv
 obtain ⟨u,q,h1,h2,_⟩:=hx
 simp [Value.cells] at h1
 exact ⟨x,by rw [h1.1];exact h2⟩
theorem Zgk {P:Program} {H:Type} {enc:TypeId×Value→H} (hl:laidOutB P=true) {W W':World} (hB:Below W.heap.size W W'):∀ {ts:List TypeId} {vs:List Value} {ds:List (DataW H)} {ps:List MemPlace},
  (ts.all fun t=>P.readableRec t&&decide (t<P.types.size))=true→DataW.TrodAll enc P W 0 (fun _=>true) true ts vs ds ps→(∀x∈ps,x.block<W.heap.size)→
  DataW.TrodAll enc P W' 0 (fun b=>decide (b<W.heap.size)) true ts vs ds ps
 | [],[],[],ps,_,h,_=>h
 | t::ts,v::vs,d::ds,ps,hr,⟨p,q,h1,h2,e⟩,hlt=>by
   simp only [List.all_cons,Bool.and_eq_true,decide_eq_true_eq] at hr
   subst e
   exact ⟨p,q,Below.trod hl hr.1.1 hr.1.2 h1 hB (fun x hx=>hlt x (List.mem_append_left _ hx)),Zgk hl hB (by simpa using hr.2) h2 (fun x hx=>hlt x (List.mem_append_right _ hx)),rfl⟩
 | [],_::_,_,_,_,h,_=>by simp [DataW.TrodAll] at h
 | [],[],_::_,_,_,h,_=>by simp [DataW.TrodAll] at h
 | _::_,[],_,_,_,h,_=>by simp [DataW.TrodAll] at h
 | _::_,_::_,[],_,_,h,_=>by simp [DataW.TrodAll] at h
theorem Zhk {P:Program} {H:Type} {enc:TypeId×Value→H} {w:World} {b:Nat} {sp:Nat→Bool} {held:Bool}:∀ {ts:List TypeId} {vs:List Value} {ds:List (DataW H)} {ps:List MemPlace},DataW.TrodAll enc P w b sp held ts vs ds ps→ds.length=ts.length∧vs.length=ts.length
 | [],[],[],_,_=>⟨rfl,rfl⟩
 | _::_,_::_,_::_,_,⟨_,_,_,h,_⟩=>by have:=Zhk h;simp [this]
 | [],_::_,_,_,h=>by simp [DataW.TrodAll] at h
 | [],[],_::_,_,h=>by simp [DataW.TrodAll] at h
 | _::_,[],_,_,h=>by simp [DataW.TrodAll] at h
 | _::_,_::_,[],_,h=>by simp [DataW.TrodAll] at h
theorem law_post {P:Program} {fn:Func} {s:ChangeSpec} (hl:laidOutB P=true) (hr:(fn.params.toList.all fun t=>P.readableRec t&&decide (t<P.types.size))=true) (hv:s.vars=[]) {tb:TypeId} (hres:fn.resultTypes = #[tb]) (hb:P.underlying tb=some .bool)
  {H:Type} {enc:TypeId×Value→H} {W W':World} {args:Array Value} {ds gs:List (DataW H)} {before:List MemPlace}
  (hs:ds.length=fn.params.size→s.fn H ds={results:=[.lit (.bool true)],args:=ds})
  (hW:DataW.Whole enc P fn.params.toList s.vars false W args.toList ds gs before) (hB:Below W.heap.size W W'):s.post enc P fn false true false false W args (.bool true) W':=by
 have hW':=hW
 obtain ⟨p,q,hA,hV,rfl,hfz,hnd⟩:=hW
 rw [hv] at hV
 obtain ⟨rfl,rfl⟩:=trodVars_none hV
 have hlen:=(Zhk hA).1
 have e1:s.fn H (ds++[])={results:=[.lit (.bool true)],args:=ds}:=by rw [List.append_nil];exact hs (by simpa using hlen)
 refine ⟨ds,[],p++[],[],p,[],hW',?_,?_,?_,hB.frame _,fun h=>by cases h⟩
 ·rw [e1,hres];exact trodAll_mk1 (shut_bool hb _)
 ·rw [e1];exact Zgk hl hB hr hA (fun x hx=>hW'.lt x (List.mem_append_left _ hx))
 ·rw [e1,hv];rfl
end NX
end Go.Proofs.YtadebhbiglmodaaGreat
/-
  The function narthex/narthexref03.Near: its code compiled, a model, and that the code answers as the model. Written by a program of ours (lb.py). No statement of the seat is proved here.
-/
namespace Go.Proofs.YtadebhbiglmodaaGreat
namespace NX
open Go
set_option maxRecDepth 100000
set_option maxHeartbeats 4000000
def Zik:EC:=.seq (.seq (.reg [(Qa 8 (.mv (.t 6))),(Qa 9 (.fld 0 (.t 2))),(Qa 10 (.load (.t 9))),(Qa 11 (.bin .lss (.t 8) (.t 10))),(Qa 12 (.mv (.t 11))),(Qg 13 12 true (.loadA 2 (.t 2))),(Qg 14 12 true (.call 22 [(.t 13)])),(Qa 15 (.pick (.t 12) (.t 14) (.c .ff)))]) (.ite (.t 15) (.skip) (.exit 0))) (.seq (.blk 1 (.seq (.reg [(Qa 18 (.loadA 2 (.t 2))),(Qa 19 (.mv (.t 1))),(Qa 20 (.mv (.t 6))),(Qa 21 (.call 90 [(.t 18),(.t 19),(.t 20)]))]) (.ite (.t 21) (.reg [(Qa 22 (.mv (.t 5))),(Qa 23 (.mv (.t 6))),(Qa 24 (.bsl 3 1 1 [.iv 0] [(0,(.t 23))])),(Qa 25 (.app 3 1 8 (.t 22) (.t 24))),(Qa 5 (.mv (.t 25)))]) (.skip)))) (.reg [(Qa 16 (.mv (.t 6))),(Qa 17 (.bin .add (.t 16) (.c (.iv 1)))),(Qa 6 (.mv (.t 17)))]))
def e115:EC:=.seq (.reg [(Qa 2 (.box 48 2 (.t 0))),(Qa 4 (.mv (.c .nl)))]) (.seq (.reg [(Qa 7 (.bsl 3 1 0 [.iv 0] [])),(Qa 5 (.mv (.t 7)))]) (.seq (.seq (.reg [(Qa 6 (.mv (.c (.iv 0))))]) (.blk 0 (.loop Zik))) (.seq (.reg [(Qa 26 (.mv (.t 5))),(Qa 4 (.mv (.t 26)))]) (.ret))))
theorem ok115:FnOK Tryz.prog 115 Tryz.f115 e115 [.t 4] 2 25:=⟨by kernel_rfl,⟨_,rfl,by kernel_rfl⟩,by kernel_rfl,by kernel_rfl⟩
noncomputable def Zjk:(List Int)→Option (List Int)
| x23=>
 some x23
noncomputable def Zkk (x10:Int):(List Int)→Option ((Int×(List Int)) ⊕ (List Int))
| x16=>
 some (.inl (wr (x10+1),x16))
noncomputable def Zlk (x1:Graph) (x2:Int) (x10:Int) (x11:(List Int)):Bool→Option ((Int×(List Int)) ⊕ (List Int))
| x13=>
 ifb x13 (
 (Zqa x1 x2 x10).bind fun x14=>
 ifb x14 (
 (Za4 8 x11 ([x10])).bind fun x15=>
 (Zkk x10) x15) (
 (Zkk x10) x11)) (
 Option.map Sum.inr (Zjk x11))
noncomputable def Zmk (x1:Graph) (x2:Int):(Int×(List Int))→Option ((Int×(List Int)) ⊕ (List Int))
| (x10,x11)=>
 ifb (decide (x10<x1.N)) (
 (Zka x1).bind fun x12=>
 (Zlk x1 x2 x10 x11) x12) (
 (Zlk x1 x2 x10 x11) false)
noncomputable def Znk (x1:Graph) (x2:Int):Option (List Int):=
 loop (Zmk x1 x2) (0,([]:List Int))
theorem Zok (x1:Graph) (x2:Int) (r:(List Int)) (h:Znk x1 x2=some r):FunO Tryz.prog 115 [.agg (Graph.row x1),.iv x2] 3 1 (List.map Z45 r):=by
 refine Zc5 ok115 rfl fun w0 H0=>?_
 rw [Znk] at h
 refine Zl2 15 ?_;dsimp only [e115,Zik,go_sem];refine ⟨by simp,?_⟩;refine Zl4 (fun (x23:(List Int))=>(⟨(an 5 (.osl 0::an 21 [])),[],[some ⟨3,1,List.map Z45 x23⟩]⟩:St)) Zjk r ?_ fun J1=>?_
 ·intro x23 h;rw [Zjk] at h;(try dsimp only);refine Zl2 5 ?_;dsimp only [e115,Zik,go_sem];refine ⟨by simp,?_⟩;exact Zj5 Z45 ok115 h rfl rfl
 ·refine Zl2 1 ?_;dsimp only [e115,Zik,go_sem];refine ⟨by simp,?_⟩;refine Zm4 h (fun ((x10,x11):(Int×(List Int)))=>(⟨(.any :: .iv x2 :: .ptr 0 0 :: .any :: .any :: .osl 0 :: .iv x10::an 20 []),[some ⟨48,[.iv x1.N,.sl 2 (List.map Edge.row x1.Edges)]⟩],[some ⟨3,1,List.map Z45 x11⟩]⟩:St)) (by simp [go_sem]) (by rintro ⟨x10,x11⟩;first | rfl | simp [go_sem]) ?_;rintro n1 ⟨x10,x11⟩ y1 h hin1 hout1;rw [Zmk] at h;(try dsimp only);refine Zl2 8 ?_;dsimp only [e115,Zik,go_sem];refine ⟨by simp,?_⟩
  refine Zl4 (fun (x13:Bool)=>(⟨(.any :: .iv x2 :: .ptr 0 0 :: .any :: .any :: .osl 0 :: .iv x10::an 8 (.bv x13::an 11 [])),[some ⟨48,[.iv x1.N,.sl 2 (List.map Edge.row x1.Edges)]⟩],[some ⟨3,1,List.map Z45 x11⟩]⟩:St)) (Zlk x1 x2 x10 x11) y1 ?_ fun J2=>?_
  ·intro x13 h;rw [Zlk] at h;(try dsimp only);refine Zn4 h rfl (fun _ h=>?_) fun _ h=>?_
   ·refine Zl2 8 ?_;dsimp only [e115,Zik,go_sem];refine ⟨by simp,?_⟩;obtain ⟨x14,ex14,h⟩:=Option.bind_eq_some_iff.1 h;refine Zz2 trivial (Zra x1 x2 x10 _ ex14) (h:=?_);refine Zl2 1 ?_;dsimp only [e115,Zik,go_sem];refine ⟨by simp,?_⟩;refine Zl4 (fun (x16:(List Int))=>(⟨(.any :: .iv x2 :: .ptr 0 0 :: .any :: .any :: .osl 0 :: .iv x10::an 20 []),[some ⟨48,[.iv x1.N,.sl 2 (List.map Edge.row x1.Edges)]⟩],[some ⟨3,1,List.map Z45 x16⟩]⟩:St)) (Zkk x10) y1 ?_ fun J3=>?_
    ·intro x16 h;rw [Zkk] at h;(try dsimp only);refine Zl2 6 ?_;dsimp only [e115,Zik,go_sem];refine ⟨by simp,?_⟩;exact Zy4 h hin1
    ·refine Zn4 h rfl (fun _ h=>?_) fun _ h=>?_
     ·refine Zl2 4 ?_;dsimp only [e115,Zik,go_sem];refine ⟨by simp,?_⟩;obtain ⟨x15,ex15,h⟩:=Option.bind_eq_some_iff.1 h;refine Zt4 Z45 ex15 trivial rfl rfl rfl ?_;refine Zl2 2 ?_;dsimp only [e115,Zik,go_sem];refine ⟨by simp,?_⟩;refine Z44 2 0 rfl rfl rfl ?_;dsimp only [go_sem];exact Zz4 J3 (s:=x15) h
     ·refine Zl2 1 ?_;dsimp only [e115,Zik,go_sem];refine ⟨by simp,?_⟩;exact Zz4 J3 (s:=x11) h
   ·refine Zl2 1 ?_;dsimp only [e115,Zik,go_sem];refine ⟨by simp,?_⟩;exact Zz4 J1 (s:=x11) (Zk4 h hout1)
  ·refine Zw4 12 h rfl (fun _ h=>?_) fun _ h=>?_
   ·dsimp only [go_sem];refine Zl2 1 ?_;dsimp only [e115,Zik,go_sem];refine ⟨by simp,?_⟩;obtain ⟨x12,ex12,h⟩:=Option.bind_eq_some_iff.1 h;refine Zz2 trivial (Zla x1 _ ex12) (h:=?_);refine Zl2 2 ?_;dsimp only [e115,Zik,go_sem];refine ⟨by simp,?_⟩;exact Zz4 J2 (s:=x12) h
   ·dsimp only [go_sem];refine Zl2 4 ?_;dsimp only [e115,Zik,go_sem];refine ⟨by simp,?_⟩;exact Zz4 J2 (s:=false) h
theorem Zpk (x1:Graph) (x2:Int) (r:(List Int)) (h:Znk x1 x2=some r):Zq2 Tryz.prog 115 [.agg (Graph.row x1),.iv x2] (.sl 1 (List.map Z45 r)):=(Zok x1 x2 r h).sealed
set_option maxRecDepth 100000
set_option maxHeartbeats 4000000
def Zqk:EC:=.seq (.seq (.reg [(Qa 8 (.mv (.t 7))),(Qa 9 (.mv (.t 1))),(Qa 10 (.len (.t 9))),(Qa 11 (.bin .lss (.t 8) (.t 10)))]) (.ite (.t 11) (.skip) (.exit 0))) (.seq (.blk 1 (.seq (.reg [(Qa 14 (.mv (.t 1))),(Qa 15 (.mv (.t 7))),(Qa 16 (.idx 1 (.t 14) (.t 15))),(Qa 17 (.load (.t 16))),(Qa 18 (.mv (.t 2))),(Qa 19 (.bin .gtr (.t 17) (.t 18))),(Qa 20 (.mv (.t 19))),(Qg 21 20 true (.mv (.t 0))),(Qg 22 20 true (.mv (.t 1))),(Qg 23 20 true (.mv (.t 7))),(Qg 24 20 true (.idx 1 (.t 22) (.t 23))),(Qg 25 20 true (.load (.t 24))),(Qg 26 20 true (.idx 1 (.t 21) (.t 25))),(Qg 27 20 true (.load (.t 26))),(Qg 28 20 true (.bin .eql (.t 27) (.c (.iv 0)))),(Qa 29 (.pick (.t 20) (.t 28) (.c .ff)))]) (.ite (.t 29) (.seq (.reg [(Qa 6 (.mv (.c .ff)))]) (.ret)) (.skip)))) (.reg [(Qa 12 (.mv (.t 7))),(Qa 13 (.bin .add (.t 12) (.c (.iv 1)))),(Qa 7 (.mv (.t 13)))]))
def e116:EC:=.seq (.reg [(Qa 6 (.mv (.c .ff)))]) (.seq (.seq (.reg [(Qa 7 (.mv (.c (.iv 0))))]) (.blk 0 (.loop Zqk))) (.seq (.reg [(Qa 30 (.mv (.t 0))),(Qa 31 (.mv (.t 2))),(Qa 32 (.idx 1 (.t 30) (.t 31))),(Qa 33 (.load (.t 32))),(Qa 34 (.bin .eql (.t 33) (.c (.iv 0)))),(Qa 6 (.mv (.t 34)))]) (.ret)))
theorem ok116:FnOK Tryz.prog 116 Tryz.f116 e116 [.t 6] 3 32:=⟨by kernel_rfl,⟨_,rfl,by kernel_rfl⟩,by kernel_rfl,by kernel_rfl⟩
noncomputable def Zrk (x1:(List Int)) (x3:Int):Unit→Option Bool
| ()=>
 (at_ x1 x3).bind fun x19=>
 some (decide (x19=0))
noncomputable def Zsk (x9:Int):Bool→Option (Int ⊕ Bool)
| x13=>
 ifb x13 (
 Option.map Sum.inr (some false)) (
 some (.inl (wr (x9+1))))
noncomputable def Ztk (x1:(List Int)) (x2:(List Int)) (x3:Int):Int→Option (Int ⊕ Bool)
| x9=>
 ifb (decide (x9<(ln Z45 x2))) (
 (at_ x2 x9).bind fun x10=>
 ifb (decide (x3<x10)) (
 (at_ x2 x9).bind fun x11=>
 (at_ x1 x11).bind fun x12=>
 (Zsk x9) (decide (x12=0))) (
 (Zsk x9) false)) (
 Option.map Sum.inr ((Zrk x1 x3) ()))
noncomputable def Zuk (x1:(List Int)) (x2:(List Int)) (x3:Int):Option Bool:=
 loop (Ztk x1 x2 x3) 0
theorem Zvk (x1:(List Int)) (x2:(List Int)) (x3:Int) (r:Bool) (h:Zuk x1 x2 x3=some r):Zq2 Tryz.prog 116 [.sl 1 (List.map Z45 x1),.sl 1 (List.map Z45 x2),.iv x3] (.bv r):=by
 refine Zu2 ok116 rfl rfl fun w0 H0=>?_
 rw [Zuk] at h
 refine Zl2 9 ?_;dsimp only [e116,Zqk,go_sem];refine ⟨by simp,?_⟩;refine Zl4 (fun (_:Unit)=>(⟨(.sl 1 (List.map Z45 x1) :: .any :: .iv x3::an 32 []),[],[]⟩:St)) (Zrk x1 x3) r ?_ fun J1=>?_
 ·rintro ⟨⟩ h;rw [Zrk] at h;(try dsimp only);refine Zl2 4 ?_;dsimp only [e116,Zqk,go_sem];refine ⟨by simp,?_⟩;obtain ⟨x19,ex19,h⟩:=Option.bind_eq_some_iff.1 h;refine Zq4 Z45 ex19 trivial rfl rfl rfl ?_;refine Zl2 4 ?_;dsimp only [e116,Zqk,go_sem];refine ⟨by simp,?_⟩;exact Zx4 (res:=fun (r:Bool)=>.bv r) ok116 h
 ·refine Zl2 1 ?_;dsimp only [e116,Zqk,go_sem];refine ⟨by simp,?_⟩;refine Zm4 h (fun (x9:Int)=>(⟨(.sl 1 (List.map Z45 x1) :: .sl 1 (List.map Z45 x2) :: .iv x3::an 4 (.iv x9::an 27 [])),[],[]⟩:St)) (by simp [go_sem]) (by intro x9;first | rfl | simp [go_sem]) ?_;rintro n1 x9 y1 h hin1 hout1;rw [Ztk] at h;(try dsimp only);refine Zl2 8 ?_;dsimp only [e116,Zqk,go_sem];refine ⟨by simp,?_⟩;refine Zn4 h rfl (fun _ h=>?_) fun _ h=>?_
  ·refine Zl2 7 ?_;dsimp only [e116,Zqk,go_sem];refine ⟨by simp,?_⟩;obtain ⟨x10,ex10,h⟩:=Option.bind_eq_some_iff.1 h;refine Zq4 Z45 ex10 trivial rfl rfl rfl ?_;refine Zl2 4 ?_;dsimp only [e116,Zqk,go_sem];refine ⟨by simp,?_⟩;refine Zl4 (fun (x13:Bool)=>(⟨(.sl 1 (List.map Z45 x1) :: .sl 1 (List.map Z45 x2) :: .iv x3::an 4 (.iv x9::an 21 (.bv x13::an 5 []))),[],[]⟩:St)) (Zsk x9) y1 ?_ fun J2=>?_
   ·intro x13 h;rw [Zsk] at h;(try dsimp only);refine Zn4 h rfl (fun _ h=>?_) fun _ h=>?_
    ·refine Zl2 4 ?_;dsimp only [e116,Zqk,go_sem];refine ⟨by simp,?_⟩;exact Zx4 (res:=fun (r:Bool)=>.bv r) ok116 (Zk4 h hout1)
    ·refine Zl2 7 ?_;dsimp only [e116,Zqk,go_sem];refine ⟨by simp,?_⟩;exact Zy4 h hin1
   ·refine Zw4 20 h rfl (fun _ h=>?_) fun _ h=>?_
    ·dsimp only [go_sem];refine Zl2 3 ?_;dsimp only [e116,Zqk,go_sem];refine ⟨by simp,?_⟩;obtain ⟨x11,ex11,h⟩:=Option.bind_eq_some_iff.1 h;refine Zq4 Z45 ex11 trivial rfl rfl rfl ?_;refine Zl2 1 ?_;dsimp only [e116,Zqk,go_sem];refine ⟨by simp,?_⟩;obtain ⟨x12,ex12,h⟩:=Option.bind_eq_some_iff.1 h;refine Zq4 Z45 ex12 trivial rfl rfl rfl ?_;refine Zl2 4 ?_;dsimp only [e116,Zqk,go_sem];refine ⟨by simp,?_⟩;exact Zz4 J2 (s:=decide (x12=0)) h
    ·dsimp only [go_sem];refine Zl2 10 ?_;dsimp only [e116,Zqk,go_sem];refine ⟨by simp,?_⟩;exact Zz4 J2 (s:=false) h
  ·refine Zl2 1 ?_;dsimp only [e116,Zqk,go_sem];refine ⟨by simp,?_⟩;exact Zz4 J1 (s:=()) (Zk4 h hout1)
set_option maxRecDepth 100000
set_option maxHeartbeats 4000000
def Zwk:EC:=.seq (.seq (.reg [(Qa 8 (.mv (.t 7))),(Qa 9 (.mv (.t 1))),(Qa 10 (.len (.t 9))),(Qa 11 (.bin .lss (.t 8) (.t 10)))]) (.ite (.t 11) (.skip) (.exit 0))) (.seq (.blk 1 (.seq (.reg [(Qa 14 (.mv (.t 0))),(Qa 15 (.mv (.t 1))),(Qa 16 (.mv (.t 7))),(Qa 17 (.idx 1 (.t 15) (.t 16))),(Qa 18 (.load (.t 17))),(Qa 19 (.idx 1 (.t 14) (.t 18))),(Qa 20 (.load (.t 19))),(Qa 21 (.mv (.t 2))),(Qa 22 (.bin .eql (.t 20) (.t 21)))]) (.ite (.t 22) (.seq (.reg [(Qa 6 (.mv (.c .tt)))]) (.ret)) (.skip)))) (.reg [(Qa 12 (.mv (.t 7))),(Qa 13 (.bin .add (.t 12) (.c (.iv 1)))),(Qa 7 (.mv (.t 13)))]))
def e117:EC:=.seq (.reg [(Qa 6 (.mv (.c .ff)))]) (.seq (.seq (.reg [(Qa 7 (.mv (.c (.iv 0))))]) (.blk 0 (.loop Zwk))) (.seq (.reg [(Qa 6 (.mv (.c .ff)))]) (.ret)))
theorem ok117:FnOK Tryz.prog 117 Tryz.f117 e117 [.t 6] 3 20:=⟨by kernel_rfl,⟨_,rfl,by kernel_rfl⟩,by kernel_rfl,by kernel_rfl⟩
noncomputable def Zxk:Unit→Option Bool
| ()=>
 some false
noncomputable def Zyk (x1:(List Int)) (x2:(List Int)) (x3:Int):Int→Option (Int ⊕ Bool)
| x7=>
 ifb (decide (x7<(ln Z45 x2))) (
 (at_ x2 x7).bind fun x8=>
 (at_ x1 x8).bind fun x9=>
 ifb (decide (x9=x3)) (
 Option.map Sum.inr (some true)) (
 some (.inl (wr (x7+1))))) (
 Option.map Sum.inr (Zxk ()))
noncomputable def Zzk (x1:(List Int)) (x2:(List Int)) (x3:Int):Option Bool:=
 loop (Zyk x1 x2 x3) 0
theorem Z0l (x1:(List Int)) (x2:(List Int)) (x3:Int) (r:Bool) (h:Zzk x1 x2 x3=some r):Zq2 Tryz.prog 117 [.sl 1 (List.map Z45 x1),.sl 1 (List.map Z45 x2),.iv x3] (.bv r):=by
 refine Zu2 ok117 rfl rfl fun w0 H0=>?_
 rw [Zzk] at h
 refine Zl2 9 ?_;dsimp only [e117,Zwk,go_sem];refine ⟨by simp,?_⟩;refine Zl4 (fun (_:Unit)=>(⟨(an 23 []),[],[]⟩:St)) Zxk r ?_ fun J1=>?_
 ·rintro ⟨⟩ h;rw [Zxk] at h;(try dsimp only);refine Zl2 4 ?_;dsimp only [e117,Zwk,go_sem];refine ⟨by simp,?_⟩;exact Zx4 (res:=fun (r:Bool)=>.bv r) ok117 h
 ·refine Zl2 1 ?_;dsimp only [e117,Zwk,go_sem];refine ⟨by simp,?_⟩;refine Zm4 h (fun (x7:Int)=>(⟨(.sl 1 (List.map Z45 x1) :: .sl 1 (List.map Z45 x2) :: .iv x3::an 4 (.iv x7::an 15 [])),[],[]⟩:St)) (by simp [go_sem]) (by intro x7;first | rfl | simp [go_sem]) ?_;rintro n1 x7 y1 h hin1 hout1;rw [Zyk] at h;(try dsimp only);refine Zl2 8 ?_;dsimp only [e117,Zwk,go_sem];refine ⟨by simp,?_⟩;refine Zn4 h rfl (fun _ h=>?_) fun _ h=>?_
  ·refine Zl2 8 ?_;dsimp only [e117,Zwk,go_sem];refine ⟨by simp,?_⟩;obtain ⟨x8,ex8,h⟩:=Option.bind_eq_some_iff.1 h;refine Zq4 Z45 ex8 trivial rfl rfl rfl ?_;refine Zl2 1 ?_;dsimp only [e117,Zwk,go_sem];refine ⟨by simp,?_⟩;obtain ⟨x9,ex9,h⟩:=Option.bind_eq_some_iff.1 h;refine Zq4 Z45 ex9 trivial rfl rfl rfl ?_;refine Zl2 4 ?_;dsimp only [e117,Zwk,go_sem];refine ⟨by simp,?_⟩;refine Zn4 h rfl (fun _ h=>?_) fun _ h=>?_
   ·refine Zl2 4 ?_;dsimp only [e117,Zwk,go_sem];refine ⟨by simp,?_⟩;exact Zx4 (res:=fun (r:Bool)=>.bv r) ok117 (Zk4 h hout1)
   ·refine Zl2 7 ?_;dsimp only [e117,Zwk,go_sem];refine ⟨by simp,?_⟩;exact Zy4 h hin1
  ·refine Zl2 1 ?_;dsimp only [e117,Zwk,go_sem];refine ⟨by simp,?_⟩;exact Zz4 J1 (s:=()) (Zk4 h hout1)
set_option maxRecDepth 100000
set_option maxHeartbeats 4000000
def Z1l:EC:=.seq (.seq (.reg [(Qa 27 (.mv (.t 1))),(Qa 28 (.mv (.t 7))),(Qa 29 (.mv (.t 8))),(Qa 30 (.call 117 [(.t 27),(.t 28),(.t 29)]))]) (.ite (.t 30) (.skip) (.exit 2))) (.blk 3 (.reg [(Qa 31 (.mv (.t 8))),(Qa 32 (.bin .add (.t 31) (.c (.iv 1)))),(Qa 8 (.mv (.t 32)))]))
def Z2l:EC:=.seq (.seq (.reg [(Qa 10 (.mv (.t 6))),(Qa 11 (.fld 0 (.t 2))),(Qa 12 (.load (.t 11))),(Qa 13 (.bin .lss (.t 10) (.t 12)))]) (.ite (.t 13) (.skip) (.exit 0))) (.seq (.blk 1 (.seq (.drw [(Qa 16 (.loadA 2 (.t 2))),(Qa 17 (.mv (.t 6))),(Qa 18 (.call 115 [(.t 16),(.t 17)])),(Qa 19 (.mv (.t 1))),(Qa 20 (.mv (.t 6))),(Qa 21 (.idx 1 (.t 19) (.t 20))),(Qa 22 (.load (.t 21))),(Qa 7 (.mv (.t 18))),(Qa 8 (.mv (.t 22)))] [[],[],[0,1],[],[],[3,4],[5],[2,2,0,1,2],[6,7,0,1,2,3,4,5,6,7]] [[2],[2],[0,1,7],[5],[5],[3,4,6],[5,8],[2],[6]]) (.seq (.seq (.reg [(Qa 23 (.mv (.t 1))),(Qa 24 (.mv (.t 7))),(Qa 25 (.mv (.t 6))),(Qa 26 (.call 116 [(.t 23),(.t 24),(.t 25)]))]) (.ite (.t 26) (.seq (.reg [(Qa 8 (.mv (.c (.iv 1))))]) (.blk 2 (.loop Z1l))) (.skip))) (.reg [(Qa 33 (.mv (.t 5))),(Qa 34 (.mv (.t 8))),(Qa 35 (.bsl 3 1 1 [.iv 0] [(0,(.t 34))])),(Qa 36 (.app 3 1 8 (.t 33) (.t 35))),(Qa 5 (.mv (.t 36)))])))) (.reg [(Qa 14 (.mv (.t 6))),(Qa 15 (.bin .add (.t 14) (.c (.iv 1)))),(Qa 6 (.mv (.t 15)))]))
def e89:EC:=.seq (.reg [(Qa 2 (.box 48 2 (.t 0))),(Qa 4 (.mv (.c .nl)))]) (.seq (.reg [(Qa 9 (.bsl 3 1 0 [.iv 0] [])),(Qa 5 (.mv (.t 9)))]) (.seq (.seq (.reg [(Qa 6 (.mv (.c (.iv 0))))]) (.blk 0 (.loop Z2l))) (.seq (.reg [(Qa 37 (.mv (.t 5))),(Qa 4 (.mv (.t 37)))]) (.ret))))
theorem ok89:FnOK Tryz.prog 89 Tryz.f89 e89 [.t 4] 2 36:=⟨by kernel_rfl,⟨_,rfl,by kernel_rfl⟩,by kernel_rfl,by kernel_rfl⟩
noncomputable def Z3l:(List Int)→Option (List Int)
| x43=>
 some x43
noncomputable def Z4l (x19:Int) (x20:(List Int)):Int→Option ((Int×(List Int)) ⊕ (List Int))
| x35=>
 (Za4 8 x20 ([x35])).bind fun x36=>
 some (.inl (wr (x19+1),x36))
noncomputable def Z5l (x2:(List Int)) (x19:Int) (x20:(List Int)) (x22:(List Int)):Int→Option (Int ⊕ ((Int×(List Int)) ⊕ (List Int)))
| x26=>
 (Zzk x2 x22 x26).bind fun x27=>
 ifb x27 (
 some (.inl (wr (x26+1)))) (
 Option.map Sum.inr ((Z4l x19 x20) x26))
noncomputable def Z6l (x1:Graph) (x2:(List Int)):(Int×(List Int))→Option ((Int×(List Int)) ⊕ (List Int))
| (x19,x20)=>
 ifb (decide (x19<x1.N)) (
 (at_ x2 x19).bind fun x21=>
 (Znk x1 x19).bind fun x22=>
 (Zuk x2 x22 x19).bind fun x23=>
 ifb x23 (
 loop (Z5l x2 x19 x20 x22) 1) (
 (Z4l x19 x20) x21)) (
 Option.map Sum.inr (Z3l x20))
noncomputable def Z7l (x1:Graph) (x2:(List Int)):Option (List Int):=
 loop (Z6l x1 x2) (0,([]:List Int))
theorem Z8l (x1:Graph) (x2:(List Int)) (r:(List Int)) (h:Z7l x1 x2=some r):FunO Tryz.prog 89 [.agg (Graph.row x1),.sl 1 (List.map Z45 x2)] 3 1 (List.map Z45 r):=by
 refine Zc5 ok89 rfl fun w0 H0=>?_
 rw [Z7l] at h
 refine Zl2 15 ?_;dsimp only [e89,Z2l,Z1l,go_sem];refine ⟨by simp,?_⟩;refine Zl4 (fun (x43:(List Int))=>(⟨(an 5 (.osl 0::an 32 [])),[],[some ⟨3,1,List.map Z45 x43⟩]⟩:St)) Z3l r ?_ fun J1=>?_
 ·intro x43 h;rw [Z3l] at h;(try dsimp only);refine Zl2 5 ?_;dsimp only [e89,Z2l,Z1l,go_sem];refine ⟨by simp,?_⟩;exact Zj5 Z45 ok89 h rfl rfl
 ·refine Zl2 1 ?_;dsimp only [e89,Z2l,Z1l,go_sem];refine ⟨by simp,?_⟩;refine Zm4 h (fun ((x19,x20):(Int×(List Int)))=>(⟨(.any :: .sl 1 (List.map Z45 x2) :: .ptr 0 0 :: .any :: .any :: .osl 0 :: .iv x19::an 31 []),[some ⟨48,[.iv x1.N,.sl 2 (List.map Edge.row x1.Edges)]⟩],[some ⟨3,1,List.map Z45 x20⟩]⟩:St)) (by simp [go_sem]) (by rintro ⟨x19,x20⟩;first | rfl | simp [go_sem]) ?_;rintro n1 ⟨x19,x20⟩ y1 h hin1 hout1;rw [Z6l] at h;(try dsimp only);refine Zl2 8 ?_;dsimp only [e89,Z2l,Z1l,go_sem];refine ⟨by simp,?_⟩
  refine Zn4 h rfl (fun _ h=>?_) fun _ h=>?_
  ·refine Zl2 4 ?_;dsimp only [e89,Z2l,Z1l,go_sem];refine ⟨by simp,?_⟩;refine Zh3 (by kernel_rfl) fun all hall hs hnap haf=>?_;dsimp only [go_sem];refine Zh5 hall hs haf hnap 4 5 ?_;dsimp only [go_sem];refine ⟨by simp,?_⟩;obtain ⟨x21,ex21,h⟩:=Option.bind_eq_some_iff.1 h;refine Zr4 hall hs haf hnap 5 Z45 ex21 rfl rfl trivial rfl rfl rfl rfl ?_;refine Zh5 hall hs haf hnap 1 3 ?_;dsimp only [go_sem];refine ⟨by simp,?_⟩;refine Zt3 2 rfl ?_;obtain ⟨x22,ex22,h⟩:=Option.bind_eq_some_iff.1 h
   refine Zz3 hall rfl trivial (Zpk x1 x19 _ ex22) (h:=?_);dsimp only [go_sem];refine Zh5 hall hs haf hnap 2 0 ?_;dsimp only [go_sem];refine ⟨by simp,?_⟩;refine Zs3 rfl ?_ _;refine Zl2 6 ?_;dsimp only [e89,Z2l,Z1l,go_sem];refine ⟨by simp,?_⟩;obtain ⟨x23,ex23,h⟩:=Option.bind_eq_some_iff.1 h;refine Zz2 trivial (Zvk x2 x22 x19 _ ex23) (h:=?_);refine Zl2 1 ?_;dsimp only [e89,Z2l,Z1l,go_sem];refine ⟨by simp,?_⟩
   refine Zl4 (fun (x35:Int)=>(⟨(.any :: .sl 1 (List.map Z45 x2) :: .ptr 0 0 :: .any :: .any :: .osl 0 :: .iv x19 :: .any :: .iv x35::an 29 []),[some ⟨48,[.iv x1.N,.sl 2 (List.map Edge.row x1.Edges)]⟩],[some ⟨3,1,List.map Z45 x20⟩]⟩:St)) (Z4l x19 x20) y1 ?_ fun J2=>?_
   ·intro x35 h;rw [Z4l] at h;(try dsimp only);refine Zl2 4 ?_;dsimp only [e89,Z2l,Z1l,go_sem];refine ⟨by simp,?_⟩;obtain ⟨x36,ex36,h⟩:=Option.bind_eq_some_iff.1 h;refine Zt4 Z45 ex36 trivial rfl rfl rfl ?_;refine Zl2 8 ?_;dsimp only [e89,Z2l,Z1l,go_sem];refine ⟨by simp,?_⟩;refine Z44 2 0 rfl rfl rfl ?_;dsimp only [go_sem];exact Zy4 h hin1
   ·refine Zn4 h rfl (fun _ h=>?_) fun _ h=>?_
    ·refine Zl2 5 ?_;dsimp only [e89,Z2l,Z1l,go_sem];refine ⟨by simp,?_⟩;refine Zm4 h (fun (x26:Int)=>(⟨(.any :: .sl 1 (List.map Z45 x2) :: .ptr 0 0 :: .any :: .any :: .osl 0 :: .iv x19 :: .sl 1 (List.map Z45 x22) :: .iv x26::an 29 []),[some ⟨48,[.iv x1.N,.sl 2 (List.map Edge.row x1.Edges)]⟩],[some ⟨3,1,List.map Z45 x20⟩]⟩:St)) (by simp [go_sem]) (by intro x26;first | rfl | simp [go_sem]) ?_;rintro n2 x26 y2 h hin2 hout2;rw [Z5l] at h;(try dsimp only);refine Zl2 6 ?_;dsimp only [e89,Z2l,Z1l,go_sem]
     refine ⟨by simp,?_⟩;obtain ⟨x27,ex27,h⟩:=Option.bind_eq_some_iff.1 h;refine Zz2 trivial (Z0l x2 x22 x26 _ ex27) (h:=?_);refine Zl2 1 ?_;dsimp only [e89,Z2l,Z1l,go_sem];refine ⟨by simp,?_⟩;refine Zn4 h rfl (fun _ h=>?_) fun _ h=>?_
     ·refine Zl2 8 ?_;dsimp only [e89,Z2l,Z1l,go_sem];refine ⟨by simp,?_⟩;exact Zy4 h hin2
     ·refine Zl2 1 ?_;dsimp only [e89,Z2l,Z1l,go_sem];refine ⟨by simp,?_⟩;exact Zz4 J2 (s:=x26) (Zk4 h hout2)
    ·refine Zl2 1 ?_;dsimp only [e89,Z2l,Z1l,go_sem];refine ⟨by simp,?_⟩;exact Zz4 J2 (s:=x21) h
  ·refine Zl2 1 ?_;dsimp only [e89,Z2l,Z1l,go_sem];refine ⟨by simp,?_⟩;exact Zz4 J1 (s:=x20) (Zk4 h hout1)
theorem Z9l (x1:Graph) (x2:(List Int)) (r:(List Int)) (h:Z7l x1 x2=some r):Zq2 Tryz.prog 89 [.agg (Graph.row x1),.sl 1 (List.map Z45 x2)] (.sl 1 (List.map Z45 r)):=(Z8l x1 x2 r h).sealed
set_option maxRecDepth 100000
set_option maxHeartbeats 4000000
def Zal:EC:=.seq (.seq (.reg [(Qa 17 (.mv (.t 4))),(Qa 18 (.call 30 [(.t 17),(.c (.iv 0))]))]) (.ite (.t 18) (.skip) (.exit 2))) (.blk 3 (.seq (.reg [(Qa 19 (.loadA 2 (.t 1))),(Qa 20 (.mv (.t 4))),(Qa 21 (.call 89 [(.t 19),(.t 20)])),(Qa 4 (.mv (.t 21)))]) (.reg [(Qa 22 (.mv (.t 5))),(Qa 23 (.bin .add (.t 22) (.c (.iv 1)))),(Qa 5 (.mv (.t 23)))])))
def Zbl:EC:=.seq (.seq (.reg [(Qa 8 (.mv (.t 6))),(Qa 9 (.fld 0 (.t 1))),(Qa 10 (.load (.t 9))),(Qa 11 (.bin .lss (.t 8) (.t 10)))]) (.ite (.t 11) (.skip) (.exit 0))) (.seq (.blk 1 (.reg [(Qa 14 (.mv (.t 4))),(Qa 15 (.bsl 3 1 1 [.iv 0] [(0,(.c (.iv 0)))])),(Qa 16 (.app 3 1 8 (.t 14) (.t 15))),(Qa 4 (.mv (.t 16)))])) (.reg [(Qa 12 (.mv (.t 6))),(Qa 13 (.bin .add (.t 12) (.c (.iv 1)))),(Qa 6 (.mv (.t 13)))]))
def e58:EC:=.seq (.reg [(Qa 1 (.box 48 2 (.t 0))),(Qa 2 (.mv (.c .nl))),(Qa 3 (.mv (.c (.iv 0))))]) (.seq (.reg [(Qa 7 (.bsl 3 1 0 [.iv 0] [])),(Qa 4 (.mv (.t 7))),(Qa 5 (.mv (.c (.iv 0))))]) (.seq (.seq (.reg [(Qa 6 (.mv (.c (.iv 0))))]) (.blk 0 (.loop Zbl))) (.seq (.blk 2 (.loop Zal)) (.seq (.reg [(Qa 24 (.mv (.t 4))),(Qa 25 (.mv (.t 5))),(Qa 2 (.mv (.t 24))),(Qa 3 (.mv (.t 25)))]) (.ret)))))
theorem ok58:FnOK Tryz.prog 58 Tryz.f58 e58 [.t 2,.t 3] 1 25:=⟨by kernel_rfl,⟨_,rfl,by kernel_rfl⟩,by kernel_rfl,by kernel_rfl⟩
noncomputable def Zcl:((List Int)×Int)→Option ((List Int)×Int)
| (x27,x28)=>
 some (x27,x28)
noncomputable def Zdl (x1:Graph):((List Int)×Int)→Option (((List Int)×Int) ⊕ ((List Int)×Int))
| (x18,x19)=>
 (Zva x18 0).bind fun x20=>
 ifb x20 (
 (Z7l x1 x18).bind fun x21=>
 some (.inl (x21,wr (x19+1)))) (
 Option.map Sum.inr (Zcl (x18,x19)))
noncomputable def Zel (x1:Graph):(List Int)→Option ((List Int)×Int)
| x13=>
 loop (Zdl x1) (x13,0)
noncomputable def Zfl (x1:Graph):(Int×(List Int))→Option ((Int×(List Int)) ⊕ ((List Int)×Int))
| (x5,x6)=>
 ifb (decide (x5<x1.N)) (
 (Za4 8 x6 ([0])).bind fun x7=>
 some (.inl (wr (x5+1),x7))) (
 Option.map Sum.inr ((Zel x1) x6))
noncomputable def Zgl (x1:Graph):Option ((List Int)×Int):=
 loop (Zfl x1) (0,([]:List Int))
theorem Zhl (x1:Graph) (r:((List Int)×Int)) (h:Zgl x1=some r):Zq2 Tryz.prog 58 [.agg (Graph.row x1)] (.tup [.sl 1 (List.map Z45 r.1),.iv r.2]):=by
 refine Zu2 ok58 rfl rfl fun w0 H0=>?_
 rw [Zgl] at h
 refine Zl2 17 ?_;dsimp only [e58,Zbl,Zal,go_sem];refine ⟨by simp,?_⟩;refine Zl4 (fun (x13:(List Int))=>(⟨(.any :: .ptr 0 0 :: .any :: .any :: .osl 0 :: .iv 0::an 20 []),[some ⟨48,[.iv x1.N,.sl 2 (List.map Edge.row x1.Edges)]⟩],[some ⟨3,1,List.map Z45 x13⟩]⟩:St)) (Zel x1) r ?_ fun J1=>?_
 ·intro x13 h;rw [Zel] at h;(try dsimp only);refine Zl2 1 ?_;dsimp only [e58,Zbl,Zal,go_sem];refine ⟨by simp,?_⟩;refine Zl4 (fun ((x27,x28):((List Int)×Int))=>(⟨(an 4 (.sl 1 (List.map Z45 x27) :: .iv x28::an 20 [])),[],[]⟩:St)) Zcl r ?_ fun J2=>?_
  ·rintro ⟨x27,x28⟩ h;rw [Zcl] at h;(try dsimp only);refine Zl2 7 ?_;dsimp only [e58,Zbl,Zal,go_sem];refine ⟨by simp,?_⟩;exact Zx4 (res:=fun (r:((List Int)×Int))=>.tup [.sl 1 (List.map Z45 r.1),.iv r.2]) ok58 h
  ·refine Zl2 1 ?_;dsimp only [e58,Zbl,Zal,go_sem];refine ⟨by simp,?_⟩;refine Z83 0 rfl ?_;dsimp only [go_sem];refine Zm4 h (fun ((x18,x19):((List Int)×Int))=>(⟨(.any :: .ptr 0 0 :: .any :: .any :: .sl 1 (List.map Z45 x18) :: .iv x19::an 20 []),[some ⟨48,[.iv x1.N,.sl 2 (List.map Edge.row x1.Edges)]⟩],[]⟩:St)) (by simp [go_sem]) (by rintro ⟨x18,x19⟩;first | rfl | simp [go_sem]) ?_;rintro n1 ⟨x18,x19⟩ y1 h hin1 hout1;rw [Zdl] at h;(try dsimp only);refine Zl2 4 ?_;dsimp only [e58,Zbl,Zal,go_sem];refine ⟨by simp,?_⟩
   obtain ⟨x20,ex20,h⟩:=Option.bind_eq_some_iff.1 h;refine Zz2 trivial (k_narthexref01_Has x18 0 _ ex20) (h:=?_);refine Zl2 1 ?_;dsimp only [e58,Zbl,Zal,go_sem];refine ⟨by simp,?_⟩;refine Zn4 h rfl (fun _ h=>?_) fun _ h=>?_
   ·refine Zl2 6 ?_;dsimp only [e58,Zbl,Zal,go_sem];refine ⟨by simp,?_⟩;obtain ⟨x21,ex21,h⟩:=Option.bind_eq_some_iff.1 h;refine Zz2 trivial (Z9l x1 x18 _ ex21) (h:=?_);refine Zl2 8 ?_;dsimp only [e58,Zbl,Zal,go_sem];refine ⟨by simp,?_⟩;exact Zy4 h hin1
   ·refine Zl2 1 ?_;dsimp only [e58,Zbl,Zal,go_sem];refine ⟨by simp,?_⟩;exact Zz4 J2 (s:=(x18,x19)) (Zk4 h hout1)
 ·refine Zl2 1 ?_;dsimp only [e58,Zbl,Zal,go_sem];refine ⟨by simp,?_⟩;refine Zm4 h (fun ((x5,x6):(Int×(List Int)))=>(⟨(.any :: .ptr 0 0 :: .any :: .any :: .osl 0 :: .iv 0 :: .iv x5::an 19 []),[some ⟨48,[.iv x1.N,.sl 2 (List.map Edge.row x1.Edges)]⟩],[some ⟨3,1,List.map Z45 x6⟩]⟩:St)) (by simp [go_sem]) (by rintro ⟨x5,x6⟩;first | rfl | simp [go_sem]) ?_;rintro n1 ⟨x5,x6⟩ y1 h hin1 hout1;rw [Zfl] at h;(try dsimp only);refine Zl2 8 ?_;dsimp only [e58,Zbl,Zal,go_sem];refine ⟨by simp,?_⟩
  refine Zn4 h rfl (fun _ h=>?_) fun _ h=>?_
  ·refine Zl2 6 ?_;dsimp only [e58,Zbl,Zal,go_sem];refine ⟨by simp,?_⟩;obtain ⟨x7,ex7,h⟩:=Option.bind_eq_some_iff.1 h;refine Zt4 Z45 ex7 trivial rfl rfl rfl ?_;refine Zl2 8 ?_;dsimp only [e58,Zbl,Zal,go_sem];refine ⟨by simp,?_⟩;refine Z44 2 0 rfl rfl rfl ?_;dsimp only [go_sem];exact Zy4 h hin1
  ·refine Zl2 1 ?_;dsimp only [e58,Zbl,Zal,go_sem];refine ⟨by simp,?_⟩;exact Zz4 J1 (s:=x6) (Zk4 h hout1)
set_option maxRecDepth 100000
set_option maxHeartbeats 4000000
def e23:EC:=.seq (.reg [(Qa 1 (.box 48 2 (.t 0))),(Qa 2 (.alloc 25 [.nl,.nl]))]) (.seq (.reg [(Qa 6 (.loadA 2 (.t 1))),(Qa 7 (.call 58 [(.t 6)])),(Qa 5 (.mv (.t 7))),(Qa 8 (.ext (.t 5) 0)),(Qa 9 (.ext (.t 5) 1)),(Qa 3 (.mv (.t 8))),(Qa 4 (.mv (.t 9)))]) (.seq (.reg [(Qa 10 (.loadA 2 (.t 1))),(Qa 11 (.mv (.t 3))),(Qa 12 (.call 59 [(.t 10),(.t 11)])),(Qa 13 (.build [.nl,.nl] [(0,1,(.t 12))])),(Qb (.store 2 (.t 2) (.t 13)))]) (.ret)))
theorem ok23:FnOK Tryz.prog 23 Tryz.f23 e23 [.c 2 (some 2)] 1 13:=⟨by kernel_rfl,⟨_,rfl,by kernel_rfl⟩,by kernel_rfl,by kernel_rfl⟩
noncomputable def Zil (x1:Graph):Option Scene:=
 (Zgl x1).bind fun x2=>
 (Zsb x1 x2.1).bind fun x3=>
 some (Scene.mk x3 (([]:(List Mail))))
theorem Zjl (x1:Graph) (r:Scene) (h:Zil x1=some r):Zq2 Tryz.prog 23 [.agg (Graph.row x1)] (.agg (Scene.row r)):=by
 refine Zu2 ok23 rfl rfl fun w0 H0=>?_
 rw [Zil] at h
 refine Zl2 8 ?_;dsimp only [e23,go_sem];refine ⟨by simp,?_⟩;obtain ⟨x2,ex2,h⟩:=Option.bind_eq_some_iff.1 h;refine Zz2 trivial (Zhl x1 _ ex2) (h:=?_);refine Zl2 10 ?_;dsimp only [e23,go_sem];refine ⟨by simp,?_⟩;obtain ⟨x3,ex3,h⟩:=Option.bind_eq_some_iff.1 h;refine Zz2 trivial (k_narthexref12_Table x1 x2.1 _ ex3) (h:=?_);refine Zl2 3 ?_;dsimp only [e23,go_sem];refine ⟨by simp,?_⟩;exact Zx4 (res:=fun (r:Scene)=>.agg (Scene.row r)) ok23 h
set_option maxRecDepth 100000
set_option maxHeartbeats 4000000
def e4:EC:=.seq (.reg [(Qa 1 (.box 48 2 (.t 0))),(Qa 2 (.mv (.c .ff)))]) (.seq (.seq (.reg [(Qa 5 (.call 6 [])),(Qa 6 (.not (.t 5))),(Qa 7 (.mv (.t 6))),(Qg 8 7 false (.fld 1 (.t 1))),(Qg 9 7 false (.load (.t 8))),(Qg 10 7 false (.len (.t 9))),(Qg 11 7 false (.bin .gtr (.t 10) (.c (.iv 60)))),(Qa 12 (.pick (.t 7) (.c .tt) (.t 11))),(Qa 13 (.mv (.t 12))),(Qg 14 13 false (.fld 0 (.t 1))),(Qg 15 13 false (.load (.t 14))),(Qg 16 13 false (.bin .gtr (.t 15) (.c (.iv 24)))),(Qa 17 (.pick (.t 13) (.c .tt) (.t 16)))]) (.ite (.t 17) (.seq (.reg [(Qa 18 (.call 6 [])),(Qa 2 (.mv (.t 18)))]) (.ret)) (.skip))) (.seq (.reg [(Qa 20 (.loadA 2 (.t 1))),(Qa 21 (.call 21 [(.t 20)])),(Qa 22 (.call 20 [(.t 21)])),(Qa 19 (.mv (.t 22))),(Qa 23 (.ext (.t 19) 0)),(Qa 24 (.ext (.t 19) 1)),(Qa 3 (.alloc 25 [.nl,.nl])),(Qb (.store 2 (.t 3) (.t 23))),(Qa 4 (.mv (.t 24)))]) (.seq (.seq (.reg [(Qa 25 (.loadA 2 (.t 1))),(Qa 26 (.call 22 [(.t 25)])),(Qa 27 (.not (.t 26)))]) (.ite (.t 27) (.seq (.reg [(Qa 28 (.loadA 2 (.t 3))),(Qa 29 (.build [.nl,.nl] [])),(Qa 30 (.call 11 [(.t 28),(.t 29)])),(Qa 31 (.mv (.t 30))),(Qg 32 31 true (.mv (.t 4))),(Qg 33 31 true (.bin .eql (.t 32) (.c (.iv 30)))),(Qa 34 (.pick (.t 31) (.t 33) (.c .ff))),(Qa 2 (.mv (.t 34)))]) (.ret)) (.skip))) (.seq (.drw [(Qa 35 (.loadA 2 (.t 3))),(Qa 36 (.loadA 2 (.t 1))),(Qa 37 (.call 23 [(.t 36)])),(Qa 38 (.call 11 [(.t 35),(.t 37)])),(Qa 39 (.mv (.t 38))),(Qg 40 39 true (.mv (.t 4))),(Qg 41 39 true (.bin .eql (.t 40) (.c (.iv 0)))),(Qa 42 (.pick (.t 39) (.t 41) (.c .ff))),(Qa 43 (.mv (.t 42))),(Qg 44 43 true (.loadA 2 (.t 3))),(Qg 45 43 true (.call 9 [(.t 44)])),(Qg 46 43 true (.call 12 [(.t 45)])),(Qg 47 43 true (.bin .eql (.t 46) (.c (.iv 0)))),(Qa 48 (.pick (.t 43) (.t 47) (.c .ff))),(Qa 49 (.mv (.t 48))),(Qg 50 49 true (.loadA 2 (.t 3))),(Qg 51 49 true (.call 17 [(.t 50),(.c (.iv 0))])),(Qg 52 49 true (.len (.t 51))),(Qg 53 49 true (.fld 0 (.t 1))),(Qg 54 49 true (.load (.t 53))),(Qg 55 49 true (.bin .eql (.t 52) (.t 54))),(Qa 56 (.pick (.t 49) (.t 55) (.c .ff))),(Qa 2 (.mv (.t 56)))] [[],[],[1],[0,2,2],[3,3],[4],[5,4],[4,6],[7,4],[8],[9,8,8],[10,10,8],[11,8],[8,12],[13,11],[14],[15,14,14],[16,14],[14],[18,14],[17,19,14],[14,20],[21,16,0,1,2,3,4,5,6,7,8,9,10,11,12,13,14,15,16,17,18,19,20,21]] [[3],[2],[1,3],[0,2,4],[3,5,6,7],[4,6],[4,5,7],[4,6,8],[7,9,10,11,12,13],[8,10],[8,9,11],[8,10,12],[8,11,13],[8,12,14],[13,15,16,17,18,19,20,21],[14,16],[14,15,17],[14,16,20],[14,19],[14,18,20],[14,17,19,21],[14,20,22],[21]]) (.ret)))))
theorem ok4:FnOK Tryz.prog 4 Tryz.f4 e4 [.t 2] 1 56:=⟨by kernel_rfl,⟨_,rfl,by kernel_rfl⟩,by kernel_rfl,by kernel_rfl⟩
noncomputable def Zkl:Bool→Option Bool
| x9=>
 some x9
noncomputable def Zll:Bool→Option Bool
| x15=>
 some x15
noncomputable def Zml (x1:Graph):Bool→Option Bool
| x3=>
 ifb x3 (
 (Zfk).bind fun x4=>
 some x4) (
 (Z09 x1).bind fun x5=>
 (Zdi x5).bind fun x6=>
 (Zka x1).bind fun x7=>
 ifb (!x7) (
 (Z1h x6.1 ((Scene.mk (([]:(List Diner))) (([]:(List Mail)))))).bind fun x8=>
 ifb x8 (
 Zkl (decide (x6.2=30))) (
 Zkl false)) (
 (Zil x1).bind fun x10=>
 (Z1h x6.1 x10).bind fun x11=>
 ifb x11 (
 ifb (decide (x6.2=0)) (
 (Ztg x6.1).bind fun x12=>
 (Zgf x12).bind fun x13=>
 ifb (decide (x13=0)) (
 (Zlj x6.1 0).bind fun x14=>
 Zll (decide ((ln Z45 x14)=x1.N))) (
 Zll false)) (
 Zll false)) (
 Zll false)))
noncomputable def Znl (x1:Graph):Option Bool:=
 (Zfk).bind fun x2=>
 ifb (!x2) (
 (Zml x1) true) (
 ifb (decide (60<(ln Edge.row x1.Edges))) (
 (Zml x1) true) (
 (Zml x1) (decide (24<x1.N))))
theorem Zol (x1:Graph) (r:Bool) (h:Znl x1=some r):Zq2 Tryz.prog 4 [.agg (Graph.row x1)] (.bv r):=by
 refine Zu2 ok4 rfl rfl fun w0 H0=>?_
 rw [Znl] at h
 refine Zl2 8 ?_;dsimp only [e4,go_sem];refine ⟨by simp,?_⟩;obtain ⟨x2,ex2,h⟩:=Option.bind_eq_some_iff.1 h;refine Zz2 trivial (k_narthexlaw14_awake _ ex2) (h:=?_);refine Zl2 2 ?_;dsimp only [e4,go_sem];refine ⟨by simp,?_⟩;refine Zl4 (fun (x3:Bool)=>(⟨(.any :: .ptr 0 0::an 15 (.bv x3::an 39 [])),[some ⟨48,[.iv x1.N,.sl 2 (List.map Edge.row x1.Edges)]⟩],[]⟩:St)) (Zml x1) r ?_ fun J1=>?_
 ·intro x3 h;rw [Zml] at h;(try dsimp only);refine Zn4 h rfl (fun _ h=>?_) fun _ h=>?_
  ·refine Zl2 2 ?_;dsimp only [e4,go_sem];refine ⟨by simp,?_⟩;obtain ⟨x4,ex4,h⟩:=Option.bind_eq_some_iff.1 h;refine Zz2 trivial (k_narthexlaw14_awake _ ex4) (h:=?_);refine Zl2 2 ?_;dsimp only [e4,go_sem];refine ⟨by simp,?_⟩;exact Zx4 (res:=fun (r:Bool)=>.bv r) ok4 h
  ·refine Zl2 4 ?_;dsimp only [e4,go_sem];refine ⟨by simp,?_⟩;obtain ⟨x5,ex5,h⟩:=Option.bind_eq_some_iff.1 h;refine Zz2 trivial (Z19 x1 _ ex5) (h:=?_);obtain ⟨x6,ex6,h⟩:=Option.bind_eq_some_iff.1 h;refine Zz2 trivial (Zei x5 _ ex6) (h:=?_);refine Zl2 11 ?_;dsimp only [e4,go_sem];refine ⟨by simp,?_⟩;obtain ⟨x7,ex7,h⟩:=Option.bind_eq_some_iff.1 h;refine Zz2 trivial (Zla x1 _ ex7) (h:=?_);refine Zl2 2 ?_;dsimp only [e4,go_sem];refine ⟨by simp,?_⟩;refine Zn4 h rfl (fun _ h=>?_) fun _ h=>?_
   ·refine Zl2 4 ?_;dsimp only [e4,go_sem];refine ⟨by simp,?_⟩;obtain ⟨x8,ex8,h⟩:=Option.bind_eq_some_iff.1 h;refine Zz2 trivial (k_narthexref14_Same x6.1 ((Scene.mk (([]:(List Diner))) (([]:(List Mail))))) _ ex8) (h:=?_);refine Zl2 1 ?_;dsimp only [e4,go_sem];refine ⟨by simp,?_⟩;refine Zl4 (fun (x9:Bool)=>(⟨(.any :: .any :: .bv x9::an 54 []),[],[]⟩:St)) Zkl r ?_ fun J2=>?_
    ·intro x9 h;rw [Zkl] at h;(try dsimp only);exact Zx4 (res:=fun (r:Bool)=>.bv r) ok4 h
    ·refine Zw4 31 h rfl (fun _ h=>?_) fun _ h=>?_
     ·dsimp only [go_sem];refine Zl2 5 ?_;dsimp only [e4,go_sem];refine ⟨by simp,?_⟩;exact Zz4 J2 (s:=decide (x6.2=30)) h
     ·dsimp only [go_sem];refine Zl2 5 ?_;dsimp only [e4,go_sem];refine ⟨by simp,?_⟩;exact Zz4 J2 (s:=false) h
   ·refine Zl2 2 ?_;dsimp only [e4,go_sem];refine ⟨by simp,?_⟩;refine Zl4 (fun (x15:Bool)=>(⟨(.any :: .any :: .bv x15::an 54 []),[],[]⟩:St)) Zll r ?_ fun J3=>?_
    ·intro x15 h;rw [Zll] at h;(try dsimp only);exact Zx4 (res:=fun (r:Bool)=>.bv r) ok4 h
    ·refine Zh3 (by kernel_rfl) fun all hall hs hnap haf=>?_;dsimp only [go_sem];refine Zh5 hall hs haf hnap 2 21 ?_;dsimp only [go_sem];refine ⟨by simp,?_⟩;refine Zt3 2 rfl ?_;obtain ⟨x10,ex10,h⟩:=Option.bind_eq_some_iff.1 h;refine Zz3 hall rfl trivial (Zjl x1 _ ex10) (h:=?_);dsimp only [go_sem];refine Zt3 3 rfl ?_;obtain ⟨x11,ex11,h⟩:=Option.bind_eq_some_iff.1 h;refine Zz3 hall rfl trivial (k_narthexref14_Same x6.1 x10 _ ex11) (h:=?_);dsimp only [go_sem];refine Zh5 hall hs haf hnap 1 18 ?_;dsimp only [go_sem]
     refine ⟨by simp,?_⟩;refine Z75 39 h rfl (fun _ h=>?_) fun _ h=>?_
     ·dsimp only [go_sem]
      refine Zi5 hall hs haf hnap 4 14 [true,true,true,true,true,true,true,true,true,false,false,false,false,false,false,false,false,false,false,false,false,false,false] (⟨(.any :: .ptr 0 0 :: .any :: .ptr 1 0 :: .iv x6.2::an 12 (.bv x3 :: .any :: .tup [.agg [.sl 3 (List.map Diner.row x6.1.Diners),.sl 5 (List.map Mail.row x6.1.Mail)],.iv x6.2] :: .agg [.iv x1.N,.sl 2 (List.map Edge.row x1.Edges)] :: .agg [.iv x5.N,.sl 2 (List.map Edge.row x5.Edges)] :: .tup [.agg [.sl 3 (List.map Diner.row x6.1.Diners),.sl 5 (List.map Mail.row x6.1.Mail)],.iv x6.2] :: .agg [.sl 3 (List.map Diner.row x6.1.Diners),.sl 5 (List.map Mail.row x6.1.Mail)] :: .iv x6.2 :: .agg [.iv x1.N,.sl 2 (List.map Edge.row x1.Edges)] :: .bv x7 :: .bv (!x7)::an 7 (.agg [.sl 3 (List.map Diner.row x6.1.Diners),.sl 5 (List.map Mail.row x6.1.Mail)] :: .agg [.iv x1.N,.sl 2 (List.map Edge.row x1.Edges)] :: .agg [.sl 3 (List.map Diner.row x10.Diners),.sl 5 (List.map Mail.row x10.Mail)] :: .bv x11 :: .tt :: .iv x6.2 :: .bv (decide (x6.2=0)) :: .bv (decide (x6.2=0)) :: .bv (decide (x6.2=0))::an 13 []))),[some ⟨48,[.iv x1.N,.sl 2 (List.map Edge.row x1.Edges)]⟩,some ⟨25,[.sl 3 (List.map Diner.row x6.1.Diners),.sl 5 (List.map Mail.row x6.1.Mail)]⟩],[]⟩:St) (by kernel_rfl) ?_
      refine Z75 43 h rfl (fun _ h=>?_) fun _ h=>?_
      ·dsimp only [go_sem];refine Zh5 hall hs haf hnap 1 13 ?_;dsimp only [go_sem];refine ⟨by simp,?_⟩;refine Zt3 10 rfl ?_;obtain ⟨x12,ex12,h⟩:=Option.bind_eq_some_iff.1 h;refine Zz3 hall rfl trivial (Zug x6.1 _ ex12) (h:=?_);dsimp only [go_sem];refine Zt3 11 rfl ?_;obtain ⟨x13,ex13,h⟩:=Option.bind_eq_some_iff.1 h;refine Zz3 hall rfl trivial (Zhf x12 _ ex13) (h:=?_);dsimp only [go_sem]
       refine Zi5 hall hs haf hnap 3 8 [true,true,true,true,true,true,true,true,true,true,true,true,true,true,true,false,false,false,false,false,false,false,false] (⟨(.any :: .ptr 0 0 :: .any :: .ptr 1 0 :: .iv x6.2::an 12 (.bv x3 :: .any :: .tup [.agg [.sl 3 (List.map Diner.row x6.1.Diners),.sl 5 (List.map Mail.row x6.1.Mail)],.iv x6.2] :: .agg [.iv x1.N,.sl 2 (List.map Edge.row x1.Edges)] :: .agg [.iv x5.N,.sl 2 (List.map Edge.row x5.Edges)] :: .tup [.agg [.sl 3 (List.map Diner.row x6.1.Diners),.sl 5 (List.map Mail.row x6.1.Mail)],.iv x6.2] :: .agg [.sl 3 (List.map Diner.row x6.1.Diners),.sl 5 (List.map Mail.row x6.1.Mail)] :: .iv x6.2 :: .agg [.iv x1.N,.sl 2 (List.map Edge.row x1.Edges)] :: .bv x7 :: .bv (!x7)::an 7 (.agg [.sl 3 (List.map Diner.row x6.1.Diners),.sl 5 (List.map Mail.row x6.1.Mail)] :: .agg [.iv x1.N,.sl 2 (List.map Edge.row x1.Edges)] :: .agg [.sl 3 (List.map Diner.row x10.Diners),.sl 5 (List.map Mail.row x10.Mail)] :: .bv x11 :: .tt :: .iv x6.2 :: .bv (decide (x6.2=0)) :: .bv (decide (x6.2=0)) :: .tt :: .agg [.sl 3 (List.map Diner.row x6.1.Diners),.sl 5 (List.map Mail.row x6.1.Mail)] :: .agg [.sl 3 (List.map Diner.row x12.Diners),.sl 5 (List.map Mail.row x12.Mail)] :: .iv x13 :: .bv (decide (x13=0)) :: .bv (decide (x13=0)) :: .bv (decide (x13=0))::an 7 []))),[some ⟨48,[.iv x1.N,.sl 2 (List.map Edge.row x1.Edges)]⟩,some ⟨25,[.sl 3 (List.map Diner.row x6.1.Diners),.sl 5 (List.map Mail.row x6.1.Mail)]⟩],[]⟩:St) (by kernel_rfl) ?_
       refine Z75 49 h rfl (fun _ h=>?_) fun _ h=>?_
       ·dsimp only [go_sem]
        refine Zi5 hall hs haf hnap 3 5 [true,true,true,true,true,true,true,true,true,true,true,true,true,true,true,true,false,false,true,true,false,false,false] (⟨(.any :: .ptr 0 0 :: .any :: .ptr 1 0 :: .iv x6.2::an 12 (.bv x3 :: .any :: .tup [.agg [.sl 3 (List.map Diner.row x6.1.Diners),.sl 5 (List.map Mail.row x6.1.Mail)],.iv x6.2] :: .agg [.iv x1.N,.sl 2 (List.map Edge.row x1.Edges)] :: .agg [.iv x5.N,.sl 2 (List.map Edge.row x5.Edges)] :: .tup [.agg [.sl 3 (List.map Diner.row x6.1.Diners),.sl 5 (List.map Mail.row x6.1.Mail)],.iv x6.2] :: .agg [.sl 3 (List.map Diner.row x6.1.Diners),.sl 5 (List.map Mail.row x6.1.Mail)] :: .iv x6.2 :: .agg [.iv x1.N,.sl 2 (List.map Edge.row x1.Edges)] :: .bv x7 :: .bv (!x7)::an 7 [.agg [.sl 3 (List.map Diner.row x6.1.Diners),.sl 5 (List.map Mail.row x6.1.Mail)],.agg [.iv x1.N,.sl 2 (List.map Edge.row x1.Edges)],.agg [.sl 3 (List.map Diner.row x10.Diners),.sl 5 (List.map Mail.row x10.Mail)],.bv x11,.tt,.iv x6.2,.bv (decide (x6.2=0)),.bv (decide (x6.2=0)),.tt,.agg [.sl 3 (List.map Diner.row x6.1.Diners),.sl 5 (List.map Mail.row x6.1.Mail)],.agg [.sl 3 (List.map Diner.row x12.Diners),.sl 5 (List.map Mail.row x12.Mail)],.iv x13,.bv (decide (x13=0)),.bv (decide (x13=0)),.tt,.agg [.sl 3 (List.map Diner.row x6.1.Diners),.sl 5 (List.map Mail.row x6.1.Mail)],.any,.any,.ptr 0 0,.iv x1.N,.any,.any])),[some ⟨48,[.iv x1.N,.sl 2 (List.map Edge.row x1.Edges)]⟩,some ⟨25,[.sl 3 (List.map Diner.row x6.1.Diners),.sl 5 (List.map Mail.row x6.1.Mail)]⟩],[]⟩:St) (by kernel_rfl) ?_
        refine Zt3 16 rfl ?_;obtain ⟨x14,ex14,h⟩:=Option.bind_eq_some_iff.1 h;refine Zz3 hall rfl trivial (Znj x6.1 0 _ ex14) (h:=?_);dsimp only [go_sem]
        refine Zi5 hall hs haf hnap 4 0 [true,true,true,true,true,true,true,true,true,true,true,true,true,true,true,true,true,true,true,true,true,true,true] (⟨(.any :: .ptr 0 0 :: .bv (decide ((ln Z45 x14)=x1.N)) :: .ptr 1 0 :: .iv x6.2::an 12 (.bv x3 :: .any :: .tup [.agg [.sl 3 (List.map Diner.row x6.1.Diners),.sl 5 (List.map Mail.row x6.1.Mail)],.iv x6.2] :: .agg [.iv x1.N,.sl 2 (List.map Edge.row x1.Edges)] :: .agg [.iv x5.N,.sl 2 (List.map Edge.row x5.Edges)] :: .tup [.agg [.sl 3 (List.map Diner.row x6.1.Diners),.sl 5 (List.map Mail.row x6.1.Mail)],.iv x6.2] :: .agg [.sl 3 (List.map Diner.row x6.1.Diners),.sl 5 (List.map Mail.row x6.1.Mail)] :: .iv x6.2 :: .agg [.iv x1.N,.sl 2 (List.map Edge.row x1.Edges)] :: .bv x7 :: .bv (!x7)::an 7 [.agg [.sl 3 (List.map Diner.row x6.1.Diners),.sl 5 (List.map Mail.row x6.1.Mail)],.agg [.iv x1.N,.sl 2 (List.map Edge.row x1.Edges)],.agg [.sl 3 (List.map Diner.row x10.Diners),.sl 5 (List.map Mail.row x10.Mail)],.bv x11,.tt,.iv x6.2,.bv (decide (x6.2=0)),.bv (decide (x6.2=0)),.tt,.agg [.sl 3 (List.map Diner.row x6.1.Diners),.sl 5 (List.map Mail.row x6.1.Mail)],.agg [.sl 3 (List.map Diner.row x12.Diners),.sl 5 (List.map Mail.row x12.Mail)],.iv x13,.bv (decide (x13=0)),.bv (decide (x13=0)),.tt,.agg [.sl 3 (List.map Diner.row x6.1.Diners),.sl 5 (List.map Mail.row x6.1.Mail)],.sl 1 (List.map Z45 x14),.iv (ln Z45 x14),.ptr 0 0,.iv x1.N,.bv (decide ((ln Z45 x14)=x1.N)),.bv (decide ((ln Z45 x14)=x1.N))])),[some ⟨48,[.iv x1.N,.sl 2 (List.map Edge.row x1.Edges)]⟩,some ⟨25,[.sl 3 (List.map Diner.row x6.1.Diners),.sl 5 (List.map Mail.row x6.1.Mail)]⟩],[]⟩:St) (by kernel_rfl) ?_
        refine Zs3 rfl ?_ _;exact Zz4 J3 (s:=decide ((ln Z45 x14)=x1.N)) h
       ·dsimp only [go_sem]
        refine Zi5 hall hs haf hnap 8 0 [true,true,true,true,true,true,true,true,true,true,true,true,true,true,true,true,true,true,true,true,true,true,true] (⟨(.any :: .ptr 0 0 :: .ff :: .ptr 1 0 :: .iv x6.2::an 12 (.bv x3 :: .any :: .tup [.agg [.sl 3 (List.map Diner.row x6.1.Diners),.sl 5 (List.map Mail.row x6.1.Mail)],.iv x6.2] :: .agg [.iv x1.N,.sl 2 (List.map Edge.row x1.Edges)] :: .agg [.iv x5.N,.sl 2 (List.map Edge.row x5.Edges)] :: .tup [.agg [.sl 3 (List.map Diner.row x6.1.Diners),.sl 5 (List.map Mail.row x6.1.Mail)],.iv x6.2] :: .agg [.sl 3 (List.map Diner.row x6.1.Diners),.sl 5 (List.map Mail.row x6.1.Mail)] :: .iv x6.2 :: .agg [.iv x1.N,.sl 2 (List.map Edge.row x1.Edges)] :: .bv x7 :: .bv (!x7)::an 7 [.agg [.sl 3 (List.map Diner.row x6.1.Diners),.sl 5 (List.map Mail.row x6.1.Mail)],.agg [.iv x1.N,.sl 2 (List.map Edge.row x1.Edges)],.agg [.sl 3 (List.map Diner.row x10.Diners),.sl 5 (List.map Mail.row x10.Mail)],.bv x11,.tt,.iv x6.2,.bv (decide (x6.2=0)),.bv (decide (x6.2=0)),.tt,.agg [.sl 3 (List.map Diner.row x6.1.Diners),.sl 5 (List.map Mail.row x6.1.Mail)],.agg [.sl 3 (List.map Diner.row x12.Diners),.sl 5 (List.map Mail.row x12.Mail)],.iv x13,.bv (decide (x13=0)),.bv (decide (x13=0)),.ff,.un,.un,.un,.un,.un,.un,.ff])),[some ⟨48,[.iv x1.N,.sl 2 (List.map Edge.row x1.Edges)]⟩,some ⟨25,[.sl 3 (List.map Diner.row x6.1.Diners),.sl 5 (List.map Mail.row x6.1.Mail)]⟩],[]⟩:St) (by kernel_rfl) ?_
        refine Zs3 rfl ?_ _;exact Zz4 J3 (s:=false) h
      ·dsimp only [go_sem]
       refine Zi5 hall hs haf hnap 14 0 [true,true,true,true,true,true,true,true,true,true,true,true,true,true,true,true,true,true,true,true,true,true,true] (⟨(.any :: .ptr 0 0 :: .ff :: .ptr 1 0 :: .iv x6.2::an 12 (.bv x3 :: .any :: .tup [.agg [.sl 3 (List.map Diner.row x6.1.Diners),.sl 5 (List.map Mail.row x6.1.Mail)],.iv x6.2] :: .agg [.iv x1.N,.sl 2 (List.map Edge.row x1.Edges)] :: .agg [.iv x5.N,.sl 2 (List.map Edge.row x5.Edges)] :: .tup [.agg [.sl 3 (List.map Diner.row x6.1.Diners),.sl 5 (List.map Mail.row x6.1.Mail)],.iv x6.2] :: .agg [.sl 3 (List.map Diner.row x6.1.Diners),.sl 5 (List.map Mail.row x6.1.Mail)] :: .iv x6.2 :: .agg [.iv x1.N,.sl 2 (List.map Edge.row x1.Edges)] :: .bv x7 :: .bv (!x7)::an 7 [.agg [.sl 3 (List.map Diner.row x6.1.Diners),.sl 5 (List.map Mail.row x6.1.Mail)],.agg [.iv x1.N,.sl 2 (List.map Edge.row x1.Edges)],.agg [.sl 3 (List.map Diner.row x10.Diners),.sl 5 (List.map Mail.row x10.Mail)],.bv x11,.tt,.iv x6.2,.bv (decide (x6.2=0)),.bv (decide (x6.2=0)),.ff,.un,.un,.un,.un,.ff,.ff,.un,.un,.un,.un,.un,.un,.ff])),[some ⟨48,[.iv x1.N,.sl 2 (List.map Edge.row x1.Edges)]⟩,some ⟨25,[.sl 3 (List.map Diner.row x6.1.Diners),.sl 5 (List.map Mail.row x6.1.Mail)]⟩],[]⟩:St) (by kernel_rfl) ?_
       refine Zs3 rfl ?_ _;exact Zz4 J3 (s:=false) h
     ·dsimp only [go_sem]
      refine Zi5 hall hs haf hnap 18 0 [true,true,true,true,true,true,true,true,true,true,true,true,true,true,true,true,true,true,true,true,true,true,true] (⟨(.any :: .ptr 0 0 :: .ff :: .ptr 1 0 :: .iv x6.2::an 12 (.bv x3 :: .any :: .tup [.agg [.sl 3 (List.map Diner.row x6.1.Diners),.sl 5 (List.map Mail.row x6.1.Mail)],.iv x6.2] :: .agg [.iv x1.N,.sl 2 (List.map Edge.row x1.Edges)] :: .agg [.iv x5.N,.sl 2 (List.map Edge.row x5.Edges)] :: .tup [.agg [.sl 3 (List.map Diner.row x6.1.Diners),.sl 5 (List.map Mail.row x6.1.Mail)],.iv x6.2] :: .agg [.sl 3 (List.map Diner.row x6.1.Diners),.sl 5 (List.map Mail.row x6.1.Mail)] :: .iv x6.2 :: .agg [.iv x1.N,.sl 2 (List.map Edge.row x1.Edges)] :: .bv x7 :: .bv (!x7)::an 7 [.agg [.sl 3 (List.map Diner.row x6.1.Diners),.sl 5 (List.map Mail.row x6.1.Mail)],.agg [.iv x1.N,.sl 2 (List.map Edge.row x1.Edges)],.agg [.sl 3 (List.map Diner.row x10.Diners),.sl 5 (List.map Mail.row x10.Mail)],.bv x11,.ff,.un,.un,.ff,.ff,.un,.un,.un,.un,.ff,.ff,.un,.un,.un,.un,.un,.un,.ff])),[some ⟨48,[.iv x1.N,.sl 2 (List.map Edge.row x1.Edges)]⟩,some ⟨25,[.sl 3 (List.map Diner.row x6.1.Diners),.sl 5 (List.map Mail.row x6.1.Mail)]⟩],[]⟩:St) (by kernel_rfl) ?_
      refine Zs3 rfl ?_ _;exact Zz4 J3 (s:=false) h
 ·refine Zw4 7 h rfl (fun _ h=>?_) fun _ h=>?_
  ·dsimp only [go_sem];refine Zl2 11 ?_;dsimp only [e4,go_sem];refine ⟨by simp,?_⟩;exact Zz4 J1 (s:=true) h
  ·dsimp only [go_sem];refine Zl2 6 ?_;dsimp only [e4,go_sem];refine ⟨by simp,?_⟩;refine Zw4 13 h rfl (fun _ h=>?_) fun _ h=>?_
   ·dsimp only [go_sem];refine Zl2 5 ?_;dsimp only [e4,go_sem];refine ⟨by simp,?_⟩;exact Zz4 J1 (s:=true) h
   ·dsimp only [go_sem];refine Zl2 5 ?_;dsimp only [e4,go_sem];refine ⟨by simp,?_⟩;exact Zz4 J1 (s:=decide (24<x1.N)) h
theorem s_used {g:Graph} (hg:okG g=true) {c:List Int} (hc:(c.length:Int)=g.N) (a:Int) (k:Nat):Zzk c (Zwb g a) k=some (Z7i c (Zwb g a) k):=by
 have hl:=Zyb g a
 have h3:=(Zp7 hg).2.2.1
 have:=Zz5 (Zwb g a) (Zyk c (Zwb g a) k) (fun b=>decide (cg c b=(k:Int))) true false (by omega) (fun i b hb=>by
  have hx:b∈Zwb g a:=List.mem_iff_getElem?.2 ⟨_,hb⟩
  obtain ⟨b1,b2,_⟩:=Z0c hg hx
  dsimp only [Zyk]
  rw [Zq5 hb,Zk5,Zo5 hb,Option.bind_some,at_cg (c:=c) b1 (by omega),Option.bind_some]
  cases decide (cg c b=(k:Int)) with
  | true=>rfl
  | false=>rw [Zl5,Zt5 hb (by omega)];rfl) (by
  dsimp only [Zyk]
  rw [Zr5,Zl5];rfl)
 unfold Zzk Z7i
 rw [this]
 cases (Zwb g a).any fun b=>decide (cg c b=(k:Int))<;>rfl
theorem s_turn11 {g:Graph} (hg:okG g=true) {c:List Int} (hc:(c.length:Int)=g.N) {a:Int} (h0:0≤a) (h1:a<g.N):Zuk c (Zwb g a) a=some (Z9i c (Zwb g a) a):=by
 have hl:=Zyb g a
 have h3:=(Zp7 hg).2.2.1
 have:=Z29 (Zwb g a) (Ztk c (Zwb g a) a) (fun pre=>(pre.length:Int)) (fun _ post=>some (decide (cg c a=0)&&!post.any fun b=>decide (cg c b=0)&&decide (a<b))) (fun pre b post h=>by
  have hx:=Z49 h
  have hm:=Z59 h
  obtain ⟨b1,b2,_⟩:=Z0c hg (mid_mem h)
  dsimp only [Ztk]
  rw [Zq5 hx,Zk5,Zo5 hx,Option.bind_some,Option.bind_some,at_cg (c:=c) b1 (by omega),Option.bind_some,List.any_cons]
  by_cases q1:a<b
  ·rw [decide_eq_true q1,Zk5]
   by_cases q2:cg c b=0
   ·rw [decide_eq_true q2]
    exact .inr ⟨false,rfl,by simp⟩
   ·rw [decide_eq_false q2]
    left
    dsimp only [Zsk]
    rw [Zl5,Zs5 (by omega),Z79]
    exact ⟨rfl,by simp⟩
  ·rw [decide_eq_false q1,Zl5]
   left
   dsimp only [Zsk]
   rw [Zl5,Zs5 (by omega),Z79]
   exact ⟨rfl,by simp⟩) (by
  dsimp only [Ztk]
  rw [Zr5,Zl5]
  dsimp only [Zrk]
  rw [at_cg (c:=c) h0 (by omega),Option.bind_some]
  simp)
 exact this
theorem s_r03Near (g:Graph) (hg:okG g=true) (a:Int):Znk g a=some (Zwb g a):=by
 obtain ⟨g1,g2,g3,_,_⟩:=Zp7 hg
 rw [near_filter hg]
 refine Z89 g.N.toNat (Zmk g a) (fun k=>((k:Int),((List.range k).map (fun k:Nat=>(k:Int))).filter (fun b=>hasB g a b))) _ (fun k hk=>?_) ?_
 ·have hlen:(((List.range k).map (fun k:Nat=>(k:Int))).filter (fun b=>hasB g a b)).length≤64:=by
   have:=List.length_filter_le (fun b=>hasB g a b) ((List.range k).map (fun k:Nat=>(k:Int)))
   simp only [List.length_map,List.length_range] at this
   omega
  dsimp only [Zmk]
  rw [decide_eq_true (by omega),Zk5,s_r03Check,hg,Option.bind_some]
  dsimp only [Zlk]
  rw [Zk5,s_r03Has g a k (by omega),Option.bind_some,Z6c]
  cases hh:hasB g a k with
  | false=>
    rw [Zl5]
    dsimp only [Zkk]
    rw [Zs5 (by omega)];simp
  | true=>
    rw [Zk5,Zp5 _ _ (by omega) (by simp only [List.length_singleton];omega),Option.bind_some]
    dsimp only [Zkk]
    rw [Zs5 (by omega)];simp
 ·dsimp only [Zmk]
  rw [decide_eq_false (by omega),Zl5]
  rfl
theorem s_r11Round (g:Graph) (hg:okG g=true) (c:List Int) (hc:ColI g c):Z7l g c=some (Zai g c):=by
 obtain ⟨g1,g2,g3,_,_⟩:=Zp7 hg
 have hlen:=hc.len
 refine Z89 g.N.toNat (Z6l g c) (fun k=>((k:Int),(List.range k).map (newC g c))) (Zai g c) (fun k hk=>?_) ?_
 ·dsimp only [Z6l]
  rw [decide_eq_true (by omega),Zk5,at_cg (c:=c) (Int.natCast_nonneg k) (by omega),Option.bind_some,s_r03Near g hg,Option.bind_some,s_turn11 hg hlen (Int.natCast_nonneg k) (by omega),Option.bind_some,Z4c]
  have fin:∀z,Z4l (k:Int) ((List.range k).map (newC g c)) z=some (.inl (((k+1:Nat):Int),(List.range k).map (newC g c)++[z])):=fun z=>by
   dsimp only [Z4l]
   rw [Zp5 _ _ (by omega) (by simp only [List.length_map,List.length_range,List.length_singleton];omega),Option.bind_some,Zs5 (by omega)]
  have en:newC g c k=if Z9i c (Zwb g k) k then (Z8i c (Zwb g k):Int) else cg c k:=rfl
  rw [en]
  cases ht:Z9i c (Zwb g k) k with
  | false=>rw [Zl5,fin];simp
  | true=>
    rw [Zk5,if_pos rfl]
    have h201:Z7i c (Zwb g k) 201=false:=by
     unfold Z7i
     rw [List.any_eq_false]
     intro b hb
     obtain ⟨b1,b2,_⟩:=Z0c hg hb
     have:=hc.hi _ (cg_mem (c:=c) b1 (by rw [hc.len];exact b2))
     simp;omega
    have key:∀f j:Nat,j+f=201→loop (Z5l c k ((List.range k).map (newC g c)) (Zwb g k)) (j:Int)=some (.inl (((k+1:Nat):Int),(List.range k).map (newC g c)++[(lsf (fun k'=>!Z7i c (Zwb g k) k') f j:Int)])):=by
     intro f
     induction f with
     | zero=>
       intro j hj
       have:j=201:=by omega
       subst this
       rw [Ze4]
       dsimp only [Z5l]
       rw [s_used hg hlen,Option.bind_some,h201,Zl5,fin];rfl
     | succ f ih=>
       intro j hj
       rw [Ze4]
       dsimp only [Z5l]
       rw [s_used hg hlen,Option.bind_some]
       cases hu:Z7i c (Zwb g k) j with
       | true=>
         rw [Zk5,Zs5 (by omega)]
         dsimp only
         rw [ih (j+1) (by omega)]
         simp [lsf,hu]
       | false=>
         rw [Zl5,fin]
         simp [lsf,hu]
    exact key 200 1 rfl
 ·dsimp only [Z6l]
  rw [decide_eq_false (by omega),Zl5]
  rfl
theorem run11_loop {g:Graph} (hg:okG g=true):∀(f:Nat) (c:List Int) (n:Nat),ColN g c n→zeros g c≤f→n+f≤100→loop (Zdl g) (c,(n:Int))=some ((runL g f c n).1,(runL g f c n).2):=by
 obtain ⟨g1,g2,g3,g4,g5⟩:=Zp7 hg
 have stop:∀(c:List Int) (n:Nat),ColN g c n→(0:Int)∉c→loop (Zdl g) (c,(n:Int))=some (c,(n:Int)):=fun c n hc h0=>by
  have hl:=hc.len
  rw [Ze4]
  dsimp only [Zdl]
  rw [s_r01Has c 0 (by omega),Option.bind_some,decide_eq_false h0,Zl5]
  rfl
 intro f
 induction f with
 | zero=>
   intro c n hc hz _
   have h0:(0:Int)∉c:=fun h=>by have:=zeros_pos hc h;omega
   exact stop c n hc h0
 | succ f ih=>
   intro c n hc hz hn
   have hl:=hc.len
   simp only [runL]
   by_cases h0:(0:Int)∈c
   ·rw [if_pos h0,Ze4]
    dsimp only [Zdl]
    rw [s_r01Has c 0 (by omega),Option.bind_some,decide_eq_true h0,Zk5,s_r11Round g hg c (hc.I (by omega)),Option.bind_some,Zs5 (by omega)]
    have:=Zii hg hc (by omega) h0
    exact ih (Zai g c) (n+1) (hc.round hg (by omega)) (by omega) (by omega)
   ·rw [if_neg h0];exact stop c n hc h0
theorem s_r11Run (g:Graph) (hg:okG g=true):Zgl g=some (Zji g,(runL g 64 (c0 g) 0).2):=by
 obtain ⟨g1,g2,_⟩:=Zp7 hg
 have:=loop_natI g.N.toNat (Zfl g) (fun k=>((k:Int),List.replicate k 0)) (fun _=>loop (Zdl g) (c0 g,0)) (fun k hk=>.inl ⟨by
  dsimp only [Zfl]
  rw [decide_eq_true (by omega),Zk5,Zp5 _ _ (by omega) (by simp only [List.length_replicate,List.length_singleton];omega),Option.bind_some,Zs5 (by omega),List.replicate_succ'],rfl⟩) (by
  dsimp only [Zfl]
  rw [decide_eq_false (by omega),Zl5];rfl)
 have e:Zgl g=loop (Zdl g) (c0 g,0):=this
 rw [e]
 exact run11_loop hg 64 (c0 g) 0 (c0_ok hg) (zeros64 hg _) (by omega)
theorem phases_T (g:Graph) (hg:okG g=true) (c:List Int):((Z0k (Z3c g c) 0).length:Int)=g.N:=by
 have h:(Z3c g c).filter (fun d=>decide (d.Phase=0))=Z3c g c:=by
  rw [List.filter_eq_self]
  intro d hd
  obtain ⟨a,_,rfl⟩:=List.mem_map.1 hd
  rfl
 unfold Z0k
 rw [h,List.length_map]
 exact Z8c hg c
theorem Zpl (g:Graph):Znl g=some true:=by
 have yes:Zml g true=some true:=by
  simp only [Zml,Zk5,s_awake14,Option.bind_some]
 have no:g.Edges.length≤60→g.N≤24→Zml g false=some true:=fun h1 h2=>by
  dsimp only [Zml]
  rw [Zl5,s_Own03 g (by omega),Option.bind_some,s_New,Option.bind_some,s_r03Check,Option.bind_some]
  cases hg:okG g with
  | false=>
    rw [if_neg (by simp),Bool.not_false,Zk5]
    have e:Z1h ⟨[],[]⟩ ⟨[],[]⟩=some true:=by
     have:=s_Same14 Z6h Z6h ⟨by simp [Z6h],by simp [Z6h]⟩ (by simp [Z6h])
     rwa [decide_eq_true rfl] at this
    rw [e];rfl
  | true=>
    have hI:=Inv.first hg
    have hr:=(Zki hg).1
    rw [if_pos rfl,Bool.not_true,Zl5]
    have e1:Zil g=some (Zli g):=by
     simp only [Zil,s_r11Run g hg,Option.bind_some,s_r12Table g hg _ hr];rfl
    have hM:(Zli g).Mail.length=0:=rfl
    rw [e1,Option.bind_some,s_Same14 _ _ (hI.few hg) (by omega),Option.bind_some,decide_eq_true rfl,Zk5,decide_eq_true rfl,Zk5,s_own14 _ (hI.few hg) (by omega),Option.bind_some,s_tCheck _ (hI.few hg) (by omega),hI.ok hg (by omega),Option.bind_some,
     if_pos rfl,decide_eq_true rfl,Zk5,s_Phases _ _ (hI.few hg),Option.bind_some,Z65,show (Zli g).Diners=Z3c g (Zji g) from rfl,decide_eq_true (phases_T g hg (Zji g))]
    rfl
 simp only [Znl,s_awake14,Option.bind_some,Bool.not_true,Zl5,Z65,yes]
 by_cases h1:(60:Int)<g.Edges.length
 ·rw [decide_eq_true h1];rfl
 ·rw [decide_eq_false h1,Zl5]
  by_cases h2:24<g.N
  ·rw [decide_eq_true h2];exact yes
  ·rw [decide_eq_false h2];exact no (by omega) (by omega)
end NX
end Go.Proofs.YtadebhbiglmodaaGreat
