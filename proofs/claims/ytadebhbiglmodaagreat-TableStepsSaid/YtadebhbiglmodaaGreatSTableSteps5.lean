/-
  From what a machine computes to what a row says: arguments as data, and what is left of them. No statement of the seat is proved here.
-/
import Derived.ProofKit
import Derived.OpenShut
import Derived.Carry
import Derived.KernelRfl
import Derived.Test.YtadebhbiglmodaaGreatS1
import Derived.Test.YtadebhbiglmodaaGreatS2
namespace Go.Proofs.YtadebhbiglmodaaGreat
namespace NX
open Go Go.RowKit Go.ChangeShapes Go.WideShapes
def Opn (P:Program) (t:TypeId) {α:Type} (row:α→List AV):Prop:=
 ∀ {H:Type} (enc:TypeId×Value→H) (w:World) (base:Nat) (sp:Nat→Bool) (held:Bool) (fuel:Nat) (cs:List Value) (x:DataW H×List MemPlace),
   DataW.trod enc P w base sp held fuel t cs=some x→∃v:α,AV.isL (Z0 fun k=>w.heap[k]?) (row v) cs
theorem Zgk {P:Program} {t:TypeId} (ht:P.underlying t=some (.int .i64)):Opn P t Z45:=by
 intro H enc w base sp held fuel cs x h
 obtain ⟨n,rfl,_,_⟩:=DataW.trod_int ht h
 exact ⟨n,_,_,rfl,rfl,rfl⟩
theorem Zhk {P:Program} {t:TypeId} (ht:P.underlying t=some .bool):Opn P t boolRow:=by
 intro H enc w base sp held fuel cs x h
 obtain ⟨n,rfl,_⟩:=DataW.trod_bool ht h
 exact ⟨n,_,_,rfl,rfl,rfl⟩
theorem opn_string {P:Program} {t:TypeId} (ht:P.underlying t=some .string):Opn P t strRow:=by
 intro H enc w base sp held fuel cs x h
 obtain ⟨n,rfl,_⟩:=DataW.trod_string ht h
 exact ⟨n,_,_,rfl,rfl,rfl⟩
theorem cells?_get {w:World} {base:Nat} {a:Addr} {n:Nat} {l:List Value} (h:w.cells? base a n=some l):l.length=n∧∀i v,l[i]?=some v→w.cell? (a.add i)=some v:=by
 unfold World.cells? at h
 split at h
 ·obtain ⟨h1,h2⟩:=Ze2 h
  refine ⟨by simpa using h1,fun i v hv=>?_⟩
  have hlt:i<n:=by have:=(List.getElem?_eq_some_iff.1 hv).1;simp at h1;omega
  obtain ⟨y,hy1,hy2⟩:=h2 i i (by simp [hlt])
  rw [hv] at hy1
  simp at hy1;subst hy1
  exact hy2
 ·simp at h
theorem cell?_none {w:World} {a:Addr} {v:Value} (h:w.cell? a=some v):a.spot=none∧∃cs T fr,w.heap[a.block]?=some (.cells cs T fr)∧cs[a.off]?=some v:=by
 unfold World.cell? at h
 split at h
 ·rename_i cs T fr hc
  split at h
  ·simp at h
  ·rename_i hs
   exact ⟨by cases hsp:a.spot<;>simp_all,cs,T,fr,hc,h⟩
 ·simp at h
theorem isL_one {M:Mem} {l:List AV} {vs:List Value} (h:AV.isL M l vs) (hp:Zk l=true) (ho:Zo l=true):∀v∈vs,v.oneCell'=true:=by
 induction l generalizing vs with
 | nil=>simp [AV.isL] at h;subst h;simp
 | cons x l ih=>
   obtain ⟨v,r,rfl,h1,h2⟩:=h
   simp only [Zk,Z51] at hp
   simp only [Zo,Z51] at ho
   intro u hu
   rcases List.mem_cons.1 hu with rfl | hu
   ·exact one_is h1 hp.1 (fun j e=>by subst e;simp [AV.pu] at ho)
   ·exact ih h2 hp.2 ho.2 u hu
theorem add_add (a:Addr) (i k:Nat) (ha:a.spot=none):(a.add i).add k=⟨a.block,a.off+i+k,none⟩:=by
 obtain ⟨b,o,sp⟩:=a
 dsimp only at ha
 subst ha
 simp [Addr.add]
 split<;>split<;>simp_all [Nat.add_assoc]
theorem Zik {P:Program} {t e:TypeId} {n:Nat} {α:Type} {row:α→List AV} (ht:P.underlying t=some (.slice e)) (hn:P.cellsOf e=n) (hpos:0<n) (hrow:∀v,(row v).length=n∧Zk (row v)=true∧Zo (row v)=true) (he:Opn P e row):Opn P t (Z55 n row):=by
 intro H enc w base sp held fuel cs x h
 rcases DataW.trod_slice ht h with ⟨rfl,_⟩ | ⟨a,len,cap,elems,rest,m,_,rfl,_,hb,hlc,hcm,hel,hget,_,_⟩
 ·exact ⟨[],_,_,rfl,⟨none,0,rfl,⟨Nat.le_refl _,fun _=>rfl⟩,fun hne=>absurd rfl hne⟩,rfl⟩
 ·rw [hn] at hget
  have each:∀i,i<len→∃v:α,∃l,w.cells? base (a.add (i*n)) n=some l∧AV.isL (Z0 fun k=>w.heap[k]?) (row v) l:=by
   intro i hi
   have hg:=hget i hi
   have hsome:∃y,elems[i]?=some y:=⟨_,List.getElem?_eq_getElem (by omega)⟩
   obtain ⟨y,hy⟩:=hsome
   rw [hy,Option.bind_eq_some_iff] at hg
   obtain ⟨l,hl,hd⟩:=hg
   obtain ⟨v,hv⟩:=he enc w base sp held m l y hd
   exact ⟨v,l,hl,hv⟩
  have build:∀k,k≤len→∃(vs:List α) (vss:List (List Value)),vs.length=k∧AV.isLL (Z0 fun k=>w.heap[k]?) n (vs.map row) vss∧(∀v∈vss.flatten,v.oneCell'=true)∧
    ∀j u,vss.flatten[j]?=some u→∃i q,i<k∧q<n∧j=i*n+q∧w.cell? ((a.add (i*n)).add q)=some u:=by
   intro k
   induction k with
   | zero=>intro _;exact ⟨[],[],rfl,rfl,by simp,by simp⟩
   | succ k ih=>
     intro hk
     obtain ⟨vs,vss,h1,h2,h3,h4⟩:=ih (by omega)
     obtain ⟨v,l,hl,hv⟩:=each k (by omega)
     obtain ⟨hl1,hl2⟩:=cells?_get hl
     refine ⟨vs++[v],vss++[l],by simp [h1],?_,?_,?_⟩
     ·rw [List.map_append]
      exact Z04 h2 ⟨l,[],rfl,hl1,hv,rfl⟩
     ·intro u hu
      rw [List.flatten_append,List.mem_append] at hu
      rcases hu with hu | hu
      ·exact h3 u hu
      ·exact isL_one hv (hrow v).2.1 (hrow v).2.2 u (by simpa using hu)
     ·intro j u hj
      have hfl:vss.flatten.length=k*n:=by have:=Z14 h2;simpa [h1] using this
      rw [List.flatten_append] at hj
      by_cases hjl:j<vss.flatten.length
      ·rw [List.getElem?_append_left hjl] at hj
       obtain ⟨i,q,g1,g2,g3,g4⟩:=h4 j u hj
       exact ⟨i,q,by omega,g2,g3,g4⟩
      ·rw [List.getElem?_append_right (by omega),hfl] at hj
       simp only [List.flatten_cons,List.flatten_nil,List.append_nil] at hj
       have hq:=(List.getElem?_eq_some_iff.1 hj).1
       exact ⟨k,j-k*n,by omega,by omega,by omega,hl2 _ _ hj⟩
  obtain ⟨vs,vss,h1,h2,h3,h4⟩:=build len (Nat.le_refl _)
  refine ⟨vs,_,[],rfl,⟨some a,cap,by simp [h1],⟨by simpa [h1] using hlc,fun h=>by simp at h⟩,fun hne=>⟨a,vss,rfl,h2,?_⟩⟩,rfl⟩
  have hlen:0<len:=by
   rcases Nat.eq_zero_or_pos len with h0 | h0
   ·exfalso;apply hne;rw [List.map_eq_nil_iff];exact List.length_eq_zero_iff.1 (by omega)
   ·exact h0
  have hfl:vss.flatten.length=len*n:=by have:=Z14 h2;simpa [h1] using this
  have hpos2:0<len*n:=Nat.mul_pos hlen hpos
  obtain ⟨u0,hu0⟩:∃u,vss.flatten[0]?=some u:=⟨_,List.getElem?_eq_getElem (by omega)⟩
  obtain ⟨i0,q0,_,_,e0,g0⟩:=h4 0 u0 hu0
  have hi0:i0*n=0:=by omega
  have hq0:q0=0:=by omega
  rw [hi0,hq0] at g0
  have hsp:a.spot=none:=(cell?_none (a:=a) (by simpa [Addr.add] using g0)).1
  obtain ⟨_,cs0,T0,fr0,hblk,_⟩:=cell?_none (a:=a) (by simpa [Addr.add] using g0)
  refine ⟨hsp,h3,cs0,T0,fr0,hblk,fun j u hj=>?_⟩
  obtain ⟨i,q,g1,g2,g3,g4⟩:=h4 j u hj
  rw [add_add a _ _ hsp] at g4
  obtain ⟨_,cs1,T1,fr1,hb1,hc1⟩:=cell?_none g4
  dsimp only at hb1 hc1
  rw [hblk] at hb1
  simp only [Option.some.injEq,Obj.cells.injEq] at hb1
  obtain ⟨rfl,_,_⟩:=hb1
  rw [g3,←Nat.add_assoc];exact hc1
theorem take_drop_append {α:Type} (cs:List α) (a b:Nat):(cs.drop a).take b++cs.drop (a+b)=cs.drop a:=by
 rw [←List.drop_drop];exact List.take_append_drop b (cs.drop a)
theorem arg_agg {P:Program} {t:TypeId} {α:Type} {row:α→List AV} (ho:Opn P t row) {fs:Array Field} (ht:P.underlying t=some (.struct fs)) {H:Type} {enc:TypeId×Value→H} {w:World} {b0:Nat} {r:Reach} {base:Nat} {sp:Nat→Bool} {held:Bool} {v:Value} {d:DataW H} {ps:List MemPlace}
  (hv:Value.okWide P w r b0 t v) (hd:DataW.Trod enc P w base sp held t v d ps):∃x:α,AV.is (Z0 fun k=>w.heap[k]?) (.agg (row x)) v:=by
 obtain ⟨fuel,hf⟩:=hd
 obtain ⟨x,hx⟩:=ho enc w base sp held fuel _ _ hf
 unfold Value.okWide at hv
 rw [ht] at hv
 obtain ⟨cs,rfl,_,_⟩:=hv
 exact ⟨x,cs.toList,by simp,hx⟩
theorem arg_int {P:Program} {t:TypeId} (ht:P.underlying t=some (.int .i64)) {H:Type} {enc:TypeId×Value→H} {w:World} {b0:Nat} {r:Reach} {base:Nat} {sp:Nat→Bool} {held:Bool} {v:Value} {d:DataW H} {ps:List MemPlace}
  (hv:Value.okWide P w r b0 t v) (hd:DataW.Trod enc P w base sp held t v d ps):∃x:Int,AV.is (Z0 fun k=>w.heap[k]?) (.iv x) v:=by
 obtain ⟨n,rfl,_⟩:=open_int ht hv hd
 exact ⟨n,rfl⟩
theorem arg_slice {P:Program} {t e:TypeId} {n:Nat} {α:Type} {row:α→List AV} (ho:Opn P t (Z55 n row)) (ht:P.underlying t=some (.slice e)) {H:Type} {enc:TypeId×Value→H} {w:World} {b0:Nat} {r:Reach} {base:Nat} {sp:Nat→Bool} {held:Bool} {v:Value} {d:DataW H} {ps:List MemPlace}
  (hv:Value.okWide P w r b0 t v) (hd:DataW.Trod enc P w base sp held t v d ps):∃x:List α,AV.is (Z0 fun k=>w.heap[k]?) (.sl n (x.map row)) v:=by
 obtain ⟨fuel,hf⟩:=hd
 obtain ⟨x,hx⟩:=ho enc w base sp held fuel _ _ hf
 obtain ⟨a0,len,cap,rfl⟩:=okWide_slice ht hv
 obtain ⟨u,q,h1,h2,_⟩:=hx
 simp [Value.cells] at h1
 exact ⟨x,by rw [h1.1];exact h2⟩
theorem Zjk {P:Program} {H:Type} {enc:TypeId×Value→H} (hl:laidOutB P=true) {W W':World} (hB:Below W.heap.size W W'):∀ {ts:List TypeId} {vs:List Value} {ds:List (DataW H)} {ps:List MemPlace},
  (ts.all fun t=>P.readableRec t&&decide (t<P.types.size))=true→DataW.TrodAll enc P W 0 (fun _=>true) true ts vs ds ps→(∀x∈ps,x.block<W.heap.size)→
  DataW.TrodAll enc P W' 0 (fun b=>decide (b<W.heap.size)) true ts vs ds ps
 | [],[],[],ps,_,h,_=>h
 | t::ts,v::vs,d::ds,ps,hr,⟨p,q,h1,h2,e⟩,hlt=>by
   simp only [List.all_cons,Bool.and_eq_true,decide_eq_true_eq] at hr
   subst e
   exact ⟨p,q,Below.trod hl hr.1.1 hr.1.2 h1 hB (fun x hx=>hlt x (List.mem_append_left _ hx)),Zjk hl hB (by simpa using hr.2) h2 (fun x hx=>hlt x (List.mem_append_right _ hx)),rfl⟩
 | [],_::_,_,_,_,h,_=>by simp [DataW.TrodAll] at h
 | [],[],_::_,_,_,h,_=>by simp [DataW.TrodAll] at h
 | _::_,[],_,_,_,h,_=>by simp [DataW.TrodAll] at h
 | _::_,_::_,[],_,_,h,_=>by simp [DataW.TrodAll] at h
theorem Zkk {P:Program} {H:Type} {enc:TypeId×Value→H} {w:World} {b:Nat} {sp:Nat→Bool} {held:Bool}:∀ {ts:List TypeId} {vs:List Value} {ds:List (DataW H)} {ps:List MemPlace},DataW.TrodAll enc P w b sp held ts vs ds ps→ds.length=ts.length∧vs.length=ts.length
 | [],[],[],_,_=>⟨rfl,rfl⟩
 | _::_,_::_,_::_,_,⟨_,_,_,h,_⟩=>by have:=Zkk h;simp [this]
 | [],_::_,_,_,h=>by simp [DataW.TrodAll] at h
 | [],[],_::_,_,h=>by simp [DataW.TrodAll] at h
 | _::_,[],_,_,h=>by simp [DataW.TrodAll] at h
 | _::_,_::_,[],_,h=>by simp [DataW.TrodAll] at h
theorem law_post {P:Program} {fn:Func} {s:ChangeSpec} (hl:laidOutB P=true) (hr:(fn.params.toList.all fun t=>P.readableRec t&&decide (t<P.types.size))=true) (hv:s.vars=[]) {tb:TypeId} (hres:fn.resultTypes = #[tb]) (hb:P.underlying tb=some .bool)
  {H:Type} {enc:TypeId×Value→H} {W W':World} {args:Array Value} {ds gs:List (DataW H)} {before:List MemPlace}
  (hs:ds.length=fn.params.size→s.fn H ds={results:=[.lit (.bool true)],args:=ds})
  (hW:DataW.Whole enc P fn.params.toList s.vars false W args.toList ds gs before) (hB:Below W.heap.size W W'):s.post enc P fn false true false false W args (.bool true) W':=by
 have hW':=hW
 obtain ⟨p,q,hA,hV,rfl,hfz,hnd⟩:=hW
 rw [hv] at hV
 obtain ⟨rfl,rfl⟩:=trodVars_none hV
 have hlen:=(Zkk hA).1
 have e1:s.fn H (ds++[])={results:=[.lit (.bool true)],args:=ds}:=by rw [List.append_nil];exact hs (by simpa using hlen)
 refine ⟨ds,[],p++[],[],p,[],hW',?_,?_,?_,hB.frame _,fun h=>by cases h⟩
 ·rw [e1,hres];exact trodAll_mk1 (shut_bool hb _)
 ·rw [e1];exact Zjk hl hB hr hA (fun x hx=>hW'.lt x (List.mem_append_left _ hx))
 ·rw [e1,hv];rfl
end NX
end Go.Proofs.YtadebhbiglmodaaGreat
/-
  The function narthex/narthexref12.Graph: its code compiled, a model, and that the code answers as the model. Written by a program of ours (lb.py). No statement of the seat is proved here.
-/
namespace Go.Proofs.YtadebhbiglmodaaGreat
namespace NX
open Go
set_option maxRecDepth 100000
set_option maxHeartbeats 4000000
def Zlk:EC:=.seq (.seq (.reg [(Qa 28 (.mv (.t 7))),(Qa 29 (.mv (.t 0))),(Qa 30 (.mv (.t 5))),(Qa 31 (.idx 3 (.t 29) (.t 30))),(Qa 32 (.fld 2 (.t 31))),(Qa 33 (.load (.t 32))),(Qa 34 (.len (.t 33))),(Qa 35 (.bin .lss (.t 28) (.t 34)))]) (.ite (.t 35) (.skip) (.exit 2))) (.seq (.blk 3 (.seq (.reg [(Qa 38 (.mv (.t 0))),(Qa 39 (.mv (.t 5))),(Qa 40 (.idx 3 (.t 38) (.t 39))),(Qa 41 (.fld 2 (.t 40))),(Qa 42 (.load (.t 41))),(Qa 43 (.mv (.t 7))),(Qa 44 (.idx 8 (.t 42) (.t 43))),(Qa 45 (.fld 0 (.t 44))),(Qa 46 (.load (.t 45))),(Qa 8 (.mv (.t 46)))]) (.seq (.seq (.reg [(Qa 47 (.mv (.t 8))),(Qa 48 (.mv (.t 6))),(Qa 49 (.bin .leq (.t 47) (.t 48))),(Qa 50 (.mv (.t 49))),(Qg 51 50 false (.mv (.t 8))),(Qg 52 50 false (.mv (.t 0))),(Qg 53 50 false (.len (.t 52))),(Qg 54 50 false (.bin .geq (.t 51) (.t 53))),(Qa 55 (.pick (.t 50) (.c .tt) (.t 54))),(Qa 56 (.mv (.t 55))),(Qg 57 56 false (.mv (.t 8))),(Qg 58 56 false (.mv (.t 5))),(Qg 59 56 false (.bin .eql (.t 57) (.t 58))),(Qa 60 (.pick (.t 56) (.c .tt) (.t 59)))]) (.ite (.t 60) (.seq (.reg [(Qa 61 (.build [.iv 0,.nl] [])),(Qb (.store 2 (.t 2) (.t 61))),(Qa 3 (.mv (.c .ff)))]) (.ret)) (.skip))) (.seq (.reg [(Qa 63 (.mv (.t 0))),(Qa 64 (.mv (.t 8))),(Qa 65 (.idx 3 (.t 63) (.t 64))),(Qa 66 (.loadA 3 (.t 65))),(Qa 67 (.mv (.t 5))),(Qa 68 (.call 52 [(.t 66),(.t 67)])),(Qa 62 (.mv (.t 68))),(Qa 69 (.ext (.t 62) 0)),(Qa 70 (.ext (.t 62) 1)),(Qa 9 (.alloc 65 [.iv 0,.iv 0,.iv 0,.ff,.ff,.ff,.ff,.ff])),(Qb (.store 8 (.t 9) (.t 69))),(Qa 10 (.mv (.t 70)))]) (.seq (.seq (.reg [(Qa 71 (.mv (.t 10))),(Qa 72 (.not (.t 71)))]) (.ite (.t 72) (.seq (.reg [(Qa 73 (.build [.iv 0,.nl] [])),(Qb (.store 2 (.t 2) (.t 73))),(Qa 3 (.mv (.c .ff)))]) (.ret)) (.skip))) (.seq (.reg [(Qa 74 (.mv (.t 8))),(Qa 6 (.mv (.t 74)))]) (.seq (.reg [(Qa 75 (.mv (.t 8))),(Qa 76 (.mv (.t 5))),(Qa 77 (.bin .gtr (.t 75) (.t 76)))]) (.ite (.t 77) (.reg [(Qa 78 (.fld 1 (.t 4))),(Qa 79 (.load (.t 78))),(Qa 80 (.mv (.t 5))),(Qa 81 (.mv (.t 8))),(Qa 82 (.build [.iv 0,.iv 0] [(0,1,(.t 80)),(1,1,(.t 81))])),(Qa 83 (.bsl 29 2 1 [.iv 0,.iv 0] [(0,(.t 82))])),(Qa 84 (.app 29 2 16 (.t 79) (.t 83))),(Qa 85 (.fld 1 (.t 4))),(Qb (.store 1 (.t 85) (.t 84)))]) (.skip))))))))) (.reg [(Qa 36 (.mv (.t 7))),(Qa 37 (.bin .add (.t 36) (.c (.iv 1)))),(Qa 7 (.mv (.t 37)))]))
def Zmk:EC:=.seq (.seq (.reg [(Qa 14 (.mv (.t 5))),(Qa 15 (.mv (.t 0))),(Qa 16 (.len (.t 15))),(Qa 17 (.bin .lss (.t 14) (.t 16)))]) (.ite (.t 17) (.skip) (.exit 0))) (.seq (.blk 1 (.seq (.seq (.reg [(Qa 20 (.mv (.t 0))),(Qa 21 (.mv (.t 5))),(Qa 22 (.idx 3 (.t 20) (.t 21))),(Qa 23 (.fld 0 (.t 22))),(Qa 24 (.load (.t 23))),(Qa 25 (.mv (.t 5))),(Qa 26 (.bin .neq (.t 24) (.t 25)))]) (.ite (.t 26) (.seq (.reg [(Qa 27 (.build [.iv 0,.nl] [])),(Qb (.store 2 (.t 2) (.t 27))),(Qa 3 (.mv (.c .ff)))]) (.ret)) (.skip))) (.seq (.reg [(Qa 6 (.mv (.c (.iv (-1)))))]) (.seq (.reg [(Qa 7 (.mv (.c (.iv 0))))]) (.blk 2 (.loop Zlk)))))) (.reg [(Qa 18 (.mv (.t 5))),(Qa 19 (.bin .add (.t 18) (.c (.iv 1)))),(Qa 5 (.mv (.t 19)))]))
def e47:EC:=.seq (.reg [(Qa 2 (.alloc 48 [.iv 0,.nl])),(Qa 3 (.mv (.c .ff)))]) (.seq (.reg [(Qa 11 (.mv (.t 0))),(Qa 12 (.len (.t 11))),(Qa 13 (.build [.iv 0,.nl] [(0,1,(.t 12))])),(Qa 4 (.alloc 48 [.iv 0,.nl])),(Qb (.store 2 (.t 4) (.t 13)))]) (.seq (.seq (.reg [(Qa 5 (.mv (.c (.iv 0))))]) (.blk 0 (.loop Zmk))) (.seq (.seq (.reg [(Qa 86 (.loadA 2 (.t 4))),(Qa 87 (.call 22 [(.t 86)])),(Qa 88 (.not (.t 87)))]) (.ite (.t 88) (.seq (.reg [(Qa 89 (.build [.iv 0,.nl] [])),(Qb (.store 2 (.t 2) (.t 89))),(Qa 3 (.mv (.c .ff)))]) (.ret)) (.skip))) (.seq (.reg [(Qa 90 (.loadA 2 (.t 4))),(Qb (.store 2 (.t 2) (.t 90))),(Qa 3 (.mv (.c .tt)))]) (.ret)))))
theorem ok47:FnOK Tryz.prog 47 Tryz.f47 e47 [.c 2 (some 2),.t 3] 1 90:=⟨by kernel_rfl,⟨_,rfl,by kernel_rfl⟩,by kernel_rfl,by kernel_rfl⟩
noncomputable def Znk (x1:(List Diner)):(List Edge)→Option (Graph×Bool)
| x77=>
 (Zka ((Graph.mk (ln Diner.row x1) x77))).bind fun x78=>
 ifb (!x78) (
 some ((Graph.mk 0 (([]:(List Edge)))),false)) (
 some ((Graph.mk (ln Diner.row x1) x77),true))
noncomputable def Zok (x36:Int):(List Edge)→Option ((Int×(List Edge)) ⊕ (Graph×Bool))
| x70=>
 some (.inl (wr (x36+1),x70))
noncomputable def Zpk (x51:Int) (x55:Side):(List Edge)→Option ((Int×Int×(List Edge)) ⊕ ((Int×(List Edge)) ⊕ (Graph×Bool)))
| x60=>
 some (.inl (x55.Peer,wr (x51+1),x60))
noncomputable def Zqk (x1:(List Diner)) (x36:Int) (x51:Int) (x52:(List Edge)) (x55:Side):Bool→Option ((Int×Int×(List Edge)) ⊕ ((Int×(List Edge)) ⊕ (Graph×Bool)))
| x56=>
 ifb x56 (
 Option.map Sum.inr (Option.map Sum.inr (some ((Graph.mk 0 (([]:(List Edge)))),false)))) (
 (at_ x1 x55.Peer).bind fun x57=>
 (Zn8 x57 x36).bind fun x58=>
 ifb (!x58.2) (
 Option.map Sum.inr (Option.map Sum.inr (some ((Graph.mk 0 (([]:(List Edge)))),false)))) (
 ifb (decide (x36<x55.Peer)) (
 (Za4 16 x52 ([(Edge.mk x36 x55.Peer)])).bind fun x59=>
 (Zpk x51 x55) x59) (
 (Zpk x51 x55) x52)))
noncomputable def Zrk (x1:(List Diner)) (x36:Int):(Int×Int×(List Edge))→Option ((Int×Int×(List Edge)) ⊕ ((Int×(List Edge)) ⊕ (Graph×Bool)))
| (x50,x51,x52)=>
 (at_ x1 x36).bind fun x53=>
 ifb (decide (x51<(ln Side.row x53.Sides))) (
 (at_ x1 x36).bind fun x54=>
 (at_ x54.Sides x51).bind fun x55=>
 ifb (decide (x55.Peer≤x50)) (
 (Zqk x1 x36 x51 x52 x55) true) (
 ifb (decide ((ln Diner.row x1)≤x55.Peer)) (
 (Zqk x1 x36 x51 x52 x55) true) (
 (Zqk x1 x36 x51 x52 x55) (decide (x55.Peer=x36))))) (
 Option.map Sum.inr ((Zok x36) x52))
noncomputable def Zsk (x1:(List Diner)):(Int×(List Edge))→Option ((Int×(List Edge)) ⊕ (Graph×Bool))
| (x36,x37)=>
 ifb (decide (x36<(ln Diner.row x1))) (
 (at_ x1 x36).bind fun x38=>
 ifb (!decide (x38.ID=x36)) (
 Option.map Sum.inr (some ((Graph.mk 0 (([]:(List Edge)))),false))) (
 loop (Zrk x1 x36) ((-1),0,x37))) (
 Option.map Sum.inr ((Znk x1) x37))
noncomputable def Ztk (x1:(List Diner)):Option (Graph×Bool):=
 loop (Zsk x1) (0,([]:List Edge))
theorem Zuk (x1:(List Diner)) (r:(Graph×Bool)) (h:Ztk x1=some r):Zq2 Tryz.prog 47 [.sl 3 (List.map Diner.row x1)] (.tup [.agg (Graph.row r.1),.bv r.2]):=by
 refine Zu2 ok47 rfl rfl fun w0 H0=>?_
 rw [Ztk] at h
 refine Zl2 18 ?_;dsimp only [e47,Zmk,Zlk,go_sem];refine ⟨by simp,?_⟩;refine Zl4 (fun (x77:(List Edge))=>(⟨(.any :: .any :: .ptr 0 0 :: .any :: .ptr 1 0::an 86 []),[some ⟨48,[.iv 0,.nl]⟩,some ⟨48,[.iv (ln Diner.row x1),.osl 0]⟩],[some ⟨29,2,List.map Edge.row x77⟩]⟩:St)) (Znk x1) r ?_ fun J1=>?_
 ·intro x77 h;rw [Znk] at h;(try dsimp only);refine Zl2 4 ?_;dsimp only [e47,Zmk,Zlk,go_sem];refine ⟨by simp,?_⟩;obtain ⟨x78,ex78,h⟩:=Option.bind_eq_some_iff.1 h;refine Z25 trivial ((Z05.refl _).slice 0 rfl) (Zla ((Graph.mk (ln Diner.row x1) x77)) _ ex78) (h:=?_);refine Zl2 2 ?_;dsimp only [e47,Zmk,Zlk,go_sem];refine ⟨by simp,?_⟩;refine Zn4 h rfl (fun _ h=>?_) fun _ h=>?_
  ·refine Zl2 6 ?_;dsimp only [e47,Zmk,Zlk,go_sem];refine ⟨by simp,?_⟩;exact Zx4 (res:=fun (r:(Graph×Bool))=>.tup [.agg (Graph.row r.1),.bv r.2]) ok47 h
  ·refine Zl2 7 ?_;dsimp only [e47,Zmk,Zlk,go_sem];refine ⟨by simp,?_⟩;refine Z83 0 rfl ?_;dsimp only [go_sem];exact Zx4 (res:=fun (r:(Graph×Bool))=>.tup [.agg (Graph.row r.1),.bv r.2]) ok47 h
 ·refine Zl2 1 ?_;dsimp only [e47,Zmk,Zlk,go_sem];refine ⟨by simp,?_⟩;refine V_ownB 1 1 29 2 rfl rfl rfl ?_;dsimp only [go_sem];refine Zm4 h (fun ((x36,x37):(Int×(List Edge)))=>(⟨(.sl 3 (List.map Diner.row x1) :: .any :: .ptr 0 0 :: .any :: .ptr 1 0 :: .iv x36::an 85 []),[some ⟨48,[.iv 0,.nl]⟩,some ⟨48,[.iv (ln Diner.row x1),.osl 0]⟩],[some ⟨29,2,List.map Edge.row x37⟩]⟩:St)) (by simp [go_sem]) (by rintro ⟨x36,x37⟩;first | rfl | simp [go_sem]) ?_;rintro n1 ⟨x36,x37⟩ y1 h hin1 hout1;rw [Zsk] at h;(try dsimp only);refine Zl2 8 ?_
  dsimp only [e47,Zmk,Zlk,go_sem];refine ⟨by simp,?_⟩;refine Zn4 h rfl (fun _ h=>?_) fun _ h=>?_
  ·refine Zl2 8 ?_;dsimp only [e47,Zmk,Zlk,go_sem];refine ⟨by simp,?_⟩;obtain ⟨x38,ex38,h⟩:=Option.bind_eq_some_iff.1 h;refine Zq4 Diner.row ex38 trivial rfl rfl rfl ?_;refine Zl2 5 ?_;dsimp only [e47,Zmk,Zlk,go_sem];refine ⟨by simp,?_⟩;refine Zn4 h rfl (fun _ h=>?_) fun _ h=>?_
   ·refine Zl2 6 ?_;dsimp only [e47,Zmk,Zlk,go_sem];refine ⟨by simp,?_⟩;exact Zx4 (res:=fun (r:(Graph×Bool))=>.tup [.agg (Graph.row r.1),.bv r.2]) ok47 (Zk4 h hout1)
   ·refine Zl2 9 ?_;dsimp only [e47,Zmk,Zlk,go_sem];refine ⟨by simp,?_⟩;refine Zl4 (fun (x70:(List Edge))=>(⟨(.sl 3 (List.map Diner.row x1) :: .any :: .ptr 0 0 :: .any :: .ptr 1 0 :: .iv x36::an 85 []),[some ⟨48,[.iv 0,.nl]⟩,some ⟨48,[.iv (ln Diner.row x1),.osl 0]⟩],[some ⟨29,2,List.map Edge.row x70⟩]⟩:St)) (Zok x36) y1 ?_ fun J2=>?_
    ·intro x70 h;rw [Zok] at h;(try dsimp only);refine Zl2 6 ?_;dsimp only [e47,Zmk,Zlk,go_sem];refine ⟨by simp,?_⟩;exact Zy4 h hin1
    ·refine Zl2 1 ?_;dsimp only [e47,Zmk,Zlk,go_sem];refine ⟨by simp,?_⟩;refine Zm4 h (fun ((x50,x51,x52):(Int×Int×(List Edge)))=>(⟨(.sl 3 (List.map Diner.row x1) :: .any :: .ptr 0 0 :: .any :: .ptr 1 0 :: .iv x36 :: .iv x50 :: .iv x51::an 83 []),[some ⟨48,[.iv 0,.nl]⟩,some ⟨48,[.iv (ln Diner.row x1),.osl 0]⟩],[some ⟨29,2,List.map Edge.row x52⟩]⟩:St)) (by simp [go_sem]) (by rintro ⟨x50,x51,x52⟩;first | rfl | simp [go_sem]) ?_;rintro n2 ⟨x50,x51,x52⟩ y2 h hin2 hout2;rw [Zrk] at h;(try dsimp only);refine Zl2 6 ?_
     dsimp only [e47,Zmk,Zlk,go_sem];refine ⟨by simp,?_⟩;obtain ⟨x53,ex53,h⟩:=Option.bind_eq_some_iff.1 h;refine Zq4 Diner.row ex53 trivial rfl rfl rfl ?_;refine Zl2 5 ?_;dsimp only [e47,Zmk,Zlk,go_sem];refine ⟨by simp,?_⟩;refine Zn4 h rfl (fun _ h=>?_) fun _ h=>?_
     ·refine Zl2 7 ?_;dsimp only [e47,Zmk,Zlk,go_sem];refine ⟨by simp,?_⟩;obtain ⟨x54,ex54,h⟩:=Option.bind_eq_some_iff.1 h;refine Zq4 Diner.row ex54 trivial rfl rfl rfl ?_;refine Zl2 3 ?_;dsimp only [e47,Zmk,Zlk,go_sem];refine ⟨by simp,?_⟩;obtain ⟨x55,ex55,h⟩:=Option.bind_eq_some_iff.1 h;refine Zq4 Side.row ex55 trivial rfl rfl rfl ?_;refine Zl2 11 ?_;dsimp only [e47,Zmk,Zlk,go_sem];refine ⟨by simp,?_⟩
      refine Zl4 (fun (x56:Bool)=>(⟨(.sl 3 (List.map Diner.row x1) :: .any :: .ptr 0 0 :: .any :: .ptr 1 0 :: .iv x36 :: .any :: .iv x51 :: .iv x55.Peer::an 51 (.bv x56::an 30 [])),[some ⟨48,[.iv 0,.nl]⟩,some ⟨48,[.iv (ln Diner.row x1),.osl 0]⟩],[some ⟨29,2,List.map Edge.row x52⟩]⟩:St)) (Zqk x1 x36 x51 x52 x55) y2 ?_ fun J3=>?_
      ·intro x56 h;rw [Zqk] at h;(try dsimp only);refine Zn4 h rfl (fun _ h=>?_) fun _ h=>?_
       ·refine Zl2 6 ?_;dsimp only [e47,Zmk,Zlk,go_sem];refine ⟨by simp,?_⟩;exact Zx4 (res:=fun (r:(Graph×Bool))=>.tup [.agg (Graph.row r.1),.bv r.2]) ok47 (Zk4 (Zk4 h hout2) hout1)
       ·refine Zl2 5 ?_;dsimp only [e47,Zmk,Zlk,go_sem];refine ⟨by simp,?_⟩;obtain ⟨x57,ex57,h⟩:=Option.bind_eq_some_iff.1 h;refine Zq4 Diner.row ex57 trivial rfl rfl rfl ?_;refine Zl2 2 ?_;dsimp only [e47,Zmk,Zlk,go_sem];refine ⟨by simp,?_⟩;obtain ⟨x58,ex58,h⟩:=Option.bind_eq_some_iff.1 h;refine Zz2 trivial (k_narthexref12_Side x57 x36 _ ex58) (h:=?_);refine Zl2 13 ?_;dsimp only [e47,Zmk,Zlk,go_sem];refine ⟨by simp,?_⟩;refine Zn4 h rfl (fun _ h=>?_) fun _ h=>?_
        ·refine Zl2 6 ?_;dsimp only [e47,Zmk,Zlk,go_sem];refine ⟨by simp,?_⟩;exact Zx4 (res:=fun (r:(Graph×Bool))=>.tup [.agg (Graph.row r.1),.bv r.2]) ok47 (Zk4 (Zk4 h hout2) hout1)
        ·refine Zl2 12 ?_;dsimp only [e47,Zmk,Zlk,go_sem];refine ⟨by simp,?_⟩;refine Zl4 (fun (x60:(List Edge))=>(⟨(.sl 3 (List.map Diner.row x1) :: .any :: .ptr 0 0 :: .any :: .ptr 1 0 :: .iv x36 :: .iv x55.Peer :: .iv x51::an 83 []),[some ⟨48,[.iv 0,.nl]⟩,some ⟨48,[.iv (ln Diner.row x1),.osl 0]⟩],[some ⟨29,2,List.map Edge.row x60⟩]⟩:St)) (Zpk x51 x55) y2 ?_ fun J4=>?_
         ·intro x60 h;rw [Zpk] at h;(try dsimp only);refine Zl2 6 ?_;dsimp only [e47,Zmk,Zlk,go_sem];refine ⟨by simp,?_⟩;exact Zy4 h hin2
         ·refine Zn4 h rfl (fun _ h=>?_) fun _ h=>?_
          ·refine Zl2 7 ?_;dsimp only [e47,Zmk,Zlk,go_sem];refine ⟨by simp,?_⟩;obtain ⟨x59,ex59,h⟩:=Option.bind_eq_some_iff.1 h;refine Zt4 Edge.row ex59 trivial rfl rfl rfl ?_;refine Zl2 3 ?_;dsimp only [e47,Zmk,Zlk,go_sem];refine ⟨by simp,?_⟩;refine Z44 2 0 rfl rfl rfl ?_;dsimp only [go_sem];exact Zz4 J4 (s:=x59) h
          ·refine Zl2 1 ?_;dsimp only [e47,Zmk,Zlk,go_sem];refine ⟨by simp,?_⟩;exact Zz4 J4 (s:=x52) h
      ·refine Zw4 50 h rfl (fun _ h=>?_) fun _ h=>?_
       ·dsimp only [go_sem];refine Zl2 11 ?_;dsimp only [e47,Zmk,Zlk,go_sem];refine ⟨by simp,?_⟩;exact Zz4 J3 (s:=true) h
       ·dsimp only [go_sem];refine Zl2 6 ?_;dsimp only [e47,Zmk,Zlk,go_sem];refine ⟨by simp,?_⟩;refine Zw4 56 h rfl (fun _ h=>?_) fun _ h=>?_
        ·dsimp only [go_sem];refine Zl2 5 ?_;dsimp only [e47,Zmk,Zlk,go_sem];refine ⟨by simp,?_⟩;exact Zz4 J3 (s:=true) h
        ·dsimp only [go_sem];refine Zl2 5 ?_;dsimp only [e47,Zmk,Zlk,go_sem];refine ⟨by simp,?_⟩;exact Zz4 J3 (s:=decide (x55.Peer=x36)) h
     ·refine Zl2 1 ?_;dsimp only [e47,Zmk,Zlk,go_sem];refine ⟨by simp,?_⟩;exact Zz4 J2 (s:=x52) (Zk4 h hout2)
  ·refine Zl2 1 ?_;dsimp only [e47,Zmk,Zlk,go_sem];refine ⟨by simp,?_⟩;exact Zz4 J1 (s:=x37) (Zk4 h hout1)
theorem s_r12Graph2 (l:List Diner) (hl:Zd9 l) (i:Nat) (d:Diner) (hd:l[i]?=some d) (hi:i≤5000) (E:List Edge) (hE:E.length≤25000000):
  loop (Zrk l i) (-1,0,E)=some (if Zr9 l i none d.Sides then .inl (((i+1:Nat):Int),E++Zs9 i d.Sides) else .inr (Zv9,false)):=by
 have hdm:=List.mem_iff_getElem?.2 ⟨_,hd⟩
 have hdl:=hl.2 d hdm
 have key:=(loop_ppI d.Sides (Zrk l i) (fun pre=>((lastP pre).getD (-1),(pre.length:Int),E++Zs9 i pre)) (fun pre post=>some (if Zr9 l i (lastP pre) post then .inl (((i+1:Nat):Int),E++Zs9 i (pre++post)) else .inr (Zv9,false))) (fun pre=>∀q,lastP pre=some q→0≤q) ?_ ?_ d.Sides [] rfl (by simp [lastP]))
 ·rw [show Zs9 i []=[] from rfl,List.append_nil] at key;exact key
 ·intro pre x post h hI
  have hx:=Z49 h
  have hm:=Z59 h
  dsimp only [Zrk]
  rw [Zo5 hd,Option.bind_some,Zq5 hx,Zk5,Option.bind_some,Zo5 hx,Option.bind_some]
  have bad:Zqk l (i:Int) pre.length (E++Zs9 i pre) x true=some (.inr (.inr (Zv9,false))):=rfl
  by_cases h1:x.Peer≤(lastP pre).getD (-1)
  ·right
   refine ⟨_,by rw [decide_eq_true h1,Zk5,bad],?_⟩
   cases hp:lastP pre with
   | none=>
     rw [hp] at h1
     have:Zq9 l i x=false:=by simp [Zq9];simp at h1;omega
     simp [Zr9,this]
   | some q=>
     rw [hp] at h1
     have:riseB (some q) x=false:=by simp [riseB];simpa using h1
     simp [Zr9,this]
  have hr:riseB (lastP pre) x=true:=by
   cases hp:lastP pre with
   | none=>rfl
   | some q=>rw [hp] at h1;simp [riseB];simpa using h1
  have h0:0≤x.Peer:=by
   cases hp:lastP pre with
   | none=>rw [hp] at h1;simp at h1;omega
   | some q=>have:=hI q hp;rw [hp] at h1;simp at h1;omega
  by_cases h2:(l.length:Int)≤x.Peer
  ·right
   refine ⟨_,by rw [decide_eq_false h1,Zl5,Z65,decide_eq_true h2,Zk5,bad],?_⟩
   have:Zq9 l i x=false:=by simp [Zq9];omega
   simp [Zr9,this]
  rw [decide_eq_false h1,Zl5,Z65,decide_eq_false h2,Zl5]
  by_cases h3:x.Peer=i
  ·right
   refine ⟨_,by rw [decide_eq_true h3,bad],?_⟩
   have:Zq9 l i x=false:=by simp [Zq9,h3]
   simp [Zr9,this]
  rw [decide_eq_false h3]
  obtain ⟨e,he1,he2⟩:=at_lt (l:=l) (i:=x.Peer) (by omega) (by omega)
  have hes:=hl.2 e (List.mem_iff_getElem?.2 ⟨_,he2⟩)
  have hsb:Zq9 l i x=(Ze9 e i).isSome:=by
   rw [Zq9,decide_eq_true (show 0≤x.Peer by omega),decide_eq_true (show x.Peer<l.length by omega),decide_eq_false h3,he2];simp
  dsimp only [Zqk]
  rw [Zl5,he1,Option.bind_some,s_r12Side e i (by omega),Option.bind_some]
  cases ho:Ze9 e i with
  | none=>
    right
    exact ⟨(.inr (Zv9,false)),rfl,by rw [ho] at hsb;simp [Zr9,hsb]⟩
  | some y=>
    left
    rw [ho] at hsb
    refine ⟨?_,fun q hq=>by rw [Zx9] at hq;simp at hq;omega,by simp [Zr9,hsb,hr,Zx9]⟩
    simp only [sideP,Bool.not_true,Zl5,Zpk]
    rw [edgesD_snoc,Z79,Zs5 (by omega),Zx9]
    have:=Zy9 i pre
    by_cases h5:(i:Int)<x.Peer
    ·rw [decide_eq_true h5,Zk5,Zp5 _ _ (by omega) (by simp;omega),Option.bind_some]
     simp
    ·rw [decide_eq_false h5,Zl5];simp
 ·intro _
  dsimp only [Zrk]
  rw [Zo5 hd,Option.bind_some,Zr5,Zl5,Zok,Zs5 (by omega)]
  simp [Zr9]
theorem s_r12Graph (l:List Diner) (hl:Zd9 l):Ztk l=some (Zw9 l):=by
 unfold Ztk
 have hll:=hl.1
 refine (Z29 l (Zsk l) (fun pre=>((pre.length:Int),Zu9 0 pre)) (fun pre post=>some (if Zt9 l pre.length post&&okG ⟨l.length,Zu9 0 (pre++post)⟩ then (⟨l.length,Zu9 0 (pre++post)⟩,true) else (Zv9,false))) ?_ ?_).trans rfl
 ·intro pre d post h
  have hx:=Z49 h
  have hm:=Z59 h
  have hd:=mid_mem h
  dsimp only [Zsk]
  rw [Zq5 hx,Zk5,Zo5 hx,Option.bind_some,Zm5]
  by_cases h1:d.ID=pre.length
  ·rw [decide_eq_true h1,Zk5,s_r12Graph2 l hl pre.length d hx (by omega) _ (inner_len hl h)]
   cases h2:Zr9 l pre.length none d.Sides with
   | true=>left;exact ⟨by rw [if_pos rfl,Z79,Zz9];simp [Zu9],by simp [Zt9,h1,h2]⟩
   | false=>right;exact ⟨_,rfl,by simp [Zt9,h2]⟩
  ·right
   exact ⟨_,by rw [decide_eq_false h1,Zl5];rfl,by simp [Zt9,h1,Zv9]⟩
 ·dsimp only [Zsk]
  rw [Zr5,Zl5,Znk,Z65,s_r03Check,Option.bind_some]
  simp only [Zt9,List.append_nil,Bool.true_and]
  cases okG ⟨l.length,Zu9 0 l⟩<;>rfl
set_option maxRecDepth 100000
set_option maxHeartbeats 4000000
def Zvk:EC:=.seq (.seq (.reg [(Qa 29 (.mv (.t 3))),(Qa 30 (.fld 2 (.t 1))),(Qa 31 (.load (.t 30))),(Qa 32 (.len (.t 31))),(Qa 33 (.bin .lss (.t 29) (.t 32)))]) (.ite (.t 33) (.skip) (.exit 0))) (.seq (.blk 1 (.seq (.reg [(Qa 36 (.fld 2 (.t 1))),(Qa 37 (.load (.t 36))),(Qa 38 (.mv (.t 3))),(Qa 39 (.idx 8 (.t 37) (.t 38))),(Qa 40 (.loadA 8 (.t 39))),(Qa 4 (.alloc 65 [.iv 0,.iv 0,.iv 0,.ff,.ff,.ff,.ff,.ff])),(Qb (.store 8 (.t 4) (.t 40)))]) (.seq (.drw [(Qa 41 (.fld 0 (.t 4))),(Qa 42 (.load (.t 41))),(Qa 43 (.bin .lss (.t 42) (.c (.iv 0)))),(Qa 44 (.mv (.t 43))),(Qg 45 44 false (.fld 0 (.t 4))),(Qg 46 44 false (.load (.t 45))),(Qg 47 44 false (.fld 0 (.t 1))),(Qg 48 44 false (.load (.t 47))),(Qg 49 44 false (.bin .eql (.t 46) (.t 48))),(Qa 50 (.pick (.t 44) (.c .tt) (.t 49))),(Qa 51 (.mv (.t 50))),(Qg 52 51 false (.mv (.t 3))),(Qg 53 51 false (.bin .gtr (.t 52) (.c (.iv 0)))),(Qg 54 51 false (.mv (.t 53))),(Qg 55 54 true (.fld 2 (.t 1))),(Qg 56 54 true (.load (.t 55))),(Qg 57 54 true (.mv (.t 3))),(Qg 58 54 true (.bin .sub (.t 57) (.c (.iv 1)))),(Qg 59 54 true (.idx 8 (.t 56) (.t 58))),(Qg 60 54 true (.fld 0 (.t 59))),(Qg 61 54 true (.load (.t 60))),(Qg 62 54 true (.fld 0 (.t 4))),(Qg 63 54 true (.load (.t 62))),(Qg 64 54 true (.bin .geq (.t 61) (.t 63))),(Qg 65 51 false (.pick (.t 54) (.t 64) (.c .ff))),(Qa 66 (.pick (.t 51) (.c .tt) (.t 65))),(Qa 67 (.mv (.t 66))),(Qg 68 67 false (.fld 1 (.t 4))),(Qg 69 67 false (.load (.t 68))),(Qg 70 67 false (.bin .lss (.t 69) (.c (.iv 0)))),(Qa 71 (.pick (.t 67) (.c .tt) (.t 70))),(Qa 72 (.mv (.t 71))),(Qg 73 72 false (.fld 1 (.t 4))),(Qg 74 72 false (.load (.t 73))),(Qg 75 72 false (.bin .gtr (.t 74) (.c (.iv 65535)))),(Qa 76 (.pick (.t 72) (.c .tt) (.t 75))),(Qa 77 (.mv (.t 76))),(Qg 78 77 false (.fld 2 (.t 4))),(Qg 79 77 false (.load (.t 78))),(Qg 80 77 false (.bin .lss (.t 79) (.c (.iv 0)))),(Qa 81 (.pick (.t 77) (.c .tt) (.t 80))),(Qa 82 (.mv (.t 81))),(Qg 83 82 false (.fld 2 (.t 4))),(Qg 84 82 false (.load (.t 83))),(Qg 85 82 false (.bin .gtr (.t 84) (.c (.iv 3)))),(Qa 86 (.pick (.t 82) (.c .tt) (.t 85))),(Qa 87 (.mv (.t 86))),(Qg 88 87 false (.fld 4 (.t 4))),(Qg 89 87 false (.load (.t 88))),(Qg 90 87 false (.mv (.t 89))),(Qg 91 90 true (.fld 3 (.t 4))),(Qg 92 90 true (.load (.t 91))),(Qg 93 90 true (.not (.t 92))),(Qg 94 87 false (.pick (.t 90) (.t 93) (.c .ff))),(Qa 95 (.pick (.t 87) (.c .tt) (.t 94)))] [[],[0],[1],[2],[3],[4,3],[3],[6,3],[5,7,3],[3,8],[9,3],[10],[11,10],[12,10,10],[13],[14,13],[13],[16,13],[15,17,13],[18,13],[19,13],[13],[21,13],[20,22,13],[13,23,10],[10,24],[25,13],[26],[27,26],[28,26],[26,29],[30,26],[31],[32,31],[33,31],[31,34],[35,31],[36],[37,36],[38,36],[36,39],[40,36],[41],[42,41],[43,41],[41,44],[45,41],[46],[47,46],[48,46,46],[49],[50,49],[51,49],[49,52,46],[46,53]] [[1],[0,2],[1,3],[2,4,5,6,7,8,9],[3,5],[3,4,8],[3,7],[3,6,8],[3,5,7,9],[3,8,10],[9,11,12,13,24,25],[10,12],[10,11,13],[10,12,14,15,16,17,18,19,20,21,22,23,24],[13,15],[13,14,18],[13,17],[13,16,18],[13,15,17,19],[13,18,20],[13,19,23],[13,22],[13,21,23],[13,20,22,24],[10,13,23,25],[10,24,26],[25,27,28,29,30],[26,28],[26,27,29],[26,28,30],[26,29,31],[30,32,33,34,35],[31,33],[31,32,34],[31,33,35],[31,34,36],[35,37,38,39,40],[36,38],[36,37,39],[36,38,40],[36,39,41],[40,42,43,44,45],[41,43],[41,42,44],[41,43,45],[41,44,46],[45,47,48,49,53,54],[46,48],[46,47,49],[46,48,50,51,52,53],[49,51],[49,50,52],[49,51,53],[46,49,52,54],[46,53]]) (.ite (.t 95) (.seq (.reg [(Qa 2 (.mv (.c .ff)))]) (.ret)) (.skip))))) (.reg [(Qa 34 (.mv (.t 3))),(Qa 35 (.bin .add (.t 34) (.c (.iv 1)))),(Qa 3 (.mv (.t 35)))]))
def e48:EC:=.seq (.reg [(Qa 1 (.box 70 3 (.t 0))),(Qa 2 (.mv (.c .ff)))]) (.seq (.seq (.reg [(Qa 5 (.fld 0 (.t 1))),(Qa 6 (.load (.t 5))),(Qa 7 (.bin .lss (.t 6) (.c (.iv 0)))),(Qa 8 (.mv (.t 7))),(Qg 9 8 false (.fld 1 (.t 1))),(Qg 10 8 false (.load (.t 9))),(Qg 11 8 false (.bin .neq (.t 10) (.c (.iv 0)))),(Qg 12 8 false (.mv (.t 11))),(Qg 13 12 true (.fld 1 (.t 1))),(Qg 14 12 true (.load (.t 13))),(Qg 15 12 true (.bin .neq (.t 14) (.c (.iv 1)))),(Qg 16 8 false (.pick (.t 12) (.t 15) (.c .ff))),(Qg 17 8 false (.mv (.t 16))),(Qg 18 17 true (.fld 1 (.t 1))),(Qg 19 17 true (.load (.t 18))),(Qg 20 17 true (.bin .neq (.t 19) (.c (.iv 2)))),(Qg 21 8 false (.pick (.t 17) (.t 20) (.c .ff))),(Qa 22 (.pick (.t 8) (.c .tt) (.t 21))),(Qa 23 (.mv (.t 22))),(Qg 24 23 false (.fld 2 (.t 1))),(Qg 25 23 false (.load (.t 24))),(Qg 26 23 false (.len (.t 25))),(Qg 27 23 false (.bin .gtr (.t 26) (.c (.iv 63)))),(Qa 28 (.pick (.t 23) (.c .tt) (.t 27)))]) (.ite (.t 28) (.seq (.reg [(Qa 2 (.mv (.c .ff)))]) (.ret)) (.skip))) (.seq (.seq (.reg [(Qa 3 (.mv (.c (.iv 0))))]) (.blk 0 (.loop Zvk))) (.seq (.reg [(Qa 2 (.mv (.c .tt)))]) (.ret))))
theorem ok48:FnOK Tryz.prog 48 Tryz.f48 e48 [.t 2] 1 95:=⟨by kernel_rfl,⟨_,rfl,by kernel_rfl⟩,by kernel_rfl,by kernel_rfl⟩
noncomputable def Zwk:Unit→Option Bool
| ()=>
 some true
noncomputable def Zxk (x7:Int):Bool→Option (Int ⊕ Bool)
| x10=>
 ifb x10 (
 Option.map Sum.inr (some false)) (
 some (.inl (wr (x7+1))))
noncomputable def Zyk (x1:Diner):Int→Option (Int ⊕ Bool)
| x7=>
 ifb (decide (x7<(ln Side.row x1.Sides))) (
 (at_ x1.Sides x7).bind fun x8=>
 ifb (decide (x8.Peer<0)) (
 (Zxk x7) true) (
 ifb (decide (x8.Peer=x1.ID)) (
 (Zxk x7) true) (
 ifb (decide (0<x7)) (
 (at_ x1.Sides (wr (x7-1))).bind fun x9=>
 ifb (decide (x8.Peer≤x9.Peer)) (
 (Zxk x7) true) (
 ifb (decide (x8.Epoch<0)) (
 (Zxk x7) true) (
 ifb (decide (65535<x8.Epoch)) (
 (Zxk x7) true) (
 ifb (decide (x8.State<0)) (
 (Zxk x7) true) (
 ifb (decide (3<x8.State)) (
 (Zxk x7) true) (
 ifb x8.Dirty (
 (Zxk x7) (!x8.Fork)) (
 (Zxk x7) false))))))) (
 ifb (decide (x8.Epoch<0)) (
 (Zxk x7) true) (
 ifb (decide (65535<x8.Epoch)) (
 (Zxk x7) true) (
 ifb (decide (x8.State<0)) (
 (Zxk x7) true) (
 ifb (decide (3<x8.State)) (
 (Zxk x7) true) (
 ifb x8.Dirty (
 (Zxk x7) (!x8.Fork)) (
 (Zxk x7) false))))))))) (
 Option.map Sum.inr (Zwk ()))
noncomputable def Zzk (x1:Diner):Bool→Option Bool
| x2=>
 ifb x2 (
 some false) (
 loop (Zyk x1) 0)
noncomputable def Z0l (x1:Diner):Option Bool:=
 ifb (decide (x1.ID<0)) (
 (Zzk x1) true) (
 ifb (!decide (x1.Phase=0)) (
 ifb (!decide (x1.Phase=1)) (
 ifb (!decide (x1.Phase=2)) (
 (Zzk x1) true) (
 (Zzk x1) (decide (63<(ln Side.row x1.Sides))))) (
 (Zzk x1) (decide (63<(ln Side.row x1.Sides))))) (
 (Zzk x1) (decide (63<(ln Side.row x1.Sides)))))
theorem Z1l (x1:Diner) (r:Bool) (h:Z0l x1=some r):Zq2 Tryz.prog 48 [.agg (Diner.row x1)] (.bv r):=by
 refine Zu2 ok48 rfl rfl fun w0 H0=>?_
 rw [Z0l] at h
 refine Zl2 12 ?_;dsimp only [e48,Zvk,go_sem];refine ⟨by simp,?_⟩;refine Zl4 (fun (x2:Bool)=>(⟨(.any :: .ptr 0 0::an 26 (.bv x2::an 67 [])),[some ⟨70,[.iv x1.ID,.iv x1.Phase,.sl 8 (List.map Side.row x1.Sides)]⟩],[]⟩:St)) (Zzk x1) r ?_ fun J1=>?_
 ·intro x2 h;rw [Zzk] at h;(try dsimp only);refine Zn4 h rfl (fun _ h=>?_) fun _ h=>?_
  ·refine Zl2 4 ?_;dsimp only [e48,Zvk,go_sem];refine ⟨by simp,?_⟩;exact Zx4 (res:=fun (r:Bool)=>.bv r) ok48 h
  ·refine Zl2 6 ?_;dsimp only [e48,Zvk,go_sem];refine ⟨by simp,?_⟩;refine Zl4 (fun (_:Unit)=>(⟨(an 96 []),[],[]⟩:St)) Zwk r ?_ fun J2=>?_
   ·rintro ⟨⟩ h;rw [Zwk] at h;(try dsimp only);refine Zl2 4 ?_;dsimp only [e48,Zvk,go_sem];refine ⟨by simp,?_⟩;exact Zx4 (res:=fun (r:Bool)=>.bv r) ok48 h
   ·refine Zl2 1 ?_;dsimp only [e48,Zvk,go_sem];refine ⟨by simp,?_⟩;refine Zm4 h (fun (x7:Int)=>(⟨(.any :: .ptr 0 0 :: .any :: .iv x7::an 92 []),[some ⟨70,[.iv x1.ID,.iv x1.Phase,.sl 8 (List.map Side.row x1.Sides)]⟩],[]⟩:St)) (by simp [go_sem]) (by intro x7;first | rfl | simp [go_sem]) ?_;rintro n1 x7 y1 h hin1 hout1;rw [Zyk] at h;(try dsimp only);refine Zl2 9 ?_;dsimp only [e48,Zvk,go_sem];refine ⟨by simp,?_⟩;refine Zn4 h rfl (fun _ h=>?_) fun _ h=>?_
    ·refine Zl2 8 ?_;dsimp only [e48,Zvk,go_sem];refine ⟨by simp,?_⟩;obtain ⟨x8,ex8,h⟩:=Option.bind_eq_some_iff.1 h;refine Zq4 Side.row ex8 trivial rfl rfl rfl ?_;refine Zl2 5 ?_;dsimp only [e48,Zvk,go_sem];refine ⟨by simp,?_⟩;refine Zl4 (fun (x10:Bool)=>(⟨(.any :: .ptr 0 0 :: .any :: .iv x7::an 91 [.bv x10]),[some ⟨70,[.iv x1.ID,.iv x1.Phase,.sl 8 (List.map Side.row x1.Sides)]⟩],[]⟩:St)) (Zxk x7) y1 ?_ fun J3=>?_
     ·intro x10 h;rw [Zxk] at h;(try dsimp only);refine Zn4 h rfl (fun _ h=>?_) fun _ h=>?_
      ·refine Zl2 4 ?_;dsimp only [e48,Zvk,go_sem];refine ⟨by simp,?_⟩;exact Zx4 (res:=fun (r:Bool)=>.bv r) ok48 (Zk4 h hout1)
      ·refine Zl2 7 ?_;dsimp only [e48,Zvk,go_sem];refine ⟨by simp,?_⟩;exact Zy4 h hin1
     ·refine Zh3 (by kernel_rfl) fun all hall hs hnap haf=>?_;dsimp only [go_sem]
      refine Zi5 hall hs haf hnap 4 51 [true,true,true,true,false,false,false,false,false,false,false,false,false,false,false,false,false,false,false,false,false,false,false,false,false,false,false,false,false,false,false,false,false,false,false,false,false,false,false,false,false,false,false,false,false,false,false,false,false,false,false,false,false,false,false] (⟨(.any :: .ptr 0 0 :: .any :: .iv x7 :: .ptr 1 0::an 24 (.iv x7 :: .ptr 0 2 :: .sl 8 (List.map Side.row x1.Sides) :: .iv (ln Side.row x1.Sides) :: .bv (decide (x7<(ln Side.row x1.Sides))) :: .any :: .any :: .ptr 0 2 :: .sl 8 (List.map Side.row x1.Sides) :: .iv x7 :: .elt [.iv x8.Peer,.iv x8.Epoch,.iv x8.State,.bv x8.Fork,.bv x8.Dirty,.bv x8.Token,.bv x8.Bottle,.bv x8.Ask] 0 :: .agg [.iv x8.Peer,.iv x8.Epoch,.iv x8.State,.bv x8.Fork,.bv x8.Dirty,.bv x8.Token,.bv x8.Bottle,.bv x8.Ask] :: .ptr 1 0 :: .iv x8.Peer :: .bv (decide (x8.Peer<0)) :: .bv (decide (x8.Peer<0))::an 51 [])),[some ⟨70,[.iv x1.ID,.iv x1.Phase,.sl 8 (List.map Side.row x1.Sides)]⟩,some ⟨65,[.iv x8.Peer,.iv x8.Epoch,.iv x8.State,.bv x8.Fork,.bv x8.Dirty,.bv x8.Token,.bv x8.Bottle,.bv x8.Ask]⟩],[]⟩:St) (by kernel_rfl) ?_
      refine Z75 44 h rfl (fun _ h=>?_) fun _ h=>?_
      ·dsimp only [go_sem]
       refine Zi5 hall hs haf hnap 51 0 [true,true,true,true,true,true,true,true,true,true,true,true,true,true,true,true,true,true,true,true,true,true,true,true,true,true,true,true,true,true,true,true,true,true,true,true,true,true,true,true,true,true,true,true,true,true,true,true,true,true,true,true,true,true,true] (⟨(.any :: .ptr 0 0 :: .any :: .iv x7 :: .ptr 1 0::an 24 (.iv x7 :: .ptr 0 2 :: .sl 8 (List.map Side.row x1.Sides) :: .iv (ln Side.row x1.Sides) :: .bv (decide (x7<(ln Side.row x1.Sides))) :: .any :: .any :: .ptr 0 2 :: .sl 8 (List.map Side.row x1.Sides) :: .iv x7 :: .elt [.iv x8.Peer,.iv x8.Epoch,.iv x8.State,.bv x8.Fork,.bv x8.Dirty,.bv x8.Token,.bv x8.Bottle,.bv x8.Ask] 0 :: .agg [.iv x8.Peer,.iv x8.Epoch,.iv x8.State,.bv x8.Fork,.bv x8.Dirty,.bv x8.Token,.bv x8.Bottle,.bv x8.Ask] :: .ptr 1 0 :: .iv x8.Peer :: .bv (decide (x8.Peer<0)) :: .tt :: .un :: .un :: .un :: .un :: .un :: .tt :: .tt :: .un :: .un :: .un :: .un :: .un :: .un :: .un :: .un :: .un :: .un :: .un :: .un :: .un :: .un :: .tt :: .tt :: .un :: .un :: .un :: .tt :: .tt :: .un :: .un :: .un :: .tt :: .tt :: .un :: .un :: .un :: .tt :: .tt :: .un :: .un :: .un :: .tt :: .tt :: .un :: .un :: .un :: .un :: .un :: .un :: .un :: .tt::[])),[some ⟨70,[.iv x1.ID,.iv x1.Phase,.sl 8 (List.map Side.row x1.Sides)]⟩,some ⟨65,[.iv x8.Peer,.iv x8.Epoch,.iv x8.State,.bv x8.Fork,.bv x8.Dirty,.bv x8.Token,.bv x8.Bottle,.bv x8.Ask]⟩],[]⟩:St) (by kernel_rfl) ?_
       refine Zs3 rfl ?_ _;exact Zz4 J3 (s:=true) h
      ·dsimp only [go_sem]
       refine Zi5 hall hs haf hnap 7 44 [true,true,true,true,true,true,true,true,true,true,true,false,false,false,false,false,false,false,false,false,false,false,false,false,false,false,false,false,false,false,false,false,false,false,false,false,false,false,false,false,false,false,false,false,false,false,false,false,false,false,false,false,false,false,false] (⟨(.any :: .ptr 0 0 :: .any :: .iv x7 :: .ptr 1 0::an 24 (.iv x7 :: .ptr 0 2 :: .sl 8 (List.map Side.row x1.Sides) :: .iv (ln Side.row x1.Sides) :: .bv (decide (x7<(ln Side.row x1.Sides))) :: .any :: .any :: .ptr 0 2 :: .sl 8 (List.map Side.row x1.Sides) :: .iv x7 :: .elt [.iv x8.Peer,.iv x8.Epoch,.iv x8.State,.bv x8.Fork,.bv x8.Dirty,.bv x8.Token,.bv x8.Bottle,.bv x8.Ask] 0 :: .agg [.iv x8.Peer,.iv x8.Epoch,.iv x8.State,.bv x8.Fork,.bv x8.Dirty,.bv x8.Token,.bv x8.Bottle,.bv x8.Ask] :: .ptr 1 0 :: .iv x8.Peer :: .bv (decide (x8.Peer<0)) :: .ff :: .ptr 1 0 :: .iv x8.Peer :: .ptr 0 0 :: .iv x1.ID :: .bv (decide (x8.Peer=x1.ID)) :: .bv (decide (x8.Peer=x1.ID)) :: .bv (decide (x8.Peer=x1.ID))::an 44 [])),[some ⟨70,[.iv x1.ID,.iv x1.Phase,.sl 8 (List.map Side.row x1.Sides)]⟩,some ⟨65,[.iv x8.Peer,.iv x8.Epoch,.iv x8.State,.bv x8.Fork,.bv x8.Dirty,.bv x8.Token,.bv x8.Bottle,.bv x8.Ask]⟩],[]⟩:St) (by kernel_rfl) ?_
       refine Z75 51 h rfl (fun _ h=>?_) fun _ h=>?_
       ·dsimp only [go_sem]
        refine Zi5 hall hs haf hnap 44 0 [true,true,true,true,true,true,true,true,true,true,true,true,true,true,true,true,true,true,true,true,true,true,true,true,true,true,true,true,true,true,true,true,true,true,true,true,true,true,true,true,true,true,true,true,true,true,true,true,true,true,true,true,true,true,true] (⟨(.any :: .ptr 0 0 :: .any :: .iv x7 :: .ptr 1 0::an 24 (.iv x7 :: .ptr 0 2 :: .sl 8 (List.map Side.row x1.Sides) :: .iv (ln Side.row x1.Sides) :: .bv (decide (x7<(ln Side.row x1.Sides))) :: .any :: .any :: .ptr 0 2 :: .sl 8 (List.map Side.row x1.Sides) :: .iv x7 :: .elt [.iv x8.Peer,.iv x8.Epoch,.iv x8.State,.bv x8.Fork,.bv x8.Dirty,.bv x8.Token,.bv x8.Bottle,.bv x8.Ask] 0 :: .agg [.iv x8.Peer,.iv x8.Epoch,.iv x8.State,.bv x8.Fork,.bv x8.Dirty,.bv x8.Token,.bv x8.Bottle,.bv x8.Ask] :: .ptr 1 0 :: .iv x8.Peer :: .bv (decide (x8.Peer<0)) :: .ff :: .ptr 1 0 :: .iv x8.Peer :: .ptr 0 0 :: .iv x1.ID :: .bv (decide (x8.Peer=x1.ID)) :: .bv (decide (x8.Peer=x1.ID)) :: .tt :: .un :: .un :: .un :: .un :: .un :: .un :: .un :: .un :: .un :: .un :: .un :: .un :: .un :: .un :: .tt :: .tt :: .un :: .un :: .un :: .tt :: .tt :: .un :: .un :: .un :: .tt :: .tt :: .un :: .un :: .un :: .tt :: .tt :: .un :: .un :: .un :: .tt :: .tt :: .un :: .un :: .un :: .un :: .un :: .un :: .un :: .tt::[])),[some ⟨70,[.iv x1.ID,.iv x1.Phase,.sl 8 (List.map Side.row x1.Sides)]⟩,some ⟨65,[.iv x8.Peer,.iv x8.Epoch,.iv x8.State,.bv x8.Fork,.bv x8.Dirty,.bv x8.Token,.bv x8.Bottle,.bv x8.Ask]⟩],[]⟩:St) (by kernel_rfl) ?_
        refine Zs3 rfl ?_ _;exact Zz4 J3 (s:=true) h
       ·dsimp only [go_sem]
        refine Zi5 hall hs haf hnap 3 41 [true,true,true,true,true,true,true,true,true,true,true,true,true,true,false,false,false,false,false,false,false,false,false,false,false,false,false,false,false,false,false,false,false,false,false,false,false,false,false,false,false,false,false,false,false,false,false,false,false,false,false,false,false,false,false] (⟨(.any :: .ptr 0 0 :: .any :: .iv x7 :: .ptr 1 0::an 24 (.iv x7 :: .ptr 0 2 :: .sl 8 (List.map Side.row x1.Sides) :: .iv (ln Side.row x1.Sides) :: .bv (decide (x7<(ln Side.row x1.Sides))) :: .any :: .any :: .ptr 0 2 :: .sl 8 (List.map Side.row x1.Sides) :: .iv x7 :: .elt [.iv x8.Peer,.iv x8.Epoch,.iv x8.State,.bv x8.Fork,.bv x8.Dirty,.bv x8.Token,.bv x8.Bottle,.bv x8.Ask] 0 :: .agg [.iv x8.Peer,.iv x8.Epoch,.iv x8.State,.bv x8.Fork,.bv x8.Dirty,.bv x8.Token,.bv x8.Bottle,.bv x8.Ask] :: .ptr 1 0 :: .iv x8.Peer :: .bv (decide (x8.Peer<0)) :: .ff :: .ptr 1 0 :: .iv x8.Peer :: .ptr 0 0 :: .iv x1.ID :: .bv (decide (x8.Peer=x1.ID)) :: .bv (decide (x8.Peer=x1.ID)) :: .ff :: .iv x7 :: .bv (decide (0<x7)) :: .bv (decide (0<x7))::an 41 [])),[some ⟨70,[.iv x1.ID,.iv x1.Phase,.sl 8 (List.map Side.row x1.Sides)]⟩,some ⟨65,[.iv x8.Peer,.iv x8.Epoch,.iv x8.State,.bv x8.Fork,.bv x8.Dirty,.bv x8.Token,.bv x8.Bottle,.bv x8.Ask]⟩],[]⟩:St) (by kernel_rfl) ?_
        refine Z75 54 h rfl (fun _ h=>?_) fun _ h=>?_
        ·dsimp only [go_sem]
         refine Zi5 hall hs haf hnap 6 35 [true,true,true,true,true,true,true,true,true,true,true,true,true,true,true,true,true,true,false,false,false,true,true,false,false,false,false,false,false,false,false,false,false,false,false,false,false,false,false,false,false,false,false,false,false,false,false,false,false,false,false,false,false,false,false] (⟨(.any :: .ptr 0 0 :: .any :: .iv x7 :: .ptr 1 0::an 24 (.iv x7 :: .ptr 0 2 :: .sl 8 (List.map Side.row x1.Sides) :: .iv (ln Side.row x1.Sides) :: .bv (decide (x7<(ln Side.row x1.Sides))) :: .any :: .any :: .ptr 0 2 :: .sl 8 (List.map Side.row x1.Sides) :: .iv x7 :: .elt [.iv x8.Peer,.iv x8.Epoch,.iv x8.State,.bv x8.Fork,.bv x8.Dirty,.bv x8.Token,.bv x8.Bottle,.bv x8.Ask] 0 :: .agg [.iv x8.Peer,.iv x8.Epoch,.iv x8.State,.bv x8.Fork,.bv x8.Dirty,.bv x8.Token,.bv x8.Bottle,.bv x8.Ask] :: .ptr 1 0 :: .iv x8.Peer :: .bv (decide (x8.Peer<0)) :: .ff :: .ptr 1 0 :: .iv x8.Peer :: .ptr 0 0 :: .iv x1.ID :: .bv (decide (x8.Peer=x1.ID)) :: .bv (decide (x8.Peer=x1.ID)) :: .ff :: .iv x7 :: .bv (decide (0<x7)) :: .tt :: .ptr 0 2 :: .sl 8 (List.map Side.row x1.Sides) :: .iv x7 :: .iv (wr (x7-1))::an 3 (.ptr 1 0 :: .iv x8.Peer::an 32 []))),[some ⟨70,[.iv x1.ID,.iv x1.Phase,.sl 8 (List.map Side.row x1.Sides)]⟩,some ⟨65,[.iv x8.Peer,.iv x8.Epoch,.iv x8.State,.bv x8.Fork,.bv x8.Dirty,.bv x8.Token,.bv x8.Bottle,.bv x8.Ask]⟩],[]⟩:St) (by kernel_rfl) ?_
         obtain ⟨x9,ex9,h⟩:=Option.bind_eq_some_iff.1 h;refine Zr4 hall hs haf hnap 18 Side.row ex9 rfl rfl trivial rfl rfl rfl rfl ?_
         refine Zi5 hall hs haf hnap 6 28 [true,true,true,true,true,true,true,true,true,true,true,true,true,true,true,true,true,true,true,true,true,true,true,true,true,true,true,false,false,false,false,false,false,false,false,false,false,false,false,false,false,false,false,false,false,false,false,false,false,false,false,false,false,false,false] (⟨(.any :: .ptr 0 0 :: .any :: .iv x7 :: .ptr 1 0::an 24 (.iv x7 :: .ptr 0 2 :: .sl 8 (List.map Side.row x1.Sides) :: .iv (ln Side.row x1.Sides) :: .bv (decide (x7<(ln Side.row x1.Sides))) :: .any :: .any :: .ptr 0 2 :: .sl 8 (List.map Side.row x1.Sides) :: .iv x7 :: .elt [.iv x8.Peer,.iv x8.Epoch,.iv x8.State,.bv x8.Fork,.bv x8.Dirty,.bv x8.Token,.bv x8.Bottle,.bv x8.Ask] 0 :: .agg [.iv x8.Peer,.iv x8.Epoch,.iv x8.State,.bv x8.Fork,.bv x8.Dirty,.bv x8.Token,.bv x8.Bottle,.bv x8.Ask] :: .ptr 1 0 :: .iv x8.Peer :: .bv (decide (x8.Peer<0)) :: .ff :: .ptr 1 0 :: .iv x8.Peer :: .ptr 0 0 :: .iv x1.ID :: .bv (decide (x8.Peer=x1.ID)) :: .bv (decide (x8.Peer=x1.ID)) :: .ff :: .iv x7 :: .bv (decide (0<x7)) :: .tt :: .ptr 0 2 :: .sl 8 (List.map Side.row x1.Sides) :: .iv x7 :: .iv (wr (x7-1)) :: .elt [.iv x9.Peer,.iv x9.Epoch,.iv x9.State,.bv x9.Fork,.bv x9.Dirty,.bv x9.Token,.bv x9.Bottle,.bv x9.Ask] 0 :: .elt [.iv x9.Peer,.iv x9.Epoch,.iv x9.State,.bv x9.Fork,.bv x9.Dirty,.bv x9.Token,.bv x9.Bottle,.bv x9.Ask] 0 :: .iv x9.Peer :: .ptr 1 0 :: .iv x8.Peer :: .bv (decide (x8.Peer≤x9.Peer)) :: .bv (decide (x8.Peer≤x9.Peer)) :: .bv (decide (x8.Peer≤x9.Peer)) :: .bv (decide (x8.Peer≤x9.Peer))::an 28 [])),[some ⟨70,[.iv x1.ID,.iv x1.Phase,.sl 8 (List.map Side.row x1.Sides)]⟩,some ⟨65,[.iv x8.Peer,.iv x8.Epoch,.iv x8.State,.bv x8.Fork,.bv x8.Dirty,.bv x8.Token,.bv x8.Bottle,.bv x8.Ask]⟩],[]⟩:St) (by kernel_rfl) ?_
         refine Z75 67 h rfl (fun _ h=>?_) fun _ h=>?_
         ·dsimp only [go_sem]
          refine Zi5 hall hs haf hnap 28 0 [true,true,true,true,true,true,true,true,true,true,true,true,true,true,true,true,true,true,true,true,true,true,true,true,true,true,true,true,true,true,true,true,true,true,true,true,true,true,true,true,true,true,true,true,true,true,true,true,true,true,true,true,true,true,true] (⟨(.any :: .ptr 0 0 :: .any :: .iv x7 :: .ptr 1 0::an 24 (.iv x7 :: .ptr 0 2 :: .sl 8 (List.map Side.row x1.Sides) :: .iv (ln Side.row x1.Sides) :: .bv (decide (x7<(ln Side.row x1.Sides))) :: .any :: .any :: .ptr 0 2 :: .sl 8 (List.map Side.row x1.Sides) :: .iv x7 :: .elt [.iv x8.Peer,.iv x8.Epoch,.iv x8.State,.bv x8.Fork,.bv x8.Dirty,.bv x8.Token,.bv x8.Bottle,.bv x8.Ask] 0 :: .agg [.iv x8.Peer,.iv x8.Epoch,.iv x8.State,.bv x8.Fork,.bv x8.Dirty,.bv x8.Token,.bv x8.Bottle,.bv x8.Ask] :: .ptr 1 0 :: .iv x8.Peer :: .bv (decide (x8.Peer<0)) :: .ff :: .ptr 1 0 :: .iv x8.Peer :: .ptr 0 0 :: .iv x1.ID :: .bv (decide (x8.Peer=x1.ID)) :: .bv (decide (x8.Peer=x1.ID)) :: .ff :: .iv x7 :: .bv (decide (0<x7)) :: .tt :: .ptr 0 2 :: .sl 8 (List.map Side.row x1.Sides) :: .iv x7 :: .iv (wr (x7-1)) :: .elt [.iv x9.Peer,.iv x9.Epoch,.iv x9.State,.bv x9.Fork,.bv x9.Dirty,.bv x9.Token,.bv x9.Bottle,.bv x9.Ask] 0 :: .elt [.iv x9.Peer,.iv x9.Epoch,.iv x9.State,.bv x9.Fork,.bv x9.Dirty,.bv x9.Token,.bv x9.Bottle,.bv x9.Ask] 0 :: .iv x9.Peer :: .ptr 1 0 :: .iv x8.Peer :: .bv (decide (x8.Peer≤x9.Peer)) :: .bv (decide (x8.Peer≤x9.Peer)) :: .bv (decide (x8.Peer≤x9.Peer)) :: .tt :: .un :: .un :: .un :: .tt :: .tt :: .un :: .un :: .un :: .tt :: .tt :: .un :: .un :: .un :: .tt :: .tt :: .un :: .un :: .un :: .tt :: .tt :: .un :: .un :: .un :: .un :: .un :: .un :: .un :: .tt::[])),[some ⟨70,[.iv x1.ID,.iv x1.Phase,.sl 8 (List.map Side.row x1.Sides)]⟩,some ⟨65,[.iv x8.Peer,.iv x8.Epoch,.iv x8.State,.bv x8.Fork,.bv x8.Dirty,.bv x8.Token,.bv x8.Bottle,.bv x8.Ask]⟩],[]⟩:St) (by kernel_rfl) ?_
          refine Zs3 rfl ?_ _;exact Zz4 J3 (s:=true) h
         ·dsimp only [go_sem]
          refine Zi5 hall hs haf hnap 5 23 [true,true,true,true,true,true,true,true,true,true,true,true,true,true,true,true,true,true,true,true,true,true,true,true,true,true,true,true,true,true,true,true,false,false,false,false,false,false,false,false,false,false,false,false,false,false,false,false,false,false,false,false,false,false,false] (⟨(.any :: .ptr 0 0 :: .any :: .iv x7 :: .ptr 1 0::an 24 (.iv x7 :: .ptr 0 2 :: .sl 8 (List.map Side.row x1.Sides) :: .iv (ln Side.row x1.Sides) :: .bv (decide (x7<(ln Side.row x1.Sides))) :: .any :: .any :: .ptr 0 2 :: .sl 8 (List.map Side.row x1.Sides) :: .iv x7 :: .elt [.iv x8.Peer,.iv x8.Epoch,.iv x8.State,.bv x8.Fork,.bv x8.Dirty,.bv x8.Token,.bv x8.Bottle,.bv x8.Ask] 0 :: .agg [.iv x8.Peer,.iv x8.Epoch,.iv x8.State,.bv x8.Fork,.bv x8.Dirty,.bv x8.Token,.bv x8.Bottle,.bv x8.Ask] :: .ptr 1 0 :: .iv x8.Peer :: .bv (decide (x8.Peer<0)) :: .ff :: .ptr 1 0 :: .iv x8.Peer :: .ptr 0 0 :: .iv x1.ID :: .bv (decide (x8.Peer=x1.ID)) :: .bv (decide (x8.Peer=x1.ID)) :: .ff :: .iv x7 :: .bv (decide (0<x7)) :: .tt :: .ptr 0 2 :: .sl 8 (List.map Side.row x1.Sides) :: .iv x7 :: .iv (wr (x7-1)) :: .elt [.iv x9.Peer,.iv x9.Epoch,.iv x9.State,.bv x9.Fork,.bv x9.Dirty,.bv x9.Token,.bv x9.Bottle,.bv x9.Ask] 0 :: .elt [.iv x9.Peer,.iv x9.Epoch,.iv x9.State,.bv x9.Fork,.bv x9.Dirty,.bv x9.Token,.bv x9.Bottle,.bv x9.Ask] 0 :: .iv x9.Peer :: .ptr 1 0 :: .iv x8.Peer :: .bv (decide (x8.Peer≤x9.Peer)) :: .bv (decide (x8.Peer≤x9.Peer)) :: .bv (decide (x8.Peer≤x9.Peer)) :: .ff :: .ptr 1 1 :: .iv x8.Epoch :: .bv (decide (x8.Epoch<0)) :: .bv (decide (x8.Epoch<0)) :: .bv (decide (x8.Epoch<0))::an 23 [])),[some ⟨70,[.iv x1.ID,.iv x1.Phase,.sl 8 (List.map Side.row x1.Sides)]⟩,some ⟨65,[.iv x8.Peer,.iv x8.Epoch,.iv x8.State,.bv x8.Fork,.bv x8.Dirty,.bv x8.Token,.bv x8.Bottle,.bv x8.Ask]⟩],[]⟩:St) (by kernel_rfl) ?_
          refine Z75 72 h rfl (fun _ h=>?_) fun _ h=>?_
          ·dsimp only [go_sem]
           refine Zi5 hall hs haf hnap 23 0 [true,true,true,true,true,true,true,true,true,true,true,true,true,true,true,true,true,true,true,true,true,true,true,true,true,true,true,true,true,true,true,true,true,true,true,true,true,true,true,true,true,true,true,true,true,true,true,true,true,true,true,true,true,true,true] (⟨(.any :: .ptr 0 0 :: .any :: .iv x7 :: .ptr 1 0::an 24 (.iv x7 :: .ptr 0 2 :: .sl 8 (List.map Side.row x1.Sides) :: .iv (ln Side.row x1.Sides) :: .bv (decide (x7<(ln Side.row x1.Sides))) :: .any :: .any :: .ptr 0 2 :: .sl 8 (List.map Side.row x1.Sides) :: .iv x7 :: .elt [.iv x8.Peer,.iv x8.Epoch,.iv x8.State,.bv x8.Fork,.bv x8.Dirty,.bv x8.Token,.bv x8.Bottle,.bv x8.Ask] 0 :: .agg [.iv x8.Peer,.iv x8.Epoch,.iv x8.State,.bv x8.Fork,.bv x8.Dirty,.bv x8.Token,.bv x8.Bottle,.bv x8.Ask] :: .ptr 1 0 :: .iv x8.Peer :: .bv (decide (x8.Peer<0)) :: .ff :: .ptr 1 0 :: .iv x8.Peer :: .ptr 0 0 :: .iv x1.ID :: .bv (decide (x8.Peer=x1.ID)) :: .bv (decide (x8.Peer=x1.ID)) :: .ff :: .iv x7 :: .bv (decide (0<x7)) :: .tt :: .ptr 0 2 :: .sl 8 (List.map Side.row x1.Sides) :: .iv x7 :: .iv (wr (x7-1)) :: .elt [.iv x9.Peer,.iv x9.Epoch,.iv x9.State,.bv x9.Fork,.bv x9.Dirty,.bv x9.Token,.bv x9.Bottle,.bv x9.Ask] 0 :: .elt [.iv x9.Peer,.iv x9.Epoch,.iv x9.State,.bv x9.Fork,.bv x9.Dirty,.bv x9.Token,.bv x9.Bottle,.bv x9.Ask] 0 :: .iv x9.Peer :: .ptr 1 0 :: .iv x8.Peer :: .bv (decide (x8.Peer≤x9.Peer)) :: .bv (decide (x8.Peer≤x9.Peer)) :: .bv (decide (x8.Peer≤x9.Peer)) :: .ff :: .ptr 1 1 :: .iv x8.Epoch :: .bv (decide (x8.Epoch<0)) :: .bv (decide (x8.Epoch<0)) :: .tt :: .un :: .un :: .un :: .tt :: .tt :: .un :: .un :: .un :: .tt :: .tt :: .un :: .un :: .un :: .tt :: .tt :: .un :: .un :: .un :: .un :: .un :: .un :: .un :: .tt::[])),[some ⟨70,[.iv x1.ID,.iv x1.Phase,.sl 8 (List.map Side.row x1.Sides)]⟩,some ⟨65,[.iv x8.Peer,.iv x8.Epoch,.iv x8.State,.bv x8.Fork,.bv x8.Dirty,.bv x8.Token,.bv x8.Bottle,.bv x8.Ask]⟩],[]⟩:St) (by kernel_rfl) ?_
           refine Zs3 rfl ?_ _;exact Zz4 J3 (s:=true) h
          ·dsimp only [go_sem]
           refine Zi5 hall hs haf hnap 5 18 [true,true,true,true,true,true,true,true,true,true,true,true,true,true,true,true,true,true,true,true,true,true,true,true,true,true,true,true,true,true,true,true,true,true,true,true,true,false,false,false,false,false,false,false,false,false,false,false,false,false,false,false,false,false,false] (⟨(.any :: .ptr 0 0 :: .any :: .iv x7 :: .ptr 1 0::an 24 (.iv x7 :: .ptr 0 2 :: .sl 8 (List.map Side.row x1.Sides) :: .iv (ln Side.row x1.Sides) :: .bv (decide (x7<(ln Side.row x1.Sides))) :: .any :: .any :: .ptr 0 2 :: .sl 8 (List.map Side.row x1.Sides) :: .iv x7 :: .elt [.iv x8.Peer,.iv x8.Epoch,.iv x8.State,.bv x8.Fork,.bv x8.Dirty,.bv x8.Token,.bv x8.Bottle,.bv x8.Ask] 0 :: .agg [.iv x8.Peer,.iv x8.Epoch,.iv x8.State,.bv x8.Fork,.bv x8.Dirty,.bv x8.Token,.bv x8.Bottle,.bv x8.Ask] :: .ptr 1 0 :: .iv x8.Peer :: .bv (decide (x8.Peer<0)) :: .ff :: .ptr 1 0 :: .iv x8.Peer :: .ptr 0 0 :: .iv x1.ID :: .bv (decide (x8.Peer=x1.ID)) :: .bv (decide (x8.Peer=x1.ID)) :: .ff :: .iv x7 :: .bv (decide (0<x7)) :: .tt :: .ptr 0 2 :: .sl 8 (List.map Side.row x1.Sides) :: .iv x7 :: .iv (wr (x7-1)) :: .elt [.iv x9.Peer,.iv x9.Epoch,.iv x9.State,.bv x9.Fork,.bv x9.Dirty,.bv x9.Token,.bv x9.Bottle,.bv x9.Ask] 0 :: .elt [.iv x9.Peer,.iv x9.Epoch,.iv x9.State,.bv x9.Fork,.bv x9.Dirty,.bv x9.Token,.bv x9.Bottle,.bv x9.Ask] 0 :: .iv x9.Peer :: .ptr 1 0 :: .iv x8.Peer :: .bv (decide (x8.Peer≤x9.Peer)) :: .bv (decide (x8.Peer≤x9.Peer)) :: .bv (decide (x8.Peer≤x9.Peer)) :: .ff :: .ptr 1 1 :: .iv x8.Epoch :: .bv (decide (x8.Epoch<0)) :: .bv (decide (x8.Epoch<0)) :: .ff :: .ptr 1 1 :: .iv x8.Epoch :: .bv (decide (65535<x8.Epoch)) :: .bv (decide (65535<x8.Epoch)) :: .bv (decide (65535<x8.Epoch))::an 18 [])),[some ⟨70,[.iv x1.ID,.iv x1.Phase,.sl 8 (List.map Side.row x1.Sides)]⟩,some ⟨65,[.iv x8.Peer,.iv x8.Epoch,.iv x8.State,.bv x8.Fork,.bv x8.Dirty,.bv x8.Token,.bv x8.Bottle,.bv x8.Ask]⟩],[]⟩:St) (by kernel_rfl) ?_
           refine Z75 77 h rfl (fun _ h=>?_) fun _ h=>?_
           ·dsimp only [go_sem]
            refine Zi5 hall hs haf hnap 18 0 [true,true,true,true,true,true,true,true,true,true,true,true,true,true,true,true,true,true,true,true,true,true,true,true,true,true,true,true,true,true,true,true,true,true,true,true,true,true,true,true,true,true,true,true,true,true,true,true,true,true,true,true,true,true,true] (⟨(.any :: .ptr 0 0 :: .any :: .iv x7 :: .ptr 1 0::an 24 (.iv x7 :: .ptr 0 2 :: .sl 8 (List.map Side.row x1.Sides) :: .iv (ln Side.row x1.Sides) :: .bv (decide (x7<(ln Side.row x1.Sides))) :: .any :: .any :: .ptr 0 2 :: .sl 8 (List.map Side.row x1.Sides) :: .iv x7 :: .elt [.iv x8.Peer,.iv x8.Epoch,.iv x8.State,.bv x8.Fork,.bv x8.Dirty,.bv x8.Token,.bv x8.Bottle,.bv x8.Ask] 0 :: .agg [.iv x8.Peer,.iv x8.Epoch,.iv x8.State,.bv x8.Fork,.bv x8.Dirty,.bv x8.Token,.bv x8.Bottle,.bv x8.Ask] :: .ptr 1 0 :: .iv x8.Peer :: .bv (decide (x8.Peer<0)) :: .ff :: .ptr 1 0 :: .iv x8.Peer :: .ptr 0 0 :: .iv x1.ID :: .bv (decide (x8.Peer=x1.ID)) :: .bv (decide (x8.Peer=x1.ID)) :: .ff :: .iv x7 :: .bv (decide (0<x7)) :: .tt :: .ptr 0 2 :: .sl 8 (List.map Side.row x1.Sides) :: .iv x7 :: .iv (wr (x7-1)) :: .elt [.iv x9.Peer,.iv x9.Epoch,.iv x9.State,.bv x9.Fork,.bv x9.Dirty,.bv x9.Token,.bv x9.Bottle,.bv x9.Ask] 0 :: .elt [.iv x9.Peer,.iv x9.Epoch,.iv x9.State,.bv x9.Fork,.bv x9.Dirty,.bv x9.Token,.bv x9.Bottle,.bv x9.Ask] 0 :: .iv x9.Peer :: .ptr 1 0 :: .iv x8.Peer :: .bv (decide (x8.Peer≤x9.Peer)) :: .bv (decide (x8.Peer≤x9.Peer)) :: .bv (decide (x8.Peer≤x9.Peer)) :: .ff :: .ptr 1 1 :: .iv x8.Epoch :: .bv (decide (x8.Epoch<0)) :: .bv (decide (x8.Epoch<0)) :: .ff :: .ptr 1 1 :: .iv x8.Epoch :: .bv (decide (65535<x8.Epoch)) :: .bv (decide (65535<x8.Epoch)) :: .tt :: .un :: .un :: .un :: .tt :: .tt :: .un :: .un :: .un :: .tt :: .tt :: .un :: .un :: .un :: .un :: .un :: .un :: .un :: .tt::[])),[some ⟨70,[.iv x1.ID,.iv x1.Phase,.sl 8 (List.map Side.row x1.Sides)]⟩,some ⟨65,[.iv x8.Peer,.iv x8.Epoch,.iv x8.State,.bv x8.Fork,.bv x8.Dirty,.bv x8.Token,.bv x8.Bottle,.bv x8.Ask]⟩],[]⟩:St) (by kernel_rfl) ?_
            refine Zs3 rfl ?_ _;exact Zz4 J3 (s:=true) h
           ·dsimp only [go_sem]
            refine Zi5 hall hs haf hnap 5 13 [true,true,true,true,true,true,true,true,true,true,true,true,true,true,true,true,true,true,true,true,true,true,true,true,true,true,true,true,true,true,true,true,true,true,true,true,true,true,true,true,true,true,false,false,false,false,false,false,false,false,false,false,false,false,false] (⟨(.any :: .ptr 0 0 :: .any :: .iv x7 :: .ptr 1 0::an 24 (.iv x7 :: .ptr 0 2 :: .sl 8 (List.map Side.row x1.Sides) :: .iv (ln Side.row x1.Sides) :: .bv (decide (x7<(ln Side.row x1.Sides))) :: .any :: .any :: .ptr 0 2 :: .sl 8 (List.map Side.row x1.Sides) :: .iv x7 :: .elt [.iv x8.Peer,.iv x8.Epoch,.iv x8.State,.bv x8.Fork,.bv x8.Dirty,.bv x8.Token,.bv x8.Bottle,.bv x8.Ask] 0 :: .agg [.iv x8.Peer,.iv x8.Epoch,.iv x8.State,.bv x8.Fork,.bv x8.Dirty,.bv x8.Token,.bv x8.Bottle,.bv x8.Ask] :: .ptr 1 0 :: .iv x8.Peer :: .bv (decide (x8.Peer<0)) :: .ff :: .ptr 1 0 :: .iv x8.Peer :: .ptr 0 0 :: .iv x1.ID :: .bv (decide (x8.Peer=x1.ID)) :: .bv (decide (x8.Peer=x1.ID)) :: .ff :: .iv x7 :: .bv (decide (0<x7)) :: .tt :: .ptr 0 2 :: .sl 8 (List.map Side.row x1.Sides) :: .iv x7 :: .iv (wr (x7-1)) :: .elt [.iv x9.Peer,.iv x9.Epoch,.iv x9.State,.bv x9.Fork,.bv x9.Dirty,.bv x9.Token,.bv x9.Bottle,.bv x9.Ask] 0 :: .elt [.iv x9.Peer,.iv x9.Epoch,.iv x9.State,.bv x9.Fork,.bv x9.Dirty,.bv x9.Token,.bv x9.Bottle,.bv x9.Ask] 0 :: .iv x9.Peer :: .ptr 1 0 :: .iv x8.Peer :: .bv (decide (x8.Peer≤x9.Peer)) :: .bv (decide (x8.Peer≤x9.Peer)) :: .bv (decide (x8.Peer≤x9.Peer)) :: .ff :: .ptr 1 1 :: .iv x8.Epoch :: .bv (decide (x8.Epoch<0)) :: .bv (decide (x8.Epoch<0)) :: .ff :: .ptr 1 1 :: .iv x8.Epoch :: .bv (decide (65535<x8.Epoch)) :: .bv (decide (65535<x8.Epoch)) :: .ff :: .ptr 1 2 :: .iv x8.State :: .bv (decide (x8.State<0)) :: .bv (decide (x8.State<0)) :: .bv (decide (x8.State<0))::an 13 [])),[some ⟨70,[.iv x1.ID,.iv x1.Phase,.sl 8 (List.map Side.row x1.Sides)]⟩,some ⟨65,[.iv x8.Peer,.iv x8.Epoch,.iv x8.State,.bv x8.Fork,.bv x8.Dirty,.bv x8.Token,.bv x8.Bottle,.bv x8.Ask]⟩],[]⟩:St) (by kernel_rfl) ?_
            refine Z75 82 h rfl (fun _ h=>?_) fun _ h=>?_
            ·dsimp only [go_sem]
             refine Zi5 hall hs haf hnap 13 0 [true,true,true,true,true,true,true,true,true,true,true,true,true,true,true,true,true,true,true,true,true,true,true,true,true,true,true,true,true,true,true,true,true,true,true,true,true,true,true,true,true,true,true,true,true,true,true,true,true,true,true,true,true,true,true] (⟨(.any :: .ptr 0 0 :: .any :: .iv x7 :: .ptr 1 0::an 24 (.iv x7 :: .ptr 0 2 :: .sl 8 (List.map Side.row x1.Sides) :: .iv (ln Side.row x1.Sides) :: .bv (decide (x7<(ln Side.row x1.Sides))) :: .any :: .any :: .ptr 0 2 :: .sl 8 (List.map Side.row x1.Sides) :: .iv x7 :: .elt [.iv x8.Peer,.iv x8.Epoch,.iv x8.State,.bv x8.Fork,.bv x8.Dirty,.bv x8.Token,.bv x8.Bottle,.bv x8.Ask] 0 :: .agg [.iv x8.Peer,.iv x8.Epoch,.iv x8.State,.bv x8.Fork,.bv x8.Dirty,.bv x8.Token,.bv x8.Bottle,.bv x8.Ask] :: .ptr 1 0 :: .iv x8.Peer :: .bv (decide (x8.Peer<0)) :: .ff :: .ptr 1 0 :: .iv x8.Peer :: .ptr 0 0 :: .iv x1.ID :: .bv (decide (x8.Peer=x1.ID)) :: .bv (decide (x8.Peer=x1.ID)) :: .ff :: .iv x7 :: .bv (decide (0<x7)) :: .tt :: .ptr 0 2 :: .sl 8 (List.map Side.row x1.Sides) :: .iv x7 :: .iv (wr (x7-1)) :: .elt [.iv x9.Peer,.iv x9.Epoch,.iv x9.State,.bv x9.Fork,.bv x9.Dirty,.bv x9.Token,.bv x9.Bottle,.bv x9.Ask] 0 :: .elt [.iv x9.Peer,.iv x9.Epoch,.iv x9.State,.bv x9.Fork,.bv x9.Dirty,.bv x9.Token,.bv x9.Bottle,.bv x9.Ask] 0 :: .iv x9.Peer :: .ptr 1 0 :: .iv x8.Peer :: .bv (decide (x8.Peer≤x9.Peer)) :: .bv (decide (x8.Peer≤x9.Peer)) :: .bv (decide (x8.Peer≤x9.Peer)) :: .ff :: .ptr 1 1 :: .iv x8.Epoch :: .bv (decide (x8.Epoch<0)) :: .bv (decide (x8.Epoch<0)) :: .ff :: .ptr 1 1 :: .iv x8.Epoch :: .bv (decide (65535<x8.Epoch)) :: .bv (decide (65535<x8.Epoch)) :: .ff :: .ptr 1 2 :: .iv x8.State :: .bv (decide (x8.State<0)) :: .bv (decide (x8.State<0)) :: .tt :: .un :: .un :: .un :: .tt :: .tt :: .un :: .un :: .un :: .un :: .un :: .un :: .un :: .tt::[])),[some ⟨70,[.iv x1.ID,.iv x1.Phase,.sl 8 (List.map Side.row x1.Sides)]⟩,some ⟨65,[.iv x8.Peer,.iv x8.Epoch,.iv x8.State,.bv x8.Fork,.bv x8.Dirty,.bv x8.Token,.bv x8.Bottle,.bv x8.Ask]⟩],[]⟩:St) (by kernel_rfl) ?_
             refine Zs3 rfl ?_ _;exact Zz4 J3 (s:=true) h
            ·dsimp only [go_sem]
             refine Zi5 hall hs haf hnap 5 8 [true,true,true,true,true,true,true,true,true,true,true,true,true,true,true,true,true,true,true,true,true,true,true,true,true,true,true,true,true,true,true,true,true,true,true,true,true,true,true,true,true,true,true,true,true,true,true,false,false,false,false,false,false,false,false] (⟨(.any :: .ptr 0 0 :: .any :: .iv x7 :: .ptr 1 0::an 24 (.iv x7 :: .ptr 0 2 :: .sl 8 (List.map Side.row x1.Sides) :: .iv (ln Side.row x1.Sides) :: .bv (decide (x7<(ln Side.row x1.Sides))) :: .any :: .any :: .ptr 0 2 :: .sl 8 (List.map Side.row x1.Sides) :: .iv x7 :: .elt [.iv x8.Peer,.iv x8.Epoch,.iv x8.State,.bv x8.Fork,.bv x8.Dirty,.bv x8.Token,.bv x8.Bottle,.bv x8.Ask] 0 :: .agg [.iv x8.Peer,.iv x8.Epoch,.iv x8.State,.bv x8.Fork,.bv x8.Dirty,.bv x8.Token,.bv x8.Bottle,.bv x8.Ask] :: .ptr 1 0 :: .iv x8.Peer :: .bv (decide (x8.Peer<0)) :: .ff :: .ptr 1 0 :: .iv x8.Peer :: .ptr 0 0 :: .iv x1.ID :: .bv (decide (x8.Peer=x1.ID)) :: .bv (decide (x8.Peer=x1.ID)) :: .ff :: .iv x7 :: .bv (decide (0<x7)) :: .tt :: .ptr 0 2 :: .sl 8 (List.map Side.row x1.Sides) :: .iv x7 :: .iv (wr (x7-1)) :: .elt [.iv x9.Peer,.iv x9.Epoch,.iv x9.State,.bv x9.Fork,.bv x9.Dirty,.bv x9.Token,.bv x9.Bottle,.bv x9.Ask] 0 :: .elt [.iv x9.Peer,.iv x9.Epoch,.iv x9.State,.bv x9.Fork,.bv x9.Dirty,.bv x9.Token,.bv x9.Bottle,.bv x9.Ask] 0 :: .iv x9.Peer :: .ptr 1 0 :: .iv x8.Peer :: .bv (decide (x8.Peer≤x9.Peer)) :: .bv (decide (x8.Peer≤x9.Peer)) :: .bv (decide (x8.Peer≤x9.Peer)) :: .ff :: .ptr 1 1 :: .iv x8.Epoch :: .bv (decide (x8.Epoch<0)) :: .bv (decide (x8.Epoch<0)) :: .ff :: .ptr 1 1 :: .iv x8.Epoch :: .bv (decide (65535<x8.Epoch)) :: .bv (decide (65535<x8.Epoch)) :: .ff :: .ptr 1 2 :: .iv x8.State :: .bv (decide (x8.State<0)) :: .bv (decide (x8.State<0)) :: .ff :: .ptr 1 2 :: .iv x8.State :: .bv (decide (3<x8.State)) :: .bv (decide (3<x8.State)) :: .bv (decide (3<x8.State))::an 8 [])),[some ⟨70,[.iv x1.ID,.iv x1.Phase,.sl 8 (List.map Side.row x1.Sides)]⟩,some ⟨65,[.iv x8.Peer,.iv x8.Epoch,.iv x8.State,.bv x8.Fork,.bv x8.Dirty,.bv x8.Token,.bv x8.Bottle,.bv x8.Ask]⟩],[]⟩:St) (by kernel_rfl) ?_
             refine Z75 87 h rfl (fun _ h=>?_) fun _ h=>?_
             ·dsimp only [go_sem]
              refine Zi5 hall hs haf hnap 8 0 [true,true,true,true,true,true,true,true,true,true,true,true,true,true,true,true,true,true,true,true,true,true,true,true,true,true,true,true,true,true,true,true,true,true,true,true,true,true,true,true,true,true,true,true,true,true,true,true,true,true,true,true,true,true,true] (⟨(.any :: .ptr 0 0 :: .any :: .iv x7 :: .ptr 1 0::an 24 (.iv x7 :: .ptr 0 2 :: .sl 8 (List.map Side.row x1.Sides) :: .iv (ln Side.row x1.Sides) :: .bv (decide (x7<(ln Side.row x1.Sides))) :: .any :: .any :: .ptr 0 2 :: .sl 8 (List.map Side.row x1.Sides) :: .iv x7 :: .elt [.iv x8.Peer,.iv x8.Epoch,.iv x8.State,.bv x8.Fork,.bv x8.Dirty,.bv x8.Token,.bv x8.Bottle,.bv x8.Ask] 0 :: .agg [.iv x8.Peer,.iv x8.Epoch,.iv x8.State,.bv x8.Fork,.bv x8.Dirty,.bv x8.Token,.bv x8.Bottle,.bv x8.Ask] :: .ptr 1 0 :: .iv x8.Peer :: .bv (decide (x8.Peer<0)) :: .ff :: .ptr 1 0 :: .iv x8.Peer :: .ptr 0 0 :: .iv x1.ID :: .bv (decide (x8.Peer=x1.ID)) :: .bv (decide (x8.Peer=x1.ID)) :: .ff :: .iv x7 :: .bv (decide (0<x7)) :: .tt :: .ptr 0 2 :: .sl 8 (List.map Side.row x1.Sides) :: .iv x7 :: .iv (wr (x7-1)) :: .elt [.iv x9.Peer,.iv x9.Epoch,.iv x9.State,.bv x9.Fork,.bv x9.Dirty,.bv x9.Token,.bv x9.Bottle,.bv x9.Ask] 0 :: .elt [.iv x9.Peer,.iv x9.Epoch,.iv x9.State,.bv x9.Fork,.bv x9.Dirty,.bv x9.Token,.bv x9.Bottle,.bv x9.Ask] 0 :: .iv x9.Peer :: .ptr 1 0 :: .iv x8.Peer :: .bv (decide (x8.Peer≤x9.Peer)) :: .bv (decide (x8.Peer≤x9.Peer)) :: .bv (decide (x8.Peer≤x9.Peer)) :: .ff :: .ptr 1 1 :: .iv x8.Epoch :: .bv (decide (x8.Epoch<0)) :: .bv (decide (x8.Epoch<0)) :: .ff :: .ptr 1 1 :: .iv x8.Epoch :: .bv (decide (65535<x8.Epoch)) :: .bv (decide (65535<x8.Epoch)) :: .ff :: .ptr 1 2 :: .iv x8.State :: .bv (decide (x8.State<0)) :: .bv (decide (x8.State<0)) :: .ff :: .ptr 1 2 :: .iv x8.State :: .bv (decide (3<x8.State)) :: .bv (decide (3<x8.State)) :: .tt :: .un :: .un :: .un :: .un :: .un :: .un :: .un :: .tt::[])),[some ⟨70,[.iv x1.ID,.iv x1.Phase,.sl 8 (List.map Side.row x1.Sides)]⟩,some ⟨65,[.iv x8.Peer,.iv x8.Epoch,.iv x8.State,.bv x8.Fork,.bv x8.Dirty,.bv x8.Token,.bv x8.Bottle,.bv x8.Ask]⟩],[]⟩:St) (by kernel_rfl) ?_
              refine Zs3 rfl ?_ _;exact Zz4 J3 (s:=true) h
             ·dsimp only [go_sem]
              refine Zi5 hall hs haf hnap 3 5 [true,true,true,true,true,true,true,true,true,true,true,true,true,true,true,true,true,true,true,true,true,true,true,true,true,true,true,true,true,true,true,true,true,true,true,true,true,true,true,true,true,true,true,true,true,true,true,true,true,true,false,false,false,false,false] (⟨(.any :: .ptr 0 0 :: .any :: .iv x7 :: .ptr 1 0::an 24 (.iv x7 :: .ptr 0 2 :: .sl 8 (List.map Side.row x1.Sides) :: .iv (ln Side.row x1.Sides) :: .bv (decide (x7<(ln Side.row x1.Sides))) :: .any :: .any :: .ptr 0 2 :: .sl 8 (List.map Side.row x1.Sides) :: .iv x7 :: .elt [.iv x8.Peer,.iv x8.Epoch,.iv x8.State,.bv x8.Fork,.bv x8.Dirty,.bv x8.Token,.bv x8.Bottle,.bv x8.Ask] 0 :: .agg [.iv x8.Peer,.iv x8.Epoch,.iv x8.State,.bv x8.Fork,.bv x8.Dirty,.bv x8.Token,.bv x8.Bottle,.bv x8.Ask] :: .ptr 1 0 :: .iv x8.Peer :: .bv (decide (x8.Peer<0)) :: .ff :: .ptr 1 0 :: .iv x8.Peer :: .ptr 0 0 :: .iv x1.ID :: .bv (decide (x8.Peer=x1.ID)) :: .bv (decide (x8.Peer=x1.ID)) :: .ff :: .iv x7 :: .bv (decide (0<x7)) :: .tt :: .ptr 0 2 :: .sl 8 (List.map Side.row x1.Sides) :: .iv x7 :: .iv (wr (x7-1)) :: .elt [.iv x9.Peer,.iv x9.Epoch,.iv x9.State,.bv x9.Fork,.bv x9.Dirty,.bv x9.Token,.bv x9.Bottle,.bv x9.Ask] 0 :: .elt [.iv x9.Peer,.iv x9.Epoch,.iv x9.State,.bv x9.Fork,.bv x9.Dirty,.bv x9.Token,.bv x9.Bottle,.bv x9.Ask] 0 :: .iv x9.Peer :: .ptr 1 0 :: .iv x8.Peer :: .bv (decide (x8.Peer≤x9.Peer)) :: .bv (decide (x8.Peer≤x9.Peer)) :: .bv (decide (x8.Peer≤x9.Peer)) :: .ff :: .ptr 1 1 :: .iv x8.Epoch :: .bv (decide (x8.Epoch<0)) :: .bv (decide (x8.Epoch<0)) :: .ff :: .ptr 1 1 :: .iv x8.Epoch :: .bv (decide (65535<x8.Epoch)) :: .bv (decide (65535<x8.Epoch)) :: .ff :: .ptr 1 2 :: .iv x8.State :: .bv (decide (x8.State<0)) :: .bv (decide (x8.State<0)) :: .ff :: .ptr 1 2 :: .iv x8.State :: .bv (decide (3<x8.State)) :: .bv (decide (3<x8.State)) :: .ff :: .ptr 1 4 :: .bv x8.Dirty :: .bv x8.Dirty::an 5 [])),[some ⟨70,[.iv x1.ID,.iv x1.Phase,.sl 8 (List.map Side.row x1.Sides)]⟩,some ⟨65,[.iv x8.Peer,.iv x8.Epoch,.iv x8.State,.bv x8.Fork,.bv x8.Dirty,.bv x8.Token,.bv x8.Bottle,.bv x8.Ask]⟩],[]⟩:St) (by kernel_rfl) ?_
              refine Z75 90 h rfl (fun _ h=>?_) fun _ h=>?_
              ·dsimp only [go_sem]
               refine Zi5 hall hs haf hnap 5 0 [true,true,true,true,true,true,true,true,true,true,true,true,true,true,true,true,true,true,true,true,true,true,true,true,true,true,true,true,true,true,true,true,true,true,true,true,true,true,true,true,true,true,true,true,true,true,true,true,true,true,true,true,true,true,true] (⟨(.any :: .ptr 0 0 :: .any :: .iv x7 :: .ptr 1 0::an 24 (.iv x7 :: .ptr 0 2 :: .sl 8 (List.map Side.row x1.Sides) :: .iv (ln Side.row x1.Sides) :: .bv (decide (x7<(ln Side.row x1.Sides))) :: .any :: .any :: .ptr 0 2 :: .sl 8 (List.map Side.row x1.Sides) :: .iv x7 :: .elt [.iv x8.Peer,.iv x8.Epoch,.iv x8.State,.bv x8.Fork,.bv x8.Dirty,.bv x8.Token,.bv x8.Bottle,.bv x8.Ask] 0 :: .agg [.iv x8.Peer,.iv x8.Epoch,.iv x8.State,.bv x8.Fork,.bv x8.Dirty,.bv x8.Token,.bv x8.Bottle,.bv x8.Ask] :: .ptr 1 0 :: .iv x8.Peer :: .bv (decide (x8.Peer<0)) :: .ff :: .ptr 1 0 :: .iv x8.Peer :: .ptr 0 0 :: .iv x1.ID :: .bv (decide (x8.Peer=x1.ID)) :: .bv (decide (x8.Peer=x1.ID)) :: .ff :: .iv x7 :: .bv (decide (0<x7)) :: .tt :: .ptr 0 2 :: .sl 8 (List.map Side.row x1.Sides) :: .iv x7 :: .iv (wr (x7-1)) :: .elt [.iv x9.Peer,.iv x9.Epoch,.iv x9.State,.bv x9.Fork,.bv x9.Dirty,.bv x9.Token,.bv x9.Bottle,.bv x9.Ask] 0 :: .elt [.iv x9.Peer,.iv x9.Epoch,.iv x9.State,.bv x9.Fork,.bv x9.Dirty,.bv x9.Token,.bv x9.Bottle,.bv x9.Ask] 0 :: .iv x9.Peer :: .ptr 1 0 :: .iv x8.Peer :: .bv (decide (x8.Peer≤x9.Peer)) :: .bv (decide (x8.Peer≤x9.Peer)) :: .bv (decide (x8.Peer≤x9.Peer)) :: .ff :: .ptr 1 1 :: .iv x8.Epoch :: .bv (decide (x8.Epoch<0)) :: .bv (decide (x8.Epoch<0)) :: .ff :: .ptr 1 1 :: .iv x8.Epoch :: .bv (decide (65535<x8.Epoch)) :: .bv (decide (65535<x8.Epoch)) :: .ff :: .ptr 1 2 :: .iv x8.State :: .bv (decide (x8.State<0)) :: .bv (decide (x8.State<0)) :: .ff :: .ptr 1 2 :: .iv x8.State :: .bv (decide (3<x8.State)) :: .bv (decide (3<x8.State)) :: .ff :: .ptr 1 4 :: .bv x8.Dirty :: .tt :: .ptr 1 3 :: .bv x8.Fork :: .bv (!x8.Fork) :: .bv (!x8.Fork) :: .bv (!x8.Fork)::[])),[some ⟨70,[.iv x1.ID,.iv x1.Phase,.sl 8 (List.map Side.row x1.Sides)]⟩,some ⟨65,[.iv x8.Peer,.iv x8.Epoch,.iv x8.State,.bv x8.Fork,.bv x8.Dirty,.bv x8.Token,.bv x8.Bottle,.bv x8.Ask]⟩],[]⟩:St) (by kernel_rfl) ?_
               refine Zs3 rfl ?_ _;exact Zz4 J3 (s:=!x8.Fork) h
              ·dsimp only [go_sem]
               refine Zi5 hall hs haf hnap 5 0 [true,true,true,true,true,true,true,true,true,true,true,true,true,true,true,true,true,true,true,true,true,true,true,true,true,true,true,true,true,true,true,true,true,true,true,true,true,true,true,true,true,true,true,true,true,true,true,true,true,true,true,true,true,true,true] (⟨(.any :: .ptr 0 0 :: .any :: .iv x7 :: .ptr 1 0::an 24 (.iv x7 :: .ptr 0 2 :: .sl 8 (List.map Side.row x1.Sides) :: .iv (ln Side.row x1.Sides) :: .bv (decide (x7<(ln Side.row x1.Sides))) :: .any :: .any :: .ptr 0 2 :: .sl 8 (List.map Side.row x1.Sides) :: .iv x7 :: .elt [.iv x8.Peer,.iv x8.Epoch,.iv x8.State,.bv x8.Fork,.bv x8.Dirty,.bv x8.Token,.bv x8.Bottle,.bv x8.Ask] 0 :: .agg [.iv x8.Peer,.iv x8.Epoch,.iv x8.State,.bv x8.Fork,.bv x8.Dirty,.bv x8.Token,.bv x8.Bottle,.bv x8.Ask] :: .ptr 1 0 :: .iv x8.Peer :: .bv (decide (x8.Peer<0)) :: .ff :: .ptr 1 0 :: .iv x8.Peer :: .ptr 0 0 :: .iv x1.ID :: .bv (decide (x8.Peer=x1.ID)) :: .bv (decide (x8.Peer=x1.ID)) :: .ff :: .iv x7 :: .bv (decide (0<x7)) :: .tt :: .ptr 0 2 :: .sl 8 (List.map Side.row x1.Sides) :: .iv x7 :: .iv (wr (x7-1)) :: .elt [.iv x9.Peer,.iv x9.Epoch,.iv x9.State,.bv x9.Fork,.bv x9.Dirty,.bv x9.Token,.bv x9.Bottle,.bv x9.Ask] 0 :: .elt [.iv x9.Peer,.iv x9.Epoch,.iv x9.State,.bv x9.Fork,.bv x9.Dirty,.bv x9.Token,.bv x9.Bottle,.bv x9.Ask] 0 :: .iv x9.Peer :: .ptr 1 0 :: .iv x8.Peer :: .bv (decide (x8.Peer≤x9.Peer)) :: .bv (decide (x8.Peer≤x9.Peer)) :: .bv (decide (x8.Peer≤x9.Peer)) :: .ff :: .ptr 1 1 :: .iv x8.Epoch :: .bv (decide (x8.Epoch<0)) :: .bv (decide (x8.Epoch<0)) :: .ff :: .ptr 1 1 :: .iv x8.Epoch :: .bv (decide (65535<x8.Epoch)) :: .bv (decide (65535<x8.Epoch)) :: .ff :: .ptr 1 2 :: .iv x8.State :: .bv (decide (x8.State<0)) :: .bv (decide (x8.State<0)) :: .ff :: .ptr 1 2 :: .iv x8.State :: .bv (decide (3<x8.State)) :: .bv (decide (3<x8.State)) :: .ff :: .ptr 1 4 :: .bv x8.Dirty :: .ff :: .un :: .un :: .un :: .ff :: .ff::[])),[some ⟨70,[.iv x1.ID,.iv x1.Phase,.sl 8 (List.map Side.row x1.Sides)]⟩,some ⟨65,[.iv x8.Peer,.iv x8.Epoch,.iv x8.State,.bv x8.Fork,.bv x8.Dirty,.bv x8.Token,.bv x8.Bottle,.bv x8.Ask]⟩],[]⟩:St) (by kernel_rfl) ?_
               refine Zs3 rfl ?_ _;exact Zz4 J3 (s:=false) h
        ·dsimp only [go_sem]
         refine Zi5 hall hs haf hnap 18 23 [true,true,true,true,true,true,true,true,true,true,true,true,true,true,true,true,true,true,true,true,true,true,true,true,true,true,true,true,true,true,true,true,false,false,false,false,false,false,false,false,false,false,false,false,false,false,false,false,false,false,false,false,false,false,false] (⟨(.any :: .ptr 0 0 :: .any :: .iv x7 :: .ptr 1 0::an 24 (.iv x7 :: .ptr 0 2 :: .sl 8 (List.map Side.row x1.Sides) :: .iv (ln Side.row x1.Sides) :: .bv (decide (x7<(ln Side.row x1.Sides))) :: .any :: .any :: .ptr 0 2 :: .sl 8 (List.map Side.row x1.Sides) :: .iv x7 :: .elt [.iv x8.Peer,.iv x8.Epoch,.iv x8.State,.bv x8.Fork,.bv x8.Dirty,.bv x8.Token,.bv x8.Bottle,.bv x8.Ask] 0 :: .agg [.iv x8.Peer,.iv x8.Epoch,.iv x8.State,.bv x8.Fork,.bv x8.Dirty,.bv x8.Token,.bv x8.Bottle,.bv x8.Ask] :: .ptr 1 0 :: .iv x8.Peer :: .bv (decide (x8.Peer<0)) :: .ff :: .ptr 1 0 :: .iv x8.Peer :: .ptr 0 0 :: .iv x1.ID :: .bv (decide (x8.Peer=x1.ID)) :: .bv (decide (x8.Peer=x1.ID)) :: .ff :: .iv x7 :: .bv (decide (0<x7)) :: .ff :: .un :: .un :: .un :: .un :: .un :: .un :: .un :: .un :: .un :: .un :: .ff :: .ff :: .ff :: .ptr 1 1 :: .iv x8.Epoch :: .bv (decide (x8.Epoch<0)) :: .bv (decide (x8.Epoch<0)) :: .bv (decide (x8.Epoch<0))::an 23 [])),[some ⟨70,[.iv x1.ID,.iv x1.Phase,.sl 8 (List.map Side.row x1.Sides)]⟩,some ⟨65,[.iv x8.Peer,.iv x8.Epoch,.iv x8.State,.bv x8.Fork,.bv x8.Dirty,.bv x8.Token,.bv x8.Bottle,.bv x8.Ask]⟩],[]⟩:St) (by kernel_rfl) ?_
         refine Z75 72 h rfl (fun _ h=>?_) fun _ h=>?_
         ·dsimp only [go_sem]
          refine Zi5 hall hs haf hnap 23 0 [true,true,true,true,true,true,true,true,true,true,true,true,true,true,true,true,true,true,true,true,true,true,true,true,true,true,true,true,true,true,true,true,true,true,true,true,true,true,true,true,true,true,true,true,true,true,true,true,true,true,true,true,true,true,true] (⟨(.any :: .ptr 0 0 :: .any :: .iv x7 :: .ptr 1 0::an 24 (.iv x7 :: .ptr 0 2 :: .sl 8 (List.map Side.row x1.Sides) :: .iv (ln Side.row x1.Sides) :: .bv (decide (x7<(ln Side.row x1.Sides))) :: .any :: .any :: .ptr 0 2 :: .sl 8 (List.map Side.row x1.Sides) :: .iv x7 :: .elt [.iv x8.Peer,.iv x8.Epoch,.iv x8.State,.bv x8.Fork,.bv x8.Dirty,.bv x8.Token,.bv x8.Bottle,.bv x8.Ask] 0 :: .agg [.iv x8.Peer,.iv x8.Epoch,.iv x8.State,.bv x8.Fork,.bv x8.Dirty,.bv x8.Token,.bv x8.Bottle,.bv x8.Ask] :: .ptr 1 0 :: .iv x8.Peer :: .bv (decide (x8.Peer<0)) :: .ff :: .ptr 1 0 :: .iv x8.Peer :: .ptr 0 0 :: .iv x1.ID :: .bv (decide (x8.Peer=x1.ID)) :: .bv (decide (x8.Peer=x1.ID)) :: .ff :: .iv x7 :: .bv (decide (0<x7)) :: .ff :: .un :: .un :: .un :: .un :: .un :: .un :: .un :: .un :: .un :: .un :: .ff :: .ff :: .ff :: .ptr 1 1 :: .iv x8.Epoch :: .bv (decide (x8.Epoch<0)) :: .bv (decide (x8.Epoch<0)) :: .tt :: .un :: .un :: .un :: .tt :: .tt :: .un :: .un :: .un :: .tt :: .tt :: .un :: .un :: .un :: .tt :: .tt :: .un :: .un :: .un :: .un :: .un :: .un :: .un :: .tt::[])),[some ⟨70,[.iv x1.ID,.iv x1.Phase,.sl 8 (List.map Side.row x1.Sides)]⟩,some ⟨65,[.iv x8.Peer,.iv x8.Epoch,.iv x8.State,.bv x8.Fork,.bv x8.Dirty,.bv x8.Token,.bv x8.Bottle,.bv x8.Ask]⟩],[]⟩:St) (by kernel_rfl) ?_
          refine Zs3 rfl ?_ _;exact Zz4 J3 (s:=true) h
         ·dsimp only [go_sem]
          refine Zi5 hall hs haf hnap 5 18 [true,true,true,true,true,true,true,true,true,true,true,true,true,true,true,true,true,true,true,true,true,true,true,true,true,true,true,true,true,true,true,true,true,true,true,true,true,false,false,false,false,false,false,false,false,false,false,false,false,false,false,false,false,false,false] (⟨(.any :: .ptr 0 0 :: .any :: .iv x7 :: .ptr 1 0::an 24 (.iv x7 :: .ptr 0 2 :: .sl 8 (List.map Side.row x1.Sides) :: .iv (ln Side.row x1.Sides) :: .bv (decide (x7<(ln Side.row x1.Sides))) :: .any :: .any :: .ptr 0 2 :: .sl 8 (List.map Side.row x1.Sides) :: .iv x7 :: .elt [.iv x8.Peer,.iv x8.Epoch,.iv x8.State,.bv x8.Fork,.bv x8.Dirty,.bv x8.Token,.bv x8.Bottle,.bv x8.Ask] 0 :: .agg [.iv x8.Peer,.iv x8.Epoch,.iv x8.State,.bv x8.Fork,.bv x8.Dirty,.bv x8.Token,.bv x8.Bottle,.bv x8.Ask] :: .ptr 1 0 :: .iv x8.Peer :: .bv (decide (x8.Peer<0)) :: .ff :: .ptr 1 0 :: .iv x8.Peer :: .ptr 0 0 :: .iv x1.ID :: .bv (decide (x8.Peer=x1.ID)) :: .bv (decide (x8.Peer=x1.ID)) :: .ff :: .iv x7 :: .bv (decide (0<x7)) :: .ff :: .un :: .un :: .un :: .un :: .un :: .un :: .un :: .un :: .un :: .un :: .ff :: .ff :: .ff :: .ptr 1 1 :: .iv x8.Epoch :: .bv (decide (x8.Epoch<0)) :: .bv (decide (x8.Epoch<0)) :: .ff :: .ptr 1 1 :: .iv x8.Epoch :: .bv (decide (65535<x8.Epoch)) :: .bv (decide (65535<x8.Epoch)) :: .bv (decide (65535<x8.Epoch))::an 18 [])),[some ⟨70,[.iv x1.ID,.iv x1.Phase,.sl 8 (List.map Side.row x1.Sides)]⟩,some ⟨65,[.iv x8.Peer,.iv x8.Epoch,.iv x8.State,.bv x8.Fork,.bv x8.Dirty,.bv x8.Token,.bv x8.Bottle,.bv x8.Ask]⟩],[]⟩:St) (by kernel_rfl) ?_
          refine Z75 77 h rfl (fun _ h=>?_) fun _ h=>?_
          ·dsimp only [go_sem]
           refine Zi5 hall hs haf hnap 18 0 [true,true,true,true,true,true,true,true,true,true,true,true,true,true,true,true,true,true,true,true,true,true,true,true,true,true,true,true,true,true,true,true,true,true,true,true,true,true,true,true,true,true,true,true,true,true,true,true,true,true,true,true,true,true,true] (⟨(.any :: .ptr 0 0 :: .any :: .iv x7 :: .ptr 1 0::an 24 (.iv x7 :: .ptr 0 2 :: .sl 8 (List.map Side.row x1.Sides) :: .iv (ln Side.row x1.Sides) :: .bv (decide (x7<(ln Side.row x1.Sides))) :: .any :: .any :: .ptr 0 2 :: .sl 8 (List.map Side.row x1.Sides) :: .iv x7 :: .elt [.iv x8.Peer,.iv x8.Epoch,.iv x8.State,.bv x8.Fork,.bv x8.Dirty,.bv x8.Token,.bv x8.Bottle,.bv x8.Ask] 0 :: .agg [.iv x8.Peer,.iv x8.Epoch,.iv x8.State,.bv x8.Fork,.bv x8.Dirty,.bv x8.Token,.bv x8.Bottle,.bv x8.Ask] :: .ptr 1 0 :: .iv x8.Peer :: .bv (decide (x8.Peer<0)) :: .ff :: .ptr 1 0 :: .iv x8.Peer :: .ptr 0 0 :: .iv x1.ID :: .bv (decide (x8.Peer=x1.ID)) :: .bv (decide (x8.Peer=x1.ID)) :: .ff :: .iv x7 :: .bv (decide (0<x7)) :: .ff :: .un :: .un :: .un :: .un :: .un :: .un :: .un :: .un :: .un :: .un :: .ff :: .ff :: .ff :: .ptr 1 1 :: .iv x8.Epoch :: .bv (decide (x8.Epoch<0)) :: .bv (decide (x8.Epoch<0)) :: .ff :: .ptr 1 1 :: .iv x8.Epoch :: .bv (decide (65535<x8.Epoch)) :: .bv (decide (65535<x8.Epoch)) :: .tt :: .un :: .un :: .un :: .tt :: .tt :: .un :: .un :: .un :: .tt :: .tt :: .un :: .un :: .un :: .un :: .un :: .un :: .un :: .tt::[])),[some ⟨70,[.iv x1.ID,.iv x1.Phase,.sl 8 (List.map Side.row x1.Sides)]⟩,some ⟨65,[.iv x8.Peer,.iv x8.Epoch,.iv x8.State,.bv x8.Fork,.bv x8.Dirty,.bv x8.Token,.bv x8.Bottle,.bv x8.Ask]⟩],[]⟩:St) (by kernel_rfl) ?_
           refine Zs3 rfl ?_ _;exact Zz4 J3 (s:=true) h
          ·dsimp only [go_sem]
           refine Zi5 hall hs haf hnap 5 13 [true,true,true,true,true,true,true,true,true,true,true,true,true,true,true,true,true,true,true,true,true,true,true,true,true,true,true,true,true,true,true,true,true,true,true,true,true,true,true,true,true,true,false,false,false,false,false,false,false,false,false,false,false,false,false] (⟨(.any :: .ptr 0 0 :: .any :: .iv x7 :: .ptr 1 0::an 24 (.iv x7 :: .ptr 0 2 :: .sl 8 (List.map Side.row x1.Sides) :: .iv (ln Side.row x1.Sides) :: .bv (decide (x7<(ln Side.row x1.Sides))) :: .any :: .any :: .ptr 0 2 :: .sl 8 (List.map Side.row x1.Sides) :: .iv x7 :: .elt [.iv x8.Peer,.iv x8.Epoch,.iv x8.State,.bv x8.Fork,.bv x8.Dirty,.bv x8.Token,.bv x8.Bottle,.bv x8.Ask] 0 :: .agg [.iv x8.Peer,.iv x8.Epoch,.iv x8.State,.bv x8.Fork,.bv x8.Dirty,.bv x8.Token,.bv x8.Bottle,.bv x8.Ask] :: .ptr 1 0 :: .iv x8.Peer :: .bv (decide (x8.Peer<0)) :: .ff :: .ptr 1 0 :: .iv x8.Peer :: .ptr 0 0 :: .iv x1.ID :: .bv (decide (x8.Peer=x1.ID)) :: .bv (decide (x8.Peer=x1.ID)) :: .ff :: .iv x7 :: .bv (decide (0<x7)) :: .ff :: .un :: .un :: .un :: .un :: .un :: .un :: .un :: .un :: .un :: .un :: .ff :: .ff :: .ff :: .ptr 1 1 :: .iv x8.Epoch :: .bv (decide (x8.Epoch<0)) :: .bv (decide (x8.Epoch<0)) :: .ff :: .ptr 1 1 :: .iv x8.Epoch :: .bv (decide (65535<x8.Epoch)) :: .bv (decide (65535<x8.Epoch)) :: .ff :: .ptr 1 2 :: .iv x8.State :: .bv (decide (x8.State<0)) :: .bv (decide (x8.State<0)) :: .bv (decide (x8.State<0))::an 13 [])),[some ⟨70,[.iv x1.ID,.iv x1.Phase,.sl 8 (List.map Side.row x1.Sides)]⟩,some ⟨65,[.iv x8.Peer,.iv x8.Epoch,.iv x8.State,.bv x8.Fork,.bv x8.Dirty,.bv x8.Token,.bv x8.Bottle,.bv x8.Ask]⟩],[]⟩:St) (by kernel_rfl) ?_
           refine Z75 82 h rfl (fun _ h=>?_) fun _ h=>?_
           ·dsimp only [go_sem]
            refine Zi5 hall hs haf hnap 13 0 [true,true,true,true,true,true,true,true,true,true,true,true,true,true,true,true,true,true,true,true,true,true,true,true,true,true,true,true,true,true,true,true,true,true,true,true,true,true,true,true,true,true,true,true,true,true,true,true,true,true,true,true,true,true,true] (⟨(.any :: .ptr 0 0 :: .any :: .iv x7 :: .ptr 1 0::an 24 (.iv x7 :: .ptr 0 2 :: .sl 8 (List.map Side.row x1.Sides) :: .iv (ln Side.row x1.Sides) :: .bv (decide (x7<(ln Side.row x1.Sides))) :: .any :: .any :: .ptr 0 2 :: .sl 8 (List.map Side.row x1.Sides) :: .iv x7 :: .elt [.iv x8.Peer,.iv x8.Epoch,.iv x8.State,.bv x8.Fork,.bv x8.Dirty,.bv x8.Token,.bv x8.Bottle,.bv x8.Ask] 0 :: .agg [.iv x8.Peer,.iv x8.Epoch,.iv x8.State,.bv x8.Fork,.bv x8.Dirty,.bv x8.Token,.bv x8.Bottle,.bv x8.Ask] :: .ptr 1 0 :: .iv x8.Peer :: .bv (decide (x8.Peer<0)) :: .ff :: .ptr 1 0 :: .iv x8.Peer :: .ptr 0 0 :: .iv x1.ID :: .bv (decide (x8.Peer=x1.ID)) :: .bv (decide (x8.Peer=x1.ID)) :: .ff :: .iv x7 :: .bv (decide (0<x7)) :: .ff :: .un :: .un :: .un :: .un :: .un :: .un :: .un :: .un :: .un :: .un :: .ff :: .ff :: .ff :: .ptr 1 1 :: .iv x8.Epoch :: .bv (decide (x8.Epoch<0)) :: .bv (decide (x8.Epoch<0)) :: .ff :: .ptr 1 1 :: .iv x8.Epoch :: .bv (decide (65535<x8.Epoch)) :: .bv (decide (65535<x8.Epoch)) :: .ff :: .ptr 1 2 :: .iv x8.State :: .bv (decide (x8.State<0)) :: .bv (decide (x8.State<0)) :: .tt :: .un :: .un :: .un :: .tt :: .tt :: .un :: .un :: .un :: .un :: .un :: .un :: .un :: .tt::[])),[some ⟨70,[.iv x1.ID,.iv x1.Phase,.sl 8 (List.map Side.row x1.Sides)]⟩,some ⟨65,[.iv x8.Peer,.iv x8.Epoch,.iv x8.State,.bv x8.Fork,.bv x8.Dirty,.bv x8.Token,.bv x8.Bottle,.bv x8.Ask]⟩],[]⟩:St) (by kernel_rfl) ?_
            refine Zs3 rfl ?_ _;exact Zz4 J3 (s:=true) h
           ·dsimp only [go_sem]
            refine Zi5 hall hs haf hnap 5 8 [true,true,true,true,true,true,true,true,true,true,true,true,true,true,true,true,true,true,true,true,true,true,true,true,true,true,true,true,true,true,true,true,true,true,true,true,true,true,true,true,true,true,true,true,true,true,true,false,false,false,false,false,false,false,false] (⟨(.any :: .ptr 0 0 :: .any :: .iv x7 :: .ptr 1 0::an 24 (.iv x7 :: .ptr 0 2 :: .sl 8 (List.map Side.row x1.Sides) :: .iv (ln Side.row x1.Sides) :: .bv (decide (x7<(ln Side.row x1.Sides))) :: .any :: .any :: .ptr 0 2 :: .sl 8 (List.map Side.row x1.Sides) :: .iv x7 :: .elt [.iv x8.Peer,.iv x8.Epoch,.iv x8.State,.bv x8.Fork,.bv x8.Dirty,.bv x8.Token,.bv x8.Bottle,.bv x8.Ask] 0 :: .agg [.iv x8.Peer,.iv x8.Epoch,.iv x8.State,.bv x8.Fork,.bv x8.Dirty,.bv x8.Token,.bv x8.Bottle,.bv x8.Ask] :: .ptr 1 0 :: .iv x8.Peer :: .bv (decide (x8.Peer<0)) :: .ff :: .ptr 1 0 :: .iv x8.Peer :: .ptr 0 0 :: .iv x1.ID :: .bv (decide (x8.Peer=x1.ID)) :: .bv (decide (x8.Peer=x1.ID)) :: .ff :: .iv x7 :: .bv (decide (0<x7)) :: .ff :: .un :: .un :: .un :: .un :: .un :: .un :: .un :: .un :: .un :: .un :: .ff :: .ff :: .ff :: .ptr 1 1 :: .iv x8.Epoch :: .bv (decide (x8.Epoch<0)) :: .bv (decide (x8.Epoch<0)) :: .ff :: .ptr 1 1 :: .iv x8.Epoch :: .bv (decide (65535<x8.Epoch)) :: .bv (decide (65535<x8.Epoch)) :: .ff :: .ptr 1 2 :: .iv x8.State :: .bv (decide (x8.State<0)) :: .bv (decide (x8.State<0)) :: .ff :: .ptr 1 2 :: .iv x8.State :: .bv (decide (3<x8.State)) :: .bv (decide (3<x8.State)) :: .bv (decide (3<x8.State))::an 8 [])),[some ⟨70,[.iv x1.ID,.iv x1.Phase,.sl 8 (List.map Side.row x1.Sides)]⟩,some ⟨65,[.iv x8.Peer,.iv x8.Epoch,.iv x8.State,.bv x8.Fork,.bv x8.Dirty,.bv x8.Token,.bv x8.Bottle,.bv x8.Ask]⟩],[]⟩:St) (by kernel_rfl) ?_
            refine Z75 87 h rfl (fun _ h=>?_) fun _ h=>?_
            ·dsimp only [go_sem]
             refine Zi5 hall hs haf hnap 8 0 [true,true,true,true,true,true,true,true,true,true,true,true,true,true,true,true,true,true,true,true,true,true,true,true,true,true,true,true,true,true,true,true,true,true,true,true,true,true,true,true,true,true,true,true,true,true,true,true,true,true,true,true,true,true,true] (⟨(.any :: .ptr 0 0 :: .any :: .iv x7 :: .ptr 1 0::an 24 (.iv x7 :: .ptr 0 2 :: .sl 8 (List.map Side.row x1.Sides) :: .iv (ln Side.row x1.Sides) :: .bv (decide (x7<(ln Side.row x1.Sides))) :: .any :: .any :: .ptr 0 2 :: .sl 8 (List.map Side.row x1.Sides) :: .iv x7 :: .elt [.iv x8.Peer,.iv x8.Epoch,.iv x8.State,.bv x8.Fork,.bv x8.Dirty,.bv x8.Token,.bv x8.Bottle,.bv x8.Ask] 0 :: .agg [.iv x8.Peer,.iv x8.Epoch,.iv x8.State,.bv x8.Fork,.bv x8.Dirty,.bv x8.Token,.bv x8.Bottle,.bv x8.Ask] :: .ptr 1 0 :: .iv x8.Peer :: .bv (decide (x8.Peer<0)) :: .ff :: .ptr 1 0 :: .iv x8.Peer :: .ptr 0 0 :: .iv x1.ID :: .bv (decide (x8.Peer=x1.ID)) :: .bv (decide (x8.Peer=x1.ID)) :: .ff :: .iv x7 :: .bv (decide (0<x7)) :: .ff :: .un :: .un :: .un :: .un :: .un :: .un :: .un :: .un :: .un :: .un :: .ff :: .ff :: .ff :: .ptr 1 1 :: .iv x8.Epoch :: .bv (decide (x8.Epoch<0)) :: .bv (decide (x8.Epoch<0)) :: .ff :: .ptr 1 1 :: .iv x8.Epoch :: .bv (decide (65535<x8.Epoch)) :: .bv (decide (65535<x8.Epoch)) :: .ff :: .ptr 1 2 :: .iv x8.State :: .bv (decide (x8.State<0)) :: .bv (decide (x8.State<0)) :: .ff :: .ptr 1 2 :: .iv x8.State :: .bv (decide (3<x8.State)) :: .bv (decide (3<x8.State)) :: .tt :: .un :: .un :: .un :: .un :: .un :: .un :: .un :: .tt::[])),[some ⟨70,[.iv x1.ID,.iv x1.Phase,.sl 8 (List.map Side.row x1.Sides)]⟩,some ⟨65,[.iv x8.Peer,.iv x8.Epoch,.iv x8.State,.bv x8.Fork,.bv x8.Dirty,.bv x8.Token,.bv x8.Bottle,.bv x8.Ask]⟩],[]⟩:St) (by kernel_rfl) ?_
             refine Zs3 rfl ?_ _;exact Zz4 J3 (s:=true) h
            ·dsimp only [go_sem]
             refine Zi5 hall hs haf hnap 3 5 [true,true,true,true,true,true,true,true,true,true,true,true,true,true,true,true,true,true,true,true,true,true,true,true,true,true,true,true,true,true,true,true,true,true,true,true,true,true,true,true,true,true,true,true,true,true,true,true,true,true,false,false,false,false,false] (⟨(.any :: .ptr 0 0 :: .any :: .iv x7 :: .ptr 1 0::an 24 (.iv x7 :: .ptr 0 2 :: .sl 8 (List.map Side.row x1.Sides) :: .iv (ln Side.row x1.Sides) :: .bv (decide (x7<(ln Side.row x1.Sides))) :: .any :: .any :: .ptr 0 2 :: .sl 8 (List.map Side.row x1.Sides) :: .iv x7 :: .elt [.iv x8.Peer,.iv x8.Epoch,.iv x8.State,.bv x8.Fork,.bv x8.Dirty,.bv x8.Token,.bv x8.Bottle,.bv x8.Ask] 0 :: .agg [.iv x8.Peer,.iv x8.Epoch,.iv x8.State,.bv x8.Fork,.bv x8.Dirty,.bv x8.Token,.bv x8.Bottle,.bv x8.Ask] :: .ptr 1 0 :: .iv x8.Peer :: .bv (decide (x8.Peer<0)) :: .ff :: .ptr 1 0 :: .iv x8.Peer :: .ptr 0 0 :: .iv x1.ID :: .bv (decide (x8.Peer=x1.ID)) :: .bv (decide (x8.Peer=x1.ID)) :: .ff :: .iv x7 :: .bv (decide (0<x7)) :: .ff :: .un :: .un :: .un :: .un :: .un :: .un :: .un :: .un :: .un :: .un :: .ff :: .ff :: .ff :: .ptr 1 1 :: .iv x8.Epoch :: .bv (decide (x8.Epoch<0)) :: .bv (decide (x8.Epoch<0)) :: .ff :: .ptr 1 1 :: .iv x8.Epoch :: .bv (decide (65535<x8.Epoch)) :: .bv (decide (65535<x8.Epoch)) :: .ff :: .ptr 1 2 :: .iv x8.State :: .bv (decide (x8.State<0)) :: .bv (decide (x8.State<0)) :: .ff :: .ptr 1 2 :: .iv x8.State :: .bv (decide (3<x8.State)) :: .bv (decide (3<x8.State)) :: .ff :: .ptr 1 4 :: .bv x8.Dirty :: .bv x8.Dirty::an 5 [])),[some ⟨70,[.iv x1.ID,.iv x1.Phase,.sl 8 (List.map Side.row x1.Sides)]⟩,some ⟨65,[.iv x8.Peer,.iv x8.Epoch,.iv x8.State,.bv x8.Fork,.bv x8.Dirty,.bv x8.Token,.bv x8.Bottle,.bv x8.Ask]⟩],[]⟩:St) (by kernel_rfl) ?_
             refine Z75 90 h rfl (fun _ h=>?_) fun _ h=>?_
             ·dsimp only [go_sem]
              refine Zi5 hall hs haf hnap 5 0 [true,true,true,true,true,true,true,true,true,true,true,true,true,true,true,true,true,true,true,true,true,true,true,true,true,true,true,true,true,true,true,true,true,true,true,true,true,true,true,true,true,true,true,true,true,true,true,true,true,true,true,true,true,true,true] (⟨(.any :: .ptr 0 0 :: .any :: .iv x7 :: .ptr 1 0::an 24 (.iv x7 :: .ptr 0 2 :: .sl 8 (List.map Side.row x1.Sides) :: .iv (ln Side.row x1.Sides) :: .bv (decide (x7<(ln Side.row x1.Sides))) :: .any :: .any :: .ptr 0 2 :: .sl 8 (List.map Side.row x1.Sides) :: .iv x7 :: .elt [.iv x8.Peer,.iv x8.Epoch,.iv x8.State,.bv x8.Fork,.bv x8.Dirty,.bv x8.Token,.bv x8.Bottle,.bv x8.Ask] 0 :: .agg [.iv x8.Peer,.iv x8.Epoch,.iv x8.State,.bv x8.Fork,.bv x8.Dirty,.bv x8.Token,.bv x8.Bottle,.bv x8.Ask] :: .ptr 1 0 :: .iv x8.Peer :: .bv (decide (x8.Peer<0)) :: .ff :: .ptr 1 0 :: .iv x8.Peer :: .ptr 0 0 :: .iv x1.ID :: .bv (decide (x8.Peer=x1.ID)) :: .bv (decide (x8.Peer=x1.ID)) :: .ff :: .iv x7 :: .bv (decide (0<x7)) :: .ff :: .un :: .un :: .un :: .un :: .un :: .un :: .un :: .un :: .un :: .un :: .ff :: .ff :: .ff :: .ptr 1 1 :: .iv x8.Epoch :: .bv (decide (x8.Epoch<0)) :: .bv (decide (x8.Epoch<0)) :: .ff :: .ptr 1 1 :: .iv x8.Epoch :: .bv (decide (65535<x8.Epoch)) :: .bv (decide (65535<x8.Epoch)) :: .ff :: .ptr 1 2 :: .iv x8.State :: .bv (decide (x8.State<0)) :: .bv (decide (x8.State<0)) :: .ff :: .ptr 1 2 :: .iv x8.State :: .bv (decide (3<x8.State)) :: .bv (decide (3<x8.State)) :: .ff :: .ptr 1 4 :: .bv x8.Dirty :: .tt :: .ptr 1 3 :: .bv x8.Fork :: .bv (!x8.Fork) :: .bv (!x8.Fork) :: .bv (!x8.Fork)::[])),[some ⟨70,[.iv x1.ID,.iv x1.Phase,.sl 8 (List.map Side.row x1.Sides)]⟩,some ⟨65,[.iv x8.Peer,.iv x8.Epoch,.iv x8.State,.bv x8.Fork,.bv x8.Dirty,.bv x8.Token,.bv x8.Bottle,.bv x8.Ask]⟩],[]⟩:St) (by kernel_rfl) ?_
              refine Zs3 rfl ?_ _;exact Zz4 J3 (s:=!x8.Fork) h
             ·dsimp only [go_sem]
              refine Zi5 hall hs haf hnap 5 0 [true,true,true,true,true,true,true,true,true,true,true,true,true,true,true,true,true,true,true,true,true,true,true,true,true,true,true,true,true,true,true,true,true,true,true,true,true,true,true,true,true,true,true,true,true,true,true,true,true,true,true,true,true,true,true] (⟨(.any :: .ptr 0 0 :: .any :: .iv x7 :: .ptr 1 0::an 24 (.iv x7 :: .ptr 0 2 :: .sl 8 (List.map Side.row x1.Sides) :: .iv (ln Side.row x1.Sides) :: .bv (decide (x7<(ln Side.row x1.Sides))) :: .any :: .any :: .ptr 0 2 :: .sl 8 (List.map Side.row x1.Sides) :: .iv x7 :: .elt [.iv x8.Peer,.iv x8.Epoch,.iv x8.State,.bv x8.Fork,.bv x8.Dirty,.bv x8.Token,.bv x8.Bottle,.bv x8.Ask] 0 :: .agg [.iv x8.Peer,.iv x8.Epoch,.iv x8.State,.bv x8.Fork,.bv x8.Dirty,.bv x8.Token,.bv x8.Bottle,.bv x8.Ask] :: .ptr 1 0 :: .iv x8.Peer :: .bv (decide (x8.Peer<0)) :: .ff :: .ptr 1 0 :: .iv x8.Peer :: .ptr 0 0 :: .iv x1.ID :: .bv (decide (x8.Peer=x1.ID)) :: .bv (decide (x8.Peer=x1.ID)) :: .ff :: .iv x7 :: .bv (decide (0<x7)) :: .ff :: .un :: .un :: .un :: .un :: .un :: .un :: .un :: .un :: .un :: .un :: .ff :: .ff :: .ff :: .ptr 1 1 :: .iv x8.Epoch :: .bv (decide (x8.Epoch<0)) :: .bv (decide (x8.Epoch<0)) :: .ff :: .ptr 1 1 :: .iv x8.Epoch :: .bv (decide (65535<x8.Epoch)) :: .bv (decide (65535<x8.Epoch)) :: .ff :: .ptr 1 2 :: .iv x8.State :: .bv (decide (x8.State<0)) :: .bv (decide (x8.State<0)) :: .ff :: .ptr 1 2 :: .iv x8.State :: .bv (decide (3<x8.State)) :: .bv (decide (3<x8.State)) :: .ff :: .ptr 1 4 :: .bv x8.Dirty :: .ff :: .un :: .un :: .un :: .ff :: .ff::[])),[some ⟨70,[.iv x1.ID,.iv x1.Phase,.sl 8 (List.map Side.row x1.Sides)]⟩,some ⟨65,[.iv x8.Peer,.iv x8.Epoch,.iv x8.State,.bv x8.Fork,.bv x8.Dirty,.bv x8.Token,.bv x8.Bottle,.bv x8.Ask]⟩],[]⟩:St) (by kernel_rfl) ?_
              refine Zs3 rfl ?_ _;exact Zz4 J3 (s:=false) h
    ·refine Zl2 1 ?_;dsimp only [e48,Zvk,go_sem];refine ⟨by simp,?_⟩;exact Zz4 J2 (s:=()) (Zk4 h hout1)
 ·refine Zw4 8 h rfl (fun _ h=>?_) fun _ h=>?_
  ·dsimp only [go_sem];refine Zl2 21 ?_;dsimp only [e48,Zvk,go_sem];refine ⟨by simp,?_⟩;exact Zz4 J1 (s:=true) h
  ·dsimp only [go_sem];refine Zl2 4 ?_;dsimp only [e48,Zvk,go_sem];refine ⟨by simp,?_⟩;refine Zw4 12 h rfl (fun _ h=>?_) fun _ h=>?_
   ·dsimp only [go_sem];refine Zl2 5 ?_;dsimp only [e48,Zvk,go_sem];refine ⟨by simp,?_⟩;refine Zw4 17 h rfl (fun _ h=>?_) fun _ h=>?_
    ·dsimp only [go_sem];refine Zl2 6 ?_;dsimp only [e48,Zvk,go_sem];refine ⟨by simp,?_⟩;refine Zw4 23 h rfl (fun _ h=>?_) fun _ h=>?_
     ·dsimp only [go_sem];refine Zl2 6 ?_;dsimp only [e48,Zvk,go_sem];refine ⟨by simp,?_⟩;exact Zz4 J1 (s:=true) h
     ·dsimp only [go_sem];refine Zl2 6 ?_;dsimp only [e48,Zvk,go_sem];refine ⟨by simp,?_⟩;exact Zz4 J1 (s:=decide (63<(ln Side.row x1.Sides))) h
    ·dsimp only [go_sem];refine Zl2 12 ?_;dsimp only [e48,Zvk,go_sem];refine ⟨by simp,?_⟩;exact Zz4 J1 (s:=decide (63<(ln Side.row x1.Sides))) h
   ·dsimp only [go_sem];refine Zl2 17 ?_;dsimp only [e48,Zvk,go_sem];refine ⟨by simp,?_⟩;exact Zz4 J1 (s:=decide (63<(ln Side.row x1.Sides))) h
set_option maxRecDepth 100000
set_option maxHeartbeats 4000000
def e36:EC:=.seq (.reg [(Qa 2 (.box 25 2 (.t 0))),(Qa 4 (.mv (.c .ff)))]) (.seq (.reg [(Qa 5 (.mv (.t 1))),(Qa 6 (.bin .geq (.t 5) (.c (.iv 0)))),(Qa 7 (.mv (.t 6))),(Qg 8 7 true (.mv (.t 1))),(Qg 9 7 true (.fld 0 (.t 2))),(Qg 10 7 true (.load (.t 9))),(Qg 11 7 true (.len (.t 10))),(Qg 12 7 true (.bin .lss (.t 8) (.t 11))),(Qa 13 (.pick (.t 7) (.t 12) (.c .ff))),(Qa 4 (.mv (.t 13)))]) (.ret))
theorem ok36:FnOK Tryz.prog 36 Tryz.f36 e36 [.t 4] 2 12:=⟨by kernel_rfl,⟨_,rfl,by kernel_rfl⟩,by kernel_rfl,by kernel_rfl⟩
noncomputable def Z2l:Bool→Option Bool
| x3=>
 some x3
noncomputable def Z3l (x1:Scene) (x2:Int):Option Bool:=
 ifb (decide (0≤x2)) (
 Z2l (decide (x2<(ln Diner.row x1.Diners)))) (
 Z2l false)
theorem Z4l (x1:Scene) (x2:Int) (r:Bool) (h:Z3l x1 x2=some r):Zq2 Tryz.prog 36 [.agg (Scene.row x1),.iv x2] (.bv r):=by
 refine Zu2 ok36 rfl rfl fun w0 H0=>?_
 rw [Z3l] at h
 refine Zl2 10 ?_;dsimp only [e36,go_sem];refine ⟨by simp,?_⟩;refine Zl4 (fun (x3:Bool)=>(⟨(an 4 (.bv x3::an 9 [])),[],[]⟩:St)) Z2l r ?_ fun J1=>?_
 ·intro x3 h;rw [Z2l] at h;(try dsimp only);exact Zx4 (res:=fun (r:Bool)=>.bv r) ok36 h
 ·refine Zw4 7 h rfl (fun _ h=>?_) fun _ h=>?_
  ·dsimp only [go_sem];refine Zl2 8 ?_;dsimp only [e36,go_sem];refine ⟨by simp,?_⟩;exact Zz4 J1 (s:=decide (x2<(ln Diner.row x1.Diners))) h
  ·dsimp only [go_sem];refine Zl2 8 ?_;dsimp only [e36,go_sem];refine ⟨by simp,?_⟩;exact Zz4 J1 (s:=false) h
set_option maxRecDepth 100000
set_option maxHeartbeats 4000000
def Z5l:EC:=.seq (.seq (.reg [(Qa 30 (.mv (.t 6))),(Qa 31 (.fld 1 (.t 1))),(Qa 32 (.load (.t 31))),(Qa 33 (.len (.t 32))),(Qa 34 (.bin .lss (.t 30) (.t 33)))]) (.ite (.t 34) (.skip) (.exit 2))) (.seq (.blk 3 (.seq (.reg [(Qa 37 (.fld 1 (.t 1))),(Qa 38 (.load (.t 37))),(Qa 39 (.mv (.t 6))),(Qa 40 (.idx 5 (.t 38) (.t 39))),(Qa 41 (.loadA 5 (.t 40))),(Qa 7 (.alloc 78 [.iv 0,.iv 0,.iv 0,.iv 0,.iv 0])),(Qb (.store 5 (.t 7) (.t 41)))]) (.reg [(Qa 42 (.mv (.t 4))),(Qa 43 (.mv (.t 42))),(Qg 44 43 true (.loadA 2 (.t 1))),(Qg 45 43 true (.fld 0 (.t 7))),(Qg 46 43 true (.load (.t 45))),(Qg 47 43 true (.call 36 [(.t 44),(.t 46)])),(Qa 48 (.pick (.t 43) (.t 47) (.c .ff))),(Qa 49 (.mv (.t 48))),(Qg 50 49 true (.loadA 2 (.t 1))),(Qg 51 49 true (.fld 1 (.t 7))),(Qg 52 49 true (.load (.t 51))),(Qg 53 49 true (.call 36 [(.t 50),(.t 52)])),(Qa 54 (.pick (.t 49) (.t 53) (.c .ff))),(Qa 55 (.mv (.t 54))),(Qg 56 55 true (.fld 0 (.t 7))),(Qg 57 55 true (.load (.t 56))),(Qg 58 55 true (.fld 1 (.t 7))),(Qg 59 55 true (.load (.t 58))),(Qg 60 55 true (.bin .neq (.t 57) (.t 59))),(Qa 61 (.pick (.t 55) (.t 60) (.c .ff))),(Qa 4 (.mv (.t 61)))]))) (.reg [(Qa 35 (.mv (.t 6))),(Qa 36 (.bin .add (.t 35) (.c (.iv 1)))),(Qa 6 (.mv (.t 36)))]))
def Z6l:EC:=.seq (.seq (.reg [(Qa 14 (.mv (.t 5))),(Qa 15 (.fld 0 (.t 1))),(Qa 16 (.load (.t 15))),(Qa 17 (.len (.t 16))),(Qa 18 (.bin .lss (.t 14) (.t 17)))]) (.ite (.t 18) (.skip) (.exit 0))) (.seq (.blk 1 (.reg [(Qa 21 (.mv (.t 4))),(Qa 22 (.mv (.t 21))),(Qg 23 22 true (.fld 0 (.t 1))),(Qg 24 22 true (.load (.t 23))),(Qg 25 22 true (.mv (.t 5))),(Qg 26 22 true (.idx 3 (.t 24) (.t 25))),(Qg 27 22 true (.loadA 3 (.t 26))),(Qg 28 22 true (.call 48 [(.t 27)])),(Qa 29 (.pick (.t 22) (.t 28) (.c .ff))),(Qa 4 (.mv (.t 29)))])) (.reg [(Qa 19 (.mv (.t 5))),(Qa 20 (.bin .add (.t 19) (.c (.iv 1)))),(Qa 5 (.mv (.t 20)))]))
def e13:EC:=.seq (.reg [(Qa 1 (.box 25 2 (.t 0))),(Qa 2 (.mv (.c .ff)))]) (.seq (.reg [(Qa 9 (.fld 0 (.t 1))),(Qa 10 (.load (.t 9))),(Qa 11 (.call 47 [(.t 10)])),(Qa 8 (.mv (.t 11))),(Qa 12 (.ext (.t 8) 0)),(Qa 13 (.ext (.t 8) 1)),(Qa 3 (.alloc 48 [.iv 0,.nl])),(Qb (.store 2 (.t 3) (.t 12))),(Qa 4 (.mv (.t 13)))]) (.seq (.seq (.reg [(Qa 5 (.mv (.c (.iv 0))))]) (.blk 0 (.loop Z6l))) (.seq (.seq (.reg [(Qa 6 (.mv (.c (.iv 0))))]) (.blk 2 (.loop Z5l))) (.seq (.reg [(Qa 62 (.mv (.t 4))),(Qa 2 (.mv (.t 62)))]) (.ret)))))
theorem ok13:FnOK Tryz.prog 13 Tryz.f13 e13 [.t 2] 1 62:=⟨by kernel_rfl,⟨_,rfl,by kernel_rfl⟩,by kernel_rfl,by kernel_rfl⟩
noncomputable def Z7l:Bool→Option Bool
| x36=>
 some x36
noncomputable def Z8l (x26:Int):Bool→Option ((Bool×Int) ⊕ Bool)
| x30=>
 some (.inl (x30,wr (x26+1)))
noncomputable def Z9l (x1:Scene):(Bool×Int)→Option ((Bool×Int) ⊕ Bool)
| (x25,x26)=>
 ifb (decide (x26<(ln Mail.row x1.Mail))) (
 (at_ x1.Mail x26).bind fun x27=>
 ifb x25 (
 (Z3l x1 x27.From).bind fun x28=>
 ifb x28 (
 (Z3l x1 x27.To).bind fun x29=>
 ifb x29 (
 (Z8l x26) (!decide (x27.From=x27.To))) (
 (Z8l x26) false)) (
 (Z8l x26) false)) (
 (Z8l x26) false)) (
 Option.map Sum.inr (Z7l x25))
noncomputable def Zal (x1:Scene):Bool→Option Bool
| x18=>
 loop (Z9l x1) (x18,0)
noncomputable def Zbl (x9:Int):Bool→Option ((Bool×Int) ⊕ Bool)
| x12=>
 some (.inl (x12,wr (x9+1)))
noncomputable def Zcl (x1:Scene):(Bool×Int)→Option ((Bool×Int) ⊕ Bool)
| (x8,x9)=>
 ifb (decide (x9<(ln Diner.row x1.Diners))) (
 ifb x8 (
 (at_ x1.Diners x9).bind fun x10=>
 (Z0l x10).bind fun x11=>
 (Zbl x9) x11) (
 (Zbl x9) false)) (
 Option.map Sum.inr ((Zal x1) x8))
noncomputable def Zdl (x1:Scene):Option Bool:=
 (Ztk x1.Diners).bind fun x2=>
 loop (Zcl x1) (x2.2,0)
theorem Zel (x1:Scene) (r:Bool) (h:Zdl x1=some r):Zq2 Tryz.prog 13 [.agg (Scene.row x1)] (.bv r):=by
 refine Zu2 ok13 rfl rfl fun w0 H0=>?_
 rw [Zdl] at h
 refine Zl2 9 ?_;dsimp only [e13,Z6l,Z5l,go_sem];refine ⟨by simp,?_⟩;obtain ⟨x2,ex2,h⟩:=Option.bind_eq_some_iff.1 h;refine Zz2 trivial (Zuk x1.Diners _ ex2) (h:=?_);refine Zl2 12 ?_;dsimp only [e13,Z6l,Z5l,go_sem];refine ⟨by simp,?_⟩;refine Zl4 (fun (x18:Bool)=>(⟨(.any :: .ptr 0 0 :: .any :: .any :: .bv x18::an 58 []),[some ⟨25,[.sl 3 (List.map Diner.row x1.Diners),.sl 5 (List.map Mail.row x1.Mail)]⟩],[]⟩:St)) (Zal x1) r ?_ fun J1=>?_
 ·intro x18 h;rw [Zal] at h;(try dsimp only);refine Zl2 5 ?_;dsimp only [e13,Z6l,Z5l,go_sem];refine ⟨by simp,?_⟩;refine Zl4 (fun (x36:Bool)=>(⟨(an 4 (.bv x36::an 58 [])),[],[]⟩:St)) Z7l r ?_ fun J3=>?_
  ·intro x36 h;rw [Z7l] at h;(try dsimp only);refine Zl2 5 ?_;dsimp only [e13,Z6l,Z5l,go_sem];refine ⟨by simp,?_⟩;exact Zx4 (res:=fun (r:Bool)=>.bv r) ok13 h
  ·refine Zl2 1 ?_;dsimp only [e13,Z6l,Z5l,go_sem];refine ⟨by simp,?_⟩;refine Zm4 h (fun ((x25,x26):(Bool×Int))=>(⟨(.any :: .ptr 0 0 :: .any :: .any :: .bv x25 :: .any :: .iv x26::an 56 []),[some ⟨25,[.sl 3 (List.map Diner.row x1.Diners),.sl 5 (List.map Mail.row x1.Mail)]⟩],[]⟩:St)) (by simp [go_sem]) (by rintro ⟨x25,x26⟩;first | rfl | simp [go_sem]) ?_;rintro n1 ⟨x25,x26⟩ y1 h hin1 hout1;rw [Z9l] at h;(try dsimp only);refine Zl2 9 ?_;dsimp only [e13,Z6l,Z5l,go_sem];refine ⟨by simp,?_⟩
   refine Zn4 h rfl (fun _ h=>?_) fun _ h=>?_
   ·refine Zl2 8 ?_;dsimp only [e13,Z6l,Z5l,go_sem];refine ⟨by simp,?_⟩;obtain ⟨x27,ex27,h⟩:=Option.bind_eq_some_iff.1 h;refine Zq4 Mail.row ex27 trivial rfl rfl rfl ?_;refine Zl2 7 ?_;dsimp only [e13,Z6l,Z5l,go_sem];refine ⟨by simp,?_⟩;refine Zl4 (fun (x30:Bool)=>(⟨(.any :: .ptr 0 0 :: .any :: .any :: .bv x30 :: .any :: .iv x26::an 56 []),[some ⟨25,[.sl 3 (List.map Diner.row x1.Diners),.sl 5 (List.map Mail.row x1.Mail)]⟩],[]⟩:St)) (Z8l x26) y1 ?_ fun J4=>?_
    ·intro x30 h;rw [Z8l] at h;(try dsimp only);refine Zl2 6 ?_;dsimp only [e13,Z6l,Z5l,go_sem];refine ⟨by simp,?_⟩;exact Zy4 h hin1
    ·refine Zw4 43 h rfl (fun _ h=>?_) fun _ h=>?_
     ·dsimp only [go_sem];refine Zl2 3 ?_;dsimp only [e13,Z6l,Z5l,go_sem];refine ⟨by simp,?_⟩;obtain ⟨x28,ex28,h⟩:=Option.bind_eq_some_iff.1 h;refine Zz2 trivial (Z4l x1 x27.From _ ex28) (h:=?_);refine Zl2 2 ?_;dsimp only [e13,Z6l,Z5l,go_sem];refine ⟨by simp,?_⟩;refine Zw4 49 h rfl (fun _ h=>?_) fun _ h=>?_
      ·dsimp only [go_sem];refine Zl2 3 ?_;dsimp only [e13,Z6l,Z5l,go_sem];refine ⟨by simp,?_⟩;obtain ⟨x29,ex29,h⟩:=Option.bind_eq_some_iff.1 h;refine Zz2 trivial (Z4l x1 x27.To _ ex29) (h:=?_);refine Zl2 2 ?_;dsimp only [e13,Z6l,Z5l,go_sem];refine ⟨by simp,?_⟩;refine Zw4 55 h rfl (fun _ h=>?_) fun _ h=>?_
       ·dsimp only [go_sem];refine Zl2 8 ?_;dsimp only [e13,Z6l,Z5l,go_sem];refine ⟨by simp,?_⟩;exact Zz4 J4 (s:=!decide (x27.From=x27.To)) h
       ·dsimp only [go_sem];refine Zl2 8 ?_;dsimp only [e13,Z6l,Z5l,go_sem];refine ⟨by simp,?_⟩;exact Zz4 J4 (s:=false) h
      ·dsimp only [go_sem];refine Zl2 14 ?_;dsimp only [e13,Z6l,Z5l,go_sem];refine ⟨by simp,?_⟩;exact Zz4 J4 (s:=false) h
     ·dsimp only [go_sem];refine Zl2 20 ?_;dsimp only [e13,Z6l,Z5l,go_sem];refine ⟨by simp,?_⟩;exact Zz4 J4 (s:=false) h
   ·refine Zl2 1 ?_;dsimp only [e13,Z6l,Z5l,go_sem];refine ⟨by simp,?_⟩;exact Zz4 J3 (s:=x25) (Zk4 h hout1)
 ·refine Zl2 1 ?_;dsimp only [e13,Z6l,Z5l,go_sem];refine ⟨by simp,?_⟩;refine Zm4 h (fun ((x8,x9):(Bool×Int))=>(⟨(.any :: .ptr 0 0 :: .any :: .any :: .bv x8 :: .iv x9::an 57 []),[some ⟨25,[.sl 3 (List.map Diner.row x1.Diners),.sl 5 (List.map Mail.row x1.Mail)]⟩],[]⟩:St)) (by simp [go_sem]) (by rintro ⟨x8,x9⟩;first | rfl | simp [go_sem]) ?_;rintro n1 ⟨x8,x9⟩ y1 h hin1 hout1;rw [Zcl] at h;(try dsimp only);refine Zl2 9 ?_;dsimp only [e13,Z6l,Z5l,go_sem];refine ⟨by simp,?_⟩;refine Zn4 h rfl (fun _ h=>?_) fun _ h=>?_
  ·refine Zl2 6 ?_;dsimp only [e13,Z6l,Z5l,go_sem];refine ⟨by simp,?_⟩;refine Zl4 (fun (x12:Bool)=>(⟨(.any :: .ptr 0 0 :: .any :: .any :: .bv x12 :: .iv x9::an 57 []),[some ⟨25,[.sl 3 (List.map Diner.row x1.Diners),.sl 5 (List.map Mail.row x1.Mail)]⟩],[]⟩:St)) (Zbl x9) y1 ?_ fun J2=>?_
   ·intro x12 h;rw [Zbl] at h;(try dsimp only);refine Zl2 6 ?_;dsimp only [e13,Z6l,Z5l,go_sem];refine ⟨by simp,?_⟩;exact Zy4 h hin1
   ·refine Zw4 22 h rfl (fun _ h=>?_) fun _ h=>?_
    ·dsimp only [go_sem];refine Zl2 3 ?_;dsimp only [e13,Z6l,Z5l,go_sem];refine ⟨by simp,?_⟩;obtain ⟨x10,ex10,h⟩:=Option.bind_eq_some_iff.1 h;refine Zq4 Diner.row ex10 trivial rfl rfl rfl ?_;refine Zl2 1 ?_;dsimp only [e13,Z6l,Z5l,go_sem];refine ⟨by simp,?_⟩;obtain ⟨x11,ex11,h⟩:=Option.bind_eq_some_iff.1 h;refine Zz2 trivial (Z1l x10 _ ex11) (h:=?_);refine Zl2 3 ?_;dsimp only [e13,Z6l,Z5l,go_sem];refine ⟨by simp,?_⟩;exact Zz4 J2 (s:=x11) h
    ·dsimp only [go_sem];refine Zl2 9 ?_;dsimp only [e13,Z6l,Z5l,go_sem];refine ⟨by simp,?_⟩;exact Zz4 J2 (s:=false) h
  ·refine Zl2 1 ?_;dsimp only [e13,Z6l,Z5l,go_sem];refine ⟨by simp,?_⟩;exact Zz4 J1 (s:=x8) (Zk4 h hout1)
set_option maxRecDepth 100000
set_option maxHeartbeats 4000000
def e75:EC:=.seq (.reg [(Qa 3 (.box 70 3 (.t 0))),(Qa 5 (.box 65 8 (.t 2))),(Qa 6 (.alloc 70 [.iv 0,.iv 0,.nl]))]) (.seq (.reg [(Qa 7 (.bsl 65 8 0 [.iv 0,.iv 0,.iv 0,.ff,.ff,.ff,.ff,.ff] [])),(Qa 8 (.fld 2 (.t 3))),(Qa 9 (.load (.t 8))),(Qa 10 (.app 65 8 32 (.t 7) (.t 9))),(Qa 11 (.fld 2 (.t 3))),(Qb (.store 1 (.t 11) (.t 10)))]) (.seq (.reg [(Qa 12 (.fld 2 (.t 3))),(Qa 13 (.load (.t 12))),(Qa 14 (.mv (.t 1))),(Qa 15 (.loadA 8 (.t 5))),(Qa 16 (.idx 8 (.t 13) (.t 14))),(Qb (.store 8 (.t 16) (.t 15)))]) (.seq (.reg [(Qa 17 (.loadA 3 (.t 3))),(Qb (.store 3 (.t 6) (.t 17)))]) (.ret))))
theorem ok75:FnOK Tryz.prog 75 Tryz.f75 e75 [.c 6 (some 3)] 3 15:=⟨by kernel_rfl,⟨_,rfl,by kernel_rfl⟩,by kernel_rfl,by kernel_rfl⟩
noncomputable def Zfl (x1:Diner) (x2:Int) (x3:Side):Option Diner:=
 (Za4 32 (([]:List Side)) x1.Sides).bind fun x4=>
 (at_ x4 x2).bind fun _=>
 some (Diner.mk x1.ID x1.Phase (x4.set (x2).toNat x3))
theorem Zgl (x1:Diner) (x2:Int) (x3:Side) (r:Diner) (h:Zfl x1 x2 x3=some r):Zq2 Tryz.prog 75 [.agg (Diner.row x1),.iv x2,.agg (Side.row x3)] (.agg (Diner.row r)):=by
 refine Zu2 ok75 rfl rfl fun w0 H0=>?_
 rw [Zfl] at h
 refine Zl2 11 ?_;dsimp only [e75,go_sem];refine ⟨by simp,?_⟩;obtain ⟨x4,ex4,h⟩:=Option.bind_eq_some_iff.1 h;refine Zt4 Side.row ex4 trivial rfl rfl rfl ?_;refine Zl2 9 ?_;dsimp only [e75,go_sem];refine ⟨by simp,?_⟩;obtain ⟨x5,ex5,h⟩:=Option.bind_eq_some_iff.1 h;refine Z06 Side.row ex5 trivial rfl rfl rfl ?_;refine Z56 [.iv x3.Peer,.iv x3.Epoch,.iv x3.State,.bv x3.Fork,.bv x3.Dirty,.bv x3.Token,.bv x3.Bottle,.bv x3.Ask] Side.row (y':=x3) ex5 trivial rfl rfl rfl (by first | exact Z94 _ | simp [go_sem]) rfl rfl rfl rfl ?_;refine Zl2 6 ?_
 dsimp only [e75,go_sem];refine ⟨by simp,?_⟩;refine Z83 1 rfl ?_;dsimp only [go_sem];exact Zx4 (res:=fun (r:Diner)=>.agg (Diner.row r)) ok75 h
set_option maxRecDepth 100000
set_option maxHeartbeats 4000000
def Zhl:EC:=.seq (.seq (.reg [(Qa 14 (.mv (.t 8))),(Qa 15 (.fld 2 (.t 3))),(Qa 16 (.load (.t 15))),(Qa 17 (.len (.t 16))),(Qa 18 (.bin .lss (.t 14) (.t 17)))]) (.ite (.t 18) (.skip) (.exit 0))) (.seq (.blk 1 (.seq (.reg [(Qa 21 (.fld 2 (.t 3))),(Qa 22 (.load (.t 21))),(Qa 23 (.mv (.t 8))),(Qa 24 (.idx 8 (.t 22) (.t 23))),(Qa 25 (.loadA 8 (.t 24))),(Qa 9 (.alloc 65 [.iv 0,.iv 0,.iv 0,.ff,.ff,.ff,.ff,.ff])),(Qb (.store 8 (.t 9) (.t 25)))]) (.seq (.seq (.reg [(Qa 26 (.fld 0 (.t 9))),(Qa 27 (.load (.t 26))),(Qa 28 (.mv (.t 1))),(Qa 29 (.bin .neq (.t 27) (.t 28))),(Qa 30 (.mv (.t 29))),(Qg 31 30 false (.fld 1 (.t 9))),(Qg 32 30 false (.load (.t 31))),(Qg 33 30 false (.fld 1 (.t 5))),(Qg 34 30 false (.load (.t 33))),(Qg 35 30 false (.bin .neq (.t 32) (.t 34))),(Qa 36 (.pick (.t 30) (.c .tt) (.t 35)))]) (.ite (.t 36) (.exit 1) (.skip))) (.seq (.seq (.reg [(Qa 37 (.fld 2 (.t 5))),(Qa 38 (.load (.t 37))),(Qa 39 (.bin .neq (.t 38) (.c (.iv 0)))),(Qa 40 (.mv (.t 39))),(Qg 41 40 false (.fld 0 (.t 5))),(Qg 42 40 false (.load (.t 41))),(Qg 43 40 false (.bin .neq (.t 42) (.c (.iv 1)))),(Qg 44 40 false (.mv (.t 43))),(Qg 45 44 true (.fld 0 (.t 5))),(Qg 46 44 true (.load (.t 45))),(Qg 47 44 true (.bin .neq (.t 46) (.c (.iv 2)))),(Qg 48 40 false (.pick (.t 44) (.t 47) (.c .ff))),(Qa 49 (.pick (.t 40) (.c .tt) (.t 48)))]) (.ite (.t 49) (.seq (.reg [(Qa 50 (.build [.iv 0,.iv 0,.nl] [])),(Qb (.store 3 (.t 6) (.t 50))),(Qa 7 (.mv (.c (.iv 133))))]) (.ret)) (.skip))) (.seq (.seq (.reg [(Qa 51 (.fld 0 (.t 5))),(Qa 52 (.load (.t 51))),(Qa 53 (.bin .eql (.t 52) (.c (.iv 1)))),(Qa 54 (.mv (.t 53))),(Qg 55 54 true (.fld 3 (.t 9))),(Qg 56 54 true (.load (.t 55))),(Qa 57 (.pick (.t 54) (.t 56) (.c .ff))),(Qa 58 (.mv (.t 57))),(Qg 59 58 false (.fld 0 (.t 5))),(Qg 60 58 false (.load (.t 59))),(Qg 61 58 false (.bin .eql (.t 60) (.c (.iv 2)))),(Qg 62 58 false (.mv (.t 61))),(Qg 63 62 true (.fld 5 (.t 9))),(Qg 64 62 true (.load (.t 63))),(Qg 65 58 false (.pick (.t 62) (.t 64) (.c .ff))),(Qa 66 (.pick (.t 58) (.c .tt) (.t 65)))]) (.ite (.t 66) (.seq (.reg [(Qa 67 (.build [.iv 0,.iv 0,.nl] [])),(Qb (.store 3 (.t 6) (.t 67))),(Qa 7 (.mv (.c (.iv 132))))]) (.ret)) (.skip))) (.seq (.seq (.reg [(Qa 68 (.fld 0 (.t 5))),(Qa 69 (.load (.t 68))),(Qa 70 (.bin .eql (.t 69) (.c (.iv 1))))]) (.ite (.t 70) (.reg [(Qa 71 (.fld 3 (.t 9))),(Qb (.store 1 (.t 71) (.c .tt)))]) (.reg [(Qa 72 (.fld 5 (.t 9))),(Qb (.store 1 (.t 72) (.c .tt)))]))) (.seq (.reg [(Qa 73 (.loadA 3 (.t 3))),(Qa 74 (.mv (.t 8))),(Qa 75 (.loadA 8 (.t 9))),(Qa 76 (.call 75 [(.t 73),(.t 74),(.t 75)])),(Qb (.store 3 (.t 6) (.t 76))),(Qa 7 (.mv (.c (.iv 0))))]) (.ret)))))))) (.reg [(Qa 19 (.mv (.t 8))),(Qa 20 (.bin .add (.t 19) (.c (.iv 1)))),(Qa 8 (.mv (.t 20)))]))
def e37:EC:=.seq (.reg [(Qa 3 (.box 70 3 (.t 0))),(Qa 5 (.box 76 3 (.t 2))),(Qa 6 (.alloc 70 [.iv 0,.iv 0,.nl])),(Qa 7 (.mv (.c (.iv 0))))]) (.seq (.seq (.reg [(Qa 10 (.loadA 3 (.t 3))),(Qa 11 (.call 48 [(.t 10)])),(Qa 12 (.not (.t 11)))]) (.ite (.t 12) (.seq (.reg [(Qa 13 (.build [.iv 0,.iv 0,.nl] [])),(Qb (.store 3 (.t 6) (.t 13))),(Qa 7 (.mv (.c (.iv 130))))]) (.ret)) (.skip))) (.seq (.seq (.reg [(Qa 8 (.mv (.c (.iv 0))))]) (.blk 0 (.loop Zhl))) (.seq (.reg [(Qa 77 (.build [.iv 0,.iv 0,.nl] [])),(Qb (.store 3 (.t 6) (.t 77))),(Qa 7 (.mv (.c (.iv 131))))]) (.ret))))
theorem ok37:FnOK Tryz.prog 37 Tryz.f37 e37 [.c 6 (some 3),.t 7] 3 75:=⟨by kernel_rfl,⟨_,rfl,by kernel_rfl⟩,by kernel_rfl,by kernel_rfl⟩
noncomputable def Zil:Unit→Option (Diner×Int)
| ()=>
 some ((Diner.mk 0 0 (([]:(List Side)))),131)
noncomputable def Zjl (x12:Int):Unit→Option (Int ⊕ (Diner×Int))
| ()=>
 some (.inl (wr (x12+1)))
noncomputable def Zkl (x1:Diner) (x12:Int):Side→Option (Int ⊕ (Diner×Int))
| x17=>
 (Zfl x1 x12 x17).bind fun x18=>
 Option.map Sum.inr (some (x18,0))
noncomputable def Zll (x1:Diner) (x3:Msg) (x12:Int) (x13:Side):Bool→Option (Int ⊕ (Diner×Int))
| x16=>
 ifb x16 (
 Option.map Sum.inr (some ((Diner.mk 0 0 (([]:(List Side)))),132))) (
 ifb (decide (x3.Kind=1)) (
 (Zkl x1 x12) ((Side.mk x13.Peer x13.Epoch x13.State true x13.Dirty x13.Token x13.Bottle x13.Ask))) (
 (Zkl x1 x12) ((Side.mk x13.Peer x13.Epoch x13.State x13.Fork x13.Dirty true x13.Bottle x13.Ask))))
noncomputable def Zml (x1:Diner) (x3:Msg) (x12:Int) (x13:Side):Bool→Option (Int ⊕ (Diner×Int))
| x15=>
 ifb x15 (
 Option.map Sum.inr (some ((Diner.mk 0 0 (([]:(List Side)))),133))) (
 ifb (decide (x3.Kind=1)) (
 ifb x13.Fork (
 (Zll x1 x3 x12 x13) true) (
 ifb (decide (x3.Kind=2)) (
 (Zll x1 x3 x12 x13) x13.Token) (
 (Zll x1 x3 x12 x13) false))) (
 ifb (decide (x3.Kind=2)) (
 (Zll x1 x3 x12 x13) x13.Token) (
 (Zll x1 x3 x12 x13) false)))
noncomputable def Znl (x1:Diner) (x3:Msg) (x12:Int) (x13:Side):Bool→Option (Int ⊕ (Diner×Int))
| x14=>
 ifb x14 (
 (Zjl x12) ()) (
 ifb (!decide (x3.Num=0)) (
 (Zml x1 x3 x12 x13) true) (
 ifb (!decide (x3.Kind=1)) (
 (Zml x1 x3 x12 x13) (!decide (x3.Kind=2))) (
 (Zml x1 x3 x12 x13) false)))
noncomputable def Zol (x1:Diner) (x2:Int) (x3:Msg):Int→Option (Int ⊕ (Diner×Int))
| x12=>
 ifb (decide (x12<(ln Side.row x1.Sides))) (
 (at_ x1.Sides x12).bind fun x13=>
 ifb (!decide (x13.Peer=x2)) (
 (Znl x1 x3 x12 x13) true) (
 (Znl x1 x3 x12 x13) (!decide (x13.Epoch=x3.Epoch)))) (
 Option.map Sum.inr (Zil ()))
noncomputable def Zpl (x1:Diner) (x2:Int) (x3:Msg):Option (Diner×Int):=
 (Z0l x1).bind fun x4=>
 ifb (!x4) (
 some ((Diner.mk 0 0 (([]:(List Side)))),130)) (
 loop (Zol x1 x2 x3) 0)
theorem Zql (x1:Diner) (x2:Int) (x3:Msg) (r:(Diner×Int)) (h:Zpl x1 x2 x3=some r):Zq2 Tryz.prog 37 [.agg (Diner.row x1),.iv x2,.agg (Msg.row x3)] (.tup [.agg (Diner.row r.1),.iv r.2]):=by
 refine Zu2 ok37 rfl rfl fun w0 H0=>?_
 rw [Zpl] at h
 refine Zl2 11 ?_;dsimp only [e37,Zhl,go_sem];refine ⟨by simp,?_⟩;obtain ⟨x4,ex4,h⟩:=Option.bind_eq_some_iff.1 h;refine Zz2 trivial (Z1l x1 _ ex4) (h:=?_);refine Zl2 2 ?_;dsimp only [e37,Zhl,go_sem];refine ⟨by simp,?_⟩;refine Zn4 h rfl (fun _ h=>?_) fun _ h=>?_
 ·refine Zl2 6 ?_;dsimp only [e37,Zhl,go_sem];refine ⟨by simp,?_⟩;exact Zx4 (res:=fun (r:(Diner×Int))=>.tup [.agg (Diner.row r.1),.iv r.2]) ok37 h
 ·refine Zl2 6 ?_;dsimp only [e37,Zhl,go_sem];refine ⟨by simp,?_⟩;refine Zl4 (fun (_:Unit)=>(⟨(an 6 (.ptr 2 0::an 71 [])),[none,none,some ⟨70,[.iv 0,.iv 0,.nl]⟩],[]⟩:St)) Zil r ?_ fun J1=>?_
  ·rintro ⟨⟩ h;rw [Zil] at h;(try dsimp only);refine Zl2 6 ?_;dsimp only [e37,Zhl,go_sem];refine ⟨by simp,?_⟩;exact Zx4 (res:=fun (r:(Diner×Int))=>.tup [.agg (Diner.row r.1),.iv r.2]) ok37 h
  ·refine Zl2 1 ?_;dsimp only [e37,Zhl,go_sem];refine ⟨by simp,?_⟩;refine Zm4 h (fun (x12:Int)=>(⟨(.any :: .iv x2 :: .any :: .ptr 0 0 :: .any :: .ptr 1 0 :: .ptr 2 0 :: .any :: .iv x12::an 69 []),[some ⟨70,[.iv x1.ID,.iv x1.Phase,.sl 8 (List.map Side.row x1.Sides)]⟩,some ⟨76,[.iv x3.Kind,.iv x3.Epoch,.iv x3.Num]⟩,some ⟨70,[.iv 0,.iv 0,.nl]⟩],[]⟩:St)) (by simp [go_sem]) (by intro x12;first | rfl | simp [go_sem]) ?_;rintro n1 x12 y1 h hin1 hout1;rw [Zol] at h;(try dsimp only);refine Zl2 9 ?_;dsimp only [e37,Zhl,go_sem]
   refine ⟨by simp,?_⟩;refine Zn4 h rfl (fun _ h=>?_) fun _ h=>?_
   ·refine Zl2 2 ?_;dsimp only [e37,Zhl,go_sem];refine ⟨by simp,?_⟩;refine Zl4 (fun (_:Unit)=>(⟨(.any :: .iv x2 :: .any :: .ptr 0 0 :: .any :: .ptr 1 0 :: .ptr 2 0 :: .any :: .iv x12::an 69 []),[some ⟨70,[.iv x1.ID,.iv x1.Phase,.sl 8 (List.map Side.row x1.Sides)]⟩,some ⟨76,[.iv x3.Kind,.iv x3.Epoch,.iv x3.Num]⟩,some ⟨70,[.iv 0,.iv 0,.nl]⟩],[]⟩:St)) (Zjl x12) y1 ?_ fun J2=>?_
    ·rintro ⟨⟩ h;rw [Zjl] at h;(try dsimp only);refine Zl2 5 ?_;dsimp only [e37,Zhl,go_sem];refine ⟨by simp,?_⟩;exact Zy4 h hin1
    ·refine Zl2 6 ?_;dsimp only [e37,Zhl,go_sem];refine ⟨by simp,?_⟩;obtain ⟨x13,ex13,h⟩:=Option.bind_eq_some_iff.1 h;refine Zq4 Side.row ex13 trivial rfl rfl rfl ?_;refine Zl2 12 ?_;dsimp only [e37,Zhl,go_sem];refine ⟨by simp,?_⟩
     refine Zl4 (fun (x14:Bool)=>(⟨(.any :: .iv x2 :: .any :: .ptr 0 0 :: .any :: .ptr 1 0 :: .ptr 2 0 :: .any :: .iv x12 :: .ptr 3 0::an 26 (.bv x14::an 41 [])),[some ⟨70,[.iv x1.ID,.iv x1.Phase,.sl 8 (List.map Side.row x1.Sides)]⟩,some ⟨76,[.iv x3.Kind,.iv x3.Epoch,.iv x3.Num]⟩,some ⟨70,[.iv 0,.iv 0,.nl]⟩,some ⟨65,[.iv x13.Peer,.iv x13.Epoch,.iv x13.State,.bv x13.Fork,.bv x13.Dirty,.bv x13.Token,.bv x13.Bottle,.bv x13.Ask]⟩],[]⟩:St)) (Znl x1 x3 x12 x13) y1 ?_ fun J3=>?_
     ·intro x14 h;rw [Znl] at h;(try dsimp only);refine Zn4 h rfl (fun _ h=>?_) fun _ h=>?_
      ·refine Zl2 1 ?_;dsimp only [e37,Zhl,go_sem];refine ⟨by simp,?_⟩;exact Zz4 J2 (s:=()) h
      ·refine Zl2 8 ?_;dsimp only [e37,Zhl,go_sem];refine ⟨by simp,?_⟩;refine Zl4 (fun (x15:Bool)=>(⟨(an 3 (.ptr 0 0 :: .any :: .ptr 1 0 :: .ptr 2 0 :: .any :: .iv x12 :: .ptr 3 0::an 39 (.bv x15::an 28 []))),[some ⟨70,[.iv x1.ID,.iv x1.Phase,.sl 8 (List.map Side.row x1.Sides)]⟩,some ⟨76,[.iv x3.Kind,.iv x3.Epoch,.iv x3.Num]⟩,some ⟨70,[.iv 0,.iv 0,.nl]⟩,some ⟨65,[.iv x13.Peer,.iv x13.Epoch,.iv x13.State,.bv x13.Fork,.bv x13.Dirty,.bv x13.Token,.bv x13.Bottle,.bv x13.Ask]⟩],[]⟩:St)) (Zml x1 x3 x12 x13) y1 ?_ fun J4=>?_
       ·intro x15 h;rw [Zml] at h;(try dsimp only);refine Zn4 h rfl (fun _ h=>?_) fun _ h=>?_
        ·refine Zl2 6 ?_;dsimp only [e37,Zhl,go_sem];refine ⟨by simp,?_⟩;exact Zx4 (res:=fun (r:(Diner×Int))=>.tup [.agg (Diner.row r.1),.iv r.2]) ok37 (Zk4 h hout1)
        ·refine Zl2 8 ?_;dsimp only [e37,Zhl,go_sem];refine ⟨by simp,?_⟩;refine Zl4 (fun (x16:Bool)=>(⟨(an 3 (.ptr 0 0 :: .any :: .ptr 1 0 :: .ptr 2 0 :: .any :: .iv x12 :: .ptr 3 0::an 56 (.bv x16::an 11 []))),[some ⟨70,[.iv x1.ID,.iv x1.Phase,.sl 8 (List.map Side.row x1.Sides)]⟩,some ⟨76,[.iv x3.Kind,.iv x3.Epoch,.iv x3.Num]⟩,some ⟨70,[.iv 0,.iv 0,.nl]⟩,some ⟨65,[.iv x13.Peer,.iv x13.Epoch,.iv x13.State,.bv x13.Fork,.bv x13.Dirty,.bv x13.Token,.bv x13.Bottle,.bv x13.Ask]⟩],[]⟩:St)) (Zll x1 x3 x12 x13) y1 ?_ fun J5=>?_
         ·intro x16 h;rw [Zll] at h;(try dsimp only);refine Zn4 h rfl (fun _ h=>?_) fun _ h=>?_
          ·refine Zl2 6 ?_;dsimp only [e37,Zhl,go_sem];refine ⟨by simp,?_⟩;exact Zx4 (res:=fun (r:(Diner×Int))=>.tup [.agg (Diner.row r.1),.iv r.2]) ok37 (Zk4 h hout1)
          ·refine Zl2 8 ?_;dsimp only [e37,Zhl,go_sem];refine ⟨by simp,?_⟩;refine Zl4 (fun (x17:Side)=>(⟨(an 3 (.ptr 0 0 :: .any :: .any :: .ptr 2 0 :: .any :: .iv x12 :: .ptr 3 0::an 68 [])),[some ⟨70,[.iv x1.ID,.iv x1.Phase,.sl 8 (List.map Side.row x1.Sides)]⟩,none,some ⟨70,[.iv 0,.iv 0,.nl]⟩,some ⟨65,[.iv x17.Peer,.iv x17.Epoch,.iv x17.State,.bv x17.Fork,.bv x17.Dirty,.bv x17.Token,.bv x17.Bottle,.bv x17.Ask]⟩],[]⟩:St)) (Zkl x1 x12) y1 ?_ fun J6=>?_
           ·intro x17 h;rw [Zkl] at h;(try dsimp only);refine Zl2 5 ?_;dsimp only [e37,Zhl,go_sem];refine ⟨by simp,?_⟩;obtain ⟨x18,ex18,h⟩:=Option.bind_eq_some_iff.1 h;refine Zz2 trivial (Zgl x1 x12 x17 _ ex18) (h:=?_);refine Zl2 3 ?_;dsimp only [e37,Zhl,go_sem];refine ⟨by simp,?_⟩;exact Zx4 (res:=fun (r:(Diner×Int))=>.tup [.agg (Diner.row r.1),.iv r.2]) ok37 (Zk4 h hout1)
           ·refine Zn4 h rfl (fun _ h=>?_) fun _ h=>?_
            ·refine Zl2 4 ?_;dsimp only [e37,Zhl,go_sem];refine ⟨by simp,?_⟩;exact Zz4 J6 (s:=(Side.mk x13.Peer x13.Epoch x13.State true x13.Dirty x13.Token x13.Bottle x13.Ask)) h
            ·refine Zl2 4 ?_;dsimp only [e37,Zhl,go_sem];refine ⟨by simp,?_⟩;exact Zz4 J6 (s:=(Side.mk x13.Peer x13.Epoch x13.State x13.Fork x13.Dirty true x13.Bottle x13.Ask)) h
         ·refine Zw4 54 h rfl (fun _ h=>?_) fun _ h=>?_
          ·dsimp only [go_sem];refine Zl2 4 ?_;dsimp only [e37,Zhl,go_sem];refine ⟨by simp,?_⟩;refine Zw4 58 h rfl (fun _ h=>?_) fun _ h=>?_
           ·dsimp only [go_sem];refine Zl2 9 ?_;dsimp only [e37,Zhl,go_sem];refine ⟨by simp,?_⟩;exact Zz4 J5 (s:=true) h
           ·dsimp only [go_sem];refine Zl2 4 ?_;dsimp only [e37,Zhl,go_sem];refine ⟨by simp,?_⟩;refine Zw4 62 h rfl (fun _ h=>?_) fun _ h=>?_
            ·dsimp only [go_sem];refine Zl2 5 ?_;dsimp only [e37,Zhl,go_sem];refine ⟨by simp,?_⟩;exact Zz4 J5 (s:=x13.Token) h
            ·dsimp only [go_sem];refine Zl2 5 ?_;dsimp only [e37,Zhl,go_sem];refine ⟨by simp,?_⟩;exact Zz4 J5 (s:=false) h
          ·dsimp only [go_sem];refine Zl2 8 ?_;dsimp only [e37,Zhl,go_sem];refine ⟨by simp,?_⟩;refine Zw4 62 h rfl (fun _ h=>?_) fun _ h=>?_
           ·dsimp only [go_sem];refine Zl2 5 ?_;dsimp only [e37,Zhl,go_sem];refine ⟨by simp,?_⟩;exact Zz4 J5 (s:=x13.Token) h
           ·dsimp only [go_sem];refine Zl2 5 ?_;dsimp only [e37,Zhl,go_sem];refine ⟨by simp,?_⟩;exact Zz4 J5 (s:=false) h
       ·refine Zw4 40 h rfl (fun _ h=>?_) fun _ h=>?_
        ·dsimp only [go_sem];refine Zl2 10 ?_;dsimp only [e37,Zhl,go_sem];refine ⟨by simp,?_⟩;exact Zz4 J4 (s:=true) h
        ·dsimp only [go_sem];refine Zl2 4 ?_;dsimp only [e37,Zhl,go_sem];refine ⟨by simp,?_⟩;refine Zw4 44 h rfl (fun _ h=>?_) fun _ h=>?_
         ·dsimp only [go_sem];refine Zl2 6 ?_;dsimp only [e37,Zhl,go_sem];refine ⟨by simp,?_⟩;exact Zz4 J4 (s:=!decide (x3.Kind=2)) h
         ·dsimp only [go_sem];refine Zl2 6 ?_;dsimp only [e37,Zhl,go_sem];refine ⟨by simp,?_⟩;exact Zz4 J4 (s:=false) h
     ·refine Zw4 30 h rfl (fun _ h=>?_) fun _ h=>?_
      ·dsimp only [go_sem];refine Zl2 7 ?_;dsimp only [e37,Zhl,go_sem];refine ⟨by simp,?_⟩;exact Zz4 J3 (s:=true) h
      ·dsimp only [go_sem];refine Zl2 7 ?_;dsimp only [e37,Zhl,go_sem];refine ⟨by simp,?_⟩;exact Zz4 J3 (s:=!decide (x13.Epoch=x3.Epoch)) h
   ·refine Zl2 1 ?_;dsimp only [e37,Zhl,go_sem];refine ⟨by simp,?_⟩;exact Zz4 J1 (s:=()) (Zk4 h hout1)
set_option maxRecDepth 100000
set_option maxHeartbeats 4000000
def e102:EC:=.seq (.reg [(Qa 3 (.box 70 3 (.t 0))),(Qa 4 (.box 65 8 (.t 1))),(Qa 6 (.alloc 78 [.iv 0,.iv 0,.iv 0,.iv 0,.iv 0]))]) (.seq (.reg [(Qa 7 (.fld 0 (.t 3))),(Qa 8 (.load (.t 7))),(Qa 9 (.fld 0 (.t 4))),(Qa 10 (.load (.t 9))),(Qa 11 (.mv (.t 2))),(Qa 12 (.fld 1 (.t 4))),(Qa 13 (.load (.t 12))),(Qa 14 (.build [.iv 0,.iv 0,.iv 0] [(0,1,(.t 11)),(1,1,(.t 13))])),(Qa 15 (.build [.iv 0,.iv 0,.iv 0,.iv 0,.iv 0] [(0,1,(.t 8)),(1,1,(.t 10)),(2,3,(.t 14))])),(Qb (.store 5 (.t 6) (.t 15)))]) (.ret))
theorem ok102:FnOK Tryz.prog 102 Tryz.f102 e102 [.c 6 (some 5)] 3 13:=⟨by kernel_rfl,⟨_,rfl,by kernel_rfl⟩,by kernel_rfl,by kernel_rfl⟩
noncomputable def Zrl (x1:Diner) (x2:Side) (x3:Int):Option Mail:=
 some (Mail.mk x1.ID x2.Peer ((Msg.mk x3 x2.Epoch 0)))
theorem Zsl (x1:Diner) (x2:Side) (x3:Int) (r:Mail) (h:Zrl x1 x2 x3=some r):Zq2 Tryz.prog 102 [.agg (Diner.row x1),.agg (Side.row x2),.iv x3] (.agg (Mail.row r)):=by
 refine Zu2 ok102 rfl rfl fun w0 H0=>?_
 rw [Zrl] at h
 refine Zl2 19 ?_;dsimp only [e102,go_sem];refine ⟨by simp,?_⟩;exact Zx4 (res:=fun (r:Mail)=>.agg (Mail.row r)) ok102 h
set_option maxRecDepth 100000
set_option maxHeartbeats 4000000
def Ztl:EC:=.seq (.seq (.reg [(Qa 92 (.mv (.t 10))),(Qa 93 (.fld 2 (.t 1))),(Qa 94 (.load (.t 93))),(Qa 95 (.len (.t 94))),(Qa 96 (.bin .lss (.t 92) (.t 95)))]) (.ite (.t 96) (.skip) (.exit 4))) (.seq (.blk 5 (.seq (.reg [(Qa 99 (.fld 2 (.t 1))),(Qa 100 (.load (.t 99))),(Qa 101 (.mv (.t 10))),(Qa 102 (.idx 8 (.t 100) (.t 101))),(Qa 103 (.loadA 8 (.t 102))),(Qa 11 (.alloc 65 [.iv 0,.iv 0,.iv 0,.ff,.ff,.ff,.ff,.ff])),(Qb (.store 8 (.t 11) (.t 103)))]) (.seq (.reg [(Qa 104 (.fld 4 (.t 11))),(Qb (.store 1 (.t 104) (.c .tt)))]) (.reg [(Qa 105 (.loadA 3 (.t 1))),(Qa 106 (.mv (.t 10))),(Qa 107 (.loadA 8 (.t 11))),(Qa 108 (.call 75 [(.t 105),(.t 106),(.t 107)])),(Qb (.store 3 (.t 1) (.t 108)))])))) (.reg [(Qa 97 (.mv (.t 10))),(Qa 98 (.bin .add (.t 97) (.c (.iv 1)))),(Qa 10 (.mv (.t 98)))]))
def Zul:EC:=.seq (.seq (.reg [(Qa 76 (.mv (.t 9))),(Qa 77 (.fld 2 (.t 1))),(Qa 78 (.load (.t 77))),(Qa 79 (.len (.t 78))),(Qa 80 (.bin .lss (.t 76) (.t 79)))]) (.ite (.t 80) (.skip) (.exit 2))) (.seq (.blk 3 (.seq (.reg [(Qa 83 (.fld 2 (.t 1))),(Qa 84 (.load (.t 83))),(Qa 85 (.mv (.t 9))),(Qa 86 (.idx 8 (.t 84) (.t 85))),(Qa 87 (.fld 3 (.t 86))),(Qa 88 (.load (.t 87))),(Qa 89 (.not (.t 88)))]) (.ite (.t 89) (.seq (.reg [(Qa 90 (.loadA 3 (.t 1))),(Qb (.store 3 (.t 2) (.t 90))),(Qa 3 (.mv (.c .nl))),(Qa 4 (.mv (.c .ff)))]) (.ret)) (.skip)))) (.reg [(Qa 81 (.mv (.t 9))),(Qa 82 (.bin .add (.t 81) (.c (.iv 1)))),(Qa 9 (.mv (.t 82)))]))
def Zvl:EC:=.seq (.seq (.reg [(Qa 12 (.mv (.t 5))),(Qa 13 (.fld 2 (.t 1))),(Qa 14 (.load (.t 13))),(Qa 15 (.len (.t 14))),(Qa 16 (.bin .lss (.t 12) (.t 15)))]) (.ite (.t 16) (.skip) (.exit 0))) (.seq (.blk 1 (.seq (.reg [(Qa 19 (.fld 2 (.t 1))),(Qa 20 (.load (.t 19))),(Qa 21 (.mv (.t 5))),(Qa 22 (.idx 8 (.t 20) (.t 21))),(Qa 23 (.loadA 8 (.t 22))),(Qa 6 (.alloc 65 [.iv 0,.iv 0,.iv 0,.ff,.ff,.ff,.ff,.ff])),(Qb (.store 8 (.t 6) (.t 23)))]) (.seq (.seq (.reg [(Qa 24 (.fld 3 (.t 6))),(Qa 25 (.load (.t 24))),(Qa 26 (.mv (.t 25))),(Qg 27 26 true (.fld 4 (.t 6))),(Qg 28 26 true (.load (.t 27))),(Qa 29 (.pick (.t 26) (.t 28) (.c .ff))),(Qa 30 (.mv (.t 29))),(Qg 31 30 true (.fld 5 (.t 6))),(Qg 32 30 true (.load (.t 31))),(Qa 33 (.pick (.t 30) (.t 32) (.c .ff))),(Qa 34 (.mv (.t 33))),(Qg 35 34 true (.fld 1 (.t 1))),(Qg 36 34 true (.load (.t 35))),(Qg 37 34 true (.bin .neq (.t 36) (.c (.iv 2)))),(Qa 38 (.pick (.t 34) (.t 37) (.c .ff)))]) (.ite (.t 38) (.seq (.reg [(Qa 39 (.loadA 8 (.t 6))),(Qa 7 (.alloc 65 [.iv 0,.iv 0,.iv 0,.ff,.ff,.ff,.ff,.ff])),(Qb (.store 8 (.t 7) (.t 39)))]) (.seq (.reg [(Qa 40 (.fld 3 (.t 7))),(Qb (.store 1 (.t 40) (.c .ff))),(Qa 41 (.fld 4 (.t 7))),(Qb (.store 1 (.t 41) (.c .ff)))]) (.seq (.drw [(Qa 42 (.loadA 3 (.t 1))),(Qa 43 (.mv (.t 5))),(Qa 44 (.loadA 8 (.t 7))),(Qa 45 (.call 75 [(.t 42),(.t 43),(.t 44)])),(Qa 46 (.loadA 3 (.t 1))),(Qa 47 (.loadA 8 (.t 6))),(Qa 48 (.call 102 [(.t 46),(.t 47),(.c (.iv 1))])),(Qa 49 (.bsl 78 5 1 [.iv 0,.iv 0,.iv 0,.iv 0,.iv 0] [(0,(.t 48))])),(Qb (.store 3 (.t 2) (.t 45))),(Qa 3 (.mv (.t 49))),(Qa 4 (.mv (.c .tt)))] [[],[],[],[0,1,2],[],[],[4,5,3],[6],[3,6,0,1,2,3],[7,8,0,1,2,3,4,5,6,7,8],[9,0,1,2,3,4,5,6,7,8,9]] [[3],[3],[3],[0,1,2,8],[6],[6],[4,5,7],[6,9],[3],[7],[]]) (.ret)))) (.skip))) (.seq (.reg [(Qa 50 (.fld 3 (.t 6))),(Qa 51 (.load (.t 50))),(Qa 52 (.not (.t 51))),(Qa 53 (.mv (.t 52))),(Qg 54 53 true (.fld 5 (.t 6))),(Qg 55 53 true (.load (.t 54))),(Qa 56 (.pick (.t 53) (.t 55) (.c .ff))),(Qa 57 (.mv (.t 56))),(Qg 58 57 true (.fld 1 (.t 1))),(Qg 59 57 true (.load (.t 58))),(Qg 60 57 true (.bin .eql (.t 59) (.c (.iv 1)))),(Qa 61 (.pick (.t 57) (.t 60) (.c .ff)))]) (.ite (.t 61) (.seq (.reg [(Qa 62 (.loadA 8 (.t 6))),(Qa 8 (.alloc 65 [.iv 0,.iv 0,.iv 0,.ff,.ff,.ff,.ff,.ff])),(Qb (.store 8 (.t 8) (.t 62)))]) (.seq (.reg [(Qa 63 (.fld 5 (.t 8))),(Qb (.store 1 (.t 63) (.c .ff)))]) (.seq (.drw [(Qa 64 (.loadA 3 (.t 1))),(Qa 65 (.mv (.t 5))),(Qa 66 (.loadA 8 (.t 8))),(Qa 67 (.call 75 [(.t 64),(.t 65),(.t 66)])),(Qa 68 (.loadA 3 (.t 1))),(Qa 69 (.loadA 8 (.t 6))),(Qa 70 (.call 102 [(.t 68),(.t 69),(.c (.iv 2))])),(Qa 71 (.bsl 78 5 1 [.iv 0,.iv 0,.iv 0,.iv 0,.iv 0] [(0,(.t 70))])),(Qb (.store 3 (.t 2) (.t 67))),(Qa 3 (.mv (.t 71))),(Qa 4 (.mv (.c .tt)))] [[],[],[],[0,1,2],[],[],[4,5,3],[6],[3,6,0,1,2,3],[7,8,0,1,2,3,4,5,6,7,8],[9,0,1,2,3,4,5,6,7,8,9]] [[3],[3],[3],[0,1,2,8],[6],[6],[4,5,7],[6,9],[3],[7],[]]) (.ret)))) (.skip)))))) (.reg [(Qa 17 (.mv (.t 5))),(Qa 18 (.bin .add (.t 17) (.c (.iv 1)))),(Qa 5 (.mv (.t 18)))]))
def e76:EC:=.seq (.reg [(Qa 1 (.box 70 3 (.t 0))),(Qa 2 (.alloc 70 [.iv 0,.iv 0,.nl])),(Qa 3 (.mv (.c .nl))),(Qa 4 (.mv (.c .ff)))]) (.seq (.seq (.reg [(Qa 5 (.mv (.c (.iv 0))))]) (.blk 0 (.loop Zvl))) (.seq (.seq (.reg [(Qa 72 (.fld 1 (.t 1))),(Qa 73 (.load (.t 72))),(Qa 74 (.bin .neq (.t 73) (.c (.iv 1))))]) (.ite (.t 74) (.seq (.reg [(Qa 75 (.loadA 3 (.t 1))),(Qb (.store 3 (.t 2) (.t 75))),(Qa 3 (.mv (.c .nl))),(Qa 4 (.mv (.c .ff)))]) (.ret)) (.skip))) (.seq (.seq (.reg [(Qa 9 (.mv (.c (.iv 0))))]) (.blk 2 (.loop Zul))) (.seq (.reg [(Qa 91 (.fld 1 (.t 1))),(Qb (.store 1 (.t 91) (.c (.iv 2))))]) (.seq (.seq (.reg [(Qa 10 (.mv (.c (.iv 0))))]) (.blk 4 (.loop Ztl))) (.seq (.reg [(Qa 109 (.loadA 3 (.t 1))),(Qb (.store 3 (.t 2) (.t 109))),(Qa 3 (.mv (.c .nl))),(Qa 4 (.mv (.c .tt)))]) (.ret)))))))
theorem ok76:FnOK Tryz.prog 76 Tryz.f76 e76 [.c 2 (some 3),.t 3,.t 4] 1 109:=⟨by kernel_rfl,⟨_,rfl,by kernel_rfl⟩,by kernel_rfl,by kernel_rfl⟩
noncomputable def Zwl:Diner→Option (Diner×(List Mail)×Bool)
| x52=>
 some (x52,([]:(List Mail)),true)
noncomputable def Zxl:(Int×Diner)→Option ((Int×Diner) ⊕ (Diner×(List Mail)×Bool))
| (x44,x45)=>
 ifb (decide (x44<(ln Side.row x45.Sides))) (
 (at_ x45.Sides x44).bind fun x46=>
 (Zfl x45 x44 ((Side.mk x46.Peer x46.Epoch x46.State x46.Fork true x46.Token x46.Bottle x46.Ask))).bind fun x47=>
 some (.inl (wr (x44+1),x47))) (
 Option.map Sum.inr (Zwl x45))
noncomputable def Zyl (x1:Diner):Unit→Option (Diner×(List Mail)×Bool)
| ()=>
 loop Zxl (0,(Diner.mk x1.ID 2 x1.Sides))
noncomputable def Zzl (x1:Diner):Int→Option (Int ⊕ (Diner×(List Mail)×Bool))
| x35=>
 ifb (decide (x35<(ln Side.row x1.Sides))) (
 (at_ x1.Sides x35).bind fun x36=>
 ifb (!x36.Fork) (
 Option.map Sum.inr (some (x1,([]:(List Mail)),false))) (
 some (.inl (wr (x35+1))))) (
 Option.map Sum.inr ((Zyl x1) ()))
noncomputable def Z0m (x1:Diner):Unit→Option (Diner×(List Mail)×Bool)
| ()=>
 ifb (!decide (x1.Phase=1)) (
 some (x1,([]:(List Mail)),false)) (
 loop (Zzl x1) 0)
noncomputable def Z1m:(Diner×(List Mail))→Option (Int ⊕ (Diner×(List Mail)×Bool))
| (x22,x23)=>
 Option.map Sum.inr (some (x22,x23,true))
noncomputable def Z2m:(Diner×(List Mail))→Option (Int ⊕ (Diner×(List Mail)×Bool))
| (x28,x29)=>
 Option.map Sum.inr (some (x28,x29,true))
noncomputable def Z3m (x1:Diner) (x16:Int) (x17:Side):Bool→Option (Int ⊕ (Diner×(List Mail)×Bool))
| x24=>
 ifb x24 (
 (Zfl x1 x16 ((Side.mk x17.Peer x17.Epoch x17.State x17.Fork x17.Dirty false x17.Bottle x17.Ask))).bind fun x25=>
 (Zrl x1 x17 2).bind fun x27=>
 Z2m (x25,[x27])) (
 some (.inl (wr (x16+1))))
noncomputable def Z4m (x1:Diner) (x16:Int) (x17:Side):Bool→Option (Int ⊕ (Diner×(List Mail)×Bool))
| x18=>
 ifb x18 (
 (Zfl x1 x16 ((Side.mk x17.Peer x17.Epoch x17.State false false x17.Token x17.Bottle x17.Ask))).bind fun x19=>
 (Zrl x1 x17 1).bind fun x21=>
 Z1m (x19,[x21])) (
 ifb (!x17.Fork) (
 ifb x17.Token (
 (Z3m x1 x16 x17) (decide (x1.Phase=1))) (
 (Z3m x1 x16 x17) false)) (
 (Z3m x1 x16 x17) false))
noncomputable def Z5m (x1:Diner):Int→Option (Int ⊕ (Diner×(List Mail)×Bool))
| x16=>
 ifb (decide (x16<(ln Side.row x1.Sides))) (
 (at_ x1.Sides x16).bind fun x17=>
 ifb x17.Fork (
 ifb x17.Dirty (
 ifb x17.Token (
 (Z4m x1 x16 x17) (!decide (x1.Phase=2))) (
 (Z4m x1 x16 x17) false)) (
 (Z4m x1 x16 x17) false)) (
 (Z4m x1 x16 x17) false)) (
 Option.map Sum.inr ((Z0m x1) ()))
noncomputable def Z6m (x1:Diner):Option (Diner×(List Mail)×Bool):=
 loop (Z5m x1) 0
theorem Z7m (x1:Diner) (r:(Diner×(List Mail)×Bool)) (h:Z6m x1=some r):Zq2 Tryz.prog 76 [.agg (Diner.row x1)] (.tup [.agg (Diner.row r.1),.sl 5 (List.map Mail.row r.2.1),.bv r.2.2]):=by
 refine Zu2 ok76 rfl rfl fun w0 H0=>?_
 rw [Z6m] at h
 refine Zl2 12 ?_;dsimp only [e76,Zvl,Zul,Ztl,go_sem];refine ⟨by simp,?_⟩;refine Zl4 (fun (_:Unit)=>(⟨(.any :: .ptr 0 0 :: .ptr 1 0::an 107 []),[some ⟨70,[.iv x1.ID,.iv x1.Phase,.sl 8 (List.map Side.row x1.Sides)]⟩,some ⟨70,[.iv 0,.iv 0,.nl]⟩],[]⟩:St)) (Z0m x1) r ?_ fun J1=>?_
 ·rintro ⟨⟩ h;rw [Z0m] at h;(try dsimp only);refine Zl2 7 ?_;dsimp only [e76,Zvl,Zul,Ztl,go_sem];refine ⟨by simp,?_⟩;refine Zn4 h rfl (fun _ h=>?_) fun _ h=>?_
  ·refine Zl2 7 ?_;dsimp only [e76,Zvl,Zul,Ztl,go_sem];refine ⟨by simp,?_⟩;exact Zx4 (res:=fun (r:(Diner×(List Mail)×Bool))=>.tup [.agg (Diner.row r.1),.sl 5 (List.map Mail.row r.2.1),.bv r.2.2]) ok76 h
  ·refine Zl2 6 ?_;dsimp only [e76,Zvl,Zul,Ztl,go_sem];refine ⟨by simp,?_⟩;refine Zl4 (fun (_:Unit)=>(⟨(.any :: .ptr 0 0 :: .ptr 1 0::an 107 []),[some ⟨70,[.iv x1.ID,.iv x1.Phase,.sl 8 (List.map Side.row x1.Sides)]⟩,some ⟨70,[.iv 0,.iv 0,.nl]⟩],[]⟩:St)) (Zyl x1) r ?_ fun J6=>?_
   ·rintro ⟨⟩ h;rw [Zyl] at h;(try dsimp only);refine Zl2 10 ?_;dsimp only [e76,Zvl,Zul,Ztl,go_sem];refine ⟨by simp,?_⟩;refine Zl4 (fun (x52:Diner)=>(⟨(.any :: .ptr 0 0 :: .ptr 1 0::an 107 []),[some ⟨70,[.iv x52.ID,.iv x52.Phase,.sl 8 (List.map Side.row x52.Sides)]⟩,some ⟨70,[.iv 0,.iv 0,.nl]⟩],[]⟩:St)) Zwl r ?_ fun J7=>?_
    ·intro x52 h;rw [Zwl] at h;(try dsimp only);refine Zl2 7 ?_;dsimp only [e76,Zvl,Zul,Ztl,go_sem];refine ⟨by simp,?_⟩;exact Zx4 (res:=fun (r:(Diner×(List Mail)×Bool))=>.tup [.agg (Diner.row r.1),.sl 5 (List.map Mail.row r.2.1),.bv r.2.2]) ok76 h
    ·refine Zl2 1 ?_;dsimp only [e76,Zvl,Zul,Ztl,go_sem];refine ⟨by simp,?_⟩;refine Zm4 h (fun ((x44,x45):(Int×Diner))=>(⟨(.any :: .ptr 0 0 :: .ptr 1 0::an 7 (.iv x44::an 99 [])),[some ⟨70,[.iv x45.ID,.iv x45.Phase,.sl 8 (List.map Side.row x45.Sides)]⟩,some ⟨70,[.iv 0,.iv 0,.nl]⟩],[]⟩:St)) (by simp [go_sem]) (by rintro ⟨x44,x45⟩;first | rfl | simp [go_sem]) ?_;rintro n1 ⟨x44,x45⟩ y1 h hin1 hout1;rw [Zxl] at h;(try dsimp only);refine Zl2 9 ?_;dsimp only [e76,Zvl,Zul,Ztl,go_sem];refine ⟨by simp,?_⟩
     refine Zn4 h rfl (fun _ h=>?_) fun _ h=>?_
     ·refine Zl2 8 ?_;dsimp only [e76,Zvl,Zul,Ztl,go_sem];refine ⟨by simp,?_⟩;obtain ⟨x46,ex46,h⟩:=Option.bind_eq_some_iff.1 h;refine Zq4 Side.row ex46 trivial rfl rfl rfl ?_;refine Zl2 13 ?_;dsimp only [e76,Zvl,Zul,Ztl,go_sem];refine ⟨by simp,?_⟩;obtain ⟨x47,ex47,h⟩:=Option.bind_eq_some_iff.1 h;refine Zz2 trivial (Zgl x45 x44 ((Side.mk x46.Peer x46.Epoch x46.State x46.Fork true x46.Token x46.Bottle x46.Ask)) _ ex47) (h:=?_);refine Zl2 8 ?_;dsimp only [e76,Zvl,Zul,Ztl,go_sem];refine ⟨by simp,?_⟩
      exact Zy4 h hin1
     ·refine Zl2 1 ?_;dsimp only [e76,Zvl,Zul,Ztl,go_sem];refine ⟨by simp,?_⟩;exact Zz4 J7 (s:=x45) (Zk4 h hout1)
   ·refine Zl2 1 ?_;dsimp only [e76,Zvl,Zul,Ztl,go_sem];refine ⟨by simp,?_⟩;refine Zm4 h (fun (x35:Int)=>(⟨(.any :: .ptr 0 0 :: .ptr 1 0::an 6 (.iv x35::an 100 [])),[some ⟨70,[.iv x1.ID,.iv x1.Phase,.sl 8 (List.map Side.row x1.Sides)]⟩,some ⟨70,[.iv 0,.iv 0,.nl]⟩],[]⟩:St)) (by simp [go_sem]) (by intro x35;first | rfl | simp [go_sem]) ?_;rintro n1 x35 y1 h hin1 hout1;rw [Zzl] at h;(try dsimp only);refine Zl2 9 ?_;dsimp only [e76,Zvl,Zul,Ztl,go_sem];refine ⟨by simp,?_⟩
    refine Zn4 h rfl (fun _ h=>?_) fun _ h=>?_
    ·refine Zl2 8 ?_;dsimp only [e76,Zvl,Zul,Ztl,go_sem];refine ⟨by simp,?_⟩;obtain ⟨x36,ex36,h⟩:=Option.bind_eq_some_iff.1 h;refine Zq4 Side.row ex36 trivial rfl rfl rfl ?_;refine Zl2 4 ?_;dsimp only [e76,Zvl,Zul,Ztl,go_sem];refine ⟨by simp,?_⟩;refine Zn4 h rfl (fun _ h=>?_) fun _ h=>?_
     ·refine Zl2 7 ?_;dsimp only [e76,Zvl,Zul,Ztl,go_sem];refine ⟨by simp,?_⟩;exact Zx4 (res:=fun (r:(Diner×(List Mail)×Bool))=>.tup [.agg (Diner.row r.1),.sl 5 (List.map Mail.row r.2.1),.bv r.2.2]) ok76 (Zk4 h hout1)
     ·refine Zl2 7 ?_;dsimp only [e76,Zvl,Zul,Ztl,go_sem];refine ⟨by simp,?_⟩;exact Zy4 h hin1
    ·refine Zl2 1 ?_;dsimp only [e76,Zvl,Zul,Ztl,go_sem];refine ⟨by simp,?_⟩;exact Zz4 J6 (s:=()) (Zk4 h hout1)
 ·refine Zl2 1 ?_;dsimp only [e76,Zvl,Zul,Ztl,go_sem];refine ⟨by simp,?_⟩;refine Zm4 h (fun (x16:Int)=>(⟨(.any :: .ptr 0 0 :: .ptr 1 0 :: .any :: .any :: .iv x16::an 104 []),[some ⟨70,[.iv x1.ID,.iv x1.Phase,.sl 8 (List.map Side.row x1.Sides)]⟩,some ⟨70,[.iv 0,.iv 0,.nl]⟩],[]⟩:St)) (by simp [go_sem]) (by intro x16;first | rfl | simp [go_sem]) ?_;rintro n1 x16 y1 h hin1 hout1;rw [Z5m] at h;(try dsimp only);refine Zl2 9 ?_;dsimp only [e76,Zvl,Zul,Ztl,go_sem];refine ⟨by simp,?_⟩
  refine Zn4 h rfl (fun _ h=>?_) fun _ h=>?_
  ·refine Zl2 8 ?_;dsimp only [e76,Zvl,Zul,Ztl,go_sem];refine ⟨by simp,?_⟩;obtain ⟨x17,ex17,h⟩:=Option.bind_eq_some_iff.1 h;refine Zq4 Side.row ex17 trivial rfl rfl rfl ?_;refine Zl2 10 ?_;dsimp only [e76,Zvl,Zul,Ztl,go_sem];refine ⟨by simp,?_⟩
   refine Zl4 (fun (x18:Bool)=>(⟨(.any :: .ptr 0 0 :: .ptr 1 0 :: .any :: .any :: .iv x16 :: .ptr 2 0::an 31 (.bv x18::an 71 [])),[some ⟨70,[.iv x1.ID,.iv x1.Phase,.sl 8 (List.map Side.row x1.Sides)]⟩,some ⟨70,[.iv 0,.iv 0,.nl]⟩,some ⟨65,[.iv x17.Peer,.iv x17.Epoch,.iv x17.State,.bv x17.Fork,.bv x17.Dirty,.bv x17.Token,.bv x17.Bottle,.bv x17.Ask]⟩],[]⟩:St)) (Z4m x1 x16 x17) y1 ?_ fun J2=>?_
   ·intro x18 h;rw [Z4m] at h;(try dsimp only);refine Zn4 h rfl (fun _ h=>?_) fun _ h=>?_
    ·refine Zl2 14 ?_;dsimp only [e76,Zvl,Zul,Ztl,go_sem];refine ⟨by simp,?_⟩;refine Zl4 (fun ((x22,x23):(Diner×(List Mail)))=>(⟨(.any :: .any :: .ptr 1 0 :: .osl 0 :: .tt::an 105 []),[none,some ⟨70,[.iv x22.ID,.iv x22.Phase,.sl 8 (List.map Side.row x22.Sides)]⟩],[some ⟨78,5,List.map Mail.row x23⟩]⟩:St)) Z1m y1 ?_ fun J3=>?_
     ·rintro ⟨x22,x23⟩ h;rw [Z1m] at h;(try dsimp only);refine Z83 0 rfl ?_;dsimp only [go_sem];exact Zx4 (res:=fun (r:(Diner×(List Mail)×Bool))=>.tup [.agg (Diner.row r.1),.sl 5 (List.map Mail.row r.2.1),.bv r.2.2]) ok76 (Zk4 h hout1)
     ·refine Zh3 (by kernel_rfl) fun all hall hs hnap haf=>?_;dsimp only [go_sem];refine Zh5 hall hs haf hnap 3 8 ?_;dsimp only [go_sem];refine ⟨by simp,?_⟩;obtain ⟨x19,ex19,h⟩:=Option.bind_eq_some_iff.1 h;refine Zv3 3 4 5 rfl ?_ ?_ ?_
      ·refine Zz3 hall rfl trivial (Zgl x1 x16 ((Side.mk x17.Peer x17.Epoch x17.State false false x17.Token x17.Bottle x17.Ask)) _ ex19) (h:=?_);dsimp only [go_sem];refine Zu3 4 5 rfl ?_ ?_
       ·refine Zy3 hall rfl trivial ?_;dsimp only [go_sem];refine Zt3 5 rfl ?_;refine Zy3 hall rfl trivial ?_;dsimp only [go_sem];refine Zt3 6 rfl ?_;obtain ⟨x21,ex21,h⟩:=Option.bind_eq_some_iff.1 h;refine Zz3 hall rfl trivial (Zsl x1 x17 1 _ ex21) (h:=?_);dsimp only [go_sem];refine Zu3 7 8 rfl ?_ ?_
        ·refine Zy3 hall rfl trivial ?_;dsimp only [go_sem];refine Zt3 8 rfl ?_;refine Zy3 hall rfl trivial ?_;dsimp only [go_sem];refine Zh5 hall hs haf hnap 2 0 ?_;dsimp only [go_sem];refine ⟨by simp,?_⟩;refine Zs3 rfl ?_ _;exact Zz4 J3 (s:=(x19,[x21])) h
        ·refine Zy3 hall rfl trivial ?_;dsimp only [go_sem];refine Zt3 7 rfl ?_;refine Zy3 hall rfl trivial ?_;dsimp only [go_sem];refine Zh5 hall hs haf hnap 2 0 ?_;dsimp only [go_sem];refine ⟨by simp,?_⟩;refine Zs3 rfl ?_ _;exact Zz4 J3 (s:=(x19,[x21])) h
       ·refine Zy3 hall rfl trivial ?_;dsimp only [go_sem];refine Zt3 4 rfl ?_;refine Zy3 hall rfl trivial ?_;dsimp only [go_sem];refine Zt3 6 rfl ?_;obtain ⟨x21,ex21,h⟩:=Option.bind_eq_some_iff.1 h;refine Zz3 hall rfl trivial (Zsl x1 x17 1 _ ex21) (h:=?_);dsimp only [go_sem];refine Zu3 7 8 rfl ?_ ?_
        ·refine Zy3 hall rfl trivial ?_;dsimp only [go_sem];refine Zt3 8 rfl ?_;refine Zy3 hall rfl trivial ?_;dsimp only [go_sem];refine Zh5 hall hs haf hnap 2 0 ?_;dsimp only [go_sem];refine ⟨by simp,?_⟩;refine Zs3 rfl ?_ _;exact Zz4 J3 (s:=(x19,[x21])) h
        ·refine Zy3 hall rfl trivial ?_;dsimp only [go_sem];refine Zt3 7 rfl ?_;refine Zy3 hall rfl trivial ?_;dsimp only [go_sem];refine Zh5 hall hs haf hnap 2 0 ?_;dsimp only [go_sem];refine ⟨by simp,?_⟩;refine Zs3 rfl ?_ _;exact Zz4 J3 (s:=(x19,[x21])) h
      ·refine Zy3 hall rfl trivial ?_;dsimp only [go_sem];refine Zu3 3 5 rfl ?_ ?_
       ·refine Zz3 hall rfl trivial (Zgl x1 x16 ((Side.mk x17.Peer x17.Epoch x17.State false false x17.Token x17.Bottle x17.Ask)) _ ex19) (h:=?_);dsimp only [go_sem];refine Zt3 5 rfl ?_;refine Zy3 hall rfl trivial ?_;dsimp only [go_sem];refine Zt3 6 rfl ?_;obtain ⟨x21,ex21,h⟩:=Option.bind_eq_some_iff.1 h;refine Zz3 hall rfl trivial (Zsl x1 x17 1 _ ex21) (h:=?_);dsimp only [go_sem];refine Zu3 7 8 rfl ?_ ?_
        ·refine Zy3 hall rfl trivial ?_;dsimp only [go_sem];refine Zt3 8 rfl ?_;refine Zy3 hall rfl trivial ?_;dsimp only [go_sem];refine Zh5 hall hs haf hnap 2 0 ?_;dsimp only [go_sem];refine ⟨by simp,?_⟩;refine Zs3 rfl ?_ _;exact Zz4 J3 (s:=(x19,[x21])) h
        ·refine Zy3 hall rfl trivial ?_;dsimp only [go_sem];refine Zt3 7 rfl ?_;refine Zy3 hall rfl trivial ?_;dsimp only [go_sem];refine Zh5 hall hs haf hnap 2 0 ?_;dsimp only [go_sem];refine ⟨by simp,?_⟩;refine Zs3 rfl ?_ _;exact Zz4 J3 (s:=(x19,[x21])) h
       ·refine Zy3 hall rfl trivial ?_;dsimp only [go_sem];refine Zt3 3 rfl ?_;refine Zz3 hall rfl trivial (Zgl x1 x16 ((Side.mk x17.Peer x17.Epoch x17.State false false x17.Token x17.Bottle x17.Ask)) _ ex19) (h:=?_);dsimp only [go_sem];refine Zt3 6 rfl ?_;obtain ⟨x21,ex21,h⟩:=Option.bind_eq_some_iff.1 h;refine Zz3 hall rfl trivial (Zsl x1 x17 1 _ ex21) (h:=?_);dsimp only [go_sem];refine Zu3 7 8 rfl ?_ ?_
        ·refine Zy3 hall rfl trivial ?_;dsimp only [go_sem];refine Zt3 8 rfl ?_;refine Zy3 hall rfl trivial ?_;dsimp only [go_sem];refine Zh5 hall hs haf hnap 2 0 ?_;dsimp only [go_sem];refine ⟨by simp,?_⟩;refine Zs3 rfl ?_ _;exact Zz4 J3 (s:=(x19,[x21])) h
        ·refine Zy3 hall rfl trivial ?_;dsimp only [go_sem];refine Zt3 7 rfl ?_;refine Zy3 hall rfl trivial ?_;dsimp only [go_sem];refine Zh5 hall hs haf hnap 2 0 ?_;dsimp only [go_sem];refine ⟨by simp,?_⟩;refine Zs3 rfl ?_ _;exact Zz4 J3 (s:=(x19,[x21])) h
      ·refine Zy3 hall rfl trivial ?_;dsimp only [go_sem];refine Zu3 3 4 rfl ?_ ?_
       ·refine Zz3 hall rfl trivial (Zgl x1 x16 ((Side.mk x17.Peer x17.Epoch x17.State false false x17.Token x17.Bottle x17.Ask)) _ ex19) (h:=?_);dsimp only [go_sem];refine Zt3 4 rfl ?_;refine Zy3 hall rfl trivial ?_;dsimp only [go_sem];refine Zt3 6 rfl ?_;obtain ⟨x21,ex21,h⟩:=Option.bind_eq_some_iff.1 h;refine Zz3 hall rfl trivial (Zsl x1 x17 1 _ ex21) (h:=?_);dsimp only [go_sem];refine Zu3 7 8 rfl ?_ ?_
        ·refine Zy3 hall rfl trivial ?_;dsimp only [go_sem];refine Zt3 8 rfl ?_;refine Zy3 hall rfl trivial ?_;dsimp only [go_sem];refine Zh5 hall hs haf hnap 2 0 ?_;dsimp only [go_sem];refine ⟨by simp,?_⟩;refine Zs3 rfl ?_ _;exact Zz4 J3 (s:=(x19,[x21])) h
        ·refine Zy3 hall rfl trivial ?_;dsimp only [go_sem];refine Zt3 7 rfl ?_;refine Zy3 hall rfl trivial ?_;dsimp only [go_sem];refine Zh5 hall hs haf hnap 2 0 ?_;dsimp only [go_sem];refine ⟨by simp,?_⟩;refine Zs3 rfl ?_ _;exact Zz4 J3 (s:=(x19,[x21])) h
       ·refine Zy3 hall rfl trivial ?_;dsimp only [go_sem];refine Zt3 3 rfl ?_;refine Zz3 hall rfl trivial (Zgl x1 x16 ((Side.mk x17.Peer x17.Epoch x17.State false false x17.Token x17.Bottle x17.Ask)) _ ex19) (h:=?_);dsimp only [go_sem];refine Zt3 6 rfl ?_;obtain ⟨x21,ex21,h⟩:=Option.bind_eq_some_iff.1 h;refine Zz3 hall rfl trivial (Zsl x1 x17 1 _ ex21) (h:=?_);dsimp only [go_sem];refine Zu3 7 8 rfl ?_ ?_
        ·refine Zy3 hall rfl trivial ?_;dsimp only [go_sem];refine Zt3 8 rfl ?_;refine Zy3 hall rfl trivial ?_;dsimp only [go_sem];refine Zh5 hall hs haf hnap 2 0 ?_;dsimp only [go_sem];refine ⟨by simp,?_⟩;refine Zs3 rfl ?_ _;exact Zz4 J3 (s:=(x19,[x21])) h
        ·refine Zy3 hall rfl trivial ?_;dsimp only [go_sem];refine Zt3 7 rfl ?_;refine Zy3 hall rfl trivial ?_;dsimp only [go_sem];refine Zh5 hall hs haf hnap 2 0 ?_;dsimp only [go_sem];refine ⟨by simp,?_⟩;refine Zs3 rfl ?_ _;exact Zz4 J3 (s:=(x19,[x21])) h
    ·refine Zl2 7 ?_;dsimp only [e76,Zvl,Zul,Ztl,go_sem];refine ⟨by simp,?_⟩;refine Zl4 (fun (x24:Bool)=>(⟨(.any :: .ptr 0 0 :: .ptr 1 0 :: .any :: .any :: .iv x16 :: .ptr 2 0::an 54 (.bv x24::an 48 [])),[some ⟨70,[.iv x1.ID,.iv x1.Phase,.sl 8 (List.map Side.row x1.Sides)]⟩,some ⟨70,[.iv 0,.iv 0,.nl]⟩,some ⟨65,[.iv x17.Peer,.iv x17.Epoch,.iv x17.State,.bv x17.Fork,.bv x17.Dirty,.bv x17.Token,.bv x17.Bottle,.bv x17.Ask]⟩],[]⟩:St)) (Z3m x1 x16 x17) y1 ?_ fun J4=>?_
     ·intro x24 h;rw [Z3m] at h;(try dsimp only);refine Zn4 h rfl (fun _ h=>?_) fun _ h=>?_
      ·refine Zl2 12 ?_;dsimp only [e76,Zvl,Zul,Ztl,go_sem];refine ⟨by simp,?_⟩;refine Zl4 (fun ((x28,x29):(Diner×(List Mail)))=>(⟨(.any :: .any :: .ptr 1 0 :: .osl 0 :: .tt::an 105 []),[none,some ⟨70,[.iv x28.ID,.iv x28.Phase,.sl 8 (List.map Side.row x28.Sides)]⟩],[some ⟨78,5,List.map Mail.row x29⟩]⟩:St)) Z2m y1 ?_ fun J5=>?_
       ·rintro ⟨x28,x29⟩ h;rw [Z2m] at h;(try dsimp only);refine Z83 0 rfl ?_;dsimp only [go_sem];exact Zx4 (res:=fun (r:(Diner×(List Mail)×Bool))=>.tup [.agg (Diner.row r.1),.sl 5 (List.map Mail.row r.2.1),.bv r.2.2]) ok76 (Zk4 h hout1)
       ·refine Zh3 (by kernel_rfl) fun all hall hs hnap haf=>?_;dsimp only [go_sem];refine Zh5 hall hs haf hnap 3 8 ?_;dsimp only [go_sem];refine ⟨by simp,?_⟩;obtain ⟨x25,ex25,h⟩:=Option.bind_eq_some_iff.1 h;refine Zv3 3 4 5 rfl ?_ ?_ ?_
        ·refine Zz3 hall rfl trivial (Zgl x1 x16 ((Side.mk x17.Peer x17.Epoch x17.State x17.Fork x17.Dirty false x17.Bottle x17.Ask)) _ ex25) (h:=?_);dsimp only [go_sem];refine Zu3 4 5 rfl ?_ ?_
         ·refine Zy3 hall rfl trivial ?_;dsimp only [go_sem];refine Zt3 5 rfl ?_;refine Zy3 hall rfl trivial ?_;dsimp only [go_sem];refine Zt3 6 rfl ?_;obtain ⟨x27,ex27,h⟩:=Option.bind_eq_some_iff.1 h;refine Zz3 hall rfl trivial (Zsl x1 x17 2 _ ex27) (h:=?_);dsimp only [go_sem];refine Zu3 7 8 rfl ?_ ?_
          ·refine Zy3 hall rfl trivial ?_;dsimp only [go_sem];refine Zt3 8 rfl ?_;refine Zy3 hall rfl trivial ?_;dsimp only [go_sem];refine Zh5 hall hs haf hnap 2 0 ?_;dsimp only [go_sem];refine ⟨by simp,?_⟩;refine Zs3 rfl ?_ _;exact Zz4 J5 (s:=(x25,[x27])) h
          ·refine Zy3 hall rfl trivial ?_;dsimp only [go_sem];refine Zt3 7 rfl ?_;refine Zy3 hall rfl trivial ?_;dsimp only [go_sem];refine Zh5 hall hs haf hnap 2 0 ?_;dsimp only [go_sem];refine ⟨by simp,?_⟩;refine Zs3 rfl ?_ _;exact Zz4 J5 (s:=(x25,[x27])) h
         ·refine Zy3 hall rfl trivial ?_;dsimp only [go_sem];refine Zt3 4 rfl ?_;refine Zy3 hall rfl trivial ?_;dsimp only [go_sem];refine Zt3 6 rfl ?_;obtain ⟨x27,ex27,h⟩:=Option.bind_eq_some_iff.1 h;refine Zz3 hall rfl trivial (Zsl x1 x17 2 _ ex27) (h:=?_);dsimp only [go_sem];refine Zu3 7 8 rfl ?_ ?_
          ·refine Zy3 hall rfl trivial ?_;dsimp only [go_sem];refine Zt3 8 rfl ?_;refine Zy3 hall rfl trivial ?_;dsimp only [go_sem];refine Zh5 hall hs haf hnap 2 0 ?_;dsimp only [go_sem];refine ⟨by simp,?_⟩;refine Zs3 rfl ?_ _;exact Zz4 J5 (s:=(x25,[x27])) h
          ·refine Zy3 hall rfl trivial ?_;dsimp only [go_sem];refine Zt3 7 rfl ?_;refine Zy3 hall rfl trivial ?_;dsimp only [go_sem];refine Zh5 hall hs haf hnap 2 0 ?_;dsimp only [go_sem];refine ⟨by simp,?_⟩;refine Zs3 rfl ?_ _;exact Zz4 J5 (s:=(x25,[x27])) h
        ·refine Zy3 hall rfl trivial ?_;dsimp only [go_sem];refine Zu3 3 5 rfl ?_ ?_
         ·refine Zz3 hall rfl trivial (Zgl x1 x16 ((Side.mk x17.Peer x17.Epoch x17.State x17.Fork x17.Dirty false x17.Bottle x17.Ask)) _ ex25) (h:=?_);dsimp only [go_sem];refine Zt3 5 rfl ?_;refine Zy3 hall rfl trivial ?_;dsimp only [go_sem];refine Zt3 6 rfl ?_;obtain ⟨x27,ex27,h⟩:=Option.bind_eq_some_iff.1 h;refine Zz3 hall rfl trivial (Zsl x1 x17 2 _ ex27) (h:=?_);dsimp only [go_sem];refine Zu3 7 8 rfl ?_ ?_
          ·refine Zy3 hall rfl trivial ?_;dsimp only [go_sem];refine Zt3 8 rfl ?_;refine Zy3 hall rfl trivial ?_;dsimp only [go_sem];refine Zh5 hall hs haf hnap 2 0 ?_;dsimp only [go_sem];refine ⟨by simp,?_⟩;refine Zs3 rfl ?_ _;exact Zz4 J5 (s:=(x25,[x27])) h
          ·refine Zy3 hall rfl trivial ?_;dsimp only [go_sem];refine Zt3 7 rfl ?_;refine Zy3 hall rfl trivial ?_;dsimp only [go_sem];refine Zh5 hall hs haf hnap 2 0 ?_;dsimp only [go_sem];refine ⟨by simp,?_⟩;refine Zs3 rfl ?_ _;exact Zz4 J5 (s:=(x25,[x27])) h
         ·refine Zy3 hall rfl trivial ?_;dsimp only [go_sem];refine Zt3 3 rfl ?_;refine Zz3 hall rfl trivial (Zgl x1 x16 ((Side.mk x17.Peer x17.Epoch x17.State x17.Fork x17.Dirty false x17.Bottle x17.Ask)) _ ex25) (h:=?_);dsimp only [go_sem];refine Zt3 6 rfl ?_;obtain ⟨x27,ex27,h⟩:=Option.bind_eq_some_iff.1 h;refine Zz3 hall rfl trivial (Zsl x1 x17 2 _ ex27) (h:=?_);dsimp only [go_sem];refine Zu3 7 8 rfl ?_ ?_
          ·refine Zy3 hall rfl trivial ?_;dsimp only [go_sem];refine Zt3 8 rfl ?_;refine Zy3 hall rfl trivial ?_;dsimp only [go_sem];refine Zh5 hall hs haf hnap 2 0 ?_;dsimp only [go_sem];refine ⟨by simp,?_⟩;refine Zs3 rfl ?_ _;exact Zz4 J5 (s:=(x25,[x27])) h
          ·refine Zy3 hall rfl trivial ?_;dsimp only [go_sem];refine Zt3 7 rfl ?_;refine Zy3 hall rfl trivial ?_;dsimp only [go_sem];refine Zh5 hall hs haf hnap 2 0 ?_;dsimp only [go_sem];refine ⟨by simp,?_⟩;refine Zs3 rfl ?_ _;exact Zz4 J5 (s:=(x25,[x27])) h
        ·refine Zy3 hall rfl trivial ?_;dsimp only [go_sem];refine Zu3 3 4 rfl ?_ ?_
         ·refine Zz3 hall rfl trivial (Zgl x1 x16 ((Side.mk x17.Peer x17.Epoch x17.State x17.Fork x17.Dirty false x17.Bottle x17.Ask)) _ ex25) (h:=?_);dsimp only [go_sem];refine Zt3 4 rfl ?_;refine Zy3 hall rfl trivial ?_;dsimp only [go_sem];refine Zt3 6 rfl ?_;obtain ⟨x27,ex27,h⟩:=Option.bind_eq_some_iff.1 h;refine Zz3 hall rfl trivial (Zsl x1 x17 2 _ ex27) (h:=?_);dsimp only [go_sem];refine Zu3 7 8 rfl ?_ ?_
          ·refine Zy3 hall rfl trivial ?_;dsimp only [go_sem];refine Zt3 8 rfl ?_;refine Zy3 hall rfl trivial ?_;dsimp only [go_sem];refine Zh5 hall hs haf hnap 2 0 ?_;dsimp only [go_sem];refine ⟨by simp,?_⟩;refine Zs3 rfl ?_ _;exact Zz4 J5 (s:=(x25,[x27])) h
          ·refine Zy3 hall rfl trivial ?_;dsimp only [go_sem];refine Zt3 7 rfl ?_;refine Zy3 hall rfl trivial ?_;dsimp only [go_sem];refine Zh5 hall hs haf hnap 2 0 ?_;dsimp only [go_sem];refine ⟨by simp,?_⟩;refine Zs3 rfl ?_ _;exact Zz4 J5 (s:=(x25,[x27])) h
         ·refine Zy3 hall rfl trivial ?_;dsimp only [go_sem];refine Zt3 3 rfl ?_;refine Zz3 hall rfl trivial (Zgl x1 x16 ((Side.mk x17.Peer x17.Epoch x17.State x17.Fork x17.Dirty false x17.Bottle x17.Ask)) _ ex25) (h:=?_);dsimp only [go_sem];refine Zt3 6 rfl ?_;obtain ⟨x27,ex27,h⟩:=Option.bind_eq_some_iff.1 h;refine Zz3 hall rfl trivial (Zsl x1 x17 2 _ ex27) (h:=?_);dsimp only [go_sem];refine Zu3 7 8 rfl ?_ ?_
          ·refine Zy3 hall rfl trivial ?_;dsimp only [go_sem];refine Zt3 8 rfl ?_;refine Zy3 hall rfl trivial ?_;dsimp only [go_sem];refine Zh5 hall hs haf hnap 2 0 ?_;dsimp only [go_sem];refine ⟨by simp,?_⟩;refine Zs3 rfl ?_ _;exact Zz4 J5 (s:=(x25,[x27])) h
          ·refine Zy3 hall rfl trivial ?_;dsimp only [go_sem];refine Zt3 7 rfl ?_;refine Zy3 hall rfl trivial ?_;dsimp only [go_sem];refine Zh5 hall hs haf hnap 2 0 ?_;dsimp only [go_sem];refine ⟨by simp,?_⟩;refine Zs3 rfl ?_ _;exact Zz4 J5 (s:=(x25,[x27])) h
      ·refine Zl2 7 ?_;dsimp only [e76,Zvl,Zul,Ztl,go_sem];refine ⟨by simp,?_⟩;exact Zy4 h hin1
     ·refine Zw4 53 h rfl (fun _ h=>?_) fun _ h=>?_
      ·dsimp only [go_sem];refine Zl2 4 ?_;dsimp only [e76,Zvl,Zul,Ztl,go_sem];refine ⟨by simp,?_⟩;refine Zw4 57 h rfl (fun _ h=>?_) fun _ h=>?_
       ·dsimp only [go_sem];refine Zl2 5 ?_;dsimp only [e76,Zvl,Zul,Ztl,go_sem];refine ⟨by simp,?_⟩;exact Zz4 J4 (s:=decide (x1.Phase=1)) h
       ·dsimp only [go_sem];refine Zl2 5 ?_;dsimp only [e76,Zvl,Zul,Ztl,go_sem];refine ⟨by simp,?_⟩;exact Zz4 J4 (s:=false) h
      ·dsimp only [go_sem];refine Zl2 9 ?_;dsimp only [e76,Zvl,Zul,Ztl,go_sem];refine ⟨by simp,?_⟩;exact Zz4 J4 (s:=false) h
   ·refine Zw4 26 h rfl (fun _ h=>?_) fun _ h=>?_
    ·dsimp only [go_sem];refine Zl2 4 ?_;dsimp only [e76,Zvl,Zul,Ztl,go_sem];refine ⟨by simp,?_⟩;refine Zw4 30 h rfl (fun _ h=>?_) fun _ h=>?_
     ·dsimp only [go_sem];refine Zl2 4 ?_;dsimp only [e76,Zvl,Zul,Ztl,go_sem];refine ⟨by simp,?_⟩;refine Zw4 34 h rfl (fun _ h=>?_) fun _ h=>?_
      ·dsimp only [go_sem];refine Zl2 5 ?_;dsimp only [e76,Zvl,Zul,Ztl,go_sem];refine ⟨by simp,?_⟩;exact Zz4 J2 (s:=!decide (x1.Phase=2)) h
      ·dsimp only [go_sem];refine Zl2 5 ?_;dsimp only [e76,Zvl,Zul,Ztl,go_sem];refine ⟨by simp,?_⟩;exact Zz4 J2 (s:=false) h
     ·dsimp only [go_sem];refine Zl2 9 ?_;dsimp only [e76,Zvl,Zul,Ztl,go_sem];refine ⟨by simp,?_⟩;exact Zz4 J2 (s:=false) h
    ·dsimp only [go_sem];refine Zl2 13 ?_;dsimp only [e76,Zvl,Zul,Ztl,go_sem];refine ⟨by simp,?_⟩;exact Zz4 J2 (s:=false) h
  ·refine Zl2 1 ?_;dsimp only [e76,Zvl,Zul,Ztl,go_sem];refine ⟨by simp,?_⟩;exact Zz4 J1 (s:=()) (Zk4 h hout1)
set_option maxRecDepth 100000
set_option maxHeartbeats 4000000
def Z8m:EC:=.seq (.seq (.reg [(Qa 15 (.mv (.t 7)))]) (.ite (.t 15) (.skip) (.exit 0))) (.blk 1 (.seq (.reg [(Qa 16 (.loadA 3 (.t 5))),(Qb (.store 3 (.t 1) (.t 16)))]) (.seq (.reg [(Qa 17 (.mv (.t 4))),(Qa 18 (.mv (.t 6))),(Qa 19 (.app 78 5 40 (.t 17) (.t 18))),(Qa 4 (.mv (.t 19)))]) (.reg [(Qa 21 (.loadA 3 (.t 1))),(Qa 22 (.call 76 [(.t 21)])),(Qa 20 (.mv (.t 22))),(Qa 23 (.ext (.t 20) 0)),(Qa 24 (.ext (.t 20) 1)),(Qa 25 (.ext (.t 20) 2)),(Qb (.store 3 (.t 5) (.t 23))),(Qa 6 (.mv (.t 24))),(Qa 7 (.mv (.t 25)))]))))
def e38:EC:=.seq (.reg [(Qa 1 (.box 70 3 (.t 0))),(Qa 2 (.alloc 70 [.iv 0,.iv 0,.nl])),(Qa 3 (.mv (.c .nl)))]) (.seq (.reg [(Qa 8 (.bsl 78 5 0 [.iv 0,.iv 0,.iv 0,.iv 0,.iv 0] [])),(Qa 4 (.mv (.t 8)))]) (.seq (.reg [(Qa 10 (.loadA 3 (.t 1))),(Qa 11 (.call 76 [(.t 10)])),(Qa 9 (.mv (.t 11))),(Qa 12 (.ext (.t 9) 0)),(Qa 13 (.ext (.t 9) 1)),(Qa 14 (.ext (.t 9) 2)),(Qa 5 (.alloc 70 [.iv 0,.iv 0,.nl])),(Qb (.store 3 (.t 5) (.t 12))),(Qa 6 (.mv (.t 13))),(Qa 7 (.mv (.t 14)))]) (.seq (.blk 0 (.loop Z8m)) (.seq (.reg [(Qa 26 (.loadA 3 (.t 1))),(Qa 27 (.mv (.t 4))),(Qb (.store 3 (.t 2) (.t 26))),(Qa 3 (.mv (.t 27)))]) (.ret)))))
theorem ok38:FnOK Tryz.prog 38 Tryz.f38 e38 [.c 2 (some 3),.t 3] 1 27:=⟨by kernel_rfl,⟨_,rfl,by kernel_rfl⟩,by kernel_rfl,by kernel_rfl⟩
noncomputable def Z9m:(Diner×(List Mail))→Option (Diner×(List Mail))
| (x27,x28)=>
 some (x27,x28)
noncomputable def Zam:((List Mail)×Bool×Diner×Diner×(List Mail))→Option (((List Mail)×Bool×Diner×Diner×(List Mail)) ⊕ (Diner×(List Mail)))
| (x10,x11,x12,x13,x14)=>
 ifb x11 (
 (Za4 40 x14 x10).bind fun x15=>
 (Z6m x13).bind fun x16=>
 some (.inl (x16.2.1,x16.2.2,x13,x16.1,x15))) (
 Option.map Sum.inr (Z9m (x12,x14)))
noncomputable def Zbm (x1:Diner):Option (Diner×(List Mail)):=
 (Z6m x1).bind fun x2=>
 loop Zam (x2.2.1,x2.2.2,x1,x2.1,([]:List Mail))
theorem Zcm (x1:Diner) (r:(Diner×(List Mail))) (h:Zbm x1=some r):Zq2 Tryz.prog 38 [.agg (Diner.row x1)] (.tup [.agg (Diner.row r.1),.sl 5 (List.map Mail.row r.2)]):=by
 refine Zu2 ok38 rfl rfl fun w0 H0=>?_
 rw [Zbm] at h
 refine Zl2 14 ?_;dsimp only [e38,Z8m,go_sem];refine ⟨by simp,?_⟩;obtain ⟨x2,ex2,h⟩:=Option.bind_eq_some_iff.1 h;refine Zz2 trivial (Z7m x1 _ ex2) (h:=?_);refine Zl2 10 ?_;dsimp only [e38,Z8m,go_sem];refine ⟨by simp,?_⟩;refine Zl4 (fun ((x27,x28):(Diner×(List Mail)))=>(⟨(.any :: .ptr 0 0 :: .ptr 1 0 :: .any :: .osl 0::an 23 []),[some ⟨70,[.iv x27.ID,.iv x27.Phase,.sl 8 (List.map Side.row x27.Sides)]⟩,some ⟨70,[.iv 0,.iv 0,.nl]⟩],[some ⟨78,5,List.map Mail.row x28⟩]⟩:St)) Z9m r ?_ fun J1=>?_
 ·rintro ⟨x27,x28⟩ h;rw [Z9m] at h;(try dsimp only);refine Zl2 7 ?_;dsimp only [e38,Z8m,go_sem];refine ⟨by simp,?_⟩;refine Z83 0 rfl ?_;dsimp only [go_sem];exact Zx4 (res:=fun (r:(Diner×(List Mail)))=>.tup [.agg (Diner.row r.1),.sl 5 (List.map Mail.row r.2)]) ok38 h
 ·refine Zl2 1 ?_;dsimp only [e38,Z8m,go_sem];refine ⟨by simp,?_⟩
  refine Zm4 h (fun ((x10,x11,x12,x13,x14):((List Mail)×Bool×Diner×Diner×(List Mail)))=>(⟨(.any :: .ptr 0 0 :: .ptr 1 0 :: .any :: .osl 0 :: .ptr 2 0 :: .sl 5 (List.map Mail.row x10) :: .bv x11::an 20 []),[some ⟨70,[.iv x12.ID,.iv x12.Phase,.sl 8 (List.map Side.row x12.Sides)]⟩,some ⟨70,[.iv 0,.iv 0,.nl]⟩,some ⟨70,[.iv x13.ID,.iv x13.Phase,.sl 8 (List.map Side.row x13.Sides)]⟩],[some ⟨78,5,List.map Mail.row x14⟩]⟩:St)) (by simp [go_sem]) (by rintro ⟨x10,x11,x12,x13,x14⟩;first | rfl | simp [go_sem]) ?_
  rintro n1 ⟨x10,x11,x12,x13,x14⟩ y1 h hin1 hout1;rw [Zam] at h;(try dsimp only);refine Zl2 5 ?_;dsimp only [e38,Z8m,go_sem];refine ⟨by simp,?_⟩;refine Zn4 h rfl (fun _ h=>?_) fun _ h=>?_
  ·refine Zl2 11 ?_;dsimp only [e38,Z8m,go_sem];refine ⟨by simp,?_⟩;obtain ⟨x15,ex15,h⟩:=Option.bind_eq_some_iff.1 h;refine Zt4 Mail.row ex15 trivial rfl rfl rfl ?_;refine Zl2 4 ?_;dsimp only [e38,Z8m,go_sem];refine ⟨by simp,?_⟩;obtain ⟨x16,ex16,h⟩:=Option.bind_eq_some_iff.1 h;refine Zz2 trivial (Z7m x13 _ ex16) (h:=?_);refine Zl2 9 ?_;dsimp only [e38,Z8m,go_sem];refine ⟨by simp,?_⟩;refine Z44 1 0 rfl rfl rfl ?_;dsimp only [go_sem];exact Zy4 h hin1
  ·refine Zl2 1 ?_;dsimp only [e38,Z8m,go_sem];refine ⟨by simp,?_⟩;exact Zz4 J1 (s:=(x12,x14)) (Zk4 h hout1)
set_option maxRecDepth 100000
set_option maxHeartbeats 4000000
def Zdm:EC:=.seq (.seq (.reg [(Qa 132 (.mv (.t 21))),(Qa 133 (.fld 0 (.t 4))),(Qa 134 (.load (.t 133))),(Qa 135 (.len (.t 134))),(Qa 136 (.bin .lss (.t 132) (.t 135)))]) (.ite (.t 136) (.skip) (.exit 2))) (.seq (.blk 3 (.seq (.reg [(Qa 139 (.mv (.t 21))),(Qa 140 (.mv (.t 11))),(Qa 141 (.bin .eql (.t 139) (.t 140)))]) (.ite (.t 141) (.reg [(Qa 142 (.fld 0 (.t 20))),(Qa 143 (.load (.t 142))),(Qa 144 (.loadA 3 (.t 12))),(Qa 145 (.bsl 70 3 1 [.iv 0,.iv 0,.nl] [(0,(.t 144))])),(Qa 146 (.app 70 3 40 (.t 143) (.t 145))),(Qa 147 (.fld 0 (.t 20))),(Qb (.store 1 (.t 147) (.t 146)))]) (.drw [(Qa 148 (.fld 0 (.t 20))),(Qa 149 (.load (.t 148))),(Qa 150 (.fld 0 (.t 4))),(Qa 151 (.load (.t 150))),(Qa 152 (.mv (.t 21))),(Qa 153 (.idx 3 (.t 151) (.t 152))),(Qa 154 (.loadA 3 (.t 153))),(Qa 155 (.bsl 70 3 1 [.iv 0,.iv 0,.nl] [(0,(.t 154))])),(Qa 156 (.app 70 3 40 (.t 149) (.t 155))),(Qa 157 (.fld 0 (.t 20))),(Qb (.store 1 (.t 157) (.t 156)))] [[],[0],[],[2],[],[3,4],[5],[6],[1,7],[0,1,2,3,4,5,6,7,8],[9,8,8,0,1,2,3,4,5,6,7,8]] [[1],[0,8],[3],[2,5],[5],[3,4,6],[5,7],[6,8],[1,7,10],[10],[8,9]])))) (.reg [(Qa 137 (.mv (.t 21))),(Qa 138 (.bin .add (.t 137) (.c (.iv 1)))),(Qa 21 (.mv (.t 138)))]))
def Zem:EC:=.seq (.seq (.reg [(Qa 54 (.mv (.t 14))),(Qa 55 (.mv (.t 13))),(Qa 56 (.len (.t 55))),(Qa 57 (.bin .lss (.t 54) (.t 56))),(Qa 58 (.mv (.t 57))),(Qg 59 58 true (.mv (.t 13))),(Qg 60 58 true (.mv (.t 14))),(Qg 61 58 true (.idx 5 (.t 59) (.t 60))),(Qg 62 58 true (.fld 0 (.t 61))),(Qg 63 58 true (.load (.t 62))),(Qg 64 58 true (.mv (.t 2))),(Qg 65 58 true (.bin .neq (.t 63) (.t 64))),(Qg 66 58 true (.mv (.t 65))),(Qg 67 66 false (.mv (.t 13))),(Qg 68 66 false (.mv (.t 14))),(Qg 69 66 false (.idx 5 (.t 67) (.t 68))),(Qg 70 66 false (.fld 1 (.t 69))),(Qg 71 66 false (.load (.t 70))),(Qg 72 66 false (.mv (.t 3))),(Qg 73 66 false (.bin .neq (.t 71) (.t 72))),(Qg 74 58 true (.pick (.t 66) (.c .tt) (.t 73))),(Qa 75 (.pick (.t 58) (.t 74) (.c .ff)))]) (.ite (.t 75) (.skip) (.exit 0))) (.blk 1 (.reg [(Qa 76 (.mv (.t 14))),(Qa 77 (.bin .add (.t 76) (.c (.iv 1)))),(Qa 14 (.mv (.t 77)))]))
def e10:EC:=.seq (.reg [(Qa 4 (.box 25 2 (.t 0))),(Qa 8 (.alloc 25 [.nl,.nl])),(Qa 9 (.mv (.c (.iv 0))))]) (.seq (.reg [(Qa 22 (.build [.nl,.nl] [])),(Qa 10 (.alloc 25 [.nl,.nl])),(Qb (.store 2 (.t 10) (.t 22)))]) (.seq (.seq (.reg [(Qa 23 (.loadA 2 (.t 4))),(Qa 24 (.call 13 [(.t 23)])),(Qa 25 (.not (.t 24)))]) (.ite (.t 25) (.seq (.reg [(Qa 26 (.loadA 2 (.t 10))),(Qb (.store 2 (.t 8) (.t 26))),(Qa 9 (.mv (.c (.iv 142))))]) (.ret)) (.skip))) (.seq (.seq (.reg [(Qa 27 (.loadA 2 (.t 4))),(Qa 28 (.mv (.t 2))),(Qa 29 (.call 36 [(.t 27),(.t 28)])),(Qa 30 (.not (.t 29))),(Qa 31 (.mv (.t 30))),(Qg 32 31 false (.mv (.t 1))),(Qg 33 31 false (.bin .eql (.t 32) (.c (.iv 2)))),(Qg 34 31 false (.mv (.t 33))),(Qg 35 34 true (.loadA 2 (.t 4))),(Qg 36 34 true (.mv (.t 3))),(Qg 37 34 true (.call 36 [(.t 35),(.t 36)])),(Qg 38 34 true (.not (.t 37))),(Qg 39 31 false (.pick (.t 34) (.t 38) (.c .ff))),(Qa 40 (.pick (.t 31) (.c .tt) (.t 39)))]) (.ite (.t 40) (.seq (.reg [(Qa 41 (.loadA 2 (.t 10))),(Qb (.store 2 (.t 8) (.t 41))),(Qa 9 (.mv (.c (.iv 140))))]) (.ret)) (.skip))) (.seq (.reg [(Qa 42 (.mv (.t 2))),(Qa 11 (.mv (.t 42)))]) (.seq (.reg [(Qa 43 (.fld 0 (.t 4))),(Qa 44 (.load (.t 43))),(Qa 45 (.mv (.t 2))),(Qa 46 (.idx 3 (.t 44) (.t 45))),(Qa 47 (.loadA 3 (.t 46))),(Qa 12 (.alloc 70 [.iv 0,.iv 0,.nl])),(Qb (.store 3 (.t 12) (.t 47)))]) (.seq (.reg [(Qa 48 (.bsl 78 5 0 [.iv 0,.iv 0,.iv 0,.iv 0,.iv 0] [])),(Qa 49 (.fld 1 (.t 4))),(Qa 50 (.load (.t 49))),(Qa 51 (.app 78 5 40 (.t 48) (.t 50))),(Qa 13 (.mv (.t 51)))]) (.seq (.seq (.reg [(Qa 52 (.mv (.t 1))),(Qa 53 (.bin .eql (.t 52) (.c (.iv 2))))]) (.ite (.t 53) (.seq (.reg [(Qa 14 (.mv (.c (.iv 0))))]) (.seq (.blk 0 (.loop Zem)) (.seq (.seq (.reg [(Qa 78 (.mv (.t 14))),(Qa 79 (.mv (.t 13))),(Qa 80 (.len (.t 79))),(Qa 81 (.bin .eql (.t 78) (.t 80)))]) (.ite (.t 81) (.seq (.reg [(Qa 82 (.loadA 2 (.t 10))),(Qb (.store 2 (.t 8) (.t 82))),(Qa 9 (.mv (.c (.iv 141))))]) (.ret)) (.skip))) (.seq (.reg [(Qa 83 (.mv (.t 3))),(Qa 11 (.mv (.t 83)))]) (.seq (.drw [(Qa 85 (.fld 0 (.t 4))),(Qa 86 (.load (.t 85))),(Qa 87 (.mv (.t 3))),(Qa 88 (.idx 3 (.t 86) (.t 87))),(Qa 89 (.loadA 3 (.t 88))),(Qa 90 (.mv (.t 2))),(Qa 91 (.mv (.t 13))),(Qa 92 (.mv (.t 14))),(Qa 93 (.idx 5 (.t 91) (.t 92))),(Qa 94 (.fld 2 (.t 93))),(Qa 95 (.loadA 3 (.t 94))),(Qa 96 (.call 37 [(.t 89),(.t 90),(.t 95)])),(Qa 84 (.mv (.t 96))),(Qa 97 (.ext (.t 84) 0)),(Qa 98 (.ext (.t 84) 1)),(Qa 15 (.alloc 70 [.iv 0,.iv 0,.nl])),(Qb (.store 3 (.t 15) (.t 97))),(Qa 16 (.mv (.t 98)))] [[],[0],[],[1,2],[3],[],[],[],[6,7],[8],[9],[4,5,10],[11],[12],[12],[],[15,13,11,0,1,2,3,4,5,6,7,8,9,10,11,12,13,15],[14,16,0,1,2,3,4,5,6,7,8,9,10,11,12,13,14,15,16]] [[1],[0,3],[3],[1,2,4],[3,11],[11],[8],[8],[6,7,9],[8,10],[9,11],[4,5,10,12],[11,13,14],[12,16],[12,17],[16],[13,15],[14]]) (.seq (.seq (.reg [(Qa 99 (.mv (.t 16))),(Qa 100 (.bin .neq (.t 99) (.c (.iv 0))))]) (.ite (.t 100) (.seq (.reg [(Qa 101 (.loadA 2 (.t 10))),(Qa 102 (.mv (.t 16))),(Qb (.store 2 (.t 8) (.t 101))),(Qa 9 (.mv (.t 102)))]) (.ret)) (.skip))) (.seq (.reg [(Qa 103 (.loadA 3 (.t 15))),(Qb (.store 3 (.t 12) (.t 103)))]) (.drw [(Qa 104 (.bsl 78 5 0 [.iv 0,.iv 0,.iv 0,.iv 0,.iv 0] [])),(Qa 105 (.mv (.t 13))),(Qa 106 (.mv (.t 14))),(Qa 107 (.slice 5 (.t 105) none (some (.t 106)))),(Qa 108 (.app 78 5 40 (.t 104) (.t 107))),(Qa 109 (.mv (.t 13))),(Qa 110 (.mv (.t 14))),(Qa 111 (.bin .add (.t 110) (.c (.iv 1)))),(Qa 112 (.slice 5 (.t 109) (some (.t 111)) none)),(Qa 113 (.app 78 5 40 (.t 108) (.t 112))),(Qa 13 (.mv (.t 113)))] [[],[],[],[1,2],[0,3],[],[],[6],[5,7],[4,8,4],[9,9,0,1,2,3,4,5,6,7,8,9]] [[4],[3,10],[3],[1,2,4],[0,3,9],[8,10],[7],[6,8],[5,7,9],[4,8,10],[1,5,9]])))))))) (.seq (.reg [(Qa 17 (.mv (.c (.iv 0)))),(Qa 18 (.mv (.c (.iv 1))))]) (.seq (.seq (.reg [(Qa 114 (.mv (.t 1))),(Qa 115 (.bin .eql (.t 114) (.c (.iv 1))))]) (.ite (.t 115) (.reg [(Qa 17 (.mv (.c (.iv 2)))),(Qa 18 (.mv (.c (.iv 0))))]) (.skip))) (.seq (.seq (.reg [(Qa 116 (.fld 1 (.t 12))),(Qa 117 (.load (.t 116))),(Qa 118 (.mv (.t 17))),(Qa 119 (.bin .neq (.t 117) (.t 118)))]) (.ite (.t 119) (.seq (.reg [(Qa 120 (.loadA 2 (.t 10))),(Qb (.store 2 (.t 8) (.t 120))),(Qa 9 (.mv (.c (.iv 134))))]) (.ret)) (.skip))) (.reg [(Qa 121 (.mv (.t 18))),(Qa 122 (.fld 1 (.t 12))),(Qb (.store 1 (.t 122) (.t 121)))])))))) (.seq (.reg [(Qa 124 (.loadA 3 (.t 12))),(Qa 125 (.call 38 [(.t 124)])),(Qa 123 (.mv (.t 125))),(Qa 126 (.ext (.t 123) 0)),(Qa 127 (.ext (.t 123) 1)),(Qb (.store 3 (.t 12) (.t 126))),(Qa 19 (.mv (.t 127)))]) (.seq (.reg [(Qa 128 (.mv (.t 13))),(Qa 129 (.mv (.t 19))),(Qa 130 (.app 78 5 40 (.t 128) (.t 129))),(Qa 131 (.build [.nl,.nl] [(1,1,(.t 130))])),(Qa 20 (.alloc 25 [.nl,.nl])),(Qb (.store 2 (.t 20) (.t 131)))]) (.seq (.seq (.reg [(Qa 21 (.mv (.c (.iv 0))))]) (.blk 2 (.loop Zdm))) (.seq (.reg [(Qa 158 (.loadA 2 (.t 20))),(Qb (.store 2 (.t 8) (.t 158))),(Qa 9 (.mv (.c (.iv 0))))]) (.ret))))))))))))
theorem ok10:FnOK Tryz.prog 10 Tryz.f10 e10 [.c 8 (some 2),.t 9] 4 155:=⟨by kernel_rfl,⟨_,rfl,by kernel_rfl⟩,by kernel_rfl,by kernel_rfl⟩
noncomputable def Zfm (x44:(List Mail)):(List Diner)→Option (Scene×Int)
| x65=>
 some ((Scene.mk x65 x44),0)
noncomputable def Zgm (x51:Int):(List Diner)→Option ((Int×(List Diner)) ⊕ (Scene×Int))
| x56=>
 some (.inl (wr (x51+1),x56))
noncomputable def Zhm (x1:Scene) (x40:Int) (x43:(Diner×(List Mail))) (x44:(List Mail)):(Int×(List Diner))→Option ((Int×(List Diner)) ⊕ (Scene×Int))
| (x51,x52)=>
 ifb (decide (x51<(ln Diner.row x1.Diners))) (
 ifb (decide (x51=x40)) (
 (Za4 40 x52 ([x43.1])).bind fun x53=>
 (Zgm x51) x53) (
 (at_ x1.Diners x51).bind fun x54=>
 (Za4 40 x52 ([x54])).bind fun x55=>
 (Zgm x51) x55)) (
 Option.map Sum.inr ((Zfm x44) x52))
noncomputable def Zim (x1:Scene):(Int×Diner×(List Mail))→Option (Scene×Int)
| (x40,x41,x42)=>
 (Zbm x41).bind fun x43=>
 (Za4 40 x42 x43.2).bind fun x44=>
 loop (Zhm x1 x40 x43 x44) (0,([]:List Diner))
noncomputable def Zjm (x1:Scene) (x4:Int) (x10:(List Mail)) (x24:Int):(Int×Diner)→Option (Scene×Int)
| (x29,x30)=>
 ifb (!decide (x29=0)) (
 some ((Scene.mk (([]:(List Diner))) (([]:(List Mail)))),x29)) (
 (sub_ x10 0 x24).bind fun x31=>
 (sub_ x10 (wr (x24+1)) (ln Mail.row x10)).bind fun x32=>
 (Za4 40 (([]:List Mail)) x31).bind fun x34=>
 (Za4 40 x34 x32).bind fun x37=>
 (Zim x1) (x4,x30,x37))
noncomputable def Zkm (x1:Scene) (x3:Int) (x4:Int) (x10:(List Mail)):Int→Option (Scene×Int)
| x24=>
 ifb (decide (x24=(ln Mail.row x10))) (
 some ((Scene.mk (([]:(List Diner))) (([]:(List Mail)))),141)) (
 (at_ x1.Diners x4).bind fun x25=>
 (at_ x10 x24).bind fun x26=>
 (Zpl x25 x3 x26.Msg).bind fun x27=>
 (Zjm x1 x4 x10 x24) (x27.2,x27.1))
noncomputable def Zlm (x1:Scene) (x3:Int) (x4:Int) (x10:(List Mail)) (x14:Int):Bool→Option (Int ⊕ (Scene×Int))
| x16=>
 ifb x16 (
 some (.inl (wr (x14+1)))) (
 Option.map Sum.inr ((Zkm x1 x3 x4 x10) x14))
noncomputable def Zmm (x1:Scene) (x3:Int) (x4:Int) (x10:(List Mail)):Int→Option (Int ⊕ (Scene×Int))
| x14=>
 ifb (decide (x14<(ln Mail.row x10))) (
 (at_ x10 x14).bind fun x15=>
 ifb (!decide (x15.From=x3)) (
 (Zlm x1 x3 x4 x10 x14) true) (
 (Zlm x1 x3 x4 x10 x14) (!decide (x15.To=x4)))) (
 (Zlm x1 x3 x4 x10 x14) false)
noncomputable def Znm (x1:Scene) (x3:Int) (x9:Diner) (x10:(List Mail)):(Int×Int)→Option (Scene×Int)
| (x38,x39)=>
 ifb (!decide (x9.Phase=x38)) (
 some ((Scene.mk (([]:(List Diner))) (([]:(List Mail)))),134)) (
 (Zim x1) (x3,(Diner.mk x9.ID x39 x9.Sides),x10))
noncomputable def Zom (x1:Scene) (x2:Int) (x3:Int) (x4:Int):Bool→Option (Scene×Int)
| x8=>
 ifb x8 (
 some ((Scene.mk (([]:(List Diner))) (([]:(List Mail)))),140)) (
 (at_ x1.Diners x3).bind fun x9=>
 (Za4 40 (([]:List Mail)) x1.Mail).bind fun x10=>
 ifb (decide (x2=2)) (
 loop (Zmm x1 x3 x4 x10) 0) (
 ifb (decide (x2=1)) (
 (Znm x1 x3 x9 x10) (2,0)) (
 (Znm x1 x3 x9 x10) (0,1))))
noncomputable def Zpm (x1:Scene) (x2:Int) (x3:Int) (x4:Int):Option (Scene×Int):=
 (Zdl x1).bind fun x5=>
 ifb (!x5) (
 some ((Scene.mk (([]:(List Diner))) (([]:(List Mail)))),142)) (
 (Z3l x1 x3).bind fun x6=>
 ifb (!x6) (
 (Zom x1 x2 x3 x4) true) (
 ifb (decide (x2=2)) (
 (Z3l x1 x4).bind fun x7=>
 (Zom x1 x2 x3 x4) (!x7)) (
 (Zom x1 x2 x3 x4) false)))
theorem Zqm (x1:Scene) (x2:Int) (x3:Int) (x4:Int) (r:(Scene×Int)) (h:Zpm x1 x2 x3 x4=some r):Zq2 Tryz.prog 10 [.agg (Scene.row x1),.iv x2,.iv x3,.iv x4] (.tup [.agg (Scene.row r.1),.iv r.2]):=by
 refine Zu2 ok10 rfl rfl fun w0 H0=>?_
 rw [Zpm] at h
 refine Zl2 16 ?_;dsimp only [e10,Zem,Zdm,go_sem];refine ⟨by simp,?_⟩;obtain ⟨x5,ex5,h⟩:=Option.bind_eq_some_iff.1 h;refine Zz2 trivial (Zel x1 _ ex5) (h:=?_);refine Zl2 2 ?_;dsimp only [e10,Zem,Zdm,go_sem];refine ⟨by simp,?_⟩;refine Zn4 h rfl (fun _ h=>?_) fun _ h=>?_
 ·refine Zl2 6 ?_;dsimp only [e10,Zem,Zdm,go_sem];refine ⟨by simp,?_⟩;exact Zx4 (res:=fun (r:(Scene×Int))=>.tup [.agg (Scene.row r.1),.iv r.2]) ok10 h
 ·refine Zl2 6 ?_;dsimp only [e10,Zem,Zdm,go_sem];refine ⟨by simp,?_⟩;obtain ⟨x6,ex6,h⟩:=Option.bind_eq_some_iff.1 h;refine Zz2 trivial (Z4l x1 x3 _ ex6) (h:=?_);refine Zl2 2 ?_;dsimp only [e10,Zem,Zdm,go_sem];refine ⟨by simp,?_⟩
  refine Zl4 (fun (x8:Bool)=>(⟨(.any :: .iv x2 :: .iv x3 :: .iv x4 :: .ptr 0 0::an 3 (.ptr 1 0 :: .any :: .ptr 2 0::an 29 (.bv x8::an 118 []))),[some ⟨25,[.sl 3 (List.map Diner.row x1.Diners),.sl 5 (List.map Mail.row x1.Mail)]⟩,some ⟨25,[.nl,.nl]⟩,some ⟨25,[.nl,.nl]⟩],[]⟩:St)) (Zom x1 x2 x3 x4) r ?_ fun J1=>?_
  ·intro x8 h;rw [Zom] at h;(try dsimp only);refine Zn4 h rfl (fun _ h=>?_) fun _ h=>?_
   ·refine Zl2 6 ?_;dsimp only [e10,Zem,Zdm,go_sem];refine ⟨by simp,?_⟩;exact Zx4 (res:=fun (r:(Scene×Int))=>.tup [.agg (Scene.row r.1),.iv r.2]) ok10 h
   ·refine Zl2 11 ?_;dsimp only [e10,Zem,Zdm,go_sem];refine ⟨by simp,?_⟩;obtain ⟨x9,ex9,h⟩:=Option.bind_eq_some_iff.1 h;refine Zq4 Diner.row ex9 trivial rfl rfl rfl ?_;refine Zl2 9 ?_;dsimp only [e10,Zem,Zdm,go_sem];refine ⟨by simp,?_⟩;obtain ⟨x10,ex10,h⟩:=Option.bind_eq_some_iff.1 h;refine Zt4 Mail.row ex10 trivial rfl rfl rfl ?_;refine Zl2 8 ?_;dsimp only [e10,Zem,Zdm,go_sem];refine ⟨by simp,?_⟩
    refine Zl4 (fun ((x40,x41,x42):(Int×Diner×(List Mail)))=>(⟨(an 4 (.ptr 0 0::an 3 (.ptr 1 0 :: .any :: .any :: .iv x40 :: .ptr 3 0 :: .osl 1::an 145 []))),[some ⟨25,[.sl 3 (List.map Diner.row x1.Diners),.sl 5 (List.map Mail.row x1.Mail)]⟩,some ⟨25,[.nl,.nl]⟩,none,some ⟨70,[.iv x41.ID,.iv x41.Phase,.sl 8 (List.map Side.row x41.Sides)]⟩],[none,some ⟨78,5,List.map Mail.row x42⟩]⟩:St)) (Zim x1) r ?_ fun J2=>?_
    ·rintro ⟨x40,x41,x42⟩ h;rw [Zim] at h;(try dsimp only);refine Zl2 3 ?_;dsimp only [e10,Zem,Zdm,go_sem];refine ⟨by simp,?_⟩;obtain ⟨x43,ex43,h⟩:=Option.bind_eq_some_iff.1 h;refine Zz2 trivial (Zcm x41 _ ex43) (h:=?_);refine Zl2 10 ?_;dsimp only [e10,Zem,Zdm,go_sem];refine ⟨by simp,?_⟩;obtain ⟨x44,ex44,h⟩:=Option.bind_eq_some_iff.1 h;refine Zt4 Mail.row ex44 trivial rfl rfl rfl ?_;refine Zl2 9 ?_;dsimp only [e10,Zem,Zdm,go_sem];refine ⟨by simp,?_⟩
     refine Zl4 (fun (x65:(List Diner))=>(⟨(an 8 (.ptr 1 0::an 11 (.ptr 4 0::an 138 []))),[none,some ⟨25,[.nl,.nl]⟩,none,none,some ⟨25,[.osl 3,.osl 2]⟩],[none,none,some ⟨78,5,List.map Mail.row x44⟩,some ⟨70,3,List.map Diner.row x65⟩]⟩:St)) (Zfm x44) r ?_ fun J7=>?_
     ·intro x65 h;rw [Zfm] at h;(try dsimp only);refine Zl2 6 ?_;dsimp only [e10,Zem,Zdm,go_sem];refine ⟨by simp,?_⟩;refine Z83 3 rfl ?_;dsimp only [go_sem];refine Z83 2 rfl ?_;dsimp only [go_sem];exact Zx4 (res:=fun (r:(Scene×Int))=>.tup [.agg (Scene.row r.1),.iv r.2]) ok10 h
     ·refine Zl2 1 ?_;dsimp only [e10,Zem,Zdm,go_sem];refine ⟨by simp,?_⟩;refine V_ownB 4 0 70 3 rfl rfl rfl ?_;dsimp only [go_sem]
      refine Zm4 h (fun ((x51,x52):(Int×(List Diner)))=>(⟨(an 4 (.ptr 0 0::an 3 (.ptr 1 0 :: .any :: .any :: .iv x40 :: .ptr 3 0::an 7 (.ptr 4 0 :: .iv x51::an 137 [])))),[some ⟨25,[.sl 3 (List.map Diner.row x1.Diners),.sl 5 (List.map Mail.row x1.Mail)]⟩,some ⟨25,[.nl,.nl]⟩,none,some ⟨70,[.iv x43.1.ID,.iv x43.1.Phase,.sl 8 (List.map Side.row x43.1.Sides)]⟩,some ⟨25,[.osl 3,.osl 2]⟩],[none,none,some ⟨78,5,List.map Mail.row x44⟩,some ⟨70,3,List.map Diner.row x52⟩]⟩:St)) (by simp [go_sem]) (by rintro ⟨x51,x52⟩;first | rfl | simp [go_sem]) ?_
      rintro n1 ⟨x51,x52⟩ y1 h hin1 hout1;rw [Zhm] at h;(try dsimp only);refine Zl2 9 ?_;dsimp only [e10,Zem,Zdm,go_sem];refine ⟨by simp,?_⟩;refine Zn4 h rfl (fun _ h=>?_) fun _ h=>?_
      ·refine Zl2 9 ?_;dsimp only [e10,Zem,Zdm,go_sem];refine ⟨by simp,?_⟩
       refine Zl4 (fun (x56:(List Diner))=>(⟨(an 4 (.ptr 0 0::an 3 (.ptr 1 0 :: .any :: .any :: .iv x40 :: .ptr 3 0::an 7 (.ptr 4 0 :: .iv x51::an 137 [])))),[some ⟨25,[.sl 3 (List.map Diner.row x1.Diners),.sl 5 (List.map Mail.row x1.Mail)]⟩,some ⟨25,[.nl,.nl]⟩,none,some ⟨70,[.iv x43.1.ID,.iv x43.1.Phase,.sl 8 (List.map Side.row x43.1.Sides)]⟩,some ⟨25,[.osl 5,.osl 2]⟩],[none,none,some ⟨78,5,List.map Mail.row x44⟩,none,none,some ⟨70,3,List.map Diner.row x56⟩]⟩:St)) (Zgm x51) y1 ?_ fun J8=>?_
       ·intro x56 h;rw [Zgm] at h;(try dsimp only);refine Zl2 6 ?_;dsimp only [e10,Zem,Zdm,go_sem];refine ⟨by simp,?_⟩;refine Z44 5 3 rfl rfl rfl ?_;dsimp only [go_sem];exact Zy4 h hin1
       ·refine Zn4 h rfl (fun _ h=>?_) fun _ h=>?_
        ·refine Zl2 5 ?_;dsimp only [e10,Zem,Zdm,go_sem];refine ⟨by simp,?_⟩;obtain ⟨x53,ex53,h⟩:=Option.bind_eq_some_iff.1 h;refine Zt4 Diner.row ex53 trivial rfl rfl rfl ?_;refine Zl2 3 ?_;dsimp only [e10,Zem,Zdm,go_sem];refine ⟨by simp,?_⟩;exact Zz4 J8 (s:=x53) h
        ·refine Zh3 (by kernel_rfl) fun all hall hs hnap haf=>?_;dsimp only [go_sem];refine Zh5 hall hs haf hnap 4 7 ?_;dsimp only [go_sem];refine ⟨by simp,?_⟩;obtain ⟨x54,ex54,h⟩:=Option.bind_eq_some_iff.1 h;refine Zr4 hall hs haf hnap 5 Diner.row ex54 rfl rfl trivial rfl rfl rfl rfl ?_;refine Zh5 hall hs haf hnap 1 5 ?_;dsimp only [go_sem];refine ⟨by simp,?_⟩;refine Zu3 1 7 rfl ?_ ?_
         ·refine Zy3 hall rfl trivial ?_;dsimp only [go_sem];refine Zt3 7 rfl ?_;refine Zy3 hall rfl trivial ?_;dsimp only [go_sem];refine Zt3 8 rfl ?_;obtain ⟨x55,ex55,h⟩:=Option.bind_eq_some_iff.1 h;refine Zu4 Diner.row ex55 hall rfl trivial rfl rfl rfl ?_;dsimp only [go_sem];refine Zh5 hall hs haf hnap 1 1 ?_;dsimp only [go_sem];refine ⟨by simp,?_⟩;refine Zt3 10 rfl ?_;refine Zy3 hall rfl trivial ?_;dsimp only [go_sem];refine Zs3 rfl ?_ _;exact Zz4 J8 (s:=x55) h
         ·refine Zy3 hall rfl trivial ?_;dsimp only [go_sem];refine Zt3 1 rfl ?_;refine Zy3 hall rfl trivial ?_;dsimp only [go_sem];refine Zt3 8 rfl ?_;obtain ⟨x55,ex55,h⟩:=Option.bind_eq_some_iff.1 h;refine Zu4 Diner.row ex55 hall rfl trivial rfl rfl rfl ?_;dsimp only [go_sem];refine Zh5 hall hs haf hnap 1 1 ?_;dsimp only [go_sem];refine ⟨by simp,?_⟩;refine Zt3 10 rfl ?_;refine Zy3 hall rfl trivial ?_;dsimp only [go_sem];refine Zs3 rfl ?_ _;exact Zz4 J8 (s:=x55) h
      ·refine Zl2 1 ?_;dsimp only [e10,Zem,Zdm,go_sem];refine ⟨by simp,?_⟩;exact Zz4 J7 (s:=x52) (Zk4 h hout1)
    ·refine Zn4 h rfl (fun _ h=>?_) fun _ h=>?_
     ·refine Zl2 5 ?_;dsimp only [e10,Zem,Zdm,go_sem];refine ⟨by simp,?_⟩;refine Zl4 (fun (x24:Int)=>(⟨(.any :: .any :: .iv x3 :: .iv x4 :: .ptr 0 0::an 3 (.ptr 1 0 :: .any :: .ptr 2 0 :: .any :: .ptr 3 0 :: .osl 1 :: .iv x24::an 144 [])),[some ⟨25,[.sl 3 (List.map Diner.row x1.Diners),.sl 5 (List.map Mail.row x1.Mail)]⟩,some ⟨25,[.nl,.nl]⟩,some ⟨25,[.nl,.nl]⟩,some ⟨70,[.iv x9.ID,.iv x9.Phase,.sl 8 (List.map Side.row x9.Sides)]⟩],[none,some ⟨78,5,List.map Mail.row x10⟩]⟩:St)) (Zkm x1 x3 x4 x10) r ?_ fun J3=>?_
      ·intro x24 h;rw [Zkm] at h;(try dsimp only);refine Zl2 8 ?_;dsimp only [e10,Zem,Zdm,go_sem];refine ⟨by simp,?_⟩;refine Zn4 h rfl (fun _ h=>?_) fun _ h=>?_
       ·refine Zl2 6 ?_;dsimp only [e10,Zem,Zdm,go_sem];refine ⟨by simp,?_⟩;exact Zx4 (res:=fun (r:(Scene×Int))=>.tup [.agg (Scene.row r.1),.iv r.2]) ok10 h
       ·refine Zl2 7 ?_;dsimp only [e10,Zem,Zdm,go_sem];refine ⟨by simp,?_⟩
        refine Zl4 (fun ((x29,x30):(Int×Diner))=>(⟨(an 4 (.ptr 0 0::an 3 (.ptr 1 0 :: .any :: .ptr 2 0 :: .iv x4 :: .ptr 3 0 :: .osl 1 :: .iv x24 :: .ptr 4 0 :: .iv x29::an 142 []))),[some ⟨25,[.sl 3 (List.map Diner.row x1.Diners),.sl 5 (List.map Mail.row x1.Mail)]⟩,some ⟨25,[.nl,.nl]⟩,some ⟨25,[.nl,.nl]⟩,some ⟨70,[.iv x9.ID,.iv x9.Phase,.sl 8 (List.map Side.row x9.Sides)]⟩,some ⟨70,[.iv x30.ID,.iv x30.Phase,.sl 8 (List.map Side.row x30.Sides)]⟩],[none,some ⟨78,5,List.map Mail.row x10⟩]⟩:St)) (Zjm x1 x4 x10 x24) r ?_ fun J5=>?_
        ·rintro ⟨x29,x30⟩ h;rw [Zjm] at h;(try dsimp only);refine Zl2 6 ?_;dsimp only [e10,Zem,Zdm,go_sem];refine ⟨by simp,?_⟩;refine Zn4 h rfl (fun _ h=>?_) fun _ h=>?_
         ·refine Zl2 7 ?_;dsimp only [e10,Zem,Zdm,go_sem];refine ⟨by simp,?_⟩;exact Zx4 (res:=fun (r:(Scene×Int))=>.tup [.agg (Scene.row r.1),.iv r.2]) ok10 h
         ·refine Zl2 6 ?_;dsimp only [e10,Zem,Zdm,go_sem];refine ⟨by simp,?_⟩;refine Z83 1 rfl ?_;dsimp only [go_sem];refine Zh3 (by kernel_rfl) fun all hall hs hnap haf=>?_;dsimp only [go_sem];refine Zh5 hall hs haf hnap 5 6 ?_;dsimp only [go_sem];refine ⟨by simp,?_⟩;obtain ⟨x31,ex31,h⟩:=Option.bind_eq_some_iff.1 h;obtain ⟨x32,ex32,h⟩:=Option.bind_eq_some_iff.1 h;refine Zv3 0 3 8 rfl ?_ ?_ ?_
          ·refine Zy3 hall rfl trivial ?_;dsimp only [go_sem];refine Zu3 3 8 rfl ?_ ?_
           ·refine Zb5 Mail.row ex31 hall rfl trivial rfl rfl rfl rfl ?_;dsimp only [go_sem];obtain ⟨x34,ex34,h⟩:=Option.bind_eq_some_iff.1 h;refine Zu3 4 8 rfl ?_ ?_
            ·refine Zu4 Mail.row ex34 hall rfl trivial rfl rfl rfl ?_;dsimp only [go_sem];refine Zt3 8 rfl ?_;refine Zb5 Mail.row ex32 hall rfl trivial rfl rfl rfl rfl ?_;dsimp only [go_sem];refine Zt3 9 rfl ?_;obtain ⟨x37,ex37,h⟩:=Option.bind_eq_some_iff.1 h;refine Zu4 Mail.row ex37 hall rfl trivial rfl rfl rfl ?_;dsimp only [go_sem];refine Zh5 hall hs haf hnap 1 0 ?_;dsimp only [go_sem];refine ⟨by simp,?_⟩;refine Zs3 rfl ?_ _;refine Z44 4 1 rfl rfl rfl ?_;dsimp only [go_sem];exact Zz4 J2 (s:=(x4,x30,x37)) h
            ·refine Zb5 Mail.row ex32 hall rfl trivial rfl rfl rfl rfl ?_;dsimp only [go_sem];refine Zt3 4 rfl ?_;refine Zu4 Mail.row ex34 hall rfl trivial rfl rfl rfl ?_;dsimp only [go_sem];refine Zt3 9 rfl ?_;obtain ⟨x37,ex37,h⟩:=Option.bind_eq_some_iff.1 h;refine Zu4 Mail.row ex37 hall rfl trivial rfl rfl rfl ?_;dsimp only [go_sem];refine Zh5 hall hs haf hnap 1 0 ?_;dsimp only [go_sem];refine ⟨by simp,?_⟩;refine Zs3 rfl ?_ _;refine Z44 4 1 rfl rfl rfl ?_;dsimp only [go_sem];exact Zz4 J2 (s:=(x4,x30,x37)) h
           ·refine Zb5 Mail.row ex32 hall rfl trivial rfl rfl rfl rfl ?_;dsimp only [go_sem];refine Zt3 3 rfl ?_;refine Zb5 Mail.row ex31 hall rfl trivial rfl rfl rfl rfl ?_;dsimp only [go_sem];refine Zt3 4 rfl ?_;obtain ⟨x35,ex35,h⟩:=Option.bind_eq_some_iff.1 h;refine Zu4 Mail.row ex35 hall rfl trivial rfl rfl rfl ?_;dsimp only [go_sem];refine Zt3 9 rfl ?_;obtain ⟨x36,ex36,h⟩:=Option.bind_eq_some_iff.1 h;refine Zu4 Mail.row ex36 hall rfl trivial rfl rfl rfl ?_;dsimp only [go_sem];refine Zh5 hall hs haf hnap 1 0 ?_;dsimp only [go_sem]
            refine ⟨by simp,?_⟩;refine Zs3 rfl ?_ _;refine Z44 4 1 rfl rfl rfl ?_;dsimp only [go_sem];exact Zz4 J2 (s:=(x4,x30,x36)) h
          ·refine Zb5 Mail.row ex31 hall rfl trivial rfl rfl rfl rfl ?_;dsimp only [go_sem];refine Zu3 0 8 rfl ?_ ?_
           ·refine Zy3 hall rfl trivial ?_;dsimp only [go_sem];obtain ⟨x34,ex34,h⟩:=Option.bind_eq_some_iff.1 h;refine Zu3 4 8 rfl ?_ ?_
            ·refine Zu4 Mail.row ex34 hall rfl trivial rfl rfl rfl ?_;dsimp only [go_sem];refine Zt3 8 rfl ?_;refine Zb5 Mail.row ex32 hall rfl trivial rfl rfl rfl rfl ?_;dsimp only [go_sem];refine Zt3 9 rfl ?_;obtain ⟨x37,ex37,h⟩:=Option.bind_eq_some_iff.1 h;refine Zu4 Mail.row ex37 hall rfl trivial rfl rfl rfl ?_;dsimp only [go_sem];refine Zh5 hall hs haf hnap 1 0 ?_;dsimp only [go_sem];refine ⟨by simp,?_⟩;refine Zs3 rfl ?_ _;refine Z44 4 1 rfl rfl rfl ?_;dsimp only [go_sem];exact Zz4 J2 (s:=(x4,x30,x37)) h
            ·refine Zb5 Mail.row ex32 hall rfl trivial rfl rfl rfl rfl ?_;dsimp only [go_sem];refine Zt3 4 rfl ?_;refine Zu4 Mail.row ex34 hall rfl trivial rfl rfl rfl ?_;dsimp only [go_sem];refine Zt3 9 rfl ?_;obtain ⟨x37,ex37,h⟩:=Option.bind_eq_some_iff.1 h;refine Zu4 Mail.row ex37 hall rfl trivial rfl rfl rfl ?_;dsimp only [go_sem];refine Zh5 hall hs haf hnap 1 0 ?_;dsimp only [go_sem];refine ⟨by simp,?_⟩;refine Zs3 rfl ?_ _;refine Z44 4 1 rfl rfl rfl ?_;dsimp only [go_sem];exact Zz4 J2 (s:=(x4,x30,x37)) h
           ·refine Zb5 Mail.row ex32 hall rfl trivial rfl rfl rfl rfl ?_;dsimp only [go_sem];refine Zt3 0 rfl ?_;refine Zy3 hall rfl trivial ?_;dsimp only [go_sem];refine Zt3 4 rfl ?_;obtain ⟨x35,ex35,h⟩:=Option.bind_eq_some_iff.1 h;refine Zu4 Mail.row ex35 hall rfl trivial rfl rfl rfl ?_;dsimp only [go_sem];refine Zt3 9 rfl ?_;obtain ⟨x36,ex36,h⟩:=Option.bind_eq_some_iff.1 h;refine Zu4 Mail.row ex36 hall rfl trivial rfl rfl rfl ?_;dsimp only [go_sem];refine Zh5 hall hs haf hnap 1 0 ?_;dsimp only [go_sem];refine ⟨by simp,?_⟩
            refine Zs3 rfl ?_ _;refine Z44 4 1 rfl rfl rfl ?_;dsimp only [go_sem];exact Zz4 J2 (s:=(x4,x30,x36)) h
          ·refine Zb5 Mail.row ex32 hall rfl trivial rfl rfl rfl rfl ?_;dsimp only [go_sem];refine Zu3 0 3 rfl ?_ ?_
           ·refine Zy3 hall rfl trivial ?_;dsimp only [go_sem];refine Zt3 3 rfl ?_;refine Zb5 Mail.row ex31 hall rfl trivial rfl rfl rfl rfl ?_;dsimp only [go_sem];refine Zt3 4 rfl ?_;obtain ⟨x35,ex35,h⟩:=Option.bind_eq_some_iff.1 h;refine Zu4 Mail.row ex35 hall rfl trivial rfl rfl rfl ?_;dsimp only [go_sem];refine Zt3 9 rfl ?_;obtain ⟨x36,ex36,h⟩:=Option.bind_eq_some_iff.1 h;refine Zu4 Mail.row ex36 hall rfl trivial rfl rfl rfl ?_;dsimp only [go_sem];refine Zh5 hall hs haf hnap 1 0 ?_;dsimp only [go_sem];refine ⟨by simp,?_⟩
            refine Zs3 rfl ?_ _;refine Z44 4 1 rfl rfl rfl ?_;dsimp only [go_sem];exact Zz4 J2 (s:=(x4,x30,x36)) h
           ·refine Zb5 Mail.row ex31 hall rfl trivial rfl rfl rfl rfl ?_;dsimp only [go_sem];refine Zt3 0 rfl ?_;refine Zy3 hall rfl trivial ?_;dsimp only [go_sem];refine Zt3 4 rfl ?_;obtain ⟨x35,ex35,h⟩:=Option.bind_eq_some_iff.1 h;refine Zu4 Mail.row ex35 hall rfl trivial rfl rfl rfl ?_;dsimp only [go_sem];refine Zt3 9 rfl ?_;obtain ⟨x36,ex36,h⟩:=Option.bind_eq_some_iff.1 h;refine Zu4 Mail.row ex36 hall rfl trivial rfl rfl rfl ?_;dsimp only [go_sem];refine Zh5 hall hs haf hnap 1 0 ?_;dsimp only [go_sem];refine ⟨by simp,?_⟩
            refine Zs3 rfl ?_ _;refine Z44 4 1 rfl rfl rfl ?_;dsimp only [go_sem];exact Zz4 J2 (s:=(x4,x30,x36)) h
        ·refine Zh3 (by kernel_rfl) fun all hall hs hnap haf=>?_;dsimp only [go_sem]
         refine Zi5 hall hs haf hnap 6 12 [true,true,true,false,false,true,true,true,false,false,false,false,false,false,false,false,false,false] (⟨(.any :: .any :: .iv x3 :: .iv x4 :: .ptr 0 0::an 3 (.ptr 1 0 :: .any :: .ptr 2 0 :: .iv x4 :: .ptr 3 0 :: .osl 1 :: .iv x24::an 63 (.iv x24 :: .osl 1 :: .iv (ln Mail.row x10) :: .bv (decide (x24=(ln Mail.row x10))) :: .any :: .iv x4 :: .any :: .ptr 0 0 :: .sl 3 (List.map Diner.row x1.Diners) :: .iv x4 :: .any :: .any :: .iv x3 :: .osl 1 :: .iv x24::an 66 []))),[some ⟨25,[.sl 3 (List.map Diner.row x1.Diners),.sl 5 (List.map Mail.row x1.Mail)]⟩,some ⟨25,[.nl,.nl]⟩,some ⟨25,[.nl,.nl]⟩,some ⟨70,[.iv x9.ID,.iv x9.Phase,.sl 8 (List.map Side.row x9.Sides)]⟩],[none,some ⟨78,5,List.map Mail.row x10⟩]⟩:St) (by kernel_rfl) ?_
         obtain ⟨x25,ex25,h⟩:=Option.bind_eq_some_iff.1 h;refine Zr4 hall hs haf hnap 3 Diner.row ex25 rfl rfl trivial rfl rfl rfl rfl ?_;refine Zh5 hall hs haf hnap 1 10 ?_;dsimp only [go_sem];refine ⟨by simp,?_⟩;obtain ⟨x26,ex26,h⟩:=Option.bind_eq_some_iff.1 h;refine Zu3 8 15 rfl ?_ ?_
         ·refine GO_idxOM hall Mail.row ex26 rfl trivial rfl rfl rfl ?_;dsimp only [go_sem];refine Zh5 hall hs haf hnap 1 8 ?_;dsimp only [go_sem];refine ⟨by simp,?_⟩;refine Zu3 10 15 rfl ?_ ?_
          ·refine GO_loadAO hall Mail.row ex26 rfl trivial rfl rfl rfl ?_;dsimp only [go_sem];obtain ⟨x27,ex27,h⟩:=Option.bind_eq_some_iff.1 h;refine Zu3 11 15 rfl ?_ ?_
           ·refine Zz3 hall rfl trivial (Zql x25 x3 x26.Msg _ ex27) (h:=?_);dsimp only [go_sem];refine Zh5 hall hs haf hnap 3 3 ?_;dsimp only [go_sem];refine ⟨by simp,?_⟩;refine Zt3 15 rfl ?_;refine Zy3 hall rfl trivial ?_;dsimp only [go_sem];refine Zt3 16 rfl ?_;refine Zy3 hall rfl trivial ?_;dsimp only [go_sem];refine Zh5 hall hs haf hnap 1 0 ?_;dsimp only [go_sem];refine ⟨by simp,?_⟩;refine Zs3 rfl ?_ _;exact Zz4 J5 (s:=(x27.2,x27.1)) h
           ·refine Zy3 hall rfl trivial ?_;dsimp only [go_sem];refine Zt3 11 rfl ?_;refine Zz3 hall rfl trivial (Zql x25 x3 x26.Msg _ ex27) (h:=?_);dsimp only [go_sem];refine Zh5 hall hs haf hnap 3 2 ?_;dsimp only [go_sem];refine ⟨by simp,?_⟩;refine Zt3 16 rfl ?_;refine Zy3 hall rfl trivial ?_;dsimp only [go_sem];refine Zh5 hall hs haf hnap 1 0 ?_;dsimp only [go_sem];refine ⟨by simp,?_⟩;refine Zs3 rfl ?_ _;exact Zz4 J5 (s:=(x27.2,x27.1)) h
          ·refine Zy3 hall rfl trivial ?_;dsimp only [go_sem];refine Zt3 10 rfl ?_;refine GO_loadAO hall Mail.row ex26 rfl trivial rfl rfl rfl ?_;dsimp only [go_sem];refine Zt3 11 rfl ?_;obtain ⟨x27,ex27,h⟩:=Option.bind_eq_some_iff.1 h;refine Zz3 hall rfl trivial (Zql x25 x3 x26.Msg _ ex27) (h:=?_);dsimp only [go_sem];refine Zh5 hall hs haf hnap 3 2 ?_;dsimp only [go_sem];refine ⟨by simp,?_⟩;refine Zt3 16 rfl ?_;refine Zy3 hall rfl trivial ?_;dsimp only [go_sem];refine Zh5 hall hs haf hnap 1 0 ?_;dsimp only [go_sem]
           refine ⟨by simp,?_⟩;refine Zs3 rfl ?_ _;exact Zz4 J5 (s:=(x27.2,x27.1)) h
         ·refine Zy3 hall rfl trivial ?_;dsimp only [go_sem];refine Zt3 8 rfl ?_;refine GO_idxOM hall Mail.row ex26 rfl trivial rfl rfl rfl ?_;dsimp only [go_sem];refine Zh5 hall hs haf hnap 1 7 ?_;dsimp only [go_sem];refine ⟨by simp,?_⟩;refine Zt3 10 rfl ?_;refine GO_loadAO hall Mail.row ex26 rfl trivial rfl rfl rfl ?_;dsimp only [go_sem];refine Zt3 11 rfl ?_;obtain ⟨x27,ex27,h⟩:=Option.bind_eq_some_iff.1 h;refine Zz3 hall rfl trivial (Zql x25 x3 x26.Msg _ ex27) (h:=?_);dsimp only [go_sem];refine Zh5 hall hs haf hnap 3 2 ?_
          dsimp only [go_sem];refine ⟨by simp,?_⟩;refine Zt3 16 rfl ?_;refine Zy3 hall rfl trivial ?_;dsimp only [go_sem];refine Zh5 hall hs haf hnap 1 0 ?_;dsimp only [go_sem];refine ⟨by simp,?_⟩;refine Zs3 rfl ?_ _;exact Zz4 J5 (s:=(x27.2,x27.1)) h
      ·refine Zl2 1 ?_;dsimp only [e10,Zem,Zdm,go_sem];refine ⟨by simp,?_⟩;refine Zm4 h (fun (x14:Int)=>(⟨(.any :: .any :: .iv x3 :: .iv x4 :: .ptr 0 0::an 3 (.ptr 1 0 :: .any :: .ptr 2 0 :: .any :: .ptr 3 0 :: .osl 1 :: .iv x14::an 144 [])),[some ⟨25,[.sl 3 (List.map Diner.row x1.Diners),.sl 5 (List.map Mail.row x1.Mail)]⟩,some ⟨25,[.nl,.nl]⟩,some ⟨25,[.nl,.nl]⟩,some ⟨70,[.iv x9.ID,.iv x9.Phase,.sl 8 (List.map Side.row x9.Sides)]⟩],[none,some ⟨78,5,List.map Mail.row x10⟩]⟩:St)) (by simp [go_sem]) (by intro x14;first | rfl | simp [go_sem]) ?_
       rintro n1 x14 y1 h hin1 hout1;rw [Zmm] at h;(try dsimp only);refine Zl2 8 ?_;dsimp only [e10,Zem,Zdm,go_sem];refine ⟨by simp,?_⟩
       refine Zl4 (fun (x16:Bool)=>(⟨(.any :: .any :: .iv x3 :: .iv x4 :: .ptr 0 0::an 3 (.ptr 1 0 :: .any :: .ptr 2 0 :: .any :: .ptr 3 0 :: .osl 1 :: .iv x14::an 60 (.bv x16::an 83 []))),[some ⟨25,[.sl 3 (List.map Diner.row x1.Diners),.sl 5 (List.map Mail.row x1.Mail)]⟩,some ⟨25,[.nl,.nl]⟩,some ⟨25,[.nl,.nl]⟩,some ⟨70,[.iv x9.ID,.iv x9.Phase,.sl 8 (List.map Side.row x9.Sides)]⟩],[none,some ⟨78,5,List.map Mail.row x10⟩]⟩:St)) (Zlm x1 x3 x4 x10 x14) y1 ?_ fun J4=>?_
       ·intro x16 h;rw [Zlm] at h;(try dsimp only);refine Zn4 h rfl (fun _ h=>?_) fun _ h=>?_
        ·refine Zl2 8 ?_;dsimp only [e10,Zem,Zdm,go_sem];refine ⟨by simp,?_⟩;exact Zy4 h hin1
        ·refine Zl2 1 ?_;dsimp only [e10,Zem,Zdm,go_sem];refine ⟨by simp,?_⟩;exact Zz4 J3 (s:=x14) (Zk4 h hout1)
       ·refine Zw4 58 h rfl (fun _ h=>?_) fun _ h=>?_
        ·dsimp only [go_sem];refine Zl2 2 ?_;dsimp only [e10,Zem,Zdm,go_sem];refine ⟨by simp,?_⟩;obtain ⟨x15,ex15,h⟩:=Option.bind_eq_some_iff.1 h;refine Z06 Mail.row ex15 trivial rfl rfl rfl ?_;refine Zl2 1 ?_;dsimp only [e10,Zem,Zdm,go_sem];refine ⟨by simp,?_⟩;refine Z16 Mail.row ex15 trivial rfl rfl rfl ?_;refine Zl2 3 ?_;dsimp only [e10,Zem,Zdm,go_sem];refine ⟨by simp,?_⟩;refine Zw4 66 h rfl (fun _ h=>?_) fun _ h=>?_
         ·dsimp only [go_sem];refine Zl2 10 ?_;dsimp only [e10,Zem,Zdm,go_sem];refine ⟨by simp,?_⟩;exact Zz4 J4 (s:=true) h
         ·dsimp only [go_sem];refine Zl2 2 ?_;dsimp only [e10,Zem,Zdm,go_sem];refine ⟨by simp,?_⟩;refine Z06 Mail.row ex15 trivial rfl rfl rfl ?_;refine Zl2 1 ?_;dsimp only [e10,Zem,Zdm,go_sem];refine ⟨by simp,?_⟩;refine Z16 Mail.row ex15 trivial rfl rfl rfl ?_;refine Zl2 5 ?_;dsimp only [e10,Zem,Zdm,go_sem];refine ⟨by simp,?_⟩;exact Zz4 J4 (s:=!decide (x15.To=x4)) h
        ·dsimp only [go_sem];refine Zl2 18 ?_;dsimp only [e10,Zem,Zdm,go_sem];refine ⟨by simp,?_⟩;exact Zz4 J4 (s:=false) h
     ·refine Zl2 11 ?_;dsimp only [e10,Zem,Zdm,go_sem];refine ⟨by simp,?_⟩;refine Zl4 (fun ((x38,x39):(Int×Int))=>(⟨(an 4 (.ptr 0 0::an 3 (.ptr 1 0 :: .any :: .ptr 2 0 :: .iv x3 :: .ptr 3 0 :: .osl 1::an 3 (.iv x38 :: .iv x39::an 140 [])))),[some ⟨25,[.sl 3 (List.map Diner.row x1.Diners),.sl 5 (List.map Mail.row x1.Mail)]⟩,some ⟨25,[.nl,.nl]⟩,some ⟨25,[.nl,.nl]⟩,some ⟨70,[.iv x9.ID,.iv x9.Phase,.sl 8 (List.map Side.row x9.Sides)]⟩],[none,some ⟨78,5,List.map Mail.row x10⟩]⟩:St)) (Znm x1 x3 x9 x10) r ?_ fun J6=>?_
      ·rintro ⟨x38,x39⟩ h;rw [Znm] at h;(try dsimp only);refine Zl2 8 ?_;dsimp only [e10,Zem,Zdm,go_sem];refine ⟨by simp,?_⟩;refine Zn4 h rfl (fun _ h=>?_) fun _ h=>?_
       ·refine Zl2 6 ?_;dsimp only [e10,Zem,Zdm,go_sem];refine ⟨by simp,?_⟩;exact Zx4 (res:=fun (r:(Scene×Int))=>.tup [.agg (Scene.row r.1),.iv r.2]) ok10 h
       ·refine Zl2 6 ?_;dsimp only [e10,Zem,Zdm,go_sem];refine ⟨by simp,?_⟩;exact Zz4 J2 (s:=(x3,(Diner.mk x9.ID x39 x9.Sides),x10)) h
      ·refine Zn4 h rfl (fun _ h=>?_) fun _ h=>?_
       ·refine Zl2 4 ?_;dsimp only [e10,Zem,Zdm,go_sem];refine ⟨by simp,?_⟩;exact Zz4 J6 (s:=(2,0)) h
       ·refine Zl2 1 ?_;dsimp only [e10,Zem,Zdm,go_sem];refine ⟨by simp,?_⟩;exact Zz4 J6 (s:=(0,1)) h
  ·refine Zw4 31 h rfl (fun _ h=>?_) fun _ h=>?_
   ·dsimp only [go_sem];refine Zl2 10 ?_;dsimp only [e10,Zem,Zdm,go_sem];refine ⟨by simp,?_⟩;exact Zz4 J1 (s:=true) h
   ·dsimp only [go_sem];refine Zl2 3 ?_;dsimp only [e10,Zem,Zdm,go_sem];refine ⟨by simp,?_⟩;refine Zw4 34 h rfl (fun _ h=>?_) fun _ h=>?_
    ·dsimp only [go_sem];refine Zl2 2 ?_;dsimp only [e10,Zem,Zdm,go_sem];refine ⟨by simp,?_⟩;obtain ⟨x7,ex7,h⟩:=Option.bind_eq_some_iff.1 h;refine Zz2 trivial (Z4l x1 x4 _ ex7) (h:=?_);refine Zl2 4 ?_;dsimp only [e10,Zem,Zdm,go_sem];refine ⟨by simp,?_⟩;exact Zz4 J1 (s:=!x7) h
    ·dsimp only [go_sem];refine Zl2 7 ?_;dsimp only [e10,Zem,Zdm,go_sem];refine ⟨by simp,?_⟩;exact Zz4 J1 (s:=false) h
set_option maxRecDepth 100000
set_option maxHeartbeats 4000000
def Zrm:EC:=.seq (.seq (.reg [(Qa 104 (.mv (.t 12))),(Qa 105 (.fld 1 (.t 3))),(Qa 106 (.load (.t 105))),(Qa 107 (.len (.t 106))),(Qa 108 (.bin .lss (.t 104) (.t 107)))]) (.ite (.t 108) (.skip) (.exit 0))) (.seq (.blk 1 (.seq (.reg [(Qa 111 (.fld 1 (.t 3))),(Qa 112 (.load (.t 111))),(Qa 113 (.mv (.t 12))),(Qa 114 (.idx 5 (.t 112) (.t 113))),(Qa 115 (.loadA 5 (.t 114))),(Qa 13 (.alloc 78 [.iv 0,.iv 0,.iv 0,.iv 0,.iv 0])),(Qb (.store 5 (.t 13) (.t 115)))]) (.seq (.reg [(Qa 116 (.fld 0 (.t 13))),(Qa 117 (.load (.t 116))),(Qa 118 (.fld 0 (.t 4))),(Qa 119 (.load (.t 118))),(Qa 120 (.bin .eql (.t 117) (.t 119))),(Qa 121 (.mv (.t 120))),(Qg 122 121 true (.fld 1 (.t 13))),(Qg 123 121 true (.load (.t 122))),(Qg 124 121 true (.fld 1 (.t 4))),(Qg 125 121 true (.load (.t 124))),(Qg 126 121 true (.bin .eql (.t 123) (.t 125))),(Qa 127 (.pick (.t 121) (.t 126) (.c .ff))),(Qa 128 (.mv (.t 127))),(Qg 129 128 false (.fld 0 (.t 13))),(Qg 130 128 false (.load (.t 129))),(Qg 131 128 false (.fld 1 (.t 4))),(Qg 132 128 false (.load (.t 131))),(Qg 133 128 false (.bin .eql (.t 130) (.t 132))),(Qg 134 128 false (.mv (.t 133))),(Qg 135 134 true (.fld 1 (.t 13))),(Qg 136 134 true (.load (.t 135))),(Qg 137 134 true (.fld 0 (.t 4))),(Qg 138 134 true (.load (.t 137))),(Qg 139 134 true (.bin .eql (.t 136) (.t 138))),(Qg 140 128 false (.pick (.t 134) (.t 139) (.c .ff))),(Qa 141 (.pick (.t 128) (.c .tt) (.t 140))),(Qa 14 (.mv (.t 141)))]) (.seq (.reg [(Qa 142 (.mv (.t 14))),(Qa 143 (.mv (.t 142))),(Qg 144 143 true (.fld 2 (.t 13))),(Qg 145 143 true (.fld 0 (.t 144))),(Qg 146 143 true (.load (.t 145))),(Qg 147 143 true (.mv (.t 2))),(Qg 148 143 true (.bin .eql (.t 146) (.t 147))),(Qa 149 (.pick (.t 143) (.t 148) (.c .ff))),(Qa 150 (.mv (.t 149))),(Qg 151 150 true (.fld 2 (.t 13))),(Qg 152 150 true (.fld 1 (.t 151))),(Qg 153 150 true (.load (.t 152))),(Qg 154 150 true (.fld 1 (.t 7))),(Qg 155 150 true (.load (.t 154))),(Qg 156 150 true (.bin .eql (.t 153) (.t 155))),(Qa 157 (.pick (.t 150) (.t 156) (.c .ff)))]) (.ite (.t 157) (.reg [(Qa 158 (.mv (.t 11))),(Qa 159 (.bin .add (.t 158) (.c (.iv 1)))),(Qa 11 (.mv (.t 159)))]) (.skip)))))) (.reg [(Qa 109 (.mv (.t 12))),(Qa 110 (.bin .add (.t 109) (.c (.iv 1)))),(Qa 12 (.mv (.t 110)))]))
def e15:EC:=.seq (.reg [(Qa 3 (.box 25 2 (.t 0))),(Qa 4 (.box 29 2 (.t 1))),(Qa 6 (.mv (.c (.iv 0))))]) (.seq (.seq (.reg [(Qa 15 (.loadA 2 (.t 3))),(Qa 16 (.fld 0 (.t 4))),(Qa 17 (.load (.t 16))),(Qa 18 (.call 36 [(.t 15),(.t 17)])),(Qa 19 (.not (.t 18))),(Qa 20 (.mv (.t 19))),(Qg 21 20 false (.loadA 2 (.t 3))),(Qg 22 20 false (.fld 1 (.t 4))),(Qg 23 20 false (.load (.t 22))),(Qg 24 20 false (.call 36 [(.t 21),(.t 23)])),(Qg 25 20 false (.not (.t 24))),(Qa 26 (.pick (.t 20) (.c .tt) (.t 25))),(Qa 27 (.mv (.t 26))),(Qg 28 27 false (.mv (.t 2))),(Qg 29 27 false (.bin .neq (.t 28) (.c (.iv 1)))),(Qg 30 27 false (.mv (.t 29))),(Qg 31 30 true (.mv (.t 2))),(Qg 32 30 true (.bin .neq (.t 31) (.c (.iv 2)))),(Qg 33 27 false (.pick (.t 30) (.t 32) (.c .ff))),(Qa 34 (.pick (.t 27) (.c .tt) (.t 33)))]) (.ite (.t 34) (.seq (.reg [(Qa 6 (.mv (.c (.iv 0))))]) (.ret)) (.skip))) (.seq (.drw [(Qa 36 (.fld 0 (.t 3))),(Qa 37 (.load (.t 36))),(Qa 38 (.fld 0 (.t 4))),(Qa 39 (.load (.t 38))),(Qa 40 (.idx 3 (.t 37) (.t 39))),(Qa 41 (.loadA 3 (.t 40))),(Qa 42 (.fld 1 (.t 4))),(Qa 43 (.load (.t 42))),(Qa 44 (.call 52 [(.t 41),(.t 43)])),(Qa 35 (.mv (.t 44))),(Qa 45 (.ext (.t 35) 0)),(Qa 46 (.ext (.t 35) 1)),(Qa 7 (.alloc 65 [.iv 0,.iv 0,.iv 0,.ff,.ff,.ff,.ff,.ff])),(Qb (.store 8 (.t 7) (.t 45))),(Qa 8 (.mv (.t 46)))] [[],[0],[],[2],[1,3],[4],[],[6],[5,7],[8],[9],[9],[],[12,10,8,0,1,2,3,4,5,6,7,8,9,10,12],[11,13,0,1,2,3,4,5,6,7,8,9,10,11,12,13]] [[1],[0,4],[3],[2,4],[1,3,5],[4,8],[7],[6,8],[5,7,9],[8,10,11],[9,13],[9,14],[13],[10,12],[11]]) (.seq (.drw [(Qa 48 (.fld 0 (.t 3))),(Qa 49 (.load (.t 48))),(Qa 50 (.fld 1 (.t 4))),(Qa 51 (.load (.t 50))),(Qa 52 (.idx 3 (.t 49) (.t 51))),(Qa 53 (.loadA 3 (.t 52))),(Qa 54 (.fld 0 (.t 4))),(Qa 55 (.load (.t 54))),(Qa 56 (.call 52 [(.t 53),(.t 55)])),(Qa 47 (.mv (.t 56))),(Qa 57 (.ext (.t 47) 0)),(Qa 58 (.ext (.t 47) 1)),(Qa 9 (.alloc 65 [.iv 0,.iv 0,.iv 0,.ff,.ff,.ff,.ff,.ff])),(Qb (.store 8 (.t 9) (.t 57))),(Qa 10 (.mv (.t 58)))] [[],[0],[],[2],[1,3],[4],[],[6],[5,7],[8],[9],[9],[],[12,10,8,0,1,2,3,4,5,6,7,8,9,10,12],[11,13,0,1,2,3,4,5,6,7,8,9,10,11,12,13]] [[1],[0,4],[3],[2,4],[1,3,5],[4,8],[7],[6,8],[5,7,9],[8,10,11],[9,13],[9,14],[13],[10,12],[11]]) (.seq (.seq (.reg [(Qa 59 (.mv (.t 8))),(Qa 60 (.not (.t 59))),(Qa 61 (.mv (.t 60))),(Qg 62 61 false (.mv (.t 10))),(Qg 63 61 false (.not (.t 62))),(Qa 64 (.pick (.t 61) (.c .tt) (.t 63))),(Qa 65 (.mv (.t 64))),(Qg 66 65 false (.fld 1 (.t 7))),(Qg 67 65 false (.load (.t 66))),(Qg 68 65 false (.fld 1 (.t 9))),(Qg 69 65 false (.load (.t 68))),(Qg 70 65 false (.bin .neq (.t 67) (.t 69))),(Qa 71 (.pick (.t 65) (.c .tt) (.t 70)))]) (.ite (.t 71) (.seq (.reg [(Qa 6 (.mv (.c (.iv 0))))]) (.ret)) (.skip))) (.seq (.reg [(Qa 11 (.mv (.c (.iv 0))))]) (.seq (.seq (.reg [(Qa 72 (.mv (.t 2))),(Qa 73 (.bin .eql (.t 72) (.c (.iv 1)))),(Qa 74 (.mv (.t 73))),(Qg 75 74 true (.fld 3 (.t 7))),(Qg 76 74 true (.load (.t 75))),(Qa 77 (.pick (.t 74) (.t 76) (.c .ff))),(Qa 78 (.mv (.t 77))),(Qg 79 78 false (.mv (.t 2))),(Qg 80 78 false (.bin .eql (.t 79) (.c (.iv 2)))),(Qg 81 78 false (.mv (.t 80))),(Qg 82 81 true (.fld 5 (.t 7))),(Qg 83 81 true (.load (.t 82))),(Qg 84 78 false (.pick (.t 81) (.t 83) (.c .ff))),(Qa 85 (.pick (.t 78) (.c .tt) (.t 84)))]) (.ite (.t 85) (.reg [(Qa 86 (.mv (.t 11))),(Qa 87 (.bin .add (.t 86) (.c (.iv 1)))),(Qa 11 (.mv (.t 87)))]) (.skip))) (.seq (.seq (.reg [(Qa 88 (.mv (.t 2))),(Qa 89 (.bin .eql (.t 88) (.c (.iv 1)))),(Qa 90 (.mv (.t 89))),(Qg 91 90 true (.fld 3 (.t 9))),(Qg 92 90 true (.load (.t 91))),(Qa 93 (.pick (.t 90) (.t 92) (.c .ff))),(Qa 94 (.mv (.t 93))),(Qg 95 94 false (.mv (.t 2))),(Qg 96 94 false (.bin .eql (.t 95) (.c (.iv 2)))),(Qg 97 94 false (.mv (.t 96))),(Qg 98 97 true (.fld 5 (.t 9))),(Qg 99 97 true (.load (.t 98))),(Qg 100 94 false (.pick (.t 97) (.t 99) (.c .ff))),(Qa 101 (.pick (.t 94) (.c .tt) (.t 100)))]) (.ite (.t 101) (.reg [(Qa 102 (.mv (.t 11))),(Qa 103 (.bin .add (.t 102) (.c (.iv 1)))),(Qa 11 (.mv (.t 103)))]) (.skip))) (.seq (.seq (.reg [(Qa 12 (.mv (.c (.iv 0))))]) (.blk 0 (.loop Zrm))) (.seq (.reg [(Qa 160 (.mv (.t 11))),(Qa 6 (.mv (.t 160)))]) (.ret))))))))))
theorem ok15:FnOK Tryz.prog 15 Tryz.f15 e15 [.t 6] 3 158:=⟨by kernel_rfl,⟨_,rfl,by kernel_rfl⟩,by kernel_rfl,by kernel_rfl⟩
noncomputable def Zsm:Int→Option Int
| x42=>
 some x42
noncomputable def Ztm (x29:Int):Int→Option ((Int×Int) ⊕ Int)
| x33=>
 some (.inl (x33,wr (x29+1)))
noncomputable def Zum (x28:Int) (x29:Int):Bool→Option ((Int×Int) ⊕ Int)
| x32=>
 ifb x32 (
 (Ztm x29) (wr (x28+1))) (
 (Ztm x29) x28)
noncomputable def Zvm (x3:Int) (x11:Side) (x28:Int) (x29:Int) (x30:Mail):Bool→Option ((Int×Int) ⊕ Int)
| x31=>
 ifb x31 (
 ifb (decide (x30.Msg.Kind=x3)) (
 (Zum x28 x29) (decide (x30.Msg.Epoch=x11.Epoch))) (
 (Zum x28 x29) false)) (
 (Zum x28 x29) false)
noncomputable def Zwm (x1:Scene) (x2:Edge) (x3:Int) (x11:Side):(Int×Int)→Option ((Int×Int) ⊕ Int)
| (x28,x29)=>
 ifb (decide (x29<(ln Mail.row x1.Mail))) (
 (at_ x1.Mail x29).bind fun x30=>
 ifb (decide (x30.From=x2.A)) (
 ifb (decide (x30.To=x2.B)) (
 (Zvm x3 x11 x28 x29 x30) true) (
 ifb (decide (x30.From=x2.B)) (
 (Zvm x3 x11 x28 x29 x30) (decide (x30.To=x2.A))) (
 (Zvm x3 x11 x28 x29 x30) false))) (
 ifb (decide (x30.From=x2.B)) (
 (Zvm x3 x11 x28 x29 x30) (decide (x30.To=x2.A))) (
 (Zvm x3 x11 x28 x29 x30) false))) (
 Option.map Sum.inr (Zsm x28))
noncomputable def Zxm (x1:Scene) (x2:Edge) (x3:Int) (x11:Side):Int→Option Int
| x21=>
 loop (Zwm x1 x2 x3 x11) (x21,0)
noncomputable def Zym (x1:Scene) (x2:Edge) (x3:Int) (x11:Side) (x19:Int):Bool→Option Int
| x20=>
 ifb x20 (
 (Zxm x1 x2 x3 x11) (wr (x19+1))) (
 (Zxm x1 x2 x3 x11) x19)
noncomputable def Zzm (x1:Scene) (x2:Edge) (x3:Int) (x11:Side) (x16:Side):Int→Option Int
| x19=>
 ifb (decide (x3=1)) (
 ifb x16.Fork (
 (Zym x1 x2 x3 x11 x19) true) (
 ifb (decide (x3=2)) (
 (Zym x1 x2 x3 x11 x19) x16.Token) (
 (Zym x1 x2 x3 x11 x19) false))) (
 ifb (decide (x3=2)) (
 (Zym x1 x2 x3 x11 x19) x16.Token) (
 (Zym x1 x2 x3 x11 x19) false))
noncomputable def Z0n (x1:Scene) (x2:Edge) (x3:Int) (x11:Side) (x16:Side):Bool→Option Int
| x18=>
 ifb x18 (
 (Zzm x1 x2 x3 x11 x16) (wr (0+1))) (
 (Zzm x1 x2 x3 x11 x16) 0)
noncomputable def Z1n (x1:Scene) (x2:Edge) (x3:Int) (x11:Side) (x16:Side):Bool→Option Int
| x17=>
 ifb x17 (
 some 0) (
 ifb (decide (x3=1)) (
 ifb x11.Fork (
 (Z0n x1 x2 x3 x11 x16) true) (
 ifb (decide (x3=2)) (
 (Z0n x1 x2 x3 x11 x16) x11.Token) (
 (Z0n x1 x2 x3 x11 x16) false))) (
 ifb (decide (x3=2)) (
 (Z0n x1 x2 x3 x11 x16) x11.Token) (
 (Z0n x1 x2 x3 x11 x16) false)))
noncomputable def Z2n (x1:Scene) (x2:Edge) (x3:Int) (x10:Bool) (x11:Side):(Bool×Side)→Option Int
| (x15,x16)=>
 ifb (!x10) (
 (Z1n x1 x2 x3 x11 x16) true) (
 ifb (!x15) (
 (Z1n x1 x2 x3 x11 x16) true) (
 (Z1n x1 x2 x3 x11 x16) (!decide (x11.Epoch=x16.Epoch))))
noncomputable def Z3n (x1:Scene) (x2:Edge) (x3:Int):(Bool×Side)→Option Int
| (x10,x11)=>
 (at_ x1.Diners x2.B).bind fun x12=>
 (Zn8 x12 x2.A).bind fun x13=>
 (Z2n x1 x2 x3 x10 x11) (x13.2,x13.1)
noncomputable def Z4n (x1:Scene) (x2:Edge) (x3:Int):Bool→Option Int
| x6=>
 ifb x6 (
 some 0) (
 (at_ x1.Diners x2.A).bind fun x7=>
 (Zn8 x7 x2.B).bind fun x8=>
 (Z3n x1 x2 x3) (x8.2,x8.1))
noncomputable def Z5n (x1:Scene) (x2:Edge) (x3:Int):Option Int:=
 (Z3l x1 x2.A).bind fun x4=>
 ifb (!x4) (
 (Z4n x1 x2 x3) true) (
 (Z3l x1 x2.B).bind fun x5=>
 ifb (!x5) (
 (Z4n x1 x2 x3) true) (
 ifb (!decide (x3=1)) (
 (Z4n x1 x2 x3) (!decide (x3=2))) (
 (Z4n x1 x2 x3) false)))
theorem Z6n (x1:Scene) (x2:Edge) (x3:Int) (r:Int) (h:Z5n x1 x2 x3=some r):Zq2 Tryz.prog 15 [.agg (Scene.row x1),.agg (Edge.row x2),.iv x3] (.iv r):=by
 refine Zu2 ok15 rfl rfl fun w0 H0=>?_
 rw [Z5n] at h
 refine Zl2 12 ?_;dsimp only [e15,Zrm,go_sem];refine ⟨by simp,?_⟩;obtain ⟨x4,ex4,h⟩:=Option.bind_eq_some_iff.1 h;refine Zz2 trivial (Z4l x1 x2.A _ ex4) (h:=?_);refine Zl2 2 ?_;dsimp only [e15,Zrm,go_sem];refine ⟨by simp,?_⟩;refine Zl4 (fun (x6:Bool)=>(⟨(.any :: .any :: .iv x3 :: .ptr 0 0 :: .ptr 1 0::an 29 (.bv x6::an 126 [])),[some ⟨25,[.sl 3 (List.map Diner.row x1.Diners),.sl 5 (List.map Mail.row x1.Mail)]⟩,some ⟨29,[.iv x2.A,.iv x2.B]⟩],[]⟩:St)) (Z4n x1 x2 x3) r ?_ fun J1=>?_
 ·intro x6 h;rw [Z4n] at h;(try dsimp only);refine Zn4 h rfl (fun _ h=>?_) fun _ h=>?_
  ·refine Zl2 4 ?_;dsimp only [e15,Zrm,go_sem];refine ⟨by simp,?_⟩;exact Zx4 (res:=fun (r:Int)=>.iv r) ok15 h
  ·refine Zl2 2 ?_;dsimp only [e15,Zrm,go_sem];refine ⟨by simp,?_⟩;refine Zl4 (fun ((x10,x11):(Bool×Side))=>(⟨(.any :: .any :: .iv x3 :: .ptr 0 0 :: .ptr 1 0 :: .any :: .any :: .ptr 2 0 :: .bv x10::an 152 []),[some ⟨25,[.sl 3 (List.map Diner.row x1.Diners),.sl 5 (List.map Mail.row x1.Mail)]⟩,some ⟨29,[.iv x2.A,.iv x2.B]⟩,some ⟨65,[.iv x11.Peer,.iv x11.Epoch,.iv x11.State,.bv x11.Fork,.bv x11.Dirty,.bv x11.Token,.bv x11.Bottle,.bv x11.Ask]⟩],[]⟩:St)) (Z3n x1 x2 x3) r ?_ fun J2=>?_
   ·rintro ⟨x10,x11⟩ h;rw [Z3n] at h;(try dsimp only);refine Zl2 1 ?_;dsimp only [e15,Zrm,go_sem];refine ⟨by simp,?_⟩
    refine Zl4 (fun ((x15,x16):(Bool×Side))=>(⟨(.any :: .any :: .iv x3 :: .ptr 0 0 :: .ptr 1 0 :: .any :: .any :: .ptr 2 0 :: .bv x10 :: .ptr 3 0 :: .bv x15::an 150 []),[some ⟨25,[.sl 3 (List.map Diner.row x1.Diners),.sl 5 (List.map Mail.row x1.Mail)]⟩,some ⟨29,[.iv x2.A,.iv x2.B]⟩,some ⟨65,[.iv x11.Peer,.iv x11.Epoch,.iv x11.State,.bv x11.Fork,.bv x11.Dirty,.bv x11.Token,.bv x11.Bottle,.bv x11.Ask]⟩,some ⟨65,[.iv x16.Peer,.iv x16.Epoch,.iv x16.State,.bv x16.Fork,.bv x16.Dirty,.bv x16.Token,.bv x16.Bottle,.bv x16.Ask]⟩],[]⟩:St)) (Z2n x1 x2 x3 x10 x11) r ?_ fun J3=>?_
    ·rintro ⟨x15,x16⟩ h;rw [Z2n] at h;(try dsimp only);refine Zl2 6 ?_;dsimp only [e15,Zrm,go_sem];refine ⟨by simp,?_⟩
     refine Zl4 (fun (x17:Bool)=>(⟨(.any :: .any :: .iv x3 :: .ptr 0 0 :: .ptr 1 0 :: .any :: .any :: .ptr 2 0 :: .any :: .ptr 3 0::an 61 (.bv x17::an 89 [])),[some ⟨25,[.sl 3 (List.map Diner.row x1.Diners),.sl 5 (List.map Mail.row x1.Mail)]⟩,some ⟨29,[.iv x2.A,.iv x2.B]⟩,some ⟨65,[.iv x11.Peer,.iv x11.Epoch,.iv x11.State,.bv x11.Fork,.bv x11.Dirty,.bv x11.Token,.bv x11.Bottle,.bv x11.Ask]⟩,some ⟨65,[.iv x16.Peer,.iv x16.Epoch,.iv x16.State,.bv x16.Fork,.bv x16.Dirty,.bv x16.Token,.bv x16.Bottle,.bv x16.Ask]⟩],[]⟩:St)) (Z1n x1 x2 x3 x11 x16) r ?_ fun J4=>?_
     ·intro x17 h;rw [Z1n] at h;(try dsimp only);refine Zn4 h rfl (fun _ h=>?_) fun _ h=>?_
      ·refine Zl2 4 ?_;dsimp only [e15,Zrm,go_sem];refine ⟨by simp,?_⟩;exact Zx4 (res:=fun (r:Int)=>.iv r) ok15 h
      ·refine Zl2 11 ?_;dsimp only [e15,Zrm,go_sem];refine ⟨by simp,?_⟩
       refine Zl4 (fun (x18:Bool)=>(⟨(.any :: .any :: .iv x3 :: .ptr 0 0 :: .ptr 1 0 :: .any :: .any :: .ptr 2 0 :: .any :: .ptr 3 0 :: .any :: .iv 0::an 73 (.bv x18::an 75 [])),[some ⟨25,[.sl 3 (List.map Diner.row x1.Diners),.sl 5 (List.map Mail.row x1.Mail)]⟩,some ⟨29,[.iv x2.A,.iv x2.B]⟩,some ⟨65,[.iv x11.Peer,.iv x11.Epoch,.iv x11.State,.bv x11.Fork,.bv x11.Dirty,.bv x11.Token,.bv x11.Bottle,.bv x11.Ask]⟩,some ⟨65,[.iv x16.Peer,.iv x16.Epoch,.iv x16.State,.bv x16.Fork,.bv x16.Dirty,.bv x16.Token,.bv x16.Bottle,.bv x16.Ask]⟩],[]⟩:St)) (Z0n x1 x2 x3 x11 x16) r ?_ fun J5=>?_
       ·intro x18 h;rw [Z0n] at h;(try dsimp only)
        refine Zl4 (fun (x19:Int)=>(⟨(.any :: .any :: .iv x3 :: .ptr 0 0 :: .ptr 1 0 :: .any :: .any :: .ptr 2 0 :: .any :: .ptr 3 0 :: .any :: .iv x19::an 149 []),[some ⟨25,[.sl 3 (List.map Diner.row x1.Diners),.sl 5 (List.map Mail.row x1.Mail)]⟩,some ⟨29,[.iv x2.A,.iv x2.B]⟩,some ⟨65,[.iv x11.Peer,.iv x11.Epoch,.iv x11.State,.bv x11.Fork,.bv x11.Dirty,.bv x11.Token,.bv x11.Bottle,.bv x11.Ask]⟩,some ⟨65,[.iv x16.Peer,.iv x16.Epoch,.iv x16.State,.bv x16.Fork,.bv x16.Dirty,.bv x16.Token,.bv x16.Bottle,.bv x16.Ask]⟩],[]⟩:St)) (Zzm x1 x2 x3 x11 x16) r ?_ fun J6=>?_
        ·intro x19 h;rw [Zzm] at h;(try dsimp only);refine Zl2 6 ?_;dsimp only [e15,Zrm,go_sem];refine ⟨by simp,?_⟩
         refine Zl4 (fun (x20:Bool)=>(⟨(.any :: .any :: .iv x3 :: .ptr 0 0 :: .ptr 1 0 :: .any :: .any :: .ptr 2 0::an 3 (.iv x19::an 89 (.bv x20::an 59 []))),[some ⟨25,[.sl 3 (List.map Diner.row x1.Diners),.sl 5 (List.map Mail.row x1.Mail)]⟩,some ⟨29,[.iv x2.A,.iv x2.B]⟩,some ⟨65,[.iv x11.Peer,.iv x11.Epoch,.iv x11.State,.bv x11.Fork,.bv x11.Dirty,.bv x11.Token,.bv x11.Bottle,.bv x11.Ask]⟩],[]⟩:St)) (Zym x1 x2 x3 x11 x19) r ?_ fun J7=>?_
         ·intro x20 h;rw [Zym] at h;(try dsimp only);refine Zl4 (fun (x21:Int)=>(⟨(.any :: .any :: .iv x3 :: .ptr 0 0 :: .ptr 1 0 :: .any :: .any :: .ptr 2 0::an 3 (.iv x21::an 149 [])),[some ⟨25,[.sl 3 (List.map Diner.row x1.Diners),.sl 5 (List.map Mail.row x1.Mail)]⟩,some ⟨29,[.iv x2.A,.iv x2.B]⟩,some ⟨65,[.iv x11.Peer,.iv x11.Epoch,.iv x11.State,.bv x11.Fork,.bv x11.Dirty,.bv x11.Token,.bv x11.Bottle,.bv x11.Ask]⟩],[]⟩:St)) (Zxm x1 x2 x3 x11) r ?_ fun J8=>?_
          ·intro x21 h;rw [Zxm] at h;(try dsimp only);refine Zl2 5 ?_;dsimp only [e15,Zrm,go_sem];refine ⟨by simp,?_⟩;refine Zl4 (fun (x42:Int)=>(⟨(an 11 (.iv x42::an 149 [])),[],[]⟩:St)) Zsm r ?_ fun J9=>?_
           ·intro x42 h;rw [Zsm] at h;(try dsimp only);refine Zl2 5 ?_;dsimp only [e15,Zrm,go_sem];refine ⟨by simp,?_⟩;exact Zx4 (res:=fun (r:Int)=>.iv r) ok15 h
           ·refine Zl2 1 ?_;dsimp only [e15,Zrm,go_sem];refine ⟨by simp,?_⟩
            refine Zm4 h (fun ((x28,x29):(Int×Int))=>(⟨(.any :: .any :: .iv x3 :: .ptr 0 0 :: .ptr 1 0 :: .any :: .any :: .ptr 2 0::an 3 (.iv x28 :: .iv x29::an 148 [])),[some ⟨25,[.sl 3 (List.map Diner.row x1.Diners),.sl 5 (List.map Mail.row x1.Mail)]⟩,some ⟨29,[.iv x2.A,.iv x2.B]⟩,some ⟨65,[.iv x11.Peer,.iv x11.Epoch,.iv x11.State,.bv x11.Fork,.bv x11.Dirty,.bv x11.Token,.bv x11.Bottle,.bv x11.Ask]⟩],[]⟩:St)) (by simp [go_sem]) (by rintro ⟨x28,x29⟩;first | rfl | simp [go_sem]) ?_;rintro n1 ⟨x28,x29⟩ y1 h hin1 hout1
            rw [Zwm] at h;(try dsimp only);refine Zl2 9 ?_;dsimp only [e15,Zrm,go_sem];refine ⟨by simp,?_⟩;refine Zn4 h rfl (fun _ h=>?_) fun _ h=>?_
            ·refine Zl2 8 ?_;dsimp only [e15,Zrm,go_sem];refine ⟨by simp,?_⟩;obtain ⟨x30,ex30,h⟩:=Option.bind_eq_some_iff.1 h;refine Zq4 Mail.row ex30 trivial rfl rfl rfl ?_;refine Zl2 12 ?_;dsimp only [e15,Zrm,go_sem];refine ⟨by simp,?_⟩
             refine Zl4 (fun (x31:Bool)=>(⟨(.any :: .any :: .iv x3 :: .ptr 0 0 :: .ptr 1 0 :: .any :: .any :: .ptr 2 0::an 3 (.iv x28 :: .iv x29 :: .ptr 3 0 :: .bv x31::an 146 [])),[some ⟨25,[.sl 3 (List.map Diner.row x1.Diners),.sl 5 (List.map Mail.row x1.Mail)]⟩,some ⟨29,[.iv x2.A,.iv x2.B]⟩,some ⟨65,[.iv x11.Peer,.iv x11.Epoch,.iv x11.State,.bv x11.Fork,.bv x11.Dirty,.bv x11.Token,.bv x11.Bottle,.bv x11.Ask]⟩,some ⟨78,[.iv x30.From,.iv x30.To,.iv x30.Msg.Kind,.iv x30.Msg.Epoch,.iv x30.Msg.Num]⟩],[]⟩:St)) (Zvm x3 x11 x28 x29 x30) y1 ?_ fun J10=>?_
             ·intro x31 h;rw [Zvm] at h;(try dsimp only);refine Zl2 4 ?_;dsimp only [e15,Zrm,go_sem];refine ⟨by simp,?_⟩
              refine Zl4 (fun (x32:Bool)=>(⟨(.any :: .any :: .iv x3 :: .ptr 0 0 :: .ptr 1 0 :: .any :: .any :: .ptr 2 0::an 3 (.iv x28 :: .iv x29::an 144 (.bv x32::an 3 []))),[some ⟨25,[.sl 3 (List.map Diner.row x1.Diners),.sl 5 (List.map Mail.row x1.Mail)]⟩,some ⟨29,[.iv x2.A,.iv x2.B]⟩,some ⟨65,[.iv x11.Peer,.iv x11.Epoch,.iv x11.State,.bv x11.Fork,.bv x11.Dirty,.bv x11.Token,.bv x11.Bottle,.bv x11.Ask]⟩],[]⟩:St)) (Zum x28 x29) y1 ?_ fun J11=>?_
              ·intro x32 h;rw [Zum] at h;(try dsimp only);refine Zl4 (fun (x33:Int)=>(⟨(.any :: .any :: .iv x3 :: .ptr 0 0 :: .ptr 1 0 :: .any :: .any :: .ptr 2 0::an 3 (.iv x33 :: .iv x29::an 148 [])),[some ⟨25,[.sl 3 (List.map Diner.row x1.Diners),.sl 5 (List.map Mail.row x1.Mail)]⟩,some ⟨29,[.iv x2.A,.iv x2.B]⟩,some ⟨65,[.iv x11.Peer,.iv x11.Epoch,.iv x11.State,.bv x11.Fork,.bv x11.Dirty,.bv x11.Token,.bv x11.Bottle,.bv x11.Ask]⟩],[]⟩:St)) (Ztm x29) y1 ?_ fun J12=>?_
               ·intro x33 h;rw [Ztm] at h;(try dsimp only);refine Zl2 6 ?_;dsimp only [e15,Zrm,go_sem];refine ⟨by simp,?_⟩;exact Zy4 h hin1
               ·refine Zn4 h rfl (fun _ h=>?_) fun _ h=>?_
                ·refine Zl2 5 ?_;dsimp only [e15,Zrm,go_sem];refine ⟨by simp,?_⟩;exact Zz4 J12 (s:=wr (x28+1)) h
                ·refine Zl2 1 ?_;dsimp only [e15,Zrm,go_sem];refine ⟨by simp,?_⟩;exact Zz4 J12 (s:=x28) h
              ·refine Zw4 143 h rfl (fun _ h=>?_) fun _ h=>?_
               ·dsimp only [go_sem];refine Zl2 7 ?_;dsimp only [e15,Zrm,go_sem];refine ⟨by simp,?_⟩;refine Zw4 150 h rfl (fun _ h=>?_) fun _ h=>?_
                ·dsimp only [go_sem];refine Zl2 8 ?_;dsimp only [e15,Zrm,go_sem];refine ⟨by simp,?_⟩;exact Zz4 J11 (s:=decide (x30.Msg.Epoch=x11.Epoch)) h
                ·dsimp only [go_sem];refine Zl2 8 ?_;dsimp only [e15,Zrm,go_sem];refine ⟨by simp,?_⟩;exact Zz4 J11 (s:=false) h
               ·dsimp only [go_sem];refine Zl2 15 ?_;dsimp only [e15,Zrm,go_sem];refine ⟨by simp,?_⟩;exact Zz4 J11 (s:=false) h
             ·refine Zw4 121 h rfl (fun _ h=>?_) fun _ h=>?_
              ·dsimp only [go_sem];refine Zl2 7 ?_;dsimp only [e15,Zrm,go_sem];refine ⟨by simp,?_⟩;refine Zw4 128 h rfl (fun _ h=>?_) fun _ h=>?_
               ·dsimp only [go_sem];refine Zl2 15 ?_;dsimp only [e15,Zrm,go_sem];refine ⟨by simp,?_⟩;exact Zz4 J10 (s:=true) h
               ·dsimp only [go_sem];refine Zl2 6 ?_;dsimp only [e15,Zrm,go_sem];refine ⟨by simp,?_⟩;refine Zw4 134 h rfl (fun _ h=>?_) fun _ h=>?_
                ·dsimp only [go_sem];refine Zl2 9 ?_;dsimp only [e15,Zrm,go_sem];refine ⟨by simp,?_⟩;exact Zz4 J10 (s:=decide (x30.To=x2.A)) h
                ·dsimp only [go_sem];refine Zl2 9 ?_;dsimp only [e15,Zrm,go_sem];refine ⟨by simp,?_⟩;exact Zz4 J10 (s:=false) h
              ·dsimp only [go_sem];refine Zl2 13 ?_;dsimp only [e15,Zrm,go_sem];refine ⟨by simp,?_⟩;refine Zw4 134 h rfl (fun _ h=>?_) fun _ h=>?_
               ·dsimp only [go_sem];refine Zl2 9 ?_;dsimp only [e15,Zrm,go_sem];refine ⟨by simp,?_⟩;exact Zz4 J10 (s:=decide (x30.To=x2.A)) h
               ·dsimp only [go_sem];refine Zl2 9 ?_;dsimp only [e15,Zrm,go_sem];refine ⟨by simp,?_⟩;exact Zz4 J10 (s:=false) h
            ·refine Zl2 1 ?_;dsimp only [e15,Zrm,go_sem];refine ⟨by simp,?_⟩;exact Zz4 J9 (s:=x28) (Zk4 h hout1)
          ·refine Zn4 h rfl (fun _ h=>?_) fun _ h=>?_
           ·refine Zl2 5 ?_;dsimp only [e15,Zrm,go_sem];refine ⟨by simp,?_⟩;exact Zz4 J8 (s:=wr (x19+1)) h
           ·refine Zl2 1 ?_;dsimp only [e15,Zrm,go_sem];refine ⟨by simp,?_⟩;exact Zz4 J8 (s:=x19) h
         ·refine Zw4 90 h rfl (fun _ h=>?_) fun _ h=>?_
          ·dsimp only [go_sem];refine Zl2 4 ?_;dsimp only [e15,Zrm,go_sem];refine ⟨by simp,?_⟩;refine Zw4 94 h rfl (fun _ h=>?_) fun _ h=>?_
           ·dsimp only [go_sem];refine Zl2 8 ?_;dsimp only [e15,Zrm,go_sem];refine ⟨by simp,?_⟩;exact Zz4 J7 (s:=true) h
           ·dsimp only [go_sem];refine Zl2 3 ?_;dsimp only [e15,Zrm,go_sem];refine ⟨by simp,?_⟩;refine Zw4 97 h rfl (fun _ h=>?_) fun _ h=>?_
            ·dsimp only [go_sem];refine Zl2 5 ?_;dsimp only [e15,Zrm,go_sem];refine ⟨by simp,?_⟩;exact Zz4 J7 (s:=x16.Token) h
            ·dsimp only [go_sem];refine Zl2 5 ?_;dsimp only [e15,Zrm,go_sem];refine ⟨by simp,?_⟩;exact Zz4 J7 (s:=false) h
          ·dsimp only [go_sem];refine Zl2 7 ?_;dsimp only [e15,Zrm,go_sem];refine ⟨by simp,?_⟩;refine Zw4 97 h rfl (fun _ h=>?_) fun _ h=>?_
           ·dsimp only [go_sem];refine Zl2 5 ?_;dsimp only [e15,Zrm,go_sem];refine ⟨by simp,?_⟩;exact Zz4 J7 (s:=x16.Token) h
           ·dsimp only [go_sem];refine Zl2 5 ?_;dsimp only [e15,Zrm,go_sem];refine ⟨by simp,?_⟩;exact Zz4 J7 (s:=false) h
        ·refine Zn4 h rfl (fun _ h=>?_) fun _ h=>?_
         ·refine Zl2 5 ?_;dsimp only [e15,Zrm,go_sem];refine ⟨by simp,?_⟩;exact Zz4 J6 (s:=wr (0+1)) h
         ·refine Zl2 1 ?_;dsimp only [e15,Zrm,go_sem];refine ⟨by simp,?_⟩;exact Zz4 J6 (s:=0) h
       ·refine Zw4 74 h rfl (fun _ h=>?_) fun _ h=>?_
        ·dsimp only [go_sem];refine Zl2 4 ?_;dsimp only [e15,Zrm,go_sem];refine ⟨by simp,?_⟩;refine Zw4 78 h rfl (fun _ h=>?_) fun _ h=>?_
         ·dsimp only [go_sem];refine Zl2 8 ?_;dsimp only [e15,Zrm,go_sem];refine ⟨by simp,?_⟩;exact Zz4 J5 (s:=true) h
         ·dsimp only [go_sem];refine Zl2 3 ?_;dsimp only [e15,Zrm,go_sem];refine ⟨by simp,?_⟩;refine Zw4 81 h rfl (fun _ h=>?_) fun _ h=>?_
          ·dsimp only [go_sem];refine Zl2 5 ?_;dsimp only [e15,Zrm,go_sem];refine ⟨by simp,?_⟩;exact Zz4 J5 (s:=x11.Token) h
          ·dsimp only [go_sem];refine Zl2 5 ?_;dsimp only [e15,Zrm,go_sem];refine ⟨by simp,?_⟩;exact Zz4 J5 (s:=false) h
        ·dsimp only [go_sem];refine Zl2 7 ?_;dsimp only [e15,Zrm,go_sem];refine ⟨by simp,?_⟩;refine Zw4 81 h rfl (fun _ h=>?_) fun _ h=>?_
         ·dsimp only [go_sem];refine Zl2 5 ?_;dsimp only [e15,Zrm,go_sem];refine ⟨by simp,?_⟩;exact Zz4 J5 (s:=x11.Token) h
         ·dsimp only [go_sem];refine Zl2 5 ?_;dsimp only [e15,Zrm,go_sem];refine ⟨by simp,?_⟩;exact Zz4 J5 (s:=false) h
     ·refine Zw4 61 h rfl (fun _ h=>?_) fun _ h=>?_
      ·dsimp only [go_sem];refine Zl2 11 ?_;dsimp only [e15,Zrm,go_sem];refine ⟨by simp,?_⟩;exact Zz4 J4 (s:=true) h
      ·dsimp only [go_sem];refine Zl2 4 ?_;dsimp only [e15,Zrm,go_sem];refine ⟨by simp,?_⟩;refine Zw4 65 h rfl (fun _ h=>?_) fun _ h=>?_
       ·dsimp only [go_sem];refine Zl2 7 ?_;dsimp only [e15,Zrm,go_sem];refine ⟨by simp,?_⟩;exact Zz4 J4 (s:=true) h
       ·dsimp only [go_sem];refine Zl2 7 ?_;dsimp only [e15,Zrm,go_sem];refine ⟨by simp,?_⟩;exact Zz4 J4 (s:=!decide (x11.Epoch=x16.Epoch)) h
    ·refine Zh3 (by kernel_rfl) fun all hall hs hnap haf=>?_;dsimp only [go_sem]
     refine Zi5 hall hs haf hnap 6 9 [true,true,true,true,false,false,true,true,false,false,false,false,false,false,false] (⟨(.any :: .any :: .iv x3 :: .ptr 0 0 :: .ptr 1 0 :: .any :: .any :: .ptr 2 0 :: .bv x10::an 39 (.ptr 0 0 :: .sl 3 (List.map Diner.row x1.Diners) :: .ptr 1 1 :: .iv x2.B :: .any :: .any :: .ptr 1 0 :: .iv x2.A::an 105 [])),[some ⟨25,[.sl 3 (List.map Diner.row x1.Diners),.sl 5 (List.map Mail.row x1.Mail)]⟩,some ⟨29,[.iv x2.A,.iv x2.B]⟩,some ⟨65,[.iv x11.Peer,.iv x11.Epoch,.iv x11.State,.bv x11.Fork,.bv x11.Dirty,.bv x11.Token,.bv x11.Bottle,.bv x11.Ask]⟩],[]⟩:St) (by kernel_rfl) ?_
     obtain ⟨x12,ex12,h⟩:=Option.bind_eq_some_iff.1 h;refine Zr4 hall hs haf hnap 4 Diner.row ex12 rfl rfl trivial rfl rfl rfl rfl ?_;refine Zh5 hall hs haf hnap 1 7 ?_;dsimp only [go_sem];refine ⟨by simp,?_⟩;obtain ⟨x13,ex13,h⟩:=Option.bind_eq_some_iff.1 h;refine Zu3 8 12 rfl ?_ ?_
     ·refine Zz3 hall rfl trivial (k_narthexref12_Side x12 x2.A _ ex13) (h:=?_);dsimp only [go_sem];refine Zh5 hall hs haf hnap 3 3 ?_;dsimp only [go_sem];refine ⟨by simp,?_⟩;refine Zt3 12 rfl ?_;refine Zy3 hall rfl trivial ?_;dsimp only [go_sem];refine Zt3 13 rfl ?_;refine Zy3 hall rfl trivial ?_;dsimp only [go_sem];refine Zh5 hall hs haf hnap 1 0 ?_;dsimp only [go_sem];refine ⟨by simp,?_⟩;refine Zs3 rfl ?_ _;exact Zz4 J3 (s:=(x13.2,x13.1)) h
     ·refine Zy3 hall rfl trivial ?_;dsimp only [go_sem];refine Zt3 8 rfl ?_;refine Zz3 hall rfl trivial (k_narthexref12_Side x12 x2.A _ ex13) (h:=?_);dsimp only [go_sem];refine Zh5 hall hs haf hnap 3 2 ?_;dsimp only [go_sem];refine ⟨by simp,?_⟩;refine Zt3 13 rfl ?_;refine Zy3 hall rfl trivial ?_;dsimp only [go_sem];refine Zh5 hall hs haf hnap 1 0 ?_;dsimp only [go_sem];refine ⟨by simp,?_⟩;refine Zs3 rfl ?_ _;exact Zz4 J3 (s:=(x13.2,x13.1)) h
   ·refine Zh3 (by kernel_rfl) fun all hall hs hnap haf=>?_;dsimp only [go_sem];refine Zi5 hall hs haf hnap 6 9 [true,true,true,true,false,false,true,true,false,false,false,false,false,false,false] (⟨(.any :: .any :: .iv x3 :: .ptr 0 0 :: .ptr 1 0::an 29 (.bv x6 :: .any :: .ptr 0 0 :: .sl 3 (List.map Diner.row x1.Diners) :: .ptr 1 0 :: .iv x2.A :: .any :: .any :: .ptr 1 1 :: .iv x2.B::an 117 [])),[some ⟨25,[.sl 3 (List.map Diner.row x1.Diners),.sl 5 (List.map Mail.row x1.Mail)]⟩,some ⟨29,[.iv x2.A,.iv x2.B]⟩],[]⟩:St) (by kernel_rfl) ?_
    obtain ⟨x7,ex7,h⟩:=Option.bind_eq_some_iff.1 h;refine Zr4 hall hs haf hnap 4 Diner.row ex7 rfl rfl trivial rfl rfl rfl rfl ?_;refine Zh5 hall hs haf hnap 1 7 ?_;dsimp only [go_sem];refine ⟨by simp,?_⟩;obtain ⟨x8,ex8,h⟩:=Option.bind_eq_some_iff.1 h;refine Zu3 8 12 rfl ?_ ?_
    ·refine Zz3 hall rfl trivial (k_narthexref12_Side x7 x2.B _ ex8) (h:=?_);dsimp only [go_sem];refine Zh5 hall hs haf hnap 3 3 ?_;dsimp only [go_sem];refine ⟨by simp,?_⟩;refine Zt3 12 rfl ?_;refine Zy3 hall rfl trivial ?_;dsimp only [go_sem];refine Zt3 13 rfl ?_;refine Zy3 hall rfl trivial ?_;dsimp only [go_sem];refine Zh5 hall hs haf hnap 1 0 ?_;dsimp only [go_sem];refine ⟨by simp,?_⟩;refine Zs3 rfl ?_ _;exact Zz4 J2 (s:=(x8.2,x8.1)) h
    ·refine Zy3 hall rfl trivial ?_;dsimp only [go_sem];refine Zt3 8 rfl ?_;refine Zz3 hall rfl trivial (k_narthexref12_Side x7 x2.B _ ex8) (h:=?_);dsimp only [go_sem];refine Zh5 hall hs haf hnap 3 2 ?_;dsimp only [go_sem];refine ⟨by simp,?_⟩;refine Zt3 13 rfl ?_;refine Zy3 hall rfl trivial ?_;dsimp only [go_sem];refine Zh5 hall hs haf hnap 1 0 ?_;dsimp only [go_sem];refine ⟨by simp,?_⟩;refine Zs3 rfl ?_ _;exact Zz4 J2 (s:=(x8.2,x8.1)) h
 ·refine Zw4 20 h rfl (fun _ h=>?_) fun _ h=>?_
  ·dsimp only [go_sem];refine Zl2 15 ?_;dsimp only [e15,Zrm,go_sem];refine ⟨by simp,?_⟩;exact Zz4 J1 (s:=true) h
  ·dsimp only [go_sem];refine Zl2 3 ?_;dsimp only [e15,Zrm,go_sem];refine ⟨by simp,?_⟩;obtain ⟨x5,ex5,h⟩:=Option.bind_eq_some_iff.1 h;refine Zz2 trivial (Z4l x1 x2.B _ ex5) (h:=?_);refine Zl2 3 ?_;dsimp only [e15,Zrm,go_sem];refine ⟨by simp,?_⟩;refine Zw4 27 h rfl (fun _ h=>?_) fun _ h=>?_
   ·dsimp only [go_sem];refine Zl2 8 ?_;dsimp only [e15,Zrm,go_sem];refine ⟨by simp,?_⟩;exact Zz4 J1 (s:=true) h
   ·dsimp only [go_sem];refine Zl2 3 ?_;dsimp only [e15,Zrm,go_sem];refine ⟨by simp,?_⟩;refine Zw4 30 h rfl (fun _ h=>?_) fun _ h=>?_
    ·dsimp only [go_sem];refine Zl2 5 ?_;dsimp only [e15,Zrm,go_sem];refine ⟨by simp,?_⟩;exact Zz4 J1 (s:=!decide (x3=2)) h
    ·dsimp only [go_sem];refine Zl2 5 ?_;dsimp only [e15,Zrm,go_sem];refine ⟨by simp,?_⟩;exact Zz4 J1 (s:=false) h
set_option maxRecDepth 100000
set_option maxHeartbeats 4000000
def Z7n:EC:=.seq (.seq (.reg [(Qa 8 (.mv (.t 6))),(Qa 9 (.fld 0 (.t 2))),(Qa 10 (.load (.t 9))),(Qa 11 (.len (.t 10))),(Qa 12 (.bin .lss (.t 8) (.t 11)))]) (.ite (.t 12) (.skip) (.exit 0))) (.seq (.blk 1 (.seq (.reg [(Qa 15 (.fld 0 (.t 2))),(Qa 16 (.load (.t 15))),(Qa 17 (.mv (.t 6))),(Qa 18 (.idx 3 (.t 16) (.t 17))),(Qa 19 (.fld 1 (.t 18))),(Qa 20 (.load (.t 19))),(Qa 21 (.mv (.t 1))),(Qa 22 (.bin .eql (.t 20) (.t 21)))]) (.ite (.t 22) (.reg [(Qa 23 (.mv (.t 5))),(Qa 24 (.fld 0 (.t 2))),(Qa 25 (.load (.t 24))),(Qa 26 (.mv (.t 6))),(Qa 27 (.idx 3 (.t 25) (.t 26))),(Qa 28 (.fld 0 (.t 27))),(Qa 29 (.load (.t 28))),(Qa 30 (.bsl 3 1 1 [.iv 0] [(0,(.t 29))])),(Qa 31 (.app 3 1 8 (.t 23) (.t 30))),(Qa 5 (.mv (.t 31)))]) (.skip)))) (.reg [(Qa 13 (.mv (.t 6))),(Qa 14 (.bin .add (.t 13) (.c (.iv 1)))),(Qa 6 (.mv (.t 14)))]))
def e18:EC:=.seq (.reg [(Qa 2 (.box 25 2 (.t 0))),(Qa 4 (.mv (.c .nl)))]) (.seq (.reg [(Qa 7 (.bsl 3 1 0 [.iv 0] [])),(Qa 5 (.mv (.t 7)))]) (.seq (.seq (.reg [(Qa 6 (.mv (.c (.iv 0))))]) (.blk 0 (.loop Z7n))) (.seq (.reg [(Qa 32 (.mv (.t 5))),(Qa 4 (.mv (.t 32)))]) (.ret))))
theorem ok18:FnOK Tryz.prog 18 Tryz.f18 e18 [.t 4] 2 31:=⟨by kernel_rfl,⟨_,rfl,by kernel_rfl⟩,by kernel_rfl,by kernel_rfl⟩
noncomputable def Z8n:(List Int)→Option (List Int)
| x21=>
 some x21
noncomputable def Z9n (x9:Int):(List Int)→Option ((Int×(List Int)) ⊕ (List Int))
| x14=>
 some (.inl (wr (x9+1),x14))
noncomputable def Zan (x1:Scene) (x2:Int):(Int×(List Int))→Option ((Int×(List Int)) ⊕ (List Int))
| (x9,x10)=>
 ifb (decide (x9<(ln Diner.row x1.Diners))) (
 (at_ x1.Diners x9).bind fun x11=>
 ifb (decide (x11.Phase=x2)) (
 (at_ x1.Diners x9).bind fun x12=>
 (Za4 8 x10 ([x12.ID])).bind fun x13=>
 (Z9n x9) x13) (
 (Z9n x9) x10)) (
 Option.map Sum.inr (Z8n x10))
noncomputable def Zbn (x1:Scene) (x2:Int):Option (List Int):=
 loop (Zan x1 x2) (0,([]:List Int))
theorem Zcn (x1:Scene) (x2:Int) (r:(List Int)) (h:Zbn x1 x2=some r):FunO Tryz.prog 18 [.agg (Scene.row x1),.iv x2] 3 1 (List.map Z45 r):=by
 refine Zc5 ok18 rfl fun w0 H0=>?_
 rw [Zbn] at h
 refine Zl2 15 ?_;dsimp only [e18,Z7n,go_sem];refine ⟨by simp,?_⟩;refine Zl4 (fun (x21:(List Int))=>(⟨(an 5 (.osl 0::an 27 [])),[],[some ⟨3,1,List.map Z45 x21⟩]⟩:St)) Z8n r ?_ fun J1=>?_
 ·intro x21 h;rw [Z8n] at h;(try dsimp only);refine Zl2 5 ?_;dsimp only [e18,Z7n,go_sem];refine ⟨by simp,?_⟩;exact Zj5 Z45 ok18 h rfl rfl
 ·refine Zl2 1 ?_;dsimp only [e18,Z7n,go_sem];refine ⟨by simp,?_⟩;refine Zm4 h (fun ((x9,x10):(Int×(List Int)))=>(⟨(.any :: .iv x2 :: .ptr 0 0 :: .any :: .any :: .osl 0 :: .iv x9::an 26 []),[some ⟨25,[.sl 3 (List.map Diner.row x1.Diners),.sl 5 (List.map Mail.row x1.Mail)]⟩],[some ⟨3,1,List.map Z45 x10⟩]⟩:St)) (by simp [go_sem]) (by rintro ⟨x9,x10⟩;first | rfl | simp [go_sem]) ?_;rintro n1 ⟨x9,x10⟩ y1 h hin1 hout1;rw [Zan] at h;(try dsimp only);refine Zl2 9 ?_;dsimp only [e18,Z7n,go_sem];refine ⟨by simp,?_⟩
  refine Zn4 h rfl (fun _ h=>?_) fun _ h=>?_
  ·refine Zl2 8 ?_;dsimp only [e18,Z7n,go_sem];refine ⟨by simp,?_⟩;obtain ⟨x11,ex11,h⟩:=Option.bind_eq_some_iff.1 h;refine Zq4 Diner.row ex11 trivial rfl rfl rfl ?_;refine Zl2 5 ?_;dsimp only [e18,Z7n,go_sem];refine ⟨by simp,?_⟩;refine Zl4 (fun (x14:(List Int))=>(⟨(.any :: .iv x2 :: .ptr 0 0 :: .any :: .any :: .osl 0 :: .iv x9::an 26 []),[some ⟨25,[.sl 3 (List.map Diner.row x1.Diners),.sl 5 (List.map Mail.row x1.Mail)]⟩],[some ⟨3,1,List.map Z45 x14⟩]⟩:St)) (Z9n x9) y1 ?_ fun J2=>?_
   ·intro x14 h;rw [Z9n] at h;(try dsimp only);refine Zl2 6 ?_;dsimp only [e18,Z7n,go_sem];refine ⟨by simp,?_⟩;exact Zy4 h hin1
   ·refine Zn4 h rfl (fun _ h=>?_) fun _ h=>?_
    ·refine Zl2 5 ?_;dsimp only [e18,Z7n,go_sem];refine ⟨by simp,?_⟩;obtain ⟨x12,ex12,h⟩:=Option.bind_eq_some_iff.1 h;refine Zq4 Diner.row ex12 trivial rfl rfl rfl ?_;refine Zl2 3 ?_;dsimp only [e18,Z7n,go_sem];refine ⟨by simp,?_⟩;obtain ⟨x13,ex13,h⟩:=Option.bind_eq_some_iff.1 h;refine Zt4 Z45 ex13 trivial rfl rfl rfl ?_;refine Zl2 2 ?_;dsimp only [e18,Z7n,go_sem];refine ⟨by simp,?_⟩;refine Z44 2 0 rfl rfl rfl ?_;dsimp only [go_sem];exact Zz4 J2 (s:=x13) h
    ·refine Zl2 1 ?_;dsimp only [e18,Z7n,go_sem];refine ⟨by simp,?_⟩;exact Zz4 J2 (s:=x10) h
  ·refine Zl2 1 ?_;dsimp only [e18,Z7n,go_sem];refine ⟨by simp,?_⟩;exact Zz4 J1 (s:=x10) (Zk4 h hout1)
theorem Zdn (x1:Scene) (x2:Int) (r:(List Int)) (h:Zbn x1 x2=some r):Zq2 Tryz.prog 18 [.agg (Scene.row x1),.iv x2] (.sl 1 (List.map Z45 r)):=(Zcn x1 x2 r h).sealed
end NX
end Go.Proofs.YtadebhbiglmodaaGreat
