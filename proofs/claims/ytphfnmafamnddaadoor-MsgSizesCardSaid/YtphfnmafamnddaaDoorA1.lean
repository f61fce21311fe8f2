/-
  The symbolic machine: regions that draw their order. No statement of the seat is proved here.
-/
import Derived.StillTail
import Derived.Laws.Cover3
import Derived.Laws.OwnMore
import Derived.Lib.AppendZeros
import Derived.ProofKit
import Derived.OpenShut
import Derived.Carry
import Derived.Laws.CopyRow
import Derived.Laws.IdiomCopy
import Derived.Laws.BytesString
import Derived.Test.YtphfnmafamnddaaDoorRows
import Derived.Lib.LaidU8
import Derived.Lib.LaidTab
import Derived.Lib.ItoaNum
import Derived.LaidMore
import Derived.KernelRfl
import Derived.Shelf.Strconv.Itoa3
import Derived.Test.YtphfnmafamnddaaDoorA0
namespace Go.Proofs.YtphfnmafamnddaaDoor
namespace NX
open Go Go.RowKit
theorem bget_eq:∀(l:List Bool) (i:Nat),bget l i=l.toArray.getD i true
 | [],i=>by simp [bget]
 | b::l,0=>by simp [bget]
 | b::l,i+1=>by
   have:=bget_eq l i
   simp [bget] at this ⊢
   exact this
theorem bgf_eq:∀(l:List Bool) (i:Nat),bgf l i=l.toArray.getD i false
 | [],i=>by simp [bgf]
 | b::l,0=>by simp [bgf]
 | b::l,i+1=>by
   have:=bgf_eq l i
   simp [bgf] at this ⊢
   exact this
theorem Z33:∀(l:List Bool) (i:Nat),(Z01 l i).toArray=l.toArray.setIfInBounds i true
 | [],i=>by simp [Z01]
 | b::l,0=>by simp [Z01]
 | b::l,i+1=>by
   have:=Z33 l i
   simp at this
   simp [Z01,this]
theorem Z43 (ld:List Bool):∀l:List Nat,Z11 ld l=true↔∀j∈l,bgf ld j=true
 | []=>by simp [Z11]
 | j::l=>by simp [Z11,Z41,Z43 ld l]
theorem rdy_mem (ld:List Bool):∀(af:List (List Nat)) (at_ i:Nat),i∈rdy ld af at_↔at_≤i∧∃w,af[i-at_]?=some w∧bget ld i=false∧Z11 ld w=true
 | [],at_,i=>by simp [rdy]
 | w::af,at_,i=>by
   have ih:=rdy_mem ld af (at_+1) i
   have step:(at_+1≤i∧∃w,af[i-(at_+1)]?=some w∧bget ld i=false∧Z11 ld w=true)↔(at_≤i∧i≠at_∧∃w',(w::af)[i-at_]?=some w'∧bget ld i=false∧Z11 ld w'=true):=by
    constructor
    ·rintro ⟨h1,w',h2,h3⟩
     exact ⟨by omega,by omega,w',by rw [show i-at_=(i-(at_+1))+1 from by omega];simpa using h2,h3⟩
    ·rintro ⟨h1,h2,w',h3,h4⟩
     rw [show i-at_=(i-(at_+1))+1 from by omega] at h3
     exact ⟨by omega,w',by simpa using h3,h4⟩
   simp only [rdy]
   split
   ·rename_i hb
    rw [ih,step]
    constructor
    ·rintro ⟨h1,_,h3⟩;exact ⟨h1,h3⟩
    ·rintro ⟨h1,w',h2,h3,h4⟩
     refine ⟨h1,?_,w',h2,h3,h4⟩
     rintro rfl;rw [hb] at h3;simp at h3
   ·rename_i hb
    split
    ·rename_i hd
     rw [List.mem_cons,ih,step]
     constructor
     ·rintro (rfl | ⟨h1,_,h3⟩)
      ·exact ⟨Nat.le_refl _,w,by simp,hb,hd⟩
      ·exact ⟨h1,h3⟩
     ·rintro ⟨h1,h2⟩
      by_cases e:i=at_
      ·exact .inl e
      ·exact .inr ⟨h1,e,h2⟩
    ·rename_i hd
     rw [ih,step]
     constructor
     ·rintro ⟨h1,_,h3⟩;exact ⟨h1,h3⟩
     ·rintro ⟨h1,w',h2,h3,h4⟩
      refine ⟨h1,?_,w',h2,h3,h4⟩
      rintro rfl
      simp at h2;subst h2;rw [h4] at hd;simp at hd
theorem Z53 (i:Nat):∀l:List Nat,memN i l=true↔i∈l
 | []=>by simp [memN]
 | j::l=>by
   simp only [memN]
   split
   ·rename_i h;simp at h;simp [h]
   ·rename_i h;simp at h;simp [h,Z53 i l]
theorem nget_eq (l:List (List Nat)) (i:Nat):Z21 l i=l.getD i []:=by
 induction l generalizing i with
 | nil=>simp [Z21]
 | cons x l ih=>cases i<;>simp [Z21,ih]
theorem eget_eq {l:List EOp} {i:Nat} (h:i<l.length):l[i]?=some (Z31 l i):=by
 induction l generalizing i with
 | nil=>simp at h
 | cons x l ih=>cases i with
   | zero=>simp [Z31]
   | succ i=>simpa [Z31] using ih (by simpa using h)
theorem Z63 {all:Array Oper} {ld:List Bool} {i:Nat}:i∈Region.ready .any all ld.toArray↔i∈rdy ld (Zb all) 0:=by
 rw [mem_ready,rdy_mem]
 simp only [Nat.zero_le,true_and,Nat.sub_zero,Zb,List.getElem?_map,Option.map_eq_some_iff,←bget_eq]
 constructor
 ·rintro ⟨h0,o,ho,hall⟩
  refine ⟨_,⟨o,by simpa using ho,rfl⟩,h0,(Z43 _ _).2 ?_⟩
  intro j hj
  rw [List.mem_filterMap] at hj
  obtain ⟨e,he,hb⟩:=hj
  split at hb
  ·rename_i hbb
   simp at hb;subst hb
   rw [bgf_eq]
   exact hall e (by simpa using he) hbb
  ·simp at hb
 ·rintro ⟨w,⟨o,ho,rfl⟩,h0,hd⟩
  rw [Z43] at hd
  refine ⟨h0,o,by simpa using ho,fun e he hb=>?_⟩
  have:=hd e.on (List.mem_filterMap.2 ⟨e,by simpa using he,by simp [hb]⟩)
  rw [bgf_eq] at this
  exact this
def keeps (S S1:St) (o:EO):Prop:=
 ∀j off n l,Zt S (.ptr j off) n=some l→puL l=true→(∀n a v j' off',o = .store n a v→S.x a = .ptr j' off'→j'≠j)→Zt S1 (.ptr j off) n=some l
def gno (S:St):Option (Nat×Bool)→Prop
 | none=>False
 | some (t,f)=>match lgt S.tm t,f with
   | .tt,false=>True
   | .ff,true=>True
   | .un,_=>True
   | _,_=>False
def SemR (c:Ctx) (S:St) (ro:Oper) (v:AV) (S1:St):Prop:=
 ∀M a w,RelT c M S a w→∀(next:Act→World→Prop) (Q:Exit→Act→World→Prop),
  (∀M' w' x,M.le M'→RelS c M' S1.bs S1.ss w'→v.is M' x→next (a.put ro.dst x) w')→ro.wp c.P a w next Q
section
variable (c:Ctx) (all:Array Oper) (ops:List EOp) (af:List (List Nat)) (Φ:St→Prop)
def G:Nat→List Bool→St→Prop
 | 0,ld,S=>rdy ld af 0=[]∧Φ S
 | m+1,ld,S=>(rdy ld af 0=[]→Φ S)∧∀i∈rdy ld af 0,
   (gno S (Z31 ops i).g∧G m (Z01 ld i) (S.put (Z31 ops i).d .un))∨
   (gm S (Z31 ops i).g∧∃v S1,(∀ro,all[i]?=some ro→SemR c S ro v S1)∧S1.tm=S.tm∧keeps S S1 (Z31 ops i).o∧G m (Z01 ld i) (S1.put (Z31 ops i).d v))
end
theorem gno_wanted {c:Ctx} {M:Mem} {S:St} {a:Act} {w:World} {all:Array Oper} {ro:Oper} {o:EOp} (hT:RelT c M S a w) (hc:Za c.P all ro=some o) (h:gno S o.g):Region.wanted ro (yielded all a.tmps)=false:=by
 unfold Za at hc
 cases hg:ro.guard with
 | none=>rw [hg] at hc;simp at hc;subst hc;exact h.elim
 | some jf=>
   obtain ⟨j,f⟩:=jf
   rw [hg] at hc
   dsimp only at hc
   split at hc
   ·rename_i t ht
    simp at hc;subst hc
    have hyl:=Zl2 (a:=a) ht
    have htm:=lgt_is (hT.tm t)
    simp only [gno] at h
    split at h
    ·rename_i hv
     rw [hv] at htm
     rw [show a.tmps.getD t undef = .bool true from htm] at hyl;simp [Region.wanted,hg,hyl]
    ·rename_i hv
     rw [hv] at htm
     rw [show a.tmps.getD t undef = .bool false from htm] at hyl;simp [Region.wanted,hg,hyl]
    ·rename_i hv
     rw [hv] at htm
     rw [show a.tmps.getD t undef=undef from htm] at hyl;simp [undef] at hyl;simp [Region.wanted,hg,hyl]
    ·exact h.elim
   ·simp at hc
theorem gm_wanted {c:Ctx} {M:Mem} {S:St} {a:Act} {w:World} {all:Array Oper} {ro:Oper} {o:EOp} (hT:RelT c M S a w) (hc:Za c.P all ro=some o) (h:gm S o.g):Region.wanted ro (yielded all a.tmps)=true:=by
 unfold Za at hc
 cases hg:ro.guard with
 | none=>simp [Region.wanted,hg]
 | some jf=>
   obtain ⟨j,f⟩:=jf
   rw [hg] at hc
   dsimp only at hc
   split at hc
   ·rename_i t ht
    simp at hc;subst hc
    have hyl:=Zl2 (a:=a) ht
    have htm:=lgt_is (hT.tm t)
    simp only [gm] at h
    split at h
    ·rename_i hv
     rw [hv] at htm
     rw [show a.tmps.getD t undef = .bool true from htm] at hyl;simp [Region.wanted,hg,hyl]
    ·rename_i hv
     rw [hv] at htm
     rw [show a.tmps.getD t undef = .bool false from htm] at hyl;simp [Region.wanted,hg,hyl]
    ·exact h.elim
   ·simp at hc
theorem Z73 {P:Program} {all:Array Oper} {ro:Oper} {o:EOp} (hc:Za P all ro=some o):ro.dst=o.d∧cO P ro.op=o.o:=by
 unfold Za at hc
 split at hc
 ·simp at hc;subst hc;exact ⟨rfl,rfl⟩
 ·split at hc
  ·simp at hc;subst hc;exact ⟨rfl,rfl⟩
  ·simp at hc
theorem op_at {P:Program} {all:Array Oper} {ops:List EOp} (hall:all.toList.mapM (Za P all)=some ops) {i:Nat} {ro:Oper} (hi:all[i]?=some ro):Za P all ro=some (Z31 ops i):=by
 obtain ⟨h1,h2⟩:=Zg2 hall
 obtain ⟨y,h3,h4⟩:=h2 i ro (by simpa using hi)
 have:=eget_eq (l:=ops) (i:=i) (List.getElem?_eq_some_iff.1 h3).1
 rw [h3] at this
 simp at this
 rw [h4,this]
theorem G_sound {c:Ctx} {all:Array Oper} {ops:List EOp} (hall:all.toList.mapM (Za c.P all)=some ops) {Φ:St→Prop} {Q:Exit→Act→World→Prop}
  (hΦ:∀S,Φ S→∀M a w,RelT c M S a w→Q .normal a w):∀(m:Nat) (ld:List Bool) (S:St),G c all ops (Zb all) Φ m ld S→∀M a w,RelT c M S a w→wpAny c.P .any all Q m ld.toArray a w
 | 0,ld,S,h,M,a,w,hT=>by
   refine ⟨?_,hΦ S h.2 M a w hT⟩
   cases hr:Region.ready .any all ld.toArray with
   | nil=>rfl
   | cons i r=>
     have:=Z63.1 (show i∈Region.ready .any all ld.toArray by rw [hr];simp)
     rw [h.1] at this;simp at this
 | m+1,ld,S,h,M,a,w,hT=>by
   refine ⟨fun hr=>hΦ S (h.1 ?_) M a w hT,fun i hi=>?_⟩
   ·cases hr':rdy ld (Zb all) 0 with
    | nil=>rfl
    | cons i r=>
      have:=Z63.2 (show i∈rdy ld (Zb all) 0 by rw [hr'];simp)
      rw [hr] at this;simp at this
   ·have hi2:=Z63.1 hi
    obtain ⟨_,ro,hro,_⟩:=mem_ready.1 hi
    have hc:=op_at hall hro
    obtain ⟨hd,_⟩:=Z73 hc
    unfold wpOp
    rw [hro]
    dsimp only
    rcases h.2 i hi2 with ⟨hg,hG⟩ | ⟨hg,v,S1,hs,htm,_,hG⟩
    ·rw [if_neg (by simp [gno_wanted hT hc hg]),←Z33]
     refine G_sound hall hΦ m _ _ hG M _ w ?_
     rw [←hd]
     exact hT.put ro.dst (.refl M) hT.st (v:=.un) rfl
    ·rw [if_pos (gm_wanted hT hc hg)]
     refine .inl (hs ro hro M a w hT _ _ fun M' w' x h1 h2 h3=>?_)
     rw [←Z33]
     refine G_sound hall hΦ m _ _ hG M' _ w' ?_
     rw [←hd]
     have:=hT.put ro.dst h1 h2 h3
     rw [←htm] at this
     exact this
theorem RelT.drew {c:Ctx} {M:Mem} {S:St} {a:Act} {w:World} (h:RelT c M S a w):RelT c M S a {w with drawn:=w.drawn+1}:=⟨h.len,h.tm,h.df,h.st.drew⟩
def Z83:Nat→List Bool
 | 0=>[]
 | n+1=>false::Z83 n
theorem Z93:∀n,Z83 n=List.replicate n false
 | 0=>rfl
 | n+1=>by simp [Z83,Z93 n,List.replicate_succ]
theorem falses_eq (n:Nat):(Z83 n).toArray=Array.replicate n false:=by
 rw [Z93,List.toArray_replicate]
theorem V_drw {c:Ctx} {S:St} {fn:Func} {K:AV→List (Option Blk)→List (Option Sl)→Prop} {k:List It} {ops:List EOp} {af nap:List (List Nat)} (hm:c.P.follows .mixedOrders=true)
  (h:∀all,all.toList.mapM (Za c.P all)=some ops→Region.noSelect all=true→nap=Zc all→af=Zb all→G c all ops af (fun S'=>V c fn K k S') (Zi ops) (Z83 (Zi ops)) S):V c fn K (.code (.drw ops af nap)::k) S:=
 Zu1 fun x hx rk M s w hr hT=>by
  obtain ⟨id,all,rfl,hall,hs,haf,hnap⟩:=cC_drw hx
  have hn:all.size=Zi ops:=by
   rw [Z61,(Zg2 hall).1];simp
  refine wp_region_any hm ?_
  rw [hn,←falses_eq]
  have h0:=h all hall hs hnap haf
  subst haf
  exact G_sound hall (fun S' hV M a w hT=>hV rk M a w hr hT) _ _ _ h0 M s _ hT.drew
def rd (S:St) (o:EO):Option (AV×Prop):=
 match o with
 | .mv x=>some (S.x x,True)
 | .pick c a b=>match tf (S.x c) with
   | .tt=>some (S.x a,True)
   | .ff=>some (S.x b,True)
   | _=>none
 | .load x=>match Zt S (S.x x) 1 with
   | some l=>match puL l with
     | true=>some (Zd l 0,True)
     | false=>none
   | none=>none
 | .loadA n x=>match Zt S (S.x x) n with
   | some l=>match puL l with
     | true=>some (.agg l,True)
     | false=>none
   | none=>none
 | .nilchk x=>match S.x x with
   | .ptr j off=>some (.ptr j off,True)
   | .elt row off=>some (.elt row off,True)
   | .oel j k off=>some (.oel j k off,True)
   | .clo f caps=>some (.clo f caps,True)
   | _=>none
 | .bin op x y=>Zn op (S.x x) (S.x y)
 | .sbin op x y=>(strI op (S.x x) (S.x y)).map fun r=>(r,True)
 | .slen x=>match S.x x with
   | .sv s=>some (.iv (Zo s),True)
   | _=>none
 | .eqs ng ks x y=>match S.x x,S.x y with
   | .agg l,.agg r=>(eqA ks l r).map fun e=>(.bv (ngB ng e),True)
   | _,_=>none
 | .bq ng x y=>match Zs (S.x x),Zs (S.x y) with
   | some a,some b=>some (.bv (ngB ng (a==b)),True)
   | _,_=>none
 | .not x=>match S.x x with
   | .tt=>some (.ff,True)
   | .ff=>some (.tt,True)
   | .bv e=>some (.bv (!e),True)
   | _=>none
 | .conv .i64 x=>match S.x x with
   | .iv a=>some (.iv (wr a),True)
   | .kv _ a=>some (.iv (wr a),True)
   | _=>none
 | .conv k x=>match S.x x with
   | .iv a=>some (mkI k (kw k a),True)
   | .kv _ a=>some (mkI k (kw k a),True)
   | _=>none
 | .fld off x=>match S.x x with
   | .ptr j o=>some (.ptr j (o+off),True)
   | .elt row o=>some (.elt row (o+off),True)
   | .oel j k o=>some (.oel j k (o+off),True)
   | _=>none
 | .build z ps=>(Zk z (Zr S ps)).map fun l=>(.agg l,True)
 | .ext x k=>match S.x x with
   | .tup l=>(Zh l k 1).map fun r=>(Zd r 0,True)
   | _=>none
 | .mkf f caps=>some (.clo f (Zp S caps),True)
 | .len x=>match S.x x with
   | .nl=>some (.iv 0,True)
   | .sl _ rows=>some (.iv rows.length,True)
   | _=>none
 | _=>none
theorem strI_val {M:Mem} {op:BinOp} {u v r:AV} (h:strI op u v=some r):∃x,r.is M x:=by
 unfold strI at h
 split at h
 ·split at h
  ·cases op<;>simp only [Option.some.injEq,reduceCtorEq] at h<;>subst h<;>exact ⟨_,rfl⟩
  ·simp at h
 ·simp at h
theorem binA_val {M:Mem} {op:BinOp} {u v r:AV} {p:Prop} (h:Zn op u v=some (r,p)):∃x,r.is M x:=by
 have k0:∀(k:IntKind) (n:Int),∃x,(mkI k n).is M x:=fun k n=>⟨_,mkI_is k n⟩
 have k1:∀ {op:BinOp} {k:IntKind} {a b:Int},shK op k a b=some (r,p)→∃x,r.is M x:=by
  intro op k a b h
  cases op<;>simp only [shK,Option.some.injEq,Prod.mk.injEq,reduceCtorEq] at h<;>rw [←h.1]<;>exact k0 _ _
 cases u with
 | iv a=>cases v with
   | iv b=>cases op<;>simp only [Zn,binI,Option.some.injEq,Prod.mk.injEq,reduceCtorEq] at h<;>rw [←h.1]<;>exact ⟨_,rfl⟩
   | kv j b=>exact k1 h
   | _=>simp [Zn] at h
 | kv k a=>cases v with
   | iv b=>exact k1 h
   | kv j b=>
     simp only [Zn] at h
     split at h
     ·split at h
      ·exact k1 h
      ·exact k1 h
      ·cases op<;>simp only [binK,Option.some.injEq,Prod.mk.injEq,reduceCtorEq] at h<;>rw [←h.1]<;>exact ⟨_,rfl⟩
     ·exact k1 h
   | _=>simp [Zn] at h
 | _=>simp [Zn] at h
theorem rd_ev {S:St} {o:EO} {v:AV} {q:Prop} (h:rd S o=some (v,q)):ev S o=some (v,S,q):=by
 cases o<;>simp only [rd,reduceCtorEq] at h<;>simp only [ev]
 case mv x=>simp at h;simp [h]
 case pick c a b=>split at h<;>simp_all
 case load x=>
  split at h
  ·rename_i l hl
   split at h<;>simp at h
   rw [hl];simp [h]
  ·simp at h
 case loadA n x=>
  split at h
  ·rename_i l hl
   split at h<;>simp at h
   rw [hl];simp [h]
  ·simp at h
 case nilchk x=>split at h<;>rename_i he<;>(try (simp at h;done))<;>(try rw [he])<;>simp at h<;>simp [h]
 case bin op x y=>simp [h]
 case sbin op x y=>
  simp only [Option.map_eq_some_iff,Prod.mk.injEq] at h
  obtain ⟨r,h1,rfl,rfl⟩:=h
  simp [h1]
 case slen x=>split at h<;>simp_all
 case conv k x=>cases k<;>simp only at h ⊢ <;>split at h<;>simp_all
 case eqs ng ks x y=>
  split at h
  ·rename_i e1 e2
   try rw [e1,e2]
   simp only [Option.map_eq_some_iff,Prod.mk.injEq] at h
   obtain ⟨e,h1,rfl,rfl⟩:=h
   simp [h1]
  ·simp at h
 case bq ng x y=>
  split at h
  ·rename_i e1 e2
   try rw [e1,e2]
   simp at h;simp [h]
  ·simp at h
 case not x=>split at h<;>simp_all
 case fld off x=>split at h<;>rename_i he<;>(try (simp at h;done))<;>(try rw [he])<;>simp at h<;>simp [h]
 case build z ps=>
  simp only [Option.map_eq_some_iff,Prod.mk.injEq] at h
  obtain ⟨l,hl,rfl,rfl⟩:=h
  rw [hl];rfl
 case ext x k=>
  split at h
  ·rename_i e
   simp only [Option.map_eq_some_iff,Prod.mk.injEq] at h
   obtain ⟨l,hl,rfl,rfl⟩:=h
   try rw [e]
   simp [hl]
  ·simp at h
 case mkf f caps=>simp at h;simp [h]
 case len x=>split at h<;>simp_all
def isLd:EO→Bool
 | .load _=>true
 | .loadA _ _=>true
 | _=>false
def isSt:EO→Bool
 | .store _ _ _=>true
 | _=>false
def orb:Bool→Bool→Bool
 | true,_=>true
 | false,b=>b
theorem orb_iff (a b:Bool):orb a b=true↔a=true∨b=true:=by cases a<;>simp [orb]
def frB (ld:List Bool) (af:List (List Nat)) (i:Nat):List Nat→Bool
 | []=>true
 | j::l=>Z2 (orb (bget ld j) (memN i (Z21 af j))) (frB ld af i l)
def stB (ld:List Bool) (af:List (List Nat)) (i:Nat):List EOp→Nat→Bool
 | [],_=>true
 | o::l,j=>Z2 (orb (bget ld j) (match isSt o.o with | true=>memN i (Z21 af j) | false=>true)) (stB ld af i l (j+1))
theorem frB_iff {ld:List Bool} {af:List (List Nat)} {i:Nat}:∀ {l:List Nat},frB ld af i l=true↔∀j∈l,bget ld j=true∨i∈Z21 af j
 | []=>by simp [frB]
 | j::l=>by simp [frB,Z41,orb_iff,Z53,frB_iff (l:=l)]
theorem stB_get {ld:List Bool} {af:List (List Nat)} {i:Nat}:∀ {l:List EOp} {at_:Nat},stB ld af i l at_=true→∀j,j<l.length→bget ld (at_+j)=true∨isSt (Z31 l j).o=false∨i∈Z21 af (at_+j)
 | [],_,_,j,h=>by simp at h
 | o::l,at_,h,0,_=>by
   simp only [stB,Z41,orb_iff] at h
   rcases h.1 with h1 | h1
   ·exact .inl h1
   ·cases hs:isSt o.o
    ·exact .inr (.inl hs)
    ·rw [hs] at h1;exact .inr (.inr ((Z53 _ _).1 h1))
 | o::l,at_,h,j+1,hj=>by
   simp only [stB,Z41] at h
   have:=stB_get h.2 j (by simpa using hj)
   rw [show at_+(j+1)=at_+1+j from by omega]
   exact this
theorem stB_mk {ld:List Bool} {af:List (List Nat)} {i:Nat}:∀ {l:List EOp} {at_:Nat},(∀j,j<l.length→bget ld (at_+j)=true∨isSt (Z31 l j).o=false∨i∈Z21 af (at_+j))→stB ld af i l at_=true
 | [],_,_=>rfl
 | o::l,at_,h=>by
   simp only [stB,Z41,orb_iff]
   refine ⟨?_,stB_mk fun j hj=>?_⟩
   ·rcases h 0 (by simp) with h1 | h1 | h1
    ·exact .inl h1
    ·right;rw [show isSt o.o=false from h1]
    ·right;cases isSt o.o
     ·rfl
     ·exact (Z53 _ _).2 h1
   ·have:=h (j+1) (by simpa using hj)
    rw [show at_+1+j=at_+(j+1) from by omega]
    exact this
theorem Za3:∀ {ld:List Bool} {i j:Nat},bget ld j=true→bget (Z01 ld i) j=true
 | [],_,_,h=>h
 | _::_,0,0,_=>rfl
 | _::_,0,_+1,h=>h
 | _::_,_+1,0,h=>h
 | _::ld,i+1,j+1,h=>Za3 (ld:=ld) (i:=i) (j:=j) h
theorem bset_comm (ld:List Bool) {i j:Nat} (h:i≠j):Z01 (Z01 ld i) j=Z01 (Z01 ld j) i:=by
 apply List.toArray_inj
 rw [Z33,Z33,Z33,Z33,Array.setIfInBounds_comm _ _ h]
theorem put_comm (S:St) (bs ss) {d e:Option Nat} (v u:AV) (h:∀x,d=some x→e≠some x):
  (⟨(S.put d v).tm,bs,ss⟩:St).put e u=(⟨(S.put e u).tm,bs,ss⟩:St).put d v:=by
 cases d with
 | none=>cases e<;>rfl
 | some d=>cases e with
   | none=>rfl
   | some e=>
     have hne:d≠e:=fun x=>h d rfl (by rw [x])
     simp only [St.put,St.mk.injEq,and_true]
     clear h
     generalize S.tm=l
     revert d e
     induction l with
     | nil=>intro d e _;rfl
     | cons y l ih=>
       intro d e hne
       cases d with
       | zero=>cases e with
         | zero=>omega
         | succ e=>rfl
       | succ d=>cases e with
         | zero=>rfl
         | succ e=>simp only [Ze,List.cons.injEq,true_and];exact ih d e (by omega)
theorem wp_unput {P:Program} {all:Array Oper} {o:Oper} (hsel:∀cs b,o.op≠ .select cs b) {a:Act} {w:World} {d:Tmp} {x:Value} (hl:d∉o.looksAt all) (hd:o.dst≠some d)
  {next:Act→World→Prop} {Q:Exit→Act→World→Prop} (h:o.wp P (a.put (some d) x) w (fun b w'=>next (b.put (some d) (a.tmps.getD d undef)) w') fun _ _ _=>False):o.wp P a w next Q:=by
 have hback:∀(ds:List Deferred) (y:Value),(((⟨a.tmps,ds⟩:Act).put (some d) x).put o.dst y).put (some d) (a.tmps.getD d undef)=(⟨a.tmps,ds⟩:Act).put o.dst y:=by
  intro ds y
  have h1:((⟨a.tmps,ds⟩:Act).put (some d) x).put (some d) (a.tmps.getD d undef)=⟨a.tmps,ds⟩:=by
   obtain ⟨tm,df⟩:=a
   simp only [Act.put,Act.mk.injEq,and_true]
   rw [Array.setIfInBounds_setIfInBounds]
   apply Array.ext'
   simp only [Array.toList_setIfInBounds]
   apply List.ext_getElem?
   intro j
   rw [List.getElem?_set]
   split
   ·rename_i e;subst e
    split
    ·rename_i h;simp at h;simp [h]
    ·rename_i h;simp at h;simp [h]
   ·rfl
  cases hdst:o.dst with
  | none=>exact h1
  | some e=>
    have hne:e≠d:=fun x=>hd (by rw [hdst,x])
    have h2:(((⟨a.tmps,ds⟩:Act).put (some d) x).put (some e) y).put (some d) (a.tmps.getD d undef)=(((⟨a.tmps,ds⟩:Act).put (some d) x).put (some d) (a.tmps.getD d undef)).put (some e) y:=by
     simp only [Act.put,Act.mk.injEq,and_true]
     rw [Array.setIfInBounds_comm _ _ hne]
    rw [h2,h1]
 unfold Oper.wp at h ⊢
 rw [execOp_put (ops:=all) o hsel a (some d) x (fun e he=>by simp at he;subst he;exact hl)] at h
 cases hrun:(execOp a.eval o).run P w with
 | halt hh w'=>
   rw [hrun] at h
   cases hh<;>first | exact h.elim | exact h
 | ok n w'=>
   rw [hrun] at h
   cases n<;>first | exact h.elim | skip
   case value v=>have:=hback a.defers v;simp only [Oper.upon] at h ⊢;rw [this] at h;exact h
   case skip=>have:=hback a.defers undef;simp only [Oper.upon] at h ⊢;rw [this] at h;exact h
   case defer q=>have:=hback (q::a.defers) undef;simp only [Oper.upon] at h ⊢;rw [←this];exact h
   case enter f args=>
    simp only [Oper.upon] at h ⊢
    refine h.mono ?_
    intro e w'' he
    cases e with
    | returned v=>have:=hback a.defers v;dsimp only at he ⊢;rw [this] at he;exact he
    | panicked ch=>exact he.elim
    | outgrown=>obtain ⟨_,_,he⟩:=he;exact he.elim
   case row r args=>
    simp only [Oper.upon] at h ⊢
    refine h.mono ?_
    intro v w'' he
    have:=hback a.defers v
    rw [this] at he;exact he
theorem X_tmp {o:Operand} {t:Nat} (h:cX o = .t t):o = .tmp t:=by
 cases o<;>simp [cX] at h;rw [h]
def agree (S S':St) (ro:Op):Prop:=∀o∈ro.operands,S'.x (cX o)=S.x (cX o)
theorem Zb3 {S S':St}:∀ {l:List Operand},(∀o∈l,S'.x (cX o)=S.x (cX o))→Zp S' (l.map cX)=Zp S (l.map cX)
 | [],_=>rfl
 | o::l,h=>by
   simp only [List.map_cons,Zp]
   rw [h o (by simp),Zb3 (fun x hx=>h x (by simp [hx]))]
theorem Zc3 {S S':St}:∀ {l:List (Nat×Nat×X)},(∀p∈l,S'.x p.2.2=S.x p.2.2)→Zr S' l=Zr S l
 | [],_=>rfl
 | (i,n,x)::l,h=>by
   simp only [Zr]
   rw [h (i,n,x) (by simp),Zc3 (fun p hp=>h p (by simp [hp]))]
theorem rd_agree {P:Program} {S S':St} {ro:Op} {v:AV} {q:Prop} (ha:agree S S' ro) (hr:isLd (cO P ro)=true→∀x n l,x∈ro.operands→Zt S (S.x (cX x)) n=some l→puL l=true→Zt S' (S.x (cX x)) n=some l)
  (h:rd S (cO P ro)=some (v,q)):rd S' (cO P ro)=some (v,q):=by
 cases ro with
 | move x=>simp only [cO,rd] at h ⊢;rw [ha x (by simp [Op.operands])];exact h
 | assign x=>simp only [cO,rd] at h ⊢;rw [ha x (by simp [Op.operands])];exact h
 | pick c a b=>
   simp only [cO,rd] at h ⊢
   rw [ha c (by simp [Op.operands]),ha a (by simp [Op.operands]),ha b (by simp [Op.operands])];exact h
 | load T x=>
   have hx:=ha x (by simp [Op.operands])
   simp only [cO] at h hr ⊢
   split at h
   ·rename_i h1
    simp only [h1] at hr ⊢
    simp only [rd] at h ⊢
    rw [hx]
    split at h
    ·rename_i l hl
     split at h
     ·rename_i hp
      rw [hr rfl x 1 l (by simp [Op.operands]) hl hp]
      simp only [hp];exact h
     ·simp at h
    ·simp at h
   ·rename_i h1
    simp only [h1] at hr ⊢
    simp only [rd] at h ⊢
    rw [hx]
    split at h
    ·rename_i l hl
     split at h
     ·rename_i hp
      rw [hr rfl x _ l (by simp [Op.operands]) hl hp]
      simp only [hp];exact h
     ·simp at h
    ·simp at h
   ·simp [rd] at h
 | nilCheck x=>simp only [cO,rd] at h ⊢;rw [ha x (by simp [Op.operands])];exact h
 | binOp op T x y T2=>
   have hx:=ha x (by simp [Op.operands])
   have hy:=ha y (by simp [Op.operands])
   simp only [cO] at h ⊢
   split at h
   ·rename_i h1
    split at h
    ·rename_i h2
     simp only [h2,if_true]
     simp only [rd] at h ⊢;rw [hx,hy];exact h
    ·simp [rd] at h
   ·split at h
    ·rename_i h3 h4
     cases op<;>simp only [rd,reduceCtorEq] at h ⊢ <;>rw [hx,hy]<;>exact h
    ·simp [rd] at h
   ·simp only [rd] at h ⊢;rw [hx,hy];exact h
   ·cases op<;>simp only [rd,reduceCtorEq] at h ⊢ <;>rw [hx,hy]<;>exact h
   ·split at h
    ·split at h<;>simp [rd] at h
    ·simp [rd] at h
   ·simp [rd] at h
   ·simp [rd] at h
 | unOp op T x=>
   have hx:=ha x (by simp [Op.operands])
   cases op<;>simp only [cO,rd,reduceCtorEq] at h ⊢
   rw [hx];exact h
 | convert A B x=>
   have hx:=ha x (by simp [Op.operands])
   simp only [cO] at h ⊢
   split at h
   ·rename_i k l hA hB
    cases l<;>simp only [rd] at h ⊢ <;>rw [hx]<;>exact h
   ·split at h<;>simp [rd] at h
   ·simp [rd] at h
 | fieldAddr T x f=>
   have hx:=ha x (by simp [Op.operands])
   simp only [cO] at h ⊢
   split at h
   ·rename_i h1
    split at h
    ·rename_i h2
     split at h
     ·rename_i h3
      simp only [h3,if_true]
      simp only [rd] at h ⊢;rw [hx];exact h
     ·simp [rd] at h
    ·simp [rd] at h
   ·simp [rd] at h
 | build T ps=>
   have hps:∀p∈ps.toList,S'.x (cX p.2)=S.x (cX p.2):=fun p hp=>ha p.2 (by simp [Op.operands];exact ⟨p.1,by simpa using hp⟩)
   simp only [cO] at h ⊢
   split at h
   ·rename_i h1 h2
    split at h
    ·rename_i pl hpl
     split at h
     ·rename_i l hl
      simp only [rd] at h ⊢
      rw [Zc3 (S:=S) (S':=S') (l:=l)]
      ·exact h
      ·intro p hp
       obtain ⟨k,hk⟩:=List.mem_iff_getElem?.1 hp
       obtain ⟨g1,g2⟩:=Zg2 hl
       have hlt:k<ps.toList.length:=by rw [←g1];exact (List.getElem?_eq_some_iff.1 hk).1
       obtain ⟨y,hy,hf⟩:=g2 k _ (List.getElem?_eq_getElem hlt)
       rw [hk] at hy
       simp only [Option.some.injEq] at hy
       subst hy
       simp only [Option.map_eq_some_iff] at hf
       obtain ⟨on,_,rfl⟩:=hf
       exact hps _ (List.getElem_mem hlt)
     ·simp [rd] at h
    ·simp [rd] at h
   ·rename_i h1 h2
    split at h
    ·rename_i h3
     simp only [rd] at h ⊢
     rw [Zc3 (S:=S) (S':=S')]
     ·exact h
     ·intro p hp
      rw [List.mem_map] at hp
      obtain ⟨q,hq,rfl⟩:=hp
      exact hps q hq
    ·simp [rd] at h
   ·simp [rd] at h
 | extract x k=>simp only [cO,rd] at h ⊢;rw [ha x (by simp [Op.operands])];exact h
 | makeFunc f fi cs=>
   simp only [cO] at h ⊢
   split at h
   ·split at h
    ·rename_i h2
     simp only [h2,if_true]
     simp only [rd] at h ⊢
     rw [Zb3 (fun o ho=>ha o (by simp [Op.operands];right;simpa using ho))];exact h
    ·simp [rd] at h
   ·simp [rd] at h
 | call ci=>
   obtain ⟨callee,cargs,argTypes⟩:=ci
   have hx:∀o∈cargs.toList,S'.x (cX o)=S.x (cX o):=fun o ho=>ha o (by simp [Op.operands,Call.operands];right;simpa using ho)
   cases callee with
   | value o=>cases o<;>(simp only [cO] at h)<;>(try split at h)<;>simp [rd] at h
   | invoke _ _=>simp [cO,rd] at h
   | builtin b=>
     cases b<;>simp only [cO] at h ⊢ <;>(try (simp [rd] at h;done))<;>(try ((repeat' (split at h))<;>simp [rd] at h;done))
     ·split at h
      ·rename_i t0 x h0 hargs
       split at h
       ·rename_i h1
        simp only [rd] at h ⊢
        rw [hx x (by rw [hargs];simp)];exact h
       ·rename_i h1
        simp only [rd] at h ⊢
        rw [hx x (by rw [hargs];simp)];exact h
       ·simp [rd] at h
      ·simp [rd] at h
 | alloc T=>simp only [cO] at h;split at h<;>simp [rd] at h
 | box T x=>simp only [cO] at h;split at h<;>simp [rd] at h
 | buildSlice T n ps=>simp only [cO] at h;(repeat' (split at h))<;>simp [rd] at h
 | store T x y=>simp only [cO] at h;(repeat' (split at h))<;>simp [rd] at h
 | field T x f=>simp only [cO] at h;(repeat' (split at h))<;>simp [rd] at h
 | indexAddr T x f=>simp only [cO] at h;(repeat' (split at h))<;>simp [rd] at h
 | index T x i=>simp only [cO] at h;(repeat' (split at h))<;>simp [rd] at h
 | slice T x lo hi mx=>simp only [cO] at h;(repeat' (split at h))<;>simp [rd] at h
 | makeSlice T x y=>simp only [cO] at h;(repeat' (split at h))<;>simp [rd] at h
 | _=>simp [cO,rd] at h
theorem fillA_ex {M:Mem}:∀ {avs:List (Nat×Nat×AV)} {zs:List AV} {z:List Value} {l:List AV},AV.isL M zs z→(∀p∈avs,∀cs,p.2.2.cells=some cs→∃vs,AV.isL M cs vs)→Zk zs avs=some l→∃r,AV.isL M l r
 | [],zs,z,l,hz,_,h=>by simp [Zk] at h;subst h;exact ⟨z,hz⟩
 | (o,n,x)::avs,zs,z,l,hz,hp,h=>by
   simp only [Zk] at h
   split at h
   ·rename_i cs hcs
    split at h
    ·split at h
     ·rename_i z' hz'
      obtain ⟨rfl,hle⟩:=Ze1 hz'
      obtain ⟨vs,hvs⟩:=hp (o,n,x) (by simp) cs hcs
      have hl:=Zf1 hvs
      refine fillA_ex (z:=z.take o++vs++z.drop (o+cs.length)) (Zg1 (Zg1 (Zh1 o hz) hvs) (Zi1 _ hz)) (fun p hq=>hp p (by simp [hq])) h
     ·simp at h
    ·simp at h
   ·simp at h
theorem head_ex {M:Mem} {l:List AV} {vs:List Value} (h:AV.isL M l vs) (h1:0<l.length):∃x,(Zd l 0).is M x:=by
 cases l with
 | nil=>simp at h1
 | cons y l=>obtain ⟨v,_,_,hv,_⟩:=h;exact ⟨v,hv⟩
theorem rd_ex {c:Ctx} {M:Mem} {S:St} {a:Act} {w:World} (hT:RelT c M S a w) {ro:Op} {v:AV} {q:Prop} (h:rd S (cO c.P ro)=some (v,q)):∃x,v.is M x:=by
 have X0:∀x:X,(∃o:Operand,cX o=x)→∃u,(S.x x).is M u:=by
  rintro x ⟨o,rfl⟩;exact ⟨_,Zx1 hT o⟩
 cases ro with
 | move x=>simp only [cO,rd,Option.some.injEq,Prod.mk.injEq] at h;rw [←h.1];exact ⟨_,Zx1 hT x⟩
 | assign x=>simp only [cO,rd,Option.some.injEq,Prod.mk.injEq] at h;rw [←h.1];exact ⟨_,Zx1 hT x⟩
 | pick p x y=>
   simp only [cO,rd] at h
   split at h<;>simp at h
   ·rw [←h.1];exact ⟨_,Zx1 hT x⟩
   ·rw [←h.1];exact ⟨_,Zx1 hT y⟩
 | load T x=>
   have hx:=Zx1 hT x
   simp only [cO] at h
   split at h<;>simp only [rd,reduceCtorEq] at h
   ·split at h
    ·rename_i l hl
     split at h<;>simp at h
     rw [←h.1]
     obtain ⟨_,_,vs,_,h2,h3,_⟩:=Zb2 hT hx hl
     exact head_ex h2 (by have:=Zf1 h2;omega)
    ·simp at h
   ·split at h
    ·rename_i l hl
     split at h<;>simp at h
     rw [←h.1]
     obtain ⟨_,_,vs,_,h2,h3,_⟩:=Zb2 hT hx hl
     exact ⟨_,vs,rfl,h2⟩
    ·simp at h
 | nilCheck x=>
   have hx:=Zx1 hT x
   simp only [cO,rd] at h
   split at h<;>rename_i hv<;>simp at h<;>(rw [←h.1];rw [hv] at hx;exact ⟨_,hx⟩)
 | binOp op T x y T2=>
   simp only [cO] at h
   split at h
   ·split at h
    ·simp only [rd] at h
     exact binA_val h
    ·simp [rd] at h
   ·split at h
    ·split at h<;>simp only [rd,reduceCtorEq] at h
     all_goals
      split at h
      ·simp only [Option.map_eq_some_iff,Prod.mk.injEq] at h
       obtain ⟨e,h1,rfl,_⟩:=h
       exact ⟨_,rfl⟩
      ·simp at h
    ·simp [rd] at h
   ·simp only [rd,Option.map_eq_some_iff,Prod.mk.injEq] at h
    obtain ⟨r,h1,rfl,_⟩:=h
    exact strI_val h1
   ·split at h<;>simp only [rd,reduceCtorEq] at h
    all_goals
     split at h<;>simp only [Option.some.injEq,Prod.mk.injEq,reduceCtorEq] at h
     rw [←h.1];exact ⟨_,rfl⟩
   ·split at h
    ·split at h<;>simp [rd] at h
    ·simp [rd] at h
   ·simp [rd] at h
   ·simp [rd] at h
 | unOp op T x=>
   cases op<;>simp only [cO,rd,reduceCtorEq] at h
   split at h<;>simp at h<;>rw [←h.1]<;>exact ⟨_,rfl⟩
 | fieldAddr T x f=>
   have hx:=Zx1 hT x
   simp only [cO] at h
   split at h
   ·split at h
    ·split at h
     ·simp only [rd] at h
      split at h<;>rename_i hv<;>simp at h<;>rw [←h.1]<;>rw [hv] at hx
      ·exact ⟨_,hx.1,rfl⟩
      ·obtain ⟨ad,vs,_,h2,h3⟩:=hx;exact ⟨_,ad,vs,rfl,h2,h3⟩
      ·obtain ⟨h0,g,n,cp,h1,_⟩:=hx;exact ⟨_,h0,g,n,cp,h1,rfl⟩
     ·simp [rd] at h
    ·simp [rd] at h
   ·simp [rd] at h
 | build T ps=>
   have key:∀ {z:List AV} {zs:List Value} {l:List (Nat×Nat×X)},AV.isL M z zs→(∀p∈l,∃o:Operand,cX o=p.2.2)→rd S (.build z l)=some (v,q)→∃x,v.is M x:=by
    intro z zs l hz hl h
    simp only [rd,Option.map_eq_some_iff,Prod.mk.injEq] at h
    obtain ⟨r,hr,rfl,_⟩:=h
    obtain ⟨u,hu⟩:=fillA_ex hz (fun p hp cs hc=>by
     obtain ⟨k,hk⟩:=List.mem_iff_getElem?.1 hp
     have hlt:k<l.length:=by rw [←Zh2 S l];exact (List.getElem?_eq_some_iff.1 hk).1
     have h1:=Zi2 S l k l[k].1 l[k].2.1 l[k].2.2 (List.getElem?_eq_getElem hlt)
     rw [hk] at h1
     simp at h1
     obtain ⟨o,ho⟩:=hl _ (List.getElem_mem hlt)
     subst h1
     dsimp only at hc
     rw [←ho] at hc
     exact ⟨_,cellsX hT o cs hc⟩) hr
    exact ⟨_,u,rfl,hu⟩
   simp only [cO] at h
   split at h
   ·rename_i hz
    obtain ⟨_,u,_,_,_,rfl⟩:=Z62 hz
    split at h
    ·split at h
     ·rename_i l hl
      refine key (Zn1 M _) ?_ h
      intro p hp
      obtain ⟨k,hk⟩:=List.mem_iff_getElem?.1 hp
      obtain ⟨g1,g2⟩:=Zg2 hl
      have hlt:k<ps.toList.length:=by rw [←g1];exact (List.getElem?_eq_some_iff.1 hk).1
      obtain ⟨y,hy,hf⟩:=g2 k _ (List.getElem?_eq_getElem hlt)
      rw [hk] at hy
      simp only [Option.some.injEq] at hy
      subst hy
      simp only [Option.map_eq_some_iff] at hf
      obtain ⟨on,_,rfl⟩:=hf
      exact ⟨_,rfl⟩
     ·simp [rd] at h
    ·simp [rd] at h
   ·rename_i hz
    obtain ⟨_,u,_,_,_,rfl⟩:=Z62 hz
    split at h
    ·refine key (Zn1 M _) ?_ h
     intro p hp
     rw [List.mem_map] at hp
     obtain ⟨q,_,rfl⟩:=hp
     exact ⟨_,rfl⟩
    ·simp [rd] at h
   ·simp [rd] at h
 | extract x k=>
   have hx:=Zx1 hT x
   simp only [cO,rd] at h
   split at h
   ·rename_i l hv
    simp only [Option.map_eq_some_iff,Prod.mk.injEq] at h
    obtain ⟨r,hr,rfl,_⟩:=h
    obtain ⟨rfl,hle⟩:=Zd1 hr
    rw [hv] at hx
    obtain ⟨vs,_,h2⟩:=hx
    exact head_ex (Zh1 1 (Zi1 k h2)) (by simp;omega)
   ·simp at h
 | makeFunc f fi cs=>
   simp only [cO] at h
   split at h
   ·split at h
    ·simp only [rd,Option.some.injEq,Prod.mk.injEq] at h
     rw [←h.1]
     exact ⟨_,_,rfl,Ze2 hT cs.toList⟩
    ·simp [rd] at h
   ·simp [rd] at h
 | call ci=>
   obtain ⟨callee,cargs,argTypes⟩:=ci
   cases callee with
   | value o=>cases o<;>(simp only [cO] at h)<;>(try split at h)<;>simp [rd] at h
   | invoke _ _=>simp [cO,rd] at h
   | builtin b=>
     cases b<;>simp only [cO] at h<;>(try (simp [rd] at h;done))<;>(try ((repeat' (split at h))<;>simp [rd] at h;done))
     ·split at h
      ·split at h
       ·simp only [rd] at h
        split at h<;>simp at h<;>rw [←h.1]<;>exact ⟨_,rfl⟩
       ·simp only [rd] at h
        split at h<;>simp at h;rw [←h.1];exact ⟨_,rfl⟩
       ·simp [rd] at h
      ·simp [rd] at h
 | convert A B x=>
   simp only [cO] at h
   split at h
   ·rename_i k l hA hB
    cases l<;>simp only [rd] at h<;>split at h<;>simp only [Option.some.injEq,Prod.mk.injEq,reduceCtorEq] at h<;>rw [←h.1]<;>first | exact ⟨_,mkI_is _ _⟩ | exact ⟨_,rfl⟩
   ·split at h<;>simp [rd] at h
   ·simp [rd] at h
 | alloc T=>simp only [cO] at h;split at h<;>simp [rd] at h
 | box T x=>simp only [cO] at h;split at h<;>simp [rd] at h
 | buildSlice T n ps=>simp only [cO] at h;(repeat' (split at h))<;>simp [rd] at h
 | store T x y=>simp only [cO] at h;(repeat' (split at h))<;>simp [rd] at h
 | field T x f=>simp only [cO] at h;(repeat' (split at h))<;>simp [rd] at h
 | indexAddr T x f=>simp only [cO] at h;(repeat' (split at h))<;>simp [rd] at h
 | index T x i=>simp only [cO] at h;(repeat' (split at h))<;>simp [rd] at h
 | slice T x lo hi mx=>simp only [cO] at h;(repeat' (split at h))<;>simp [rd] at h
 | makeSlice T x y=>simp only [cO] at h;(repeat' (split at h))<;>simp [rd] at h
 | _=>simp [cO,rd] at h
theorem Zd3 {S:St} {d:Option Nat} {v:AV} {t:Nat} (h:d≠some t):Zd (S.put d v).tm t=Zd S.tm t:=by
 cases d with
 | none=>rfl
 | some d=>simp only [St.put,Z71];rw [if_neg (fun e=>h (by rw [e.1]))]
theorem x_put_ne {S:St} {d:Option Nat} {v:AV} {x:X} (h:∀t,x = .t t→d≠some t):(S.put d v).x x=S.x x:=by
 cases x with
 | t n=>exact Zd3 (h n rfl)
 | c a=>rfl
 | bad=>rfl
theorem put_mem (S:St) (d:Option Nat) (v:AV):(S.put d v).bs=S.bs∧(S.put d v).ss=S.ss:=by cases d<;>exact ⟨rfl,rfl⟩
theorem Ze3 {S S':St} (h:S'.bs=S.bs) (x:AV) (n:Nat):Zt S' x n=Zt S x n:=by
 unfold Zt
 rw [h]
theorem Zf3 {all:Array Oper} {ro:Oper} {t:Tmp} (h:Operand.tmp t∈ro.op.operands):t∈ro.looksAt all:=
 List.mem_append_left _ (List.mem_filterMap.2 ⟨.tmp t,by simpa using h,rfl⟩)
theorem Zg3 {P:Program} {all:Array Oper} {ro:Oper} {o:EOp} (hc:Za P all ro=some o) {t:Nat} {f:Bool} (hg:o.g=some (t,f)):t∈ro.looksAt all:=by
 unfold Za at hc
 cases h:ro.guard with
 | none=>rw [h] at hc;simp at hc;subst hc;simp at hg
 | some jf=>
   obtain ⟨j,f'⟩:=jf
   rw [h] at hc
   dsimp only at hc
   split at hc
   ·rename_i t' ht
    simp at hc;subst hc
    simp at hg
    obtain ⟨rfl,rfl⟩:=hg
    exact List.mem_append_right _ (by simp [h,ht])
   ·simp at hc
theorem agree_put {all:Array Oper} {ro:Oper} {S:St} {d:Option Nat} {v:AV} (h:∀t,d=some t→t∉ro.looksAt all):agree S (S.put d v) ro.op:=by
 intro o ho
 refine x_put_ne fun t ht hd=>?_
 have:=X_tmp ht
 subst this
 exact h t hd (Zf3 ho)
theorem gm_agree {S S':St} {g:Option (Nat×Bool)} (h:∀t f,g=some (t,f)→Zd S'.tm t=Zd S.tm t):gm S' g=gm S g∧gno S' g=gno S g:=by
 cases g with
 | none=>exact ⟨rfl,rfl⟩
 | some tf=>obtain ⟨t,f⟩:=tf;simp only [gm,gno,lgt,h t f rfl,and_self]
theorem nap_apart {all:Array Oper} {i j:Nat} {x y:Oper} (hi:all[i]?=some x) (hj:all[j]?=some y) (hne:j≠i) (h:j∉Z21 (Zc all) i):x.apart all y=true:=by
 have hi':i<all.size:=(Array.getElem?_eq_some_iff.1 hi).1
 have hj':j<all.size:=(Array.getElem?_eq_some_iff.1 hj).1
 rw [nget_eq,Zc,List.getD_eq_getElem?_getD,List.getElem?_map,List.getElem?_range hi'] at h
 simp only [Option.map_some,Option.getD_some,List.mem_filter,List.mem_range,hj',true_and,hi,hj] at h
 cases hh:x.apart all y
 ·exact absurd (by simp [hh,hne.symm]) h
 ·rfl
theorem Zh3 (S:St) (o:EO):keeps S S o:=fun _ _ _ _ h _ _=>h
theorem bget_false {ld:List Bool} {i:Nat} (h:bget ld i=false):bgf ld i=false:=by
 rw [bget_eq] at h
 rw [bgf_eq]
 exact getD_both h
theorem rdy_parts {all:Array Oper} {ld:List Bool} {j:Nat} (h:j∈rdy ld (Zb all) 0):bget ld j=false∧(∀i∈Z21 (Zb all) j,bgf ld i=true)∧∃ro,all[j]?=some ro:=by
 obtain ⟨_,ro,hro,_⟩:=mem_ready.1 (Z63.2 h)
 rw [rdy_mem] at h
 obtain ⟨_,w,h1,h2,h3⟩:=h
 refine ⟨h2,?_,ro,hro⟩
 rw [Z43] at h3
 rw [nget_eq,List.getD_eq_getElem?_getD]
 simp only [Nat.sub_zero] at h1
 rw [h1]
 exact h3
theorem rdy_bset {all:Array Oper} {ld:List Bool} {i j:Nat} (h:j∈rdy ld (Zb all) 0) (hne:j≠i):j∈rdy (Z01 ld i) (Zb all) 0:=by
 have:=ready_mono (Z63.2 h) hne
 rw [←Z33] at this
 exact Z63.1 this
theorem cO_store {P:Program} {op:Op} {n t:Nat} {v:X} (h:cO P op = .store n (.t t) v):Operand.tmp t∈op.operands:=by
 cases op
 case store T x y=>
  simp only [cO] at h
  split at h
  ·simp only [EO.store.injEq] at h
   have:=X_tmp h.2.1
   subst this
   simp [Op.operands]
  ·simp at h
 all_goals (simp only [cO] at h;(repeat' (split at h))<;>simp at h)
def pur (S:St) (o:EO) (v:AV):Prop:=isLd o=false∧∃xs:List X,(∀(P:Program) (op:Op),cO P op=o→∀x∈xs,∃p,p∈op.operands∧cX p=x)∧
 ∀S':St,(∀x∈xs,S'.x x=S.x x)→∀c:Ctx,Sem1 c S' o v S'∧∀M a w op,cO c.P op=o→RelT c M S' a w→∃u,v.is M u
def tk (S:St) (o:EOp) (v:AV) (q:Prop):Prop:=(gm S o.g∧rd S o.o=some (v,q))∨(gno S o.g∧v = .un)∨
 (gm S o.g∧∃n x y m rows j row,o.o = .idx n x y∧S.x x = .sl m rows∧S.x y = .iv j∧m=n∧0≤j∧rows[j.toNat]?=some row∧v = .elt row 0)∨(gm S o.g∧pur S o.o v)
theorem elt_ex {M:Mem} {m:Nat} {rows:List (List AV)} {u:Value} (h:AV.is M (.sl m rows) u) {k:Nat} {row:List AV} (hr:rows[k]?=some row):∃x,AV.is M (.elt row 0) x:=by
 obtain ⟨ad,cp,g1,g2,g3⟩:=h
 have hlt:=(List.getElem?_eq_some_iff.1 hr).1
 obtain ⟨ad,vss,rfl,g4,g5⟩:=g3 (by intro e;subst e;simp at hlt)
 obtain ⟨vs,q1,q2,q3,q4⟩:=isLL_get g4 _ row hr
 obtain ⟨s1,s2,cs,T',fr,s3,s4⟩:=g5
 refine ⟨_,⟨ad.block,ad.off+k*m,none⟩,vs,rfl,q3,rfl,?_,cs,T',fr,s3,?_⟩
 ·intro v hv
  obtain ⟨t,ht⟩:=List.mem_iff_getElem?.1 hv
  exact s2 v (List.mem_iff_getElem?.2 ⟨_,q4 t v ht⟩)
 ·intro t v ht
  have:=s4 _ v (q4 t v ht)
  dsimp only
  rw [show ad.off+k*m+t=ad.off+(k*m+t) from by omega]
  exact this
theorem Zi3 {c:Ctx} {all:Array Oper} {ops:List EOp} (hall:all.toList.mapM (Za c.P all)=some ops) (hsel:Region.noSelect all=true) {Φ:St→Prop} (i:Nat) {v:AV} {q:Prop} (hq:q):
  ∀(m:Nat) (ld:List Bool) (S:St),i∈rdy ld (Zb all) 0→tk S (Z31 ops i) v q→frB ld (Zb all) i (Z21 (Zc all) i)=true→
   (isLd (Z31 ops i).o=true→stB ld (Zb all) i ops 0=true)→G c all ops (Zb all) Φ m (Z01 ld i) (S.put (Z31 ops i).d v)→G c all ops (Zb all) Φ (m+1) ld S
 | m,ld,S,hi,hg,hf,hst,h=>by
   obtain ⟨hib,hia,ri,hri⟩:=rdy_parts hi
   have hci:=op_at hall hri
   obtain ⟨hdi,hoi⟩:=Z73 hci
   refine ⟨fun h0=>by rw [h0] at hi;simp at hi,fun j hj=>?_⟩
   by_cases hji:j=i
   ·subst hji
    rcases hg with ⟨hg,hr⟩ | ⟨hg,rfl⟩ | ⟨hg,n,x,y,m',rows,jj,row,h1,h2,h3,h4,h5,h6,rfl⟩ | ⟨hg,_,xs,_,hp⟩
    case inr.inl=>exact .inl ⟨hg,h⟩
    case inr.inr.inr=>
     refine .inr ⟨hg,v,S,fun ro hro=>?_,rfl,Zh3 _ _,h⟩
     have:ro=ri:=by rw [hri] at hro;simpa using hro.symm
     subst this
     exact (hp S (fun _ _=>rfl) c).1 ro hoi
    case inr.inr.inl=>
     refine .inr ⟨hg,.elt row 0,S,fun ro hro=>?_,rfl,Zh3 _ _,h⟩
     have:ro=ri:=by rw [hri] at hro;simpa using hro.symm
     subst this
     exact sem_idx row h2 h3 h4 h5 h6 ro (by rw [hoi];exact h1)
    refine .inr ⟨hg,v,S,fun ro hro M a w hT next Q hn=>?_,rfl,Zh3 _ _,h⟩
    have:ro=ri:=by rw [hri] at hro;simpa using hro.symm
    subst this
    exact sem_ev (rd_ev hr) hq ro hoi M a w hT next Q hn
   ·obtain ⟨hjb,hja,rj,hrj⟩:=rdy_parts hj
    have hcj:=op_at hall hrj
    obtain ⟨hdj,hoj⟩:=Z73 hcj
    have hnw:i∉Z21 (Zb all) j:=fun e=>by
     have h1:=hja i e
     rw [bget_false hib] at h1;simp at h1
    have hap:ri.apart all rj=true:=by
     refine nap_apart hri hrj hji fun e=>?_
     rcases (frB_iff.1 hf) j e with h1 | h1
     ·rw [hjb] at h1;simp at h1
     ·exact hnw h1
    obtain ⟨p1,p2,ap2⟩:=Oper.apart_spec hap
    have ap1:∀d,ri.dst=some d→d∉rj.looksAt all∧rj.dst≠some d:=fun d hd=>⟨p1 d hd,p2 d hd⟩
    have hj2:=rdy_bset hj hji
    have hi2:=rdy_bset hi (Ne.symm hji)
    have hcomm:=bset_comm ld (Ne.symm hji)
    have hlen:j<ops.length:=by
     obtain ⟨h1,h2⟩:=Zg2 hall
     rw [h1];simpa using (Array.getElem?_eq_some_iff.1 hrj).1
    have hf':frB (Z01 ld j) (Zb all) i (Z21 (Zc all) i)=true:=frB_iff.2 fun k hk=>(frB_iff.1 hf k hk).imp Za3 id
    have hst':isLd (Z31 ops i).o=true→stB (Z01 ld j) (Zb all) i ops 0=true:=fun hl=>stB_mk fun k hk=>by
     rcases stB_get (hst hl) k hk with h1 | h1 | h1
     ·exact .inl (Za3 h1)
     ·exact .inr (.inl h1)
     ·exact .inr (.inr h1)
    have hgj:gm (S.put (Z31 ops i).d v) (Z31 ops j).g=gm S (Z31 ops j).g∧gno (S.put (Z31 ops i).d v) (Z31 ops j).g=gno S (Z31 ops j).g:=
     gm_agree fun t f ht=>Zd3 fun e=>(ap1 t (by rw [hdi];exact e)).1 (Zg3 hcj ht)
    have next_ok:∀(u:AV) (bs ss),(∀j' off n l,Zt S (.ptr j' off) n=some l→puL l=true→isLd (Z31 ops i).o=true→Zt ⟨S.tm,bs,ss⟩ (.ptr j' off) n=some l)→
     tk ((⟨S.tm,bs,ss⟩:St).put (Z31 ops j).d u) (Z31 ops i) v q:=by
     intro u bs ss hrow
     have e1:agree S ((⟨S.tm,bs,ss⟩:St).put (Z31 ops j).d u) ri.op:=by
      intro o ho
      have:(⟨S.tm,bs,ss⟩:St).x (cX o)=S.x (cX o):=by cases cX o<;>rfl
      rw [←this]
      exact agree_put (all:=all) (ro:=ri) (S:=⟨S.tm,bs,ss⟩) (fun t ht=>ap2 t (by rw [hdj];exact ht)) o ho
     have e2:=gm_agree (S:=S) (S':=(⟨S.tm,bs,ss⟩:St).put (Z31 ops j).d u) (g:=(Z31 ops i).g) fun t f ht=>
      Zd3 (S:=⟨S.tm,bs,ss⟩) fun e=>ap2 t (by rw [hdj];exact e) (Zg3 hci ht)
     rcases hg with ⟨hg,hr⟩ | ⟨hg,hv⟩ | ⟨hg,n,x,y,m',rows,jj,row,h1,h2,h3,h4,h5,h6,hv⟩ | ⟨hg,hl,xs,hx,hp⟩
     rotate_left 3
     ·refine .inr (.inr (.inr ⟨by rw [e2.1];exact hg,hl,xs,hx,fun S' hS'=>hp S' fun x hm=>?_⟩))
      rw [hS' x hm]
      obtain ⟨p,p1,p2⟩:=hx c.P ri.op hoi x hm
      rw [←p2];exact e1 p p1
     ·refine .inl ⟨by rw [e2.1];exact hg,?_⟩
      rw [←hoi] at hr ⊢
      refine rd_agree e1 (fun hl x n l _ hrw hp=>?_) hr
      have hb:=(put_mem (⟨S.tm,bs,ss⟩:St) (Z31 ops j).d u).1
      rw [Ze3 hb]
      cases hx:S.x (cX x) with
      | ptr j' off=>rw [hx] at hrw;exact hrow j' off n l hrw hp (by rw [←hoi];exact hl)
      | elt row off=>rw [hx] at hrw;exact hrw
      | _=>rw [hx] at hrw;simp [Zt] at hrw
     ·exact .inr (.inl ⟨by rw [e2.2];exact hg,hv⟩)
     ·refine .inr (.inr (.inl ⟨by rw [e2.1];exact hg,n,x,y,m',rows,jj,row,h1,?_,?_,h4,h5,h6,hv⟩))
      ·rw [←hoi] at h1
       obtain ⟨T,y1,z1,e,hop,_,_,hy,hz⟩:=cO_idx h1
       rw [←hy,e1 y1 (by rw [hop];simp [Op.operands]),hy];exact h2
      ·rw [←hoi] at h1
       obtain ⟨T,y1,z1,e,hop,_,_,hy,hz⟩:=cO_idx h1
       rw [←hz,e1 z1 (by rw [hop];simp [Op.operands]),hz];exact h3
    have hdne:∀x,(Z31 ops i).d=some x→(Z31 ops j).d≠some x:=fun x hx=>by
     have:=(ap1 x (by rw [hdi];exact hx)).2
     rw [hdj] at this;exact this
    cases m with
    | zero=>have:=h.1;rw [this] at hj2;simp at hj2
    | succ m=>
      rcases h.2 j hj2 with ⟨g1,g2⟩ | ⟨g1,u,S1,g2,g3,g4,g5⟩
      ·refine .inl ⟨by rw [←hgj.2];exact g1,?_⟩
       have n1:=next_ok .un S.bs S.ss (fun _ _ _ _ h _ _=>h)
       refine Zi3 hall hsel i hq m (Z01 ld j) _ hi2 n1 hf' hst' ?_
       rw [←hcomm]
       have e:=put_comm S S.bs S.ss (d:=(Z31 ops i).d) (e:=(Z31 ops j).d) v .un hdne
       have e2:(⟨(S.put (Z31 ops i).d v).tm,S.bs,S.ss⟩:St)=S.put (Z31 ops i).d v:=by cases (Z31 ops i).d<;>rfl
       have e3:(⟨(S.put (Z31 ops j).d .un).tm,S.bs,S.ss⟩:St)=S.put (Z31 ops j).d .un:=by cases (Z31 ops j).d<;>rfl
       rw [e2,e3] at e
       rw [←e];exact g2
      ·refine .inr ⟨by rw [←hgj.1];exact g1,u,⟨S.tm,S1.bs,S1.ss⟩,fun ro hro M a w hT next Q hn=>?_,rfl,?_,?_⟩
       ·have:ro=rj:=by rw [hrj] at hro;simpa using hro.symm
        subst this
        cases hd:(Z31 ops i).d with
        | none=>
          rw [hd] at g2
          exact g2 ro hrj M a w hT next Q hn
        | some d=>
          rw [hd] at g2
          obtain ⟨x,hx⟩:∃x,v.is M x:=by
           rcases hg with ⟨_,hr⟩ | ⟨_,rfl⟩ | ⟨_,n,x,y,m',rows,jj,row,h1,h2,h3,h4,h5,h6,rfl⟩ | ⟨_,_,xs,_,hp⟩
           rotate_left 3
           ·exact (hp S (fun _ _=>rfl) c).2 M a w _ hoi hT
           ·exact rd_ex hT (by rw [hoi];exact hr)
           ·exact ⟨undef,rfl⟩
           ·rw [←hoi] at h1
            obtain ⟨T,y1,z1,e,hop,_,_,hy,hz⟩:=cO_idx h1
            have:=Zx1 hT y1
            rw [hy,h2] at this
            exact elt_ex this h6
          have hT':RelT c M (S.put (some d) v) (a.put (some d) x) w:=hT.put (some d) (.refl M) hT.st hx
          have ap:=ap1 d (by rw [hdi];exact hd)
          refine wp_unput (all:=all) (fun cs b=>Region.noSelect_spec hsel j ro cs b hrj) ap.1 ap.2 (x:=x) (g2 ro hrj M _ w hT' _ _ fun M' w' y h1 h2 h3=>?_)
          have hb:=hn M' w' y h1 h2 h3
          have key:((a.put (some d) x).put ro.dst y).put (some d) (a.tmps.getD d undef)=a.put ro.dst y:=by
           have h1:(a.put (some d) x).put (some d) (a.tmps.getD d undef)=a:=by
            obtain ⟨tm,df⟩:=a
            simp only [Act.put,Act.mk.injEq,and_true]
            rw [Array.setIfInBounds_setIfInBounds]
            apply Array.ext'
            simp only [Array.toList_setIfInBounds]
            apply List.ext_getElem?
            intro j
            rw [List.getElem?_set]
            split
            ·rename_i e;subst e
             split
             ·rename_i h;simp at h;simp [h]
             ·rename_i h;simp at h;simp [h]
            ·rfl
           cases hdst:ro.dst with
           | none=>exact h1
           | some e=>
             have hne:e≠d:=fun x=>ap.2 (by rw [hdst,x])
             have h2:((a.put (some d) x).put (some e) y).put (some d) (a.tmps.getD d undef)=((a.put (some d) x).put (some d) (a.tmps.getD d undef)).put (some e) y:=by
              simp only [Act.put,Act.mk.injEq,and_true]
              rw [Array.setIfInBounds_comm _ _ hne]
             rw [h2,h1]
          rw [key];exact hb
       ·intro j' off n l h1 h2 h3
        have hb:=(put_mem S (Z31 ops i).d v).1
        have:=g4 j' off n l (by rw [Ze3 hb];exact h1) h2 (fun n a' v' j2 off' ho hx=>h3 n a' v' j2 off' ho (by
         rw [x_put_ne] at hx
         ·exact hx
         ·intro t ht e
          subst ht
          have:Operand.tmp t∈rj.op.operands:=by
           rw [←hoj] at ho
           exact cO_store ho
          exact (ap1 t (by rw [hdi];exact e)).1 (Zf3 this)))
        rw [Ze3 (S:=S1) (S':=⟨S.tm,S1.bs,S1.ss⟩) rfl];exact this
       ·have n1:=next_ok u S1.bs S1.ss (fun j' off n l h1 h2 hl=>by
         have hb:=(put_mem S (Z31 ops i).d v).1
         have:=g4 j' off n l (by rw [Ze3 hb];exact h1) h2 (fun n a' v' j2 off' ho _=>by
          exfalso
          rcases stB_get (hst hl) j hlen with h1 | h1 | h1
          ·rw [Nat.zero_add,hjb] at h1;simp at h1
          ·rw [ho] at h1;simp [isSt] at h1
          ·rw [Nat.zero_add] at h1;exact hnw h1)
         rw [Ze3 (S:=S1) (S':=⟨S.tm,S1.bs,S1.ss⟩) rfl];exact this)
        refine Zi3 hall hsel i hq m (Z01 ld j) _ hi2 n1 hf' hst' ?_
        rw [←hcomm]
        have e:=put_comm S S1.bs S1.ss (d:=(Z31 ops i).d) (e:=(Z31 ops j).d) v u hdne
        have e2:(⟨(S.put (Z31 ops i).d v).tm,S1.bs,S1.ss⟩:St)=S1:=by rw [←g3]
        have e3:(⟨(S.put (Z31 ops j).d u).tm,S1.bs,S1.ss⟩:St)=(⟨S.tm,S1.bs,S1.ss⟩:St).put (Z31 ops j).d u:=by cases (Z31 ops j).d<;>rfl
        rw [e2,e3] at e
        rw [←e];exact g5
def gst (S:St):Option (Nat×Bool)→Option Bool
 | none=>some true
 | some (t,f)=>match lgt S.tm t,f with
   | .tt,true=>some true
   | .ff,false=>some true
   | .tt,false=>some false
   | .ff,true=>some false
   | .un,_=>some false
   | _,_=>none
theorem gst_true {S:St} {g:Option (Nat×Bool)} (h:gst S g=some true):gm S g:=by
 cases g with
 | none=>trivial
 | some tf=>
   obtain ⟨t,f⟩:=tf
   simp only [gst] at h
   split at h<;>simp at h
   ·rename_i e;simp only [gm,e]
   ·rename_i e;simp only [gm,e]
theorem gst_false {S:St} {g:Option (Nat×Bool)} (h:gst S g=some false):gno S g:=by
 cases g with
 | none=>simp [gst] at h
 | some tf=>
   obtain ⟨t,f⟩:=tf
   simp only [gst] at h
   split at h<;>simp at h
   ·rename_i e;simp only [gno,e]
   ·rename_i e;simp only [gno,e]
   ·rename_i e;simp only [gno,e]
def tkv (S:St) (o:EOp):Option (AV×Prop):=
 match gst S o.g with
 | some true=>rd S o.o
 | some false=>some (.un,True)
 | none=>none
theorem tkv_tk {S:St} {o:EOp} {v:AV} {q:Prop} (h:tkv S o=some (v,q)):tk S o v q:=by
 unfold tkv at h
 split at h
 ·rename_i e;exact .inl ⟨gst_true e,h⟩
 ·rename_i e;simp at h;exact .inr (.inl ⟨gst_false e,h.1.symm⟩)
 ·simp at h
def gpick (ops:List EOp) (af nap:List (List Nat)) (ld:List Bool) (S:St):List Nat→Option (Nat×AV×Prop)
 | []=>none
 | i::l=>match tkv S (Z31 ops i) with
   | some r=>match Z2 (frB ld af i (Z21 nap i)) (match isLd (Z31 ops i).o with | true=>stB ld af i ops 0 | false=>true) with
     | true=>some (i,r.1,r.2)
     | false=>gpick ops af nap ld S l
   | none=>gpick ops af nap ld S l
def grun (ops:List EOp) (af nap:List (List Nat)):Nat→List Bool→St→Prop→Nat×List Bool×St×Prop
 | 0,ld,S,p=>(0,ld,S,p)
 | m+1,ld,S,p=>match gpick ops af nap ld S (rdy ld af 0) with
   | some r=>grun ops af nap m (Z01 ld r.1) (S.put (Z31 ops r.1).d r.2.1) (p∧r.2.2)
   | none=>(m+1,ld,S,p)
theorem Zj3 {ops:List EOp} {af nap:List (List Nat)} {ld:List Bool} {S:St}:∀ {l:List Nat} {i:Nat} {v:AV} {q:Prop},gpick ops af nap ld S l=some (i,v,q)→
  i∈l∧tk S (Z31 ops i) v q∧frB ld af i (Z21 nap i)=true∧(isLd (Z31 ops i).o=true→stB ld af i ops 0=true)
 | [],i,v,q,h=>by simp [gpick] at h
 | j::l,i,v,q,h=>by
   simp only [gpick] at h
   split at h
   ·rename_i r hr
    split at h
    ·rename_i hc
     rw [Z41] at hc
     simp only [Option.some.injEq,Prod.mk.injEq] at h
     obtain ⟨rfl,rfl,rfl⟩:=h
     refine ⟨by simp,tkv_tk hr,hc.1,fun hl=>?_⟩
     have:=hc.2
     rw [hl] at this;exact this
    ·obtain ⟨h1,h2⟩:=Zj3 h
     exact ⟨by simp [h1],h2⟩
   ·obtain ⟨h1,h2⟩:=Zj3 h
    exact ⟨by simp [h1],h2⟩
theorem Zk3 {c:Ctx} {all:Array Oper} {ops:List EOp} {af:List (List Nat)} {Φ:St→Prop} {ld:List Bool} {S:St} (hr:rdy ld af 0=[]) (h:Φ S):∀m,G c all ops af Φ m ld S
 | 0=>⟨hr,h⟩
 | _+1=>⟨fun _=>h,fun i hi=>by rw [hr] at hi;simp at hi⟩
def GO (c:Ctx) (all:Array Oper) (ops:List EOp) (af:List (List Nat)) (Φ:St→Prop) (m:Nat) (ld:List Bool) (S:St) (i:Nat):Prop:=
 (gno S (Z31 ops i).g∧G c all ops af Φ m (Z01 ld i) (S.put (Z31 ops i).d .un))∨
 (gm S (Z31 ops i).g∧∃v S1,(∀ro,all[i]?=some ro→SemR c S ro v S1)∧S1.tm=S.tm∧keeps S S1 (Z31 ops i).o∧G c all ops af Φ m (Z01 ld i) (S1.put (Z31 ops i).d v))
section
variable {c:Ctx} {all:Array Oper} {ops:List EOp} {af:List (List Nat)} {Φ:St→Prop} {m:Nat} {ld:List Bool} {S:St}
theorem Zl3 (i:Nat) (hr:rdy ld af 0=[i]) (h:GO c all ops af Φ m ld S i):G c all ops af Φ (m+1) ld S:=
 ⟨fun h0=>by rw [h0] at hr;simp at hr,fun j hj=>by rw [hr] at hj;simp at hj;subst hj;exact h⟩
theorem G_two (i j:Nat) (hr:rdy ld af 0=[i,j]) (h:GO c all ops af Φ m ld S i) (h2:GO c all ops af Φ m ld S j):G c all ops af Φ (m+1) ld S:=
 ⟨fun h0=>by rw [h0] at hr;simp at hr,fun k hk=>by rw [hr] at hk;simp at hk;rcases hk with rfl | rfl;exact h;exact h2⟩
theorem GO_sem (hall:all.toList.mapM (Za c.P all)=some ops) {i:Nat} {v:AV} {S1:St} (hg:gm S (Z31 ops i).g) (hs:Sem1 c S (Z31 ops i).o v S1) (htm:S1.tm=S.tm) (hk:keeps S S1 (Z31 ops i).o)
  (h:G c all ops af Φ m (Z01 ld i) (S1.put (Z31 ops i).d v)):GO c all ops af Φ m ld S i:=
 .inr ⟨hg,v,S1,fun ro hro=>hs ro (Z73 (op_at hall hro)).2,htm,hk,h⟩
theorem Zm3 (S:St) (B:Option Blk) (tm ss) (j off n:Nat) (l:List AV) (h:Zt S (.ptr j off) n=some l):Zt ⟨tm,S.bs++[B],ss⟩ (.ptr j off) n=some l:=by
 simp only [Zt] at h ⊢
 split at h
 ·rename_i C hC
  have hlt:=Zc1 hC
  rw [Z91,if_neg (by omega),hC];exact h
 ·simp at h
theorem ev_tm {o:EO} {v:AV} {S1:St} {q:Prop} (h:ev S o=some (v,S1,q)):S1.tm=S.tm∧keeps S S1 o:=by
 have same:S1=S→S1.tm=S.tm∧keeps S S1 o:=fun e=>by subst e;exact ⟨rfl,Zh3 _ _⟩
 cases o<;>simp only [ev,reduceCtorEq] at h
 case alloc T z=>
  split at h<;>simp at h
  obtain ⟨_,rfl,_⟩:=h
  exact ⟨rfl,fun j off n l h1 _ _=>Zm3 S _ _ _ j off n l h1⟩
 case box T n x=>
  split at h
  ·split at h<;>simp at h
   obtain ⟨_,rfl,_⟩:=h
   exact ⟨rfl,fun j off n l h1 _ _=>Zm3 S _ _ _ j off n l h1⟩
  ·simp at h
 case store n a x=>
  split at h
  ·rename_i j off hj
   split at h
   ·rename_i B hB
    split at h
    ·split at h
     ·simp only [Option.map_eq_some_iff,Prod.mk.injEq] at h
      obtain ⟨_,_,_,rfl,_⟩:=h
      refine ⟨rfl,fun j' off' n' l h1 _ h3=>?_⟩
      have hne:=h3 n a x j off rfl hj
      simp only [Zt] at h1 ⊢
      rw [Za1,if_neg (fun e=>hne e.1.symm)]
      exact h1
     ·simp at h
    ·simp at h
   ·simp at h
  ·simp at h
 case eqs ng ks x y=>
  split at h
  ·simp only [Option.map_eq_some_iff,Prod.mk.injEq] at h
   obtain ⟨_,_,_,rfl,_⟩:=h
   exact same rfl
  ·simp at h
 case bq ng x y=>split at h<;>simp at h;exact same h.2.1.symm
 case bsl T n len z ps=>
  split at h
  ·split at h<;>simp at h
   obtain ⟨_,rfl,_⟩:=h
   exact ⟨rfl,fun j off n l h1 _ _=>h1⟩
  ·simp at h
 case conv k x=>cases k<;>simp only at h<;>split at h<;>simp at h<;>exact same h.2.1.symm
 case field off n x=>
  cases n<;>simp only at h<;>split at h<;>simp at h<;>obtain ⟨_,_,_,h,_⟩:=h<;>exact same h.symm
 case mv x=>simp at h;exact same h.2.1.symm
 case pick p x y=>split at h<;>simp at h<;>exact same h.2.1.symm
 case load x=>simp at h;obtain ⟨_,_,_,h,_⟩:=h;exact same h.symm
 case loadA n x=>simp at h;obtain ⟨_,_,_,h,_⟩:=h;exact same h.symm
 case nilchk x=>split at h<;>simp at h<;>exact same h.2.1.symm
 case bin op x y=>simp only [Option.map_eq_some_iff,Prod.mk.injEq] at h;obtain ⟨_,_,_,h,_⟩:=h;exact same h.symm
 case sbin op x y=>simp only [Option.map_eq_some_iff,Prod.mk.injEq] at h;obtain ⟨_,_,_,h,_⟩:=h;exact same h.symm
 case slen x=>split at h<;>simp at h;exact same h.2.1.symm
 case not x=>split at h<;>simp at h<;>exact same h.2.1.symm
 case neg x=>split at h<;>simp at h;exact same h.2.1.symm
 case fld off x=>split at h<;>simp at h<;>exact same h.2.1.symm
 case build z ps=>simp at h;obtain ⟨_,_,_,h,_⟩:=h;exact same h.symm
 case ext x k=>split at h<;>simp at h;obtain ⟨_,_,_,h,_⟩:=h;exact same h.symm
 case mkf f caps=>simp at h;exact same h.2.1.symm
 case len x=>
  split at h
  ·simp at h;exact same h.2.1.symm
  ·simp at h;exact same h.2.1.symm
  ·split at h<;>simp at h;exact same h.2.1.symm
  ·simp at h;exact same h.2.1.symm
  ·simp at h
 case mm mx xs=>split at h<;>simp at h;obtain ⟨_,_,_,h,_⟩:=h;exact same h.symm
def geO (S:St) (o:EOp):Option (AV×St×Prop):=
 match gst S o.g with
 | some true=>ev S o.o
 | _=>none
theorem Zn3 (hall:all.toList.mapM (Za c.P all)=some ops) {i:Nat} {v:AV} {S1:St} {q:Prop} (he:geO S (Z31 ops i)=some (v,S1,q)) (hq:q)
  (h:G c all ops af Φ m (Z01 ld i) (S1.put (Z31 ops i).d v)):GO c all ops af Φ m ld S i:=by
 unfold geO at he
 split at he
 ·rename_i hg
  exact GO_sem hall (gst_true hg) (sem_ev he hq) (ev_tm he).1 (ev_tm he).2 h
 ·simp at he
theorem Zo3 (hall:all.toList.mapM (Za c.P all)=some ops) {i f:Nat} {xs:List X} {args:List AV} {res:AV} (ho:(Z31 ops i).o = .call f xs) (hg:gm S (Z31 ops i).g) (hf:Zs2 c.P f args res)
  (ha:AV.le.leL (Zp S xs) args:=by first | exact Zp3 _ | simp [go_sem]) (hp:puL args=true:=by first | rfl | simp [go_sem]) (h:G c all ops af Φ m (Z01 ld i) (S.put (Z31 ops i).d res)):GO c all ops af Φ m ld S i:=
 GO_sem hall hg (by rw [ho];exact sem_call hf ha hp) rfl (Zh3 _ _) h
end
end NX
end Go.Proofs.YtphfnmafamnddaaDoor
/-
  The symbolic machine: what grows. No statement of the seat is proved here.
-/
namespace Go.Proofs.YtphfnmafamnddaaDoor
namespace NX
open Go Go.RowKit
theorem isLL_flat {M:Mem} {n:Nat}:∀ {a:List (List AV)} {x:List (List Value)},AV.isLL M n a x→x.flatten.length=a.length*n
 | [],_,h=>by simp [AV.isLL] at h;subst h;simp
 | _::a,_,⟨v,r,h0,h1,h2,h3⟩=>by
   subst h0
   have:=isLL_flat h3
   rw [List.flatten_cons,List.length_append,this,h1,List.length_cons,Nat.add_mul,Nat.one_mul,Nat.add_comm]
section
variable {c:Ctx} {M:Mem} {S S':St} {a:Act} {w:World} {fn:Func} {K:AV→List (Option Blk)→List (Option Sl)→Prop} {k:List It}
theorem RelS.grown (h:RelS c M S.bs S.ss w) {w':World} {v v':Value} {L:Sl} {vss:List (List Value)} {ss:List (Option Sl)}
  (hlen:ss.length=S.ss.length) (hsub:∀j N,Zf ss j=some N→Zf S.ss j=some N∧∀g,v.ownBlock=some g→(M.σ j).ownBlock≠some g)
  (hv:v.ownBlock=none∨∀i B,Zf S.bs i=some B→v.ownBlock≠some (M.ρ i)) (hvm:∀g,v.ownBlock=some g→Mine c g∧M.H g=none)
  (hg:w.grownBy w' v.ownBlock) (hnew:v'.ownBlock=v.ownBlock∨∀g,v'.ownBlock=some g→w.heap.size≤g)
  (h0:0<L.n) (h1:AV.isLL M.pure L.n L.rows vss) (h2:∀x∈vss.flatten,x.oneCell'=true) (h3:w'.ownsRow 0 L.T L.n v' L.rows.length vss.flatten):
  RelS c (M.addS v') S.bs (ss++[some L]) w':=by
 have hkeep:∀k,k<w.heap.size→v.ownBlock≠some k→w'.heap[k]?=w.heap[k]?:=fun k hk hne=>hg.block k hk (fun e=>hne e.symm)
 have base:RelS c M S.bs ss w':=by
  refine ⟨h.nb,by rw [h.ns,hlen],h.so,hg.os.trans h.os,hg.tape.trans h.tape,hg.output.trans h.output,Nat.le_trans h.size hg.size,?_,?_,h.hold,?_,?_,h.d1,?_,?_,h.pin⟩
  ·intro k hk hb
   rw [hkeep k (Nat.lt_of_lt_of_le hk h.size)]
   ·exact h.block k hk hb
   ·intro e
    rcases (hvm k e).1 with h | h
    ·omega
    ·exact hb h
  ·intro k o hk
   rw [hkeep k (Array.getElem?_eq_some_iff.1 (h.hle k o hk)).1]
   ·exact h.hle k o hk
   ·intro e;rw [(hvm k e).2] at hk;simp at hk
  ·intro j B hj
   obtain ⟨g1,g2,vs,g3,g4,g5⟩:=h.blk j B hj
   refine ⟨g1,g2,vs,g3,?_,g5⟩
   rw [hkeep _ (h.blk_lt hj)]
   ·exact g4
   ·rcases hv with hv | hv
    ·rw [hv];simp
    ·exact hv j B hj
  ·intro j N hj
   obtain ⟨hj,hne⟩:=hsub j N hj
   obtain ⟨q0,us,q1,q2,q3,q4⟩:=h.slc j N hj
   refine ⟨q0,us,q1,q2,World.ownsRow.kept q3 hg ?_,q4⟩
   cases hvb:v.ownBlock with
   | none=>
     cases ho:(M.σ j).ownBlock with
     | none=>exact .inl rfl
     | some g=>right;simp
   | some g=>right;exact hne g hvb
  ·intro i j B N hi hj
   exact h.d2 i j B N hi (hsub j N hj).1
  ·intro i j N O g hi hj e1 e2
   exact h.d3 i j N O g (hsub i N hi).1 (hsub j O hj).1 e1 e2
 refine base.name L v' vss h0 h1 h2 h3 ?_ ?_ ?_
 ·intro g hgb
  rcases hnew with e | e
  ·exact hvm g (by rw [←e];exact hgb)
  ·exact ⟨.inl (Nat.le_trans h.size (e g hgb)),h.Hnew (e g hgb)⟩
 ·intro i B hi e
  rcases hnew with e1 | e1
  ·rw [e1] at e
   rcases hv with hv | hv
   ·rw [hv] at e;simp at e
   ·exact hv i B hi e
  ·have:=e1 _ e
   have:=h.blk_lt hi
   omega
 ·intro j N g hj e1 e2
  obtain ⟨hj,hne⟩:=hsub j N hj
  rcases hnew with e3 | e3
  ·exact hne g (by rw [←e3];exact e1) e2
  ·have:=e3 g e1
   have:=h.slc_lt hj e2
   omega
def St.app (S:St) (j:Nat) (L:Sl):St:=⟨S.tm,S.bs,Zg S.ss j none++[some L]⟩
def St.app0 (S:St) (L:Sl):St:=⟨S.tm,S.bs,S.ss++[some L]⟩
attribute [go_sem] St.app St.app0
end
section
variable {c:Ctx} {S:St} {fn:Func} {K:AV→List (Option Blk)→List (Option Sl)→Prop} {k:List It}
end
end NX
end Go.Proofs.YtphfnmafamnddaaDoor
/-
  The symbolic machine: a slice that is built and sealed at once. No statement of the seat is proved here.
-/
namespace Go.Proofs.YtphfnmafamnddaaDoor
namespace NX
open Go Go.RowKit
section
variable {c:Ctx} {S:St}
section
variable {all:Array Oper} {ops:List EOp} {af:List (List Nat)} {Φ:St→Prop} {m:Nat} {ld:List Bool}
end
end
end NX
end Go.Proofs.YtphfnmafamnddaaDoor
/-
  The symbolic machine: all of it. No statement of the seat is proved here.
-/
namespace Go.Proofs.YtphfnmafamnddaaDoor
namespace NX
attribute [go_sem] St.init lun run Zu gun ev1 ev St.x St.put Zd Ze AV.cells Zi Zj AV.one Zt Zf Zg Zh tf lgt eqA eqLeaf intA Zs ngB ltk ldr lwr lset binI Zn binK shK mkI keq strI Z2 Z3 Zk Zp Zq Zr mmI ltake ldrop Zl Zm AV.pu puL unw AV.ok okL okB St.ok Zz resV AV.subO Zw AV.subB Zx Zy St.sealS St.sealB AV.ren renL St.renS srcRows AV.le.leL leT leB leS St.le List.cons_append List.nil_append Option.map gm gst tkv gpick grun geO rd isLd isSt orb frB stB bget bgf Z01 Z11 rdy memN Z21 Z31 Z83
def leO:Option AV→AV→Prop
 | some x,y=>x.le y
 | none,_=>False
attribute [go_sem] leO
theorem V_done {P:Program} {w0:World} {H0:Frag} {f:Nat} {fn:Func} {body:EC} {rs:List ERes} {np nt:Nat} {k:List It} {S:St} {res:AV} (ok:FnOK P f fn body rs np nt)
  (h:leO (resV S rs) res):V (Ctx.of P w0 H0) fn (fun x _ _=>x.le res) (.code .ret::k) S:=by
 cases hx:resV S rs with
 | none=>rw [hx] at h;exact h.elim
 | some x=>rw [hx] at h;exact V_ret ok.r hx h
mutual
theorem le_refl:∀x:AV,x.le x
 | .any | .un | .tt | .ff | .bv _ | .iv _ | .kv _ _ | .sv _ | .nl | .nlp | .fn _ | .ptr _ _ | .osl _ | .oel _ _ _ | .ocs _ _ _ _=>by simp [AV.le]
 | .elt row _=>⟨Zp3 row,rfl⟩
 | .sl _ _=>⟨rfl,rfl,fun _ _ h=>h⟩
 | .agg l=>Zp3 l
 | .tup l=>Zp3 l
 | .clo _ l=>⟨rfl,Zp3 l⟩
theorem Zp3:∀l:List AV,AV.le.leL l l
 | []=>trivial
 | x::l=>⟨le_refl x,Zp3 l⟩
end
theorem le_any (x:AV):x.le .any=True:=by simp [AV.le]
theorem le_self (x:AV):x.le x=True:=by simp [le_refl]
theorem leL_self (l:List AV):AV.le.leL l l=True:=by simp [Zp3]
theorem le_iv (a b:Int):AV.le (.iv a) (.iv b)=(a=b):=by simp [AV.le]
theorem le_bv (a b:Bool):AV.le (.bv a) (.bv b)=(a=b):=by simp [AV.le]
theorem le_tt_bv (b:Bool):AV.le .tt (.bv b)=(b=true):=by simp [AV.le]
theorem le_ff_bv (b:Bool):AV.le .ff (.bv b)=(b=false):=by simp [AV.le]
theorem le_bv_tt (b:Bool):AV.le (.bv b) .tt=(b=true):=by simp [AV.le]
theorem le_bv_ff (b:Bool):AV.le (.bv b) .ff=(b=false):=by simp [AV.le]
theorem le_nl_sl (n:Nat) (d:List (List AV)):AV.le .nl (.sl n d)=(d=[]):=by simp [AV.le]
theorem le_sl (n m:Nat) (d e:List (List AV)):AV.le (.sl n d) (.sl m e)=(n=m∧Zv n d e):=by simp [AV.le]
theorem le_agg (a b:List AV):AV.le (.agg a) (.agg b)=AV.le.leL a b:=by simp [AV.le]
theorem le_tup (a b:List AV):AV.le (.tup a) (.tup b)=AV.le.leL a b:=by simp [AV.le]
theorem le_elt (a b:List AV) (i j:Nat):AV.le (.elt a i) (.elt b j)=(AV.le.leL a b∧i=j):=by simp [AV.le]
theorem le_clo (a b:List AV) (i j:Nat):AV.le (.clo i a) (.clo j b)=(i=j∧AV.le.leL a b):=by simp [AV.le]
theorem leRows_self (n:Nat) (d:List (List AV)):Zv n d d=True:=by simp [Zv]
attribute [go_sem] le_any le_self leL_self le_iv le_bv le_tt_bv le_ff_bv le_bv_tt le_bv_ff le_nl_sl le_sl le_agg le_tup le_elt le_clo leRows_self
end NX
end Go.Proofs.YtphfnmafamnddaaDoor
namespace Go.Proofs.YtphfnmafamnddaaDoor
namespace NX
open Go Go.RowKit
def ifb {α:Type} (e:Bool) (a b:Option α):Option α:=match e with | true=>a | false=>b
def at_ {α:Type} (l:List α) (i:Int):Option α:=if 0≤i then l[i.toNat]? else none
def sub_ {α:Type} (l:List α) (lo hi:Int):Option (List α):=if 0≤lo∧lo≤hi∧hi≤l.length then some ((l.take hi.toNat).drop lo.toNat) else none
def Zq3 {σ β:Type} (body:σ→Option (σ ⊕ β)):Nat→σ→Option β
 | 0,_=>none
 | n+1,s=>match body s with
   | none=>none
   | some (.inl s')=>Zq3 body n s'
   | some (.inr r)=>some r
theorem Zr3 {σ β:Type} {body:σ→Option (σ ⊕ β)}:∀ {n:Nat} {s:σ} {r:β},Zq3 body n s=some r→∀m,n≤m→Zq3 body m s=some r
 | 0,_,_,h,_,_=>by simp [Zq3] at h
 | n+1,s,r,h,m,hm=>by
   obtain ⟨m,rfl⟩:∃k,m=k+1:=⟨m-1,by omega⟩
   simp only [Zq3] at h ⊢
   split at h<;>simp_all
   exact Zr3 h m (by omega)
open Classical in
noncomputable def loop {σ β:Type} (body:σ→Option (σ ⊕ β)) (s:σ):Option β:=
 if h:∃r n,Zq3 body n s=some r then some h.choose else none
theorem Zs3 {σ β:Type} {body:σ→Option (σ ⊕ β)} {s:σ} {r:β}:loop body s=some r↔∃n,Zq3 body n s=some r:=by
 unfold loop
 constructor
 ·intro h
  split at h
  ·rename_i hx
   simp at h;subst h
   exact hx.choose_spec
  ·simp at h
 ·rintro ⟨n,h⟩
  have hx:∃r n,Zq3 body n s=some r:=⟨r,n,h⟩
  rw [dif_pos hx]
  obtain ⟨m,hm⟩:=hx.choose_spec
  have h1:=Zr3 h (max n m) (Nat.le_max_left _ _)
  have h2:=Zr3 hm (max n m) (Nat.le_max_right _ _)
  rw [h1] at h2
  exact h2.symm
theorem Zt3 {σ β:Type} (body:σ→Option (σ ⊕ β)) (s:σ):loop body s=match body s with | none=>none | some (.inl s')=>loop body s' | some (.inr r)=>some r:=by
 apply Option.ext
 intro r
 rw [Zs3]
 cases hb:body s with
 | none=>
   constructor
   ·rintro ⟨n,h⟩
    cases n<;>simp [Zq3,hb] at h
   ·intro h;simp at h
 | some y=>
   cases y with
   | inl s'=>
     dsimp only
     rw [Zs3]
     constructor
     ·rintro ⟨n,h⟩
      cases n with
      | zero=>simp [Zq3] at h
      | succ n=>exact ⟨n,by simpa [Zq3,hb] using h⟩
     ·rintro ⟨n,h⟩
      exact ⟨n+1,by simpa [Zq3,hb] using h⟩
   | inr r'=>
     constructor
     ·rintro ⟨n,h⟩
      cases n with
      | zero=>simp [Zq3] at h
      | succ n=>simpa [Zq3,hb] using h
     ·intro h
      exact ⟨1,by simpa [Zq3,hb] using h⟩
structure ole {α:Type} (a b:Option α):Prop where
 h:∀r,a=some r→b=some r
theorem Zu3 {α:Type} (a:Option α):ole a a:=⟨fun _ h=>h⟩
theorem Zv3 {α:Type} {e:Bool} {a a' b b':Option α} (h1:ole a a') (h2:ole b b'):ole (ifb e a b) (ifb e a' b'):=by cases e<;>assumption
theorem Zw3 {α β:Type} {a a':Option α} {f f':α→Option β} (h1:ole a a') (h2:∀x,ole (f x) (f' x)):ole (a.bind f) (a'.bind f'):=by
 refine ⟨fun r h=>?_⟩
 obtain ⟨x,hx,h⟩:=Option.bind_eq_some_iff.1 h
 exact Option.bind_eq_some_iff.2 ⟨x,h1.h x hx,(h2 x).h r h⟩
theorem Zx3 {α β:Type} {a a':Option α} {f:α→β} (h1:ole a a'):ole (a.map f) (a'.map f):=by
 refine ⟨fun r h=>?_⟩
 obtain ⟨x,hx,h⟩:=Option.map_eq_some_iff.1 h
 exact Option.map_eq_some_iff.2 ⟨x,h1.h x hx,h⟩
def loopF (F:Nat) {σ β:Type} (body:σ→Option (σ ⊕ β)) (s:σ):Option β:=Zq3 body F s
theorem Zy3 {F:Nat} {σ β:Type} {body body':σ→Option (σ ⊕ β)} {s:σ} (h:∀s,ole (body s) (body' s)):ole (loopF F body s) (loop body' s):=by
 refine ⟨fun r hr=>?_⟩
 rw [Zs3]
 refine ⟨F,?_⟩
 unfold loopF at hr
 revert s
 induction F with
 | zero=>intro s hr;simp [Zq3] at hr
 | succ F ih=>
   intro s hr
   simp only [Zq3] at hr ⊢
   cases hb:body s with
   | none=>rw [hb] at hr;simp at hr
   | some y=>
     rw [hb] at hr
     rw [(h s).h y hb]
     cases y with
     | inl s'=>exact ih hr
     | inr r'=>exact hr
theorem M_out {α β:Type} {m:Option β} {y:α ⊕ β} {r:β} (h:m.map Sum.inr=some y) (ho:∀r',y = .inr r'→r'=r):m=some r:=by
 cases m with
 | none=>simp at h
 | some v=>simp at h;rw [ho v h.symm]
section
variable {c:Ctx} {fn:Func} {K:AV→List (Option Blk)→List (Option Sl)→Prop} {k:List It} {S:St} {α β σ:Type} {b:Nat}
theorem Zz3 {x:It} (Sx:σ→St) (m:σ→Option β) (r:β) (hJ:∀s,m s=some r→V c fn K k (Sx s)) (h:(∀s,m s=some r→V c fn K k (Sx s))→V c fn K (x::k) S):V c fn K (x::k) S:=h hJ
theorem M_loop {b:EC} {body:σ→Option (σ ⊕ β)} {s0:σ} {r:β} (h:loop body s0=some r) (Sx:σ→St) (h0:S.le (Sx s0)) (hok:∀s,(Sx s).ok=true)
  (hb:∀n s y,body s=some y→(∀s',y = .inl s'→V c fn K (.lp b n::k) (Sx s'))→(∀r',y = .inr r'→r'=r)→V c fn K (.code b :: .lp b n::k) (Sx s)) (hpn:Z3 c.np (Zi (Sx s0).bs)=true:=by rfl) (hqn:Z3 c.nq (Zi (Sx s0).ss)=true:=by rfl):V c fn K (.code (.loop b)::k) S:=by
 obtain ⟨n,hn⟩:=Zs3.1 h
 refine V_loop (X:=Nat×σ) (fun x=>Zq3 body x.1 x.2=some r) (fun x=>Sx x.2) (fun x=>x.1) (n,s0) h0 (hok _) hpn hqn hn ?_
 rintro m ⟨n,s⟩ hx ih
 cases n with
 | zero=>simp [Zq3] at hx
 | succ n=>
   simp only [Zq3] at hx
   cases hy:body s with
   | none=>simp [hy] at hx
   | some y=>
     refine hb m s y hy ?_ ?_
     ·rintro s' rfl
      rw [hy] at hx
      exact ih (n,s') hx (Nat.lt_succ_self _)
     ·rintro r' rfl
      rw [hy] at hx
      simpa using hx
theorem Z04 {o:X} {a b:EC} {e:Bool} {A B:Option β} {r:β} (h:ifb e A B=some r) (hx:S.x o = .bv e) (h1:e=true→A=some r→V c fn K (.code a::k) S) (h2:e=false→B=some r→V c fn K (.code b::k) S):V c fn K (.code (.ite o a b)::k) S:=
 V_ite hx (fun e1=>h1 e1 (by subst e1;exact h)) (fun e1=>h2 e1 (by subst e1;exact h))
theorem at_some {l:List α} {i:Int} {v:α} (h:at_ l i=some v):0≤i∧l[i.toNat]?=some v:=by
 unfold at_ at h
 split at h
 ·exact ⟨by assumption,h⟩
 ·simp at h
theorem V_case (t:Nat) {e:Bool} (ht:Zd S.tm t = .bv e) (h1:e=true→V c fn K k ⟨Ze S.tm t .tt,S.bs,S.ss⟩) (h2:e=false→V c fn K k ⟨Ze S.tm t .ff,S.bs,S.ss⟩):V c fn K k S:=by
 intro rk M a w hc hT
 have key:∀x:AV,(∀v,(AV.bv e).is M v→x.is M v)→RelT c M ⟨Ze S.tm t x,S.bs,S.ss⟩ a w:=by
  intro x hx
  refine ⟨by rw [Z81];exact hT.len,fun u=>?_,hT.df,hT.st⟩
  simp only [Z71]
  split
  ·rename_i hu
   obtain ⟨rfl,_⟩:=hu
   have:=hT.tm u
   rw [ht] at this
   exact hx _ this
  ·exact hT.tm u
 cases e with
 | true=>exact h1 rfl rk M a w hc (key _ fun v hv=>hv)
 | false=>exact h2 rfl rk M a w hc (key _ fun v hv=>hv)
theorem Z14 (t:Nat) {e:Bool} {A B:Option β} {r:β} (h:ifb e A B=some r) (ht:Zd S.tm t = .bv e) (h1:e=true→A=some r→V c fn K k ⟨Ze S.tm t .tt,S.bs,S.ss⟩) (h2:e=false→B=some r→V c fn K k ⟨Ze S.tm t .ff,S.bs,S.ss⟩):V c fn K k S:=
 V_case t ht (fun e1=>h1 e1 (by subst e1;exact h)) (fun e1=>h2 e1 (by subst e1;exact h))
theorem Z24 {P:Program} {w0:World} {H0:Frag} {f:Nat} {fn:Func} {body:EC} {rs:List ERes} {np nt:Nat} {e r:β} {res:β→AV} (ok:FnOK P f fn body rs np nt) (h:some e=some r)
  (hl:leO (resV S rs) (res e):=by first | exact le_refl _ | simp [go_sem]):V (Ctx.of P w0 H0) fn (fun x _ _=>x.le (res r)) (.code .ret::k) S:=by
 obtain rfl:=Option.some.inj h
 exact V_done ok hl
theorem M_back {s':σ} {y:σ ⊕ β} {Sx:σ→St} (h:some (Sum.inl s')=some y) (hin:∀s',y = .inl s'→V c fn K k (Sx s')) (hle:S.le (Sx s'):=by simp [go_sem]) (hok:(Sx s').ok=true:=by first | rfl | simp [go_sem]) (hpn:Z3 c.np (Zi (Sx s').bs)=true:=by rfl) (hqn:Z3 c.nq (Zi (Sx s').ss)=true:=by rfl):V c fn K k S:=
 V_weak _ hle hok hpn hqn (hin s' (Option.some.inj h).symm)
theorem Z34 {m:σ→Option β} {r:β} {s:σ} {Sx:σ→St} (J:∀s,m s=some r→V c fn K k (Sx s)) (h:m s=some r) (hle:S.le (Sx s):=by simp [go_sem]) (hok:(Sx s).ok=true:=by first | rfl | simp [go_sem]) (hpn:Z3 c.np (Zi (Sx s).bs)=true:=by rfl) (hqn:Z3 c.nq (Zi (Sx s).ss)=true:=by rfl):V c fn K k S:=
 V_weak _ hle hok hpn hqn (J s h)
end
structure CloOK (P:Program) (g:Nat) (caps:List AV) {α β:Type} (ar:α→List AV) (p:α→Option β) (rs:β→AV):Prop where
 b:(P.funcs[g]?).any (fun fn=>fn.body.isSome&&!(fn.name == "runtime.NumGoroutine"))=true
 pu:puL caps=true
 h:∀x r,p x=some r→Zs2 P g (ar x++caps) (rs r)
end NX
end Go.Proofs.YtphfnmafamnddaaDoor
/-
  The symbolic machine: own memory lent to a call, slices of slices, own elements. No statement of the seat is proved here.
-/
namespace Go.Proofs.YtphfnmafamnddaaDoor
namespace NX
open Go Go.RowKit
mutual
def AV.flat:AV→Bool
 | .ptr _ _ | .osl _ | .oel _ _ _ | .ocs _ _ _ _ | .elt _ _ | .sl _ _ | .clo _ _=>false
 | .agg l=>flatL l
 | .tup l=>flatL l
 | .any | .un | .tt | .ff | .bv _ | .iv _ | .kv _ _ | .sv _ | .nl | .nlp | .fn _=>true
def flatL:List AV→Bool
 | []=>true
 | x::l=>Z2 x.flat (flatL l)
end
attribute [go_sem] AV.flat flatL
def Lend (S S':St):Prop:=∀(c:Ctx) M a w,RelT c M S a w→∃M',M.le M'∧RelT c M' S' a w
theorem Lend.refl (S:St):Lend S S:=fun _ M _ _ h=>⟨M,.refl M,h⟩
theorem Lend.slice {S S1:St} (h:Lend S S1) (j:Nat) {L:Sl} (hj:Zf S1.ss j=some L):Lend S (S1.sealS j L):=fun c M a w hT=>
 let ⟨_,h1,h2⟩:=h c M a w hT
 let ⟨M2,h3,h4,_⟩:=seal_rel j hj h2
 ⟨M2,h1.trans h3,h4⟩
theorem Lend.block {S S1:St} (h:Lend S S1) (j:Nat) {B:Blk} (hj:Zf S1.bs j=some B) (hp:puL B.cells=true):Lend S (S1.sealB j B.cells):=fun c M a w hT=>
 let ⟨_,h1,h2⟩:=h c M a w hT
 let ⟨M2,h3,h4⟩:=sealB_rel j hj hp h2
 ⟨M2,h1.trans h3,h4⟩
section
variable {c:Ctx} {M:Mem} {S S':St} {a:Act} {w:World} {fn:Func} {K:AV→List (Option Blk)→List (Option Sl)→Prop} {k:List It}
section
variable {all:Array Oper} {ops:List EOp} {af:List (List Nat)} {Φ:St→Prop} {m:Nat} {ld:List Bool}
end
end
def intRow (n:Int):List AV:=[.iv n]
def boolRow (b:Bool):List AV:=[.bv b]
def strRow (x:ByteArray):List AV:=[.sv x]
def kvRow (k:IntKind) (n:Int):List AV:=[.kv k n]
def slRow {α:Type} (n:Nat) (f:α→List AV) (l:List α):List AV:=[.sl n (l.map f)]
def ln {α:Type} (f:α→List AV) (l:List α):Int:=((l.map f).length:Int)
attribute [go_sem] intRow boolRow strRow kvRow slRow ln
end NX
end Go.Proofs.YtphfnmafamnddaaDoor
/-
  The symbolic machine: slices of slices, tests for nil, ways that part inside a drawn region, fresh results. No statement of the seat is proved here.
-/
namespace Go.Proofs.YtphfnmafamnddaaDoor
namespace NX
open Go Go.RowKit
structure Fine (S S':St):Prop where
 bs:S'.bs=S.bs
 ss:S'.ss=S.ss
 len:S'.tm.length=S.tm.length
 is:∀M t v,(Zd S.tm t).is M v→(Zd S'.tm t).is M v
 lg:∀t,lgt S'.tm t=lgt S.tm t
 pt:∀t j off,Zd S'.tm t = .ptr j off→Zd S.tm t = .ptr j off
theorem Fine.relT {S S':St} (h:Fine S S') {c:Ctx} {M:Mem} {a:Act} {w:World} (hT:RelT c M S a w):RelT c M S' a w:=
 ⟨by rw [h.len];exact hT.len,fun t=>h.is M t _ (hT.tm t),hT.df,by rw [h.bs,h.ss];exact hT.st⟩
theorem Fine.put {S S':St} (h:Fine S S') (bs ss) (d:Option Nat) (v:AV):Fine ((⟨S.tm,bs,ss⟩:St).put d v) ((⟨S'.tm,bs,ss⟩:St).put d v):=by
 cases d with
 | none=>exact ⟨rfl,rfl,h.len,h.is,h.lg,h.pt⟩
 | some d=>
   refine ⟨rfl,rfl,by simp only [St.put,Z81];exact h.len,fun M t x hx=>?_,fun t=>?_,fun t j off=>?_⟩
   ·simp only [St.put,Z71,h.len] at hx ⊢
    split<;>rename_i e
    ·rw [if_pos e] at hx;exact hx
    ·rw [if_neg e] at hx;exact h.is M t x hx
   ·simp only [St.put,lgt,Z71,h.len]
    split
    ·rfl
    ·exact h.lg t
   ·simp only [St.put,Z71,h.len]
    split
    ·exact id
    ·exact h.pt t j off
theorem Fine.gm {S S':St} (h:Fine S S') (g:Option (Nat×Bool)):NX.gm S' g=NX.gm S g∧gno S' g=gno S g:=by
 cases g with
 | none=>exact ⟨rfl,rfl⟩
 | some tf=>obtain ⟨t,f⟩:=tf;simp only [NX.gm,gno,h.lg t,and_self]
theorem G_fine {c:Ctx} {all:Array Oper} {ops:List EOp} {af:List (List Nat)} {Φ:St→Prop} (hΦ:∀S S',Fine S S'→Φ S'→Φ S):∀(m:Nat) (ld:List Bool) (S S':St),Fine S S'→G c all ops af Φ m ld S'→G c all ops af Φ m ld S
 | 0,_,S,S',hf,h=>⟨h.1,hΦ S S' hf h.2⟩
 | m+1,ld,S,S',hf,h=>by
   refine ⟨fun h0=>hΦ S S' hf (h.1 h0),fun i hi=>?_⟩
   rcases h.2 i hi with ⟨h1,h2⟩ | ⟨h1,v,S1,h2,h3,h4,h5⟩
   ·left
    refine ⟨by rw [←(hf.gm _).2];exact h1,G_fine hΦ m _ _ _ ?_ h2⟩
    have:=hf.put S.bs S.ss (Z31 ops i).d .un
    rw [show (⟨S'.tm,S.bs,S.ss⟩:St)=S' from by rw [←hf.bs,←hf.ss]] at this
    exact this
   ·right
    refine ⟨by rw [←(hf.gm _).1];exact h1,v,⟨S.tm,S1.bs,S1.ss⟩,fun ro hro M a w hT next Q hn=>h2 ro hro M a w (hf.relT hT) next Q hn,rfl,?_,G_fine hΦ m _ _ _ ?_ h5⟩
    ·intro j off n l k1 k2 k3
     have:=h4 j off n l (by rw [Ze3 hf.bs];exact k1) k2 (fun n a x j' off' ho hx=>k3 n a x j' off' ho (by
      cases a with
      | t t=>exact hf.pt t j' off' hx
      | c _=>exact hx
      | bad=>exact hx))
     rw [Ze3 (S:=S1) (S':=⟨S.tm,S1.bs,S1.ss⟩) rfl];exact this
    ·have:=hf.put S1.bs S1.ss (Z31 ops i).d v
     rw [←h3] at this
     exact this
section
variable {c:Ctx} {M:Mem} {S S':St} {a:Act} {w:World} {fn:Func} {K:AV→List (Option Blk)→List (Option Sl)→Prop} {k:List It} {β:Type}
theorem V_fine (hf:Fine S S') (h:V c fn K k S'):V c fn K k S:=fun rk M a w hc hT=>h rk M a w hc (hf.relT hT)
def bvOf (e:Bool):AV:=match e with | true=>.tt | false=>.ff
theorem fine_case {t:Nat} {e:Bool} (ht:Zd S.tm t = .bv e):Fine S ⟨Ze S.tm t (bvOf e),S.bs,S.ss⟩:=by
 refine ⟨rfl,rfl,Z81 _ _ _,fun M u v hv=>?_,fun u=>?_,fun u j off=>?_⟩
 ·simp only [Z71]
  split
  ·rename_i h;obtain ⟨rfl,_⟩:=h
   rw [ht] at hv
   cases e<;>exact hv
  ·exact hv
 ·simp only [lgt,Z71]
  split
  ·rename_i h;obtain ⟨rfl,_⟩:=h
   rw [ht];cases e<;>rfl
  ·rfl
 ·simp only [Z71]
  split
  ·cases e<;>simp [bvOf]
  ·exact id
theorem GM_case {all:Array Oper} {ops:List EOp} {af:List (List Nat)} {m:Nat} {ld:List Bool} (t:Nat) {e:Bool} {A B:Option β} {r:β} (h:ifb e A B=some r) (ht:Zd S.tm t = .bv e)
  (h1:e=true→A=some r→G c all ops af (fun S'=>V c fn K k S') m ld ⟨Ze S.tm t .tt,S.bs,S.ss⟩) (h2:e=false→B=some r→G c all ops af (fun S'=>V c fn K k S') m ld ⟨Ze S.tm t .ff,S.bs,S.ss⟩):
  G c all ops af (fun S'=>V c fn K k S') m ld S:=by
 refine G_fine (fun S S' hf h=>V_fine hf h) m ld S _ (fine_case ht) ?_
 cases e with
 | true=>exact h1 rfl h
 | false=>exact h2 rfl h
theorem cO_slice {P:Program} {op:Op} {n:Nat} {x:X} {lo hi:Option X} (ho:cO P op = .slice n x lo hi):
  ∃T y l h e,op = .slice T y l h none∧P.underlying T=some (.slice e)∧Z6 P e=some n∧cX y=x∧l.map cX=lo∧h.map cX=hi:=by
 cases op
 case slice T y l h mx=>
  simp only [cO] at ho
  split at ho
  ·rename_i e hu
   split at ho
   ·rename_i n' hn
    simp only [EO.slice.injEq] at ho
    obtain ⟨rfl,rfl,rfl,rfl⟩:=ho
    exact ⟨T,y,l,h,e,rfl,hu,hn,rfl,rfl,rfl⟩
   ·simp at ho
  ·split at ho<;>simp at ho
  ·simp at ho
  ·simp at ho
 all_goals (simp only [cO] at ho;(repeat' (split at ho))<;>simp at ho)
def bnd (S:St) (x:Option X) (z:Int):Option Int:=
 match x with
 | none=>some z
 | some x=>match S.x x with
   | .iv n=>some n
   | _=>none
attribute [go_sem] bnd
theorem slice_run {P:Program} {w:World} {T e n:Nat} (hu:P.underlying T=some (.slice e)) (hs:Z6 P e=some n) {x:Operand} {l h:Option Operand} {ρ:Operand→Value} {ad:Option Addr} {len cp:Nat} {lo hi:Int}
  (hx:ρ x = .slice ad len cp) (hlc:len≤cp) (hl:match l with | none=>lo=0 | some o=>ρ o = .int .i64 lo) (hh:match h with | none=>hi=len | some o=>ρ o = .int .i64 hi) (h0:0≤lo) (h1:lo≤hi) (h2:hi≤len)
  (d:Option Tmp) (ty:TypeId) (pos:String) (af:Array Edge) (gg:Option (Nat×Bool)):
  (execOp ρ ⟨d,.slice T x l h none,ty,pos,af,gg⟩).run P w = .ok (.value (.slice (if cp=lo.toNat then ad else ad.map (·.add (lo.toNat*n))) (hi.toNat-lo.toNat) (cp-lo.toNat))) w:=by
 have hc:hi≤cp:=by omega
 have key:(Instr.sliceBounds true len cp (l.map ρ) (h.map ρ) none).run P w = .ok (lo.toNat,hi.toNat,cp) w:=by
  cases l<;>cases h<;>simp only at hl hh<;>simp only [Option.map,Instr.sliceBounds]
  ·subst hl;simp [hh]
  ·subst hl;simp [Instr.sliceBound,asIntOf,hh,hc,show 0≤hi by omega]
  ·subst hh;simp [Instr.sliceBound,asIntOf,hl,h0,h1]
  ·simp [Instr.sliceBound,asIntOf,hl,hh,h0,h1,hc,show 0≤hi by omega,Int.toNat_of_nonneg (show 0≤hi by omega)]
 simp [execOp,Instr.sliceAt,Instr.slice,hx,run_underlying hu,key,Zz1 hs]
theorem isLL_sub {M:Mem} {n:Nat} {rows:List (List AV)} {vss:List (List Value)} (h:AV.isLL M n rows vss) (a b:Nat):AV.isLL M n ((rows.take b).drop a) ((vss.take b).drop a):=by
 have ht:∀(rows:List (List AV)) (vss:List (List Value)) (b:Nat),AV.isLL M n rows vss→AV.isLL M n (rows.take b) (vss.take b):=by
  intro rows
  induction rows with
  | nil=>intro vss b h;simp [AV.isLL] at h;subst h;simp [AV.isLL]
  | cons r rows ih=>
    rintro vss b ⟨v,q,rfl,h1,h2,h3⟩
    cases b with
    | zero=>simp [AV.isLL]
    | succ b=>exact ⟨v,q.take b,by simp,h1,h2,ih q b h3⟩
 have hd:∀(rows:List (List AV)) (vss:List (List Value)) (b:Nat),AV.isLL M n rows vss→AV.isLL M n (rows.drop b) (vss.drop b):=by
  intro rows
  induction rows with
  | nil=>intro vss b h;simp [AV.isLL] at h;subst h;simp [AV.isLL]
  | cons r rows ih=>
    rintro vss b ⟨v,q,rfl,h1,h2,h3⟩
    cases b with
    | zero=>exact ⟨v,q,rfl,h1,h2,h3⟩
    | succ b=>simpa using ih q b h3
 exact hd _ _ a (ht _ _ b h)
def FunO (P:Program) (f:Nat) (args:List AV) (T n:Nat) (rows:List (List AV)):Prop:=
 ∀(H:Frag) (w:World) (vs:List Value),(∀k o,H k=some o→w.heap[k]?=some o)→Glob P H→AV.isL (Z0 H) args vs→
  Calls P f vs.toArray w fun e w'=>∃v H' vss,e = .returned v∧Below w.heap.size w w'∧(∀k o,H' k=some o→w'.heap[k]?=some o)∧
   (∀k,k<w.heap.size→H' k=H k)∧0<n∧AV.isLL (Z0 H') n rows vss∧(∀v∈vss.flatten,v.oneCell'=true)∧w'.ownsRow 0 T n v rows.length vss.flatten∧∀g,v.ownBlock=some g→w.heap.size≤g∧H' g=none
theorem FunO.sealed {P:Program} {f:Nat} {args:List AV} {T n:Nat} {rows:List (List AV)} (h:FunO P f args T n rows):Zs2 P f args (.sl n rows):=by
 intro H w vs hH hgl ha
 refine (h H w vs hH hgl ha).mono ?_
 rintro e w' ⟨v,H',vss,rfl,hb,h1,h2,h3,h4,h5,h6,h7⟩
 refine ⟨v,fun k=>if v.ownBlock=some k then w'.heap[k]? else H' k,rfl,hb,?_,?_,?_⟩
 ·intro k o hk
  dsimp only at hk
  split at hk
  ·exact hk
  ·exact h1 k o hk
 ·intro k hk
  dsimp only
  rw [if_neg]
  ·exact h2 k hk
  ·intro e;have:=(h7 k e).1;omega
 ·rcases h6.2 with ⟨rfl,e2⟩ | ⟨g,cp,cur,rfl,_,e3,e4,_,e5,e6⟩
  ·refine ⟨none,0,by rw [e2],⟨by omega,fun _=>rfl⟩,fun hne=>absurd (List.length_eq_zero_iff.1 e2) hne⟩
  ·refine ⟨some ⟨g,0,none⟩,cp,rfl,⟨e4,fun h=>by simp at h⟩,fun _=>⟨⟨g,0,none⟩,vss,rfl,?_,rfl,h5,cur,T,(0,0),?_,?_⟩⟩
   ·refine isLL_pure (H:=H') ?_ h4
    intro k o hk
    show (if (Value.slice (some ⟨g,0,none⟩) rows.length cp).ownBlock=some k then w'.heap[k]? else H' k)=some o
    split
    ·rename_i e
     simp [Value.ownBlock] at e
     subst e
     rw [(h7 g rfl).2] at hk;simp at hk
    ·exact hk
   ·simp [Z0,Value.ownBlock];exact e3
   ·intro t v ht
    rw [←e6] at ht
    simp only [Nat.zero_add]
    rw [List.getElem?_take] at ht
    split at ht
    ·simpa using ht
    ·simp at ht
end
end NX
end Go.Proofs.YtphfnmafamnddaaDoor
/-
  The symbolic machine: own blocks change their names; what is appended is sealed at once. No statement of the seat is proved here.
-/
namespace Go.Proofs.YtphfnmafamnddaaDoor
namespace NX
open Go Go.RowKit
def swN (p q i:Nat):Nat:=match i==p with
 | true=>q
 | false=>match i==q with
   | true=>p
   | false=>i
mutual
def AV.swB (p q:Nat):AV→AV
 | .ptr i o=>.ptr (swN p q i) o
 | .agg l=>.agg (swBL p q l)
 | .tup l=>.tup (swBL p q l)
 | .clo f l=>.clo f (swBL p q l)
 | .any=>.any
 | .un=>.un
 | .tt=>.tt
 | .ff=>.ff
 | .bv e=>.bv e
 | .iv n=>.iv n
 | .kv k n=>.kv k n
 | .sv x=>.sv x
 | .nl=>.nl
 | .nlp=>.nlp
 | .fn f=>.fn f
 | .osl i=>.osl i
 | .oel i a b=>.oel i a b
 | .ocs i a n b=>.ocs i a n b
 | .elt row o=>.elt row o
 | .sl n rows=>.sl n rows
def swBL (p q:Nat):List AV→List AV
 | []=>[]
 | x::l=>x.swB p q::swBL p q l
end
def St.swB (S:St) (p q:Nat):St:=⟨swBL p q S.tm,Zg (Zg (Zy (swBL p q) S.bs) p (Zf (Zy (swBL p q) S.bs) q)) q (Zf (Zy (swBL p q) S.bs) p),S.ss⟩
attribute [go_sem] AV.swB swBL St.swB swN
section
variable {c:Ctx} {M:Mem} {S S':St} {a:Act} {w:World} {fn:Func} {K:AV→List (Option Blk)→List (Option Sl)→Prop} {k:List It}
end
theorem G_runN {c:Ctx} {all:Array Oper} {ops:List EOp} (hall:all.toList.mapM (Za c.P all)=some ops) (hsel:Region.noSelect all=true) {Φ:St→Prop} (r:Nat):
  ∀(m:Nat) (ld:List Bool) (S:St) (p:Prop),(grun ops (Zb all) (Zc all) m ld S p).2.2.2→
   G c all ops (Zb all) Φ ((grun ops (Zb all) (Zc all) m ld S p).1+r) (grun ops (Zb all) (Zc all) m ld S p).2.1 (grun ops (Zb all) (Zc all) m ld S p).2.2.1→p∧G c all ops (Zb all) Φ (m+r) ld S
 | 0,ld,S,p,hp,h=>⟨hp,h⟩
 | m+1,ld,S,p,hp,h=>by
   simp only [grun] at hp h
   split at hp
   ·rename_i x hx
    rw [hx] at h
    obtain ⟨i,v,q⟩:=x
    obtain ⟨h1,h2⟩:=G_runN hall hsel r m _ _ _ hp h
    obtain ⟨k1,k2,k3,k4⟩:=Zj3 hx
    refine ⟨h1.1,?_⟩
    rw [show m+1+r=(m+r)+1 by omega]
    exact Zi3 hall hsel i h1.2 (m+r) ld S k1 k2 k3 k4 h2
   ·rename_i hx
    rw [hx] at h
    exact ⟨hp,h⟩
theorem Z44 {c:Ctx} {all:Array Oper} {ops:List EOp} {af nap:List (List Nat)} (hall:all.toList.mapM (Za c.P all)=some ops) (hsel:Region.noSelect all=true) (haf:af=Zb all) (hnap:nap=Zc all) {Φ:St→Prop} (m r:Nat)
  {ld:List Bool} {S:St} (h:(grun ops af nap m ld S True).2.2.2∧G c all ops af Φ ((grun ops af nap m ld S True).1+r) (grun ops af nap m ld S True).2.1 (grun ops af nap m ld S True).2.2.1):G c all ops af Φ (m+r) ld S:=by
 subst haf;subst hnap
 exact (G_runN hall hsel r _ _ _ True h.1 h.2).2
def tN:Nat→Prop
 | 0=>True
 | n+1=>tN n∧True
theorem tN_true:∀n,tN n
 | 0=>trivial
 | n+1=>⟨tN_true n,trivial⟩
def an:Nat→List AV→List AV
 | 0,l=>l
 | n+1,l=>.any::an n l
attribute [go_sem] an
def rp (b:Bool):Nat→List Bool→List Bool
 | 0,l=>l
 | n+1,l=>b::rp b n l
def rl:List Nat→List Bool
 | []=>[]
 | [n]=>rp true n []
 | n::m::r=>rp true n (rp false m (rl r))
def skp:Nat→(List AV→List AV)→List AV→List AV
 | 0,f,l=>f l
 | n+1,f,[]=>.any::skp n f []
 | n+1,f,x::l=>x::skp n f l
def ptv:List AV→(List AV→List AV)→List AV→List AV
 | [],f,l=>f l
 | v::vs,f,[]=>v::ptv vs f []
 | v::vs,f,_::l=>v::ptv vs f l
def pt:List (Nat×List AV)→List AV→List AV
 | [],l=>l
 | (n,vs)::p,l=>skp n (ptv vs (pt p)) l
attribute [go_sem] skp ptv pt rp rl
theorem G_goE {c:Ctx} {all:Array Oper} {ops:List EOp} {af nap:List (List Nat)} (hall:all.toList.mapM (Za c.P all)=some ops) (hsel:Region.noSelect all=true) (haf:af=Zb all) (hnap:nap=Zc all) {Φ:St→Prop} (m r:Nat)
  {ld:List Bool} {S:St} (ld':List Bool) (S':St) (he:grun ops af nap m ld S True=(0,ld',S',tN m)) (h:G c all ops af Φ r ld' S'):G c all ops af Φ (m+r) ld S:=
 Z44 hall hsel haf hnap m r (by rw [he];exact ⟨tN_true m,by simpa using h⟩)
theorem G_goP {c:Ctx} {all:Array Oper} {ops:List EOp} {af nap:List (List Nat)} (hall:all.toList.mapM (Za c.P all)=some ops) (hsel:Region.noSelect all=true) (haf:af=Zb all) (hnap:nap=Zc all) {Φ:St→Prop} (m r:Nat)
  {ld:List Bool} {S:St} (b:List Nat) (u:List (Nat×List AV)) (he:grun ops af nap m ld S True=(0,rl b,⟨pt u S.tm,S.bs,S.ss⟩,tN m)) (h:G c all ops af Φ r (rl b) ⟨pt u S.tm,S.bs,S.ss⟩):G c all ops af Φ (m+r) ld S:=
 G_goE hall hsel haf hnap m r _ _ he h
end NX
end Go.Proofs.YtphfnmafamnddaaDoor
/-
  The symbolic machine: elements of own slices, read and written. No statement of the seat is proved here.
-/
namespace Go.Proofs.YtphfnmafamnddaaDoor
namespace NX
open Go Go.RowKit
section
variable {c:Ctx} {M:Mem} {S S':St} {a:Act} {w:World} {fn:Func} {K:AV→List (Option Blk)→List (Option Sl)→Prop} {k:List It} {bs:List (Option Blk)} {ss:List (Option Sl)}
theorem isLL_len {M:Mem} {n:Nat}:∀ {rows:List (List AV)} {vss:List (List Value)},AV.isLL M n rows vss→(∀v∈vss,v.length=n)∧vss.length=rows.length
 | [],_,h=>by simp [AV.isLL] at h;subst h;simp
 | _::rows,_,⟨v,q,h0,h1,h2,h3⟩=>by
   subst h0
   obtain ⟨k1,k2⟩:=isLL_len h3
   exact ⟨fun u hu=>by rcases List.mem_cons.1 hu with rfl | hu;exact h1;exact k1 u hu,by simp [k2]⟩
end
end NX
end Go.Proofs.YtphfnmafamnddaaDoor
/-
  The symbolic machine: calls that write into the caller's own memory; slices made, own slices cut. No statement of the seat is proved here.
-/
namespace Go.Proofs.YtphfnmafamnddaaDoor
namespace NX
open Go Go.RowKit
def msk {α:Type}:List Bool→List (Option α)→List (Option α)
 | _,[]=>[]
 | [],_::l=>none::msk [] l
 | true::m,x::l=>x::msk m l
 | false::m,_::l=>none::msk m l
def mrg {α:Type}:List Bool→List (Option α)→List (Option α)→List (Option α)
 | _,[],r=>r
 | _,_::_,[]=>[]
 | [],x::l,_::r=>x::mrg [] l r
 | true::m,_::l,y::r=>y::mrg m l r
 | false::m,x::l,_::r=>x::mrg m l r
attribute [go_sem] msk mrg
section
variable {c:Ctx} {M:Mem} {S S':St} {a:Act} {w:World} {fn:Func} {K:AV→List (Option Blk)→List (Option Sl)→Prop} {k:List It}
end
end NX
end Go.Proofs.YtphfnmafamnddaaDoor
/-
  The symbolic machine: slices made; own slices cut; elements of own slices in drawn regions. No statement of the seat is proved here.
-/
namespace Go.Proofs.YtphfnmafamnddaaDoor
namespace NX
open Go Go.RowKit
section
variable {c:Ctx} {M:Mem} {S S':St} {a:Act} {w:World} {fn:Func} {K:AV→List (Option Blk)→List (Option Sl)→Prop} {k:List It}
theorem sem_cut {n j:Nat} {x:X} {lo hi:Option X} {m:Int} {L:Sl} (hx:S.x x = .osl j) (hj:Zf S.ss j=some L) (hn:L.n=n) (hlo:bnd S lo 0=some 0) (hhi:bnd S hi L.rows.length=some m) (h0:0≤m) (h1:m≤L.rows.length):
  Sem1 c S (.slice n x lo hi) (.osl (Zi S.ss)) ⟨S.tm,S.bs,Zg S.ss j none++[some ⟨L.T,n,L.rows.take m.toNat⟩]⟩:=by
 subst hn
 intro ro hop M a w hRT next Q hnx
 obtain ⟨dst,op,ty,pos,af,gd⟩:=ro
 dsimp only at hop
 obtain ⟨T,y,l,h,e,rfl,hu,hs,rfl,rfl,rfl⟩:=cO_slice hop
 have hS:=hRT.st
 have k1:=Zx1 hRT y
 rw [hx] at k1
 obtain ⟨g0,vss,q1,q2,q3,q4⟩:=hS.slc j L hj
 have hbl:∀(o:Option Operand) (z r:Int),bnd S (o.map cX) z=some r→match o with | none=>r=z | some o=>a.eval o = .int .i64 r:=by
  intro o z r hb
  cases o with
  | none=>simpa [bnd] using hb.symm
  | some o=>
    simp only [Option.map_some,bnd] at hb
    have:=Zx1 hRT o
    split at hb
    ·rename_i n' hn'
     rw [hn'] at this
     simp at hb;subst hb;exact this
    ·simp at hb
 have e1:=hbl l 0 0 hlo
 have e2:=hbl h L.rows.length m hhi
 obtain ⟨hvn,hvl⟩:=isLL_len q1
 have hown:∃v',(execOp a.eval ⟨dst,.slice T y l h none,ty,pos,af,gd⟩).run c.P w = .ok (.value v') w∧v'.ownBlock=(M.σ j).ownBlock∧w.ownsRow 0 L.T L.n v' (L.rows.take m.toNat).length (vss.take m.toNat).flatten:=by
  have htl:(L.rows.take m.toNat).length=m.toNat:=by rw [List.length_take];omega
  have hflt:(vss.take m.toNat).flatten=vss.flatten.take (m.toNat*L.n):=by
   have:∀(q:List (List Value)) (k:Nat),(∀v∈q,v.length=L.n)→(q.take k).flatten=q.flatten.take (k*L.n):=by
    intro q
    induction q with
    | nil=>intro k _;simp
    | cons v q ih=>
      intro k hq
      cases k with
      | zero=>simp
      | succ k=>
        have hv:=hq v (by simp)
        rw [List.take_succ_cons,List.flatten_cons,List.flatten_cons,ih k fun u hu=>hq u (by simp [hu]),show (k+1)*L.n=v.length+k*L.n by rw [hv,Nat.add_mul];omega,List.take_length_add_append]
   exact this vss m.toNat hvn
  have hlen2:(vss.take m.toNat).flatten.length=m.toNat*L.n:=by
   have:=isLL_flat (isLL_sub q1 0 m.toNat)
   simp only [List.drop_zero] at this
   rw [this,htl]
  rcases q3.2 with ⟨r1,r2⟩ | ⟨g,cap,cur,r1,r2,r3,r4,r5,r6,r7⟩
  ·have hm:m=0:=by omega
   subst hm
   have hrun:=slice_run (P:=c.P) (w:=w) hu hs (ρ:=a.eval) (ad:=none) (len:=0) (cp:=0) (lo:=0) (hi:=0) (k1.2.trans r1) (Nat.le_refl _) e1 (by rw [r2] at e2;exact e2) (by omega) (by omega) (by omega) dst ty pos af gd
   refine ⟨_,hrun,by rw [r1];simp [Value.ownBlock],⟨by rw [hlen2,htl],.inl ⟨by simp,by simp⟩⟩⟩
  ·have hrun:=slice_run (P:=c.P) (w:=w) hu hs (ρ:=a.eval) (ad:=some ⟨g,0,none⟩) (len:=L.rows.length) (cp:=cap) (lo:=0) (hi:=m) (k1.2.trans r1) r4 e1 e2 (by omega) h0 h1 dst ty pos af gd
   refine ⟨_,hrun,by rw [r1];simp only [Option.map];split<;>simp [Value.ownBlock,Addr.add],⟨by rw [hlen2,htl],.inr ⟨g,cap,cur,?_,r2,r3,by rw [htl];omega,r5,r6,?_⟩⟩⟩
   ·rw [htl]
    simp only [Option.map,Int.toNat_zero,Nat.zero_mul,Nat.sub_zero]
    split<;>simp [Addr.add]
   ·rw [htl,hflt,←r7,List.take_take,Nat.min_eq_left (Nat.mul_le_mul_right _ (by omega))]
 obtain ⟨v',hrun,hb,ho⟩:=hown
 unfold Oper.wp
 rw [hrun]
 have hr:RelS c (M.addS v') S.bs (Zg S.ss j none++[some (⟨L.T,L.n,L.rows.take m.toNat⟩:Sl)]) w:=by
  refine RelS.grown (v:=M.σ j) (vss:=vss.take m.toNat) hS (Zb1 _ _ _) ?_ (.inr fun i B hi=>hS.d2 i j B L hi hj) q4 ⟨rfl,rfl,rfl,Nat.le_refl _,fun _ _ _=>rfl⟩ (.inl hb) g0 (by have:=isLL_sub q1 0 m.toNat;simpa using this) ?_ ho
  ·intro i N hi
   rw [Za1] at hi
   split at hi
   ·simp at hi
   ·rename_i e
    refine ⟨hi,fun g hg e2=>e ⟨?_,Zc1 hj⟩⟩
    exact hS.d3 i j N L g hi hj e2 hg
  ·intro v hv
   simp only [List.mem_flatten] at hv
   obtain ⟨r,hr,hv⟩:=hv
   exact q2 v (List.mem_flatten.2 ⟨r,List.mem_of_mem_take hr,hv⟩)
 refine hnx _ w _ (Mem.le_addS M _) hr ?_
 rw [Z61,←hS.ns]
 exact ⟨Nat.lt_succ_self _,by simp [Mem.addS]⟩
theorem V_cutM {α:Type} {l' v:List α} {m:Int} {d:Option Nat} {g:Option (Nat×Bool)} {l:List EOp} {T n j:Nat} {x:X} {lo hi:Option X} (f:α→List AV) (hv:sub_ l' 0 m=some v) (hg:gm S g) (hx:S.x x = .osl j) (hj:Zf S.ss j=some ⟨T,n,l'.map f⟩) (hlo:bnd S lo 0=some 0) (hhi:bnd S hi (ln f l')=some m)
  (h:V c fn K (.ops l::k) ((⟨S.tm,S.bs,Zg S.ss j none++[some ⟨T,n,v.map f⟩]⟩:St).put d (.osl (Zi S.ss)))):V c fn K (.ops (⟨d,g,.slice n x lo hi⟩::l)::k) S:=by
 unfold sub_ at hv
 split at hv
 ·rename_i h1
  simp at hv
  subst hv
  rw [List.map_take] at h
  exact V_sem hg (sem_cut hx hj rfl hlo hhi h1.2.1 (by simpa using h1.2.2)) rfl h
 ·simp at hv
section
variable {all:Array Oper} {ops:List EOp} {af:List (List Nat)} {Φ:St→Prop} {m:Nat} {ld:List Bool}
end
end
section
variable {c:Ctx} {S:St} {fn:Func} {K:AV→List (Option Blk)→List (Option Sl)→Prop} {k:List It}
end
end NX
end Go.Proofs.YtphfnmafamnddaaDoor
/-
  From what a machine computes to what a row says: arguments as data, and what is left of them. No statement of the seat is proved here.
-/
namespace Go.Proofs.YtphfnmafamnddaaDoor
namespace NX
open Go Go.RowKit Go.ChangeShapes Go.WideShapes
theorem Z54 {P:Program} {H:Type} {enc:TypeId×Value→H} (hl:laidOutB P=true) {W W':World} (hB:Below W.heap.size W W'):∀ {ts:List TypeId} {vs:List Value} {ds:List (DataW H)} {ps:List MemPlace},
  (ts.all fun t=>P.readableRec t&&decide (t<P.types.size))=true→DataW.TrodAll enc P W 0 (fun _=>true) true ts vs ds ps→(∀x∈ps,x.block<W.heap.size)→
  DataW.TrodAll enc P W' 0 (fun b=>decide (b<W.heap.size)) true ts vs ds ps
 | [],[],[],ps,_,h,_=>h
 | t::ts,v::vs,d::ds,ps,hr,⟨p,q,h1,h2,e⟩,hlt=>by
   simp only [List.all_cons,Bool.and_eq_true,decide_eq_true_eq] at hr
   subst e
   exact ⟨p,q,Below.trod hl hr.1.1 hr.1.2 h1 hB (fun x hx=>hlt x (List.mem_append_left _ hx)),Z54 hl hB (by simpa using hr.2) h2 (fun x hx=>hlt x (List.mem_append_right _ hx)),rfl⟩
 | [],_::_,_,_,_,h,_=>by simp [DataW.TrodAll] at h
 | [],[],_::_,_,_,h,_=>by simp [DataW.TrodAll] at h
 | _::_,[],_,_,_,h,_=>by simp [DataW.TrodAll] at h
 | _::_,_::_,[],_,_,h,_=>by simp [DataW.TrodAll] at h
theorem Z64 {P:Program} {H:Type} {enc:TypeId×Value→H} {w:World} {b:Nat} {sp:Nat→Bool} {held:Bool}:∀ {ts:List TypeId} {vs:List Value} {ds:List (DataW H)} {ps:List MemPlace},DataW.TrodAll enc P w b sp held ts vs ds ps→ds.length=ts.length∧vs.length=ts.length
 | [],[],[],_,_=>⟨rfl,rfl⟩
 | _::_,_::_,_::_,_,⟨_,_,_,h,_⟩=>by have:=Z64 h;simp [this]
 | [],_::_,_,_,h=>by simp [DataW.TrodAll] at h
 | [],[],_::_,_,h=>by simp [DataW.TrodAll] at h
 | _::_,[],_,_,h=>by simp [DataW.TrodAll] at h
 | _::_,_::_,[],_,h=>by simp [DataW.TrodAll] at h
theorem law_post {P:Program} {fn:Func} {s:ChangeSpec} (hl:laidOutB P=true) (hr:(fn.params.toList.all fun t=>P.readableRec t&&decide (t<P.types.size))=true) (hv:s.vars=[]) {tb:TypeId} (hres:fn.resultTypes = #[tb]) (hb:P.underlying tb=some .bool)
  {H:Type} {enc:TypeId×Value→H} {W W':World} {args:Array Value} {ds gs:List (DataW H)} {before:List MemPlace}
  (hs:ds.length=fn.params.size→s.fn H ds={results:=[.lit (.bool true)],args:=ds})
  (hW:DataW.Whole enc P fn.params.toList s.vars false W args.toList ds gs before) (hB:Below W.heap.size W W'):s.post enc P fn false true false false W args (.bool true) W':=by
 have hW':=hW
 obtain ⟨p,q,hA,hV,rfl,hfz,hnd⟩:=hW
 rw [hv] at hV
 obtain ⟨rfl,rfl⟩:=trodVars_none hV
 have hlen:=(Z64 hA).1
 have e1:s.fn H (ds++[])={results:=[.lit (.bool true)],args:=ds}:=by rw [List.append_nil];exact hs (by simpa using hlen)
 refine ⟨ds,[],p++[],[],p,[],hW',?_,?_,?_,hB.frame _,fun h=>by cases h⟩
 ·rw [e1,hres];exact trodAll_mk1 (shut_bool hb _)
 ·rw [e1];exact Z54 hl hB hr hA (fun x hx=>hW'.lt x (List.mem_append_left _ hx))
 ·rw [e1,hv];rfl
end NX
end Go.Proofs.YtphfnmafamnddaaDoor
/-
  The symbolic machine: copies into own slices; numbers of other kinds. No statement of the seat is proved here.
-/
namespace Go.Proofs.YtphfnmafamnddaaDoor
namespace NX
open Go Go.RowKit
section
variable {c:Ctx} {M:Mem} {S S':St} {a:Act} {w:World} {fn:Func} {K:AV→List (Option Blk)→List (Option Sl)→Prop} {k:List It}
theorem own_parts (h:RelS c M S.bs S.ss w) {j T n:Nat} {rows:List (List AV)} (hj:Zf S.ss j=some ⟨T,n,rows⟩) (h0:0<rows.length):
  ∃g cap cur vss,M.σ j = .slice (some ⟨g,0,none⟩) rows.length cap∧w.heap[g]?=some (.cells cur T (0,0))∧rows.length≤cap∧cap≤maxLen∧cur.size=cap*n∧AV.isLL M.pure n rows vss∧(∀v∈vss.flatten,v.oneCell'=true)∧cur.toList.take (rows.length*n)=vss.flatten:=by
 obtain ⟨g0,vss,h1,h2,h3,h4⟩:=h.slc j _ hj
 dsimp only at h1 h3 g0
 rcases h3.2 with ⟨_,e3⟩ | ⟨g,cap,cur,e2,_,e3,e4,e5,e6,e7⟩
 ·omega
 ·exact ⟨g,cap,cur,vss,e2,e3,e4,e5,e6,h1,h2,e7⟩
theorem bnd_is {ρ:Operand→Value} (hx:∀o:Operand,(S.x (cX o)).is M (ρ o)):∀(o:Option Operand) (z r:Int),bnd S (o.map cX) z=some r→match o with | none=>r=z | some o=>ρ o = .int .i64 r:=by
 intro o z r hb
 cases o with
 | none=>simpa [bnd] using hb.symm
 | some o=>
   simp only [Option.map_some,bnd] at hb
   have:=hx o
   split at hb
   ·rename_i n' hn'
    rw [hn'] at this
    simp at hb;subst hb;exact this
   ·simp at hb
end
end NX
end Go.Proofs.YtphfnmafamnddaaDoor
/-
  The symbolic machine: parts of own slices: cut, cleared, laid behind one another. No statement of the seat is proved here.
-/
namespace Go.Proofs.YtphfnmafamnddaaDoor
namespace NX
open Go Go.RowKit
section
variable {c:Ctx} {M:Mem} {S S':St} {a:Act} {w:World} {fn:Func} {K:AV→List (Option Blk)→List (Option Sl)→Prop} {k:List It}
end
end NX
end Go.Proofs.YtphfnmafamnddaaDoor
/-
  The symbolic machine: strings. No statement of the seat is proved here.
-/
namespace Go.Proofs.YtphfnmafamnddaaDoor
namespace NX
open Go Go.RowKit
def Z74 (s t:ByteArray):Option ByteArray:=if s.size+t.size≤9223372036854775807 then some ⟨(s.data.toList++t.data.toList).toArray⟩ else none
def Z84 (s:ByteArray) (i:Int):Option Int:=if 0≤i then (s.data.toList[i.toNat]?).map fun b=>(b.toNat:Int) else none
def Z94 (s:ByteArray) (lo hi:Int):Option ByteArray:=if 0≤lo∧lo≤hi∧hi≤s.size then some ⟨((s.data.toList.take hi.toNat).drop lo.toNat).toArray⟩ else none
def Za4 (l:List Int):ByteArray:=⟨(l.map fun n=>UInt8.ofNat n.toNat).toArray⟩
section
variable {c:Ctx} {M:Mem} {S S':St} {a:Act} {w:World} {fn:Func} {K:AV→List (Option Blk)→List (Option Sl)→Prop} {k:List It}
theorem cO_sbin {P:Program} {op:Op} {b:BinOp} {x y:X} (ho:cO P op = .sbin b x y):∃T p q T2,op = .binOp b T p q T2∧cX p=x∧cX q=y:=by
 cases op
 case binOp b' T p q T2=>
  simp only [cO] at ho
  split at ho
  case h_3=>
   simp only [EO.sbin.injEq] at ho
   obtain ⟨rfl,rfl,rfl⟩:=ho
   exact ⟨T,p,q,T2,rfl,rfl,rfl⟩
  all_goals ((repeat' (split at ho))<;>simp at ho)
 all_goals (simp only [cO] at ho;(repeat' (split at ho))<;>simp at ho)
theorem sem_scat {x y:X} {s t r:ByteArray} (hx:S.x x = .sv s) (hy:S.x y = .sv t) (hr:Z74 s t=some r):Sem1 c S (.sbin .add x y) (.sv r) S:=by
 intro ro hop M a w hT next Q hnx
 obtain ⟨dst,op,ty,pos,af,gd⟩:=ro
 dsimp only at hop
 obtain ⟨T,p,q,T2,rfl,rfl,rfl⟩:=cO_sbin hop
 have k1:=Zx1 hT p
 have k2:=Zx1 hT q
 rw [hx] at k1
 rw [hy] at k2
 simp only [AV.is] at k1 k2
 unfold Z74 at hr
 split at hr
 ·rename_i hle
  have he:r=s++t:=by
   simp only [Option.some.injEq] at hr
   rw [←hr]
   apply ByteArray.ext
   apply Array.ext'
   simp [ByteArray.data_append]
  have hnl:¬((s.size+t.size:Nat):Int)>IntKind.i64.max:=by
   have h1:IntKind.i64.max=9223372036854775807:=by decide
   rw [h1]
   omega
  have hrun:(execOp a.eval ⟨dst,.binOp .add T p q T2,ty,pos,af,gd⟩).run c.P w = .ok (.value (.string r)) w:=by
   have hg:(eqGuard .add T p q (.string s) (.string t)).run c.P w = .ok () w:=by unfold eqGuard;rfl
   generalize a.eval=ρ at *
   simp [execOp,k1,k2,hg,binOp,Op.stringOp]
   rw [if_neg (by simpa using hnl),he]
  unfold Oper.wp
  rw [hrun]
  exact hnx M w _ (.refl M) hT.st rfl
 ·simp at hr
theorem Zb4 {d:Option Nat} {g:Option (Nat×Bool)} {l:List EOp} {x y:X} {s t r:ByteArray} (hr:Z74 s t=some r) (hg:gm S g) (hx:S.x x = .sv s) (hy:S.x y = .sv t)
 (hn:V c fn K (.ops l::k) (S.put d (.sv r))):V c fn K (.ops (⟨d,g,.sbin .add x y⟩::l)::k) S:=V_sem hg (sem_scat hx hy hr) rfl hn
theorem cO_sidx {P:Program} {op:Op} {x i:X} (ho:cO P op = .sidx x i):∃T p q,op = .index T p q∧P.underlying T=some .string∧cX p=x∧cX q=i:=by
 cases op
 case index T p q=>
  simp only [cO] at ho
  split at ho
  ·(repeat' (split at ho))<;>simp at ho
  ·rename_i hu
   simp only [EO.sidx.injEq] at ho
   obtain ⟨rfl,rfl⟩:=ho
   exact ⟨T,p,q,rfl,hu,rfl,rfl⟩
  ·simp at ho
 all_goals (simp only [cO] at ho;(repeat' (split at ho))<;>simp at ho)
theorem sem_sidx {x i:X} {s:ByteArray} {j n:Int} (hx:S.x x = .sv s) (hi:S.x i = .iv j) (hr:Z84 s j=some n):Sem1 c S (.sidx x i) (.kv .u8 n) S:=by
 intro ro hop M a w hT next Q hnx
 obtain ⟨dst,op,ty,pos,af,gd⟩:=ro
 dsimp only at hop
 obtain ⟨T,p,q,rfl,hu,rfl,rfl⟩:=cO_sidx hop
 have k1:=Zx1 hT p
 have k2:=Zx1 hT q
 rw [hx] at k1
 rw [hi] at k2
 simp only [AV.is] at k1 k2
 unfold Z84 at hr
 split at hr
 ·rename_i h0
  simp only [Option.map_eq_some_iff] at hr
  obtain ⟨b,hb,rfl⟩:=hr
  have hb':s[j.toNat]?=some b:=by
   obtain ⟨hlt,he⟩:=List.getElem?_eq_some_iff.1 hb
   have hlt':j.toNat<s.size:=by simpa using hlt
   rw [getElem?_pos s j.toNat hlt',ByteArray.getElem_eq_getElem_data]
   simpa using he
  have hrun:(execOp a.eval ⟨dst,.index T p q,ty,pos,af,gd⟩).run c.P w = .ok (.value (.int .u8 b.toNat)) w:=by
   generalize a.eval=ρ at *
   simp [execOp,k1,k2,Instr.index,asIntOf,run_underlying hu,h0,hb']
  unfold Oper.wp
  rw [hrun]
  exact hnx M w _ (.refl M) hT.st rfl
 ·simp at hr
theorem V_sidxM {d:Option Nat} {g:Option (Nat×Bool)} {l:List EOp} {x i:X} {s:ByteArray} {j n:Int} (hr:Z84 s j=some n) (hg:gm S g) (hx:S.x x = .sv s) (hi:S.x i = .iv j)
 (hn:V c fn K (.ops l::k) (S.put d (.kv .u8 n))):V c fn K (.ops (⟨d,g,.sidx x i⟩::l)::k) S:=V_sem hg (sem_sidx hx hi hr) rfl hn
theorem cO_ssl {P:Program} {op:Op} {x:X} {lo hi:Option X} (ho:cO P op = .ssl x lo hi):∃T y l h,op = .slice T y l h none∧P.underlying T=some .string∧cX y=x∧l.map cX=lo∧h.map cX=hi:=by
 cases op
 case slice T y l h mx=>
  simp only [cO] at ho
  split at ho
  ·split at ho<;>simp at ho
  ·split at ho<;>simp at ho
  ·rename_i hu
   simp only [EO.ssl.injEq] at ho
   obtain ⟨rfl,rfl,rfl⟩:=ho
   exact ⟨T,y,l,h,rfl,hu,rfl,rfl,rfl⟩
  ·simp at ho
 all_goals (simp only [cO] at ho;(repeat' (split at ho))<;>simp at ho)
theorem sem_ssl {x:X} {lo hi:Option X} {s r:ByteArray} {l h:Int} (hx:S.x x = .sv s) (hlo:bnd S lo 0=some l) (hhi:bnd S hi (Zo s)=some h) (hr:Z94 s l h=some r):Sem1 c S (.ssl x lo hi) (.sv r) S:=by
 intro ro hop M a w hT next Q hnx
 obtain ⟨dst,op,ty,pos,af,gd⟩:=ro
 dsimp only at hop
 obtain ⟨T,y,lo',hi',rfl,hu,rfl,rfl,rfl⟩:=cO_ssl hop
 have k1:=Zx1 hT y
 rw [hx] at k1
 simp only [AV.is] at k1
 unfold Z94 at hr
 split at hr
 ·rename_i hb
  obtain ⟨h0,h1,h2⟩:=hb
  simp only [Option.some.injEq] at hr
  have b1:=bnd_is (Zx1 hT) lo' 0 l hlo
  have b2:=bnd_is (Zx1 hT) hi' (Zo s) h hhi
  have hsz:(s.size:Int)=Zo s:=rfl
  have key:(Instr.sliceBounds false s.size s.size (lo'.map a.eval) (hi'.map a.eval) none).run c.P w = .ok (l.toNat,h.toNat,s.size) w:=by
   unfold Zo at b2 hsz
   cases lo'<;>cases hi'<;>simp only at b1 b2<;>simp only [Option.map,Instr.sliceBounds]
   ·subst b1;subst b2;simp
   ·subst b1;simp [Instr.sliceBound,asIntOf,b2,h2,show 0≤h by omega]
   ·subst b2;simp [Instr.sliceBound,asIntOf,b1,h0,h1]
   ·simp [Instr.sliceBound,asIntOf,b1,b2,h0,h1,h2,show 0≤h by omega,Int.toNat_of_nonneg (show 0≤h by omega)]
  have he:r=s.extract l.toNat h.toNat:=by
   rw [←hr]
   apply ByteArray.ext
   apply Array.ext'
   rw [ByteArray.data_extract]
   simp [Array.toList_extract,List.extract_eq_take_drop,List.drop_take]
  have hrun:(execOp a.eval ⟨dst,.slice T y lo' hi' none,ty,pos,af,gd⟩).run c.P w = .ok (.value (.string r)) w:=by
   generalize a.eval=ρ at *
   simp [execOp,Instr.sliceAt,Instr.slice,k1,run_underlying hu,key,he]
  unfold Oper.wp
  rw [hrun]
  exact hnx M w _ (.refl M) hT.st rfl
 ·simp at hr
theorem V_sslM {d:Option Nat} {g:Option (Nat×Bool)} {ol:List EOp} {x:X} {lo hi:Option X} {s r:ByteArray} {l h:Int} (hr:Z94 s l h=some r) (hg:gm S g) (hx:S.x x = .sv s) (hlo:bnd S lo 0=some l) (hhi:bnd S hi (Zo s)=some h)
 (hn:V c fn K (.ops ol::k) (S.put d (.sv r))):V c fn K (.ops (⟨d,g,.ssl x lo hi⟩::ol)::k) S:=V_sem hg (sem_ssl hx hlo hhi hr) rfl hn
theorem cO_b2s {P:Program} {op:Op} {x:X} (ho:cO P op = .b2s x):∃A B p e,op = .convert A B p∧P.underlying A=some (.slice e)∧P.underlying B=some .string∧P.underlying e=some (.int .u8)∧cX p=x:=by
 cases op
 case convert A B p=>
  simp only [cO] at ho
  split at ho
  ·simp at ho
  ·rename_i e hA hB
   split at ho
   ·rename_i he
    simp only [EO.b2s.injEq] at ho
    exact ⟨A,B,p,e,rfl,hA,hB,he,ho⟩
   ·simp at ho
  ·simp at ho
 all_goals (simp only [cO] at ho;(repeat' (split at ho))<;>simp at ho)
theorem push_bstr:∀(ns:List Int) (s:ByteArray),ns.foldl (fun r n=>r.push (UInt8.ofNat n.toNat)) s=⟨(s.data.toList++(ns.map fun n=>UInt8.ofNat n.toNat)).toArray⟩
 | [],s=>by simp
 | n::ns,s=>by
   rw [List.foldl_cons,push_bstr ns]
   simp [ByteArray.push]
theorem Zc4 {M:Mem}:∀ {zs:List Int} {vss:List (List Value)},AV.isLL M 1 (zs.map (kvRow .u8)) vss→vss.flatten=zs.map (Value.int .u8)
 | [],vss,h=>by simp [AV.isLL] at h;subst h;rfl
 | z::zs,vss,h=>by
   obtain ⟨v,r,rfl,_,h2,h3⟩:=h
   obtain ⟨u,t,rfl,h4,h5⟩:=h2
   simp only [AV.is] at h4
   simp only [AV.isL] at h5
   subst h4;subst h5
   simp [Zc4 h3]
theorem b2s_run {P:Program} {w:World} {A B e:TypeId} {p:Operand} (hA:P.underlying A=some (.slice e)) (hB:P.underlying B=some .string) (he:P.underlying e=some (.int .u8)) {ρ:Operand→Value} {ad:Addr} {cap:Nat} {ns:List Int}
  (hx:ρ p = .slice (some ad) ns.length cap) (hc:∀(i:Nat) v,(ns.map (Value.int .u8))[i]?=some v→w.cell? (ad.add i)=some v) (d:Option Tmp) (ty:TypeId) (pos:String) (af:Array Go.Edge) (gg:Option (Nat×Bool)):
  (execOp ρ ⟨d,.convert A B p,ty,pos,af,gg⟩).run P w = .ok (.value (.string (Za4 ns))) w:=by
 have h1:=run_loadCells_list (P:=P) w ad (ns.map (Value.int .u8)) hc
 rw [List.length_map] at h1
 have h2:=run_bytesToString w ad ns.length cap ns h1
 rw [push_bstr] at h2
 have h3:=run_convert_bytes_string w A B e (some ad) ns.length cap hA he hB
 simp [execOp,hx,h3,h2,Za4]
theorem b2s_run0 {P:Program} {w:World} {A B e:TypeId} {p:Operand} (hA:P.underlying A=some (.slice e)) (hB:P.underlying B=some .string) (he:P.underlying e=some (.int .u8)) {ρ:Operand→Value} {ad:Option Addr} {cap:Nat}
  (hx:ρ p = .slice ad 0 cap) (d:Option Tmp) (ty:TypeId) (pos:String) (af:Array Go.Edge) (gg:Option (Nat×Bool)):
  (execOp ρ ⟨d,.convert A B p,ty,pos,af,gg⟩).run P w = .ok (.value (.string (Za4 []))) w:=by
 cases ad with
 | some ad=>exact b2s_run (ns:=[]) hA hB he hx (fun i v h=>by simp at h) d ty pos af gg
 | none=>
   have h3:=run_convert_bytes_string w A B e none 0 cap hA he hB
   simp [execOp,hx,h3,Conv.bytesToString,Za4]
   rfl
theorem sem_b2sO {j T:Nat} {x:X} {ns:List Int} (hx:S.x x = .osl j) (hj:Zf S.ss j=some ⟨T,1,ns.map (kvRow .u8)⟩):Sem1 c S (.b2s x) (.sv (Za4 ns)) S:=by
 intro ro hop M a w hT next Q hnx
 obtain ⟨dst,op,ty,pos,af,gd⟩:=ro
 dsimp only at hop
 obtain ⟨A,B,p,e,rfl,hA,hB,he,rfl⟩:=cO_b2s hop
 have k1:=Zx1 hT p
 rw [hx] at k1
 have hrun:(execOp a.eval ⟨dst,.convert A B p,ty,pos,af,gd⟩).run c.P w = .ok (.value (.string (Za4 ns))) w:=by
  cases ns with
  | nil=>
    obtain ⟨_,vss,_,_,ho,_⟩:=hT.st.slc j _ hj
    rcases ho.2 with ⟨h1,_⟩ | ⟨g,cp,cur,h1,_⟩
    ·exact b2s_run0 hA hB he (k1.2.trans h1) dst ty pos af gd
    ·exact b2s_run0 hA hB he (k1.2.trans h1) dst ty pos af gd
  | cons n ns=>
    obtain ⟨g,cap,cur,vss,e2,e3,e4,e5,e6,v1,v2,e7⟩:=own_parts hT.st hj (by simp)
    rw [Zc4 v1,List.length_map,Nat.mul_one] at e7
    have k2:=k1.2.trans e2
    rw [List.length_map] at k2
    refine b2s_run hA hB he k2 (fun i v hv=>?_) dst ty pos af gd
    rw [←e7,List.getElem?_take] at hv
    split at hv
    ·rw [Addr.add_lit]
     simp only [World.cell?,e3]
     simpa using hv
    ·simp at hv
 unfold Oper.wp
 rw [hrun]
 exact hnx M w _ (.refl M) hT.st rfl
theorem V_b2sO {j T:Nat} {d:Option Nat} {g:Option (Nat×Bool)} {l:List EOp} {x:X} {ns:List Int} (hg:gm S g) (hx:S.x x = .osl j) (hj:Zf S.ss j=some ⟨T,1,ns.map (kvRow .u8)⟩)
 (hn:V c fn K (.ops l::k) (S.put d (.sv (Za4 ns)))):V c fn K (.ops (⟨d,g,.b2s x⟩::l)::k) S:=V_sem hg (sem_b2sO hx hj) rfl hn
theorem GO_b2sO {all:Array Oper} {ops:List EOp} {af:List (List Nat)} {Φ:St→Prop} {m:Nat} {ld:List Bool} {i:Nat} {j T:Nat} {x:X} {ns:List Int} (hall:all.toList.mapM (Za c.P all)=some ops) (ho:(Z31 ops i).o = .b2s x) (hg:gm S (Z31 ops i).g) (hx:S.x x = .osl j) (hj:Zf S.ss j=some ⟨T,1,ns.map (kvRow .u8)⟩)
  (h:G c all ops af Φ m (Z01 ld i) (S.put (Z31 ops i).d (.sv (Za4 ns)))):GO c all ops af Φ m ld S i:=
 GO_sem hall hg (by rw [ho];exact sem_b2sO hx hj) rfl (fun _ _ _ _ h1 _ _=>h1) h
end
end NX
end Go.Proofs.YtphfnmafamnddaaDoor
/-
  The symbolic machine: strings in drawn regions, arrays by their addresses, parts of own slices with a model. No statement of the seat is proved here.
-/
namespace Go.Proofs.YtphfnmafamnddaaDoor
namespace NX
open Go Go.RowKit
section
variable {c:Ctx} {M:Mem} {S S':St} {a:Act} {w:World} {fn:Func} {K:AV→List (Option Blk)→List (Option Sl)→Prop} {k:List It}
section
variable {all:Array Oper} {ops:List EOp} {af:List (List Nat)} {Φ:St→Prop} {m':Nat} {ld:List Bool} {nap:List (List Nat)}
theorem Zd4 (hall:all.toList.mapM (Za c.P all)=some ops) (hsel:Region.noSelect all=true) (haf:af=Zb all) (hnap:nap=Zc all) (i:Nat) {x y:X} {s:ByteArray} {j n:Int} (hr:Z84 s j=some n)
  (hi':memN i (rdy ld af 0)=true) (ho:(Z31 ops i).o = .sidx x y) (hg:gm S (Z31 ops i).g) (hx:S.x x = .sv s) (hy:S.x y = .iv j)
  (hf:frB ld af i (Z21 nap i)=true) (hV:G c all ops af Φ m' (Z01 ld i) (S.put (Z31 ops i).d (.kv .u8 n))):G c all ops af Φ (m'+1) ld S:=by
 subst haf;subst hnap
 refine Zi3 hall hsel i (q:=True) trivial m' ld S ((Z53 _ _).1 hi') (.inr (.inr (.inr ⟨hg,by rw [ho];rfl,[x,y],fun P op hop z hz=>?_,fun S' hS' c'=>?_⟩))) hf (fun hl=>by rw [ho] at hl;simp [isLd] at hl) hV
 ·rw [ho] at hop
  obtain ⟨T,p,q,rfl,hu,rfl,rfl⟩:=cO_sidx hop
  rcases List.mem_cons.1 hz with rfl | hz
  ·exact ⟨p,by simp [Op.operands],rfl⟩
  ·simp at hz;exact ⟨q,by simp [Op.operands],hz.symm⟩
 ·rw [ho]
  exact ⟨sem_sidx (by rw [hS' x (by simp)];exact hx) (by rw [hS' y (by simp)];exact hy) hr,fun M a w op hop hT=>⟨_,rfl⟩⟩
theorem Ze4 (hall:all.toList.mapM (Za c.P all)=some ops) (hsel:Region.noSelect all=true) (haf:af=Zb all) (hnap:nap=Zc all) (i:Nat) {x y:X} {s t r:ByteArray} (hr:Z74 s t=some r)
  (hi':memN i (rdy ld af 0)=true) (ho:(Z31 ops i).o = .sbin .add x y) (hg:gm S (Z31 ops i).g) (hx:S.x x = .sv s) (hy:S.x y = .sv t)
  (hf:frB ld af i (Z21 nap i)=true) (hV:G c all ops af Φ m' (Z01 ld i) (S.put (Z31 ops i).d (.sv r))):G c all ops af Φ (m'+1) ld S:=by
 subst haf;subst hnap
 refine Zi3 hall hsel i (q:=True) trivial m' ld S ((Z53 _ _).1 hi') (.inr (.inr (.inr ⟨hg,by rw [ho];rfl,[x,y],fun P op hop z hz=>?_,fun S' hS' c'=>?_⟩))) hf (fun hl=>by rw [ho] at hl;simp [isLd] at hl) hV
 ·rw [ho] at hop
  obtain ⟨T,p,q,T2,rfl,rfl,rfl⟩:=cO_sbin hop
  rcases List.mem_cons.1 hz with rfl | hz
  ·exact ⟨p,by simp [Op.operands],rfl⟩
  ·simp at hz;exact ⟨q,by simp [Op.operands],hz.symm⟩
 ·rw [ho]
  exact ⟨sem_scat (by rw [hS' x (by simp)];exact hx) (by rw [hS' y (by simp)];exact hy) hr,fun M a w op hop hT=>⟨_,rfl⟩⟩
theorem G_sslM (hall:all.toList.mapM (Za c.P all)=some ops) (hsel:Region.noSelect all=true) (haf:af=Zb all) (hnap:nap=Zc all) (i:Nat) {x:X} {lo hi:Option X} {s r:ByteArray} {l h:Int} (hr:Z94 s l h=some r)
  (hi':memN i (rdy ld af 0)=true) (ho:(Z31 ops i).o = .ssl x lo hi) (hg:gm S (Z31 ops i).g) (hx:S.x x = .sv s) (hl:bnd S lo 0=some l) (hh:bnd S hi (Zo s)=some h)
  (hf:frB ld af i (Z21 nap i)=true) (hV:G c all ops af Φ m' (Z01 ld i) (S.put (Z31 ops i).d (.sv r))):G c all ops af Φ (m'+1) ld S:=by
 subst haf;subst hnap
 refine Zi3 hall hsel i (q:=True) trivial m' ld S ((Z53 _ _).1 hi') (.inr (.inr (.inr ⟨hg,by rw [ho];rfl,x::(lo.toList++hi.toList),fun P op hop y hy=>?_,fun S' hS' c'=>?_⟩))) hf (fun hl=>by rw [ho] at hl;simp [isLd] at hl) hV
 ·rw [ho] at hop
  obtain ⟨T,y1,lo',hi',rfl,hu,rfl,rfl,rfl⟩:=cO_ssl hop
  rcases List.mem_cons.1 hy with rfl | hy
  ·exact ⟨y1,by simp [Op.operands],rfl⟩
  ·rcases List.mem_append.1 hy with hy | hy
   ·cases lo' with
    | none=>simp at hy
    | some o=>simp at hy;exact ⟨o,by simp [Op.operands],hy.symm⟩
   ·cases hi' with
    | none=>simp at hy
    | some o=>simp at hy;exact ⟨o,by simp [Op.operands],hy.symm⟩
 ·have ex:S'.x x = .sv s:=by rw [hS' x (by simp)];exact hx
  have el:bnd S' lo 0=some l:=by
   cases lo with
   | none=>exact hl
   | some y=>simp only [bnd] at hl ⊢;rw [hS' y (by simp)];exact hl
  have eh:bnd S' hi (Zo s)=some h:=by
   cases hi with
   | none=>exact hh
   | some y=>simp only [bnd] at hh ⊢;rw [hS' y (by simp)];exact hh
  rw [ho]
  exact ⟨sem_ssl ex el eh hr,fun M a w op hop hT=>⟨_,rfl⟩⟩
end
theorem cO_idxa {P:Program} {op:Op} {l n:Nat} {x i:X} (ho:cO P op = .idxa l n x i):
  ∃T y j e,op = .indexAddr T y j∧P.underlying T=some (.array l e)∧Z6 P e=some n∧cX y=x∧cX j=i:=by
 cases op<;>simp only [cO] at ho<;>(repeat' (split at ho))<;>(try (simp at ho;done))
 rename_i T y j _ l' e hT _ n' hn
 simp only [EO.idxa.injEq] at ho
 obtain ⟨rfl,rfl,rfl,rfl⟩:=ho
 exact ⟨T,y,j,e,rfl,hT,hn,rfl,rfl⟩
theorem sem_idxa {l n j off:Nat} {x i:X} {q:Int} (hx:S.x x = .ptr j off) (hi:S.x i = .iv q) (h0:0≤q) (h1:q<l):Sem1 c S (.idxa l n x i) (.ptr j (off+q.toNat*n)) S:=by
 intro ro hop M a w hT next Q hn
 obtain ⟨dst,op,ty,pos,af,gd⟩:=ro
 dsimp only at hop
 obtain ⟨T,y,z,e,rfl,hu,hs,rfl,rfl⟩:=cO_idxa hop
 have k1:=Zx1 hT y
 have k2:=Zx1 hT z
 rw [hx] at k1
 rw [hi] at k2
 simp only [AV.is] at k2
 have hrun:(execOp a.eval ⟨dst,.indexAddr T y z,ty,pos,af,gd⟩).run c.P w = .ok (.value (.pointer (some ⟨M.ρ j,off+q.toNat*n,none⟩))) w:=by
  have k3:=k1.2
  generalize a.eval=ρ at *
  simp [execOp,Instr.indexAt,Instr.sureAddr,asIntOf,k3,k2,run_underlying hu,Zz1 hs,h0,h1,Addr.add_lit]
 unfold Oper.wp
 rw [hrun]
 exact hn M w _ (.refl M) hT.st ⟨k1.1,rfl⟩
theorem V_idxaM {α:Type} {xs:List α} {v:α} {d:Option Nat} {g:Option (Nat×Bool)} {ol:List EOp} {l j:Nat} {x i:X} {q:Int} (hv:at_ xs q=some v) (hg:gm S g) (hx:S.x x = .ptr j 0) (hi:S.x i = .iv q) (hl:xs.length=l)
  (h:V c fn K (.ops ol::k) (S.put d (.ptr j q.toNat))):V c fn K (.ops (⟨d,g,.idxa l 1 x i⟩::ol)::k) S:=by
 obtain ⟨h0,hr⟩:=at_some hv
 have:=(List.getElem?_eq_some_iff.1 hr).1
 refine V_sem hg (sem_idxa hx hi h0 (by omega)) rfl ?_
 rw [Nat.zero_add,Nat.mul_one];exact h
theorem lsub_map {α:Type} (f:α→AV):∀(xs:List α) (i:Nat) (v:α),xs[i]?=some v→Zh (xs.map f) i 1=some [f v]
 | [],i,v,h=>by simp at h
 | x::xs,0,v,h=>by simp at h;subst h;rfl
 | x::xs,i+1,v,h=>by
   have:=lsub_map f xs i v (by simpa using h)
   simpa [Zh,ldr] using this
theorem V_loadPM {α:Type} {xs:List α} {v:α} {d:Option Nat} {g:Option (Nat×Bool)} {ol:List EOp} {T j:Nat} {x:X} {q:Int} (f:α→AV) (hv:at_ xs q=some v) (hg:gm S g) (hx:S.x x = .ptr j q.toNat) (hB:Zf S.bs j=some ⟨T,xs.map f⟩)
  (h:V c fn K (.ops ol::k) (S.put d (f v))):V c fn K (.ops (⟨d,g,.load x⟩::ol)::k) S:=by
 obtain ⟨h0,hr⟩:=at_some hv
 refine V_sem hg (sem_ev (o:=.load x) (v:=f v) (S1:=S) (q:=True) ?_ trivial) rfl h
 simp only [ev,Zt,hx,hB,lsub_map f xs _ v hr]
 rfl
variable {α:Type}
end
end NX
end Go.Proofs.YtphfnmafamnddaaDoor
/-
  The program's data. No statement of the seat is proved here.
-/
namespace Go.Proofs.YtphfnmafamnddaaDoor
namespace NX
open Go
structure Msg where
 Kind:Int
 Epoch:Int
 Num:Int
 deriving DecidableEq,Inhabited
def Msg.row (x:Msg):List AV:=[.iv x.Kind,.iv x.Epoch,.iv x.Num]
attribute [go_sem] Msg.row
end NX
end Go.Proofs.YtphfnmafamnddaaDoor
namespace Go.Proofs.YtphfnmafamnddaaDoor
namespace NX
open Go Go.RowKit Go.ChangeShapes Go.WideShapes
set_option maxRecDepth 100000
theorem opnR_int {P:Program} {t:TypeId} (ht:P.underlying t=some (.int .i64)) {H:Type} (enc:TypeId×Value→H) (w:World) (base:Nat) (sp:Nat→Bool) (held:Bool) (fuel:Nat) (cs:List Value) (x:DataW H×List MemPlace)
  (h:DataW.trod enc P w base sp held fuel t cs=some x):∃v:Int,InR v∧AV.isL (Z0 fun k=>w.heap[k]?) (intRow v) cs:=by
 obtain ⟨n,rfl,_,hw⟩:=DataW.trod_int ht h
 refine ⟨n,?_,_,_,rfl,rfl,rfl⟩
 simpa [InR,Lit.wf,IntKind.min,IntKind.max,IntKind.signed,IntKind.bits] using hw
theorem arg_msg {H:Type} {enc:TypeId×Value→H} {w:World} {b0:Nat} {r:Reach} {base:Nat} {sp:Nat→Bool} {held:Bool} {v:Value} {d:DataW H} {ps:List MemPlace}
  (hv:Value.okWide Tryd.prog w r b0 24 v) (hd:DataW.Trod enc Tryd.prog w base sp held 24 v d ps):∃x:Msg,(InR x.Kind∧InR x.Epoch∧InR x.Num)∧AV.is (Z0 fun k=>w.heap[k]?) (.agg (Msg.row x)) v:=by
 obtain ⟨fuel,hf⟩:=hd
 unfold Value.okWide at hv
 rw [Tryd.underlying24] at hv
 obtain ⟨cs0,rfl,_,_⟩:=hv
 have h:DataW.trod enc Tryd.prog w base sp held fuel 24 cs0.toList=some (d,ps):=hf
 generalize hcs:cs0.toList=cs at h
 obtain ⟨xs,n,_,_,hl,hxl,hf⟩:=DataW.trod_struct Tryd.underlying24 h
 rw [show Tryd.prog.cellsOf 24=3 from by kernel_rfl] at hl
 have c0:DataW.trod enc Tryd.prog w base sp held n 22 ((cs.drop 0).take (Tryd.prog.cellsOf 22))=xs[0]?:=hf 0 _ rfl
 have c1:DataW.trod enc Tryd.prog w base sp held n 3 ((cs.drop 1).take (Tryd.prog.cellsOf 3))=xs[1]?:=hf 1 _ rfl
 have c2:DataW.trod enc Tryd.prog w base sp held n 3 ((cs.drop 2).take (Tryd.prog.cellsOf 3))=xs[2]?:=hf 2 _ rfl
 rw [show Tryd.prog.cellsOf 22=1 from by kernel_rfl] at c0
 rw [show Tryd.prog.cellsOf 3=1 from by kernel_rfl] at c1 c2
 have hlt0:0<xs.length:=by rw [hxl];decide
 have hlt1:1<xs.length:=by rw [hxl];decide
 have hlt2:2<xs.length:=by rw [hxl];decide
 obtain ⟨v0,g0,k0⟩:=opnR_int Tryd.underlying22 enc w _ _ _ _ _ _ (c0.trans (List.getElem?_eq_getElem hlt0))
 obtain ⟨v1,g1,k1⟩:=opnR_int Tryd.underlying3 enc w _ _ _ _ _ _ (c1.trans (List.getElem?_eq_getElem hlt1))
 obtain ⟨v2,g2,k2⟩:=opnR_int Tryd.underlying3 enc w _ _ _ _ _ _ (c2.trans (List.getElem?_eq_getElem hlt2))
 have e:cs=(cs.drop 0).take 1++(cs.drop 1).take 1++(cs.drop 2).take 1:=by
  match cs,hl with
  | [a0,a1,a2],_=>rfl
 refine ⟨⟨v0,v1,v2⟩,⟨g0,g1,g2⟩,cs,by rw [←hcs],?_⟩
 rw [e]
 exact Zg1 (Zg1 k0 k1) k2
theorem arg_string {P:Program} {t:TypeId} (ht:P.underlying t=some .string) {H:Type} {enc:TypeId×Value→H} {w:World} {b0:Nat} {r:Reach} {base:Nat} {sp:Nat→Bool} {held:Bool} {v:Value} {d:DataW H} {ps:List MemPlace}
  (hv:Value.okWide P w r b0 t v) (hd:DataW.Trod enc P w base sp held t v d ps):∃x:ByteArray,AV.is (Z0 fun k=>w.heap[k]?) (.sv x) v:=by
 obtain ⟨s,rfl⟩:=okWide_string ht hv
 exact ⟨s,rfl⟩
theorem tab_data:(Rows.laid_internal_strconv_uint64pow10:DataW Unit)=Lib.tabData .u64 Lib.pow10Tab:=by kernel_rfl
theorem glob_of {W:World} (hL:laidMetH Tryd.prog [("math/bits.deBruijn32tab",Rows.laid_math_bits_deBruijn32tab),("math/bits.deBruijn64tab",Rows.laid_math_bits_deBruijn64tab),("internal/strconv.uint64pow10",Rows.laid_internal_strconv_uint64pow10)] W):Glob Tryd.prog (fun k=>W.heap[k]?):=by
 rw [MakeChecks.laidMetH_plain _ _ _ (by kernel_rfl)] at hL
 obtain ⟨g',t',cs,fuel,p,hg',ht',hvar,hd⟩:=Lib.laidMet.reads hL (n:="internal/strconv.uint64pow10") (d:=Rows.laid_internal_strconv_uint64pow10) (by simp)
 have hg0:Tryd.prog.globalNamed "internal/strconv.uint64pow10" = some 0:=by kernel_rfl
 have ht0:(Tryd.prog.globals[0]?).map (·.type)=some 55:=by kernel_rfl
 obtain rfl:=Option.some.inj (hg0.symm.trans hg')
 obtain rfl:=Option.some.inj (ht0.symm.trans ht')
 rw [tab_data] at hd
 have hc:=Lib.cells_of_tab Tryd.underlying55 Tryd.underlying45 (by kernel_rfl) (by kernel_rfl) hd
 have hcs:cs=(Lib.pow10Tab.map fun z=>Value.int .u64 z).toArray:=by rw [←hc]
 intro s hs g hg
 obtain rfl:s=_:=List.mem_singleton.1 hs
 obtain rfl:=Option.some.inj (hg0.symm.trans hg)
 unfold World.var? at hvar
 rw [hg0,Option.bind_some] at hvar
 cases h:W.heap[0]? with
 | none=>rw [h] at hvar;simp at hvar
 | some o=>
   rw [h] at hvar
   cases o with
   | cells c T fr=>
     simp only [Option.some.injEq] at hvar
     refine ⟨T,fr,?_⟩
     show W.heap[0]?=_
     rw [h,hvar,hcs]
     exact congrArg (fun x=>some (Obj.cells x T fr)) (by kernel_rfl)
   | _=>simp at hvar
end NX
end Go.Proofs.YtphfnmafamnddaaDoor
/-
  Plain laws: loops of models over lists and ranges. No statement of the seat is proved here.
-/
namespace Go.Proofs.YtphfnmafamnddaaDoor
namespace NX
open Go
@[simp] theorem Zf4 {α:Type} (a b:Option α):ifb true a b=a:=rfl
@[simp] theorem Zg4 {α:Type} (a b:Option α):ifb false a b=b:=rfl
theorem Zh4 {n:Int} (h1: -9223372036854775808≤n) (h2:n≤9223372036854775807):wr n=n:=IntWalk.i64_in n ⟨h1,h2⟩
set_option maxRecDepth 100000
set_option maxHeartbeats 4000000
@[go_sem] def e19:EC:=.seq (.reg [(Qi 2 0)]) (.seq (.reg [(Qi 3 0)]) (.seq (.seq (.reg [(Qm 4 0)]) (.blk 0 (.seq (.blk 2 (.seq (.blk 1 (.seq (.seq (.seq (.reg [(Qa 6 (.bin .eql (.t 4) (.c (.iv 9)))),(Qm 5 6)]) (.ite (.t 5) (.exit 1) (.skip))) (.seq (.seq (.reg [(Qa 8 (.bin .eql (.t 4) (.c (.iv 1)))),(Qm 7 8)]) (.ite (.t 7) (.skip) (.seq (.reg [(Qa 9 (.bin .eql (.t 4) (.c (.iv 2)))),(Qm 7 9)]) (.ite (.t 7) (.skip) (.seq (.reg [(Qa 10 (.bin .eql (.t 4) (.c (.iv 3)))),(Qm 7 10)]) (.ite (.t 7) (.skip) (.seq (.reg [(Qa 11 (.bin .eql (.t 4) (.c (.iv 4)))),(Qm 7 11)]) (.ite (.t 7) (.skip) (.seq (.reg [(Qa 12 (.bin .eql (.t 4) (.c (.iv 5)))),(Qm 7 12)]) (.ite (.t 7) (.skip) (.seq (.reg [(Qa 13 (.bin .eql (.t 4) (.c (.iv 6)))),(Qm 7 13)]) (.ite (.t 7) (.skip) (.seq (.reg [(Qa 14 (.bin .eql (.t 4) (.c (.iv 7)))),(Qm 7 14)]) (.ite (.t 7) (.skip) (.reg [(Qa 15 (.bin .eql (.t 4) (.c (.iv 8)))),(Qm 7 15)]))))))))))))))) (.ite (.t 7) (.exit 2) (.skip)))) (.exit 0))) (.reg [(Qm 16 3),(Qv 17 16 2),(Qm 3 17)]))) (.seq (.reg [(Qm 18 3),(Qv 19 18 3),(Qm 3 19)]) (.exit 0))))) (.seq (.reg [(Qm 20 3),(Qm 2 20)]) (.ret))))
theorem ok19:FnOK Tryd.prog 19 Tryd.f19 e19 [.t 2] 1 20:=⟨by kernel_rfl,⟨_,rfl,by kernel_rfl⟩,by kernel_rfl,by kernel_rfl⟩
noncomputable def Zi4:Int→Option Int
| x4=>
 some x4
noncomputable def Zj4:Int→Option Int
| x3=>
 Zi4 (wr (x3+3))
noncomputable def Zk4:Unit→Option Int
| ()=>
 Zj4 (wr (0+2))
noncomputable def Zl4:Bool→Option Int
| x2=>
 ifb x2 (
 Zj4 0) (
 Zi4 0)
noncomputable def Zm4 (x1:Int):Option Int:=
 ifb (decide (x1=9)) (
 Zk4 ()) (
 ifb (decide (x1=1)) (
 Zl4 (decide (x1=1))) (
 ifb (decide (x1=2)) (
 Zl4 (decide (x1=2))) (
 ifb (decide (x1=3)) (
 Zl4 (decide (x1=3))) (
 ifb (decide (x1=4)) (
 Zl4 (decide (x1=4))) (
 ifb (decide (x1=5)) (
 Zl4 (decide (x1=5))) (
 ifb (decide (x1=6)) (
 Zl4 (decide (x1=6))) (
 ifb (decide (x1=7)) (
 Zl4 (decide (x1=7))) (
 Zl4 (decide (x1=8))))))))))
theorem Zn4 (x1:Int) (r:Int) (h:Zm4 x1=some r):Zs2 Tryd.prog 19 [.iv x1] (.iv r):=by
 refine Zv2 ok19 rfl rfl fun w0 H0=>?_
 rw [Zm4] at h
 refine Zn2 13 ?_;dsimp only [go_sem];refine An ?_;refine Zz3 (fun (x4:Int)=>(⟨(an 3 (.iv x4::an 17 [])),[],[]⟩:St)) Zi4 r ?_ fun J1=>?_
 ·intro x4 h;rw [Zi4] at h;(try dsimp only);refine Zn2 5 ?_;dsimp only [go_sem];refine An ?_;exact Z24 (res:=fun (r:Int)=>.iv r) ok19 h
 ·refine Zn2 2 ?_;dsimp only [go_sem];refine An ?_;refine Zz3 (fun (x3:Int)=>(⟨(an 3 (.iv x3::an 17 [])),[],[]⟩:St)) Zj4 r ?_ fun J2=>?_
  ·intro x3 h;rw [Zj4] at h;(try dsimp only);refine Zn2 7 ?_;dsimp only [go_sem];refine An ?_;exact Z34 J1 (s:=wr (x3+3)) h
  ·refine Zn2 2 ?_;dsimp only [go_sem];refine An ?_;refine Zz3 (fun (_:Unit)=>(⟨(an 3 (.iv 0::an 17 [])),[],[]⟩:St)) Zk4 r ?_ fun J3=>?_
   ·rintro ⟨⟩ h;rw [Zk4] at h;(try dsimp only);refine Zn2 6 ?_;dsimp only [go_sem];refine An ?_;exact Z34 J2 (s:=wr (0+2)) h
   ·refine Zn2 8 ?_;dsimp only [go_sem];refine An ?_;refine Z04 h rfl (fun _ h=>?_) fun _ h=>?_
    ·refine Zn2 1 ?_;dsimp only [go_sem];refine An ?_;exact Z34 J3 (s:=()) h
    ·refine Zn2 7 ?_;dsimp only [go_sem];refine An ?_;refine Zz3 (fun (x2:Bool)=>(⟨(an 3 (.iv 0::an 3 (.bv x2::an 13 []))),[],[]⟩:St)) Zl4 r ?_ fun J4=>?_
     ·intro x2 h;rw [Zl4] at h;(try dsimp only);refine Z04 h rfl (fun _ h=>?_) fun _ h=>?_
      ·refine Zn2 1 ?_;dsimp only [go_sem];refine An ?_;exact Z34 J2 (s:=0) h
      ·refine Zn2 2 ?_;dsimp only [go_sem];refine An ?_;exact Z34 J1 (s:=0) h
     ·refine Z04 h rfl (fun _ h=>?_) fun _ h=>?_
      ·refine Zn2 1 ?_;dsimp only [go_sem];refine An ?_;exact Z34 J4 (s:=decide (x1=1)) h
      ·refine Zn2 5 ?_;dsimp only [go_sem];refine An ?_;refine Z04 h rfl (fun _ h=>?_) fun _ h=>?_
       ·refine Zn2 1 ?_;dsimp only [go_sem];refine An ?_;exact Z34 J4 (s:=decide (x1=2)) h
       ·refine Zn2 5 ?_;dsimp only [go_sem];refine An ?_;refine Z04 h rfl (fun _ h=>?_) fun _ h=>?_
        ·refine Zn2 1 ?_;dsimp only [go_sem];refine An ?_;exact Z34 J4 (s:=decide (x1=3)) h
        ·refine Zn2 5 ?_;dsimp only [go_sem];refine An ?_;refine Z04 h rfl (fun _ h=>?_) fun _ h=>?_
         ·refine Zn2 1 ?_;dsimp only [go_sem];refine An ?_;exact Z34 J4 (s:=decide (x1=4)) h
         ·refine Zn2 5 ?_;dsimp only [go_sem];refine An ?_;refine Z04 h rfl (fun _ h=>?_) fun _ h=>?_
          ·refine Zn2 1 ?_;dsimp only [go_sem];refine An ?_;exact Z34 J4 (s:=decide (x1=5)) h
          ·refine Zn2 5 ?_;dsimp only [go_sem];refine An ?_;refine Z04 h rfl (fun _ h=>?_) fun _ h=>?_
           ·refine Zn2 1 ?_;dsimp only [go_sem];refine An ?_;exact Z34 J4 (s:=decide (x1=6)) h
           ·refine Zn2 5 ?_;dsimp only [go_sem];refine An ?_;refine Z04 h rfl (fun _ h=>?_) fun _ h=>?_
            ·refine Zn2 1 ?_;dsimp only [go_sem];refine An ?_;exact Z34 J4 (s:=decide (x1=7)) h
            ·refine Zn2 4 ?_;dsimp only [go_sem];refine An ?_;exact Z34 J4 (s:=decide (x1=8)) h
def Zo4 (_F:Nat):Int→Option Int
| x4=>
 some x4
theorem Zp4 {F:Nat}:∀s,ole (Zo4 F s) (Zi4 s):=by
 intro x4
 unfold Zo4 Zi4
 try dsimp only
 with_reducible repeat' first | exact Zu3 _ | assumption | intro _ | refine Zv3 ?_ ?_ | refine Zw3 ?_ ?_ | refine Zx3 ?_ | refine Zy3 ?_
def Zq4 (F:Nat):Int→Option Int
| x3=>
 Zo4 F (wr (x3+3))
theorem Zr4 {F:Nat}:∀s,ole (Zq4 F s) (Zj4 s):=by
 intro x3
 unfold Zq4 Zj4
 try dsimp only
 with_reducible repeat' first | exact Zu3 _ | assumption | intro _ | refine Zv3 ?_ ?_ | refine Zw3 ?_ ?_ | refine Zx3 ?_ | refine Zy3 ?_ | apply Zp4
def Zs4 (F:Nat):Unit→Option Int
| ()=>
 Zq4 F (wr (0+2))
theorem Zt4 {F:Nat}:∀s,ole (Zs4 F s) (Zk4 s):=by
 rintro ⟨⟩
 unfold Zs4 Zk4
 try dsimp only
 with_reducible repeat' first | exact Zu3 _ | assumption | intro _ | refine Zv3 ?_ ?_ | refine Zw3 ?_ ?_ | refine Zx3 ?_ | refine Zy3 ?_ | apply Zp4 | apply Zr4
def Zu4 (F:Nat):Bool→Option Int
| x2=>
 ifb x2 (
 Zq4 F 0) (
 Zo4 F 0)
theorem Zv4 {F:Nat}:∀s,ole (Zu4 F s) (Zl4 s):=by
 intro x2
 unfold Zu4 Zl4
 try dsimp only
 with_reducible repeat' first | exact Zu3 _ | assumption | intro _ | refine Zv3 ?_ ?_ | refine Zw3 ?_ ?_ | refine Zx3 ?_ | refine Zy3 ?_ | apply Zp4 | apply Zr4 | apply Zt4
def Zw4 (F:Nat) (x1:Int):Option Int:=
 ifb (decide (x1=9)) (
 Zs4 F ()) (
 ifb (decide (x1=1)) (
 Zu4 F (decide (x1=1))) (
 ifb (decide (x1=2)) (
 Zu4 F (decide (x1=2))) (
 ifb (decide (x1=3)) (
 Zu4 F (decide (x1=3))) (
 ifb (decide (x1=4)) (
 Zu4 F (decide (x1=4))) (
 ifb (decide (x1=5)) (
 Zu4 F (decide (x1=5))) (
 ifb (decide (x1=6)) (
 Zu4 F (decide (x1=6))) (
 ifb (decide (x1=7)) (
 Zu4 F (decide (x1=7))) (
 Zu4 F (decide (x1=8))))))))))
theorem Zx4 {F:Nat} {x1:Int}:ole (Zw4 F x1) (Zm4 x1):=by
 unfold Zw4 Zm4
 with_reducible repeat' first | exact Zu3 _ | assumption | intro _ | refine Zv3 ?_ ?_ | refine Zw3 ?_ ?_ | refine Zx3 ?_ | refine Zy3 ?_ | apply Zp4 | apply Zr4 | apply Zt4 | apply Zv4
set_option maxRecDepth 100000
set_option maxHeartbeats 4000000
@[go_sem] def e10:EC:=.seq (.reg [(Qx 1 24 3 0),(Qa 2 (.mv (.c .ff)))]) (.seq (.seq (.reg [(Qf 3 1 1),(Ql 4 3),(Qa 5 (.bin .lss (.t 4) (.c (.iv 0)))),(Qm 6 5),(Qh 7 6 false 1 1),(Qn 8 6 false 7),(Qg 9 6 false (.bin .gtr (.t 8) (.c (.iv 65535)))),(Qq 10 6 9),(Qm 11 10),(Qh 12 11 false 2 1),(Qn 13 11 false 12),(Qg 14 11 false (.bin .lss (.t 13) (.c (.iv 0)))),(Qq 15 11 14),(Qm 16 15),(Qh 17 16 false 2 1),(Qn 18 16 false 17),(Qg 19 16 false (.bin .gtr (.t 18) (.c (.iv 65535)))),(Qq 20 16 19)]) (.ite (.t 20) (.seq (.reg [(Qa 2 (.mv (.c .ff)))]) (.ret)) (.skip))) (.seq (.seq (.reg [(Qf 21 0 1),(Ql 22 21),(Qa 23 (.call 19 [(.t 22)]))]) (.blk 0 (.seq (.reg [(Qa 25 (.bin .eql (.t 23) (.c (.iv 0)))),(Qm 24 25)]) (.ite (.t 24) (.seq (.reg [(Qa 2 (.mv (.c .ff)))]) (.ret)) (.seq (.reg [(Qa 27 (.bin .eql (.t 23) (.c (.iv 3)))),(Qm 26 27)]) (.ite (.t 26) (.seq (.reg [(Qf 28 2 1),(Ql 29 28),(Qa 30 (.bin .eql (.t 29) (.c (.iv 0)))),(Qm 2 30)]) (.ret)) (.skip))))))) (.seq (.reg [(Qa 2 (.mv (.c .tt)))]) (.ret))))
theorem ok10:FnOK Tryd.prog 10 Tryd.f10 e10 [.t 2] 1 30:=⟨by kernel_rfl,⟨_,rfl,by kernel_rfl⟩,by kernel_rfl,by kernel_rfl⟩
noncomputable def Zy4 (x1:Msg):Bool→Option Bool
| x2=>
 ifb x2 (
 some false) (
 (Zm4 x1.Kind).bind fun x3=>
 ifb (decide (x3=0)) (
 some false) (
 ifb (decide (x3=3)) (
 some (decide (x1.Num=0))) (
 some true)))
noncomputable def Zz4 (x1:Msg):Option Bool:=
 ifb (decide (x1.Epoch<0)) (
 (Zy4 x1) true) (
 ifb (decide (65535<x1.Epoch)) (
 (Zy4 x1) true) (
 ifb (decide (x1.Num<0)) (
 (Zy4 x1) true) (
 (Zy4 x1) (decide (65535<x1.Num)))))
theorem Z05 (x1:Msg) (r:Bool) (h:Zz4 x1=some r):Zs2 Tryd.prog 10 [.agg (Msg.row x1)] (.bv r):=by
 refine Zv2 ok10 rfl rfl fun w0 H0=>?_
 rw [Zz4] at h
 refine Zn2 12 ?_;dsimp only [go_sem];refine An ?_;refine Zz3 (fun (x2:Bool)=>(⟨(.any :: .ptr 0 0::an 18 (.bv x2::an 10 [])),[some ⟨24,[.iv x1.Kind,.iv x1.Epoch,.iv x1.Num]⟩],[]⟩:St)) (Zy4 x1) r ?_ fun J1=>?_
 ·intro x2 h;rw [Zy4] at h;(try dsimp only);refine Z04 h rfl (fun _ h=>?_) fun _ h=>?_
  ·refine Zn2 4 ?_;dsimp only [go_sem];refine An ?_;exact Z24 (res:=fun (r:Bool)=>.bv r) ok10 h
  ·refine Zn2 6 ?_;dsimp only [go_sem];refine An ?_;obtain ⟨x3,ex3,h⟩:=Bs h;refine Zw2 trivial (Zn4 x1.Kind _ ex3) (h:=?_);refine Zn2 7 ?_;dsimp only [go_sem];refine An ?_;refine Z04 h rfl (fun _ h=>?_) fun _ h=>?_
   ·refine Zn2 4 ?_;dsimp only [go_sem];refine An ?_;exact Z24 (res:=fun (r:Bool)=>.bv r) ok10 h
   ·refine Zn2 5 ?_;dsimp only [go_sem];refine An ?_;refine Z04 h rfl (fun _ h=>?_) fun _ h=>?_
    ·refine Zn2 7 ?_;dsimp only [go_sem];refine An ?_;exact Z24 (res:=fun (r:Bool)=>.bv r) ok10 h
    ·refine Zn2 6 ?_;dsimp only [go_sem];refine An ?_;exact Z24 (res:=fun (r:Bool)=>.bv r) ok10 h
 ·refine Z14 6 h rfl (fun _ h=>?_) fun _ h=>?_
  ·dsimp only [go_sem];refine Zn2 15 ?_;dsimp only [go_sem];refine An ?_;exact Z34 J1 (s:=true) h
  ·dsimp only [go_sem];refine Zn2 5 ?_;dsimp only [go_sem];refine An ?_;refine Z14 11 h rfl (fun _ h=>?_) fun _ h=>?_
   ·dsimp only [go_sem];refine Zn2 10 ?_;dsimp only [go_sem];refine An ?_;exact Z34 J1 (s:=true) h
   ·dsimp only [go_sem];refine Zn2 5 ?_;dsimp only [go_sem];refine An ?_;refine Z14 16 h rfl (fun _ h=>?_) fun _ h=>?_
    ·dsimp only [go_sem];refine Zn2 5 ?_;dsimp only [go_sem];refine An ?_;exact Z34 J1 (s:=true) h
    ·dsimp only [go_sem];refine Zn2 5 ?_;dsimp only [go_sem];refine An ?_;exact Z34 J1 (s:=decide (65535<x1.Num)) h
def Z15 (F:Nat) (x1:Msg):Bool→Option Bool
| x2=>
 ifb x2 (
 some false) (
 (Zw4 F x1.Kind).bind fun x3=>
 ifb (decide (x3=0)) (
 some false) (
 ifb (decide (x3=3)) (
 some (decide (x1.Num=0))) (
 some true)))
theorem Z25 {F:Nat} {x1:Msg}:∀s,ole (Z15 F x1 s) (Zy4 x1 s):=by
 intro x2
 unfold Z15 Zy4
 try dsimp only
 with_reducible repeat' first | exact Zu3 _ | assumption | intro _ | refine Zv3 ?_ ?_ | refine Zw3 ?_ ?_ | refine Zx3 ?_ | refine Zy3 ?_ | apply Zx4
def Z35 (F:Nat) (x1:Msg):Option Bool:=
 ifb (decide (x1.Epoch<0)) (
 (Z15 F x1) true) (
 ifb (decide (65535<x1.Epoch)) (
 (Z15 F x1) true) (
 ifb (decide (x1.Num<0)) (
 (Z15 F x1) true) (
 (Z15 F x1) (decide (65535<x1.Num)))))
theorem Z45 {F:Nat} {x1:Msg}:ole (Z35 F x1) (Zz4 x1):=by
 unfold Z35 Zz4
 with_reducible repeat' first | exact Zu3 _ | assumption | intro _ | refine Zv3 ?_ ?_ | refine Zw3 ?_ ?_ | refine Zx3 ?_ | refine Zy3 ?_ | apply Zx4 | apply Z25
set_option maxRecDepth 100000
set_option maxHeartbeats 4000000
@[go_sem] def e9:EC:=.seq (.reg [(Qx 1 24 3 0),(Qa 2 (.mv (.c (.sv (ByteArray.mk #[]))))),(Qi 3 0)]) (.seq (.seq (.reg [(Qe 5 3 1),(Qa 6 (.call 10 [(.t 5)])),(Qa 7 (.not (.t 6)))]) (.ite (.t 7) (.seq (.reg [(Qa 2 (.mv (.c (.sv (ByteArray.mk #[]))))),(Qi 3 70)]) (.ret)) (.skip))) (.seq (.reg [(Qf 8 0 1),(Ql 9 8),(Qa 10 (.conv .u8 (.t 9))),(Qf 11 1 1),(Ql 12 11),(Qa 13 (.bin .shr (.t 12) (.c (.kv .u64 8)))),(Qa 14 (.conv .u8 (.t 13))),(Qf 15 1 1),(Ql 16 15),(Qa 17 (.conv .u8 (.t 16))),(Qf 18 2 1),(Ql 19 18),(Qa 20 (.bin .shr (.t 19) (.c (.kv .u64 8)))),(Qa 21 (.conv .u8 (.t 20))),(Qf 22 2 1),(Ql 23 22),(Qa 24 (.conv .u8 (.t 23))),(Qa 25 (.bsl 5 1 5 [.kv .u8 0] [(0,(.t 10)),(1,(.t 14)),(2,(.t 17)),(3,(.t 21)),(4,(.t 24))])),(Qm 4 25)]) (.seq (.reg [(Qm 26 4),(Qf 27 0 1),(Ql 28 27),(Qa 29 (.call 19 [(.t 28)])),(Qa 30 (.slice 1 (.t 26) none (some (.t 29)))),(Qa 31 (.b2s (.t 30))),(Qm 2 31),(Qi 3 0)]) (.ret))))
theorem ok9:FnOK Tryd.prog 9 Tryd.f9 e9 [.t 2,.t 3] 1 31:=⟨by kernel_rfl,⟨_,rfl,by kernel_rfl⟩,by kernel_rfl,by kernel_rfl⟩
noncomputable def Z55 (x1:Msg):Option (ByteArray×Int):=
 (Zz4 x1).bind fun x2=>
 ifb (!x2) (
 some ((ByteArray.mk #[]),70)) (
 (Zm4 x1.Kind).bind fun x3=>
 (sub_ ([kw .u8 x1.Kind,kw .u8 (Int.fdiv x1.Epoch (2 ^ min (Int.toNat 8) (IntKind.bits .i64))),kw .u8 x1.Epoch,kw .u8 (Int.fdiv x1.Num (2 ^ min (Int.toNat 8) (IntKind.bits .i64))),kw .u8 x1.Num]) 0 x3).bind fun x4=>
 some (Za4 x4,0))
theorem Z65 (x1:Msg) (r:(ByteArray×Int)) (h:Z55 x1=some r):Zs2 Tryd.prog 9 [.agg (Msg.row x1)] (.tup [.sv r.1,.iv r.2]):=by
 refine Zv2 ok9 rfl rfl fun w0 H0=>?_
 rw [Z55] at h
 refine Zn2 10 ?_;dsimp only [go_sem];refine An ?_;obtain ⟨x2,ex2,h⟩:=Bs h;refine Zw2 trivial (Z05 x1 _ ex2) (h:=?_);refine Zn2 2 ?_;dsimp only [go_sem];refine An ?_;refine Z04 h rfl (fun _ h=>?_) fun _ h=>?_
 ·refine Zn2 5 ?_;dsimp only [go_sem];refine An ?_;exact Z24 (res:=fun (r:(ByteArray×Int))=>.tup [.sv r.1,.iv r.2]) ok9 h
 ·refine Zn2 28 ?_;dsimp only [go_sem];refine An ?_;obtain ⟨x3,ex3,h⟩:=Bs h;refine Zw2 trivial (Zn4 x1.Kind _ ex3) (h:=?_);obtain ⟨x4,ex4,h⟩:=Bs h;refine V_cutM (kvRow .u8) ex4 trivial rfl rfl rfl rfl ?_;refine V_b2sO (ns:=x4) trivial rfl rfl ?_;refine Zn2 3 ?_;dsimp only [go_sem];refine An ?_;exact Z24 (res:=fun (r:(ByteArray×Int))=>.tup [.sv r.1,.iv r.2]) ok9 h
def Z75 (F:Nat) (x1:Msg):Option (ByteArray×Int):=
 (Z35 F x1).bind fun x2=>
 ifb (!x2) (
 some ((ByteArray.mk #[]),70)) (
 (Zw4 F x1.Kind).bind fun x3=>
 (sub_ ([kw .u8 x1.Kind,kw .u8 (Int.fdiv x1.Epoch (2 ^ min (Int.toNat 8) (IntKind.bits .i64))),kw .u8 x1.Epoch,kw .u8 (Int.fdiv x1.Num (2 ^ min (Int.toNat 8) (IntKind.bits .i64))),kw .u8 x1.Num]) 0 x3).bind fun x4=>
 some (Za4 x4,0))
theorem le_msg_Put {F:Nat} {x1:Msg}:ole (Z75 F x1) (Z55 x1):=by
 unfold Z75 Z55
 with_reducible repeat' first | exact Zu3 _ | assumption | intro _ | refine Zv3 ?_ ?_ | refine Zw3 ?_ ?_ | refine Zx3 ?_ | refine Zy3 ?_ | apply Z45 | apply Zx4
set_option maxRecDepth 100000
set_option maxHeartbeats 4000000
@[go_sem] def e17:EC:=.seq (.reg [(Qa 2 (.alloc 24 [.iv 0,.iv 0,.iv 0])),(Qi 3 0)]) (.seq (.seq (.reg [(Qm 5 0),(Qa 6 (.sbin .eql (.t 5) (.c (.sv (ByteArray.mk #[]))))),(Qm 7 6),(Qg 8 7 false (.mv (.t 0))),(Qg 9 7 false (.slen (.t 8))),(Qg 10 7 false (.mv (.t 0))),(Qg 11 7 false (.sidx (.t 10) (.c (.iv 0)))),(Qg 12 7 false (.conv .i64 (.t 11))),(Qg 13 7 false (.call 19 [(.t 12)])),(Qg 14 7 false (.bin .neq (.t 9) (.t 13))),(Qq 15 7 14)]) (.ite (.t 15) (.seq (.reg [(Qa 16 (.build [.iv 0,.iv 0,.iv 0] [])),(Qs 3 2 16),(Qi 3 71)]) (.ret)) (.skip))) (.seq (.drw [(Qm 17 0),(Qa 18 (.sidx (.t 17) (.c (.iv 0)))),(Qa 19 (.conv .i64 (.t 18))),(Qm 20 0),(Qa 21 (.sidx (.t 20) (.c (.iv 1)))),(Qa 22 (.conv .i64 (.t 21))),(Qa 23 (.bin .shl (.t 22) (.c (.kv .u64 8)))),(Qm 24 0),(Qa 25 (.sidx (.t 24) (.c (.iv 2)))),(Qa 26 (.conv .i64 (.t 25))),(Qa 27 (.bin .or (.t 23) (.t 26))),(Qa 28 (.build [.iv 0,.iv 0,.iv 0] [(0,1,(.t 19)),(1,1,(.t 27))])),(Qa 4 (.alloc 24 [.iv 0,.iv 0,.iv 0])),(Qs 3 4 28)] [[],[0],[1],[],[3],[4],[5],[],[7],[8],[6,9],[2,10],[],[12,11,0,1,2,3,4,5,6,7,8,9,10,11,12]] [[1],[0,2],[1,11],[4],[3,5],[4,6],[5,10],[8],[7,9],[8,10],[6,9,11],[2,10,13],[13],[11,12]]) (.seq (.seq (.reg [(Qm 29 0),(Qa 30 (.slen (.t 29))),(Qa 31 (.bin .gtr (.t 30) (.c (.iv 3))))]) (.ite (.t 31) (.drw [(Qm 32 0),(Qa 33 (.sidx (.t 32) (.c (.iv 3)))),(Qa 34 (.conv .i64 (.t 33))),(Qa 35 (.bin .shl (.t 34) (.c (.kv .u64 8)))),(Qm 36 0),(Qa 37 (.sidx (.t 36) (.c (.iv 4)))),(Qa 38 (.conv .i64 (.t 37))),(Qa 39 (.bin .or (.t 35) (.t 38))),(Qf 40 2 4),(Qs 1 40 39)] [[],[0],[1],[2],[],[4],[5],[3,6],[0,1,2,3,4,5,6,7],[8,7,0,1,2,3,4,5,6,7]] [[1],[0,2],[1,3],[2,7],[5],[4,6],[5,7],[3,6,9],[9],[7,8]]) (.skip))) (.seq (.reg [(Qe 41 3 4),(Qs 3 2 41),(Qi 3 0)]) (.ret)))))
theorem ok17:FnOK Tryd.prog 17 Tryd.f17 e17 [.c 2 (some 3),.t 3] 1 41:=⟨by kernel_rfl,⟨_,rfl,by kernel_rfl⟩,by kernel_rfl,by kernel_rfl⟩
noncomputable def Z85:Msg→Option (Msg×Int)
| x11=>
 some (x11,0)
noncomputable def Z95 (x1:ByteArray):Msg→Option (Msg×Int)
| x8=>
 ifb (decide (3<(Zo x1))) (
 (Z84 x1 3).bind fun x9=>
 (Z84 x1 4).bind fun x10=>
 Z85 ((Msg.mk x8.Kind x8.Epoch (wr ((BitVec.ofInt 64 (kw .i64 ((wr x9)*2 ^ min (Int.toNat 8) (IntKind.bits .i64))) ||| BitVec.ofInt 64 (wr x10)).toNat:Int))))) (
 Z85 x8)
noncomputable def Za5 (x1:ByteArray):Bool→Option (Msg×Int)
| x4=>
 ifb x4 (
 some ((Msg.mk 0 0 0),71)) (
 (Z84 x1 0).bind fun x5=>
 (Z84 x1 1).bind fun x6=>
 (Z84 x1 2).bind fun x7=>
 (Z95 x1) ((Msg.mk (wr x5) (wr ((BitVec.ofInt 64 (kw .i64 ((wr x6)*2 ^ min (Int.toNat 8) (IntKind.bits .i64))) ||| BitVec.ofInt 64 (wr x7)).toNat:Int)) 0)))
noncomputable def Zb5 (x1:ByteArray):Option (Msg×Int):=
 ifb (seq x1 ((ByteArray.mk #[]))) (
 (Za5 x1) true) (
 (Z84 x1 0).bind fun x2=>
 (Zm4 (wr x2)).bind fun x3=>
 (Za5 x1) (!decide ((Zo x1)=x3)))
theorem Zc5 (x1:ByteArray) (r:(Msg×Int)) (h:Zb5 x1=some r):Zs2 Tryd.prog 17 [.sv x1] (.tup [.agg (Msg.row r.1),.iv r.2]):=by
 refine Zv2 ok17 rfl rfl fun w0 H0=>?_
 rw [Zb5] at h
 refine Zn2 11 ?_;dsimp only [go_sem];refine An ?_;refine Zz3 (fun (x4:Bool)=>(⟨(.sv x1 :: .any :: .ptr 0 0::an 12 (.bv x4::an 26 [])),[some ⟨24,[.iv 0,.iv 0,.iv 0]⟩],[]⟩:St)) (Za5 x1) r ?_ fun J1=>?_
 ·intro x4 h;rw [Za5] at h;(try dsimp only);refine Z04 h rfl (fun _ h=>?_) fun _ h=>?_
  ·refine Zn2 6 ?_;dsimp only [go_sem];refine An ?_;exact Z24 (res:=fun (r:(Msg×Int))=>.tup [.agg (Msg.row r.1),.iv r.2]) ok17 h
  ·refine Zn2 2 ?_;dsimp only [go_sem];refine An ?_;refine Zz3 (fun (x8:Msg)=>(⟨(.sv x1 :: .any :: .ptr 0 0 :: .any :: .ptr 1 0::an 37 []),[some ⟨24,[.iv 0,.iv 0,.iv 0]⟩,some ⟨24,[.iv x8.Kind,.iv x8.Epoch,.iv x8.Num]⟩],[]⟩:St)) (Z95 x1) r ?_ fun J2=>?_
   ·intro x8 h;rw [Z95] at h;(try dsimp only);refine Zn2 7 ?_;dsimp only [go_sem];refine An ?_;refine Zz3 (fun (x11:Msg)=>(⟨(.any :: .any :: .ptr 0 0 :: .any :: .ptr 1 0::an 37 []),[some ⟨24,[.iv 0,.iv 0,.iv 0]⟩,some ⟨24,[.iv x11.Kind,.iv x11.Epoch,.iv x11.Num]⟩],[]⟩:St)) Z85 r ?_ fun J3=>?_
    ·intro x11 h;rw [Z85] at h;(try dsimp only);refine Zn2 6 ?_;dsimp only [go_sem];refine An ?_;exact Z24 (res:=fun (r:(Msg×Int))=>.tup [.agg (Msg.row r.1),.iv r.2]) ok17 h
    ·refine Z04 h rfl (fun _ h=>?_) fun _ h=>?_
     ·refine V_drw (by kernel_rfl) fun all hall hs hnap haf=>?_;dsimp only [go_sem];refine Z44 hall hs haf hnap 2 8 ?_;dsimp only [go_sem];refine An ?_;obtain ⟨x9,ex9,h⟩:=Bs h;refine Zd4 hall hs haf hnap 1 ex9 rfl rfl trivial rfl rfl rfl ?_;dsimp only [go_sem];refine Z44 hall hs haf hnap 2 5 ?_;dsimp only [go_sem];refine An ?_;obtain ⟨x10,ex10,h⟩:=Bs h;refine Zd4 hall hs haf hnap 5 ex10 rfl rfl trivial rfl rfl rfl ?_;dsimp only [go_sem];refine Z44 hall hs haf hnap 3 1 ?_;dsimp only [go_sem];refine An ?_;refine Zl3 9 rfl ?_
      refine Zn3 hall rfl trivial ?_;dsimp only [go_sem];refine Zk3 rfl ?_ _;exact Z34 J3 (s:=(Msg.mk x8.Kind x8.Epoch (wr ((BitVec.ofInt 64 (kw .i64 ((wr x9)*2 ^ min (Int.toNat 8) (IntKind.bits .i64))) ||| BitVec.ofInt 64 (wr x10)).toNat:Int)))) h
     ·refine Zn2 1 ?_;dsimp only [go_sem];refine An ?_;exact Z34 J3 (s:=x8) h
   ·refine V_drw (by kernel_rfl) fun all hall hs hnap haf=>?_;dsimp only [go_sem];refine Z44 hall hs haf hnap 3 11 ?_;dsimp only [go_sem];refine An ?_;obtain ⟨x5,ex5,h⟩:=Bs h;refine Zd4 hall hs haf hnap 1 ex5 rfl rfl trivial rfl rfl rfl ?_;dsimp only [go_sem];refine Z44 hall hs haf hnap 1 9 ?_;dsimp only [go_sem];refine An ?_;obtain ⟨x6,ex6,h⟩:=Bs h;refine Zd4 hall hs haf hnap 4 ex6 rfl rfl trivial rfl rfl rfl ?_;dsimp only [go_sem];refine Z44 hall hs haf hnap 2 6 ?_;dsimp only [go_sem];refine An ?_;obtain ⟨x7,ex7,h⟩:=Bs h
    refine Zd4 hall hs haf hnap 8 ex7 rfl rfl trivial rfl rfl rfl ?_;dsimp only [go_sem];refine Z44 hall hs haf hnap 3 2 ?_;dsimp only [go_sem];refine An ?_;refine Zl3 12 rfl ?_;refine Zn3 hall rfl trivial ?_;dsimp only [go_sem];refine Zl3 13 rfl ?_;refine Zn3 hall rfl trivial ?_;dsimp only [go_sem];refine Zk3 rfl ?_ _;exact Z34 J2 (s:=(Msg.mk (wr x5) (wr ((BitVec.ofInt 64 (kw .i64 ((wr x6)*2 ^ min (Int.toNat 8) (IntKind.bits .i64))) ||| BitVec.ofInt 64 (wr x7)).toNat:Int)) 0)) h
 ·refine Z14 7 h rfl (fun _ h=>?_) fun _ h=>?_
  ·dsimp only [go_sem];refine Zn2 9 ?_;dsimp only [go_sem];refine An ?_;exact Z34 J1 (s:=true) h
  ·dsimp only [go_sem];refine Zn2 3 ?_;dsimp only [go_sem];refine An ?_;obtain ⟨x2,ex2,h⟩:=Bs h;refine V_sidxM ex2 trivial rfl rfl ?_;refine Zn2 1 ?_;dsimp only [go_sem];refine An ?_;obtain ⟨x3,ex3,h⟩:=Bs h;refine Zw2 trivial (Zn4 (wr x2) _ ex3) (h:=?_);refine Zn2 3 ?_;dsimp only [go_sem];refine An ?_;exact Z34 J1 (s:=!decide ((Zo x1)=x3)) h
def Zd5 (_F:Nat):Msg→Option (Msg×Int)
| x11=>
 some (x11,0)
theorem Ze5 {F:Nat}:∀s,ole (Zd5 F s) (Z85 s):=by
 intro x11
 unfold Zd5 Z85
 try dsimp only
 with_reducible repeat' first | exact Zu3 _ | assumption | intro _ | refine Zv3 ?_ ?_ | refine Zw3 ?_ ?_ | refine Zx3 ?_ | refine Zy3 ?_
def Zf5 (F:Nat) (x1:ByteArray):Msg→Option (Msg×Int)
| x8=>
 ifb (decide (3<(Zo x1))) (
 (Z84 x1 3).bind fun x9=>
 (Z84 x1 4).bind fun x10=>
 Zd5 F ((Msg.mk x8.Kind x8.Epoch (wr ((BitVec.ofInt 64 (kw .i64 ((wr x9)*2 ^ min (Int.toNat 8) (IntKind.bits .i64))) ||| BitVec.ofInt 64 (wr x10)).toNat:Int))))) (
 Zd5 F x8)
theorem Zg5 {F:Nat} {x1:ByteArray}:∀s,ole (Zf5 F x1 s) (Z95 x1 s):=by
 intro x8
 unfold Zf5 Z95
 try dsimp only
 with_reducible repeat' first | exact Zu3 _ | assumption | intro _ | refine Zv3 ?_ ?_ | refine Zw3 ?_ ?_ | refine Zx3 ?_ | refine Zy3 ?_ | apply Ze5
def Zh5 (F:Nat) (x1:ByteArray):Bool→Option (Msg×Int)
| x4=>
 ifb x4 (
 some ((Msg.mk 0 0 0),71)) (
 (Z84 x1 0).bind fun x5=>
 (Z84 x1 1).bind fun x6=>
 (Z84 x1 2).bind fun x7=>
 (Zf5 F x1) ((Msg.mk (wr x5) (wr ((BitVec.ofInt 64 (kw .i64 ((wr x6)*2 ^ min (Int.toNat 8) (IntKind.bits .i64))) ||| BitVec.ofInt 64 (wr x7)).toNat:Int)) 0)))
theorem le_msg_Get_j1 {F:Nat} {x1:ByteArray}:∀s,ole (Zh5 F x1 s) (Za5 x1 s):=by
 intro x4
 unfold Zh5 Za5
 try dsimp only
 with_reducible repeat' first | exact Zu3 _ | assumption | intro _ | refine Zv3 ?_ ?_ | refine Zw3 ?_ ?_ | refine Zx3 ?_ | refine Zy3 ?_ | apply Ze5 | apply Zg5
def Zi5 (F:Nat) (x1:ByteArray):Option (Msg×Int):=
 ifb (seq x1 ((ByteArray.mk #[]))) (
 (Zh5 F x1) true) (
 (Z84 x1 0).bind fun x2=>
 (Zw4 F (wr x2)).bind fun x3=>
 (Zh5 F x1) (!decide ((Zo x1)=x3)))
theorem le_msg_Get {F:Nat} {x1:ByteArray}:ole (Zi5 F x1) (Zb5 x1):=by
 unfold Zi5 Zb5
 with_reducible repeat' first | exact Zu3 _ | assumption | intro _ | refine Zv3 ?_ ?_ | refine Zw3 ?_ ?_ | refine Zx3 ?_ | refine Zy3 ?_ | apply Ze5 | apply Zg5 | apply le_msg_Get_j1 | apply Zx4
set_option maxRecDepth 100000
set_option maxHeartbeats 4000000
@[go_sem] def e14:EC:=.seq (.reg [(Qa 2 (.mv (.c (.sv (ByteArray.mk #[])))))]) (.seq (.reg [(Qa 4 (.build [.sv (ByteArray.mk #[]),.sv (ByteArray.mk #[]),.sv (ByteArray.mk #[]),.sv (ByteArray.mk #[]),.sv (ByteArray.mk #[]),.sv (ByteArray.mk #[]),.sv (ByteArray.mk #[]),.sv (ByteArray.mk #[]),.sv (ByteArray.mk #[])] [(0,1,(.c (.sv (ByteArray.mk #[102,111,114,107])))),(1,1,(.c (.sv (ByteArray.mk #[116,111,107,101,110])))),(2,1,(.c (.sv (ByteArray.mk #[98,111,116,116,108,101])))),(3,1,(.c (.sv (ByteArray.mk #[97,115,107])))),(4,1,(.c (.sv (ByteArray.mk #[110,101,119])))),(5,1,(.c (.sv (ByteArray.mk #[107,110,111,119,110])))),(6,1,(.c (.sv (ByteArray.mk #[99,108,111,115,101])))),(7,1,(.c (.sv (ByteArray.mk #[99,108,111,115,101,100])))),(8,1,(.c (.sv (ByteArray.mk #[99,111,108,111,117,114]))))])),(Qa 3 (.alloc 43 [.sv (ByteArray.mk #[]),.sv (ByteArray.mk #[]),.sv (ByteArray.mk #[]),.sv (ByteArray.mk #[]),.sv (ByteArray.mk #[]),.sv (ByteArray.mk #[]),.sv (ByteArray.mk #[]),.sv (ByteArray.mk #[]),.sv (ByteArray.mk #[])])),(Qs 9 3 4)]) (.seq (.seq (.reg [(Qm 5 0),(Qa 6 (.call 19 [(.t 5)])),(Qa 7 (.bin .eql (.t 6) (.c (.iv 0))))]) (.ite (.t 7) (.seq (.reg [(Qa 2 (.mv (.c (.sv (ByteArray.mk #[63])))))]) (.ret)) (.skip))) (.seq (.reg [(Qm 8 0),(Qa 9 (.bin .sub (.t 8) (.c (.iv 1)))),(Qa 10 (.idxa 9 1 (.t 3) (.t 9))),(Ql 11 10),(Qm 2 11)]) (.ret))))
theorem ok14:FnOK Tryd.prog 14 Tryd.f14 e14 [.t 2] 1 11:=⟨by kernel_rfl,⟨_,rfl,by kernel_rfl⟩,by kernel_rfl,by kernel_rfl⟩
noncomputable def Zj5 (x1:Int):Option ByteArray:=
 (Zm4 x1).bind fun x2=>
 ifb (decide (x2=0)) (
 some (ByteArray.mk #[63])) (
 (at_ [(ByteArray.mk #[102,111,114,107]),(ByteArray.mk #[116,111,107,101,110]),(ByteArray.mk #[98,111,116,116,108,101]),(ByteArray.mk #[97,115,107]),(ByteArray.mk #[110,101,119]),(ByteArray.mk #[107,110,111,119,110]),(ByteArray.mk #[99,108,111,115,101]),(ByteArray.mk #[99,108,111,115,101,100]),(ByteArray.mk #[99,111,108,111,117,114])] (wr (x1-1))).bind fun x3=>
 some x3)
theorem Zk5 (x1:Int) (r:ByteArray) (h:Zj5 x1=some r):Zs2 Tryd.prog 14 [.iv x1] (.sv r):=by
 refine Zv2 ok14 rfl rfl fun w0 H0=>?_
 rw [Zj5] at h
 refine Zn2 14 ?_;dsimp only [go_sem];refine An ?_;obtain ⟨x2,ex2,h⟩:=Bs h;refine Zw2 trivial (Zn4 x1 _ ex2) (h:=?_);refine Zn2 2 ?_;dsimp only [go_sem];refine An ?_;refine Z04 h rfl (fun _ h=>?_) fun _ h=>?_
 ·refine Zn2 4 ?_;dsimp only [go_sem];refine An ?_;exact Z24 (res:=fun (r:ByteArray)=>.sv r) ok14 h
 ·refine Zn2 5 ?_;dsimp only [go_sem];refine An ?_;obtain ⟨x3,ex3,h⟩:=Bs h;refine V_idxaM ex3 trivial rfl rfl rfl ?_;refine V_loadPM AV.sv ex3 trivial rfl rfl ?_;refine Zn2 2 ?_;dsimp only [go_sem];refine An ?_;exact Z24 (res:=fun (r:ByteArray)=>.sv r) ok14 h
def Zl5 (F:Nat) (x1:Int):Option ByteArray:=
 (Zw4 F x1).bind fun x2=>
 ifb (decide (x2=0)) (
 some (ByteArray.mk #[63])) (
 (at_ [(ByteArray.mk #[102,111,114,107]),(ByteArray.mk #[116,111,107,101,110]),(ByteArray.mk #[98,111,116,116,108,101]),(ByteArray.mk #[97,115,107]),(ByteArray.mk #[110,101,119]),(ByteArray.mk #[107,110,111,119,110]),(ByteArray.mk #[99,108,111,115,101]),(ByteArray.mk #[99,108,111,115,101,100]),(ByteArray.mk #[99,111,108,111,117,114])] (wr (x1-1))).bind fun x3=>
 some x3)
theorem Zm5 {F:Nat} {x1:Int}:ole (Zl5 F x1) (Zj5 x1):=by
 unfold Zl5 Zj5
 with_reducible repeat' first | exact Zu3 _ | assumption | intro _ | refine Zv3 ?_ ?_ | refine Zw3 ?_ ?_ | refine Zx3 ?_ | refine Zy3 ?_ | apply Zx4
set_option maxRecDepth 100000
def Zn5:Go.Shelf.Ren:=⟨(fun | 171=>20 | 243=>24 | 246=>25 | 283=>26 | 284=>27 | 285=>28 | 286=>29 | 129=>31 | 317=>30 | 318=>32 | 319=>33 | 320=>34 | 337=>35 | 338=>36 | n=>n),(fun | 3=>3 | 9=>9 | 2=>2 | 4=>4 | 171=>48 | 0=>0 | 53=>45 | 37=>39 | 5=>5 | 173=>51 | 212=>55 | 51=>56 | 20=>20 | 213=>57 | 46=>40 | 232=>61 | 233=>62 | n=>n),(fun | 17=>0 | 18=>1 | 19=>2 | n=>n)⟩
theorem laysItoa:LaysM.n171 Tryd.prog Zn5 where
 mixed:=by kernel_rfl
 f129:=Tryd.func31.trans (congrArg some (by kernel_rfl))
 f171:=Tryd.func20.trans (congrArg some (by kernel_rfl))
 f243:=Tryd.func24.trans (congrArg some (by kernel_rfl))
 f246:=Tryd.func25.trans (congrArg some (by kernel_rfl))
 f283:=Tryd.func26.trans (congrArg some (by kernel_rfl))
 f284:=Tryd.func27.trans (congrArg some (by kernel_rfl))
 f285:=Tryd.func28.trans (congrArg some (by kernel_rfl))
 f286:=Tryd.func29.trans (congrArg some (by kernel_rfl))
 f317:=Tryd.func30.trans (congrArg some (by kernel_rfl))
 f318:=Tryd.func32.trans (congrArg some (by kernel_rfl))
 f319:=Tryd.func33.trans (congrArg some (by kernel_rfl))
 f320:=Tryd.func34.trans (congrArg some (by kernel_rfl))
 f337:=Tryd.func35.trans (congrArg some (by kernel_rfl))
 f338:=Tryd.func36.trans (congrArg some (by kernel_rfl))
 t0:=Tryd.underlying0
 a0:=Tryd.isAgg0
 z0:=Tryd.sizeOf0
 v0:=Tryd.zeroValue0
 t2:=Tryd.underlying2
 a2:=Tryd.isAgg2
 z2:=Tryd.sizeOf2
 v2:=Tryd.zeroValue2
 t3:=Tryd.underlying3
 a3:=Tryd.isAgg3
 z3:=Tryd.sizeOf3
 v3:=Tryd.zeroValue3
 t4:=Tryd.underlying4
 a4:=Tryd.isAgg4
 z4:=Tryd.sizeOf4
 v4:=Tryd.zeroValue4
 t5:=Tryd.underlying5
 a5:=Tryd.isAgg5
 z5:=Tryd.sizeOf5
 v5:=Tryd.zeroValue5
 t9:=Tryd.underlying9
 a9:=Tryd.isAgg9
 z9:=Tryd.sizeOf9
 v9:=Tryd.zeroValue9
 t20:=Tryd.underlying20
 a20:=Tryd.isAgg20
 z20:=Tryd.sizeOf20
 v20:=Tryd.zeroValue20
 t37:=Tryd.underlying39
 a37:=Tryd.isAgg39
 z37:=Tryd.sizeOf39
 v37:=Tryd.zeroValue39
 t46:=Tryd.underlying40
 a46:=Tryd.isAgg40
 z46:=Tryd.sizeOf40
 v46:=Tryd.zeroValue40
 t51:=Tryd.underlying56
 a51:=Tryd.isAgg56
 z51:=Tryd.sizeOf56
 v51:=Tryd.zeroValue56
 t53:=Tryd.underlying45
 a53:=Tryd.isAgg45
 z53:=Tryd.sizeOf45
 v53:=Tryd.zeroValue45
 t171:=Tryd.underlying48
 a171:=Tryd.isAgg48
 z171:=Tryd.sizeOf48
 v171:=Tryd.zeroValue48
 t173:=Tryd.underlying51
 a173:=Tryd.isAgg51
 z173:=Tryd.sizeOf51
 v173:=Tryd.zeroValue51
 t212:=Tryd.underlying55
 a212:=Tryd.isAgg55
 z212:=Tryd.sizeOf55
 v212:=Tryd.zeroValue55
 t213:=Tryd.underlying57
 a213:=Tryd.isAgg57
 z213:=Tryd.sizeOf57
 t232:=Tryd.underlying61
 a232:=Tryd.isAgg61
 z232:=Tryd.sizeOf61
 v232:=Tryd.zeroValue61
 t233:=Tryd.underlying62
 a233:=Tryd.isAgg62
 z233:=Tryd.sizeOf62
 v233:=Tryd.zeroValue62
 g17:=by kernel_rfl
 g18:=by kernel_rfl
 g19:=by kernel_rfl
 i0:=by kernel_rfl
 i2:=by kernel_rfl
 i3:=by kernel_rfl
 i4:=by kernel_rfl
 i5:=by kernel_rfl
 i9:=by kernel_rfl
 i20:=by kernel_rfl
 i37:=by kernel_rfl
 i46:=by kernel_rfl
 i51:=by kernel_rfl
 i53:=by kernel_rfl
 i171:=by kernel_rfl
 i173:=by kernel_rfl
 i212:=by kernel_rfl
 i232:=by kernel_rfl
 i233:=by kernel_rfl
 m17:=by kernel_rfl
 m18:=by kernel_rfl
 m19:=by kernel_rfl
def itoaS (n:Int):ByteArray:=⟨(Lib.itoa n).toArray⟩
def Zo5 (x1:Int):Option ByteArray:=ifb (decide (-9223372036854775808≤x1)&&decide (x1≤9223372036854775807)) (some (itoaS x1)) none
theorem Zp5 (x1:Int) (r:ByteArray) (h:Zo5 x1=some r):Zs2 Tryd.prog 20 [.iv x1] (.sv r):=by
 have hb: -9223372036854775808≤x1∧x1≤9223372036854775807:=by
  unfold Zo5 ifb at h
  split at h
  ·rename_i e;simpa using e
  ·simp at h
 have hr:r=itoaS x1:=by
  unfold Zo5 ifb at h
  split at h
  ·simpa using h.symm
  ·simp at h
 subst hr
 intro H w vs hH hgl ha
 obtain ⟨v,t,rfl,h1,h2⟩:=ha
 simp only [AV.is] at h1
 simp only [AV.isL] at h2
 subst h1;subst h2
 have htab:Lib.TabIs Tryd.prog w "internal/strconv.uint64pow10" .u64 Lib.pow10Tab:=by
  obtain ⟨T,fr,e⟩:=hgl _ (List.mem_singleton.2 rfl) _ laysItoa.m17
  unfold Lib.TabIs World.var?
  have e2:=hH _ _ e
  rw [show Tryd.prog.globalNamed "internal/strconv.uint64pow10" = some (Zn5.g 17) from laysItoa.m17,Option.bind_some,e2]
  exact congrArg some (by kernel_rfl)
 refine (Any.strconv_Itoa laysItoa x1 hb.1 hb.2 w htab).mono ?_
 rintro e w' ⟨rfl,n,os,rfl⟩
 have hsz:w.heap.size≤(Go.Sort.grow (w.drewN n) os).heap.size:=by
  show w.heap.size≤(w.heap++os).size
  simp
 have hbl:∀k,k<w.heap.size→(Go.Sort.grow (w.drewN n) os).heap[k]?=w.heap[k]?:=by
  intro k hk
  show (w.heap++os)[k]?=w.heap[k]?
  rw [Array.getElem?_append_left hk]
 exact ⟨_,H,rfl,⟨rfl,rfl,rfl,hsz,hbl⟩,fun k o hk=>by
  have:=hH k o hk
  rw [hbl k (Array.getElem?_eq_some_iff.1 this).1];exact this,fun _ _=>rfl,rfl⟩
def Zq5 (_F:Nat) (x1:Int):Option ByteArray:=ifb (decide (0≤x1)&&decide (x1<10)) (some ⟨#[UInt8.ofNat (48+x1.toNat)]⟩) none
theorem Zr5 {F:Nat} {x1:Int}:ole (Zq5 F x1) (Zo5 x1):=by
 refine ⟨fun r h=>?_⟩
 unfold Zq5 ifb at h
 split at h
 ·rename_i e
  simp only [Bool.and_eq_true,decide_eq_true_eq] at e
  simp only [Option.some.injEq] at h
  subst h
  have h1:(decide (-9223372036854775808≤x1)&&decide (x1≤9223372036854775807))=true:=by simp;omega
  unfold Zo5
  rw [h1]
  show some (itoaS x1)=_
  unfold itoaS Lib.itoa
  rw [if_neg (by omega),Lib.decDigits_one (by omega)]
 ·simp at h
set_option maxRecDepth 100000
set_option maxHeartbeats 4000000
@[go_sem] def e12:EC:=.seq (.reg [(Qx 1 24 3 0),(Qa 2 (.mv (.c (.sv (ByteArray.mk #[])))))]) (.seq (.drw [(Qf 4 0 1),(Ql 5 4),(Qa 6 (.call 14 [(.t 5)])),(Qa 7 (.sbin .add (.t 6) (.c (.sv (ByteArray.mk #[64]))))),(Qf 8 1 1),(Ql 9 8),(Qa 10 (.call 20 [(.t 9)])),(Qa 11 (.sbin .add (.t 7) (.t 10))),(Qm 3 11)] [[],[0],[1],[2],[],[4],[5,2],[3,6],[7,6,0,1,2,3,4,5,6,7]] [[1],[0,2],[1,3],[2,7],[5],[4,6],[5,7],[3,6,8],[7]]) (.seq (.seq (.reg [(Qf 12 0 1),(Ql 13 12),(Qa 14 (.bin .eql (.t 13) (.c (.iv 9))))]) (.ite (.t 14) (.reg [(Qm 15 3),(Qf 16 2 1),(Ql 17 16),(Qa 18 (.call 20 [(.t 17)])),(Qa 19 (.sbin .add (.c (.sv (ByteArray.mk #[32]))) (.t 18))),(Qa 20 (.sbin .add (.t 15) (.t 19))),(Qm 3 20)]) (.skip))) (.seq (.reg [(Qm 21 3),(Qm 2 21)]) (.ret))))
theorem ok12:FnOK Tryd.prog 12 Tryd.f12 e12 [.t 2] 1 21:=⟨by kernel_rfl,⟨_,rfl,by kernel_rfl⟩,by kernel_rfl,by kernel_rfl⟩
noncomputable def Zs5:ByteArray→Option ByteArray
| x9=>
 some x9
noncomputable def Zt5 (x1:Msg):Option ByteArray:=
 (Zj5 x1.Kind).bind fun x2=>
 (Z74 x2 ((ByteArray.mk #[64]))).bind fun x3=>
 (Zo5 x1.Epoch).bind fun x4=>
 (Z74 x3 x4).bind fun x5=>
 ifb (decide (x1.Kind=9)) (
 (Zo5 x1.Num).bind fun x6=>
 (Z74 ((ByteArray.mk #[32])) x6).bind fun x7=>
 (Z74 x5 x7).bind fun x8=>
 Zs5 x8) (
 Zs5 x5)
theorem Zu5 (x1:Msg) (r:ByteArray) (h:Zt5 x1=some r):Zs2 Tryd.prog 12 [.agg (Msg.row x1)] (.sv r):=by
 refine Zv2 ok12 rfl rfl fun w0 H0=>?_
 rw [Zt5] at h
 refine Zn2 6 ?_;dsimp only [go_sem];refine An ?_;refine V_drw (by kernel_rfl) fun all hall hs hnap haf=>?_;dsimp only [go_sem];refine Z44 hall hs haf hnap 4 5 ?_;dsimp only [go_sem];refine An ?_;refine Zl3 2 rfl ?_;obtain ⟨x2,ex2,h⟩:=Bs h;refine Zo3 hall rfl trivial (Zk5 x1.Kind _ ex2) (h:=?_);dsimp only [go_sem];obtain ⟨x3,ex3,h⟩:=Bs h;refine Ze4 hall hs haf hnap 3 ex3 rfl rfl trivial rfl rfl rfl ?_;dsimp only [go_sem];refine Zl3 6 rfl ?_;obtain ⟨x4,ex4,h⟩:=Bs h;refine Zo3 hall rfl trivial (Zp5 x1.Epoch _ ex4) (h:=?_)
 dsimp only [go_sem];obtain ⟨x5,ex5,h⟩:=Bs h;refine Ze4 hall hs haf hnap 7 ex5 rfl rfl trivial rfl rfl rfl ?_;dsimp only [go_sem];refine Z44 hall hs haf hnap 1 0 ?_;dsimp only [go_sem];refine An ?_;refine Zk3 rfl ?_ _;refine Zn2 7 ?_;dsimp only [go_sem];refine An ?_;refine Zz3 (fun (x9:ByteArray)=>(⟨(an 3 (.sv x9::an 18 [])),[],[]⟩:St)) Zs5 r ?_ fun J1=>?_
 ·intro x9 h;rw [Zs5] at h;(try dsimp only);refine Zn2 5 ?_;dsimp only [go_sem];refine An ?_;exact Z24 (res:=fun (r:ByteArray)=>.sv r) ok12 h
 ·refine Z04 h rfl (fun _ h=>?_) fun _ h=>?_
  ·refine Zn2 4 ?_;dsimp only [go_sem];refine An ?_;obtain ⟨x6,ex6,h⟩:=Bs h;refine Zw2 trivial (Zp5 x1.Num _ ex6) (h:=?_);obtain ⟨x7,ex7,h⟩:=Bs h;refine Zb4 ex7 trivial rfl rfl ?_;obtain ⟨x8,ex8,h⟩:=Bs h;refine Zb4 ex8 trivial rfl rfl ?_;refine Zn2 2 ?_;dsimp only [go_sem];refine An ?_;exact Z34 J1 (s:=x8) h
  ·refine Zn2 1 ?_;dsimp only [go_sem];refine An ?_;exact Z34 J1 (s:=x5) h
def Zv5 (_F:Nat):ByteArray→Option ByteArray
| x9=>
 some x9
theorem Zw5 {F:Nat}:∀s,ole (Zv5 F s) (Zs5 s):=by
 intro x9
 unfold Zv5 Zs5
 try dsimp only
 with_reducible repeat' first | exact Zu3 _ | assumption | intro _ | refine Zv3 ?_ ?_ | refine Zw3 ?_ ?_ | refine Zx3 ?_ | refine Zy3 ?_
def Zx5 (F:Nat) (x1:Msg):Option ByteArray:=
 (Zl5 F x1.Kind).bind fun x2=>
 (Z74 x2 ((ByteArray.mk #[64]))).bind fun x3=>
 (Zq5 F x1.Epoch).bind fun x4=>
 (Z74 x3 x4).bind fun x5=>
 ifb (decide (x1.Kind=9)) (
 (Zq5 F x1.Num).bind fun x6=>
 (Z74 ((ByteArray.mk #[32])) x6).bind fun x7=>
 (Z74 x5 x7).bind fun x8=>
 Zv5 F x8) (
 Zv5 F x5)
theorem le_msg_Show {F:Nat} {x1:Msg}:ole (Zx5 F x1) (Zt5 x1):=by
 unfold Zx5 Zt5
 with_reducible repeat' first | exact Zu3 _ | assumption | intro _ | refine Zv3 ?_ ?_ | refine Zw3 ?_ ?_ | refine Zx3 ?_ | refine Zy3 ?_ | apply Zw5 | apply Zm5 | apply Zr5
set_option maxRecDepth 100000
set_option maxHeartbeats 4000000
@[go_sem] def e8:EC:=.seq (.reg [(Qa 0 (.mv (.c .ff)))]) (.seq (.reg [(Qa 8 (.build [.iv 0,.iv 0,.iv 0] [(0,1,(.c (.iv 4))),(1,1,(.c (.iv 2)))])),(Qa 1 (.alloc 24 [.iv 0,.iv 0,.iv 0])),(Qs 3 1 8)]) (.seq (.reg [(Qe 10 3 1),(Qa 11 (.call 9 [(.t 10)])),(Qm 9 11),(Qa 12 (.ext (.t 9) 0)),(Qa 13 (.ext (.t 9) 1)),(Qm 2 12),(Qm 3 13)]) (.seq (.reg [(Qm 15 2),(Qa 16 (.call 17 [(.t 15)])),(Qm 14 16),(Qa 17 (.ext (.t 14) 0)),(Qa 18 (.ext (.t 14) 1)),(Qa 4 (.alloc 24 [.iv 0,.iv 0,.iv 0])),(Qs 3 4 17),(Qm 5 18)]) (.seq (.reg [(Qa 20 (.call 17 [(.c (.sv (ByteArray.mk #[])))])),(Qm 19 20),(Qa 21 (.ext (.t 19) 0)),(Qa 22 (.ext (.t 19) 1)),(Qa 6 (.alloc 24 [.iv 0,.iv 0,.iv 0])),(Qs 3 6 21),(Qm 7 22)]) (.seq (.reg [(Qm 23 2),(Qa 24 (.bsl 5 1 3 [.kv .u8 0] [(0,(.c (.kv .u8 4))),(1,(.c (.kv .u8 0))),(2,(.c (.kv .u8 2)))])),(Qa 25 (.b2s (.t 24))),(Qa 26 (.sbin .eql (.t 23) (.t 25))),(Qm 27 26),(Qg 28 27 true (.mv (.t 3))),(Qg 29 27 true (.bin .eql (.t 28) (.c (.iv 0)))),(Qp 30 27 29),(Qm 31 30),(Qg 32 31 true (.loadA 3 (.t 4))),(Qg 33 31 true (.loadA 3 (.t 1))),(Qg 34 31 true (.eqs false [true,true,true] (.t 32) (.t 33))),(Qp 35 31 34),(Qm 36 35),(Qg 37 36 true (.mv (.t 5))),(Qg 38 36 true (.bin .eql (.t 37) (.c (.iv 0)))),(Qp 39 36 38),(Qm 40 39),(Qg 41 40 true (.mv (.t 7))),(Qg 42 40 true (.bin .eql (.t 41) (.c (.iv 71)))),(Qp 43 40 42),(Qm 44 43),(Qg 45 44 true (.loadA 3 (.t 1))),(Qg 46 44 true (.call 12 [(.t 45)])),(Qg 47 44 true (.sbin .eql (.t 46) (.c (.sv (ByteArray.mk #[97,115,107,64,50]))))),(Qp 48 44 47),(Qm 49 48),(Qg 50 49 true (.call 14 [(.c (.iv 0))])),(Qg 51 49 true (.sbin .eql (.t 50) (.c (.sv (ByteArray.mk #[63]))))),(Qp 52 49 51),(Qm 53 52),(Qg 54 53 true (.loadA 3 (.t 1))),(Qg 55 53 true (.call 10 [(.t 54)])),(Qp 56 53 55),(Qm 57 56),(Qg 58 57 true (.build [.iv 0,.iv 0,.iv 0] [])),(Qg 59 57 true (.call 10 [(.t 58)])),(Qg 60 57 true (.not (.t 59))),(Qp 61 57 60),(Qm 0 61)]) (.ret))))))
theorem ok8:FnOK Tryd.prog 8 Tryd.f8 e8 [.t 0] 0 62:=⟨by kernel_rfl,⟨_,rfl,by kernel_rfl⟩,by kernel_rfl,by kernel_rfl⟩
noncomputable def Zy5:Bool→Option Bool
| x8=>
 some x8
noncomputable def Zz5:Option Bool:=
 (Z55 ((Msg.mk 4 2 0))).bind fun x1=>
 (Zb5 x1.1).bind fun x2=>
 (Zb5 ((ByteArray.mk #[]))).bind fun x3=>
 ifb (seq x1.1 (Za4 ([4,0,2]))) (
 ifb (decide (x1.2=0)) (
 ifb (decide (x2.1.Kind=4)&&(decide (x2.1.Epoch=2)&&(decide (x2.1.Num=0)&&true))) (
 ifb (decide (x2.2=0)) (
 ifb (decide (x3.2=71)) (
 (Zt5 ((Msg.mk 4 2 0))).bind fun x4=>
 ifb (seq x4 ((ByteArray.mk #[97,115,107,64,50]))) (
 (Zj5 0).bind fun x5=>
 ifb (seq x5 ((ByteArray.mk #[63]))) (
 (Zz4 ((Msg.mk 4 2 0))).bind fun x6=>
 ifb x6 (
 (Zz4 ((Msg.mk 0 0 0))).bind fun x7=>
 Zy5 (!x7)) (
 Zy5 false)) (
 Zy5 false)) (
 Zy5 false)) (
 Zy5 false)) (
 Zy5 false)) (
 Zy5 false)) (
 Zy5 false)) (
 Zy5 false)
theorem Z06 (r:Bool) (h:Zz5=some r):Zs2 Tryd.prog 8 [] (.bv r):=by
 refine Zv2 ok8 rfl rfl fun w0 H0=>?_
 rw [Zz5] at h
 refine Zn2 13 ?_;dsimp only [go_sem];refine An ?_;obtain ⟨x1,ex1,h⟩:=Bs h;refine Zw2 trivial (Z65 ((Msg.mk 4 2 0)) _ ex1) (h:=?_);refine Zn2 9 ?_;dsimp only [go_sem];refine An ?_;obtain ⟨x2,ex2,h⟩:=Bs h;refine Zw2 trivial (Zc5 x1.1 _ ex2) (h:=?_);refine Zn2 9 ?_;dsimp only [go_sem];refine An ?_;obtain ⟨x3,ex3,h⟩:=Bs h;refine Zw2 trivial (Zc5 ((ByteArray.mk #[])) _ ex3) (h:=?_);refine Zn2 11 ?_;dsimp only [go_sem];refine An ?_;refine V_b2sO (ns:=[4,0,2]) trivial rfl rfl ?_;refine Zn2 2 ?_;dsimp only [go_sem];refine An ?_
 refine Zz3 (fun (x8:Bool)=>(⟨(.bv x8::an 61 []),[],[]⟩:St)) Zy5 r ?_ fun J1=>?_
 ·intro x8 h;rw [Zy5] at h;(try dsimp only);exact Z24 (res:=fun (r:Bool)=>.bv r) ok8 h
 ·refine Z14 27 h rfl (fun _ h=>?_) fun _ h=>?_
  ·dsimp only [go_sem];refine Zn2 4 ?_;dsimp only [go_sem];refine An ?_;refine Z14 31 h rfl (fun _ h=>?_) fun _ h=>?_
   ·dsimp only [go_sem];refine Zn2 5 ?_;dsimp only [go_sem];refine An ?_;refine Z14 36 h rfl (fun _ h=>?_) fun _ h=>?_
    ·dsimp only [go_sem];refine Zn2 4 ?_;dsimp only [go_sem];refine An ?_;refine Z14 40 h rfl (fun _ h=>?_) fun _ h=>?_
     ·dsimp only [go_sem];refine Zn2 4 ?_;dsimp only [go_sem];refine An ?_;refine Z14 44 h rfl (fun _ h=>?_) fun _ h=>?_
      ·dsimp only [go_sem];refine Zn2 1 ?_;dsimp only [go_sem];refine An ?_;obtain ⟨x4,ex4,h⟩:=Bs h;refine Zw2 trivial (Zu5 ((Msg.mk 4 2 0)) _ ex4) (h:=?_);refine Zn2 3 ?_;dsimp only [go_sem];refine An ?_;refine Z14 49 h rfl (fun _ h=>?_) fun _ h=>?_
       ·dsimp only [go_sem];obtain ⟨x5,ex5,h⟩:=Bs h;refine Zw2 trivial (Zk5 0 _ ex5) (h:=?_);refine Zn2 3 ?_;dsimp only [go_sem];refine An ?_;refine Z14 53 h rfl (fun _ h=>?_) fun _ h=>?_
        ·dsimp only [go_sem];refine Zn2 1 ?_;dsimp only [go_sem];refine An ?_;obtain ⟨x6,ex6,h⟩:=Bs h;refine Zw2 trivial (Z05 ((Msg.mk 4 2 0)) _ ex6) (h:=?_);refine Zn2 2 ?_;dsimp only [go_sem];refine An ?_;refine Z14 57 h rfl (fun _ h=>?_) fun _ h=>?_
         ·dsimp only [go_sem];refine Zn2 1 ?_;dsimp only [go_sem];refine An ?_;obtain ⟨x7,ex7,h⟩:=Bs h;refine Zw2 trivial (Z05 ((Msg.mk 0 0 0)) _ ex7) (h:=?_);refine Zn2 4 ?_;dsimp only [go_sem];refine An ?_;exact Z34 J1 (s:=!x7) h
         ·dsimp only [go_sem];refine Zn2 6 ?_;dsimp only [go_sem];refine An ?_;exact Z34 J1 (s:=false) h
        ·dsimp only [go_sem];refine Zn2 10 ?_;dsimp only [go_sem];refine An ?_;exact Z34 J1 (s:=false) h
       ·dsimp only [go_sem];refine Zn2 14 ?_;dsimp only [go_sem];refine An ?_;exact Z34 J1 (s:=false) h
      ·dsimp only [go_sem];refine Zn2 19 ?_;dsimp only [go_sem];refine An ?_;exact Z34 J1 (s:=false) h
     ·dsimp only [go_sem];refine Zn2 23 ?_;dsimp only [go_sem];refine An ?_;exact Z34 J1 (s:=false) h
    ·dsimp only [go_sem];refine Zn2 27 ?_;dsimp only [go_sem];refine An ?_;exact Z34 J1 (s:=false) h
   ·dsimp only [go_sem];refine Zn2 32 ?_;dsimp only [go_sem];refine An ?_;exact Z34 J1 (s:=false) h
  ·dsimp only [go_sem];refine Zn2 36 ?_;dsimp only [go_sem];refine An ?_;exact Z34 J1 (s:=false) h
def Z16 (_F:Nat):Bool→Option Bool
| x8=>
 some x8
theorem Z26 {F:Nat}:∀s,ole (Z16 F s) (Zy5 s):=by
 intro x8
 unfold Z16 Zy5
 try dsimp only
 with_reducible repeat' first | exact Zu3 _ | assumption | intro _ | refine Zv3 ?_ ?_ | refine Zw3 ?_ ?_ | refine Zx3 ?_ | refine Zy3 ?_
def Z36 (F:Nat):Option Bool:=
 (Z75 F ((Msg.mk 4 2 0))).bind fun x1=>
 (Zi5 F x1.1).bind fun x2=>
 (Zi5 F ((ByteArray.mk #[]))).bind fun x3=>
 ifb (seq x1.1 (Za4 ([4,0,2]))) (
 ifb (decide (x1.2=0)) (
 ifb (decide (x2.1.Kind=4)&&(decide (x2.1.Epoch=2)&&(decide (x2.1.Num=0)&&true))) (
 ifb (decide (x2.2=0)) (
 ifb (decide (x3.2=71)) (
 (Zx5 F ((Msg.mk 4 2 0))).bind fun x4=>
 ifb (seq x4 ((ByteArray.mk #[97,115,107,64,50]))) (
 (Zl5 F 0).bind fun x5=>
 ifb (seq x5 ((ByteArray.mk #[63]))) (
 (Z35 F ((Msg.mk 4 2 0))).bind fun x6=>
 ifb x6 (
 (Z35 F ((Msg.mk 0 0 0))).bind fun x7=>
 Z16 F (!x7)) (
 Z16 F false)) (
 Z16 F false)) (
 Z16 F false)) (
 Z16 F false)) (
 Z16 F false)) (
 Z16 F false)) (
 Z16 F false)) (
 Z16 F false)
theorem Z46 {F:Nat}:ole (Z36 F) (Zz5):=by
 unfold Z36 Zz5
 with_reducible repeat' first | exact Zu3 _ | assumption | intro _ | refine Zv3 ?_ ?_ | refine Zw3 ?_ ?_ | refine Zx3 ?_ | refine Zy3 ?_ | apply Z26 | apply le_msg_Put | apply le_msg_Get | apply le_msg_Show | apply Zm5 | apply Z45
set_option maxRecDepth 100000
set_option maxHeartbeats 4000000
@[go_sem] def e11:EC:=.seq (.reg [(Qx 1 24 3 0),(Qa 2 (.mv (.c .ff)))]) (.seq (.reg [(Qf 3 0 1),(Ql 4 3),(Qa 5 (.bin .geq (.t 4) (.c (.iv 1)))),(Qm 6 5),(Qh 7 6 true 0 1),(Qn 8 6 true 7),(Qg 9 6 true (.bin .leq (.t 8) (.c (.iv 9)))),(Qp 10 6 9),(Qm 11 10),(Qh 12 11 true 1 1),(Qn 13 11 true 12),(Qg 14 11 true (.bin .geq (.t 13) (.c (.iv 0)))),(Qp 15 11 14),(Qm 16 15),(Qh 17 16 true 1 1),(Qn 18 16 true 17),(Qg 19 16 true (.bin .leq (.t 18) (.c (.iv 65535)))),(Qp 20 16 19),(Qm 21 20),(Qh 22 21 true 2 1),(Qn 23 21 true 22),(Qg 24 21 true (.bin .geq (.t 23) (.c (.iv 0)))),(Qp 25 21 24),(Qm 26 25),(Qh 27 26 true 2 1),(Qn 28 26 true 27),(Qg 29 26 true (.bin .leq (.t 28) (.c (.iv 65535)))),(Qp 30 26 29),(Qm 31 30),(Qh 32 31 true 2 1),(Qn 33 31 true 32),(Qg 34 31 true (.bin .eql (.t 33) (.c (.iv 0)))),(Qg 35 31 true (.mv (.t 34))),(Qh 36 35 false 0 1),(Qn 37 35 false 36),(Qg 38 35 false (.bin .eql (.t 37) (.c (.iv 9)))),(Qg 39 31 true (.pick (.t 35) (.c .tt) (.t 38))),(Qp 40 31 39),(Qm 2 40)]) (.ret))
theorem ok11:FnOK Tryd.prog 11 Tryd.f11 e11 [.t 2] 1 40:=⟨by kernel_rfl,⟨_,rfl,by kernel_rfl⟩,by kernel_rfl,by kernel_rfl⟩
noncomputable def Z56:Bool→Option Bool
| x2=>
 some x2
noncomputable def Z66 (x1:Msg):Option Bool:=
 ifb (decide (1≤x1.Kind)) (
 ifb (decide (x1.Kind≤9)) (
 ifb (decide (0≤x1.Epoch)) (
 ifb (decide (x1.Epoch≤65535)) (
 ifb (decide (0≤x1.Num)) (
 ifb (decide (x1.Num≤65535)) (
 ifb (decide (x1.Num=0)) (
 Z56 true) (
 Z56 (decide (x1.Kind=9)))) (
 Z56 false)) (
 Z56 false)) (
 Z56 false)) (
 Z56 false)) (
 Z56 false)) (
 Z56 false)
theorem Z76 (x1:Msg) (r:Bool) (h:Z66 x1=some r):Zs2 Tryd.prog 11 [.agg (Msg.row x1)] (.bv r):=by
 refine Zv2 ok11 rfl rfl fun w0 H0=>?_
 rw [Z66] at h
 refine Zn2 11 ?_;dsimp only [go_sem];refine An ?_;refine Zz3 (fun (x2:Bool)=>(⟨(.any :: .any :: .bv x2::an 38 []),[],[]⟩:St)) Z56 r ?_ fun J1=>?_
 ·intro x2 h;rw [Z56] at h;(try dsimp only);exact Z24 (res:=fun (r:Bool)=>.bv r) ok11 h
 ·refine Z14 6 h rfl (fun _ h=>?_) fun _ h=>?_
  ·dsimp only [go_sem];refine Zn2 5 ?_;dsimp only [go_sem];refine An ?_;refine Z14 11 h rfl (fun _ h=>?_) fun _ h=>?_
   ·dsimp only [go_sem];refine Zn2 5 ?_;dsimp only [go_sem];refine An ?_;refine Z14 16 h rfl (fun _ h=>?_) fun _ h=>?_
    ·dsimp only [go_sem];refine Zn2 5 ?_;dsimp only [go_sem];refine An ?_;refine Z14 21 h rfl (fun _ h=>?_) fun _ h=>?_
     ·dsimp only [go_sem];refine Zn2 5 ?_;dsimp only [go_sem];refine An ?_;refine Z14 26 h rfl (fun _ h=>?_) fun _ h=>?_
      ·dsimp only [go_sem];refine Zn2 5 ?_;dsimp only [go_sem];refine An ?_;refine Z14 31 h rfl (fun _ h=>?_) fun _ h=>?_
       ·dsimp only [go_sem];refine Zn2 4 ?_;dsimp only [go_sem];refine An ?_;refine Z14 35 h rfl (fun _ h=>?_) fun _ h=>?_
        ·dsimp only [go_sem];refine Zn2 7 ?_;dsimp only [go_sem];refine An ?_;exact Z34 J1 (s:=true) h
        ·dsimp only [go_sem];refine Zn2 7 ?_;dsimp only [go_sem];refine An ?_;exact Z34 J1 (s:=decide (x1.Kind=9)) h
       ·dsimp only [go_sem];refine Zn2 11 ?_;dsimp only [go_sem];refine An ?_;exact Z34 J1 (s:=false) h
      ·dsimp only [go_sem];refine Zn2 16 ?_;dsimp only [go_sem];refine An ?_;exact Z34 J1 (s:=false) h
     ·dsimp only [go_sem];refine Zn2 21 ?_;dsimp only [go_sem];refine An ?_;exact Z34 J1 (s:=false) h
    ·dsimp only [go_sem];refine Zn2 26 ?_;dsimp only [go_sem];refine An ?_;exact Z34 J1 (s:=false) h
   ·dsimp only [go_sem];refine Zn2 31 ?_;dsimp only [go_sem];refine An ?_;exact Z34 J1 (s:=false) h
  ·dsimp only [go_sem];refine Zn2 36 ?_;dsimp only [go_sem];refine An ?_;exact Z34 J1 (s:=false) h
set_option maxRecDepth 100000
set_option maxHeartbeats 4000000
@[go_sem] def e15:EC:=.seq (.reg [(Qa 2 (.mv (.c (.sv (ByteArray.mk #[])))))]) (.seq (.seq (.reg [(Qm 3 0)]) (.blk 0 (.seq (.reg [(Qa 5 (.bin .eql (.t 3) (.c (.iv 1)))),(Qm 4 5)]) (.ite (.t 4) (.seq (.reg [(Qa 2 (.mv (.c (.sv (ByteArray.mk #[102,111,114,107])))))]) (.ret)) (.seq (.reg [(Qa 7 (.bin .eql (.t 3) (.c (.iv 2)))),(Qm 6 7)]) (.ite (.t 6) (.seq (.reg [(Qa 2 (.mv (.c (.sv (ByteArray.mk #[116,111,107,101,110])))))]) (.ret)) (.seq (.reg [(Qa 9 (.bin .eql (.t 3) (.c (.iv 3)))),(Qm 8 9)]) (.ite (.t 8) (.seq (.reg [(Qa 2 (.mv (.c (.sv (ByteArray.mk #[98,111,116,116,108,101])))))]) (.ret)) (.seq (.reg [(Qa 11 (.bin .eql (.t 3) (.c (.iv 4)))),(Qm 10 11)]) (.ite (.t 10) (.seq (.reg [(Qa 2 (.mv (.c (.sv (ByteArray.mk #[97,115,107])))))]) (.ret)) (.seq (.reg [(Qa 13 (.bin .eql (.t 3) (.c (.iv 5)))),(Qm 12 13)]) (.ite (.t 12) (.seq (.reg [(Qa 2 (.mv (.c (.sv (ByteArray.mk #[110,101,119])))))]) (.ret)) (.seq (.reg [(Qa 15 (.bin .eql (.t 3) (.c (.iv 6)))),(Qm 14 15)]) (.ite (.t 14) (.seq (.reg [(Qa 2 (.mv (.c (.sv (ByteArray.mk #[107,110,111,119,110])))))]) (.ret)) (.seq (.reg [(Qa 17 (.bin .eql (.t 3) (.c (.iv 7)))),(Qm 16 17)]) (.ite (.t 16) (.seq (.reg [(Qa 2 (.mv (.c (.sv (ByteArray.mk #[99,108,111,115,101])))))]) (.ret)) (.seq (.reg [(Qa 19 (.bin .eql (.t 3) (.c (.iv 8)))),(Qm 18 19)]) (.ite (.t 18) (.seq (.reg [(Qa 2 (.mv (.c (.sv (ByteArray.mk #[99,108,111,115,101,100])))))]) (.ret)) (.seq (.reg [(Qa 21 (.bin .eql (.t 3) (.c (.iv 9)))),(Qm 20 21)]) (.ite (.t 20) (.seq (.reg [(Qa 2 (.mv (.c (.sv (ByteArray.mk #[99,111,108,111,117,114])))))]) (.ret)) (.skip))))))))))))))))))))) (.seq (.reg [(Qa 2 (.mv (.c (.sv (ByteArray.mk #[63])))))]) (.ret)))
theorem ok15:FnOK Tryd.prog 15 Tryd.f15 e15 [.t 2] 1 21:=⟨by kernel_rfl,⟨_,rfl,by kernel_rfl⟩,by kernel_rfl,by kernel_rfl⟩
noncomputable def Z86 (x1:Int):Option ByteArray:=
 ifb (decide (x1=1)) (
 some (ByteArray.mk #[102,111,114,107])) (
 ifb (decide (x1=2)) (
 some (ByteArray.mk #[116,111,107,101,110])) (
 ifb (decide (x1=3)) (
 some (ByteArray.mk #[98,111,116,116,108,101])) (
 ifb (decide (x1=4)) (
 some (ByteArray.mk #[97,115,107])) (
 ifb (decide (x1=5)) (
 some (ByteArray.mk #[110,101,119])) (
 ifb (decide (x1=6)) (
 some (ByteArray.mk #[107,110,111,119,110])) (
 ifb (decide (x1=7)) (
 some (ByteArray.mk #[99,108,111,115,101])) (
 ifb (decide (x1=8)) (
 some (ByteArray.mk #[99,108,111,115,101,100])) (
 ifb (decide (x1=9)) (
 some (ByteArray.mk #[99,111,108,111,117,114])) (
 some (ByteArray.mk #[63]))))))))))
theorem Z96 (x1:Int) (r:ByteArray) (h:Z86 x1=some r):Zs2 Tryd.prog 15 [.iv x1] (.sv r):=by
 refine Zv2 ok15 rfl rfl fun w0 H0=>?_
 rw [Z86] at h
 refine Zn2 15 ?_;dsimp only [go_sem];refine An ?_;refine Z04 h rfl (fun _ h=>?_) fun _ h=>?_
 ·refine Zn2 4 ?_;dsimp only [go_sem];refine An ?_;exact Z24 (res:=fun (r:ByteArray)=>.sv r) ok15 h
 ·refine Zn2 5 ?_;dsimp only [go_sem];refine An ?_;refine Z04 h rfl (fun _ h=>?_) fun _ h=>?_
  ·refine Zn2 4 ?_;dsimp only [go_sem];refine An ?_;exact Z24 (res:=fun (r:ByteArray)=>.sv r) ok15 h
  ·refine Zn2 5 ?_;dsimp only [go_sem];refine An ?_;refine Z04 h rfl (fun _ h=>?_) fun _ h=>?_
   ·refine Zn2 4 ?_;dsimp only [go_sem];refine An ?_;exact Z24 (res:=fun (r:ByteArray)=>.sv r) ok15 h
   ·refine Zn2 5 ?_;dsimp only [go_sem];refine An ?_;refine Z04 h rfl (fun _ h=>?_) fun _ h=>?_
    ·refine Zn2 4 ?_;dsimp only [go_sem];refine An ?_;exact Z24 (res:=fun (r:ByteArray)=>.sv r) ok15 h
    ·refine Zn2 5 ?_;dsimp only [go_sem];refine An ?_;refine Z04 h rfl (fun _ h=>?_) fun _ h=>?_
     ·refine Zn2 4 ?_;dsimp only [go_sem];refine An ?_;exact Z24 (res:=fun (r:ByteArray)=>.sv r) ok15 h
     ·refine Zn2 5 ?_;dsimp only [go_sem];refine An ?_;refine Z04 h rfl (fun _ h=>?_) fun _ h=>?_
      ·refine Zn2 4 ?_;dsimp only [go_sem];refine An ?_;exact Z24 (res:=fun (r:ByteArray)=>.sv r) ok15 h
      ·refine Zn2 5 ?_;dsimp only [go_sem];refine An ?_;refine Z04 h rfl (fun _ h=>?_) fun _ h=>?_
       ·refine Zn2 4 ?_;dsimp only [go_sem];refine An ?_;exact Z24 (res:=fun (r:ByteArray)=>.sv r) ok15 h
       ·refine Zn2 5 ?_;dsimp only [go_sem];refine An ?_;refine Z04 h rfl (fun _ h=>?_) fun _ h=>?_
        ·refine Zn2 4 ?_;dsimp only [go_sem];refine An ?_;exact Z24 (res:=fun (r:ByteArray)=>.sv r) ok15 h
        ·refine Zn2 5 ?_;dsimp only [go_sem];refine An ?_;refine Z04 h rfl (fun _ h=>?_) fun _ h=>?_
         ·refine Zn2 4 ?_;dsimp only [go_sem];refine An ?_;exact Z24 (res:=fun (r:ByteArray)=>.sv r) ok15 h
         ·refine Zn2 6 ?_;dsimp only [go_sem];refine An ?_;exact Z24 (res:=fun (r:ByteArray)=>.sv r) ok15 h
set_option maxRecDepth 100000
set_option maxHeartbeats 4000000
@[go_sem] def e21_L0:EC:=.seq (.seq (.reg [(Qm 7 0),(Qa 8 (.bin .neq (.t 7) (.c (.iv 0))))]) (.ite (.t 8) (.skip) (.exit 0))) (.blk 1 (.seq (.reg [(Qm 9 0),(Qa 10 (.bin .rem (.t 9) (.c (.iv 10)))),(Qa 11 (.bin .sub (.c (.iv 48)) (.t 10))),(Qa 12 (.conv .u8 (.t 11))),(Qa 13 (.bsl 5 1 1 [.kv .u8 0] [(0,(.t 12))])),(Qa 14 (.b2s (.t 13))),(Qm 15 3),(Qa 16 (.sbin .add (.t 14) (.t 15))),(Qm 3 16)]) (.reg [(Qm 17 0),(Qa 18 (.bin .quo (.t 17) (.c (.iv 10)))),(Qm 0 18)])))
@[go_sem] def e21:EC:=.seq (.reg [(Qa 2 (.mv (.c (.sv (ByteArray.mk #[])))))]) (.seq (.seq (.reg [(Qm 5 0),(Qa 6 (.bin .lss (.t 5) (.c (.iv 0))))]) (.ite (.t 6) (.seq (.reg [(Qa 3 (.mv (.c (.sv (ByteArray.mk #[])))))]) (.seq (.blk 0 (.loop e21_L0)) (.seq (.reg [(Qm 19 3),(Qa 20 (.sbin .add (.c (.sv (ByteArray.mk #[45]))) (.t 19))),(Qm 2 20)]) (.ret)))) (.skip))) (.seq (.reg [(Qm 21 0),(Qa 22 (.bin .rem (.t 21) (.c (.iv 10)))),(Qa 23 (.bin .add (.c (.iv 48)) (.t 22))),(Qa 24 (.conv .u8 (.t 23))),(Qa 25 (.bsl 5 1 1 [.kv .u8 0] [(0,(.t 24))])),(Qa 26 (.b2s (.t 25))),(Qm 4 26)]) (.seq (.seq (.reg [(Qm 27 0),(Qa 28 (.bin .lss (.t 27) (.c (.iv 10))))]) (.ite (.t 28) (.seq (.reg [(Qm 29 4),(Qm 2 29)]) (.ret)) (.skip))) (.seq (.reg [(Qm 30 0),(Qa 31 (.bin .quo (.t 30) (.c (.iv 10)))),(Qa 32 (.call 21 [(.t 31)])),(Qm 33 4),(Qa 34 (.sbin .add (.t 32) (.t 33))),(Qm 2 34)]) (.ret)))))
theorem ok21:FnOK Tryd.prog 21 Tryd.f21 e21 [.t 2] 1 34:=⟨by kernel_rfl,⟨_,rfl,by kernel_rfl⟩,by kernel_rfl,by kernel_rfl⟩
noncomputable def Za6:ByteArray→Option ByteArray
| x12=>
 (Z74 ((ByteArray.mk #[45])) x12).bind fun x13=>
 some x13
noncomputable def Zb6:(Int×ByteArray)→Option ((Int×ByteArray) ⊕ ByteArray)
| (x5,x6)=>
 ifb (!decide (x5=0)) (
 (Z74 (Za4 ([kw .u8 (wr (48-(Int.tmod x5 10)))])) x6).bind fun x7=>
 some (.inl (wr (Int.tdiv x5 10),x7))) (
 Option.map Sum.inr (Za6 x6))
noncomputable def Zc6:Nat→Int→Option ByteArray
 | 0,_=>none
 | F+1,x1=>
   ifb (decide (x1<0)) (
   loop Zb6 (x1,(ByteArray.mk #[]))) (
   ifb (decide (x1<10)) (
   some (Za4 ([kw .u8 (wr (48+(Int.tmod x1 10)))]))) (
   (Zc6 F (wr (Int.tdiv x1 10))).bind fun x14=>
   (Z74 x14 (Za4 ([kw .u8 (wr (48+(Int.tmod x1 10)))]))).bind fun x15=>
   some x15))
noncomputable def Zd6 (x1:Int):Option ByteArray:=Zc6 24 x1
theorem k_Digits_r:∀(F:Nat) (x1:Int) (r:ByteArray),Zc6 F x1=some r→Zs2 Tryd.prog 21 [.iv x1] (.sv r):=by
 intro F
 induction F with
 | zero=>intro x1 r h;simp [Zc6] at h
 | succ F ih=>
 intro x1 r h
 refine Zv2 ok21 rfl rfl fun w0 H0=>?_
 rw [Zc6] at h
 refine Zn2 10 ?_;dsimp only [go_sem];refine An ?_;refine Z04 h rfl (fun _ h=>?_) fun _ h=>?_
 ·refine Zn2 5 ?_;dsimp only [go_sem];refine An ?_;refine Zz3 (fun (x12:ByteArray)=>(⟨(an 3 (.sv x12::an 31 [])),[],[]⟩:St)) Za6 r ?_ fun J1=>?_
  ·intro x12 h;rw [Za6] at h;(try dsimp only);refine Zn2 3 ?_;dsimp only [go_sem];refine An ?_;obtain ⟨x13,ex13,h⟩:=Bs h;refine Zb4 ex13 trivial rfl rfl ?_;refine Zn2 2 ?_;dsimp only [go_sem];refine An ?_;exact Z24 (res:=fun (r:ByteArray)=>.sv r) ok21 h
  ·refine Zn2 1 ?_;dsimp only [go_sem];refine An ?_;refine M_loop h (fun ((x5,x6):(Int×ByteArray))=>(⟨(.iv x5 :: .any :: .any :: .sv x6::an 31 []),[],[]⟩:St)) (by simp [go_sem]) (by rintro ⟨x5,x6⟩;first | rfl | simp [go_sem]) ?_;rintro n1 ⟨x5,x6⟩ y1 h hin1 hout1;rw [Zb6] at h;(try dsimp only);refine Zn2 6 ?_;dsimp only [go_sem];refine An ?_;refine Z04 h rfl (fun _ h=>?_) fun _ h=>?_
   ·refine Zn2 9 ?_;dsimp only [go_sem];refine An ?_;refine V_b2sO (ns:=[kw .u8 (wr (48-(Int.tmod x5 10)))]) trivial rfl rfl ?_;refine Zn2 1 ?_;dsimp only [go_sem];refine An ?_;obtain ⟨x7,ex7,h⟩:=Bs h;refine Zb4 ex7 trivial rfl rfl ?_;refine Zn2 8 ?_;dsimp only [go_sem];refine An ?_;exact M_back h hin1
   ·refine Zn2 1 ?_;dsimp only [go_sem];refine An ?_;exact Z34 J1 (s:=x6) (M_out h hout1)
 ·refine Zn2 8 ?_;dsimp only [go_sem];refine An ?_;refine V_b2sO (ns:=[kw .u8 (wr (48+(Int.tmod x1 10)))]) trivial rfl rfl ?_;refine Zn2 8 ?_;dsimp only [go_sem];refine An ?_;refine Z04 h rfl (fun _ h=>?_) fun _ h=>?_
  ·refine Zn2 5 ?_;dsimp only [go_sem];refine An ?_;exact Z24 (res:=fun (r:ByteArray)=>.sv r) ok21 h
  ·refine Zn2 5 ?_;dsimp only [go_sem];refine An ?_;obtain ⟨x14,ex14,h⟩:=Bs h;refine Zw2 trivial (ih (wr (Int.tdiv x1 10)) _ ex14) (h:=?_);refine Zn2 1 ?_;dsimp only [go_sem];refine An ?_;obtain ⟨x15,ex15,h⟩:=Bs h;refine Zb4 ex15 trivial rfl rfl ?_;refine Zn2 2 ?_;dsimp only [go_sem];refine An ?_;exact Z24 (res:=fun (r:ByteArray)=>.sv r) ok21 h
theorem Ze6 (x1:Int) (r:ByteArray) (h:Zd6 x1=some r):Zs2 Tryd.prog 21 [.iv x1] (.sv r):=k_Digits_r 24 x1 r h
set_option maxRecDepth 100000
set_option maxHeartbeats 4000000
@[go_sem] def e13:EC:=.seq (.reg [(Qx 1 24 3 0),(Qa 2 (.mv (.c (.sv (ByteArray.mk #[])))))]) (.seq (.drw [(Qf 4 0 1),(Ql 5 4),(Qa 6 (.call 15 [(.t 5)])),(Qa 7 (.sbin .add (.t 6) (.c (.sv (ByteArray.mk #[64]))))),(Qf 8 1 1),(Ql 9 8),(Qa 10 (.call 21 [(.t 9)])),(Qa 11 (.sbin .add (.t 7) (.t 10))),(Qm 3 11)] [[],[0],[1],[2],[],[4],[5,2],[3,6],[7,6,0,1,2,3,4,5,6,7]] [[1],[0,2],[1,3],[2,7],[5],[4,6],[5,7],[3,6,8],[7]]) (.seq (.seq (.reg [(Qf 12 0 1),(Ql 13 12),(Qa 14 (.bin .eql (.t 13) (.c (.iv 9))))]) (.ite (.t 14) (.reg [(Qm 15 3),(Qa 16 (.sbin .add (.t 15) (.c (.sv (ByteArray.mk #[32]))))),(Qf 17 2 1),(Ql 18 17),(Qa 19 (.call 21 [(.t 18)])),(Qa 20 (.sbin .add (.t 16) (.t 19))),(Qm 3 20)]) (.skip))) (.seq (.reg [(Qm 21 3),(Qm 2 21)]) (.ret))))
theorem ok13:FnOK Tryd.prog 13 Tryd.f13 e13 [.t 2] 1 21:=⟨by kernel_rfl,⟨_,rfl,by kernel_rfl⟩,by kernel_rfl,by kernel_rfl⟩
noncomputable def Zf6:ByteArray→Option ByteArray
| x9=>
 some x9
noncomputable def Zg6 (x1:Msg):Option ByteArray:=
 (Z86 x1.Kind).bind fun x2=>
 (Z74 x2 ((ByteArray.mk #[64]))).bind fun x3=>
 (Zd6 x1.Epoch).bind fun x4=>
 (Z74 x3 x4).bind fun x5=>
 ifb (decide (x1.Kind=9)) (
 (Z74 x5 ((ByteArray.mk #[32]))).bind fun x6=>
 (Zd6 x1.Num).bind fun x7=>
 (Z74 x6 x7).bind fun x8=>
 Zf6 x8) (
 Zf6 x5)
theorem Zh6 (x1:Msg) (r:ByteArray) (h:Zg6 x1=some r):Zs2 Tryd.prog 13 [.agg (Msg.row x1)] (.sv r):=by
 refine Zv2 ok13 rfl rfl fun w0 H0=>?_
 rw [Zg6] at h
 refine Zn2 6 ?_;dsimp only [go_sem];refine An ?_;refine V_drw (by kernel_rfl) fun all hall hs hnap haf=>?_;dsimp only [go_sem];refine Z44 hall hs haf hnap 4 5 ?_;dsimp only [go_sem];refine An ?_;refine Zl3 2 rfl ?_;obtain ⟨x2,ex2,h⟩:=Bs h;refine Zo3 hall rfl trivial (Z96 x1.Kind _ ex2) (h:=?_);dsimp only [go_sem];obtain ⟨x3,ex3,h⟩:=Bs h;refine Ze4 hall hs haf hnap 3 ex3 rfl rfl trivial rfl rfl rfl ?_;dsimp only [go_sem];refine Zl3 6 rfl ?_;obtain ⟨x4,ex4,h⟩:=Bs h
 refine Zo3 hall rfl trivial (Ze6 x1.Epoch _ ex4) (h:=?_);dsimp only [go_sem];obtain ⟨x5,ex5,h⟩:=Bs h;refine Ze4 hall hs haf hnap 7 ex5 rfl rfl trivial rfl rfl rfl ?_;dsimp only [go_sem];refine Z44 hall hs haf hnap 1 0 ?_;dsimp only [go_sem];refine An ?_;refine Zk3 rfl ?_ _;refine Zn2 7 ?_;dsimp only [go_sem];refine An ?_;refine Zz3 (fun (x9:ByteArray)=>(⟨(an 3 (.sv x9::an 18 [])),[],[]⟩:St)) Zf6 r ?_ fun J1=>?_
 ·intro x9 h;rw [Zf6] at h;(try dsimp only);refine Zn2 5 ?_;dsimp only [go_sem];refine An ?_;exact Z24 (res:=fun (r:ByteArray)=>.sv r) ok13 h
 ·refine Z04 h rfl (fun _ h=>?_) fun _ h=>?_
  ·refine Zn2 2 ?_;dsimp only [go_sem];refine An ?_;obtain ⟨x6,ex6,h⟩:=Bs h;refine Zb4 ex6 trivial rfl rfl ?_;refine Zn2 2 ?_;dsimp only [go_sem];refine An ?_;obtain ⟨x7,ex7,h⟩:=Bs h;refine Zw2 trivial (Ze6 x1.Num _ ex7) (h:=?_);obtain ⟨x8,ex8,h⟩:=Bs h;refine Zb4 ex8 trivial rfl rfl ?_;refine Zn2 2 ?_;dsimp only [go_sem];refine An ?_;exact Z34 J1 (s:=x8) h
  ·refine Zn2 1 ?_;dsimp only [go_sem];refine An ?_;exact Z34 J1 (s:=x5) h
set_option maxRecDepth 100000
set_option maxHeartbeats 4000000
@[go_sem] def e22_L0:EC:=.seq (.seq (.reg [(Qm 7 6),(Qm 8 1),(Qa 9 (.bin .lss (.t 7) (.t 8)))]) (.ite (.t 9) (.skip) (.exit 0))) (.seq (.blk 1 (.seq (.reg [(Qm 12 0),(Qa 13 (.bin .rem (.t 12) (.c (.kv .u64 256)))),(Qa 14 (.conv .u8 (.t 13))),(Qa 15 (.bsl 5 1 1 [.kv .u8 0] [(0,(.t 14))])),(Qa 16 (.b2s (.t 15))),(Qm 17 5),(Qa 18 (.sbin .add (.t 16) (.t 17))),(Qm 5 18)]) (.reg [(Qm 19 0),(Qa 20 (.bin .quo (.t 19) (.c (.kv .u64 256)))),(Qm 0 20)]))) (.reg [(Qm 10 6),(Qv 11 10 1),(Qm 6 11)]))
@[go_sem] def e22:EC:=.seq (.reg [(Qa 4 (.mv (.c (.sv (ByteArray.mk #[])))))]) (.seq (.reg [(Qa 5 (.mv (.c (.sv (ByteArray.mk #[])))))]) (.seq (.seq (.reg [(Qi 6 0)]) (.blk 0 (.loop e22_L0))) (.seq (.reg [(Qm 21 5),(Qm 4 21)]) (.ret))))
theorem ok22:FnOK Tryd.prog 22 Tryd.f22 e22 [.t 4] 2 20:=⟨by kernel_rfl,⟨_,rfl,by kernel_rfl⟩,by kernel_rfl,by kernel_rfl⟩
noncomputable def Zi6:ByteArray→Option ByteArray
| x18=>
 some x18
noncomputable def Zj6 (x2:Int):(Int×ByteArray×Int)→Option ((Int×ByteArray×Int) ⊕ ByteArray)
| (x7,x8,x9)=>
 ifb (decide (x9<x2)) (
 (Z74 (Za4 ([kw .u8 (Int.tmod x7 256)])) x8).bind fun x10=>
 some (.inl (kw .u64 (Int.tdiv x7 256),x10,wr (x9+1)))) (
 Option.map Sum.inr (Zi6 x8))
noncomputable def Zk6 (x1:Int) (x2:Int):Option ByteArray:=
 loop (Zj6 x2) (x1,(ByteArray.mk #[]),0)
theorem Zl6 (x1:Int) (x2:Int) (r:ByteArray) (h:Zk6 x1 x2=some r):Zs2 Tryd.prog 22 [.kv .u64 x1,.iv x2] (.sv r):=by
 refine Zv2 ok22 rfl rfl fun w0 H0=>?_
 rw [Zk6] at h
 refine Zn2 13 ?_;dsimp only [go_sem];refine An ?_;refine Zz3 (fun (x18:ByteArray)=>(⟨(an 5 (.sv x18::an 16 [])),[],[]⟩:St)) Zi6 r ?_ fun J1=>?_
 ·intro x18 h;rw [Zi6] at h;(try dsimp only);refine Zn2 5 ?_;dsimp only [go_sem];refine An ?_;exact Z24 (res:=fun (r:ByteArray)=>.sv r) ok22 h
 ·refine Zn2 1 ?_;dsimp only [go_sem];refine An ?_;refine M_loop h (fun ((x7,x8,x9):(Int×ByteArray×Int))=>(⟨(.kv .u64 x7 :: .iv x2::an 3 (.sv x8 :: .iv x9::an 15 [])),[],[]⟩:St)) (by simp [go_sem]) (by rintro ⟨x7,x8,x9⟩;first | rfl | simp [go_sem]) ?_;rintro n1 ⟨x7,x8,x9⟩ y1 h hin1 hout1;rw [Zj6] at h;(try dsimp only);refine Zn2 7 ?_;dsimp only [go_sem];refine An ?_;refine Z04 h rfl (fun _ h=>?_) fun _ h=>?_
  ·refine Zn2 9 ?_;dsimp only [go_sem];refine An ?_;refine V_b2sO (ns:=[kw .u8 (Int.tmod x7 256)]) trivial rfl rfl ?_;refine Zn2 1 ?_;dsimp only [go_sem];refine An ?_;obtain ⟨x10,ex10,h⟩:=Bs h;refine Zb4 ex10 trivial rfl rfl ?_;refine Zn2 13 ?_;dsimp only [go_sem];refine An ?_;exact M_back h hin1
  ·refine Zn2 1 ?_;dsimp only [go_sem];refine An ?_;exact Z34 J1 (s:=x8) (M_out h hout1)
set_option maxRecDepth 100000
set_option maxHeartbeats 4000000
@[go_sem] def e16:EC:=.seq (.reg [(Qx 1 24 3 0),(Qa 2 (.mv (.c (.sv (ByteArray.mk #[])))))]) (.seq (.drw [(Qf 4 0 1),(Ql 5 4),(Qa 6 (.conv .u8 (.t 5))),(Qa 7 (.bsl 5 1 1 [.kv .u8 0] [(0,(.t 6))])),(Qa 8 (.b2s (.t 7))),(Qf 9 1 1),(Ql 10 9),(Qa 11 (.conv .u64 (.t 10))),(Qa 12 (.call 22 [(.t 11),(.c (.iv 2))])),(Qa 13 (.sbin .add (.t 8) (.t 12))),(Qm 3 13)] [[],[0],[1],[2],[3],[],[5],[6],[7],[4,8],[9,8,0,1,2,3,4,5,6,7,8,9]] [[1],[0,2],[1,3],[2,4],[3,9],[6],[5,7],[6,8],[7,9],[4,8,10],[9]]) (.seq (.seq (.reg [(Qf 14 0 1),(Ql 15 14),(Qa 16 (.bin .eql (.t 15) (.c (.iv 9))))]) (.ite (.t 16) (.reg [(Qm 17 3),(Qf 18 2 1),(Ql 19 18),(Qa 20 (.conv .u64 (.t 19))),(Qa 21 (.call 22 [(.t 20),(.c (.iv 2))])),(Qa 22 (.sbin .add (.t 17) (.t 21))),(Qm 3 22)]) (.skip))) (.seq (.reg [(Qm 23 3),(Qm 2 23)]) (.ret))))
theorem ok16:FnOK Tryd.prog 16 Tryd.f16 e16 [.t 2] 1 23:=⟨by kernel_rfl,⟨_,rfl,by kernel_rfl⟩,by kernel_rfl,by kernel_rfl⟩
noncomputable def Zm6:ByteArray→Option ByteArray
| x8=>
 some x8
noncomputable def Zn6 (x1:Msg):ByteArray→Option ByteArray
| x5=>
 ifb (decide (x1.Kind=9)) (
 (Zk6 (kw .u64 x1.Num) 2).bind fun x6=>
 (Z74 x5 x6).bind fun x7=>
 Zm6 x7) (
 Zm6 x5)
noncomputable def Zo6 (x1:Msg):Option ByteArray:=
 (Zk6 (kw .u64 x1.Epoch) 2).bind fun x2=>
 (Z74 (Za4 ([kw .u8 x1.Kind])) x2).bind fun x4=>
 (Zn6 x1) x4
theorem Zp6 (x1:Msg) (r:ByteArray) (h:Zo6 x1=some r):Zs2 Tryd.prog 16 [.agg (Msg.row x1)] (.sv r):=by
 refine Zv2 ok16 rfl rfl fun w0 H0=>?_
 rw [Zo6] at h
 refine Zn2 6 ?_;dsimp only [go_sem];refine An ?_;refine Zz3 (fun (x5:ByteArray)=>(⟨(.any :: .ptr 0 0 :: .any :: .sv x5::an 20 []),[some ⟨24,[.iv x1.Kind,.iv x1.Epoch,.iv x1.Num]⟩],[]⟩:St)) (Zn6 x1) r ?_ fun J1=>?_
 ·intro x5 h;rw [Zn6] at h;(try dsimp only);refine Zn2 7 ?_;dsimp only [go_sem];refine An ?_;refine Zz3 (fun (x8:ByteArray)=>(⟨(an 3 (.sv x8::an 20 [])),[],[]⟩:St)) Zm6 r ?_ fun J2=>?_
  ·intro x8 h;rw [Zm6] at h;(try dsimp only);refine Zn2 5 ?_;dsimp only [go_sem];refine An ?_;exact Z24 (res:=fun (r:ByteArray)=>.sv r) ok16 h
  ·refine Z04 h rfl (fun _ h=>?_) fun _ h=>?_
   ·refine Zn2 5 ?_;dsimp only [go_sem];refine An ?_;obtain ⟨x6,ex6,h⟩:=Bs h;refine Zw2 trivial (Zl6 (kw .u64 x1.Num) 2 _ ex6) (h:=?_);obtain ⟨x7,ex7,h⟩:=Bs h;refine Zb4 ex7 trivial rfl rfl ?_;refine Zn2 2 ?_;dsimp only [go_sem];refine An ?_;exact Z34 J2 (s:=x7) h
   ·refine Zn2 1 ?_;dsimp only [go_sem];refine An ?_;exact Z34 J2 (s:=x5) h
 ·refine V_drw (by kernel_rfl) fun all hall hs hnap haf=>?_;dsimp only [go_sem];refine G_goP hall hs haf hnap 6 5 [3,2,3,3] [(4,[.ptr 0 0,.iv x1.Kind,.kv .u8 (kw .u8 x1.Kind)]),(2,[.ptr 0 1,.iv x1.Epoch,.kv .u64 (kw .u64 x1.Epoch)])] (by kernel_rfl) ?_;dsimp only [go_sem];obtain ⟨x2,ex2,h⟩:=Bs h;refine G_two 3 8 rfl ?_ ?_
  ·refine Zn3 hall rfl trivial ?_;dsimp only [go_sem];refine G_two 4 8 rfl ?_ ?_
   ·refine GO_b2sO (ns:=[kw .u8 x1.Kind]) hall rfl trivial rfl rfl ?_;dsimp only [go_sem];refine Zl3 8 rfl ?_;refine Zo3 hall rfl trivial (Zl6 (kw .u64 x1.Epoch) 2 _ ex2) (h:=?_);dsimp only [go_sem];obtain ⟨x4,ex4,h⟩:=Bs h;refine Ze4 hall hs haf hnap 9 ex4 rfl rfl trivial rfl rfl rfl ?_;dsimp only [go_sem];refine Z44 hall hs haf hnap 1 0 ?_;dsimp only [go_sem];refine An ?_;refine Zk3 rfl ?_ _;exact Z34 J1 (s:=x4) h
   ·refine Zo3 hall rfl trivial (Zl6 (kw .u64 x1.Epoch) 2 _ ex2) (h:=?_);dsimp only [go_sem];refine Zl3 4 rfl ?_;refine GO_b2sO (ns:=[kw .u8 x1.Kind]) hall rfl trivial rfl rfl ?_;dsimp only [go_sem];obtain ⟨x4,ex4,h⟩:=Bs h;refine Ze4 hall hs haf hnap 9 ex4 rfl rfl trivial rfl rfl rfl ?_;dsimp only [go_sem];refine Z44 hall hs haf hnap 1 0 ?_;dsimp only [go_sem];refine An ?_;refine Zk3 rfl ?_ _;exact Z34 J1 (s:=x4) h
  ·refine Zo3 hall rfl trivial (Zl6 (kw .u64 x1.Epoch) 2 _ ex2) (h:=?_);dsimp only [go_sem];refine Zl3 3 rfl ?_;refine Zn3 hall rfl trivial ?_;dsimp only [go_sem];refine Zl3 4 rfl ?_;refine GO_b2sO (ns:=[kw .u8 x1.Kind]) hall rfl trivial rfl rfl ?_;dsimp only [go_sem];obtain ⟨x4,ex4,h⟩:=Bs h;refine Ze4 hall hs haf hnap 9 ex4 rfl rfl trivial rfl rfl rfl ?_;dsimp only [go_sem];refine Z44 hall hs haf hnap 1 0 ?_;dsimp only [go_sem];refine An ?_;refine Zk3 rfl ?_ _;exact Z34 J1 (s:=x4) h
set_option maxRecDepth 100000
set_option maxHeartbeats 4000000
@[go_sem] def e3:EC:=.seq (.reg [(Qx 1 24 3 0),(Qa 2 (.mv (.c .ff)))]) (.seq (.seq (.reg [(Qa 5 (.call 8 [])),(Qa 6 (.not (.t 5)))]) (.ite (.t 6) (.seq (.reg [(Qa 2 (.mv (.c .ff)))]) (.ret)) (.skip))) (.seq (.reg [(Qe 8 3 1),(Qa 9 (.call 9 [(.t 8)])),(Qm 7 9),(Qa 10 (.ext (.t 7) 0)),(Qa 11 (.ext (.t 7) 1)),(Qm 3 10),(Qm 4 11)]) (.seq (.seq (.drw [(Qe 12 3 1),(Qa 13 (.call 10 [(.t 12)])),(Qe 14 3 1),(Qa 15 (.call 11 [(.t 14)])),(Qa 16 (.bq true (.t 13) (.t 15))),(Qm 17 16),(Qg 18 17 false (.loadA 3 (.t 1))),(Qg 19 17 false (.call 12 [(.t 18)])),(Qg 20 17 false (.loadA 3 (.t 1))),(Qg 21 17 false (.call 13 [(.t 20)])),(Qg 22 17 false (.sbin .neq (.t 19) (.t 21))),(Qq 23 17 22),(Qm 24 23),(Qh 25 24 false 0 1),(Qn 26 24 false 25),(Qg 27 24 false (.call 14 [(.t 26)])),(Qh 28 24 false 0 1),(Qn 29 24 false 28),(Qg 30 24 false (.call 15 [(.t 29)])),(Qg 31 24 false (.sbin .neq (.t 27) (.t 30))),(Qq 32 24 31)] [[],[0],[],[2,1],[1,3],[4,3],[5],[6,5,5],[5],[8,7,5],[7,9,5],[5,10],[11,9],[12],[13,12],[14,12,12],[12],[16,12],[17,15,12],[15,18,12],[12,19]] [[1],[0,4],[3],[2,4],[1,3,5],[4,6,7,8,9,10,11],[5,7],[5,6,10],[5,9],[5,8,10],[5,7,9,11],[5,10,12],[11,13,14,15,16,17,18,19,20],[12,14],[12,13,15],[12,14,19],[12,17],[12,16,18],[12,17,19],[12,15,18,20],[12,19]]) (.ite (.t 32) (.seq (.reg [(Qa 2 (.mv (.c .ff)))]) (.ret)) (.skip))) (.seq (.seq (.reg [(Qe 33 3 1),(Qa 34 (.call 11 [(.t 33)])),(Qa 35 (.not (.t 34)))]) (.ite (.t 35) (.seq (.reg [(Qm 36 3),(Qa 37 (.sbin .eql (.t 36) (.c (.sv (ByteArray.mk #[]))))),(Qm 38 37),(Qg 39 38 true (.mv (.t 4))),(Qg 40 38 true (.bin .eql (.t 39) (.c (.iv 70)))),(Qp 41 38 40),(Qm 2 41)]) (.ret)) (.skip))) (.seq (.reg [(Qm 42 3),(Qe 43 3 1),(Qa 44 (.call 16 [(.t 43)])),(Qa 45 (.sbin .eql (.t 42) (.t 44))),(Qm 46 45),(Qg 47 46 true (.mv (.t 4))),(Qg 48 46 true (.bin .eql (.t 47) (.c (.iv 0)))),(Qp 49 46 48),(Qm 2 49)]) (.ret))))))
theorem ok3:FnOK Tryd.prog 3 Tryd.f3 e3 [.t 2] 1 49:=⟨by kernel_rfl,⟨_,rfl,by kernel_rfl⟩,by kernel_rfl,by kernel_rfl⟩
noncomputable def Zq6:Bool→Option Bool
| x12=>
 some x12
noncomputable def Zr6:Bool→Option Bool
| x14=>
 some x14
noncomputable def Zs6 (x1:Msg) (x3:(ByteArray×Int)):Bool→Option Bool
| x10=>
 ifb x10 (
 some false) (
 (Z66 x1).bind fun x11=>
 ifb (!x11) (
 ifb (seq x3.1 ((ByteArray.mk #[]))) (
 Zq6 (decide (x3.2=70))) (
 Zq6 false)) (
 (Zo6 x1).bind fun x13=>
 ifb (seq x3.1 x13) (
 Zr6 (decide (x3.2=0))) (
 Zr6 false)))
noncomputable def Zt6 (x1:Msg):Option Bool:=
 (Zz5).bind fun x2=>
 ifb (!x2) (
 some false) (
 (Z55 x1).bind fun x3=>
 (Zz4 x1).bind fun x4=>
 (Z66 x1).bind fun x5=>
 ifb (!(x4==x5)) (
 (Zs6 x1 x3) true) (
 (Zt5 x1).bind fun x6=>
 (Zg6 x1).bind fun x7=>
 ifb (!seq x6 x7) (
 (Zs6 x1 x3) true) (
 (Zj5 x1.Kind).bind fun x8=>
 (Z86 x1.Kind).bind fun x9=>
 (Zs6 x1 x3) (!seq x8 x9))))
theorem k_narthexlaw07_MsgPuts (x1:Msg) (r:Bool) (h:Zt6 x1=some r):Zs2 Tryd.prog 3 [.agg (Msg.row x1)] (.bv r):=by
 refine Zv2 ok3 rfl rfl fun w0 H0=>?_
 rw [Zt6] at h
 refine Zn2 8 ?_;dsimp only [go_sem];refine An ?_;obtain ⟨x2,ex2,h⟩:=Bs h;refine Zw2 trivial (Z06 _ ex2) (h:=?_);refine Zn2 2 ?_;dsimp only [go_sem];refine An ?_;refine Z04 h rfl (fun _ h=>?_) fun _ h=>?_
 ·refine Zn2 4 ?_;dsimp only [go_sem];refine An ?_;exact Z24 (res:=fun (r:Bool)=>.bv r) ok3 h
 ·refine Zn2 4 ?_;dsimp only [go_sem];refine An ?_;obtain ⟨x3,ex3,h⟩:=Bs h;refine Zw2 trivial (Z65 x1 _ ex3) (h:=?_);refine Zn2 8 ?_;dsimp only [go_sem];refine An ?_;refine Zz3 (fun (x10:Bool)=>(⟨(.any :: .ptr 0 0 :: .any :: .sv x3.1 :: .iv x3.2::an 27 (.bv x10::an 17 [])),[some ⟨24,[.iv x1.Kind,.iv x1.Epoch,.iv x1.Num]⟩],[]⟩:St)) (Zs6 x1 x3) r ?_ fun J1=>?_
  ·intro x10 h;rw [Zs6] at h;(try dsimp only);refine Z04 h rfl (fun _ h=>?_) fun _ h=>?_
   ·refine Zn2 4 ?_;dsimp only [go_sem];refine An ?_;exact Z24 (res:=fun (r:Bool)=>.bv r) ok3 h
   ·refine Zn2 5 ?_;dsimp only [go_sem];refine An ?_;obtain ⟨x11,ex11,h⟩:=Bs h;refine Zw2 trivial (Z76 x1 _ ex11) (h:=?_);refine Zn2 2 ?_;dsimp only [go_sem];refine An ?_;refine Z04 h rfl (fun _ h=>?_) fun _ h=>?_
    ·refine Zn2 5 ?_;dsimp only [go_sem];refine An ?_;refine Zz3 (fun (x12:Bool)=>(⟨(.any :: .any :: .bv x12::an 47 []),[],[]⟩:St)) Zq6 r ?_ fun J2=>?_
     ·intro x12 h;rw [Zq6] at h;(try dsimp only);exact Z24 (res:=fun (r:Bool)=>.bv r) ok3 h
     ·refine Z14 38 h rfl (fun _ h=>?_) fun _ h=>?_
      ·dsimp only [go_sem];refine Zn2 5 ?_;dsimp only [go_sem];refine An ?_;exact Z34 J2 (s:=decide (x3.2=70)) h
      ·dsimp only [go_sem];refine Zn2 5 ?_;dsimp only [go_sem];refine An ?_;exact Z34 J2 (s:=false) h
    ·refine Zn2 5 ?_;dsimp only [go_sem];refine An ?_;obtain ⟨x13,ex13,h⟩:=Bs h;refine Zw2 trivial (Zp6 x1 _ ex13) (h:=?_);refine Zn2 2 ?_;dsimp only [go_sem];refine An ?_;refine Zz3 (fun (x14:Bool)=>(⟨(.any :: .any :: .bv x14::an 47 []),[],[]⟩:St)) Zr6 r ?_ fun J3=>?_
     ·intro x14 h;rw [Zr6] at h;(try dsimp only);exact Z24 (res:=fun (r:Bool)=>.bv r) ok3 h
     ·refine Z14 46 h rfl (fun _ h=>?_) fun _ h=>?_
      ·dsimp only [go_sem];refine Zn2 5 ?_;dsimp only [go_sem];refine An ?_;exact Z34 J3 (s:=decide (x3.2=0)) h
      ·dsimp only [go_sem];refine Zn2 5 ?_;dsimp only [go_sem];refine An ?_;exact Z34 J3 (s:=false) h
  ·refine V_drw (by kernel_rfl) fun all hall hs hnap haf=>?_;dsimp only [go_sem];refine Z44 hall hs haf hnap 2 19 ?_;dsimp only [go_sem];refine An ?_;refine Zl3 1 rfl ?_;obtain ⟨x4,ex4,h⟩:=Bs h;refine Zo3 hall rfl trivial (Z05 x1 _ ex4) (h:=?_);dsimp only [go_sem];refine Zl3 3 rfl ?_;obtain ⟨x5,ex5,h⟩:=Bs h;refine Zo3 hall rfl trivial (Z76 x1 _ ex5) (h:=?_);dsimp only [go_sem];refine Z44 hall hs haf hnap 2 15 ?_;dsimp only [go_sem];refine An ?_;refine GM_case 17 h rfl (fun _ h=>?_) fun _ h=>?_
   ·dsimp only [go_sem];refine G_goP hall hs haf hnap 15 0 [21] [(23,[.tt,.tt]),(7,[.tt])] (by kernel_rfl) ?_;dsimp only [go_sem];refine Zk3 rfl ?_ _;exact Z34 J1 (s:=true) h
   ·dsimp only [go_sem];refine Z44 hall hs haf hnap 2 13 ?_;dsimp only [go_sem];refine An ?_;refine Zl3 7 rfl ?_;obtain ⟨x6,ex6,h⟩:=Bs h;refine Zo3 hall rfl trivial (Zu5 x1 _ ex6) (h:=?_);dsimp only [go_sem];refine Zl3 9 rfl ?_;obtain ⟨x7,ex7,h⟩:=Bs h;refine Zo3 hall rfl trivial (Zh6 x1 _ ex7) (h:=?_);dsimp only [go_sem];refine G_goP hall hs haf hnap 3 8 [13,8] [(22,[.bv (!seq x6 x7),.bv (!seq x6 x7),.bv (!seq x6 x7)])] (by kernel_rfl) ?_;dsimp only [go_sem];refine GM_case 24 h rfl (fun _ h=>?_) fun _ h=>?_
    ·dsimp only [go_sem];refine G_goP hall hs haf hnap 8 0 [21] [(32,[.tt])] (by kernel_rfl) ?_;dsimp only [go_sem];refine Zk3 rfl ?_ _;exact Z34 J1 (s:=true) h
    ·dsimp only [go_sem];refine G_goP hall hs haf hnap 4 4 [15,1,2,3] [(25,[.ptr 0 0,.iv x1.Kind]),(1,[.ptr 0 0,.iv x1.Kind])] (by kernel_rfl) ?_;dsimp only [go_sem];refine Zl3 15 rfl ?_;obtain ⟨x8,ex8,h⟩:=Bs h;refine Zo3 hall rfl trivial (Zk5 x1.Kind _ ex8) (h:=?_);dsimp only [go_sem];refine Zl3 18 rfl ?_;obtain ⟨x9,ex9,h⟩:=Bs h;refine Zo3 hall rfl trivial (Z96 x1.Kind _ ex9) (h:=?_);dsimp only [go_sem];refine Z44 hall hs haf hnap 2 0 ?_;dsimp only [go_sem];refine An ?_;refine Zk3 rfl ?_ _
     exact Z34 J1 (s:=!seq x8 x9) h
set_option maxRecDepth 100000
set_option maxHeartbeats 4000000
@[go_sem] def e23_L0:EC:=.seq (.seq (.reg [(Qm 5 4),(Qm 6 0),(Qa 7 (.slen (.t 6))),(Qa 8 (.bin .lss (.t 5) (.t 7)))]) (.ite (.t 8) (.skip) (.exit 0))) (.seq (.blk 1 (.reg [(Qm 11 3),(Qa 12 (.bin .mul (.t 11) (.c (.kv .u64 256)))),(Qm 13 0),(Qm 14 4),(Qa 15 (.sidx (.t 13) (.t 14))),(Qa 16 (.conv .u64 (.t 15))),(Qa 17 (.bin .add (.t 12) (.t 16))),(Qm 3 17)])) (.reg [(Qm 9 4),(Qv 10 9 1),(Qm 4 10)]))
@[go_sem] def e23:EC:=.seq (.reg [(Qa 2 (.mv (.c (.kv .u64 0))))]) (.seq (.reg [(Qa 3 (.mv (.c (.kv .u64 0))))]) (.seq (.seq (.reg [(Qi 4 0)]) (.blk 0 (.loop e23_L0))) (.seq (.reg [(Qm 18 3),(Qm 2 18)]) (.ret))))
theorem ok23:FnOK Tryd.prog 23 Tryd.f23 e23 [.t 2] 1 18:=⟨by kernel_rfl,⟨_,rfl,by kernel_rfl⟩,by kernel_rfl,by kernel_rfl⟩
noncomputable def Zu6:Int→Option Int
| x13=>
 some x13
noncomputable def Zv6 (x1:ByteArray):(Int×Int)→Option ((Int×Int) ⊕ Int)
| (x5,x6)=>
 ifb (decide (x6<(Zo x1))) (
 (Z84 x1 x6).bind fun x7=>
 some (.inl (kw .u64 ((kw .u64 (x5*256))+(kw .u64 x7)),wr (x6+1)))) (
 Option.map Sum.inr (Zu6 x5))
noncomputable def Zw6 (x1:ByteArray):Option Int:=
 loop (Zv6 x1) (0,0)
theorem Zx6 (x1:ByteArray) (r:Int) (h:Zw6 x1=some r):Zs2 Tryd.prog 23 [.sv x1] (.kv .u64 r):=by
 refine Zv2 ok23 rfl rfl fun w0 H0=>?_
 rw [Zw6] at h
 refine Zn2 13 ?_;dsimp only [go_sem];refine An ?_;refine Zz3 (fun (x13:Int)=>(⟨(an 3 (.kv .u64 x13::an 15 [])),[],[]⟩:St)) Zu6 r ?_ fun J1=>?_
 ·intro x13 h;rw [Zu6] at h;(try dsimp only);refine Zn2 5 ?_;dsimp only [go_sem];refine An ?_;exact Z24 (res:=fun (r:Int)=>.kv .u64 r) ok23 h
 ·refine Zn2 1 ?_;dsimp only [go_sem];refine An ?_;refine M_loop h (fun ((x5,x6):(Int×Int))=>(⟨(.sv x1 :: .any :: .any :: .kv .u64 x5 :: .iv x6::an 14 []),[],[]⟩:St)) (by simp [go_sem]) (by rintro ⟨x5,x6⟩;first | rfl | simp [go_sem]) ?_;rintro n1 ⟨x5,x6⟩ y1 h hin1 hout1;rw [Zv6] at h;(try dsimp only);refine Zn2 8 ?_;dsimp only [go_sem];refine An ?_;refine Z04 h rfl (fun _ h=>?_) fun _ h=>?_
  ·refine Zn2 8 ?_;dsimp only [go_sem];refine An ?_;obtain ⟨x7,ex7,h⟩:=Bs h;refine V_sidxM ex7 trivial rfl rfl ?_;refine Zn2 10 ?_;dsimp only [go_sem];refine An ?_;exact M_back h hin1
  ·refine Zn2 1 ?_;dsimp only [go_sem];refine An ?_;exact Z34 J1 (s:=x5) (M_out h hout1)
set_option maxRecDepth 100000
set_option maxHeartbeats 4000000
@[go_sem] def e18:EC:=.seq (.reg [(Qa 2 (.alloc 24 [.iv 0,.iv 0,.iv 0])),(Qa 3 (.mv (.c .ff)))]) (.seq (.seq (.reg [(Qm 5 0),(Qa 6 (.slen (.t 5))),(Qa 7 (.bin .neq (.t 6) (.c (.iv 3)))),(Qm 8 7),(Qg 9 8 true (.mv (.t 0))),(Qg 10 8 true (.slen (.t 9))),(Qg 11 8 true (.bin .neq (.t 10) (.c (.iv 5)))),(Qp 12 8 11)]) (.ite (.t 12) (.seq (.reg [(Qa 13 (.build [.iv 0,.iv 0,.iv 0] [])),(Qs 3 2 13),(Qa 3 (.mv (.c .ff)))]) (.ret)) (.skip))) (.seq (.drw [(Qm 14 0),(Qa 15 (.sidx (.t 14) (.c (.iv 0)))),(Qa 16 (.conv .i64 (.t 15))),(Qm 17 0),(Qa 18 (.ssl (.t 17) (some (.c (.iv 1))) (some (.c (.iv 3))))),(Qa 19 (.call 23 [(.t 18)])),(Qa 20 (.conv .i64 (.t 19))),(Qm 21 0),(Qa 22 (.ssl (.t 21) (some (.c (.iv 3))) none)),(Qa 23 (.call 23 [(.t 22)])),(Qa 24 (.conv .i64 (.t 23))),(Qa 25 (.build [.iv 0,.iv 0,.iv 0] [(0,1,(.t 16)),(1,1,(.t 20)),(2,1,(.t 24))])),(Qa 4 (.alloc 24 [.iv 0,.iv 0,.iv 0])),(Qs 3 4 25)] [[],[0],[1],[],[3],[4],[5],[],[7],[8,5],[9],[2,6,10],[],[12,11,9,0,1,2,3,4,5,6,7,8,9,10,11,12]] [[1],[0,2],[1,11],[4],[3,5],[4,6],[5,11],[8],[7,9],[8,10],[9,11],[2,6,10,13],[13],[11,12]]) (.seq (.seq (.reg [(Qe 26 3 4),(Qa 27 (.call 11 [(.t 26)])),(Qa 28 (.not (.t 27))),(Qm 29 28),(Qg 30 29 false (.loadA 3 (.t 4))),(Qg 31 29 false (.call 16 [(.t 30)])),(Qg 32 29 false (.mv (.t 0))),(Qg 33 29 false (.sbin .neq (.t 31) (.t 32))),(Qq 34 29 33)]) (.ite (.t 34) (.seq (.reg [(Qa 35 (.build [.iv 0,.iv 0,.iv 0] [])),(Qs 3 2 35),(Qa 3 (.mv (.c .ff)))]) (.ret)) (.skip))) (.seq (.reg [(Qe 36 3 4),(Qs 3 2 36),(Qa 3 (.mv (.c .tt)))]) (.ret)))))
theorem ok18:FnOK Tryd.prog 18 Tryd.f18 e18 [.c 2 (some 3),.t 3] 1 36:=⟨by kernel_rfl,⟨_,rfl,by kernel_rfl⟩,by kernel_rfl,by kernel_rfl⟩
noncomputable def Zy6 (x10:Msg):Bool→Option (Msg×Bool)
| x13=>
 ifb x13 (
 some ((Msg.mk 0 0 0),false)) (
 some (x10,true))
noncomputable def Zz6 (x1:ByteArray):Msg→Option (Msg×Bool)
| x10=>
 (Z66 x10).bind fun x11=>
 ifb (!x11) (
 (Zy6 x10) true) (
 (Zo6 x10).bind fun x12=>
 (Zy6 x10) (!seq x12 x1))
noncomputable def Z07 (x1:ByteArray):Bool→Option (Msg×Bool)
| x2=>
 ifb x2 (
 some ((Msg.mk 0 0 0),false)) (
 (Z84 x1 0).bind fun x3=>
 (Z94 x1 1 3).bind fun x4=>
 (Z94 x1 3 (Zo x1)).bind fun x5=>
 (Zw6 x4).bind fun x6=>
 (Zw6 x5).bind fun x8=>
 (Zz6 x1) ((Msg.mk (wr x3) (wr x6) (wr x8))))
noncomputable def Z17 (x1:ByteArray):Option (Msg×Bool):=
 ifb (!decide ((Zo x1)=3)) (
 (Z07 x1) (!decide ((Zo x1)=5))) (
 (Z07 x1) false)
theorem Z27 (x1:ByteArray) (r:(Msg×Bool)) (h:Z17 x1=some r):Zs2 Tryd.prog 18 [.sv x1] (.tup [.agg (Msg.row r.1),.bv r.2]):=by
 refine Zv2 ok18 rfl rfl fun w0 H0=>?_
 rw [Z17] at h
 refine Zn2 12 ?_;dsimp only [go_sem];refine An ?_;refine Zz3 (fun (x2:Bool)=>(⟨(.sv x1 :: .any :: .ptr 0 0::an 9 (.bv x2::an 24 [])),[some ⟨24,[.iv 0,.iv 0,.iv 0]⟩],[]⟩:St)) (Z07 x1) r ?_ fun J1=>?_
 ·intro x2 h;rw [Z07] at h;(try dsimp only);refine Z04 h rfl (fun _ h=>?_) fun _ h=>?_
  ·refine Zn2 6 ?_;dsimp only [go_sem];refine An ?_;exact Z24 (res:=fun (r:(Msg×Bool))=>.tup [.agg (Msg.row r.1),.bv r.2]) ok18 h
  ·refine Zn2 2 ?_;dsimp only [go_sem];refine An ?_;refine Zz3 (fun (x10:Msg)=>(⟨(.sv x1 :: .any :: .ptr 0 0 :: .any :: .ptr 1 0::an 32 []),[some ⟨24,[.iv 0,.iv 0,.iv 0]⟩,some ⟨24,[.iv x10.Kind,.iv x10.Epoch,.iv x10.Num]⟩],[]⟩:St)) (Zz6 x1) r ?_ fun J2=>?_
   ·intro x10 h;rw [Zz6] at h;(try dsimp only);refine Zn2 4 ?_;dsimp only [go_sem];refine An ?_;obtain ⟨x11,ex11,h⟩:=Bs h;refine Zw2 trivial (Z76 x10 _ ex11) (h:=?_);refine Zn2 2 ?_;dsimp only [go_sem];refine An ?_;refine Zz3 (fun (x13:Bool)=>(⟨(.any :: .any :: .ptr 0 0 :: .any :: .ptr 1 0::an 29 [.bv x13,.any,.any]),[some ⟨24,[.iv 0,.iv 0,.iv 0]⟩,some ⟨24,[.iv x10.Kind,.iv x10.Epoch,.iv x10.Num]⟩],[]⟩:St)) (Zy6 x10) r ?_ fun J3=>?_
    ·intro x13 h;rw [Zy6] at h;(try dsimp only);refine Z04 h rfl (fun _ h=>?_) fun _ h=>?_
     ·refine Zn2 6 ?_;dsimp only [go_sem];refine An ?_;exact Z24 (res:=fun (r:(Msg×Bool))=>.tup [.agg (Msg.row r.1),.bv r.2]) ok18 h
     ·refine Zn2 7 ?_;dsimp only [go_sem];refine An ?_;exact Z24 (res:=fun (r:(Msg×Bool))=>.tup [.agg (Msg.row r.1),.bv r.2]) ok18 h
    ·refine Z14 29 h rfl (fun _ h=>?_) fun _ h=>?_
     ·dsimp only [go_sem];refine Zn2 6 ?_;dsimp only [go_sem];refine An ?_;exact Z34 J3 (s:=true) h
     ·dsimp only [go_sem];refine Zn2 1 ?_;dsimp only [go_sem];refine An ?_;obtain ⟨x12,ex12,h⟩:=Bs h;refine Zw2 trivial (Zp6 x10 _ ex12) (h:=?_);refine Zn2 4 ?_;dsimp only [go_sem];refine An ?_;exact Z34 J3 (s:=!seq x12 x1) h
   ·refine V_drw (by kernel_rfl) fun all hall hs hnap haf=>?_;dsimp only [go_sem];refine Z44 hall hs haf hnap 3 11 ?_;dsimp only [go_sem];refine An ?_;obtain ⟨x3,ex3,h⟩:=Bs h;refine Zd4 hall hs haf hnap 1 ex3 rfl rfl trivial rfl rfl rfl ?_;dsimp only [go_sem];refine Z44 hall hs haf hnap 1 9 ?_;dsimp only [go_sem];refine An ?_;obtain ⟨x4,ex4,h⟩:=Bs h;refine G_sslM hall hs haf hnap 4 ex4 rfl rfl trivial rfl rfl rfl rfl ?_;dsimp only [go_sem];obtain ⟨x5,ex5,h⟩:=Bs h;refine G_sslM hall hs haf hnap 8 ex5 rfl rfl trivial rfl rfl rfl rfl ?_;dsimp only [go_sem]
    obtain ⟨x6,ex6,h⟩:=Bs h;refine G_two 5 12 rfl ?_ ?_
    ·refine Zo3 hall rfl trivial (Zx6 x4 _ ex6) (h:=?_);dsimp only [go_sem];refine Z44 hall hs haf hnap 1 5 ?_;dsimp only [go_sem];refine An ?_;obtain ⟨x8,ex8,h⟩:=Bs h;refine G_two 9 12 rfl ?_ ?_
     ·refine Zo3 hall rfl trivial (Zx6 x5 _ ex8) (h:=?_);dsimp only [go_sem];refine Z44 hall hs haf hnap 2 2 ?_;dsimp only [go_sem];refine An ?_;refine Zl3 12 rfl ?_;refine Zn3 hall rfl trivial ?_;dsimp only [go_sem];refine Zl3 13 rfl ?_;refine Zn3 hall rfl trivial ?_;dsimp only [go_sem];refine Zk3 rfl ?_ _;exact Z34 J2 (s:=(Msg.mk (wr x3) (wr x6) (wr x8))) h
     ·refine Zn3 hall rfl trivial ?_;dsimp only [go_sem];refine Zl3 9 rfl ?_;refine Zo3 hall rfl trivial (Zx6 x5 _ ex8) (h:=?_);dsimp only [go_sem];refine Z44 hall hs haf hnap 2 1 ?_;dsimp only [go_sem];refine An ?_;refine Zl3 13 rfl ?_;refine Zn3 hall rfl trivial ?_;dsimp only [go_sem];refine Zk3 rfl ?_ _;exact Z34 J2 (s:=(Msg.mk (wr x3) (wr x6) (wr x8))) h
    ·refine Zn3 hall rfl trivial ?_;dsimp only [go_sem];refine Zl3 5 rfl ?_;refine Zo3 hall rfl trivial (Zx6 x4 _ ex6) (h:=?_);dsimp only [go_sem];refine Z44 hall hs haf hnap 1 4 ?_;dsimp only [go_sem];refine An ?_;refine Zl3 9 rfl ?_;obtain ⟨x8,ex8,h⟩:=Bs h;refine Zo3 hall rfl trivial (Zx6 x5 _ ex8) (h:=?_);dsimp only [go_sem];refine Z44 hall hs haf hnap 2 1 ?_;dsimp only [go_sem];refine An ?_;refine Zl3 13 rfl ?_;refine Zn3 hall rfl trivial ?_;dsimp only [go_sem];refine Zk3 rfl ?_ _
     exact Z34 J2 (s:=(Msg.mk (wr x3) (wr x6) (wr x8))) h
 ·refine Z14 8 h rfl (fun _ h=>?_) fun _ h=>?_
  ·dsimp only [go_sem];refine Zn2 5 ?_;dsimp only [go_sem];refine An ?_;exact Z34 J1 (s:=!decide ((Zo x1)=5)) h
  ·dsimp only [go_sem];refine Zn2 5 ?_;dsimp only [go_sem];refine An ?_;exact Z34 J1 (s:=false) h
set_option maxRecDepth 100000
set_option maxHeartbeats 4000000
@[go_sem] def e4:EC:=.seq (.reg [(Qa 2 (.mv (.c .ff)))]) (.seq (.seq (.reg [(Qa 7 (.call 8 [])),(Qa 8 (.not (.t 7))),(Qm 9 8),(Qg 10 9 false (.mv (.t 0))),(Qg 11 9 false (.slen (.t 10))),(Qg 12 9 false (.bin .gtr (.t 11) (.c (.iv 100)))),(Qq 13 9 12)]) (.ite (.t 13) (.seq (.reg [(Qa 14 (.call 8 [])),(Qm 2 14)]) (.ret)) (.skip))) (.seq (.reg [(Qm 16 0),(Qa 17 (.call 17 [(.t 16)])),(Qm 15 17),(Qa 18 (.ext (.t 15) 0)),(Qa 19 (.ext (.t 15) 1)),(Qa 3 (.alloc 24 [.iv 0,.iv 0,.iv 0])),(Qs 3 3 18),(Qm 4 19)]) (.seq (.reg [(Qm 21 0),(Qa 22 (.call 18 [(.t 21)])),(Qm 20 22),(Qa 23 (.ext (.t 20) 0)),(Qa 24 (.ext (.t 20) 1)),(Qa 5 (.alloc 24 [.iv 0,.iv 0,.iv 0])),(Qs 3 5 23),(Qm 6 24)]) (.seq (.reg [(Qe 25 3 3),(Qe 26 3 5),(Qa 27 (.eqs false [true,true,true] (.t 25) (.t 26))),(Qm 28 27),(Qg 29 28 true (.mv (.t 4))),(Qg 30 28 true (.bin .eql (.t 29) (.c (.iv 0)))),(Qg 31 28 true (.mv (.t 6))),(Qg 32 28 true (.bq false (.t 30) (.t 31))),(Qp 33 28 32),(Qm 34 33),(Qg 35 34 true (.mv (.t 6))),(Qg 36 34 true (.mv (.t 35))),(Qg 37 36 false (.mv (.t 4))),(Qg 38 36 false (.bin .eql (.t 37) (.c (.iv 71)))),(Qg 39 34 true (.pick (.t 36) (.c .tt) (.t 38))),(Qp 40 34 39),(Qm 2 40)]) (.ret)))))
theorem ok4:FnOK Tryd.prog 4 Tryd.f4 e4 [.t 2] 1 40:=⟨by kernel_rfl,⟨_,rfl,by kernel_rfl⟩,by kernel_rfl,by kernel_rfl⟩
noncomputable def Z37:Bool→Option Bool
| x7=>
 some x7
noncomputable def Z47 (x1:ByteArray):Bool→Option Bool
| x3=>
 ifb x3 (
 (Zz5).bind fun x4=>
 some x4) (
 (Zb5 x1).bind fun x5=>
 (Z17 x1).bind fun x6=>
 ifb (decide (x5.1.Kind=x6.1.Kind)&&(decide (x5.1.Epoch=x6.1.Epoch)&&(decide (x5.1.Num=x6.1.Num)&&true))) (
 ifb ((decide (x5.2=0))==x6.2) (
 ifb x6.2 (
 Z37 true) (
 Z37 (decide (x5.2=71)))) (
 Z37 false)) (
 Z37 false))
noncomputable def Z57 (x1:ByteArray):Option Bool:=
 (Zz5).bind fun x2=>
 ifb (!x2) (
 (Z47 x1) true) (
 (Z47 x1) (decide (100<(Zo x1))))
theorem k_narthexlaw07_MsgGets (x1:ByteArray) (r:Bool) (h:Z57 x1=some r):Zs2 Tryd.prog 4 [.sv x1] (.bv r):=by
 refine Zv2 ok4 rfl rfl fun w0 H0=>?_
 rw [Z57] at h
 refine Zn2 7 ?_;dsimp only [go_sem];refine An ?_;obtain ⟨x2,ex2,h⟩:=Bs h;refine Zw2 trivial (Z06 _ ex2) (h:=?_);refine Zn2 2 ?_;dsimp only [go_sem];refine An ?_;refine Zz3 (fun (x3:Bool)=>(⟨(.sv x1::an 12 (.bv x3::an 27 [])),[],[]⟩:St)) (Z47 x1) r ?_ fun J1=>?_
 ·intro x3 h;rw [Z47] at h;(try dsimp only);refine Z04 h rfl (fun _ h=>?_) fun _ h=>?_
  ·refine Zn2 2 ?_;dsimp only [go_sem];refine An ?_;obtain ⟨x4,ex4,h⟩:=Bs h;refine Zw2 trivial (Z06 _ ex4) (h:=?_);refine Zn2 2 ?_;dsimp only [go_sem];refine An ?_;exact Z24 (res:=fun (r:Bool)=>.bv r) ok4 h
  ·refine Zn2 4 ?_;dsimp only [go_sem];refine An ?_;obtain ⟨x5,ex5,h⟩:=Bs h;refine Zw2 trivial (Zc5 x1 _ ex5) (h:=?_);refine Zn2 10 ?_;dsimp only [go_sem];refine An ?_;obtain ⟨x6,ex6,h⟩:=Bs h;refine Zw2 trivial (Z27 x1 _ ex6) (h:=?_);refine Zn2 13 ?_;dsimp only [go_sem];refine An ?_;refine Zz3 (fun (x7:Bool)=>(⟨(.any :: .any :: .bv x7::an 38 []),[],[]⟩:St)) Z37 r ?_ fun J2=>?_
   ·intro x7 h;rw [Z37] at h;(try dsimp only);exact Z24 (res:=fun (r:Bool)=>.bv r) ok4 h
   ·refine Z14 28 h rfl (fun _ h=>?_) fun _ h=>?_
    ·dsimp only [go_sem];refine Zn2 6 ?_;dsimp only [go_sem];refine An ?_;refine Z14 34 h rfl (fun _ h=>?_) fun _ h=>?_
     ·dsimp only [go_sem];refine Zn2 2 ?_;dsimp only [go_sem];refine An ?_;refine Z14 36 h rfl (fun _ h=>?_) fun _ h=>?_
      ·dsimp only [go_sem];refine Zn2 6 ?_;dsimp only [go_sem];refine An ?_;exact Z34 J2 (s:=true) h
      ·dsimp only [go_sem];refine Zn2 6 ?_;dsimp only [go_sem];refine An ?_;exact Z34 J2 (s:=decide (x5.2=71)) h
     ·dsimp only [go_sem];refine Zn2 8 ?_;dsimp only [go_sem];refine An ?_;exact Z34 J2 (s:=false) h
    ·dsimp only [go_sem];refine Zn2 14 ?_;dsimp only [go_sem];refine An ?_;exact Z34 J2 (s:=false) h
 ·refine Z14 9 h rfl (fun _ h=>?_) fun _ h=>?_
  ·dsimp only [go_sem];refine Zn2 5 ?_;dsimp only [go_sem];refine An ?_;exact Z34 J1 (s:=true) h
  ·dsimp only [go_sem];refine Zn2 5 ?_;dsimp only [go_sem];refine An ?_;exact Z34 J1 (s:=decide (100<(Zo x1))) h
set_option maxRecDepth 100000
set_option maxHeartbeats 4000000
@[go_sem] def e5:EC:=.seq (.reg [(Qx 2 24 3 0),(Qa 4 (.mv (.c .ff)))]) (.seq (.seq (.reg [(Qa 13 (.call 8 [])),(Qa 14 (.not (.t 13))),(Qm 15 14),(Qg 16 15 false (.mv (.t 1))),(Qg 17 15 false (.slen (.t 16))),(Qg 18 15 false (.bin .gtr (.t 17) (.c (.iv 100)))),(Qq 19 15 18)]) (.ite (.t 19) (.seq (.reg [(Qa 20 (.call 8 [])),(Qm 4 20)]) (.ret)) (.skip))) (.seq (.reg [(Qe 22 3 2),(Qa 23 (.call 9 [(.t 22)])),(Qm 21 23),(Qa 24 (.ext (.t 21) 0)),(Qa 25 (.ext (.t 21) 1)),(Qm 5 24),(Qm 6 25)]) (.seq (.reg [(Qm 27 5),(Qa 28 (.call 17 [(.t 27)])),(Qm 26 28),(Qa 29 (.ext (.t 26) 0)),(Qa 30 (.ext (.t 26) 1)),(Qa 7 (.alloc 24 [.iv 0,.iv 0,.iv 0])),(Qs 3 7 29),(Qm 8 30)]) (.seq (.seq (.reg [(Qm 31 6),(Qa 32 (.bin .eql (.t 31) (.c (.iv 0)))),(Qe 33 3 2),(Qa 34 (.call 10 [(.t 33)])),(Qa 35 (.bq true (.t 32) (.t 34))),(Qm 36 35),(Qg 37 36 false (.mv (.t 6))),(Qg 38 36 false (.bin .eql (.t 37) (.c (.iv 0)))),(Qg 39 36 false (.mv (.t 38))),(Qg 40 39 true (.loadA 3 (.t 7))),(Qg 41 39 true (.loadA 3 (.t 2))),(Qg 42 39 true (.eqs true [true,true,true] (.t 40) (.t 41))),(Qg 43 39 true (.mv (.t 42))),(Qg 44 43 false (.mv (.t 8))),(Qg 45 43 false (.bin .neq (.t 44) (.c (.iv 0)))),(Qg 46 39 true (.pick (.t 43) (.c .tt) (.t 45))),(Qg 47 39 true (.mv (.t 46))),(Qg 48 47 false (.mv (.t 5))),(Qg 49 47 false (.slen (.t 48))),(Qg 50 47 false (.bin .gtr (.t 49) (.c (.iv 64)))),(Qg 51 39 true (.pick (.t 47) (.c .tt) (.t 50))),(Qg 52 36 false (.pick (.t 39) (.t 51) (.c .ff))),(Qq 53 36 52)]) (.ite (.t 53) (.seq (.reg [(Qa 4 (.mv (.c .ff)))]) (.ret)) (.skip))) (.seq (.reg [(Qm 55 1),(Qa 56 (.call 17 [(.t 55)])),(Qm 54 56),(Qa 57 (.ext (.t 54) 0)),(Qa 58 (.ext (.t 54) 1)),(Qa 9 (.alloc 24 [.iv 0,.iv 0,.iv 0])),(Qs 3 9 57),(Qm 10 58)]) (.seq (.seq (.reg [(Qm 59 10),(Qa 60 (.bin .neq (.t 59) (.c (.iv 0))))]) (.ite (.t 60) (.seq (.reg [(Qe 61 3 9),(Qa 62 (.build [.iv 0,.iv 0,.iv 0] [])),(Qa 63 (.eqs false [true,true,true] (.t 61) (.t 62))),(Qm 4 63)]) (.ret)) (.skip))) (.seq (.reg [(Qe 65 3 9),(Qa 66 (.call 9 [(.t 65)])),(Qm 64 66),(Qa 67 (.ext (.t 64) 0)),(Qa 68 (.ext (.t 64) 1)),(Qm 11 67),(Qm 12 68)]) (.seq (.reg [(Qm 69 12),(Qa 70 (.bin .eql (.t 69) (.c (.iv 0)))),(Qm 71 70),(Qg 72 71 true (.mv (.t 11))),(Qg 73 71 true (.mv (.t 1))),(Qg 74 71 true (.sbin .eql (.t 72) (.t 73))),(Qp 75 71 74),(Qm 4 75)]) (.ret)))))))))
theorem ok5:FnOK Tryd.prog 5 Tryd.f5 e5 [.t 4] 2 74:=⟨by kernel_rfl,⟨_,rfl,by kernel_rfl⟩,by kernel_rfl,by kernel_rfl⟩
noncomputable def Z67:Bool→Option Bool
| x12=>
 some x12
noncomputable def Z77 (x2:ByteArray):Bool→Option Bool
| x9=>
 ifb x9 (
 some false) (
 (Zb5 x2).bind fun x10=>
 ifb (!decide (x10.2=0)) (
 some (decide (x10.1.Kind=0)&&(decide (x10.1.Epoch=0)&&(decide (x10.1.Num=0)&&true)))) (
 (Z55 x10.1).bind fun x11=>
 ifb (decide (x11.2=0)) (
 Z67 (seq x11.1 x2)) (
 Z67 false)))
noncomputable def Z87 (x1:Msg) (x2:ByteArray):Bool→Option Bool
| x4=>
 ifb x4 (
 (Zz5).bind fun x5=>
 some x5) (
 (Z55 x1).bind fun x6=>
 (Zb5 x6.1).bind fun x7=>
 (Zz4 x1).bind fun x8=>
 ifb (!((decide (x6.2=0))==x8)) (
 (Z77 x2) true) (
 ifb (decide (x6.2=0)) (
 ifb (!(decide (x7.1.Kind=x1.Kind)&&(decide (x7.1.Epoch=x1.Epoch)&&(decide (x7.1.Num=x1.Num)&&true)))) (
 (Z77 x2) true) (
 ifb (!decide (x7.2=0)) (
 (Z77 x2) true) (
 (Z77 x2) (decide (64<(Zo x6.1)))))) (
 (Z77 x2) false)))
noncomputable def Z97 (x1:Msg) (x2:ByteArray):Option Bool:=
 (Zz5).bind fun x3=>
 ifb (!x3) (
 (Z87 x1 x2) true) (
 (Z87 x1 x2) (decide (100<(Zo x2))))
theorem k_narthexlaw07_MsgBack (x1:Msg) (x2:ByteArray) (r:Bool) (h:Z97 x1 x2=some r):Zs2 Tryd.prog 5 [.agg (Msg.row x1),.sv x2] (.bv r):=by
 refine Zv2 ok5 rfl rfl fun w0 H0=>?_
 rw [Z97] at h
 refine Zn2 8 ?_;dsimp only [go_sem];refine An ?_;obtain ⟨x3,ex3,h⟩:=Bs h;refine Zw2 trivial (Z06 _ ex3) (h:=?_);refine Zn2 2 ?_;dsimp only [go_sem];refine An ?_;refine Zz3 (fun (x4:Bool)=>(⟨(.any :: .sv x2 :: .ptr 0 0::an 16 (.bv x4::an 56 [])),[some ⟨24,[.iv x1.Kind,.iv x1.Epoch,.iv x1.Num]⟩],[]⟩:St)) (Z87 x1 x2) r ?_ fun J1=>?_
 ·intro x4 h;rw [Z87] at h;(try dsimp only);refine Z04 h rfl (fun _ h=>?_) fun _ h=>?_
  ·refine Zn2 2 ?_;dsimp only [go_sem];refine An ?_;obtain ⟨x5,ex5,h⟩:=Bs h;refine Zw2 trivial (Z06 _ ex5) (h:=?_);refine Zn2 2 ?_;dsimp only [go_sem];refine An ?_;exact Z24 (res:=fun (r:Bool)=>.bv r) ok5 h
  ·refine Zn2 4 ?_;dsimp only [go_sem];refine An ?_;obtain ⟨x6,ex6,h⟩:=Bs h;refine Zw2 trivial (Z65 x1 _ ex6) (h:=?_);refine Zn2 9 ?_;dsimp only [go_sem];refine An ?_;obtain ⟨x7,ex7,h⟩:=Bs h;refine Zw2 trivial (Zc5 x6.1 _ ex7) (h:=?_);refine Zn2 13 ?_;dsimp only [go_sem];refine An ?_;obtain ⟨x8,ex8,h⟩:=Bs h;refine Zw2 trivial (Z05 x1 _ ex8) (h:=?_);refine Zn2 2 ?_;dsimp only [go_sem];refine An ?_
   refine Zz3 (fun (x9:Bool)=>(⟨(.any :: .sv x2::an 51 (.bv x9::an 22 [])),[],[]⟩:St)) (Z77 x2) r ?_ fun J2=>?_
   ·intro x9 h;rw [Z77] at h;(try dsimp only);refine Z04 h rfl (fun _ h=>?_) fun _ h=>?_
    ·refine Zn2 4 ?_;dsimp only [go_sem];refine An ?_;exact Z24 (res:=fun (r:Bool)=>.bv r) ok5 h
    ·refine Zn2 4 ?_;dsimp only [go_sem];refine An ?_;obtain ⟨x10,ex10,h⟩:=Bs h;refine Zw2 trivial (Zc5 x2 _ ex10) (h:=?_);refine Zn2 13 ?_;dsimp only [go_sem];refine An ?_;refine Z04 h rfl (fun _ h=>?_) fun _ h=>?_
     ·refine Zn2 7 ?_;dsimp only [go_sem];refine An ?_;exact Z24 (res:=fun (r:Bool)=>.bv r) ok5 h
     ·refine Zn2 4 ?_;dsimp only [go_sem];refine An ?_;obtain ⟨x11,ex11,h⟩:=Bs h;refine Zw2 trivial (Z65 x10.1 _ ex11) (h:=?_);refine Zn2 11 ?_;dsimp only [go_sem];refine An ?_;refine Zz3 (fun (x12:Bool)=>(⟨(an 4 (.bv x12::an 71 [])),[],[]⟩:St)) Z67 r ?_ fun J3=>?_
      ·intro x12 h;rw [Z67] at h;(try dsimp only);exact Z24 (res:=fun (r:Bool)=>.bv r) ok5 h
      ·refine Z14 71 h rfl (fun _ h=>?_) fun _ h=>?_
       ·dsimp only [go_sem];refine Zn2 6 ?_;dsimp only [go_sem];refine An ?_;exact Z34 J3 (s:=seq x11.1 x2) h
       ·dsimp only [go_sem];refine Zn2 6 ?_;dsimp only [go_sem];refine An ?_;exact Z34 J3 (s:=false) h
   ·refine Z14 36 h rfl (fun _ h=>?_) fun _ h=>?_
    ·dsimp only [go_sem];refine Zn2 18 ?_;dsimp only [go_sem];refine An ?_;exact Z34 J2 (s:=true) h
    ·dsimp only [go_sem];refine Zn2 3 ?_;dsimp only [go_sem];refine An ?_;refine Z14 39 h rfl (fun _ h=>?_) fun _ h=>?_
     ·dsimp only [go_sem];refine Zn2 4 ?_;dsimp only [go_sem];refine An ?_;refine Z14 43 h rfl (fun _ h=>?_) fun _ h=>?_
      ·dsimp only [go_sem];refine Zn2 11 ?_;dsimp only [go_sem];refine An ?_;exact Z34 J2 (s:=true) h
      ·dsimp only [go_sem];refine Zn2 4 ?_;dsimp only [go_sem];refine An ?_;refine Z14 47 h rfl (fun _ h=>?_) fun _ h=>?_
       ·dsimp only [go_sem];refine Zn2 7 ?_;dsimp only [go_sem];refine An ?_;exact Z34 J2 (s:=true) h
       ·dsimp only [go_sem];refine Zn2 7 ?_;dsimp only [go_sem];refine An ?_;exact Z34 J2 (s:=decide (64<(Zo x6.1))) h
     ·dsimp only [go_sem];refine Zn2 15 ?_;dsimp only [go_sem];refine An ?_;exact Z34 J2 (s:=false) h
 ·refine Z14 15 h rfl (fun _ h=>?_) fun _ h=>?_
  ·dsimp only [go_sem];refine Zn2 5 ?_;dsimp only [go_sem];refine An ?_;exact Z34 J1 (s:=true) h
  ·dsimp only [go_sem];refine Zn2 5 ?_;dsimp only [go_sem];refine An ?_;exact Z34 J1 (s:=decide (100<(Zo x2))) h
end NX
end Go.Proofs.YtphfnmafamnddaaDoor
