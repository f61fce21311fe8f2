/-
  The symbolic machine: regions that draw their order. No statement of the seat is proved here.
-/
import Derived.StillTail
import Derived.Laws.Cover3
import Derived.Laws.OwnMore
import Derived.Lib.AppendZeros
import Derived.ProofKit
import Derived.OpenShut
import Derived.Carry
import Derived.Laws.CopyRow
import Derived.Laws.IdiomCopy
import Derived.Laws.BytesString
import Derived.Test.YthlodgjekbidcaaGreatA0
namespace Go.Proofs.YthlodgjekbidcaaGreat
namespace NX
open Go Go.RowKit
theorem bget_eq:∀(l:List Bool) (i:Nat),bget l i=l.toArray.getD i true
 | [],i=>by simp [bget]
 | b::l,0=>by simp [bget]
 | b::l,i+1=>by
   have:=bget_eq l i
   simp [bget] at this ⊢
   exact this
theorem bgf_eq:∀(l:List Bool) (i:Nat),bgf l i=l.toArray.getD i false
 | [],i=>by simp [bgf]
 | b::l,0=>by simp [bgf]
 | b::l,i+1=>by
   have:=bgf_eq l i
   simp [bgf] at this ⊢
   exact this
theorem Zl3:∀(l:List Bool) (i:Nat),(Z31 l i).toArray=l.toArray.setIfInBounds i true
 | [],i=>by simp [Z31]
 | b::l,0=>by simp [Z31]
 | b::l,i+1=>by
   have:=Zl3 l i
   simp at this
   simp [Z31,this]
theorem Zm3 (ld:List Bool):∀l:List Nat,Z41 ld l=true↔∀j∈l,bgf ld j=true
 | []=>by simp [Z41]
 | j::l=>by simp [Z41,Z71,Zm3 ld l]
theorem rdy_mem (ld:List Bool):∀(af:List (List Nat)) (at_ i:Nat),i∈rdy ld af at_↔at_≤i∧∃w,af[i-at_]?=some w∧bget ld i=false∧Z41 ld w=true
 | [],at_,i=>by simp [rdy]
 | w::af,at_,i=>by
   have ih:=rdy_mem ld af (at_+1) i
   have step:(at_+1≤i∧∃w,af[i-(at_+1)]?=some w∧bget ld i=false∧Z41 ld w=true)↔(at_≤i∧i≠at_∧∃w',(w::af)[i-at_]?=some w'∧bget ld i=false∧Z41 ld w'=true):=by
    constructor
    ·rintro ⟨h1,w',h2,h3⟩
     exact ⟨by omega,by omega,w',by rw [show i-at_=(i-(at_+1))+1 from by omega];simpa using h2,h3⟩
    ·rintro ⟨h1,h2,w',h3,h4⟩
     rw [show i-at_=(i-(at_+1))+1 from by omega] at h3
     exact ⟨by omega,w',by simpa using h3,h4⟩
   simp only [rdy]
   split
   ·rename_i hb
    rw [ih,step]
    constructor
    ·rintro ⟨h1,_,h3⟩;exact ⟨h1,h3⟩
    ·rintro ⟨h1,w',h2,h3,h4⟩
     refine ⟨h1,?_,w',h2,h3,h4⟩
     rintro rfl;rw [hb] at h3;simp at h3
   ·rename_i hb
    split
    ·rename_i hd
     rw [List.mem_cons,ih,step]
     constructor
     ·rintro (rfl | ⟨h1,_,h3⟩)
      ·exact ⟨Nat.le_refl _,w,by simp,hb,hd⟩
      ·exact ⟨h1,h3⟩
     ·rintro ⟨h1,h2⟩
      by_cases e:i=at_
      ·exact .inl e
      ·exact .inr ⟨h1,e,h2⟩
    ·rename_i hd
     rw [ih,step]
     constructor
     ·rintro ⟨h1,_,h3⟩;exact ⟨h1,h3⟩
     ·rintro ⟨h1,w',h2,h3,h4⟩
      refine ⟨h1,?_,w',h2,h3,h4⟩
      rintro rfl
      simp at h2;subst h2;rw [h4] at hd;simp at hd
theorem Zn3 (i:Nat):∀l:List Nat,memN i l=true↔i∈l
 | []=>by simp [memN]
 | j::l=>by
   simp only [memN]
   split
   ·rename_i h;simp at h;simp [h]
   ·rename_i h;simp at h;simp [h,Zn3 i l]
theorem nget_eq (l:List (List Nat)) (i:Nat):Z51 l i=l.getD i []:=by
 induction l generalizing i with
 | nil=>simp [Z51]
 | cons x l ih=>cases i<;>simp [Z51,ih]
theorem eget_eq {l:List EOp} {i:Nat} (h:i<l.length):l[i]?=some (Z61 l i):=by
 induction l generalizing i with
 | nil=>simp at h
 | cons x l ih=>cases i with
   | zero=>simp [Z61]
   | succ i=>simpa [Z61] using ih (by simpa using h)
theorem Zo3 {all:Array Oper} {ld:List Bool} {i:Nat}:i∈Region.ready .any all ld.toArray↔i∈rdy ld (Zb all) 0:=by
 rw [mem_ready,rdy_mem]
 simp only [Nat.zero_le,true_and,Nat.sub_zero,Zb,List.getElem?_map,Option.map_eq_some_iff,←bget_eq]
 constructor
 ·rintro ⟨h0,o,ho,hall⟩
  refine ⟨_,⟨o,by simpa using ho,rfl⟩,h0,(Zm3 _ _).2 ?_⟩
  intro j hj
  rw [List.mem_filterMap] at hj
  obtain ⟨e,he,hb⟩:=hj
  split at hb
  ·rename_i hbb
   simp at hb;subst hb
   rw [bgf_eq]
   exact hall e (by simpa using he) hbb
  ·simp at hb
 ·rintro ⟨w,⟨o,ho,rfl⟩,h0,hd⟩
  rw [Zm3] at hd
  refine ⟨h0,o,by simpa using ho,fun e he hb=>?_⟩
  have:=hd e.on (List.mem_filterMap.2 ⟨e,by simpa using he,by simp [hb]⟩)
  rw [bgf_eq] at this
  exact this
def keeps (S S1:St) (o:EO):Prop:=
 ∀j off n l,Zu S (.ptr j off) n=some l→Zo l=true→(∀n a v j' off',o = .store n a v→S.x a = .ptr j' off'→j'≠j)→Zu S1 (.ptr j off) n=some l
def gno (S:St):Option (Nat×Bool)→Prop
 | none=>False
 | some (t,f)=>match lgt S.tm t,f with
   | .tt,false=>True
   | .ff,true=>True
   | .un,_=>True
   | _,_=>False
def SemR (c:Ctx) (S:St) (ro:Oper) (v:AV) (S1:St):Prop:=
 ∀M a w,RelT c M S a w→∀(next:Act→World→Prop) (Q:Exit→Act→World→Prop),
  (∀M' w' x,M.le M'→RelS c M' S1.bs S1.ss w'→v.is M' x→next (a.put ro.dst x) w')→ro.wp c.P a w next Q
section
variable (c:Ctx) (all:Array Oper) (ops:List EOp) (af:List (List Nat)) (Φ:St→Prop)
def G:Nat→List Bool→St→Prop
 | 0,ld,S=>rdy ld af 0=[]∧Φ S
 | m+1,ld,S=>(rdy ld af 0=[]→Φ S)∧∀i∈rdy ld af 0,
   (gno S (Z61 ops i).g∧G m (Z31 ld i) (S.put (Z61 ops i).d .un))∨
   (gm S (Z61 ops i).g∧∃v S1,(∀ro,all[i]?=some ro→SemR c S ro v S1)∧S1.tm=S.tm∧keeps S S1 (Z61 ops i).o∧G m (Z31 ld i) (S1.put (Z61 ops i).d v))
end
theorem gno_wanted {c:Ctx} {M:Mem} {S:St} {a:Act} {w:World} {all:Array Oper} {ro:Oper} {o:EOp} (hT:RelT c M S a w) (hc:Za c.P all ro=some o) (h:gno S o.g):Region.wanted ro (yielded all a.tmps)=false:=by
 unfold Za at hc
 cases hg:ro.guard with
 | none=>rw [hg] at hc;simp at hc;subst hc;exact h.elim
 | some jf=>
   obtain ⟨j,f⟩:=jf
   rw [hg] at hc
   dsimp only at hc
   split at hc
   ·rename_i t ht
    simp at hc;subst hc
    have hyl:=Zr2 (a:=a) ht
    have htm:=lgt_is (hT.tm t)
    simp only [gno] at h
    split at h
    ·rename_i hv
     rw [hv] at htm
     rw [show a.tmps.getD t undef = .bool true from htm] at hyl;simp [Region.wanted,hg,hyl]
    ·rename_i hv
     rw [hv] at htm
     rw [show a.tmps.getD t undef = .bool false from htm] at hyl;simp [Region.wanted,hg,hyl]
    ·rename_i hv
     rw [hv] at htm
     rw [show a.tmps.getD t undef=undef from htm] at hyl;simp [undef] at hyl;simp [Region.wanted,hg,hyl]
    ·exact h.elim
   ·simp at hc
theorem gm_wanted {c:Ctx} {M:Mem} {S:St} {a:Act} {w:World} {all:Array Oper} {ro:Oper} {o:EOp} (hT:RelT c M S a w) (hc:Za c.P all ro=some o) (h:gm S o.g):Region.wanted ro (yielded all a.tmps)=true:=by
 unfold Za at hc
 cases hg:ro.guard with
 | none=>simp [Region.wanted,hg]
 | some jf=>
   obtain ⟨j,f⟩:=jf
   rw [hg] at hc
   dsimp only at hc
   split at hc
   ·rename_i t ht
    simp at hc;subst hc
    have hyl:=Zr2 (a:=a) ht
    have htm:=lgt_is (hT.tm t)
    simp only [gm] at h
    split at h
    ·rename_i hv
     rw [hv] at htm
     rw [show a.tmps.getD t undef = .bool true from htm] at hyl;simp [Region.wanted,hg,hyl]
    ·rename_i hv
     rw [hv] at htm
     rw [show a.tmps.getD t undef = .bool false from htm] at hyl;simp [Region.wanted,hg,hyl]
    ·exact h.elim
   ·simp at hc
theorem Zp3 {P:Program} {all:Array Oper} {ro:Oper} {o:EOp} (hc:Za P all ro=some o):ro.dst=o.d∧cO P ro.op=o.o:=by
 unfold Za at hc
 split at hc
 ·simp at hc;subst hc;exact ⟨rfl,rfl⟩
 ·split at hc
  ·simp at hc;subst hc;exact ⟨rfl,rfl⟩
  ·simp at hc
theorem op_at {P:Program} {all:Array Oper} {ops:List EOp} (hall:all.toList.mapM (Za P all)=some ops) {i:Nat} {ro:Oper} (hi:all[i]?=some ro):Za P all ro=some (Z61 ops i):=by
 obtain ⟨h1,h2⟩:=Zl2 hall
 obtain ⟨y,h3,h4⟩:=h2 i ro (by simpa using hi)
 have:=eget_eq (l:=ops) (i:=i) (List.getElem?_eq_some_iff.1 h3).1
 rw [h3] at this
 simp at this
 rw [h4,this]
theorem G_sound {c:Ctx} {all:Array Oper} {ops:List EOp} (hall:all.toList.mapM (Za c.P all)=some ops) {Φ:St→Prop} {Q:Exit→Act→World→Prop}
  (hΦ:∀S,Φ S→∀M a w,RelT c M S a w→Q .normal a w):∀(m:Nat) (ld:List Bool) (S:St),G c all ops (Zb all) Φ m ld S→∀M a w,RelT c M S a w→wpAny c.P .any all Q m ld.toArray a w
 | 0,ld,S,h,M,a,w,hT=>by
   refine ⟨?_,hΦ S h.2 M a w hT⟩
   cases hr:Region.ready .any all ld.toArray with
   | nil=>rfl
   | cons i r=>
     have:=Zo3.1 (show i∈Region.ready .any all ld.toArray by rw [hr];simp)
     rw [h.1] at this;simp at this
 | m+1,ld,S,h,M,a,w,hT=>by
   refine ⟨fun hr=>hΦ S (h.1 ?_) M a w hT,fun i hi=>?_⟩
   ·cases hr':rdy ld (Zb all) 0 with
    | nil=>rfl
    | cons i r=>
      have:=Zo3.2 (show i∈rdy ld (Zb all) 0 by rw [hr'];simp)
      rw [hr] at this;simp at this
   ·have hi2:=Zo3.1 hi
    obtain ⟨_,ro,hro,_⟩:=mem_ready.1 hi
    have hc:=op_at hall hro
    obtain ⟨hd,_⟩:=Zp3 hc
    unfold wpOp
    rw [hro]
    dsimp only
    rcases h.2 i hi2 with ⟨hg,hG⟩ | ⟨hg,v,S1,hs,htm,_,hG⟩
    ·rw [if_neg (by simp [gno_wanted hT hc hg]),←Zl3]
     refine G_sound hall hΦ m _ _ hG M _ w ?_
     rw [←hd]
     exact hT.put ro.dst (.refl M) hT.st (v:=.un) rfl
    ·rw [if_pos (gm_wanted hT hc hg)]
     refine .inl (hs ro hro M a w hT _ _ fun M' w' x h1 h2 h3=>?_)
     rw [←Zl3]
     refine G_sound hall hΦ m _ _ hG M' _ w' ?_
     rw [←hd]
     have:=hT.put ro.dst h1 h2 h3
     rw [←htm] at this
     exact this
theorem RelT.drew {c:Ctx} {M:Mem} {S:St} {a:Act} {w:World} (h:RelT c M S a w):RelT c M S a {w with drawn:=w.drawn+1}:=⟨h.len,h.tm,h.df,h.st.drew⟩
def Zq3:Nat→List Bool
 | 0=>[]
 | n+1=>false::Zq3 n
theorem Zr3:∀n,Zq3 n=List.replicate n false
 | 0=>rfl
 | n+1=>by simp [Zq3,Zr3 n,List.replicate_succ]
theorem falses_eq (n:Nat):(Zq3 n).toArray=Array.replicate n false:=by
 rw [Zr3,List.toArray_replicate]
theorem Zs3 {c:Ctx} {S:St} {fn:Func} {K:AV→List (Option Blk)→List (Option Sl)→Prop} {k:List It} {ops:List EOp} {af nap:List (List Nat)} (hm:c.P.follows .mixedOrders=true)
  (h:∀all,all.toList.mapM (Za c.P all)=some ops→Region.noSelect all=true→nap=Zc all→af=Zb all→G c all ops af (fun S'=>V c fn K k S') (Zj ops) (Zq3 (Zj ops)) S):V c fn K (.code (.drw ops af nap)::k) S:=
 Zy1 fun x hx rk M s w hr hT=>by
  obtain ⟨id,all,rfl,hall,hs,haf,hnap⟩:=cC_drw hx
  have hn:all.size=Zj ops:=by
   rw [Z91,(Zl2 hall).1];simp
  refine wp_region_any hm ?_
  rw [hn,←falses_eq]
  have h0:=h all hall hs hnap haf
  subst haf
  exact G_sound hall (fun S' hV M a w hT=>hV rk M a w hr hT) _ _ _ h0 M s _ hT.drew
def rd (S:St) (o:EO):Option (AV×Prop):=
 match o with
 | .mv x=>some (S.x x,True)
 | .pick c a b=>match tf (S.x c) with
   | .tt=>some (S.x a,True)
   | .ff=>some (S.x b,True)
   | _=>none
 | .load x=>match Zu S (S.x x) 1 with
   | some l=>match Zo l with
     | true=>some (Zd l 0,True)
     | false=>none
   | none=>none
 | .loadA n x=>match Zu S (S.x x) n with
   | some l=>match Zo l with
     | true=>some (.agg l,True)
     | false=>none
   | none=>none
 | .nilchk x=>match S.x x with
   | .ptr j off=>some (.ptr j off,True)
   | .elt row off=>some (.elt row off,True)
   | .oel j k off=>some (.oel j k off,True)
   | .clo f caps=>some (.clo f caps,True)
   | _=>none
 | .bin op x y=>Zp op (S.x x) (S.x y)
 | .sbin op x y=>(strI op (S.x x) (S.x y)).map fun r=>(r,True)
 | .slen x=>match S.x x with
   | .sv s=>some (.iv (sln s),True)
   | _=>none
 | .eqs ng ks x y=>match S.x x,S.x y with
   | .agg l,.agg r=>(eqA ks l r).map fun e=>(.bv (ngB ng e),True)
   | _,_=>none
 | .bq ng x y=>match Zt (S.x x),Zt (S.x y) with
   | some a,some b=>some (.bv (ngB ng (a==b)),True)
   | _,_=>none
 | .not x=>match S.x x with
   | .tt=>some (.ff,True)
   | .ff=>some (.tt,True)
   | .bv e=>some (.bv (!e),True)
   | _=>none
 | .conv .i64 x=>match S.x x with
   | .iv a=>some (.iv (wr a),True)
   | .kv _ a=>some (.iv (wr a),True)
   | _=>none
 | .conv k x=>match S.x x with
   | .iv a=>some (mkI k (kw k a),True)
   | .kv _ a=>some (mkI k (kw k a),True)
   | _=>none
 | .fld off x=>match S.x x with
   | .ptr j o=>some (.ptr j (o+off),True)
   | .elt row o=>some (.elt row (o+off),True)
   | .oel j k o=>some (.oel j k (o+off),True)
   | _=>none
 | .build z ps=>(Zl z (Zs S ps)).map fun l=>(.agg l,True)
 | .ext x k=>match S.x x with
   | .tup l=>(Zh l k 1).map fun r=>(Zd r 0,True)
   | _=>none
 | .mkf f caps=>some (.clo f (Zq S caps),True)
 | .len x=>match S.x x with
   | .nl=>some (.iv 0,True)
   | .sl _ rows=>some (.iv rows.length,True)
   | _=>none
 | _=>none
theorem strI_val {M:Mem} {op:BinOp} {u v r:AV} (h:strI op u v=some r):∃x,r.is M x:=by
 unfold strI at h
 split at h
 ·split at h
  ·cases op<;>simp only [Option.some.injEq,reduceCtorEq] at h<;>subst h<;>exact ⟨_,rfl⟩
  ·simp at h
 ·simp at h
theorem binA_val {M:Mem} {op:BinOp} {u v r:AV} {p:Prop} (h:Zp op u v=some (r,p)):∃x,r.is M x:=by
 have k0:∀(k:IntKind) (n:Int),∃x,(mkI k n).is M x:=fun k n=>⟨_,mkI_is k n⟩
 have k1:∀ {op:BinOp} {k:IntKind} {a b:Int},shK op k a b=some (r,p)→∃x,r.is M x:=by
  intro op k a b h
  cases op<;>simp only [shK,Option.some.injEq,Prod.mk.injEq,reduceCtorEq] at h<;>rw [←h.1]<;>exact k0 _ _
 cases u with
 | iv a=>cases v with
   | iv b=>cases op<;>simp only [Zp,binI,Option.some.injEq,Prod.mk.injEq,reduceCtorEq] at h<;>rw [←h.1]<;>exact ⟨_,rfl⟩
   | kv j b=>exact k1 h
   | _=>simp [Zp] at h
 | kv k a=>cases v with
   | iv b=>exact k1 h
   | kv j b=>
     simp only [Zp] at h
     split at h
     ·split at h
      ·exact k1 h
      ·exact k1 h
      ·cases op<;>simp only [binK,Option.some.injEq,Prod.mk.injEq,reduceCtorEq] at h<;>rw [←h.1]<;>exact ⟨_,rfl⟩
     ·exact k1 h
   | _=>simp [Zp] at h
 | _=>simp [Zp] at h
theorem rd_ev {S:St} {o:EO} {v:AV} {q:Prop} (h:rd S o=some (v,q)):ev S o=some (v,S,q):=by
 cases o<;>simp only [rd,reduceCtorEq] at h<;>simp only [ev]
 case mv x=>simp at h;simp [h]
 case pick c a b=>split at h<;>simp_all
 case load x=>
  split at h
  ·rename_i l hl
   split at h<;>simp at h
   rw [hl];simp [h]
  ·simp at h
 case loadA n x=>
  split at h
  ·rename_i l hl
   split at h<;>simp at h
   rw [hl];simp [h]
  ·simp at h
 case nilchk x=>split at h<;>rename_i he<;>(try (simp at h;done))<;>(try rw [he])<;>simp at h<;>simp [h]
 case bin op x y=>simp [h]
 case sbin op x y=>
  simp only [Option.map_eq_some_iff,Prod.mk.injEq] at h
  obtain ⟨r,h1,rfl,rfl⟩:=h
  simp [h1]
 case slen x=>split at h<;>simp_all
 case conv k x=>cases k<;>simp only at h ⊢ <;>split at h<;>simp_all
 case eqs ng ks x y=>
  split at h
  ·rename_i e1 e2
   try rw [e1,e2]
   simp only [Option.map_eq_some_iff,Prod.mk.injEq] at h
   obtain ⟨e,h1,rfl,rfl⟩:=h
   simp [h1]
  ·simp at h
 case bq ng x y=>
  split at h
  ·rename_i e1 e2
   try rw [e1,e2]
   simp at h;simp [h]
  ·simp at h
 case not x=>split at h<;>simp_all
 case fld off x=>split at h<;>rename_i he<;>(try (simp at h;done))<;>(try rw [he])<;>simp at h<;>simp [h]
 case build z ps=>
  simp only [Option.map_eq_some_iff,Prod.mk.injEq] at h
  obtain ⟨l,hl,rfl,rfl⟩:=h
  rw [hl];rfl
 case ext x k=>
  split at h
  ·rename_i e
   simp only [Option.map_eq_some_iff,Prod.mk.injEq] at h
   obtain ⟨l,hl,rfl,rfl⟩:=h
   try rw [e]
   simp [hl]
  ·simp at h
 case mkf f caps=>simp at h;simp [h]
 case len x=>split at h<;>simp_all
def isLd:EO→Bool
 | .load _=>true
 | .loadA _ _=>true
 | _=>false
def isSt:EO→Bool
 | .store _ _ _=>true
 | _=>false
def orb:Bool→Bool→Bool
 | true,_=>true
 | false,b=>b
theorem orb_iff (a b:Bool):orb a b=true↔a=true∨b=true:=by cases a<;>simp [orb]
def frB (ld:List Bool) (af:List (List Nat)) (i:Nat):List Nat→Bool
 | []=>true
 | j::l=>Z2 (orb (bget ld j) (memN i (Z51 af j))) (frB ld af i l)
def stB (ld:List Bool) (af:List (List Nat)) (i:Nat):List EOp→Nat→Bool
 | [],_=>true
 | o::l,j=>Z2 (orb (bget ld j) (match isSt o.o with | true=>memN i (Z51 af j) | false=>true)) (stB ld af i l (j+1))
theorem frB_iff {ld:List Bool} {af:List (List Nat)} {i:Nat}:∀ {l:List Nat},frB ld af i l=true↔∀j∈l,bget ld j=true∨i∈Z51 af j
 | []=>by simp [frB]
 | j::l=>by simp [frB,Z71,orb_iff,Zn3,frB_iff (l:=l)]
theorem stB_get {ld:List Bool} {af:List (List Nat)} {i:Nat}:∀ {l:List EOp} {at_:Nat},stB ld af i l at_=true→∀j,j<l.length→bget ld (at_+j)=true∨isSt (Z61 l j).o=false∨i∈Z51 af (at_+j)
 | [],_,_,j,h=>by simp at h
 | o::l,at_,h,0,_=>by
   simp only [stB,Z71,orb_iff] at h
   rcases h.1 with h1 | h1
   ·exact .inl h1
   ·cases hs:isSt o.o
    ·exact .inr (.inl hs)
    ·rw [hs] at h1;exact .inr (.inr ((Zn3 _ _).1 h1))
 | o::l,at_,h,j+1,hj=>by
   simp only [stB,Z71] at h
   have:=stB_get h.2 j (by simpa using hj)
   rw [show at_+(j+1)=at_+1+j from by omega]
   exact this
theorem stB_mk {ld:List Bool} {af:List (List Nat)} {i:Nat}:∀ {l:List EOp} {at_:Nat},(∀j,j<l.length→bget ld (at_+j)=true∨isSt (Z61 l j).o=false∨i∈Z51 af (at_+j))→stB ld af i l at_=true
 | [],_,_=>rfl
 | o::l,at_,h=>by
   simp only [stB,Z71,orb_iff]
   refine ⟨?_,stB_mk fun j hj=>?_⟩
   ·rcases h 0 (by simp) with h1 | h1 | h1
    ·exact .inl h1
    ·right;rw [show isSt o.o=false from h1]
    ·right;cases isSt o.o
     ·rfl
     ·exact (Zn3 _ _).2 h1
   ·have:=h (j+1) (by simpa using hj)
    rw [show at_+1+j=at_+(j+1) from by omega]
    exact this
theorem Zt3:∀ {ld:List Bool} {i j:Nat},bget ld j=true→bget (Z31 ld i) j=true
 | [],_,_,h=>h
 | _::_,0,0,_=>rfl
 | _::_,0,_+1,h=>h
 | _::_,_+1,0,h=>h
 | _::ld,i+1,j+1,h=>Zt3 (ld:=ld) (i:=i) (j:=j) h
theorem bset_comm (ld:List Bool) {i j:Nat} (h:i≠j):Z31 (Z31 ld i) j=Z31 (Z31 ld j) i:=by
 apply List.toArray_inj
 rw [Zl3,Zl3,Zl3,Zl3,Array.setIfInBounds_comm _ _ h]
theorem put_comm (S:St) (bs ss) {d e:Option Nat} (v u:AV) (h:∀x,d=some x→e≠some x):
  (⟨(S.put d v).tm,bs,ss⟩:St).put e u=(⟨(S.put e u).tm,bs,ss⟩:St).put d v:=by
 cases d with
 | none=>cases e<;>rfl
 | some d=>cases e with
   | none=>rfl
   | some e=>
     have hne:d≠e:=fun x=>h d rfl (by rw [x])
     simp only [St.put,St.mk.injEq,and_true]
     clear h
     generalize S.tm=l
     revert d e
     induction l with
     | nil=>intro d e _;rfl
     | cons y l ih=>
       intro d e hne
       cases d with
       | zero=>cases e with
         | zero=>omega
         | succ e=>rfl
       | succ d=>cases e with
         | zero=>rfl
         | succ e=>simp only [Ze,List.cons.injEq,true_and];exact ih d e (by omega)
theorem wp_unput {P:Program} {all:Array Oper} {o:Oper} (hsel:∀cs b,o.op≠ .select cs b) {a:Act} {w:World} {d:Tmp} {x:Value} (hl:d∉o.looksAt all) (hd:o.dst≠some d)
  {next:Act→World→Prop} {Q:Exit→Act→World→Prop} (h:o.wp P (a.put (some d) x) w (fun b w'=>next (b.put (some d) (a.tmps.getD d undef)) w') fun _ _ _=>False):o.wp P a w next Q:=by
 have hback:∀(ds:List Deferred) (y:Value),(((⟨a.tmps,ds⟩:Act).put (some d) x).put o.dst y).put (some d) (a.tmps.getD d undef)=(⟨a.tmps,ds⟩:Act).put o.dst y:=by
  intro ds y
  have h1:((⟨a.tmps,ds⟩:Act).put (some d) x).put (some d) (a.tmps.getD d undef)=⟨a.tmps,ds⟩:=by
   obtain ⟨tm,df⟩:=a
   simp only [Act.put,Act.mk.injEq,and_true]
   rw [Array.setIfInBounds_setIfInBounds]
   apply Array.ext'
   simp only [Array.toList_setIfInBounds]
   apply List.ext_getElem?
   intro j
   rw [List.getElem?_set]
   split
   ·rename_i e;subst e
    split
    ·rename_i h;simp at h;simp [h]
    ·rename_i h;simp at h;simp [h]
   ·rfl
  cases hdst:o.dst with
  | none=>exact h1
  | some e=>
    have hne:e≠d:=fun x=>hd (by rw [hdst,x])
    have h2:(((⟨a.tmps,ds⟩:Act).put (some d) x).put (some e) y).put (some d) (a.tmps.getD d undef)=(((⟨a.tmps,ds⟩:Act).put (some d) x).put (some d) (a.tmps.getD d undef)).put (some e) y:=by
     simp only [Act.put,Act.mk.injEq,and_true]
     rw [Array.setIfInBounds_comm _ _ hne]
    rw [h2,h1]
 unfold Oper.wp at h ⊢
 rw [execOp_put (ops:=all) o hsel a (some d) x (fun e he=>by simp at he;subst he;exact hl)] at h
 cases hrun:(execOp a.eval o).run P w with
 | halt hh w'=>
   rw [hrun] at h
   cases hh<;>first | exact h.elim | exact h
 | ok n w'=>
   rw [hrun] at h
   cases n<;>first | exact h.elim | skip
   case value v=>have:=hback a.defers v;simp only [Oper.upon] at h ⊢;rw [this] at h;exact h
   case skip=>have:=hback a.defers undef;simp only [Oper.upon] at h ⊢;rw [this] at h;exact h
   case defer q=>have:=hback (q::a.defers) undef;simp only [Oper.upon] at h ⊢;rw [←this];exact h
   case enter f args=>
    simp only [Oper.upon] at h ⊢
    refine h.mono ?_
    intro e w'' he
    cases e with
    | returned v=>have:=hback a.defers v;dsimp only at he ⊢;rw [this] at he;exact he
    | panicked ch=>exact he.elim
    | outgrown=>obtain ⟨_,_,he⟩:=he;exact he.elim
   case row r args=>
    simp only [Oper.upon] at h ⊢
    refine h.mono ?_
    intro v w'' he
    have:=hback a.defers v
    rw [this] at he;exact he
theorem X_tmp {o:Operand} {t:Nat} (h:cX o = .t t):o = .tmp t:=by
 cases o<;>simp [cX] at h;rw [h]
def agree (S S':St) (ro:Op):Prop:=∀o∈ro.operands,S'.x (cX o)=S.x (cX o)
theorem Zu3 {S S':St}:∀ {l:List Operand},(∀o∈l,S'.x (cX o)=S.x (cX o))→Zq S' (l.map cX)=Zq S (l.map cX)
 | [],_=>rfl
 | o::l,h=>by
   simp only [List.map_cons,Zq]
   rw [h o (by simp),Zu3 (fun x hx=>h x (by simp [hx]))]
theorem Zv3 {S S':St}:∀ {l:List (Nat×Nat×X)},(∀p∈l,S'.x p.2.2=S.x p.2.2)→Zs S' l=Zs S l
 | [],_=>rfl
 | (i,n,x)::l,h=>by
   simp only [Zs]
   rw [h (i,n,x) (by simp),Zv3 (fun p hp=>h p (by simp [hp]))]
theorem rd_agree {P:Program} {S S':St} {ro:Op} {v:AV} {q:Prop} (ha:agree S S' ro) (hr:isLd (cO P ro)=true→∀x n l,x∈ro.operands→Zu S (S.x (cX x)) n=some l→Zo l=true→Zu S' (S.x (cX x)) n=some l)
  (h:rd S (cO P ro)=some (v,q)):rd S' (cO P ro)=some (v,q):=by
 cases ro with
 | move x=>simp only [cO,rd] at h ⊢;rw [ha x (by simp [Op.operands])];exact h
 | assign x=>simp only [cO,rd] at h ⊢;rw [ha x (by simp [Op.operands])];exact h
 | pick c a b=>
   simp only [cO,rd] at h ⊢
   rw [ha c (by simp [Op.operands]),ha a (by simp [Op.operands]),ha b (by simp [Op.operands])];exact h
 | load T x=>
   have hx:=ha x (by simp [Op.operands])
   simp only [cO] at h hr ⊢
   split at h
   ·rename_i h1
    simp only [h1] at hr ⊢
    simp only [rd] at h ⊢
    rw [hx]
    split at h
    ·rename_i l hl
     split at h
     ·rename_i hp
      rw [hr rfl x 1 l (by simp [Op.operands]) hl hp]
      simp only [hp];exact h
     ·simp at h
    ·simp at h
   ·rename_i h1
    simp only [h1] at hr ⊢
    simp only [rd] at h ⊢
    rw [hx]
    split at h
    ·rename_i l hl
     split at h
     ·rename_i hp
      rw [hr rfl x _ l (by simp [Op.operands]) hl hp]
      simp only [hp];exact h
     ·simp at h
    ·simp at h
   ·simp [rd] at h
 | nilCheck x=>simp only [cO,rd] at h ⊢;rw [ha x (by simp [Op.operands])];exact h
 | binOp op T x y T2=>
   have hx:=ha x (by simp [Op.operands])
   have hy:=ha y (by simp [Op.operands])
   simp only [cO] at h ⊢
   split at h
   ·rename_i h1
    split at h
    ·rename_i h2
     simp only [h2,if_true]
     simp only [rd] at h ⊢;rw [hx,hy];exact h
    ·simp [rd] at h
   ·split at h
    ·rename_i h3 h4
     cases op<;>simp only [rd,reduceCtorEq] at h ⊢ <;>rw [hx,hy]<;>exact h
    ·simp [rd] at h
   ·simp only [rd] at h ⊢;rw [hx,hy];exact h
   ·cases op<;>simp only [rd,reduceCtorEq] at h ⊢ <;>rw [hx,hy]<;>exact h
   ·split at h
    ·split at h<;>simp [rd] at h
    ·simp [rd] at h
   ·simp [rd] at h
   ·simp [rd] at h
 | unOp op T x=>
   have hx:=ha x (by simp [Op.operands])
   cases op<;>simp only [cO,rd,reduceCtorEq] at h ⊢
   rw [hx];exact h
 | convert A B x=>
   have hx:=ha x (by simp [Op.operands])
   simp only [cO] at h ⊢
   split at h
   ·rename_i k l hA hB
    cases l<;>simp only [rd] at h ⊢ <;>rw [hx]<;>exact h
   ·split at h<;>simp [rd] at h
   ·simp [rd] at h
 | fieldAddr T x f=>
   have hx:=ha x (by simp [Op.operands])
   simp only [cO] at h ⊢
   split at h
   ·rename_i h1
    split at h
    ·rename_i h2
     split at h
     ·rename_i h3
      simp only [h3,if_true]
      simp only [rd] at h ⊢;rw [hx];exact h
     ·simp [rd] at h
    ·simp [rd] at h
   ·simp [rd] at h
 | build T ps=>
   have hps:∀p∈ps.toList,S'.x (cX p.2)=S.x (cX p.2):=fun p hp=>ha p.2 (by simp [Op.operands];exact ⟨p.1,by simpa using hp⟩)
   simp only [cO] at h ⊢
   split at h
   ·rename_i h1 h2
    split at h
    ·rename_i pl hpl
     split at h
     ·rename_i l hl
      simp only [rd] at h ⊢
      rw [Zv3 (S:=S) (S':=S') (l:=l)]
      ·exact h
      ·intro p hp
       obtain ⟨k,hk⟩:=List.mem_iff_getElem?.1 hp
       obtain ⟨g1,g2⟩:=Zl2 hl
       have hlt:k<ps.toList.length:=by rw [←g1];exact (List.getElem?_eq_some_iff.1 hk).1
       obtain ⟨y,hy,hf⟩:=g2 k _ (List.getElem?_eq_getElem hlt)
       rw [hk] at hy
       simp only [Option.some.injEq] at hy
       subst hy
       simp only [Option.map_eq_some_iff] at hf
       obtain ⟨on,_,rfl⟩:=hf
       exact hps _ (List.getElem_mem hlt)
     ·simp [rd] at h
    ·simp [rd] at h
   ·rename_i h1 h2
    split at h
    ·rename_i h3
     simp only [rd] at h ⊢
     rw [Zv3 (S:=S) (S':=S')]
     ·exact h
     ·intro p hp
      rw [List.mem_map] at hp
      obtain ⟨q,hq,rfl⟩:=hp
      exact hps q hq
    ·simp [rd] at h
   ·simp [rd] at h
 | extract x k=>simp only [cO,rd] at h ⊢;rw [ha x (by simp [Op.operands])];exact h
 | makeFunc f fi cs=>
   simp only [cO] at h ⊢
   split at h
   ·split at h
    ·rename_i h2
     simp only [h2,if_true]
     simp only [rd] at h ⊢
     rw [Zu3 (fun o ho=>ha o (by simp [Op.operands];right;simpa using ho))];exact h
    ·simp [rd] at h
   ·simp [rd] at h
 | call ci=>
   obtain ⟨callee,cargs,argTypes⟩:=ci
   have hx:∀o∈cargs.toList,S'.x (cX o)=S.x (cX o):=fun o ho=>ha o (by simp [Op.operands,Call.operands];right;simpa using ho)
   cases callee with
   | value o=>cases o<;>(simp only [cO] at h)<;>(try split at h)<;>simp [rd] at h
   | invoke _ _=>simp [cO,rd] at h
   | builtin b=>
     cases b<;>simp only [cO] at h ⊢ <;>(try (simp [rd] at h;done))<;>(try ((repeat' (split at h))<;>simp [rd] at h;done))
     ·split at h
      ·rename_i t0 x h0 hargs
       split at h
       ·rename_i h1
        simp only [rd] at h ⊢
        rw [hx x (by rw [hargs];simp)];exact h
       ·rename_i h1
        simp only [rd] at h ⊢
        rw [hx x (by rw [hargs];simp)];exact h
       ·simp [rd] at h
      ·simp [rd] at h
 | alloc T=>simp only [cO] at h;split at h<;>simp [rd] at h
 | box T x=>simp only [cO] at h;split at h<;>simp [rd] at h
 | buildSlice T n ps=>simp only [cO] at h;(repeat' (split at h))<;>simp [rd] at h
 | store T x y=>simp only [cO] at h;(repeat' (split at h))<;>simp [rd] at h
 | field T x f=>simp only [cO] at h;(repeat' (split at h))<;>simp [rd] at h
 | indexAddr T x f=>simp only [cO] at h;(repeat' (split at h))<;>simp [rd] at h
 | index T x i=>simp only [cO] at h;(repeat' (split at h))<;>simp [rd] at h
 | slice T x lo hi mx=>simp only [cO] at h;(repeat' (split at h))<;>simp [rd] at h
 | makeSlice T x y=>simp only [cO] at h;(repeat' (split at h))<;>simp [rd] at h
 | _=>simp [cO,rd] at h
theorem fillA_ex {M:Mem}:∀ {avs:List (Nat×Nat×AV)} {zs:List AV} {z:List Value} {l:List AV},AV.isL M zs z→(∀p∈avs,∀cs,p.2.2.cells=some cs→∃vs,AV.isL M cs vs)→Zl zs avs=some l→∃r,AV.isL M l r
 | [],zs,z,l,hz,_,h=>by simp [Zl] at h;subst h;exact ⟨z,hz⟩
 | (o,n,x)::avs,zs,z,l,hz,hp,h=>by
   simp only [Zl] at h
   split at h
   ·rename_i cs hcs
    split at h
    ·split at h
     ·rename_i z' hz'
      obtain ⟨rfl,hle⟩:=Zh1 hz'
      obtain ⟨vs,hvs⟩:=hp (o,n,x) (by simp) cs hcs
      have hl:=Zi1 hvs
      refine fillA_ex (z:=z.take o++vs++z.drop (o+cs.length)) (Zj1 (Zj1 (Zk1 o hz) hvs) (Zl1 _ hz)) (fun p hq=>hp p (by simp [hq])) h
     ·simp at h
    ·simp at h
   ·simp at h
theorem head_ex {M:Mem} {l:List AV} {vs:List Value} (h:AV.isL M l vs) (h1:0<l.length):∃x,(Zd l 0).is M x:=by
 cases l with
 | nil=>simp at h1
 | cons y l=>obtain ⟨v,_,_,hv,_⟩:=h;exact ⟨v,hv⟩
theorem rd_ex {c:Ctx} {M:Mem} {S:St} {a:Act} {w:World} (hT:RelT c M S a w) {ro:Op} {v:AV} {q:Prop} (h:rd S (cO c.P ro)=some (v,q)):∃x,v.is M x:=by
 have X0:∀x:X,(∃o:Operand,cX o=x)→∃u,(S.x x).is M u:=by
  rintro x ⟨o,rfl⟩;exact ⟨_,Z12 hT o⟩
 cases ro with
 | move x=>simp only [cO,rd,Option.some.injEq,Prod.mk.injEq] at h;rw [←h.1];exact ⟨_,Z12 hT x⟩
 | assign x=>simp only [cO,rd,Option.some.injEq,Prod.mk.injEq] at h;rw [←h.1];exact ⟨_,Z12 hT x⟩
 | pick p x y=>
   simp only [cO,rd] at h
   split at h<;>simp at h
   ·rw [←h.1];exact ⟨_,Z12 hT x⟩
   ·rw [←h.1];exact ⟨_,Z12 hT y⟩
 | load T x=>
   have hx:=Z12 hT x
   simp only [cO] at h
   split at h<;>simp only [rd,reduceCtorEq] at h
   ·split at h
    ·rename_i l hl
     split at h<;>simp at h
     rw [←h.1]
     obtain ⟨_,_,vs,_,h2,h3,_⟩:=Zg2 hT hx hl
     exact head_ex h2 (by have:=Zi1 h2;omega)
    ·simp at h
   ·split at h
    ·rename_i l hl
     split at h<;>simp at h
     rw [←h.1]
     obtain ⟨_,_,vs,_,h2,h3,_⟩:=Zg2 hT hx hl
     exact ⟨_,vs,rfl,h2⟩
    ·simp at h
 | nilCheck x=>
   have hx:=Z12 hT x
   simp only [cO,rd] at h
   split at h<;>rename_i hv<;>simp at h<;>(rw [←h.1];rw [hv] at hx;exact ⟨_,hx⟩)
 | binOp op T x y T2=>
   simp only [cO] at h
   split at h
   ·split at h
    ·simp only [rd] at h
     exact binA_val h
    ·simp [rd] at h
   ·split at h
    ·split at h<;>simp only [rd,reduceCtorEq] at h
     all_goals
      split at h
      ·simp only [Option.map_eq_some_iff,Prod.mk.injEq] at h
       obtain ⟨e,h1,rfl,_⟩:=h
       exact ⟨_,rfl⟩
      ·simp at h
    ·simp [rd] at h
   ·simp only [rd,Option.map_eq_some_iff,Prod.mk.injEq] at h
    obtain ⟨r,h1,rfl,_⟩:=h
    exact strI_val h1
   ·split at h<;>simp only [rd,reduceCtorEq] at h
    all_goals
     split at h<;>simp only [Option.some.injEq,Prod.mk.injEq,reduceCtorEq] at h
     rw [←h.1];exact ⟨_,rfl⟩
   ·split at h
    ·split at h<;>simp [rd] at h
    ·simp [rd] at h
   ·simp [rd] at h
   ·simp [rd] at h
 | unOp op T x=>
   cases op<;>simp only [cO,rd,reduceCtorEq] at h
   split at h<;>simp at h<;>rw [←h.1]<;>exact ⟨_,rfl⟩
 | fieldAddr T x f=>
   have hx:=Z12 hT x
   simp only [cO] at h
   split at h
   ·split at h
    ·split at h
     ·simp only [rd] at h
      split at h<;>rename_i hv<;>simp at h<;>rw [←h.1]<;>rw [hv] at hx
      ·exact ⟨_,hx.1,rfl⟩
      ·obtain ⟨ad,vs,_,h2,h3⟩:=hx;exact ⟨_,ad,vs,rfl,h2,h3⟩
      ·obtain ⟨h0,g,n,cp,h1,_⟩:=hx;exact ⟨_,h0,g,n,cp,h1,rfl⟩
     ·simp [rd] at h
    ·simp [rd] at h
   ·simp [rd] at h
 | build T ps=>
   have key:∀ {z:List AV} {zs:List Value} {l:List (Nat×Nat×X)},AV.isL M z zs→(∀p∈l,∃o:Operand,cX o=p.2.2)→rd S (.build z l)=some (v,q)→∃x,v.is M x:=by
    intro z zs l hz hl h
    simp only [rd,Option.map_eq_some_iff,Prod.mk.injEq] at h
    obtain ⟨r,hr,rfl,_⟩:=h
    obtain ⟨u,hu⟩:=fillA_ex hz (fun p hp cs hc=>by
     obtain ⟨k,hk⟩:=List.mem_iff_getElem?.1 hp
     have hlt:k<l.length:=by rw [←Zm2 S l];exact (List.getElem?_eq_some_iff.1 hk).1
     have h1:=Zn2 S l k l[k].1 l[k].2.1 l[k].2.2 (List.getElem?_eq_getElem hlt)
     rw [hk] at h1
     simp at h1
     obtain ⟨o,ho⟩:=hl _ (List.getElem_mem hlt)
     subst h1
     dsimp only at hc
     rw [←ho] at hc
     exact ⟨_,cellsX hT o cs hc⟩) hr
    exact ⟨_,u,rfl,hu⟩
   simp only [cO] at h
   split at h
   ·rename_i hz
    obtain ⟨_,u,_,_,_,rfl⟩:=Za2 hz
    split at h
    ·split at h
     ·rename_i l hl
      refine key (Zr1 M _) ?_ h
      intro p hp
      obtain ⟨k,hk⟩:=List.mem_iff_getElem?.1 hp
      obtain ⟨g1,g2⟩:=Zl2 hl
      have hlt:k<ps.toList.length:=by rw [←g1];exact (List.getElem?_eq_some_iff.1 hk).1
      obtain ⟨y,hy,hf⟩:=g2 k _ (List.getElem?_eq_getElem hlt)
      rw [hk] at hy
      simp only [Option.some.injEq] at hy
      subst hy
      simp only [Option.map_eq_some_iff] at hf
      obtain ⟨on,_,rfl⟩:=hf
      exact ⟨_,rfl⟩
     ·simp [rd] at h
    ·simp [rd] at h
   ·rename_i hz
    obtain ⟨_,u,_,_,_,rfl⟩:=Za2 hz
    split at h
    ·refine key (Zr1 M _) ?_ h
     intro p hp
     rw [List.mem_map] at hp
     obtain ⟨q,_,rfl⟩:=hp
     exact ⟨_,rfl⟩
    ·simp [rd] at h
   ·simp [rd] at h
 | extract x k=>
   have hx:=Z12 hT x
   simp only [cO,rd] at h
   split at h
   ·rename_i l hv
    simp only [Option.map_eq_some_iff,Prod.mk.injEq] at h
    obtain ⟨r,hr,rfl,_⟩:=h
    obtain ⟨rfl,hle⟩:=Zg1 hr
    rw [hv] at hx
    obtain ⟨vs,_,h2⟩:=hx
    exact head_ex (Zk1 1 (Zl1 k h2)) (by simp;omega)
   ·simp at h
 | makeFunc f fi cs=>
   simp only [cO] at h
   split at h
   ·split at h
    ·simp only [rd,Option.some.injEq,Prod.mk.injEq] at h
     rw [←h.1]
     exact ⟨_,_,rfl,Zj2 hT cs.toList⟩
    ·simp [rd] at h
   ·simp [rd] at h
 | call ci=>
   obtain ⟨callee,cargs,argTypes⟩:=ci
   cases callee with
   | value o=>cases o<;>(simp only [cO] at h)<;>(try split at h)<;>simp [rd] at h
   | invoke _ _=>simp [cO,rd] at h
   | builtin b=>
     cases b<;>simp only [cO] at h<;>(try (simp [rd] at h;done))<;>(try ((repeat' (split at h))<;>simp [rd] at h;done))
     ·split at h
      ·split at h
       ·simp only [rd] at h
        split at h<;>simp at h<;>rw [←h.1]<;>exact ⟨_,rfl⟩
       ·simp only [rd] at h
        split at h<;>simp at h;rw [←h.1];exact ⟨_,rfl⟩
       ·simp [rd] at h
      ·simp [rd] at h
 | convert A B x=>
   simp only [cO] at h
   split at h
   ·rename_i k l hA hB
    cases l<;>simp only [rd] at h<;>split at h<;>simp only [Option.some.injEq,Prod.mk.injEq,reduceCtorEq] at h<;>rw [←h.1]<;>first | exact ⟨_,mkI_is _ _⟩ | exact ⟨_,rfl⟩
   ·split at h<;>simp [rd] at h
   ·simp [rd] at h
 | alloc T=>simp only [cO] at h;split at h<;>simp [rd] at h
 | box T x=>simp only [cO] at h;split at h<;>simp [rd] at h
 | buildSlice T n ps=>simp only [cO] at h;(repeat' (split at h))<;>simp [rd] at h
 | store T x y=>simp only [cO] at h;(repeat' (split at h))<;>simp [rd] at h
 | field T x f=>simp only [cO] at h;(repeat' (split at h))<;>simp [rd] at h
 | indexAddr T x f=>simp only [cO] at h;(repeat' (split at h))<;>simp [rd] at h
 | index T x i=>simp only [cO] at h;(repeat' (split at h))<;>simp [rd] at h
 | slice T x lo hi mx=>simp only [cO] at h;(repeat' (split at h))<;>simp [rd] at h
 | makeSlice T x y=>simp only [cO] at h;(repeat' (split at h))<;>simp [rd] at h
 | _=>simp [cO,rd] at h
theorem Zw3 {S:St} {d:Option Nat} {v:AV} {t:Nat} (h:d≠some t):Zd (S.put d v).tm t=Zd S.tm t:=by
 cases d with
 | none=>rfl
 | some d=>simp only [St.put,Za1];rw [if_neg (fun e=>h (by rw [e.1]))]
theorem x_put_ne {S:St} {d:Option Nat} {v:AV} {x:X} (h:∀t,x = .t t→d≠some t):(S.put d v).x x=S.x x:=by
 cases x with
 | t n=>exact Zw3 (h n rfl)
 | c a=>rfl
 | bad=>rfl
theorem put_mem (S:St) (d:Option Nat) (v:AV):(S.put d v).bs=S.bs∧(S.put d v).ss=S.ss:=by cases d<;>exact ⟨rfl,rfl⟩
theorem Zx3 {S S':St} (h:S'.bs=S.bs) (x:AV) (n:Nat):Zu S' x n=Zu S x n:=by
 unfold Zu
 rw [h]
theorem Zy3 {all:Array Oper} {ro:Oper} {t:Tmp} (h:Operand.tmp t∈ro.op.operands):t∈ro.looksAt all:=
 List.mem_append_left _ (List.mem_filterMap.2 ⟨.tmp t,by simpa using h,rfl⟩)
theorem Zz3 {P:Program} {all:Array Oper} {ro:Oper} {o:EOp} (hc:Za P all ro=some o) {t:Nat} {f:Bool} (hg:o.g=some (t,f)):t∈ro.looksAt all:=by
 unfold Za at hc
 cases h:ro.guard with
 | none=>rw [h] at hc;simp at hc;subst hc;simp at hg
 | some jf=>
   obtain ⟨j,f'⟩:=jf
   rw [h] at hc
   dsimp only at hc
   split at hc
   ·rename_i t' ht
    simp at hc;subst hc
    simp at hg
    obtain ⟨rfl,rfl⟩:=hg
    exact List.mem_append_right _ (by simp [h,ht])
   ·simp at hc
theorem agree_put {all:Array Oper} {ro:Oper} {S:St} {d:Option Nat} {v:AV} (h:∀t,d=some t→t∉ro.looksAt all):agree S (S.put d v) ro.op:=by
 intro o ho
 refine x_put_ne fun t ht hd=>?_
 have:=X_tmp ht
 subst this
 exact h t hd (Zy3 ho)
theorem gm_agree {S S':St} {g:Option (Nat×Bool)} (h:∀t f,g=some (t,f)→Zd S'.tm t=Zd S.tm t):gm S' g=gm S g∧gno S' g=gno S g:=by
 cases g with
 | none=>exact ⟨rfl,rfl⟩
 | some tf=>obtain ⟨t,f⟩:=tf;simp only [gm,gno,lgt,h t f rfl,and_self]
theorem nap_apart {all:Array Oper} {i j:Nat} {x y:Oper} (hi:all[i]?=some x) (hj:all[j]?=some y) (hne:j≠i) (h:j∉Z51 (Zc all) i):x.apart all y=true:=by
 have hi':i<all.size:=(Array.getElem?_eq_some_iff.1 hi).1
 have hj':j<all.size:=(Array.getElem?_eq_some_iff.1 hj).1
 rw [nget_eq,Zc,List.getD_eq_getElem?_getD,List.getElem?_map,List.getElem?_range hi'] at h
 simp only [Option.map_some,Option.getD_some,List.mem_filter,List.mem_range,hj',true_and,hi,hj] at h
 cases hh:x.apart all y
 ·exact absurd (by simp [hh,hne.symm]) h
 ·rfl
theorem Z04 (S:St) (o:EO):keeps S S o:=fun _ _ _ _ h _ _=>h
theorem bget_false {ld:List Bool} {i:Nat} (h:bget ld i=false):bgf ld i=false:=by
 rw [bget_eq] at h
 rw [bgf_eq]
 exact getD_both h
theorem rdy_parts {all:Array Oper} {ld:List Bool} {j:Nat} (h:j∈rdy ld (Zb all) 0):bget ld j=false∧(∀i∈Z51 (Zb all) j,bgf ld i=true)∧∃ro,all[j]?=some ro:=by
 obtain ⟨_,ro,hro,_⟩:=mem_ready.1 (Zo3.2 h)
 rw [rdy_mem] at h
 obtain ⟨_,w,h1,h2,h3⟩:=h
 refine ⟨h2,?_,ro,hro⟩
 rw [Zm3] at h3
 rw [nget_eq,List.getD_eq_getElem?_getD]
 simp only [Nat.sub_zero] at h1
 rw [h1]
 exact h3
theorem rdy_bset {all:Array Oper} {ld:List Bool} {i j:Nat} (h:j∈rdy ld (Zb all) 0) (hne:j≠i):j∈rdy (Z31 ld i) (Zb all) 0:=by
 have:=ready_mono (Zo3.2 h) hne
 rw [←Zl3] at this
 exact Zo3.1 this
theorem cO_store {P:Program} {op:Op} {n t:Nat} {v:X} (h:cO P op = .store n (.t t) v):Operand.tmp t∈op.operands:=by
 cases op
 case store T x y=>
  simp only [cO] at h
  split at h
  ·simp only [EO.store.injEq] at h
   have:=X_tmp h.2.1
   subst this
   simp [Op.operands]
  ·simp at h
 all_goals (simp only [cO] at h;(repeat' (split at h))<;>simp at h)
def pur (S:St) (o:EO) (v:AV):Prop:=isLd o=false∧∃xs:List X,(∀(P:Program) (op:Op),cO P op=o→∀x∈xs,∃p,p∈op.operands∧cX p=x)∧
 ∀S':St,(∀x∈xs,S'.x x=S.x x)→∀c:Ctx,Z33 c S' o v S'∧∀M a w op,cO c.P op=o→RelT c M S' a w→∃u,v.is M u
def tk (S:St) (o:EOp) (v:AV) (q:Prop):Prop:=(gm S o.g∧rd S o.o=some (v,q))∨(gno S o.g∧v = .un)∨
 (gm S o.g∧∃n x y m rows j row,o.o = .idx n x y∧S.x x = .sl m rows∧S.x y = .iv j∧m=n∧0≤j∧rows[j.toNat]?=some row∧v = .elt row 0)∨(gm S o.g∧pur S o.o v)
theorem elt_ex {M:Mem} {m:Nat} {rows:List (List AV)} {u:Value} (h:AV.is M (.sl m rows) u) {k:Nat} {row:List AV} (hr:rows[k]?=some row):∃x,AV.is M (.elt row 0) x:=by
 obtain ⟨ad,cp,g1,g2,g3⟩:=h
 have hlt:=(List.getElem?_eq_some_iff.1 hr).1
 obtain ⟨ad,vss,rfl,g4,g5⟩:=g3 (by intro e;subst e;simp at hlt)
 obtain ⟨vs,q1,q2,q3,q4⟩:=Z83 g4 _ row hr
 obtain ⟨s1,s2,cs,T',fr,s3,s4⟩:=g5
 refine ⟨_,⟨ad.block,ad.off+k*m,none⟩,vs,rfl,q3,rfl,?_,cs,T',fr,s3,?_⟩
 ·intro v hv
  obtain ⟨t,ht⟩:=List.mem_iff_getElem?.1 hv
  exact s2 v (List.mem_iff_getElem?.2 ⟨_,q4 t v ht⟩)
 ·intro t v ht
  have:=s4 _ v (q4 t v ht)
  dsimp only
  rw [show ad.off+k*m+t=ad.off+(k*m+t) from by omega]
  exact this
theorem G_take {c:Ctx} {all:Array Oper} {ops:List EOp} (hall:all.toList.mapM (Za c.P all)=some ops) (hsel:Region.noSelect all=true) {Φ:St→Prop} (i:Nat) {v:AV} {q:Prop} (hq:q):
  ∀(m:Nat) (ld:List Bool) (S:St),i∈rdy ld (Zb all) 0→tk S (Z61 ops i) v q→frB ld (Zb all) i (Z51 (Zc all) i)=true→
   (isLd (Z61 ops i).o=true→stB ld (Zb all) i ops 0=true)→G c all ops (Zb all) Φ m (Z31 ld i) (S.put (Z61 ops i).d v)→G c all ops (Zb all) Φ (m+1) ld S
 | m,ld,S,hi,hg,hf,hst,h=>by
   obtain ⟨hib,hia,ri,hri⟩:=rdy_parts hi
   have hci:=op_at hall hri
   obtain ⟨hdi,hoi⟩:=Zp3 hci
   refine ⟨fun h0=>by rw [h0] at hi;simp at hi,fun j hj=>?_⟩
   by_cases hji:j=i
   ·subst hji
    rcases hg with ⟨hg,hr⟩ | ⟨hg,rfl⟩ | ⟨hg,n,x,y,m',rows,jj,row,h1,h2,h3,h4,h5,h6,rfl⟩ | ⟨hg,_,xs,_,hp⟩
    case inr.inl=>exact .inl ⟨hg,h⟩
    case inr.inr.inr=>
     refine .inr ⟨hg,v,S,fun ro hro=>?_,rfl,Z04 _ _,h⟩
     have:ro=ri:=by rw [hri] at hro;simpa using hro.symm
     subst this
     exact (hp S (fun _ _=>rfl) c).1 ro hoi
    case inr.inr.inl=>
     refine .inr ⟨hg,.elt row 0,S,fun ro hro=>?_,rfl,Z04 _ _,h⟩
     have:ro=ri:=by rw [hri] at hro;simpa using hro.symm
     subst this
     exact sem_idx row h2 h3 h4 h5 h6 ro (by rw [hoi];exact h1)
    refine .inr ⟨hg,v,S,fun ro hro M a w hT next Q hn=>?_,rfl,Z04 _ _,h⟩
    have:ro=ri:=by rw [hri] at hro;simpa using hro.symm
    subst this
    exact sem_ev (rd_ev hr) hq ro hoi M a w hT next Q hn
   ·obtain ⟨hjb,hja,rj,hrj⟩:=rdy_parts hj
    have hcj:=op_at hall hrj
    obtain ⟨hdj,hoj⟩:=Zp3 hcj
    have hnw:i∉Z51 (Zb all) j:=fun e=>by
     have h1:=hja i e
     rw [bget_false hib] at h1;simp at h1
    have hap:ri.apart all rj=true:=by
     refine nap_apart hri hrj hji fun e=>?_
     rcases (frB_iff.1 hf) j e with h1 | h1
     ·rw [hjb] at h1;simp at h1
     ·exact hnw h1
    obtain ⟨p1,p2,ap2⟩:=Oper.apart_spec hap
    have ap1:∀d,ri.dst=some d→d∉rj.looksAt all∧rj.dst≠some d:=fun d hd=>⟨p1 d hd,p2 d hd⟩
    have hj2:=rdy_bset hj hji
    have hi2:=rdy_bset hi (Ne.symm hji)
    have hcomm:=bset_comm ld (Ne.symm hji)
    have hlen:j<ops.length:=by
     obtain ⟨h1,h2⟩:=Zl2 hall
     rw [h1];simpa using (Array.getElem?_eq_some_iff.1 hrj).1
    have hf':frB (Z31 ld j) (Zb all) i (Z51 (Zc all) i)=true:=frB_iff.2 fun k hk=>(frB_iff.1 hf k hk).imp Zt3 id
    have hst':isLd (Z61 ops i).o=true→stB (Z31 ld j) (Zb all) i ops 0=true:=fun hl=>stB_mk fun k hk=>by
     rcases stB_get (hst hl) k hk with h1 | h1 | h1
     ·exact .inl (Zt3 h1)
     ·exact .inr (.inl h1)
     ·exact .inr (.inr h1)
    have hgj:gm (S.put (Z61 ops i).d v) (Z61 ops j).g=gm S (Z61 ops j).g∧gno (S.put (Z61 ops i).d v) (Z61 ops j).g=gno S (Z61 ops j).g:=
     gm_agree fun t f ht=>Zw3 fun e=>(ap1 t (by rw [hdi];exact e)).1 (Zz3 hcj ht)
    have next_ok:∀(u:AV) (bs ss),(∀j' off n l,Zu S (.ptr j' off) n=some l→Zo l=true→isLd (Z61 ops i).o=true→Zu ⟨S.tm,bs,ss⟩ (.ptr j' off) n=some l)→
     tk ((⟨S.tm,bs,ss⟩:St).put (Z61 ops j).d u) (Z61 ops i) v q:=by
     intro u bs ss hrow
     have e1:agree S ((⟨S.tm,bs,ss⟩:St).put (Z61 ops j).d u) ri.op:=by
      intro o ho
      have:(⟨S.tm,bs,ss⟩:St).x (cX o)=S.x (cX o):=by cases cX o<;>rfl
      rw [←this]
      exact agree_put (all:=all) (ro:=ri) (S:=⟨S.tm,bs,ss⟩) (fun t ht=>ap2 t (by rw [hdj];exact ht)) o ho
     have e2:=gm_agree (S:=S) (S':=(⟨S.tm,bs,ss⟩:St).put (Z61 ops j).d u) (g:=(Z61 ops i).g) fun t f ht=>
      Zw3 (S:=⟨S.tm,bs,ss⟩) fun e=>ap2 t (by rw [hdj];exact e) (Zz3 hci ht)
     rcases hg with ⟨hg,hr⟩ | ⟨hg,hv⟩ | ⟨hg,n,x,y,m',rows,jj,row,h1,h2,h3,h4,h5,h6,hv⟩ | ⟨hg,hl,xs,hx,hp⟩
     rotate_left 3
     ·refine .inr (.inr (.inr ⟨by rw [e2.1];exact hg,hl,xs,hx,fun S' hS'=>hp S' fun x hm=>?_⟩))
      rw [hS' x hm]
      obtain ⟨p,p1,p2⟩:=hx c.P ri.op hoi x hm
      rw [←p2];exact e1 p p1
     ·refine .inl ⟨by rw [e2.1];exact hg,?_⟩
      rw [←hoi] at hr ⊢
      refine rd_agree e1 (fun hl x n l _ hrw hp=>?_) hr
      have hb:=(put_mem (⟨S.tm,bs,ss⟩:St) (Z61 ops j).d u).1
      rw [Zx3 hb]
      cases hx:S.x (cX x) with
      | ptr j' off=>rw [hx] at hrw;exact hrow j' off n l hrw hp (by rw [←hoi];exact hl)
      | elt row off=>rw [hx] at hrw;exact hrw
      | _=>rw [hx] at hrw;simp [Zu] at hrw
     ·exact .inr (.inl ⟨by rw [e2.2];exact hg,hv⟩)
     ·refine .inr (.inr (.inl ⟨by rw [e2.1];exact hg,n,x,y,m',rows,jj,row,h1,?_,?_,h4,h5,h6,hv⟩))
      ·rw [←hoi] at h1
       obtain ⟨T,y1,z1,e,hop,_,_,hy,hz⟩:=cO_idx h1
       rw [←hy,e1 y1 (by rw [hop];simp [Op.operands]),hy];exact h2
      ·rw [←hoi] at h1
       obtain ⟨T,y1,z1,e,hop,_,_,hy,hz⟩:=cO_idx h1
       rw [←hz,e1 z1 (by rw [hop];simp [Op.operands]),hz];exact h3
    have hdne:∀x,(Z61 ops i).d=some x→(Z61 ops j).d≠some x:=fun x hx=>by
     have:=(ap1 x (by rw [hdi];exact hx)).2
     rw [hdj] at this;exact this
    cases m with
    | zero=>have:=h.1;rw [this] at hj2;simp at hj2
    | succ m=>
      rcases h.2 j hj2 with ⟨g1,g2⟩ | ⟨g1,u,S1,g2,g3,g4,g5⟩
      ·refine .inl ⟨by rw [←hgj.2];exact g1,?_⟩
       have n1:=next_ok .un S.bs S.ss (fun _ _ _ _ h _ _=>h)
       refine G_take hall hsel i hq m (Z31 ld j) _ hi2 n1 hf' hst' ?_
       rw [←hcomm]
       have e:=put_comm S S.bs S.ss (d:=(Z61 ops i).d) (e:=(Z61 ops j).d) v .un hdne
       have e2:(⟨(S.put (Z61 ops i).d v).tm,S.bs,S.ss⟩:St)=S.put (Z61 ops i).d v:=by cases (Z61 ops i).d<;>rfl
       have e3:(⟨(S.put (Z61 ops j).d .un).tm,S.bs,S.ss⟩:St)=S.put (Z61 ops j).d .un:=by cases (Z61 ops j).d<;>rfl
       rw [e2,e3] at e
       rw [←e];exact g2
      ·refine .inr ⟨by rw [←hgj.1];exact g1,u,⟨S.tm,S1.bs,S1.ss⟩,fun ro hro M a w hT next Q hn=>?_,rfl,?_,?_⟩
       ·have:ro=rj:=by rw [hrj] at hro;simpa using hro.symm
        subst this
        cases hd:(Z61 ops i).d with
        | none=>
          rw [hd] at g2
          exact g2 ro hrj M a w hT next Q hn
        | some d=>
          rw [hd] at g2
          obtain ⟨x,hx⟩:∃x,v.is M x:=by
           rcases hg with ⟨_,hr⟩ | ⟨_,rfl⟩ | ⟨_,n,x,y,m',rows,jj,row,h1,h2,h3,h4,h5,h6,rfl⟩ | ⟨_,_,xs,_,hp⟩
           rotate_left 3
           ·exact (hp S (fun _ _=>rfl) c).2 M a w _ hoi hT
           ·exact rd_ex hT (by rw [hoi];exact hr)
           ·exact ⟨undef,rfl⟩
           ·rw [←hoi] at h1
            obtain ⟨T,y1,z1,e,hop,_,_,hy,hz⟩:=cO_idx h1
            have:=Z12 hT y1
            rw [hy,h2] at this
            exact elt_ex this h6
          have hT':RelT c M (S.put (some d) v) (a.put (some d) x) w:=hT.put (some d) (.refl M) hT.st hx
          have ap:=ap1 d (by rw [hdi];exact hd)
          refine wp_unput (all:=all) (fun cs b=>Region.noSelect_spec hsel j ro cs b hrj) ap.1 ap.2 (x:=x) (g2 ro hrj M _ w hT' _ _ fun M' w' y h1 h2 h3=>?_)
          have hb:=hn M' w' y h1 h2 h3
          have key:((a.put (some d) x).put ro.dst y).put (some d) (a.tmps.getD d undef)=a.put ro.dst y:=by
           have h1:(a.put (some d) x).put (some d) (a.tmps.getD d undef)=a:=by
            obtain ⟨tm,df⟩:=a
            simp only [Act.put,Act.mk.injEq,and_true]
            rw [Array.setIfInBounds_setIfInBounds]
            apply Array.ext'
            simp only [Array.toList_setIfInBounds]
            apply List.ext_getElem?
            intro j
            rw [List.getElem?_set]
            split
            ·rename_i e;subst e
             split
             ·rename_i h;simp at h;simp [h]
             ·rename_i h;simp at h;simp [h]
            ·rfl
           cases hdst:ro.dst with
           | none=>exact h1
           | some e=>
             have hne:e≠d:=fun x=>ap.2 (by rw [hdst,x])
             have h2:((a.put (some d) x).put (some e) y).put (some d) (a.tmps.getD d undef)=((a.put (some d) x).put (some d) (a.tmps.getD d undef)).put (some e) y:=by
              simp only [Act.put,Act.mk.injEq,and_true]
              rw [Array.setIfInBounds_comm _ _ hne]
             rw [h2,h1]
          rw [key];exact hb
       ·intro j' off n l h1 h2 h3
        have hb:=(put_mem S (Z61 ops i).d v).1
        have:=g4 j' off n l (by rw [Zx3 hb];exact h1) h2 (fun n a' v' j2 off' ho hx=>h3 n a' v' j2 off' ho (by
         rw [x_put_ne] at hx
         ·exact hx
         ·intro t ht e
          subst ht
          have:Operand.tmp t∈rj.op.operands:=by
           rw [←hoj] at ho
           exact cO_store ho
          exact (ap1 t (by rw [hdi];exact e)).1 (Zy3 this)))
        rw [Zx3 (S:=S1) (S':=⟨S.tm,S1.bs,S1.ss⟩) rfl];exact this
       ·have n1:=next_ok u S1.bs S1.ss (fun j' off n l h1 h2 hl=>by
         have hb:=(put_mem S (Z61 ops i).d v).1
         have:=g4 j' off n l (by rw [Zx3 hb];exact h1) h2 (fun n a' v' j2 off' ho _=>by
          exfalso
          rcases stB_get (hst hl) j hlen with h1 | h1 | h1
          ·rw [Nat.zero_add,hjb] at h1;simp at h1
          ·rw [ho] at h1;simp [isSt] at h1
          ·rw [Nat.zero_add] at h1;exact hnw h1)
         rw [Zx3 (S:=S1) (S':=⟨S.tm,S1.bs,S1.ss⟩) rfl];exact this)
        refine G_take hall hsel i hq m (Z31 ld j) _ hi2 n1 hf' hst' ?_
        rw [←hcomm]
        have e:=put_comm S S1.bs S1.ss (d:=(Z61 ops i).d) (e:=(Z61 ops j).d) v u hdne
        have e2:(⟨(S.put (Z61 ops i).d v).tm,S1.bs,S1.ss⟩:St)=S1:=by rw [←g3]
        have e3:(⟨(S.put (Z61 ops j).d u).tm,S1.bs,S1.ss⟩:St)=(⟨S.tm,S1.bs,S1.ss⟩:St).put (Z61 ops j).d u:=by cases (Z61 ops j).d<;>rfl
        rw [e2,e3] at e
        rw [←e];exact g5
def gst (S:St):Option (Nat×Bool)→Option Bool
 | none=>some true
 | some (t,f)=>match lgt S.tm t,f with
   | .tt,true=>some true
   | .ff,false=>some true
   | .tt,false=>some false
   | .ff,true=>some false
   | .un,_=>some false
   | _,_=>none
theorem gst_true {S:St} {g:Option (Nat×Bool)} (h:gst S g=some true):gm S g:=by
 cases g with
 | none=>trivial
 | some tf=>
   obtain ⟨t,f⟩:=tf
   simp only [gst] at h
   split at h<;>simp at h
   ·rename_i e;simp only [gm,e]
   ·rename_i e;simp only [gm,e]
theorem gst_false {S:St} {g:Option (Nat×Bool)} (h:gst S g=some false):gno S g:=by
 cases g with
 | none=>simp [gst] at h
 | some tf=>
   obtain ⟨t,f⟩:=tf
   simp only [gst] at h
   split at h<;>simp at h
   ·rename_i e;simp only [gno,e]
   ·rename_i e;simp only [gno,e]
   ·rename_i e;simp only [gno,e]
def tkv (S:St) (o:EOp):Option (AV×Prop):=
 match gst S o.g with
 | some true=>rd S o.o
 | some false=>some (.un,True)
 | none=>none
theorem tkv_tk {S:St} {o:EOp} {v:AV} {q:Prop} (h:tkv S o=some (v,q)):tk S o v q:=by
 unfold tkv at h
 split at h
 ·rename_i e;exact .inl ⟨gst_true e,h⟩
 ·rename_i e;simp at h;exact .inr (.inl ⟨gst_false e,h.1.symm⟩)
 ·simp at h
def gpick (ops:List EOp) (af nap:List (List Nat)) (ld:List Bool) (S:St):List Nat→Option (Nat×AV×Prop)
 | []=>none
 | i::l=>match tkv S (Z61 ops i) with
   | some r=>match Z2 (frB ld af i (Z51 nap i)) (match isLd (Z61 ops i).o with | true=>stB ld af i ops 0 | false=>true) with
     | true=>some (i,r.1,r.2)
     | false=>gpick ops af nap ld S l
   | none=>gpick ops af nap ld S l
def grun (ops:List EOp) (af nap:List (List Nat)):Nat→List Bool→St→Prop→Nat×List Bool×St×Prop
 | 0,ld,S,p=>(0,ld,S,p)
 | m+1,ld,S,p=>match gpick ops af nap ld S (rdy ld af 0) with
   | some r=>grun ops af nap m (Z31 ld r.1) (S.put (Z61 ops r.1).d r.2.1) (p∧r.2.2)
   | none=>(m+1,ld,S,p)
theorem Z14 {ops:List EOp} {af nap:List (List Nat)} {ld:List Bool} {S:St}:∀ {l:List Nat} {i:Nat} {v:AV} {q:Prop},gpick ops af nap ld S l=some (i,v,q)→
  i∈l∧tk S (Z61 ops i) v q∧frB ld af i (Z51 nap i)=true∧(isLd (Z61 ops i).o=true→stB ld af i ops 0=true)
 | [],i,v,q,h=>by simp [gpick] at h
 | j::l,i,v,q,h=>by
   simp only [gpick] at h
   split at h
   ·rename_i r hr
    split at h
    ·rename_i hc
     rw [Z71] at hc
     simp only [Option.some.injEq,Prod.mk.injEq] at h
     obtain ⟨rfl,rfl,rfl⟩:=h
     refine ⟨by simp,tkv_tk hr,hc.1,fun hl=>?_⟩
     have:=hc.2
     rw [hl] at this;exact this
    ·obtain ⟨h1,h2⟩:=Z14 h
     exact ⟨by simp [h1],h2⟩
   ·obtain ⟨h1,h2⟩:=Z14 h
    exact ⟨by simp [h1],h2⟩
theorem Z24 {c:Ctx} {all:Array Oper} {ops:List EOp} {af:List (List Nat)} {Φ:St→Prop} {ld:List Bool} {S:St} (hr:rdy ld af 0=[]) (h:Φ S):∀m,G c all ops af Φ m ld S
 | 0=>⟨hr,h⟩
 | _+1=>⟨fun _=>h,fun i hi=>by rw [hr] at hi;simp at hi⟩
def GO (c:Ctx) (all:Array Oper) (ops:List EOp) (af:List (List Nat)) (Φ:St→Prop) (m:Nat) (ld:List Bool) (S:St) (i:Nat):Prop:=
 (gno S (Z61 ops i).g∧G c all ops af Φ m (Z31 ld i) (S.put (Z61 ops i).d .un))∨
 (gm S (Z61 ops i).g∧∃v S1,(∀ro,all[i]?=some ro→SemR c S ro v S1)∧S1.tm=S.tm∧keeps S S1 (Z61 ops i).o∧G c all ops af Φ m (Z31 ld i) (S1.put (Z61 ops i).d v))
section
variable {c:Ctx} {all:Array Oper} {ops:List EOp} {af:List (List Nat)} {Φ:St→Prop} {m:Nat} {ld:List Bool} {S:St}
theorem Z34 (i:Nat) (hr:rdy ld af 0=[i]) (h:GO c all ops af Φ m ld S i):G c all ops af Φ (m+1) ld S:=
 ⟨fun h0=>by rw [h0] at hr;simp at hr,fun j hj=>by rw [hr] at hj;simp at hj;subst hj;exact h⟩
theorem Z44 (i j:Nat) (hr:rdy ld af 0=[i,j]) (h:GO c all ops af Φ m ld S i) (h2:GO c all ops af Φ m ld S j):G c all ops af Φ (m+1) ld S:=
 ⟨fun h0=>by rw [h0] at hr;simp at hr,fun k hk=>by rw [hr] at hk;simp at hk;rcases hk with rfl | rfl;exact h;exact h2⟩
theorem G_three (i j k:Nat) (hr:rdy ld af 0=[i,j,k]) (h:GO c all ops af Φ m ld S i) (h2:GO c all ops af Φ m ld S j) (h3:GO c all ops af Φ m ld S k):G c all ops af Φ (m+1) ld S:=
 ⟨fun h0=>by rw [h0] at hr;simp at hr,fun l hl=>by rw [hr] at hl;simp at hl;rcases hl with rfl | rfl | rfl;exact h;exact h2;exact h3⟩
theorem Z54 (hall:all.toList.mapM (Za c.P all)=some ops) {i:Nat} {v:AV} {S1:St} (hg:gm S (Z61 ops i).g) (hs:Z33 c S (Z61 ops i).o v S1) (htm:S1.tm=S.tm) (hk:keeps S S1 (Z61 ops i).o)
  (h:G c all ops af Φ m (Z31 ld i) (S1.put (Z61 ops i).d v)):GO c all ops af Φ m ld S i:=
 .inr ⟨hg,v,S1,fun ro hro=>hs ro (Zp3 (op_at hall hro)).2,htm,hk,h⟩
theorem Z64 (S:St) (B:Option Blk) (tm ss) (j off n:Nat) (l:List AV) (h:Zu S (.ptr j off) n=some l):Zu ⟨tm,S.bs++[B],ss⟩ (.ptr j off) n=some l:=by
 simp only [Zu] at h ⊢
 split at h
 ·rename_i C hC
  have hlt:=Zf1 hC
  rw [Zc1,if_neg (by omega),hC];exact h
 ·simp at h
theorem ev_tm {o:EO} {v:AV} {S1:St} {q:Prop} (h:ev S o=some (v,S1,q)):S1.tm=S.tm∧keeps S S1 o:=by
 have same:S1=S→S1.tm=S.tm∧keeps S S1 o:=fun e=>by subst e;exact ⟨rfl,Z04 _ _⟩
 cases o<;>simp only [ev,reduceCtorEq] at h
 case alloc T z=>
  split at h<;>simp at h
  obtain ⟨_,rfl,_⟩:=h
  exact ⟨rfl,fun j off n l h1 _ _=>Z64 S _ _ _ j off n l h1⟩
 case box T n x=>
  split at h
  ·split at h<;>simp at h
   obtain ⟨_,rfl,_⟩:=h
   exact ⟨rfl,fun j off n l h1 _ _=>Z64 S _ _ _ j off n l h1⟩
  ·simp at h
 case store n a x=>
  split at h
  ·rename_i j off hj
   split at h
   ·rename_i B hB
    split at h
    ·split at h
     ·simp only [Option.map_eq_some_iff,Prod.mk.injEq] at h
      obtain ⟨_,_,_,rfl,_⟩:=h
      refine ⟨rfl,fun j' off' n' l h1 _ h3=>?_⟩
      have hne:=h3 n a x j off rfl hj
      simp only [Zu] at h1 ⊢
      rw [Zd1,if_neg (fun e=>hne e.1.symm)]
      exact h1
     ·simp at h
    ·simp at h
   ·simp at h
  ·simp at h
 case eqs ng ks x y=>
  split at h
  ·simp only [Option.map_eq_some_iff,Prod.mk.injEq] at h
   obtain ⟨_,_,_,rfl,_⟩:=h
   exact same rfl
  ·simp at h
 case bq ng x y=>split at h<;>simp at h;exact same h.2.1.symm
 case bsl T n len z ps=>
  split at h
  ·split at h<;>simp at h
   obtain ⟨_,rfl,_⟩:=h
   exact ⟨rfl,fun j off n l h1 _ _=>h1⟩
  ·simp at h
 case conv k x=>cases k<;>simp only at h<;>split at h<;>simp at h<;>exact same h.2.1.symm
 case field off n x=>
  cases n<;>simp only at h<;>split at h<;>simp at h<;>obtain ⟨_,_,_,h,_⟩:=h<;>exact same h.symm
 case mv x=>simp at h;exact same h.2.1.symm
 case pick p x y=>split at h<;>simp at h<;>exact same h.2.1.symm
 case load x=>simp at h;obtain ⟨_,_,_,h,_⟩:=h;exact same h.symm
 case loadA n x=>simp at h;obtain ⟨_,_,_,h,_⟩:=h;exact same h.symm
 case nilchk x=>split at h<;>simp at h<;>exact same h.2.1.symm
 case bin op x y=>simp only [Option.map_eq_some_iff,Prod.mk.injEq] at h;obtain ⟨_,_,_,h,_⟩:=h;exact same h.symm
 case sbin op x y=>simp only [Option.map_eq_some_iff,Prod.mk.injEq] at h;obtain ⟨_,_,_,h,_⟩:=h;exact same h.symm
 case slen x=>split at h<;>simp at h;exact same h.2.1.symm
 case not x=>split at h<;>simp at h<;>exact same h.2.1.symm
 case neg x=>split at h<;>simp at h;exact same h.2.1.symm
 case fld off x=>split at h<;>simp at h<;>exact same h.2.1.symm
 case build z ps=>simp at h;obtain ⟨_,_,_,h,_⟩:=h;exact same h.symm
 case ext x k=>split at h<;>simp at h;obtain ⟨_,_,_,h,_⟩:=h;exact same h.symm
 case mkf f caps=>simp at h;exact same h.2.1.symm
 case len x=>
  split at h
  ·simp at h;exact same h.2.1.symm
  ·simp at h;exact same h.2.1.symm
  ·split at h<;>simp at h;exact same h.2.1.symm
  ·simp at h;exact same h.2.1.symm
  ·simp at h
 case mm mx xs=>split at h<;>simp at h;obtain ⟨_,_,_,h,_⟩:=h;exact same h.symm
def geO (S:St) (o:EOp):Option (AV×St×Prop):=
 match gst S o.g with
 | some true=>ev S o.o
 | _=>none
theorem Z74 (hall:all.toList.mapM (Za c.P all)=some ops) {i:Nat} {v:AV} {S1:St} {q:Prop} (he:geO S (Z61 ops i)=some (v,S1,q)) (hq:q)
  (h:G c all ops af Φ m (Z31 ld i) (S1.put (Z61 ops i).d v)):GO c all ops af Φ m ld S i:=by
 unfold geO at he
 split at he
 ·rename_i hg
  exact Z54 hall (gst_true hg) (sem_ev he hq) (ev_tm he).1 (ev_tm he).2 h
 ·simp at he
theorem Z84 (hall:all.toList.mapM (Za c.P all)=some ops) {i f:Nat} {xs:List X} {args:List AV} {res:AV} (ho:(Z61 ops i).o = .call f xs) (hg:gm S (Z61 ops i).g) (hf:Zy2 c.P f args res)
  (ha:AV.le.leL (Zq S xs) args:=by first | exact Zg4 _ | simp [go_sem]) (hp:Zo args=true:=by first | rfl | simp [go_sem]) (h:G c all ops af Φ m (Z31 ld i) (S.put (Z61 ops i).d res)):GO c all ops af Φ m ld S i:=
 Z54 hall hg (by rw [ho];exact sem_call hf ha hp) rfl (Z04 _ _) h
theorem G_idx {nap:List (List Nat)} (hall:all.toList.mapM (Za c.P all)=some ops) (hsel:Region.noSelect all=true) (haf:af=Zb all) (hnap:nap=Zc all) (i:Nat) {n k:Nat} {x y:X} {rows:List (List AV)} {j:Int} (row:List AV)
  (hi:memN i (rdy ld af 0)=true) (ho:(Z61 ops i).o = .idx n x y) (hg:gm S (Z61 ops i).g) (hx:S.x x = .sl k rows) (hy:S.x y = .iv j) (hmn:k=n) (h0:0≤j) (hr:rows[j.toNat]?=some row)
  (hf:frB ld af i (Z51 nap i)=true) (h:G c all ops af Φ m (Z31 ld i) (S.put (Z61 ops i).d (.elt row 0))):G c all ops af Φ (m+1) ld S:=by
 subst haf;subst hnap
 exact G_take hall hsel i (q:=True) trivial m ld S ((Zn3 _ _).1 hi) (.inr (.inr (.inl ⟨hg,n,x,y,k,rows,j,row,ho,hx,hy,hmn,h0,hr,rfl⟩))) hf (fun hl=>by rw [ho] at hl;simp [isLd] at hl) h
end
end NX
end Go.Proofs.YthlodgjekbidcaaGreat
/-
  The symbolic machine: what grows. No statement of the seat is proved here.
-/
namespace Go.Proofs.YthlodgjekbidcaaGreat
namespace NX
open Go Go.RowKit
def Src (w:World) (sz:Nat) (u:Value) (m:Nat) (news:List Value):Prop:=
 news.length=m*sz∧(u = .slice none 0 0∧m=0∨∃a c,u = .slice (some a) m c∧∀(j:Nat) x,news[j]?=some x→w.cell? (a.add j)=some x)
theorem app_run {P:Program} {w:World} {t ty e:TypeId} {i:TypeInfo} {z:Value} (hu:P.underlying t=some (.slice e)) (hi:P.info? e=some i) (hz:i.zero=some z) (hsz:z.cells.size=i.size) (h0:0<i.size)
  {v:Value} {len:Nat} {xs:List Value} (hown:w.ownsRow 0 e i.size v len xs) {u:Value} {m:Nat} {news:List Value} (hsrc:Src w i.size u m news) (h1:∀x∈news,x.oneCell'=true)
  (h63:len+m≤maxLen) (hb:(len+m)*i.bytes≤140737488355328):
  ∃v' w',(Builtin.append_ #[t,t] ty #[v,u]).run P w = .ok v' w'∧w'.ownsRow 0 e i.size v' (len+m) (xs++news)∧w.grownBy w' v.ownBlock∧(v'.ownBlock=v.ownBlock∨∀g,v'.ownBlock=some g→w.heap.size≤g):=by
 obtain ⟨hl,hs⟩:=hsrc
 rcases hs with ⟨rfl,rfl⟩ | ⟨a,c,rfl,hc⟩
 ·have hn:news=[]:=List.length_eq_zero_iff.1 (by simpa using hl)
  subst hn
  refine ⟨v,w,run_append_owned_none w 0 t ty e i i.size hu hi v len xs hown,by simpa using hown,⟨rfl,rfl,rfl,Nat.le_refl _,fun _ _ _=>rfl⟩,.inl rfl⟩
 ·obtain ⟨v',w',r1,r2,r3,_⟩:=run_append_own (P:=P) w 0 t ty e i z i.size i.bytes hu hi hz rfl rfl hsz h0 v len xs hown a m c news hl hc h1 h63 hb (Nat.zero_le _)
  refine ⟨v',w',r1,r2,r3,?_⟩
  rcases hown.2 with ⟨rfl,rfl⟩ | ⟨g,cap,cur,rfl,hbg,hg,hnc,hcm,hcs,htake⟩
  ·obtain ⟨v2,w2,q1,q2,_,_⟩:=run_append_own (P:=P) w w.heap.size t ty e i z i.size i.bytes hu hi hz rfl rfl hsz h0 (.slice none 0 0) 0 xs ⟨hown.1,.inl ⟨rfl,rfl⟩⟩ a m c news hl hc h1 h63 hb (Nat.le_refl _)
   rw [r1] at q1
   simp only [Result.ok.injEq] at q1
   obtain ⟨rfl,rfl⟩:=q1
   right
   intro g hg
   exact (World.ownsRow.lt q2 g hg).1
  ·by_cases hroom:len+m≤cap
   ·have hfit:len*i.size+news.length≤cur.size:=by rw [hl,hcs,←Nat.add_mul];exact Nat.mul_le_mul_right _ hroom
    have hr:=run_append_room (P:=P) w t ty e i hu hi g len cap cur hg a m c news hl hc h1 hroom hfit
    rw [r1] at hr
    simp only [Result.ok.injEq] at hr
    obtain ⟨rfl,_⟩:=hr
    exact .inl rfl
   ·have holds:∀j u,xs[j]?=some u→w.cell? ((⟨g,0,none⟩:Addr).add j)=some u:=hown.cells (g:=g) rfl
    have hr:=run_append_grow (P:=P) w t ty e i z hu hi hz ⟨g,0,none⟩ len cap xs hown.1 holds a m c news hl hc (by omega) (by simp only [maxLen] at h63;omega) (growslice_fits (by omega) hb)
    rw [r1] at hr
    simp only [Result.ok.injEq] at hr
    obtain ⟨rfl,_⟩:=hr
    right
    intro g' hg'
    simp [Value.ownBlock] at hg'
    omega
theorem Z94 {M:Mem} {n:Nat}:∀ {a b:List (List AV)} {x y:List (List Value)},AV.isLL M n a x→AV.isLL M n b y→AV.isLL M n (a++b) (x++y)
 | [],_,_,_,h,k=>by simp [AV.isLL] at h;subst h;simpa using k
 | _::_,_,_,_,⟨v,r,h0,h1,h2,h3⟩,k=>by subst h0;exact ⟨v,r++_,rfl,h1,h2,Z94 h3 k⟩
theorem Za4 {M:Mem} {n:Nat}:∀ {a:List (List AV)} {x:List (List Value)},AV.isLL M n a x→x.flatten.length=a.length*n
 | [],_,h=>by simp [AV.isLL] at h;subst h;simp
 | _::a,_,⟨v,r,h0,h1,h2,h3⟩=>by
   subst h0
   have:=Za4 h3
   rw [List.flatten_cons,List.length_append,this,h1,List.length_cons,Nat.add_mul,Nat.one_mul,Nat.add_comm]
section
variable {c:Ctx} {M:Mem} {S S':St} {a:Act} {w:World} {fn:Func} {K:AV→List (Option Blk)→List (Option Sl)→Prop} {k:List It}
theorem src_of (hT:RelT c M S a w) {x:AV} {u:Value} (hx:x.is M u) {n:Nat} {rows:List (List AV)} (h:Z21 S n x=some rows):
  ∃vss,AV.isLL M.sl n rows vss∧Src w n u rows.length vss.flatten∧∀v∈vss.flatten,v.oneCell'=true:=by
 unfold Z21 at h
 split at h
 ·simp at h;subst h
  simp only [AV.is] at hx;subst hx
  exact ⟨[],rfl,⟨by simp,.inl ⟨rfl,rfl⟩⟩,by simp⟩
 ·rename_i m rows'
  split at h<;>simp at h
  rename_i hm
  simp at hm
  subst h;subst hm
  obtain ⟨ad,cp,rfl,⟨h1,h2⟩,h3⟩:=hx
  by_cases hne:rows'=[]
  ·subst hne
   refine ⟨[],rfl,⟨by simp,?_⟩,by simp⟩
   cases ad with
   | none=>left;rw [h2 rfl];exact ⟨rfl,rfl⟩
   | some ad=>right;exact ⟨ad,cp,rfl,by simp⟩
  ·obtain ⟨ad,vss,rfl,g1,g2⟩:=h3 hne
   refine ⟨vss,Zq1 (Zm1 M) _ _ _ g1,⟨Za4 g1,.inr ⟨ad,cp,rfl,fun j x hj=>?_⟩⟩,g2.2.1⟩
   have hsp:=g2.1
   have:=cell_at hT.st g2 j x hj
   obtain ⟨b,o,sp⟩:=ad
   dsimp only at hsp
   subst hsp
   rw [Addr.add_lit];exact this
 ·rename_i j
  split at h
  ·rename_i L hL
   split at h<;>simp at h
   rename_i hm
   simp at hm
   subst h;subst hm
   obtain ⟨_,vss,g1,g2,g3,_⟩:=hT.st.slc j L hL
   refine ⟨vss,g1,⟨Za4 g1,?_⟩,g2⟩
   rw [hx.2]
   rcases g3.2 with ⟨e1,e2⟩ | ⟨g,cp,cur,e1,_⟩
   ·left;exact ⟨e1,e2⟩
   ·right
    refine ⟨⟨g,0,none⟩,cp,e1,fun j x hj=>?_⟩
    exact World.ownsRow.cells g3 (g:=g) (by rw [e1];rfl) j x hj
  ·simp at h
 ·simp at h
theorem app_exec {P:Program} {w w':World} {t:TypeId} {p q:Operand} {ρ:Operand→Value} {v:Value} (d:Option Tmp) (ty:TypeId) (pos:String) (af:Array Edge) (gg:Option (Nat×Bool))
  (h:(Builtin.append_ #[t,t] ty #[ρ p,ρ q]).run P w = .ok v w'):(execOp ρ ⟨d,.call ⟨.builtin .append, #[p,q], #[t,t]⟩,ty,pos,af,gg⟩).run P w = .ok (.value v) w':=by
 simp [execOp,resolve,invoke,builtin,h]
theorem RelS.grown (h:RelS c M S.bs S.ss w) {w':World} {v v':Value} {L:Sl} {vss:List (List Value)} {ss:List (Option Sl)}
  (hlen:ss.length=S.ss.length) (hsub:∀j N,Zf ss j=some N→Zf S.ss j=some N∧∀g,v.ownBlock=some g→(M.σ j).ownBlock≠some g)
  (hv:v.ownBlock=none∨∀i B,Zf S.bs i=some B→v.ownBlock≠some (M.ρ i)) (hvm:∀g,v.ownBlock=some g→Mine c g∧M.H g=none)
  (hg:w.grownBy w' v.ownBlock) (hnew:v'.ownBlock=v.ownBlock∨∀g,v'.ownBlock=some g→w.heap.size≤g)
  (h0:0<L.n) (h1:AV.isLL M.sl L.n L.rows vss) (h2:∀x∈vss.flatten,x.oneCell'=true) (h3:w'.ownsRow 0 L.T L.n v' L.rows.length vss.flatten):
  RelS c (M.addS v') S.bs (ss++[some L]) w':=by
 have hkeep:∀k,k<w.heap.size→v.ownBlock≠some k→w'.heap[k]?=w.heap[k]?:=fun k hk hne=>hg.block k hk (fun e=>hne e.symm)
 have base:RelS c M S.bs ss w':=by
  refine ⟨h.nb,by rw [h.ns,hlen],h.so,hg.os.trans h.os,hg.tape.trans h.tape,hg.output.trans h.output,Nat.le_trans h.size hg.size,?_,?_,h.hold,?_,?_,h.d1,?_,?_,h.pin⟩
  ·intro k hk hb
   rw [hkeep k (Nat.lt_of_lt_of_le hk h.size)]
   ·exact h.block k hk hb
   ·intro e
    rcases (hvm k e).1 with h | h
    ·omega
    ·exact hb h
  ·intro k o hk
   rw [hkeep k (Array.getElem?_eq_some_iff.1 (h.hle k o hk)).1]
   ·exact h.hle k o hk
   ·intro e;rw [(hvm k e).2] at hk;simp at hk
  ·intro j B hj
   obtain ⟨g1,g2,vs,g3,g4,g5⟩:=h.blk j B hj
   refine ⟨g1,g2,vs,g3,?_,g5⟩
   rw [hkeep _ (h.blk_lt hj)]
   ·exact g4
   ·rcases hv with hv | hv
    ·rw [hv];simp
    ·exact hv j B hj
  ·intro j N hj
   obtain ⟨hj,hne⟩:=hsub j N hj
   obtain ⟨q0,us,q1,q2,q3,q4⟩:=h.slc j N hj
   refine ⟨q0,us,q1,q2,World.ownsRow.kept q3 hg ?_,q4⟩
   cases hvb:v.ownBlock with
   | none=>
     cases ho:(M.σ j).ownBlock with
     | none=>exact .inl rfl
     | some g=>right;simp
   | some g=>right;exact hne g hvb
  ·intro i j B N hi hj
   exact h.d2 i j B N hi (hsub j N hj).1
  ·intro i j N O g hi hj e1 e2
   exact h.d3 i j N O g (hsub i N hi).1 (hsub j O hj).1 e1 e2
 refine base.name L v' vss h0 h1 h2 h3 ?_ ?_ ?_
 ·intro g hgb
  rcases hnew with e | e
  ·exact hvm g (by rw [←e];exact hgb)
  ·exact ⟨.inl (Nat.le_trans h.size (e g hgb)),h.Hnew (e g hgb)⟩
 ·intro i B hi e
  rcases hnew with e1 | e1
  ·rw [e1] at e
   rcases hv with hv | hv
   ·rw [hv] at e;simp at e
   ·exact hv i B hi e
  ·have:=e1 _ e
   have:=h.blk_lt hi
   omega
 ·intro j N g hj e1 e2
  obtain ⟨hj,hne⟩:=hsub j N hj
  rcases hnew with e3 | e3
  ·exact hne g (by rw [←e3];exact e1) e2
  ·have:=e3 g e1
   have:=h.slc_lt hj e2
   omega
def St.app (S:St) (j:Nat) (L:Sl):St:=⟨S.tm,S.bs,Zg S.ss j none++[some L]⟩
def St.app0 (S:St) (L:Sl):St:=⟨S.tm,S.bs,S.ss++[some L]⟩
attribute [go_sem] St.app St.app0
theorem sem_app {e n b j:Nat} {x y:X} {L:Sl} {rows:List (List AV)} (hx:S.x x = .osl j) (hj:Zf S.ss j=some L) (hT:L.T=e) (hn:L.n=n) (hy:Z21 S n (S.x y)=some rows)
  (hb:(L.rows.length+rows.length)*b≤140737488355328) (hb2:L.rows.length+rows.length≤9223372036854775807):Z33 c S (.app e n b x y) (.osl (Zj S.ss)) (S.app j ⟨e,n,L.rows++rows⟩):=by
 intro ro hop M a w hRT next Q hnx
 obtain ⟨dst,op,ty,pos,af,gd⟩:=ro
 dsimp only at hop
 obtain ⟨t,p,q,i,z,rfl,hu,hi,hz,hsz,hbz,hzc,hn0,rfl,rfl⟩:=cO_app hop
 subst hT;subst hn
 have h1:=Z12 hRT p
 have h2:=Z12 hRT q
 rw [hx] at h1
 obtain ⟨vss,g1,g2,g3⟩:=src_of hRT h2 hy
 have hS:=hRT.st
 obtain ⟨k0,us,k1,k2,k3,k4⟩:=hS.slc j L hj
 have k3':=k3
 rw [←h1.2] at k3'
 obtain ⟨v',w',r1,r2,r3,r4⟩:=app_run (ty:=ty) hu hi hz (by rw [hzc,hsz]) (by omega) (by rw [hsz];exact k3') (by rw [hsz];exact g2) g3 (by unfold maxLen;omega) (by rw [hbz];exact hb)
 rw [hsz] at r2
 have hrun:=app_exec dst ty pos af gd r1
 unfold Oper.wp
 rw [hrun]
 rw [h1.2] at r3 r4
 have hr:RelS c (M.addS v') S.bs (Zg S.ss j none++[some (⟨L.T,L.n,L.rows++rows⟩:Sl)]) w':=by
  refine RelS.grown (v:=M.σ j) (vss:=us++vss) hS (Ze1 _ _ _) ?_ ?_ k4 r3 r4 k0 (Z94 k1 g1) ?_ ?_
  ·intro i N hi
   rw [Zd1] at hi
   split at hi
   ·simp at hi
   ·rename_i e
    refine ⟨hi,fun g hg e2=>e ⟨?_,Zf1 hj⟩⟩
    exact hS.d3 i j N L g hi hj e2 hg
  ·right;intro i B hi;exact hS.d2 i j B L hi hj
  ·intro x hx
   rw [List.flatten_append,List.mem_append] at hx
   rcases hx with hx | hx
   ·exact k2 x hx
   ·exact g3 x hx
  ·rw [List.flatten_append,List.length_append];exact r2
 refine hnx (M.addS v') w' v' (Mem.le_addS M v') hr ?_
 rw [Z91,←hS.ns]
 exact ⟨Nat.lt_succ_self _,by simp [Mem.addS]⟩
theorem V_app {d:Option Nat} {g:Option (Nat×Bool)} {l:List EOp} {e n b j:Nat} {x y:X} {L:Sl} {rows:List (List AV)} (hg:gm S g) (hx:S.x x = .osl j) (hj:Zf S.ss j=some L) (hT:L.T=e) (hn:L.n=n) (hy:Z21 S n (S.x y)=some rows)
  (hb:(L.rows.length+rows.length)*b≤140737488355328) (hb2:L.rows.length+rows.length≤9223372036854775807)
  (h:V c fn K (.ops l::k) ((S.app j ⟨e,n,L.rows++rows⟩).put d (.osl (Zj S.ss)))):V c fn K (.ops (⟨d,g,.app e n b x y⟩::l)::k) S:=
 Z43 hg (sem_app hx hj hT hn hy hb hb2) rfl h
theorem GO_app {all:Array Oper} {ops:List EOp} {af:List (List Nat)} {Φ:St→Prop} {m:Nat} {ld:List Bool} (hall:all.toList.mapM (Za c.P all)=some ops) {i e n b j:Nat} {x y:X} {L:Sl} {rows:List (List AV)} (ho:(Z61 ops i).o = .app e n b x y) (hg:gm S (Z61 ops i).g)
  (hx:S.x x = .osl j) (hj:Zf S.ss j=some L) (hT:L.T=e) (hn:L.n=n) (hy:Z21 S n (S.x y)=some rows)
  (hb:(L.rows.length+rows.length)*b≤140737488355328) (hb2:L.rows.length+rows.length≤9223372036854775807)
  (h:G c all ops af Φ m (Z31 ld i) ((S.app j ⟨e,n,L.rows++rows⟩).put (Z61 ops i).d (.osl (Zj S.ss)))):GO c all ops af Φ m ld S i:=
 Z54 (S1:=S.app j ⟨e,n,L.rows++rows⟩) hall hg (by rw [ho];exact sem_app hx hj hT hn hy hb hb2) rfl (by rw [ho];exact fun _ _ _ _ h _ _=>h) h
end
mutual
theorem ren_is {M M':Mem} {p q:Nat} (hM:M'.pure=M.pure) (hb:M'.nb=M.nb) (hs:M'.ns=M.ns) (hρ:∀i,M'.ρ i=M.ρ i) (hσ:∀i,i≠q→M'.σ i=M.σ i) (hq:M'.σ q=M.σ p) (hqn:q<M.ns) (hH:M'.H=M.H):
  ∀(x:AV) (v:Value),x.is M v→(AV.ren p q x).is M' v
 | .any,_,_=>trivial
 | .un,_,k=>k
 | .tt,_,k=>k
 | .ff,_,k=>k
 | .bv _,_,k=>k
 | .iv _,_,k=>k
 | .kv _ _,_,k=>k
 | .sv _,_,k=>k
 | .nl,_,k=>k
 | .nlp,_,k=>k
 | .fn _,_,k=>k
 | .ptr i o,_,k=>⟨by rw [hb];exact k.1,by rw [hρ i];exact k.2⟩
 | .osl i,v,k=>by
   simp only [AV.ren]
   split
   ·rename_i h;simp at h;subst h;exact ⟨by rw [hs];exact hqn,by rw [hq];exact k.2⟩
   ·split
    ·trivial
    ·rename_i h;simp at h;exact ⟨by rw [hs];exact k.1,by rw [hσ i h];exact k.2⟩
 | .oel i a b,v,k=>by
   simp only [AV.ren]
   split
   ·rename_i h;simp at h;subst h;exact ⟨by rw [hs];exact hqn,by rw [hq];exact k.2⟩
   ·split
    ·trivial
    ·rename_i h;simp at h;exact ⟨by rw [hs];exact k.1,by rw [hσ i h];exact k.2⟩
 | .ocs i a n b,v,k=>by
   simp only [AV.ren]
   split
   ·rename_i h;simp at h;subst h;exact ⟨by rw [hs];exact hqn,by rw [hq];exact k.2⟩
   ·split
    ·trivial
    ·rename_i h;simp at h;exact ⟨by rw [hs];exact k.1,by rw [hσ i h];exact k.2⟩
 | .elt row o,_,⟨a,vs,h1,h2,h3⟩=>⟨a,vs,h1,by rw [hM];exact h2,by rw [hH];exact h3⟩
 | .sl n rows,_,⟨a,c,h1,h2,h3⟩=>⟨a,c,h1,h2,fun hne=>let ⟨ad,vss,g1,g2,g3⟩:=h3 hne;⟨ad,vss,g1,by rw [hM];exact g2,by rw [hH];exact g3⟩⟩
 | .agg l,_,⟨vs,h1,h2⟩=>⟨vs,h1,Zb4 hM hb hs hρ hσ hq hqn hH l vs h2⟩
 | .tup l,_,⟨vs,h1,h2⟩=>⟨vs,h1,Zb4 hM hb hs hρ hσ hq hqn hH l vs h2⟩
 | .clo _ l,_,⟨vs,h1,h2⟩=>⟨vs,h1,Zb4 hM hb hs hρ hσ hq hqn hH l vs h2⟩
theorem Zb4 {M M':Mem} {p q:Nat} (hM:M'.pure=M.pure) (hb:M'.nb=M.nb) (hs:M'.ns=M.ns) (hρ:∀i,M'.ρ i=M.ρ i) (hσ:∀i,i≠q→M'.σ i=M.σ i) (hq:M'.σ q=M.σ p) (hqn:q<M.ns) (hH:M'.H=M.H):
  ∀(l:List AV) (vs:List Value),AV.isL M l vs→AV.isL M' (renL p q l) vs
 | [],_,k=>k
 | x::l,_,⟨v,vs,h1,h2,h3⟩=>⟨v,vs,h1,ren_is hM hb hs hρ hσ hq hqn hH x v h2,Zb4 hM hb hs hρ hσ hq hqn hH l vs h3⟩
end
theorem renL_get (p q:Nat):∀(l:List AV) (t:Nat),Zd (renL p q l) t=AV.ren p q (Zd l t)
 | [],_=>rfl
 | _::_,0=>rfl
 | _::l,t+1=>renL_get p q l t
theorem Zc4 (p q:Nat):∀(l:List AV),(renL p q l).length=l.length
 | []=>rfl
 | _::l=>by simp [renL,Zc4 p q l]
section
variable {c:Ctx} {S:St} {fn:Func} {K:AV→List (Option Blk)→List (Option Sl)→Prop} {k:List It}
theorem Zd4 (p q:Nat) {L:Sl} (hp:Zf S.ss p=some L) (hq:Z3 (q+1) (Zj S.ss)=true) (hpq:(p==q)=false) (h:V c fn K k (S.renS p q L)) (hqn:Z3 c.nq q=true:=by rfl) (hpr:puSS S.ss=true:=by first | rfl | simp [go_sem]):V c fn K k S:=by
 intro rk M a w hc hT
 have hS:=hT.st
 rw [Z81,Z91] at hq
 have hne:p≠q:=by simpa using hpq
 have hpn:=Zf1 hp
 let M':Mem:= {M with σ:=fun i=>if i=q then M.σ p else M.σ i}
 have hq':M'.σ q=M.σ p:=if_pos rfl
 have hσ:∀i,i≠q→M'.σ i=M.σ i:=fun i hi=>if_neg hi
 have hsub:=ren_is (M:=M) (M':=M') (p:=p) (q:=q) rfl rfl rfl (fun _=>rfl) hσ hq' (by rw [hS.ns];omega) rfl
 have hsubL:=Zb4 (M:=M) (M':=M') (p:=p) (q:=q) rfl rfl rfl (fun _=>rfl) hσ hq' (by rw [hS.ns];omega) rfl
 have live:∀i N,Zf (Zg (Zg S.ss p none) q (some L)) i=some N→(i=q∧N=L)∨(i≠q∧i≠p∧Zf S.ss i=some N):=by
  intro i N hi
  rw [Zd1,Zd1,Ze1] at hi
  split at hi
  ·rename_i e;left;exact ⟨e.1,by simpa using hi.symm⟩
  ·rename_i e
   split at hi
   ·simp at hi
   ·rename_i e2
    right;exact ⟨fun x=>e ⟨x,by omega⟩,fun x=>e2 ⟨x,hpn⟩,hi⟩
 have back:∀i N,Zf (Zg (Zg S.ss p none) q (some L)) i=some N→∃i',Zf S.ss i'=some N∧M'.σ i=M.σ i'∧(i=q→i'=p)∧(i≠q→i'=i∧i≠p):=by
  intro i N hi
  rcases live i N hi with ⟨rfl,rfl⟩ | ⟨h1,h2,h3⟩
  ·exact ⟨p,hp,hq',fun _=>rfl,fun h=>absurd rfl h⟩
  ·exact ⟨i,h3,hσ i h1,fun h=>absurd h h1,fun _=>⟨rfl,h2⟩⟩
 refine h rk M' a w hc ⟨by simp only [St.renS,Zc4];exact hT.len,fun t=>?_,hT.df,?_⟩
 ·simp only [St.renS,renL_get]
  exact hsub _ _ (hT.tm t)
 refine ⟨by simp only [St.renS,Zd3];exact hS.nb,by simp only [St.renS,Ze1];exact hS.ns,?_,hS.os,hS.tape,hS.output,hS.size,hS.block,hS.hle,hS.hold,?_,?_,?_,?_,?_,⟨hS.pin.nb,hS.pin.ρ,hS.pin.ns,fun j hj=>by rw [hσ j (by rw [Z81] at hqn;omega)];exact hS.pin.σ j hj,hS.pin.gl⟩⟩
 ·intro i hi
  by_cases e:i=q
  ·rw [e,hq'];exact hS.so p (by rw [hS.ns];exact hpn)
  ·rw [hσ i e];exact hS.so i hi
 ·intro i B hi
  obtain ⟨C,hC,rfl⟩:=Ze3 _ _ _ _ hi
  obtain ⟨g1,g2,vs,g3,g4,g5⟩:=hS.blk i C hC
  exact ⟨g1,g2,vs,hsubL _ _ g3,g4,g5⟩
 ·intro i N hi
  obtain ⟨i',h1,h2,_⟩:=back i N hi
  rw [h2]
  obtain ⟨q0,us,q1,q2,q3,q4⟩:=hS.slc i' N h1
  exact ⟨q0,us,Zq1 (Zm1 M') _ _ _ (Zf3 (M:=M) _ _ q1 (puSS_get hpr h1)),q2,q3,q4⟩
 ·intro i t B C hi ht e
  obtain ⟨B',hB,_⟩:=Ze3 _ _ _ _ hi
  obtain ⟨C',hC,_⟩:=Ze3 _ _ _ _ ht
  exact hS.d1 i t B' C' hB hC e
 ·intro i t B N hi ht
  obtain ⟨B',hB,_⟩:=Ze3 _ _ _ _ hi
  obtain ⟨t',h1,h2,_⟩:=back t N ht
  rw [h2];exact hS.d2 i t' B' N hB h1
 ·intro i t N O g hi ht e1 e2
  obtain ⟨i',h1,h2,h3,h4⟩:=back i N hi
  obtain ⟨t',k1,k2,k3,k4⟩:=back t O ht
  rw [h2] at e1;rw [k2] at e2
  have e:=hS.d3 i' t' N O g h1 k1 e1 e2
  by_cases hiq:i=q<;>by_cases htq:t=q
  ·rw [hiq,htq]
  ·have:=h3 hiq;have:=(k4 htq).1;have:=(k4 htq).2;omega
  ·have:=k3 htq;have:=(h4 hiq).1;have:=(h4 hiq).2;omega
  ·have:=(h4 hiq).1;have:=(k4 htq).1;omega
theorem Ze4 (t T n:Nat) (ht:Zd S.tm t = .nl) (hn:Z3 1 n=true) (h:V c fn K k ⟨Ze S.tm t (.osl (Zj S.ss)),S.bs,S.ss++[some ⟨T,n,[]⟩]⟩):V c fn K k S:=by
 intro rk M a w hc hT
 have hS:=hT.st
 rw [Z81] at hn
 have hr:=hS.name ⟨T,n,[]⟩ (.slice none 0 0) [] hn rfl (by simp) (World.ownsRow_nil w 0 T n) (fun g hg=>by simp [Value.ownBlock] at hg) (fun i B _=>by simp [Value.ownBlock]) (fun j N g _ hg=>by simp [Value.ownBlock] at hg)
 have hle:=Mem.le_addS M (.slice none 0 0)
 refine h rk _ a w hc ⟨by rw [Zb1];exact hT.len,fun u=>?_,hT.df,hr⟩
 rw [Za1]
 split
 ·rename_i e
  have:=hT.tm t
  rw [ht] at this
  rw [e.1,Z91,←hS.ns]
  refine ⟨Nat.lt_succ_self _,?_⟩
  simp only [Mem.addS,if_true]
  exact this
 ·exact Zo1 hle _ _ (hT.tm u)
theorem V_ownB (j o T n:Nat) {B:Blk} (hj:Zf S.bs j=some B) (ho:Zd B.cells o = .nl) (hn:Z3 1 n=true) (h:V c fn K k ⟨S.tm,Zg S.bs j (some ⟨B.T,Ze B.cells o (.osl (Zj S.ss))⟩),S.ss++[some ⟨T,n,[]⟩]⟩):V c fn K k S:=by
 intro rk M a w hc hT
 have hS:=hT.st
 rw [Z81] at hn
 have hr:=hS.name ⟨T,n,[]⟩ (.slice none 0 0) [] hn rfl (by simp) (World.ownsRow_nil w 0 T n) (fun g hg=>by simp [Value.ownBlock] at hg) (fun i B _=>by simp [Value.ownBlock]) (fun j N g _ hg=>by simp [Value.ownBlock] at hg)
 have hle:=Mem.le_addS M (.slice none 0 0)
 obtain ⟨m1,m2,vs,m3,m4,m5⟩:=hr.blk j B hj
 have hcells:AV.isL (M.addS (.slice none 0 0)) (Ze B.cells o (.osl (Zj S.ss))) vs:=by
  have hl:=Zi1 m3
  refine isL_mk (by rw [Zb1];exact hl.symm) fun i x v hx hv=>?_
  have hlt:i<B.cells.length:=by rw [←hl];exact (List.getElem?_eq_some_iff.1 hv).1
  have gl:∀(l:List AV) (i:Nat) (x:AV),l[i]?=some x→Zd l i=x:=by
   intro l
   induction l with
   | nil=>intro i x h;simp at h
   | cons y l ih=>intro i x h;cases i with
     | zero=>simpa [Zd] using h
     | succ i=>exact ih i x (by simpa using h)
  have e1:=gl _ _ _ hx
  rw [Za1] at e1
  split at e1
  ·rename_i e
   obtain ⟨rfl,_⟩:=e
   subst e1
   have hc0:B.cells[i]?=some (.nl):=by
    rw [List.getElem?_eq_getElem hlt]
    have:=gl _ _ _ (List.getElem?_eq_getElem hlt)
    rw [←this,ho]
   have:=isL_get m3 i .nl v hc0 hv
   rw [Z91,←hS.ns]
   refine ⟨Nat.lt_succ_self _,?_⟩
   simp only [Mem.addS,if_true]
   exact this
  ·have:=Z13 m3 i hlt
   rw [e1] at this
   rw [List.getD_eq_getElem?_getD,hv] at this
   exact this
 have hlt:=Zf1 hj
 refine h rk _ a w hc ⟨hT.len,fun u=>Zo1 hle _ _ (hT.tm u),hT.df,?_⟩
 have old:∀i C,Zf (Zg S.bs j (some (⟨B.T,Ze B.cells o (.osl (Zj S.ss))⟩:Blk))) i=some C→(i=j∧C=⟨B.T,Ze B.cells o (.osl (Zj S.ss))⟩)∨(i≠j∧Zf S.bs i=some C):=by
  intro i C hi
  rw [Zd1] at hi
  split at hi
  ·rename_i e;left;exact ⟨e.1,by simpa using hi.symm⟩
  ·rename_i e;right;exact ⟨fun x=>e ⟨x,hlt⟩,hi⟩
 have live:∀i C,Zf (Zg S.bs j (some (⟨B.T,Ze B.cells o (.osl (Zj S.ss))⟩:Blk))) i=some C→∃D,Zf S.bs i=some D:=by
  intro i C hi
  rcases old i C hi with ⟨rfl,_⟩ | ⟨_,h⟩
  ·exact ⟨B,hj⟩
  ·exact ⟨_,h⟩
 refine ⟨by rw [Ze1];exact hr.nb,hr.ns,hr.so,hr.os,hr.tape,hr.output,hr.size,hr.block,hr.hle,hr.hold,?_,hr.slc,?_,?_,hr.d3,hr.pin⟩
 ·intro i C hi
  rcases old i C hi with ⟨rfl,rfl⟩ | ⟨_,h⟩
  ·exact ⟨m1,m2,vs,hcells,m4,m5⟩
  ·exact hr.blk i C h
 ·intro i t C D hi ht e
  obtain ⟨C',hC⟩:=live i C hi
  obtain ⟨D',hD⟩:=live t D ht
  exact hr.d1 i t C' D' hC hD e
 ·intro i t C N hi ht
  obtain ⟨C',hC⟩:=live i C hi
  exact hr.d2 i t C' N hC ht
end
end NX
end Go.Proofs.YthlodgjekbidcaaGreat
/-
  The symbolic machine: a slice that is built and sealed at once. No statement of the seat is proved here.
-/
namespace Go.Proofs.YthlodgjekbidcaaGreat
namespace NX
open Go Go.RowKit
section
variable {c:Ctx} {S:St}
mutual
theorem subO_pu (j:Nat) (r:AV):∀(x:AV),x.pu=true→AV.subO j r x=x:=by
 intro x h
 cases x<;>simp_all [AV.pu,AV.subO]
 all_goals exact subOL_pu j r _ h
theorem subOL_pu (j:Nat) (r:AV):∀(l:List AV),Zo l=true→Z01 j r l=l
 | [],_=>rfl
 | x::l,h=>by
   simp only [Zo] at h
   cases hx:x.pu<;>simp [hx,Z2] at h
   simp [Z01,subO_pu j r x hx,subOL_pu j r l h]
end
section
variable {all:Array Oper} {ops:List EOp} {af:List (List Nat)} {Φ:St→Prop} {m:Nat} {ld:List Bool}
end
end
end NX
end Go.Proofs.YthlodgjekbidcaaGreat
/-
  The symbolic machine: all of it. No statement of the seat is proved here.
-/
namespace Go.Proofs.YthlodgjekbidcaaGreat
namespace NX
attribute [go_sem] St.init lun run Zv gun ev1 ev St.x St.put Zd Ze AV.cells Zj Zk AV.one Zu Zf Zg Zh tf lgt eqA eqLeaf intA Zt ngB ltk ldr lwr Zi binI Zp binK shK mkI keq strI Z2 Z3 Zl Zq Zr Zs mmI ltake ldrop Zm Zn AV.pu Zo unw AV.ok Zx okB Zy okSS Zz puSS St.ok resL resV AV.subO Z01 AV.subB Z11 mapB St.sealS St.sealB AV.ren renL St.renS Z21 AV.le.leL leT leB leS St.le List.cons_append List.nil_append Option.map gm gst tkv gpick grun geO rd isLd isSt orb frB stB bget bgf Z31 Z41 rdy memN Z51 Z61 Zq3
def leO:Option AV→AV→Prop
 | some x,y=>x.le y
 | none,_=>False
attribute [go_sem] leO
theorem V_done {P:Program} {w0:World} {H0:Frag} {f:Nat} {fn:Func} {body:EC} {rs:List ERes} {np nt:Nat} {k:List It} {S:St} {res:AV} (ok:FnOK P f fn body rs np nt)
  (h:leO (resV S rs) res):V (Ctx.of P w0 H0) fn (fun x _ _=>x.le res) (.code .ret::k) S:=by
 cases hx:resV S rs with
 | none=>rw [hx] at h;exact h.elim
 | some x=>rw [hx] at h;exact V_ret ok.r hx h
mutual
theorem pu_ok {nb ns:Nat}:∀x:AV,x.pu=true→x.ok nb ns=true
 | .any,_ | .un,_ | .tt,_ | .ff,_ | .bv _,_ | .iv _,_ | .kv _ _,_ | .sv _,_ | .nl,_ | .nlp,_ | .fn _,_ | .elt _ _,_ | .sl _ _,_=>rfl
 | .ptr _ _,h | .osl _,h | .oel _ _ _,h | .ocs _ _ _ _,h=>by simp [AV.pu] at h
 | .agg l,h=>Zf4 l h
 | .tup l,h=>Zf4 l h
 | .clo _ l,h=>Zf4 l h
theorem Zf4 {nb ns:Nat}:∀l:List AV,Zo l=true→Zx nb ns l=true
 | [],_=>rfl
 | x::l,h=>by
   simp only [Zo,Z71] at h
   simp only [Zx,Z71]
   exact ⟨pu_ok x h.1,Zf4 l h.2⟩
end
mutual
theorem le_refl:∀x:AV,x.le x
 | .any | .un | .tt | .ff | .bv _ | .iv _ | .kv _ _ | .sv _ | .nl | .nlp | .fn _ | .ptr _ _ | .osl _ | .oel _ _ _ | .ocs _ _ _ _=>by simp [AV.le]
 | .elt row _=>⟨Zg4 row,rfl⟩
 | .sl _ _=>⟨rfl,rfl,fun _ _ h=>h⟩
 | .agg l=>Zg4 l
 | .tup l=>Zg4 l
 | .clo _ l=>⟨rfl,Zg4 l⟩
theorem Zg4:∀l:List AV,AV.le.leL l l
 | []=>trivial
 | x::l=>⟨le_refl x,Zg4 l⟩
end
theorem le_any (x:AV):x.le .any=True:=by simp [AV.le]
theorem le_self (x:AV):x.le x=True:=by simp [le_refl]
theorem leL_self (l:List AV):AV.le.leL l l=True:=by simp [Zg4]
theorem le_iv (a b:Int):AV.le (.iv a) (.iv b)=(a=b):=by simp [AV.le]
theorem le_bv (a b:Bool):AV.le (.bv a) (.bv b)=(a=b):=by simp [AV.le]
theorem le_tt_bv (b:Bool):AV.le .tt (.bv b)=(b=true):=by simp [AV.le]
theorem le_ff_bv (b:Bool):AV.le .ff (.bv b)=(b=false):=by simp [AV.le]
theorem le_bv_tt (b:Bool):AV.le (.bv b) .tt=(b=true):=by simp [AV.le]
theorem le_bv_ff (b:Bool):AV.le (.bv b) .ff=(b=false):=by simp [AV.le]
theorem le_nl_sl (n:Nat) (d:List (List AV)):AV.le .nl (.sl n d)=(d=[]):=by simp [AV.le]
theorem le_sl (n m:Nat) (d e:List (List AV)):AV.le (.sl n d) (.sl m e)=(n=m∧Zw n d e):=by simp [AV.le]
theorem le_agg (a b:List AV):AV.le (.agg a) (.agg b)=AV.le.leL a b:=by simp [AV.le]
theorem le_tup (a b:List AV):AV.le (.tup a) (.tup b)=AV.le.leL a b:=by simp [AV.le]
theorem le_elt (a b:List AV) (i j:Nat):AV.le (.elt a i) (.elt b j)=(AV.le.leL a b∧i=j):=by simp [AV.le]
theorem le_clo (a b:List AV) (i j:Nat):AV.le (.clo i a) (.clo j b)=(i=j∧AV.le.leL a b):=by simp [AV.le]
theorem leRows_self (n:Nat) (d:List (List AV)):Zw n d d=True:=by simp [Zw]
attribute [go_sem] le_any le_self leL_self le_iv le_bv le_tt_bv le_ff_bv le_bv_tt le_bv_ff le_nl_sl le_sl le_agg le_tup le_elt le_clo leRows_self
end NX
end Go.Proofs.YthlodgjekbidcaaGreat
namespace Go.Proofs.YthlodgjekbidcaaGreat
namespace NX
open Go Go.RowKit
def ifb {α:Type} (e:Bool) (a b:Option α):Option α:=match e with | true=>a | false=>b
def at_ {α:Type} (l:List α) (i:Int):Option α:=if 0≤i then l[i.toNat]? else none
def Zh4 {α:Type} (bytes:Nat) (l m:List α):Option (List α):=if (l.length+m.length)*bytes≤140737488355328∧l.length+m.length≤9223372036854775807 then some (l++m) else none
def Zi4 {α:Type} (l:List α) (lo hi:Int):Option (List α):=if 0≤lo∧lo≤hi∧hi≤l.length then some ((l.take hi.toNat).drop lo.toNat) else none
def Zj4 {σ β:Type} (body:σ→Option (σ ⊕ β)):Nat→σ→Option β
 | 0,_=>none
 | n+1,s=>match body s with
   | none=>none
   | some (.inl s')=>Zj4 body n s'
   | some (.inr r)=>some r
theorem Zk4 {σ β:Type} {body:σ→Option (σ ⊕ β)}:∀ {n:Nat} {s:σ} {r:β},Zj4 body n s=some r→∀m,n≤m→Zj4 body m s=some r
 | 0,_,_,h,_,_=>by simp [Zj4] at h
 | n+1,s,r,h,m,hm=>by
   obtain ⟨m,rfl⟩:∃k,m=k+1:=⟨m-1,by omega⟩
   simp only [Zj4] at h ⊢
   split at h<;>simp_all
   exact Zk4 h m (by omega)
open Classical in
noncomputable def loop {σ β:Type} (body:σ→Option (σ ⊕ β)) (s:σ):Option β:=
 if h:∃r n,Zj4 body n s=some r then some h.choose else none
theorem Zl4 {σ β:Type} {body:σ→Option (σ ⊕ β)} {s:σ} {r:β}:loop body s=some r↔∃n,Zj4 body n s=some r:=by
 unfold loop
 constructor
 ·intro h
  split at h
  ·rename_i hx
   simp at h;subst h
   exact hx.choose_spec
  ·simp at h
 ·rintro ⟨n,h⟩
  have hx:∃r n,Zj4 body n s=some r:=⟨r,n,h⟩
  rw [dif_pos hx]
  obtain ⟨m,hm⟩:=hx.choose_spec
  have h1:=Zk4 h (max n m) (Nat.le_max_left _ _)
  have h2:=Zk4 hm (max n m) (Nat.le_max_right _ _)
  rw [h1] at h2
  exact h2.symm
theorem Zm4 {σ β:Type} (body:σ→Option (σ ⊕ β)) (s:σ):loop body s=match body s with | none=>none | some (.inl s')=>loop body s' | some (.inr r)=>some r:=by
 apply Option.ext
 intro r
 rw [Zl4]
 cases hb:body s with
 | none=>
   constructor
   ·rintro ⟨n,h⟩
    cases n<;>simp [Zj4,hb] at h
   ·intro h;simp at h
 | some y=>
   cases y with
   | inl s'=>
     dsimp only
     rw [Zl4]
     constructor
     ·rintro ⟨n,h⟩
      cases n with
      | zero=>simp [Zj4] at h
      | succ n=>exact ⟨n,by simpa [Zj4,hb] using h⟩
     ·rintro ⟨n,h⟩
      exact ⟨n+1,by simpa [Zj4,hb] using h⟩
   | inr r'=>
     constructor
     ·rintro ⟨n,h⟩
      cases n with
      | zero=>simp [Zj4] at h
      | succ n=>simpa [Zj4,hb] using h
     ·intro h
      exact ⟨1,by simpa [Zj4,hb] using h⟩
structure ole {α:Type} (a b:Option α):Prop where
 h:∀r,a=some r→b=some r
theorem Zn4 {α:Type} (a:Option α):ole a a:=⟨fun _ h=>h⟩
theorem Zo4 {α:Type} {e:Bool} {a a' b b':Option α} (h1:ole a a') (h2:ole b b'):ole (ifb e a b) (ifb e a' b'):=by cases e<;>assumption
theorem Zp4 {α β:Type} {a a':Option α} {f f':α→Option β} (h1:ole a a') (h2:∀x,ole (f x) (f' x)):ole (a.bind f) (a'.bind f'):=by
 refine ⟨fun r h=>?_⟩
 obtain ⟨x,hx,h⟩:=Option.bind_eq_some_iff.1 h
 exact Option.bind_eq_some_iff.2 ⟨x,h1.h x hx,(h2 x).h r h⟩
theorem Zq4 {α β:Type} {a a':Option α} {f:α→β} (h1:ole a a'):ole (a.map f) (a'.map f):=by
 refine ⟨fun r h=>?_⟩
 obtain ⟨x,hx,h⟩:=Option.map_eq_some_iff.1 h
 exact Option.map_eq_some_iff.2 ⟨x,h1.h x hx,h⟩
def Zr4 (F:Nat) {σ β:Type} (body:σ→Option (σ ⊕ β)) (s:σ):Option β:=Zj4 body F s
theorem Zs4 {F:Nat} {σ β:Type} {body body':σ→Option (σ ⊕ β)} {s:σ} (h:∀s,ole (body s) (body' s)):ole (Zr4 F body s) (loop body' s):=by
 refine ⟨fun r hr=>?_⟩
 rw [Zl4]
 refine ⟨F,?_⟩
 unfold Zr4 at hr
 revert s
 induction F with
 | zero=>intro s hr;simp [Zj4] at hr
 | succ F ih=>
   intro s hr
   simp only [Zj4] at hr ⊢
   cases hb:body s with
   | none=>rw [hb] at hr;simp at hr
   | some y=>
     rw [hb] at hr
     rw [(h s).h y hb]
     cases y with
     | inl s'=>exact ih hr
     | inr r'=>exact hr
theorem Zt4 {α β:Type} {m:Option β} {y:α ⊕ β} {r:β} (h:m.map Sum.inr=some y) (ho:∀r',y = .inr r'→r'=r):m=some r:=by
 cases m with
 | none=>simp at h
 | some v=>simp at h;rw [ho v h.symm]
section
variable {c:Ctx} {fn:Func} {K:AV→List (Option Blk)→List (Option Sl)→Prop} {k:List It} {S:St} {α β σ:Type} {b:Nat}
theorem Zu4 {x:It} (Sx:σ→St) (m:σ→Option β) (r:β) (hJ:∀s,m s=some r→V c fn K k (Sx s)) (h:(∀s,m s=some r→V c fn K k (Sx s))→V c fn K (x::k) S):V c fn K (x::k) S:=h hJ
theorem Zv4 {b:EC} {body:σ→Option (σ ⊕ β)} {s0:σ} {r:β} (h:loop body s0=some r) (Sx:σ→St) (h0:S.le (Sx s0)) (hok:∀s,(Sx s).ok=true)
  (hb:∀n s y,body s=some y→(∀s',y = .inl s'→V c fn K (.lp b n::k) (Sx s'))→(∀r',y = .inr r'→r'=r)→V c fn K (.code b :: .lp b n::k) (Sx s)) (hpn:Z3 c.np (Zj (Sx s0).bs)=true:=by rfl) (hqn:Z3 c.nq (Zj (Sx s0).ss)=true:=by rfl):V c fn K (.code (.loop b)::k) S:=by
 obtain ⟨n,hn⟩:=Zl4.1 h
 refine V_loop (X:=Nat×σ) (fun x=>Zj4 body x.1 x.2=some r) (fun x=>Sx x.2) (fun x=>x.1) (n,s0) h0 (hok _) hpn hqn hn ?_
 rintro m ⟨n,s⟩ hx ih
 cases n with
 | zero=>simp [Zj4] at hx
 | succ n=>
   simp only [Zj4] at hx
   cases hy:body s with
   | none=>simp [hy] at hx
   | some y=>
     refine hb m s y hy ?_ ?_
     ·rintro s' rfl
      rw [hy] at hx
      exact ih (n,s') hx (Nat.lt_succ_self _)
     ·rintro r' rfl
      rw [hy] at hx
      simpa using hx
theorem Zw4 {o:X} {a b:EC} {e:Bool} {A B:Option β} {r:β} (h:ifb e A B=some r) (hx:S.x o = .bv e) (h1:e=true→A=some r→V c fn K (.code a::k) S) (h2:e=false→B=some r→V c fn K (.code b::k) S):V c fn K (.code (.ite o a b)::k) S:=
 V_ite hx (fun e1=>h1 e1 (by subst e1;exact h)) (fun e1=>h2 e1 (by subst e1;exact h))
theorem Zx4 {l:List α} {i:Int} {v:α} (h:at_ l i=some v):0≤i∧l[i.toNat]?=some v:=by
 unfold at_ at h
 split at h
 ·exact ⟨by assumption,h⟩
 ·simp at h
theorem Zy4 {f:α→List AV} {l:List α} {n:Nat} {v:α} (h:l[n]?=some v):(l.map f)[n]?=some (f v):=by rw [List.getElem?_map,h];rfl
theorem Zz4 {l':List α} {i:Int} {v:α} {d:Option Nat} {g:Option (Nat×Bool)} {n m:Nat} {x y:X} {l:List EOp} (f:α→List AV) (hv:at_ l' i=some v) (hg:gm S g) (hx:S.x x = .sl m (l'.map f)) (hi:S.x y = .iv i) (hmn:m=n)
  (h':V c fn K (.ops l::k) (S.put d (.elt (f v) 0))):V c fn K (.ops (⟨d,g,.idx n x y⟩::l)::k) S:=by
 obtain ⟨h0,hr⟩:=Zx4 hv
 exact V_idx (f v) hg hx hi hmn h0 (Zy4 hr) h'
theorem Z05 {all:Array Oper} {ops:List EOp} {af:List (List Nat)} {Φ:St→Prop} {m:Nat} {ld:List Bool} {nap:List (List Nat)} (hall:all.toList.mapM (Za c.P all)=some ops) (hsel:Region.noSelect all=true) (haf:af=Zb all) (hnap:nap=Zc all) (i:Nat) {l':List α} {j:Int} {v:α} {n k:Nat} {x y:X} (f:α→List AV) (hv:at_ l' j=some v)
  (hi:memN i (rdy ld af 0)=true) (ho:(Z61 ops i).o = .idx n x y) (hg:gm S (Z61 ops i).g) (hx:S.x x = .sl k (l'.map f)) (hy:S.x y = .iv j) (hmn:k=n)
  (hf:frB ld af i (Z51 nap i)=true) (h:G c all ops af Φ m (Z31 ld i) (S.put (Z61 ops i).d (.elt (f v) 0))):G c all ops af Φ (m+1) ld S:=by
 obtain ⟨h0,hr⟩:=Zx4 hv
 exact G_idx hall hsel haf hnap i (f v) hi ho hg hx hy hmn h0 (Zy4 hr) hf h
theorem app_some {b:Nat} {l m v:List α} (h:Zh4 b l m=some v):v=l++m∧(l.length+m.length)*b≤140737488355328∧l.length+m.length≤9223372036854775807:=by
 unfold Zh4 at h
 split at h
 ·rename_i h1
  simp at h;exact ⟨h.symm,h1⟩
 ·simp at h
theorem Z15 {l' m' v:List α} {d:Option Nat} {g:Option (Nat×Bool)} {l:List EOp} {e n b j:Nat} {x y:X} (f:α→List AV) (hv:Zh4 b l' m'=some v) (hg:gm S g) (hx:S.x x = .osl j) (hj:Zf S.ss j=some ⟨e,n,l'.map f⟩) (hy:Z21 S n (S.x y)=some (m'.map f))
  (h':V c fn K (.ops l::k) ((S.app j ⟨e,n,v.map f⟩).put d (.osl (Zj S.ss)))):V c fn K (.ops (⟨d,g,.app e n b x y⟩::l)::k) S:=by
 obtain ⟨h0,h1,h2⟩:=app_some hv
 subst h0
 rw [List.map_append] at h'
 exact V_app hg hx hj rfl rfl hy (by simpa using h1) (by simpa using h2) h'
theorem Z25 {all:Array Oper} {ops:List EOp} {af:List (List Nat)} {Φ:St→Prop} {m:Nat} {ld:List Bool} {l' m' v:List α} (f:α→List AV) (hv:Zh4 b l' m'=some v) (hall:all.toList.mapM (Za c.P all)=some ops) {i e n j:Nat} {x y:X} (ho:(Z61 ops i).o = .app e n b x y) (hg:gm S (Z61 ops i).g)
  (hx:S.x x = .osl j) (hj:Zf S.ss j=some ⟨e,n,l'.map f⟩) (hy:Z21 S n (S.x y)=some (m'.map f))
  (h:G c all ops af Φ m (Z31 ld i) ((S.app j ⟨e,n,v.map f⟩).put (Z61 ops i).d (.osl (Zj S.ss)))):GO c all ops af Φ m ld S i:=by
 obtain ⟨h0,h1,h2⟩:=app_some hv
 subst h0
 rw [List.map_append] at h
 exact GO_app hall ho hg hx hj rfl rfl hy (by simpa using h1) (by simpa using h2) h
theorem V_case (t:Nat) {e:Bool} (ht:Zd S.tm t = .bv e) (h1:e=true→V c fn K k ⟨Ze S.tm t .tt,S.bs,S.ss⟩) (h2:e=false→V c fn K k ⟨Ze S.tm t .ff,S.bs,S.ss⟩):V c fn K k S:=by
 intro rk M a w hc hT
 have key:∀x:AV,(∀v,(AV.bv e).is M v→x.is M v)→RelT c M ⟨Ze S.tm t x,S.bs,S.ss⟩ a w:=by
  intro x hx
  refine ⟨by rw [Zb1];exact hT.len,fun u=>?_,hT.df,hT.st⟩
  simp only [Za1]
  split
  ·rename_i hu
   obtain ⟨rfl,_⟩:=hu
   have:=hT.tm u
   rw [ht] at this
   exact hx _ this
  ·exact hT.tm u
 cases e with
 | true=>exact h1 rfl rk M a w hc (key _ fun v hv=>hv)
 | false=>exact h2 rfl rk M a w hc (key _ fun v hv=>hv)
theorem Z35 (t:Nat) {e:Bool} {A B:Option β} {r:β} (h:ifb e A B=some r) (ht:Zd S.tm t = .bv e) (h1:e=true→A=some r→V c fn K k ⟨Ze S.tm t .tt,S.bs,S.ss⟩) (h2:e=false→B=some r→V c fn K k ⟨Ze S.tm t .ff,S.bs,S.ss⟩):V c fn K k S:=
 V_case t ht (fun e1=>h1 e1 (by subst e1;exact h)) (fun e1=>h2 e1 (by subst e1;exact h))
theorem Z45 {P:Program} {w0:World} {H0:Frag} {f:Nat} {fn:Func} {body:EC} {rs:List ERes} {np nt:Nat} {e r:β} {res:β→AV} (ok:FnOK P f fn body rs np nt) (h:some e=some r)
  (hl:leO (resV S rs) (res e):=by first | exact le_refl _ | simp [go_sem]):V (Ctx.of P w0 H0) fn (fun x _ _=>x.le (res r)) (.code .ret::k) S:=by
 obtain rfl:=Option.some.inj h
 exact V_done ok hl
theorem Z55 {s':σ} {y:σ ⊕ β} {Sx:σ→St} (h:some (Sum.inl s')=some y) (hin:∀s',y = .inl s'→V c fn K k (Sx s')) (hle:S.le (Sx s'):=by simp [go_sem]) (hok:(Sx s').ok=true:=by first | rfl | simp [go_sem]) (hpn:Z3 c.np (Zj (Sx s').bs)=true:=by rfl) (hqn:Z3 c.nq (Zj (Sx s').ss)=true:=by rfl):V c fn K k S:=
 V_weak _ hle hok hpn hqn (hin s' (Option.some.inj h).symm)
theorem Z65 {m:σ→Option β} {r:β} {s:σ} {Sx:σ→St} (J:∀s,m s=some r→V c fn K k (Sx s)) (h:m s=some r) (hle:S.le (Sx s):=by simp [go_sem]) (hok:(Sx s).ok=true:=by first | rfl | simp [go_sem]) (hpn:Z3 c.np (Zj (Sx s).bs)=true:=by rfl) (hqn:Z3 c.nq (Zj (Sx s).ss)=true:=by rfl):V c fn K k S:=
 V_weak _ hle hok hpn hqn (J s h)
end
structure CloOK (P:Program) (g:Nat) (caps:List AV) {α β:Type} (ar:α→List AV) (p:α→Option β) (rs:β→AV):Prop where
 b:(P.funcs[g]?).any (fun fn=>fn.body.isSome&&!(fn.name == "runtime.NumGoroutine"))=true
 pu:Zo caps=true
 h:∀x r,p x=some r→Zy2 P g (ar x++caps) (rs r)
end NX
end Go.Proofs.YthlodgjekbidcaaGreat
/-
  The symbolic machine: own memory lent to a call, slices of slices, own elements. No statement of the seat is proved here.
-/
namespace Go.Proofs.YthlodgjekbidcaaGreat
namespace NX
open Go Go.RowKit
mutual
def AV.flat:AV→Bool
 | .ptr _ _ | .osl _ | .oel _ _ _ | .ocs _ _ _ _ | .elt _ _ | .sl _ _ | .clo _ _=>false
 | .agg l=>flatL l
 | .tup l=>flatL l
 | .any | .un | .tt | .ff | .bv _ | .iv _ | .kv _ _ | .sv _ | .nl | .nlp | .fn _=>true
def flatL:List AV→Bool
 | []=>true
 | x::l=>Z2 x.flat (flatL l)
end
attribute [go_sem] AV.flat flatL
mutual
theorem flat_is {M M':Mem}:∀(x:AV) (v:Value),x.is M v→x.flat=true→x.is M' v
 | .any,_,_,_=>trivial
 | .un,_,k,_ | .tt,_,k,_ | .ff,_,k,_ | .bv _,_,k,_ | .iv _,_,k,_ | .kv _ _,_,k,_ | .sv _,_,k,_ | .nl,_,k,_ | .nlp,_,k,_ | .fn _,_,k,_=>k
 | .ptr _ _,_,_,h | .osl _,_,_,h | .oel _ _ _,_,_,h | .ocs _ _ _ _,_,_,h | .elt _ _,_,_,h | .sl _ _,_,_,h | .clo _ _,_,_,h=>by simp [AV.flat] at h
 | .agg l,_,⟨vs,h1,h2⟩,h=>⟨vs,h1,flatL_is l vs h2 (by simpa [AV.flat] using h)⟩
 | .tup l,_,⟨vs,h1,h2⟩,h=>⟨vs,h1,flatL_is l vs h2 (by simpa [AV.flat] using h)⟩
theorem flatL_is {M M':Mem}:∀(l:List AV) (vs:List Value),AV.isL M l vs→flatL l=true→AV.isL M' l vs
 | [],_,k,_=>k
 | x::l,_,⟨v,r,h1,h2,h3⟩,h=>by
   simp only [flatL,Z71] at h
   exact ⟨v,r,h1,flat_is x v h2 h.1,flatL_is l r h3 h.2⟩
end
def Z75 (S S':St):Prop:=∀(c:Ctx) M a w,RelT c M S a w→∃M',M.le M'∧RelT c M' S' a w
theorem Z75.refl (S:St):Z75 S S:=fun _ M _ _ h=>⟨M,.refl M,h⟩
theorem Z75.slice {S S1:St} (h:Z75 S S1) (j:Nat) {L:Sl} (hj:Zf S1.ss j=some L) (hpr:Zz L.rows=true:=by first | rfl | simp [go_sem]):Z75 S (S1.sealS j L):=fun c M a w hT=>
 let ⟨_,h1,h2⟩:=h c M a w hT
 let ⟨M2,h3,h4,_⟩:=seal_rel j hj hpr h2
 ⟨M2,h1.trans h3,h4⟩
theorem Z75.block {S S1:St} (h:Z75 S S1) (j:Nat) {B:Blk} (hj:Zf S1.bs j=some B) (hp:Zo B.cells=true):Z75 S (S1.sealB j B.cells):=fun c M a w hT=>
 let ⟨_,h1,h2⟩:=h c M a w hT
 let ⟨M2,h3,h4⟩:=sealB_rel j hj hp h2
 ⟨M2,h1.trans h3,h4⟩
section
variable {c:Ctx} {M:Mem} {S S':St} {a:Act} {w:World} {fn:Func} {K:AV→List (Option Blk)→List (Option Sl)→Prop} {k:List It}
theorem sem_callL {f:Nat} {xs:List X} {args:List AV} {res:AV} (hs:Z75 S S') (hf:Zy2 c.P f args res)
  (ha:AV.le.leL (Zq S' xs) args) (hp:Zo args=true) (hfl:res.flat=true):Z33 c S (.call f xs) res S:=by
 intro ro ho M a w hT next Q hn
 obtain ⟨dst,op,ty,pos,af,gd⟩:=ro
 dsimp only at ho
 obtain ⟨cargs,argTypes,rfl,hfn,rfl⟩:=Z63 ho
 obtain ⟨M1,_,hT1⟩:=hs c M a w hT
 have hm:=Zs1 _ _ (Zu2 _ _ _ ha (Zj2 hT1 cargs.toList)) hp
 have hc:=hf M1.H w _ hT1.st.hle hT1.st.pin.gl hm
 have hrun:(execOp a.eval ⟨dst,.call ⟨.value (.func f),cargs,argTypes⟩,ty,pos,af,gd⟩).run c.P w = .ok (.enter f (cargs.map a.eval)) w:=by
  have he:a.eval (.func f) = .func (.func f) #[] #[]:=rfl
  generalize a.eval=ρ at *
  simp [execOp,resolve,Deferred.ofValue,invoke,he,Z53 hfn]
 unfold Oper.wp
 rw [hrun]
 show Calls c.P f (cargs.map a.eval) w _
 have e1:(cargs.toList.map a.eval).toArray=cargs.map a.eval:=by apply Array.ext';simp
 rw [←e1]
 refine hc.mono ?_
 rintro e w' ⟨v,H',rfl,hb,h1,h2,h3⟩
 exact hn M w' v (.refl M) (hT.st.grow hb) (flat_is _ _ h3 hfl)
theorem Z85 {d:Option Nat} {g:Option (Nat×Bool)} {f:Nat} {xs:List X} {l:List EOp} {args:List AV} {res:AV} (hg:gm S g) (hs:Z75 S S') (hf:Zy2 c.P f args res)
  (ha:AV.le.leL (Zq S' xs) args:=by first | exact Zg4 _ | simp [go_sem]) (hp:Zo args=true:=by first | rfl | simp [go_sem]) (hfl:res.flat=true:=by rfl) (h:V c fn K (.ops l::k) (S.put d res)):V c fn K (.ops (⟨d,g,.call f xs⟩::l)::k) S:=
 Z43 hg (sem_callL hs hf ha hp hfl) rfl h
section
variable {all:Array Oper} {ops:List EOp} {af:List (List Nat)} {Φ:St→Prop} {m:Nat} {ld:List Bool}
theorem Z95 (hall:all.toList.mapM (Za c.P all)=some ops) {i f:Nat} {xs:List X} {args:List AV} {res:AV} (ho:(Z61 ops i).o = .call f xs) (hg:gm S (Z61 ops i).g) (hs:Z75 S S') (hf:Zy2 c.P f args res)
  (ha:AV.le.leL (Zq S' xs) args:=by first | exact Zg4 _ | simp [go_sem]) (hp:Zo args=true:=by first | rfl | simp [go_sem]) (hfl:res.flat=true:=by rfl) (h:G c all ops af Φ m (Z31 ld i) (S.put (Z61 ops i).d res)):GO c all ops af Φ m ld S i:=
 Z54 hall hg (by rw [ho];exact sem_callL hs hf ha hp hfl) rfl (Z04 _ _) h
end
theorem Za5 {α β:Type} {d:Option Nat} {g:Option (Nat×Bool)} {f:Nat} {o:X} {xs:List X} {l:List EOp} {caps:List AV} {ar:α→List AV} {p:α→Option β} {rs:β→AV} (hg:gm S g) (ho:S.x o = .clo f caps) (hc:CloOK c.P f caps ar p rs) {x:α} {v:β} (hv:p x=some v)
  (ha:AV.le.leL (Zq S xs) (ar x):=by first | exact Zg4 _ | simp [go_sem]) (hp:Zo (ar x)=true:=by first | rfl | simp [go_sem]) (h:V c fn K (.ops l::k) (S.put d (rs v))):V c fn K (.ops (⟨d,g,.callv o xs⟩::l)::k) S:=by
 have key:∀ {a b c:List AV},AV.le.leL a b→AV.le.leL (a++c) (b++c):=by
  intro a
  induction a with
  | nil=>intro b c h;cases b with
    | nil=>exact Zg4 c
    | cons _ _=>simp [AV.le.leL] at h
  | cons y a ih=>intro b c h;cases b with
    | nil=>simp [AV.le.leL] at h
    | cons z b=>exact ⟨h.1,ih h.2⟩
 have kp:∀ {a:List AV},Zo a=true→Zo (a++caps)=true:=by
  intro a
  induction a with
  | nil=>intro _;exact hc.pu
  | cons y a ih=>intro h;simp only [Zo,Z71,List.cons_append] at h ⊢;exact ⟨h.1,ih h.2⟩
 exact V_callv hg ho (hc.h x v hv) hc.b (key ha) (kp hp) h
end
def Zb5 (n:Int):List AV:=[.iv n]
def boolRow (b:Bool):List AV:=[.bv b]
def strRow (x:ByteArray):List AV:=[.sv x]
def kvRow (k:IntKind) (n:Int):List AV:=[.kv k n]
def Zc5 {α:Type} (n:Nat) (f:α→List AV) (l:List α):List AV:=[.sl n (l.map f)]
def ln {α:Type} (f:α→List AV) (l:List α):Int:=((l.map f).length:Int)
theorem Zd5 {α:Type} (f:α→List AV) (l:List α):ln f l=l.length:=by simp [ln]
attribute [go_sem] Zb5 boolRow strRow kvRow Zc5 ln
end NX
end Go.Proofs.YthlodgjekbidcaaGreat
/-
  The symbolic machine: slices of slices, tests for nil, ways that part inside a drawn region, fresh results. No statement of the seat is proved here.
-/
namespace Go.Proofs.YthlodgjekbidcaaGreat
namespace NX
open Go Go.RowKit
structure Fine (S S':St):Prop where
 bs:S'.bs=S.bs
 ss:S'.ss=S.ss
 len:S'.tm.length=S.tm.length
 is:∀M t v,(Zd S.tm t).is M v→(Zd S'.tm t).is M v
 lg:∀t,lgt S'.tm t=lgt S.tm t
 pt:∀t j off,Zd S'.tm t = .ptr j off→Zd S.tm t = .ptr j off
theorem Fine.relT {S S':St} (h:Fine S S') {c:Ctx} {M:Mem} {a:Act} {w:World} (hT:RelT c M S a w):RelT c M S' a w:=
 ⟨by rw [h.len];exact hT.len,fun t=>h.is M t _ (hT.tm t),hT.df,by rw [h.bs,h.ss];exact hT.st⟩
theorem Fine.put {S S':St} (h:Fine S S') (bs ss) (d:Option Nat) (v:AV):Fine ((⟨S.tm,bs,ss⟩:St).put d v) ((⟨S'.tm,bs,ss⟩:St).put d v):=by
 cases d with
 | none=>exact ⟨rfl,rfl,h.len,h.is,h.lg,h.pt⟩
 | some d=>
   refine ⟨rfl,rfl,by simp only [St.put,Zb1];exact h.len,fun M t x hx=>?_,fun t=>?_,fun t j off=>?_⟩
   ·simp only [St.put,Za1,h.len] at hx ⊢
    split<;>rename_i e
    ·rw [if_pos e] at hx;exact hx
    ·rw [if_neg e] at hx;exact h.is M t x hx
   ·simp only [St.put,lgt,Za1,h.len]
    split
    ·rfl
    ·exact h.lg t
   ·simp only [St.put,Za1,h.len]
    split
    ·exact id
    ·exact h.pt t j off
theorem Fine.gm {S S':St} (h:Fine S S') (g:Option (Nat×Bool)):NX.gm S' g=NX.gm S g∧gno S' g=gno S g:=by
 cases g with
 | none=>exact ⟨rfl,rfl⟩
 | some tf=>obtain ⟨t,f⟩:=tf;simp only [NX.gm,gno,h.lg t,and_self]
theorem G_fine {c:Ctx} {all:Array Oper} {ops:List EOp} {af:List (List Nat)} {Φ:St→Prop} (hΦ:∀S S',Fine S S'→Φ S'→Φ S):∀(m:Nat) (ld:List Bool) (S S':St),Fine S S'→G c all ops af Φ m ld S'→G c all ops af Φ m ld S
 | 0,_,S,S',hf,h=>⟨h.1,hΦ S S' hf h.2⟩
 | m+1,ld,S,S',hf,h=>by
   refine ⟨fun h0=>hΦ S S' hf (h.1 h0),fun i hi=>?_⟩
   rcases h.2 i hi with ⟨h1,h2⟩ | ⟨h1,v,S1,h2,h3,h4,h5⟩
   ·left
    refine ⟨by rw [←(hf.gm _).2];exact h1,G_fine hΦ m _ _ _ ?_ h2⟩
    have:=hf.put S.bs S.ss (Z61 ops i).d .un
    rw [show (⟨S'.tm,S.bs,S.ss⟩:St)=S' from by rw [←hf.bs,←hf.ss]] at this
    exact this
   ·right
    refine ⟨by rw [←(hf.gm _).1];exact h1,v,⟨S.tm,S1.bs,S1.ss⟩,fun ro hro M a w hT next Q hn=>h2 ro hro M a w (hf.relT hT) next Q hn,rfl,?_,G_fine hΦ m _ _ _ ?_ h5⟩
    ·intro j off n l k1 k2 k3
     have:=h4 j off n l (by rw [Zx3 hf.bs];exact k1) k2 (fun n a x j' off' ho hx=>k3 n a x j' off' ho (by
      cases a with
      | t t=>exact hf.pt t j' off' hx
      | c _=>exact hx
      | bad=>exact hx))
     rw [Zx3 (S:=S1) (S':=⟨S.tm,S1.bs,S1.ss⟩) rfl];exact this
    ·have:=hf.put S1.bs S1.ss (Z61 ops i).d v
     rw [←h3] at this
     exact this
section
variable {c:Ctx} {M:Mem} {S S':St} {a:Act} {w:World} {fn:Func} {K:AV→List (Option Blk)→List (Option Sl)→Prop} {k:List It} {β:Type}
theorem V_fine (hf:Fine S S') (h:V c fn K k S'):V c fn K k S:=fun rk M a w hc hT=>h rk M a w hc (hf.relT hT)
def bvOf (e:Bool):AV:=match e with | true=>.tt | false=>.ff
theorem fine_case {t:Nat} {e:Bool} (ht:Zd S.tm t = .bv e):Fine S ⟨Ze S.tm t (bvOf e),S.bs,S.ss⟩:=by
 refine ⟨rfl,rfl,Zb1 _ _ _,fun M u v hv=>?_,fun u=>?_,fun u j off=>?_⟩
 ·simp only [Za1]
  split
  ·rename_i h;obtain ⟨rfl,_⟩:=h
   rw [ht] at hv
   cases e<;>exact hv
  ·exact hv
 ·simp only [lgt,Za1]
  split
  ·rename_i h;obtain ⟨rfl,_⟩:=h
   rw [ht];cases e<;>rfl
  ·rfl
 ·simp only [Za1]
  split
  ·cases e<;>simp [bvOf]
  ·exact id
theorem Ze5 {all:Array Oper} {ops:List EOp} {af:List (List Nat)} {m:Nat} {ld:List Bool} (t:Nat) {e:Bool} {A B:Option β} {r:β} (h:ifb e A B=some r) (ht:Zd S.tm t = .bv e)
  (h1:e=true→A=some r→G c all ops af (fun S'=>V c fn K k S') m ld ⟨Ze S.tm t .tt,S.bs,S.ss⟩) (h2:e=false→B=some r→G c all ops af (fun S'=>V c fn K k S') m ld ⟨Ze S.tm t .ff,S.bs,S.ss⟩):
  G c all ops af (fun S'=>V c fn K k S') m ld S:=by
 refine G_fine (fun S S' hf h=>V_fine hf h) m ld S _ (fine_case ht) ?_
 cases e with
 | true=>exact h1 rfl h
 | false=>exact h2 rfl h
theorem Zf5 {P:Program} {op:Op} {n:Nat} {x:X} {lo hi:Option X} (ho:cO P op = .slice n x lo hi):
  ∃T y l h e,op = .slice T y l h none∧P.underlying T=some (.slice e)∧Z6 P e=some n∧cX y=x∧l.map cX=lo∧h.map cX=hi:=by
 cases op
 case slice T y l h mx=>
  simp only [cO] at ho
  split at ho
  ·rename_i e hu
   split at ho
   ·rename_i n' hn
    simp only [EO.slice.injEq] at ho
    obtain ⟨rfl,rfl,rfl,rfl⟩:=ho
    exact ⟨T,y,l,h,e,rfl,hu,hn,rfl,rfl,rfl⟩
   ·simp at ho
  ·split at ho<;>simp at ho
  ·simp at ho
  ·simp at ho
 all_goals (simp only [cO] at ho;(repeat' (split at ho))<;>simp at ho)
def bnd (S:St) (x:Option X) (z:Int):Option Int:=
 match x with
 | none=>some z
 | some x=>match S.x x with
   | .iv n=>some n
   | _=>none
attribute [go_sem] bnd
theorem Zg5 {P:Program} {w:World} {T e n:Nat} (hu:P.underlying T=some (.slice e)) (hs:Z6 P e=some n) {x:Operand} {l h:Option Operand} {ρ:Operand→Value} {ad:Option Addr} {len cp:Nat} {lo hi:Int}
  (hx:ρ x = .slice ad len cp) (hlc:len≤cp) (hl:match l with | none=>lo=0 | some o=>ρ o = .int .i64 lo) (hh:match h with | none=>hi=len | some o=>ρ o = .int .i64 hi) (h0:0≤lo) (h1:lo≤hi) (h2:hi≤len)
  (d:Option Tmp) (ty:TypeId) (pos:String) (af:Array Edge) (gg:Option (Nat×Bool)):
  (execOp ρ ⟨d,.slice T x l h none,ty,pos,af,gg⟩).run P w = .ok (.value (.slice (if cp=lo.toNat then ad else ad.map (·.add (lo.toNat*n))) (hi.toNat-lo.toNat) (cp-lo.toNat))) w:=by
 have hc:hi≤cp:=by omega
 have key:(Instr.sliceBounds true len cp (l.map ρ) (h.map ρ) none).run P w = .ok (lo.toNat,hi.toNat,cp) w:=by
  cases l<;>cases h<;>simp only at hl hh<;>simp only [Option.map,Instr.sliceBounds]
  ·subst hl;simp [hh]
  ·subst hl;simp [Instr.sliceBound,asIntOf,hh,hc,show 0≤hi by omega]
  ·subst hh;simp [Instr.sliceBound,asIntOf,hl,h0,h1]
  ·simp [Instr.sliceBound,asIntOf,hl,hh,h0,h1,hc,show 0≤hi by omega,Int.toNat_of_nonneg (show 0≤hi by omega)]
 simp [execOp,Instr.sliceAt,Instr.slice,hx,run_underlying hu,key,Z32 hs]
theorem Zh5 {M:Mem} {n:Nat} {rows:List (List AV)} {vss:List (List Value)} (h:AV.isLL M n rows vss) (a b:Nat):AV.isLL M n ((rows.take b).drop a) ((vss.take b).drop a):=by
 have ht:∀(rows:List (List AV)) (vss:List (List Value)) (b:Nat),AV.isLL M n rows vss→AV.isLL M n (rows.take b) (vss.take b):=by
  intro rows
  induction rows with
  | nil=>intro vss b h;simp [AV.isLL] at h;subst h;simp [AV.isLL]
  | cons r rows ih=>
    rintro vss b ⟨v,q,rfl,h1,h2,h3⟩
    cases b with
    | zero=>simp [AV.isLL]
    | succ b=>exact ⟨v,q.take b,by simp,h1,h2,ih q b h3⟩
 have hd:∀(rows:List (List AV)) (vss:List (List Value)) (b:Nat),AV.isLL M n rows vss→AV.isLL M n (rows.drop b) (vss.drop b):=by
  intro rows
  induction rows with
  | nil=>intro vss b h;simp [AV.isLL] at h;subst h;simp [AV.isLL]
  | cons r rows ih=>
    rintro vss b ⟨v,q,rfl,h1,h2,h3⟩
    cases b with
    | zero=>exact ⟨v,q,rfl,h1,h2,h3⟩
    | succ b=>simpa using ih q b h3
 exact hd _ _ a (ht _ _ b h)
theorem isLL_lens {M:Mem} {n:Nat}:∀ {rows:List (List AV)} {vss:List (List Value)},AV.isLL M n rows vss→vss.length=rows.length∧∀v∈vss,v.length=n
 | [],_,h=>by simp [AV.isLL] at h;subst h;simp
 | _::rows,_,⟨v,q,h0,h1,h2,h3⟩=>by
   subst h0
   obtain ⟨g1,g2⟩:=isLL_lens h3
   exact ⟨by simp [g1],fun x hx=>by rcases List.mem_cons.1 hx with rfl | hx;exact h1;exact g2 x hx⟩
theorem sl_sub {M:Mem} {n:Nat} {rows:List (List AV)} {ad:Option Addr} {cp:Nat} (h:AV.is M (.sl n rows) (.slice ad rows.length cp)) (lo hi:Nat) (h1:lo≤hi) (h2:hi≤rows.length):
  AV.is M (.sl n ((rows.take hi).drop lo)) (.slice (if cp=lo then ad else ad.map (·.add (lo*n))) (hi-lo) (cp-lo)):=by
 obtain ⟨a',c',he,⟨hlc,hn⟩,hr⟩:=h
 simp only [Value.slice.injEq] at he
 obtain ⟨rfl,_,rfl⟩:=he
 have hlen:((rows.take hi).drop lo).length=hi-lo:=by simp;omega
 refine ⟨if cp=lo then ad else ad.map (·.add (lo*n)),cp-lo,by rw [hlen],⟨by rw [hlen];omega,fun e=>?_⟩,fun hne=>?_⟩
 ·split at e
  ·rename_i hcl;omega
  ·have:ad=none:=by cases ad<;>simp_all
   have:=hn this;omega
 ·have hlt:lo<hi:=by
   rcases Nat.lt_or_ge lo hi with h | h
   ·exact h
   ·exfalso;apply hne;apply List.length_eq_zero_iff.1;rw [hlen];omega
  obtain ⟨a,vss,rfl,g1,g2,g3,cs,T,fr,g4,g5⟩:=hr (by intro e;subst e;simp at h2;omega)
  obtain ⟨l1,l2⟩:=isLL_lens g1
  have hsub:=Zh5 g1 lo hi
  refine ⟨a.add (lo*n),(vss.take hi).drop lo,by rw [if_neg (by omega)];rfl,hsub,?_⟩
  have hadd:a.add (lo*n)=⟨a.block,a.off+lo*n,none⟩:=by
   obtain ⟨b,o,sp⟩:=a;dsimp only at g2;subst g2;exact Addr.add_lit _ _ _
  rw [hadd]
  have hfl:∃t,vss.flatten=(vss.take lo).flatten++((vss.take hi).drop lo).flatten++t:=by
   refine ⟨(vss.drop hi).flatten,?_⟩
   rw [←List.flatten_append,←List.flatten_append]
   congr 1
   have:vss.take lo++(vss.take hi).drop lo=vss.take hi:=by
    have:=List.take_append_drop lo (vss.take hi)
    rw [List.take_take,Nat.min_eq_left h1] at this
    exact this
   rw [this,List.take_append_drop]
  obtain ⟨t,hfl⟩:=hfl
  have hpl:(vss.take lo).flatten.length=lo*n:=by
   have:=Za4 (Zh5 g1 0 lo)
   simp only [List.drop_zero] at this
   rw [this,List.length_take,Nat.min_eq_left (by omega)]
  refine ⟨rfl,fun v hv=>g3 v ?_,cs,T,fr,g4,fun k v hk=>?_⟩
  ·rw [hfl];exact List.mem_append_left _ (List.mem_append_right _ hv)
  ·have:=g5 (lo*n+k) v (by
    rw [hfl,List.append_assoc,List.getElem?_append_right (by omega),hpl,show lo*n+k-lo*n=k by omega]
    rw [List.getElem?_append_left (List.getElem?_eq_some_iff.1 hk).1];exact hk)
   dsimp only
   rw [show a.off+lo*n+k=a.off+(lo*n+k) by omega];exact this
theorem sem_slice {n m:Nat} {x:X} {lo hi:Option X} {rows:List (List AV)} {l h:Int} (hx:S.x x = .sl m rows) (hmn:m=n) (hl:bnd S lo 0=some l) (hh:bnd S hi rows.length=some h) (h0:0≤l) (h1:l≤h) (h2:h≤rows.length):
  Z33 c S (.slice n x lo hi) (.sl m ((rows.take h.toNat).drop l.toNat)) S:=by
 intro ro hop M a w hT next Q hn
 obtain ⟨dst,op,ty,pos,af,gd⟩:=ro
 dsimp only at hop
 subst hmn
 obtain ⟨T,y,lo',hi',e,rfl,hu,hs,rfl,rfl,rfl⟩:=Zf5 hop
 have hv:=Z12 hT y
 rw [hx] at hv
 have hv':=hv
 obtain ⟨ad,cp,g1,⟨g2,g2'⟩,g3⟩:=hv
 rw [g1] at hv'
 have hrun:=Zg5 (P:=c.P) (w:=w) hu hs (l:=lo') (h:=hi') (lo:=l) (hi:=h) g1 g2 (by
  cases lo' with
  | none=>simp [bnd] at hl;exact hl.symm
  | some o=>
    have:=Z12 hT o
    simp only [Option.map,bnd] at hl
    split at hl<;>simp at hl
    rename_i hxx;rw [hxx] at this;subst hl;exact this) (by
  cases hi' with
  | none=>simp [bnd] at hh;exact hh.symm
  | some o=>
    have:=Z12 hT o
    simp only [Option.map,bnd] at hh
    split at hh<;>simp at hh
    rename_i hxx;rw [hxx] at this;subst hh;exact this) h0 h1 h2 dst ty pos af gd
 unfold Oper.wp
 rw [hrun]
 refine hn M w _ (.refl M) hT.st ?_
 exact sl_sub hv' l.toNat h.toNat (by omega) (by omega)
theorem sub_some {α:Type} {l v:List α} {lo hi:Int} (h:Zi4 l lo hi=some v):v=(l.take hi.toNat).drop lo.toNat∧0≤lo∧lo≤hi∧hi≤l.length:=by
 unfold Zi4 at h
 split at h
 ·rename_i h1;simp at h;exact ⟨h.symm,h1⟩
 ·simp at h
theorem Zi5 {all:Array Oper} {ops:List EOp} {af:List (List Nat)} {Φ:St→Prop} {m':Nat} {ld:List Bool} {nap:List (List Nat)} (hall:all.toList.mapM (Za c.P all)=some ops) (hsel:Region.noSelect all=true) (haf:af=Zb all) (hnap:nap=Zc all) (i:Nat) {α:Type} {l' v:List α} {n m:Nat} {x:X} {lo hi:Option X} {l h:Int} (f:α→List AV) (hv:Zi4 l' l h=some v)
  (hi':memN i (rdy ld af 0)=true) (ho:(Z61 ops i).o = .slice n x lo hi) (hg:gm S (Z61 ops i).g) (hx:S.x x = .sl m (l'.map f)) (hmn:m=n) (hl:bnd S lo 0=some l) (hh:bnd S hi ((l'.map f).length)=some h)
  (hf:frB ld af i (Z51 nap i)=true) (hV:G c all ops af Φ m' (Z31 ld i) (S.put (Z61 ops i).d (.sl m (v.map f)))):G c all ops af Φ (m'+1) ld S:=by
 obtain ⟨h0,h1,h2,h3⟩:=sub_some hv
 subst h0
 rw [List.map_drop,List.map_take] at hV
 subst haf;subst hnap
 refine G_take hall hsel i (q:=True) trivial m' ld S ((Zn3 _ _).1 hi') (.inr (.inr (.inr ⟨hg,by rw [ho];rfl,x::(lo.toList++hi.toList),fun P op hop y hy=>?_,fun S' hS' c'=>?_⟩))) hf (fun hl=>by rw [ho] at hl;simp [isLd] at hl) hV
 ·rw [ho] at hop
  obtain ⟨T,y1,lo',hi',e,rfl,hu,hs,rfl,rfl,rfl⟩:=Zf5 hop
  rcases List.mem_cons.1 hy with rfl | hy
  ·exact ⟨y1,by simp [Op.operands],rfl⟩
  ·rcases List.mem_append.1 hy with hy | hy
   ·cases lo' with
    | none=>simp at hy
    | some o=>simp at hy;exact ⟨o,by simp [Op.operands],hy.symm⟩
   ·cases hi' with
    | none=>simp at hy
    | some o=>simp at hy;exact ⟨o,by simp [Op.operands],hy.symm⟩
 ·have ex:S'.x x = .sl m (l'.map f):=by rw [hS' x (by simp)];exact hx
  have el:bnd S' lo 0=some l:=by
   cases lo with
   | none=>exact hl
   | some y=>simp only [bnd] at hl ⊢;rw [hS' y (by simp)];exact hl
  have eh:bnd S' hi ((l'.map f).length)=some h:=by
   cases hi with
   | none=>exact hh
   | some y=>simp only [bnd] at hh ⊢;rw [hS' y (by simp)];exact hh
  rw [ho]
  refine ⟨sem_slice ex hmn el eh h1 h2 (by simpa using h3),fun M a w op hop hT=>?_⟩
  obtain ⟨T,y1,lo',hi',e,rfl,hu,hs,rfl,rfl,rfl⟩:=Zf5 hop
  have hw:=Z12 hT y1
  rw [ex] at hw
  obtain ⟨ad,cp,g1,g2,g3⟩:=hw
  exact ⟨_,sl_sub (ad:=ad) (cp:=cp) ⟨ad,cp,rfl,g2,g3⟩ l.toNat h.toNat (by omega) (by rw [List.length_map];omega)⟩
def ngv (ng b:Bool):Bool:=match ng with | true=>!b | false=>b
def nilOp (ng:Bool):BinOp:=match ng with | true=>.neq | false=>.eql
theorem cO_isnil {P:Program} {op:Op} {ng:Bool} {x:X} (ho:cO P op = .isnil ng x):
  ∃T y T2 e,op = .binOp (nilOp ng) T y (.const (.slice none 0 0)) T2∧P.underlying T=some (.slice e)∧cX y=x:=by
 cases op
 case binOp o T y z T2=>
  simp only [cO] at ho
  split at ho
  ·split at ho<;>simp at ho
  ·split at ho
   ·split at ho<;>simp at ho
   ·simp at ho
  ·simp at ho
  ·split at ho<;>simp at ho
  ·rename_i e hu
   split at ho
   ·split at ho<;>simp at ho
    ·obtain ⟨rfl,rfl⟩:=ho;exact ⟨T,y,T2,e,rfl,hu,rfl⟩
    ·obtain ⟨rfl,rfl⟩:=ho;exact ⟨T,y,T2,e,rfl,hu,rfl⟩
   ·simp at ho
  ·simp at ho
  ·simp at ho
 all_goals (simp only [cO] at ho;(repeat' (split at ho))<;>simp at ho)
theorem V_isnil {d:Option Nat} {g:Option (Nat×Bool)} {ng:Bool} {x:X} {m:Nat} {rows:List (List AV)} {l:List EOp} (hg:gm S g) (hx:S.x x = .sl m rows)
  (h1:rows=[]→V c fn K (.ops l::k) (S.put d (match ng with | true=>.ff | false=>.tt))) (h2:V c fn K (.ops l::k) (S.put d (match ng with | true=>.tt | false=>.ff))):V c fn K (.ops (⟨d,g,.isnil ng x⟩::l)::k) S:=by
 refine V_op hg fun ro hd hop M a w hT next Q hn=>?_
 obtain ⟨dst,op,ty,pos,af,gd⟩:=ro
 dsimp only at hop hd
 subst hd
 obtain ⟨T,y,T2,e,rfl,hu,rfl⟩:=cO_isnil hop
 have hv:=Z12 hT y
 rw [hx] at hv
 obtain ⟨ad,cp,g1,⟨g2,g2'⟩,g3⟩:=hv
 have hr:(Op.equal T (.slice ad rows.length cp) (.slice none 0 0)).run c.P w = .ok ad.isNone w:=run_equal_slice_nil w T e ad rows.length cp hu
 have hgd:∀o:BinOp,(eqGuard o T y (.const (.slice none 0 0)) (.slice ad rows.length cp) (.slice none 0 0)).run c.P w = .ok () w:=fun o=>by unfold eqGuard;split<;>rfl
 have hrun:(execOp a.eval ⟨dst,.binOp (nilOp ng) T y (.const (.slice none 0 0)) T2,ty,pos,af,gd⟩).run c.P w = .ok (.value (.bool (ngv ng ad.isNone))) w:=by
  have he:a.eval (.const (.slice none 0 0)) = .slice none 0 0:=rfl
  generalize a.eval=ρ at *
  cases ng<;>simp [nilOp,ngv,execOp,g1,he,hgd,binOp,hr]
 unfold Oper.wp
 rw [hrun]
 cases had:ad with
 | none=>
   have hr0:rows=[]:=by
    have:=g2' had
    exact List.length_eq_zero_iff.1 (by omega)
   have hv2:=h1 hr0
   cases ng
   ·exact hn M w .tt (.bool true) S.bs S.ss (.refl M) hT.st rfl hv2
   ·exact hn M w .ff (.bool false) S.bs S.ss (.refl M) hT.st rfl hv2
 | some b=>
   cases ng
   ·exact hn M w .ff (.bool false) S.bs S.ss (.refl M) hT.st rfl h2
   ·exact hn M w .tt (.bool true) S.bs S.ss (.refl M) hT.st rfl h2
def FunO (P:Program) (f:Nat) (args:List AV) (T n:Nat) (rows:List (List AV)):Prop:=
 ∀(H:Frag) (w:World) (vs:List Value),(∀k o,H k=some o→w.heap[k]?=some o)→Glob P H→AV.isL (Z0 H) args vs→
  Calls P f vs.toArray w fun e w'=>∃v H' vss,e = .returned v∧Below w.heap.size w w'∧(∀k o,H' k=some o→w'.heap[k]?=some o)∧
   (∀k,k<w.heap.size→H' k=H k)∧0<n∧AV.isLL (Z0 H') n rows vss∧(∀v∈vss.flatten,v.oneCell'=true)∧w'.ownsRow 0 T n v rows.length vss.flatten∧∀g,v.ownBlock=some g→w.heap.size≤g∧H' g=none
theorem Zj5 {P:Program} {f:Nat} {fn:Func} {body:EC} {rs:List ERes} {np nt:Nat} (hf:FnOK P f fn body rs np nt) {args:List AV} {T n:Nat} {rows:List (List AV)} (hn:args.length=np)
  (h:∀w0 H0,V (Ctx.of P w0 H0) fn (fun x _ ss=>∃j,x = .osl j∧Zf ss j=some ⟨T,n,rows⟩) [.code body] (St.init args nt)) (hpr:Zz rows=true:=by first | rfl | simp [go_sem]):FunO P f args T n rows:=by
 intro H w vs hH hgl ha
 obtain ⟨x,hb,hx⟩:=hf.b
 have hl:=Zi1 ha
 refine calls_of_wp hf.h hb ?_
 have hT:=init_rel (P:=P) (nt:=nt) hH hgl ha
 have e1:fn.ntmps-vs.toArray.size=nt:=by rw [hf.t];simp;omega
 rw [e1]
 refine wp_mono (h w H [.code x] _ _ w ⟨_,_,rfl,hx,rfl⟩ hT) ?_
 have mono:∀e w',RK (Ctx.of P w H) (fun x _ ss=>∃j,x = .osl j∧Zf ss j=some ⟨T,n,rows⟩) e w'→∃v H' vss,e = .returned v∧Below w.heap.size w w'∧(∀k o,H' k=some o→w'.heap[k]?=some o)∧
   (∀k,k<w.heap.size→H' k=H k)∧0<n∧AV.isLL (Z0 H') n rows vss∧(∀v∈vss.flatten,v.oneCell'=true)∧w'.ownsRow 0 T n v rows.length vss.flatten∧∀g,v.ownBlock=some g→w.heap.size≤g∧H' g=none:=by
  rintro e w' ⟨v,M,bs,ss,y,rfl,hS,hv,j,rfl,hj⟩
  obtain ⟨q0,vss,q1,q2,q3,q4⟩:=hS.slc j _ hj
  have q1:AV.isLL M.pure n rows vss:=Zf3 _ _ q1 hpr
  have hv2:v=M.σ j:=hv.2
  subst hv2
  refine ⟨M.σ j,M.H,vss,rfl,⟨hS.os,hS.tape,hS.output,hS.size,fun k hk=>hS.block k hk (fun h=>h)⟩,hS.hle,fun k hk=>hS.hold k hk (fun h=>h),q0,q1,q2,q3,fun g hg=>?_⟩
  obtain ⟨k1,k2⟩:=q4 g hg
  rcases k1 with k1 | k1
  ·exact ⟨k1,k2⟩
  ·exact k1.elim
 intro e a w' hq
 cases e with
 | normal=>obtain ⟨h1,v,h2,h3⟩:=hq;exact ⟨h1,v,h2,mono _ _ h3⟩
 | ret=>obtain ⟨h1,v,h2,h3⟩:=hq;exact ⟨h1,v,h2,mono _ _ h3⟩
 | panic ch=>obtain ⟨h1,h2⟩:=hq;exact ⟨h1,mono _ _ h2⟩
 | outgrown=>exact mono _ _ hq
 | exit id=>exact hq
 | goto l=>exact hq
theorem O_done {P:Program} {w0:World} {H0:Frag} {f:Nat} {fn:Func} {body:EC} {rs:List ERes} {np nt:Nat} {k:List It} {S:St} {T n j:Nat} {rows:List (List AV)} (ok:FnOK P f fn body rs np nt)
 (h:resV S rs=some (.osl j)) (hj:Zf S.ss j=some ⟨T,n,rows⟩):V (Ctx.of P w0 H0) fn (fun x _ ss=>∃j,x = .osl j∧Zf ss j=some ⟨T,n,rows⟩) (.code .ret::k) S:=V_ret ok.r h ⟨j,rfl,hj⟩
theorem FunO.sealed {P:Program} {f:Nat} {args:List AV} {T n:Nat} {rows:List (List AV)} (h:FunO P f args T n rows):Zy2 P f args (.sl n rows):=by
 intro H w vs hH hgl ha
 refine (h H w vs hH hgl ha).mono ?_
 rintro e w' ⟨v,H',vss,rfl,hb,h1,h2,h3,h4,h5,h6,h7⟩
 refine ⟨v,fun k=>if v.ownBlock=some k then w'.heap[k]? else H' k,rfl,hb,?_,?_,?_⟩
 ·intro k o hk
  dsimp only at hk
  split at hk
  ·exact hk
  ·exact h1 k o hk
 ·intro k hk
  dsimp only
  rw [if_neg]
  ·exact h2 k hk
  ·intro e;have:=(h7 k e).1;omega
 ·rcases h6.2 with ⟨rfl,e2⟩ | ⟨g,cp,cur,rfl,_,e3,e4,_,e5,e6⟩
  ·refine ⟨none,0,by rw [e2],⟨by omega,fun _=>rfl⟩,fun hne=>absurd (List.length_eq_zero_iff.1 e2) hne⟩
  ·refine ⟨some ⟨g,0,none⟩,cp,rfl,⟨e4,fun h=>by simp at h⟩,fun _=>⟨⟨g,0,none⟩,vss,rfl,?_,rfl,h5,cur,T,(0,0),?_,?_⟩⟩
   ·refine isLL_pure (H:=H') ?_ h4
    intro k o hk
    show (if (Value.slice (some ⟨g,0,none⟩) rows.length cp).ownBlock=some k then w'.heap[k]? else H' k)=some o
    split
    ·rename_i e
     simp [Value.ownBlock] at e
     subst e
     rw [(h7 g rfl).2] at hk;simp at hk
    ·exact hk
   ·simp [Z0,Value.ownBlock];exact e3
   ·intro t v ht
    rw [←e6] at ht
    simp only [Nat.zero_add]
    rw [List.getElem?_take] at ht
    split at ht
    ·simpa using ht
    ·simp at ht
theorem sem_callO {f:Nat} {xs:List X} {args:List AV} {T n:Nat} {rows:List (List AV)} (hf:FunO c.P f args T n rows)
  (ha:AV.le.leL (Zq S xs) args) (hp:Zo args=true):Z33 c S (.call f xs) (.osl (Zj S.ss)) ⟨S.tm,S.bs,S.ss++[some ⟨T,n,rows⟩]⟩:=by
 intro ro ho M a w hT next Q hn
 obtain ⟨dst,op,ty,pos,af,gd⟩:=ro
 dsimp only at ho
 obtain ⟨cargs,argTypes,rfl,hfn,rfl⟩:=Z63 ho
 have hm:=Zs1 _ _ (Zu2 _ _ _ ha (Zj2 hT cargs.toList)) hp
 have hc:=hf M.H w _ hT.st.hle hT.st.pin.gl hm
 have hrun:(execOp a.eval ⟨dst,.call ⟨.value (.func f),cargs,argTypes⟩,ty,pos,af,gd⟩).run c.P w = .ok (.enter f (cargs.map a.eval)) w:=by
  have he:a.eval (.func f) = .func (.func f) #[] #[]:=rfl
  generalize a.eval=ρ at *
  simp [execOp,resolve,Deferred.ofValue,invoke,he,Z53 hfn]
 unfold Oper.wp
 rw [hrun]
 show Calls c.P f (cargs.map a.eval) w _
 have e1:(cargs.toList.map a.eval).toArray=cargs.map a.eval:=by apply Array.ext';simp
 rw [←e1]
 refine hc.mono ?_
 rintro e w' ⟨v,H',vss,rfl,hb,h1,h2,h3,h4,h5,h6,h7⟩
 obtain ⟨hS,hle⟩:=hT.st.sealed hb h1 h2
 have hN:=hS.name ⟨T,n,rows⟩ v vss h3 (Zq1 (Zm1 _) _ _ _ h4) h5 h6 (fun g hg=>⟨.inl (Nat.le_trans hT.st.size (h7 g hg).1),(h7 g hg).2⟩)
  (fun i B hi e=>by have h8:w.heap.size≤M.ρ i:=(h7 _ e).1;have:=hT.st.blk_lt hi;omega)
  (fun j N g hj e1 e2=>by have h8:=(h7 _ e1).1;have:=hT.st.slc_lt hj e2;omega)
 refine hn _ w' v (hle.trans (Mem.le_addS _ v)) hN ?_
 rw [Z91,←hT.st.ns]
 exact ⟨Nat.lt_succ_self _,by simp [Mem.addS]⟩
theorem Zk5 {d:Option Nat} {g:Option (Nat×Bool)} {f:Nat} {xs:List X} {l:List EOp} {args:List AV} {T n:Nat} {rows:List (List AV)} (hg:gm S g) (hf:FunO c.P f args T n rows)
  (ha:AV.le.leL (Zq S xs) args:=by first | exact Zg4 _ | simp [go_sem]) (hp:Zo args=true:=by first | rfl | simp [go_sem]) (h:V c fn K (.ops l::k) ((⟨S.tm,S.bs,S.ss++[some ⟨T,n,rows⟩]⟩:St).put d (.osl (Zj S.ss)))):V c fn K (.ops (⟨d,g,.call f xs⟩::l)::k) S:=
 Z43 hg (sem_callO hf ha hp) rfl h
theorem GO_callO {all:Array Oper} {ops:List EOp} {af:List (List Nat)} {Φ:St→Prop} {m:Nat} {ld:List Bool} (hall:all.toList.mapM (Za c.P all)=some ops) {i f:Nat} {xs:List X} {args:List AV} {T n:Nat} {rows:List (List AV)} (ho:(Z61 ops i).o = .call f xs) (hg:gm S (Z61 ops i).g) (hf:FunO c.P f args T n rows)
  (ha:AV.le.leL (Zq S xs) args:=by first | exact Zg4 _ | simp [go_sem]) (hp:Zo args=true:=by first | rfl | simp [go_sem]) (h:G c all ops af Φ m (Z31 ld i) ((⟨S.tm,S.bs,S.ss++[some ⟨T,n,rows⟩]⟩:St).put (Z61 ops i).d (.osl (Zj S.ss)))):GO c all ops af Φ m ld S i:=
 Z54 (S1:=⟨S.tm,S.bs,S.ss++[some ⟨T,n,rows⟩]⟩) hall hg (by rw [ho];exact sem_callO hf ha hp) rfl (by rw [ho];exact fun _ _ _ _ h _ _=>h) h
end
end NX
end Go.Proofs.YthlodgjekbidcaaGreat
/-
  The symbolic machine: own blocks change their names; what is appended is sealed at once. No statement of the seat is proved here.
-/
namespace Go.Proofs.YthlodgjekbidcaaGreat
namespace NX
open Go Go.RowKit
def swN (p q i:Nat):Nat:=match i==p with
 | true=>q
 | false=>match i==q with
   | true=>p
   | false=>i
theorem Zl5 (p q i:Nat):swN p q i=if i=p then q else if i=q then p else i:=by
 unfold swN
 cases h:i==p
 ·have h1:i≠p:=by simpa using h
  rw [if_neg h1]
  cases h2:i==q
  ·have h3:i≠q:=by simpa using h2
   rw [if_neg h3]
  ·have h3:i=q:=by simpa using h2
   rw [if_pos h3]
 ·have h1:i=p:=by simpa using h
  rw [if_pos h1]
theorem swN_swN (p q i:Nat):swN p q (swN p q i)=i:=by
 simp only [Zl5]
 by_cases h1:i=p
 ·rw [if_pos h1]
  by_cases h2:q=p
  ·rw [if_pos h2,h1,h2]
  ·rw [if_neg h2,if_pos rfl,h1]
 ·rw [if_neg h1]
  by_cases h2:i=q
  ·rw [if_pos h2,if_pos rfl,h2]
  ·rw [if_neg h2,if_neg h1,if_neg h2]
theorem swN_lt {p q i n:Nat} (hp:p<n) (hq:q<n) (hi:i<n):swN p q i<n:=by
 rw [Zl5];split
 ·exact hq
 ·split
  ·exact hp
  ·exact hi
mutual
def AV.swB (p q:Nat):AV→AV
 | .ptr i o=>.ptr (swN p q i) o
 | .agg l=>.agg (swBL p q l)
 | .tup l=>.tup (swBL p q l)
 | .clo f l=>.clo f (swBL p q l)
 | .any=>.any
 | .un=>.un
 | .tt=>.tt
 | .ff=>.ff
 | .bv e=>.bv e
 | .iv n=>.iv n
 | .kv k n=>.kv k n
 | .sv x=>.sv x
 | .nl=>.nl
 | .nlp=>.nlp
 | .fn f=>.fn f
 | .osl i=>.osl i
 | .oel i a b=>.oel i a b
 | .ocs i a n b=>.ocs i a n b
 | .elt row o=>.elt row o
 | .sl n rows=>.sl n rows
def swBL (p q:Nat):List AV→List AV
 | []=>[]
 | x::l=>x.swB p q::swBL p q l
end
def St.swB (S:St) (p q:Nat):St:=⟨swBL p q S.tm,Zg (Zg (mapB (swBL p q) S.bs) p (Zf (mapB (swBL p q) S.bs) q)) q (Zf (mapB (swBL p q) S.bs) p),S.ss⟩
attribute [go_sem] AV.swB swBL St.swB swN
theorem Zm5 (p q:Nat):∀l,(swBL p q l).length=l.length
 | []=>rfl
 | _::l=>by simp [swBL,Zm5 p q l]
theorem swBL_get (p q:Nat):∀(l:List AV) (t:Nat),Zd (swBL p q l) t=(Zd l t).swB p q
 | [],_=>by simp [swBL,Zd,AV.swB]
 | _::_,0=>rfl
 | _::l,t+1=>swBL_get p q l t
section
variable {c:Ctx} {M:Mem} {S S':St} {a:Act} {w:World} {fn:Func} {K:AV→List (Option Blk)→List (Option Sl)→Prop} {k:List It}
mutual
theorem swB_is {M M':Mem} {p q:Nat} (hp:p<M.nb) (hq:q<M.nb) (hρ:∀i,M'.ρ i=M.ρ (swN p q i)) (hnb:M'.nb=M.nb) (hns:M'.ns=M.ns) (hσ:M'.σ=M.σ) (hH:M'.H=M.H):∀(x:AV) (v:Value),x.is M v→(x.swB p q).is M' v
 | .any,_,_=>trivial
 | .un,_,k | .tt,_,k | .ff,_,k | .bv _,_,k | .iv _,_,k | .kv _ _,_,k | .sv _,_,k | .nl,_,k | .nlp,_,k | .fn _,_,k=>k
 | .ptr j off,x,k=>⟨by rw [hnb];exact swN_lt hp hq k.1,by rw [hρ,swN_swN];exact k.2⟩
 | .osl j,x,k=>⟨by rw [hns];exact k.1,by rw [hσ];exact k.2⟩
 | .oel j a off,x,k=>⟨by rw [hns];exact k.1,by rw [hσ];exact k.2⟩
 | .ocs j a n off,x,k=>⟨by rw [hns];exact k.1,by rw [hσ];exact k.2⟩
 | .elt row off,x,⟨a,vs,h1,h2,h3⟩=>⟨a,vs,h1,by rw [show M'.pure=M.pure by simp [Mem.pure,hH]];exact h2,by rw [hH];exact h3⟩
 | .sl n rows,x,⟨a,c,h1,h2,h3⟩=>⟨a,c,h1,h2,by rw [show M'.pure=M.pure by simp [Mem.pure,hH],hH];exact h3⟩
 | .agg l,x,⟨vs,h1,h2⟩=>⟨vs,h1,Zn5 hp hq hρ hnb hns hσ hH l vs h2⟩
 | .tup l,x,⟨vs,h1,h2⟩=>⟨vs,h1,Zn5 hp hq hρ hnb hns hσ hH l vs h2⟩
 | .clo f l,x,⟨vs,h1,h2⟩=>⟨vs,h1,Zn5 hp hq hρ hnb hns hσ hH l vs h2⟩
theorem Zn5 {M M':Mem} {p q:Nat} (hp:p<M.nb) (hq:q<M.nb) (hρ:∀i,M'.ρ i=M.ρ (swN p q i)) (hnb:M'.nb=M.nb) (hns:M'.ns=M.ns) (hσ:M'.σ=M.σ) (hH:M'.H=M.H):∀(l:List AV) (vs:List Value),AV.isL M l vs→AV.isL M' (swBL p q l) vs
 | [],_,k=>k
 | x::l,_,⟨v,r,h1,h2,h3⟩=>⟨v,r,h1,swB_is hp hq hρ hnb hns hσ hH x v h2,Zn5 hp hq hρ hnb hns hσ hH l r h3⟩
end
theorem Zo5 (p q:Nat) (hp:Z3 (p+1) (Zj S.bs)=true) (hq:Z3 (q+1) (Zj S.bs)=true) (h:V c fn K k (S.swB p q)) (hpn:Z3 c.np p=true:=by rfl) (hqn:Z3 c.np q=true:=by rfl):V c fn K k S:=by
 intro rk M a w hc hT
 rw [Z81,Z91] at hp hq
 have hS:=hT.st
 have hp':p<M.nb:=by rw [hS.nb];exact hp
 have hq':q<M.nb:=by rw [hS.nb];exact hq
 let M':Mem:= {M with ρ:=fun i=>M.ρ (swN p q i)}
 have hx:=fun x v=>swB_is (M:=M) (M':=M') hp' hq' (fun _=>rfl) rfl rfl rfl rfl x v
 have hxL:=fun x v=>Zn5 (M:=M) (M':=M') hp' hq' (fun _=>rfl) rfl rfl rfl rfl x v
 have get:∀i B,Zf (S.swB p q).bs i=some B→∃C,Zf S.bs (swN p q i)=some C∧B=⟨C.T,swBL p q C.cells⟩:=by
  intro i B hi
  simp only [St.swB] at hi
  rw [Zd1] at hi
  split at hi
  ·rename_i e
   obtain ⟨rfl,_⟩:=e
   have:swN p i i=p:=by rw [Zl5];by_cases h:i=p<;>simp [h]
   rw [this];exact Ze3 _ _ _ _ hi
  ·rename_i e
   rw [Zd1] at hi
   split at hi
   ·rename_i e2
    obtain ⟨rfl,_⟩:=e2
    have:swN i q i=q:=by simp [Zl5]
    rw [this];exact Ze3 _ _ _ _ hi
   ·rename_i e2
    have n1:i≠q:=fun h=>e ⟨h,by rw [Ze1,Zd3];exact hq⟩
    have n2:i≠p:=fun h=>e2 ⟨h,by rw [Zd3];exact hp⟩
    have:swN p q i=i:=by rw [Zl5,if_neg n2,if_neg n1]
    rw [this];exact Ze3 _ _ _ _ hi
 refine h rk M' a w hc ⟨by simp only [St.swB,Zm5];exact hT.len,fun t=>by simp only [St.swB,swBL_get];exact hx _ _ (hT.tm t),hT.df,?_⟩
 refine ⟨by simp only [St.swB,Ze1,Zd3];exact hS.nb,hS.ns,hS.so,hS.os,hS.tape,hS.output,hS.size,hS.block,hS.hle,hS.hold,?_,hS.slc,?_,?_,hS.d3,⟨hS.pin.nb,fun j hj=>by
  rw [Z81] at hpn hqn
  show M.ρ (swN p q j)=_
  rw [Zl5,if_neg (by omega),if_neg (by omega)];exact hS.pin.ρ j hj,hS.pin.ns,hS.pin.σ,hS.pin.gl⟩⟩
 ·intro i B hi
  obtain ⟨C,hC,rfl⟩:=get i B hi
  obtain ⟨g1,g2,vs,g3,g4,g5⟩:=hS.blk _ C hC
  exact ⟨g1,g2,vs,hxL _ _ g3,g4,g5⟩
 ·intro i j B C hi hj e
  obtain ⟨B',hB,_⟩:=get i B hi
  obtain ⟨C',hC,_⟩:=get j C hj
  have:=hS.d1 _ _ B' C' hB hC e
  rw [←swN_swN p q i,this,swN_swN]
 ·intro i j B L hi hj
  obtain ⟨B',hB,_⟩:=get i B hi
  exact hS.d2 _ j B' L hB hj
end
theorem G_runN {c:Ctx} {all:Array Oper} {ops:List EOp} (hall:all.toList.mapM (Za c.P all)=some ops) (hsel:Region.noSelect all=true) {Φ:St→Prop} (r:Nat):
  ∀(m:Nat) (ld:List Bool) (S:St) (p:Prop),(grun ops (Zb all) (Zc all) m ld S p).2.2.2→
   G c all ops (Zb all) Φ ((grun ops (Zb all) (Zc all) m ld S p).1+r) (grun ops (Zb all) (Zc all) m ld S p).2.1 (grun ops (Zb all) (Zc all) m ld S p).2.2.1→p∧G c all ops (Zb all) Φ (m+r) ld S
 | 0,ld,S,p,hp,h=>⟨hp,h⟩
 | m+1,ld,S,p,hp,h=>by
   simp only [grun] at hp h
   split at hp
   ·rename_i x hx
    rw [hx] at h
    obtain ⟨i,v,q⟩:=x
    obtain ⟨h1,h2⟩:=G_runN hall hsel r m _ _ _ hp h
    obtain ⟨k1,k2,k3,k4⟩:=Z14 hx
    refine ⟨h1.1,?_⟩
    rw [show m+1+r=(m+r)+1 by omega]
    exact G_take hall hsel i h1.2 (m+r) ld S k1 k2 k3 k4 h2
   ·rename_i hx
    rw [hx] at h
    exact ⟨hp,h⟩
theorem Zp5 {c:Ctx} {all:Array Oper} {ops:List EOp} {af nap:List (List Nat)} (hall:all.toList.mapM (Za c.P all)=some ops) (hsel:Region.noSelect all=true) (haf:af=Zb all) (hnap:nap=Zc all) {Φ:St→Prop} (m r:Nat)
  {ld:List Bool} {S:St} (h:(grun ops af nap m ld S True).2.2.2∧G c all ops af Φ ((grun ops af nap m ld S True).1+r) (grun ops af nap m ld S True).2.1 (grun ops af nap m ld S True).2.2.1):G c all ops af Φ (m+r) ld S:=by
 subst haf;subst hnap
 exact (G_runN hall hsel r _ _ _ True h.1 h.2).2
def tN:Nat→Prop
 | 0=>True
 | n+1=>tN n∧True
theorem tN_true:∀n,tN n
 | 0=>trivial
 | n+1=>⟨tN_true n,trivial⟩
def an:Nat→List AV→List AV
 | 0,l=>l
 | n+1,l=>.any::an n l
attribute [go_sem] an
def rp (b:Bool):Nat→List Bool→List Bool
 | 0,l=>l
 | n+1,l=>b::rp b n l
def rl:List Nat→List Bool
 | []=>[]
 | [n]=>rp true n []
 | n::m::r=>rp true n (rp false m (rl r))
def skp:Nat→(List AV→List AV)→List AV→List AV
 | 0,f,l=>f l
 | n+1,f,[]=>.any::skp n f []
 | n+1,f,x::l=>x::skp n f l
def ptv:List AV→(List AV→List AV)→List AV→List AV
 | [],f,l=>f l
 | v::vs,f,[]=>v::ptv vs f []
 | v::vs,f,_::l=>v::ptv vs f l
def pt:List (Nat×List AV)→List AV→List AV
 | [],l=>l
 | (n,vs)::p,l=>skp n (ptv vs (pt p)) l
attribute [go_sem] skp ptv pt rp rl
theorem G_goE {c:Ctx} {all:Array Oper} {ops:List EOp} {af nap:List (List Nat)} (hall:all.toList.mapM (Za c.P all)=some ops) (hsel:Region.noSelect all=true) (haf:af=Zb all) (hnap:nap=Zc all) {Φ:St→Prop} (m r:Nat)
  {ld:List Bool} {S:St} (ld':List Bool) (S':St) (he:grun ops af nap m ld S True=(0,ld',S',tN m)) (h:G c all ops af Φ r ld' S'):G c all ops af Φ (m+r) ld S:=
 Zp5 hall hsel haf hnap m r (by rw [he];exact ⟨tN_true m,by simpa using h⟩)
theorem Zq5 {c:Ctx} {all:Array Oper} {ops:List EOp} {af nap:List (List Nat)} (hall:all.toList.mapM (Za c.P all)=some ops) (hsel:Region.noSelect all=true) (haf:af=Zb all) (hnap:nap=Zc all) {Φ:St→Prop} (m r:Nat)
  {ld:List Bool} {S:St} (b:List Nat) (u:List (Nat×List AV)) (he:grun ops af nap m ld S True=(0,rl b,⟨pt u S.tm,S.bs,S.ss⟩,tN m)) (h:G c all ops af Φ r (rl b) ⟨pt u S.tm,S.bs,S.ss⟩):G c all ops af Φ (m+r) ld S:=
 G_goE hall hsel haf hnap m r _ _ he h
theorem Zr5 {P:Program} {w0:World} {H0:Frag} {f:Nat} {fn:Func} {body:EC} {rs:List ERes} {np nt:Nat} {k:List It} {S:St} {T n j:Nat} {α:Type} {e r:List α} (g:α→List AV) (ok:FnOK P f fn body rs np nt) (h:some e=some r)
  (hr:resV S rs=some (.osl j)) (hj:Zf S.ss j=some ⟨T,n,e.map g⟩):V (Ctx.of P w0 H0) fn (fun x _ ss=>∃j,x = .osl j∧Zf ss j=some ⟨T,n,r.map g⟩) (.code .ret::k) S:=by
 obtain rfl:=Option.some.inj h
 exact O_done ok hr hj
end NX
end Go.Proofs.YthlodgjekbidcaaGreat
/-
  The symbolic machine: elements of own slices, read and written. No statement of the seat is proved here.
-/
namespace Go.Proofs.YthlodgjekbidcaaGreat
namespace NX
open Go Go.RowKit
section
variable {c:Ctx} {M:Mem} {S S':St} {a:Act} {w:World} {fn:Func} {K:AV→List (Option Blk)→List (Option Sl)→Prop} {k:List It} {bs:List (Option Blk)} {ss:List (Option Sl)}
theorem RelS.rewrite (h:RelS c M bs ss w) {j g:Nat} {L:Sl} (hj:Zf ss j=some L) (hown:(M.σ j).ownBlock=some g) {w':World} (hg:w.grownBy w' (some g)) {rows':List (List AV)} {vss':List (List Value)} (h1:AV.isLL M.sl L.n rows' vss')
  (h2:∀v∈vss'.flatten,v.oneCell'=true) (h3:w'.ownsRow 0 L.T L.n (M.σ j) rows'.length vss'.flatten):RelS c M bs (Zg ss j (some ⟨L.T,L.n,rows'⟩)) w':=by
 obtain ⟨g0,vss,_,_,hrow,hmine⟩:=h.slc j L hj
 obtain ⟨m1,m2⟩:=hmine g hown
 have old:∀i N,Zf (Zg ss j (some (⟨L.T,L.n,rows'⟩:Sl))) i=some N→(i=j∧N=⟨L.T,L.n,rows'⟩)∨(i≠j∧Zf ss i=some N):=by
  intro i N hi
  rw [Zd1] at hi
  split at hi
  ·rename_i e;left;exact ⟨e.1,by simpa using hi.symm⟩
  ·rename_i e;right;exact ⟨fun x=>e ⟨x,Zf1 hj⟩,hi⟩
 have live:∀i N,Zf (Zg ss j (some (⟨L.T,L.n,rows'⟩:Sl))) i=some N→∃N',Zf ss i=some N':=by
  intro i N hi
  rcases old i N hi with ⟨rfl,_⟩ | ⟨_,h⟩
  ·exact ⟨_,hj⟩
  ·exact ⟨_,h⟩
 obtain ⟨e1,e2,e3,e4,e5⟩:=hg
 refine ⟨h.nb,by rw [Ze1];exact h.ns,h.so,e1.trans h.os,e2.trans h.tape,e3.trans h.output,Nat.le_trans h.size e4,?_,?_,h.hold,?_,?_,h.d1,?_,?_,h.pin⟩
 ·intro k hk hb
  rw [e5 k (Nat.lt_of_lt_of_le hk h.size) (fun e=>by
   simp at e;subst e
   rcases m1 with m1 | m1
   ·omega
   ·exact hb m1)]
  exact h.block k hk hb
 ·intro k o hk
  have hlt:=(Array.getElem?_eq_some_iff.1 (h.hle k o hk)).1
  rw [e5 k hlt (fun e=>by simp at e;subst e;rw [m2] at hk;simp at hk)]
  exact h.hle k o hk
 ·intro i B hi
  obtain ⟨g1,g2,vs,g3,g4,g5⟩:=h.blk i B hi
  refine ⟨g1,g2,vs,g3,?_,g5⟩
  rw [e5 _ (h.blk_lt hi) (fun e=>h.d2 i j B L hi hj (by rw [hown];exact e.symm))]
  exact g4
 ·intro i N hi
  rcases old i N hi with ⟨rfl,rfl⟩ | ⟨hne,hi⟩
  ·exact ⟨g0,vss',h1,h2,h3,hmine⟩
  ·obtain ⟨q0,uss,q1,q2,q3,q4⟩:=h.slc i N hi
   refine ⟨q0,uss,q1,q2,World.ownsRow.kept q3 (row:=some g) ⟨e1,e2,e3,e4,e5⟩ (.inr fun e=>?_),q4⟩
   exact hne (h.d3 i j N L g hi hj e hown)
 ·intro i t B N hi ht
  obtain ⟨N',hN⟩:=live t N ht
  exact h.d2 i t B N' hi hN
 ·intro i t N O g' hi ht
  obtain ⟨N',hN⟩:=live i N hi
  obtain ⟨O',hO⟩:=live t O ht
  exact h.d3 i t N' O' g' hN hO
theorem own_row (hT:RelT c M S a w) {j i:Nat} {L:Sl} {row:List AV} (hj:Zf S.ss j=some L) (hr:L.rows[i]?=some row):
  ∃g cap cur vss vs,M.σ j = .slice (some ⟨g,0,none⟩) L.rows.length cap∧w.heap[g]?=some (.cells cur L.T (0,0))∧cur.size=cap*L.n∧L.rows.length≤cap∧cap≤maxLen∧AV.isLL M.sl L.n L.rows vss∧cur.toList.take (L.rows.length*L.n)=vss.flatten∧
   (∀v∈vss.flatten,v.oneCell'=true)∧vss[i]?=some vs∧vs.length=L.n∧AV.isL M.sl row vs∧(∀(m:Nat) v,vs[m]?=some v→cur[i*L.n+m]?=some v):=by
 obtain ⟨g0,vss,h1,h2,h3,h4⟩:=hT.st.slc j L hj
 have hlt:=(List.getElem?_eq_some_iff.1 hr).1
 rcases h3.2 with ⟨_,e3⟩ | ⟨g,cap,cur,e2,_,e3,e4,e5,e6,e7⟩
 ·omega
 ·obtain ⟨vs,q1,q2,q3,q4⟩:=Z83 h1 i row hr
  refine ⟨g,cap,cur,vss,vs,e2,e3,e6,e4,e5,h1,e7,h2,q1,q2,q3,fun m v hm=>?_⟩
  have:=q4 m v hm
  rw [←e7,List.getElem?_take] at this
  split at this
  ·simpa using this
  ·simp at this
theorem sem_idxO {n j:Nat} {x i:X} {z:Int} {L:Sl} (hx:S.x x = .osl j) (hi:S.x i = .iv z) (hj:Zf S.ss j=some L) (_:L.n=n) (h0:0≤z) (h1:z<L.rows.length):Z33 c S (.idx n x i) (.oel j (z.toNat*n) 0) S:=by
 intro ro hop M a w hT next Q hnx
 obtain ⟨dst,op,ty,pos,af,gd⟩:=ro
 dsimp only at hop
 obtain ⟨T,y,q,e,rfl,hu,hs,rfl,rfl⟩:=cO_idx hop
 have k1:=Z12 hT y
 have k2:=Z12 hT q
 rw [hx] at k1
 rw [hi] at k2
 obtain ⟨row,hr⟩:∃row,L.rows[z.toNat]?=some row:=⟨_,List.getElem?_eq_getElem (by omega)⟩
 obtain ⟨g,cap,cur,_,_,e2,_,_,_,_,_⟩:=own_row hT hj hr
 have hrun:=idx_run (P:=c.P) (w:=w) hu hs (k1.2.trans e2) k2 h0 h1 dst ty pos af gd
 unfold Oper.wp
 rw [hrun]
 refine hnx M w _ (.refl M) hT.st ⟨k1.1,g,_,cap,e2,?_⟩
 rw [Addr.add_lit];simp
theorem V_idxO {d:Option Nat} {g:Option (Nat×Bool)} {l:List EOp} {n j:Nat} {x i:X} {z:Int} {L:Sl} (hg:gm S g) (hx:S.x x = .osl j) (hi:S.x i = .iv z) (hj:Zf S.ss j=some L) (hn:L.n=n) (h0:0≤z) (h1:z<L.rows.length)
  (h:V c fn K (.ops l::k) (S.put d (.oel j (z.toNat*n) 0))):V c fn K (.ops (⟨d,g,.idx n x i⟩::l)::k) S:=
 Z43 hg (sem_idxO hx hi hj hn h0 h1) rfl h
theorem Zs5 {α:Type} {l':List α} {z:Int} {v:α} {d:Option Nat} {g:Option (Nat×Bool)} {l:List EOp} {T n j:Nat} {x i:X} (f:α→List AV) (hv:at_ l' z=some v) (hg:gm S g) (hx:S.x x = .osl j) (hi:S.x i = .iv z) (hj:Zf S.ss j=some ⟨T,n,l'.map f⟩)
  (h:V c fn K (.ops l::k) (S.put d (.oel j (z.toNat*n) 0))):V c fn K (.ops (⟨d,g,.idx n x i⟩::l)::k) S:=by
 obtain ⟨h0,hr⟩:=Zx4 hv
 have:=(List.getElem?_eq_some_iff.1 hr).1
 exact V_idxO hg hx hi hj rfl h0 (by simp;omega) h
theorem Zt5 {α:Type} {l:List α} {z:Int} {y y':α} (h:at_ l z=some y):at_ (l.set z.toNat y') z=some y':=by
 obtain ⟨h0,hr⟩:=Zx4 h
 have:=(List.getElem?_eq_some_iff.1 hr).1
 unfold at_
 rw [if_pos h0];simp [this]
theorem cO_load {P:Program} {op:Op} {x:X} (ho:cO P op = .load x):∃T y,op = .load T y∧Z4 P T=some none∧cX y=x:=by
 cases op
 case load T y=>
  simp only [cO] at ho
  split at ho
  ·rename_i h;simp only [EO.load.injEq] at ho;exact ⟨T,y,rfl,h,ho⟩
  ·simp at ho
  ·simp at ho
 all_goals (simp only [cO] at ho;(repeat' (split at ho))<;>simp at ho)
theorem cO_loadA {P:Program} {op:Op} {n:Nat} {x:X} (ho:cO P op = .loadA n x):∃T y,op = .load T y∧Z4 P T=some (some n)∧cX y=x:=by
 cases op
 case load T y=>
  simp only [cO] at ho
  split at ho
  ·simp at ho
  ·rename_i h;simp only [EO.loadA.injEq] at ho;exact ⟨T,y,rfl,by rw [h,ho.1],ho.2⟩
  ·simp at ho
 all_goals (simp only [cO] at ho;(repeat' (split at ho))<;>simp at ho)
theorem cO_storeX {P:Program} {op:Op} {n:Nat} {x y:X} (ho:cO P op = .store n x y):∃T p q,op = .store T p q∧Z6 P T=some n∧cX p=x∧cX q=y:=by
 cases op
 case store T p q=>
  simp only [cO] at ho
  split at ho
  ·rename_i n' h;simp only [EO.store.injEq] at ho;exact ⟨T,p,q,rfl,by rw [h,ho.1],ho.2.1,ho.2.2⟩
  ·simp at ho
 all_goals (simp only [cO] at ho;(repeat' (split at ho))<;>simp at ho)
theorem oel_cells (hT:RelT c M S a w) {j i n off m:Nat} {L:Sl} {row l:List AV} {u:Value} (hu:(AV.oel j (i*n) off).is M u) (hj:Zf S.ss j=some L) (hn:L.n=n) (hr:L.rows[i]?=some row) (hl:Zh row off m=some l):
  ∃g vs,u = .pointer (some ⟨g,i*n+off,none⟩)∧AV.isL M l vs∧vs.length=m∧∀(q:Nat) v,vs[q]?=some v→w.cell? ⟨g,i*n+off+q,none⟩=some v:=by
 subst hn
 obtain ⟨_,g',n',cap',e1,rfl⟩:=hu
 obtain ⟨g,cap,cur,vss,vs,e2,e3,_,_,_,_,_,_,_,q2,q3,q4⟩:=own_row hT hj hr
 rw [e2] at e1
 simp only [Value.slice.injEq,Option.some.injEq,Addr.mk.injEq] at e1
 obtain ⟨⟨rfl,_⟩,_⟩:=e1
 obtain ⟨rfl,hle⟩:=Zg1 hl
 refine ⟨g,(vs.drop off).take m,rfl,Zp1 (sl_le M) _ _ (Zk1 m (Zl1 off q3)),by have:=Zi1 q3;simp;omega,?_⟩
 intro q v hq
 rw [List.getElem?_take] at hq
 split at hq
 ·simp at hq
  have:=q4 _ v hq
  simp only [World.cell?,e3]
  simp only [Option.isSome_none,Bool.false_eq_true,if_false]
  rw [Nat.add_assoc];exact this
 ·simp at hq
theorem Zu5 {j i n off:Nat} {x:X} {L:Sl} {row:List AV} {v:AV} (hx:S.x x = .oel j (i*n) off) (hj:Zf S.ss j=some L) (hn:L.n=n) (hr:L.rows[i]?=some row) (hl:Zh row off 1=some [v]):Z33 c S (.load x) v S:=by
 intro ro hop M a w hT next Q hnx
 obtain ⟨dst,op,ty,pos,af,gd⟩:=ro
 dsimp only at hop
 obtain ⟨T,y,rfl,hT1,rfl⟩:=cO_load hop
 have k1:=Z12 hT y
 rw [hx] at k1
 obtain ⟨g,vs,hu,h2,h3,h4⟩:=oel_cells hT k1 hj hn hr hl
 obtain ⟨u,rfl⟩:∃u,vs=[u]:=by
  cases vs with
  | nil=>simp at h3
  | cons u r=>cases r with
    | nil=>exact ⟨u,rfl⟩
    | cons _ _=>simp at h3
 have hc:=h4 0 u (by simp)
 have hrun:(execOp a.eval ⟨dst,.load T y,ty,pos,af,gd⟩).run c.P w = .ok (.value u) w:=by
  generalize a.eval=ρ at *
  simp only [Nat.add_zero] at hc
  simp [execOp,hu,Instr.loadAt,Instr.sureAddr,Zb2 hT1 hc]
 unfold Oper.wp
 rw [hrun]
 refine hnx M w u (.refl M) hT.st ?_
 obtain ⟨_,_,h,hy,_⟩:=h2
 simp at h;obtain ⟨rfl,rfl⟩:=h;exact hy
theorem V_loadO {α:Type} {l':List α} {z:Int} {y:α} {d:Option Nat} {g:Option (Nat×Bool)} {l:List EOp} {j T n off:Nat} {x:X} {v:AV} (f:α→List AV) (hv:at_ l' z=some y) (hg:gm S g) (hx:S.x x = .oel j (z.toNat*n) off) (hj:Zf S.ss j=some ⟨T,n,l'.map f⟩)
  (hl:Zh (f y) off 1=some [v]) (h:V c fn K (.ops l::k) (S.put d v)):V c fn K (.ops (⟨d,g,.load x⟩::l)::k) S:=
 Z43 hg (Zu5 hx hj rfl (Zy4 (Zx4 hv).2) hl) rfl h
theorem Zv5 {j i n off m:Nat} {x:X} {L:Sl} {row r:List AV} (hx:S.x x = .oel j (i*n) off) (hj:Zf S.ss j=some L) (hn:L.n=n) (hr:L.rows[i]?=some row) (hl:Zh row off m=some r):Z33 c S (.loadA m x) (.agg r) S:=by
 intro ro hop M a w hT next Q hnx
 obtain ⟨dst,op,ty,pos,af,gd⟩:=ro
 dsimp only at hop
 obtain ⟨T,y,rfl,hT1,rfl⟩:=cO_loadA hop
 have k1:=Z12 hT y
 rw [hx] at k1
 obtain ⟨g,vs,hu,h2,h3,h4⟩:=oel_cells hT k1 hj hn hr hl
 have hrun:(execOp a.eval ⟨dst,.load T y,ty,pos,af,gd⟩).run c.P w = .ok (.value (.agg vs.toArray)) w:=by
  generalize a.eval=ρ at *
  simp [execOp,hu,Instr.loadAt,Instr.sureAddr,Zc2 hT1 h3 h4]
 unfold Oper.wp
 rw [hrun]
 exact hnx M w _ (.refl M) hT.st ⟨vs,rfl,h2⟩
theorem V_loadAO {α:Type} {l':List α} {z:Int} {y:α} {d:Option Nat} {g:Option (Nat×Bool)} {l:List EOp} {j T n off m:Nat} {x:X} {r:List AV} (f:α→List AV) (hv:at_ l' z=some y) (hg:gm S g) (hx:S.x x = .oel j (z.toNat*n) off) (hj:Zf S.ss j=some ⟨T,n,l'.map f⟩)
  (hl:Zh (f y) off m=some r) (h:V c fn K (.ops l::k) (S.put d (.agg r))):V c fn K (.ops (⟨d,g,.loadA m x⟩::l)::k) S:=
 Z43 hg (Zv5 hx hj rfl (Zy4 (Zx4 hv).2) hl) rfl h
theorem isLL_set {M:Mem} {n:Nat}:∀ {rows:List (List AV)} {vss:List (List Value)} {i:Nat} {row:List AV} {vs:List Value},AV.isLL M n rows vss→AV.isL M row vs→vs.length=n→AV.isLL M n (rows.set i row) (vss.set i vs)
 | [],_,i,_,_,h,_,_=>by simp [AV.isLL] at h;subst h;simp [AV.isLL]
 | r::rows,_,0,_,_,⟨v,q,h0,h1,h2,h3⟩,hr,hl=>by subst h0;exact ⟨_,_,rfl,hl,hr,h3⟩
 | r::rows,_,i+1,_,_,⟨v,q,h0,h1,h2,h3⟩,hr,hl=>by subst h0;exact ⟨v,_,rfl,h1,h2,isLL_set h3 hr hl⟩
theorem Zw5 {n off:Nat} {cs:List Value}:∀ {vss:List (List Value)} {i:Nat} {vs:List Value},(∀v∈vss,v.length=n)→vss[i]?=some vs→off+cs.length≤n→
  (vss.set i (vs.take off++cs++vs.drop (off+cs.length))).flatten=vss.flatten.take (i*n+off)++cs++vss.flatten.drop (i*n+off+cs.length)
 | [],i,vs,_,h,_=>by simp at h
 | v::vss,0,vs,hn,h,hle=>by
   simp at h;subst h
   have hv:=hn v (by simp)
   simp only [List.set_cons_zero,List.flatten_cons,Nat.zero_mul,Nat.zero_add]
   rw [List.take_append_of_le_length (by omega),List.drop_append_of_le_length (by omega)]
   simp [List.append_assoc]
 | v::vss,i+1,vs,hn,h,hle=>by
   have hv:=hn v (by simp)
   have ih:=Zw5 (n:=n) (off:=off) (cs:=cs) (vss:=vss) (i:=i) (vs:=vs) (fun u hu=>hn u (by simp [hu])) (by simpa using h) hle
   simp only [List.set_cons_succ,List.flatten_cons]
   rw [ih,show (i+1)*n+off=v.length+(i*n+off) by rw [hv,Nat.add_mul];omega,show v.length+(i*n+off)+cs.length=v.length+(i*n+off+cs.length) by omega,List.take_length_add_append,List.drop_length_add_append]
   simp [List.append_assoc]
theorem Zx5 {M:Mem} {n:Nat}:∀ {rows:List (List AV)} {vss:List (List Value)},AV.isLL M n rows vss→(∀v∈vss,v.length=n)∧vss.length=rows.length
 | [],_,h=>by simp [AV.isLL] at h;subst h;simp
 | _::rows,_,⟨v,q,h0,h1,h2,h3⟩=>by
   subst h0
   obtain ⟨k1,k2⟩:=Zx5 h3
   exact ⟨fun u hu=>by rcases List.mem_cons.1 hu with rfl | hu;exact h1;exact k1 u hu,by simp [k2]⟩
def AV.slo:AV→Bool
 | .osl _=>true
 | x=>x.pu
def slL:List AV→Bool
 | []=>true
 | x::l=>Z2 x.slo (slL l)
attribute [go_sem] AV.slo slL
theorem slo_is {M:Mem} (x:AV) (v:Value) (h:x.is M v) (hp:x.slo=true):x.is M.sl v:=by
 cases x
 case osl j=>exact h
 all_goals exact Zo1 (Zm1 M) _ _ (pu_is _ _ h hp)
theorem slL_is {M:Mem}:∀(l:List AV) (vs:List Value),AV.isL M l vs→slL l=true→AV.isL M.sl l vs
 | [],_,h,_=>h
 | x::l,_,⟨v,r,h0,h1,h2⟩,hp=>by
   simp only [slL,Z71] at hp
   exact ⟨v,r,h0,slo_is x v h1 hp.1,slL_is l r h2 hp.2⟩
theorem slL_pu:∀ {l:List AV},Zo l=true→slL l=true
 | [],_=>rfl
 | x::l,h=>by
   simp only [Zo,Z71] at h
   simp only [slL,Z71]
   refine ⟨?_,slL_pu h.2⟩
   cases x
   case osl j=>rfl
   all_goals exact h.1
theorem Zy5 {j i n off m:Nat} {x y:X} {L:Sl} {row row' cs0 cs:List AV} (hx:S.x x = .oel j (i*n) off) (hj:Zf S.ss j=some L) (hn:L.n=n) (hr:L.rows[i]?=some row) (hcs:(S.x y).cells=some cs0) (hce:AV.le.leL cs0 cs) (hm:Zj cs=m) (h1:Zk cs=true) (hp:slL cs=true)
  (hl:Zi row off cs=some row'):Z33 c S (.store m x y) .un ⟨S.tm,S.bs,Zg S.ss j (some ⟨L.T,L.n,L.rows.set i row'⟩)⟩:=by
 intro ro hop M a w hT next Q hnx
 obtain ⟨dst,op,ty,pos,af,gd⟩:=ro
 dsimp only at hop
 obtain ⟨T,p,q,rfl,hsz,rfl,rfl⟩:=cO_storeX hop
 have k1:=Z12 hT p
 have k2:=Z12 hT q
 subst hn
 rw [hx] at k1
 obtain ⟨_,g',n',cap',e1,hpv⟩:=k1
 obtain ⟨g,cap,cur,vss,vs,e2,e3,e4,e5,e6,e7,e8,e9,q1,q2,q3,q4⟩:=own_row hT hj hr
 rw [e2] at e1
 simp only [Value.slice.injEq,Option.some.injEq,Addr.mk.injEq] at e1
 obtain ⟨⟨rfl,_⟩,_⟩:=e1
 have hcl:=Zu2 _ _ _ hce (Zd2 (fun j e=>by rw [e] at k2;rw [k2.2];exact hT.st.so j k2.1) k2 hcs)
 have hone:=Ze2 hcl h1 hT.st.so
 have hclp:=slL_is _ _ hcl hp
 obtain ⟨rfl,hle⟩:=Zh1 hl
 have hlen:=Zi1 hcl
 have hrl:=Zi1 q3
 have hlt:=(List.getElem?_eq_some_iff.1 hr).1
 obtain ⟨hvn,hvl⟩:=Zx5 e7
 have hi2:(i+1)*L.n≤cap*L.n:=Nat.mul_le_mul_right _ (by omega)
 have hi3:(i+1)*L.n≤L.rows.length*L.n:=Nat.mul_le_mul_right _ (by omega)
 rw [Nat.add_mul,Nat.one_mul] at hi2 hi3
 have hbnd:i*L.n+off+(a.eval q).cells.toList.length≤cur.size:=by rw [e4];omega
 have hst:=run_storeCells_at c.P g (i*L.n+off) L.T (a.eval q).cells.toList 0 cur w e3 (by omega) hone
 have hsz':(a.eval q).cells.size=m:=by rw [←Array.length_toList,hlen,←Z91];exact hm
 have hcur':∀v,(cur.toList.take (i*L.n+off)++v++cur.toList.drop (i*L.n+off+v.length)).length=cur.toList.length∨True:=fun _=>.inr trivial
 have hrun:(execOp a.eval ⟨dst,.store T p q,ty,pos,af,gd⟩).run c.P w = .ok .skip (w.setRow g (cur.toList.take (i*L.n+off)++(a.eval q).cells.toList++cur.toList.drop (i*L.n+off+(a.eval q).cells.toList.length)).toArray):=by
  generalize a.eval=ρ at *
  simp only [Nat.add_zero] at hst
  simp only [execOp,hpv,Instr.storeAt,Instr.sureAddr,Sem.run_bind,Sem.run_pure,Result.andThen_ok,storeVar,Z32 hsz,hsz',ne_eq,not_true_eq_false,if_false]
  rw [hst]
  rfl
 unfold Oper.wp
 rw [hrun]
 refine hnx M _ _ (.refl M) ?_ rfl
 have hvs':AV.isL M.sl (row.take off++cs++row.drop (off+cs.length)) (vs.take off++(a.eval q).cells.toList++vs.drop (off+(a.eval q).cells.toList.length)):=
  Zj1 (Zj1 (Zk1 off q3) hclp) (by rw [hlen];exact Zl1 _ q3)
 have hfl:=Zw5 (cs:=(a.eval q).cells.toList) (off:=off) hvn q1 (by omega)
 have hcl2:cur.toList.length=cap*L.n:=by simpa using e4
 have hbl:(w.setRow g (cur.toList.take (i*L.n+off)++(a.eval q).cells.toList++cur.toList.drop (i*L.n+off+(a.eval q).cells.toList.length)).toArray).heap[g]?=some (.cells (cur.toList.take (i*L.n+off)++(a.eval q).cells.toList++cur.toList.drop (i*L.n+off+(a.eval q).cells.toList.length)).toArray L.T (0,0)):=by
  rw [Zv1,if_pos rfl,e3];rfl
 refine hT.st.rewrite hj (g:=g) (by rw [e2];rfl) (w':=w.setRow g (cur.toList.take (i*L.n+off)++(a.eval q).cells.toList++cur.toList.drop (i*L.n+off+(a.eval q).cells.toList.length)).toArray)
  ⟨rfl,rfl,rfl,by simp [World.setRow],fun k _ hk=>by rw [Zv1,if_neg (fun e=>hk (by rw [e]))]⟩ (vss':=vss.set i (vs.take off++(a.eval q).cells.toList++vs.drop (off+(a.eval q).cells.toList.length))) ?_ ?_ ?_
 ·exact isLL_set e7 hvs' (by simp only [List.length_append,List.length_take,List.length_drop];omega)
 ·intro v hv
  rw [hfl] at hv
  simp only [List.mem_append] at hv
  rcases hv with (hv | hv) | hv
  ·exact e9 v (List.mem_of_mem_take hv)
  ·exact hone v hv
  ·exact e9 v (List.mem_of_mem_drop hv)
 ·have hfl2:vss.flatten.length=L.rows.length*L.n:=Za4 e7
  refine ⟨?_,.inr ⟨g,cap,_,by rw [List.length_set];exact e2,Nat.zero_le _,hbl,by rw [List.length_set];exact e5,e6,?_,?_⟩⟩
  ·rw [hfl,List.length_set];simp only [List.length_append,List.length_take,List.length_drop];omega
  ·simp only [List.size_toArray,List.length_append,List.length_take,List.length_drop];omega
  ·rw [hfl,List.length_set,←e8]
   generalize hN:L.rows.length*L.n=N at *
   generalize hA:i*L.n+off=A at *
   generalize (a.eval q).cells.toList=C at *
   generalize cur.toList=D at *
   rw [List.append_assoc,List.append_assoc,List.take_append,List.take_of_length_le (by rw [List.length_take];omega),List.take_append,List.take_of_length_le (l:=C) (by rw [List.length_take];omega),List.length_take,Nat.min_eq_left (by omega),List.take_take,Nat.min_eq_left (by omega),List.drop_take]
   congr 3
   omega
theorem Zz5 {α:Type} {l':List α} {z:Int} {y y':α} {d:Option Nat} {g:Option (Nat×Bool)} {l:List EOp} {j T n off m:Nat} {x v:X} {cs0:List AV} (cs:List AV) (f:α→List AV) (hv:at_ l' z=some y) (hg:gm S g) (hx:S.x x = .oel j (z.toNat*n) off) (hj:Zf S.ss j=some ⟨T,n,l'.map f⟩)
  (hcs:(S.x v).cells=some cs0) (hce:AV.le.leL cs0 cs) (hm:Zj cs=m) (h1:Zk cs=true) (hp:Zo cs=true) (hl:Zi (f y) off cs=some (f y'))
  (h:V c fn K (.ops l::k) ((⟨S.tm,S.bs,Zg S.ss j (some ⟨T,n,(l'.set z.toNat y').map f⟩)⟩:St).put d .un)):V c fn K (.ops (⟨d,g,.store m x v⟩::l)::k) S:=by
 refine Z43 hg (Zy5 hx hj rfl (Zy4 (Zx4 hv).2) hcs hce hm h1 (slL_pu hp) hl) rfl ?_
 dsimp only
 rw [←List.map_set]
 exact h
end
end NX
end Go.Proofs.YthlodgjekbidcaaGreat
/-
  The symbolic machine: calls that write into the caller's own memory; slices made, own slices cut. No statement of the seat is proved here.
-/
namespace Go.Proofs.YthlodgjekbidcaaGreat
namespace NX
open Go Go.RowKit
def msk {α:Type}:List Bool→List (Option α)→List (Option α)
 | _,[]=>[]
 | [],_::l=>none::msk [] l
 | true::m,x::l=>x::msk m l
 | false::m,_::l=>none::msk m l
def mrg {α:Type}:List Bool→List (Option α)→List (Option α)→List (Option α)
 | _,[],r=>r
 | _,_::_,[]=>[]
 | [],x::l,_::r=>x::mrg [] l r
 | true::m,_::l,y::r=>y::mrg m l r
 | false::m,x::l,_::r=>x::mrg m l r
def mb:List Bool→Nat→Bool
 | [],_=>false
 | b::_,0=>b
 | _::m,j+1=>mb m j
attribute [go_sem] msk mrg
theorem Z06 {α:Type}:∀(m:List Bool) (l:List (Option α)),(msk m l).length=l.length
 | _,[]=>by cases ‹List Bool› <;>rfl
 | [],_::l=>by simp [msk,Z06 [] l]
 | true::m,x::l=>by simp [msk,Z06 m l]
 | false::m,_::l=>by simp [msk,Z06 m l]
theorem Z16 {α:Type}:∀ {m:List Bool} {l:List (Option α)} {j:Nat} {B:α},Zf (msk m l) j=some B↔mb m j=true∧Zf l j=some B
 | m,[],j,B=>by cases m<;>simp [msk,Zf]
 | [],x::l,0,B=>by simp [msk,Zf,mb]
 | [],x::l,j+1,B=>by simp [msk,Zf,mb,Z16 (m:=[]) (l:=l) (j:=j)]
 | true::m,x::l,0,B=>by simp [msk,Zf,mb]
 | true::m,x::l,j+1,B=>by simp [msk,Zf,mb,Z16 (m:=m) (l:=l) (j:=j)]
 | false::m,x::l,0,B=>by simp [msk,Zf,mb]
 | false::m,x::l,j+1,B=>by simp [msk,Zf,mb,Z16 (m:=m) (l:=l) (j:=j)]
theorem Z26 {α:Type}:∀(m:List Bool) (l r:List (Option α)),l.length≤r.length→(mrg m l r).length=r.length
 | m,[],r,_=>by cases m<;>rfl
 | m,_::_,[],h=>by simp at h
 | [],x::l,_::r,h=>by simp [mrg,Z26 [] l r (by simpa using h)]
 | true::m,_::l,y::r,h=>by simp [mrg,Z26 m l r (by simpa using h)]
 | false::m,x::l,_::r,h=>by simp [mrg,Z26 m l r (by simpa using h)]
theorem Z36 {α:Type}:∀ {m:List Bool} {l r:List (Option α)} {j:Nat} {B:α},l.length≤r.length→Zf (mrg m l r) j=some B→
  (j<l.length∧mb m j=false∧Zf l j=some B)∨((l.length≤j∨mb m j=true)∧Zf r j=some B)
 | m,[],r,j,B,_,h=>.inr ⟨.inl (Nat.zero_le _),by cases m<;>exact h⟩
 | m,_::_,[],j,B,hl,h=>by simp at hl
 | [],x::l,y::r,0,B,hl,h=>.inl ⟨by simp,rfl,h⟩
 | [],x::l,y::r,j+1,B,hl,h=>by
   rcases Z36 (m:=[]) (l:=l) (r:=r) (j:=j) (by simpa using hl) h with ⟨h1,_,h3⟩ | ⟨h1,h2⟩
   ·exact .inl ⟨by simpa using h1,rfl,h3⟩
   ·exact .inr ⟨by rcases h1 with h1 | h1;exact .inl (by simpa using h1);simp [mb] at h1,h2⟩
 | true::m,x::l,y::r,0,B,hl,h=>.inr ⟨.inr rfl,h⟩
 | true::m,x::l,y::r,j+1,B,hl,h=>by
   rcases Z36 (m:=m) (l:=l) (r:=r) (j:=j) (by simpa using hl) h with ⟨h1,h2,h3⟩ | ⟨h1,h2⟩
   ·exact .inl ⟨by simpa using h1,h2,h3⟩
   ·exact .inr ⟨by rcases h1 with h1 | h1;exact .inl (by simpa using h1);exact .inr h1,h2⟩
 | false::m,x::l,y::r,0,B,hl,h=>.inl ⟨by simp,rfl,h⟩
 | false::m,x::l,y::r,j+1,B,hl,h=>by
   rcases Z36 (m:=m) (l:=l) (r:=r) (j:=j) (by simpa using hl) h with ⟨h1,h2,h3⟩ | ⟨h1,h2⟩
   ·exact .inl ⟨by simpa using h1,h2,h3⟩
   ·exact .inr ⟨by rcases h1 with h1 | h1;exact .inl (by simpa using h1);exact .inr h1,h2⟩
def lentK (M:Mem) (bs:List (Option Blk)) (ss:List (Option Sl)) (k:Nat):Prop:=
 (∃j B,Zf bs j=some B∧M.ρ j=k)∨∃j L,Zf ss j=some L∧(M.σ j).ownBlock=some k
def Ctx.lent (P:Program) (w:World) (M:Mem) (bs:List (Option Blk)) (ss:List (Option Sl)) (np nq:Nat):Ctx:=⟨P,w,M.H,lentK M bs ss,np,M.ρ,nq,M.σ⟩
def FunT (P:Program) (f:Nat) (args:List AV) (bs:List (Option Blk)) (ss:List (Option Sl)) (v:AV) (bs':List (Option Blk)) (ss':List (Option Sl)):Prop:=
 bs.length≤bs'.length∧ss.length≤ss'.length∧∀(M:Mem) (w:World) (vs:List Value),RelS (Ctx.lent P w M bs ss bs.length ss.length) M bs ss w→AV.isL M args vs→
  Calls P f vs.toArray w fun e w'=>∃u M',e = .returned u∧RelS (Ctx.lent P w M bs ss bs.length ss.length) M' bs' ss' w'∧v.is M' u
theorem Z46 {P:Program} {f:Nat} {fn:Func} {body:EC} {rs:List ERes} {np nt:Nat} (hf:FnOK P f fn body rs np nt) {args:List AV} {bs bs':List (Option Blk)} {ss ss':List (Option Sl)} {v:AV} (hn:args.length=np)
  (h1:Z3 (Zj bs) (Zj bs')=true) (h2:Z3 (Zj ss) (Zj ss')=true) (h3:St.ok ⟨[v],bs',ss'⟩=true)
  (h:∀w M,V (Ctx.lent P w M bs ss (Zj bs) (Zj ss)) fn (fun x b s=>St.le ⟨[x],b,s⟩ ⟨[v],bs',ss'⟩) [.code body] ⟨args++lun nt,bs,ss⟩):FunT P f args bs ss v bs' ss':=by
 have h1':=h1;have h2':=h2
 rw [Z81,Z91,Z91] at h1 h2
 refine ⟨h1,h2,fun M w vs hS ha=>?_⟩
 obtain ⟨x,hb,hx⟩:=hf.b
 have hl:=Zi1 ha
 refine calls_of_wp hf.h hb ?_
 have e1:fn.ntmps-vs.toArray.size=nt:=by rw [hf.t];simp;omega
 rw [e1]
 have hT:RelT (Ctx.lent P w M bs ss bs.length ss.length) M ⟨args++lun nt,bs,ss⟩ {tmps:=vs.toArray++Array.replicate nt undef,defers:=[]} w:=by
  refine ⟨by simp [Z03,hl],fun t=>?_,rfl,hS⟩
  simp only [Zz2,Array.getD_eq_getD_getElem?,Array.getElem?_append,List.size_toArray]
  by_cases h:t<args.length
  ·rw [if_pos h,if_pos (by omega)]
   have:=Z13 ha t h
   simpa [List.getD_eq_getElem?_getD] using this
  ·rw [if_neg h,if_neg (by omega)]
   rcases lun_get nt (t-args.length) with h1 | ⟨_,h1⟩
   ·rw [h1]
    simp only [AV.is,Array.getElem?_replicate]
    split<;>rfl
   ·rw [h1];trivial
 have h':=h w M
 rw [Z91,Z91] at h'
 refine wp_mono (h' [.code x] _ _ w ⟨_,_,rfl,hx,rfl⟩ hT) ?_
 have mono:∀e w',RK (Ctx.lent P w M bs ss bs.length ss.length) (fun x b s=>St.le ⟨[x],b,s⟩ ⟨[v],bs',ss'⟩) e w'→∃u M',e = .returned u∧RelS (Ctx.lent P w M bs ss bs.length ss.length) M' bs' ss' w'∧v.is M' u:=by
  rintro e w' ⟨u,M1,b,s,y,rfl,hS1,hv,hle⟩
  have hT1:RelT (Ctx.lent P w M bs ss bs.length ss.length) M1 ⟨[y],b,s⟩ {tmps:= #[u],defers:=[]} w':=
   ⟨by simp,fun t=>by cases t with
     | zero=>exact hv
     | succ t=>cases t<;>trivial,rfl,hS1⟩
  have hW:=hT1.weak hle h3 (by rw [Z81,Z91];exact h1) (by rw [Z81,Z91];exact h2)
  exact ⟨u,_,rfl,hW.st,hW.tm 0⟩
 intro e a w' hq
 cases e with
 | normal=>obtain ⟨h1,v,h2,h3⟩:=hq;exact ⟨h1,v,h2,mono _ _ h3⟩
 | ret=>obtain ⟨h1,v,h2,h3⟩:=hq;exact ⟨h1,v,h2,mono _ _ h3⟩
 | panic ch=>obtain ⟨h1,h2⟩:=hq;exact ⟨h1,mono _ _ h2⟩
 | outgrown=>exact mono _ _ hq
 | exit id=>exact hq
 | goto l=>exact hq
theorem Z56 {c:Ctx} {f:Nat} {fn:Func} {body:EC} {rs:List ERes} {np nt:Nat} {k:List It} {S:St} {x v:AV} {bs':List (Option Blk)} {ss':List (Option Sl)} (ok:FnOK c.P f fn body rs np nt)
 (h:resV S rs=some x) (hle:St.le ⟨[x],S.bs,S.ss⟩ ⟨[v],bs',ss'⟩):V c fn (fun x b s=>St.le ⟨[x],b,s⟩ ⟨[v],bs',ss'⟩) (.code .ret::k) S:=V_ret ok.r h hle
section
variable {c:Ctx} {M:Mem} {S S':St} {a:Act} {w:World} {fn:Func} {K:AV→List (Option Blk)→List (Option Sl)→Prop} {k:List It}
theorem ownsRow_heap {w w':World} {b e sz n:Nat} {v:Value} {xs:List Value} (h:w.ownsRow b e sz v n xs) (hh:∀g,v.ownBlock=some g→w'.heap[g]?=w.heap[g]?):w'.ownsRow b e sz v n xs:=by
 refine ⟨h.1,h.2.imp id ?_⟩
 rintro ⟨g,cap,cur,rfl,h2,h3,h4⟩
 exact ⟨g,cap,cur,rfl,h2,by rw [hh g rfl];exact h3,h4⟩
theorem lend_in (hS:RelS c M S.bs S.ss w) (lb ls:List Bool):RelS (Ctx.lent c.P w M (msk lb S.bs) (msk ls S.ss) (msk lb S.bs).length (msk ls S.ss).length) M (msk lb S.bs) (msk ls S.ss) w:=by
 refine ⟨by rw [Z06];exact hS.nb,by rw [Z06];exact hS.ns,hS.so,rfl,rfl,rfl,Nat.le_refl _,fun _ _ _=>rfl,hS.hle,fun _ _ _=>rfl,?_,?_,?_,?_,?_,?_⟩
 ·intro j B hj
  obtain ⟨g1,g2,vs,g3,g4,g5⟩:=hS.blk j B (Z16.1 hj).2
  exact ⟨.inr (.inl ⟨j,B,hj,rfl⟩),g2,vs,g3,g4,g5⟩
 ·intro j L hj
  obtain ⟨g0,vss,g1,g2,g3,g4⟩:=hS.slc j L (Z16.1 hj).2
  exact ⟨g0,vss,g1,g2,g3,fun g hg=>⟨.inr (.inr ⟨j,L,hj,hg⟩),(g4 g hg).2⟩⟩
 ·intro i j B C hi hj e;exact hS.d1 i j B C (Z16.1 hi).2 (Z16.1 hj).2 e
 ·intro i j B L hi hj;exact hS.d2 i j B L (Z16.1 hi).2 (Z16.1 hj).2
 ·intro i j L N g hi hj;exact hS.d3 i j L N g (Z16.1 hi).2 (Z16.1 hj).2
 ·exact ⟨by rw [show (Ctx.lent c.P w M (msk lb S.bs) (msk ls S.ss) (msk lb S.bs).length (msk ls S.ss).length).np=(msk lb S.bs).length from rfl,Z06,hS.nb];exact Nat.le_refl _,fun _ _=>rfl,
   by rw [show (Ctx.lent c.P w M (msk lb S.bs) (msk ls S.ss) (msk lb S.bs).length (msk ls S.ss).length).nq=(msk ls S.ss).length from rfl,Z06,hS.ns];exact Nat.le_refl _,fun _ _=>rfl,hS.pin.gl⟩
theorem lend_out {lb ls:List Bool} {M':Mem} {w':World} {bs':List (Option Blk)} {ss':List (Option Sl)} (hS:RelS c M S.bs S.ss w) (hb:(msk lb S.bs).length≤bs'.length) (hs:(msk ls S.ss).length≤ss'.length)
  (h:RelS (Ctx.lent c.P w M (msk lb S.bs) (msk ls S.ss) (msk lb S.bs).length (msk ls S.ss).length) M' bs' ss' w'):M.le M'∧RelS c M' (mrg lb S.bs bs') (mrg ls S.ss ss') w':=by
 rw [Z06] at hb hs
 have lentMine:∀g,lentK M (msk lb S.bs) (msk ls S.ss) g→Mine c g∧M.H g=none:=by
  rintro g (⟨j,B,hj,rfl⟩ | ⟨j,L,hj,hg⟩)
  ·obtain ⟨g1,g2,_⟩:=hS.blk j B (Z16.1 hj).2;exact ⟨g1,g2⟩
  ·obtain ⟨_,_,_,_,_,g4⟩:=hS.slc j L (Z16.1 hj).2;exact g4 g hg
 have size0:=hS.size
 have size1:w.heap.size≤w'.heap.size:=h.size
 have hρ:∀j,j<S.bs.length→M'.ρ j=M.ρ j:=fun j hj=>h.pin.ρ j (by show j<(msk lb S.bs).length;rw [Z06];exact hj)
 have hσ:∀j,j<S.ss.length→M'.σ j=M.σ j:=fun j hj=>h.pin.σ j (by show j<(msk ls S.ss).length;rw [Z06];exact hj)
 have hH:∀k o,M.H k=some o→M'.H k=some o:=by
  intro k o hk
  have hlt:=(Array.getElem?_eq_some_iff.1 (hS.hle k o hk)).1
  have:=h.hold k hlt (fun hl=>by rw [(lentMine k hl).2] at hk;simp at hk)
  rw [this];exact hk
 have hle:M.le M':=⟨by rw [hS.nb,h.nb];exact hb,by rw [hS.ns,h.ns];exact hs,fun j hj=>hρ j (by rw [←hS.nb];exact hj),fun j hj=>hσ j (by rw [←hS.ns];exact hj),hH⟩
 have keepB:∀j B,Zf S.bs j=some B→mb lb j=false→¬lentK M (msk lb S.bs) (msk ls S.ss) (M.ρ j):=by
  rintro j B hj hm (⟨i,C,hi,e⟩ | ⟨i,L,hi,e⟩)
  ·have:=hS.d1 i j C B (Z16.1 hi).2 hj e
   subst this
   rw [(Z16.1 hi).1] at hm;simp at hm
  ·exact hS.d2 j i B L hj (Z16.1 hi).2 e
 have keepS:∀j L g,Zf S.ss j=some L→mb ls j=false→(M.σ j).ownBlock=some g→¬lentK M (msk lb S.bs) (msk ls S.ss) g:=by
  rintro j L g hj hm hg (⟨i,C,hi,e⟩ | ⟨i,N,hi,e⟩)
  ·exact hS.d2 i j C L (Z16.1 hi).2 hj (by rw [e];exact hg)
  ·have:=hS.d3 i j N L g (Z16.1 hi).2 hj e hg
   subst this
   rw [(Z16.1 hi).1] at hm;simp at hm
 have newMine:∀g,Mine (Ctx.lent c.P w M (msk lb S.bs) (msk ls S.ss) (msk lb S.bs).length (msk ls S.ss).length) g→Mine c g:=by
  rintro g (hg | hg)
  ·exact .inl (Nat.le_trans size0 hg)
  ·exact (lentMine g hg).1
 have apart:∀g k,Mine (Ctx.lent c.P w M (msk lb S.bs) (msk ls S.ss) (msk lb S.bs).length (msk ls S.ss).length) g→k<w.heap.size→¬lentK M (msk lb S.bs) (msk ls S.ss) k→g≠k:=by
  rintro g k (hg | hg) hk hn rfl
  ·exact Nat.lt_irrefl _ (Nat.lt_of_lt_of_le hk hg)
  ·exact hn hg
 refine ⟨hle,⟨by rw [Z26 _ _ _ hb];exact h.nb,by rw [Z26 _ _ _ hs];exact h.ns,h.so,h.os.trans hS.os,h.tape.trans hS.tape,h.output.trans hS.output,Nat.le_trans size0 size1,?_,h.hle,?_,?_,?_,?_,?_,?_,hS.pin.le hle⟩⟩
 ·intro k hk hn
  have hnl:¬lentK M (msk lb S.bs) (msk ls S.ss) k:=fun hl=>by
   rcases (lentMine k hl).1 with h1 | h1
   ·omega
   ·exact hn h1
  exact (h.block k (Nat.lt_of_lt_of_le hk size0) hnl).trans (hS.block k hk hn)
 ·intro k hk hn
  have hnl:¬lentK M (msk lb S.bs) (msk ls S.ss) k:=fun hl=>by
   rcases (lentMine k hl).1 with h1 | h1
   ·omega
   ·exact hn h1
  exact (h.hold k (Nat.lt_of_lt_of_le hk size0) hnl).trans (hS.hold k hk hn)
 ·intro j B hj
  rcases Z36 hb hj with ⟨h1,h2,h3⟩ | ⟨_,h3⟩
  ·obtain ⟨g1,g2,vs,g3,g4,g5⟩:=hS.blk j B h3
   have hlt:=hS.blk_lt h3
   have hn:=keepB j B h3 h2
   rw [hρ j h1]
   exact ⟨g1,(h.hold _ hlt hn).trans g2,vs,Zp1 hle _ _ g3,(h.block _ hlt hn).trans g4,g5⟩
  ·obtain ⟨g1,g2,vs,g3,g4,g5⟩:=h.blk j B h3
   exact ⟨newMine _ g1,g2,vs,g3,g4,g5⟩
 ·intro j L hj
  rcases Z36 hs hj with ⟨h1,h2,h3⟩ | ⟨_,h3⟩
  ·obtain ⟨g0,vss,g1,g2,g3,g4⟩:=hS.slc j L h3
   rw [hσ j h1]
   exact ⟨g0,vss,Zq1 hle.sl _ _ _ g1,g2,ownsRow_heap g3 fun g hg=>h.block g (hS.slc_lt h3 hg) (keepS j L g h3 h2 hg),fun g hg=>⟨(g4 g hg).1,(h.hold g (hS.slc_lt h3 hg) (keepS j L g h3 h2 hg)).trans (g4 g hg).2⟩⟩
  ·obtain ⟨g0,vss,g1,g2,g3,g4⟩:=h.slc j L h3
   exact ⟨g0,vss,g1,g2,g3,fun g hg=>⟨newMine _ (g4 g hg).1,(g4 g hg).2⟩⟩
 ·intro i j B C hi hj e
  rcases Z36 hb hi with ⟨h1,h2,h3⟩ | ⟨_,h3⟩<;>rcases Z36 hb hj with ⟨k1,k2,k3⟩ | ⟨_,k3⟩
  ·rw [hρ i h1,hρ j k1] at e;exact hS.d1 i j B C h3 k3 e
  ·rw [hρ i h1] at e
   exact absurd e.symm (apart _ _ (h.blk j C k3).1 (hS.blk_lt h3) (keepB i B h3 h2))
  ·rw [hρ j k1] at e
   exact absurd e (apart _ _ (h.blk i B h3).1 (hS.blk_lt k3) (keepB j C k3 k2))
  ·exact h.d1 i j B C h3 k3 e
 ·intro i j B L hi hj
  rcases Z36 hb hi with ⟨h1,h2,h3⟩ | ⟨_,h3⟩<;>rcases Z36 hs hj with ⟨k1,k2,k3⟩ | ⟨_,k3⟩
  ·rw [hρ i h1,hσ j k1];exact hS.d2 i j B L h3 k3
  ·rw [hρ i h1]
   intro e
   obtain ⟨_,_,_,_,_,g4⟩:=h.slc j L k3
   exact apart _ _ (g4 _ e).1 (hS.blk_lt h3) (keepB i B h3 h2) rfl
  ·rw [hσ j k1]
   intro e
   exact apart _ _ (h.blk i B h3).1 (hS.slc_lt k3 e) (keepS j L _ k3 k2 e) rfl
  ·exact h.d2 i j B L h3 k3
 ·intro i j L N g hi hj e1 e2
  rcases Z36 hs hi with ⟨h1,h2,h3⟩ | ⟨_,h3⟩<;>rcases Z36 hs hj with ⟨k1,k2,k3⟩ | ⟨_,k3⟩
  ·rw [hσ i h1] at e1;rw [hσ j k1] at e2;exact hS.d3 i j L N g h3 k3 e1 e2
  ·rw [hσ i h1] at e1
   obtain ⟨_,_,_,_,_,g4⟩:=h.slc j N k3
   exact absurd rfl (apart _ _ (g4 g e2).1 (hS.slc_lt h3 e1) (keepS i L g h3 h2 e1))
  ·rw [hσ j k1] at e2
   obtain ⟨_,_,_,_,_,g4⟩:=h.slc i L h3
   exact absurd rfl (apart _ _ (g4 g e1).1 (hS.slc_lt k3 e2) (keepS j N g k3 k2 e2))
  ·exact h.d3 i j L N g h3 k3 e1 e2
theorem sem_callT {f:Nat} {xs:List X} {args:List AV} {v:AV} {bs bs':List (Option Blk)} {ss ss':List (Option Sl)} (lb ls:List Bool) (hf:FunT c.P f args bs ss v bs' ss') (hbs:msk lb S.bs=bs) (hss:msk ls S.ss=ss)
  (ha:AV.le.leL (Zq S xs) args):Z33 c S (.call f xs) v ⟨S.tm,mrg lb S.bs bs',mrg ls S.ss ss'⟩:=by
 subst hbs;subst hss
 intro ro ho M a w hT next Q hn
 obtain ⟨dst,op,ty,pos,af,gd⟩:=ro
 dsimp only at ho
 obtain ⟨cargs,argTypes,rfl,hfn,rfl⟩:=Z63 ho
 have hm:=Zu2 _ _ _ ha (Zj2 hT cargs.toList)
 obtain ⟨f1,f2,f3⟩:=hf
 have hc:=f3 M w _ (lend_in hT.st lb ls) hm
 have hrun:(execOp a.eval ⟨dst,.call ⟨.value (.func f),cargs,argTypes⟩,ty,pos,af,gd⟩).run c.P w = .ok (.enter f (cargs.map a.eval)) w:=by
  have he:a.eval (.func f) = .func (.func f) #[] #[]:=rfl
  generalize a.eval=ρ at *
  simp [execOp,resolve,Deferred.ofValue,invoke,he,Z53 hfn]
 unfold Oper.wp
 rw [hrun]
 show Calls c.P f (cargs.map a.eval) w _
 have e1:(cargs.toList.map a.eval).toArray=cargs.map a.eval:=by apply Array.ext';simp
 rw [←e1]
 refine hc.mono ?_
 rintro e w' ⟨u,M',rfl,h1,h2⟩
 obtain ⟨hle,hS⟩:=lend_out hT.st f1 f2 h1
 exact hn M' w' u hle hS h2
theorem Z66 {d:Option Nat} {g:Option (Nat×Bool)} {l:List EOp} {f:Nat} {xs:List X} {args:List AV} {v:AV} {bs bs':List (Option Blk)} {ss ss':List (Option Sl)} (lb ls:List Bool) (hg:gm S g) (hf:FunT c.P f args bs ss v bs' ss') (hbs:msk lb S.bs=bs:=by rfl) (hss:msk ls S.ss=ss:=by rfl)
  (ha:AV.le.leL (Zq S xs) args:=by first | exact Zg4 _ | simp [go_sem]) (h:V c fn K (.ops l::k) ((⟨S.tm,mrg lb S.bs bs',mrg ls S.ss ss'⟩:St).put d v)):V c fn K (.ops (⟨d,g,.call f xs⟩::l)::k) S:=
 Z43 hg (sem_callT lb ls hf hbs hss ha) rfl h
end
end NX
end Go.Proofs.YthlodgjekbidcaaGreat
/-
  The symbolic machine: slices made; own slices cut; elements of own slices in drawn regions. No statement of the seat is proved here.
-/
namespace Go.Proofs.YthlodgjekbidcaaGreat
namespace NX
open Go Go.RowKit
theorem isLL_rep {M:Mem} {z:List AV} {vs:List Value} (h:AV.isL M z vs):∀k,AV.isLL M vs.length (List.replicate k z) (List.replicate k vs)
 | 0=>rfl
 | k+1=>⟨vs,_,rfl,rfl,h,isLL_rep h k⟩
section
variable {c:Ctx} {M:Mem} {S S':St} {a:Act} {w:World} {fn:Func} {K:AV→List (Option Blk)→List (Option Sl)→Prop} {k:List It}
theorem zav_one {v:Value} (h:(zav v).one=true):v.oneCell'=true:=by
 unfold zav at h
 split at h<;>first | rfl | simp [AV.one] at h
theorem sem_cut {n j:Nat} {x:X} {lo hi:Option X} {m:Int} {L:Sl} (hx:S.x x = .osl j) (hj:Zf S.ss j=some L) (hn:L.n=n) (hlo:bnd S lo 0=some 0) (hhi:bnd S hi L.rows.length=some m) (h0:0≤m) (h1:m≤L.rows.length):
  Z33 c S (.slice n x lo hi) (.osl (Zj S.ss)) ⟨S.tm,S.bs,Zg S.ss j none++[some ⟨L.T,n,L.rows.take m.toNat⟩]⟩:=by
 subst hn
 intro ro hop M a w hRT next Q hnx
 obtain ⟨dst,op,ty,pos,af,gd⟩:=ro
 dsimp only at hop
 obtain ⟨T,y,l,h,e,rfl,hu,hs,rfl,rfl,rfl⟩:=Zf5 hop
 have hS:=hRT.st
 have k1:=Z12 hRT y
 rw [hx] at k1
 obtain ⟨g0,vss,q1,q2,q3,q4⟩:=hS.slc j L hj
 have hbl:∀(o:Option Operand) (z r:Int),bnd S (o.map cX) z=some r→match o with | none=>r=z | some o=>a.eval o = .int .i64 r:=by
  intro o z r hb
  cases o with
  | none=>simpa [bnd] using hb.symm
  | some o=>
    simp only [Option.map_some,bnd] at hb
    have:=Z12 hRT o
    split at hb
    ·rename_i n' hn'
     rw [hn'] at this
     simp at hb;subst hb;exact this
    ·simp at hb
 have e1:=hbl l 0 0 hlo
 have e2:=hbl h L.rows.length m hhi
 obtain ⟨hvn,hvl⟩:=Zx5 q1
 have hown:∃v',(execOp a.eval ⟨dst,.slice T y l h none,ty,pos,af,gd⟩).run c.P w = .ok (.value v') w∧v'.ownBlock=(M.σ j).ownBlock∧w.ownsRow 0 L.T L.n v' (L.rows.take m.toNat).length (vss.take m.toNat).flatten:=by
  have htl:(L.rows.take m.toNat).length=m.toNat:=by rw [List.length_take];omega
  have hflt:(vss.take m.toNat).flatten=vss.flatten.take (m.toNat*L.n):=by
   have:∀(q:List (List Value)) (k:Nat),(∀v∈q,v.length=L.n)→(q.take k).flatten=q.flatten.take (k*L.n):=by
    intro q
    induction q with
    | nil=>intro k _;simp
    | cons v q ih=>
      intro k hq
      cases k with
      | zero=>simp
      | succ k=>
        have hv:=hq v (by simp)
        rw [List.take_succ_cons,List.flatten_cons,List.flatten_cons,ih k fun u hu=>hq u (by simp [hu]),show (k+1)*L.n=v.length+k*L.n by rw [hv,Nat.add_mul];omega,List.take_length_add_append]
   exact this vss m.toNat hvn
  have hlen2:(vss.take m.toNat).flatten.length=m.toNat*L.n:=by
   have:=Za4 (Zh5 q1 0 m.toNat)
   simp only [List.drop_zero] at this
   rw [this,htl]
  rcases q3.2 with ⟨r1,r2⟩ | ⟨g,cap,cur,r1,r2,r3,r4,r5,r6,r7⟩
  ·have hm:m=0:=by omega
   subst hm
   have hrun:=Zg5 (P:=c.P) (w:=w) hu hs (ρ:=a.eval) (ad:=none) (len:=0) (cp:=0) (lo:=0) (hi:=0) (k1.2.trans r1) (Nat.le_refl _) e1 (by rw [r2] at e2;exact e2) (by omega) (by omega) (by omega) dst ty pos af gd
   refine ⟨_,hrun,by rw [r1];simp [Value.ownBlock],⟨by rw [hlen2,htl],.inl ⟨by simp,by simp⟩⟩⟩
  ·have hrun:=Zg5 (P:=c.P) (w:=w) hu hs (ρ:=a.eval) (ad:=some ⟨g,0,none⟩) (len:=L.rows.length) (cp:=cap) (lo:=0) (hi:=m) (k1.2.trans r1) r4 e1 e2 (by omega) h0 h1 dst ty pos af gd
   refine ⟨_,hrun,by rw [r1];simp only [Option.map];split<;>simp [Value.ownBlock,Addr.add],⟨by rw [hlen2,htl],.inr ⟨g,cap,cur,?_,r2,r3,by rw [htl];omega,r5,r6,?_⟩⟩⟩
   ·rw [htl]
    simp only [Option.map,Int.toNat_zero,Nat.zero_mul,Nat.sub_zero]
    split<;>simp [Addr.add]
   ·rw [htl,hflt,←r7,List.take_take,Nat.min_eq_left (Nat.mul_le_mul_right _ (by omega))]
 obtain ⟨v',hrun,hb,ho⟩:=hown
 unfold Oper.wp
 rw [hrun]
 have hr:RelS c (M.addS v') S.bs (Zg S.ss j none++[some (⟨L.T,L.n,L.rows.take m.toNat⟩:Sl)]) w:=by
  refine RelS.grown (v:=M.σ j) (vss:=vss.take m.toNat) hS (Ze1 _ _ _) ?_ (.inr fun i B hi=>hS.d2 i j B L hi hj) q4 ⟨rfl,rfl,rfl,Nat.le_refl _,fun _ _ _=>rfl⟩ (.inl hb) g0 (by have:=Zh5 q1 0 m.toNat;simpa using this) ?_ ho
  ·intro i N hi
   rw [Zd1] at hi
   split at hi
   ·simp at hi
   ·rename_i e
    refine ⟨hi,fun g hg e2=>e ⟨?_,Zf1 hj⟩⟩
    exact hS.d3 i j N L g hi hj e2 hg
  ·intro v hv
   simp only [List.mem_flatten] at hv
   obtain ⟨r,hr,hv⟩:=hv
   exact q2 v (List.mem_flatten.2 ⟨r,List.mem_of_mem_take hr,hv⟩)
 refine hnx _ w _ (Mem.le_addS M _) hr ?_
 rw [Z91,←hS.ns]
 exact ⟨Nat.lt_succ_self _,by simp [Mem.addS]⟩
theorem V_cutM {α:Type} {l' v:List α} {m:Int} {d:Option Nat} {g:Option (Nat×Bool)} {l:List EOp} {T n j:Nat} {x:X} {lo hi:Option X} (f:α→List AV) (hv:Zi4 l' 0 m=some v) (hg:gm S g) (hx:S.x x = .osl j) (hj:Zf S.ss j=some ⟨T,n,l'.map f⟩) (hlo:bnd S lo 0=some 0) (hhi:bnd S hi (ln f l')=some m)
  (h:V c fn K (.ops l::k) ((⟨S.tm,S.bs,Zg S.ss j none++[some ⟨T,n,v.map f⟩]⟩:St).put d (.osl (Zj S.ss)))):V c fn K (.ops (⟨d,g,.slice n x lo hi⟩::l)::k) S:=by
 unfold Zi4 at hv
 split at hv
 ·rename_i h1
  simp at hv
  subst hv
  rw [List.map_take] at h
  exact Z43 hg (sem_cut hx hj rfl hlo hhi h1.2.1 (by simpa using h1.2.2)) rfl h
 ·simp at hv
theorem sem_sliceN {n:Nat} {x:X} {lo hi:Option X} (hx:S.x x = .nl) (hlo:bnd S lo 0=some 0) (hhi:bnd S hi 0=some 0):Z33 c S (.slice n x lo hi) .nl S:=by
 intro ro hop M a w hRT next Q hnx
 obtain ⟨dst,op,ty,pos,af,gd⟩:=ro
 dsimp only at hop
 obtain ⟨T,y,l,h,e,rfl,hu,hs,rfl,rfl,rfl⟩:=Zf5 hop
 have k1:=Z12 hRT y
 rw [hx] at k1
 have hbl:∀(o:Option Operand) (z r:Int),bnd S (o.map cX) z=some r→match o with | none=>r=z | some o=>a.eval o = .int .i64 r:=by
  intro o z r hb
  cases o with
  | none=>simpa [bnd] using hb.symm
  | some o=>
    simp only [Option.map_some,bnd] at hb
    have:=Z12 hRT o
    split at hb
    ·rename_i n' hn'
     rw [hn'] at this
     simp at hb;subst hb;exact this
    ·simp at hb
 have hrun:=Zg5 (P:=c.P) (w:=w) hu hs (ρ:=a.eval) (ad:=none) (len:=0) (cp:=0) (lo:=0) (hi:=0) k1 (Nat.le_refl _) (hbl l 0 0 hlo) (hbl h 0 0 hhi) (by omega) (by omega) (by omega) dst ty pos af gd
 unfold Oper.wp
 rw [hrun]
 exact hnx M w _ (.refl M) hRT.st (by simp [AV.is])
theorem V_sliceN {d:Option Nat} {g:Option (Nat×Bool)} {l:List EOp} {n:Nat} {x:X} {lo hi:Option X} (hg:gm S g) (hx:S.x x = .nl) (hlo:bnd S lo 0=some 0) (hhi:bnd S hi 0=some 0) (h:V c fn K (.ops l::k) (S.put d .nl)):V c fn K (.ops (⟨d,g,.slice n x lo hi⟩::l)::k) S:=
 Z43 hg (sem_sliceN hx hlo hhi) rfl h
theorem cO_cap {P:Program} {op:Op} {x:X} (ho:cO P op = .cap x):∃q ats t0 e,op = .call ⟨.builtin .cap, #[q],ats⟩∧ats[0]?=some t0∧P.underlying t0=some (.slice e)∧cX q=x:=by
 cases op
 case call ci=>
  obtain ⟨callee,cargs,argTypes⟩:=ci
  cases callee with
  | value o=>
    cases o with
    | func f'=>simp only [cO] at ho;(repeat' (split at ho))<;>simp at ho
    | _=>simp [cO] at ho
  | invoke _ _=>simp [cO] at ho
  | builtin b=>
    cases b
    case cap=>
     simp only [cO] at ho
     split at ho
     ·rename_i t0 q h1 h2
      split at ho
      ·rename_i e hu
       simp only [EO.cap.injEq] at ho
       have e1:cargs = #[q]:=by apply Array.ext';simpa using h2
       subst e1
       exact ⟨q,argTypes,t0,e,rfl,h1,hu,ho⟩
      ·simp at ho
     ·simp at ho
    all_goals (simp only [cO] at ho;(repeat' (split at ho))<;>simp at ho)
 all_goals (simp only [cO] at ho;(repeat' (split at ho))<;>simp at ho)
theorem sem_capN {x:X} (hx:S.x x = .nl):Z33 c S (.cap x) (.iv 0) S:=by
 intro ro hop M a w hRT next Q hnx
 obtain ⟨dst,op,ty,pos,af,gd⟩:=ro
 dsimp only at hop
 obtain ⟨q,ats,t0,e,rfl,h0,hu,rfl⟩:=cO_cap hop
 have k1:=Z12 hRT q
 rw [hx] at k1
 simp only [AV.is] at k1
 have hrun:(execOp a.eval ⟨dst,.call ⟨.builtin .cap, #[q],ats⟩,ty,pos,af,gd⟩).run c.P w = .ok (.value (.int .i64 0)) w:=by
  generalize a.eval=ρ at *
  simp [execOp,resolve,invoke,builtin,Builtin.cap_,h0,run_underlying hu,k1]
  rfl
 unfold Oper.wp
 rw [hrun]
 exact hnx M w _ (.refl M) hRT.st rfl
theorem V_capN {d:Option Nat} {g:Option (Nat×Bool)} {l:List EOp} {x:X} (hg:gm S g) (hx:S.x x = .nl) (h:V c fn K (.ops l::k) (S.put d (.iv 0))):V c fn K (.ops (⟨d,g,.cap x⟩::l)::k) S:=
 Z43 hg (sem_capN hx) rfl h
theorem cO_apz {P:Program} {op:Op} {e n b:Nat} {z:List AV} {x y:X} (ho:cO P op = .apz e n b z x y):
  ∃t tn k p q i u,op = .call ⟨.builtin .append, #[p,q], #[t,tn]⟩∧P.underlying t=some (.slice e)∧P.underlying tn=some (.int k)∧P.info? e=some i∧i.zero=some u∧u.cells.size=n∧i.size=n∧0<n∧i.bytes=b∧z=u.cells.toList.map zav∧cX p=x∧cX q=y:=by
 cases op
 case call ci=>
  obtain ⟨callee,cargs,argTypes⟩:=ci
  cases callee with
  | value o=>
    cases o with
    | func f'=>simp only [cO] at ho;(repeat' (split at ho))<;>simp at ho
    | _=>simp [cO] at ho
  | invoke _ _=>simp [cO] at ho
  | builtin b=>
    cases b
    case append=>
     simp only [cO] at ho
     split at ho
     ·rename_i t0 t1 p q h1 h2
      split at ho
      ·(repeat' (split at ho))<;>simp at ho
      ·split at ho
       ·rename_i e' k hu hk
        split at ho
        ·rename_i i hi
         split at ho
         ·rename_i u hz
          split at ho
          ·rename_i hs
           simp only [EO.apz.injEq] at ho
           obtain ⟨rfl,rfl,rfl,rfl,rfl,rfl⟩:=ho
           have e1:cargs = #[p,q]:=by apply Array.ext';simpa using h2
           have e2:argTypes = #[t0,t1]:=by apply Array.ext';simpa using h1
           subst e1;subst e2
           exact ⟨t0,t1,k,p,q,i,u,rfl,hu,hk,hi,hz,hs.1,rfl,hs.2,rfl,rfl,rfl,rfl⟩
          ·simp at ho
         ·simp at ho
        ·simp at ho
       ·simp at ho
     ·simp at ho
    all_goals (simp only [cO] at ho;(repeat' (split at ho))<;>simp at ho)
 all_goals (simp only [cO] at ho;(repeat' (split at ho))<;>simp at ho)
def apz_ {α:Type} (b:Nat) (n:Int) (z:α):Option (List α):=if 0<n∧n*b≤140737488355328∧n≤9223372036854775807 then some (List.replicate n.toNat z) else none
theorem sem_apz {e n b:Nat} {z:List AV} {x y:X} {m:Int} (hx:S.x x = .nl) (hy:S.x y = .iv m) (h0:0<m) (hb:m*b≤140737488355328) (h63:m≤9223372036854775807) (hone:Zk z=true):
  Z33 c S (.apz e n b z x y) (.osl (Zj S.ss)) ⟨S.tm,S.bs,S.ss++[some ⟨e,n,List.replicate m.toNat z⟩]⟩:=by
 intro ro hop M a w hRT next Q hnx
 obtain ⟨dst,op,ty,pos,af,gd⟩:=ro
 dsimp only at hop
 obtain ⟨t,tn,kk,p,q,i,u,rfl,hu,hk,hi,hz,hn,hsz,hn0,rfl,rfl,rfl,rfl⟩:=cO_apz hop
 have k1:=Z12 hRT p
 have k2:=Z12 hRT q
 rw [hx] at k1
 rw [hy] at k2
 simp only [AV.is] at k1 k2
 obtain ⟨k,rfl⟩:∃k:Nat,m=k:=⟨m.toNat,by omega⟩
 have hS:=hRT.st
 have hb':k*i.bytes≤140737488355328:=by
  have:((k*i.bytes:Nat):Int)≤140737488355328:=by rw [Int.natCast_mul];exact hb
  omega
 have r1:=Lib.run_append_nil_zeros (P:=c.P) w t tn ty e i u .i64 kk hu hk hi hz k (by omega) (by omega) h63 (by omega)
 have hrun:(execOp a.eval ⟨dst,.call ⟨.builtin .append, #[p,q], #[t,tn]⟩,ty,pos,af,gd⟩).run c.P w = .ok (.value (.slice (some ⟨w.heap.size,0,none⟩) k (grownCap w k 0 e))) (w.drew.alloc (.cells (Builtin.zeroCells u.cells k++Builtin.zeroCells u.cells (grownCap w k 0 e-k)) e)):=by
  generalize a.eval=ρ at *
  simp [execOp,resolve,invoke,builtin,k1,k2,r1]
 unfold Oper.wp
 rw [hrun]
 have hfl:∀k,(Builtin.zeroCells u.cells k).toList=(List.replicate k u.cells.toList).flatten:=fun k=>Zp2 u.cells k
 have hlen:u.cells.toList.length=n:=by simpa using hn
 have hv:=isLL_rep (Zr1 M.sl u.cells.toList) k
 rw [hlen] at hv
 have hcells:∀v∈u.cells.toList,v.oneCell'=true:=by
  have:∀l:List Value,Zk (l.map zav)=true→∀v∈l,v.oneCell'=true:=by
   intro l
   induction l with
   | nil=>simp
   | cons v l ih=>
     intro h u hu
     simp only [List.map_cons,Zk,Z71] at h
     rcases List.mem_cons.1 hu with rfl | hu
     ·exact zav_one h.1
     ·exact ih h.2 u hu
  exact this _ hone
 have hge:=grownCap_ge w k 0 e
 have hmax:=grownCap_le_maxLen w k 0 e (by unfold maxLen;omega)
 have hsz0:∀q,(Builtin.zeroCells u.cells q).size=q*n:=by intro q;simp [Builtin.zeroCells,hn]
 have hg:w.grownBy (w.drew.alloc (.cells (Builtin.zeroCells u.cells k++Builtin.zeroCells u.cells (grownCap w k 0 e-k)) e)) none:=by
  refine ⟨rfl,rfl,rfl,?_,fun j hj _=>?_⟩
  ·show w.heap.size≤(w.heap.push _).size;simp
  ·show (w.heap.push _)[j]?=_
   rw [Array.getElem?_push,if_neg (by omega)]
 have hr:RelS c (M.addS (.slice (some ⟨w.heap.size,0,none⟩) k (grownCap w k 0 e))) S.bs (S.ss++[some (⟨e,n,List.replicate k (u.cells.toList.map zav)⟩:Sl)]) (w.drew.alloc (.cells (Builtin.zeroCells u.cells k++Builtin.zeroCells u.cells (grownCap w k 0 e-k)) e)):=by
  refine RelS.grown (v:=.slice none 0 0) (vss:=List.replicate k u.cells.toList) hS rfl ?_ (.inl rfl) ?_ hg (.inr fun g hg=>?_) hn0 hv ?_ ?_
  ·intro i N hi;exact ⟨hi,fun g hg=>by simp [Value.ownBlock] at hg⟩
  ·intro g hg;simp [Value.ownBlock] at hg
  ·simp [Value.ownBlock] at hg;omega
  ·intro v hv
   simp only [List.mem_flatten,List.mem_replicate] at hv
   obtain ⟨l,⟨_,rfl⟩,hv⟩:=hv
   exact hcells v hv
  ·rw [List.length_replicate]
   refine ⟨by rw [←hfl];simp [hsz0],.inr ⟨w.heap.size,grownCap w k 0 e,Builtin.zeroCells u.cells k++Builtin.zeroCells u.cells (grownCap w k 0 e-k),rfl,Nat.zero_le _,?_,hge,hmax,?_,?_⟩⟩
   ·show (w.heap.push _)[w.heap.size]?=_
    rw [Array.getElem?_push,if_pos rfl]
   ·rw [Array.size_append,hsz0,hsz0,←Nat.add_mul];congr 1;omega
   ·rw [Array.toList_append,hfl,List.take_left']
    rw [←hfl];simp [hsz0]
 refine hnx _ _ _ (Mem.le_addS M _) (by simpa using hr) ?_
 rw [Z91,←hS.ns]
 exact ⟨Nat.lt_succ_self _,by simp [Mem.addS]⟩
theorem V_apzM {α:Type} {l':List α} {m:Int} {y:α} {d:Option Nat} {g:Option (Nat×Bool)} {l:List EOp} {e n b:Nat} {z:List AV} {p q:X} (f:α→List AV) (hv:apz_ b m y=some l') (hg:gm S g) (hx:S.x p = .nl) (hy:S.x q = .iv m) (hz:f y=z) (hone:Zk z=true)
  (h:V c fn K (.ops l::k) ((⟨S.tm,S.bs,S.ss++[some ⟨e,n,l'.map f⟩]⟩:St).put d (.osl (Zj S.ss)))):V c fn K (.ops (⟨d,g,.apz e n b z p q⟩::l)::k) S:=by
 unfold apz_ at hv
 split at hv
 ·rename_i h1
  simp at hv
  subst hv
  rw [List.map_replicate,hz] at h
  exact Z43 hg (sem_apz hx hy h1.1 h1.2.1 h1.2.2 hone) rfl h
 ·simp at hv
section
variable {all:Array Oper} {ops:List EOp} {af:List (List Nat)} {Φ:St→Prop} {m:Nat} {ld:List Bool}
theorem Z76 (hall:all.toList.mapM (Za c.P all)=some ops) {i:Nat} {α:Type} {l':List α} {z:Int} {v:α} {T n j:Nat} {x y:X} (f:α→List AV) (hv:at_ l' z=some v) (ho:(Z61 ops i).o = .idx n x y) (hg:gm S (Z61 ops i).g) (hx:S.x x = .osl j) (hi:S.x y = .iv z) (hj:Zf S.ss j=some ⟨T,n,l'.map f⟩)
  (h:G c all ops af Φ m (Z31 ld i) (S.put (Z61 ops i).d (.oel j (z.toNat*n) 0))):GO c all ops af Φ m ld S i:=by
 obtain ⟨h0,hr⟩:=Zx4 hv
 have:=(List.getElem?_eq_some_iff.1 hr).1
 exact Z54 hall hg (by rw [ho];exact sem_idxO hx hi hj rfl h0 (by simp;omega)) rfl (Z04 _ _) h
theorem Z86 (hall:all.toList.mapM (Za c.P all)=some ops) {i:Nat} {α:Type} {l':List α} {z:Int} {y:α} {j T n off:Nat} {x:X} {v:AV} (f:α→List AV) (hv:at_ l' z=some y) (ho:(Z61 ops i).o = .load x) (hg:gm S (Z61 ops i).g) (hx:S.x x = .oel j (z.toNat*n) off) (hj:Zf S.ss j=some ⟨T,n,l'.map f⟩)
  (hl:Zh (f y) off 1=some [v]) (h:G c all ops af Φ m (Z31 ld i) (S.put (Z61 ops i).d v)):GO c all ops af Φ m ld S i:=
 Z54 hall hg (by rw [ho];exact Zu5 hx hj rfl (Zy4 (Zx4 hv).2) hl) rfl (Z04 _ _) h
theorem Z96 (hall:all.toList.mapM (Za c.P all)=some ops) {i:Nat} {α:Type} {l':List α} {z:Int} {y:α} {j T n off q:Nat} {x:X} {r:List AV} (f:α→List AV) (hv:at_ l' z=some y) (ho:(Z61 ops i).o = .loadA q x) (hg:gm S (Z61 ops i).g) (hx:S.x x = .oel j (z.toNat*n) off) (hj:Zf S.ss j=some ⟨T,n,l'.map f⟩)
  (hl:Zh (f y) off q=some r) (h:G c all ops af Φ m (Z31 ld i) (S.put (Z61 ops i).d (.agg r))):GO c all ops af Φ m ld S i:=
 Z54 hall hg (by rw [ho];exact Zv5 hx hj rfl (Zy4 (Zx4 hv).2) hl) rfl (Z04 _ _) h
theorem Za6 (hall:all.toList.mapM (Za c.P all)=some ops) {i:Nat} {α:Type} {l':List α} {z:Int} {y y':α} {j T n off q:Nat} {x v:X} {cs0:List AV} (cs:List AV) (f:α→List AV) (hv:at_ l' z=some y) (ho:(Z61 ops i).o = .store q x v) (hg:gm S (Z61 ops i).g) (hx:S.x x = .oel j (z.toNat*n) off) (hj:Zf S.ss j=some ⟨T,n,l'.map f⟩)
  (hcs:(S.x v).cells=some cs0) (hce:AV.le.leL cs0 cs) (hm:Zj cs=q) (h1:Zk cs=true) (hp:Zo cs=true) (hl:Zi (f y) off cs=some (f y'))
  (h:G c all ops af Φ m (Z31 ld i) ((⟨S.tm,S.bs,Zg S.ss j (some ⟨T,n,(l'.set z.toNat y').map f⟩)⟩:St).put (Z61 ops i).d .un)):GO c all ops af Φ m ld S i:=by
 refine Z54 (S1:=⟨S.tm,S.bs,Zg S.ss j (some ⟨T,n,(l'.set z.toNat y').map f⟩)⟩) hall hg ?_ rfl (by rw [ho];exact fun _ _ _ _ h _ _=>h) h
 rw [ho,List.map_set]
 exact Zy5 hx hj rfl (Zy4 (Zx4 hv).2) hcs hce hm h1 (slL_pu hp) hl
end
end
section
variable {c:Ctx} {S:St} {fn:Func} {K:AV→List (Option Blk)→List (Option Sl)→Prop} {k:List It}
theorem V_put1 (t:Nat) (y:AV) (hle:AV.le (Zd S.tm t) y) (h:V c fn K k ⟨Ze S.tm t y,S.bs,S.ss⟩):V c fn K k S:=by
 intro rk M a w hc hT
 refine h rk M a w hc ⟨by rw [Zb1];exact hT.len,fun u=>?_,hT.df,hT.st⟩
 rw [Za1]
 split
 ·rename_i e
  obtain ⟨rfl,_⟩:=e
  exact le_is _ _ _ hle (hT.tm u)
 ·exact hT.tm u
theorem V_new (T n:Nat) (hn:Z3 1 n=true) (h:V c fn K k ⟨S.tm,S.bs,S.ss++[some ⟨T,n,[]⟩]⟩):V c fn K k S:=by
 intro rk M a w hc hT
 have hS:=hT.st
 rw [Z81] at hn
 have hr:=hS.name ⟨T,n,[]⟩ (.slice none 0 0) [] hn rfl (by simp) (World.ownsRow_nil w 0 T n) (fun g hg=>by simp [Value.ownBlock] at hg) (fun i B _=>by simp [Value.ownBlock]) (fun j N g _ hg=>by simp [Value.ownBlock] at hg)
 exact h rk _ a w hc ⟨hT.len,fun u=>Zo1 (Mem.le_addS M (.slice none 0 0)) _ _ (hT.tm u),hT.df,hr⟩
theorem Zb6 {all:Array Oper} {ops:List EOp} {af:List (List Nat)} {Φ:St→Prop} {m:Nat} {ld:List Bool} (v':AV) (hall:all.toList.mapM (Za c.P all)=some ops) {i:Nat} {v:AV} {S1:St} {q:Prop} (he:geO S (Z61 ops i)=some (v,S1,q)) (hq:q) (hle:AV.le v v')
  (h:G c all ops af Φ m (Z31 ld i) (S1.put (Z61 ops i).d v')):GO c all ops af Φ m ld S i:=by
 unfold geO at he
 split at he
 ·rename_i hg
  exact .inr ⟨gst_true hg,v',S1,fun ro hro M a w hT next Q hn=>sem_ev he hq ro (Zp3 (op_at hall hro)).2 M a w hT next Q fun M' w' x h1 h2 h3=>hn M' w' x h1 h2 (le_is _ _ _ hle h3),(ev_tm he).1,(ev_tm he).2,h⟩
 ·simp at he
end
end NX
end Go.Proofs.YthlodgjekbidcaaGreat
/-
  From what a machine computes to what a row says: arguments as data, and what is left of them. No statement of the seat is proved here.
-/
namespace Go.Proofs.YthlodgjekbidcaaGreat
namespace NX
open Go Go.RowKit Go.ChangeShapes Go.WideShapes
def Opn (P:Program) (t:TypeId) {α:Type} (row:α→List AV):Prop:=
 ∀ {H:Type} (enc:TypeId×Value→H) (w:World) (base:Nat) (sp:Nat→Bool) (held:Bool) (fuel:Nat) (cs:List Value) (x:DataW H×List MemPlace),
   DataW.trod enc P w base sp held fuel t cs=some x→∃v:α,AV.isL (Z0 fun k=>w.heap[k]?) (row v) cs
theorem opn_int {P:Program} {t:TypeId} (ht:P.underlying t=some (.int .i64)):Opn P t Zb5:=by
 intro H enc w base sp held fuel cs x h
 obtain ⟨n,rfl,_,_⟩:=DataW.trod_int ht h
 exact ⟨n,_,_,rfl,rfl,rfl⟩
theorem cells?_get {w:World} {base:Nat} {a:Addr} {n:Nat} {l:List Value} (h:w.cells? base a n=some l):l.length=n∧∀i v,l[i]?=some v→w.cell? (a.add i)=some v:=by
 unfold World.cells? at h
 split at h
 ·obtain ⟨h1,h2⟩:=Zl2 h
  refine ⟨by simpa using h1,fun i v hv=>?_⟩
  have hlt:i<n:=by have:=(List.getElem?_eq_some_iff.1 hv).1;simp at h1;omega
  obtain ⟨y,hy1,hy2⟩:=h2 i i (by simp [hlt])
  rw [hv] at hy1
  simp at hy1;subst hy1
  exact hy2
 ·simp at h
theorem cell?_none {w:World} {a:Addr} {v:Value} (h:w.cell? a=some v):a.spot=none∧∃cs T fr,w.heap[a.block]?=some (.cells cs T fr)∧cs[a.off]?=some v:=by
 unfold World.cell? at h
 split at h
 ·rename_i cs T fr hc
  split at h
  ·simp at h
  ·rename_i hs
   exact ⟨by cases hsp:a.spot<;>simp_all,cs,T,fr,hc,h⟩
 ·simp at h
theorem isL_one {M:Mem} {l:List AV} {vs:List Value} (h:AV.isL M l vs) (hp:Zk l=true) (ho:Zo l=true):∀v∈vs,v.oneCell'=true:=by
 induction l generalizing vs with
 | nil=>simp [AV.isL] at h;subst h;simp
 | cons x l ih=>
   obtain ⟨v,r,rfl,h1,h2⟩:=h
   simp only [Zk,Z71] at hp
   simp only [Zo,Z71] at ho
   intro u hu
   rcases List.mem_cons.1 hu with rfl | hu
   ·exact one_is h1 hp.1 (fun j e=>by subst e;simp [AV.pu] at ho)
   ·exact ih h2 hp.2 ho.2 u hu
theorem add_add (a:Addr) (i k:Nat) (ha:a.spot=none):(a.add i).add k=⟨a.block,a.off+i+k,none⟩:=by
 obtain ⟨b,o,sp⟩:=a
 dsimp only at ha
 subst ha
 simp [Addr.add]
 split<;>split<;>simp_all [Nat.add_assoc]
theorem opn_slice {P:Program} {t e:TypeId} {n:Nat} {α:Type} {row:α→List AV} (ht:P.underlying t=some (.slice e)) (hn:P.cellsOf e=n) (hpos:0<n) (hrow:∀v,(row v).length=n∧Zk (row v)=true∧Zo (row v)=true) (he:Opn P e row):Opn P t (Zc5 n row):=by
 intro H enc w base sp held fuel cs x h
 rcases DataW.trod_slice ht h with ⟨rfl,_⟩ | ⟨a,len,cap,elems,rest,m,_,rfl,_,hb,hlc,hcm,hel,hget,_,_⟩
 ·exact ⟨[],_,_,rfl,⟨none,0,rfl,⟨Nat.le_refl _,fun _=>rfl⟩,fun hne=>absurd rfl hne⟩,rfl⟩
 ·rw [hn] at hget
  have each:∀i,i<len→∃v:α,∃l,w.cells? base (a.add (i*n)) n=some l∧AV.isL (Z0 fun k=>w.heap[k]?) (row v) l:=by
   intro i hi
   have hg:=hget i hi
   have hsome:∃y,elems[i]?=some y:=⟨_,List.getElem?_eq_getElem (by omega)⟩
   obtain ⟨y,hy⟩:=hsome
   rw [hy,Option.bind_eq_some_iff] at hg
   obtain ⟨l,hl,hd⟩:=hg
   obtain ⟨v,hv⟩:=he enc w base sp held m l y hd
   exact ⟨v,l,hl,hv⟩
  have build:∀k,k≤len→∃(vs:List α) (vss:List (List Value)),vs.length=k∧AV.isLL (Z0 fun k=>w.heap[k]?) n (vs.map row) vss∧(∀v∈vss.flatten,v.oneCell'=true)∧
    ∀j u,vss.flatten[j]?=some u→∃i q,i<k∧q<n∧j=i*n+q∧w.cell? ((a.add (i*n)).add q)=some u:=by
   intro k
   induction k with
   | zero=>intro _;exact ⟨[],[],rfl,rfl,by simp,by simp⟩
   | succ k ih=>
     intro hk
     obtain ⟨vs,vss,h1,h2,h3,h4⟩:=ih (by omega)
     obtain ⟨v,l,hl,hv⟩:=each k (by omega)
     obtain ⟨hl1,hl2⟩:=cells?_get hl
     refine ⟨vs++[v],vss++[l],by simp [h1],?_,?_,?_⟩
     ·rw [List.map_append]
      exact Z94 h2 ⟨l,[],rfl,hl1,hv,rfl⟩
     ·intro u hu
      rw [List.flatten_append,List.mem_append] at hu
      rcases hu with hu | hu
      ·exact h3 u hu
      ·exact isL_one hv (hrow v).2.1 (hrow v).2.2 u (by simpa using hu)
     ·intro j u hj
      have hfl:vss.flatten.length=k*n:=by have:=Za4 h2;simpa [h1] using this
      rw [List.flatten_append] at hj
      by_cases hjl:j<vss.flatten.length
      ·rw [List.getElem?_append_left hjl] at hj
       obtain ⟨i,q,g1,g2,g3,g4⟩:=h4 j u hj
       exact ⟨i,q,by omega,g2,g3,g4⟩
      ·rw [List.getElem?_append_right (by omega),hfl] at hj
       simp only [List.flatten_cons,List.flatten_nil,List.append_nil] at hj
       have hq:=(List.getElem?_eq_some_iff.1 hj).1
       exact ⟨k,j-k*n,by omega,by omega,by omega,hl2 _ _ hj⟩
  obtain ⟨vs,vss,h1,h2,h3,h4⟩:=build len (Nat.le_refl _)
  refine ⟨vs,_,[],rfl,⟨some a,cap,by simp [h1],⟨by simpa [h1] using hlc,fun h=>by simp at h⟩,fun hne=>⟨a,vss,rfl,h2,?_⟩⟩,rfl⟩
  have hlen:0<len:=by
   rcases Nat.eq_zero_or_pos len with h0 | h0
   ·exfalso;apply hne;rw [List.map_eq_nil_iff];exact List.length_eq_zero_iff.1 (by omega)
   ·exact h0
  have hfl:vss.flatten.length=len*n:=by have:=Za4 h2;simpa [h1] using this
  have hpos2:0<len*n:=Nat.mul_pos hlen hpos
  obtain ⟨u0,hu0⟩:∃u,vss.flatten[0]?=some u:=⟨_,List.getElem?_eq_getElem (by omega)⟩
  obtain ⟨i0,q0,_,_,e0,g0⟩:=h4 0 u0 hu0
  have hi0:i0*n=0:=by omega
  have hq0:q0=0:=by omega
  rw [hi0,hq0] at g0
  have hsp:a.spot=none:=(cell?_none (a:=a) (by simpa [Addr.add] using g0)).1
  obtain ⟨_,cs0,T0,fr0,hblk,_⟩:=cell?_none (a:=a) (by simpa [Addr.add] using g0)
  refine ⟨hsp,h3,cs0,T0,fr0,hblk,fun j u hj=>?_⟩
  obtain ⟨i,q,g1,g2,g3,g4⟩:=h4 j u hj
  rw [add_add a _ _ hsp] at g4
  obtain ⟨_,cs1,T1,fr1,hb1,hc1⟩:=cell?_none g4
  dsimp only at hb1 hc1
  rw [hblk] at hb1
  simp only [Option.some.injEq,Obj.cells.injEq] at hb1
  obtain ⟨rfl,_,_⟩:=hb1
  rw [g3,←Nat.add_assoc];exact hc1
theorem arg_agg {P:Program} {t:TypeId} {α:Type} {row:α→List AV} (ho:Opn P t row) {fs:Array Field} (ht:P.underlying t=some (.struct fs)) {H:Type} {enc:TypeId×Value→H} {w:World} {b0:Nat} {r:Reach} {base:Nat} {sp:Nat→Bool} {held:Bool} {v:Value} {d:DataW H} {ps:List MemPlace}
  (hv:Value.okWide P w r b0 t v) (hd:DataW.Trod enc P w base sp held t v d ps):∃x:α,AV.is (Z0 fun k=>w.heap[k]?) (.agg (row x)) v:=by
 obtain ⟨fuel,hf⟩:=hd
 obtain ⟨x,hx⟩:=ho enc w base sp held fuel _ _ hf
 unfold Value.okWide at hv
 rw [ht] at hv
 obtain ⟨cs,rfl,_,_⟩:=hv
 exact ⟨x,cs.toList,by simp,hx⟩
theorem arg_slice {P:Program} {t e:TypeId} {n:Nat} {α:Type} {row:α→List AV} (ho:Opn P t (Zc5 n row)) (ht:P.underlying t=some (.slice e)) {H:Type} {enc:TypeId×Value→H} {w:World} {b0:Nat} {r:Reach} {base:Nat} {sp:Nat→Bool} {held:Bool} {v:Value} {d:DataW H} {ps:List MemPlace}
  (hv:Value.okWide P w r b0 t v) (hd:DataW.Trod enc P w base sp held t v d ps):∃x:List α,AV.is (Z0 fun k=>w.heap[k]?) (.sl n (x.map row)) v:=by
 obtain ⟨fuel,hf⟩:=hd
 obtain ⟨x,hx⟩:=ho enc w base sp held fuel _ _ hf
 obtain ⟨a0,len,cap,rfl⟩:=okWide_slice ht hv
 obtain ⟨u,q,h1,h2,_⟩:=hx
 simp [Value.cells] at h1
 exact ⟨x,by rw [h1.1];exact h2⟩
theorem Zc6 {P:Program} {H:Type} {enc:TypeId×Value→H} (hl:laidOutB P=true) {W W':World} (hB:Below W.heap.size W W'):∀ {ts:List TypeId} {vs:List Value} {ds:List (DataW H)} {ps:List MemPlace},
  (ts.all fun t=>P.readableRec t&&decide (t<P.types.size))=true→DataW.TrodAll enc P W 0 (fun _=>true) true ts vs ds ps→(∀x∈ps,x.block<W.heap.size)→
  DataW.TrodAll enc P W' 0 (fun b=>decide (b<W.heap.size)) true ts vs ds ps
 | [],[],[],ps,_,h,_=>h
 | t::ts,v::vs,d::ds,ps,hr,⟨p,q,h1,h2,e⟩,hlt=>by
   simp only [List.all_cons,Bool.and_eq_true,decide_eq_true_eq] at hr
   subst e
   exact ⟨p,q,Below.trod hl hr.1.1 hr.1.2 h1 hB (fun x hx=>hlt x (List.mem_append_left _ hx)),Zc6 hl hB (by simpa using hr.2) h2 (fun x hx=>hlt x (List.mem_append_right _ hx)),rfl⟩
 | [],_::_,_,_,_,h,_=>by simp [DataW.TrodAll] at h
 | [],[],_::_,_,_,h,_=>by simp [DataW.TrodAll] at h
 | _::_,[],_,_,_,h,_=>by simp [DataW.TrodAll] at h
 | _::_,_::_,[],_,_,h,_=>by simp [DataW.TrodAll] at h
theorem Zd6 {P:Program} {H:Type} {enc:TypeId×Value→H} {w:World} {b:Nat} {sp:Nat→Bool} {held:Bool}:∀ {ts:List TypeId} {vs:List Value} {ds:List (DataW H)} {ps:List MemPlace},DataW.TrodAll enc P w b sp held ts vs ds ps→ds.length=ts.length∧vs.length=ts.length
 | [],[],[],_,_=>⟨rfl,rfl⟩
 | _::_,_::_,_::_,_,⟨_,_,_,h,_⟩=>by have:=Zd6 h;simp [this]
 | [],_::_,_,_,h=>by simp [DataW.TrodAll] at h
 | [],[],_::_,_,h=>by simp [DataW.TrodAll] at h
 | _::_,[],_,_,h=>by simp [DataW.TrodAll] at h
 | _::_,_::_,[],_,h=>by simp [DataW.TrodAll] at h
theorem law_post {P:Program} {fn:Func} {s:ChangeSpec} (hl:laidOutB P=true) (hr:(fn.params.toList.all fun t=>P.readableRec t&&decide (t<P.types.size))=true) (hv:s.vars=[]) {tb:TypeId} (hres:fn.resultTypes = #[tb]) (hb:P.underlying tb=some .bool)
  {H:Type} {enc:TypeId×Value→H} {W W':World} {args:Array Value} {ds gs:List (DataW H)} {before:List MemPlace}
  (hs:ds.length=fn.params.size→s.fn H ds={results:=[.lit (.bool true)],args:=ds})
  (hW:DataW.Whole enc P fn.params.toList s.vars false W args.toList ds gs before) (hB:Below W.heap.size W W'):s.post enc P fn false true false false W args (.bool true) W':=by
 have hW':=hW
 obtain ⟨p,q,hA,hV,rfl,hfz,hnd⟩:=hW
 rw [hv] at hV
 obtain ⟨rfl,rfl⟩:=trodVars_none hV
 have hlen:=(Zd6 hA).1
 have e1:s.fn H (ds++[])={results:=[.lit (.bool true)],args:=ds}:=by rw [List.append_nil];exact hs (by simpa using hlen)
 refine ⟨ds,[],p++[],[],p,[],hW',?_,?_,?_,hB.frame _,fun h=>by cases h⟩
 ·rw [e1,hres];exact trodAll_mk1 (shut_bool hb _)
 ·rw [e1];exact Zc6 hl hB hr hA (fun x hx=>hW'.lt x (List.mem_append_left _ hx))
 ·rw [e1,hv];rfl
end NX
end Go.Proofs.YthlodgjekbidcaaGreat
/-
  Plain laws: loops of models over lists and ranges. No statement of the seat is proved here.
-/
namespace Go.Proofs.YthlodgjekbidcaaGreat
namespace NX
open Go
@[simp] theorem Ze6 {α:Type} (a b:Option α):ifb true a b=a:=rfl
@[simp] theorem Zf6 {α:Type} (a b:Option α):ifb false a b=b:=rfl
theorem ifb_not {α:Type} (e:Bool) (a b:Option α):ifb (!e) a b=ifb e b a:=by cases e<;>rfl
theorem Zg6 {n:Int} (h1: -9223372036854775808≤n) (h2:n≤9223372036854775807):wr n=n:=IntWalk.i64_in n ⟨h1,h2⟩
theorem Zh6 {α:Type} {l:List α} {k:Nat} {x:α} (h:l[k]?=some x):at_ l (k:Int)=some x:=by
 unfold at_;rw [if_pos (Int.natCast_nonneg k)];simpa using h
theorem at_lt {α:Type} {l:List α} {i:Int} (h0:0≤i) (h:i<l.length):∃x,at_ l i=some x∧l[i.toNat]?=some x:=by
 have hlt:i.toNat<l.length:=by omega
 exact ⟨l[i.toNat],by unfold at_;rw [if_pos h0,List.getElem?_eq_getElem hlt],List.getElem?_eq_getElem hlt⟩
theorem Zi6 {α:Type} {b:Nat} (l m:List α) (hb:b≤1000) (h:l.length+m.length≤100000000):Zh4 b l m=some (l++m):=by
 unfold Zh4
 rw [if_pos]
 exact ⟨by
  have h1:(l.length+m.length)*b≤100000000*1000:=Nat.mul_le_mul h hb
  omega,by omega⟩
theorem Zj6 {α:Type} {f:α→List AV} {l:List α} {k:Nat} {x:α} (h:l[k]?=some x):decide ((k:Int)<ln f l)=true:=by
 have:=(List.getElem?_eq_some_iff.1 h).1
 rw [Zd5];simp;omega
theorem Zk6 {α:Type} {f:α→List AV} {l:List α}:decide ((l.length:Int)<ln f l)=false:=by rw [Zd5];simp
theorem Zl6 {k:Nat} (h:k≤4000000000000000000):wr ((k:Int)+1)=((k+1:Nat):Int):=Zg6 (by omega) (by omega)
theorem Zm6 {α:Type} {l:List α} {k:Nat} {x:α} (h:l[k]?=some x) (hl:l.length≤4000000000000000000):wr ((k:Int)+1)=((k+1:Nat):Int):=by
 have:=(List.getElem?_eq_some_iff.1 h).1
 exact Zl6 (by omega)
def forR {σ β:Type} (f:Nat→σ→Option (σ ⊕ β)) (fin:σ→Option β):Nat→Nat→σ→Option β
 | 0,_,s=>fin s
 | m+1,k,s=>match f k s with
   | none=>none
   | some (.inl s')=>forR f fin m (k+1) s'
   | some (.inr r)=>some r
theorem Zn6 {σ β τ:Type} (body:τ→Option (τ ⊕ β)) (mk:Int→σ→τ) (f:Nat→σ→Option (σ ⊕ β)) (fin:σ→Option β) (n:Nat) (hn:n≤4000000000000000000)
  (hb:∀(k:Nat) s,k<n→body (mk k s)=(f k s).map (fun | .inl s'=>.inl (mk (k+1:Nat) s') | .inr r=>.inr r)) (he:∀s,body (mk n s)=(fin s).map .inr):
  ∀(m k:Nat) (s:σ),m+k=n→loop body (mk k s)=forR f fin m k s
 | 0,k,s,h=>by
   have:k=n:=by omega
   subst this
   rw [Zm4,he]
   cases hf:fin s<;>simp [forR,hf]
 | m+1,k,s,h=>by
   rw [Zm4,hb k s (by omega)]
   simp only [forR]
   cases hf:f k s with
   | none=>rfl
   | some y=>
     cases y with
     | inl s'=>exact Zn6 body mk f fin n hn hb he m (k+1) s' (by omega)
     | inr r=>rfl
def forL {α σ β:Type} (f:α→σ→Option (σ ⊕ β)) (fin:σ→Option β):List α→σ→Option β
 | [],s=>fin s
 | x::l,s=>match f x s with
   | none=>none
   | some (.inl s')=>forL f fin l s'
   | some (.inr r)=>some r
theorem forR_forL {α σ β:Type} (f:α→σ→Option (σ ⊕ β)) (fin:σ→Option β) (l:List α):∀(r:List α) (k:Nat) (s:σ),l.drop k=r→forR (fun k s=>(l[k]?).bind fun x=>f x s) fin r.length k s=forL f fin r s
 | [],k,s,_=>rfl
 | x::r,k,s,h=>by
   have hx:l[k]?=some x:=by
    have:=congrArg (·[0]?) h
    simpa using this
   have hr:l.drop (k+1)=r:=by
    rw [←List.drop_drop,h];rfl
   simp only [List.length_cons,forR,forL,hx,Option.bind_some]
   cases hf:f x s with
   | none=>rfl
   | some y=>
     cases y with
     | inl s'=>exact forR_forL f fin l r (k+1) s' hr
     | inr r=>rfl
theorem loop_forL {α σ β τ:Type} (l:List α) (body:τ→Option (τ ⊕ β)) (mk:Int→σ→τ) (f:α→σ→Option (σ ⊕ β)) (fin:σ→Option β) (hl:l.length≤4000000000000000000)
  (hb:∀(k:Nat) x s,l[k]?=some x→body (mk k s)=(f x s).map (fun | .inl s'=>.inl (mk (k+1:Nat) s') | .inr r=>.inr r)) (he:∀s,body (mk l.length s)=(fin s).map .inr) (s:σ):
  loop body (mk 0 s)=forL f fin l s:=by
 have:=Zn6 body mk (fun k s=>(l[k]?).bind fun x=>f x s) fin l.length hl (fun k s hk=>by
  have hx:l[k]?=some l[k]:=List.getElem?_eq_getElem hk
  rw [hx,Option.bind_some];exact hb k _ s hx) he l.length 0 s (by omega)
 rw [show ((0:Nat):Int)=0 from rfl] at this
 rw [this]
 exact forR_forL f fin l l 0 s rfl
theorem forL_find {α β:Type} (f:α→Option (Unit ⊕ β)) (q:α→Bool) (g:α→β) (fin:Option β) (l:List α) (hf:∀x∈l,f x=if q x then some (.inr (g x)) else some (.inl ())):
  forL (fun x _=>f x) (fun _=>fin) l ()=match l.find? q with | some x=>some (g x) | none=>fin:=by
 induction l with
 | nil=>rfl
 | cons x l ih=>
   simp only [forL,hf x (by simp),List.find?_cons]
   cases hq:q x with
   | true=>simp
   | false=>
     simp only [Bool.false_eq_true,if_false]
     exact ih fun y hy=>hf y (List.mem_cons_of_mem _ hy)
def plc:Option Nat→Int
 | some i=>i
 | none=> -1
theorem Zo6 (o:Option Nat):decide (0≤plc o)=o.isSome:=by cases o<;>simp [plc]
theorem Zp6 {α:Type} (l:List α) (q:α→Bool):∀(r:List α) (k:Nat),l.drop k=r→
  forR (β:=Int) (fun k (_:Unit)=>(l[k]?).bind fun x=>if q x then some (.inr (k:Int)) else some (.inl ())) (fun _=>some (-1)) r.length k ()=some (plc ((r.findIdx? q).map (· + k)))
 | [],k,_=>by simp [forR,plc]
 | x::r,k,h=>by
   have hx:l[k]?=some x:=by have:=congrArg (·[0]?) h;simpa using this
   have hr:l.drop (k+1)=r:=by rw [←List.drop_drop,h];rfl
   simp only [List.length_cons,forR,hx,Option.bind_some,List.findIdx?_cons]
   cases hq:q x with
   | true=>simp [plc]
   | false=>
     simp only [Bool.false_eq_true,if_false]
     rw [Zp6 l q r (k+1) hr]
     cases r.findIdx? q with
     | none=>rfl
     | some n=>simp only [Option.map_some,plc];congr 2;omega
theorem Zq6 {α:Type} (l:List α) (body:Int→Option (Int ⊕ Int)) (q:α→Bool) (hl:l.length≤4000000000000000000)
  (hb:∀(k:Nat) x,l[k]?=some x→body k=some (if q x then .inr (k:Int) else .inl ((k+1:Nat):Int))) (he:body l.length=some (.inr (-1))):loop body 0=some (plc (l.findIdx? q)):=by
 have:=Zn6 body (fun k (_:Unit)=>k) (fun k _=>(l[k]?).bind fun x=>if q x then some (.inr (k:Int)) else some (.inl ())) (fun _=>some (-1)) l.length hl (fun k s hk=>by
  have hx:l[k]?=some l[k]:=List.getElem?_eq_getElem hk
  rw [hx,Option.bind_some,hb k _ hx]
  cases q l[k]<;>rfl) (fun _=>he) l.length 0 () (by omega)
 rw [show ((0:Nat):Int)=0 from rfl] at this
 rw [this,Zp6 l q l 0 rfl]
 simp
theorem Zr6 {α:Type} (l:List α) (q:α→Bool):(l.findIdx? q).isSome=l.any q:=by rw [List.findIdx?_isSome]
theorem Zs6 {α β:Type} (l:List α) (body:Int→Option (Int ⊕ β)) (q:α→Bool) (yes no:β) (hl:l.length≤4000000000000000000)
  (hb:∀(k:Nat) x,l[k]?=some x→body k=some (if q x then .inr yes else .inl ((k+1:Nat):Int))) (he:body l.length=some (.inr no)):loop body 0=some (if l.any q then yes else no):=by
 have:=loop_forL l body (fun k (_:Unit)=>k) (fun x _=>if q x then some (.inr yes) else some (.inl ())) (fun _=>some no) hl (fun k x s hx=>by
  rw [hb k x hx]
  cases q x<;>rfl) (fun _=>he) ()
 rw [this,forL_find (fun x=>if q x then some (.inr yes) else some (.inl ())) q (fun _=>yes) (some no) l (fun x _=>rfl)]
 cases h:l.find? q with
 | none=>
   rw [List.find?_eq_none] at h
   have:l.any q=false:=by rw [List.any_eq_false];exact h
   simp [this]
 | some x=>
   have:l.any q=true:=by rw [List.any_eq_true];exact ⟨x,List.mem_of_find?_eq_some h,List.find?_some h⟩
   simp [this]
end NX
end Go.Proofs.YthlodgjekbidcaaGreat
namespace Go.Proofs.YthlodgjekbidcaaGreat
namespace NX
open Go Go.RowKit
@[go_sem] theorem leRows_tt:Zw 1 [[AV.tt]] [[AV.bv true]]=True:=eq_true ⟨rfl,fun M vss h=>by
  obtain ⟨vs,r,rfl,h1,h2,h3⟩:=h
  obtain ⟨v,l,rfl,h4,h5⟩:=h2
  exact ⟨_,_,rfl,h1,⟨_,_,rfl,h4,h5⟩,h3⟩⟩
section
variable {c:Ctx} {M:Mem} {S S':St} {a:Act} {w:World} {fn:Func} {K:AV→List (Option Blk)→List (Option Sl)→Prop} {k:List It}
theorem Zt6 {n:Nat}:∀ {l:List (List Value)},(∀v∈l,v.length=n)→∀k,(l.take k).flatten=l.flatten.take (k*n)∧(l.drop k).flatten=l.flatten.drop (k*n)
 | [],_,k=>by simp
 | v::l,hl,0=>by simp
 | v::l,hl,k+1=>by
   have hv:=hl v (by simp)
   obtain ⟨i1,i2⟩:=Zt6 (l:=l) (fun u hu=>hl u (by simp [hu])) k
   have e:(k+1)*n=v.length+k*n:=by rw [hv,Nat.add_mul];omega
   simp only [List.take_succ_cons,List.drop_succ_cons,List.flatten_cons,i1,i2,e]
   rw [List.take_length_add_append,List.drop_length_add_append]
   exact ⟨rfl,rfl⟩
theorem own_write (h:RelS c M S.bs S.ss w) {j T n:Nat} {rows:List (List AV)} (hj:Zf S.ss j=some ⟨T,n,rows⟩) {g cap:Nat} {cur:Array Value} (e2:M.σ j = .slice (some ⟨g,0,none⟩) rows.length cap) (e3:w.heap[g]?=some (.cells cur T (0,0))) (e4:rows.length≤cap) (e5:cap≤maxLen) (e6:cur.size=cap*n)
  {vss:List (List Value)} (v1:AV.isLL M.sl n rows vss) (v2:∀v∈vss.flatten,v.oneCell'=true) (e7:cur.toList.take (rows.length*n)=vss.flatten) {A:Nat} {R:List (List AV)} {C:List (List Value)} (hR:AV.isLL M.sl n R C) (hC:∀v∈C.flatten,v.oneCell'=true) (hA:A+R.length≤rows.length):
  RelS c M S.bs (Zg S.ss j (some ⟨T,n,rows.take A++R++rows.drop (A+R.length)⟩)) (w.setRow g (cur.toList.take (A*n)++C.flatten++cur.toList.drop (A*n+C.flatten.length)).toArray):=by
 have hlC:=Za4 hR
 have hlv:=Za4 v1
 have hf:=Zt6 (Zx5 v1).1
 have hbl:(w.setRow g (cur.toList.take (A*n)++C.flatten++cur.toList.drop (A*n+C.flatten.length)).toArray).heap[g]?=some (.cells (cur.toList.take (A*n)++C.flatten++cur.toList.drop (A*n+C.flatten.length)).toArray T (0,0)):=by
  rw [Zv1,if_pos rfl,e3];rfl
 have hcl:cur.toList.length=cap*n:=by simpa using e6
 have hnew:(vss.take A++C++vss.drop (A+R.length)).flatten=vss.flatten.take (A*n)++C.flatten++vss.flatten.drop (A*n+R.length*n):=by
  rw [List.flatten_append,List.flatten_append,(hf A).1,(hf (A+R.length)).2,Nat.add_mul]
 have q1:(A+R.length)*n≤rows.length*n:=Nat.mul_le_mul_right _ hA
 have q2:rows.length*n≤cap*n:=Nat.mul_le_mul_right _ e4
 rw [Nat.add_mul] at q1
 refine h.rewrite hj (g:=g) (by rw [e2];rfl) (w':=w.setRow g (cur.toList.take (A*n)++C.flatten++cur.toList.drop (A*n+C.flatten.length)).toArray) ⟨rfl,rfl,rfl,by simp [World.setRow],fun k _ hk=>by rw [Zv1,if_neg (fun e=>hk (by rw [e]))]⟩ (vss':=vss.take A++C++vss.drop (A+R.length)) ?_ ?_ ?_
 ·have t1:=Zh5 v1 0 A
  have t2:=Zh5 v1 (A+R.length) rows.length
  simp only [List.drop_zero] at t1
  rw [List.take_of_length_le (Nat.le_refl _),List.take_of_length_le (by have:=(Zx5 v1).2;omega)] at t2
  exact Z94 (Z94 t1 hR) t2
 ·intro v hv
  rw [hnew] at hv
  simp only [List.mem_append] at hv
  rcases hv with (hv | hv) | hv
  ·exact v2 v (List.mem_of_mem_take hv)
  ·exact hC v hv
  ·exact v2 v (List.mem_of_mem_drop hv)
 ·have hlen:(rows.take A++R++rows.drop (A+R.length)).length=rows.length:=by simp only [List.length_append,List.length_take,List.length_drop];omega
  refine ⟨?_,.inr ⟨g,cap,_,by rw [hlen];exact e2,Nat.zero_le _,hbl,by rw [hlen];exact e4,e5,?_,?_⟩⟩
  ·rw [hnew,hlen];simp only [List.length_append,List.length_take,List.length_drop];omega
  ·simp only [List.size_toArray,List.length_append,List.length_take,List.length_drop];omega
  ·rw [hnew,hlen,←e7,hlC]
   generalize C.flatten=D at *
   generalize cur.toList=L at *
   generalize rows.length*n=N at *
   generalize A*n=a at *
   rw [←hlC] at q1 ⊢
   refine List.ext_getElem? fun i=>?_
   simp only [List.getElem?_take,List.getElem?_append,List.length_append,List.length_take,List.getElem?_drop,hcl]
   have hm1:min a (cap*n)=a:=by omega
   have hm3:min N (cap*n)=N:=by omega
   have hm4:min a N=a:=by omega
   simp only [hm1,hm3]
   by_cases h1:i<N
   ·by_cases h2:i<a+D.length
    ·by_cases h3:i<a
     ·simp [h1,h2,h3,hm4]
     ·simp [h1,h2,h3,hm4]
    ·have h3:a+D.length+(i-(a+D.length))=i:=by omega
     simp [h1,h2,h3,hm4]
   ·by_cases h2:i<a+D.length
    ·omega
    ·have h3:a+D.length+(i-(a+D.length))=i:=by omega
     simp [h1,h2,h3,hm4]
theorem Zu6 (h:RelS c M S.bs S.ss w) {j T n:Nat} {rows:List (List AV)} (hj:Zf S.ss j=some ⟨T,n,rows⟩) (h0:0<rows.length):
  ∃g cap cur vss,M.σ j = .slice (some ⟨g,0,none⟩) rows.length cap∧w.heap[g]?=some (.cells cur T (0,0))∧rows.length≤cap∧cap≤maxLen∧cur.size=cap*n∧AV.isLL M.sl n rows vss∧(∀v∈vss.flatten,v.oneCell'=true)∧cur.toList.take (rows.length*n)=vss.flatten:=by
 obtain ⟨g0,vss,h1,h2,h3,h4⟩:=h.slc j _ hj
 dsimp only at h1 h3 g0
 rcases h3.2 with ⟨_,e3⟩ | ⟨g,cap,cur,e2,_,e3,e4,e5,e6,e7⟩
 ·omega
 ·exact ⟨g,cap,cur,vss,e2,e3,e4,e5,e6,h1,h2,e7⟩
theorem oput_self:∀(l:List (Option Sl)) (j:Nat) (L:Sl),Zf l j=some L→Zg l j (some L)=l
 | [],j,L,h=>by simp [Zf] at h
 | x::l,0,L,h=>by simp [Zf] at h;subst h;rfl
 | x::l,j+1,L,h=>by simp only [Zg];rw [oput_self l j L (by simpa [Zf] using h)]
theorem bnd_is {ρ:Operand→Value} (hx:∀o:Operand,(S.x (cX o)).is M (ρ o)):∀(o:Option Operand) (z r:Int),bnd S (o.map cX) z=some r→match o with | none=>r=z | some o=>ρ o = .int .i64 r:=by
 intro o z r hb
 cases o with
 | none=>simpa [bnd] using hb.symm
 | some o=>
   simp only [Option.map_some,bnd] at hb
   have:=hx o
   split at hb
   ·rename_i n' hn'
    rw [hn'] at this
    simp at hb;subst hb;exact this
   ·simp at hb
theorem sem_view {j T n:Nat} {x:X} {lo hi:Option X} {rows:List (List AV)} {l h:Int} (hx:S.x x = .osl j) (hj:Zf S.ss j=some ⟨T,n,rows⟩) (hr:0<rows.length) (hlo:bnd S lo 0=some l) (hhi:bnd S hi rows.length=some h) (h0:0≤l) (h1:l≤h) (h2:h≤rows.length):
  Z33 c S (.slice n x lo hi) (.ocs j l.toNat n (h.toNat-l.toNat)) S:=by
 intro ro hop M a w hRT next Q hnx
 obtain ⟨dst,op,ty,pos,af,gd⟩:=ro
 dsimp only at hop
 obtain ⟨T',y,lo',hi',e,rfl,hu,hs,rfl,rfl,rfl⟩:=Zf5 hop
 have hS:=hRT.st
 have k1:=Z12 hRT y
 rw [hx] at k1
 obtain ⟨g,cap,cur,vss,e2,e3,e4,e5,e6,v1,v2,e7⟩:=Zu6 hS hj hr
 have b1:=bnd_is (Z12 hRT) lo' 0 l hlo
 have b2:=bnd_is (Z12 hRT) hi' rows.length h hhi
 have hrun:=Zg5 (P:=c.P) (w:=w) hu hs (ρ:=a.eval) (ad:=some ⟨g,0,none⟩) (len:=rows.length) (cp:=cap) (lo:=l) (hi:=h) (k1.2.trans e2) e4 b1 b2 h0 h1 h2 dst ty pos af gd
 unfold Oper.wp
 rw [hrun]
 refine hnx M w _ (.refl M) hS ⟨k1.1,g,rows.length,cap,e2,?_⟩
 by_cases hc:cap=l.toNat
 ·rw [if_pos hc,if_pos hc]
 ·rw [if_neg hc,if_neg hc]
  simp only [Option.map,Addr.add_lit,Nat.zero_add]
end
end NX
end Go.Proofs.YthlodgjekbidcaaGreat
/-
  The symbolic machine: parts of own slices: cut, cleared, laid behind one another. No statement of the seat is proved here.
-/
namespace Go.Proofs.YthlodgjekbidcaaGreat
namespace NX
open Go Go.RowKit
section
variable {c:Ctx} {M:Mem} {S S':St} {a:Act} {w:World} {fn:Func} {K:AV→List (Option Blk)→List (Option Sl)→Prop} {k:List It}
theorem slice_run2 {P:Program} {w:World} {T e n:Nat} (hu:P.underlying T=some (.slice e)) (hs:Z6 P e=some n) {x:Operand} {l h:Option Operand} {ρ:Operand→Value} {ad:Option Addr} {len cp:Nat} {lo hi:Int}
  (hx:ρ x = .slice ad len cp) (hl:match l with | none=>lo=0 | some o=>ρ o = .int .i64 lo) (hh:match h with | none=>hi=len | some o=>ρ o = .int .i64 hi) (h0:0≤lo) (h1:lo≤hi) (h2:hi≤cp)
  (d:Option Tmp) (ty:TypeId) (pos:String) (af:Array Go.Edge) (gg:Option (Nat×Bool)):
  (execOp ρ ⟨d,.slice T x l h none,ty,pos,af,gg⟩).run P w = .ok (.value (.slice (if cp=lo.toNat then ad else ad.map (·.add (lo.toNat*n))) (hi.toNat-lo.toNat) (cp-lo.toNat))) w:=by
 have key:(Instr.sliceBounds true len cp (l.map ρ) (h.map ρ) none).run P w = .ok (lo.toNat,hi.toNat,cp) w:=by
  cases l<;>cases h<;>simp only at hl hh<;>simp only [Option.map,Instr.sliceBounds]
  ·subst hl;simp [hh]
  ·subst hl;simp [Instr.sliceBound,asIntOf,hh,h2,show 0≤hi by omega]
  ·subst hh;simp [Instr.sliceBound,asIntOf,hl,h0,h1]
  ·simp [Instr.sliceBound,asIntOf,hl,hh,h0,h1,h2,show 0≤hi by omega,Int.toNat_of_nonneg (show 0≤hi by omega)]
 simp [execOp,Instr.sliceAt,Instr.slice,hx,run_underlying hu,key,Z32 hs]
theorem sem_viewV {j T n m:Nat} {x:X} {lo hi:Option X} {rows:List (List AV)} {l h:Int} (hx:S.x x = .ocs j 0 n m) (hj:Zf S.ss j=some ⟨T,n,rows⟩) (hr:0<rows.length) (hlo:bnd S lo 0=some l) (hhi:bnd S hi m=some h) (h0:0≤l) (h1:l≤h) (h2:h≤rows.length):
  Z33 c S (.slice n x lo hi) (.ocs j l.toNat n (h.toNat-l.toNat)) S:=by
 intro ro hop M a w hRT next Q hnx
 obtain ⟨dst,op,ty,pos,af,gd⟩:=ro
 dsimp only at hop
 obtain ⟨T',y,lo',hi',e,rfl,hu,hs,rfl,rfl,rfl⟩:=Zf5 hop
 have hS:=hRT.st
 have k1:=Z12 hRT y
 rw [hx] at k1
 obtain ⟨hjn,g1,n1,c1,k1,k1'⟩:=k1
 obtain ⟨g,cap,cur,vss,e2,e3,e4,e5,e6,v1,v2,e7⟩:=Zu6 hS hj hr
 rw [e2] at k1
 simp only [Value.slice.injEq,Option.some.injEq,Addr.mk.injEq] at k1
 obtain ⟨⟨rfl,_⟩,_,rfl⟩:=k1
 rw [Nat.zero_mul,ite_self,Nat.sub_zero] at k1'
 have b1:=bnd_is (Z12 hRT) lo' 0 l hlo
 have b2:=bnd_is (Z12 hRT) hi' m h hhi
 have hrun:=slice_run2 (P:=c.P) (w:=w) hu hs (ρ:=a.eval) (ad:=some ⟨g,0,none⟩) (len:=m) (cp:=cap) (lo:=l) (hi:=h) k1' b1 b2 h0 h1 (by omega) dst ty pos af gd
 unfold Oper.wp
 rw [hrun]
 refine hnx M w _ (.refl M) hS ⟨hjn,g,rows.length,cap,e2,?_⟩
 by_cases hc:cap=l.toNat
 ·rw [if_pos hc,if_pos hc]
 ·rw [if_neg hc,if_neg hc]
  simp only [Option.map,Addr.add_lit,Nat.zero_add]
theorem cO_sl3 {P:Program} {op:Op} {n:Nat} {x:X} {lo hi mx:Option X} (ho:cO P op = .sl3 n x lo hi mx):
  ∃T y l h m e,op = .slice T y l h (some m)∧P.underlying T=some (.slice e)∧Z6 P e=some n∧cX y=x∧l.map cX=lo∧h.map cX=hi∧some (cX m)=mx:=by
 cases op
 case slice T y l h mx'=>
  simp only [cO] at ho
  split at ho
  ·split at ho<;>simp at ho
  ·rename_i m e hu
   split at ho
   ·rename_i n' hn
    simp only [EO.sl3.injEq] at ho
    obtain ⟨rfl,rfl,rfl,rfl,rfl⟩:=ho
    exact ⟨T,y,l,h,_,_,rfl,hu,hn,rfl,rfl,rfl,rfl⟩
   ·simp at ho
  ·simp at ho
  ·simp at ho
 all_goals (simp only [cO] at ho;(repeat' (split at ho))<;>simp at ho)
theorem sem_sl3 {j T n:Nat} {x xl xh xm:X} {rows:List (List AV)} {l h m:Int} (hx:S.x x = .osl j) (hj:Zf S.ss j=some ⟨T,n,rows⟩) (hr:0<rows.length) (hl:S.x xl = .iv l) (hh:S.x xh = .iv h) (hm:S.x xm = .iv m) (h0:0≤l) (h1:l≤h) (h2:h≤m) (h3:m≤rows.length):
  Z33 c S (.sl3 n x (some xl) (some xh) (some xm)) .any S:=by
 intro ro hop M a w hRT next Q hnx
 obtain ⟨dst,op,ty,pos,af,gd⟩:=ro
 dsimp only at hop
 obtain ⟨T',y,lo',hi',mx',e,rfl,hu,hs,rfl,q1,q2,q3⟩:=cO_sl3 hop
 cases lo' with
 | none=>simp at q1
 | some lo'=>
   cases hi' with
   | none=>simp at q2
   | some hi'=>
     simp only [Option.map_some,Option.some.injEq] at q1 q2 q3
     have hS:=hRT.st
     have k1:=Z12 hRT y
     rw [hx] at k1
     obtain ⟨g,cap,cur,vss,e2,e3,e4,e5,e6,v1,v2,e7⟩:=Zu6 hS hj hr
     have b1:=Z12 hRT lo'
     have b2:=Z12 hRT hi'
     have b3:=Z12 hRT mx'
     rw [q1,hl] at b1
     rw [q2,hh] at b2
     rw [q3,hm] at b3
     simp only [AV.is] at b1 b2 b3
     have k1':=k1.2.trans e2
     have hrun:∃v,(execOp a.eval ⟨dst,.slice T' y (some lo') (some hi') (some mx'),ty,pos,af,gd⟩).run c.P w = .ok (.value v) w:=by
      have key:(Instr.sliceBounds true rows.length cap ((some lo').map a.eval) ((some hi').map a.eval) (some (a.eval mx'))).run c.P w = .ok (l.toNat,h.toNat,m.toNat) w:=by
       simp [Instr.sliceBounds,Instr.sliceBound,asIntOf,b1,b2,b3,show 0≤m by omega,show m≤(cap:Int) by omega,show 0≤h by omega,h0,h1,h2,Int.toNat_of_nonneg (show 0≤m by omega),Int.toNat_of_nonneg (show 0≤h by omega)]
      generalize a.eval=ρ at *
      refine ⟨.slice (if m.toNat=l.toNat then some ⟨g,0,none⟩ else (some ⟨g,0,none⟩:Option Addr).map (·.add (l.toNat*n))) (h.toNat-l.toNat) (m.toNat-l.toNat),?_⟩
      simp only [Option.map_some] at key
      simp [execOp,Instr.sliceAt,Instr.slice,k1',run_underlying hu,Z32 hs,key]
     obtain ⟨v,hrun⟩:=hrun
     unfold Oper.wp
     rw [hrun]
     exact hnx M w _ (.refl M) hS trivial
theorem cO_clr {P:Program} {op:Op} {z:List AV} {x:X} (ho:cO P op = .clr z x):∃p t e n,op = .call ⟨.builtin .clear, #[p], #[t]⟩∧P.underlying t=some (.slice e)∧Z5 P e=some z∧Z6 P e=some n∧z.length=n∧0<n∧cX p=x:=by
 cases op
 case call ci=>
  obtain ⟨callee,cargs,argTypes⟩:=ci
  cases callee with
  | value o=>
    cases o with
    | func f'=>simp only [cO] at ho;(repeat' (split at ho))<;>simp at ho
    | _=>simp [cO] at ho
  | invoke _ _=>simp [cO] at ho
  | builtin b=>
    cases b
    case clear=>
     simp only [cO] at ho
     split at ho
     ·rename_i t0 p h1 h2
      split at ho
      ·rename_i e hu
       split at ho
       ·rename_i z' n hz hs
        split at ho
        ·rename_i hc
         simp only [EO.clr.injEq] at ho
         obtain ⟨rfl,rfl⟩:=ho
         have e1:cargs = #[p]:=by apply Array.ext';simpa using h2
         have e2:argTypes = #[t0]:=by apply Array.ext';simpa using h1
         subst e1;subst e2
         exact ⟨p,t0,e,n,rfl,hu,hz,hs,hc.1,hc.2,rfl⟩
        ·simp at ho
       ·simp at ho
      ·simp at ho
     ·simp at ho
    all_goals (simp only [cO] at ho;(repeat' (split at ho))<;>simp at ho)
 all_goals (simp only [cO] at ho;(repeat' (split at ho))<;>simp at ho)
theorem Zv6 (z:Array Value):∀n,(Builtin.zeroCells z n).toList=(List.replicate n z.toList).flatten
 | 0=>by simp [Builtin.zeroCells]
 | n+1=>by
   have ih:=Zv6 z n
   simp only [Builtin.zeroCells,Array.toList_map,Array.toList_range] at ih ⊢
   rw [List.replicate_succ',List.flatten_append,←ih,Nat.add_mul,Nat.one_mul,List.range_add,List.map_append]
   congr 1
   rw [List.map_map]
   simp only [List.flatten_cons,List.flatten_nil,List.append_nil]
   refine List.ext_getElem? fun i=>?_
   rw [List.getElem?_map]
   by_cases hi:i<z.size
   ·rw [List.getElem?_range hi]
    simp only [Option.map_some,Function.comp,Nat.mul_add_mod_self_right]
    rw [Nat.mod_eq_of_lt hi]
    simp [hi]
   ·rw [List.getElem?_eq_none (by simp;omega),List.getElem?_eq_none (by simp;omega)];rfl
theorem sem_clr {j T n lo m:Nat} {x:X} {z:List AV} {rows:List (List AV)} (hx:S.x x = .ocs j lo n m) (hj:Zf S.ss j=some ⟨T,n,rows⟩) (hr:0<rows.length) (hlm:lo+m≤rows.length) (z':List AV) (hz:AV.le.leL z z') (hp:Zo z'=true) (hn:z.length=n) (h1:Zk z=true):
  Z33 c S (.clr z x) (.tup []) ⟨S.tm,S.bs,Zg S.ss j (some ⟨T,n,rows.take lo++List.replicate m z'++rows.drop (lo+m)⟩)⟩:=by
 intro ro hop M a w hT next Q hnx
 obtain ⟨dst,op,ty,pos,af,gd⟩:=ro
 dsimp only at hop
 obtain ⟨p,t,e,n',rfl,hu,hzc,hs,hzl,hn0,rfl⟩:=cO_clr hop
 have hnn:n'=n:=by omega
 subst hnn
 have k1:=Z12 hT p
 rw [hx] at k1
 obtain ⟨hjn,g1,n1,c1,k1,k1'⟩:=k1
 obtain ⟨g,cap,cur,vss,e2,e3,e4,e5,e6,v1,v2,e7⟩:=Zu6 hT.st hj hr
 rw [e2] at k1
 simp only [Value.slice.injEq,Option.some.injEq,Addr.mk.injEq] at k1
 obtain ⟨⟨rfl,_⟩,_,rfl⟩:=k1
 obtain ⟨i,u,hi,hzero,hsz,rfl⟩:=Za2 hzc
 have hcl:AV.isL M.sl z' u.cells.toList:=Zp1 (Zm1 M) _ _ (Zs1 _ _ (Zu2 (M:=M) _ _ _ hz (Zr1 M _)) hp)
 have hlen:u.cells.toList.length=n':=by simpa using hn
 have hone:∀v∈u.cells.toList,v.oneCell'=true:=Ze2 (Zr1 M _) h1 hT.st.so
 have hC:=isLL_rep hcl m
 rw [hlen] at hC
 have hoC:∀v∈(List.replicate m u.cells.toList).flatten,v.oneCell'=true:=fun v hv=>by
  obtain ⟨l,hl,hv⟩:=List.mem_flatten.1 hv
  rw [List.eq_of_mem_replicate hl] at hv
  exact hone v hv
 have hlC:=Za4 hC
 rw [List.length_replicate] at hlC
 have hW:=own_write hT.st hj e2 e3 e4 e5 e6 v1 v2 e7 (A:=lo) hC hoC (by rw [List.length_replicate];exact hlm)
 rw [List.length_replicate] at hW
 by_cases hm0:m=0
 ·subst hm0
  have hrun:(execOp a.eval ⟨dst,.call ⟨.builtin .clear, #[p], #[t]⟩,ty,pos,af,gd⟩).run c.P w = .ok (.value (.tuple #[])) w:=by
   generalize a.eval=ρ at *
   simp [execOp,resolve,invoke,builtin,Builtin.clear_,run_underlying hu,k1']
  unfold Oper.wp
  rw [hrun]
  refine hnx M _ _ (.refl M) ?_ ⟨[],rfl,rfl⟩
  simp only [List.replicate_zero,List.append_nil,Nat.add_zero,List.take_append_drop]
  show RelS c M S.bs (Zg S.ss j (some ⟨T,n',rows⟩)) w
  rw [oput_self _ _ _ hj];exact hT.st
 ·have hcl0:¬cap=lo:=by omega
  rw [if_neg hcl0] at k1'
  have q1:(lo+m)*n'≤cap*n':=Nat.mul_le_mul_right _ (by omega)
  rw [Nat.add_mul] at q1
  have hst:=run_storeCells_at c.P g (lo*n') T (List.replicate m u.cells.toList).flatten 0 cur w e3 (by rw [Nat.add_zero,hlC,e6];exact q1) hoC
  rw [Nat.add_zero] at hst
  have hrun:(execOp a.eval ⟨dst,.call ⟨.builtin .clear, #[p], #[t]⟩,ty,pos,af,gd⟩).run c.P w = .ok (.value (.tuple #[])) (w.setRow g (cur.toList.take (lo*n')++(List.replicate m u.cells.toList).flatten++cur.toList.drop (lo*n'+(List.replicate m u.cells.toList).flatten.length)).toArray):=by
   have hzv:(zeroValue e).run c.P w = .ok u w:=by simp [zeroValue,typeInfo,hi,hzero]
   rw [←Zv6] at hst ⊢
   generalize a.eval=ρ at *
   obtain ⟨m',rfl⟩:∃m',m=m'+1:=⟨m-1,by omega⟩
   simp [execOp,resolve,invoke,builtin,Builtin.clear_,run_underlying hu,k1',hzv,hst]
  unfold Oper.wp
  rw [hrun]
  exact hnx M _ _ (.refl M) hW ⟨[],rfl,rfl⟩
theorem sem_appV {j e n b i lo m:Nat} {x y:X} {rows:List (List AV)} (hx:S.x x = .ocs j 0 n i) (hy:S.x y = .ocs j lo n m) (hj:Zf S.ss j=some ⟨e,n,rows⟩) (hr:0<rows.length) (h1:i+m≤rows.length) (h2:lo+m≤rows.length):
  Z33 c S (.app e n b x y) (.ocs j 0 n (i+m)) ⟨S.tm,S.bs,Zg S.ss j (some ⟨e,n,rows.take i++(rows.take (lo+m)).drop lo++rows.drop (i+m)⟩)⟩:=by
 intro ro hop M a w hT next Q hnx
 obtain ⟨dst,op,ty,pos,af,gd⟩:=ro
 dsimp only at hop
 obtain ⟨t,p,q,inf,z,rfl,hu,hi,hz,hsz,hbz,hzc,hn0,rfl,rfl⟩:=cO_app hop
 have k1:=Z12 hT p
 have k2:=Z12 hT q
 rw [hx] at k1
 rw [hy] at k2
 obtain ⟨hjn,g1,n1,c1,k1,k1'⟩:=k1
 obtain ⟨_,g2,n2,c2,k2,k2'⟩:=k2
 obtain ⟨g,cap,cur,vss,e2,e3,e4,e5,e6,v1,v2,e7⟩:=Zu6 hT.st hj hr
 rw [e2] at k1 k2
 simp only [Value.slice.injEq,Option.some.injEq,Addr.mk.injEq] at k1 k2
 obtain ⟨⟨rfl,_⟩,_,rfl⟩:=k1
 obtain ⟨⟨rfl,_⟩,_,rfl⟩:=k2
 rw [Nat.zero_mul,ite_self,Nat.sub_zero] at k1'
 have hw:=Zh5 v1 lo (lo+m)
 have hwl:=Za4 hw
 have hk:((rows.take (lo+m)).drop lo).length=m:=by rw [List.length_drop,List.length_take];omega
 rw [hk] at hwl
 have hlen1:=(Zx5 v1).1
 have hwf:((vss.take (lo+m)).drop lo).flatten=(vss.flatten.take ((lo+m)*n)).drop (lo*n):=by
  rw [(Zt6 (fun v hv=>hlen1 v (List.mem_of_mem_take hv)) lo).2,(Zt6 hlen1 _).1]
 have hone:∀v∈((vss.take (lo+m)).drop lo).flatten,v.oneCell'=true:=fun v hv=>by
  rw [hwf] at hv;exact v2 v (List.mem_of_mem_take (List.mem_of_mem_drop hv))
 have q1:(i+m)*n≤cap*n:=Nat.mul_le_mul_right _ (by omega)
 rw [Nat.add_mul] at q1
 have hcells:∀(u:Nat) v,((vss.take (lo+m)).drop lo).flatten[u]?=some v→w.cell? ((⟨g,if cap=lo then 0 else lo*n,none⟩:Addr).add u)=some v:=fun u v hv=>by
  by_cases hc:cap=lo
  ·have hm0:m=0:=by omega
   have hwl0:((vss.take (lo+m)).drop lo).flatten.length=0:=by rw [hwl,hm0,Nat.zero_mul]
   rw [List.eq_nil_of_length_eq_zero hwl0] at hv
   simp at hv
  ·rw [if_neg hc]
   rw [hwf,List.getElem?_drop,List.getElem?_take] at hv
   split at hv
   ·rw [←e7,List.getElem?_take] at hv
    split at hv
    ·rw [Addr.add_lit]
     simp only [World.cell?,e3]
     simpa using hv
    ·simp at hv
   ·simp at hv
 have hrun:=app_exec (P:=c.P) (w:=w) (p:=p) (q:=q) (t:=t) (ρ:=a.eval) dst ty pos af gd (by
  rw [k1',k2']
  exact run_append_room (P:=c.P) w t ty e inf hu hi g i cap cur e3 ⟨g,if cap=lo then 0 else lo*n,none⟩ m (cap-lo) ((vss.take (lo+m)).drop lo).flatten (by rw [hwl,hsz]) hcells hone (by omega) (by rw [hsz,hwl,e6];exact q1))
 unfold Oper.wp
 rw [hrun,hsz]
 have hW:=own_write hT.st hj e2 e3 e4 e5 e6 v1 v2 e7 (A:=i) hw hone (by rw [hk];omega)
 rw [hk] at hW
 refine hnx M _ _ (.refl M) hW ⟨hjn,g,rows.length,cap,e2,?_⟩
 rw [Nat.zero_mul,ite_self,Nat.sub_zero]
theorem V_cutV (t j n m:Nat) {L:Sl} (ht:Zd S.tm t = .ocs j 0 n m) (hj:Zf S.ss j=some L) (hn:L.n=n) (hr:0<L.rows.length) (hm:m≤L.rows.length) (h:V c fn K k ⟨Ze S.tm t (.osl (Zj S.ss)),S.bs,Zg S.ss j none++[some ⟨L.T,n,L.rows.take m⟩]⟩):V c fn K k S:=by
 subst hn
 intro rk M a w hc hT
 have hS:=hT.st
 have k1:=hT.tm t
 rw [ht] at k1
 obtain ⟨hjn,g1,n1,c1,k1,k1'⟩:=k1
 obtain ⟨g,cap,cur,vss,e2,e3,e4,e5,e6,v1,v2,e7⟩:=Zu6 (T:=L.T) (n:=L.n) (rows:=L.rows) hS hj hr
 rw [e2] at k1
 simp only [Value.slice.injEq,Option.some.injEq,Addr.mk.injEq] at k1
 obtain ⟨⟨rfl,_⟩,_,rfl⟩:=k1
 rw [Nat.zero_mul,ite_self,Nat.sub_zero] at k1'
 obtain ⟨g0,_,_,_,_,q4⟩:=hS.slc j L hj
 have hw:=Zh5 v1 0 m
 simp only [List.drop_zero] at hw
 have hwf:(vss.take m).flatten=vss.flatten.take (m*L.n):=(Zt6 (Zx5 v1).1 m).1
 have hwl:=Za4 hw
 rw [List.length_take,Nat.min_eq_left hm] at hwl
 have hr:RelS c (M.addS (.slice (some ⟨g,0,none⟩) m cap)) S.bs (Zg S.ss j none++[some (⟨L.T,L.n,L.rows.take m⟩:Sl)]) w:=by
  refine RelS.grown (v:=M.σ j) (vss:=vss.take m) hS (Ze1 _ _ _) ?_ (.inr fun i B hi=>hS.d2 i j B L hi hj) q4 ⟨rfl,rfl,rfl,Nat.le_refl _,fun _ _ _=>rfl⟩ (.inl (by rw [e2];rfl)) g0 hw ?_ ?_
  ·intro i N hi
   rw [Zd1] at hi
   split at hi
   ·simp at hi
   ·rename_i e
    refine ⟨hi,fun g hg e2=>e ⟨?_,Zf1 hj⟩⟩
    exact hS.d3 i j N L g hi hj e2 hg
  ·intro v hv
   rw [hwf] at hv
   exact v2 v (List.mem_of_mem_take hv)
  ·refine ⟨by rw [hwl,List.length_take,Nat.min_eq_left hm],.inr ⟨g,cap,cur,by rw [List.length_take,Nat.min_eq_left hm],Nat.zero_le _,e3,by rw [List.length_take,Nat.min_eq_left hm];omega,e5,e6,?_⟩⟩
   rw [List.length_take,Nat.min_eq_left hm,hwf,←e7,List.take_take,Nat.min_eq_left (Nat.mul_le_mul_right _ hm)]
 have hle:=Mem.le_addS M (.slice (some ⟨g,0,none⟩) m cap)
 refine h rk _ a w hc ⟨by rw [Zb1];exact hT.len,fun u=>?_,hT.df,hr⟩
 rw [Za1]
 split
 ·rename_i e
  have hu:=hT.tm u
  obtain ⟨rfl,_⟩:=e
  refine ⟨by rw [Z91,←hS.ns];exact Nat.lt_succ_self _,?_⟩
  rw [k1',Z91,←hS.ns]
  simp [Mem.addS]
 ·exact Zo1 hle _ _ (hT.tm u)
end
end NX
end Go.Proofs.YthlodgjekbidcaaGreat
/-
  The symbolic machine: strings. No statement of the seat is proved here.
-/
namespace Go.Proofs.YthlodgjekbidcaaGreat
namespace NX
open Go Go.RowKit
section
variable {c:Ctx} {M:Mem} {S S':St} {a:Act} {w:World} {fn:Func} {K:AV→List (Option Blk)→List (Option Sl)→Prop} {k:List It}
end
end NX
end Go.Proofs.YthlodgjekbidcaaGreat
