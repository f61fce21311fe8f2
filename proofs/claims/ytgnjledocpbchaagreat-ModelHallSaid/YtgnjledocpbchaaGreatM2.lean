/-
  The symbolic machine: regions that draw their order. No statement of the seat is proved here.
-/
import Derived.StillTail
import Derived.Test.YtgnjledocpbchaaGreatM1
namespace Go.Proofs.YtgnjledocpbchaaGreat
namespace NX
open Go Go.RowKit
theorem Z9:∀(l:List Bool) (i:Nat),DV l i=l.toArray.getD i true
 | [],i=>by simp [DV]
 | b::l,0=>by simp [DV]
 | b::l,i+1=>by have:=Z9 l i;simp [DV] at this ⊢;exact this
theorem Ui:∀(l:List Bool) (i:Nat),CX l i=l.toArray.getD i false
 | [],i=>by simp [CX]
 | b::l,0=>by simp [CX]
 | b::l,i+1=>by have:=Ui l i;simp [CX] at this ⊢;exact this
theorem IW:∀(l:List Bool) (i:Nat),(Ay l i).toArray=l.toArray.setIfInBounds i true
 | [],i=>by simp [Ay]
 | b::l,0=>by simp [Ay]
 | b::l,i+1=>by have:=IW l i;simp at this;simp [Ay,this]
theorem IS (ld:List Bool):∀l:List Nat,HZ ld l=true↔∀j∈l,CX ld j=true
 | []=>by simp [HZ]
 | j::l=>by simp [HZ,AS,IS ld l]
theorem H3 (ld:List Bool):∀(af:List (List Nat)) (Ac i:Nat),i∈Bx ld af Ac↔Ac≤i∧∃w,af[i-Ac]?=some w∧DV ld i=false∧HZ ld w=true
 | [],Ac,i=>by simp [Bx]
 | w::af,Ac,i=>by
   have ih:=H3 ld af (Ac+1) i;have step:(Ac+1≤i∧∃w,af[i-(Ac+1)]?=some w∧DV ld i=false∧HZ ld w=true)↔(Ac≤i∧i≠Ac∧∃w',(w::af)[i-Ac]?=some w'∧DV ld i=false∧HZ ld w'=true):=by
    constructor
    ·rintro ⟨h1,w',h2,h3⟩;exact ⟨Om,Om,w',by rw [show i-Ac=(i-(Ac+1))+1 from by omega];simpa using h2,h3⟩
    ·rintro ⟨h1,h2,w',h3,h4⟩;rw [show i-Ac=(i-(Ac+1))+1 from by omega] at h3;exact ⟨Om,w',by simpa using h3,h4⟩
   simp only [Bx];split
   ·rename_i hb;rw [ih,step];constructor
    ·rintro ⟨h1,_,h3⟩;exact ⟨h1,h3⟩
    ·rintro ⟨h1,w',h2,h3,h4⟩;refine ⟨h1,?_,w',h2,h3,h4⟩;rintro rfl;rw [hb] at h3;simp at h3
   ·rename_i hb;split
    ·rename_i hd;rw [List.mem_cons,ih,step];constructor
     ·rintro (rfl | ⟨h1,_,h3⟩)
      ·exact ⟨Nat.le_refl _,w,by simp,hb,hd⟩
      ·exact ⟨h1,h3⟩
     ·rintro ⟨h1,h2⟩;by_cases e:i=Ac
      ·exact .inl e
      ·exact .inr ⟨h1,e,h2⟩
    ·rename_i hd;rw [ih,step];constructor
     ·rintro ⟨h1,_,h3⟩;exact ⟨h1,h3⟩
     ·rintro ⟨h1,w',h2,h3,h4⟩;refine ⟨h1,?_,w',h2,h3,h4⟩;rintro rfl;simp at h2;subst h2;rw [h4] at hd;simp at hd
theorem Lm (i:Nat):∀l:List Nat,EN i l=true↔i∈l
 | []=>by simp [EN]
 | j::l=>by
   simp only [EN];split
   ·rename_i h;simp at h;simp [h]
   ·rename_i h;simp at h;simp [h,Lm i l]
theorem i6 (l:List (List Nat)) (i:Nat):Cv l i=l.getD i []:=by
 induction l generalizing i with
 | nil=>simp [Cv]
 | cons x l ih=>cases i<;>simp [Cv,ih]
theorem qp {l:List EOp} {i:Nat} (h:i<l.length):l[i]?=some (Af l i):=by
 induction l generalizing i with
 | nil=>simp at h
 | cons x l ih=>cases i with
   | zero=>simp [Af]
   | succ i=>simpa [Af] using ih (by simpa using h)
theorem Yf {all:Array Oper} {ld:List Bool} {i:Nat}:i∈Region.ready .any all ld.toArray↔i∈Bx ld (I1 all) 0:=by
 rw [mem_ready,H3];simp only [Nat.zero_le,true_and,Nat.sub_zero,I1,List.getElem?_map,Option.map_eq_some_iff,←Z9];constructor
 ·rintro ⟨h0,o,ho,h6⟩;refine ⟨_,⟨o,by simpa using ho,rfl⟩,h0,(IS _ _).2 ?_⟩;intro j hj;rw [List.mem_filterMap] at hj;obtain ⟨e,he,hb⟩:=hj;split at hb
  ·rename_i h8;simp at hb;subst hb;rw [Ui];exact h6 e (by simpa using he) h8
  ·simp at hb
 ·rintro ⟨w,⟨o,ho,rfl⟩,h0,hd⟩;rw [IS] at hd;refine ⟨h0,o,by simpa using ho,fun e he hb=>?_⟩;have:=hd e.on (List.mem_filterMap.2 ⟨e,by simpa using he,by simp [hb]⟩);rw [Ui] at this;exact this
def keeps (S S1:St) (o:EO):Prop:=∀j off n l,CS S (.ptr j off) n=some l→AB l=true→(∀n a v j' off',o = .store n a v→S.x a = .ptr j' off'→j'≠j)→CS S1 (.ptr j off) n=some l
def Fa:EO→Bool
 | .load _=>true
 | .loadA _ _=>true
 | _=>false
def UA (ops:List EOp) (af:List (List Nat)) (i:Nat):Prop:=∀k,Fa (Af ops k).o=true→k∈Cv af i∨i∈Cv af k
def Ej (S:St):Option (Nat×Bool)→Prop
 | none=>False
 | some (t,f)=>match GG S.tm t,f with
   | .tt,false=>True
   | .ff,true=>True
   | .un,_=>True
   | _,_=>False
def dm (c:Ctx) (S:St) (ro:Oper) (v:AV) (S1:St):Prop:=
 ∀M a w,RelT c M S a w→∀(next:Act→World→Prop) (Q:Exit→Act→World→Prop),
  (∀M' w' x,M.le M'→RelS c M' S1.bs S1.ss w'→v.is M' x→next (a.put ro.dst x) w')→ro.wp c.P a w next Q
section
variable (c:Ctx) (all:Array Oper) (ops:List EOp) (af:List (List Nat)) (Φ:St→Prop)
def G:Nat→List Bool→St→Prop
 | 0,ld,S=>Bx ld af 0=[]∧Φ S
 | m+1,ld,S=>(Bx ld af 0=[]→Φ S)∧∀i∈Bx ld af 0,
   (Ej S (Af ops i).g∧G m (Ay ld i) (S.put (Af ops i).d .un))∨
   (gm S (Af ops i).g∧∃v S1,(∀ro,all[i]?=some ro→dm c S ro v S1)∧S1.tm=S.tm∧(keeps S S1 (Af ops i).o∨UA ops af i)∧G m (Ay ld i) (S1.put (Af ops i).d v))
end
theorem gQ (i:Nat):∀l:List Nat,IF i l=true↔i∈l
 | []=>by simp [IF]
 | j::l=>by
   simp only [IF];split
   ·rename_i h;simp at h;simp [h]
   ·rename_i h;simp at h;simp [h,gQ i l]
theorem Z0 {x:Nat}:∀ {xs l:List Nat},x∈LO l xs↔x∈l∨x∈xs
 | [],l=>by simp [LO]
 | y::xs,l=>by
   simp only [LO];split
   ·rename_i h;rw [gQ] at h;rw [Z0];simp only [List.mem_cons];constructor
    ·rintro (h1 | h1)
     ·exact .inl h1
     ·exact .inr (.inr h1)
    ·rintro (h1 | rfl | h1)
     ·exact .inl h1
     ·exact .inl h
     ·exact .inr h1
   ·rw [Z0];simp [List.mem_append,or_assoc]
theorem Zh {acc:List (List Nat)} {x:Nat}:∀ {w l:List Nat},x∈Pk acc l w↔x∈l∨∃k∈w,x∈Lo acc k
 | [],l=>by simp [Pk]
 | k::w,l=>by simp only [Pk,Zh (w:=w),Z0,List.mem_cons,exists_eq_or_imp,or_assoc]
theorem i7 {k x:Nat}:∀ {acc:List (List Nat)},x∈Lo acc k→∃w,acc[k]?=some w∧x∈w
 | [],h=>by simp [Lo] at h
 | w::acc,h=>by
   cases k with
   | zero=>exact ⟨w,by simp,by simpa [Lo] using h⟩
   | succ k=>obtain ⟨v,h1,h2⟩:=i7 (acc:=acc) (by simpa [Lo] using h);exact ⟨v,by simpa using h1,h2⟩
theorem ez {D:Nat→Prop} {E:List (List Nat)} (h6:∀j w,E[j]?=some w→D j→∀x∈w,D x):∀(l acc pre:List (List Nat)),E=pre++l→acc.length=pre.length→
  (∀(j:Nat) (w w':List Nat),pre[j]?=some w→acc[j]?=some w'→(∀x∈w,x∈w')∧((∀x∈w,D x)→∀x∈w',D x))→
  (Pj acc l).length=E.length∧∀(j:Nat) (w w':List Nat),E[j]?=some w→(Pj acc l)[j]?=some w'→(∀x∈w,x∈w')∧((∀x∈w,D x)→∀x∈w',D x)
 | [],acc,pre,h,hl,hI=>by
   have:E=pre:=by simpa using h
   subst this;exact ⟨hl,hI⟩
 | w::l,acc,pre,h,hl,hI=>by
   simp only [Pj];refine ez h6 l _ (pre++[w]) (by simp [h]) (by simp [hl]) fun j v v' hj hj'=>?_;by_cases hlt:j<pre.length
   ·rw [List.getElem?_append_left hlt] at hj;rw [List.getElem?_append_left Om] at hj';exact hI j v v' hj hj'
   ·have h8:j=pre.length:=by have:=(List.getElem?_eq_some_iff.1 hj).1;simp at this;omega
    subst h8;rw [List.getElem?_append_right (Nat.le_refl _)] at hj;rw [List.getElem?_append_right Om] at hj';rw [hl] at hj';simp at hj hj';subst hj;subst hj';refine ⟨fun x hx=>Zh.2 (.inl hx),fun hD x hx=>?_⟩;rcases Zh.1 hx with hx | ⟨k,hk,hx⟩
    ·exact hD x hx
    ·obtain ⟨wk',h1,h2⟩:=i7 hx;have h9:=(List.getElem?_eq_some_iff.1 h1).1;obtain ⟨wk,h3⟩:∃wk,pre[k]?=some wk:=⟨_,List.getElem?_eq_getElem Om⟩
     have h4:E[k]?=some wk:=by rw [h,List.getElem?_append_left Om];exact h3
     exact (hI k wk wk' h3 h1).2 (h6 k wk h4 (hD k hk)) x h2
def Un (all:Array Oper) (ld:List Bool):Prop:=∀j w,(I1 all)[j]?=some w→CX ld j=true→∀x∈w,CX ld x=true
theorem dZ {all:Array Oper} {D:Nat→Prop} (h6:∀j w,(I1 all)[j]?=some w→D j→∀x∈w,D x):(Bu all).length=(I1 all).length∧∀(j:Nat) (w w':List Nat),(I1 all)[j]?=some w→(Bu all)[j]?=some w'→(∀x∈w,x∈w')∧((∀x∈w,D x)→∀x∈w',D x):=ez h6 (I1 all) [] [] rfl rfl (fun j w w' h=>by simp at h)
theorem bS {all:Array Oper} {ld:List Bool} {i:Nat} (h:i∈Bx ld (Bu all) 0):i∈Region.ready .any all ld.toArray:=by
 rw [Yf,H3];rw [H3] at h;obtain ⟨_,w',h1,h2,h3⟩:=h;obtain ⟨h6,hs⟩:=dZ (all:=all) (D:=fun _=>True) (fun _ _ _ _ _ _=>trivial);simp only [Nat.sub_zero] at h1;have hlt:=(List.getElem?_eq_some_iff.1 h1).1;obtain ⟨w,hw⟩:∃w,(I1 all)[i]?=some w:=⟨_,List.getElem?_eq_getElem Om⟩
 refine ⟨Nat.zero_le _,w,by simpa using hw,h2,?_⟩;rw [IS] at h3 ⊢;exact fun j hj=>h3 j ((hs i w w' hw h1).1 j hj)
theorem jN {all:Array Oper} {ld:List Bool} {i:Nat} (hc:Un all ld) (h:i∈Region.ready .any all ld.toArray):i∈Bx ld (Bu all) 0:=by
 rw [Yf,H3] at h;rw [H3];obtain ⟨_,w,h1,h2,h3⟩:=h;obtain ⟨h6,hs⟩:=dZ (all:=all) (D:=fun x=>CX ld x=true) hc;simp only [Nat.sub_zero] at h1;have hlt:=(List.getElem?_eq_some_iff.1 h1).1;obtain ⟨w',hw'⟩:∃w',(Bu all)[i]?=some w':=⟨_,List.getElem?_eq_getElem Om⟩
 refine ⟨Nat.zero_le _,w',by simpa using hw',h2,?_⟩;rw [IS] at h3 ⊢;exact (hs i w w' h1 hw').2 h3
theorem nY {ld:List Bool} {i j:Nat}:CX (Ay ld i) j=true→CX ld j=true∨j=i:=by
 induction ld generalizing i j with
 | nil=>simp [Ay,CX]
 | cons b l ih=>
   cases i with
   | zero=>cases j<;>simp [Ay,CX]
   | succ i=>cases j with
     | zero=>simp [Ay,CX]
     | succ j=>simpa [Ay,CX] using fun h=>ih (i:=i) (j:=j) h
theorem Za {ld:List Bool} {i j:Nat} (h:CX ld j=true):CX (Ay ld i) j=true:=by
 induction ld generalizing i j with
 | nil=>simp [CX] at h
 | cons b l ih=>cases i<;>cases j<;>simp_all [Ay,CX]
theorem eB {all:Array Oper} {ld:List Bool} {i:Nat} (hc:Un all ld) (h:i∈Region.ready .any all ld.toArray):Un all (Ay ld i):=by
 intro j w hw hj x hx;rcases nY hj with h1 | rfl
 ·exact Za (hc j w hw h1 x hx)
 ·rw [Yf,H3] at h;obtain ⟨_,w2,h1,_,h3⟩:=h;simp only [Nat.sub_zero] at h1;rw [h1] at hw;simp at hw;subst hw;rw [IS] at h3;exact Za (h3 x hx)
theorem rE {c:Ctx} {M:Mem} {S:St} {a:Act} {w:World} {all:Array Oper} {ro:Oper} {o:EOp} (E:RelT c M S a w) (hc:AO c.P all ro=some o) (h:Ej S o.g):Region.wanted ro (yielded all a.tmps)=false:=by
 unfold AO at hc;cases hg:ro.guard with
 | none=>rw [hg] at hc;simp at hc;subst hc;exact h.elim
 | some jf=>
   obtain ⟨j,f⟩:=jf;rw [hg] at hc;dsimp only at hc;split at hc
   ·rename_i t ht;simp at hc;subst hc;have h6:=YG (a:=a) ht;have h8:=US (E.tm t);simp only [Ej] at h;split at h
    ·rename_i hv;rw [hv] at h8;rw [show a.tmps.getD t undef = .bool true from h8] at h6;simp [Region.wanted,hg,h6]
    ·rename_i hv;rw [hv] at h8;rw [show a.tmps.getD t undef = .bool false from h8] at h6;simp [Region.wanted,hg,h6]
    ·rename_i hv;rw [hv] at h8;rw [show a.tmps.getD t undef=undef from h8] at h6;simp [undef] at h6;simp [Region.wanted,hg,h6]
    ·exact h.elim
   ·simp at hc
theorem rD {c:Ctx} {M:Mem} {S:St} {a:Act} {w:World} {all:Array Oper} {ro:Oper} {o:EOp} (E:RelT c M S a w) (hc:AO c.P all ro=some o) (h:gm S o.g):Region.wanted ro (yielded all a.tmps)=true:=by
 unfold AO at hc;cases hg:ro.guard with
 | none=>simp [Region.wanted,hg]
 | some jf=>
   obtain ⟨j,f⟩:=jf;rw [hg] at hc;dsimp only at hc;split at hc
   ·rename_i t ht;simp at hc;subst hc;have h6:=YG (a:=a) ht;have h8:=US (E.tm t);simp only [gm] at h;split at h
    ·rename_i hv;rw [hv] at h8;rw [show a.tmps.getD t undef = .bool true from h8] at h6;simp [Region.wanted,hg,h6]
    ·rename_i hv;rw [hv] at h8;rw [show a.tmps.getD t undef = .bool false from h8] at h6;simp [Region.wanted,hg,h6]
    ·exact h.elim
   ·simp at hc
theorem LX {P:Program} {all:Array Oper} {ro:Oper} {o:EOp} (hc:AO P all ro=some o):ro.dst=o.d∧cO P ro.op=o.o:=by
 unfold AO at hc;split at hc
 ·simp at hc;subst hc;exact ⟨rfl,rfl⟩
 ·split at hc
  ·simp at hc;subst hc;exact ⟨rfl,rfl⟩
  ·simp at hc
theorem OM {P:Program} {all:Array Oper} {ops:List EOp} (h6:all.toList.mapM (AO P all)=some ops) {i:Nat} {ro:Oper} (hi:all[i]?=some ro):AO P all ro=some (Af ops i):=by obtain ⟨h1,h2⟩:=JR h6;obtain ⟨y,h3,h4⟩:=h2 i ro (by simpa using hi);have:=qp (l:=ops) (i:=i) (List.getElem?_eq_some_iff.1 h3).1;rw [h3] at this;simp at this;rw [h4,this]
theorem YO {c:Ctx} {all:Array Oper} {ops:List EOp} (h8:all.toList.mapM (AO c.P all)=some ops) {Φ:St→Prop} {Q:Exit→Act→World→Prop}
  (E:∀S,Φ S→∀M a w,RelT c M S a w→Q .normal a w):∀(m:Nat) (ld:List Bool) (S:St),G c all ops (Bu all) Φ m ld S→Un all ld→∀M a w,RelT c M S a w→wpAny c.P .any all Q m ld.toArray a w
 | 0,ld,S,h,h6,M,a,w,hT=>by
   refine ⟨?_,E S h.2 M a w hT⟩;cases hr:Region.ready .any all ld.toArray with
   | nil=>rfl
   | cons i r=>have:=jN h6 (show i∈Region.ready .any all ld.toArray by rw [hr];simp);rw [h.1] at this;simp at this
 | m+1,ld,S,h,h6,M,a,w,hT=>by
   refine ⟨fun hr=>E S (h.1 ?_) M a w hT,fun i hi=>?_⟩
   ·cases hr':Bx ld (Bu all) 0 with
    | nil=>rfl
    | cons i r=>have:=bS (show i∈Bx ld (Bu all) 0 by rw [hr'];simp);rw [hr] at this;simp at this
   ·have hw:=jN h6 hi;obtain ⟨_,ro,h9,_⟩:=mem_ready.1 hi;have hc:=OM h8 h9;obtain ⟨hd,_⟩:=LX hc;unfold wpOp;rw [h9];dsimp only;rcases h.2 i hw with ⟨hg,hG⟩ | ⟨hg,v,S1,hs,hA,_,hG⟩
    ·rw [if_neg (by simp [rE hT hc hg]),←IW];refine YO h8 E m _ _ hG (eB h6 hi) M _ w ?_;rw [←hd];exact hT.put ro.dst (.refl M) hT.st (v:=.un) rfl
    ·rw [if_pos (rD hT hc hg)];refine .inl (hs ro h9 M a w hT _ _ fun M' w' x h1 h2 h3=>?_);rw [←IW];refine YO h8 E m _ _ hG (eB h6 hi) M' _ w' ?_;rw [←hd];have:=hT.put ro.dst h1 h2 h3;rw [←hA] at this;exact this
theorem RelT.drew {c:Ctx} {M:Mem} {S:St} {a:Act} {w:World} (h:RelT c M S a w):RelT c M S a {w with drawn:=w.drawn+1}:=⟨h.len,h.tm,h.df,h.st.drew⟩
def Kj:Nat→List Bool
 | 0=>[]
 | n+1=>false::Kj n
theorem Zp:∀n,Kj n=List.replicate n false
 | 0=>rfl
 | n+1=>by simp [Kj,Zp n,List.replicate_succ]
theorem nZ (n j:Nat):CX (List.replicate n false) j=false:=by
 induction n generalizing j with
 | zero=>rfl
 | succ n ih=>cases j<;>simp [List.replicate_succ,CX,ih]
theorem qv (n:Nat):(Kj n).toArray=Array.replicate n false:=by rw [Zp,List.toArray_replicate]
theorem mZ {c:Ctx} {S:St} {fn:Func} {K:AV→List (Option Blk)→List (Option Sl)→Prop} {k:List It} {ops:List EOp} {af nap:List (List Nat)} (hm:c.P.follows .mixedOrders=true)
  (h:∀all,all.toList.mapM (AO c.P all)=some ops→Region.noSelect all=true→nap=D7 all→af=Bu all→G c all ops af (fun S'=>V c fn K k S') (Ah ops) (Kj (Ah ops)) S):V c fn K (.code (.drw ops af nap)::k) S:=
 F2 fun x hx rk M s w hr hT=>by
  obtain ⟨id,all,rfl,h6,hs,h8,h9⟩:=om hx;have hn:all.size=Ah ops:=by rw [Bl,(JR h6).1];simp
  refine wp_region_any hm ?_;rw [hn,←qv];have h0:=h all h6 hs h9 h8;subst h8;exact YO h6 (fun S' hV M a w hT=>hV rk M a w hr hT) _ _ _ h0 (fun j w _ hj=>by rw [Zp,nZ] at hj;simp at hj) M s _ hT.drew
def rd (S:St) (o:EO):Option (AV×Prop):=
 match o with
 | .mv x=>some (S.x x,True)
 | .pick c a b=>match tf (S.x c) with
   | .tt=>some (S.x a,True)
   | .ff=>some (S.x b,True)
   | _=>none
 | .load x=>match CS S (S.x x) 1 with
   | some l=>match AB l with
     | true=>some (AM l 0,True)
     | false=>none
   | none=>none
 | .loadA n x=>match CS S (S.x x) n with
   | some l=>match AB l with
     | true=>some (.agg l,True)
     | false=>none
   | none=>none
 | .nilchk x=>match S.x x with
   | .ptr j off=>some (.ptr j off,True)
   | .elt row off=>some (.elt row off,True)
   | .oel j k off=>some (.oel j k off,True)
   | .clo f caps=>some (.clo f caps,True)
   | _=>none
 | .bin op x y=>F4 op (S.x x) (S.x y)
 | .sbin op x y=>(P0 op (S.x x) (S.x y)).map fun r=>(r,True)
 | .slen x=>match S.x x with
   | .sv s=>some (.iv (YB s),True)
   | _=>none
 | .eqs ng ks x y=>match S.x x,S.x y with
   | .agg l,.agg r=>(Ki ks l r).map fun e=>(.bv (GY ng e),True)
   | _,_=>none
 | .bq ng x y=>match Gr (S.x x),Gr (S.x y) with
   | some a,some b=>some (.bv (GY ng (a==b)),True)
   | _,_=>none
 | .not x=>match S.x x with
   | .tt=>some (.ff,True)
   | .ff=>some (.tt,True)
   | .bv e=>some (.bv (!e),True)
   | _=>none
 | .conv .i64 x=>match S.x x with
   | .iv a=>some (.iv (wr a),True)
   | .kv _ a=>some (.iv (wr a),True)
   | _=>none
 | .conv k x=>match S.x x with
   | .iv a=>some (HH k (kw k a),True)
   | .kv _ a=>some (HH k (kw k a),True)
   | _=>none
 | .fld off x=>match S.x x with
   | .ptr j o=>some (.ptr j (o+off),True)
   | .elt row o=>some (.elt row (o+off),True)
   | .oel j k o=>some (.oel j k (o+off),True)
   | _=>none
 | .build z ps=>(FD z (Gd S ps)).map fun l=>(.agg l,True)
 | .ext x k=>match S.x x with
   | .tup l=>(Db l k 1).map fun r=>(AM r 0,True)
   | _=>none
 | .mkf f caps=>some (.clo f (B6 S caps),True)
 | .len x=>match S.x x with
   | .nl=>some (.iv 0,True)
   | .sl _ rows=>some (.iv rows.length,True)
   | _=>none
 | _=>none
theorem xc {M:Mem} {op:BinOp} {u v r:AV} (h:P0 op u v=some r):∃x,r.is M x:=by
 unfold P0 at h;split at h
 ·split at h
  ·cases op<;>simp only [Option.some.injEq,reduceCtorEq] at h<;>subst h<;>exact ⟨_,rfl⟩
  ·simp at h
 ·simp at h
theorem o5 {M:Mem} {op:BinOp} {u v r:AV} {p:Prop} (h:F4 op u v=some (r,p)):∃x,r.is M x:=by
 have k0:∀(k:IntKind) (n:Int),∃x,(HH k n).is M x:=fun k n=>⟨_,Tn k n⟩
 have k1:∀ {op:BinOp} {k:IntKind} {a b:Int},HU op k a b=some (r,p)→∃x,r.is M x:=by intro op k a b h;cases op<;>simp only [HU,Option.some.injEq,Prod.mk.injEq,reduceCtorEq] at h<;>rw [←h.1]<;>exact k0 _ _
 cases u with
 | iv a=>cases v with
   | iv b=>cases op<;>simp only [F4,Pd,Option.some.injEq,Prod.mk.injEq,reduceCtorEq] at h<;>rw [←h.1]<;>exact ⟨_,rfl⟩
   | kv j b=>exact k1 h
   | _=>simp [F4] at h
 | kv k a=>cases v with
   | iv b=>exact k1 h
   | kv j b=>
     simp only [F4] at h;split at h
     ·split at h
      ·exact k1 h
      ·exact k1 h
      ·cases op<;>simp only [Pe,Option.some.injEq,Prod.mk.injEq,reduceCtorEq] at h<;>rw [←h.1]<;>exact ⟨_,rfl⟩
     ·exact k1 h
   | _=>simp [F4] at h
 | _=>simp [F4] at h
theorem uA {S:St} {o:EO} {v:AV} {q:Prop} (h:rd S o=some (v,q)):ev S o=some (v,S,q):=by
 cases o<;>simp only [rd,reduceCtorEq] at h<;>simp only [ev]
 case mv x=>simp at h;simp [h]
 case pick c a b=>split at h<;>simp_all
 case load x=>
  split at h
  ·rename_i l hl;split at h<;>simp at h;rw [hl];simp [h]
  ·simp at h
 case loadA n x=>
  split at h
  ·rename_i l hl;split at h<;>simp at h;rw [hl];simp [h]
  ·simp at h
 case nilchk x=>split at h<;>rename_i he<;>(try (simp at h;done))<;>(try rw [he])<;>simp at h<;>simp [h]
 case bin op x y=>simp [h]
 case sbin op x y=>simp only [Option.map_eq_some_iff,Prod.mk.injEq] at h;obtain ⟨r,h1,rfl,rfl⟩:=h;simp [h1]
 case slen x=>split at h<;>simp_all
 case conv k x=>cases k<;>simp only at h ⊢ <;>split at h<;>simp_all
 case eqs ng ks x y=>
  split at h
  ·rename_i e1 e2
   try rw [e1,e2]
   simp only [Option.map_eq_some_iff,Prod.mk.injEq] at h;obtain ⟨e,h1,rfl,rfl⟩:=h;simp [h1]
  ·simp at h
 case bq ng x y=>
  split at h
  ·rename_i e1 e2
   try rw [e1,e2]
   simp at h;simp [h]
  ·simp at h
 case not x=>split at h<;>simp_all
 case fld off x=>split at h<;>rename_i he<;>(try (simp at h;done))<;>(try rw [he])<;>simp at h<;>simp [h]
 case build z ps=>simp only [Option.map_eq_some_iff,Prod.mk.injEq] at h;obtain ⟨l,hl,rfl,rfl⟩:=h;rw [hl];rfl
 case ext x k=>
  split at h
  ·rename_i e;simp only [Option.map_eq_some_iff,Prod.mk.injEq] at h;obtain ⟨l,hl,rfl,rfl⟩:=h
   try rw [e]
   simp [hl]
  ·simp at h
 case mkf f caps=>simp at h;simp [h]
 case len x=>split at h<;>simp_all
def Jh:EO→Bool
 | .store _ _ _=>true
 | _=>false
def ON:Bool→Bool→Bool
 | true,_=>true
 | false,b=>b
theorem Y9 (a b:Bool):ON a b=true↔a=true∨b=true:=by cases a<;>simp [ON]
def EJ (ld:List Bool) (af:List (List Nat)) (i:Nat):List Nat→Bool
 | []=>true
 | j::l=>BY (ON (DV ld j) (EN i (Cv af j))) (EJ ld af i l)
def H5 (ld:List Bool) (af:List (List Nat)) (i:Nat):List EOp→Nat→Bool
 | [],_=>true
 | o::l,j=>BY (ON (DV ld j) (match Jh o.o with | true=>EN i (Cv af j) | false=>true)) (H5 ld af i l (j+1))
theorem UC {ld:List Bool} {af:List (List Nat)} {i:Nat}:∀ {l:List Nat},EJ ld af i l=true↔∀j∈l,DV ld j=true∨i∈Cv af j
 | []=>by simp [EJ]
 | j::l=>by simp [EJ,AS,Y9,Lm,UC (l:=l)]
theorem cL {ld:List Bool} {af:List (List Nat)} {i:Nat}:∀ {l:List EOp} {Ac:Nat},H5 ld af i l Ac=true→∀j,j<l.length→DV ld (Ac+j)=true∨Jh (Af l j).o=false∨i∈Cv af (Ac+j)
 | [],_,_,j,h=>by simp at h
 | o::l,Ac,h,0,_=>by
   simp only [H5,AS,Y9] at h;rcases h.1 with h1 | h1
   ·exact .inl h1
   ·cases hs:Jh o.o
    ·exact .inr (.inl hs)
    ·rw [hs] at h1;exact .inr (.inr ((Lm _ _).1 h1))
 | o::l,Ac,h,j+1,hj=>by simp only [H5,AS] at h;have:=cL h.2 j (by simpa using hj);rw [show Ac+(j+1)=Ac+1+j from by omega];exact this
theorem lH {ld:List Bool} {af:List (List Nat)} {i:Nat}:∀ {l:List EOp} {Ac:Nat},(∀j,j<l.length→DV ld (Ac+j)=true∨Jh (Af l j).o=false∨i∈Cv af (Ac+j))→H5 ld af i l Ac=true
 | [],_,_=>rfl
 | o::l,Ac,h=>by
   simp only [H5,AS,Y9];refine ⟨?_,lH fun j hj=>?_⟩
   ·rcases h 0 (by simp) with h1 | h1 | h1
    ·exact .inl h1
    ·right;rw [show Jh o.o=false from h1]
    ·right;cases Jh o.o
     ·rfl
     ·exact (Lm _ _).2 h1
   ·have:=h (j+1) (by simpa using hj);rw [show Ac+1+j=Ac+(j+1) from by omega];exact this
theorem Z8:∀ {ld:List Bool} {i j:Nat},DV ld j=true→DV (Ay ld i) j=true
 | [],_,_,h=>h
 | _::_,0,0,_=>rfl
 | _::_,0,_+1,h=>h
 | _::_,_+1,0,h=>h
 | _::ld,i+1,j+1,h=>Z8 (ld:=ld) (i:=i) (j:=j) h
theorem oh (ld:List Bool) {i j:Nat} (h:i≠j):Ay (Ay ld i) j=Ay (Ay ld j) i:=by apply List.toArray_inj;rw [IW,IW,IW,IW,Array.setIfInBounds_comm _ _ h]
theorem jK (S:St) (bs ss) {d e:Option Nat} (v u:AV) (h:∀x,d=some x→e≠some x):
  (⟨(S.put d v).tm,bs,ss⟩:St).put e u=(⟨(S.put e u).tm,bs,ss⟩:St).put d v:=by
 cases d with
 | none=>cases e<;>rfl
 | some d=>cases e with
   | none=>rfl
   | some e=>
     have hne:d≠e:=fun x=>h d rfl (by rw [x]);simp only [St.put,St.mk.injEq,and_true];clear h;generalize S.tm=l;revert d e;induction l with
     | nil=>intro d e _;rfl
     | cons y l ih=>
       intro d e hne;cases d with
       | zero=>cases e with
         | zero=>omega
         | succ e=>rfl
       | succ d=>cases e with
         | zero=>rfl
         | succ e=>simp only [BC,List.cons.injEq,true_and];exact ih d e Om
theorem xy {P:Program} {all:Array Oper} {o:Oper} (h9:∀cs b,o.op≠ .select cs b) {a:Act} {w:World} {d:Tmp} {x:Value} (hl:d∉o.looksAt all) (hd:o.dst≠some d)
  {E:Act→World→Prop} {Q:Exit→Act→World→Prop} (h:o.wp P (a.put (some d) x) w (fun b w'=>E (b.put (some d) (a.tmps.getD d undef)) w') fun _ _ _=>False):o.wp P a w E Q:=by
 have h6:∀(ds:List Deferred) (y:Value),(((⟨a.tmps,ds⟩:Act).put (some d) x).put o.dst y).put (some d) (a.tmps.getD d undef)=(⟨a.tmps,ds⟩:Act).put o.dst y:=by
  intro ds y;have h1:((⟨a.tmps,ds⟩:Act).put (some d) x).put (some d) (a.tmps.getD d undef)=⟨a.tmps,ds⟩:=by
   obtain ⟨tm,df⟩:=a;simp only [Act.put,Act.mk.injEq,and_true];rw [Array.setIfInBounds_setIfInBounds];apply Array.ext';simp only [Array.toList_setIfInBounds];apply List.ext_getElem?;intro j;rw [List.getElem?_set];split
   ·rename_i e;subst e;split
    ·rename_i h;simp at h;simp [h]
    ·rename_i h;simp at h;simp [h]
   ·rfl
  cases hw:o.dst with
  | none=>exact h1
  | some e=>
    have hne:e≠d:=fun x=>hd (by rw [hw,x]);have h2:(((⟨a.tmps,ds⟩:Act).put (some d) x).put (some e) y).put (some d) (a.tmps.getD d undef)=(((⟨a.tmps,ds⟩:Act).put (some d) x).put (some d) (a.tmps.getD d undef)).put (some e) y:=by simp only [Act.put,Act.mk.injEq,and_true];rw [Array.setIfInBounds_comm _ _ hne]
    rw [h2,h1]
 unfold Oper.wp at h ⊢;rw [execOp_put (ops:=all) o h9 a (some d) x (fun e he=>by simp at he;subst he;exact hl)] at h;cases h8:(execOp a.eval o).run P w with
 | halt hh w'=>rw [h8] at h;cases hh<;>first | exact h.elim | exact h
 | ok n w'=>
   rw [h8] at h;cases n<;>first | exact h.elim | skip
   case value v=>have:=h6 a.defers v;simp only [Oper.upon] at h ⊢;rw [this] at h;exact h
   case skip=>have:=h6 a.defers undef;simp only [Oper.upon] at h ⊢;rw [this] at h;exact h
   case defer q=>have:=h6 (q::a.defers) undef;simp only [Oper.upon] at h ⊢;rw [←this];exact h
   case enter f args=>
    simp only [Oper.upon] at h ⊢;refine h.mono ?_;intro e w'' he;cases e with
    | returned v=>have:=h6 a.defers v;dsimp only at he ⊢;rw [this] at he;exact he
    | panicked ch=>exact he.elim
    | outgrown=>obtain ⟨_,_,he⟩:=he;exact he.elim
   case row r args=>simp only [Oper.upon] at h ⊢;refine h.mono ?_;intro v w'' he;have:=h6 a.defers v;rw [this] at he;exact he
theorem dA {o:Operand} {t:Nat} (h:cX o = .t t):o = .tmp t:=by cases o<;>simp [cX] at h;rw [h]
def Z1 (S S':St) (ro:Op):Prop:=∀o∈ro.operands,S'.x (cX o)=S.x (cX o)
theorem gN {S S':St}:∀ {l:List Operand},(∀o∈l,S'.x (cX o)=S.x (cX o))→B6 S' (l.map cX)=B6 S (l.map cX)
 | [],_=>rfl
 | o::l,h=>by simp only [List.map_cons,B6];rw [h o (by simp),gN (fun x hx=>h x (by simp [hx]))]
theorem aX {S S':St}:∀ {l:List (Nat×Nat×X)},(∀p∈l,S'.x p.2.2=S.x p.2.2)→Gd S' l=Gd S l
 | [],_=>rfl
 | (i,n,x)::l,h=>by simp only [Gd];rw [h (i,n,x) (by simp),aX (fun p hp=>h p (by simp [hp]))]
theorem uz {P:Program} {S S':St} {ro:Op} {v:AV} {q:Prop} (ha:Z1 S S' ro) (hr:Fa (cO P ro)=true→∀x n l,x∈ro.operands→CS S (S.x (cX x)) n=some l→AB l=true→CS S' (S.x (cX x)) n=some l)
  (h:rd S (cO P ro)=some (v,q)):rd S' (cO P ro)=some (v,q):=by
 cases ro with
 | move x=>simp only [cO,rd] at h ⊢;rw [ha x (by simp [Op.operands])];exact h
 | assign x=>simp only [cO,rd] at h ⊢;rw [ha x (by simp [Op.operands])];exact h
 | pick c a b=>simp only [cO,rd] at h ⊢;rw [ha c (by simp [Op.operands]),ha a (by simp [Op.operands]),ha b (by simp [Op.operands])];exact h
 | load T x=>
   have hx:=ha x (by simp [Op.operands]);simp only [cO] at h hr ⊢;split at h
   ·rename_i h1;simp only [h1] at hr ⊢;simp only [rd] at h ⊢;rw [hx];split at h
    ·rename_i l hl;split at h
     ·rename_i hp;rw [hr rfl x 1 l (by simp [Op.operands]) hl hp];simp only [hp];exact h
     ·simp at h
    ·simp at h
   ·rename_i h1;simp only [h1] at hr ⊢;simp only [rd] at h ⊢;rw [hx];split at h
    ·rename_i l hl;split at h
     ·rename_i hp;rw [hr rfl x _ l (by simp [Op.operands]) hl hp];simp only [hp];exact h
     ·simp at h
    ·simp at h
   ·simp [rd] at h
 | nilCheck x=>simp only [cO,rd] at h ⊢;rw [ha x (by simp [Op.operands])];exact h
 | binOp op T x y T2=>
   have hx:=ha x (by simp [Op.operands]);have hy:=ha y (by simp [Op.operands]);simp only [cO] at h ⊢;split at h
   ·rename_i h1;split at h
    ·rename_i h2;simp only [h2,if_true];simp only [rd] at h ⊢;rw [hx,hy];exact h
    ·simp [rd] at h
   ·split at h
    ·rename_i h3 h4;cases op<;>simp only [rd,reduceCtorEq] at h ⊢ <;>rw [hx,hy]<;>exact h
    ·simp [rd] at h
   ·simp only [rd] at h ⊢;rw [hx,hy];exact h
   ·cases op<;>simp only [rd,reduceCtorEq] at h ⊢ <;>rw [hx,hy]<;>exact h
   ·split at h
    ·split at h<;>simp [rd] at h
    ·simp [rd] at h
   ·simp [rd] at h
   ·simp [rd] at h
 | unOp op T x=>have hx:=ha x (by simp [Op.operands]);cases op<;>simp only [cO,rd,reduceCtorEq] at h ⊢;rw [hx];exact h
 | convert A B x=>
   have hx:=ha x (by simp [Op.operands]);simp only [cO] at h ⊢;split at h
   ·rename_i k l hA hB;cases l<;>simp only [rd] at h ⊢ <;>rw [hx]<;>exact h
   ·split at h<;>simp [rd] at h
   ·simp [rd] at h
 | fieldAddr T x f=>
   have hx:=ha x (by simp [Op.operands]);simp only [cO] at h ⊢;split at h
   ·rename_i h1;split at h
    ·rename_i h2;split at h
     ·rename_i h3;simp only [h3,if_true];simp only [rd] at h ⊢;rw [hx];exact h
     ·simp [rd] at h
    ·simp [rd] at h
   ·simp [rd] at h
 | build T ps=>
   have hps:∀p∈ps.toList,S'.x (cX p.2)=S.x (cX p.2):=fun p hp=>ha p.2 (by simp [Op.operands];exact ⟨p.1,by simpa using hp⟩);simp only [cO] at h ⊢;split at h
   ·rename_i h1 h2;split at h
    ·rename_i pl h8;split at h
     ·rename_i l hl;simp only [rd] at h ⊢;rw [aX (S:=S) (S':=S') (l:=l)]
      ·exact h
      ·intro p hp;obtain ⟨k,hk⟩:=List.mem_iff_getElem?.1 hp;obtain ⟨g1,g2⟩:=JR hl;have hlt:k<ps.toList.length:=by rw [←g1];exact (List.getElem?_eq_some_iff.1 hk).1
       obtain ⟨y,hy,hf⟩:=g2 k _ (List.getElem?_eq_getElem hlt);rw [hk] at hy;simp only [Option.some.injEq] at hy;subst hy;simp only [Option.map_eq_some_iff] at hf;obtain ⟨on,_,rfl⟩:=hf;exact hps _ (List.getElem_mem hlt)
     ·simp [rd] at h
    ·simp [rd] at h
   ·rename_i h1 h2;split at h
    ·rename_i h3;simp only [rd] at h ⊢;rw [aX (S:=S) (S':=S')]
     ·exact h
     ·intro p hp;rw [List.mem_map] at hp;obtain ⟨q,hq,rfl⟩:=hp;exact hps q hq
    ·simp [rd] at h
   ·simp [rd] at h
 | extract x k=>simp only [cO,rd] at h ⊢;rw [ha x (by simp [Op.operands])];exact h
 | makeFunc f fi cs=>
   simp only [cO] at h ⊢;split at h
   ·split at h
    ·rename_i h2;simp only [h2,if_true];simp only [rd] at h ⊢;rw [gN (fun o ho=>ha o (by simp [Op.operands];right;simpa using ho))];exact h
    ·simp [rd] at h
   ·simp [rd] at h
 | call ci=>
   obtain ⟨callee,cargs,argTypes⟩:=ci;have hx:∀o∈cargs.toList,S'.x (cX o)=S.x (cX o):=fun o ho=>ha o (by simp [Op.operands,Call.operands];right;simpa using ho);cases callee with
   | value o=>cases o<;>(simp only [cO] at h)<;>(try split at h)<;>simp [rd] at h
   | invoke _ _=>simp [cO,rd] at h
   | builtin b=>
     cases b<;>simp only [cO] at h ⊢ <;>(try (simp [rd] at h;done))<;>(try ((repeat' (split at h))<;>simp [rd] at h;done))
     ·split at h
      ·rename_i t0 x h0 h6;split at h
       ·rename_i h1;simp only [rd] at h ⊢;rw [hx x (by rw [h6];simp)];exact h
       ·rename_i h1;simp only [rd] at h ⊢;rw [hx x (by rw [h6];simp)];exact h
       ·simp [rd] at h
      ·simp [rd] at h
 | alloc T=>simp only [cO] at h;split at h<;>simp [rd] at h
 | box T x=>simp only [cO] at h;split at h<;>simp [rd] at h
 | buildSlice T n ps=>simp only [cO] at h;(repeat' (split at h))<;>simp [rd] at h
 | store T x y=>simp only [cO] at h;(repeat' (split at h))<;>simp [rd] at h
 | field T x f=>simp only [cO] at h;(repeat' (split at h))<;>simp [rd] at h
 | indexAddr T x f=>simp only [cO] at h;(repeat' (split at h))<;>simp [rd] at h
 | index T x i=>simp only [cO] at h;(repeat' (split at h))<;>simp [rd] at h
 | slice T x lo hi mx=>simp only [cO] at h;(repeat' (split at h))<;>simp [rd] at h
 | makeSlice T x y=>simp only [cO] at h;(repeat' (split at h))<;>simp [rd] at h
 | _=>simp [cO,rd] at h
theorem eX {M:Mem}:∀ {E:List (Nat×Nat×AV)} {J:List AV} {z:List Value} {l:List AV},AV.isL M J z→(∀p∈E,∀cs,p.2.2.cells=some cs→∃vs,AV.isL M cs vs)→FD J E=some l→∃r,AV.isL M l r
 | [],J,z,l,hz,_,h=>by simp [FD] at h;subst h;exact ⟨z,hz⟩
 | (o,n,x)::E,J,z,l,hz,hp,h=>by
   simp only [FD] at h;split at h
   ·rename_i cs h8;split at h
    ·split at h
     ·rename_i z' hz';obtain ⟨rfl,hle⟩:=Mq hz';obtain ⟨vs,h6⟩:=hp (o,n,x) (by simp) cs h8;have hl:=Dl h6;refine eX (z:=z.take o++vs++z.drop (o+cs.length)) (Dw (Dw (G3 o hz) h6) (G2 _ hz)) (fun p hq=>hp p (by simp [hq])) h
     ·simp at h
    ·simp at h
   ·simp at h
theorem fK {M:Mem} {l:List AV} {vs:List Value} (h:AV.isL M l vs) (h1:0<l.length):∃x,(AM l 0).is M x:=by
 cases l with
 | nil=>simp at h1
 | cons y l=>obtain ⟨v,_,_,hv,_⟩:=h;exact ⟨v,hv⟩
theorem uB {c:Ctx} {M:Mem} {S:St} {a:Act} {w:World} (E:RelT c M S a w) {ro:Op} {v:AV} {q:Prop} (h:rd S (cO c.P ro)=some (v,q)):∃x,v.is M x:=by
 have X0:∀x:X,(∃o:Operand,cX o=x)→∃u,(S.x x).is M u:=by rintro x ⟨o,rfl⟩;exact ⟨_,Au E o⟩
 cases ro with
 | move x=>simp only [cO,rd,Option.some.injEq,Prod.mk.injEq] at h;rw [←h.1];exact ⟨_,Au E x⟩
 | assign x=>simp only [cO,rd,Option.some.injEq,Prod.mk.injEq] at h;rw [←h.1];exact ⟨_,Au E x⟩
 | pick p x y=>
   simp only [cO,rd] at h;split at h<;>simp at h
   ·rw [←h.1];exact ⟨_,Au E x⟩
   ·rw [←h.1];exact ⟨_,Au E y⟩
 | load T x=>
   have hx:=Au E x;simp only [cO] at h;split at h<;>simp only [rd,reduceCtorEq] at h
   ·split at h
    ·rename_i l hl;split at h<;>simp at h;rw [←h.1];obtain ⟨_,_,vs,_,h2,h3,_⟩:=OT E hx hl;exact fK h2 (by have:=Dl h2;omega)
    ·simp at h
   ·split at h
    ·rename_i l hl;split at h<;>simp at h;rw [←h.1];obtain ⟨_,_,vs,_,h2,h3,_⟩:=OT E hx hl;exact ⟨_,vs,rfl,h2⟩
    ·simp at h
 | nilCheck x=>have hx:=Au E x;simp only [cO,rd] at h;split at h<;>rename_i hv<;>simp at h<;>(rw [←h.1];rw [hv] at hx;exact ⟨_,hx⟩)
 | binOp op T x y T2=>
   simp only [cO] at h;split at h
   ·split at h
    ·simp only [rd] at h;exact o5 h
    ·simp [rd] at h
   ·split at h
    ·split at h<;>simp only [rd,reduceCtorEq] at h
     all_goals
      split at h
      ·simp only [Option.map_eq_some_iff,Prod.mk.injEq] at h;obtain ⟨e,h1,rfl,_⟩:=h;exact ⟨_,rfl⟩
      ·simp at h
    ·simp [rd] at h
   ·simp only [rd,Option.map_eq_some_iff,Prod.mk.injEq] at h;obtain ⟨r,h1,rfl,_⟩:=h;exact xc h1
   ·split at h<;>simp only [rd,reduceCtorEq] at h
    all_goals
     split at h<;>simp only [Option.some.injEq,Prod.mk.injEq,reduceCtorEq] at h;rw [←h.1];exact ⟨_,rfl⟩
   ·split at h
    ·split at h<;>simp [rd] at h
    ·simp [rd] at h
   ·simp [rd] at h
   ·simp [rd] at h
 | unOp op T x=>cases op<;>simp only [cO,rd,reduceCtorEq] at h;split at h<;>simp at h<;>rw [←h.1]<;>exact ⟨_,rfl⟩
 | fieldAddr T x f=>
   have hx:=Au E x;simp only [cO] at h;split at h
   ·split at h
    ·split at h
     ·simp only [rd] at h;split at h<;>rename_i hv<;>simp at h<;>rw [←h.1]<;>rw [hv] at hx
      ·exact ⟨_,hx.1,rfl⟩
      ·obtain ⟨ad,vs,_,h2,h3⟩:=hx;exact ⟨_,ad,vs,rfl,h2,h3⟩
      ·obtain ⟨h0,g,n,cp,h1,_⟩:=hx;exact ⟨_,h0,g,n,cp,h1,rfl⟩
     ·simp [rd] at h
    ·simp [rd] at h
   ·simp [rd] at h
 | build T ps=>
   have Ap:∀ {z:List AV} {zs:List Value} {l:List (Nat×Nat×X)},AV.isL M z zs→(∀p∈l,∃o:Operand,cX o=p.2.2)→rd S (.build z l)=some (v,q)→∃x,v.is M x:=by
    intro z zs l hz hl h;simp only [rd,Option.map_eq_some_iff,Prod.mk.injEq] at h;obtain ⟨r,hr,rfl,_⟩:=h;obtain ⟨u,hu⟩:=eX hz (fun p hp cs hc=>by
     obtain ⟨k,hk⟩:=List.mem_iff_getElem?.1 hp;have hlt:k<l.length:=by rw [←XD S l];exact (List.getElem?_eq_some_iff.1 hk).1
     have h1:=XC S l k l[k].1 l[k].2.1 l[k].2.2 (List.getElem?_eq_getElem hlt);rw [hk] at h1;simp at h1;obtain ⟨o,ho⟩:=hl _ (List.getElem_mem hlt);subst h1;dsimp only at hc;rw [←ho] at hc;exact ⟨_,Uk E o cs hc⟩) hr
    exact ⟨_,u,rfl,hu⟩
   simp only [cO] at h;split at h
   ·rename_i hz;obtain ⟨_,u,_,_,_,rfl⟩:=LI hz;split at h
    ·split at h
     ·rename_i l hl;refine Ap (FU M _) ?_ h;intro p hp;obtain ⟨k,hk⟩:=List.mem_iff_getElem?.1 hp;obtain ⟨g1,g2⟩:=JR hl;have hlt:k<ps.toList.length:=by rw [←g1];exact (List.getElem?_eq_some_iff.1 hk).1
      obtain ⟨y,hy,hf⟩:=g2 k _ (List.getElem?_eq_getElem hlt);rw [hk] at hy;simp only [Option.some.injEq] at hy;subst hy;simp only [Option.map_eq_some_iff] at hf;obtain ⟨on,_,rfl⟩:=hf;exact ⟨_,rfl⟩
     ·simp [rd] at h
    ·simp [rd] at h
   ·rename_i hz;obtain ⟨_,u,_,_,_,rfl⟩:=LI hz;split at h
    ·refine Ap (FU M _) ?_ h;intro p hp;rw [List.mem_map] at hp;obtain ⟨q,_,rfl⟩:=hp;exact ⟨_,rfl⟩
    ·simp [rd] at h
   ·simp [rd] at h
 | extract x k=>
   have hx:=Au E x;simp only [cO,rd] at h;split at h
   ·rename_i l hv;simp only [Option.map_eq_some_iff,Prod.mk.injEq] at h;obtain ⟨r,hr,rfl,_⟩:=h;obtain ⟨rfl,hle⟩:=Kr hr;rw [hv] at hx;obtain ⟨vs,_,h2⟩:=hx;exact fK (G3 1 (G2 k h2)) (by simp;omega)
   ·simp at h
 | makeFunc f fi cs=>
   simp only [cO] at h;split at h
   ·split at h
    ·simp only [rd,Option.some.injEq,Prod.mk.injEq] at h;rw [←h.1];exact ⟨_,_,rfl,Ge E cs.toList⟩
    ·simp [rd] at h
   ·simp [rd] at h
 | call ci=>
   obtain ⟨callee,cargs,argTypes⟩:=ci;cases callee with
   | value o=>cases o<;>(simp only [cO] at h)<;>(try split at h)<;>simp [rd] at h
   | invoke _ _=>simp [cO,rd] at h
   | builtin b=>
     cases b<;>simp only [cO] at h<;>(try (simp [rd] at h;done))<;>(try ((repeat' (split at h))<;>simp [rd] at h;done))
     ·split at h
      ·split at h
       ·simp only [rd] at h;split at h<;>simp at h<;>rw [←h.1]<;>exact ⟨_,rfl⟩
       ·simp only [rd] at h;split at h<;>simp at h;rw [←h.1];exact ⟨_,rfl⟩
       ·simp [rd] at h
      ·simp [rd] at h
 | convert A B x=>
   simp only [cO] at h;split at h
   ·rename_i k l hA hB;cases l<;>simp only [rd] at h<;>split at h<;>simp only [Option.some.injEq,Prod.mk.injEq,reduceCtorEq] at h<;>rw [←h.1]<;>first | exact ⟨_,Tn _ _⟩ | exact ⟨_,rfl⟩
   ·split at h<;>simp [rd] at h
   ·simp [rd] at h
 | alloc T=>simp only [cO] at h;split at h<;>simp [rd] at h
 | box T x=>simp only [cO] at h;split at h<;>simp [rd] at h
 | buildSlice T n ps=>simp only [cO] at h;(repeat' (split at h))<;>simp [rd] at h
 | store T x y=>simp only [cO] at h;(repeat' (split at h))<;>simp [rd] at h
 | field T x f=>simp only [cO] at h;(repeat' (split at h))<;>simp [rd] at h
 | indexAddr T x f=>simp only [cO] at h;(repeat' (split at h))<;>simp [rd] at h
 | index T x i=>simp only [cO] at h;(repeat' (split at h))<;>simp [rd] at h
 | slice T x lo hi mx=>simp only [cO] at h;(repeat' (split at h))<;>simp [rd] at h
 | makeSlice T x y=>simp only [cO] at h;(repeat' (split at h))<;>simp [rd] at h
 | _=>simp [cO,rd] at h
theorem ZP {S:St} {d:Option Nat} {v:AV} {t:Nat} (h:d≠some t):AM (S.put d v).tm t=AM S.tm t:=by
 cases d with
 | none=>rfl
 | some d=>simp only [St.put,Fc];rw [if_neg (fun e=>h (by rw [e.1]))]
theorem m7 {S:St} {d:Option Nat} {v:AV} {x:X} (h:∀t,x = .t t→d≠some t):(S.put d v).x x=S.x x:=by
 cases x with
 | t n=>exact ZP (h n rfl)
 | c a=>rfl
 | bad=>rfl
theorem bQ (S:St) (d:Option Nat) (v:AV):(S.put d v).bs=S.bs∧(S.put d v).ss=S.ss:=by cases d<;>exact ⟨rfl,rfl⟩
theorem Lw {S S':St} (h:S'.bs=S.bs) (x:AV) (n:Nat):CS S' x n=CS S x n:=by unfold CS;rw [h]
theorem jy {all:Array Oper} {ro:Oper} {t:Tmp} (h:Operand.tmp t∈ro.op.operands):t∈ro.looksAt all:=List.mem_append_left _ (List.mem_filterMap.2 ⟨.tmp t,by simpa using h,rfl⟩)
theorem fI {P:Program} {all:Array Oper} {ro:Oper} {o:EOp} (hc:AO P all ro=some o) {t:Nat} {f:Bool} (hg:o.g=some (t,f)):t∈ro.looksAt all:=by
 unfold AO at hc;cases h:ro.guard with
 | none=>rw [h] at hc;simp at hc;subst hc;simp at hg
 | some jf=>
   obtain ⟨j,f'⟩:=jf;rw [h] at hc;dsimp only at hc;split at hc
   ·rename_i t' ht;simp at hc;subst hc;simp at hg;obtain ⟨rfl,rfl⟩:=hg;exact List.mem_append_right _ (by simp [h,ht])
   ·simp at hc
theorem nO {all:Array Oper} {ro:Oper} {S:St} {d:Option Nat} {v:AV} (h:∀t,d=some t→t∉ro.looksAt all):Z1 S (S.put d v) ro.op:=by intro o ho;refine m7 fun t ht hd=>?_;have:=dA ht;subst this;exact h t hd (jy ho)
theorem fy {S S':St} {g:Option (Nat×Bool)} (h:∀t f,g=some (t,f)→AM S'.tm t=AM S.tm t):gm S' g=gm S g∧Ej S' g=Ej S g:=by
 cases g with
 | none=>exact ⟨rfl,rfl⟩
 | some tf=>obtain ⟨t,f⟩:=tf;simp only [gm,Ej,GG,h t f rfl,and_self]
theorem tp {all:Array Oper} {i j:Nat} {x y:Oper} (hi:all[i]?=some x) (hj:all[j]?=some y) (hne:j≠i) (h:j∉Cv (D7 all) i):x.apart all y=true:=by
 have hi':i<all.size:=(Array.getElem?_eq_some_iff.1 hi).1;have hj':j<all.size:=(Array.getElem?_eq_some_iff.1 hj).1;rw [i6,D7,List.getD_eq_getElem?_getD,List.getElem?_map,List.getElem?_range hi'] at h;simp only [Option.map_some,Option.getD_some,List.mem_filter,List.mem_range,hj',true_and,hi,hj] at h;cases hh:x.apart all y
 ·exact absurd (by simp [hh,hne.symm]) h
 ·rfl
theorem CB (S:St) (o:EO):keeps S S o:=fun _ _ _ _ h _ _=>h
theorem dR {ld:List Bool} {i:Nat} (h:DV ld i=false):CX ld i=false:=by rw [Z9] at h;rw [Ui];exact getD_both h
theorem jP {all:Array Oper} {ld:List Bool} {j:Nat} (h:j∈Bx ld (Bu all) 0):DV ld j=false∧(∀i∈Cv (Bu all) j,CX ld i=true)∧∃ro,all[j]?=some ro:=by obtain ⟨_,ro,h6,_⟩:=mem_ready.1 (bS h);rw [H3] at h;obtain ⟨_,w,h1,h2,h3⟩:=h;refine ⟨h2,?_,ro,h6⟩;rw [IS] at h3;rw [i6,List.getD_eq_getElem?_getD];simp only [Nat.sub_zero] at h1;rw [h1];exact h3
theorem jM {all:Array Oper} {ld:List Bool} {i j:Nat} (h:j∈Bx ld (Bu all) 0) (hne:j≠i):j∈Bx (Ay ld i) (Bu all) 0:=by
 rw [H3] at h ⊢;obtain ⟨h0,w,h1,h2,h3⟩:=h;refine ⟨h0,w,h1,?_,?_⟩
 ·have:=ready_mono (bS (H3 _ _ _ _ |>.2 ⟨h0,w,h1,h2,h3⟩)) hne;rw [←IW] at this;have:=(H3 _ _ _ _).1 (Yf.1 this);obtain ⟨_,_,_,h4,_⟩:=this;exact h4
 ·rw [IS] at h3 ⊢;exact fun k hk=>Za (h3 k hk)
theorem oE {P:Program} {op:Op} {n t:Nat} {v:X} (h:cO P op = .store n (.t t) v):Operand.tmp t∈op.operands:=by
 cases op
 case store T x y=>
  simp only [cO] at h;split at h
  ·simp only [EO.store.injEq] at h;have:=dA h.2.1;subst this;simp [Op.operands]
  ·simp at h
 all_goals (simp only [cO] at h;(repeat' (split at h))<;>simp at h)
def uq (S:St) (o:EO) (v:AV):Prop:=Fa o=false∧∃xs:List X,(∀(P:Program) (op:Op),cO P op=o→∀x∈xs,∃p,p∈op.operands∧cX p=x)∧
 ∀S':St,(∀x∈xs,S'.x x=S.x x)→∀c:Ctx,B3 c S' o v S'∧∀M a w op,cO c.P op=o→RelT c M S' a w→∃u,v.is M u
def tk (S:St) (o:EOp) (v:AV) (q:Prop):Prop:=(gm S o.g∧rd S o.o=some (v,q))∨(Ej S o.g∧v = .un)∨
 (gm S o.g∧∃n x y m rows j row,o.o = .idx n x y∧S.x x = .sl m rows∧S.x y = .iv j∧m=n∧0≤j∧rows[j.toNat]?=some row∧v = .elt row 0)∨(gm S o.g∧uq S o.o v)
theorem qq {M:Mem} {m:Nat} {rows:List (List AV)} {u:Value} (h:AV.is M (.sl m rows) u) {k:Nat} {row:List AV} (hr:rows[k]?=some row):∃x,AV.is M (.elt row 0) x:=by
 obtain ⟨ad,cp,g1,g2,g3⟩:=h;have hlt:=(List.getElem?_eq_some_iff.1 hr).1;obtain ⟨ad,vss,rfl,g4,g5⟩:=g3 (by intro e;subst e;simp at hlt);obtain ⟨vs,q1,q2,q3,q4⟩:=UL g4 _ row hr;obtain ⟨s1,s2,cs,T',fr,s3,s4⟩:=g5;refine ⟨_,⟨ad.block,ad.off+k*m,none⟩,vs,rfl,q3,rfl,?_,cs,T',fr,s3,?_⟩
 ·intro v hv;obtain ⟨t,ht⟩:=List.mem_iff_getElem?.1 hv;exact s2 v (List.mem_iff_getElem?.2 ⟨_,q4 t v ht⟩)
 ·intro t v ht;have:=s4 _ v (q4 t v ht);dsimp only;rw [show ad.off+k*m+t=ad.off+(k*m+t) from by omega];exact this
theorem LM {c:Ctx} {all:Array Oper} {ops:List EOp} (hA:all.toList.mapM (AO c.P all)=some ops) (hG:Region.noSelect all=true) {Φ:St→Prop} (i:Nat) {v:AV} {q:Prop} (hq:q):
  ∀(m:Nat) (ld:List Bool) (S:St),i∈Bx ld (Bu all) 0→tk S (Af ops i) v q→EJ ld (Bu all) i (Cv (D7 all) i)=true→
   (Fa (Af ops i).o=true→H5 ld (Bu all) i ops 0=true)→G c all ops (Bu all) Φ m (Ay ld i) (S.put (Af ops i).d v)→G c all ops (Bu all) Φ (m+1) ld S
 | m,ld,S,hi,hg,hf,hR,h=>by
   obtain ⟨hib,hia,ri,hD⟩:=jP hi;have hS:=OM hA hD;obtain ⟨hI,h8⟩:=LX hS;refine ⟨fun h0=>by rw [h0] at hi;simp at hi,fun j hj=>?_⟩;by_cases hE:j=i
   ·subst hE;rcases hg with ⟨hg,hr⟩ | ⟨hg,rfl⟩ | ⟨hg,n,x,y,m',rows,jj,row,h1,h2,h3,h4,h5,h6,rfl⟩ | ⟨hg,_,xs,_,hp⟩
    case inr.inl=>exact .inl ⟨hg,h⟩
    case inr.inr.inr=>
     refine .inr ⟨hg,v,S,fun ro hw=>?_,rfl,.inl (CB _ _),h⟩;have:ro=ri:=by rw [hD] at hw;simpa using hw.symm
     subst this;exact (hp S (fun _ _=>rfl) c).1 ro h8
    case inr.inr.inl=>
     refine .inr ⟨hg,.elt row 0,S,fun ro hw=>?_,rfl,.inl (CB _ _),h⟩;have:ro=ri:=by rw [hD] at hw;simpa using hw.symm
     subst this;exact cy row h2 h3 h4 h5 h6 ro (by rw [h8];exact h1)
    refine .inr ⟨hg,v,S,fun ro hw M a w hT next Q hn=>?_,rfl,.inl (CB _ _),h⟩;have:ro=ri:=by rw [hD] at hw;simpa using hw.symm
    subst this;exact Yv (uA hr) hq ro h8 M a w hT next Q hn
   ·obtain ⟨hL,hja,rj,hB⟩:=jP hj;have hU:=OM hA hB;obtain ⟨hN,hoj⟩:=LX hU;have hO:i∉Cv (Bu all) j:=fun e=>by have h1:=hja i e;rw [dR hib] at h1;simp at h1
    have hap:ri.apart all rj=true:=by
     refine tp hD hB hE fun e=>?_;rcases (UC.1 hf) j e with h1 | h1
     ·rw [hL] at h1;simp at h1
     ·exact hO h1
    obtain ⟨p1,p2,ap2⟩:=Oper.apart_spec hap;have ap1:∀d,ri.dst=some d→d∉rj.looksAt all∧rj.dst≠some d:=fun d hd=>⟨p1 d hd,p2 d hd⟩
    have hP:=jM hj hE;have hV:=jM hi (Ne.symm hE);have hJ:=oh ld (Ne.symm hE);have hX:j<ops.length:=by obtain ⟨h1,h2⟩:=JR hA;rw [h1];simpa using (Array.getElem?_eq_some_iff.1 hB).1
    have hf':EJ (Ay ld j) (Bu all) i (Cv (D7 all) i)=true:=UC.2 fun k hk=>(UC.1 hf k hk).imp Z8 id;have hst':Fa (Af ops i).o=true→H5 (Ay ld j) (Bu all) i ops 0=true:=fun hl=>lH fun k hk=>by
     rcases cL (hR hl) k hk with h1 | h1 | h1
     ·exact .inl (Z8 h1)
     ·exact .inr (.inl h1)
     ·exact .inr (.inr h1)
    have hW:gm (S.put (Af ops i).d v) (Af ops j).g=gm S (Af ops j).g∧Ej (S.put (Af ops i).d v) (Af ops j).g=Ej S (Af ops j).g:=fy fun t f ht=>ZP fun e=>(ap1 t (by rw [hI];exact e)).1 (fI hU ht);have next_ok:∀(u:AV) (bs ss),(∀j' off n l,CS S (.ptr j' off) n=some l→AB l=true→Fa (Af ops i).o=true→CS ⟨S.tm,bs,ss⟩ (.ptr j' off) n=some l)→
     tk ((⟨S.tm,bs,ss⟩:St).put (Af ops j).d u) (Af ops i) v q:=by
     intro u bs ss hY;have e1:Z1 S ((⟨S.tm,bs,ss⟩:St).put (Af ops j).d u) ri.op:=by
      intro o ho;have:(⟨S.tm,bs,ss⟩:St).x (cX o)=S.x (cX o):=by cases cX o<;>rfl
      rw [←this];exact nO (all:=all) (ro:=ri) (S:=⟨S.tm,bs,ss⟩) (fun t ht=>ap2 t (by rw [hN];exact ht)) o ho
     have e2:=fy (S:=S) (S':=(⟨S.tm,bs,ss⟩:St).put (Af ops j).d u) (g:=(Af ops i).g) fun t f ht=>ZP (S:=⟨S.tm,bs,ss⟩) fun e=>ap2 t (by rw [hN];exact e) (fI hS ht);rcases hg with ⟨hg,hr⟩ | ⟨hg,hv⟩ | ⟨hg,n,x,y,m',rows,jj,row,h1,h2,h3,h4,h5,h6,hv⟩ | ⟨hg,hl,xs,hx,hp⟩
     rotate_left 3
     ·refine .inr (.inr (.inr ⟨by rw [e2.1];exact hg,hl,xs,hx,fun S' hS'=>hp S' fun x hm=>?_⟩));rw [hS' x hm];obtain ⟨p,p1,p2⟩:=hx c.P ri.op h8 x hm;rw [←p2];exact e1 p p1
     ·refine .inl ⟨by rw [e2.1];exact hg,?_⟩;rw [←h8] at hr ⊢;refine uz e1 (fun hl x n l _ hC hp=>?_) hr;have hb:=(bQ (⟨S.tm,bs,ss⟩:St) (Af ops j).d u).1;rw [Lw hb];cases hx:S.x (cX x) with
      | ptr j' off=>rw [hx] at hC;exact hY j' off n l hC hp (by rw [←h8];exact hl)
      | elt row off=>rw [hx] at hC;exact hC
      | _=>rw [hx] at hC;simp [CS] at hC
     ·exact .inr (.inl ⟨by rw [e2.2];exact hg,hv⟩)
     ·refine .inr (.inr (.inl ⟨by rw [e2.1];exact hg,n,x,y,m',rows,jj,row,h1,?_,?_,h4,h5,h6,hv⟩))
      ·rw [←h8] at h1;obtain ⟨T,y1,z1,e,hK,_,_,hy,hz⟩:=Pg h1;rw [←hy,e1 y1 (by rw [hK];simp [Op.operands]),hy];exact h2
      ·rw [←h8] at h1;obtain ⟨T,y1,z1,e,hK,_,_,hy,hz⟩:=Pg h1;rw [←hz,e1 z1 (by rw [hK];simp [Op.operands]),hz];exact h3
    have hQ:∀x,(Af ops i).d=some x→(Af ops j).d≠some x:=fun x hx=>by have:=(ap1 x (by rw [hI];exact hx)).2;rw [hN] at this;exact this
    cases m with
    | zero=>have:=h.1;rw [this] at hP;simp at hP
    | succ m=>
      rcases h.2 j hP with ⟨g1,g2⟩ | ⟨g1,u,S1,g2,g3,g4,g5⟩
      ·refine .inl ⟨by rw [←hW.2];exact g1,?_⟩;have n1:=next_ok .un S.bs S.ss (fun _ _ _ _ h _ _=>h);refine LM hA hG i hq m (Ay ld j) _ hV n1 hf' hst' ?_;rw [←hJ];have e:=jK S S.bs S.ss (d:=(Af ops i).d) (e:=(Af ops j).d) v .un hQ;have e2:(⟨(S.put (Af ops i).d v).tm,S.bs,S.ss⟩:St)=S.put (Af ops i).d v:=by cases (Af ops i).d<;>rfl
       have e3:(⟨(S.put (Af ops j).d .un).tm,S.bs,S.ss⟩:St)=S.put (Af ops j).d .un:=by cases (Af ops j).d<;>rfl
       rw [e2,e3] at e;rw [←e];exact g2
      ·refine .inr ⟨by rw [←hW.1];exact g1,u,⟨S.tm,S1.bs,S1.ss⟩,fun ro hw M a w hT next Q hn=>?_,rfl,?_,?_⟩
       ·have:ro=rj:=by rw [hB] at hw;simpa using hw.symm
        subst this;cases hd:(Af ops i).d with
        | none=>rw [hd] at g2;exact g2 ro hB M a w hT next Q hn
        | some d=>
          rw [hd] at g2;obtain ⟨x,hx⟩:∃x,v.is M x:=by
           rcases hg with ⟨_,hr⟩ | ⟨_,rfl⟩ | ⟨_,n,x,y,m',rows,jj,row,h1,h2,h3,h4,h5,h6,rfl⟩ | ⟨_,_,xs,_,hp⟩
           rotate_left 3
           ·exact (hp S (fun _ _=>rfl) c).2 M a w _ h8 hT
           ·exact uB hT (by rw [h8];exact hr)
           ·exact ⟨undef,rfl⟩
           ·rw [←h8] at h1;obtain ⟨T,y1,z1,e,hK,_,_,hy,hz⟩:=Pg h1;have:=Au hT y1;rw [hy,h2] at this;exact qq this h6
          have hT':RelT c M (S.put (some d) v) (a.put (some d) x) w:=hT.put (some d) (.refl M) hT.st hx;have ap:=ap1 d (by rw [hI];exact hd);refine xy (all:=all) (fun cs b=>Region.noSelect_spec hG j ro cs b hB) ap.1 ap.2 (x:=x) (g2 ro hB M _ w hT' _ _ fun M' w' y h1 h2 h3=>?_);have hb:=hn M' w' y h1 h2 h3;have Ap:((a.put (some d) x).put ro.dst y).put (some d) (a.tmps.getD d undef)=a.put ro.dst y:=by
           have h1:(a.put (some d) x).put (some d) (a.tmps.getD d undef)=a:=by
            obtain ⟨tm,df⟩:=a;simp only [Act.put,Act.mk.injEq,and_true];rw [Array.setIfInBounds_setIfInBounds];apply Array.ext';simp only [Array.toList_setIfInBounds];apply List.ext_getElem?;intro j;rw [List.getElem?_set];split
            ·rename_i e;subst e;split
             ·rename_i h;simp at h;simp [h]
             ·rename_i h;simp at h;simp [h]
            ·rfl
           cases hZ:ro.dst with
           | none=>exact h1
           | some e=>
             have hne:e≠d:=fun x=>ap.2 (by rw [hZ,x]);have h2:((a.put (some d) x).put (some e) y).put (some d) (a.tmps.getD d undef)=((a.put (some d) x).put (some d) (a.tmps.getD d undef)).put (some e) y:=by simp only [Act.put,Act.mk.injEq,and_true];rw [Array.setIfInBounds_comm _ _ hne]
             rw [h2,h1]
          rw [Ap];exact hb
       ·refine g4.imp (fun g4=>?_) id;intro j' off n l h1 h2 h3;have hb:=(bQ S (Af ops i).d v).1;have:=g4 j' off n l (by rw [Lw hb];exact h1) h2 (fun n a' v' j2 off' ho hx=>h3 n a' v' j2 off' ho (by
         rw [m7] at hx
         ·exact hx
         ·intro t ht e;subst ht;have:Operand.tmp t∈rj.op.operands:=by rw [←hoj] at ho;exact oE ho
          exact (ap1 t (by rw [hI];exact e)).1 (jy this)))
        rw [Lw (S:=S1) (S':=⟨S.tm,S1.bs,S1.ss⟩) rfl];exact this
       ·have n1:=next_ok u S1.bs S1.ss (fun j' off n l h1 h2 hl=>by
         have hb:=(bQ S (Af ops i).d v).1;rcases g4 with g4 | g4
         rotate_left 1
         ·exfalso;rcases g4 i hl with e | e
          ·exact hO e
          ·have h9:=hia j e;rw [dR hL] at h9;simp at h9
         have:=g4 j' off n l (by rw [Lw hb];exact h1) h2 (fun n a' v' j2 off' ho _=>by
          exfalso;rcases cL (hR hl) j hX with h1 | h1 | h1
          ·rw [Nat.zero_add,hL] at h1;simp at h1
          ·rw [ho] at h1;simp [Jh] at h1
          ·rw [Nat.zero_add] at h1;exact hO h1)
         rw [Lw (S:=S1) (S':=⟨S.tm,S1.bs,S1.ss⟩) rfl];exact this)
        refine LM hA hG i hq m (Ay ld j) _ hV n1 hf' hst' ?_;rw [←hJ];have e:=jK S S1.bs S1.ss (d:=(Af ops i).d) (e:=(Af ops j).d) v u hQ;have e2:(⟨(S.put (Af ops i).d v).tm,S1.bs,S1.ss⟩:St)=S1:=by rw [←g3]
        have e3:(⟨(S.put (Af ops j).d u).tm,S1.bs,S1.ss⟩:St)=(⟨S.tm,S1.bs,S1.ss⟩:St).put (Af ops j).d u:=by cases (Af ops j).d<;>rfl
        rw [e2,e3] at e;rw [←e];exact g5
def Jb (S:St):Option (Nat×Bool)→Option Bool
 | none=>some true
 | some (t,f)=>match GG S.tm t,f with
   | .tt,true=>some true
   | .ff,false=>some true
   | .tt,false=>some false
   | .ff,true=>some false
   | .un,_=>some false
   | _,_=>none
theorem ZA {S:St} {g:Option (Nat×Bool)} (h:Jb S g=some true):gm S g:=by
 cases g with
 | none=>trivial
 | some tf=>
   obtain ⟨t,f⟩:=tf;simp only [Jb] at h;split at h<;>simp at h
   ·rename_i e;simp only [gm,e]
   ·rename_i e;simp only [gm,e]
theorem rK {S:St} {g:Option (Nat×Bool)} (h:Jb S g=some false):Ej S g:=by
 cases g with
 | none=>simp [Jb] at h
 | some tf=>
   obtain ⟨t,f⟩:=tf;simp only [Jb] at h;split at h<;>simp at h
   ·rename_i e;simp only [Ej,e]
   ·rename_i e;simp only [Ej,e]
   ·rename_i e;simp only [Ej,e]
def YF (S:St) (o:EOp):Option (AV×Prop):=
 match Jb S o.g with
 | some true=>rd S o.o
 | some false=>some (.un,True)
 | none=>none
theorem xo {S:St} {o:EOp} {v:AV} {q:Prop} (h:YF S o=some (v,q)):tk S o v q:=by
 unfold YF at h;split at h
 ·rename_i e;exact .inl ⟨ZA e,h⟩
 ·rename_i e;simp at h;exact .inr (.inl ⟨rK e,h.1.symm⟩)
 ·simp at h
def Km (ops:List EOp) (af nap:List (List Nat)) (ld:List Bool) (S:St):List Nat→Option (Nat×AV×Prop)
 | []=>none
 | i::l=>match YF S (Af ops i) with
   | some r=>match BY (EJ ld af i (Cv nap i)) (match Fa (Af ops i).o with | true=>H5 ld af i ops 0 | false=>true) with
     | true=>some (i,r.1,r.2)
     | false=>Km ops af nap ld S l
   | none=>Km ops af nap ld S l
def Ct (ops:List EOp) (af nap:List (List Nat)):Nat→List Bool→St→Prop→Nat×List Bool×St×Prop
 | 0,ld,S,p=>(0,ld,S,p)
 | m+1,ld,S,p=>match Km ops af nap ld S (Bx ld af 0) with
   | some r=>Ct ops af nap m (Ay ld r.1) (S.put (Af ops r.1).d r.2.1) (p∧r.2.2)
   | none=>(m+1,ld,S,p)
theorem UG {ops:List EOp} {af nap:List (List Nat)} {ld:List Bool} {S:St}:∀ {l:List Nat} {i:Nat} {v:AV} {q:Prop},Km ops af nap ld S l=some (i,v,q)→
  i∈l∧tk S (Af ops i) v q∧EJ ld af i (Cv nap i)=true∧(Fa (Af ops i).o=true→H5 ld af i ops 0=true)
 | [],i,v,q,h=>by simp [Km] at h
 | j::l,i,v,q,h=>by
   simp only [Km] at h;split at h
   ·rename_i r hr;split at h
    ·rename_i hc;rw [AS] at hc;simp only [Option.some.injEq,Prod.mk.injEq] at h;obtain ⟨rfl,rfl,rfl⟩:=h;refine ⟨by simp,xo hr,hc.1,fun hl=>?_⟩;have:=hc.2;rw [hl] at this;exact this
    ·obtain ⟨h1,h2⟩:=UG h;exact ⟨by simp [h1],h2⟩
   ·obtain ⟨h1,h2⟩:=UG h;exact ⟨by simp [h1],h2⟩
theorem di {c:Ctx} {all:Array Oper} {ops:List EOp} (h6:all.toList.mapM (AO c.P all)=some ops) (h8:Region.noSelect all=true) {Φ:St→Prop}:
  ∀(m:Nat) (ld:List Bool) (S:St) (p:Prop),(Ct ops (Bu all) (D7 all) m ld S p).2.2.2→
   G c all ops (Bu all) Φ (Ct ops (Bu all) (D7 all) m ld S p).1 (Ct ops (Bu all) (D7 all) m ld S p).2.1 (Ct ops (Bu all) (D7 all) m ld S p).2.2.1→p∧G c all ops (Bu all) Φ m ld S
 | 0,ld,S,p,hp,h=>⟨hp,h⟩
 | m+1,ld,S,p,hp,h=>by
   simp only [Ct] at hp h;split at hp
   ·rename_i r hr;rw [hr] at h;obtain ⟨i,v,q⟩:=r;obtain ⟨h1,h2⟩:=di h6 h8 m _ _ _ hp h;obtain ⟨g1,g2,g3,g4⟩:=UG hr;exact ⟨h1.1,LM h6 h8 i h1.2 m ld S g1 g2 g3 g4 h2⟩
   ·rename_i hr;rw [hr] at h;exact ⟨hp,h⟩
theorem dg {c:Ctx} {all:Array Oper} {ops:List EOp} {af:List (List Nat)} {Φ:St→Prop} {ld:List Bool} {S:St} (hr:Bx ld af 0=[]) (h:Φ S):∀m,G c all ops af Φ m ld S
 | 0=>⟨hr,h⟩
 | _+1=>⟨fun _=>h,fun i hi=>by rw [hr] at hi;simp at hi⟩
theorem mA {c:Ctx} {all:Array Oper} {ops:List EOp} {af nap:List (List Nat)} (h6:all.toList.mapM (AO c.P all)=some ops) (h8:Region.noSelect all=true) (hw:af=Bu all) (h9:nap=D7 all) {Φ:St→Prop}
  {m:Nat} {ld:List Bool} {S:St} (h:(Ct ops af nap m ld S True).2.2.2∧G c all ops af Φ (Ct ops af nap m ld S True).1 (Ct ops af nap m ld S True).2.1 (Ct ops af nap m ld S True).2.2.1):G c all ops af Φ m ld S:=by
 subst hw;subst h9;exact (di h6 h8 _ _ _ True h.1 h.2).2
def GO (c:Ctx) (all:Array Oper) (ops:List EOp) (af:List (List Nat)) (Φ:St→Prop) (m:Nat) (ld:List Bool) (S:St) (i:Nat):Prop:=
 (Ej S (Af ops i).g∧G c all ops af Φ m (Ay ld i) (S.put (Af ops i).d .un))∨
 (gm S (Af ops i).g∧∃v S1,(∀ro,all[i]?=some ro→dm c S ro v S1)∧S1.tm=S.tm∧(keeps S S1 (Af ops i).o∨UA ops af i)∧G c all ops af Φ m (Ay ld i) (S1.put (Af ops i).d v))
section
variable {c:Ctx} {all:Array Oper} {ops:List EOp} {af:List (List Nat)} {Φ:St→Prop} {m:Nat} {ld:List Bool} {S:St}
theorem Ak (i:Nat) (hr:Bx ld af 0=[i]) (h:GO c all ops af Φ m ld S i):G c all ops af Φ (m+1) ld S:=⟨fun h0=>by rw [h0] at hr;simp at hr,fun j hj=>by rw [hr] at hj;simp at hj;subst hj;exact h⟩
theorem Ao (i j:Nat) (hr:Bx ld af 0=[i,j]) (h:GO c all ops af Φ m ld S i) (h2:GO c all ops af Φ m ld S j):G c all ops af Φ (m+1) ld S:=⟨fun h0=>by rw [h0] at hr;simp at hr,fun k hk=>by rw [hr] at hk;simp at hk;rcases hk with rfl | rfl;exact h;exact h2⟩
theorem Eo (i j k:Nat) (hr:Bx ld af 0=[i,j,k]) (h:GO c all ops af Φ m ld S i) (h2:GO c all ops af Φ m ld S j) (h3:GO c all ops af Φ m ld S k):G c all ops af Φ (m+1) ld S:=⟨fun h0=>by rw [h0] at hr;simp at hr,fun l hl=>by rw [hr] at hl;simp at hl;rcases hl with rfl | rfl | rfl;exact h;exact h2;exact h3⟩
theorem Bz (h6:all.toList.mapM (AO c.P all)=some ops) {i:Nat} {v:AV} {S1:St} (hg:gm S (Af ops i).g) (hs:B3 c S (Af ops i).o v S1) (h8:S1.tm=S.tm) (hk:keeps S S1 (Af ops i).o)
  (h:G c all ops af Φ m (Ay ld i) (S1.put (Af ops i).d v)):GO c all ops af Φ m ld S i:=
 .inr ⟨hg,v,S1,fun ro h9=>hs ro (LX (OM h6 h9)).2,h8,.inl hk,h⟩
theorem de (h6:all.toList.mapM (AO c.P all)=some ops) {i:Nat} {v:AV} {S1:St} (hg:gm S (Af ops i).g) (hs:B3 c S (Af ops i).o v S1) (h8:S1.tm=S.tm) (hk:UA ops af i)
  (h:G c all ops af Φ m (Ay ld i) (S1.put (Af ops i).d v)):GO c all ops af Φ m ld S i:=
 .inr ⟨hg,v,S1,fun ro h9=>hs ro (LX (OM h6 h9)).2,h8,.inr hk,h⟩
theorem k9 (S:St) (B:Option Blk) (tm ss) (j off n:Nat) (l:List AV) (h:CS S (.ptr j off) n=some l):CS ⟨tm,S.bs++[B],ss⟩ (.ptr j off) n=some l:=by
 simp only [CS] at h ⊢;split at h
 ·rename_i C hC;have hlt:=CD hC;rw [Lp,if_neg Om,hC];exact h
 ·simp at h
theorem Ux {o:EO} {v:AV} {S1:St} {q:Prop} (h:ev S o=some (v,S1,q)):S1.tm=S.tm∧keeps S S1 o:=by
 have same:S1=S→S1.tm=S.tm∧keeps S S1 o:=fun e=>by subst e;exact ⟨rfl,CB _ _⟩
 cases o<;>simp only [ev,reduceCtorEq] at h
 case alloc T z=>split at h<;>simp at h;obtain ⟨_,rfl,_⟩:=h;exact ⟨rfl,fun j off n l h1 _ _=>k9 S _ _ _ j off n l h1⟩
 case box T n x=>
  split at h
  ·split at h<;>simp at h;obtain ⟨_,rfl,_⟩:=h;exact ⟨rfl,fun j off n l h1 _ _=>k9 S _ _ _ j off n l h1⟩
  ·simp at h
 case store n a x=>
  split at h
  ·rename_i j off hj;split at h
   ·rename_i B hB;split at h
    ·split at h
     ·simp only [Option.map_eq_some_iff,Prod.mk.injEq] at h;obtain ⟨_,_,_,rfl,_⟩:=h;refine ⟨rfl,fun j' off' n' l h1 _ h3=>?_⟩;have hne:=h3 n a x j off rfl hj;simp only [CS] at h1 ⊢;rw [Dz,if_neg (fun e=>hne e.1.symm)];exact h1
     ·simp at h
    ·simp at h
   ·simp at h
  ·simp at h
 case eqs ng ks x y=>
  split at h
  ·simp only [Option.map_eq_some_iff,Prod.mk.injEq] at h;obtain ⟨_,_,_,rfl,_⟩:=h;exact same rfl
  ·simp at h
 case bq ng x y=>split at h<;>simp at h;exact same h.2.1.symm
 case bsl T n len z ps=>
  split at h
  ·split at h<;>simp at h;obtain ⟨_,rfl,_⟩:=h;exact ⟨rfl,fun j off n l h1 _ _=>h1⟩
  ·simp at h
 case conv k x=>cases k<;>simp only at h<;>split at h<;>simp at h<;>exact same h.2.1.symm
 case field off n x=>cases n<;>simp only at h<;>split at h<;>simp at h<;>obtain ⟨_,_,_,h,_⟩:=h<;>exact same h.symm
 case mv x=>simp at h;exact same h.2.1.symm
 case pick p x y=>split at h<;>simp at h<;>exact same h.2.1.symm
 case load x=>simp at h;obtain ⟨_,_,_,h,_⟩:=h;exact same h.symm
 case loadA n x=>simp at h;obtain ⟨_,_,_,h,_⟩:=h;exact same h.symm
 case nilchk x=>split at h<;>simp at h<;>exact same h.2.1.symm
 case bin op x y=>simp only [Option.map_eq_some_iff,Prod.mk.injEq] at h;obtain ⟨_,_,_,h,_⟩:=h;exact same h.symm
 case sbin op x y=>simp only [Option.map_eq_some_iff,Prod.mk.injEq] at h;obtain ⟨_,_,_,h,_⟩:=h;exact same h.symm
 case slen x=>split at h<;>simp at h;exact same h.2.1.symm
 case not x=>split at h<;>simp at h<;>exact same h.2.1.symm
 case neg x=>split at h<;>simp at h;exact same h.2.1.symm
 case fld off x=>split at h<;>simp at h<;>exact same h.2.1.symm
 case build z ps=>simp at h;obtain ⟨_,_,_,h,_⟩:=h;exact same h.symm
 case ext x k=>split at h<;>simp at h;obtain ⟨_,_,_,h,_⟩:=h;exact same h.symm
 case mkf f caps=>simp at h;exact same h.2.1.symm
 case len x=>
  split at h
  ·simp at h;exact same h.2.1.symm
  ·simp at h;exact same h.2.1.symm
  ·split at h<;>simp at h;exact same h.2.1.symm
  ·simp at h;exact same h.2.1.symm
  ·simp at h
 case mm mx xs=>split at h<;>simp at h;obtain ⟨_,_,_,h,_⟩:=h;exact same h.symm
def I7 (S:St) (o:EOp):Option (AV×St×Prop):=
 match Jb S o.g with
 | some true=>ev S o.o
 | _=>none
theorem dd (h6:all.toList.mapM (AO c.P all)=some ops) {i:Nat} {v:AV} {S1:St} {q:Prop} (he:I7 S (Af ops i)=some (v,S1,q)) (hq:q)
  (h:G c all ops af Φ m (Ay ld i) (S1.put (Af ops i).d v)):GO c all ops af Φ m ld S i:=by
 unfold I7 at he;split at he
 ·rename_i hg;exact Bz h6 (ZA hg) (Yv he hq) (Ux he).1 (Ux he).2 h
 ·simp at he
theorem mq (h6:all.toList.mapM (AO c.P all)=some ops) {i f:Nat} {xs:List X} {args:List AV} {res:AV} (ho:(Af ops i).o = .call f xs) (hg:gm S (Af ops i).g) (hf:C4 c.P f args res)
  (ha:AV.le.leL (B6 S xs) args:=by first | exact AA _ | simp [go_sem]) (hp:AB args=true:=by first | rfl | simp [go_sem]) (h:G c all ops af Φ m (Ay ld i) (S.put (Af ops i).d res)):GO c all ops af Φ m ld S i:=
 Bz h6 hg (by rw [ho];exact Ys hf ha hp) rfl (CB _ _) h
theorem U3 (h6:all.toList.mapM (AO c.P all)=some ops) {i f:Nat} {o:X} {xs:List X} {caps args:List AV} {res:AV} (ho:(Af ops i).o = .callv o xs) (hg:gm S (Af ops i).g) (hx:S.x o = .clo f caps) (hf:C4 c.P f args res)
  (h8:(c.P.funcs[f]?).any (fun fn=>fn.body.isSome&&!(fn.name == "runtime.NumGoroutine"))=true) (ha:AV.le.leL (B6 S xs++caps) args:=by first | exact AA _ | simp [go_sem]) (hp:AB args=true:=by first | rfl | simp [go_sem])
  (h:G c all ops af Φ m (Ay ld i) (S.put (Af ops i).d res)):GO c all ops af Φ m ld S i:=
 Bz h6 hg (by rw [ho];exact cx hx hf h8 ha hp) rfl (CB _ _) h
theorem mD {nap:List (List Nat)} (h6:all.toList.mapM (AO c.P all)=some ops) (h8:Region.noSelect all=true) (hw:af=Bu all) (h9:nap=D7 all) (i:Nat) {n k:Nat} {x y:X} {rows:List (List AV)} {j:Int} (row:List AV)
  (hi:EN i (Bx ld af 0)=true) (ho:(Af ops i).o = .idx n x y) (hg:gm S (Af ops i).g) (hx:S.x x = .sl k rows) (hy:S.x y = .iv j) (hA:k=n) (h0:0≤j) (hr:rows[j.toNat]?=some row)
  (hf:EJ ld af i (Cv nap i)=true) (h:G c all ops af Φ m (Ay ld i) (S.put (Af ops i).d (.elt row 0))):G c all ops af Φ (m+1) ld S:=by
 subst hw;subst h9;exact LM h6 h8 i (q:=True) trivial m ld S ((Lm _ _).1 hi) (.inr (.inr (.inl ⟨hg,n,x,y,k,rows,j,row,ho,hx,hy,hA,h0,hr,rfl⟩))) hf (fun hl=>by rw [ho] at hl;simp [Fa] at hl) h
end
end NX
end Go.Proofs.YtgnjledocpbchaaGreat
/-
  The symbolic machine: what grows. No statement of the seat is proved here.
-/
namespace Go.Proofs.YtgnjledocpbchaaGreat
namespace NX
open Go Go.RowKit
def dq (w:World) (J:Nat) (u:Value) (m:Nat) (E:List Value):Prop:=E.length=m*J∧(u = .slice none 0 0∧m=0∨∃a c,u = .slice (some a) m c∧∀(j:Nat) x,E[j]?=some x→w.cell? (a.add j)=some x)
theorem dM {P:Program} {w:World} {t ty e:TypeId} {i:TypeInfo} {z:Value} (hu:P.underlying t=some (.slice e)) (hi:P.info? e=some i) (hz:i.zero=some z) (hA:z.cells.size=i.size) (h0:0<i.size)
  {v:Value} {len:Nat} {xs:List Value} (h6:w.ownsRow 0 e i.size v len xs) {u:Value} {m:Nat} {E:List Value} (hB:dq w i.size u m E) (h1:∀x∈E,x.oneCell'=true)
  (h9:len+m≤maxLen) (hb:(len+m)*i.bytes≤140737488355328):
  ∃v' w',(Builtin.append_ #[t,t] ty #[v,u]).run P w = .ok v' w'∧w'.ownsRow 0 e i.size v' (len+m) (xs++E)∧w.grownBy w' v.ownBlock∧(v'.ownBlock=v.ownBlock∨∀g,v'.ownBlock=some g→w.heap.size≤g):=by
 obtain ⟨hl,hs⟩:=hB;rcases hs with ⟨rfl,rfl⟩ | ⟨a,c,rfl,hc⟩
 ·have hn:E=[]:=List.length_eq_zero_iff.1 (by simpa using hl);subst hn;refine ⟨v,w,run_append_owned_none w 0 t ty e i i.size hu hi v len xs h6,by simpa using h6,⟨rfl,rfl,rfl,Nat.le_refl _,fun _ _ _=>rfl⟩,.inl rfl⟩
 ·obtain ⟨v',w',r1,r2,r3,_⟩:=run_append_own (P:=P) w 0 t ty e i z i.size i.bytes hu hi hz rfl rfl hA h0 v len xs h6 a m c E hl hc h1 h9 hb (Nat.zero_le _);refine ⟨v',w',r1,r2,r3,?_⟩;rcases h6.2 with ⟨rfl,rfl⟩ | ⟨g,cap,cur,rfl,hG,hg,hI,hJ,hD,hE⟩
  ·obtain ⟨v2,w2,q1,q2,_,_⟩:=run_append_own (P:=P) w w.heap.size t ty e i z i.size i.bytes hu hi hz rfl rfl hA h0 (.slice none 0 0) 0 xs ⟨h6.1,.inl ⟨rfl,rfl⟩⟩ a m c E hl hc h1 h9 hb (Nat.le_refl _);rw [r1] at q1;simp only [Result.ok.injEq] at q1;obtain ⟨rfl,rfl⟩:=q1;right;intro g hg;exact (World.ownsRow.lt q2 g hg).1
  ·by_cases h8:len+m≤cap
   ·have hC:len*i.size+E.length≤cur.size:=by rw [hl,hD,←Nat.add_mul];exact Nat.mul_le_mul_right _ h8
    have hr:=run_append_room (P:=P) w t ty e i hu hi g len cap cur hg a m c E hl hc h1 h8 hC;rw [r1] at hr;simp only [Result.ok.injEq] at hr;obtain ⟨rfl,_⟩:=hr;exact .inl rfl
   ·have hw:∀j u,xs[j]?=some u→w.cell? ((⟨g,0,none⟩:Addr).add j)=some u:=h6.cells (g:=g) rfl;have hr:=run_append_grow (P:=P) w t ty e i z hu hi hz ⟨g,0,none⟩ len cap xs h6.1 hw a m c E hl hc Om (by simp only [maxLen] at h9;omega) (growslice_fits Om hb);rw [r1] at hr;simp only [Result.ok.injEq] at hr;obtain ⟨rfl,_⟩:=hr;right;intro g' hg';simp [Value.ownBlock] at hg';omega
theorem Jg {M:Mem} {n:Nat}:∀ {a b:List (List AV)} {x y:List (List Value)},AV.isLL M n a x→AV.isLL M n b y→AV.isLL M n (a++b) (x++y)
 | [],_,_,_,h,k=>by simp [AV.isLL] at h;subst h;simpa using k
 | _::_,_,_,_,⟨v,r,h0,h1,h2,h3⟩,k=>by subst h0;exact ⟨v,r++_,rfl,h1,h2,Jg h3 k⟩
theorem E1 {M:Mem} {n:Nat}:∀ {a:List (List AV)} {x:List (List Value)},AV.isLL M n a x→x.flatten.length=a.length*n
 | [],_,h=>by simp [AV.isLL] at h;subst h;simp
 | _::a,_,⟨v,r,h0,h1,h2,h3⟩=>by subst h0;have:=E1 h3;rw [List.flatten_cons,List.length_append,this,h1,List.length_cons,Nat.add_mul,Nat.one_mul,Nat.add_comm]
section
variable {c:Ctx} {M:Mem} {S S':St} {a:Act} {w:World} {fn:Func} {K:AV→List (Option Blk)→List (Option Sl)→Prop} {k:List It}
theorem lG (E:RelT c M S a w) {x:AV} {u:Value} (hx:x.is M u) {n:Nat} {rows:List (List AV)} (h:Ef S n x=some rows):
  ∃vss,AV.isLL M.sl n rows vss∧dq w n u rows.length vss.flatten∧∀v∈vss.flatten,v.oneCell'=true:=by
 unfold Ef at h;split at h
 ·simp at h;subst h;simp only [AV.is] at hx;subst hx;exact ⟨[],rfl,⟨by simp,.inl ⟨rfl,rfl⟩⟩,by simp⟩
 ·rename_i m rows';split at h<;>simp at h;rename_i hm;simp at hm;subst h;subst hm;obtain ⟨ad,cp,rfl,⟨h1,h2⟩,h3⟩:=hx;by_cases hne:rows'=[]
  ·subst hne;refine ⟨[],rfl,⟨by simp,?_⟩,by simp⟩;cases ad with
   | none=>left;rw [h2 rfl];exact ⟨rfl,rfl⟩
   | some ad=>right;exact ⟨ad,cp,rfl,by simp⟩
  ·obtain ⟨ad,vss,rfl,g1,g2⟩:=h3 hne;refine ⟨vss,F9 (OP M) _ _ _ g1,⟨E1 g1,.inr ⟨ad,cp,rfl,fun j x hj=>?_⟩⟩,g2.2.1⟩;have h6:=g2.1;have:=et E.st g2 j x hj;obtain ⟨b,o,sp⟩:=ad;dsimp only at h6;subst h6;rw [Addr.add_lit];exact this
 ·rename_i j;split at h
  ·rename_i L hL;split at h<;>simp at h;rename_i hm;simp at hm;subst h;subst hm;obtain ⟨_,vss,g1,g2,g3,_⟩:=E.st.slc j L hL;refine ⟨vss,g1,⟨E1 g1,?_⟩,g2⟩;rw [hx.2];rcases g3.2 with ⟨e1,e2⟩ | ⟨g,cp,cur,e1,_⟩
   ·left;exact ⟨e1,e2⟩
   ·right;refine ⟨⟨g,0,none⟩,cp,e1,fun j x hj=>?_⟩;exact World.ownsRow.cells g3 (g:=g) (by rw [e1];rfl) j x hj
  ·simp at h
 ·simp at h
theorem Z5 {P:Program} {w w':World} {t:TypeId} {p q:Operand} {ρ:Operand→Value} {v:Value} (d:Option Tmp) (ty:TypeId) (pos:String) (af:Array Edge) (E:Option (Nat×Bool))
  (h:(Builtin.append_ #[t,t] ty #[ρ p,ρ q]).run P w = .ok v w'):(execOp ρ ⟨d,.call ⟨.builtin .append, #[p,q], #[t,t]⟩,ty,pos,af,E⟩).run P w = .ok (.value v) w':=by
 simp [execOp,resolve,invoke,builtin,h]
theorem RelS.grown (h:RelS c M S.bs S.ss w) {w':World} {v v':Value} {L:Sl} {vss:List (List Value)} {ss:List (Option Sl)}
  (hB:ss.length=S.ss.length) (h6:∀j N,Ab ss j=some N→Ab S.ss j=some N∧∀g,v.ownBlock=some g→(M.σ j).ownBlock≠some g)
  (hv:v.ownBlock=none∨∀i B,Ab S.bs i=some B→v.ownBlock≠some (M.ρ i)) (hw:∀g,v.ownBlock=some g→Fy c g∧M.H g=none)
  (hg:w.grownBy w' v.ownBlock) (h9:v'.ownBlock=v.ownBlock∨∀g,v'.ownBlock=some g→w.heap.size≤g)
  (h0:0<L.n) (h1:AV.isLL M.sl L.n L.rows vss) (h2:∀x∈vss.flatten,x.oneCell'=true) (h3:w'.ownsRow 0 L.T L.n v' L.rows.length vss.flatten):
  RelS c (M.addS v') S.bs (ss++[some L]) w':=by
 have h8:∀k,k<w.heap.size→v.ownBlock≠some k→w'.heap[k]?=w.heap[k]?:=fun k hk hne=>hg.block k hk (fun e=>hne e.symm);have base:RelS c M S.bs ss w':=by
  refine ⟨h.nb,by rw [h.ns,hB],h.so,hg.os.trans h.os,hg.tape.trans h.tape,hg.output.trans h.output,Nat.le_trans h.size hg.size,?_,?_,h.hold,?_,?_,h.d1,?_,?_,h.pin⟩
  ·intro k hk hb;rw [h8 k (Nat.lt_of_lt_of_le hk h.size)]
   ·exact h.block k hk hb
   ·intro e;rcases (hw k e).1 with h | h
    ·omega
    ·exact hb h
  ·intro k o hk;rw [h8 k (Array.getElem?_eq_some_iff.1 (h.hle k o hk)).1]
   ·exact h.hle k o hk
   ·intro e;rw [(hw k e).2] at hk;simp at hk
  ·intro j B hj;obtain ⟨g1,g2,vs,g3,g4,g5⟩:=h.blk j B hj;refine ⟨g1,g2,vs,g3,?_,g5⟩;rw [h8 _ (h.blk_lt hj)]
   ·exact g4
   ·rcases hv with hv | hv
    ·rw [hv];simp
    ·exact hv j B hj
  ·intro j N hj;obtain ⟨hj,hne⟩:=h6 j N hj;obtain ⟨q0,us,q1,q2,q3,q4⟩:=h.slc j N hj;refine ⟨q0,us,q1,q2,World.ownsRow.kept q3 hg ?_,q4⟩;cases hC:v.ownBlock with
   | none=>
     cases ho:(M.σ j).ownBlock with
     | none=>exact .inl rfl
     | some g=>right;simp
   | some g=>right;exact hne g hC
  ·intro i j B N hi hj;exact h.d2 i j B N hi (h6 j N hj).1
  ·intro i j N O g hi hj e1 e2;exact h.d3 i j N O g (h6 i N hi).1 (h6 j O hj).1 e1 e2
 refine base.name L v' vss h0 h1 h2 h3 ?_ ?_ ?_
 ·intro g hA;rcases h9 with e | e
  ·exact hw g (by rw [←e];exact hA)
  ·exact ⟨.inl (Nat.le_trans h.size (e g hA)),h.Hnew (e g hA)⟩
 ·intro i B hi e;rcases h9 with e1 | e1
  ·rw [e1] at e;rcases hv with hv | hv
   ·rw [hv] at e;simp at e
   ·exact hv i B hi e
  ·have:=e1 _ e;have:=h.blk_lt hi;omega
 ·intro j N g hj e1 e2;obtain ⟨hj,hne⟩:=h6 j N hj;rcases h9 with e3 | e3
  ·exact hne g (by rw [←e3];exact e1) e2
  ·have:=e3 g e1;have:=h.slc_lt hj e2;omega
def St.app (S:St) (j:Nat) (L:Sl):St:=⟨S.tm,S.bs,Av S.ss j none++[some L]⟩
def St.app0 (S:St) (L:Sl):St:=⟨S.tm,S.bs,S.ss++[some L]⟩
attribute [go_sem] St.app St.app0
theorem Yr {e n b j:Nat} {x y:X} {L:Sl} {rows:List (List AV)} (hx:S.x x = .osl j) (hj:Ab S.ss j=some L) (E:L.T=e) (hn:L.n=n) (hy:Ef S n (S.x y)=some rows)
  (hb:(L.rows.length+rows.length)*b≤140737488355328) (hD:L.rows.length+rows.length≤9223372036854775807):B3 c S (.app e n b x y) (.osl (Ah S.ss)) (S.app j ⟨e,n,L.rows++rows⟩):=by
 intro ro h9 M a w h6 next Q hA
 obtain ⟨dst,op,ty,pos,af,gd⟩:=ro;dsimp only at h9;obtain ⟨t,p,q,i,z,rfl,hu,hi,hz,h8,hB,hC,hE,rfl,rfl⟩:=Zf h9;subst E;subst hn;have h1:=Au h6 p;have h2:=Au h6 q;rw [hx] at h1;obtain ⟨vss,g1,g2,g3⟩:=lG h6 h2 hy;have hS:=h6.st;obtain ⟨k0,us,k1,k2,k3,k4⟩:=hS.slc j L hj;have k3':=k3;rw [←h1.2] at k3';obtain ⟨v',w',r1,r2,r3,r4⟩:=dM (ty:=ty) hu hi hz (by rw [hC,h8]) Om (by rw [h8];exact k3') (by rw [h8];exact g2) g3 (by unfold maxLen;omega) (by rw [hB];exact hb);rw [h8] at r2;have hw:=Z5 dst ty pos af gd r1;unfold Oper.wp;rw [hw];rw [h1.2] at r3 r4;have hr:RelS c (M.addS v') S.bs (Av S.ss j none++[some (⟨L.T,L.n,L.rows++rows⟩:Sl)]) w':=by
  refine RelS.grown (v:=M.σ j) (vss:=us++vss) hS (Dg _ _ _) ?_ ?_ k4 r3 r4 k0 (Jg k1 g1) ?_ ?_
  ·intro i N hi;rw [Dz] at hi;split at hi
   ·simp at hi
   ·rename_i e;refine ⟨hi,fun g hg e2=>e ⟨?_,CD hj⟩⟩;exact hS.d3 i j N L g hi hj e2 hg
  ·right;intro i B hi;exact hS.d2 i j B L hi hj
  ·intro x hx;rw [List.flatten_append,List.mem_append] at hx;rcases hx with hx | hx
   ·exact k2 x hx
   ·exact g3 x hx
  ·rw [List.flatten_append,List.length_append];exact r2
 refine hA (M.addS v') w' v' (Mem.le_addS M v') hr ?_;rw [Bl,←hS.ns];exact ⟨Nat.lt_succ_self _,by simp [Mem.addS]⟩
theorem la {e n b:Nat} {x y:X} {rows:List (List AV)} (hx:S.x x = .nl) (hy:Ef S n (S.x y)=some rows)
  (hb:rows.length*b≤140737488355328) (hE:rows.length≤9223372036854775807):B3 c S (.app e n b x y) (.osl (Ah S.ss)) (S.app0 ⟨e,n,rows⟩):=by
 intro ro h9 M a w h6 next Q hA
 obtain ⟨dst,op,ty,pos,af,gd⟩:=ro;dsimp only at h9;obtain ⟨t,p,q,i,z,rfl,hu,hi,hz,h8,hB,hC,hD,rfl,rfl⟩:=Zf h9;have h1:=Au h6 p;have h2:=Au h6 q;rw [hx] at h1;simp only [AV.is] at h1;obtain ⟨vss,g1,g2,g3⟩:=lG h6 h2 hy;have hS:=h6.st;obtain ⟨v',w',r1,r2,r3,r4⟩:=dM (w:=w) (ty:=ty) (v:=a.eval p) (len:=0) (xs:=[]) hu hi hz (by rw [hC,h8]) Om (by rw [h1];exact World.ownsRow_nil _ _ _ _) (by rw [h8];exact g2) g3 (by unfold maxLen;omega) (by rw [hB,Nat.zero_add];exact hb);rw [h8,Nat.zero_add,List.nil_append] at r2;have hw:=Z5 dst ty pos af gd r1;unfold Oper.wp;rw [hw];rw [h1] at r3 r4;have hr:RelS c (M.addS v') S.bs (S.ss++[some (⟨e,n,rows⟩:Sl)]) w':=by
  refine RelS.grown (v:=.slice none 0 0) (vss:=vss) hS rfl ?_ (.inl rfl) ?_ r3 r4 hD g1 g3 r2
  ·intro i N hi;exact ⟨hi,fun g hg=>by simp [Value.ownBlock] at hg⟩
  ·intro g hg;simp [Value.ownBlock] at hg
 refine hA (M.addS v') w' v' (Mem.le_addS M v') hr ?_;rw [Bl,←hS.ns];exact ⟨Nat.lt_succ_self _,by simp [Mem.addS]⟩
theorem mO {d:Option Nat} {g:Option (Nat×Bool)} {l:List EOp} {e n b j:Nat} {x y:X} {L:Sl} {rows:List (List AV)} (hg:gm S g) (hx:S.x x = .osl j) (hj:Ab S.ss j=some L) (E:L.T=e) (hn:L.n=n) (hy:Ef S n (S.x y)=some rows)
  (hb:(L.rows.length+rows.length)*b≤140737488355328) (h6:L.rows.length+rows.length≤9223372036854775807)
  (h:V c fn K (.ops l::k) ((S.app j ⟨e,n,L.rows++rows⟩).put d (.osl (Ah S.ss)))):V c fn K (.ops (⟨d,g,.app e n b x y⟩::l)::k) S:=
 Ba hg (Yr hx hj E hn hy hb h6) rfl h
theorem mj {all:Array Oper} {ops:List EOp} {af:List (List Nat)} {Φ:St→Prop} {m:Nat} {ld:List Bool} (h6:all.toList.mapM (AO c.P all)=some ops) {i e n b j:Nat} {x y:X} {L:Sl} {rows:List (List AV)} (ho:(Af ops i).o = .app e n b x y) (hg:gm S (Af ops i).g)
  (hx:S.x x = .osl j) (hj:Ab S.ss j=some L) (E:L.T=e) (hn:L.n=n) (hy:Ef S n (S.x y)=some rows)
  (hb:(L.rows.length+rows.length)*b≤140737488355328) (h8:L.rows.length+rows.length≤9223372036854775807)
  (h:G c all ops af Φ m (Ay ld i) ((S.app j ⟨e,n,L.rows++rows⟩).put (Af ops i).d (.osl (Ah S.ss)))):GO c all ops af Φ m ld S i:=
 Bz (S1:=S.app j ⟨e,n,L.rows++rows⟩) h6 hg (by rw [ho];exact Yr hx hj E hn hy hb h8) rfl (by rw [ho];exact fun _ _ _ _ h _ _=>h) h
end
mutual
theorem jS {M M':Mem} {p q:Nat} (hM:M'.pure=M.pure) (hb:M'.nb=M.nb) (hs:M'.ns=M.ns) (hρ:∀i,M'.ρ i=M.ρ i) (hσ:∀i,i≠q→M'.σ i=M.σ i) (hq:M'.σ q=M.σ p) (hqn:q<M.ns) (hH:M'.H=M.H):
  ∀(x:AV) (v:Value),x.is M v→(AV.ren p q x).is M' v
 | .any,_,_=>trivial
 | .un,_,k=>k
 | .tt,_,k=>k
 | .ff,_,k=>k
 | .bv _,_,k=>k
 | .iv _,_,k=>k
 | .kv _ _,_,k=>k
 | .sv _,_,k=>k
 | .nl,_,k=>k
 | .nlp,_,k=>k
 | .fn _,_,k=>k
 | .ptr i o,_,k=>⟨by rw [hb];exact k.1,by rw [hρ i];exact k.2⟩
 | .osl i,v,k=>by
   simp only [AV.ren];split
   ·rename_i h;simp at h;subst h;exact ⟨by rw [hs];exact hqn,by rw [hq];exact k.2⟩
   ·split
    ·trivial
    ·rename_i h;simp at h;exact ⟨by rw [hs];exact k.1,by rw [hσ i h];exact k.2⟩
 | .oel i a b,v,k=>by
   simp only [AV.ren];split
   ·rename_i h;simp at h;subst h;exact ⟨by rw [hs];exact hqn,by rw [hq];exact k.2⟩
   ·split
    ·trivial
    ·rename_i h;simp at h;exact ⟨by rw [hs];exact k.1,by rw [hσ i h];exact k.2⟩
 | .ocs i a n b,v,k=>by
   simp only [AV.ren];split
   ·rename_i h;simp at h;subst h;exact ⟨by rw [hs];exact hqn,by rw [hq];exact k.2⟩
   ·split
    ·trivial
    ·rename_i h;simp at h;exact ⟨by rw [hs];exact k.1,by rw [hσ i h];exact k.2⟩
 | .elt row o,_,⟨a,vs,h1,h2,h3⟩=>⟨a,vs,h1,by rw [hM];exact h2,by rw [hH];exact h3⟩
 | .sl n rows,_,⟨a,c,h1,h2,h3⟩=>⟨a,c,h1,h2,fun hne=>let ⟨ad,vss,g1,g2,g3⟩:=h3 hne;⟨ad,vss,g1,by rw [hM];exact g2,by rw [hH];exact g3⟩⟩
 | .agg l,_,⟨vs,h1,h2⟩=>⟨vs,h1,TD hM hb hs hρ hσ hq hqn hH l vs h2⟩
 | .tup l,_,⟨vs,h1,h2⟩=>⟨vs,h1,TD hM hb hs hρ hσ hq hqn hH l vs h2⟩
 | .clo _ l,_,⟨vs,h1,h2⟩=>⟨vs,h1,TD hM hb hs hρ hσ hq hqn hH l vs h2⟩
theorem TD {M M':Mem} {p q:Nat} (hM:M'.pure=M.pure) (hb:M'.nb=M.nb) (hs:M'.ns=M.ns) (hρ:∀i,M'.ρ i=M.ρ i) (hσ:∀i,i≠q→M'.σ i=M.σ i) (hq:M'.σ q=M.σ p) (hqn:q<M.ns) (hH:M'.H=M.H):
  ∀(l:List AV) (vs:List Value),AV.isL M l vs→AV.isL M' (Fq p q l) vs
 | [],_,k=>k
 | x::l,_,⟨v,vs,h1,h2,h3⟩=>⟨v,vs,h1,jS hM hb hs hρ hσ hq hqn hH x v h2,TD hM hb hs hρ hσ hq hqn hH l vs h3⟩
end
theorem jQ (p q:Nat):∀(l:List AV) (t:Nat),AM (Fq p q l) t=AV.ren p q (AM l t)
 | [],_=>rfl
 | _::_,0=>rfl
 | _::l,t+1=>jQ p q l t
theorem jR (p q:Nat):∀(l:List AV),(Fq p q l).length=l.length
 | []=>rfl
 | _::l=>by simp [Fq,jR p q l]
section
variable {c:Ctx} {S:St} {fn:Func} {K:AV→List (Option Blk)→List (Option Sl)→Prop} {k:List It}
theorem nr (p q:Nat) {L:Sl} (hp:Ab S.ss p=some L) (hq:AF (q+1) (Ah S.ss)=true) (hD:(p==q)=false) (h:V c fn K k (S.renS p q L)) (hqn:AF c.nq q=true:=by rfl) (hE:C8 S.ss=true:=by first | rfl | simp [go_sem]):V c fn K k S:=by
 intro rk M a w hc hT;have hS:=hT.st;rw [Da,Bl] at hq;have hne:p≠q:=by simpa using hD
 have hw:=CD hp
 let M':Mem:= {M with σ:=fun i=>if i=q then M.σ p else M.σ i}
 have hq':M'.σ q=M.σ p:=if_pos rfl;have hσ:∀i,i≠q→M'.σ i=M.σ i:=fun i hi=>if_neg hi;have hA:=jS (M:=M) (M':=M') (p:=p) (q:=q) rfl rfl rfl (fun _=>rfl) hσ hq' (by rw [hS.ns];omega) rfl;have h9:=TD (M:=M) (M':=M') (p:=p) (q:=q) rfl rfl rfl (fun _=>rfl) hσ hq' (by rw [hS.ns];omega) rfl;have live:∀i N,Ab (Av (Av S.ss p none) q (some L)) i=some N→(i=q∧N=L)∨(i≠q∧i≠p∧Ab S.ss i=some N):=by
  intro i N hi;rw [Dz,Dz,Dg] at hi;split at hi
  ·rename_i e;left;exact ⟨e.1,by simpa using hi.symm⟩
  ·rename_i e;split at hi
   ·simp at hi
   ·rename_i e2;right;exact ⟨fun x=>e ⟨x,Om⟩,fun x=>e2 ⟨x,hw⟩,hi⟩
 have back:∀i N,Ab (Av (Av S.ss p none) q (some L)) i=some N→∃i',Ab S.ss i'=some N∧M'.σ i=M.σ i'∧(i=q→i'=p)∧(i≠q→i'=i∧i≠p):=by
  intro i N hi;rcases live i N hi with ⟨rfl,rfl⟩ | ⟨h1,h2,h3⟩
  ·exact ⟨p,hp,hq',fun _=>rfl,fun h=>absurd rfl h⟩
  ·exact ⟨i,h3,hσ i h1,fun h=>absurd h h1,fun _=>⟨rfl,h2⟩⟩
 refine h rk M' a w hc ⟨by simp only [St.renS,jR];exact hT.len,fun t=>?_,hT.df,?_⟩
 ·simp only [St.renS,jQ];exact hA _ _ (hT.tm t)
 refine ⟨by simp only [St.renS,IB];exact hS.nb,by simp only [St.renS,Dg];exact hS.ns,?_,hS.os,hS.tape,hS.output,hS.size,hS.block,hS.hle,hS.hold,?_,?_,?_,?_,?_,⟨hS.pin.nb,hS.pin.ρ,hS.pin.ns,fun j hj=>by rw [hσ j (by rw [Da] at hqn;omega)];exact hS.pin.σ j hj,hS.pin.gl⟩⟩
 ·intro i hi;by_cases e:i=q
  ·rw [e,hq'];exact hS.so p (by rw [hS.ns];exact hw)
  ·rw [hσ i e];exact hS.so i hi
 ·intro i B hi;obtain ⟨C,hC,rfl⟩:=Fi _ _ _ _ hi;obtain ⟨g1,g2,vs,g3,g4,g5⟩:=hS.blk i C hC;exact ⟨g1,g2,vs,h9 _ _ g3,g4,g5⟩
 ·intro i N hi;obtain ⟨i',h1,h2,_⟩:=back i N hi;rw [h2];obtain ⟨q0,us,q1,q2,q3,q4⟩:=hS.slc i' N h1;exact ⟨q0,us,F9 (OP M') _ _ _ (Yd (M:=M) _ _ q1 (bO hE h1)),q2,q3,q4⟩
 ·intro i t B C hi ht e;obtain ⟨B',hB,_⟩:=Fi _ _ _ _ hi;obtain ⟨C',hC,_⟩:=Fi _ _ _ _ ht;exact hS.d1 i t B' C' hB hC e
 ·intro i t B N hi ht;obtain ⟨B',hB,_⟩:=Fi _ _ _ _ hi;obtain ⟨t',h1,h2,_⟩:=back t N ht;rw [h2];exact hS.d2 i t' B' N hB h1
 ·intro i t N O g hi ht e1 e2;obtain ⟨i',h1,h2,h3,h4⟩:=back i N hi;obtain ⟨t',k1,k2,k3,k4⟩:=back t O ht;rw [h2] at e1;rw [k2] at e2;have e:=hS.d3 i' t' N O g h1 k1 e1 e2;by_cases h6:i=q<;>by_cases h8:t=q
  ·rw [h6,h8]
  ·have:=h3 h6;have:=(k4 h8).1;have:=(k4 h8).2;omega
  ·have:=k3 h8;have:=(h4 h6).1;have:=(h4 h6).2;omega
  ·have:=(h4 h6).1;have:=(k4 h8).1;omega
theorem Gp (t T n:Nat) (ht:AM S.tm t = .nl) (hn:AF 1 n=true) (h:V c fn K k ⟨BC S.tm t (.osl (Ah S.ss)),S.bs,S.ss++[some ⟨T,n,[]⟩]⟩):V c fn K k S:=by
 intro rk M a w hc hT;have hS:=hT.st;rw [Da] at hn;have hr:=hS.name ⟨T,n,[]⟩ (.slice none 0 0) [] hn rfl (by simp) (World.ownsRow_nil w 0 T n) (fun g hg=>by simp [Value.ownBlock] at hg) (fun i B _=>by simp [Value.ownBlock]) (fun j N g _ hg=>by simp [Value.ownBlock] at hg);have hle:=Mem.le_addS M (.slice none 0 0);refine h rk _ a w hc ⟨by rw [Ig];exact hT.len,fun u=>?_,hT.df,hr⟩;rw [Fc];split
 ·rename_i e;have:=hT.tm t;rw [ht] at this;rw [e.1,Bl,←hS.ns];refine ⟨Nat.lt_succ_self _,?_⟩;simp only [Mem.addS,if_true];exact this
 ·exact Dx hle _ _ (hT.tm u)
theorem nk (j o T n:Nat) {B:Blk} (hj:Ab S.bs j=some B) (ho:AM B.cells o = .nl) (hn:AF 1 n=true) (h:V c fn K k ⟨S.tm,Av S.bs j (some ⟨B.T,BC B.cells o (.osl (Ah S.ss))⟩),S.ss++[some ⟨T,n,[]⟩]⟩):V c fn K k S:=by
 intro rk M a w hc hT;have hS:=hT.st;rw [Da] at hn;have hr:=hS.name ⟨T,n,[]⟩ (.slice none 0 0) [] hn rfl (by simp) (World.ownsRow_nil w 0 T n) (fun g hg=>by simp [Value.ownBlock] at hg) (fun i B _=>by simp [Value.ownBlock]) (fun j N g _ hg=>by simp [Value.ownBlock] at hg);have hle:=Mem.le_addS M (.slice none 0 0);obtain ⟨m1,m2,vs,m3,m4,m5⟩:=hr.blk j B hj;have h6:AV.isL (M.addS (.slice none 0 0)) (BC B.cells o (.osl (Ah S.ss))) vs:=by
  have hl:=Dl m3;refine ZE (by rw [Ig];exact hl.symm) fun i x v hx hv=>?_;have hlt:i<B.cells.length:=by rw [←hl];exact (List.getElem?_eq_some_iff.1 hv).1
  have gl:∀(l:List AV) (i:Nat) (x:AV),l[i]?=some x→AM l i=x:=by
   intro l;induction l with
   | nil=>intro i x h;simp at h
   | cons y l ih=>intro i x h;cases i with
     | zero=>simpa [AM] using h
     | succ i=>exact ih i x (by simpa using h)
  have e1:=gl _ _ _ hx;rw [Fc] at e1;split at e1
  ·rename_i e;obtain ⟨rfl,_⟩:=e;subst e1;have h8:B.cells[i]?=some (.nl):=by rw [List.getElem?_eq_getElem hlt];have:=gl _ _ _ (List.getElem?_eq_getElem hlt);rw [←this,ho]
   have:=fW m3 i .nl v h8 hv;rw [Bl,←hS.ns];refine ⟨Nat.lt_succ_self _,?_⟩;simp only [Mem.addS,if_true];exact this
  ·have:=Pz m3 i hlt;rw [e1] at this;rw [List.getD_eq_getElem?_getD,hv] at this;exact this
 have hlt:=CD hj;refine h rk _ a w hc ⟨hT.len,fun u=>Dx hle _ _ (hT.tm u),hT.df,?_⟩;have old:∀i C,Ab (Av S.bs j (some (⟨B.T,BC B.cells o (.osl (Ah S.ss))⟩:Blk))) i=some C→(i=j∧C=⟨B.T,BC B.cells o (.osl (Ah S.ss))⟩)∨(i≠j∧Ab S.bs i=some C):=by
  intro i C hi;rw [Dz] at hi;split at hi
  ·rename_i e;left;exact ⟨e.1,by simpa using hi.symm⟩
  ·rename_i e;right;exact ⟨fun x=>e ⟨x,hlt⟩,hi⟩
 have live:∀i C,Ab (Av S.bs j (some (⟨B.T,BC B.cells o (.osl (Ah S.ss))⟩:Blk))) i=some C→∃D,Ab S.bs i=some D:=by
  intro i C hi;rcases old i C hi with ⟨rfl,_⟩ | ⟨_,h⟩
  ·exact ⟨B,hj⟩
  ·exact ⟨_,h⟩
 refine ⟨by rw [Dg];exact hr.nb,hr.ns,hr.so,hr.os,hr.tape,hr.output,hr.size,hr.block,hr.hle,hr.hold,?_,hr.slc,?_,?_,hr.d3,hr.pin⟩
 ·intro i C hi;rcases old i C hi with ⟨rfl,rfl⟩ | ⟨_,h⟩
  ·exact ⟨m1,m2,vs,h6,m4,m5⟩
  ·exact hr.blk i C h
 ·intro i t C D hi ht e;obtain ⟨C',hC⟩:=live i C hi;obtain ⟨D',hD⟩:=live t D ht;exact hr.d1 i t C' D' hC hD e
 ·intro i t C N hi ht;obtain ⟨C',hC⟩:=live i C hi;exact hr.d2 i t C' N hC ht
end
end NX
end Go.Proofs.YtgnjledocpbchaaGreat
/-
  The symbolic machine: a slice that is built and sealed at once. No statement of the seat is proved here.
-/
namespace Go.Proofs.YtgnjledocpbchaaGreat
namespace NX
open Go Go.RowKit
section
variable {c:Ctx} {S:St}
mutual
theorem xe (j:Nat) (r:AV):∀(x:AV),x.pu=true→AV.subO j r x=x:=by
 intro x h;cases x<;>simp_all [AV.pu,AV.subO]
 all_goals exact P1 j r _ h
theorem P1 (j:Nat) (r:AV):∀(l:List AV),AB l=true→Cr j r l=l
 | [],_=>rfl
 | x::l,h=>by simp only [AB] at h;cases hx:x.pu<;>simp [hx,BY] at h;simp [Cr,xe j r x hx,P1 j r l h]
end
theorem wC {T n len:Nat} {z:List AV} {ps:List (Nat×X)} {S1:St} {j:Nat} {L:Sl} {q:Prop} (he:ev S (.bsl T n len z ps)=some (.osl j,S1,q)) (hq:q) (hj:Ab S1.ss j=some L) (h6:BU L.rows=true):
  B3 c S (.bsl T n len z ps) (.sl L.n L.rows) ⟨S.tm,Cc (Cr j (.sl L.n L.rows)) S1.bs,Av S1.ss j none⟩:=by
 intro ro h8 M a w hT next Q hn
 refine Yv he hq ro h8 M a w hT next Q fun M' w' x h1 h2 h3=>?_
 obtain ⟨M2,k1,k2,k3⟩:=TR (S:=⟨[],S1.bs,S1.ss⟩) (a:=a) j hj h6 ⟨by simp,fun t=>by cases t<;>trivial,hT.df,h2⟩;refine hn M2 w' x (h1.trans k1) k2.st ?_;simp only [AV.is] at h3;rw [h3.2];exact k3
theorem XN (f:List AV→List AV):∀(l:List (Option Blk)) (j:Nat),Ab (Cc f l) j=(Ab l j).map fun B=>⟨B.T,f B.cells⟩
 | [],j=>by simp [Cc,Ab]
 | none::l,0=>by simp [Cc,Ab]
 | some C::l,0=>by simp [Cc,Ab]
 | none::l,j+1=>by simpa [Cc,Ab] using XN f l j
 | some _::l,j+1=>by simpa [Cc,Ab] using XN f l j
theorem gI (j:Nat) (r:AV):∀(n:Nat) (l s:List AV),FE n l=some s→FE n (Cr j r l)=some (Cr j r s)
 | 0,l,s,h=>by simp [FE] at h ⊢;subst h;rfl
 | n+1,[],s,h=>by simp [FE] at h
 | n+1,x::l,s,h=>by simp only [FE,Option.map_eq_some_iff] at h;obtain ⟨t,ht,rfl⟩:=h;simp [Cr,FE,gI j r n l t ht]
theorem gf (j:Nat) (r:AV):∀(n:Nat) (l s:List AV),G5 n l=some s→G5 n (Cr j r l)=some (Cr j r s)
 | 0,l,s,h=>by simp [G5] at h ⊢;subst h;rfl
 | n+1,[],s,h=>by simp [G5] at h
 | n+1,x::l,s,h=>by simp only [G5] at h;simp [Cr,G5,gf j r n l s h]
theorem gG (j:Nat) (r:AV) {l s:List AV} {o n:Nat} (h:Db l o n=some s):Db (Cr j r l) o n=some (Cr j r s):=by
 unfold Db at h ⊢;split at h
 ·rename_i t ht;rw [gf j r o l t ht];exact gI j r n t s h
 ·simp at h
theorem rW {T n len:Nat} {z:List AV} {ps:List (Nat×X)} (j:Nat) (r:AV) (ss:List (Option Sl)):keeps S ⟨S.tm,Cc (Cr j r) S.bs,ss⟩ (.bsl T n len z ps):=by
 intro i off m l h1 h2 _;simp only [CS] at h1 ⊢;rw [XN];split at h1
 ·rename_i B hB;rw [hB];have:=gG j r h1;rw [P1 j r l h2] at this;exact this
 ·simp at h1
section
variable {all:Array Oper} {ops:List EOp} {af:List (List Nat)} {Φ:St→Prop} {m:Nat} {ld:List Bool}
theorem FV (h6:all.toList.mapM (AO c.P all)=some ops) {i T n len:Nat} {z:List AV} {ps:List (Nat×X)} {L:Sl} {q:Prop} (ho:(Af ops i).o = .bsl T n len z ps) (hg:gm S (Af ops i).g)
  (he:ev S (.bsl T n len z ps)=some (.osl (Ah S.ss),⟨S.tm,S.bs,S.ss++[some L]⟩,q)) (hq:q) (h:G c all ops af Φ m (Ay ld i) (St.put ⟨S.tm,Cc (Cr (Ah S.ss) (.sl L.n L.rows)) S.bs,S.ss++[none]⟩ (Af ops i).d (.sl L.n L.rows))) (h8:BU L.rows=true:=by first | rfl | simp [go_sem]):GO c all ops af Φ m ld S i:=by
 have hj:Ab (S.ss++[some L]) (Ah S.ss)=some L:=by rw [Bl,Lp,if_pos rfl]
 have hp:Av (S.ss++[some L]) (Ah S.ss) none=S.ss++[none]:=by
  rw [Bl];generalize S.ss=l;induction l with
  | nil=>rfl
  | cons x l ih=>simp [Av,ih]
 have hs:=wC (c:=c) he hq hj h8;dsimp only at hs;rw [hp] at hs;exact Bz (S1:=⟨S.tm,Cc (Cr (Ah S.ss) (.sl L.n L.rows)) S.bs,S.ss++[none]⟩) h6 hg (by rw [ho];exact hs) rfl (by rw [ho];exact rW _ _ _) h
end
end
end NX
end Go.Proofs.YtgnjledocpbchaaGreat
/-
  The symbolic machine: all of it. No statement of the seat is proved here.
-/
namespace Go.Proofs.YtgnjledocpbchaaGreat
namespace NX
attribute [go_sem] St.init Dh run Dv Gu J0 ev St.x St.put AM BC AV.cells Ah CA AV.one CS Ab Av Db tf GG Ki Uw Px Gr GY FE G5 Fd BS Pd F4 Pe HU HH UN P0 BY AF FD B6 IC Gd IG PN PG Kg Hm AV.pu AB EW AV.ok Cq JW CE JY BU C8 St.ok HO DM AV.subO Cr AV.subB FM Cc St.sealS St.sealB AV.ren Fq St.renS Ef AV.le.leL UQ Ib Ic St.le List.cons_append List.nil_append Option.map gm Jb YF Km Ct I7 rd Fa Jh ON EJ H5 DV CX Ay HZ Bx EN Cv Af Kj
def Kn:Option AV→AV→Prop
 | some x,y=>x.le y
 | none,_=>False
attribute [go_sem] Kn
theorem mY {P:Program} {w0:World} {H0:Frag} {f:Nat} {fn:Func} {body:EC} {rs:List ERes} {np nt:Nat} {k:List It} {S:St} {res:AV} (ok:FnOK P f fn body rs np nt)
  (h:Kn (DM S rs) res):V (Ctx.of P w0 H0) fn (fun x _ _=>x.le res) (.code .ret::k) S:=by
 cases hx:DM S rs with
 | none=>rw [hx] at h;exact h.elim
 | some x=>rw [hx] at h;exact YY ok.r hx h
theorem nE {P:Program} {w0:World} {H0:Frag} {f:Nat} {fn:Func} {body:EC} {rs:List ERes} {np nt:Nat} {S:St} {res:AV} (ok:FnOK P f fn body rs np nt)
  (h:Kn (DM S rs) res):V (Ctx.of P w0 H0) fn (fun x _ _=>x.le res) [] S:=by
 cases hx:DM S rs with
 | none=>rw [hx] at h;exact h.elim
 | some x=>rw [hx] at h;exact n0 ok.r hx h
mutual
theorem uo {nb ns:Nat}:∀x:AV,x.pu=true→x.ok nb ns=true
 | .any,_ | .un,_ | .tt,_ | .ff,_ | .bv _,_ | .iv _,_ | .kv _ _,_ | .sv _,_ | .nl,_ | .nlp,_ | .fn _,_ | .elt _ _,_ | .sl _ _,_=>rfl
 | .ptr _ _,h | .osl _,h | .oel _ _ _,h | .ocs _ _ _ _,h=>by simp [AV.pu] at h
 | .agg l,h=>C2 l h
 | .tup l,h=>C2 l h
 | .clo _ l,h=>C2 l h
theorem C2 {nb ns:Nat}:∀l:List AV,AB l=true→Cq nb ns l=true
 | [],_=>rfl
 | x::l,h=>by simp only [AB,AS] at h;simp only [Cq,AS];exact ⟨uo x h.1,C2 l h.2⟩
end
mutual
theorem le_refl:∀x:AV,x.le x
 | .any | .un | .tt | .ff | .bv _ | .iv _ | .kv _ _ | .sv _ | .nl | .nlp | .fn _ | .ptr _ _ | .osl _ | .oel _ _ _ | .ocs _ _ _ _=>by simp [AV.le]
 | .elt row _=>⟨AA row,rfl⟩
 | .sl _ _=>⟨rfl,rfl,fun _ _ h=>h⟩
 | .agg l=>AA l
 | .tup l=>AA l
 | .clo _ l=>⟨rfl,AA l⟩
theorem AA:∀l:List AV,AV.le.leL l l
 | []=>trivial
 | x::l=>⟨le_refl x,AA l⟩
end
theorem su (x:AV):x.le .any=True:=by simp [AV.le]
theorem sN (x:AV):x.le x=True:=by simp [le_refl]
theorem sm (l:List AV):AV.le.leL l l=True:=by simp [AA]
theorem sG (a b:Int):AV.le (.iv a) (.iv b)=(a=b):=by simp [AV.le]
theorem sw (a b:Bool):AV.le (.bv a) (.bv b)=(a=b):=by simp [AV.le]
theorem sU (b:Bool):AV.le .tt (.bv b)=(b=true):=by simp [AV.le]
theorem sF (b:Bool):AV.le .ff (.bv b)=(b=false):=by simp [AV.le]
theorem sy (b:Bool):AV.le (.bv b) .tt=(b=true):=by simp [AV.le]
theorem sx (b:Bool):AV.le (.bv b) .ff=(b=false):=by simp [AV.le]
theorem sH (n:Nat) (d:List (List AV)):AV.le .nl (.sl n d)=(d=[]):=by simp [AV.le]
theorem sO (n m:Nat) (d e:List (List AV)):AV.le (.sl n d) (.sl m e)=(n=m∧Ko n d e):=by simp [AV.le]
theorem sr (a b:List AV):AV.le (.agg a) (.agg b)=AV.le.leL a b:=by simp [AV.le]
theorem sV (a b:List AV):AV.le (.tup a) (.tup b)=AV.le.leL a b:=by simp [AV.le]
theorem sE (a b:List AV) (i j:Nat):AV.le (.elt a i) (.elt b j)=(AV.le.leL a b∧i=j):=by simp [AV.le]
theorem sD (a b:List AV) (i j:Nat):AV.le (.clo i a) (.clo j b)=(i=j∧AV.le.leL a b):=by simp [AV.le]
theorem sn (n:Nat) (d:List (List AV)):Ko n d d=True:=by simp [Ko]
attribute [go_sem] su sN sm sG sw sU sF sy sx sH sO sr sV sE sD sn
end NX
end Go.Proofs.YtgnjledocpbchaaGreat
namespace Go.Proofs.YtgnjledocpbchaaGreat
namespace NX
open Go Go.RowKit
def A0 {α:Type} (e:Bool) (a b:Option α):Option α:=match e with | true=>a | false=>b
def Ac {α:Type} (l:List α) (i:Int):Option α:=if 0≤i then l[i.toNat]? else none
def AE {α:Type} (bytes:Nat) (l m:List α):Option (List α):=if (l.length+m.length)*bytes≤140737488355328∧l.length+m.length≤9223372036854775807 then some (l++m) else none
def D3 {α:Type} (l:List α) (lo hi:Int):Option (List α):=if 0≤lo∧lo≤hi∧hi≤l.length then some ((l.take hi.toNat).drop lo.toNat) else none
def CC {σ β:Type} (body:σ→Option (σ ⊕ β)):Nat→σ→Option β
 | 0,_=>none
 | n+1,s=>match body s with
   | none=>none
   | some (.inl s')=>CC body n s'
   | some (.inr r)=>some r
theorem ZT {σ β:Type} {body:σ→Option (σ ⊕ β)}:∀ {n:Nat} {s:σ} {r:β},CC body n s=some r→∀m,n≤m→CC body m s=some r
 | 0,_,_,h,_,_=>by simp [CC] at h
 | n+1,s,r,h,m,hm=>by
   obtain ⟨m,rfl⟩:∃k,m=k+1:=⟨m-1,Om⟩
   simp only [CC] at h ⊢;split at h<;>simp_all;exact ZT h m Om
open Classical in
noncomputable def loop {σ β:Type} (body:σ→Option (σ ⊕ β)) (s:σ):Option β:=if h:∃r n,CC body n s=some r then some h.choose else none
theorem Hl {σ β:Type} {body:σ→Option (σ ⊕ β)} {s:σ} {r:β}:loop body s=some r↔∃n,CC body n s=some r:=by
 unfold loop;constructor
 ·intro h;split at h
  ·rename_i hx;simp at h;subst h;exact hx.choose_spec
  ·simp at h
 ·rintro ⟨n,h⟩;have hx:∃r n,CC body n s=some r:=⟨r,n,h⟩
  rw [dif_pos hx];obtain ⟨m,hm⟩:=hx.choose_spec;have h1:=ZT h (max n m) (Nat.le_max_left _ _);have h2:=ZT hm (max n m) (Nat.le_max_right _ _);rw [h1] at h2;exact h2.symm
theorem Bn {σ β:Type} (body:σ→Option (σ ⊕ β)) (s:σ):loop body s=match body s with | none=>none | some (.inl s')=>loop body s' | some (.inr r)=>some r:=by
 apply Option.ext;intro r;rw [Hl];cases hb:body s with
 | none=>
   constructor
   ·rintro ⟨n,h⟩;cases n<;>simp [CC,hb] at h
   ·intro h;simp at h
 | some y=>
   cases y with
   | inl s'=>
     dsimp only;rw [Hl];constructor
     ·rintro ⟨n,h⟩;cases n with
      | zero=>simp [CC] at h
      | succ n=>exact ⟨n,by simpa [CC,hb] using h⟩
     ·rintro ⟨n,h⟩;exact ⟨n+1,by simpa [CC,hb] using h⟩
   | inr r'=>
     constructor
     ·rintro ⟨n,h⟩;cases n with
      | zero=>simp [CC] at h
      | succ n=>simpa [CC,hb] using h
     ·intro h;exact ⟨1,by simpa [CC,hb] using h⟩
structure ole {α:Type} (a b:Option α):Prop where
 h:∀r,a=some r→b=some r
theorem CU {α β:Type} {m:Option β} {y:α ⊕ β} {r:β} (h:m.map Sum.inr=some y) (ho:∀r',y = .inr r'→r'=r):m=some r:=by
 cases m with
 | none=>simp at h
 | some v=>simp at h;rw [ho v h.symm]
section
variable {c:Ctx} {fn:Func} {K:AV→List (Option Blk)→List (Option Sl)→Prop} {k:List It} {S:St} {α β σ:Type} {b:Nat}
theorem YQ {b:EC} {body:σ→Option (σ ⊕ β)} {s0:σ} {r:β} (h:loop body s0=some r) (Sx:σ→St) (h0:S.le (Sx s0)) (hok:∀s,(Sx s).ok=true)
  (hb:∀n s y,body s=some y→(∀s',y = .inl s'→V c fn K (.lp b n::k) (Sx s'))→(∀r',y = .inr r'→r'=r)→V c fn K (.code b :: .lp b n::k) (Sx s)) (h6:AF c.np (Ah (Sx s0).bs)=true:=by rfl) (hqn:AF c.nq (Ah (Sx s0).ss)=true:=by rfl):V c fn K (.code (.loop b)::k) S:=by
 obtain ⟨n,hn⟩:=Hl.1 h;refine nf (X:=Nat×σ) (fun x=>CC body x.1 x.2=some r) (fun x=>Sx x.2) (fun x=>x.1) (n,s0) h0 (hok _) h6 hqn hn ?_;rintro m ⟨n,s⟩ hx ih;cases n with
 | zero=>simp [CC] at hx
 | succ n=>
   simp only [CC] at hx;cases hy:body s with
   | none=>simp [hy] at hx
   | some y=>
     refine hb m s y hy ?_ ?_
     ·rintro s' rfl;rw [hy] at hx;exact ih (n,s') hx (Nat.lt_succ_self _)
     ·rintro r' rfl;rw [hy] at hx;simpa using hx
theorem mH {o:X} {a b:EC} {e:Bool} {A B:Option β} {r:β} (h:A0 e A B=some r) (hx:S.x o = .bv e) (h1:e=true→A=some r→V c fn K (.code a::k) S) (h2:e=false→B=some r→V c fn K (.code b::k) S):V c fn K (.code (.ite o a b)::k) S:=FA hx (fun e1=>h1 e1 (by subst e1;exact h)) (fun e1=>h2 e1 (by subst e1;exact h))
theorem DD {l:List α} {i:Int} {v:α} (h:Ac l i=some v):0≤i∧l[i.toNat]?=some v:=by
 unfold Ac at h;split at h
 ·exact ⟨by assumption,h⟩
 ·simp at h
theorem FJ {f:α→List AV} {l:List α} {n:Nat} {v:α} (h:l[n]?=some v):(l.map f)[n]?=some (f v):=by rw [List.getElem?_map,h];rfl
theorem Dt {l':List α} {i:Int} {v:α} {d:Option Nat} {g:Option (Nat×Bool)} {n m:Nat} {x y:X} {l:List EOp} (f:α→List AV) (hv:Ac l' i=some v) (hg:gm S g) (hx:S.x x = .sl m (l'.map f)) (hi:S.x y = .iv i) (h6:m=n)
  (h':V c fn K (.ops l::k) (S.put d (.elt (f v) 0))):V c fn K (.ops (⟨d,g,.idx n x y⟩::l)::k) S:=by
 obtain ⟨h0,hr⟩:=DD hv;exact n9 (f v) hg hx hi h6 h0 (FJ hr) h'
theorem BT {all:Array Oper} {ops:List EOp} {af:List (List Nat)} {Φ:St→Prop} {m:Nat} {ld:List Bool} {nap:List (List Nat)} (h6:all.toList.mapM (AO c.P all)=some ops) (h8:Region.noSelect all=true) (hw:af=Bu all) (h9:nap=D7 all) (i:Nat) {l':List α} {j:Int} {v:α} {n k:Nat} {x y:X} (f:α→List AV) (hv:Ac l' j=some v)
  (hi:EN i (Bx ld af 0)=true) (ho:(Af ops i).o = .idx n x y) (hg:gm S (Af ops i).g) (hx:S.x x = .sl k (l'.map f)) (hy:S.x y = .iv j) (hA:k=n)
  (hf:EJ ld af i (Cv nap i)=true) (h:G c all ops af Φ m (Ay ld i) (S.put (Af ops i).d (.elt (f v) 0))):G c all ops af Φ (m+1) ld S:=by
 obtain ⟨h0,hr⟩:=DD hv;exact mD h6 h8 hw h9 i (f v) hi ho hg hx hy hA h0 (FJ hr) hf h
theorem LP {b:Nat} {l m v:List α} (h:AE b l m=some v):v=l++m∧(l.length+m.length)*b≤140737488355328∧l.length+m.length≤9223372036854775807:=by
 unfold AE at h;split at h
 ·rename_i h1;simp at h;exact ⟨h.symm,h1⟩
 ·simp at h
theorem Er {l' m' v:List α} {d:Option Nat} {g:Option (Nat×Bool)} {l:List EOp} {e n b j:Nat} {x y:X} (f:α→List AV) (hv:AE b l' m'=some v) (hg:gm S g) (hx:S.x x = .osl j) (hj:Ab S.ss j=some ⟨e,n,l'.map f⟩) (hy:Ef S n (S.x y)=some (m'.map f))
  (h':V c fn K (.ops l::k) ((S.app j ⟨e,n,v.map f⟩).put d (.osl (Ah S.ss)))):V c fn K (.ops (⟨d,g,.app e n b x y⟩::l)::k) S:=by
 obtain ⟨h0,h1,h2⟩:=LP hv;subst h0;rw [List.map_append] at h';exact mO hg hx hj rfl rfl hy (by simpa using h1) (by simpa using h2) h'
theorem mo {all:Array Oper} {ops:List EOp} {af:List (List Nat)} {Φ:St→Prop} {m:Nat} {ld:List Bool} {l' m' v:List α} (f:α→List AV) (hv:AE b l' m'=some v) (h6:all.toList.mapM (AO c.P all)=some ops) {i e n j:Nat} {x y:X} (ho:(Af ops i).o = .app e n b x y) (hg:gm S (Af ops i).g)
  (hx:S.x x = .osl j) (hj:Ab S.ss j=some ⟨e,n,l'.map f⟩) (hy:Ef S n (S.x y)=some (m'.map f))
  (h:G c all ops af Φ m (Ay ld i) ((S.app j ⟨e,n,v.map f⟩).put (Af ops i).d (.osl (Ah S.ss)))):GO c all ops af Φ m ld S i:=by
 obtain ⟨h0,h1,h2⟩:=LP hv;subst h0;rw [List.map_append] at h;exact mj h6 ho hg hx hj rfl rfl hy (by simpa using h1) (by simpa using h2) h
theorem mn {all:Array Oper} {ops:List EOp} {af:List (List Nat)} {Φ:St→Prop} {m:Nat} {ld:List Bool} {m' v:List α} (f:α→List AV) (hv:AE b [] m'=some v) (h6:all.toList.mapM (AO c.P all)=some ops) {i e n:Nat} {x y:X} (ho:(Af ops i).o = .app e n b x y) (hg:gm S (Af ops i).g)
  (hx:S.x x = .nl) (hy:Ef S n (S.x y)=some (m'.map f))
  (h:G c all ops af Φ m (Ay ld i) ((S.app0 ⟨e,n,v.map f⟩).put (Af ops i).d (.osl (Ah S.ss)))):GO c all ops af Φ m ld S i:=by
 obtain ⟨h0,h1,h2⟩:=LP hv;rw [List.nil_append] at h0;subst h0;exact Bz (S1:=S.app0 ⟨e,n,v.map f⟩) h6 hg (by rw [ho];exact la hx hy (by simpa using h1) (by simpa using h2)) rfl (by rw [ho];exact fun _ _ _ _ h _ _=>h) h
theorem mU (t:Nat) {e:Bool} (ht:AM S.tm t = .bv e) (h1:e=true→V c fn K k ⟨BC S.tm t .tt,S.bs,S.ss⟩) (h2:e=false→V c fn K k ⟨BC S.tm t .ff,S.bs,S.ss⟩):V c fn K k S:=by
 intro rk M a w hc hT;have Ap:∀x:AV,(∀v,(AV.bv e).is M v→x.is M v)→RelT c M ⟨BC S.tm t x,S.bs,S.ss⟩ a w:=by
  intro x hx;refine ⟨by rw [Ig];exact hT.len,fun u=>?_,hT.df,hT.st⟩;simp only [Fc];split
  ·rename_i hu;obtain ⟨rfl,_⟩:=hu;have:=hT.tm u;rw [ht] at this;exact hx _ this
  ·exact hT.tm u
 cases e with
 | true=>exact h1 rfl rk M a w hc (Ap _ fun v hv=>hv)
 | false=>exact h2 rfl rk M a w hc (Ap _ fun v hv=>hv)
theorem mG (t:Nat) {e:Bool} {A B:Option β} {r:β} (h:A0 e A B=some r) (ht:AM S.tm t = .bv e) (h1:e=true→A=some r→V c fn K k ⟨BC S.tm t .tt,S.bs,S.ss⟩) (h2:e=false→B=some r→V c fn K k ⟨BC S.tm t .ff,S.bs,S.ss⟩):V c fn K k S:=mU t ht (fun e1=>h1 e1 (by subst e1;exact h)) (fun e1=>h2 e1 (by subst e1;exact h))
theorem mI {body:σ→Option (σ ⊕ β)} {s0:σ} {r:β} (h:loop body s0=some r) (Sx:σ→St) (h0:S.le (Sx s0)) (hok:∀s,(Sx s).ok=true)
  (hp:∀s,AF c.np (Ah (Sx s).bs)=true) (hq:∀s,AF c.nq (Ah (Sx s).ss)=true)
  (hb:∀s y,body s=some y→(∀s',y = .inl s'→V c fn K k (Sx s'))→(∀r',y = .inr r'→r'=r)→V c fn K k (Sx s)):V c fn K k S:=by
 obtain ⟨n,hn⟩:=Hl.1 h;have Ap:∀n s,CC body n s=some r→V c fn K k (Sx s):=by
  intro n;induction n with
  | zero=>intro s hx;simp [CC] at hx
  | succ n ih=>
    intro s hx;simp only [CC] at hx;cases hy:body s with
    | none=>simp [hy] at hx
    | some y=>
      refine hb s y hy ?_ ?_
      ·rintro s' rfl;rw [hy] at hx;exact ih s' hx
      ·rintro r' rfl;rw [hy] at hx;exact Option.some.inj hx
 exact Uc _ h0 (hok _) (hp _) (hq _) (Ap n s0 hn)
theorem dl {s':σ} {y:σ ⊕ β} {Sx:σ→St} (h:some (Sum.inl s')=some y) (h6:∀s',y = .inl s'→V c fn K k (Sx s')) (hle:S.le (Sx s'):=by simp [go_sem]) (hok:(Sx s').ok=true:=by first | rfl | simp [go_sem]) (h8:AF c.np (Ah (Sx s').bs)=true:=by rfl) (hqn:AF c.nq (Ah (Sx s').ss)=true:=by rfl):V c fn K k S:=Uc _ hle hok h8 hqn (h6 s' (Option.some.inj h).symm)
theorem Eh {m:σ→Option β} {r:β} {s:σ} {Sx:σ→St} (J:∀s,m s=some r→V c fn K k (Sx s)) (h:m s=some r) (hle:S.le (Sx s):=by simp [go_sem]) (hok:(Sx s).ok=true:=by first | rfl | simp [go_sem]) (h6:AF c.np (Ah (Sx s).bs)=true:=by rfl) (hqn:AF c.nq (Ah (Sx s).ss)=true:=by rfl):V c fn K k S:=Uc _ hle hok h6 hqn (J s h)
end
structure CloOK (P:Program) (g:Nat) (caps:List AV) {α β:Type} (ar:α→List AV) (p:α→Option β) (rs:β→AV):Prop where
 b:(P.funcs[g]?).any (fun fn=>fn.body.isSome&&!(fn.name == "runtime.NumGoroutine"))=true
 pu:AB caps=true
 h:∀x r,p x=some r→C4 P g (ar x++caps) (rs r)
end NX
end Go.Proofs.YtgnjledocpbchaaGreat
/-
  The symbolic machine: own memory lent to a call, slices of slices, own elements. No statement of the seat is proved here.
-/
namespace Go.Proofs.YtgnjledocpbchaaGreat
namespace NX
open Go Go.RowKit
mutual
def AV.flat:AV→Bool
 | .ptr _ _ | .osl _ | .oel _ _ _ | .ocs _ _ _ _ | .elt _ _ | .sl _ _ | .clo _ _=>false
 | .agg l=>M9 l
 | .tup l=>M9 l
 | .any | .un | .tt | .ff | .bv _ | .iv _ | .kv _ _ | .sv _ | .nl | .nlp | .fn _=>true
def M9:List AV→Bool
 | []=>true
 | x::l=>BY x.flat (M9 l)
end
attribute [go_sem] AV.flat M9
mutual
theorem Zu {M M':Mem}:∀(x:AV) (v:Value),x.is M v→x.flat=true→x.is M' v
 | .any,_,_,_=>trivial
 | .un,_,k,_ | .tt,_,k,_ | .ff,_,k,_ | .bv _,_,k,_ | .iv _,_,k,_ | .kv _ _,_,k,_ | .sv _,_,k,_ | .nl,_,k,_ | .nlp,_,k,_ | .fn _,_,k,_=>k
 | .ptr _ _,_,_,h | .osl _,_,_,h | .oel _ _ _,_,_,h | .ocs _ _ _ _,_,_,h | .elt _ _,_,_,h | .sl _ _,_,_,h | .clo _ _,_,_,h=>by simp [AV.flat] at h
 | .agg l,_,⟨vs,h1,h2⟩,h=>⟨vs,h1,Zt l vs h2 (by simpa [AV.flat] using h)⟩
 | .tup l,_,⟨vs,h1,h2⟩,h=>⟨vs,h1,Zt l vs h2 (by simpa [AV.flat] using h)⟩
theorem Zt {M M':Mem}:∀(l:List AV) (vs:List Value),AV.isL M l vs→M9 l=true→AV.isL M' l vs
 | [],_,k,_=>k
 | x::l,_,⟨v,r,h1,h2,h3⟩,h=>by simp only [M9,AS] at h;exact ⟨v,r,h1,Zu x v h2 h.1,Zt l r h3 h.2⟩
end
def CT (S S':St):Prop:=∀(c:Ctx) M a w,RelT c M S a w→∃M',M.le M'∧RelT c M' S' a w
theorem CT.refl (S:St):CT S S:=fun _ M _ _ h=>⟨M,.refl M,h⟩
theorem CT.slice {S S1:St} (h:CT S S1) (j:Nat) {L:Sl} (hj:Ab S1.ss j=some L) (h6:BU L.rows=true:=by first | rfl | simp [go_sem]):CT S (S1.sealS j L):=fun c M a w hT=>
 let ⟨_,h1,h2⟩:=h c M a w hT
 let ⟨M2,h3,h4,_⟩:=TR j hj h6 h2
 ⟨M2,h1.trans h3,h4⟩
theorem CT.block {S S1:St} (h:CT S S1) (j:Nat) {B:Blk} (hj:Ab S1.bs j=some B) (hp:AB B.cells=true):CT S (S1.sealB j B.cells):=fun c M a w hT=>
 let ⟨_,h1,h2⟩:=h c M a w hT
 let ⟨M2,h3,h4⟩:=l6 j hj hp h2
 ⟨M2,h1.trans h3,h4⟩
section
variable {c:Ctx} {M:Mem} {S S':St} {a:Act} {w:World} {fn:Func} {K:AV→List (Option Blk)→List (Option Sl)→Prop} {k:List It}
theorem cw {f:Nat} {xs:List X} {args:List AV} {res:AV} (hs:CT S S') (hf:C4 c.P f args res)
  (ha:AV.le.leL (B6 S' xs) args) (hp:AB args=true) (h9:res.flat=true):B3 c S (.call f xs) res S:=by
 intro ro ho M a w hT next Q hn
 obtain ⟨dst,op,ty,pos,af,gd⟩:=ro;dsimp only at ho;obtain ⟨cargs,argTypes,rfl,hw,rfl⟩:=LW ho;obtain ⟨M1,_,h6⟩:=hs c M a w hT;have hm:=Fp _ _ (Et _ _ _ ha (Ge h6 cargs.toList)) hp;have hc:=hf M1.H w _ h6.st.hle h6.st.pin.gl hm;have h8:(execOp a.eval ⟨dst,.call ⟨.value (.func f),cargs,argTypes⟩,ty,pos,af,gd⟩).run c.P w = .ok (.enter f (cargs.map a.eval)) w:=by have he:a.eval (.func f) = .func (.func f) #[] #[]:=rfl;generalize a.eval=ρ at *;simp [execOp,resolve,Deferred.ofValue,invoke,he,I2 hw]
 unfold Oper.wp;rw [h8];show Calls c.P f (cargs.map a.eval) w _;have e1:(cargs.toList.map a.eval).toArray=cargs.map a.eval:=by apply Array.ext';simp
 rw [←e1];refine hc.mono ?_;rintro e w' ⟨v,H',rfl,hb,h1,h2,h3⟩;exact hn M w' v (.refl M) (hT.st.grow hb) (Zu _ _ h3 h9)
theorem wD {f:Nat} {o:X} {xs:List X} {caps args:List AV} {res:AV} (hs:CT S S') (ho:S'.x o = .clo f caps) (hf:C4 c.P f args res)
  (hw:(c.P.funcs[f]?).any (fun fn=>fn.body.isSome&&!(fn.name == "runtime.NumGoroutine"))=true)
  (ha:AV.le.leL (B6 S' xs++caps) args) (hp:AB args=true) (hA:res.flat=true):B3 c S (.callv o xs) res S:=by
 intro ro h8 M a w hT next Q hn
 obtain ⟨dst,op,ty,pos,af,gd⟩:=ro;dsimp only at h8;obtain ⟨t,cargs,argTypes,rfl,rfl,rfl⟩:=Zg h8;obtain ⟨M1,_,h6⟩:=hs c M a w hT;have hx:=Au h6 (.tmp t);rw [show S'.x (cX (.tmp t)) = .clo f caps from ho] at hx;obtain ⟨cv,hx1,hB⟩:=hx;have hm:=Fp _ _ (Et _ _ _ ha (Dw (Ge h6 cargs.toList) hB)) hp;have hc:=hf M1.H w _ h6.st.hle h6.st.pin.gl hm;have h9:(execOp a.eval ⟨dst,.call ⟨.value (.tmp t),cargs,argTypes⟩,ty,pos,af,gd⟩).run c.P w = .ok (.enter f (cargs.map a.eval++cv.toArray)) w:=by generalize a.eval=ρ at *;simp [execOp,resolve,Deferred.ofValue,invoke,hx1,I2 hw]
 unfold Oper.wp;rw [h9];show Calls c.P f (cargs.map a.eval++cv.toArray) w _;have e1:(cargs.toList.map a.eval++cv).toArray=cargs.map a.eval++cv.toArray:=by apply Array.ext';simp
 rw [←e1];refine hc.mono ?_;rintro e w' ⟨v,H',rfl,hb,h1,h2,h3⟩;exact hn M w' v (.refl M) (hT.st.grow hb) (Zu _ _ h3 hA)
theorem mS {d:Option Nat} {g:Option (Nat×Bool)} {f:Nat} {xs:List X} {l:List EOp} {args:List AV} {res:AV} (hg:gm S g) (hs:CT S S') (hf:C4 c.P f args res)
  (ha:AV.le.leL (B6 S' xs) args:=by first | exact AA _ | simp [go_sem]) (hp:AB args=true:=by first | rfl | simp [go_sem]) (h6:res.flat=true:=by rfl) (h:V c fn K (.ops l::k) (S.put d res)):V c fn K (.ops (⟨d,g,.call f xs⟩::l)::k) S:=
 Ba hg (cw hs hf ha hp h6) rfl h
section
variable {all:Array Oper} {ops:List EOp} {af:List (List Nat)} {Φ:St→Prop} {m:Nat} {ld:List Bool}
theorem mr (h6:all.toList.mapM (AO c.P all)=some ops) {i f:Nat} {xs:List X} {args:List AV} {res:AV} (ho:(Af ops i).o = .call f xs) (hg:gm S (Af ops i).g) (hs:CT S S') (hf:C4 c.P f args res)
  (ha:AV.le.leL (B6 S' xs) args:=by first | exact AA _ | simp [go_sem]) (hp:AB args=true:=by first | rfl | simp [go_sem]) (h8:res.flat=true:=by rfl) (h:G c all ops af Φ m (Ay ld i) (S.put (Af ops i).d res)):GO c all ops af Φ m ld S i:=
 Bz h6 hg (by rw [ho];exact cw hs hf ha hp h8) rfl (CB _ _) h
theorem LL (h6:all.toList.mapM (AO c.P all)=some ops) {i f:Nat} {o:X} {xs:List X} {caps args:List AV} {res:AV} (ho:(Af ops i).o = .callv o xs) (hg:gm S (Af ops i).g) (hs:CT S S') (hx:S'.x o = .clo f caps) (hf:C4 c.P f args res)
  (h8:(c.P.funcs[f]?).any (fun fn=>fn.body.isSome&&!(fn.name == "runtime.NumGoroutine"))=true) (ha:AV.le.leL (B6 S' xs++caps) args:=by first | exact AA _ | simp [go_sem]) (hp:AB args=true:=by first | rfl | simp [go_sem]) (h9:res.flat=true:=by rfl)
  (h:G c all ops af Φ m (Ay ld i) (S.put (Af ops i).d res)):GO c all ops af Φ m ld S i:=
 Bz h6 hg (by rw [ho];exact wD hs hx hf h8 ha hp h9) rfl (CB _ _) h
end
theorem U8 {α β:Type} {d:Option Nat} {g:Option (Nat×Bool)} {f:Nat} {o:X} {xs:List X} {l:List EOp} {caps:List AV} {ar:α→List AV} {p:α→Option β} {rs:β→AV} (hg:gm S g) (ho:S.x o = .clo f caps) (hc:CloOK c.P f caps ar p rs) {x:α} {v:β} (hv:p x=some v)
  (ha:AV.le.leL (B6 S xs) (ar x):=by first | exact AA _ | simp [go_sem]) (hp:AB (ar x)=true:=by first | rfl | simp [go_sem]) (h:V c fn K (.ops l::k) (S.put d (rs v))):V c fn K (.ops (⟨d,g,.callv o xs⟩::l)::k) S:=by
 have Ap:∀ {a b c:List AV},AV.le.leL a b→AV.le.leL (a++c) (b++c):=by
  intro a;induction a with
  | nil=>intro b c h;cases b with
    | nil=>exact AA c
    | cons _ _=>simp [AV.le.leL] at h
  | cons y a ih=>intro b c h;cases b with
    | nil=>simp [AV.le.leL] at h
    | cons z b=>exact ⟨h.1,ih h.2⟩
 have kp:∀ {a:List AV},AB a=true→AB (a++caps)=true:=by
  intro a;induction a with
  | nil=>intro _;exact hc.pu
  | cons y a ih=>intro h;simp only [AB,AS,List.cons_append] at h ⊢;exact ⟨h.1,ih h.2⟩
 exact mT hg ho (hc.h x v hv) hc.b (Ap ha) (kp hp) h
end
def Am (n:Int):List AV:=[.iv n]
def Zd (b:Bool):List AV:=[.bv b]
def xd (x:ByteArray):List AV:=[.sv x]
def s5 (k:IntKind) (n:Int):List AV:=[.kv k n]
def Ci {α:Type} (n:Nat) (f:α→List AV) (l:List α):List AV:=[.sl n (l.map f)]
def ln {α:Type} (f:α→List AV) (l:List α):Int:=((l.map f).length:Int)
theorem AY {α:Type} (f:α→List AV) (l:List α):ln f l=l.length:=by simp [ln]
attribute [go_sem] Am Zd xd s5 Ci ln
end NX
end Go.Proofs.YtgnjledocpbchaaGreat
