/-
  The symbolic machine: regions that draw their order. No statement of the seat is proved here.
-/
import Derived.StillTail
import Derived.Test.YtjemlejoladlcaaGreatL5
namespace Go.Proofs.YtjemlejoladlcaaGreat
namespace NX
open Go Go.RowKit
theorem ZT:∀(l:List Bool) (i:Nat),DJ l i=l.toArray.getD i true
 | [],i=>by simp [DJ]
 | b::l,0=>by simp [DJ]
 | b::l,i+1=>by have:=ZT l i;simp [DJ] at this ⊢;exact this
theorem UG:∀(l:List Bool) (i:Nat),CO l i=l.toArray.getD i false
 | [],i=>by simp [CO]
 | b::l,0=>by simp [CO]
 | b::l,i+1=>by have:=UG l i;simp [CO] at this ⊢;exact this
theorem Je:∀(l:List Bool) (i:Nat),(Au l i).toArray=l.toArray.setIfInBounds i true
 | [],i=>by simp [Au]
 | b::l,0=>by simp [Au]
 | b::l,i+1=>by have:=Je l i;simp at this;simp [Au,this]
theorem Jb (ld:List Bool):∀l:List Nat,HR ld l=true↔∀j∈l,CO ld j=true
 | []=>by simp [HR]
 | j::l=>by simp [HR,AO,Jb ld l]
theorem GW (ld:List Bool):∀(af:List (List Nat)) (A4 i:Nat),i∈Bz ld af A4↔A4≤i∧∃w,af[i-A4]?=some w∧DJ ld i=false∧HR ld w=true
 | [],A4,i=>by simp [Bz]
 | w::af,A4,i=>by
   have ih:=GW ld af (A4+1) i;have step:(A4+1≤i∧∃w,af[i-(A4+1)]?=some w∧DJ ld i=false∧HR ld w=true)↔(A4≤i∧i≠A4∧∃w',(w::af)[i-A4]?=some w'∧DJ ld i=false∧HR ld w'=true):=by
    constructor
    ·rintro ⟨h1,w',h2,h3⟩;exact ⟨Om,Om,w',by rw [show i-A4=(i-(A4+1))+1 from by omega];simpa using h2,h3⟩
    ·rintro ⟨h1,h2,w',h3,h4⟩;rw [show i-A4=(i-(A4+1))+1 from by omega] at h3;exact ⟨Om,w',by simpa using h3,h4⟩
   simp only [Bz];split
   ·rename_i hb;rw [ih,step];constructor
    ·rintro ⟨h1,_,h3⟩;exact ⟨h1,h3⟩
    ·rintro ⟨h1,w',h2,h3,h4⟩;refine ⟨h1,?_,w',h2,h3,h4⟩;rintro rfl;rw [hb] at h3;simp at h3
   ·rename_i hb;split
    ·rename_i hd;rw [List.mem_cons,ih,step];constructor
     ·rintro (rfl | ⟨h1,_,h3⟩)
      ·exact ⟨Nat.le_refl _,w,by simp,hb,hd⟩
      ·exact ⟨h1,h3⟩
     ·rintro ⟨h1,h2⟩;by_cases e:i=A4
      ·exact .inl e
      ·exact .inr ⟨h1,e,h2⟩
    ·rename_i hd;rw [ih,step];constructor
     ·rintro ⟨h1,_,h3⟩;exact ⟨h1,h3⟩
     ·rintro ⟨h1,w',h2,h3,h4⟩;refine ⟨h1,?_,w',h2,h3,h4⟩;rintro rfl;simp at h2;subst h2;rw [h4] at hd;simp at hd
theorem Lr (i:Nat):∀l:List Nat,EH i l=true↔i∈l
 | []=>by simp [EH]
 | j::l=>by
   simp only [EH];split
   ·rename_i h;simp at h;simp [h]
   ·rename_i h;simp at h;simp [h,Lr i l]
theorem jY (l:List (List Nat)) (i:Nat):Co l i=l.getD i []:=by
 induction l generalizing i with
 | nil=>simp [Co]
 | cons x l ih=>cases i<;>simp [Co,ih]
theorem sO {l:List EOp} {i:Nat} (h:i<l.length):l[i]?=some (A8 l i):=by
 induction l generalizing i with
 | nil=>simp at h
 | cons x l ih=>cases i with
   | zero=>simp [A8]
   | succ i=>simpa [A8] using ih (by simpa using h)
theorem YP {all:Array Oper} {ld:List Bool} {i:Nat}:i∈Region.ready .any all ld.toArray↔i∈Bz ld (HT all) 0:=by
 rw [mem_ready,GW];simp only [Nat.zero_le,true_and,Nat.sub_zero,HT,List.getElem?_map,Option.map_eq_some_iff,←ZT];constructor
 ·rintro ⟨h0,o,ho,h6⟩;refine ⟨_,⟨o,by simpa using ho,rfl⟩,h0,(Jb _ _).2 ?_⟩;intro j hj;rw [List.mem_filterMap] at hj;obtain ⟨e,he,hb⟩:=hj;split at hb
  ·rename_i h8;simp at hb;subst hb;rw [UG];exact h6 e (by simpa using he) h8
  ·simp at hb
 ·rintro ⟨w,⟨o,ho,rfl⟩,h0,hd⟩;rw [Jb] at hd;refine ⟨h0,o,by simpa using ho,fun e he hb=>?_⟩;have:=hd e.on (List.mem_filterMap.2 ⟨e,by simpa using he,by simp [hb]⟩);rw [UG] at this;exact this
def keeps (S S1:St) (o:EO):Prop:=∀j off n l,D3 S (.ptr j off) n=some l→AD l=true→(∀n a v j' off',o = .store n a v→S.x a = .ptr j' off'→j'≠j)→D3 S1 (.ptr j off) n=some l
def F3:EO→Bool
 | .load _=>true
 | .loadA _ _=>true
 | _=>false
def UZ (ops:List EOp) (af:List (List Nat)) (i:Nat):Prop:=∀k,F3 (A8 ops k).o=true→k∈Co af i∨i∈Co af k
def Ee (S:St):Option (Nat×Bool)→Prop
 | none=>False
 | some (t,f)=>match Gu S.tm t,f with
   | .tt,false=>True
   | .ff,true=>True
   | .un,_=>True
   | _,_=>False
def eZ (c:Ctx) (S:St) (ro:Oper) (v:AV) (S1:St):Prop:=
 ∀M a w,RelT c M S a w→∀(next:Act→World→Prop) (Q:Exit→Act→World→Prop),
  (∀M' w' x,M.le M'→RelS c M' S1.bs S1.ss w'→v.is M' x→next (a.put ro.dst x) w')→ro.wp c.P a w next Q
section
variable (c:Ctx) (all:Array Oper) (ops:List EOp) (af:List (List Nat)) (Φ:St→Prop)
def G:Nat→List Bool→St→Prop
 | 0,ld,S=>Bz ld af 0=[]∧Φ S
 | m+1,ld,S=>(Bz ld af 0=[]→Φ S)∧∀i∈Bz ld af 0,
   (Ee S (A8 ops i).g∧G m (Au ld i) (S.put (A8 ops i).d .un))∨
   (gm S (A8 ops i).g∧∃v S1,(∀ro,all[i]?=some ro→eZ c S ro v S1)∧S1.tm=S.tm∧(keeps S S1 (A8 ops i).o∨UZ ops af i)∧G m (Au ld i) (S1.put (A8 ops i).d v))
end
theorem jN (i:Nat):∀l:List Nat,IJ i l=true↔i∈l
 | []=>by simp [IJ]
 | j::l=>by
   simp only [IJ];split
   ·rename_i h;simp at h;simp [h]
   ·rename_i h;simp at h;simp [h,jN i l]
theorem ZG {x:Nat}:∀ {xs l:List Nat},x∈LS l xs↔x∈l∨x∈xs
 | [],l=>by simp [LS]
 | y::xs,l=>by
   simp only [LS];split
   ·rename_i h;rw [jN] at h;rw [ZG];simp only [List.mem_cons];constructor
    ·rintro (h1 | h1)
     ·exact .inl h1
     ·exact .inr (.inr h1)
    ·rintro (h1 | rfl | h1)
     ·exact .inl h1
     ·exact .inl h
     ·exact .inr h1
   ·rw [ZG];simp [List.mem_append,or_assoc]
theorem ZZ {acc:List (List Nat)} {x:Nat}:∀ {w l:List Nat},x∈PG acc l w↔x∈l∨∃k∈w,x∈Lt acc k
 | [],l=>by simp [PG]
 | k::w,l=>by simp only [PG,ZZ (w:=w),ZG,List.mem_cons,exists_eq_or_imp,or_assoc]
theorem jZ {k x:Nat}:∀ {acc:List (List Nat)},x∈Lt acc k→∃w,acc[k]?=some w∧x∈w
 | [],h=>by simp [Lt] at h
 | w::acc,h=>by
   cases k with
   | zero=>exact ⟨w,by simp,by simpa [Lt] using h⟩
   | succ k=>obtain ⟨v,h1,h2⟩:=jZ (acc:=acc) (by simpa [Lt] using h);exact ⟨v,by simpa using h1,h2⟩
theorem fW {D:Nat→Prop} {E:List (List Nat)} (h6:∀j w,E[j]?=some w→D j→∀x∈w,D x):∀(l acc pre:List (List Nat)),E=pre++l→acc.length=pre.length→
  (∀(j:Nat) (w w':List Nat),pre[j]?=some w→acc[j]?=some w'→(∀x∈w,x∈w')∧((∀x∈w,D x)→∀x∈w',D x))→
  (PF acc l).length=E.length∧∀(j:Nat) (w w':List Nat),E[j]?=some w→(PF acc l)[j]?=some w'→(∀x∈w,x∈w')∧((∀x∈w,D x)→∀x∈w',D x)
 | [],acc,pre,h,hl,hI=>by
   have:E=pre:=by simpa using h
   subst this;exact ⟨hl,hI⟩
 | w::l,acc,pre,h,hl,hI=>by
   simp only [PF];refine fW h6 l _ (pre++[w]) (by simp [h]) (by simp [hl]) fun j v v' hj hj'=>?_;by_cases hlt:j<pre.length
   ·rw [List.getElem?_append_left hlt] at hj;rw [List.getElem?_append_left Om] at hj';exact hI j v v' hj hj'
   ·have h8:j=pre.length:=by have:=(List.getElem?_eq_some_iff.1 hj).1;simp at this;omega
    subst h8;rw [List.getElem?_append_right (Nat.le_refl _)] at hj;rw [List.getElem?_append_right Om] at hj';rw [hl] at hj';simp at hj hj';subst hj;subst hj';refine ⟨fun x hx=>ZZ.2 (.inl hx),fun hD x hx=>?_⟩;rcases ZZ.1 hx with hx | ⟨k,hk,hx⟩
    ·exact hD x hx
    ·obtain ⟨wk',h1,h2⟩:=jZ hx;have h9:=(List.getElem?_eq_some_iff.1 h1).1;obtain ⟨wk,h3⟩:∃wk,pre[k]?=some wk:=⟨_,List.getElem?_eq_getElem Om⟩
     have h4:E[k]?=some wk:=by rw [h,List.getElem?_append_left Om];exact h3
     exact (hI k wk wk' h3 h1).2 (h6 k wk h4 (hD k hk)) x h2
def UO (all:Array Oper) (ld:List Bool):Prop:=∀j w,(HT all)[j]?=some w→CO ld j=true→∀x∈w,CO ld x=true
theorem fM {all:Array Oper} {D:Nat→Prop} (h6:∀j w,(HT all)[j]?=some w→D j→∀x∈w,D x):(Bn all).length=(HT all).length∧∀(j:Nat) (w w':List Nat),(HT all)[j]?=some w→(Bn all)[j]?=some w'→(∀x∈w,x∈w')∧((∀x∈w,D x)→∀x∈w',D x):=fW h6 (HT all) [] [] rfl rfl (fun j w w' h=>by simp at h)
theorem dm {all:Array Oper} {ld:List Bool} {i:Nat} (h:i∈Bz ld (Bn all) 0):i∈Region.ready .any all ld.toArray:=by
 rw [YP,GW];rw [GW] at h;obtain ⟨_,w',h1,h2,h3⟩:=h;obtain ⟨h6,hs⟩:=fM (all:=all) (D:=fun _=>True) (fun _ _ _ _ _ _=>trivial);simp only [Nat.sub_zero] at h1;have hlt:=(List.getElem?_eq_some_iff.1 h1).1;obtain ⟨w,hw⟩:∃w,(HT all)[i]?=some w:=⟨_,List.getElem?_eq_getElem Om⟩
 refine ⟨Nat.zero_le _,w,by simpa using hw,h2,?_⟩;rw [Jb] at h3 ⊢;exact fun j hj=>h3 j ((hs i w w' hw h1).1 j hj)
theorem lI {all:Array Oper} {ld:List Bool} {i:Nat} (hc:UO all ld) (h:i∈Region.ready .any all ld.toArray):i∈Bz ld (Bn all) 0:=by
 rw [YP,GW] at h;rw [GW];obtain ⟨_,w,h1,h2,h3⟩:=h;obtain ⟨h6,hs⟩:=fM (all:=all) (D:=fun x=>CO ld x=true) hc;simp only [Nat.sub_zero] at h1;have hlt:=(List.getElem?_eq_some_iff.1 h1).1;obtain ⟨w',hw'⟩:∃w',(Bn all)[i]?=some w':=⟨_,List.getElem?_eq_getElem Om⟩
 refine ⟨Nat.zero_le _,w',by simpa using hw',h2,?_⟩;rw [Jb] at h3 ⊢;exact (hs i w w' h1 hw').2 h3
theorem qq {ld:List Bool} {i j:Nat}:CO (Au ld i) j=true→CO ld j=true∨j=i:=by
 induction ld generalizing i j with
 | nil=>simp [Au,CO]
 | cons b l ih=>
   cases i with
   | zero=>cases j<;>simp [Au,CO]
   | succ i=>cases j with
     | zero=>simp [Au,CO]
     | succ j=>simpa [Au,CO] using fun h=>ih (i:=i) (j:=j) h
theorem ZU {ld:List Bool} {i j:Nat} (h:CO ld j=true):CO (Au ld i) j=true:=by
 induction ld generalizing i j with
 | nil=>simp [CO] at h
 | cons b l ih=>cases i<;>cases j<;>simp_all [Au,CO]
theorem fX {all:Array Oper} {ld:List Bool} {i:Nat} (hc:UO all ld) (h:i∈Region.ready .any all ld.toArray):UO all (Au ld i):=by
 intro j w hw hj x hx;rcases qq hj with h1 | rfl
 ·exact ZU (hc j w hw h1 x hx)
 ·rw [YP,GW] at h;obtain ⟨_,w2,h1,_,h3⟩:=h;simp only [Nat.sub_zero] at h1;rw [h1] at hw;simp at hw;subst hw;rw [Jb] at h3;exact ZU (h3 x hx)
theorem uh {c:Ctx} {M:Mem} {S:St} {a:Act} {w:World} {all:Array Oper} {ro:Oper} {o:EOp} (E:RelT c M S a w) (hc:AL c.P all ro=some o) (h:Ee S o.g):Region.wanted ro (yielded all a.tmps)=false:=by
 unfold AL at hc;cases hg:ro.guard with
 | none=>rw [hg] at hc;simp at hc;subst hc;exact h.elim
 | some jf=>
   obtain ⟨j,f⟩:=jf;rw [hg] at hc;dsimp only at hc;split at hc
   ·rename_i t ht;simp at hc;subst hc;have h6:=Zq (a:=a) ht;have h8:=Vq (E.tm t);simp only [Ee] at h;split at h
    ·rename_i hv;rw [hv] at h8;rw [show a.tmps.getD t undef = .bool true from h8] at h6;simp [Region.wanted,hg,h6]
    ·rename_i hv;rw [hv] at h8;rw [show a.tmps.getD t undef = .bool false from h8] at h6;simp [Region.wanted,hg,h6]
    ·rename_i hv;rw [hv] at h8;rw [show a.tmps.getD t undef=undef from h8] at h6;simp [undef] at h6;simp [Region.wanted,hg,h6]
    ·exact h.elim
   ·simp at hc
theorem ug {c:Ctx} {M:Mem} {S:St} {a:Act} {w:World} {all:Array Oper} {ro:Oper} {o:EOp} (E:RelT c M S a w) (hc:AL c.P all ro=some o) (h:gm S o.g):Region.wanted ro (yielded all a.tmps)=true:=by
 unfold AL at hc;cases hg:ro.guard with
 | none=>simp [Region.wanted,hg]
 | some jf=>
   obtain ⟨j,f⟩:=jf;rw [hg] at hc;dsimp only at hc;split at hc
   ·rename_i t ht;simp at hc;subst hc;have h6:=Zq (a:=a) ht;have h8:=Vq (E.tm t);simp only [gm] at h;split at h
    ·rename_i hv;rw [hv] at h8;rw [show a.tmps.getD t undef = .bool true from h8] at h6;simp [Region.wanted,hg,h6]
    ·rename_i hv;rw [hv] at h8;rw [show a.tmps.getD t undef = .bool false from h8] at h6;simp [Region.wanted,hg,h6]
    ·exact h.elim
   ·simp at hc
theorem LZ {P:Program} {all:Array Oper} {ro:Oper} {o:EOp} (hc:AL P all ro=some o):ro.dst=o.d∧cO P ro.op=o.o:=by
 unfold AL at hc;split at hc
 ·simp at hc;subst hc;exact ⟨rfl,rfl⟩
 ·split at hc
  ·simp at hc;subst hc;exact ⟨rfl,rfl⟩
  ·simp at hc
theorem OW {P:Program} {all:Array Oper} {ops:List EOp} (h6:all.toList.mapM (AL P all)=some ops) {i:Nat} {ro:Oper} (hi:all[i]?=some ro):AL P all ro=some (A8 ops i):=by obtain ⟨h1,h2⟩:=JZ h6;obtain ⟨y,h3,h4⟩:=h2 i ro (by simpa using hi);have:=sO (l:=ops) (i:=i) (List.getElem?_eq_some_iff.1 h3).1;rw [h3] at this;simp at this;rw [h4,this]
theorem Zw {c:Ctx} {all:Array Oper} {ops:List EOp} (h8:all.toList.mapM (AL c.P all)=some ops) {Φ:St→Prop} {Q:Exit→Act→World→Prop}
  (E:∀S,Φ S→∀M a w,RelT c M S a w→Q .normal a w):∀(m:Nat) (ld:List Bool) (S:St),G c all ops (Bn all) Φ m ld S→UO all ld→∀M a w,RelT c M S a w→wpAny c.P .any all Q m ld.toArray a w
 | 0,ld,S,h,h6,M,a,w,hT=>by
   refine ⟨?_,E S h.2 M a w hT⟩;cases hr:Region.ready .any all ld.toArray with
   | nil=>rfl
   | cons i r=>have:=lI h6 (show i∈Region.ready .any all ld.toArray by rw [hr];simp);rw [h.1] at this;simp at this
 | m+1,ld,S,h,h6,M,a,w,hT=>by
   refine ⟨fun hr=>E S (h.1 ?_) M a w hT,fun i hi=>?_⟩
   ·cases hr':Bz ld (Bn all) 0 with
    | nil=>rfl
    | cons i r=>have:=dm (show i∈Bz ld (Bn all) 0 by rw [hr'];simp);rw [hr] at this;simp at this
   ·have hw:=lI h6 hi;obtain ⟨_,ro,h9,_⟩:=mem_ready.1 hi;have hc:=OW h8 h9;obtain ⟨hd,_⟩:=LZ hc;unfold wpOp;rw [h9];dsimp only;rcases h.2 i hw with ⟨hg,hG⟩ | ⟨hg,v,S1,hs,hA,_,hG⟩
    ·rw [if_neg (by simp [uh hT hc hg]),←Je];refine Zw h8 E m _ _ hG (fX h6 hi) M _ w ?_;rw [←hd];exact hT.put ro.dst (.refl M) hT.st (v:=.un) rfl
    ·rw [if_pos (ug hT hc hg)];refine .inl (hs ro h9 M a w hT _ _ fun M' w' x h1 h2 h3=>?_);rw [←Je];refine Zw h8 E m _ _ hG (fX h6 hi) M' _ w' ?_;rw [←hd];have:=hT.put ro.dst h1 h2 h3;rw [←hA] at this;exact this
theorem RelT.drew {c:Ctx} {M:Mem} {S:St} {a:Act} {w:World} (h:RelT c M S a w):RelT c M S a {w with drawn:=w.drawn+1}:=⟨h.len,h.tm,h.df,h.st.drew⟩
def Ko:Nat→List Bool
 | 0=>[]
 | n+1=>false::Ko n
theorem ao:∀n,Ko n=List.replicate n false
 | 0=>rfl
 | n+1=>by simp [Ko,ao n,List.replicate_succ]
theorem qr (n j:Nat):CO (List.replicate n false) j=false:=by
 induction n generalizing j with
 | zero=>rfl
 | succ n ih=>cases j<;>simp [List.replicate_succ,CO,ih]
theorem sV (n:Nat):(Ko n).toArray=Array.replicate n false:=by rw [ao,List.toArray_replicate]
theorem pn {c:Ctx} {S:St} {fn:Func} {K:AV→List (Option Blk)→List (Option Sl)→Prop} {k:List It} {ops:List EOp} {af nap:List (List Nat)} (hm:c.P.follows .mixedOrders=true)
  (h:∀all,all.toList.mapM (AL c.P all)=some ops→Region.noSelect all=true→nap=CX all→af=Bn all→G c all ops af (fun S'=>V c fn K k S') (Aa ops) (Ko (Aa ops)) S):V c fn K (.code (.drw ops af nap)::k) S:=
 EX fun x hx rk M s w hr hT=>by
  obtain ⟨id,all,rfl,h6,hs,h8,h9⟩:=qI hx;have hn:all.size=Aa ops:=by rw [Bh,(JZ h6).1];simp
  refine wp_region_any hm ?_;rw [hn,←sV];have h0:=h all h6 hs h9 h8;subst h8;exact Zw h6 (fun S' hV M a w hT=>hV rk M a w hr hT) _ _ _ h0 (fun j w _ hj=>by rw [ao,qr] at hj;simp at hj) M s _ hT.drew
def rd (S:St) (o:EO):Option (AV×Prop):=
 match o with
 | .mv x=>some (S.x x,True)
 | .pick c a b=>match tf (S.x c) with
   | .tt=>some (S.x a,True)
   | .ff=>some (S.x b,True)
   | _=>none
 | .load x=>match D3 S (S.x x) 1 with
   | some l=>match AD l with
     | true=>some (AJ l 0,True)
     | false=>none
   | none=>none
 | .loadA n x=>match D3 S (S.x x) n with
   | some l=>match AD l with
     | true=>some (.agg l,True)
     | false=>none
   | none=>none
 | .nilchk x=>match S.x x with
   | .ptr j off=>some (.ptr j off,True)
   | .elt row off=>some (.elt row off,True)
   | .oel j k off=>some (.oel j k off,True)
   | .clo f caps=>some (.clo f caps,True)
   | _=>none
 | .bin op x y=>EZ op (S.x x) (S.x y)
 | .sbin op x y=>(Ph op (S.x x) (S.x y)).map fun r=>(r,True)
 | .slen x=>match S.x x with
   | .sv s=>some (.iv (Ze s),True)
   | _=>none
 | .eqs ng ks x y=>match S.x x,S.x y with
   | .agg l,.agg r=>(Kn ks l r).map fun e=>(.bv (GJ ng e),True)
   | _,_=>none
 | .bq ng x y=>match Gk (S.x x),Gk (S.x y) with
   | some a,some b=>some (.bv (GJ ng (a==b)),True)
   | _,_=>none
 | .not x=>match S.x x with
   | .tt=>some (.ff,True)
   | .ff=>some (.tt,True)
   | .bv e=>some (.bv (!e),True)
   | _=>none
 | .conv .i64 x=>match S.x x with
   | .iv a=>some (.iv (wr a),True)
   | .kv _ a=>some (.iv (wr a),True)
   | _=>none
 | .conv k x=>match S.x x with
   | .iv a=>some (Hx k (kw k a),True)
   | .kv _ a=>some (Hx k (kw k a),True)
   | _=>none
 | .fld off x=>match S.x x with
   | .ptr j o=>some (.ptr j (o+off),True)
   | .elt row o=>some (.elt row (o+off),True)
   | .oel j k o=>some (.oel j k (o+off),True)
   | _=>none
 | .build z ps=>(Fr z (G8 S ps)).map fun l=>(.agg l,True)
 | .ext x k=>match S.x x with
   | .tup l=>(Dr l k 1).map fun r=>(AJ r 0,True)
   | _=>none
 | .mkf f caps=>some (.clo f (B8 S caps),True)
 | .len x=>match S.x x with
   | .nl=>some (.iv 0,True)
   | .sl _ rows=>some (.iv rows.length,True)
   | _=>none
 | _=>none
theorem Z1b {M:Mem} {op:BinOp} {u v r:AV} (h:Ph op u v=some r):∃x,r.is M x:=by
 unfold Ph at h;split at h
 ·split at h
  ·cases op<;>simp only [Option.some.injEq,reduceCtorEq] at h<;>subst h<;>exact ⟨_,rfl⟩
  ·simp at h
 ·simp at h
theorem qt {M:Mem} {op:BinOp} {u v r:AV} {p:Prop} (h:EZ op u v=some (r,p)):∃x,r.is M x:=by
 have k0:∀(k:IntKind) (n:Int),∃x,(Hx k n).is M x:=fun k n=>⟨_,TS k n⟩
 have k1:∀ {op:BinOp} {k:IntKind} {a b:Int},HK op k a b=some (r,p)→∃x,r.is M x:=by intro op k a b h;cases op<;>simp only [HK,Option.some.injEq,Prod.mk.injEq,reduceCtorEq] at h<;>rw [←h.1]<;>exact k0 _ _
 cases u with
 | iv a=>cases v with
   | iv b=>cases op<;>simp only [EZ,Px,Option.some.injEq,Prod.mk.injEq,reduceCtorEq] at h<;>rw [←h.1]<;>exact ⟨_,rfl⟩
   | kv j b=>exact k1 h
   | _=>simp [EZ] at h
 | kv k a=>cases v with
   | iv b=>exact k1 h
   | kv j b=>
     simp only [EZ] at h;split at h
     ·split at h
      ·exact k1 h
      ·exact k1 h
      ·cases op<;>simp only [Py,Option.some.injEq,Prod.mk.injEq,reduceCtorEq] at h<;>rw [←h.1]<;>exact ⟨_,rfl⟩
     ·exact k1 h
   | _=>simp [EZ] at h
 | _=>simp [EZ] at h
theorem yw {S:St} {o:EO} {v:AV} {q:Prop} (h:rd S o=some (v,q)):ev S o=some (v,S,q):=by
 cases o<;>simp only [rd,reduceCtorEq] at h<;>simp only [ev]
 case mv x=>simp at h;simp [h]
 case pick c a b=>split at h<;>simp_all
 case load x=>
  split at h
  ·rename_i l hl;split at h<;>simp at h;rw [hl];simp [h]
  ·simp at h
 case loadA n x=>
  split at h
  ·rename_i l hl;split at h<;>simp at h;rw [hl];simp [h]
  ·simp at h
 case nilchk x=>split at h<;>rename_i he<;>(try (simp at h;done))<;>(try rw [he])<;>simp at h<;>simp [h]
 case bin op x y=>simp [h]
 case sbin op x y=>simp only [Option.map_eq_some_iff,Prod.mk.injEq] at h;obtain ⟨r,h1,rfl,rfl⟩:=h;simp [h1]
 case slen x=>split at h<;>simp_all
 case conv k x=>cases k<;>simp only at h ⊢ <;>split at h<;>simp_all
 case eqs ng ks x y=>
  split at h
  ·rename_i e1 e2
   try rw [e1,e2]
   simp only [Option.map_eq_some_iff,Prod.mk.injEq] at h;obtain ⟨e,h1,rfl,rfl⟩:=h;simp [h1]
  ·simp at h
 case bq ng x y=>
  split at h
  ·rename_i e1 e2
   try rw [e1,e2]
   simp at h;simp [h]
  ·simp at h
 case not x=>split at h<;>simp_all
 case fld off x=>split at h<;>rename_i he<;>(try (simp at h;done))<;>(try rw [he])<;>simp at h<;>simp [h]
 case build z ps=>simp only [Option.map_eq_some_iff,Prod.mk.injEq] at h;obtain ⟨l,hl,rfl,rfl⟩:=h;rw [hl];rfl
 case ext x k=>
  split at h
  ·rename_i e;simp only [Option.map_eq_some_iff,Prod.mk.injEq] at h;obtain ⟨l,hl,rfl,rfl⟩:=h
   try rw [e]
   simp [hl]
  ·simp at h
 case mkf f caps=>simp at h;simp [h]
 case len x=>split at h<;>simp_all
def Jo:EO→Bool
 | .store _ _ _=>true
 | _=>false
def OX:Bool→Bool→Bool
 | true,_=>true
 | false,b=>b
theorem YH (a b:Bool):OX a b=true↔a=true∨b=true:=by cases a<;>simp [OX]
def ED (ld:List Bool) (af:List (List Nat)) (i:Nat):List Nat→Bool
 | []=>true
 | j::l=>BS (OX (DJ ld j) (EH i (Co af j))) (ED ld af i l)
def GY (ld:List Bool) (af:List (List Nat)) (i:Nat):List EOp→Nat→Bool
 | [],_=>true
 | o::l,j=>BS (OX (DJ ld j) (match Jo o.o with | true=>EH i (Co af j) | false=>true)) (GY ld af i l (j+1))
theorem V1 {ld:List Bool} {af:List (List Nat)} {i:Nat}:∀ {l:List Nat},ED ld af i l=true↔∀j∈l,DJ ld j=true∨i∈Co af j
 | []=>by simp [ED]
 | j::l=>by simp [ED,AO,YH,Lr,V1 (l:=l)]
theorem dZ {ld:List Bool} {af:List (List Nat)} {i:Nat}:∀ {l:List EOp} {A4:Nat},GY ld af i l A4=true→∀j,j<l.length→DJ ld (A4+j)=true∨Jo (A8 l j).o=false∨i∈Co af (A4+j)
 | [],_,_,j,h=>by simp at h
 | o::l,A4,h,0,_=>by
   simp only [GY,AO,YH] at h;rcases h.1 with h1 | h1
   ·exact .inl h1
   ·cases hs:Jo o.o
    ·exact .inr (.inl hs)
    ·rw [hs] at h1;exact .inr (.inr ((Lr _ _).1 h1))
 | o::l,A4,h,j+1,hj=>by simp only [GY,AO] at h;have:=dZ h.2 j (by simpa using hj);rw [show A4+(j+1)=A4+1+j from by omega];exact this
theorem nE {ld:List Bool} {af:List (List Nat)} {i:Nat}:∀ {l:List EOp} {A4:Nat},(∀j,j<l.length→DJ ld (A4+j)=true∨Jo (A8 l j).o=false∨i∈Co af (A4+j))→GY ld af i l A4=true
 | [],_,_=>rfl
 | o::l,A4,h=>by
   simp only [GY,AO,YH];refine ⟨?_,nE fun j hj=>?_⟩
   ·rcases h 0 (by simp) with h1 | h1 | h1
    ·exact .inl h1
    ·right;rw [show Jo o.o=false from h1]
    ·right;cases Jo o.o
     ·rfl
     ·exact (Lr _ _).2 h1
   ·have:=h (j+1) (by simpa using hj);rw [show A4+1+j=A4+(j+1) from by omega];exact this
theorem ZS:∀ {ld:List Bool} {i j:Nat},DJ ld j=true→DJ (Au ld i) j=true
 | [],_,_,h=>h
 | _::_,0,0,_=>rfl
 | _::_,0,_+1,h=>h
 | _::_,_+1,0,h=>h
 | _::ld,i+1,j+1,h=>ZS (ld:=ld) (i:=i) (j:=j) h
theorem qE (ld:List Bool) {i j:Nat} (h:i≠j):Au (Au ld i) j=Au (Au ld j) i:=by apply List.toArray_inj;rw [Je,Je,Je,Je,Array.setIfInBounds_comm _ _ h]
theorem lF (S:St) (bs ss) {d e:Option Nat} (v u:AV) (h:∀x,d=some x→e≠some x):
  (⟨(S.put d v).tm,bs,ss⟩:St).put e u=(⟨(S.put e u).tm,bs,ss⟩:St).put d v:=by
 cases d with
 | none=>cases e<;>rfl
 | some d=>cases e with
   | none=>rfl
   | some e=>
     have hne:d≠e:=fun x=>h d rfl (by rw [x]);simp only [St.put,St.mk.injEq,and_true];clear h;generalize S.tm=l;revert d e;induction l with
     | nil=>intro d e _;rfl
     | cons y l ih=>
       intro d e hne;cases d with
       | zero=>cases e with
         | zero=>omega
         | succ e=>rfl
       | succ d=>cases e with
         | zero=>rfl
         | succ e=>simp only [BL,List.cons.injEq,true_and];exact ih d e Om
theorem Z22 {P:Program} {all:Array Oper} {o:Oper} (h9:∀cs b,o.op≠ .select cs b) {a:Act} {w:World} {d:Tmp} {x:Value} (hl:d∉o.looksAt all) (J:o.dst≠some d)
  {E:Act→World→Prop} {Q:Exit→Act→World→Prop} (h:o.wp P (a.put (some d) x) w (fun b w'=>E (b.put (some d) (a.tmps.getD d undef)) w') fun _ _ _=>False):o.wp P a w E Q:=by
 have h6:∀(ds:List Deferred) (y:Value),(((⟨a.tmps,ds⟩:Act).put (some d) x).put o.dst y).put (some d) (a.tmps.getD d undef)=(⟨a.tmps,ds⟩:Act).put o.dst y:=by
  intro ds y;have h1:((⟨a.tmps,ds⟩:Act).put (some d) x).put (some d) (a.tmps.getD d undef)=⟨a.tmps,ds⟩:=by
   obtain ⟨tm,df⟩:=a;simp only [Act.put,Act.mk.injEq,and_true];rw [Array.setIfInBounds_setIfInBounds];apply Array.ext';simp only [Array.toList_setIfInBounds];apply List.ext_getElem?;intro j;rw [List.getElem?_set];split
   ·rename_i e;subst e;split
    ·rename_i h;simp at h;simp [h]
    ·rename_i h;simp at h;simp [h]
   ·rfl
  cases hw:o.dst with
  | none=>exact h1
  | some e=>
    have hne:e≠d:=fun x=>J (by rw [hw,x]);have h2:(((⟨a.tmps,ds⟩:Act).put (some d) x).put (some e) y).put (some d) (a.tmps.getD d undef)=(((⟨a.tmps,ds⟩:Act).put (some d) x).put (some d) (a.tmps.getD d undef)).put (some e) y:=by simp only [Act.put,Act.mk.injEq,and_true];rw [Array.setIfInBounds_comm _ _ hne]
    rw [h2,h1]
 unfold Oper.wp at h ⊢;rw [execOp_put (ops:=all) o h9 a (some d) x (fun e he=>by simp at he;subst he;exact hl)] at h;cases h8:(execOp a.eval o).run P w with
 | halt hh w'=>rw [h8] at h;cases hh<;>first | exact h.elim | exact h
 | ok n w'=>
   rw [h8] at h;cases n<;>first | exact h.elim | skip
   case value v=>have:=h6 a.defers v;simp only [Oper.upon] at h ⊢;rw [this] at h;exact h
   case skip=>have:=h6 a.defers undef;simp only [Oper.upon] at h ⊢;rw [this] at h;exact h
   case defer q=>have:=h6 (q::a.defers) undef;simp only [Oper.upon] at h ⊢;rw [←this];exact h
   case enter f args=>
    simp only [Oper.upon] at h ⊢;refine h.mono ?_;intro e w'' he;cases e with
    | returned v=>have:=h6 a.defers v;dsimp only at he ⊢;rw [this] at he;exact he
    | panicked ch=>exact he.elim
    | outgrown=>obtain ⟨_,_,he⟩:=he;exact he.elim
   case row r args=>simp only [Oper.upon] at h ⊢;refine h.mono ?_;intro v w'' he;have:=h6 a.defers v;rw [this] at he;exact he
theorem fm {o:Operand} {t:Nat} (h:cX o = .t t):o = .tmp t:=by cases o<;>simp [cX] at h;rw [h]
def ZH (S S':St) (ro:Op):Prop:=∀o∈ro.operands,S'.x (cX o)=S.x (cX o)
theorem jK {S S':St}:∀ {l:List Operand},(∀o∈l,S'.x (cX o)=S.x (cX o))→B8 S' (l.map cX)=B8 S (l.map cX)
 | [],_=>rfl
 | o::l,h=>by simp only [List.map_cons,B8];rw [h o (by simp),jK (fun x hx=>h x (by simp [hx]))]
theorem cw {S S':St}:∀ {l:List (Nat×Nat×X)},(∀p∈l,S'.x p.2.2=S.x p.2.2)→G8 S' l=G8 S l
 | [],_=>rfl
 | (i,n,x)::l,h=>by simp only [G8];rw [h (i,n,x) (by simp),cw (fun p hp=>h p (by simp [hp]))]
theorem yv {P:Program} {S S':St} {ro:Op} {v:AV} {q:Prop} (ha:ZH S S' ro) (hr:F3 (cO P ro)=true→∀x n l,x∈ro.operands→D3 S (S.x (cX x)) n=some l→AD l=true→D3 S' (S.x (cX x)) n=some l)
  (h:rd S (cO P ro)=some (v,q)):rd S' (cO P ro)=some (v,q):=by
 cases ro with
 | move x=>simp only [cO,rd] at h ⊢;rw [ha x (by simp [Op.operands])];exact h
 | assign x=>simp only [cO,rd] at h ⊢;rw [ha x (by simp [Op.operands])];exact h
 | pick c a b=>simp only [cO,rd] at h ⊢;rw [ha c (by simp [Op.operands]),ha a (by simp [Op.operands]),ha b (by simp [Op.operands])];exact h
 | load T x=>
   have hx:=ha x (by simp [Op.operands]);simp only [cO] at h hr ⊢;split at h
   ·rename_i h1;simp only [h1] at hr ⊢;simp only [rd] at h ⊢;rw [hx];split at h
    ·rename_i l hl;split at h
     ·rename_i hp;rw [hr rfl x 1 l (by simp [Op.operands]) hl hp];simp only [hp];exact h
     ·simp at h
    ·simp at h
   ·rename_i h1;simp only [h1] at hr ⊢;simp only [rd] at h ⊢;rw [hx];split at h
    ·rename_i l hl;split at h
     ·rename_i hp;rw [hr rfl x _ l (by simp [Op.operands]) hl hp];simp only [hp];exact h
     ·simp at h
    ·simp at h
   ·simp [rd] at h
 | nilCheck x=>simp only [cO,rd] at h ⊢;rw [ha x (by simp [Op.operands])];exact h
 | binOp op T x y T2=>
   have hx:=ha x (by simp [Op.operands]);have hy:=ha y (by simp [Op.operands]);simp only [cO] at h ⊢;split at h
   ·rename_i h1;split at h
    ·rename_i h2;simp only [h2,if_true];simp only [rd] at h ⊢;rw [hx,hy];exact h
    ·simp [rd] at h
   ·split at h
    ·rename_i h3 h4;cases op<;>simp only [rd,reduceCtorEq] at h ⊢ <;>rw [hx,hy]<;>exact h
    ·simp [rd] at h
   ·simp only [rd] at h ⊢;rw [hx,hy];exact h
   ·cases op<;>simp only [rd,reduceCtorEq] at h ⊢ <;>rw [hx,hy]<;>exact h
   ·split at h
    ·split at h<;>simp [rd] at h
    ·simp [rd] at h
   ·simp [rd] at h
   ·simp [rd] at h
 | unOp op T x=>have hx:=ha x (by simp [Op.operands]);cases op<;>simp only [cO,rd,reduceCtorEq] at h ⊢;rw [hx];exact h
 | convert A B x=>
   have hx:=ha x (by simp [Op.operands]);simp only [cO] at h ⊢;split at h
   ·rename_i k l hA hB;cases l<;>simp only [rd] at h ⊢ <;>rw [hx]<;>exact h
   ·split at h<;>simp [rd] at h
   ·simp [rd] at h
 | fieldAddr T x f=>
   have hx:=ha x (by simp [Op.operands]);simp only [cO] at h ⊢;split at h
   ·rename_i h1;split at h
    ·rename_i h2;split at h
     ·rename_i h3;simp only [h3,if_true];simp only [rd] at h ⊢;rw [hx];exact h
     ·simp [rd] at h
    ·simp [rd] at h
   ·simp [rd] at h
 | build T ps=>
   have hps:∀p∈ps.toList,S'.x (cX p.2)=S.x (cX p.2):=fun p hp=>ha p.2 (by simp [Op.operands];exact ⟨p.1,by simpa using hp⟩);simp only [cO] at h ⊢;split at h
   ·rename_i h1 h2;split at h
    ·rename_i pl h8;split at h
     ·rename_i l hl;simp only [rd] at h ⊢;rw [cw (S:=S) (S':=S') (l:=l)]
      ·exact h
      ·intro p hp;obtain ⟨k,hk⟩:=List.mem_iff_getElem?.1 hp;obtain ⟨g1,g2⟩:=JZ hl;have hlt:k<ps.toList.length:=by rw [←g1];exact (List.getElem?_eq_some_iff.1 hk).1
       obtain ⟨y,hy,hf⟩:=g2 k _ (List.getElem?_eq_getElem hlt);rw [hk] at hy;simp only [Option.some.injEq] at hy;subst hy;simp only [Option.map_eq_some_iff] at hf;obtain ⟨on,_,rfl⟩:=hf;exact hps _ (List.getElem_mem hlt)
     ·simp [rd] at h
    ·simp [rd] at h
   ·rename_i h1 h2;split at h
    ·rename_i h3;simp only [rd] at h ⊢;rw [cw (S:=S) (S':=S')]
     ·exact h
     ·intro p hp;rw [List.mem_map] at hp;obtain ⟨q,hq,rfl⟩:=hp;exact hps q hq
    ·simp [rd] at h
   ·simp [rd] at h
 | extract x k=>simp only [cO,rd] at h ⊢;rw [ha x (by simp [Op.operands])];exact h
 | makeFunc f fi cs=>
   simp only [cO] at h ⊢;split at h
   ·split at h
    ·rename_i h2;simp only [h2,if_true];simp only [rd] at h ⊢;rw [jK (fun o ho=>ha o (by simp [Op.operands];right;simpa using ho))];exact h
    ·simp [rd] at h
   ·simp [rd] at h
 | call ci=>
   obtain ⟨callee,cargs,argTypes⟩:=ci;have hx:∀o∈cargs.toList,S'.x (cX o)=S.x (cX o):=fun o ho=>ha o (by simp [Op.operands,Call.operands];right;simpa using ho);cases callee with
   | value o=>cases o<;>(simp only [cO] at h)<;>(try split at h)<;>simp [rd] at h
   | invoke _ _=>simp [cO,rd] at h
   | builtin b=>
     cases b<;>simp only [cO] at h ⊢ <;>(try (simp [rd] at h;done))<;>(try ((repeat' (split at h))<;>simp [rd] at h;done))
     ·split at h
      ·rename_i t0 x h0 h6;split at h
       ·rename_i h1;simp only [rd] at h ⊢;rw [hx x (by rw [h6];simp)];exact h
       ·rename_i h1;simp only [rd] at h ⊢;rw [hx x (by rw [h6];simp)];exact h
       ·simp [rd] at h
      ·simp [rd] at h
 | alloc T=>simp only [cO] at h;split at h<;>simp [rd] at h
 | box T x=>simp only [cO] at h;split at h<;>simp [rd] at h
 | buildSlice T n ps=>simp only [cO] at h;(repeat' (split at h))<;>simp [rd] at h
 | store T x y=>simp only [cO] at h;(repeat' (split at h))<;>simp [rd] at h
 | field T x f=>simp only [cO] at h;(repeat' (split at h))<;>simp [rd] at h
 | indexAddr T x f=>simp only [cO] at h;(repeat' (split at h))<;>simp [rd] at h
 | index T x i=>simp only [cO] at h;(repeat' (split at h))<;>simp [rd] at h
 | slice T x lo hi mx=>simp only [cO] at h;(repeat' (split at h))<;>simp [rd] at h
 | makeSlice T x y=>simp only [cO] at h;(repeat' (split at h))<;>simp [rd] at h
 | _=>simp [cO,rd] at h
theorem gv {M:Mem}:∀ {E:List (Nat×Nat×AV)} {J:List AV} {z:List Value} {l:List AV},AV.isL M J z→(∀p∈E,∀cs,p.2.2.cells=some cs→∃vs,AV.isL M cs vs)→Fr J E=some l→∃r,AV.isL M l r
 | [],J,z,l,hz,_,h=>by simp [Fr] at h;subst h;exact ⟨z,hz⟩
 | (o,n,x)::E,J,z,l,hz,hp,h=>by
   simp only [Fr] at h;split at h
   ·rename_i cs h8;split at h
    ·split at h
     ·rename_i z' hz';obtain ⟨rfl,hle⟩:=MB hz';obtain ⟨vs,h6⟩:=hp (o,n,x) (by simp) cs h8;have hl:=D5 h6;refine gv (z:=z.take o++vs++z.drop (o+cs.length)) (BH (BH (FZ o hz) h6) (FY _ hz)) (fun p hq=>hp p (by simp [hq])) h
     ·simp at h
    ·simp at h
   ·simp at h
theorem i5 {M:Mem} {l:List AV} {vs:List Value} (h:AV.isL M l vs) (h1:0<l.length):∃x,(AJ l 0).is M x:=by
 cases l with
 | nil=>simp at h1
 | cons y l=>obtain ⟨v,_,_,hv,_⟩:=h;exact ⟨v,hv⟩
theorem yx {c:Ctx} {M:Mem} {S:St} {a:Act} {w:World} (E:RelT c M S a w) {ro:Op} {v:AV} {q:Prop} (h:rd S (cO c.P ro)=some (v,q)):∃x,v.is M x:=by
 have X0:∀x:X,(∃o:Operand,cX o=x)→∃u,(S.x x).is M u:=by rintro x ⟨o,rfl⟩;exact ⟨_,Ak E o⟩
 cases ro with
 | move x=>simp only [cO,rd,Option.some.injEq,Prod.mk.injEq] at h;rw [←h.1];exact ⟨_,Ak E x⟩
 | assign x=>simp only [cO,rd,Option.some.injEq,Prod.mk.injEq] at h;rw [←h.1];exact ⟨_,Ak E x⟩
 | pick p x y=>
   simp only [cO,rd] at h;split at h<;>simp at h
   ·rw [←h.1];exact ⟨_,Ak E x⟩
   ·rw [←h.1];exact ⟨_,Ak E y⟩
 | load T x=>
   have hx:=Ak E x;simp only [cO] at h;split at h<;>simp only [rd,reduceCtorEq] at h
   ·split at h
    ·rename_i l hl;split at h<;>simp at h;rw [←h.1];obtain ⟨_,_,vs,_,h2,h3,_⟩:=P5 E hx hl;exact i5 h2 (by have:=D5 h2;omega)
    ·simp at h
   ·split at h
    ·rename_i l hl;split at h<;>simp at h;rw [←h.1];obtain ⟨_,_,vs,_,h2,h3,_⟩:=P5 E hx hl;exact ⟨_,vs,rfl,h2⟩
    ·simp at h
 | nilCheck x=>have hx:=Ak E x;simp only [cO,rd] at h;split at h<;>rename_i hv<;>simp at h<;>(rw [←h.1];rw [hv] at hx;exact ⟨_,hx⟩)
 | binOp op T x y T2=>
   simp only [cO] at h;split at h
   ·split at h
    ·simp only [rd] at h;exact qt h
    ·simp [rd] at h
   ·split at h
    ·split at h<;>simp only [rd,reduceCtorEq] at h
     all_goals
      split at h
      ·simp only [Option.map_eq_some_iff,Prod.mk.injEq] at h;obtain ⟨e,h1,rfl,_⟩:=h;exact ⟨_,rfl⟩
      ·simp at h
    ·simp [rd] at h
   ·simp only [rd,Option.map_eq_some_iff,Prod.mk.injEq] at h;obtain ⟨r,h1,rfl,_⟩:=h;exact Z1b h1
   ·split at h<;>simp only [rd,reduceCtorEq] at h
    all_goals
     split at h<;>simp only [Option.some.injEq,Prod.mk.injEq,reduceCtorEq] at h;rw [←h.1];exact ⟨_,rfl⟩
   ·split at h
    ·split at h<;>simp [rd] at h
    ·simp [rd] at h
   ·simp [rd] at h
   ·simp [rd] at h
 | unOp op T x=>cases op<;>simp only [cO,rd,reduceCtorEq] at h;split at h<;>simp at h<;>rw [←h.1]<;>exact ⟨_,rfl⟩
 | fieldAddr T x f=>
   have hx:=Ak E x;simp only [cO] at h;split at h
   ·split at h
    ·split at h
     ·simp only [rd] at h;split at h<;>rename_i hv<;>simp at h<;>rw [←h.1]<;>rw [hv] at hx
      ·exact ⟨_,hx.1,rfl⟩
      ·obtain ⟨ad,vs,_,h2,h3⟩:=hx;exact ⟨_,ad,vs,rfl,h2,h3⟩
      ·obtain ⟨h0,g,n,cp,h1,_⟩:=hx;exact ⟨_,h0,g,n,cp,h1,rfl⟩
     ·simp [rd] at h
    ·simp [rd] at h
   ·simp [rd] at h
 | build T ps=>
   have Af:∀ {z:List AV} {zs:List Value} {l:List (Nat×Nat×X)},AV.isL M z zs→(∀p∈l,∃o:Operand,cX o=p.2.2)→rd S (.build z l)=some (v,q)→∃x,v.is M x:=by
    intro z zs l hz hl h;simp only [rd,Option.map_eq_some_iff,Prod.mk.injEq] at h;obtain ⟨r,hr,rfl,_⟩:=h;obtain ⟨u,hu⟩:=gv hz (fun p hp cs hc=>by
     obtain ⟨k,hk⟩:=List.mem_iff_getElem?.1 hp;have hlt:k<l.length:=by rw [←Yf S l];exact (List.getElem?_eq_some_iff.1 hk).1
     have h1:=Ye S l k l[k].1 l[k].2.1 l[k].2.2 (List.getElem?_eq_getElem hlt);rw [hk] at h1;simp at h1;obtain ⟨o,ho⟩:=hl _ (List.getElem_mem hlt);subst h1;dsimp only at hc;rw [←ho] at hc;exact ⟨_,UL E o cs hc⟩) hr
    exact ⟨_,u,rfl,hu⟩
   simp only [cO] at h;split at h
   ·rename_i hz;obtain ⟨_,u,_,_,_,rfl⟩:=LJ hz;split at h
    ·split at h
     ·rename_i l hl;refine Af (FO M _) ?_ h;intro p hp;obtain ⟨k,hk⟩:=List.mem_iff_getElem?.1 hp;obtain ⟨g1,g2⟩:=JZ hl;have hlt:k<ps.toList.length:=by rw [←g1];exact (List.getElem?_eq_some_iff.1 hk).1
      obtain ⟨y,hy,hf⟩:=g2 k _ (List.getElem?_eq_getElem hlt);rw [hk] at hy;simp only [Option.some.injEq] at hy;subst hy;simp only [Option.map_eq_some_iff] at hf;obtain ⟨on,_,rfl⟩:=hf;exact ⟨_,rfl⟩
     ·simp [rd] at h
    ·simp [rd] at h
   ·rename_i hz;obtain ⟨_,u,_,_,_,rfl⟩:=LJ hz;split at h
    ·refine Af (FO M _) ?_ h;intro p hp;rw [List.mem_map] at hp;obtain ⟨q,_,rfl⟩:=hp;exact ⟨_,rfl⟩
    ·simp [rd] at h
   ·simp [rd] at h
 | extract x k=>
   have hx:=Ak E x;simp only [cO,rd] at h;split at h
   ·rename_i l hv;simp only [Option.map_eq_some_iff,Prod.mk.injEq] at h;obtain ⟨r,hr,rfl,_⟩:=h;obtain ⟨rfl,hle⟩:=Kv hr;rw [hv] at hx;obtain ⟨vs,_,h2⟩:=hx;exact i5 (FZ 1 (FY k h2)) (by simp;omega)
   ·simp at h
 | makeFunc f fi cs=>
   simp only [cO] at h;split at h
   ·split at h
    ·simp only [rd,Option.some.injEq,Prod.mk.injEq] at h;rw [←h.1];exact ⟨_,_,rfl,G9 E cs.toList⟩
    ·simp [rd] at h
   ·simp [rd] at h
 | call ci=>
   obtain ⟨callee,cargs,argTypes⟩:=ci;cases callee with
   | value o=>cases o<;>(simp only [cO] at h)<;>(try split at h)<;>simp [rd] at h
   | invoke _ _=>simp [cO,rd] at h
   | builtin b=>
     cases b<;>simp only [cO] at h<;>(try (simp [rd] at h;done))<;>(try ((repeat' (split at h))<;>simp [rd] at h;done))
     ·split at h
      ·split at h
       ·simp only [rd] at h;split at h<;>simp at h<;>rw [←h.1]<;>exact ⟨_,rfl⟩
       ·simp only [rd] at h;split at h<;>simp at h;rw [←h.1];exact ⟨_,rfl⟩
       ·simp [rd] at h
      ·simp [rd] at h
 | convert A B x=>
   simp only [cO] at h;split at h
   ·rename_i k l hA hB;cases l<;>simp only [rd] at h<;>split at h<;>simp only [Option.some.injEq,Prod.mk.injEq,reduceCtorEq] at h<;>rw [←h.1]<;>first | exact ⟨_,TS _ _⟩ | exact ⟨_,rfl⟩
   ·split at h<;>simp [rd] at h
   ·simp [rd] at h
 | alloc T=>simp only [cO] at h;split at h<;>simp [rd] at h
 | box T x=>simp only [cO] at h;split at h<;>simp [rd] at h
 | buildSlice T n ps=>simp only [cO] at h;(repeat' (split at h))<;>simp [rd] at h
 | store T x y=>simp only [cO] at h;(repeat' (split at h))<;>simp [rd] at h
 | field T x f=>simp only [cO] at h;(repeat' (split at h))<;>simp [rd] at h
 | indexAddr T x f=>simp only [cO] at h;(repeat' (split at h))<;>simp [rd] at h
 | index T x i=>simp only [cO] at h;(repeat' (split at h))<;>simp [rd] at h
 | slice T x lo hi mx=>simp only [cO] at h;(repeat' (split at h))<;>simp [rd] at h
 | makeSlice T x y=>simp only [cO] at h;(repeat' (split at h))<;>simp [rd] at h
 | _=>simp [cO,rd] at h
theorem bA {S:St} {d:Option Nat} {v:AV} {t:Nat} (h:d≠some t):AJ (S.put d v).tm t=AJ S.tm t:=by
 cases d with
 | none=>rfl
 | some d=>simp only [St.put,F6];rw [if_neg (fun e=>h (by rw [e.1]))]
theorem oi {S:St} {d:Option Nat} {v:AV} {x:X} (h:∀t,x = .t t→d≠some t):(S.put d v).x x=S.x x:=by
 cases x with
 | t n=>exact bA (h n rfl)
 | c a=>rfl
 | bad=>rfl
theorem dl (S:St) (d:Option Nat) (v:AV):(S.put d v).bs=S.bs∧(S.put d v).ss=S.ss:=by cases d<;>exact ⟨rfl,rfl⟩
theorem Ly {S S':St} (h:S'.bs=S.bs) (x:AV) (n:Nat):D3 S' x n=D3 S x n:=by unfold D3;rw [h]
theorem lh {all:Array Oper} {ro:Oper} {t:Tmp} (h:Operand.tmp t∈ro.op.operands):t∈ro.looksAt all:=List.mem_append_left _ (List.mem_filterMap.2 ⟨.tmp t,by simpa using h,rfl⟩)
theorem gY {P:Program} {all:Array Oper} {ro:Oper} {o:EOp} (hc:AL P all ro=some o) {t:Nat} {f:Bool} (hg:o.g=some (t,f)):t∈ro.looksAt all:=by
 unfold AL at hc;cases h:ro.guard with
 | none=>rw [h] at hc;simp at hc;subst hc;simp at hg
 | some jf=>
   obtain ⟨j,f'⟩:=jf;rw [h] at hc;dsimp only at hc;split at hc
   ·rename_i t' ht;simp at hc;subst hc;simp at hg;obtain ⟨rfl,rfl⟩:=hg;exact List.mem_append_right _ (by simp [h,ht])
   ·simp at hc
theorem qb {all:Array Oper} {ro:Oper} {S:St} {d:Option Nat} {v:AV} (h:∀t,d=some t→t∉ro.looksAt all):ZH S (S.put d v) ro.op:=by intro o ho;refine oi fun t ht hd=>?_;have:=fm ht;subst this;exact h t hd (lh ho)
theorem gS {S S':St} {g:Option (Nat×Bool)} (h:∀t f,g=some (t,f)→AJ S'.tm t=AJ S.tm t):gm S' g=gm S g∧Ee S' g=Ee S g:=by
 cases g with
 | none=>exact ⟨rfl,rfl⟩
 | some tf=>obtain ⟨t,f⟩:=tf;simp only [gm,Ee,Gu,h t f rfl,and_self]
theorem xd {all:Array Oper} {i j:Nat} {x y:Oper} (hi:all[i]?=some x) (hj:all[j]?=some y) (hne:j≠i) (h:j∉Co (CX all) i):x.apart all y=true:=by
 have hi':i<all.size:=(Array.getElem?_eq_some_iff.1 hi).1;have hj':j<all.size:=(Array.getElem?_eq_some_iff.1 hj).1;rw [jY,CX,List.getD_eq_getElem?_getD,List.getElem?_map,List.getElem?_range hi'] at h;simp only [Option.map_some,Option.getD_some,List.mem_filter,List.mem_range,hj',true_and,hi,hj] at h;cases hh:x.apart all y
 ·exact absurd (by simp [hh,hne.symm]) h
 ·rfl
theorem Cg (S:St) (o:EO):keeps S S o:=fun _ _ _ _ h _ _=>h
theorem fE {ld:List Bool} {i:Nat} (h:DJ ld i=false):CO ld i=false:=by rw [ZT] at h;rw [UG];exact getD_both h
theorem lJ {all:Array Oper} {ld:List Bool} {j:Nat} (h:j∈Bz ld (Bn all) 0):DJ ld j=false∧(∀i∈Co (Bn all) j,CO ld i=true)∧∃ro,all[j]?=some ro:=by obtain ⟨_,ro,h6,_⟩:=mem_ready.1 (dm h);rw [GW] at h;obtain ⟨_,w,h1,h2,h3⟩:=h;refine ⟨h2,?_,ro,h6⟩;rw [Jb] at h3;rw [jY,List.getD_eq_getElem?_getD];simp only [Nat.sub_zero] at h1;rw [h1];exact h3
theorem lH {all:Array Oper} {ld:List Bool} {i j:Nat} (h:j∈Bz ld (Bn all) 0) (hne:j≠i):j∈Bz (Au ld i) (Bn all) 0:=by
 rw [GW] at h ⊢;obtain ⟨h0,w,h1,h2,h3⟩:=h;refine ⟨h0,w,h1,?_,?_⟩
 ·have:=ready_mono (dm (GW _ _ _ _ |>.2 ⟨h0,w,h1,h2,h3⟩)) hne;rw [←Je] at this;have:=(GW _ _ _ _).1 (YP.1 this);obtain ⟨_,_,_,h4,_⟩:=this;exact h4
 ·rw [Jb] at h3 ⊢;exact fun k hk=>ZU (h3 k hk)
theorem qX {P:Program} {op:Op} {n t:Nat} {v:X} (h:cO P op = .store n (.t t) v):Operand.tmp t∈op.operands:=by
 cases op
 case store T x y=>
  simp only [cO] at h;split at h
  ·simp only [EO.store.injEq] at h;have:=fm h.2.1;subst this;simp [Op.operands]
  ·simp at h
 all_goals (simp only [cO] at h;(repeat' (split at h))<;>simp at h)
def yo (S:St) (o:EO) (v:AV):Prop:=F3 o=false∧∃xs:List X,(∀(P:Program) (op:Op),cO P op=o→∀x∈xs,∃p,p∈op.operands∧cX p=x)∧
 ∀S':St,(∀x∈xs,S'.x x=S.x x)→∀c:Ctx,Bi c S' o v S'∧∀M a w op,cO c.P op=o→RelT c M S' a w→∃u,v.is M u
def tk (S:St) (o:EOp) (v:AV) (q:Prop):Prop:=(gm S o.g∧rd S o.o=some (v,q))∨(Ee S o.g∧v = .un)∨
 (gm S o.g∧∃n x y m rows j row,o.o = .idx n x y∧S.x x = .sl m rows∧S.x y = .iv j∧m=n∧0≤j∧rows[j.toNat]?=some row∧v = .elt row 0)∨(gm S o.g∧yo S o.o v)
theorem sP {M:Mem} {m:Nat} {rows:List (List AV)} {u:Value} (h:AV.is M (.sl m rows) u) {k:Nat} {row:List AV} (hr:rows[k]?=some row):∃x,AV.is M (.elt row 0) x:=by
 obtain ⟨ad,cp,g1,g2,g3⟩:=h;have hlt:=(List.getElem?_eq_some_iff.1 hr).1;obtain ⟨ad,vss,rfl,g4,g5⟩:=g3 (by intro e;subst e;simp at hlt);obtain ⟨vs,q1,q2,q3,q4⟩:=V8 g4 _ row hr;obtain ⟨s1,s2,cs,T',fr,s3,s4⟩:=g5;refine ⟨_,⟨ad.block,ad.off+k*m,none⟩,vs,rfl,q3,rfl,?_,cs,T',fr,s3,?_⟩
 ·intro v hv;obtain ⟨t,ht⟩:=List.mem_iff_getElem?.1 hv;exact s2 v (List.mem_iff_getElem?.2 ⟨_,q4 t v ht⟩)
 ·intro t v ht;have:=s4 _ v (q4 t v ht);dsimp only;rw [show ad.off+k*m+t=ad.off+(k*m+t) from by omega];exact this
theorem LM {c:Ctx} {all:Array Oper} {ops:List EOp} (hA:all.toList.mapM (AL c.P all)=some ops) (hG:Region.noSelect all=true) {Φ:St→Prop} (i:Nat) {v:AV} {q:Prop} (hq:q):
  ∀(m:Nat) (ld:List Bool) (S:St),i∈Bz ld (Bn all) 0→tk S (A8 ops i) v q→ED ld (Bn all) i (Co (CX all) i)=true→
   (F3 (A8 ops i).o=true→GY ld (Bn all) i ops 0=true)→G c all ops (Bn all) Φ m (Au ld i) (S.put (A8 ops i).d v)→G c all ops (Bn all) Φ (m+1) ld S
 | m,ld,S,hi,hg,hf,hR,h=>by
   obtain ⟨hib,hia,ri,hD⟩:=lJ hi;have hS:=OW hA hD;obtain ⟨hI,h8⟩:=LZ hS;refine ⟨fun h0=>by rw [h0] at hi;simp at hi,fun j hj=>?_⟩;by_cases hE:j=i
   ·subst hE;rcases hg with ⟨hg,hr⟩ | ⟨hg,rfl⟩ | ⟨hg,n,x,y,m',rows,jj,row,h1,h2,h3,h4,h5,h6,rfl⟩ | ⟨hg,_,xs,_,hp⟩
    case inr.inl=>exact .inl ⟨hg,h⟩
    case inr.inr.inr=>
     refine .inr ⟨hg,v,S,fun ro hw=>?_,rfl,.inl (Cg _ _),h⟩;have:ro=ri:=by rw [hD] at hw;simpa using hw.symm
     subst this;exact (hp S (fun _ _=>rfl) c).1 ro h8
    case inr.inr.inl=>
     refine .inr ⟨hg,.elt row 0,S,fun ro hw=>?_,rfl,.inl (Cg _ _),h⟩;have:ro=ri:=by rw [hD] at hw;simpa using hw.symm
     subst this;exact n7 row h2 h3 h4 h5 h6 ro (by rw [h8];exact h1)
    refine .inr ⟨hg,v,S,fun ro hw M a w hT next Q hn=>?_,rfl,.inl (Cg _ _),h⟩;have:ro=ri:=by rw [hD] at hw;simpa using hw.symm
    subst this;exact Z7 (yw hr) hq ro h8 M a w hT next Q hn
   ·obtain ⟨hL,hja,rj,hB⟩:=lJ hj;have hU:=OW hA hB;obtain ⟨hN,hoj⟩:=LZ hU;have hO:i∉Co (Bn all) j:=fun e=>by have h1:=hja i e;rw [fE hib] at h1;simp at h1
    have hap:ri.apart all rj=true:=by
     refine xd hD hB hE fun e=>?_;rcases (V1.1 hf) j e with h1 | h1
     ·rw [hL] at h1;simp at h1
     ·exact hO h1
    obtain ⟨p1,p2,ap2⟩:=Oper.apart_spec hap;have ap1:∀d,ri.dst=some d→d∉rj.looksAt all∧rj.dst≠some d:=fun d hd=>⟨p1 d hd,p2 d hd⟩
    have hP:=lH hj hE;have hV:=lH hi (Ne.symm hE);have hJ:=qE ld (Ne.symm hE);have hX:j<ops.length:=by obtain ⟨h1,h2⟩:=JZ hA;rw [h1];simpa using (Array.getElem?_eq_some_iff.1 hB).1
    have hf':ED (Au ld j) (Bn all) i (Co (CX all) i)=true:=V1.2 fun k hk=>(V1.1 hf k hk).imp ZS id;have hst':F3 (A8 ops i).o=true→GY (Au ld j) (Bn all) i ops 0=true:=fun hl=>nE fun k hk=>by
     rcases dZ (hR hl) k hk with h1 | h1 | h1
     ·exact .inl (ZS h1)
     ·exact .inr (.inl h1)
     ·exact .inr (.inr h1)
    have hW:gm (S.put (A8 ops i).d v) (A8 ops j).g=gm S (A8 ops j).g∧Ee (S.put (A8 ops i).d v) (A8 ops j).g=Ee S (A8 ops j).g:=gS fun t f ht=>bA fun e=>(ap1 t (by rw [hI];exact e)).1 (gY hU ht);have next_ok:∀(u:AV) (bs ss),(∀j' off n l,D3 S (.ptr j' off) n=some l→AD l=true→F3 (A8 ops i).o=true→D3 ⟨S.tm,bs,ss⟩ (.ptr j' off) n=some l)→
     tk ((⟨S.tm,bs,ss⟩:St).put (A8 ops j).d u) (A8 ops i) v q:=by
     intro u bs ss hY;have e1:ZH S ((⟨S.tm,bs,ss⟩:St).put (A8 ops j).d u) ri.op:=by
      intro o ho;have:(⟨S.tm,bs,ss⟩:St).x (cX o)=S.x (cX o):=by cases cX o<;>rfl
      rw [←this];exact qb (all:=all) (ro:=ri) (S:=⟨S.tm,bs,ss⟩) (fun t ht=>ap2 t (by rw [hN];exact ht)) o ho
     have e2:=gS (S:=S) (S':=(⟨S.tm,bs,ss⟩:St).put (A8 ops j).d u) (g:=(A8 ops i).g) fun t f ht=>bA (S:=⟨S.tm,bs,ss⟩) fun e=>ap2 t (by rw [hN];exact e) (gY hS ht);rcases hg with ⟨hg,hr⟩ | ⟨hg,hv⟩ | ⟨hg,n,x,y,m',rows,jj,row,h1,h2,h3,h4,h5,h6,hv⟩ | ⟨hg,hl,xs,hx,hp⟩
     rotate_left 3
     ·refine .inr (.inr (.inr ⟨by rw [e2.1];exact hg,hl,xs,hx,fun S' hS'=>hp S' fun x hm=>?_⟩));rw [hS' x hm];obtain ⟨p,p1,p2⟩:=hx c.P ri.op h8 x hm;rw [←p2];exact e1 p p1
     ·refine .inl ⟨by rw [e2.1];exact hg,?_⟩;rw [←h8] at hr ⊢;refine yv e1 (fun hl x n l _ hC hp=>?_) hr;have hb:=(dl (⟨S.tm,bs,ss⟩:St) (A8 ops j).d u).1;rw [Ly hb];cases hx:S.x (cX x) with
      | ptr j' off=>rw [hx] at hC;exact hY j' off n l hC hp (by rw [←h8];exact hl)
      | elt row off=>rw [hx] at hC;exact hC
      | _=>rw [hx] at hC;simp [D3] at hC
     ·exact .inr (.inl ⟨by rw [e2.2];exact hg,hv⟩)
     ·refine .inr (.inr (.inl ⟨by rw [e2.1];exact hg,n,x,y,m',rows,jj,row,h1,?_,?_,h4,h5,h6,hv⟩))
      ·rw [←h8] at h1;obtain ⟨T,y1,z1,e,hK,_,_,hy,hz⟩:=PB h1;rw [←hy,e1 y1 (by rw [hK];simp [Op.operands]),hy];exact h2
      ·rw [←h8] at h1;obtain ⟨T,y1,z1,e,hK,_,_,hy,hz⟩:=PB h1;rw [←hz,e1 z1 (by rw [hK];simp [Op.operands]),hz];exact h3
    have hQ:∀x,(A8 ops i).d=some x→(A8 ops j).d≠some x:=fun x hx=>by have:=(ap1 x (by rw [hI];exact hx)).2;rw [hN] at this;exact this
    cases m with
    | zero=>have:=h.1;rw [this] at hP;simp at hP
    | succ m=>
      rcases h.2 j hP with ⟨g1,g2⟩ | ⟨g1,u,S1,g2,g3,g4,g5⟩
      ·refine .inl ⟨by rw [←hW.2];exact g1,?_⟩;have n1:=next_ok .un S.bs S.ss (fun _ _ _ _ h _ _=>h);refine LM hA hG i hq m (Au ld j) _ hV n1 hf' hst' ?_;rw [←hJ];have e:=lF S S.bs S.ss (d:=(A8 ops i).d) (e:=(A8 ops j).d) v .un hQ;have e2:(⟨(S.put (A8 ops i).d v).tm,S.bs,S.ss⟩:St)=S.put (A8 ops i).d v:=by cases (A8 ops i).d<;>rfl
       have e3:(⟨(S.put (A8 ops j).d .un).tm,S.bs,S.ss⟩:St)=S.put (A8 ops j).d .un:=by cases (A8 ops j).d<;>rfl
       rw [e2,e3] at e;rw [←e];exact g2
      ·refine .inr ⟨by rw [←hW.1];exact g1,u,⟨S.tm,S1.bs,S1.ss⟩,fun ro hw M a w hT next Q hn=>?_,rfl,?_,?_⟩
       ·have:ro=rj:=by rw [hB] at hw;simpa using hw.symm
        subst this;cases hd:(A8 ops i).d with
        | none=>rw [hd] at g2;exact g2 ro hB M a w hT next Q hn
        | some d=>
          rw [hd] at g2;obtain ⟨x,hx⟩:∃x,v.is M x:=by
           rcases hg with ⟨_,hr⟩ | ⟨_,rfl⟩ | ⟨_,n,x,y,m',rows,jj,row,h1,h2,h3,h4,h5,h6,rfl⟩ | ⟨_,_,xs,_,hp⟩
           rotate_left 3
           ·exact (hp S (fun _ _=>rfl) c).2 M a w _ h8 hT
           ·exact yx hT (by rw [h8];exact hr)
           ·exact ⟨undef,rfl⟩
           ·rw [←h8] at h1;obtain ⟨T,y1,z1,e,hK,_,_,hy,hz⟩:=PB h1;have:=Ak hT y1;rw [hy,h2] at this;exact sP this h6
          have hT':RelT c M (S.put (some d) v) (a.put (some d) x) w:=hT.put (some d) (.refl M) hT.st hx;have ap:=ap1 d (by rw [hI];exact hd);refine Z22 (all:=all) (fun cs b=>Region.noSelect_spec hG j ro cs b hB) ap.1 ap.2 (x:=x) (g2 ro hB M _ w hT' _ _ fun M' w' y h1 h2 h3=>?_);have hb:=hn M' w' y h1 h2 h3;have Af:((a.put (some d) x).put ro.dst y).put (some d) (a.tmps.getD d undef)=a.put ro.dst y:=by
           have h1:(a.put (some d) x).put (some d) (a.tmps.getD d undef)=a:=by
            obtain ⟨tm,df⟩:=a;simp only [Act.put,Act.mk.injEq,and_true];rw [Array.setIfInBounds_setIfInBounds];apply Array.ext';simp only [Array.toList_setIfInBounds];apply List.ext_getElem?;intro j;rw [List.getElem?_set];split
            ·rename_i e;subst e;split
             ·rename_i h;simp at h;simp [h]
             ·rename_i h;simp at h;simp [h]
            ·rfl
           cases hZ:ro.dst with
           | none=>exact h1
           | some e=>
             have hne:e≠d:=fun x=>ap.2 (by rw [hZ,x]);have h2:((a.put (some d) x).put (some e) y).put (some d) (a.tmps.getD d undef)=((a.put (some d) x).put (some d) (a.tmps.getD d undef)).put (some e) y:=by simp only [Act.put,Act.mk.injEq,and_true];rw [Array.setIfInBounds_comm _ _ hne]
             rw [h2,h1]
          rw [Af];exact hb
       ·refine g4.imp (fun g4=>?_) id;intro j' off n l h1 h2 h3;have hb:=(dl S (A8 ops i).d v).1;have:=g4 j' off n l (by rw [Ly hb];exact h1) h2 (fun n a' v' j2 off' ho hx=>h3 n a' v' j2 off' ho (by
         rw [oi] at hx
         ·exact hx
         ·intro t ht e;subst ht;have:Operand.tmp t∈rj.op.operands:=by rw [←hoj] at ho;exact qX ho
          exact (ap1 t (by rw [hI];exact e)).1 (lh this)))
        rw [Ly (S:=S1) (S':=⟨S.tm,S1.bs,S1.ss⟩) rfl];exact this
       ·have n1:=next_ok u S1.bs S1.ss (fun j' off n l h1 h2 hl=>by
         have hb:=(dl S (A8 ops i).d v).1;rcases g4 with g4 | g4
         rotate_left 1
         ·exfalso;rcases g4 i hl with e | e
          ·exact hO e
          ·have h9:=hia j e;rw [fE hL] at h9;simp at h9
         have:=g4 j' off n l (by rw [Ly hb];exact h1) h2 (fun n a' v' j2 off' ho _=>by
          exfalso;rcases dZ (hR hl) j hX with h1 | h1 | h1
          ·rw [Nat.zero_add,hL] at h1;simp at h1
          ·rw [ho] at h1;simp [Jo] at h1
          ·rw [Nat.zero_add] at h1;exact hO h1)
         rw [Ly (S:=S1) (S':=⟨S.tm,S1.bs,S1.ss⟩) rfl];exact this)
        refine LM hA hG i hq m (Au ld j) _ hV n1 hf' hst' ?_;rw [←hJ];have e:=lF S S1.bs S1.ss (d:=(A8 ops i).d) (e:=(A8 ops j).d) v u hQ;have e2:(⟨(S.put (A8 ops i).d v).tm,S1.bs,S1.ss⟩:St)=S1:=by rw [←g3]
        have e3:(⟨(S.put (A8 ops j).d u).tm,S1.bs,S1.ss⟩:St)=(⟨S.tm,S1.bs,S1.ss⟩:St).put (A8 ops j).d u:=by cases (A8 ops j).d<;>rfl
        rw [e2,e3] at e;rw [←e];exact g5
def Ji (S:St):Option (Nat×Bool)→Option Bool
 | none=>some true
 | some (t,f)=>match Gu S.tm t,f with
   | .tt,true=>some true
   | .ff,false=>some true
   | .tt,false=>some false
   | .ff,true=>some false
   | .un,_=>some false
   | _,_=>none
theorem aK {S:St} {g:Option (Nat×Bool)} (h:Ji S g=some true):gm S g:=by
 cases g with
 | none=>trivial
 | some tf=>
   obtain ⟨t,f⟩:=tf;simp only [Ji] at h;split at h<;>simp at h
   ·rename_i e;simp only [gm,e]
   ·rename_i e;simp only [gm,e]
theorem ur {S:St} {g:Option (Nat×Bool)} (h:Ji S g=some false):Ee S g:=by
 cases g with
 | none=>simp [Ji] at h
 | some tf=>
   obtain ⟨t,f⟩:=tf;simp only [Ji] at h;split at h<;>simp at h
   ·rename_i e;simp only [Ee,e]
   ·rename_i e;simp only [Ee,e]
   ·rename_i e;simp only [Ee,e]
def Zn (S:St) (o:EOp):Option (AV×Prop):=
 match Ji S o.g with
 | some true=>rd S o.o
 | some false=>some (.un,True)
 | none=>none
theorem Z1U {S:St} {o:EOp} {v:AV} {q:Prop} (h:Zn S o=some (v,q)):tk S o v q:=by
 unfold Zn at h;split at h
 ·rename_i e;exact .inl ⟨aK e,h⟩
 ·rename_i e;simp at h;exact .inr (.inl ⟨ur e,h.1.symm⟩)
 ·simp at h
def Kr (ops:List EOp) (af nap:List (List Nat)) (ld:List Bool) (S:St):List Nat→Option (Nat×AV×Prop)
 | []=>none
 | i::l=>match Zn S (A8 ops i) with
   | some r=>match BS (ED ld af i (Co nap i)) (match F3 (A8 ops i).o with | true=>GY ld af i ops 0 | false=>true) with
     | true=>some (i,r.1,r.2)
     | false=>Kr ops af nap ld S l
   | none=>Kr ops af nap ld S l
def Cm (ops:List EOp) (af nap:List (List Nat)):Nat→List Bool→St→Prop→Nat×List Bool×St×Prop
 | 0,ld,S,p=>(0,ld,S,p)
 | m+1,ld,S,p=>match Kr ops af nap ld S (Bz ld af 0) with
   | some r=>Cm ops af nap m (Au ld r.1) (S.put (A8 ops r.1).d r.2.1) (p∧r.2.2)
   | none=>(m+1,ld,S,p)
theorem V4 {ops:List EOp} {af nap:List (List Nat)} {ld:List Bool} {S:St}:∀ {l:List Nat} {i:Nat} {v:AV} {q:Prop},Kr ops af nap ld S l=some (i,v,q)→
  i∈l∧tk S (A8 ops i) v q∧ED ld af i (Co nap i)=true∧(F3 (A8 ops i).o=true→GY ld af i ops 0=true)
 | [],i,v,q,h=>by simp [Kr] at h
 | j::l,i,v,q,h=>by
   simp only [Kr] at h;split at h
   ·rename_i r hr;split at h
    ·rename_i hc;rw [AO] at hc;simp only [Option.some.injEq,Prod.mk.injEq] at h;obtain ⟨rfl,rfl,rfl⟩:=h;refine ⟨by simp,Z1U hr,hc.1,fun hl=>?_⟩;have:=hc.2;rw [hl] at this;exact this
    ·obtain ⟨h1,h2⟩:=V4 h;exact ⟨by simp [h1],h2⟩
   ·obtain ⟨h1,h2⟩:=V4 h;exact ⟨by simp [h1],h2⟩
theorem eT {c:Ctx} {all:Array Oper} {ops:List EOp} (h6:all.toList.mapM (AL c.P all)=some ops) (h8:Region.noSelect all=true) {Φ:St→Prop}:
  ∀(m:Nat) (ld:List Bool) (S:St) (p:Prop),(Cm ops (Bn all) (CX all) m ld S p).2.2.2→
   G c all ops (Bn all) Φ (Cm ops (Bn all) (CX all) m ld S p).1 (Cm ops (Bn all) (CX all) m ld S p).2.1 (Cm ops (Bn all) (CX all) m ld S p).2.2.1→p∧G c all ops (Bn all) Φ m ld S
 | 0,ld,S,p,hp,h=>⟨hp,h⟩
 | m+1,ld,S,p,hp,h=>by
   simp only [Cm] at hp h;split at hp
   ·rename_i r hr;rw [hr] at h;obtain ⟨i,v,q⟩:=r;obtain ⟨h1,h2⟩:=eT h6 h8 m _ _ _ hp h;obtain ⟨g1,g2,g3,g4⟩:=V4 hr;exact ⟨h1.1,LM h6 h8 i h1.2 m ld S g1 g2 g3 g4 h2⟩
   ·rename_i hr;rw [hr] at h;exact ⟨hp,h⟩
theorem eP {c:Ctx} {all:Array Oper} {ops:List EOp} {af:List (List Nat)} {Φ:St→Prop} {ld:List Bool} {S:St} (hr:Bz ld af 0=[]) (h:Φ S):∀m,G c all ops af Φ m ld S
 | 0=>⟨hr,h⟩
 | _+1=>⟨fun _=>h,fun i hi=>by rw [hr] at hi;simp at hi⟩
theorem oL {c:Ctx} {all:Array Oper} {ops:List EOp} {af nap:List (List Nat)} (h6:all.toList.mapM (AL c.P all)=some ops) (h8:Region.noSelect all=true) (hd:af=Bn all) (h9:nap=CX all) {Φ:St→Prop}
  {m:Nat} {ld:List Bool} {S:St} (h:(Cm ops af nap m ld S True).2.2.2∧G c all ops af Φ (Cm ops af nap m ld S True).1 (Cm ops af nap m ld S True).2.1 (Cm ops af nap m ld S True).2.2.1):G c all ops af Φ m ld S:=by
 subst hd;subst h9;exact (eT h6 h8 _ _ _ True h.1 h.2).2
def GO (c:Ctx) (all:Array Oper) (ops:List EOp) (af:List (List Nat)) (Φ:St→Prop) (m:Nat) (ld:List Bool) (S:St) (i:Nat):Prop:=
 (Ee S (A8 ops i).g∧G c all ops af Φ m (Au ld i) (S.put (A8 ops i).d .un))∨
 (gm S (A8 ops i).g∧∃v S1,(∀ro,all[i]?=some ro→eZ c S ro v S1)∧S1.tm=S.tm∧(keeps S S1 (A8 ops i).o∨UZ ops af i)∧G c all ops af Φ m (Au ld i) (S1.put (A8 ops i).d v))
section
variable {c:Ctx} {all:Array Oper} {ops:List EOp} {af:List (List Nat)} {Φ:St→Prop} {m:Nat} {ld:List Bool} {S:St}
theorem A6 (i:Nat) (hr:Bz ld af 0=[i]) (h:GO c all ops af Φ m ld S i):G c all ops af Φ (m+1) ld S:=⟨fun h0=>by rw [h0] at hr;simp at hr,fun j hj=>by rw [hr] at hj;simp at hj;subst hj;exact h⟩
theorem Ag (i j:Nat) (hr:Bz ld af 0=[i,j]) (h:GO c all ops af Φ m ld S i) (h2:GO c all ops af Φ m ld S j):G c all ops af Φ (m+1) ld S:=⟨fun h0=>by rw [h0] at hr;simp at hr,fun k hk=>by rw [hr] at hk;simp at hk;rcases hk with rfl | rfl;exact h;exact h2⟩
theorem Fj (i j k:Nat) (hr:Bz ld af 0=[i,j,k]) (h:GO c all ops af Φ m ld S i) (h2:GO c all ops af Φ m ld S j) (h3:GO c all ops af Φ m ld S k):G c all ops af Φ (m+1) ld S:=⟨fun h0=>by rw [h0] at hr;simp at hr,fun l hl=>by rw [hr] at hl;simp at hl;rcases hl with rfl | rfl | rfl;exact h;exact h2;exact h3⟩
theorem Bk (h6:all.toList.mapM (AL c.P all)=some ops) {i:Nat} {v:AV} {S1:St} (hg:gm S (A8 ops i).g) (hs:Bi c S (A8 ops i).o v S1) (h8:S1.tm=S.tm) (hk:keeps S S1 (A8 ops i).o)
  (h:G c all ops af Φ m (Au ld i) (S1.put (A8 ops i).d v)):GO c all ops af Φ m ld S i:=
 .inr ⟨hg,v,S1,fun ro h9=>hs ro (LZ (OW h6 h9)).2,h8,.inl hk,h⟩
theorem oH (h6:all.toList.mapM (AL c.P all)=some ops) {i:Nat} {v:AV} {S1:St} (hg:gm S (A8 ops i).g) (hs:Bi c S (A8 ops i).o v S1) (h8:S1.tm=S.tm) (hk:UZ ops af i)
  (h:G c all ops af Φ m (Au ld i) (S1.put (A8 ops i).d v)):GO c all ops af Φ m ld S i:=
 .inr ⟨hg,v,S1,fun ro h9=>hs ro (LZ (OW h6 h9)).2,h8,.inr hk,h⟩
theorem lT (S:St) (B:Option Blk) (tm ss) (j off n:Nat) (l:List AV) (h:D3 S (.ptr j off) n=some l):D3 ⟨tm,S.bs++[B],ss⟩ (.ptr j off) n=some l:=by
 simp only [D3] at h ⊢;split at h
 ·rename_i C hC;have hlt:=Cu hC;rw [OK,if_neg Om,hC];exact h
 ·simp at h
theorem UW {o:EO} {v:AV} {S1:St} {q:Prop} (h:ev S o=some (v,S1,q)):S1.tm=S.tm∧keeps S S1 o:=by
 have same:S1=S→S1.tm=S.tm∧keeps S S1 o:=fun e=>by subst e;exact ⟨rfl,Cg _ _⟩
 cases o<;>simp only [ev,reduceCtorEq] at h
 case alloc T z=>split at h<;>simp at h;obtain ⟨_,rfl,_⟩:=h;exact ⟨rfl,fun j off n l h1 _ _=>lT S _ _ _ j off n l h1⟩
 case box T n x=>
  split at h
  ·split at h<;>simp at h;obtain ⟨_,rfl,_⟩:=h;exact ⟨rfl,fun j off n l h1 _ _=>lT S _ _ _ j off n l h1⟩
  ·simp at h
 case store n a x=>
  split at h
  ·rename_i j off hj;split at h
   ·rename_i B hB;split at h
    ·split at h
     ·simp only [Option.map_eq_some_iff,Prod.mk.injEq] at h;obtain ⟨_,_,_,rfl,_⟩:=h;refine ⟨rfl,fun j' off' n' l h1 _ h3=>?_⟩;have hne:=h3 n a x j off rfl hj;simp only [D3] at h1 ⊢;rw [Du,if_neg (fun e=>hne e.1.symm)];exact h1
     ·simp at h
    ·simp at h
   ·simp at h
  ·simp at h
 case eqs ng ks x y=>
  split at h
  ·simp only [Option.map_eq_some_iff,Prod.mk.injEq] at h;obtain ⟨_,_,_,rfl,_⟩:=h;exact same rfl
  ·simp at h
 case bq ng x y=>split at h<;>simp at h;exact same h.2.1.symm
 case bsl T n len z ps=>
  split at h
  ·split at h<;>simp at h;obtain ⟨_,rfl,_⟩:=h;exact ⟨rfl,fun j off n l h1 _ _=>h1⟩
  ·simp at h
 case conv k x=>cases k<;>simp only at h<;>split at h<;>simp at h<;>exact same h.2.1.symm
 case field off n x=>cases n<;>simp only at h<;>split at h<;>simp at h<;>obtain ⟨_,_,_,h,_⟩:=h<;>exact same h.symm
 case mv x=>simp at h;exact same h.2.1.symm
 case pick p x y=>split at h<;>simp at h<;>exact same h.2.1.symm
 case load x=>simp at h;obtain ⟨_,_,_,h,_⟩:=h;exact same h.symm
 case loadA n x=>simp at h;obtain ⟨_,_,_,h,_⟩:=h;exact same h.symm
 case nilchk x=>split at h<;>simp at h<;>exact same h.2.1.symm
 case bin op x y=>simp only [Option.map_eq_some_iff,Prod.mk.injEq] at h;obtain ⟨_,_,_,h,_⟩:=h;exact same h.symm
 case sbin op x y=>simp only [Option.map_eq_some_iff,Prod.mk.injEq] at h;obtain ⟨_,_,_,h,_⟩:=h;exact same h.symm
 case slen x=>split at h<;>simp at h;exact same h.2.1.symm
 case not x=>split at h<;>simp at h<;>exact same h.2.1.symm
 case neg x=>split at h<;>simp at h;exact same h.2.1.symm
 case fld off x=>split at h<;>simp at h<;>exact same h.2.1.symm
 case build z ps=>simp at h;obtain ⟨_,_,_,h,_⟩:=h;exact same h.symm
 case ext x k=>split at h<;>simp at h;obtain ⟨_,_,_,h,_⟩:=h;exact same h.symm
 case mkf f caps=>simp at h;exact same h.2.1.symm
 case len x=>
  split at h
  ·simp at h;exact same h.2.1.symm
  ·simp at h;exact same h.2.1.symm
  ·split at h<;>simp at h;exact same h.2.1.symm
  ·simp at h;exact same h.2.1.symm
  ·simp at h
 case mm mx xs=>split at h<;>simp at h;obtain ⟨_,_,_,h,_⟩:=h;exact same h.symm
def I0 (S:St) (o:EOp):Option (AV×St×Prop):=
 match Ji S o.g with
 | some true=>ev S o.o
 | _=>none
theorem eO (h6:all.toList.mapM (AL c.P all)=some ops) {i:Nat} {v:AV} {S1:St} {q:Prop} (he:I0 S (A8 ops i)=some (v,S1,q)) (hq:q)
  (h:G c all ops af Φ m (Au ld i) (S1.put (A8 ops i).d v)):GO c all ops af Φ m ld S i:=by
 unfold I0 at he;split at he
 ·rename_i hg;exact Bk h6 (aK hg) (Z7 he hq) (UW he).1 (UW he).2 h
 ·simp at he
theorem oC (h6:all.toList.mapM (AL c.P all)=some ops) {i f:Nat} {xs:List X} {args:List AV} {res:AV} (ho:(A8 ops i).o = .call f xs) (hg:gm S (A8 ops i).g) (hf:Cd c.P f args res)
  (ha:AV.le.leL (B8 S xs) args:=by first | exact Am _ | simp [go_sem]) (hp:AD args=true:=by first | rfl | simp [go_sem]) (h:G c all ops af Φ m (Au ld i) (S.put (A8 ops i).d res)):GO c all ops af Φ m ld S i:=
 Bk h6 hg (by rw [ho];exact mY hf ha hp) rfl (Cg _ _) h
theorem Uv (h6:all.toList.mapM (AL c.P all)=some ops) {i f:Nat} {o:X} {xs:List X} {caps args:List AV} {res:AV} (ho:(A8 ops i).o = .callv o xs) (hg:gm S (A8 ops i).g) (hx:S.x o = .clo f caps) (hf:Cd c.P f args res)
  (h8:(c.P.funcs[f]?).any (fun fn=>fn.body.isSome&&!(fn.name == "runtime.NumGoroutine"))=true) (ha:AV.le.leL (B8 S xs++caps) args:=by first | exact Am _ | simp [go_sem]) (hp:AD args=true:=by first | rfl | simp [go_sem])
  (h:G c all ops af Φ m (Au ld i) (S.put (A8 ops i).d res)):GO c all ops af Φ m ld S i:=
 Bk h6 hg (by rw [ho];exact n5 hx hf h8 ha hp) rfl (Cg _ _) h
theorem oO {nap:List (List Nat)} (h6:all.toList.mapM (AL c.P all)=some ops) (h8:Region.noSelect all=true) (hd:af=Bn all) (h9:nap=CX all) (i:Nat) {n k:Nat} {x y:X} {rows:List (List AV)} {j:Int} (row:List AV)
  (hi:EH i (Bz ld af 0)=true) (ho:(A8 ops i).o = .idx n x y) (hg:gm S (A8 ops i).g) (hx:S.x x = .sl k rows) (hy:S.x y = .iv j) (hw:k=n) (h0:0≤j) (hr:rows[j.toNat]?=some row)
  (hf:ED ld af i (Co nap i)=true) (h:G c all ops af Φ m (Au ld i) (S.put (A8 ops i).d (.elt row 0))):G c all ops af Φ (m+1) ld S:=by
 subst hd;subst h9;exact LM h6 h8 i (q:=True) trivial m ld S ((Lr _ _).1 hi) (.inr (.inr (.inl ⟨hg,n,x,y,k,rows,j,row,ho,hx,hy,hw,h0,hr,rfl⟩))) hf (fun hl=>by rw [ho] at hl;simp [F3] at hl) h
end
end NX
end Go.Proofs.YtjemlejoladlcaaGreat
