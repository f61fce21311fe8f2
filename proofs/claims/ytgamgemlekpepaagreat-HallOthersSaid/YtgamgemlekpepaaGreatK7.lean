/-
  The symbolic machine: regions that draw their order. No statement of the seat is proved here.
-/
import Derived.StillTail
import Derived.Test.YtgamgemlekpepaaGreatK6
namespace Go.Proofs.YtgamgemlekpepaaGreat
namespace NX
open Go Go.RowKit
theorem Zg8:∀(l:List Bool) (i:Nat),Zt1 l i=l.toArray.getD i true
 | [],i=>by simp [Zt1]
 | b::l,0=>by simp [Zt1]
 | b::l,i+1=>by have:=Zg8 l i;simp [Zt1] at this ⊢;exact this
theorem Zh8:∀(l:List Bool) (i:Nat),bgf l i=l.toArray.getD i false
 | [],i=>by simp [bgf]
 | b::l,0=>by simp [bgf]
 | b::l,i+1=>by have:=Zh8 l i;simp [bgf] at this ⊢;exact this
theorem Zi8:∀(l:List Bool) (i:Nat),(Zu1 l i).toArray=l.toArray.setIfInBounds i true
 | [],i=>by simp [Zu1]
 | b::l,0=>by simp [Zu1]
 | b::l,i+1=>by have:=Zi8 l i;simp at this;simp [Zu1,this]
theorem Zj8 (ld:List Bool):∀l:List Nat,Zv1 ld l=true↔∀j∈l,bgf ld j=true
 | []=>by simp [Zv1]
 | j::l=>by simp [Zv1,Zz1,Zj8 ld l]
theorem Zk8 (ld:List Bool):∀(af:List (List Nat)) (at_ i:Nat),i∈rdy ld af at_↔at_≤i∧∃w,af[i-at_]?=some w∧Zt1 ld i=false∧Zv1 ld w=true
 | [],at_,i=>by simp [rdy]
 | w::af,at_,i=>by
   have ih:=Zk8 ld af (at_+1) i;have step:(at_+1≤i∧∃w,af[i-(at_+1)]?=some w∧Zt1 ld i=false∧Zv1 ld w=true)↔(at_≤i∧i≠at_∧∃w',(w::af)[i-at_]?=some w'∧Zt1 ld i=false∧Zv1 ld w'=true):=by
    constructor
    ·rintro ⟨h1,w',h2,h3⟩;exact ⟨by omega,by omega,w',by rw [show i-at_=(i-(at_+1))+1 from by omega];simpa using h2,h3⟩
    ·rintro ⟨h1,h2,w',h3,h4⟩;rw [show i-at_=(i-(at_+1))+1 from by omega] at h3;exact ⟨by omega,w',by simpa using h3,h4⟩
   simp only [rdy];split
   ·rename_i hb;rw [ih,step];constructor
    ·rintro ⟨h1,_,h3⟩;exact ⟨h1,h3⟩
    ·rintro ⟨h1,w',h2,h3,h4⟩;refine ⟨h1,?_,w',h2,h3,h4⟩;rintro rfl;rw [hb] at h3;simp at h3
   ·rename_i hb;split
    ·rename_i hd;rw [List.mem_cons,ih,step];constructor
     ·rintro (rfl | ⟨h1,_,h3⟩)
      ·exact ⟨Nat.le_refl _,w,by simp,hb,hd⟩
      ·exact ⟨h1,h3⟩
     ·rintro ⟨h1,h2⟩;by_cases e:i=at_
      ·exact .inl e
      ·exact .inr ⟨h1,e,h2⟩
    ·rename_i hd;rw [ih,step];constructor
     ·rintro ⟨h1,_,h3⟩;exact ⟨h1,h3⟩
     ·rintro ⟨h1,w',h2,h3,h4⟩;refine ⟨h1,?_,w',h2,h3,h4⟩;rintro rfl;simp at h2;subst h2;rw [h4] at hd;simp at hd
theorem Zl8 (i:Nat):∀l:List Nat,Zw1 i l=true↔i∈l
 | []=>by simp [Zw1]
 | j::l=>by
   simp only [Zw1];split
   ·rename_i h;simp at h;simp [h]
   ·rename_i h;simp at h;simp [h,Zl8 i l]
theorem Zm8 (l:List (List Nat)) (i:Nat):Zx1 l i=l.getD i []:=by
 induction l generalizing i with
 | nil=>simp [Zx1]
 | cons x l ih=>cases i<;>simp [Zx1,ih]
theorem Zn8 {l:List EOp} {i:Nat} (h:i<l.length):l[i]?=some (Zy1 l i):=by
 induction l generalizing i with
 | nil=>simp at h
 | cons x l ih=>cases i with
   | zero=>simp [Zy1]
   | succ i=>simpa [Zy1] using ih (by simpa using h)
theorem Zo8 {all:Array Oper} {ld:List Bool} {i:Nat}:i∈Region.ready .any all ld.toArray↔i∈rdy ld (Zk all) 0:=by
 rw [mem_ready,Zk8];simp only [Nat.zero_le,true_and,Nat.sub_zero,Zk,List.getElem?_map,Option.map_eq_some_iff,←Zg8];constructor
 ·rintro ⟨h0,o,ho,h6⟩;refine ⟨_,⟨o,by simpa using ho,rfl⟩,h0,(Zj8 _ _).2 ?_⟩;intro j hj;rw [List.mem_filterMap] at hj;obtain ⟨e,he,hb⟩:=hj;split at hb
  ·rename_i h8;simp at hb;subst hb;rw [Zh8];exact h6 e (by simpa using he) h8
  ·simp at hb
 ·rintro ⟨w,⟨o,ho,rfl⟩,h0,hd⟩;rw [Zj8] at hd;refine ⟨h0,o,by simpa using ho,fun e he hb=>?_⟩;have:=hd e.on (List.mem_filterMap.2 ⟨e,by simpa using he,by simp [hb]⟩);rw [Zh8] at this;exact this
def Zp8 (S S1:St) (o:EO):Prop:=∀j off n l,Zd1 S (.ptr j off) n=some l→puL l=true→(∀n a v j' off',o = .store n a v→S.x a = .ptr j' off'→j'≠j)→Zd1 S1 (.ptr j off) n=some l
def Zq8:EO→Bool
 | .load _=>true
 | .loadA _ _=>true
 | _=>false
def Zr8 (ops:List EOp) (af:List (List Nat)) (i:Nat):Prop:=∀k,Zq8 (Zy1 ops k).o=true→k∈Zx1 af i∨i∈Zx1 af k
def gno (S:St):Option (Nat×Bool)→Prop
 | none=>False
 | some (t,f)=>match lgt S.tm t,f with
   | .tt,false=>True
   | .ff,true=>True
   | .un,_=>True
   | _,_=>False
def Zs8 (c:Ctx) (S:St) (ro:Oper) (v:AV) (S1:St):Prop:=
 ∀M a w,RelT c M S a w→∀(next:Act→World→Prop) (Q:Exit→Act→World→Prop),
  (∀M' w' x,M.le M'→RelS c M' S1.bs S1.ss w'→v.is M' x→next (a.put ro.dst x) w')→ro.wp c.P a w next Q
section
variable (c:Ctx) (all:Array Oper) (ops:List EOp) (af:List (List Nat)) (Φ:St→Prop)
def G:Nat→List Bool→St→Prop
 | 0,ld,S=>rdy ld af 0=[]∧Φ S
 | m+1,ld,S=>(rdy ld af 0=[]→Φ S)∧∀i∈rdy ld af 0,
   (gno S (Zy1 ops i).g∧G m (Zu1 ld i) (S.put (Zy1 ops i).d .un))∨
   (gm S (Zy1 ops i).g∧∃v S1,(∀ro,all[i]?=some ro→Zs8 c S ro v S1)∧S1.tm=S.tm∧(Zp8 S S1 (Zy1 ops i).o∨Zr8 ops af i)∧G m (Zu1 ld i) (S1.put (Zy1 ops i).d v))
end
theorem Zt8 (i:Nat):∀l:List Nat,Zf i l=true↔i∈l
 | []=>by simp [Zf]
 | j::l=>by
   simp only [Zf];split
   ·rename_i h;simp at h;simp [h]
   ·rename_i h;simp at h;simp [h,Zt8 i l]
theorem Zu8 {x:Nat}:∀ {xs l:List Nat},x∈Zg l xs↔x∈l∨x∈xs
 | [],l=>by simp [Zg]
 | y::xs,l=>by
   simp only [Zg];split
   ·rename_i h;rw [Zt8] at h;rw [Zu8];simp only [List.mem_cons];constructor
    ·rintro (h1 | h1)
     ·exact .inl h1
     ·exact .inr (.inr h1)
    ·rintro (h1 | rfl | h1)
     ·exact .inl h1
     ·exact .inl h
     ·exact .inr h1
   ·rw [Zu8];simp [List.mem_append,or_assoc]
theorem Zv8 {acc:List (List Nat)} {x:Nat}:∀ {w l:List Nat},x∈Zi acc l w↔x∈l∨∃k∈w,x∈Zh acc k
 | [],l=>by simp [Zi]
 | k::w,l=>by simp only [Zi,Zv8 (w:=w),Zu8,List.mem_cons,exists_eq_or_imp,or_assoc]
theorem Zw8 {k x:Nat}:∀ {acc:List (List Nat)},x∈Zh acc k→∃w,acc[k]?=some w∧x∈w
 | [],h=>by simp [Zh] at h
 | w::acc,h=>by
   cases k with
   | zero=>exact ⟨w,by simp,by simpa [Zh] using h⟩
   | succ k=>obtain ⟨v,h1,h2⟩:=Zw8 (acc:=acc) (by simpa [Zh] using h);exact ⟨v,by simpa using h1,h2⟩
theorem Zx8 {D:Nat→Prop} {J:List (List Nat)} (h6:∀j w,J[j]?=some w→D j→∀x∈w,D x):∀(l acc pre:List (List Nat)),J=pre++l→acc.length=pre.length→
  (∀(j:Nat) (w w':List Nat),pre[j]?=some w→acc[j]?=some w'→(∀x∈w,x∈w')∧((∀x∈w,D x)→∀x∈w',D x))→
  (Zj acc l).length=J.length∧∀(j:Nat) (w w':List Nat),J[j]?=some w→(Zj acc l)[j]?=some w'→(∀x∈w,x∈w')∧((∀x∈w,D x)→∀x∈w',D x)
 | [],acc,pre,h,hl,hI=>by
   have:J=pre:=by simpa using h
   subst this;exact ⟨hl,hI⟩
 | w::l,acc,pre,h,hl,hI=>by
   simp only [Zj];refine Zx8 h6 l _ (pre++[w]) (by simp [h]) (by simp [hl]) fun j v v' hj hj'=>?_;by_cases h8:j<pre.length
   ·rw [List.getElem?_append_left h8] at hj;rw [List.getElem?_append_left (by omega)] at hj';exact hI j v v' hj hj'
   ·have h9:j=pre.length:=by have:=(List.getElem?_eq_some_iff.1 hj).1;simp at this;omega
    subst h9;rw [List.getElem?_append_right (Nat.le_refl _)] at hj;rw [List.getElem?_append_right (by omega)] at hj';rw [hl] at hj';simp at hj hj';subst hj;subst hj';refine ⟨fun x hx=>Zv8.2 (.inl hx),fun hD x hx=>?_⟩;rcases Zv8.1 hx with hx | ⟨k,hk,hx⟩
    ·exact hD x hx
    ·obtain ⟨wk',h1,h2⟩:=Zw8 hx;have hc:=(List.getElem?_eq_some_iff.1 h1).1;obtain ⟨wk,h3⟩:∃wk,pre[k]?=some wk:=⟨_,List.getElem?_eq_getElem (by omega)⟩
     have h4:J[k]?=some wk:=by rw [h,List.getElem?_append_left (by omega)];exact h3
     exact (hI k wk wk' h3 h1).2 (h6 k wk h4 (hD k hk)) x h2
def Zy8 (all:Array Oper) (ld:List Bool):Prop:=∀j w,(Zk all)[j]?=some w→bgf ld j=true→∀x∈w,bgf ld x=true
theorem Zz8 {all:Array Oper} {D:Nat→Prop} (h6:∀j w,(Zk all)[j]?=some w→D j→∀x∈w,D x):(Zl all).length=(Zk all).length∧∀(j:Nat) (w w':List Nat),(Zk all)[j]?=some w→(Zl all)[j]?=some w'→(∀x∈w,x∈w')∧((∀x∈w,D x)→∀x∈w',D x):=Zx8 h6 (Zk all) [] [] rfl rfl (fun j w w' h=>by simp at h)
theorem Z09 {all:Array Oper} {ld:List Bool} {i:Nat} (h:i∈rdy ld (Zl all) 0):i∈Region.ready .any all ld.toArray:=by
 rw [Zo8,Zk8];rw [Zk8] at h;obtain ⟨_,w',h1,h2,h3⟩:=h;obtain ⟨h6,hs⟩:=Zz8 (all:=all) (D:=fun _=>True) (fun _ _ _ _ _ _=>trivial);simp only [Nat.sub_zero] at h1;have h8:=(List.getElem?_eq_some_iff.1 h1).1;obtain ⟨w,hw⟩:∃w,(Zk all)[i]?=some w:=⟨_,List.getElem?_eq_getElem (by omega)⟩
 refine ⟨Nat.zero_le _,w,by simpa using hw,h2,?_⟩;rw [Zj8] at h3 ⊢;exact fun j hj=>h3 j ((hs i w w' hw h1).1 j hj)
theorem Z19 {all:Array Oper} {ld:List Bool} {i:Nat} (J:Zy8 all ld) (h:i∈Region.ready .any all ld.toArray):i∈rdy ld (Zl all) 0:=by
 rw [Zo8,Zk8] at h;rw [Zk8];obtain ⟨_,w,h1,h2,h3⟩:=h;obtain ⟨h6,hs⟩:=Zz8 (all:=all) (D:=fun x=>bgf ld x=true) J;simp only [Nat.sub_zero] at h1;have h8:=(List.getElem?_eq_some_iff.1 h1).1;obtain ⟨w',hw'⟩:∃w',(Zl all)[i]?=some w':=⟨_,List.getElem?_eq_getElem (by omega)⟩
 refine ⟨Nat.zero_le _,w',by simpa using hw',h2,?_⟩;rw [Zj8] at h3 ⊢;exact (hs i w w' h1 hw').2 h3
theorem Z29 {ld:List Bool} {i j:Nat}:bgf (Zu1 ld i) j=true→bgf ld j=true∨j=i:=by
 induction ld generalizing i j with
 | nil=>simp [Zu1,bgf]
 | cons b l ih=>
   cases i with
   | zero=>cases j<;>simp [Zu1,bgf]
   | succ i=>cases j with
     | zero=>simp [Zu1,bgf]
     | succ j=>simpa [Zu1,bgf] using fun h=>ih (i:=i) (j:=j) h
theorem Z39 {ld:List Bool} {i j:Nat} (h:bgf ld j=true):bgf (Zu1 ld i) j=true:=by
 induction ld generalizing i j with
 | nil=>simp [bgf] at h
 | cons b l ih=>cases i<;>cases j<;>simp_all [Zu1,bgf]
theorem Z49 {all:Array Oper} {ld:List Bool} {i:Nat} (J:Zy8 all ld) (h:i∈Region.ready .any all ld.toArray):Zy8 all (Zu1 ld i):=by
 intro j w hw hj x hx;rcases Z29 hj with h1 | rfl
 ·exact Z39 (J j w hw h1 x hx)
 ·rw [Zo8,Zk8] at h;obtain ⟨_,w2,h1,_,h3⟩:=h;simp only [Nat.sub_zero] at h1;rw [h1] at hw;simp at hw;subst hw;rw [Zj8] at h3;exact Z39 (h3 x hx)
theorem Z59 {c:Ctx} {M:Mem} {S:St} {a:Act} {w:World} {all:Array Oper} {ro:Oper} {o:EOp} (U:RelT c M S a w) (J:Ze c.P all ro=some o) (h:gno S o.g):Region.wanted ro (yielded all a.tmps)=false:=by
 unfold Ze at J;cases hg:ro.guard with
 | none=>rw [hg] at J;simp at J;subst J;exact h.elim
 | some jf=>
   obtain ⟨j,f⟩:=jf;rw [hg] at J;dsimp only at J;split at J
   ·rename_i t ht;simp at J;subst J;have h6:=Zd6 (a:=a) ht;have h8:=Zf1 (U.tm t);simp only [gno] at h;split at h
    ·rename_i hv;rw [hv] at h8;rw [show a.tmps.getD t undef = .bool true from h8] at h6;simp [Region.wanted,hg,h6]
    ·rename_i hv;rw [hv] at h8;rw [show a.tmps.getD t undef = .bool false from h8] at h6;simp [Region.wanted,hg,h6]
    ·rename_i hv;rw [hv] at h8;rw [show a.tmps.getD t undef=undef from h8] at h6;simp [undef] at h6;simp [Region.wanted,hg,h6]
    ·exact h.elim
   ·simp at J
theorem Z69 {c:Ctx} {M:Mem} {S:St} {a:Act} {w:World} {all:Array Oper} {ro:Oper} {o:EOp} (U:RelT c M S a w) (J:Ze c.P all ro=some o) (h:gm S o.g):Region.wanted ro (yielded all a.tmps)=true:=by
 unfold Ze at J;cases hg:ro.guard with
 | none=>simp [Region.wanted,hg]
 | some jf=>
   obtain ⟨j,f⟩:=jf;rw [hg] at J;dsimp only at J;split at J
   ·rename_i t ht;simp at J;subst J;have h6:=Zd6 (a:=a) ht;have h8:=Zf1 (U.tm t);simp only [gm] at h;split at h
    ·rename_i hv;rw [hv] at h8;rw [show a.tmps.getD t undef = .bool true from h8] at h6;simp [Region.wanted,hg,h6]
    ·rename_i hv;rw [hv] at h8;rw [show a.tmps.getD t undef = .bool false from h8] at h6;simp [Region.wanted,hg,h6]
    ·exact h.elim
   ·simp at J
theorem Z79 {P:Program} {all:Array Oper} {ro:Oper} {o:EOp} (J:Ze P all ro=some o):ro.dst=o.d∧cO P ro.op=o.o:=by
 unfold Ze at J;split at J
 ·simp at J;subst J;exact ⟨rfl,rfl⟩
 ·split at J
  ·simp at J;subst J;exact ⟨rfl,rfl⟩
  ·simp at J
theorem Z89 {P:Program} {all:Array Oper} {ops:List EOp} (h6:all.toList.mapM (Ze P all)=some ops) {i:Nat} {ro:Oper} (hi:all[i]?=some ro):Ze P all ro=some (Zy1 ops i):=by obtain ⟨h1,h2⟩:=Zu5 h6;obtain ⟨y,h3,h4⟩:=h2 i ro (by simpa using hi);have:=Zn8 (l:=ops) (i:=i) (List.getElem?_eq_some_iff.1 h3).1;rw [h3] at this;simp at this;rw [h4,this]
theorem Z99 {c:Ctx} {all:Array Oper} {ops:List EOp} (h8:all.toList.mapM (Ze c.P all)=some ops) {Φ:St→Prop} {Q:Exit→Act→World→Prop}
  (J:∀S,Φ S→∀M a w,RelT c M S a w→Q .normal a w):∀(m:Nat) (ld:List Bool) (S:St),G c all ops (Zl all) Φ m ld S→Zy8 all ld→∀M a w,RelT c M S a w→wpAny c.P .any all Q m ld.toArray a w
 | 0,ld,S,h,h6,M,a,w,hT=>by
   refine ⟨?_,J S h.2 M a w hT⟩;cases hr:Region.ready .any all ld.toArray with
   | nil=>rfl
   | cons i r=>have:=Z19 h6 (show i∈Region.ready .any all ld.toArray by rw [hr];simp);rw [h.1] at this;simp at this
 | m+1,ld,S,h,h6,M,a,w,hT=>by
   refine ⟨fun hr=>J S (h.1 ?_) M a w hT,fun i hi=>?_⟩
   ·cases hr':rdy ld (Zl all) 0 with
    | nil=>rfl
    | cons i r=>have:=Z09 (show i∈rdy ld (Zl all) 0 by rw [hr'];simp);rw [hr] at this;simp at this
   ·have hf:=Z19 h6 hi;obtain ⟨_,ro,h9,_⟩:=mem_ready.1 hi;have hc:=Z89 h8 h9;obtain ⟨hd,_⟩:=Z79 hc;unfold wpOp;rw [h9];dsimp only;rcases h.2 i hf with ⟨hg,hG⟩ | ⟨hg,v,S1,hs,hn,_,hG⟩
    ·rw [if_neg (by simp [Z59 hT hc hg]),←Zi8];refine Z99 h8 J m _ _ hG (Z49 h6 hi) M _ w ?_;rw [←hd];exact hT.put ro.dst (.refl M) hT.st (v:=.un) rfl
    ·rw [if_pos (Z69 hT hc hg)];refine .inl (hs ro h9 M a w hT _ _ fun M' w' x h1 h2 h3=>?_);rw [←Zi8];refine Z99 h8 J m _ _ hG (Z49 h6 hi) M' _ w' ?_;rw [←hd];have:=hT.put ro.dst h1 h2 h3;rw [←hn] at this;exact this
theorem RelT.drew {c:Ctx} {M:Mem} {S:St} {a:Act} {w:World} (h:RelT c M S a w):RelT c M S a {w with drawn:=w.drawn+1}:=⟨h.len,h.tm,h.df,h.st.drew⟩
def Za9:Nat→List Bool
 | 0=>[]
 | n+1=>false::Za9 n
theorem Zb9:∀n,Za9 n=List.replicate n false
 | 0=>rfl
 | n+1=>by simp [Za9,Zb9 n,List.replicate_succ]
theorem Zc9 (n j:Nat):bgf (List.replicate n false) j=false:=by
 induction n generalizing j with
 | zero=>rfl
 | succ n ih=>cases j<;>simp [List.replicate_succ,bgf,ih]
theorem Zd9 (n:Nat):(Za9 n).toArray=Array.replicate n false:=by rw [Zb9,List.toArray_replicate]
theorem Ze9 {c:Ctx} {S:St} {fn:Func} {K:AV→List (Option Blk)→List (Option Sl)→Prop} {k:List It} {ops:List EOp} {af nap:List (List Nat)} (hm:c.P.follows .mixedOrders=true)
  (h:∀all,all.toList.mapM (Ze c.P all)=some ops→Region.noSelect all=true→nap=Zm all→af=Zl all→G c all ops af (fun S'=>V c fn K k S') (Zw ops) (Za9 (Zw ops)) S):V c fn K (.code (.drw ops af nap)::k) S:=
 Zq3 fun x hx rk M s w hr hT=>by
  obtain ⟨id,all,rfl,h6,hs,h8,h9⟩:=Zo3 hx;have hn:all.size=Zw ops:=by rw [Z12,(Zu5 h6).1];simp
  refine wp_region_any hm ?_;rw [hn,←Zd9];have h0:=h all h6 hs h9 h8;subst h8;exact Z99 h6 (fun S' hV M a w hT=>hV rk M a w hr hT) _ _ _ h0 (fun j w _ hj=>by rw [Zb9,Zc9] at hj;simp at hj) M s _ hT.drew
def rd (S:St) (o:EO):Option (AV×Prop):=
 match o with
 | .mv x=>some (S.x x,True)
 | .pick c a b=>match tf (S.x c) with
   | .tt=>some (S.x a,True)
   | .ff=>some (S.x b,True)
   | _=>none
 | .load x=>match Zd1 S (S.x x) 1 with
   | some l=>match puL l with
     | true=>some (Zn l 0,True)
     | false=>none
   | none=>none
 | .loadA n x=>match Zd1 S (S.x x) n with
   | some l=>match puL l with
     | true=>some (.agg l,True)
     | false=>none
   | none=>none
 | .nilchk x=>match S.x x with
   | .ptr j off=>some (.ptr j off,True)
   | .elt row off=>some (.elt row off,True)
   | .oel j k off=>some (.oel j k off,True)
   | .clo f caps=>some (.clo f caps,True)
   | _=>none
 | .bin op x y=>Z51 op (S.x x) (S.x y)
 | .sbin op x y=>(Z61 op (S.x x) (S.x y)).map fun r=>(r,True)
 | .slen x=>match S.x x with
   | .sv s=>some (.iv (sln s),True)
   | _=>none
 | .eqs ng ks x y=>match S.x x,S.x y with
   | .agg l,.agg r=>(eqA ks l r).map fun e=>(.bv (ngB ng e),True)
   | _,_=>none
 | .bq ng x y=>match Za1 (S.x x),Za1 (S.x y) with
   | some a,some b=>some (.bv (ngB ng (a==b)),True)
   | _,_=>none
 | .not x=>match S.x x with
   | .tt=>some (.ff,True)
   | .ff=>some (.tt,True)
   | .bv e=>some (.bv (!e),True)
   | _=>none
 | .conv .i64 x=>match S.x x with
   | .iv a=>some (.iv (wr a),True)
   | .kv _ a=>some (.iv (wr a),True)
   | _=>none
 | .conv k x=>match S.x x with
   | .iv a=>some (mkI k (kw k a),True)
   | .kv _ a=>some (mkI k (kw k a),True)
   | _=>none
 | .fld off x=>match S.x x with
   | .ptr j o=>some (.ptr j (o+off),True)
   | .elt row o=>some (.elt row (o+off),True)
   | .oel j k o=>some (.oel j k (o+off),True)
   | _=>none
 | .build z ps=>(Zy z (Z91 S ps)).map fun l=>(.agg l,True)
 | .ext x k=>match S.x x with
   | .tup l=>(Zt l k 1).map fun r=>(Zn r 0,True)
   | _=>none
 | .mkf f caps=>some (.clo f (Z71 S caps),True)
 | .len x=>match S.x x with
   | .nl=>some (.iv 0,True)
   | .sl _ rows=>some (.iv rows.length,True)
   | _=>none
 | _=>none
theorem Zf9 {M:Mem} {op:BinOp} {u v r:AV} (h:Z61 op u v=some r):∃x,r.is M x:=by
 unfold Z61 at h;split at h
 ·split at h
  ·cases op<;>simp only [Option.some.injEq,reduceCtorEq] at h<;>subst h<;>exact ⟨_,rfl⟩
  ·simp at h
 ·simp at h
theorem Zg9 {M:Mem} {op:BinOp} {u v r:AV} {p:Prop} (h:Z51 op u v=some (r,p)):∃x,r.is M x:=by
 have k0:∀(k:IntKind) (n:Int),∃x,(mkI k n).is M x:=fun k n=>⟨_,Z55 k n⟩
 have k1:∀ {op:BinOp} {k:IntKind} {a b:Int},shK op k a b=some (r,p)→∃x,r.is M x:=by intro op k a b h;cases op<;>simp only [shK,Option.some.injEq,Prod.mk.injEq,reduceCtorEq] at h<;>rw [←h.1]<;>exact k0 _ _
 cases u with
 | iv a=>cases v with
   | iv b=>cases op<;>simp only [Z51,Z31,Option.some.injEq,Prod.mk.injEq,reduceCtorEq] at h<;>rw [←h.1]<;>exact ⟨_,rfl⟩
   | kv j b=>exact k1 h
   | _=>simp [Z51] at h
 | kv k a=>cases v with
   | iv b=>exact k1 h
   | kv j b=>
     simp only [Z51] at h;split at h
     ·split at h
      ·exact k1 h
      ·exact k1 h
      ·cases op<;>simp only [Z41,Option.some.injEq,Prod.mk.injEq,reduceCtorEq] at h<;>rw [←h.1]<;>exact ⟨_,rfl⟩
     ·exact k1 h
   | _=>simp [Z51] at h
 | _=>simp [Z51] at h
theorem Zh9 {S:St} {o:EO} {v:AV} {q:Prop} (h:rd S o=some (v,q)):ev S o=some (v,S,q):=by
 cases o<;>simp only [rd,reduceCtorEq] at h<;>simp only [ev]
 case mv x=>simp at h;simp [h]
 case pick c a b=>split at h<;>simp_all
 case load x=>
  split at h
  ·rename_i l hl;split at h<;>simp at h;rw [hl];simp [h]
  ·simp at h
 case loadA n x=>
  split at h
  ·rename_i l hl;split at h<;>simp at h;rw [hl];simp [h]
  ·simp at h
 case nilchk x=>split at h<;>rename_i he<;>(try (simp at h;done))<;>(try rw [he])<;>simp at h<;>simp [h]
 case bin op x y=>simp [h]
 case sbin op x y=>simp only [Option.map_eq_some_iff,Prod.mk.injEq] at h;obtain ⟨r,h1,rfl,rfl⟩:=h;simp [h1]
 case slen x=>split at h<;>simp_all
 case conv k x=>cases k<;>simp only at h ⊢ <;>split at h<;>simp_all
 case eqs ng ks x y=>
  split at h
  ·rename_i e1 e2
   try rw [e1,e2]
   simp only [Option.map_eq_some_iff,Prod.mk.injEq] at h;obtain ⟨e,h1,rfl,rfl⟩:=h;simp [h1]
  ·simp at h
 case bq ng x y=>
  split at h
  ·rename_i e1 e2
   try rw [e1,e2]
   simp at h;simp [h]
  ·simp at h
 case not x=>split at h<;>simp_all
 case fld off x=>split at h<;>rename_i he<;>(try (simp at h;done))<;>(try rw [he])<;>simp at h<;>simp [h]
 case build z ps=>simp only [Option.map_eq_some_iff,Prod.mk.injEq] at h;obtain ⟨l,hl,rfl,rfl⟩:=h;rw [hl];rfl
 case ext x k=>
  split at h
  ·rename_i e;simp only [Option.map_eq_some_iff,Prod.mk.injEq] at h;obtain ⟨l,hl,rfl,rfl⟩:=h
   try rw [e]
   simp [hl]
  ·simp at h
 case mkf f caps=>simp at h;simp [h]
 case len x=>split at h<;>simp_all
def Zi9:EO→Bool
 | .store _ _ _=>true
 | _=>false
def orb:Bool→Bool→Bool
 | true,_=>true
 | false,b=>b
theorem Zj9 (a b:Bool):orb a b=true↔a=true∨b=true:=by cases a<;>simp [orb]
def frB (ld:List Bool) (af:List (List Nat)) (i:Nat):List Nat→Bool
 | []=>true
 | j::l=>Z4 (orb (Zt1 ld j) (Zw1 i (Zx1 af j))) (frB ld af i l)
def stB (ld:List Bool) (af:List (List Nat)) (i:Nat):List EOp→Nat→Bool
 | [],_=>true
 | o::l,j=>Z4 (orb (Zt1 ld j) (match Zi9 o.o with | true=>Zw1 i (Zx1 af j) | false=>true)) (stB ld af i l (j+1))
theorem Zk9 {ld:List Bool} {af:List (List Nat)} {i:Nat}:∀ {l:List Nat},frB ld af i l=true↔∀j∈l,Zt1 ld j=true∨i∈Zx1 af j
 | []=>by simp [frB]
 | j::l=>by simp [frB,Zz1,Zj9,Zl8,Zk9 (l:=l)]
theorem Zl9 {ld:List Bool} {af:List (List Nat)} {i:Nat}:∀ {l:List EOp} {at_:Nat},stB ld af i l at_=true→∀j,j<l.length→Zt1 ld (at_+j)=true∨Zi9 (Zy1 l j).o=false∨i∈Zx1 af (at_+j)
 | [],_,_,j,h=>by simp at h
 | o::l,at_,h,0,_=>by
   simp only [stB,Zz1,Zj9] at h;rcases h.1 with h1 | h1
   ·exact .inl h1
   ·cases hs:Zi9 o.o
    ·exact .inr (.inl hs)
    ·rw [hs] at h1;exact .inr (.inr ((Zl8 _ _).1 h1))
 | o::l,at_,h,j+1,hj=>by simp only [stB,Zz1] at h;have:=Zl9 h.2 j (by simpa using hj);rw [show at_+(j+1)=at_+1+j from by omega];exact this
theorem Zm9 {ld:List Bool} {af:List (List Nat)} {i:Nat}:∀ {l:List EOp} {at_:Nat},(∀j,j<l.length→Zt1 ld (at_+j)=true∨Zi9 (Zy1 l j).o=false∨i∈Zx1 af (at_+j))→stB ld af i l at_=true
 | [],_,_=>rfl
 | o::l,at_,h=>by
   simp only [stB,Zz1,Zj9];refine ⟨?_,Zm9 fun j hj=>?_⟩
   ·rcases h 0 (by simp) with h1 | h1 | h1
    ·exact .inl h1
    ·right;rw [show Zi9 o.o=false from h1]
    ·right;cases Zi9 o.o
     ·rfl
     ·exact (Zl8 _ _).2 h1
   ·have:=h (j+1) (by simpa using hj);rw [show at_+1+j=at_+(j+1) from by omega];exact this
theorem Zn9:∀ {ld:List Bool} {i j:Nat},Zt1 ld j=true→Zt1 (Zu1 ld i) j=true
 | [],_,_,h=>h
 | _::_,0,0,_=>rfl
 | _::_,0,_+1,h=>h
 | _::_,_+1,0,h=>h
 | _::ld,i+1,j+1,h=>Zn9 (ld:=ld) (i:=i) (j:=j) h
theorem Zo9 (ld:List Bool) {i j:Nat} (h:i≠j):Zu1 (Zu1 ld i) j=Zu1 (Zu1 ld j) i:=by apply List.toArray_inj;rw [Zi8,Zi8,Zi8,Zi8,Array.setIfInBounds_comm _ _ h]
theorem Zp9 (S:St) (bs ss) {d e:Option Nat} (v u:AV) (h:∀x,d=some x→e≠some x):
  (⟨(S.put d v).tm,bs,ss⟩:St).put e u=(⟨(S.put e u).tm,bs,ss⟩:St).put d v:=by
 cases d with
 | none=>cases e<;>rfl
 | some d=>cases e with
   | none=>rfl
   | some e=>
     have hne:d≠e:=fun x=>h d rfl (by rw [x]);simp only [St.put,St.mk.injEq,and_true];clear h;generalize S.tm=l;revert d e;induction l with
     | nil=>intro d e _;rfl
     | cons y l ih=>
       intro d e hne;cases d with
       | zero=>cases e with
         | zero=>omega
         | succ e=>rfl
       | succ d=>cases e with
         | zero=>rfl
         | succ e=>simp only [Zo,List.cons.injEq,true_and];exact ih d e (by omega)
theorem Zq9 {P:Program} {all:Array Oper} {o:Oper} (h9:∀cs b,o.op≠ .select cs b) {a:Act} {w:World} {d:Tmp} {x:Value} (hl:d∉o.looksAt all) (U:o.dst≠some d)
  {J:Act→World→Prop} {Q:Exit→Act→World→Prop} (h:o.wp P (a.put (some d) x) w (fun b w'=>J (b.put (some d) (a.tmps.getD d undef)) w') fun _ _ _=>False):o.wp P a w J Q:=by
 have h6:∀(ds:List Deferred) (y:Value),(((⟨a.tmps,ds⟩:Act).put (some d) x).put o.dst y).put (some d) (a.tmps.getD d undef)=(⟨a.tmps,ds⟩:Act).put o.dst y:=by
  intro ds y;have h1:((⟨a.tmps,ds⟩:Act).put (some d) x).put (some d) (a.tmps.getD d undef)=⟨a.tmps,ds⟩:=by
   obtain ⟨tm,df⟩:=a;simp only [Act.put,Act.mk.injEq,and_true];rw [Array.setIfInBounds_setIfInBounds];apply Array.ext';simp only [Array.toList_setIfInBounds];apply List.ext_getElem?;intro j;rw [List.getElem?_set];split
   ·rename_i e;subst e;split
    ·rename_i h;simp at h;simp [h]
    ·rename_i h;simp at h;simp [h]
   ·rfl
  cases hc:o.dst with
  | none=>exact h1
  | some e=>
    have hne:e≠d:=fun x=>U (by rw [hc,x]);have h2:(((⟨a.tmps,ds⟩:Act).put (some d) x).put (some e) y).put (some d) (a.tmps.getD d undef)=(((⟨a.tmps,ds⟩:Act).put (some d) x).put (some d) (a.tmps.getD d undef)).put (some e) y:=by simp only [Act.put,Act.mk.injEq,and_true];rw [Array.setIfInBounds_comm _ _ hne]
    rw [h2,h1]
 unfold Oper.wp at h ⊢;rw [execOp_put (ops:=all) o h9 a (some d) x (fun e he=>by simp at he;subst he;exact hl)] at h;cases h8:(execOp a.eval o).run P w with
 | halt hh w'=>rw [h8] at h;cases hh<;>first | exact h.elim | exact h
 | ok n w'=>
   rw [h8] at h;cases n<;>first | exact h.elim | skip
   case value v=>have:=h6 a.defers v;simp only [Oper.upon] at h ⊢;rw [this] at h;exact h
   case skip=>have:=h6 a.defers undef;simp only [Oper.upon] at h ⊢;rw [this] at h;exact h
   case defer q=>have:=h6 (q::a.defers) undef;simp only [Oper.upon] at h ⊢;rw [←this];exact h
   case enter f args=>
    simp only [Oper.upon] at h ⊢;refine h.mono ?_;intro e w'' he;cases e with
    | returned v=>have:=h6 a.defers v;dsimp only at he ⊢;rw [this] at he;exact he
    | panicked ch=>exact he.elim
    | outgrown=>obtain ⟨_,_,he⟩:=he;exact he.elim
   case row r args=>simp only [Oper.upon] at h ⊢;refine h.mono ?_;intro v w'' he;have:=h6 a.defers v;rw [this] at he;exact he
theorem Zr9 {o:Operand} {t:Nat} (h:cX o = .t t):o = .tmp t:=by cases o<;>simp [cX] at h;rw [h]
def Zs9 (S S':St) (ro:Op):Prop:=∀o∈ro.operands,S'.x (cX o)=S.x (cX o)
theorem Zt9 {S S':St}:∀ {l:List Operand},(∀o∈l,S'.x (cX o)=S.x (cX o))→Z71 S' (l.map cX)=Z71 S (l.map cX)
 | [],_=>rfl
 | o::l,h=>by simp only [List.map_cons,Z71];rw [h o (by simp),Zt9 (fun x hx=>h x (by simp [hx]))]
theorem Zu9 {S S':St}:∀ {l:List (Nat×Nat×X)},(∀p∈l,S'.x p.2.2=S.x p.2.2)→Z91 S' l=Z91 S l
 | [],_=>rfl
 | (i,n,x)::l,h=>by simp only [Z91];rw [h (i,n,x) (by simp),Zu9 (fun p hp=>h p (by simp [hp]))]
theorem Zv9 {P:Program} {S S':St} {ro:Op} {v:AV} {q:Prop} (ha:Zs9 S S' ro) (hr:Zq8 (cO P ro)=true→∀x n l,x∈ro.operands→Zd1 S (S.x (cX x)) n=some l→puL l=true→Zd1 S' (S.x (cX x)) n=some l)
  (h:rd S (cO P ro)=some (v,q)):rd S' (cO P ro)=some (v,q):=by
 cases ro with
 | move x=>simp only [cO,rd] at h ⊢;rw [ha x (by simp [Op.operands])];exact h
 | assign x=>simp only [cO,rd] at h ⊢;rw [ha x (by simp [Op.operands])];exact h
 | pick c a b=>simp only [cO,rd] at h ⊢;rw [ha c (by simp [Op.operands]),ha a (by simp [Op.operands]),ha b (by simp [Op.operands])];exact h
 | load T x=>
   have hx:=ha x (by simp [Op.operands]);simp only [cO] at h hr ⊢;split at h
   ·rename_i h1;simp only [h1] at hr ⊢;simp only [rd] at h ⊢;rw [hx];split at h
    ·rename_i l hl;split at h
     ·rename_i hp;rw [hr rfl x 1 l (by simp [Op.operands]) hl hp];simp only [hp];exact h
     ·simp at h
    ·simp at h
   ·rename_i h1;simp only [h1] at hr ⊢;simp only [rd] at h ⊢;rw [hx];split at h
    ·rename_i l hl;split at h
     ·rename_i hp;rw [hr rfl x _ l (by simp [Op.operands]) hl hp];simp only [hp];exact h
     ·simp at h
    ·simp at h
   ·simp [rd] at h
 | nilCheck x=>simp only [cO,rd] at h ⊢;rw [ha x (by simp [Op.operands])];exact h
 | binOp op T x y T2=>
   have hx:=ha x (by simp [Op.operands]);have hy:=ha y (by simp [Op.operands]);simp only [cO] at h ⊢;split at h
   ·rename_i h1;split at h
    ·rename_i h2;simp only [h2,if_true];simp only [rd] at h ⊢;rw [hx,hy];exact h
    ·simp [rd] at h
   ·split at h
    ·rename_i h3 h4;cases op<;>simp only [rd,reduceCtorEq] at h ⊢ <;>rw [hx,hy]<;>exact h
    ·simp [rd] at h
   ·simp only [rd] at h ⊢;rw [hx,hy];exact h
   ·cases op<;>simp only [rd,reduceCtorEq] at h ⊢ <;>rw [hx,hy]<;>exact h
   ·split at h
    ·split at h<;>simp [rd] at h
    ·simp [rd] at h
   ·simp [rd] at h
   ·simp [rd] at h
 | unOp op T x=>have hx:=ha x (by simp [Op.operands]);cases op<;>simp only [cO,rd,reduceCtorEq] at h ⊢;rw [hx];exact h
 | convert A B x=>
   have hx:=ha x (by simp [Op.operands]);simp only [cO] at h ⊢;split at h
   ·rename_i k l hA hB;cases l<;>simp only [rd] at h ⊢ <;>rw [hx]<;>exact h
   ·split at h<;>simp [rd] at h
   ·simp [rd] at h
 | fieldAddr T x f=>
   have hx:=ha x (by simp [Op.operands]);simp only [cO] at h ⊢;split at h
   ·rename_i h1;split at h
    ·rename_i h2;split at h
     ·rename_i h3;simp only [h3,if_true];simp only [rd] at h ⊢;rw [hx];exact h
     ·simp [rd] at h
    ·simp [rd] at h
   ·simp [rd] at h
 | build T ps=>
   have hps:∀p∈ps.toList,S'.x (cX p.2)=S.x (cX p.2):=fun p hp=>ha p.2 (by simp [Op.operands];exact ⟨p.1,by simpa using hp⟩);simp only [cO] at h ⊢;split at h
   ·rename_i h1 h2;split at h
    ·rename_i pl h9;split at h
     ·rename_i l hl;simp only [rd] at h ⊢;rw [Zu9 (S:=S) (S':=S') (l:=l)]
      ·exact h
      ·intro p hp;obtain ⟨k,hk⟩:=List.mem_iff_getElem?.1 hp;obtain ⟨g1,g2⟩:=Zu5 hl;have h8:k<ps.toList.length:=by rw [←g1];exact (List.getElem?_eq_some_iff.1 hk).1
       obtain ⟨y,hy,hf⟩:=g2 k _ (List.getElem?_eq_getElem h8);rw [hk] at hy;simp only [Option.some.injEq] at hy;subst hy;simp only [Option.map_eq_some_iff] at hf;obtain ⟨on,_,rfl⟩:=hf;exact hps _ (List.getElem_mem h8)
     ·simp [rd] at h
    ·simp [rd] at h
   ·rename_i h1 h2;split at h
    ·rename_i h3;simp only [rd] at h ⊢;rw [Zu9 (S:=S) (S':=S')]
     ·exact h
     ·intro p hp;rw [List.mem_map] at hp;obtain ⟨q,hq,rfl⟩:=hp;exact hps q hq
    ·simp [rd] at h
   ·simp [rd] at h
 | extract x k=>simp only [cO,rd] at h ⊢;rw [ha x (by simp [Op.operands])];exact h
 | makeFunc f fi cs=>
   simp only [cO] at h ⊢;split at h
   ·split at h
    ·rename_i h2;simp only [h2,if_true];simp only [rd] at h ⊢;rw [Zt9 (fun o ho=>ha o (by simp [Op.operands];right;simpa using ho))];exact h
    ·simp [rd] at h
   ·simp [rd] at h
 | call ci=>
   obtain ⟨callee,cargs,argTypes⟩:=ci;have hx:∀o∈cargs.toList,S'.x (cX o)=S.x (cX o):=fun o ho=>ha o (by simp [Op.operands,Call.operands];right;simpa using ho);cases callee with
   | value o=>cases o<;>(simp only [cO] at h)<;>(try split at h)<;>simp [rd] at h
   | invoke _ _=>simp [cO,rd] at h
   | builtin b=>
     cases b<;>simp only [cO] at h ⊢ <;>(try (simp [rd] at h;done))<;>(try ((repeat' (split at h))<;>simp [rd] at h;done))
     ·split at h
      ·rename_i t0 x h0 h6;split at h
       ·rename_i h1;simp only [rd] at h ⊢;rw [hx x (by rw [h6];simp)];exact h
       ·rename_i h1;simp only [rd] at h ⊢;rw [hx x (by rw [h6];simp)];exact h
       ·simp [rd] at h
      ·simp [rd] at h
 | alloc T=>simp only [cO] at h;split at h<;>simp [rd] at h
 | box T x=>simp only [cO] at h;split at h<;>simp [rd] at h
 | buildSlice T n ps=>simp only [cO] at h;(repeat' (split at h))<;>simp [rd] at h
 | store T x y=>simp only [cO] at h;(repeat' (split at h))<;>simp [rd] at h
 | field T x f=>simp only [cO] at h;(repeat' (split at h))<;>simp [rd] at h
 | indexAddr T x f=>simp only [cO] at h;(repeat' (split at h))<;>simp [rd] at h
 | index T x i=>simp only [cO] at h;(repeat' (split at h))<;>simp [rd] at h
 | slice T x lo hi mx=>simp only [cO] at h;(repeat' (split at h))<;>simp [rd] at h
 | makeSlice T x y=>simp only [cO] at h;(repeat' (split at h))<;>simp [rd] at h
 | _=>simp [cO,rd] at h
theorem Zw9 {M:Mem}:∀ {J:List (Nat×Nat×AV)} {U:List AV} {z:List Value} {l:List AV},AV.isL M U z→(∀p∈J,∀cs,p.2.2.cells=some cs→∃vs,AV.isL M cs vs)→Zy U J=some l→∃r,AV.isL M l r
 | [],U,z,l,hz,_,h=>by simp [Zy] at h;subst h;exact ⟨z,hz⟩
 | (o,n,x)::J,U,z,l,hz,hp,h=>by
   simp only [Zy] at h;split at h
   ·rename_i cs h8;split at h
    ·split at h
     ·rename_i z' hz';obtain ⟨rfl,hle⟩:=Zd2 hz';obtain ⟨vs,h6⟩:=hp (o,n,x) (by simp) cs h8;have hl:=Ze2 h6;refine Zw9 (z:=z.take o++vs++z.drop (o+cs.length)) (Zh2 (Zh2 (Zi2 o hz) h6) (Zj2 _ hz)) (fun p hq=>hp p (by simp [hq])) h
     ·simp at h
    ·simp at h
   ·simp at h
theorem Zx9 {M:Mem} {l:List AV} {vs:List Value} (h:AV.isL M l vs) (h1:0<l.length):∃x,(Zn l 0).is M x:=by
 cases l with
 | nil=>simp at h1
 | cons y l=>obtain ⟨v,_,_,hv,_⟩:=h;exact ⟨v,hv⟩
theorem Zy9 {c:Ctx} {M:Mem} {S:St} {a:Act} {w:World} (J:RelT c M S a w) {ro:Op} {v:AV} {q:Prop} (h:rd S (cO c.P ro)=some (v,q)):∃x,v.is M x:=by
 have X0:∀x:X,(∃o:Operand,cX o=x)→∃u,(S.x x).is M u:=by rintro x ⟨o,rfl⟩;exact ⟨_,Z34 J o⟩
 cases ro with
 | move x=>simp only [cO,rd,Option.some.injEq,Prod.mk.injEq] at h;rw [←h.1];exact ⟨_,Z34 J x⟩
 | assign x=>simp only [cO,rd,Option.some.injEq,Prod.mk.injEq] at h;rw [←h.1];exact ⟨_,Z34 J x⟩
 | pick p x y=>
   simp only [cO,rd] at h;split at h<;>simp at h
   ·rw [←h.1];exact ⟨_,Z34 J x⟩
   ·rw [←h.1];exact ⟨_,Z34 J y⟩
 | load T x=>
   have hx:=Z34 J x;simp only [cO] at h;split at h<;>simp only [rd,reduceCtorEq] at h
   ·split at h
    ·rename_i l hl;split at h<;>simp at h;rw [←h.1];obtain ⟨_,_,vs,_,h2,h3,_⟩:=Zz4 J hx hl;exact Zx9 h2 (by have:=Ze2 h2;omega)
    ·simp at h
   ·split at h
    ·rename_i l hl;split at h<;>simp at h;rw [←h.1];obtain ⟨_,_,vs,_,h2,h3,_⟩:=Zz4 J hx hl;exact ⟨_,vs,rfl,h2⟩
    ·simp at h
 | nilCheck x=>have hx:=Z34 J x;simp only [cO,rd] at h;split at h<;>rename_i hv<;>simp at h<;>(rw [←h.1];rw [hv] at hx;exact ⟨_,hx⟩)
 | binOp op T x y T2=>
   simp only [cO] at h;split at h
   ·split at h
    ·simp only [rd] at h;exact Zg9 h
    ·simp [rd] at h
   ·split at h
    ·split at h<;>simp only [rd,reduceCtorEq] at h
     all_goals
      split at h
      ·simp only [Option.map_eq_some_iff,Prod.mk.injEq] at h;obtain ⟨e,h1,rfl,_⟩:=h;exact ⟨_,rfl⟩
      ·simp at h
    ·simp [rd] at h
   ·simp only [rd,Option.map_eq_some_iff,Prod.mk.injEq] at h;obtain ⟨r,h1,rfl,_⟩:=h;exact Zf9 h1
   ·split at h<;>simp only [rd,reduceCtorEq] at h
    all_goals
     split at h<;>simp only [Option.some.injEq,Prod.mk.injEq,reduceCtorEq] at h;rw [←h.1];exact ⟨_,rfl⟩
   ·split at h
    ·split at h<;>simp [rd] at h
    ·simp [rd] at h
   ·simp [rd] at h
   ·simp [rd] at h
 | unOp op T x=>cases op<;>simp only [cO,rd,reduceCtorEq] at h;split at h<;>simp at h<;>rw [←h.1]<;>exact ⟨_,rfl⟩
 | fieldAddr T x f=>
   have hx:=Z34 J x;simp only [cO] at h;split at h
   ·split at h
    ·split at h
     ·simp only [rd] at h;split at h<;>rename_i hv<;>simp at h<;>rw [←h.1]<;>rw [hv] at hx
      ·exact ⟨_,hx.1,rfl⟩
      ·obtain ⟨ad,vs,_,h2,h3⟩:=hx;exact ⟨_,ad,vs,rfl,h2,h3⟩
      ·obtain ⟨h0,g,n,cp,h1,_⟩:=hx;exact ⟨_,h0,g,n,cp,h1,rfl⟩
     ·simp [rd] at h
    ·simp [rd] at h
   ·simp [rd] at h
 | build T ps=>
   have key:∀ {z:List AV} {zs:List Value} {l:List (Nat×Nat×X)},AV.isL M z zs→(∀p∈l,∃o:Operand,cX o=p.2.2)→rd S (.build z l)=some (v,q)→∃x,v.is M x:=by
    intro z zs l hz hl h;simp only [rd,Option.map_eq_some_iff,Prod.mk.injEq] at h;obtain ⟨r,hr,rfl,_⟩:=h;obtain ⟨u,hu⟩:=Zw9 hz (fun p hp cs hc=>by
     obtain ⟨k,hk⟩:=List.mem_iff_getElem?.1 hp;have h6:k<l.length:=by rw [←Zv5 S l];exact (List.getElem?_eq_some_iff.1 hk).1
     have h1:=Zw5 S l k l[k].1 l[k].2.1 l[k].2.2 (List.getElem?_eq_getElem h6);rw [hk] at h1;simp at h1;obtain ⟨o,ho⟩:=hl _ (List.getElem_mem h6);subst h1;dsimp only at hc;rw [←ho] at hc;exact ⟨_,Zx5 J o cs hc⟩) hr
    exact ⟨_,u,rfl,hu⟩
   simp only [cO] at h;split at h
   ·rename_i hz;obtain ⟨_,u,_,_,_,rfl⟩:=Zk4 hz;split at h
    ·split at h
     ·rename_i l hl;refine key (Zr2 M _) ?_ h;intro p hp;obtain ⟨k,hk⟩:=List.mem_iff_getElem?.1 hp;obtain ⟨g1,g2⟩:=Zu5 hl;have h6:k<ps.toList.length:=by rw [←g1];exact (List.getElem?_eq_some_iff.1 hk).1
      obtain ⟨y,hy,hf⟩:=g2 k _ (List.getElem?_eq_getElem h6);rw [hk] at hy;simp only [Option.some.injEq] at hy;subst hy;simp only [Option.map_eq_some_iff] at hf;obtain ⟨on,_,rfl⟩:=hf;exact ⟨_,rfl⟩
     ·simp [rd] at h
    ·simp [rd] at h
   ·rename_i hz;obtain ⟨_,u,_,_,_,rfl⟩:=Zk4 hz;split at h
    ·refine key (Zr2 M _) ?_ h;intro p hp;rw [List.mem_map] at hp;obtain ⟨q,_,rfl⟩:=hp;exact ⟨_,rfl⟩
    ·simp [rd] at h
   ·simp [rd] at h
 | extract x k=>
   have hx:=Z34 J x;simp only [cO,rd] at h;split at h
   ·rename_i l hv;simp only [Option.map_eq_some_iff,Prod.mk.injEq] at h;obtain ⟨r,hr,rfl,_⟩:=h;obtain ⟨rfl,hle⟩:=Zb2 hr;rw [hv] at hx;obtain ⟨vs,_,h2⟩:=hx;exact Zx9 (Zi2 1 (Zj2 k h2)) (by simp;omega)
   ·simp at h
 | makeFunc f fi cs=>
   simp only [cO] at h;split at h
   ·split at h
    ·simp only [rd,Option.some.injEq,Prod.mk.injEq] at h;rw [←h.1];exact ⟨_,_,rfl,Zp5 J cs.toList⟩
    ·simp [rd] at h
   ·simp [rd] at h
 | call ci=>
   obtain ⟨callee,cargs,argTypes⟩:=ci;cases callee with
   | value o=>cases o<;>(simp only [cO] at h)<;>(try split at h)<;>simp [rd] at h
   | invoke _ _=>simp [cO,rd] at h
   | builtin b=>
     cases b<;>simp only [cO] at h<;>(try (simp [rd] at h;done))<;>(try ((repeat' (split at h))<;>simp [rd] at h;done))
     ·split at h
      ·split at h
       ·simp only [rd] at h;split at h<;>simp at h<;>rw [←h.1]<;>exact ⟨_,rfl⟩
       ·simp only [rd] at h;split at h<;>simp at h;rw [←h.1];exact ⟨_,rfl⟩
       ·simp [rd] at h
      ·simp [rd] at h
 | convert A B x=>
   simp only [cO] at h;split at h
   ·rename_i k l hA hB;cases l<;>simp only [rd] at h<;>split at h<;>simp only [Option.some.injEq,Prod.mk.injEq,reduceCtorEq] at h<;>rw [←h.1]<;>first | exact ⟨_,Z55 _ _⟩ | exact ⟨_,rfl⟩
   ·split at h<;>simp [rd] at h
   ·simp [rd] at h
 | alloc T=>simp only [cO] at h;split at h<;>simp [rd] at h
 | box T x=>simp only [cO] at h;split at h<;>simp [rd] at h
 | buildSlice T n ps=>simp only [cO] at h;(repeat' (split at h))<;>simp [rd] at h
 | store T x y=>simp only [cO] at h;(repeat' (split at h))<;>simp [rd] at h
 | field T x f=>simp only [cO] at h;(repeat' (split at h))<;>simp [rd] at h
 | indexAddr T x f=>simp only [cO] at h;(repeat' (split at h))<;>simp [rd] at h
 | index T x i=>simp only [cO] at h;(repeat' (split at h))<;>simp [rd] at h
 | slice T x lo hi mx=>simp only [cO] at h;(repeat' (split at h))<;>simp [rd] at h
 | makeSlice T x y=>simp only [cO] at h;(repeat' (split at h))<;>simp [rd] at h
 | _=>simp [cO,rd] at h
theorem Zz9 {S:St} {d:Option Nat} {v:AV} {t:Nat} (h:d≠some t):Zn (S.put d v).tm t=Zn S.tm t:=by
 cases d with
 | none=>rfl
 | some d=>simp only [St.put,Z22];rw [if_neg (fun e=>h (by rw [e.1]))]
theorem Z0a {S:St} {d:Option Nat} {v:AV} {x:X} (h:∀t,x = .t t→d≠some t):(S.put d v).x x=S.x x:=by
 cases x with
 | t n=>exact Zz9 (h n rfl)
 | c a=>rfl
 | bad=>rfl
theorem Z1a (S:St) (d:Option Nat) (v:AV):(S.put d v).bs=S.bs∧(S.put d v).ss=S.ss:=by cases d<;>exact ⟨rfl,rfl⟩
theorem Z2a {S S':St} (h:S'.bs=S.bs) (x:AV) (n:Nat):Zd1 S' x n=Zd1 S x n:=by unfold Zd1;rw [h]
theorem Z3a {all:Array Oper} {ro:Oper} {t:Tmp} (h:Operand.tmp t∈ro.op.operands):t∈ro.looksAt all:=List.mem_append_left _ (List.mem_filterMap.2 ⟨.tmp t,by simpa using h,rfl⟩)
theorem Z4a {P:Program} {all:Array Oper} {ro:Oper} {o:EOp} (J:Ze P all ro=some o) {t:Nat} {f:Bool} (hg:o.g=some (t,f)):t∈ro.looksAt all:=by
 unfold Ze at J;cases h:ro.guard with
 | none=>rw [h] at J;simp at J;subst J;simp at hg
 | some jf=>
   obtain ⟨j,f'⟩:=jf;rw [h] at J;dsimp only at J;split at J
   ·rename_i t' ht;simp at J;subst J;simp at hg;obtain ⟨rfl,rfl⟩:=hg;exact List.mem_append_right _ (by simp [h,ht])
   ·simp at J
theorem Z5a {all:Array Oper} {ro:Oper} {S:St} {d:Option Nat} {v:AV} (h:∀t,d=some t→t∉ro.looksAt all):Zs9 S (S.put d v) ro.op:=by intro o ho;refine Z0a fun t ht hd=>?_;have:=Zr9 ht;subst this;exact h t hd (Z3a ho)
theorem Z6a {S S':St} {g:Option (Nat×Bool)} (h:∀t f,g=some (t,f)→Zn S'.tm t=Zn S.tm t):gm S' g=gm S g∧gno S' g=gno S g:=by
 cases g with
 | none=>exact ⟨rfl,rfl⟩
 | some tf=>obtain ⟨t,f⟩:=tf;simp only [gm,gno,lgt,h t f rfl,and_self]
theorem Z7a {all:Array Oper} {i j:Nat} {x y:Oper} (hi:all[i]?=some x) (hj:all[j]?=some y) (hne:j≠i) (h:j∉Zx1 (Zm all) i):x.apart all y=true:=by
 have hi':i<all.size:=(Array.getElem?_eq_some_iff.1 hi).1;have hj':j<all.size:=(Array.getElem?_eq_some_iff.1 hj).1;rw [Zm8,Zm,List.getD_eq_getElem?_getD,List.getElem?_map,List.getElem?_range hi'] at h;simp only [Option.map_some,Option.getD_some,List.mem_filter,List.mem_range,hj',true_and,hi,hj] at h;cases hh:x.apart all y
 ·exact absurd (by simp [hh,hne.symm]) h
 ·rfl
theorem Z8a (S:St) (o:EO):Zp8 S S o:=fun _ _ _ _ h _ _=>h
theorem Z9a {ld:List Bool} {i:Nat} (h:Zt1 ld i=false):bgf ld i=false:=by rw [Zg8] at h;rw [Zh8];exact getD_both h
theorem Zaa {all:Array Oper} {ld:List Bool} {j:Nat} (h:j∈rdy ld (Zl all) 0):Zt1 ld j=false∧(∀i∈Zx1 (Zl all) j,bgf ld i=true)∧∃ro,all[j]?=some ro:=by obtain ⟨_,ro,h6,_⟩:=mem_ready.1 (Z09 h);rw [Zk8] at h;obtain ⟨_,w,h1,h2,h3⟩:=h;refine ⟨h2,?_,ro,h6⟩;rw [Zj8] at h3;rw [Zm8,List.getD_eq_getElem?_getD];simp only [Nat.sub_zero] at h1;rw [h1];exact h3
theorem Zba {all:Array Oper} {ld:List Bool} {i j:Nat} (h:j∈rdy ld (Zl all) 0) (hne:j≠i):j∈rdy (Zu1 ld i) (Zl all) 0:=by
 rw [Zk8] at h ⊢;obtain ⟨h0,w,h1,h2,h3⟩:=h;refine ⟨h0,w,h1,?_,?_⟩
 ·have:=ready_mono (Z09 (Zk8 _ _ _ _ |>.2 ⟨h0,w,h1,h2,h3⟩)) hne;rw [←Zi8] at this;have:=(Zk8 _ _ _ _).1 (Zo8.1 this);obtain ⟨_,_,_,h4,_⟩:=this;exact h4
 ·rw [Zj8] at h3 ⊢;exact fun k hk=>Z39 (h3 k hk)
theorem Zca {P:Program} {op:Op} {n t:Nat} {v:X} (h:cO P op = .store n (.t t) v):Operand.tmp t∈op.operands:=by
 cases op
 case store T x y=>
  simp only [cO] at h;split at h
  ·simp only [EO.store.injEq] at h;have:=Zr9 h.2.1;subst this;simp [Op.operands]
  ·simp at h
 all_goals (simp only [cO] at h;(repeat' (split at h))<;>simp at h)
def pur (S:St) (o:EO) (v:AV):Prop:=Zq8 o=false∧∃xs:List X,(∀(P:Program) (op:Op),cO P op=o→∀x∈xs,∃p,p∈op.operands∧cX p=x)∧
 ∀S':St,(∀x∈xs,S'.x x=S.x x)→∀c:Ctx,Z77 c S' o v S'∧∀M a w op,cO c.P op=o→RelT c M S' a w→∃u,v.is M u
def tk (S:St) (o:EOp) (v:AV) (q:Prop):Prop:=(gm S o.g∧rd S o.o=some (v,q))∨(gno S o.g∧v = .un)∨
 (gm S o.g∧∃n x y m rows j row,o.o = .idx n x y∧S.x x = .sl m rows∧S.x y = .iv j∧m=n∧0≤j∧rows[j.toNat]?=some row∧v = .elt row 0)∨(gm S o.g∧pur S o.o v)
theorem Zda {M:Mem} {m:Nat} {rows:List (List AV)} {u:Value} (h:AV.is M (.sl m rows) u) {k:Nat} {row:List AV} (hr:rows[k]?=some row):∃x,AV.is M (.elt row 0) x:=by
 obtain ⟨ad,cp,g1,g2,g3⟩:=h;have h6:=(List.getElem?_eq_some_iff.1 hr).1;obtain ⟨ad,vss,rfl,g4,g5⟩:=g3 (by intro e;subst e;simp at h6);obtain ⟨vs,q1,q2,q3,q4⟩:=Zj7 g4 _ row hr;obtain ⟨s1,s2,cs,T',fr,s3,s4⟩:=g5;refine ⟨_,⟨ad.block,ad.off+k*m,none⟩,vs,rfl,q3,rfl,?_,cs,T',fr,s3,?_⟩
 ·intro v hv;obtain ⟨t,ht⟩:=List.mem_iff_getElem?.1 hv;exact s2 v (List.mem_iff_getElem?.2 ⟨_,q4 t v ht⟩)
 ·intro t v ht;have:=s4 _ v (q4 t v ht);dsimp only;rw [show ad.off+k*m+t=ad.off+(k*m+t) from by omega];exact this
theorem Zea {c:Ctx} {all:Array Oper} {ops:List EOp} (hw:all.toList.mapM (Ze c.P all)=some ops) (hE:Region.noSelect all=true) {Φ:St→Prop} (i:Nat) {v:AV} {q:Prop} (hq:q):
  ∀(m:Nat) (ld:List Bool) (S:St),i∈rdy ld (Zl all) 0→tk S (Zy1 ops i) v q→frB ld (Zl all) i (Zx1 (Zm all) i)=true→
   (Zq8 (Zy1 ops i).o=true→stB ld (Zl all) i ops 0=true)→G c all ops (Zl all) Φ m (Zu1 ld i) (S.put (Zy1 ops i).d v)→G c all ops (Zl all) Φ (m+1) ld S
 | m,ld,S,hi,hg,hf,hQ,h=>by
   obtain ⟨hZ,hia,ri,hC⟩:=Zaa hi;have hR:=Z89 hw hC;obtain ⟨hG,h8⟩:=Z79 hR;refine ⟨fun h0=>by rw [h0] at hi;simp at hi,fun j hj=>?_⟩;by_cases hD:j=i
   ·subst hD;rcases hg with ⟨hg,hr⟩ | ⟨hg,rfl⟩ | ⟨hg,n,x,y,m',rows,jj,row,h1,h2,h3,h4,h5,h6,rfl⟩ | ⟨hg,_,xs,_,hp⟩
    case inr.inl=>exact .inl ⟨hg,h⟩
    case inr.inr.inr=>
     refine .inr ⟨hg,v,S,fun ro hc=>?_,rfl,.inl (Z8a _ _),h⟩;have:ro=ri:=by rw [hC] at hc;simpa using hc.symm
     subst this;exact (hp S (fun _ _=>rfl) c).1 ro h8
    case inr.inr.inl=>
     refine .inr ⟨hg,.elt row 0,S,fun ro hc=>?_,rfl,.inl (Z8a _ _),h⟩;have:ro=ri:=by rw [hC] at hc;simpa using hc.symm
     subst this;exact Zl7 row h2 h3 h4 h5 h6 ro (by rw [h8];exact h1)
    refine .inr ⟨hg,v,S,fun ro hc M a w hT next Q hn=>?_,rfl,.inl (Z8a _ _),h⟩;have:ro=ri:=by rw [hC] at hc;simpa using hc.symm
    subst this;exact Z97 (Zh9 hr) hq ro h8 M a w hT next Q hn
   ·obtain ⟨hK,hja,rj,hA⟩:=Zaa hj;have hS:=Z89 hw hA;obtain ⟨hL,hoj⟩:=Z79 hS;have hN:i∉Zx1 (Zl all) j:=fun e=>by have h1:=hja i e;rw [Z9a hZ] at h1;simp at h1
    have hap:ri.apart all rj=true:=by
     refine Z7a hC hA hD fun e=>?_;rcases (Zk9.1 hf) j e with h1 | h1
     ·rw [hK] at h1;simp at h1
     ·exact hN h1
    obtain ⟨p1,p2,ap2⟩:=Oper.apart_spec hap;have ap1:∀d,ri.dst=some d→d∉rj.looksAt all∧rj.dst≠some d:=fun d hd=>⟨p1 d hd,p2 d hd⟩
    have hO:=Zba hj hD;have hU:=Zba hi (Ne.symm hD);have hI:=Zo9 ld (Ne.symm hD);have hW:j<ops.length:=by obtain ⟨h1,h2⟩:=Zu5 hw;rw [h1];simpa using (Array.getElem?_eq_some_iff.1 hA).1
    have hf':frB (Zu1 ld j) (Zl all) i (Zx1 (Zm all) i)=true:=Zk9.2 fun k hk=>(Zk9.1 hf k hk).imp Zn9 id;have hst':Zq8 (Zy1 ops i).o=true→stB (Zu1 ld j) (Zl all) i ops 0=true:=fun hl=>Zm9 fun k hk=>by
     rcases Zl9 (hQ hl) k hk with h1 | h1 | h1
     ·exact .inl (Zn9 h1)
     ·exact .inr (.inl h1)
     ·exact .inr (.inr h1)
    have hV:gm (S.put (Zy1 ops i).d v) (Zy1 ops j).g=gm S (Zy1 ops j).g∧gno (S.put (Zy1 ops i).d v) (Zy1 ops j).g=gno S (Zy1 ops j).g:=Z6a fun t f ht=>Zz9 fun e=>(ap1 t (by rw [hG];exact e)).1 (Z4a hS ht);have next_ok:∀(u:AV) (bs ss),(∀j' off n l,Zd1 S (.ptr j' off) n=some l→puL l=true→Zq8 (Zy1 ops i).o=true→Zd1 ⟨S.tm,bs,ss⟩ (.ptr j' off) n=some l)→
     tk ((⟨S.tm,bs,ss⟩:St).put (Zy1 ops j).d u) (Zy1 ops i) v q:=by
     intro u bs ss hX;have e1:Zs9 S ((⟨S.tm,bs,ss⟩:St).put (Zy1 ops j).d u) ri.op:=by
      intro o ho;have:(⟨S.tm,bs,ss⟩:St).x (cX o)=S.x (cX o):=by cases cX o<;>rfl
      rw [←this];exact Z5a (all:=all) (ro:=ri) (S:=⟨S.tm,bs,ss⟩) (fun t ht=>ap2 t (by rw [hL];exact ht)) o ho
     have e2:=Z6a (S:=S) (S':=(⟨S.tm,bs,ss⟩:St).put (Zy1 ops j).d u) (g:=(Zy1 ops i).g) fun t f ht=>Zz9 (S:=⟨S.tm,bs,ss⟩) fun e=>ap2 t (by rw [hL];exact e) (Z4a hR ht);rcases hg with ⟨hg,hr⟩ | ⟨hg,hv⟩ | ⟨hg,n,x,y,m',rows,jj,row,h1,h2,h3,h4,h5,h6,hv⟩ | ⟨hg,hl,xs,hx,hp⟩
     rotate_left 3
     ·refine .inr (.inr (.inr ⟨by rw [e2.1];exact hg,hl,xs,hx,fun S' hS'=>hp S' fun x hm=>?_⟩));rw [hS' x hm];obtain ⟨p,p1,p2⟩:=hx c.P ri.op h8 x hm;rw [←p2];exact e1 p p1
     ·refine .inl ⟨by rw [e2.1];exact hg,?_⟩;rw [←h8] at hr ⊢;refine Zv9 e1 (fun hl x n l _ hB hp=>?_) hr;have hb:=(Z1a (⟨S.tm,bs,ss⟩:St) (Zy1 ops j).d u).1;rw [Z2a hb];cases hx:S.x (cX x) with
      | ptr j' off=>rw [hx] at hB;exact hX j' off n l hB hp (by rw [←h8];exact hl)
      | elt row off=>rw [hx] at hB;exact hB
      | _=>rw [hx] at hB;simp [Zd1] at hB
     ·exact .inr (.inl ⟨by rw [e2.2];exact hg,hv⟩)
     ·refine .inr (.inr (.inl ⟨by rw [e2.1];exact hg,n,x,y,m',rows,jj,row,h1,?_,?_,h4,h5,h6,hv⟩))
      ·rw [←h8] at h1;obtain ⟨T,y1,z1,e,hJ,_,_,hy,hz⟩:=Zd7 h1;rw [←hy,e1 y1 (by rw [hJ];simp [Op.operands]),hy];exact h2
      ·rw [←h8] at h1;obtain ⟨T,y1,z1,e,hJ,_,_,hy,hz⟩:=Zd7 h1;rw [←hz,e1 z1 (by rw [hJ];simp [Op.operands]),hz];exact h3
    have hP:∀x,(Zy1 ops i).d=some x→(Zy1 ops j).d≠some x:=fun x hx=>by have:=(ap1 x (by rw [hG];exact hx)).2;rw [hL] at this;exact this
    cases m with
    | zero=>have:=h.1;rw [this] at hO;simp at hO
    | succ m=>
      rcases h.2 j hO with ⟨g1,g2⟩ | ⟨g1,u,S1,g2,g3,g4,g5⟩
      ·refine .inl ⟨by rw [←hV.2];exact g1,?_⟩;have n1:=next_ok .un S.bs S.ss (fun _ _ _ _ h _ _=>h);refine Zea hw hE i hq m (Zu1 ld j) _ hU n1 hf' hst' ?_;rw [←hI];have e:=Zp9 S S.bs S.ss (d:=(Zy1 ops i).d) (e:=(Zy1 ops j).d) v .un hP;have e2:(⟨(S.put (Zy1 ops i).d v).tm,S.bs,S.ss⟩:St)=S.put (Zy1 ops i).d v:=by cases (Zy1 ops i).d<;>rfl
       have e3:(⟨(S.put (Zy1 ops j).d .un).tm,S.bs,S.ss⟩:St)=S.put (Zy1 ops j).d .un:=by cases (Zy1 ops j).d<;>rfl
       rw [e2,e3] at e;rw [←e];exact g2
      ·refine .inr ⟨by rw [←hV.1];exact g1,u,⟨S.tm,S1.bs,S1.ss⟩,fun ro hc M a w hT next Q hn=>?_,rfl,?_,?_⟩
       ·have:ro=rj:=by rw [hA] at hc;simpa using hc.symm
        subst this;cases hd:(Zy1 ops i).d with
        | none=>rw [hd] at g2;exact g2 ro hA M a w hT next Q hn
        | some d=>
          rw [hd] at g2;obtain ⟨x,hx⟩:∃x,v.is M x:=by
           rcases hg with ⟨_,hr⟩ | ⟨_,rfl⟩ | ⟨_,n,x,y,m',rows,jj,row,h1,h2,h3,h4,h5,h6,rfl⟩ | ⟨_,_,xs,_,hp⟩
           rotate_left 3
           ·exact (hp S (fun _ _=>rfl) c).2 M a w _ h8 hT
           ·exact Zy9 hT (by rw [h8];exact hr)
           ·exact ⟨undef,rfl⟩
           ·rw [←h8] at h1;obtain ⟨T,y1,z1,e,hJ,_,_,hy,hz⟩:=Zd7 h1;have:=Z34 hT y1;rw [hy,h2] at this;exact Zda this h6
          have hT':RelT c M (S.put (some d) v) (a.put (some d) x) w:=hT.put (some d) (.refl M) hT.st hx;have ap:=ap1 d (by rw [hG];exact hd);refine Zq9 (all:=all) (fun cs b=>Region.noSelect_spec hE j ro cs b hA) ap.1 ap.2 (x:=x) (g2 ro hA M _ w hT' _ _ fun M' w' y h1 h2 h3=>?_);have hb:=hn M' w' y h1 h2 h3;have key:((a.put (some d) x).put ro.dst y).put (some d) (a.tmps.getD d undef)=a.put ro.dst y:=by
           have h1:(a.put (some d) x).put (some d) (a.tmps.getD d undef)=a:=by
            obtain ⟨tm,df⟩:=a;simp only [Act.put,Act.mk.injEq,and_true];rw [Array.setIfInBounds_setIfInBounds];apply Array.ext';simp only [Array.toList_setIfInBounds];apply List.ext_getElem?;intro j;rw [List.getElem?_set];split
            ·rename_i e;subst e;split
             ·rename_i h;simp at h;simp [h]
             ·rename_i h;simp at h;simp [h]
            ·rfl
           cases hY:ro.dst with
           | none=>exact h1
           | some e=>
             have hne:e≠d:=fun x=>ap.2 (by rw [hY,x]);have h2:((a.put (some d) x).put (some e) y).put (some d) (a.tmps.getD d undef)=((a.put (some d) x).put (some d) (a.tmps.getD d undef)).put (some e) y:=by simp only [Act.put,Act.mk.injEq,and_true];rw [Array.setIfInBounds_comm _ _ hne]
             rw [h2,h1]
          rw [key];exact hb
       ·refine g4.imp (fun g4=>?_) id;intro j' off n l h1 h2 h3;have hb:=(Z1a S (Zy1 ops i).d v).1;have:=g4 j' off n l (by rw [Z2a hb];exact h1) h2 (fun n a' v' j2 off' ho hx=>h3 n a' v' j2 off' ho (by
         rw [Z0a] at hx
         ·exact hx
         ·intro t ht e;subst ht;have:Operand.tmp t∈rj.op.operands:=by rw [←hoj] at ho;exact Zca ho
          exact (ap1 t (by rw [hG];exact e)).1 (Z3a this)))
        rw [Z2a (S:=S1) (S':=⟨S.tm,S1.bs,S1.ss⟩) rfl];exact this
       ·have n1:=next_ok u S1.bs S1.ss (fun j' off n l h1 h2 hl=>by
         have hb:=(Z1a S (Zy1 ops i).d v).1;rcases g4 with g4 | g4
         rotate_left 1
         ·exfalso;rcases g4 i hl with e | e
          ·exact hN e
          ·have h9:=hia j e;rw [Z9a hK] at h9;simp at h9
         have:=g4 j' off n l (by rw [Z2a hb];exact h1) h2 (fun n a' v' j2 off' ho _=>by
          exfalso;rcases Zl9 (hQ hl) j hW with h1 | h1 | h1
          ·rw [Nat.zero_add,hK] at h1;simp at h1
          ·rw [ho] at h1;simp [Zi9] at h1
          ·rw [Nat.zero_add] at h1;exact hN h1)
         rw [Z2a (S:=S1) (S':=⟨S.tm,S1.bs,S1.ss⟩) rfl];exact this)
        refine Zea hw hE i hq m (Zu1 ld j) _ hU n1 hf' hst' ?_;rw [←hI];have e:=Zp9 S S1.bs S1.ss (d:=(Zy1 ops i).d) (e:=(Zy1 ops j).d) v u hP;have e2:(⟨(S.put (Zy1 ops i).d v).tm,S1.bs,S1.ss⟩:St)=S1:=by rw [←g3]
        have e3:(⟨(S.put (Zy1 ops j).d u).tm,S1.bs,S1.ss⟩:St)=(⟨S.tm,S1.bs,S1.ss⟩:St).put (Zy1 ops j).d u:=by cases (Zy1 ops j).d<;>rfl
        rw [e2,e3] at e;rw [←e];exact g5
def gst (S:St):Option (Nat×Bool)→Option Bool
 | none=>some true
 | some (t,f)=>match lgt S.tm t,f with
   | .tt,true=>some true
   | .ff,false=>some true
   | .tt,false=>some false
   | .ff,true=>some false
   | .un,_=>some false
   | _,_=>none
theorem Zfa {S:St} {g:Option (Nat×Bool)} (h:gst S g=some true):gm S g:=by
 cases g with
 | none=>trivial
 | some tf=>
   obtain ⟨t,f⟩:=tf;simp only [gst] at h;split at h<;>simp at h
   ·rename_i e;simp only [gm,e]
   ·rename_i e;simp only [gm,e]
theorem Zga {S:St} {g:Option (Nat×Bool)} (h:gst S g=some false):gno S g:=by
 cases g with
 | none=>simp [gst] at h
 | some tf=>
   obtain ⟨t,f⟩:=tf;simp only [gst] at h;split at h<;>simp at h
   ·rename_i e;simp only [gno,e]
   ·rename_i e;simp only [gno,e]
   ·rename_i e;simp only [gno,e]
def tkv (S:St) (o:EOp):Option (AV×Prop):=
 match gst S o.g with
 | some true=>rd S o.o
 | some false=>some (.un,True)
 | none=>none
theorem Zha {S:St} {o:EOp} {v:AV} {q:Prop} (h:tkv S o=some (v,q)):tk S o v q:=by
 unfold tkv at h;split at h
 ·rename_i e;exact .inl ⟨Zfa e,h⟩
 ·rename_i e;simp at h;exact .inr (.inl ⟨Zga e,h.1.symm⟩)
 ·simp at h
def Zia (ops:List EOp) (af nap:List (List Nat)) (ld:List Bool) (S:St):List Nat→Option (Nat×AV×Prop)
 | []=>none
 | i::l=>match tkv S (Zy1 ops i) with
   | some r=>match Z4 (frB ld af i (Zx1 nap i)) (match Zq8 (Zy1 ops i).o with | true=>stB ld af i ops 0 | false=>true) with
     | true=>some (i,r.1,r.2)
     | false=>Zia ops af nap ld S l
   | none=>Zia ops af nap ld S l
def Zja (ops:List EOp) (af nap:List (List Nat)):Nat→List Bool→St→Prop→Nat×List Bool×St×Prop
 | 0,ld,S,p=>(0,ld,S,p)
 | m+1,ld,S,p=>match Zia ops af nap ld S (rdy ld af 0) with
   | some r=>Zja ops af nap m (Zu1 ld r.1) (S.put (Zy1 ops r.1).d r.2.1) (p∧r.2.2)
   | none=>(m+1,ld,S,p)
theorem Zka {ops:List EOp} {af nap:List (List Nat)} {ld:List Bool} {S:St}:∀ {l:List Nat} {i:Nat} {v:AV} {q:Prop},Zia ops af nap ld S l=some (i,v,q)→
  i∈l∧tk S (Zy1 ops i) v q∧frB ld af i (Zx1 nap i)=true∧(Zq8 (Zy1 ops i).o=true→stB ld af i ops 0=true)
 | [],i,v,q,h=>by simp [Zia] at h
 | j::l,i,v,q,h=>by
   simp only [Zia] at h;split at h
   ·rename_i r hr;split at h
    ·rename_i hc;rw [Zz1] at hc;simp only [Option.some.injEq,Prod.mk.injEq] at h;obtain ⟨rfl,rfl,rfl⟩:=h;refine ⟨by simp,Zha hr,hc.1,fun hl=>?_⟩;have:=hc.2;rw [hl] at this;exact this
    ·obtain ⟨h1,h2⟩:=Zka h;exact ⟨by simp [h1],h2⟩
   ·obtain ⟨h1,h2⟩:=Zka h;exact ⟨by simp [h1],h2⟩
theorem Zla {c:Ctx} {all:Array Oper} {ops:List EOp} (h6:all.toList.mapM (Ze c.P all)=some ops) (h8:Region.noSelect all=true) {Φ:St→Prop}:
  ∀(m:Nat) (ld:List Bool) (S:St) (p:Prop),(Zja ops (Zl all) (Zm all) m ld S p).2.2.2→
   G c all ops (Zl all) Φ (Zja ops (Zl all) (Zm all) m ld S p).1 (Zja ops (Zl all) (Zm all) m ld S p).2.1 (Zja ops (Zl all) (Zm all) m ld S p).2.2.1→p∧G c all ops (Zl all) Φ m ld S
 | 0,ld,S,p,hp,h=>⟨hp,h⟩
 | m+1,ld,S,p,hp,h=>by
   simp only [Zja] at hp h;split at hp
   ·rename_i r hr;rw [hr] at h;obtain ⟨i,v,q⟩:=r;obtain ⟨h1,h2⟩:=Zla h6 h8 m _ _ _ hp h;obtain ⟨g1,g2,g3,g4⟩:=Zka hr;exact ⟨h1.1,Zea h6 h8 i h1.2 m ld S g1 g2 g3 g4 h2⟩
   ·rename_i hr;rw [hr] at h;exact ⟨hp,h⟩
theorem Zma {c:Ctx} {all:Array Oper} {ops:List EOp} {af:List (List Nat)} {Φ:St→Prop} {ld:List Bool} {S:St} (hr:rdy ld af 0=[]) (h:Φ S):∀m,G c all ops af Φ m ld S
 | 0=>⟨hr,h⟩
 | _+1=>⟨fun _=>h,fun i hi=>by rw [hr] at hi;simp at hi⟩
theorem G_go {c:Ctx} {all:Array Oper} {ops:List EOp} {af nap:List (List Nat)} (h6:all.toList.mapM (Ze c.P all)=some ops) (h8:Region.noSelect all=true) (hc:af=Zl all) (h9:nap=Zm all) {Φ:St→Prop}
  {m:Nat} {ld:List Bool} {S:St} (h:(Zja ops af nap m ld S True).2.2.2∧G c all ops af Φ (Zja ops af nap m ld S True).1 (Zja ops af nap m ld S True).2.1 (Zja ops af nap m ld S True).2.2.1):G c all ops af Φ m ld S:=by
 subst hc;subst h9;exact (Zla h6 h8 _ _ _ True h.1 h.2).2
def GO (c:Ctx) (all:Array Oper) (ops:List EOp) (af:List (List Nat)) (Φ:St→Prop) (m:Nat) (ld:List Bool) (S:St) (i:Nat):Prop:=
 (gno S (Zy1 ops i).g∧G c all ops af Φ m (Zu1 ld i) (S.put (Zy1 ops i).d .un))∨
 (gm S (Zy1 ops i).g∧∃v S1,(∀ro,all[i]?=some ro→Zs8 c S ro v S1)∧S1.tm=S.tm∧(Zp8 S S1 (Zy1 ops i).o∨Zr8 ops af i)∧G c all ops af Φ m (Zu1 ld i) (S1.put (Zy1 ops i).d v))
section
variable {c:Ctx} {all:Array Oper} {ops:List EOp} {af:List (List Nat)} {Φ:St→Prop} {m:Nat} {ld:List Bool} {S:St}
theorem Zna (i:Nat) (hr:rdy ld af 0=[i]) (h:GO c all ops af Φ m ld S i):G c all ops af Φ (m+1) ld S:=⟨fun h0=>by rw [h0] at hr;simp at hr,fun j hj=>by rw [hr] at hj;simp at hj;subst hj;exact h⟩
theorem Zoa (i j:Nat) (hr:rdy ld af 0=[i,j]) (h:GO c all ops af Φ m ld S i) (h2:GO c all ops af Φ m ld S j):G c all ops af Φ (m+1) ld S:=⟨fun h0=>by rw [h0] at hr;simp at hr,fun k hk=>by rw [hr] at hk;simp at hk;rcases hk with rfl | rfl;exact h;exact h2⟩
theorem Zpa (i j k:Nat) (hr:rdy ld af 0=[i,j,k]) (h:GO c all ops af Φ m ld S i) (h2:GO c all ops af Φ m ld S j) (h3:GO c all ops af Φ m ld S k):G c all ops af Φ (m+1) ld S:=⟨fun h0=>by rw [h0] at hr;simp at hr,fun l hl=>by rw [hr] at hl;simp at hl;rcases hl with rfl | rfl | rfl;exact h;exact h2;exact h3⟩
theorem Zqa (h6:all.toList.mapM (Ze c.P all)=some ops) {i:Nat} {v:AV} {S1:St} (hg:gm S (Zy1 ops i).g) (hs:Z77 c S (Zy1 ops i).o v S1) (h8:S1.tm=S.tm) (hk:Zp8 S S1 (Zy1 ops i).o)
  (h:G c all ops af Φ m (Zu1 ld i) (S1.put (Zy1 ops i).d v)):GO c all ops af Φ m ld S i:=
 .inr ⟨hg,v,S1,fun ro h9=>hs ro (Z79 (Z89 h6 h9)).2,h8,.inl hk,h⟩
theorem Zra (h6:all.toList.mapM (Ze c.P all)=some ops) {i:Nat} {v:AV} {S1:St} (hg:gm S (Zy1 ops i).g) (hs:Z77 c S (Zy1 ops i).o v S1) (h8:S1.tm=S.tm) (hk:Zr8 ops af i)
  (h:G c all ops af Φ m (Zu1 ld i) (S1.put (Zy1 ops i).d v)):GO c all ops af Φ m ld S i:=
 .inr ⟨hg,v,S1,fun ro h9=>hs ro (Z79 (Z89 h6 h9)).2,h8,.inr hk,h⟩
theorem Zsa (S:St) (B:Option Blk) (tm ss) (j off n:Nat) (l:List AV) (h:Zd1 S (.ptr j off) n=some l):Zd1 ⟨tm,S.bs++[B],ss⟩ (.ptr j off) n=some l:=by
 simp only [Zd1] at h ⊢;split at h
 ·rename_i C hC;have h6:=Z82 hC;rw [Z52,if_neg (by omega),hC];exact h
 ·simp at h
theorem Zta {o:EO} {v:AV} {S1:St} {q:Prop} (h:ev S o=some (v,S1,q)):S1.tm=S.tm∧Zp8 S S1 o:=by
 have same:S1=S→S1.tm=S.tm∧Zp8 S S1 o:=fun e=>by subst e;exact ⟨rfl,Z8a _ _⟩
 cases o<;>simp only [ev,reduceCtorEq] at h
 case alloc T z=>split at h<;>simp at h;obtain ⟨_,rfl,_⟩:=h;exact ⟨rfl,fun j off n l h1 _ _=>Zsa S _ _ _ j off n l h1⟩
 case box T n x=>
  split at h
  ·split at h<;>simp at h;obtain ⟨_,rfl,_⟩:=h;exact ⟨rfl,fun j off n l h1 _ _=>Zsa S _ _ _ j off n l h1⟩
  ·simp at h
 case store n a x=>
  split at h
  ·rename_i j off hj;split at h
   ·rename_i B hB;split at h
    ·split at h
     ·simp only [Option.map_eq_some_iff,Prod.mk.injEq] at h;obtain ⟨_,_,_,rfl,_⟩:=h;refine ⟨rfl,fun j' off' n' l h1 _ h3=>?_⟩;have hne:=h3 n a x j off rfl hj;simp only [Zd1] at h1 ⊢;rw [Z62,if_neg (fun e=>hne e.1.symm)];exact h1
     ·simp at h
    ·simp at h
   ·simp at h
  ·simp at h
 case eqs ng ks x y=>
  split at h
  ·simp only [Option.map_eq_some_iff,Prod.mk.injEq] at h;obtain ⟨_,_,_,rfl,_⟩:=h;exact same rfl
  ·simp at h
 case bq ng x y=>split at h<;>simp at h;exact same h.2.1.symm
 case bsl T n len z ps=>
  split at h
  ·split at h<;>simp at h;obtain ⟨_,rfl,_⟩:=h;exact ⟨rfl,fun j off n l h1 _ _=>h1⟩
  ·simp at h
 case conv k x=>cases k<;>simp only at h<;>split at h<;>simp at h<;>exact same h.2.1.symm
 case field off n x=>cases n<;>simp only at h<;>split at h<;>simp at h<;>obtain ⟨_,_,_,h,_⟩:=h<;>exact same h.symm
 case mv x=>simp at h;exact same h.2.1.symm
 case pick p x y=>split at h<;>simp at h<;>exact same h.2.1.symm
 case load x=>simp at h;obtain ⟨_,_,_,h,_⟩:=h;exact same h.symm
 case loadA n x=>simp at h;obtain ⟨_,_,_,h,_⟩:=h;exact same h.symm
 case nilchk x=>split at h<;>simp at h<;>exact same h.2.1.symm
 case bin op x y=>simp only [Option.map_eq_some_iff,Prod.mk.injEq] at h;obtain ⟨_,_,_,h,_⟩:=h;exact same h.symm
 case sbin op x y=>simp only [Option.map_eq_some_iff,Prod.mk.injEq] at h;obtain ⟨_,_,_,h,_⟩:=h;exact same h.symm
 case slen x=>split at h<;>simp at h;exact same h.2.1.symm
 case not x=>split at h<;>simp at h<;>exact same h.2.1.symm
 case neg x=>split at h<;>simp at h;exact same h.2.1.symm
 case fld off x=>split at h<;>simp at h<;>exact same h.2.1.symm
 case build z ps=>simp at h;obtain ⟨_,_,_,h,_⟩:=h;exact same h.symm
 case ext x k=>split at h<;>simp at h;obtain ⟨_,_,_,h,_⟩:=h;exact same h.symm
 case mkf f caps=>simp at h;exact same h.2.1.symm
 case len x=>
  split at h
  ·simp at h;exact same h.2.1.symm
  ·simp at h;exact same h.2.1.symm
  ·split at h<;>simp at h;exact same h.2.1.symm
  ·simp at h;exact same h.2.1.symm
  ·simp at h
 case mm mx xs=>split at h<;>simp at h;obtain ⟨_,_,_,h,_⟩:=h;exact same h.symm
def geO (S:St) (o:EOp):Option (AV×St×Prop):=
 match gst S o.g with
 | some true=>ev S o.o
 | _=>none
theorem Zua (h6:all.toList.mapM (Ze c.P all)=some ops) {i:Nat} {v:AV} {S1:St} {q:Prop} (he:geO S (Zy1 ops i)=some (v,S1,q)) (hq:q)
  (h:G c all ops af Φ m (Zu1 ld i) (S1.put (Zy1 ops i).d v)):GO c all ops af Φ m ld S i:=by
 unfold geO at he;split at he
 ·rename_i hg;exact Zqa h6 (Zfa hg) (Z97 he hq) (Zta he).1 (Zta he).2 h
 ·simp at he
theorem Zva (h6:all.toList.mapM (Ze c.P all)=some ops) {i f:Nat} {xs:List X} {args:List AV} {res:AV} (U:(Zy1 ops i).o = .call f xs) (hg:gm S (Zy1 ops i).g) (J:Zz6 c.P f args res)
  (ha:AV.le.leL (Z71 S xs) args:=by first | exact Zrb _ | simp [go_sem]) (hp:puL args=true:=by first | rfl | simp [go_sem]) (h:G c all ops af Φ m (Zu1 ld i) (S.put (Zy1 ops i).d res)):GO c all ops af Φ m ld S i:=
 Zqa h6 hg (by rw [U];exact Zf7 J ha hp) rfl (Z8a _ _) h
theorem Zwa (h6:all.toList.mapM (Ze c.P all)=some ops) {i f:Nat} {o:X} {xs:List X} {caps args:List AV} {res:AV} (U:(Zy1 ops i).o = .callv o xs) (hg:gm S (Zy1 ops i).g) (hx:S.x o = .clo f caps) (J:Zz6 c.P f args res)
  (h8:(c.P.funcs[f]?).any (fun fn=>fn.body.isSome&&!(fn.name == "runtime.NumGoroutine"))=true) (ha:AV.le.leL (Z71 S xs++caps) args:=by first | exact Zrb _ | simp [go_sem]) (hp:puL args=true:=by first | rfl | simp [go_sem])
  (h:G c all ops af Φ m (Zu1 ld i) (S.put (Zy1 ops i).d res)):GO c all ops af Φ m ld S i:=
 Zqa h6 hg (by rw [U];exact Zh7 hx J h8 ha hp) rfl (Z8a _ _) h
theorem Zxa {nap:List (List Nat)} (h6:all.toList.mapM (Ze c.P all)=some ops) (h8:Region.noSelect all=true) (hc:af=Zl all) (h9:nap=Zm all) (i:Nat) {n k:Nat} {x y:X} {rows:List (List AV)} {j:Int} (row:List AV)
  (hi:Zw1 i (rdy ld af 0)=true) (J:(Zy1 ops i).o = .idx n x y) (hg:gm S (Zy1 ops i).g) (hx:S.x x = .sl k rows) (hy:S.x y = .iv j) (hd:k=n) (h0:0≤j) (hr:rows[j.toNat]?=some row)
  (U:frB ld af i (Zx1 nap i)=true) (h:G c all ops af Φ m (Zu1 ld i) (S.put (Zy1 ops i).d (.elt row 0))):G c all ops af Φ (m+1) ld S:=by
 subst hc;subst h9;exact Zea h6 h8 i (q:=True) trivial m ld S ((Zl8 _ _).1 hi) (.inr (.inr (.inl ⟨hg,n,x,y,k,rows,j,row,J,hx,hy,hd,h0,hr,rfl⟩))) U (fun hl=>by rw [J] at hl;simp [Zq8] at hl) h
end
end NX
end Go.Proofs.YtgamgemlekpepaaGreat
