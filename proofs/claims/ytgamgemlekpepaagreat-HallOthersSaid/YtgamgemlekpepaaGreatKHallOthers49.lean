/-
  Plain laws, gathered by a program of ours. No statement of the seat is proved here.
-/
import Derived.Test.YtgamgemlekpepaaGreatRows
import Derived.Test.YtgamgemlekpepaaGreatK46
import Derived.Test.YtgamgemlekpepaaGreatKHallOthers48
set_option maxRecDepth 100000
set_option maxHeartbeats 40000000
namespace Go.Proofs.YtgamgemlekpepaaGreat
namespace NX
open Go
noncomputable section
theorem Z2n1 (l:List Edge) (p:Edge→Option Bool) (q:Edge→Bool) (hl:l.length≤4000000000000000000) (hp:∀x∈l,p x=some (q x)):Zso l p=some (plc (l.findIdx? q)):=by
 unfold Zso;refine Zza1 l _ q hl (fun k x hx=>?_) ?_
 ·simp only [Zro,Zoa1 hx,Zha1,Zla1 hx,OB,hp x (List.mem_iff_getElem?.2 ⟨k,hx⟩),Zra1 hx hl];cases q x<;>rfl
 ·simp only [Zro,Zpa1,Zia1,Zqo,Option.map_some]
theorem Z3n1 (l:List Edge) (p:Edge→Option Bool) (q:Edge→Bool) (hl:l.length≤4000000000000000000) (hp:∀x∈l,p x=some (q x)):Znu l p=some (l.any q):=by unfold Znu;rw [Z2n1 l p q hl hp,OB,Zwa1,Z0b1]
def cmpI (a b:Int):Int:=if a<b then -1 else if b<a then 1 else 0
theorem Z4n1 (a b:Int):Zpu a b=some (cmpI a b):=by simp only [Zpu,Zxo,OB,cmpI];by_cases h1:a<b<;>by_cases h2:b<a<;>simp [h1,h2,ifb]
theorem s_Or (a b:Int):Z1p [a,b]=some (if a≠0 then a else b):=by
 unfold Z1p;rw [Zdc];simp only [Z0p,ln_eq,List.length_cons,List.length_nil];by_cases ha:a=0
 ·subst ha;simp [at_];rw [show wr 1=1 from Zka1 (by omega) (by omega),Zdc];simp only [Z0p,ln_eq,List.length_cons,List.length_nil];by_cases hb:b=0
  ·subst hb;simp [at_];rw [show wr 2=2 from Zka1 (by omega) (by omega),Zdc];simp [Z0p,ln_eq,Zzo]
  ·simp [at_,hb]
 ·simp [at_,ha]
def Edge.lt (x y:Edge):Bool:=decide (x.A<y.A)||(decide (x.A=y.A)&&decide (x.B<y.B))
theorem Z5n1 (x y:Edge):∃n,Zuy x y=some n∧decide (0≤n)=!x.lt y:=by
 refine ⟨if cmpI x.A y.A≠0 then cmpI x.A y.A else cmpI x.B y.B,by simp only [Zuy,Z4n1,OB,s_Or],?_⟩;unfold cmpI Edge.lt;by_cases h1:x.A<y.A
 ·simp [h1]
 ·by_cases h2:y.A<x.A
  ·have:x.A≠y.A:=by omega
   simp [h1,h2,this]
  ·have:x.A=y.A:=by omega
   simp [this];by_cases h3:x.B<y.B
   ·simp [h3]
   ·by_cases h4:y.B<x.B<;>simp [h3,h4]<;>omega
def Edge.ok (n:Int) (e:Edge):Bool:=decide (0≤e.A)&&(decide (e.A<e.B)&&decide (e.B<n))
def risB:List Edge→Bool
 | x::y::l=>x.lt y&&risB (y::l)
 | _=>true
theorem Z6n1 (l:List Edge):risB l=true↔∀k x y,l[k]?=some x→l[k+1]?=some y→x.lt y=true:=by
 induction l with
 | nil=>simp [risB]
 | cons a l ih=>
   cases l with
   | nil=>simp [risB]
   | cons b l=>
     simp only [risB,Bool.and_eq_true,ih];constructor
     ·rintro ⟨h1,h2⟩ k x y hx hy;cases k with
      | zero=>simp at hx hy;subst hx;subst hy;exact h1
      | succ k=>exact h2 k x y (by simpa using hx) (by simpa using hy)
     ·intro h;exact ⟨h 0 a b (by simp) (by simp),fun k x y hx hy=>h (k+1) x y (by simpa using hx) (by simpa using hy)⟩
def okG (g:Graph):Bool:=decide (0≤g.N)&&(decide (g.N≤64)&&(decide (g.Edges.length≤400)&&(g.Edges.all (Edge.ok g.N)&&risB g.Edges)))
theorem Z7n1 (e:Edge) (g:Graph):Zvo e g=some (!e.ok g.N):=by
 simp only [Zvo,Zuo,Edge.ok];by_cases h1:e.A<0
 ·have:¬0≤e.A:=by omega
  simp [h1,this]
 ·have h1':0≤e.A:=by omega
  by_cases h2:e.B≤e.A
  ·have:¬e.A<e.B:=by omega
   simp [h1,h2,this]
  ·have h2':e.A<e.B:=by omega
   by_cases h3:g.N≤e.B
   ·have:¬e.B<g.N:=by omega
    simp [h1,h2,h3,this]
   ·have:e.B<g.N:=by omega
    simp [h1,h2,h3,this,h1',h2']
theorem Z8n1 {β:Type} (l:List Edge) (body:Int→Option (Int ⊕ β)) (J U:β) (q:Edge→Bool) (_:l.length≤4000000000000000000)
  (hb:∀(k:Nat) x,l[k]?=some x→body k=some (if q x||(match k with | 0=>false | k+1=>match l[k]? with | some y=>!y.lt x | none=>false) then .inr J else .inl ((k+1:Nat):Int))) (he:body l.length=some (.inr U)):
  loop body 0=some (if l.all (fun x=>!q x)&&risB l then U else J):=by
 have key:∀m k,m+k=l.length→(∀j x,j<k→l[j]?=some x→q x=false)→(∀j x y,j+1<k→l[j]?=some x→l[j+1]?=some y→x.lt y=true)→loop body (k:Int)=some (if l.all (fun x=>!q x)&&risB l then U else J):=by
  intro m;induction m with
  | zero=>
    intro k hk h1 h2;have:k=l.length:=by omega
    subst this;rw [Zdc,he];have a1:l.all (fun x=>!q x)=true:=by rw [List.all_eq_true];intro x hx;obtain ⟨j,hj⟩:=List.mem_iff_getElem?.1 hx;simp [h1 j x (List.getElem?_eq_some_iff.1 hj).1 hj]
    have a2:risB l=true:=by rw [Z6n1];intro j x y hx hy;exact h2 j x y (List.getElem?_eq_some_iff.1 hy).1 hx hy
    simp [a1,a2]
  | succ m ih=>
    intro k hk h1 h2;have h9:k<l.length:=by omega
    have hx:l[k]?=some l[k]:=List.getElem?_eq_getElem h9;rw [Zdc,hb k _ hx];by_cases hq:q l[k]=true
    ·have:l.all (fun x=>!q x)=false:=by rw [List.all_eq_false];exact ⟨l[k],List.getElem_mem h9,by simp [hq]⟩
     simp [hq,this]
    ·have hq:q l[k]=false:=by simpa using hq
     cases k with
     | zero=>
       simp only [hq,Bool.or_false,Bool.false_eq_true,if_false];refine ih 1 (by omega) (fun j x hj h6=>?_) (fun j x y hj=>by omega);have:j=0:=by omega
       subst this;rw [hx] at h6;simp at h6;rw [←h6];exact hq
     | succ k=>
       have hy:l[k]?=some l[k]:=List.getElem?_eq_getElem (by omega);simp only [hq,hy,Bool.false_or];by_cases hr:l[k].lt l[k+1]=true
       ·simp only [hr,Bool.not_true,Bool.false_eq_true,if_false];refine ih (k+1+1) (by omega) (fun j x hj h6=>?_) (fun j x y hj h6 h8=>?_)
        ·rcases Nat.lt_succ_iff_lt_or_eq.1 hj with h | rfl
         ·exact h1 j x h h6
         ·rw [hx] at h6;simp at h6;rw [←h6];exact hq
        ·rcases Nat.lt_succ_iff_lt_or_eq.1 (Nat.succ_lt_succ_iff.1 hj) with h | rfl
         ·exact h2 j x y (by omega) h6 h8
         ·rw [hy] at h6;rw [hx] at h8;simp at h6 h8;rw [←h6,←h8];exact hr
       ·have hr:l[k].lt l[k+1]=false:=by simpa using hr
        have:risB l=false:=by
         cases h:risB l with
         | false=>rfl
         | true=>rw [Z6n1] at h;have:=h k _ _ hy hx;rw [hr] at this;exact absurd this (by simp)
        simp [hr,this]
 exact key l.length 0 (by omega) (fun j x hj=>by omega) (fun j x y hj=>by omega)
theorem Z9n1 (g:Graph):Z711 g=some (if okG g then 0 else 30):=by
 simp only [Z711,Z611];by_cases h1:g.N<0
 ·have:¬0≤g.N:=by omega
  simp [h1,okG,this]
 by_cases h2:64<g.N
 ·have:¬g.N≤64:=by omega
  simp [h1,h2,okG,this]
 by_cases h3:400<g.Edges.length
 ·have:¬g.Edges.length≤400:=by omega
  have h3':(400:Int)<ln Edge.row g.Edges:=by rw [ln_eq];omega
  simp [h1,h2,h3',okG,this]
 have h3':¬(400:Int)<ln Edge.row g.Edges:=by rw [ln_eq];omega
 rw [Z3n1 g.Edges _ (fun e=>!e.ok g.N) (by omega) (fun x _=>Z7n1 x g)];have e1:0≤g.N:=by omega
 have e2:g.N≤64:=by omega
 have e3:g.Edges.length≤400:=by omega
 simp only [h1,h2,h3',decide_false,Zia1,OB,okG,e1,e2,e3,decide_true,Bool.true_and];by_cases h4:g.Edges.any (fun e=>!e.ok g.N)=true
 ·have h5:g.Edges.all (Edge.ok g.N)=false:=by rw [List.any_eq_true] at h4;obtain ⟨x,hx,hq⟩:=h4;rw [List.all_eq_false];exact ⟨x,hx,by simpa using hq⟩
  simp [h4,h5]
 ·have h4:g.Edges.any (fun e=>!e.ok g.N)=false:=by simpa using h4
  have h5:g.Edges.all (Edge.ok g.N)=true:=by rw [List.any_eq_false] at h4;rw [List.all_eq_true];intro x hx;simpa using h4 x hx
  simp only [h4,h5,Zia1,Bool.true_and];have key:=Z8n1 g.Edges (Z511 g) 30 0 (fun _=>false) (by omega) (fun k x hx=>by
   cases k with
   | zero=>have:=Zoa1 (f:=Edge.row) hx;simp only [Z511,this,Zha1,Z411];simp;exact Zra1 hx (by omega)
   | succ k=>
     have hk:=(List.getElem?_eq_some_iff.1 hx).1;have hy:g.Edges[k]?=some g.Edges[k]:=List.getElem?_eq_getElem (by omega);obtain ⟨n,h6,h8⟩:=Z5n1 g.Edges[k] x;have h0:decide ((0:Int)<((k+1:Nat):Int))=true:=DT (by omega);simp only [Z511,Zoa1 hx,Zha1,h0,Zqb1 (show k≤4000000000000000000 by omega),Zla1 hy,Zla1 hx,OB,h6,h8,Z411,hy,Bool.false_or];cases g.Edges[k].lt x
     ·simp
     ·simp only [Bool.not_true,Bool.false_eq_true,if_false,Zia1];rw [Zra1 hx (show g.Edges.length≤4000000000000000000 by omega)])
   (by simp only [Z511,Zpa1,Zia1,Z311,Option.map_some])
  rw [key];simp
theorem Zan1 {g:Graph} (h:okG g=true):0≤g.N∧g.N≤64∧g.Edges.length≤400∧(∀e∈g.Edges,0≤e.A∧e.A<e.B∧e.B<g.N)∧risB g.Edges=true:=by simp only [okG,Bool.and_eq_true,decide_eq_true_eq,List.all_eq_true,Edge.ok] at h;exact ⟨h.1,h.2.1,h.2.2.1,fun e he=>h.2.2.2.1 e he,h.2.2.2.2⟩
def cg (c:List Int) (i:Int):Int:=(c[i.toNat]?).getD 0
theorem Zbn1 {c:List Int} {i:Int} (h0:0≤i) (h:i<c.length):at_ c i=some (cg c i):=by obtain ⟨x,h1,h2⟩:=Zma1 h0 h;rw [h1,cg,h2];rfl
def Zcn1 (g:Graph) (c:List Int):Bool:=decide ((c.length:Int)=g.N)&&(c.all (fun x=>decide (1≤x))&&g.Edges.all (fun e=>!decide (cg c e.A=cg c e.B)))
theorem Zdn1 (g:Graph) (c:List Int) (_:c.length≤1000000):Zc31 g c=some (okG g&&Zcn1 g c):=by
 simp only [Zc31,Z9n1,OB,Zja1];cases hg:okG g with
 | false=>simp [Zb31]
 | true=>
   obtain ⟨g1,g2,g3,g4,g5⟩:=Zan1 hg;simp only [if_true,decide_true,Zha1,Bool.true_and,ln_eq];by_cases hl:(c.length:Int)=g.N
   ·rw [Zob1 c (fun z=>Z3p z) (fun x=>decide (x<1)) (by omega) (fun x _=>rfl)];simp only [hl,decide_true,Zha1,OB,Zcn1,Bool.true_and];have e1:c.any (fun x=>decide (x<1))=!c.all (fun x=>decide (1≤x)):=Zsb1 _ _ _ (fun x=>by
     by_cases h:x<1
     ·have:¬1≤x:=by omega
      simp [h,this]
     ·have:1≤x:=by omega
      simp [h,this])
    rw [e1];cases hp:c.all (fun x=>decide (1≤x)) with
    | false=>simp [Zb31]
    | true=>simp only [Bool.not_true,Zb31,Zia1];rw [Z3n1 g.Edges _ (fun e=>decide (cg c e.A=cg c e.B)) (by omega) (fun e he=>by obtain ⟨k1,k2,k3⟩:=g4 e he;simp only [Z5p,Zbn1 (c:=c) k1 (by omega),Zbn1 (c:=c) (show 0≤e.B by omega) (by omega),OB])];simp [Zrb1]
   ·simp [hl,Zcn1,Zb31]
def sideB (l:List DI) (i:Nat) (x:SX):Bool:=decide (0≤x.PE)&&(decide (x.PE<l.length)&&(!decide (x.PE=i)&&(match l[x.PE.toNat]? with | some e=>(sideO e i).isSome | none=>false)))
def riseB (p:Option Int) (x:SX):Bool:=match p with | none=>true | some q=>decide (q<x.PE)
def Zhn1 (l:List DI) (i:Nat):Option Int→List SX→Bool
 | _,[]=>true
 | p,x::r=>riseB p x&&(sideB l i x&&Zhn1 l i (some x.PE) r)
def Zin1 (i:Nat) (xs:List SX):List Edge:=(xs.filter fun x=>decide ((i:Int)<x.PE)).map fun x=>⟨i,x.PE⟩
def Zjn1 (l:List DI):Nat→List DI→Bool
 | _,[]=>true
 | i,d::r=>decide (d.ID=i)&&(Zhn1 l i none d.SD&&Zjn1 l (i+1) r)
def Zkn1:Nat→List DI→List Edge
 | _,[]=>[]
 | i,d::r=>Zin1 i d.SD++Zkn1 (i+1) r
def Zln1:Graph:=⟨0,[]⟩
def Zmn1 (l:List DI):Graph×Bool:=if Zjn1 l 0 l&&okG ⟨l.length,Zkn1 0 l⟩ then (⟨l.length,Zkn1 0 l⟩,true) else (Zln1,false)
theorem Znn1 (l:List DI):∀(r:List DI) (i:Nat),Zjn1 l i r=true↔∀k d,r[k]?=some d→d.ID=((i+k:Nat):Int)∧Zhn1 l (i+k) none d.SD=true
 | [],i=>by simp [Zjn1]
 | d::r,i=>by
   simp only [Zjn1,Bool.and_eq_true,decide_eq_true_eq,Znn1 l r (i+1)];constructor
   ·rintro ⟨h1,h2,h3⟩ k e he;cases k with
    | zero=>simp at he;subst he;exact ⟨by simpa using h1,by simpa using h2⟩
    | succ k=>have:=h3 k e (by simpa using he);rw [show i+(k+1)=i+1+k by omega];exact this
   ·intro h;refine ⟨by simpa using (h 0 d (by simp)).1,by simpa using (h 0 d (by simp)).2,fun k e he=>?_⟩;have:=h (k+1) e (by simpa using he);rw [show i+1+k=i+(k+1) by omega];exact this
theorem Edge.lt_trans {x y z:Edge} (h:x.lt y=true) (k:y.lt z=true):x.lt z=true:=by simp only [Edge.lt,Bool.or_eq_true,Bool.and_eq_true,decide_eq_true_eq] at *;omega
theorem Zon1:∀ {l:List Edge},risB l=true→l.Pairwise fun x y=>x.lt y=true
 | [],_=>List.Pairwise.nil
 | [x],_=>by simp
 | x::y::l,h=>by
   simp only [risB,Bool.and_eq_true] at h;have ih:=Zon1 h.2;refine List.pairwise_cons.2 ⟨?_,ih⟩;intro z hz;rcases List.mem_cons.1 hz with rfl | hz
   ·exact h.1
   ·exact Edge.lt_trans h.1 ((List.pairwise_cons.1 ih).1 z hz)
theorem Zpn1 {g:Graph} (h:okG g=true):g.Edges.Pairwise fun x y=>x.lt y=true:=Zon1 (Zan1 h).2.2.2.2
def Zqn1 (a:Int) (e:Edge):Option Int:=if a=e.A then some e.B else if a=e.B then some e.A else none
def Zrn1 (g:Graph) (a:Int):List Int:=g.Edges.filterMap (Zqn1 a)
theorem Zsn1 {g:Graph} (h:okG g=true) (a:Int):(Zrn1 g a).Pairwise (· < ·):=by
 unfold Zrn1;rw [List.pairwise_filterMap];obtain ⟨_,_,_,h4,_⟩:=Zan1 h;refine List.Pairwise.imp_of_mem ?_ (Zpn1 h);intro x y hx hy h6 b hb b' hb';have k1:=h4 x hx;have k2:=h4 y hy;simp only [Edge.lt,Bool.or_eq_true,Bool.and_eq_true,decide_eq_true_eq] at h6;unfold Zqn1 at hb hb';split at hb<;>split at hb'
 ·simp at hb hb';omega
 ·split at hb'
  ·simp at hb hb';omega
  ·simp at hb'
 ·split at hb
  ·simp at hb hb';omega
  ·simp at hb
 ·split at hb<;>split at hb'
  ·simp at hb hb';omega
  ·simp at hb'
  ·simp at hb
  ·simp at hb
theorem Ztn1 (g:Graph) (a:Int):(Zrn1 g a).length≤g.Edges.length:=List.length_filterMap_le _ _
theorem Zun1 (g:Graph) (a:Int):Zh31 g a=some (if okG g then Zrn1 g a else []):=by
 simp only [Zh31,Z9n1,OB];cases hg:okG g with
 | false=>rfl
 | true=>
   have h6:=(Zan1 hg).2.2.1;simp only [if_true,decide_true,Bool.not_true,Zia1];refine Z5b1 g.Edges _ (fun pre=>((pre.length:Int),pre.filterMap (Zqn1 a))) (Zrn1 g a) (fun pre e post h=>?_) ?_
   ·have hx:=Z6b1 h;have hm:=Z7b1 h;have hl:(pre.filterMap (Zqn1 a)).length≤pre.length:=List.length_filterMap_le _ _;dsimp only [Zg31];rw [Zoa1 hx,Zha1,Zla1 hx,OB,Zbb1,List.filterMap_append];by_cases h1:a=e.A
    ·rw [DT h1,Zha1,Zna1 _ _ (by omega) (by simp only [List.length_singleton];omega),OB,Zf31,Zqa1 (by omega)];simp [Zqn1,h1]
    ·by_cases h2:a=e.B
     ·rw [DN h1,Zia1,DT h2,Zha1,Zna1 _ _ (by omega) (by simp only [List.length_singleton];omega),OB,Zf31,Zqa1 (by omega)];have:¬e.B=e.A:=fun e'=>h1 (h2.trans e');simp [Zqn1,h2,this]
     ·rw [DN h1,Zia1,DN h2,Zia1,Zf31,Zqa1 (by omega)];simp [Zqn1,h1,h2]
   ·dsimp only [Zg31];rw [Zpa1,Zia1,Ze31];have:(g.Edges.filterMap (Zqn1 a))=Zrn1 g a:=rfl;rw [this,Zyb1 _ (by have:=Ztn1 g a;omega) (Zsn1 hg a)];rfl
theorem Zvn1 {g:Graph} (h:okG g=true) {a b:Int}:b∈Zrn1 g a↔(⟨a,b⟩:Edge)∈g.Edges∨(⟨b,a⟩:Edge)∈g.Edges:=by
 obtain ⟨_,_,_,h4,_⟩:=Zan1 h;unfold Zrn1;rw [List.mem_filterMap];constructor
 ·rintro ⟨e,he,hb⟩;unfold Zqn1 at hb;split at hb
  ·rename_i h1;simp at hb;subst hb;subst h1;exact .inl he
  ·split at hb
   ·rename_i h2;simp at hb;subst hb;subst h2;exact .inr he
   ·simp at hb
 ·rintro (he | he)
  ·exact ⟨_,he,by simp [Zqn1]⟩
  ·have:=h4 _ he;dsimp only at this;exact ⟨_,he,by unfold Zqn1;rw [if_neg (by dsimp only;omega),if_pos rfl]⟩
theorem Zxn1 {g:Graph} (h:okG g=true) {a b:Int} (hb:b∈Zrn1 g a):0≤b∧b<g.N∧b≠a∧0≤a∧a<g.N:=by
 obtain ⟨_,_,_,h4,_⟩:=Zan1 h;rcases (Zvn1 h).1 hb with he | he
 ·have:=h4 _ he;dsimp only at this;omega
 ·have:=h4 _ he;dsimp only at this;omega
def Zyn1 (c:List Int) (a b:Int):SX:=⟨b,1,0,decide (cg c b<cg c a),decide (cg c b<cg c a),!decide (cg c b<cg c a),decide (cg c b<cg c a),!decide (cg c b<cg c a)⟩
def Zzn1 (g:Graph) (c:List Int) (a:Nat):DI:=⟨a,0,(Zrn1 g a).map (Zyn1 c a)⟩
def Z0o1 (g:Graph) (c:List Int):List DI:=(List.range g.N.toNat).map (Zzn1 g c)
theorem Z1o1 {α:Type} (f:Nat→α) (k:Nat):(List.range (k+1)).map f=(List.range k).map f++[f k]:=by simp [List.range_succ]
theorem Z2o1 (g:Graph) (hg:okG g=true) (c:List Int) (U:(c.length:Int)=g.N) (a:Nat) (ha:(a:Int)<g.N) (L:List DI) (J:L.length≤1000):
  loop (Zp41 c a L (Zrn1 g a)) (0,[])=some (.inl (((a+1:Nat):Int),L++[Zzn1 g c a])):=by
 obtain ⟨g1,g2,g3,_,_⟩:=Zan1 hg;have h6:=Ztn1 g a;refine Z5b1 (Zrn1 g a) _ (fun pre=>((pre.length:Int),pre.map (Zyn1 c a))) _ (fun pre b post h=>?_) ?_
 ·have hx:=Z6b1 h;have hm:=Z7b1 h;obtain ⟨b1,b2,_,_,_⟩:=Zxn1 hg (Z8b1 h);dsimp only [Zp41];rw [Zoa1 hx,Zha1,Zla1 hx,OB,Zbn1 (c:=c) (Int.natCast_nonneg a) (by omega),OB,Zbn1 (c:=c) b1 (by omega),OB,Zna1 _ _ (by omega) (by simp;omega),OB,Zbb1,Zqa1 (by omega),List.map_append];rfl
 ·dsimp only [Zp41];rw [Zpa1,Zia1,Zo41,Zna1 _ _ (by omega) (by simp;omega),OB,Zqa1 (by omega)];rfl
theorem Z3o1 {g:Graph} {c:List Int} (h:Zcn1 g c=true):(c.length:Int)=g.N:=by simp only [Zcn1,Bool.and_eq_true,decide_eq_true_eq] at h;exact h.1
theorem Z4o1 (g:Graph) (c:List Int) (J:c.length≤1000000):Zr41 g c=some (if okG g then (if Zcn1 g c then (Z0o1 g c,0) else ([],120)) else ([],30)):=by
 simp only [Zr41,Z9n1,OB];cases hg:okG g with
 | false=>rfl
 | true=>
   obtain ⟨g1,g2,_,_,_⟩:=Zan1 hg;simp only [if_true,decide_true,Bool.not_true,Zia1,Zdn1 g c J,hg,Bool.true_and,OB];cases hr:Zcn1 g c with
   | false=>rfl
   | true=>
     simp only [Bool.not_true,Zia1,if_true];refine Zcb1 g.N.toNat (Zq41 g c) (fun k=>((k:Int),(List.range k).map (Zzn1 g c))) _ (fun k hk=>?_) ?_
     ·dsimp only [Zq41];rw [DT (by omega),Zha1,Zun1,hg,if_pos rfl,OB,Z2o1 g hg c (Z3o1 hr) k (by omega) _ (by simp;omega),Z1o1]
     ·dsimp only [Zq41];rw [DN (by omega),Zia1];rfl
theorem Zao1 {g:Graph} (hg:okG g=true) (c:List Int):((Z0o1 g c).length:Int)=g.N:=by have:=(Zan1 hg).1;simp [Z0o1];omega
theorem ids {l:List DI} (h:(Zmn1 l).2=true) {k:Nat} {d:DI} (J:l[k]?=some d):d.ID=k:=by
 unfold Zmn1 at h;split at h
 ·rename_i h1;simp only [Bool.and_eq_true] at h1;have:=((Znn1 l l 0).1 h1.1 k d J).1;simpa using this
 ·simp at h
def lsf (p:Nat→Bool):Nat→Nat→Nat
 | 0,k=>k
 | f+1,k=>if p k then k else lsf p f (k+1)
theorem Zbo1 (p:Nat→Bool):∀(f k:Nat),p (k+f)=true→p (lsf p f k)=true∧k≤lsf p f k∧lsf p f k≤k+f
 | 0,k,h=>⟨h,Nat.le_refl _,Nat.le_refl _⟩
 | f+1,k,h=>by
   simp only [lsf];split
   ·rename_i h1;exact ⟨h1,Nat.le_refl _,by omega⟩
   ·obtain ⟨h1,h2,h3⟩:=Zbo1 p f (k+1) (by rw [show k+1+f=k+(f+1) by omega];exact h);exact ⟨h1,by omega,by omega⟩
def Zco1 (c:List Int) (J:List Int) (k:Nat):Bool:=J.any fun b=>decide (cg c b=(k:Int))
def Zdo1 (c J:List Int):Nat:=lsf (fun k=>!Zco1 c J k) 200 1
def Zeo1 (c J:List Int) (a:Int):Bool:=decide (cg c a=0)&&!J.any fun b=>decide (cg c b=0)&&decide (a<b)
def newC (g:Graph) (c:List Int) (a:Nat):Int:=if Zeo1 c (Zrn1 g a) a then (Zdo1 c (Zrn1 g a):Int) else cg c a
def Zfo1 (g:Graph) (c:List Int):List Int:=(List.range g.N.toNat).map (newC g c)
structure ColI (g:Graph) (c:List Int):Prop where
 len:(c.length:Int)=g.N
 lo:∀x∈c,0≤x
 hi:∀x∈c,x≤100
theorem Zgo1 {c:List Int} {a:Int} (h0:0≤a) (h:a<c.length):cg c a∈c:=by obtain ⟨x,h1,h2⟩:=Zma1 h0 h;unfold cg;rw [h2];exact List.mem_iff_getElem?.2 ⟨_,h2⟩
theorem Zho1 {g:Graph} (hg:okG g=true) {c:List Int} (J:ColI g c) (a:Int):Zco1 c (Zrn1 g a) (Zdo1 c (Zrn1 g a))=false∧1≤Zdo1 c (Zrn1 g a)∧Zdo1 c (Zrn1 g a)≤201:=by have h:=Zbo1 (fun k=>!Zco1 c (Zrn1 g a) k) 200 1 (by simp only [Bool.not_eq_true'];unfold Zco1;rw [List.any_eq_false];intro b hb;obtain ⟨b1,b2,_⟩:=Zxn1 hg hb;have:=J.hi _ (Zgo1 (c:=c) b1 (by rw [J.len];exact b2));simp;omega);have h1:=h.1;simp only [Bool.not_eq_true'] at h1;exact ⟨h1,h.2.1,h.2.2⟩
theorem Zio1 (g:Graph) (hg:okG g=true) (c:List Int) (J:ColI g c) (a:Nat) (ha:(a:Int)<g.N) (A B:List Int) (U:A.length=a):
  loop (Zv41 c a (Zrn1 g a)) (A++1::B)=some (.inl (((a+1:Nat):Int),A++(Zdo1 c (Zrn1 g a):Int)::B)):=by
 obtain ⟨g1,g2,g3,_,_⟩:=Zan1 hg;have h8:=Ztn1 g a;have at1:∀y:Int,at_ (A++y::B) (a:Int)=some y:=fun y=>by rw [←U];exact Z9b1 rfl
 have st1:∀y z:Int,(A++y::B).set ((a:Int)).toNat z=A++z::B:=fun y z=>by rw [←U];exact Zab1 _ _ _ _
 have step:∀k:Nat,Z1s (Zrn1 g a) (fun z=>Zkp z c (A++(k:Int)::B) a)=some (Zco1 c (Zrn1 g a) k):=fun k=>by refine Zob1 (Zrn1 g a) _ (fun b=>decide (cg c b=(k:Int))) (by omega) (fun b hb=>?_);obtain ⟨b1,b2,_⟩:=Zxn1 hg hb;simp only [Zkp];rw [Zbn1 (c:=c) b1 (by rw [J.len];exact b2),OB,at1,OB]
 have key:∀f k:Nat,k+f=201→1≤k→Zco1 c (Zrn1 g a) 201=false→loop (Zv41 c a (Zrn1 g a)) (A++(k:Int)::B)=some (.inl (((a+1:Nat):Int),A++(lsf (fun k=>!Zco1 c (Zrn1 g a) k) f k:Int)::B)):=by
  intro f;induction f with
  | zero=>
    intro k hk _ h6;have:k=201:=by omega
    subst this;rw [Zdc];dsimp only [Zv41];rw [step,OB,h6,Zia1];dsimp only [Zu41];rw [Zqa1 (by omega)];rfl
  | succ f ih=>
    intro k hk h1 h6;rw [Zdc];dsimp only [Zv41];rw [step,OB];cases hu:Zco1 c (Zrn1 g a) k with
    | true=>rw [Zha1,at1,OB,st1,Zqa1 (by omega)];dsimp only;rw [ih (k+1) (by omega) (by omega) h6];simp [lsf,hu]
    | false=>rw [Zia1];dsimp only [Zu41];rw [Zqa1 (by omega)];simp [lsf,hu]
 refine key 200 1 rfl (Nat.le_refl _) ?_;unfold Zco1;rw [List.any_eq_false];intro b hb;obtain ⟨b1,b2,_⟩:=Zxn1 hg hb;have:=J.hi _ (Zgo1 (c:=c) b1 (by rw [J.len];exact b2));simp;omega
theorem Zjo1 {c:List Int} {k:Nat} (h:k<c.length):c.drop k=cg c k::c.drop (k+1):=by rw [List.drop_eq_getElem_cons h];congr 1;unfold cg;simp [h]
theorem Zko1 (g:Graph) (hg:okG g=true) (c:List Int) (J:ColI g c):Zz41 g c=some (Zfo1 g c,0):=by
 obtain ⟨g1,g2,g3,_,_⟩:=Zan1 hg;have h6:=J.len;simp only [Zz41,Z9n1,hg,if_true,decide_true,Bool.not_true,Zia1,OB,ln_eq,h6];rw [Zob1 c (fun z=>Zfp z) (fun x=>decide (x<0)) (by omega) (fun x _=>rfl),OB];have e0:c.any (fun x=>decide (x<0))=false:=by rw [List.any_eq_false];intro x hx;have:=J.lo x hx;simp;omega
 rw [e0];simp only [Zy41,Zia1,Z9l];rw [Zna1 _ _ (by omega) (by simp;omega),OB,List.nil_append];refine (Zcb1 g.N.toNat (Zx41 g c) (fun k=>((k:Int),(List.range k).map (newC g c)++c.drop k)) (Zfo1 g c,0) (fun k hk=>?_) ?_)
 ·have h8:k<c.length:=by omega
  obtain ⟨g1',_⟩:=Zan1 hg;dsimp only [Zx41];rw [DT (by omega),Zha1,Zun1,hg,if_pos rfl,OB,Zbn1 (c:=c) (Int.natCast_nonneg k) (by omega),OB,Zjo1 h8,Z1o1];have hA:((List.range k).map (newC g c)).length=k:=by simp
  have keep:newC g c k=cg c k→Zw41 c k ((List.range k).map (newC g c)++cg c k::c.drop (k+1)) (Zrn1 g k) true=some (.inl (((k+1:Nat):Int),((List.range k).map (newC g c)++[newC g c k])++c.drop (k+1))):=fun e=>by dsimp only [Zw41,Zu41];rw [Zha1,Zqa1 (by omega),e];simp
  by_cases h0:cg c k=0
  ·rw [DT h0,Bool.not_true,Zia1];have h9:Z1s (Zrn1 g k) (fun z=>Zip z c k)=some ((Zrn1 g k).any fun b=>decide (cg c b=0)&&decide ((k:Int)<b)):=by refine Zob1 (Zrn1 g k) _ (fun b=>decide (cg c b=0)&&decide ((k:Int)<b)) (by have:=Ztn1 g k;omega) (fun b hb=>?_);obtain ⟨b1,b2,_⟩:=Zxn1 hg hb;simp only [Zip,Zhp];rw [Zbn1 (c:=c) b1 (by omega),OB];cases decide (cg c b=0)<;>rfl
   rw [h9,OB];cases ht:(Zrn1 g k).any fun b=>decide (cg c b=0)&&decide ((k:Int)<b) with
   | true=>refine keep ?_;unfold newC Zeo1;rw [ht];simp
   | false=>
     have e:newC g c k=(Zdo1 c (Zrn1 g k):Int):=by unfold newC Zeo1;rw [ht,DT h0];simp
     dsimp only [Zw41];have at1:=Z9b1 (l:=(List.range k).map (newC g c)++cg c k::c.drop (k+1)) rfl;rw [hA] at at1;have st1:=Zab1 ((List.range k).map (newC g c)) (c.drop (k+1)) (cg c k) 1;rw [hA] at st1;rw [Zia1,at1,OB,st1,Zio1 g hg c J k (by omega) _ _ hA,e];simp
  ·rw [DN h0,Bool.not_false,Zha1];refine keep ?_;unfold newC Zeo1;rw [DN h0];simp
 ·dsimp only [Zx41];rw [DN (by omega),Zia1,List.drop_eq_nil_of_le (by omega),List.append_nil];rfl
theorem Zlo1 (p:Nat→Bool):∀(f k j:Nat),p j=true→k≤j→j≤k+f→lsf p f k≤j
 | 0,k,j,_,h1,_=>h1
 | f+1,k,j,h,h1,h2=>by
   simp only [lsf];split
   ·exact h1
   ·rename_i hp;have:k≠j:=by rintro rfl;exact hp h
    exact Zlo1 p f (k+1) j h (by omega) (by omega)
theorem Zmo1 {α:Type} (p q:α→Bool):∀(l:List α),(∀x∈l,p x=true→q x=true)→(∃x∈l,q x=true∧p x=false)→l.countP p<l.countP q
 | [],_,⟨x,hx,_⟩=>absurd hx (by simp)
 | y::l,h,⟨x,hx,h1,h2⟩=>by
   have hle:l.countP p≤l.countP q:=List.countP_mono_left fun z hz=>h z (List.mem_cons_of_mem _ hz);rw [List.countP_cons,List.countP_cons];rcases List.mem_cons.1 hx with rfl | hx
   ·rw [h1,h2];simp;omega
   ·have:=Zmo1 p q l (fun z hz=>h z (List.mem_cons_of_mem _ hz)) ⟨x,hx,h1,h2⟩;have hy:=h y (by simp);cases hp:p y with
    | false=>simp;omega
    | true=>rw [hy hp];simp;omega
def Zno1 (g:Graph) (c:List Int):Nat:=(List.range g.N.toNat).countP fun a:Nat=>decide (cg c (a:Int)=0)
theorem Zoo1 (g:Graph) (c:List Int):Zno1 g c≤g.N.toNat:=by have:=List.countP_le_length (p:=fun a:Nat=>decide (cg c (a:Int)=0)) (l:=List.range g.N.toNat);simpa [Zno1] using this
structure ColN (g:Graph) (c:List Int) (n:Nat):Prop where
 len:(c.length:Int)=g.N
 lo:∀x∈c,0≤x
 hi:∀x∈c,x≤n
 ne:∀a b,b∈Zrn1 g a→cg c a≠0→cg c b≠0→cg c a≠cg c b
theorem ColN.I {g:Graph} {c:List Int} {n:Nat} (h:ColN g c n) (J:n≤100):ColI g c:=⟨h.len,h.lo,fun x hx=>by have:=h.hi x hx;omega⟩
theorem Zpo1 {g:Graph} {c:List Int} {a:Int} (h0:0≤a) (h:a<g.N):cg (Zfo1 g c) a=newC g c a.toNat:=by unfold cg Zfo1;rw [List.getElem?_map,List.getElem?_range (by omega)];rfl
theorem Zqo1 {g:Graph} (hg:okG g=true) {a b:Int} (h:b∈Zrn1 g a):a∈Zrn1 g b:=by rw [Zvn1 hg] at *;exact h.symm
theorem Zro1 {c J:List Int} {a:Int}:Zeo1 c J a=true↔cg c a=0∧∀b∈J,cg c b=0→b≤a:=by
 unfold Zeo1;simp only [Bool.and_eq_true,decide_eq_true_eq,Bool.not_eq_true',List.any_eq_false,Bool.and_eq_true,decide_eq_true_eq,not_and];constructor
 ·rintro ⟨h1,h2⟩;exact ⟨h1,fun b hb h0=>by have:=h2 b hb h0;omega⟩
 ·rintro ⟨h1,h2⟩;exact ⟨h1,fun b hb h0=>by have:=h2 b hb h0;omega⟩
theorem Zso1 {g:Graph} {c:List Int} {n:Nat} (J:ColN g c n) (U:n≤100) (a:Int):Zdo1 c (Zrn1 g a)≤n+1:=by
 refine Zlo1 _ _ _ _ ?_ (by omega) (by omega);simp only [Bool.not_eq_true'];unfold Zco1;rw [List.any_eq_false];intro b hb;simp only [decide_eq_true_eq];intro he;by_cases h:0≤b∧b<c.length
 ·have:=J.hi _ (Zgo1 (c:=c) h.1 h.2);omega
 ·unfold cg at he;have h6:0≤b.toNat:=Nat.zero_le _;cases hq:c[b.toNat]? with
  | none=>rw [hq] at he;simp at he;omega
  | some y=>rw [hq] at he;have:=J.hi y (List.mem_iff_getElem?.2 ⟨_,hq⟩);simp at he;omega
theorem Zto1 (g:Graph) (c:List Int) (a:Nat):(Zeo1 c (Zrn1 g a) a=true∧newC g c a=(Zdo1 c (Zrn1 g a):Int))∨(Zeo1 c (Zrn1 g a) a=false∧newC g c a=cg c a):=by unfold newC;cases Zeo1 c (Zrn1 g a) a<;>simp
theorem ColN.round {g:Graph} (hg:okG g=true) {c:List Int} {n:Nat} (J:ColN g c n) (U:n≤100):ColN g (Zfo1 g c) (n+1):=by
 obtain ⟨g1,g2,_,_,_⟩:=Zan1 hg;have hI:=J.I U;have h6:∀x∈Zfo1 g c,0≤x∧x≤n+1:=fun x hx=>by
  obtain ⟨a,ha,rfl⟩:=List.mem_map.1 hx;have ha':=List.mem_range.1 ha;have:=Zso1 J U a;rcases Zto1 g c a with ⟨_,h2⟩ | ⟨_,h2⟩
  ·rw [h2];omega
  ·rw [h2];have hm:=Zgo1 (c:=c) (a:=(a:Int)) (by omega) (by have:=J.len;omega);have:=J.lo _ hm;have:=J.hi _ hm;omega
 refine ⟨by simp [Zfo1];omega,fun x hx=>(h6 x hx).1,fun x hx=>by have:=(h6 x hx).2;omega,fun a b hb h8 h9=>?_⟩;obtain ⟨b1,b2,b3,a1,a2⟩:=Zxn1 hg hb;have hd:=Zqo1 hg hb;rw [Zpo1 a1 a2] at h8 ⊢;rw [Zpo1 b1 b2] at h9 ⊢;have ea:((a.toNat:Nat):Int)=a:=Int.toNat_of_nonneg a1;have eb:((b.toNat:Nat):Int)=b:=Int.toNat_of_nonneg b1;have ua:=(Zho1 hg hI a).1;have ub:=(Zho1 hg hI b).1;unfold Zco1 at ua ub;rw [List.any_eq_false] at ua ub;have ua':=ua b hb;have ub':=ub a hd;simp only [decide_eq_true_eq] at ua' ub';rcases Zto1 g c a.toNat with ⟨h1,h2⟩ | ⟨h1,h2⟩<;>rcases Zto1 g c b.toNat with ⟨k1,k2⟩ | ⟨k1,k2⟩<;>rw [ea] at h1 h2<;>rw [eb] at k1 k2
 ·rw [Zro1] at h1 k1;have:=h1.2 b hb k1.1;have:=k1.2 a hd h1.1;exact absurd (by omega) b3
 ·rw [h2,k2];exact fun e=>ua' e.symm
 ·rw [h2,k2];exact ub'
 ·rw [h2,k2];rw [h2] at h8;rw [k2] at h9;exact J.ne a b hb h8 h9
theorem Zuo1 (p:Nat→Bool):∀n:Nat,(∃a,a<n∧p a=true)→∃a,a<n∧p a=true∧∀b,b<n→p b=true→b≤a
 | 0,⟨a,h,_⟩=>absurd h (by omega)
 | n+1,⟨a,h,hp⟩=>by
   cases hn:p n with
   | true=>exact ⟨n,by omega,hn,fun b hb _=>by omega⟩
   | false=>
     have:a≠n:=by rintro rfl;rw [hn] at hp;simp at hp
     obtain ⟨a',h1,h2,h3⟩:=Zuo1 p n ⟨a,by omega,hp⟩;refine ⟨a',by omega,h2,fun b hb hpb=>?_⟩;have:b≠n:=by rintro rfl;rw [hn] at hpb;simp at hpb
     exact h3 b (by omega) hpb
theorem Zvo1 {g:Graph} (hg:okG g=true) {c:List Int} {n:Nat} (J:ColN g c n) (U:n≤100) (h0:(0:Int)∈c):Zno1 g (Zfo1 g c)<Zno1 g c:=by
 have hI:=J.I U;have ex:∃a,a<g.N.toNat∧(fun a:Nat=>decide (cg c (a:Int)=0)) a=true:=by obtain ⟨k,hk⟩:=List.mem_iff_getElem?.1 h0;have h8:=(List.getElem?_eq_some_iff.1 hk).1;have:=J.len;refine ⟨k,by omega,?_⟩;simp [cg,hk]
 obtain ⟨a,h1,h2,h3⟩:=Zuo1 _ _ ex;simp only [decide_eq_true_eq] at h2 h3;refine Zmo1 _ _ _ (fun b hb hz=>?_) ⟨a,List.mem_range.2 h1,by simpa using h2,?_⟩
 ·have hb':=List.mem_range.1 hb;have hf:=(Zho1 hg hI b).2.1;simp only [decide_eq_true_eq] at hz ⊢;rw [Zpo1 (by omega) (by omega),Int.toNat_natCast] at hz;rcases Zto1 g c b with ⟨k1,k2⟩ | ⟨k1,k2⟩
  ·rw [Zro1] at k1;exact k1.1
  ·rw [←k2];exact hz
 ·have ht:Zeo1 c (Zrn1 g a) a=true:=by rw [Zro1];refine ⟨h2,fun b hb h6=>?_⟩;obtain ⟨b1,b2,_⟩:=Zxn1 hg hb;have:=h3 b.toNat (by omega) (by rw [Int.toNat_of_nonneg b1];exact h6);omega
  have hf:=(Zho1 hg hI a).2.1;simp only [decide_eq_false_iff_not];rw [Zpo1 (by omega) (by omega),Int.toNat_natCast];unfold newC;rw [ht];simp;omega
def runL (g:Graph):Nat→List Int→Int→List Int×Int
 | 0,c,n=>(c,n)
 | f+1,c,n=>if (0:Int)∈c then runL g f (Zfo1 g c) (n+1) else (c,n)
theorem Zwo1 {g:Graph} {c:List Int} {n:Nat} (J:ColN g c n) (h0:(0:Int)∈c):0<Zno1 g c:=by obtain ⟨k,hk⟩:=List.mem_iff_getElem?.1 h0;have h6:=(List.getElem?_eq_some_iff.1 hk).1;have:=J.len;refine List.countP_pos_iff.2 ⟨k,List.mem_range.2 (by omega),?_⟩;simp [cg,hk]
theorem Zxo1 {g:Graph} (hg:okG g=true):∀(f:Nat) (c:List Int) (n:Nat),ColN g c n→Zno1 g c≤f→n+f≤100→Zcn1 g (runL g f c n).1=true∧(runL g f c n).1.length≤64:=by
 obtain ⟨g1,g2,g3,g4,g5⟩:=Zan1 hg;have done:∀(c:List Int) (n:Nat),ColN g c n→(0:Int)∉c→Zcn1 g c=true∧c.length≤64:=fun c n hc h0=>by
  have hl:=hc.len;refine ⟨?_,by omega⟩;unfold Zcn1;rw [DT hl,Bool.true_and,Bool.and_eq_true,List.all_eq_true,List.all_eq_true];have nz:∀a:Int,0≤a→a<g.N→cg c a≠0:=fun a h1 h2 h=>h0 (h ▸ Zgo1 (c:=c) h1 (by omega));refine ⟨fun x hx=>?_,fun e he=>?_⟩
  ·have:=hc.lo x hx;have:x≠0:=by rintro rfl;exact h0 hx
   simp;omega
  ·obtain ⟨e1,e2,e3⟩:=g4 e he;have:=hc.ne e.A e.B ((Zvn1 hg).2 (.inl he)) (nz _ e1 (by omega)) (nz _ (by omega) e3);simpa using this
 intro f;induction f with
 | zero=>
   intro c n hc hz _;have h0:(0:Int)∉c:=fun h=>by have:=Zwo1 hc h;omega
   exact done c n hc h0
 | succ f ih=>
   intro c n hc hz hn;simp only [runL];split
   ·rename_i h0;have:=Zvo1 hg hc (by omega) h0;have k:=ih (Zfo1 g c) (n+1) (hc.round hg (by omega)) (by omega) (by omega);rwa [show ((n+1:Nat):Int)=(n:Int)+1 from rfl] at k
   ·rename_i h0;exact done c n hc h0
theorem Zyo1 {g:Graph} (hg:okG g=true):∀(f:Nat) (c:List Int) (n:Nat),ColN g c n→Zno1 g c≤f→n+f≤100→loop (Zb61 g) (c,(n:Int))=some ((runL g f c n).1,(runL g f c n).2,0):=by
 obtain ⟨g1,g2,g3,g4,g5⟩:=Zan1 hg;have stop:∀(c:List Int) (n:Nat),ColN g c n→(0:Int)∉c→loop (Zb61 g) (c,(n:Int))=some (c,(n:Int),0):=fun c n hc h0=>by have hl:=hc.len;rw [Zdc];dsimp only [Zb61];rw [Z2c1 c 0 (by omega),OB,DN h0,Zia1];rfl
 intro f;induction f with
 | zero=>
   intro c n hc hz _;have h0:(0:Int)∉c:=fun h=>by have:=Zwo1 hc h;omega
   exact stop c n hc h0
 | succ f ih=>
   intro c n hc hz hn;have hl:=hc.len;simp only [runL];by_cases h0:(0:Int)∈c
   ·rw [if_pos h0,Zdc];dsimp only [Zb61];rw [Z2c1 c 0 (by omega),OB,DT h0,Zha1,Zko1 g hg c (hc.I (by omega)),OB,Zqa1 (by omega)];have:=Zvo1 hg hc (by omega) h0;exact ih (Zfo1 g c) (n+1) (hc.round hg (by omega)) (by omega) (by omega)
   ·rw [if_neg h0];exact stop c n hc h0
def c0 (g:Graph):List Int:=List.replicate g.N.toNat 0
def Zzo1 (g:Graph):List Int:=(runL g 64 (c0 g) 0).1
theorem cg_c0 (g:Graph) (a:Int):cg (c0 g) a=0:=by unfold cg c0;rw [List.getElem?_replicate];split<;>rfl
theorem Z0p1 {g:Graph} (hg:okG g=true):ColN g (c0 g) 0:=by
 obtain ⟨g1,_⟩:=Zan1 hg;refine ⟨by simp [c0];omega,fun x hx=>?_,fun x hx=>?_,fun a b _ h _=>absurd (cg_c0 g a) h⟩
 ·have:=List.eq_of_mem_replicate hx;omega
 ·have:=List.eq_of_mem_replicate hx;omega
theorem Z1p1 {g:Graph} (hg:okG g=true) (c:List Int):Zno1 g c≤64:=by have:=Zoo1 g c;have:=(Zan1 hg).2.1;omega
theorem Z2p1 {g:Graph} (hg:okG g=true):Zcn1 g (Zzo1 g)=true∧(Zzo1 g).length≤64:=by have:=Zxo1 hg 64 (c0 g) 0 (Z0p1 hg) (Z1p1 hg _) (by omega);exact this
theorem s_Run (g:Graph) (hg:okG g=true):Zc61 g=some (Zzo1 g,(runL g 64 (c0 g) 0).2,0):=by
 obtain ⟨g1,g2,_⟩:=Zan1 hg;simp only [Zc61,Z9n1,hg,if_true,OB,decide_true,Bool.not_true,Zia1];have e:mk_ 8 g.N 0=some (c0 g):=by unfold mk_;rw [if_pos ⟨by omega,by omega⟩];rfl
 rw [e,OB];exact Zyo1 hg 64 (c0 g) 0 (Z0p1 hg) (Z1p1 hg _) (by omega)
def Z3p1 (g:Graph):SN:=⟨Z0o1 g (Zzo1 g),[]⟩
theorem s_New (g:Graph):Z571 g=some (if okG g then (Z3p1 g,0) else (⟨[],[]⟩,30)):=by
 cases hg:okG g with
 | false=>
   have:Zc61 g=some ([],0,30):=by simp only [Zc61,Z9n1,hg,OB];rfl
   simp only [Z571,this,OB];rfl
 | true=>obtain ⟨h1,h2⟩:=Z2p1 hg;simp only [Z571,s_Run g hg,OB,decide_true,Bool.not_true,Zia1,Z4o1 g _ (show (Zzo1 g).length≤1000000 by omega),hg,h1,if_true];rfl
def key (d:DI):Int×List Int:=(d.ID,d.SD.map (·.PE))
def bar0:Bar:=⟨[],[]⟩
def barT (g:Graph):Bar:=⟨(Z3p1 g).DZ.map fun d=>⟨d,0,[]⟩,[]⟩
theorem Zcp1 (g:Graph):Zn71 g=some (if okG g then (barT g,0) else (bar0,30)):=by
 simp only [Zn71,s_New,OB];cases hg:okG g with
 | false=>rfl
 | true=>
   have hl:(Z3p1 g).DZ.length≤64:=by have:=Zao1 hg (Zzo1 g);have:=(Zan1 hg).2.1;show (Z0o1 g (Zzo1 g)).length≤64;omega
   rw [if_pos rfl,show decide ((0:Int)=0)=true from rfl,Bool.not_true,Zia1,if_pos rfl];refine Z5b1 (Z3p1 g).DZ (Zm71 (Z3p1 g,0)) (fun pre=>((pre.length:Int),pre.map fun d=>(⟨d,0,[]⟩:DK))) (barT g,0) (fun pre x post h=>?_) ?_
   ·have hx:=Z6b1 h;have hm:=Z7b1 h;dsimp only [Zm71];rw [Zoa1 hx,Zha1,Zla1 hx,OB,Zna1 _ _ (by omega) (by simp;omega),OB,Zqa1 (by omega),Zbb1];simp
   ·dsimp only [Zm71];rw [Zpa1,Zia1];rfl
theorem Zdp1 (a b:DK) (hs:a.DI.SD.length≤1000000) (J:a.NE.length≤1000000):Zcv a b=some (decide (a=b)):=by obtain ⟨x,t,n⟩:=a;obtain ⟨x',t',n'⟩:=b;simp only at hs J;simp only [Zcv,Zbv,Z7d1 x x' hs,Zzb1 n n' J,OB,DK.mk.injEq];by_cases h1:x=x'<;>by_cases h4:t=t'<;>by_cases h5:n=n'<;>simp [h1,h4,h5]
theorem Zhp1 (n:NO) (h:FewN n):Z4z n=some n:=by
 have h1:=h.sides;have h2:=h.need;have h3:=h.told;have h4:=h.known;have h5:=h.asked;have h6:=h.book;have hb:Zzp n.BK=some n.BK:=by
  unfold Zzp;refine Z5b1 n.BK.SE _ (fun pre=>((pre.length:Int),pre)) _ (fun pre x post h0=>?_) ?_
  ·have hx:=Z6b1 h0;have hm:=Z7b1 h0;have hN:=h.needs x (Z8b1 h0);dsimp only [Zyp];rw [Zoa1 hx,Zha1,Zla1 hx,OB,Zna1 _ _ (by omega) (by simp;omega),OB,List.nil_append,Zna1 _ _ (by omega) (by simp;omega),OB,Zqa1 (by omega),Zbb1]
  ·dsimp only [Zyp,Zxp];rw [Zpa1,Zia1];rfl
 simp only [Z4z,Z6v,Zvp,hb];rw [Zna1 _ _ (by omega) (by simp;omega),OB,Zna1 _ _ (by omega) (by simp;omega),OB,OB,OB,Zna1 _ _ (by omega) (by simp;omega),OB,Zna1 _ _ (by omega) (by simp;omega),OB,Zna1 _ _ (by omega) (by simp;omega),OB];rfl
def Zip1 (b:BK):Bool:=decide (b.SE.length≤12)&&b.SE.all fun s=>decide (s.NE.length≤70)
theorem Zjp1 (b:BK):∃z,Z4q b=some z∧(z=true→Zip1 b=true):=by
 unfold Z4q;have key:∀(post pre:List SE),b.SE=pre++post→(∀s∈pre,s.NE.length≤70)→∃z,loop (Z3q b) (pre.length:Int)=some z∧(z=true→Zip1 b=true):=by
  intro post;induction post with
  | nil=>
    intro pre h hp;have h:pre=b.SE:=by simpa using h.symm
    rw [Zdc];dsimp only [Z3q,Z2q,Z1q];rw [h,Zpa1,Zia1,Zia1];refine ⟨_,rfl,fun hz=>?_⟩;rw [decide_eq_true_eq] at hz;unfold Zip1;rw [Bool.and_eq_true,decide_eq_true_eq,List.all_eq_true];rw [ln_eq] at hz;exact ⟨by omega,fun s hs=>DT (hp s (by rw [h];exact hs))⟩
  | cons x post ih=>
    intro pre h hp;have hx:=Z6b1 h;have hm:=Z7b1 h;rw [Zdc];dsimp only [Z3q,Z2q];rw [Zoa1 hx,Zha1];by_cases h6:(pre.length:Int)<13
    ·rw [DT h6,Zha1,Zla1 hx,OB,ln_eq];by_cases h8:(70:Int)<x.NE.length
     ·rw [DT h8,Zha1];exact ⟨false,rfl,by simp⟩
     ·rw [DN h8,Zia1,Zqa1 (by omega)];have:=ih (pre++[x]) (by simpa using h) fun s hs=>by
       rcases List.mem_append.1 hs with hs | hs
       ·exact hp s hs
       ·simp at hs;subst hs;omega
      rw [Zbb1] at this;exact this
    ·rw [DN h6,Zia1];refine ⟨_,rfl,fun hz=>?_⟩;rw [decide_eq_true_eq,ln_eq] at hz;omega
 exact key b.SE [] rfl (by simp)
theorem Zkp1 (n:NO):∃z,Z9v n=some z∧(z=true→FewN n):=by
 obtain ⟨z,hz,hf⟩:=Zjp1 n.BK;simp only [Z9v,Z8v,hz,OB,ln_eq];by_cases h1:(n.DK.DI.SD.length:Int)≤70
 ·by_cases h2:(n.DK.NE.length:Int)≤70
  ·by_cases h3:(n.KN.length:Int)≤70
   ·by_cases h4:(n.TL.length:Int)≤70
    ·by_cases h5:(n.AK.length:Int)≤70
     ·rw [DT h1,DT h2,DT h3,DT h4,DT h5];refine ⟨z,rfl,fun e=>?_⟩;have:=hf e;unfold Zip1 at this;rw [Bool.and_eq_true,decide_eq_true_eq,List.all_eq_true] at this;exact ⟨by omega,by omega,by omega,fun s hs=>by have:=of_decide_eq_true (this.2 s hs);omega,by omega,by omega,by omega⟩
     ·exact ⟨false,by rw [DT h1,DT h2,DT h3,DT h4,DN h5];rfl,by simp⟩
    ·exact ⟨false,by rw [DT h1,DT h2,DT h3,DN h4];rfl,by simp⟩
   ·exact ⟨false,by rw [DT h1,DT h2,DN h3];rfl,by simp⟩
  ·exact ⟨false,by rw [DT h1,DN h2];rfl,by simp⟩
 ·exact ⟨false,by rw [DN h1];rfl,by simp⟩
theorem Zlp1 (l m:List KE) (hl:l.length≤1000000):Z9q l m=some (decide (l=m)):=by
 simp only [Z9q,Zhb1];by_cases h:l.length=m.length
 ·simp only [h,decide_true,Bool.not_true,Zia1];rw [Zeb1 l m _ (fun x y=>decide (x=y)) h (by omega) (fun k x y hx hy=>by simp only [Z8q,Zoa1 hx,Zha1,Zla1 hx,Zla1 hy,OB,Zxj1,Zra1 hx (show l.length≤4000000000000000000 by omega),Zja1];cases decide (x=y)<;>rfl) (by simp only [Z8q,Zpa1,Zia1,Z7q,Option.map_some]),Zfb1 l m h]
 ·simp [h,Zgb1 h]
theorem Zmp1 (b c:BK) (hb:Zjc1 b):Zjv b c=some (decide (b=c)):=by
 obtain ⟨L,l⟩:=b;obtain ⟨L',m⟩:=c;have h1:l.length≤1000000:=hb.1;have h2:∀s∈l,s.NE.length≤1000000:=hb.2;simp only [Zjv,Ziv,Zhb1,BK.mk.injEq];by_cases q1:L=L'
 ·by_cases h:l.length=m.length
  ·simp only [q1,h,decide_true,Bool.not_true,Zia1,true_and];rw [Zeb1 l m _ (fun x y=>decide (x=y)) h (by omega) (fun k x y hx hy=>by have hm:=h2 x (List.mem_of_getElem? hx);have e:(⟨L',l⟩:BK).SE=l:=rfl;simp only [Zhv,Zgv,Zfv,Zoa1 hx,Zha1,Zla1 hx,Zla1 hy,OB,Zzb1 x.NE y.NE hm,Zra1 hx (show l.length≤4000000000000000000 by omega),Zja1];obtain ⟨i,n,s,a⟩:=x;obtain ⟨i',n',s',a'⟩:=y;simp only [SE.mk.injEq];by_cases g1:i=i'<;>by_cases g2:s=s'<;>by_cases g3:a=a'<;>by_cases g4:n=n'<;>simp [g1,g2,g3,g4,ifb]) (by simp only [Zhv,Zpa1,Zia1,Zev,Option.map_some]),Zfb1 l m h]
  ·have hne:l≠m:=of_decide_eq_false (Zgb1 h);simp [q1,h,hne]
 ·simp [q1]
theorem Znp1 (a b:NO) (h:FewN a):Z7z a b=some (decide (a=b)):=by have h1:=h.sides;have h2:=h.need;have h3:=h.told;have h4:=h.known;have h5:=h.asked;obtain ⟨d,k,K,T,A⟩:=a;obtain ⟨d',k',K',T',A'⟩:=b;simp only at h1 h2 h3 h4 h5;simp only [Z7z,Z6z,Zdp1 d d' (by omega) (by omega),Zmp1 k k' h.bk,Zlp1 K K' (by omega),Zlp1 A A' (by omega),Zzb1 T T' (by omega),OB,NO.mk.injEq];by_cases q1:d=d'<;>by_cases q2:k=k'<;>by_cases q3:K=K'<;>by_cases q4:T=T'<;>by_cases q5:A=A'<;>simp [q1,q2,q3,q4,q5]
theorem Zpp1 (p:Int):setL [p]=[p]:=Zbc1 (by simp)
def newK (d:DK):List KE:=d.DI.SD.map fun x=>⟨x.PE,x.EP⟩
def newN (d:DK):NO:=⟨d,⟨0,[]⟩,newK d,[],[]⟩
structure NewD (d:DK):Prop where
 din:DinOK d.DI
 id:d.DI.ID<64
 th:d.TH=0
 nd:d.NE=[]
 sd:∀x∈d.DI.SD,x.PE<64∧x.EP=1∧x.SS=0
theorem Zqp1 {d:DK} (h:NewD d):(newK d).Pairwise fun x y=>x.PE<y.PE:=List.pairwise_map.2 h.din.up
theorem NewD.ok {d:DK} (h:NewD d):OkN (newN d):=by
 refine ⟨⟨h.din,by rw [show (newN d).DK.TH=0 from h.th];omega,by rw [show (newN d).DK.TH=0 from h.th];omega,by rw [show (newN d).DK.NE=[] from h.nd];exact .nil,fun _=>h.nd,by rw [show (newN d).DK.NE=[] from h.nd];simp⟩,(by decide:okBk ⟨0,[]⟩=true),by simp [newN],by simp [newN],h.id,Zqp1 h,?_,?_,.nil,by simp [newN],?_,.inl h.th,?_,by simp [newN]⟩
 ·intro k hk;obtain ⟨x,hx,rfl⟩:=List.mem_map.1 hk;have h1:=h.sd x hx;have h2:=(h.din.side x hx).lo;dsimp only;omega
 ·intro x hx;have h1:=h.sd x hx;have h2:Znf1 (newK d) x.PE=x.EP:=Zzg1 (Zqp1 h) (k:=⟨x.PE,x.EP⟩) (List.mem_map.2 ⟨x,hx,rfl⟩);exact ⟨h1.1,by omega,h2,fun e=>by omega⟩
 ·rw [show (newN d).DK.TH=0 from h.th];simp [Z4g1,newN]
 ·intro x hx hn;rw [show (newN d).DK.NE=[] from h.nd] at hn;simp at hn
theorem Zrp1 {d:DK} (h:NewD d):Zv81 d=some (newN d,0):=by
 have hl:=h.din.len;unfold Zv81;refine Z5b1 d.DI.SD _ (fun pre=>((pre.length:Int),pre.map fun x=>(⟨x.PE,x.EP⟩:KE))) _ (fun pre x post h0=>?_) ?_
 ·have hx:=Z6b1 h0;have hm:=Z7b1 h0;dsimp only [Zu81];rw [Zoa1 hx,Zha1,Zla1 hx,OB,Zna1 _ _ (by omega) (by simp;omega),OB,Zqa1 (by omega),Zbb1,List.map_append];rfl
 ·dsimp only [Zu81,Zt81];rw [Zpa1,Zia1];have hc:Zb81 (newN d)=some 0:=by rw [Zag1 _ h.ok.few,(Zoi1 _).2 h.ok];rfl
  rw [show (⟨d,⟨0,[]⟩,d.DI.SD.map fun x=>(⟨x.PE,x.EP⟩:KE),[],[]⟩:NO)=newN d from rfl,hc,OB];have hk:(newK d).length≤1000000:=by simp [newK];omega
  have ho:Zsz d.DI.ID d.DI.PH d.DI.SD d.TH d.NE 0 (newK d)=some (d.DI.SD,d.NE,newK d,[],[],[]):=by dsimp only [Zsz,Zrz,Zqz];rw [Zhd1 _ (by omega),OB,Zqc1 _ (by rw [h.nd];simp),OB,Z2k1 _ hk,OB,Zqc1 _ (by simp),OB,Z2k1 _ (by simp),OB,Zrc1 _ (by simp),OB,Zdc];rfl
  show Option.map Sum.inr (ifb (!decide ((0:Int)=0)) _ ((Zsz d.DI.ID d.DI.PH d.DI.SD d.TH d.NE 0 (newK d)).bind _))=_;rw [ho];rfl
theorem Zwp1 (l:List ML) (p:ML→Option Bool) (q:ML→Bool) (hl:l.length≤4000000000000000000) (hp:∀x∈l,p x=some (q x)):Z8r l p=some (plc (l.findIdx? q)):=by
 unfold Z8r;refine Zza1 l _ q hl (fun k x hx=>?_) ?_
 ·simp only [Z7r,Zoa1 hx,Zha1,Zla1 hx,OB,hp x (List.mem_iff_getElem?.2 ⟨k,hx⟩),Zra1 hx hl];cases q x<;>rfl
 ·simp only [Z7r,Zpa1,Zia1,Z6r,Option.map_some]
theorem Zxp1 (l:List ML) (p:ML→Option Bool) (q:ML→Bool) (hl:l.length≤4000000000000000000) (hp:∀x∈l,p x=some (q x)):Zaw l p=some (l.any q):=by unfold Zaw;rw [Zwp1 l p q hl hp,OB,Zwa1,Z0b1]
theorem Zyp1 (l:List ML) (h:l.length≤1000000):Zfr l=some l:=by simp only [Zfr];rw [Zna1 _ _ (by omega) (by simp;omega),List.nil_append]
theorem Zzp1 (l:List NO) (h:l.length≤1000000):Zdr l=some l:=by simp only [Zdr];rw [Zna1 _ _ (by omega) (by simp;omega),List.nil_append]
theorem Z0q1 (n:Nat) (J:n≤3000000):Zew n=some []:=by
 have e0:wr (0-0)=0:=Zka1 (by omega) (by omega);have e1:wr ((n:Int)-0)=n:=by rw [Zka1 (by omega) (by omega)];omega
 simp only [Zew,Zdw,Zcw,e0,e1];rw [DN (by omega),Zia1];by_cases h:0<n
 ·rw [DT (by omega),Zha1];unfold Zqf;rw [if_pos ⟨by omega,by omega,by omega⟩,OB];unfold Z9c;rw [if_pos ⟨by omega,by omega,by omega⟩];simp
 ·rw [DN (by omega),Zia1]
theorem Z1q1 (a b:List ML) (ha:a.length≤1000000) (hb:b.length≤1000000):Zzz [a,b]=some (a++b):=by
 have g0:at_ [a,b] 0=some a:=rfl;have g1:at_ [a,b] (wr (0+1))=some b:=by rw [Zka1 (by omega) (by omega)];rfl
 have l0:ln (Z8d 5 ML.row) [a,b]=2:=by rw [ln_eq];rfl
 have w1:wr (0+1)=1:=Zka1 (by omega) (by omega);have w2:wr (1+1)=2:=Zka1 (by omega) (by omega);have s1:wr (0+ln ML.row a)=(a.length:Int):=by rw [ln_eq,Zka1 (by omega) (by omega)];omega
 have s2:wr ((a.length:Int)+ln ML.row b)=((a.length+b.length:Nat):Int):=by rw [ln_eq,Zka1 (by omega) (by omega)];omega
 unfold Zzz;rw [Zdc];dsimp only [Zyz];rw [l0,show decide ((0:Int)<2)=true from rfl,Zha1,g0,OB,s1,DN (by omega),Zia1];dsimp only [Zxz];rw [s1,w1,Zdc];dsimp only [Zyz];rw [l0,show decide ((1:Int)<2)=true from rfl,Zha1,←w1,g1,OB,s2,DN (by omega),Zia1];dsimp only [Zxz];rw [s2,w1,w2,Zdc];dsimp only [Zyz];rw [l0,show decide ((2:Int)<2)=false from rfl,Zia1];dsimp only [Zwz];rw [Z0q1 _ (by omega),OB];have k:loop (Zvz [a,b]) (0,[])=some (a++b):=by rw [Zdc];dsimp only [Zvz];rw [l0,show decide ((0:Int)<2)=true from rfl,Zha1,g0,OB,Zna1 _ _ (by omega) (by simp;omega),OB,List.nil_append,w1];dsimp only;rw [Zdc];dsimp only [Zvz];rw [l0,show decide ((1:Int)<2)=true from rfl,Zha1,←w1,g1,OB,Zna1 _ _ (by omega) (by omega),OB,w1,w2];dsimp only;rw [Zdc];dsimp only [Zvz];rw [l0,show decide ((2:Int)<2)=false from rfl,Zia1];rfl
 rw [k];rfl
def Z2q1:HL:=⟨[],[]⟩
structure HallOK (h:HL):Prop where
 nodes:∀(k:Nat) n,h.NS[k]?=some n→n.DK.DI.ID=k∧OkN n
 len:h.NS.length≤64
 mail:∀m∈h.ML,0≤m.From∧m.From<h.NS.length∧0≤m.To∧m.To<h.NS.length∧m.From≠m.To
 ml:h.ML.length≤1000000
theorem Z3q1 (h:HL) (a:Int):Z4r h a=some (decide (0≤a)&&decide (a<h.NS.length)):=by simp only [Z4r,Z3r,ln_eq];cases decide (0≤a)<;>rfl
theorem Z4q1 {h:HL} (hk:HallOK h):Z191 h=some 0:=by
 have hl:=hk.len;unfold Z191;refine Z5b1 h.NS _ (fun pre=>(pre.length:Int)) _ (fun pre x post h0=>?_) ?_
 ·have hx:=Z6b1 h0;have hm:=Z7b1 h0;obtain ⟨q1,q2⟩:=hk.nodes _ _ hx;dsimp only [Z091,Zz81];rw [Zoa1 hx,Zha1,Zla1 hx,OB,DT q1,Bool.not_true,Zia1,Zag1 x q2.few,(Zoi1 x).2 q2,if_pos rfl,OB,show (!decide ((0:Int)=0))=false by decide,Zia1,Zqa1 (by omega),Zbb1]
 ·dsimp only [Z091,Zy81];rw [Zpa1,Zia1,ln_eq,DN (by omega),Zia1];rw [Zxp1 h.ML _ (fun _=>false) (by have:=hk.ml;omega) (fun m hm=>by obtain ⟨a1,a2,a3,a4,a5⟩:=hk.mail m hm;dsimp only [Z8w,Z7w];rw [Z3q1,OB,DT a1,DT a2,Bool.and_true,Bool.not_true,Zia1,Z3q1,OB,DT a3,DT a4,Bool.and_true,Bool.not_true,Zia1,DN a5])];simp only [List.any_eq_false.2 (fun _ _=>Bool.false_ne_true),OB];rfl
theorem Z5q1 (h:HL) (J:∀n∈h.NS,FewN n) (hl:h.NS.length≤1000000) (hm:h.ML.length≤1000000):Zw11 h=some h:=by
 unfold Zw11;rw [Zna1 _ _ (by omega) (by simp;omega),OB,List.nil_append];refine Z5b1 h.NS _ (fun pre=>((pre.length:Int),pre)) _ (fun pre x post h0=>?_) ?_
 ·have hx:=Z6b1 h0;have hm':=Z7b1 h0;dsimp only [Zv11];rw [Zoa1 hx,Zha1,Zla1 hx,OB,Zhp1 x (J x (Z8b1 h0)),OB,Zna1 _ _ (by omega) (by simp;omega),OB,Zqa1 (by omega),Zbb1]
 ·dsimp only [Zv11,Zu11];rw [Zpa1,Zia1];rfl
theorem Z6q1 (h:HL) (J:∀n∈h.NS,FewN n) (hl:h.NS.length≤1000000) (hm:h.ML.length≤1000000):Zs11 h h=some true:=by
 unfold Zs11;rw [DT rfl,Bool.not_true,Zia1];refine Z5b1 h.NS _ (fun pre=>(pre.length:Int)) _ (fun pre x post h0=>?_) ?_
 ·have hx:=Z6b1 h0;have hm':=Z7b1 h0;dsimp only [Zr11];rw [Zoa1 hx,Zha1,Zla1 hx,OB,OB,Znp1 x x (J x (Z8b1 h0)),DT rfl,OB,Bool.not_true,Zia1,Zqa1 (by omega),Zbb1]
 ·dsimp only [Zr11,Zq11];rw [Zpa1,Zia1,Z8d1 _ _ hm,DT rfl];rfl
theorem Z7q1 {g:Graph} (hg:okG g=true) (J:g.N≤24):∀d∈(barT g).DS,NewD d:=by
 intro d hd;obtain ⟨e,he,rfl⟩:=List.mem_map.1 hd;obtain ⟨a,ha,rfl⟩:=List.mem_map.1 he;have ha':=List.mem_range.1 ha;have h0:=(Zan1 hg).1;have h6:=Zsn1 hg (a:Int);have h8:((Zrn1 g a).length:Int)≤g.N:=Zsi1 h6 h0 fun x hx=>by have:=Zxn1 hg hx;omega
 refine ⟨⟨by dsimp only [Zzn1];omega,by dsimp only [Zzn1];omega,by dsimp only [Zzn1];omega,by dsimp only [Zzn1];rw [List.length_map];omega,List.pairwise_map.2 h6,?_⟩,by dsimp only [Zzn1];omega,rfl,rfl,?_⟩
 ·intro x hx;obtain ⟨b,hb,rfl⟩:=List.mem_map.1 hx;have:=Zxn1 hg hb;refine ⟨this.1,this.2.2.1,by dsimp only [Zyn1];omega,by dsimp only [Zyn1];omega,by dsimp only [Zyn1];omega,by dsimp only [Zyn1];omega,fun h=>h⟩
 ·intro x hx;obtain ⟨b,hb,rfl⟩:=List.mem_map.1 hx;have:=Zxn1 hg hb;exact ⟨by dsimp only [Zyn1];omega,rfl,rfl⟩
theorem Z8q1 {g:Graph} (hg:okG g=true):((barT g).DS.length:Int)=g.N:=by have h0:=(Zan1 hg).1;simp only [barT,Z3p1,Z0o1,List.length_map,List.length_range];omega
def Zaq1 (g:Graph):HL:=⟨(barT g).DS.map newN,[]⟩
theorem Zcq1 (g:Graph) (J:g.N≤24):Z891 g=some (if okG g then (Zaq1 g,0) else (Z2q1,30)):=by
 unfold Z891;rw [Zcp1];cases hg:okG g with
 | false=>rw [if_neg (by simp),if_neg (by simp)];rfl
 | true=>
   rw [if_pos rfl,if_pos rfl,OB,show (!decide ((0:Int)=0))=false by decide,Zia1];have hl:=Z8q1 hg;refine Z5b1 (barT g).DS _ (fun pre=>((pre.length:Int),pre.map newN)) _ (fun pre x post h0=>?_) ?_
   ·have hx:=Z6b1 h0;have hm:=Z7b1 h0;dsimp only [Z791];rw [Zoa1 hx,Zha1,Zla1 hx,OB,Zrp1 (Z7q1 hg J x (Z8b1 h0)),OB,show (!decide ((0:Int)=0))=false by decide,Zia1,Zna1 _ _ (by omega) (by simp;omega),OB,Zqa1 (by omega),Zbb1,List.map_append];rfl
   ·dsimp only [Z791,Z691];rw [Zpa1,Zia1];rfl
theorem HallOK.at {h:HL} (hk:HallOK h) {n:NO} (J:n∈h.NS):OkN n:=by obtain ⟨k,hk'⟩:=List.mem_iff_getElem?.1 J;exact (hk.nodes k n hk').2
theorem Zeq1 (J:Int) (A:List NO) (n:NO) (U:n.BK.SE.length≤1000000) (hs:∀s∈n.BK.SE,s.NE.length≤1000000) (r:Int×List NO ⊕ HL) (hr:Zhw J A n n.BK.SE=some r):loop (Zjw J A n n.BK.SE) (0,n.BK.SE)=some r:=by
 refine Z5b1 n.BK.SE _ (fun pre=>((pre.length:Int),n.BK.SE)) _ (fun pre x post h0=>?_) ?_
 ·have hx:=Z6b1 h0;have hm:=Z7b1 h0;dsimp only [Zjw,Ziw];rw [Zoa1 hx,Zha1,Zla1 hx,OB,Zqc1 _ (hs x (Z8b1 h0)),OB,show (⟨x.ID,x.NE,x.SS,x.Age⟩:SE)=x from rfl,Int.toNat_natCast,Zpc1 hx,Zqa1 (by omega),Zbb1]
 ·dsimp only [Zjw];rw [Zpa1,Zia1,hr];rfl
theorem Zfq1 {h:HL} (hk:HallOK h):Zow h=some h:=by
 have hl:=hk.len;unfold Zow;rw [Zyp1 _ (by have:=hk.ml;omega),OB,Zzp1 _ (by omega),OB];dsimp only [Znw];refine Z5b1 h.NS _ (fun pre=>((pre.length:Int),h.NS)) _ (fun pre x post h0=>?_) ?_
 ·have hx:=Z6b1 h0;have hm:=Z7b1 h0;have hf:=(hk.at (Z8b1 h0)).few;have hb:=hf.bk;dsimp only [Zmw];rw [Zoa1 hx,Zha1,Zla1 hx,OB,Zhd1 _ (by have:=hf.sides;omega),OB,Zqc1 _ (by have:=hf.need;omega),OB];rw [show (⟨⟨⟨x.DK.DI.ID,x.DK.DI.PH,x.DK.DI.SD⟩,x.DK.TH,x.DK.NE⟩,x.BK,x.KN,x.TL,x.AK⟩:NO)=x from rfl,Int.toNat_natCast,Zpc1 hx];dsimp only [Zlw];rw [Zla1 hx,OB,Z2k1 _ (by have:=hf.known;omega),OB,Zqc1 _ (by have:=hf.told;omega),OB,Z2k1 _ (by have:=hf.asked;omega),OB];rw [show (⟨x.DK,x.BK,x.KN,x.TL,x.AK⟩:NO)=x from rfl,Int.toNat_natCast,Zpc1 hx];dsimp only [Zkw];rw [Zla1 hx,OB,Zrc1 _ hb.1,OB];refine Zeq1 _ _ x hb.1 hb.2 _ ?_;dsimp only [Zhw];rw [show (⟨x.DK,⟨x.BK.LA,x.BK.SE⟩,x.KN,x.TL,x.AK⟩:NO)=x from rfl,Int.toNat_natCast,Zpc1 hx,Zqa1 (by omega),Zbb1]
 ·dsimp only [Zmw,Zgw];rw [Zpa1,Zia1];rfl
def Zgq1 (h:HL) (k:Nat) (M:List ML) (r:NO×List ML×List EV×Int):HL×List EV×Int:=if r.2.2.2=0 then (⟨h.NS.set k r.1,M++r.2.1⟩,r.2.2.1,0) else (Z2q1,[],r.2.2.2)
theorem Zhq1 {h:HL} (hk:HallOK h) {k:Nat} {n:NO} (J:h.NS[k]?=some n) {a:Do} (hp:a.KI=4→0≤a.PE∧a.PE<h.NS.length) {r:NO×List ML×List EV×Int} (hr:Zf91 n a=some r) (hl:r.2.1.length≤1000000):
  Z3a1 h k a=some (Zgq1 h k h.ML r):=by
 have h8:=(List.getElem?_eq_some_iff.1 J).1;have h6:=hk.len;have h9:=hk.ml;have hj:Z2a1 h k a false=some (Zgq1 h k h.ML r):=by
  dsimp only [Z2a1];rw [Zia1,Zfq1 hk,OB];dsimp only [Zw91,Zq91];rw [Zla1 J,OB,hr,OB,OB];dsimp only [Zv91];unfold Zgq1;by_cases e:r.2.2.2=0
  ·rw [DT e,Bool.not_true,Zia1,Zzp1 _ (by omega),OB,Z1q1 _ _ (by omega) hl,OB,if_pos e];dsimp only [Zu91];rw [Zla1 J];rfl
  ·rw [DN e,Bool.not_false,Zha1,if_neg e];rfl
 unfold Z3a1;rw [Z4q1 hk,OB,show (!decide ((0:Int)=0))=false by decide,Zia1,Z3q1,OB,DT (by omega),DT (by omega),Bool.and_true,Bool.not_true,Zia1];by_cases e:a.KI=4
 ·have:=hp e;rw [DT e,Zha1,Z3q1,OB,DT this.1,DT this.2,Bool.and_true,Bool.not_true,hj]
 ·rw [DN e,Zia1,hj]
theorem Ziq1 (l:List ML) (a b:Int) (hl:l.length≤1000000):Z8r l (fun z=>Zir z a b)=some (plc (l.findIdx? fun m=>decide (m.From=a)&&decide (m.To=b))):=by refine Zwp1 l _ _ (by omega) fun m _=>?_;dsimp only [Zir,Zhr];cases decide (m.From=a)<;>rfl
theorem Zjq1 {h:HL} (hk:HallOK h) {a:Int} (ha:0≤a∧a<h.NS.length) {k:Nat} {n:NO} (J:h.NS[k]?=some n) {i:Nat} (hi:(h.ML.findIdx? fun m=>decide (m.From=a)&&decide (m.To=(k:Int)))=some i) {m:ML} (hm:h.ML[i]?=some m)
  {r:NO×List ML×List EV×Int} (hr:Zo91 n a m.Msg=some r) (hl:r.2.1.length≤1000000):Z7a1 h a k=some (Zgq1 h k (h.ML.take i++h.ML.drop (i+1)) r):=by
 have h9:=(List.getElem?_eq_some_iff.1 J).1;have hc:=(List.getElem?_eq_some_iff.1 hm).1;have h8:=hk.len;have h6:=hk.ml;unfold Z7a1;rw [Z4q1 hk,OB,show (!decide ((0:Int)=0))=false by decide,Zia1,Z3q1,OB,DT ha.1,DT ha.2,Bool.and_true,Bool.not_true,Zia1,Z3q1,OB,DT (by omega),DT (by omega),Bool.and_true,Bool.not_true];dsimp only [Z6a1];rw [Zia1,Ziq1 _ _ _ h6,hi,OB];rw [show plc (some i)=(i:Int) from rfl];rw [DN (by omega),Zia1,Zla1 hm,OB];have e1:Z9c h.ML 0 (i:Int)=some (h.ML.take i):=by unfold Z9c;rw [if_pos ⟨by omega,by omega,by omega⟩];simp
 have e2:Z9c h.ML (wr ((i:Int)+1)) (ln ML.row h.ML)=some (h.ML.drop (i+1)):=by rw [Zqa1 (by omega),ln_eq];unfold Z9c;rw [if_pos ⟨by omega,by omega,by omega⟩];simp
 rw [e1,OB,e2,OB,Zfq1 hk,OB,Z1q1 _ _ (by simp;omega) (by simp;omega),OB];dsimp only [Z0a1,Zs91];rw [Zla1 J,OB,hr,OB,OB];dsimp only [Zz91];unfold Zgq1;by_cases e:r.2.2.2=0
 ·rw [DT e,Bool.not_true,Zia1,Zzp1 _ (by omega),OB,Z1q1 _ _ (by simp;omega) hl,OB,if_pos e];dsimp only [Zy91];rw [Zla1 J];rfl
 ·rw [DN e,Bool.not_false,Zha1,if_neg e];rfl
theorem Zkq1 {h:HL} (hk:HallOK h) {a b:Int} (ha:0≤a∧a<h.NS.length) (hb:0≤b∧b<h.NS.length) (hi:(h.ML.findIdx? fun m=>decide (m.From=a)&&decide (m.To=b))=none):Z7a1 h a b=some (Z2q1,[],192):=by have h6:=hk.ml;unfold Z7a1;rw [Z4q1 hk,OB,show (!decide ((0:Int)=0))=false by decide,Zia1,Z3q1,OB,DT ha.1,DT ha.2,Bool.and_true,Bool.not_true,Zia1,Z3q1,OB,DT hb.1,DT hb.2,Bool.and_true,Bool.not_true];dsimp only [Z6a1];rw [Zia1,Ziq1 _ _ _ h6,hi,OB];rfl
theorem Zlq1 (l m:List ML) (hl:l.length≤1000000):Zrr l m=some (decide (l=m)):=by
 simp only [Zrr,Zhb1];by_cases h:l.length=m.length
 ·simp only [h,decide_true,Bool.not_true,Zia1];rw [Zeb1 l m _ (fun x y=>decide (x=y)) h (by omega) (fun k x y hx hy=>by simp only [Zqr,Zoa1 hx,Zha1,Zla1 hx,Zla1 hy,OB,Z5d1,Zra1 hx (show l.length≤4000000000000000000 by omega),Zja1];cases decide (x=y)<;>rfl) (by simp only [Zqr,Zpa1,Zia1,Zpr,Option.map_some]),Zfb1 l m h]
 ·simp [h,Zgb1 h]
theorem Zmq1 (l m:List NO) (J:∀n∈l,FewN n) (hl:l.length≤1000000):Zmr l m (fun z=>Zr01 z.1 z.2)=some (decide (l=m)):=by
 simp only [Zmr,Zhb1];by_cases h:l.length=m.length
 ·simp only [h,decide_true,Bool.not_true,Zia1];rw [Zeb1 l m _ (fun x y=>decide (x=y)) h (by omega) (fun k x y hx hy=>by simp only [Zlr,Zoa1 hx,Zha1,Zla1 hx,Zla1 hy,OB,Z1k1 x y (J x (List.mem_iff_getElem?.2 ⟨k,hx⟩)),Zra1 hx (show l.length≤4000000000000000000 by omega),Zja1];cases decide (x=y)<;>rfl) (by simp only [Zlr,Zpa1,Zia1,Zkr,Option.map_some]),Zfb1 l m h]
 ·simp [h,Zgb1 h]
theorem Znq1 (h g:HL) (J:∀n∈h.NS,FewN n) (hl:h.NS.length≤1000000) (hm:h.ML.length≤1000000):Zv31 h g=some (decide (h.NS=g.NS)&&decide (h.ML=g.ML)):=by
 unfold Zv31;rw [Zmq1 _ _ J hl,OB];cases decide (h.NS=g.NS) with
 | false=>rfl
 | true=>rw [Zha1,Zlq1 _ _ hm];rfl
theorem Zoq1 (h:HL) (J:∀n∈h.NS,FewN n) (hl:h.NS.length≤1000000) (hm:h.ML.length≤1000000):Zsw h=some ⟨h.NS.map (·.DK),h.ML⟩:=by
 unfold Zsw;rw [Zyp1 _ hm,OB];refine Z5b1 h.NS _ (fun pre=>((pre.length:Int),pre.map (·.DK))) _ (fun pre x post h0=>?_) ?_
 ·have hx:=Z6b1 h0;have hm':=Z7b1 h0;have q:=J x (Z8b1 h0);dsimp only [Zrw];rw [Zoa1 hx,Zha1,Zla1 hx,OB,Zhd1 _ (by have:=q.sides;omega),OB,Zqc1 _ (by have:=q.need;omega),OB,Zna1 _ _ (by omega) (by simp;omega),OB,Zqa1 (by omega),Zbb1,List.map_append];rfl
 ·dsimp only [Zrw,Zqw];rw [Zpa1,Zia1];rfl
def aA:NO:=⟨⟨⟨0,0,[]⟩,0,[]⟩,⟨0,[]⟩,[],[],[]⟩
def aB:NO:=⟨⟨⟨1,0,[]⟩,0,[]⟩,⟨0,[]⟩,[],[],[]⟩
def xA:SX:=⟨1,1,1,true,true,false,true,false⟩
def mA1:NO:=⟨⟨⟨0,0,[xA]⟩,0,[]⟩,⟨0,[]⟩,[⟨1,1⟩],[],[]⟩
def nA0:NO:=⟨⟨⟨0,2,[xA]⟩,0,[]⟩,⟨0,[]⟩,[⟨1,1⟩],[],[]⟩
def nA1:NO:=⟨⟨⟨0,2,[xA]⟩,0,[]⟩,⟨0,[]⟩,[⟨1,1⟩],[1],[]⟩
def mB1:NO:=⟨⟨⟨1,0,[]⟩,0,[]⟩,⟨0,[]⟩,[],[],[⟨0,1⟩]⟩
def yB:SX:=⟨0,1,0,false,false,true,false,true⟩
def nB1:NO:=⟨⟨⟨1,0,[yB]⟩,0,[]⟩,⟨0,[]⟩,[⟨0,1⟩],[],[]⟩
def xA2:SX:=⟨1,1,0,true,true,false,true,false⟩
def mA2:NO:=⟨⟨⟨0,2,[xA2]⟩,0,[]⟩,⟨0,[]⟩,[⟨1,1⟩],[],[]⟩
def nA2:NO:=⟨⟨⟨0,0,[xA2]⟩,0,[]⟩,⟨0,[]⟩,[⟨1,1⟩],[],[]⟩
def w0:HL:=⟨[aA,aB],[]⟩
def w1:HL:=⟨[nA1,aB],[⟨0,1,⟨5,1,0⟩⟩]⟩
def w2:HL:=⟨[nA1,nB1],[⟨1,0,⟨6,1,0⟩⟩]⟩
def w3:HL:=⟨[nA2,nB1],[]⟩
theorem Zpq1:OkN aA:=(Zoi1 _).1 (by decide)
theorem Zqq1:OkN aB:=(Zoi1 _).1 (by decide)
theorem Zrq1:OkN nA1:=(Zoi1 _).1 (by decide)
theorem Zsq1:OkN nB1:=(Zoi1 _).1 (by decide)
theorem Ztq1:OkN nA2:=(Zoi1 _).1 (by decide)
theorem Zuq1 {a b:NO} (ha:OkN a) (hb:OkN b) (J:a.DK.DI.ID=0) (U:b.DK.DI.ID=1) {M:List ML} (hM:∀m∈M,(m.From=0∧m.To=1)∨(m.From=1∧m.To=0)) (hl:M.length≤1000):HallOK ⟨[a,b],M⟩:=by
 refine ⟨fun k n hn=>?_,by simp,fun m hm=>?_,by dsimp only;omega⟩
 ·rcases k with _ | _ | k
  ·simp at hn;subst hn;exact ⟨J,ha⟩
  ·simp at hn;subst hn;exact ⟨U,hb⟩
  ·simp at hn
 ·have:=hM m hm;simp only [List.length_cons,List.length_nil];omega
theorem ok_w0:HallOK w0:=Zuq1 Zpq1 Zqq1 rfl rfl (by simp) (by simp)
theorem Zvq1:HallOK w1:=Zuq1 Zrq1 Zqq1 rfl rfl (by simp) (by simp)
theorem ok_w2:HallOK w2:=Zuq1 Zrq1 Zsq1 rfl rfl (by simp) (by simp)
theorem Zwq1:HallOK w3:=Zuq1 Ztq1 Zsq1 rfl rfl (by simp) (by simp)
theorem HallOK.few {h:HL} (hk:HallOK h):∀n∈h.NS,FewN n:=fun _ hn=>(hk.at hn).few
theorem Zxq1:Zvh1 mA1=nA1∧Zwh1 mA1=[⟨0,1,⟨5,1,0⟩⟩]∧Zxh1 mA1=[]:=by
 have e1:midN mA1=nA0:=by decide
 have e2:graN nA0=nA0:=by decide
 have e3:telT nA0=([1],[⟨0,1,⟨5,1,0⟩⟩]):=by unfold telT;rw [if_pos (show nA0.DK.DI.PH=2 from rfl)];show Zah1 0 [xA] [] []=_;unfold Zah1;rw [show untB [] xA=true by decide,if_pos rfl];show Zah1 0 [] (setL [1]) _=_;rw [Zpp1];rfl
 have e4:telN nA0=nA1:=by unfold telN;rw [e3];rfl
 have e5:leaN nA1=nA1:=by decide
 have e6:Zuh1 nA1=[]:=by decide
 have e7:(Zze1 (preN mA1).DK).2=[]:=by decide
 have e8:Zrh1 mA1=[]:=by decide
 have e9:Zxh1 mA1=[]:=by decide
 unfold Zvh1 Zwh1;rw [e1,e2,e4,e3,e5,e6,e7,e8];exact ⟨rfl,rfl,e9⟩
theorem Zyq1:Zxk1 mA1 [] []=(nA1,[⟨0,1,⟨5,1,0⟩⟩],[]):=by
 obtain ⟨e1,e2,e3⟩:=Zxq1;have h:Zvh1 nA1=nA1:=by decide
 unfold Zxk1;rw [Zwk1,e1,e2,e3,if_neg (by decide),Zwk1,h,if_pos rfl];rfl
theorem Zzq1:Zxk1 mB1 [] []=(nB1,[⟨1,0,⟨6,1,0⟩⟩],[⟨6,1,0,0,[]⟩]):=by decide
theorem Z0r1:Zxk1 mA2 [] [⟨6,0,0,1,[]⟩]=(nA2,[],[⟨6,0,0,1,[]⟩]):=by decide
theorem Z1r1:Zf91 aA ⟨4,0,1,0,[]⟩=some (nA1,[⟨0,1,⟨5,1,0⟩⟩],[],0):=by
 have a1:actN aA ⟨4,0,1,0,[]⟩=(0,mA1,[]):=by decide
 rw [Zmm1 aA _ Zpq1 (by simp),a1];unfold outA;rw [if_pos rfl,Zyq1]
theorem Z2r1:Zo91 aB 0 ⟨5,1,0⟩=some (nB1,[⟨1,0,⟨6,1,0⟩⟩],[⟨6,1,0,0,[]⟩],0):=by
 have a1:getN aB 0 ⟨5,1,0⟩=(0,mB1,[]):=by decide
 rw [Z1n1 aB _ _ Zqq1,a1];unfold outA;rw [if_pos rfl,Zzq1]
theorem Z3r1:Zo91 nA1 1 ⟨6,1,0⟩=some (nA2,[],[⟨6,0,0,1,[]⟩],0):=by
 have a1:getN nA1 1 ⟨6,1,0⟩=(0,mA2,[⟨6,0,0,1,[]⟩]):=by unfold getN Zqm1;rw [show nA1.TL=[1] from rfl,Zpp1];decide
 rw [Z1n1 nA1 _ _ Zrq1,a1];unfold outA;rw [if_pos rfl,Z0r1]
theorem Z4r1:Zaa1=some true:=by
 have e1:Z891 ⟨2,[]⟩=some (w0,0):=by rw [Zcq1 _ (by decide),if_pos (show okG ⟨2,[]⟩=true by decide)];rfl
 have e2:Z3a1 w0 0 ⟨4,0,1,0,[]⟩=some (w1,[],0):=by have:=Zhq1 ok_w0 (k:=0) (n:=aA) rfl (a:=⟨4,0,1,0,[]⟩) (fun _=>by decide) Z1r1 (by simp);exact this
 have e3:Z7a1 w1 0 1=some (w2,[⟨6,1,0,0,[]⟩],0):=by have:=Zjq1 Zvq1 (a:=0) (by decide) (k:=1) (n:=aB) rfl (i:=0) (by decide) (m:=⟨0,1,⟨5,1,0⟩⟩) rfl Z2r1 (by simp);exact this
 have e4:Z7a1 w2 1 0=some (w3,[⟨6,0,0,1,[]⟩],0):=by have:=Zjq1 ok_w2 (a:=1) (by decide) (k:=0) (n:=nA1) rfl (i:=0) (by decide) (m:=⟨1,0,⟨6,1,0⟩⟩) rfl Z3r1 (by simp);exact this
 have e5:Z7a1 w3 1 0=some (Z2q1,[],192):=Zkq1 Zwq1 (by decide) (by decide) (by decide);have e6:Zsw w3=some ⟨[nA2.DK,nB1.DK],[]⟩:=Zoq1 w3 Zwq1.few (by decide) (by decide);have e7:Z191 w3=some 0:=Z4q1 Zwq1;have e8:Zv31 w3 w3=some true:=by rw [Znq1 w3 w3 Zwq1.few (by decide) (by decide)];decide
 have e9:Zv31 w1 w2=some false:=by rw [Znq1 w1 w2 Zvq1.few (by decide) (by decide)];decide
 unfold Zaa1;rw [e1,OB,e2,OB,e3,OB,e4,OB,e5,OB,e6,OB];dsimp only;rw [e7,e8,e9];rfl
theorem Zdr1 (n:NO):(Zvh1 n).DK.DI.ID=n.DK.DI.ID:=(Z6j1 (preN n).DK).id.trans (Zbk1 n)
theorem Zer1:∀(k:Nat) (n:NO) (E:List ML) (V:List EV),OkN n→(Zwk1 k n E V).2.1.length≤E.length+500*k∧(Zwk1 k n E V).2.2.length≤V.length+500*k
 | 0,_,_,_,_=>by unfold Zwk1;exact ⟨by dsimp only;omega,by dsimp only;omega⟩
 | k+1,n,E,V,h=>by
   unfold Zwk1;split
   ·exact ⟨by dsimp only;omega,by dsimp only;omega⟩
   ·have:=Zer1 k (Zvh1 n) (E++Zwh1 n) (V++Zxh1 n) h.once;have l1:=Zyk1 h;have l2:=Zzk1 h;rw [List.length_append,List.length_append] at this;omega
theorem Zfr1 {n:NO} (h:OkN n) (E:List ML) (V:List EV):(Zxk1 n E V).2.1.length≤E.length+4500∧(Zxk1 n E V).2.2.length≤V.length+4500:=Zer1 9 n E V h
theorem Zgr1 {n:NO} {v:EV} (h:v∈Zxh1 n):(∃k∈n.AK,v=⟨6,n.DK.DI.ID,0,k.PE,[]⟩)∨v∈graV (midN n):=by
 unfold Zxh1 at h;rcases List.mem_append.1 h with h | h
 ·left;unfold Zsh1 at h;split at h
  ·simp at h
  ·unfold ansV at h;obtain ⟨k,hk,rfl⟩:=List.mem_map.1 h;exact ⟨k,hk,rfl⟩
 ·exact .inr h
theorem Zhr1 (n:NO):(midN n).DK.DI.ID=n.DK.DI.ID:=Zdr1 n
theorem Zir1 {n:NO} {v:EV} (h:v∈Zxh1 n):EvOK n.DK.DI.ID v∧v.NE=[]:=by
 rcases Zgr1 h with ⟨k,_,rfl⟩ | h
 ·exact ⟨⟨rfl,fun _=>rfl,fun q=>by have q:(6:Int)<6:=q;omega,fun _=>rfl⟩,rfl⟩
 ·rcases Zlj1 (midN n) with ⟨_,e⟩ | ⟨s,l,_,_,_,_,e⟩
  ·rw [e] at h;simp at h
  ·rw [e] at h;simp at h;subst h;exact ⟨⟨Zhr1 n,fun q=>by have q:(6:Int)≤1:=q;omega,fun _=>rfl,fun _=>rfl⟩,rfl⟩
theorem Zjr1 {n:NO} (h:OkN n) {E:List ML} {V:List EV} {Q:EV→Prop} (U:∀v∈V,Q v) (J:∀v,EvOK n.DK.DI.ID v→v.NE=[]→Q v):∀v∈(Zxk1 n E V).2.2,Q v:=
 (Z5l1 (P:=fun m _ V=>m.DK.DI.ID=n.DK.DI.ID∧∀v∈V,Q v) (fun m E V _ hP=>⟨(Zdr1 m).trans hP.1,fun v hv=>by
   rcases List.mem_append.1 hv with hv | hv
   ·exact hP.2 v hv
   ·have:=Zir1 hv;rw [hP.1] at this;exact J v this.1 this.2⟩) h ⟨rfl,U⟩).2
def Zkr1 (id:Int) (m:ML):Prop:=m.From=id∧m.To≠id∧m.Msg.Num=0
theorem Zlr1 {n:NO} (h:OkN n) {m:ML} (hm:Zgj1 n.DK.DI.ID n.DK.DI.SD m):Zkr1 n.DK.DI.ID m:=by obtain ⟨h1,⟨x,hx,e⟩,h3⟩:=hm;have:=h.peer0 hx;exact ⟨h1,by omega,h3⟩
theorem Zmr1 {n:NO} (h:OkN n) {m:ML} (hm:m∈Zwh1 n):Zkr1 n.DK.DI.ID m:=by
 have hg:=h.pre.firgra;have h6:(graN (midN n)).DK.DI.ID=n.DK.DI.ID:=Zhr1 n;unfold Zwh1 at hm;rcases List.mem_append.1 hm with hm | hm
 ·unfold Zrh1 at hm;split at hm
  ·simp at hm
  ·unfold ansM at hm;obtain ⟨k,hk,rfl⟩:=List.mem_map.1 hm;have:=h.may k hk;exact ⟨rfl,by show k.PE≠_;omega,rfl⟩
 ·rcases List.mem_append.1 hm with hm | hm
  ·have:=Zlr1 h.pre (Zkj1 m hm);rw [Zbk1] at this;exact this
  ·rcases List.mem_append.1 hm with hm | hm
   ·rw [←h6];refine Zlr1 hg ?_;unfold telT at hm;split at hm
    ·exact Zqj1 _ _ _ _ _ (fun x hx=>hx) (by simp) m hm
    ·simp at hm
   ·rw [←h6];refine Zlr1 hg ?_;unfold Zuh1 Zih1 at hm;obtain ⟨x,hx,hm⟩:=List.mem_flatMap.1 hm;unfold Zgh1 at hm;split at hm
    ·simp at hm;subst hm;exact ⟨rfl,⟨x,hx,rfl⟩,rfl⟩
    ·simp at hm
theorem Znr1 {n:NO} (h:OkN n) {V:List EV}:∀m∈(Zxk1 n [] V).2.1,Zkr1 n.DK.DI.ID m:=
 (Z5l1 (P:=fun m E _=>m.DK.DI.ID=n.DK.DI.ID∧∀x∈E,Zkr1 n.DK.DI.ID x) (fun m E V hm hP=>⟨(Zdr1 m).trans hP.1,fun v hv=>by
   rcases List.mem_append.1 hv with hv | hv
   ·exact hP.2 v hv
   ·have:=Zmr1 hm hv;rw [hP.1] at this;exact this⟩) h ⟨rfl,by simp⟩).2
structure Good (n m:NO) (V:List EV):Prop where
 okn:OkN n
 ok:OkN m
 id:m.DK.DI.ID=n.DK.DI.ID
 ev:∀v∈V,EvOK n.DK.DI.ID v∧v.KI≠1
 len:V.length≤1000
theorem Zor1 (n:NO) (a:Do) (J:FewN n) (ha:a.NE.length≤1000):∃e m V,Zf91 n a=some (outA e m V)∧(e=0→Good n m V):=by
 cases hk:okN n with
 | false=>exact ⟨180,Zem1,[],by rw [Zkm1 n a J hk];rfl,fun e=>by omega⟩
 | true=>have h:=(Zoi1 n).1 hk;refine ⟨_,_,_,Zmm1 n a h ha,fun he=>?_⟩;obtain ⟨h1,h2,_,_,h5,h6⟩:=Zlm1 h he;exact ⟨h,h1,h2,h5,h6⟩
theorem Zpr1 (n:NO) (p:Int) (m:Msg) (J:FewN n):∃e r V,Zo91 n p m=some (outA e r V)∧(e=0→Good n r V):=by
 cases hk:okN n with
 | false=>exact ⟨180,Zem1,[],by rw [Z0n1 n p m J hk];rfl,fun e=>by omega⟩
 | true=>have h:=(Zoi1 n).1 hk;refine ⟨_,_,_,Z1n1 n p m h,fun he=>?_⟩;obtain ⟨h1,h2,h5,h6⟩:=Zwm1 h he;exact ⟨h,h1,h2,h5,h6⟩
theorem Zqr1 (m:NO) (V:List EV):outA 0 m V=((Zxk1 m [] V).1,(Zxk1 m [] V).2.1,(Zxk1 m [] V).2.2,0):=rfl
theorem Zrr1 {e:Int} (h:e≠0) (m:NO) (V:List EV):outA e m V=(Zem1,[],[],e):=by unfold outA;rw [if_neg h]
theorem Zsr1 {n:NO} {e:Int} {m:NO} {V:List EV} (hg:e=0→Good n m V):(∀x∈(outA e m V).2.1,Zkr1 n.DK.DI.ID x)∧(∀v∈(outA e m V).2.2.1,EvOK n.DK.DI.ID v)∧(outA e m V).2.1.length≤6000∧(outA e m V).2.2.1.length≤6000:=by
 by_cases e0:e=0
 ·subst e0;have g:=hg rfl;have hl:=Zfr1 g.ok [] V;have h1:=Znr1 g.ok (V:=V);have h2:=Zjr1 g.ok (E:=[]) (V:=V) (Q:=EvOK n.DK.DI.ID) (fun v hv=>(g.ev v hv).1) (fun v hv _=>by rw [g.id] at hv;exact hv);rw [g.id] at h1;have:=g.len;simp only [List.length_nil] at hl;exact ⟨h1,h2,by rw [Zqr1];dsimp only;omega,by rw [Zqr1];dsimp only;omega⟩
 ·rw [Zrr1 e0];exact ⟨by simp,by simp,by simp,by simp⟩
def Ztr1:Bool→Option Bool
| x13=>some x13
def Zur1 (x1:HL):Unit→Option Bool
| ()=>
 ifb (decide ((ln NO.row x1.NS)≤12)) (
 Ztr1 (decide ((ln ML.row x1.ML)≤60))) (
 Ztr1 false)
def Zvr1 (x1:HL) (x6:Int):Bool→Option (Int ⊕ Bool)
| x7=>
 ifb x7 (
 (at_ x1.NS x6).bind fun x8=>
 (Z9v x8).bind fun x9=>
 ifb (!x9) (
 Option.map Sum.inr (some false)) (
 some (.inl (wr (x6+1))))) (
 Option.map Sum.inr ((Zur1 x1) ()))
def Zwr1 (x1:HL):Int→Option (Int ⊕ Bool)
| x6=>
 ifb (decide (x6<(ln NO.row x1.NS))) (
 (Zvr1 x1 x6) (decide (x6<13))) (
 (Zvr1 x1 x6) false)
def Zxr1 (x1:HL):Option Bool:=loop (Zwr1 x1) 0
theorem Zyr1 {x1 r} (h:Zxr1 x1=some r):FPx 13 [.agg (HL.row x1)] (.bv r):=by
 have ok:=oJ 13 Tryz.f13 [.t 2] 1 31;refine FP ok fun w0 H0=>?_;rw [Zxr1] at h;refine Vg 10 ?_;refine Vk [1,1] (fun _=>[]) (Zur1 x1) r ?_ fun J1=>?_
 ·rintro ⟨⟩ h;rw [Zur1] at h;refine Vg 7 ?_;refine Vl [] (fun x13=>([(2,.bv x13)],[],[])) Ztr1 r ?_ fun J3=>?_
  ·intro x13 h;rw [Ztr1] at h;exact W
  ·exact W
 ·refine Vg 1 ?_;refine Mk h [1,1] (fun x6=>[(3,.iv x6)]) ?_;rintro n1 x6 y1 h hin1 hout1;rw [Zwr1] at h;refine Vg 9 ?_;refine Vk [1,1,1,1] (fun x7=>[(12,.bv x7)]) (Zvr1 x1 x6) y1 ?_ fun J2=>?_
  ·intro x7 h;rw [Zvr1] at h;refine MI h (fun h=>?_) fun h=>?_
   ·refine Vg 8 ?_;have ⟨x8,ex8,h⟩:=Bs h;refine Zjc NO.row ex8 trivial rfl rfl rfl (Vg 1 ?_);refine VB h Zav fun _ _ h=>?_;exact W
   ·exact W
  ·exact W
def Zzr1 (x1:HL) (x2:narthexlaw19_Step):Option (HL×List EV×Int):=
 ifb x2.ML (
 (Z7a1 x1 x2.A x2.B).bind fun x3=>
 some (x3.1,x3.2.1,x3.2.2)) (
 (Z8c 8 (([]:List Int)) x2.Do.NE).bind fun x4=>
 (Z3a1 x1 x2.A (Do.mk x2.Do.KI x2.Do.ID x2.Do.PE x2.Do.Hold x4)).bind fun x5=>
 some (x5.1,x5.2.1,x5.2.2))
theorem Z0s1 {x1 x2 r} (h:Zzr1 x1 x2=some r):FPx 14 [.agg (HL.row x1),.agg (narthexlaw19_Step.row x2)] (.tup [.agg (HL.row r.1),Sp7 r.2.1,.iv r.2.2]):=by
 have ok:=oJ 14 Tryz.f14 [.c 4 (some 2),.t 5,.t 6] 2 43;refine FP ok fun w0 H0=>?_;rw [Zzr1] at h;refine Vg 14 ?_;refine MI h (fun h=>?_) fun h=>?_
 ·refine Vg 7 ?_;refine VB h Z8a1 fun _ _ h=>?_;exact W
 ·refine Vg 7 ?_;have ⟨x4,ex4,h⟩:=Bs h;refine Zmc Z4d ex4 trivial rfl rfl rfl (Vg 21 ?_);refine Zjj 1 (Ds ?_);refine VB h Z4a1 fun _ _ h=>?_;exact W
@[go_sem] def e4_L2:EC:=.seq (.seq (.reg [Qm 121 12,Qf 122 1 5,Ql 123 122,Qa 124 (.len (.t 123)),Qa 125 (.bin .lss (.t 121) (.t 124))]) (.ite (.t 125) (.skip) (.exit 4))) (.seq (.blk 5 (.seq (.drw [Qm 128 12,Qm 129 9,Qa 130 (.len (.t 129)),Qa 131 (.bin .lss (.t 128) (.t 130)),Qm 132 131,Qh 133 132 true 1 5,Qn 134 132 true 133,Qg 135 132 true (.mv (.t 12)),Qg 136 132 true (.idx 5 (.t 134) (.t 135)),Qg 137 132 true (.loadA 5 (.t 136)),Qg 138 132 true (.mv (.t 9)),Qg 139 132 true (.mv (.t 12)),Qg 140 132 true (.idx 5 (.t 138) (.t 139)),Qg 141 132 true (.loadA 5 (.t 140)),Qg 142 132 true (.eqs true [true,true,true,true,true] (.t 137) (.t 141)),Qp 143 132 142,Qm 144 143,Qg 145 144 false (.mv (.t 12)),Qg 146 144 false (.mv (.t 9)),Qg 147 144 false (.len (.t 146)),Qg 148 144 false (.bin .geq (.t 145) (.t 147)),Qg 149 144 false (.mv (.t 148)),Qh 150 149 true 1 5,Qn 151 149 true 150,Qg 152 149 true (.mv (.t 12)),Qg 153 149 true (.idx 5 (.t 151) (.t 152)),Qh 154 149 true 0 153,Qn 155 149 true 154,Qg 156 149 true (.mv (.t 8)),Qg 157 149 true (.bin .neq (.t 155) (.t 156)),Qg 158 144 false (.pick (.t 149) (.t 157) (.c .ff)),Qq 159 144 158] [[],[],[1],[0,2,1],[3,0,2,1],[4,3,0,2,1],[5,4,3,0,2,1],[4,3,0,2,1],[6,7,4,5,3,0,2,1],[8,4,6,7,5,3,0,2,1],[4,3,0,2,1],[4,3,0,2,1],[10,11,4,3,0,2,1],[12,4,10,11,3,0,2,1],[9,13,4,8,6,7,5,3,0,2,1,12,10,11],[4,14,3,0,2,1,9,13,8,6,7,5,12,10,11],[15,4,14,3,0,2,1,9,13,8,6,7,5,12,10,11],[16,15,4,14,3,0,2,1,9,13,8,6,7,5,12,10,11],[16,15,4,14,3,0,2,1,9,13,8,6,7,5,12,10,11],[18,16,15,4,14,3,0,2,1,9,13,8,6,7,5,12,10,11],[17,19,16,15,4,14,3,0,2,1,9,13,8,6,7,5,12,10,11,18],[20,16,16,17,19,15,4,14,3,0,2,1,9,13,8,6,7,5,12,10,11,18],[21,20,16,17,19,15,4,14,3,0,2,1,9,13,8,6,7,5,12,10,11,18],[22,21,20,16,17,19,15,4,14,3,0,2,1,9,13,8,6,7,5,12,10,11,18],[21,20,16,17,19,15,4,14,3,0,2,1,9,13,8,6,7,5,12,10,11,18],[23,24,21,22,20,16,17,19,15,4,14,3,0,2,1,9,13,8,6,7,5,12,10,11,18],[25,21,23,24,22,20,16,17,19,15,4,14,3,0,2,1,9,13,8,6,7,5,12,10,11,18],[26,21,25,23,24,22,20,16,17,19,15,4,14,3,0,2,1,9,13,8,6,7,5,12,10,11,18],[21,20,16,17,19,15,4,14,3,0,2,1,9,13,8,6,7,5,12,10,11,18],[27,28,21,26,25,23,24,22,20,16,17,19,15,4,14,3,0,2,1,9,13,8,6,7,5,12,10,11,18],[21,29,16,20,17,19,15,4,14,3,0,2,1,9,13,8,6,7,5,12,10,11,18,27,28,26,25,23,24,22],[16,30,15,4,14,3,0,2,1,9,13,8,6,7,5,12,10,11,21,29,20,17,19,18,27,28,26,25,23,24,22]] [[3],[2],[1,3],[0,2,4],[3,5,6,7,8,9,10,11,12,13,14,15],[4,6],[4,5,8],[4,8],[4,6,7,9],[4,8,14],[4,12],[4,12],[4,10,11,13],[4,12,14],[4,9,13,15],[4,14,16],[15,17,18,19,20,21,30,31],[16,20],[16,19],[16,18,20],[16,17,19,21],[16,20,22,23,24,25,26,27,28,29,30],[21,23],[21,22,25],[21,25],[21,23,24,26],[21,25,27],[21,26,29],[21,29],[21,27,28,30],[16,21,29,31],[16,30]]) (.ite (.t 159) (.seq (.reg [Qa 4 (.mv (.c .ff))]) (.ret)) (.skip)))) (.reg [Qm 126 12,Qv 127 126 1,Qm 12 127]))
@[go_sem] def e4_L1:EC:=.seq (.seq (.reg [Qm 90 11,Qf 91 0 2,Ql 92 91,Qa 93 (.len (.t 92)),Qa 94 (.bin .lss (.t 90) (.t 93))]) (.ite (.t 94) (.skip) (.exit 2))) (.seq (.blk 3 (.seq (.drw [Qm 97 11,Qf 98 0 5,Ql 99 98,Qa 100 (.len (.t 99)),Qa 101 (.bin .geq (.t 97) (.t 100)),Qm 102 101,Qg 103 102 false (.mv (.t 11)),Qg 104 102 false (.mv (.t 8)),Qg 105 102 false (.bin .neq (.t 103) (.t 104)),Qg 106 102 false (.mv (.t 105)),Qh 107 106 true 0 2,Qn 108 106 true 107,Qg 109 106 true (.mv (.t 11)),Qg 110 106 true (.idx 10 (.t 108) (.t 109)),Qg 111 106 true (.loadA 10 (.t 110)),Qh 112 106 true 0 5,Qn 113 106 true 112,Qg 114 106 true (.mv (.t 11)),Qg 115 106 true (.idx 10 (.t 113) (.t 114)),Qg 116 106 true (.loadA 10 (.t 115)),Qg 117 106 true (.call 15 [.t 111,.t 116]),Qg 118 106 true (.not (.t 117)),Qg 119 102 false (.pick (.t 106) (.t 118) (.c .ff)),Qq 120 102 119] [[],[],[1],[2,1],[0,3,2,1],[4,0,3,2,1],[5,4,0,3,2,1],[5,4,0,3,2,1],[6,7,5,4,0,3,2,1],[8,5,5,6,7,4,0,3,2,1],[9,8,5,6,7,4,0,3,2,1],[10,9,8,5,6,7,4,0,3,2,1],[9,8,5,6,7,4,0,3,2,1],[11,12,9,10,8,5,6,7,4,0,3,2,1],[13,9,11,12,10,8,5,6,7,4,0,3,2,1],[9,8,5,6,7,4,0,3,2,1],[15,9,8,5,6,7,4,0,3,2,1],[9,8,5,6,7,4,0,3,2,1],[16,17,9,15,8,5,6,7,4,0,3,2,1],[18,9,16,17,15,8,5,6,7,4,0,3,2,1],[14,19,9,9,13,11,12,10,8,5,6,7,4,0,3,2,1,18,16,17,15],[20,9,14,19,13,11,12,10,8,5,6,7,4,0,3,2,1,18,16,17,15],[9,21,5,8,6,7,4,0,3,2,1,20,14,19,13,11,12,10,18,16,17,15],[5,22,4,0,3,2,1,9,21,8,6,7,20,14,19,13,11,12,10,18,16,17,15]] [[4],[2],[1,3],[2,4],[0,3,5],[4,6,7,8,9,22,23],[5,8],[5,8],[5,6,7,9],[5,8,10,11,12,13,14,15,16,17,18,19,20,21,22],[9,11],[9,10,13],[9,13],[9,11,12,14],[9,13,20],[9,16],[9,15,18],[9,18],[9,16,17,19],[9,18,20],[9,14,19,21],[9,20,22],[5,9,21,23],[5,22]]) (.ite (.t 120) (.seq (.reg [Qa 4 (.mv (.c .ff))]) (.ret)) (.skip)))) (.reg [Qm 95 11,Qv 96 95 1,Qm 11 96]))
@[go_sem] def e4_L0:EC:=.seq (.seq (.drw [Qm 51 10,Qm 52 9,Qa 53 (.len (.t 52)),Qa 54 (.bin .lss (.t 51) (.t 53)),Qm 55 54,Qg 56 55 true (.mv (.t 9)),Qg 57 55 true (.mv (.t 10)),Qg 58 55 true (.idx 5 (.t 56) (.t 57)),Qh 59 55 true 0 58,Qn 60 55 true 59,Qh 61 55 true 1 3,Qn 62 55 true 61,Qg 63 55 true (.bin .neq (.t 60) (.t 62)),Qg 64 55 true (.mv (.t 63)),Qg 65 64 false (.mv (.t 9)),Qg 66 64 false (.mv (.t 10)),Qg 67 64 false (.idx 5 (.t 65) (.t 66)),Qh 68 64 false 1 67,Qn 69 64 false 68,Qh 70 64 false 2 3,Qn 71 64 false 70,Qg 72 64 false (.bin .neq (.t 69) (.t 71)),Qg 73 55 true (.pick (.t 64) (.c .tt) (.t 72)),Qp 74 55 73] [[],[],[1],[0,2,1],[3,0,2,1],[4,3,0,2,1],[4,3,0,2,1],[5,6,4,3,0,2,1],[7,4,5,6,3,0,2,1],[8,4,7,5,6,3,0,2,1],[4,3,0,2,1],[10,4,3,0,2,1],[9,11,4,8,7,5,6,3,0,2,1,10],[12,4,4,9,11,8,7,5,6,3,0,2,1,10],[13,12,4,9,11,8,7,5,6,3,0,2,1,10],[13,12,4,9,11,8,7,5,6,3,0,2,1,10],[14,15,13,12,4,9,11,8,7,5,6,3,0,2,1,10],[16,13,14,15,12,4,9,11,8,7,5,6,3,0,2,1,10],[17,13,16,14,15,12,4,9,11,8,7,5,6,3,0,2,1,10],[13,12,4,9,11,8,7,5,6,3,0,2,1,10],[19,13,12,4,9,11,8,7,5,6,3,0,2,1,10],[18,20,13,17,16,14,15,12,4,9,11,8,7,5,6,3,0,2,1,10,19],[13,21,4,12,9,11,8,7,5,6,3,0,2,1,10,18,20,17,16,14,15,19],[4,22,3,0,2,1,13,21,12,9,11,8,7,5,6,10,18,20,17,16,14,15,19]] [[3],[2],[1,3],[0,2,4],[3,5,6,7,8,9,10,11,12,13,22,23],[4,7],[4,7],[4,5,6,8],[4,7,9],[4,8,12],[4,11],[4,10,12],[4,9,11,13],[4,12,14,15,16,17,18,19,20,21,22],[13,16],[13,16],[13,14,15,17],[13,16,18],[13,17,21],[13,20],[13,19,21],[13,18,20,22],[4,13,21,23],[4,22]]) (.ite (.t 74) (.skip) (.exit 0))) (.blk 1 (.reg [Qm 75 10,Qv 76 75 1,Qm 10 76]))
@[go_sem] def e4:EC:=.seq (.reg [Qx 2 29 2 0,Qx 3 44 8 1,Qa 4 (.mv (.c .ff))]) (.seq (.seq (.reg [Qa 13 (.call 5 []),Qa 14 (.not (.t 13)),Qm 15 14,Qg 16 15 false (.loadA 2 (.t 2)),Qg 17 15 false (.call 13 [.t 16]),Qg 18 15 false (.not (.t 17)),Qq 19 15 18,Qm 20 19,Qh 21 20 false 3 3,Qh 22 20 false 4 21,Qn 23 20 false 22,Qg 24 20 false (.len (.t 23)),Qg 25 20 false (.bin .gtr (.t 24) (.c (.iv 70))),Qq 26 20 25]) (.ite (.t 26) (.seq (.reg [Qa 27 (.call 5 []),Qm 4 27]) (.ret)) (.skip))) (.seq (.drw [Qe 29 2 2,Qa 30 (.call 12 [.t 29]),Qe 31 8 3,Qa 32 (.call 14 [.t 30,.t 31]),Qm 28 32,Qa 33 (.ext (.t 28) 0),Qa 34 (.ext (.t 28) 1),Qa 35 (.ext (.t 28) 2),Qa 5 (.alloc 29 [.nl,.nl]),Qs 2 5 33,Qm 6 34,Qm 7 35] [[],[0],[],[1,2,1,0],[3,1,2,0],[4,3,1,2,0],[4,3,1,2,0],[4,3,1,2,0],[],[8,5,3,0,1,2,3,4,5,8],[6,9,0,1,2,3,4,5,6,8,9],[7,10,0,1,2,3,4,5,6,7,8,9,10]] [[1],[0,3],[3],[1,2,4],[3,5,6,7],[4,9],[4,10],[4,11],[9],[5,8],[6],[7]]) (.seq (.seq (.reg [Qm 36 7,Qa 37 (.bin .neq (.t 36) (.c (.iv 0)))]) (.ite (.t 37) (.seq (.reg [Qe 38 2 5,Qa 39 (.build [.nl,.nl] []),Qa 40 (.call 9 [.t 38,.t 39]),Qm 4 40]) (.ret)) (.skip))) (.seq (.drw [Qf 41 1 3,Ql 42 41,Qa 43 (.bsl 53 5 0 [.iv 0,.iv 0,.iv 0,.iv 0,.iv 0] []),Qf 44 1 2,Ql 45 44,Qa 46 (.app 53 5 40 (.t 43) (.t 45)),Qm 8 42,Qm 9 46] [[],[0],[],[],[3],[2,4,3],[1,5,0,1,2,4,3],[5,6,0,1,2,3,4,5,6]] [[1],[0,6],[5],[4],[3,5],[2,4,7],[1],[5]]) (.seq (.seq (.reg [Qf 47 0 3,Ql 48 47]) (.ite (.t 48) (.seq (.reg [Qf 49 2 3,Ql 50 49,Qm 8 50]) (.seq (.reg [Qi 10 0]) (.seq (.blk 0 (.loop e4_L0)) (.seq (.seq (.reg [Qm 77 10,Qm 78 9,Qa 79 (.len (.t 78)),Qa 80 (.bin .eql (.t 77) (.t 79))]) (.ite (.t 80) (.seq (.reg [Qa 4 (.mv (.c .ff))]) (.ret)) (.skip))) (.drw [Qm 81 9,Qm 82 10,Qm 83 10,Qa 84 (.sl3 5 (.t 81) none (some (.t 82)) (some (.t 83))),Qm 85 9,Qm 86 10,Qv 87 86 1,Qa 88 (.slice 5 (.t 85) (some (.t 87)) none),Qa 89 (.app 53 5 40 (.t 84) (.t 88)),Qm 9 89] [[],[],[],[0,1,2],[],[],[5],[4,6,5],[3,7,0,1,2,4,6,5],[8,8,0,1,2,3,4,5,6,7,8]] [[3,9],[3],[3],[0,1,2,8],[7,9],[6],[5,7],[4,6,8],[3,7,9],[0,4,8]]))))) (.skip))) (.seq (.seq (.reg [Qi 11 0]) (.blk 2 (.loop e4_L1))) (.seq (.seq (.reg [Qi 12 0]) (.blk 4 (.loop e4_L2))) (.seq (.reg [Qf 160 1 5,Ql 161 160,Qa 162 (.len (.t 161)),Qm 163 9,Qa 164 (.len (.t 163)),Qa 165 (.bin .geq (.t 162) (.t 164)),Qm 166 165,Qh 167 166 true 0 5,Qn 168 166 true 167,Qg 169 166 true (.len (.t 168)),Qh 170 166 true 0 2,Qn 171 166 true 170,Qg 172 166 true (.len (.t 171)),Qg 173 166 true (.bin .eql (.t 169) (.t 172)),Qp 174 166 173,Qm 4 174]) (.ret)))))))))
def Z1s1:Bool→Option Bool
| x66=>some x66
def Z2s1 (x1 x12:HL) (x31:List ML):Unit→Option Bool
| ()=>
 ifb (decide ((ln ML.row x31)≤(ln ML.row x12.ML))) (
 Z1s1 (decide ((ln NO.row x12.NS)=(ln NO.row x1.NS)))) (
 Z1s1 false)
def Z3s1 (x54:Int):Bool→Option (Int ⊕ Bool)
| x59=>
 ifb x59 (
 Option.map Sum.inr (some false)) (
 some (.inl (wr (x54+1))))
def Z4s1 (x1 x12:HL) (x30:Int) (x31:List ML):Int→Option (Int ⊕ Bool)
| x54=>
 ifb (decide (x54<(ln ML.row x12.ML))) (
 ifb (decide (x54<(ln ML.row x31))) (
 (at_ x12.ML x54).bind fun x55=>
 (at_ x31 x54).bind fun x56=>
 ifb (!(decide (x55.From=x56.From)&&(decide (x55.To=x56.To)&&(decide (x55.Msg.KI=x56.Msg.KI)&&(decide (x55.Msg.EP=x56.Msg.EP)&&(decide (x55.Msg.Num=x56.Msg.Num)&&true)))))) (
 (Z3s1 x54) true) (
 ifb (decide ((ln ML.row x31)≤x54)) (
 (at_ x12.ML x54).bind fun x57=>
 (Z3s1 x54) (!decide (x57.From=x30))) (
 (Z3s1 x54) false))) (
 ifb (decide ((ln ML.row x31)≤x54)) (
 (at_ x12.ML x54).bind fun x58=>
 (Z3s1 x54) (!decide (x58.From=x30))) (
 (Z3s1 x54) false))) (
 Option.map Sum.inr ((Z2s1 x1 x12 x31) ()))
def Z5s1 (x1 x12:HL) (x30:Int) (x31:List ML):Unit→Option Bool
| ()=>loop (Z4s1 x1 x12 x30 x31) 0
def Z6s1 (x37:Int):Bool→Option (Int ⊕ Bool)
| x41=>
 ifb x41 (
 Option.map Sum.inr (some false)) (
 some (.inl (wr (x37+1))))
def Z7s1 (x1 x12:HL) (x30:Int) (x31:List ML):Int→Option (Int ⊕ Bool)
| x37=>
 ifb (decide (x37<(ln NO.row x1.NS))) (
 ifb (decide ((ln NO.row x12.NS)≤x37)) (
 (Z6s1 x37) true) (
 ifb (!decide (x37=x30)) (
 (at_ x1.NS x37).bind fun x38=>
 (at_ x12.NS x37).bind fun x39=>
 (Z7z x38 x39).bind fun x40=>
 (Z6s1 x37) (!x40)) (
 (Z6s1 x37) false))) (
 Option.map Sum.inr ((Z5s1 x1 x12 x30 x31) ()))
def Z8s1 (x1 x12:HL):(Int×List ML)→Option Bool
| (x30,x31)=>loop (Z7s1 x1 x12 x30 x31) 0
def Z9s1 (x1:HL) (x2:narthexlaw19_Step) (x12:HL) (x14:List ML):Int→Option Bool
| x28=>
 ifb (decide (x28=(ln ML.row x14))) (
 some false) (
 (Z1k 40 x14 x28).bind fun x29=>
 (Z8s1 x1 x12) (x2.B,x29))
def Zas1 (x1:HL) (x2:narthexlaw19_Step) (x12:HL) (x14:List ML) (x18:Int):Bool→Option (Int ⊕ Bool)
| x20=>
 ifb x20 (
 some (.inl (wr (x18+1)))) (
 Option.map Sum.inr ((Z9s1 x1 x2 x12 x14) x18))
def Zbs1 (x1:HL) (x2:narthexlaw19_Step) (x12:HL) (x14:List ML):Int→Option (Int ⊕ Bool)
| x18=>
 ifb (decide (x18<(ln ML.row x14))) (
 (at_ x14 x18).bind fun x19=>
 ifb (!decide (x19.From=x2.A)) (
 (Zas1 x1 x2 x12 x14 x18) true) (
 (Zas1 x1 x2 x12 x14 x18) (!decide (x19.To=x2.B)))) (
 (Zas1 x1 x2 x12 x14 x18) false)
def Zcs1 (x1:HL) (x2:narthexlaw19_Step):(Int×HL)→Option Bool
| (x11,x12)=>
 ifb (!decide (x11=0)) (
 (Zs11 x12 (HL.mk (([]:List NO)) (([]:List ML)))).bind fun x13=>
 some x13) (
 (Z8c 40 (([]:List ML)) x1.ML).bind fun x14=>
 ifb x2.ML (
 loop (Zbs1 x1 x2 x12 x14) 0) (
 (Z8s1 x1 x12) (x2.A,x14)))
def Zds1 (x1:HL) (x2:narthexlaw19_Step):Bool→Option Bool
| x5=>
 ifb x5 (
 (Zaa1).bind fun x6=>
 some x6) (
 (Zw11 x1).bind fun x7=>
 (Zzr1 x7 x2).bind fun x9=>
 (Zcs1 x1 x2) (x9.2.2,x9.1))
def Zes1 (x1:HL) (x2:narthexlaw19_Step):Option Bool:=
 (Zaa1).bind fun x3=>
 ifb (!x3) (
 (Zds1 x1 x2) true) (
 (Zxr1 x1).bind fun x4=>
 ifb (!x4) (
 (Zds1 x1 x2) true) (
 (Zds1 x1 x2) (decide (70<(ln Z4d x2.Do.NE)))))
theorem Zfs1 {x1 x2 r} (h:Zes1 x1 x2=some r):FPx 4 [.agg (HL.row x1),.agg (narthexlaw19_Step.row x2)] (.bv r):=by
 have ok:=oK 4 Tryz.f4 e4 [.t 4] 2 173;refine FP ok fun w0 H0=>?_;rw [Zes1] at h;refine Vg 9 ?_;refine VB h Zba1 fun _ _ h=>?_;refine Vg 2 ?_;refine Vk [2,2] (fun x5=>[(26,.bv x5)]) (Zds1 x1 x2) r ?_ fun J1=>?_
 ·intro x5 h;rw [Zds1] at h;refine MI h (fun h=>?_) fun h=>?_
  ·refine Vg 2 ?_;refine VB h Zba1 fun _ _ h=>?_;exact W
  ·refine Vg 2 ?_;refine Vl [2,2] (fun s=>([(5,.ptr 2 0),(7,.iv s.1)],[some ⟨29,HL.row x1⟩,some ⟨44,narthexlaw19_Step.row x2⟩,some ⟨29,[Z7k s.2.NS,Sp9 s.2.ML]⟩],[])) (Zcs1 x1 x2) r ?_ fun J2=>?_
   ·rintro ⟨x11,x12⟩ h;rw [Zcs1] at h;refine Vg 6 ?_;refine MI h (fun h=>?_) fun h=>?_
    ·refine Vg 4 ?_;refine VB h Zt11 fun _ _ h=>?_;exact W
    ·refine Vg 2 ?_;refine Zgj fun all H=>?_;refine Gn H 4 4 ?_;refine R1 ?_;refine Zna 5 rfl ?_;have ⟨x14,ex14,h⟩:=Bs h;refine GA ML.row ex14 H.1 ?_;refine Gn H 2 0 ?_;refine GD (Vg 6 ?_);refine Vl [2,1,2,1] (fun s=>([(8,.iv s.1),(9,Sp9 s.2)],[some ⟨29,HL.row x1⟩,none,some ⟨29,HL.row x12⟩],[])) (Z8s1 x1 x12) r ?_ fun J3=>?_
     ·rintro ⟨x30,x31⟩ h;rw [Z8s1] at h;refine Vg 5 ?_;refine Vk [2,1,2,1,2,2] (fun _=>[]) (Z5s1 x1 x12 x30 x31) r ?_ fun J6=>?_
      ·rintro ⟨⟩ h;rw [Z5s1] at h;refine Vg 5 ?_;refine Vk [2,1,2,1,3,1] (fun _=>[]) (Z2s1 x1 x12 x31) r ?_ fun J8=>?_
       ·rintro ⟨⟩ h;rw [Z2s1] at h;refine Vg 9 ?_;refine Vl [] (fun x66=>([(4,.bv x66)],[],[])) Z1s1 r ?_ fun J10=>?_
        ·intro x66 h;rw [Z1s1] at h;exact W
        ·refine MC 166 h (fun h=>?_) fun h=>?_
         ·refine Vg 10 ?_;exact Ztc J10 h
         ·refine Vg 10 ?_;exact Ztc J10 h
       ·refine Vg 1 ?_;refine Mk h [2,1,2,1,2,2] (fun x54=>[(12,.iv x54)]) ?_;rintro n1 x54 y1 h hin1 hout1;rw [Z4s1] at h;refine Vg 9 ?_;refine MI h (fun h=>?_) fun h=>?_
        ·refine Vg 4 ?_;refine Vk [2,1,2,1,2,2,2,1] (fun x59=>[(159,.bv x59)]) (Z3s1 x54) y1 ?_ fun J9=>?_
         ·intro x59 h;rw [Z3s1] at h;exact W
         ·refine Zgj fun all H=>Ds (GP H 5 27 [5,27] [(128,[.iv x54,Sp9 x31,.iv (ln ML.row x31),.bv (decide (x54<(ln ML.row x31))),.bv (decide (x54<(ln ML.row x31)))])] (Ds ?_));refine Zdd 132 h rfl (fun _ h=>?_) fun _ h=>?_
          ·refine Ds (GP H 5 22 [8,2,2,20] [(133,[.ptr 2 1,Sp9 x12.ML,.iv x54]),(2,[Sp9 x31,.iv x54])] (Ds ?_));have ⟨x55,ex55,h⟩:=Bs h;refine Zkc H.1 H.2.1 H.2.2.1 H.2.2.2 8 ML.row ex55 rfl rfl trivial rfl rfl rfl rfl (Gn H 1 20 ?_);have ⟨x56,ex56,h⟩:=Bs h;refine Zkc H.1 H.2.1 H.2.2.1 H.2.2.2 12 ML.row ex56 rfl rfl trivial rfl rfl rfl rfl (GP H 4 15 [17,15] [(141,[.agg (ML.row x56),.bv (!(decide (x55.From=x56.From)&&(decide (x55.To=x56.To)&&(decide (x55.Msg.KI=x56.Msg.KI)&&(decide (x55.Msg.EP=x56.Msg.EP)&&(decide (x55.Msg.Num=x56.Msg.Num)&&true)))))),.bv (!(decide (x55.From=x56.From)&&(decide (x55.To=x56.To)&&(decide (x55.Msg.KI=x56.Msg.KI)&&(decide (x55.Msg.EP=x56.Msg.EP)&&(decide (x55.Msg.Num=x56.Msg.Num)&&true)))))),.bv (!(decide (x55.From=x56.From)&&(decide (x55.To=x56.To)&&(decide (x55.Msg.KI=x56.Msg.KI)&&(decide (x55.Msg.EP=x56.Msg.EP)&&(decide (x55.Msg.Num=x56.Msg.Num)&&true))))))])] (Ds ?_));refine Zdd 144 h rfl (fun _ h=>?_) fun _ h=>?_
           ·refine Ds (GP H 15 0 [32] [(145,[.un,.un,.un,.un,.un,.un,.un,.un,.un,.un,.un,.un,.un,.un,.tt])] (Ds ?_));refine GD ?_;exact W
           ·refine Ds (GP H 5 10 [22,10] [(145,[.iv x54,Sp9 x31,.iv (ln ML.row x31),.bv (decide ((ln ML.row x31)≤x54)),.bv (decide ((ln ML.row x31)≤x54))])] (Ds ?_));refine Zdd 149 h rfl (fun _ h=>?_) fun _ h=>?_
            ·refine Ds (GP H 4 6 [25,3,1,3] [(150,[.ptr 2 1,Sp9 x12.ML,.iv x54]),(3,[.iv x30])] (Ds ?_));have ⟨x57,ex57,h⟩:=Bs h;refine Zkc H.1 H.2.1 H.2.2.1 H.2.2.2 25 ML.row ex57 rfl rfl trivial rfl rfl rfl rfl (GP H 5 0 [32] [(154,[.elt (ML.row x57) 0,.iv x57.From]),(1,[.bv (!decide (x57.From=x30)),.bv (!decide (x57.From=x30)),.bv (!decide (x57.From=x30))])] (Ds ?_));refine GD ?_;exact W
            ·refine Ds (GP H 10 0 [32] [(150,[.un,.un,.un,.un,.un,.un,.un,.un,.ff,.ff])] (Ds ?_));refine GD ?_;exact W
          ·refine Ds (GP H 17 10 [22,10] [(133,[.un,.un,.un,.un,.un,.un,.un,.un,.un,.un,.ff,.ff,.iv x54,Sp9 x31,.iv (ln ML.row x31),.bv (decide ((ln ML.row x31)≤x54)),.bv (decide ((ln ML.row x31)≤x54))])] (Ds ?_));refine Zdd 149 h rfl (fun _ h=>?_) fun _ h=>?_
           ·refine Ds (GP H 4 6 [25,3,1,3] [(150,[.ptr 2 1,Sp9 x12.ML,.iv x54]),(3,[.iv x30])] (Ds ?_));have ⟨x58,ex58,h⟩:=Bs h;refine Zkc H.1 H.2.1 H.2.2.1 H.2.2.2 25 ML.row ex58 rfl rfl trivial rfl rfl rfl rfl (GP H 5 0 [32] [(154,[.elt (ML.row x58) 0,.iv x58.From]),(1,[.bv (!decide (x58.From=x30)),.bv (!decide (x58.From=x30)),.bv (!decide (x58.From=x30))])] (Ds ?_));refine GD ?_;exact W
           ·refine Ds (GP H 10 0 [32] [(150,[.un,.un,.un,.un,.un,.un,.un,.un,.ff,.ff])] (Ds ?_));refine GD ?_;exact W
        ·exact W
      ·refine Vg 1 ?_;refine Mk h [2,1,2,1,2,2] (fun x37=>[(11,.iv x37)]) ?_;rintro n1 x37 y1 h hin1 hout1;rw [Z7s1] at h;refine Vg 9 ?_;refine MI h (fun h=>?_) fun h=>?_
       ·refine Vg 4 ?_;refine Vk [2,1,2,1,2,2,1,1] (fun x41=>[(120,.bv x41)]) (Z6s1 x37) y1 ?_ fun J7=>?_
        ·intro x41 h;rw [Z6s1] at h;exact W
        ·refine Zgj fun all H=>Ds (GP H 6 18 [6,18] [(97,[.iv x37,.ptr 2 0,Z7k x12.NS,.iv (ln NO.row x12.NS),.bv (decide ((ln NO.row x12.NS)≤x37)),.bv (decide ((ln NO.row x12.NS)≤x37))])] (Ds ?_));refine Zdd 102 h rfl (fun _ h=>?_) fun _ h=>?_
         ·refine Ds (GP H 18 0 [24] [(103,[.un,.un,.un,.un,.un,.un,.un,.un,.un,.un,.un,.un,.un,.un,.un,.un,.un,.tt])] (Ds ?_));refine GD ?_;exact W
         ·refine Ds (GP H 4 14 [10,14] [(103,[.iv x37,.iv x30,.bv (!decide (x37=x30)),.bv (!decide (x37=x30))])] (Ds ?_));refine Zdd 106 h rfl (fun _ h=>?_) fun _ h=>?_
          ·refine Ds (GP H 6 8 [13,2,3,6] [(107,[.ptr 0 0,Z7k x1.NS,.iv x37]),(2,[.ptr 2 0,Z7k x12.NS,.iv x37])] (Ds ?_));have ⟨x38,ex38,h⟩:=Bs h;refine Zkc H.1 H.2.1 H.2.2.1 H.2.2.2 13 NO.row ex38 rfl rfl trivial rfl rfl rfl rfl (Gn H 1 6 ?_);have ⟨x39,ex39,h⟩:=Bs h;refine Zkc H.1 H.2.1 H.2.2.1 H.2.2.2 18 NO.row ex39 rfl rfl trivial rfl rfl rfl rfl (GN H 1 4 (Ds ?_));refine An (RB h Z8z fun x40 _ h=>?_);refine GP H 3 0 [24] [(118,[.bv (!x40),.bv (!x40),.bv (!x40)])] (Ds ?_);refine GD ?_;exact W
          ·refine Ds (GP H 14 0 [24] [(107,[.un,.un,.un,.un,.un,.un,.un,.un,.un,.un,.un,.un,.ff,.ff])] (Ds ?_));refine GD ?_;exact W
       ·exact W
     ·refine MI h (fun h=>?_) fun h=>?_
      ·refine Vg 11 ?_;refine Vm [2,1,2,1,2,2] (fun x28=>([(10,.iv x28)],[],[(1,none)],[])) (Z9s1 x1 x2 x12 x14) r ?_ fun J4=>?_
       ·intro x28 h;rw [Z9s1] at h;refine Vg 8 ?_;refine MI h (fun h=>?_) fun h=>?_
        ·exact W
        ·refine Vg 1 ?_;have ⟨x29,ex29,h⟩:=Bs h;refine V_d3 (j:=1) ML.row ex29 rfl fun all H ps g cap hj hq=>?_;refine Gn (by exact H) 6 4 ?_;refine Gs (S0:=(⟨(.any :: .any :: .ptr 0 0 :: .any :: .any :: .ptr 2 0 :: .any :: .any :: .iv x2.B :: Sp9 x29 :: .iv x28::an 66 (.iv x28 :: .osl 1 :: .iv (ln ML.row x14) :: .bv (decide (x28=(ln ML.row x14))) :: .osl 1 :: .iv x28 :: .iv x28 :: .osl 2 :: .osl 1 :: .iv x28 :: .iv (wr (x28+1)) :: .ocs 1 (Int.toNat (x28)+1) 5 (x14.length-(Int.toNat (x28)+1)) :: Sp9 x29::an 85 [])),[some ⟨29,HL.row x1⟩,none,some ⟨29,HL.row x12⟩],[none,none,none]⟩:St)) ?_ ?_
         ·exact W
         ·refine Zoa 3 7 rfl ?_ ?_
          ·refine G_d3a ex29 H.1 hj hq (Ds ?_);refine Zna 7 rfl (G_d3b ex29 H.1 (Ds ?_));refine Zna 8 rfl (G_d3c ML.row ex29 H.1 hj hq ?_);refine Gn (by exact H) 1 0 ?_;exact Rd
          ·refine G_d3b ex29 H.1 (Ds ?_);refine Zna 3 rfl (G_d3a ex29 H.1 hj hq (Ds ?_));refine Zna 8 rfl (G_d3c ML.row ex29 H.1 hj hq ?_);refine Gn (by exact H) 1 0 ?_;exact Rd
       ·refine Vg 1 ?_;refine Mk h [2,2,1,1,2,2] (fun x18=>[(10,.iv x18)]) ?_;rintro n1 x18 y1 h hin1 hout1;rw [Zbs1] at h;refine Vg 2 ?_;refine Vk [2,2,1,1,2,3] (fun x20=>[(74,.bv x20)]) (Zas1 x1 x2 x12 x14 x18) y1 ?_ fun J5=>?_
        ·intro x20 h;rw [Zas1] at h;exact W
        ·refine Zgj fun all H=>?_;refine Gn H 2 22 ?_;refine R1 ?_;refine Gn H 2 19 ?_;refine Zdd 55 h rfl (fun _ h=>?_) fun _ h=>?_
         ·refine Ds (GP H 4 15 [7,3,2,12] [(56,[.osl 1,.iv x18]),(3,[.ptr 1 1,.iv x2.A])] (Ds ?_));have ⟨x19,ex19,h⟩:=Bs h;refine RO ?_;refine RI ?_;refine Gn H 1 13 ?_;refine RO ?_;refine RL ?_;refine Gn H 2 10 ?_;refine Zdd 64 h rfl (fun _ h=>?_) fun _ h=>?_
          ·refine Ds (GP H 10 0 [24] [(65,[.un,.un,.un,.un,.un,.un,.un,.un,.tt,.tt])] (Ds ?_));refine GD ?_;exact W
          ·refine Ds (GP H 4 6 [16,3,2,3] [(65,[.osl 1,.iv x18]),(3,[.ptr 1 2,.iv x2.B])] (Ds ?_));refine RO ?_;refine RI ?_;refine Gn H 1 4 ?_;refine RO ?_;refine RL ?_;refine GP H 3 0 [24] [(72,[.bv (!decide (x19.To=x2.B)),.bv (!decide (x19.To=x2.B)),.bv (!decide (x19.To=x2.B))])] (Ds ?_);refine GD ?_;exact W
         ·refine Ds (GP H 19 0 [24] [(56,[.un,.un,.un,.un,.un,.un,.un,.un,.un,.un,.un,.un,.un,.un,.un,.un,.un,.un,.ff])] (Ds ?_));refine GD ?_;exact W
      ·refine Vg 1 ?_;refine Zjj 1 ?_;exact W
   ·have ⟨x7,ex7,h⟩:=Bs h;have ⟨x9,ex9,h⟩:=Bs h;have q0:=Zx11 ex7;have q1:=Z0s1 ex9;refine Zgj fun all H=>Gs ?_;exact W
 ·refine MC 15 h (fun h=>?_) fun h=>?_
  ·exact W
  ·refine Vg 1 ?_;refine VB h Zyr1 fun _ _ h=>?_;exact W
theorem Zgs1 (h:HL) (J:∀n∈h.NS,FewN n) (hl:h.NS.length≤64) (hm:h.ML.length≤1000000):∃e,Z191 h=some e∧(e=0→HallOK h):=by
 let bad:ML→Bool:=fun m=>!(decide (0≤m.From)&&decide (m.From<h.NS.length))||(!(decide (0≤m.To)&&decide (m.To<h.NS.length))||decide (m.From=m.To))
 have fin:∃e,Zy81 h ()=some e∧(e=0→∀m∈h.ML,bad m=false):=by
  dsimp only [Zy81];rw [ln_eq,DN (by omega),Zia1,Zxp1 h.ML _ bad (by omega) (fun m _=>by dsimp only [Z8w,Z7w];simp only [Z3q1,OB,bad];cases (decide (0≤m.From)&&decide (m.From<h.NS.length))<;>cases (decide (0≤m.To)&&decide (m.To<h.NS.length))<;>rfl),OB];cases hb:h.ML.any bad with
  | true=>exact ⟨190,rfl,fun h=>absurd h (by decide)⟩
  | false=>exact ⟨0,rfl,fun _ m hm=>by have:=List.any_eq_false.1 hb m hm;simpa using this⟩
 have key:∀d (k:Nat),k+d=h.NS.length→∃e,loop (Z091 h) (k:Int)=some e∧(e=0→(∀(j:Nat) n,k≤j→h.NS[j]?=some n→n.DK.DI.ID=j∧OkN n)∧∀m∈h.ML,bad m=false):=by
  intro d;induction d with
  | zero=>
    intro k hk;obtain ⟨e,h1,h2⟩:=fin;refine ⟨e,?_,fun he=>⟨fun j n hj hn=>?_,h2 he⟩⟩
    ·rw [Zdc];dsimp only [Z091];rw [show k=h.NS.length by omega,Zpa1,Zia1,h1];rfl
    ·have:=(List.getElem?_eq_some_iff.1 hn).1;omega
  | succ d ih=>
    intro k hk;obtain ⟨x,hx⟩:∃x,h.NS[k]?=some x:=⟨_,List.getElem?_eq_getElem (by omega)⟩
    obtain ⟨e,h1,h2⟩:=ih (k+1) (by omega);have h6:=J x (List.mem_iff_getElem?.2 ⟨k,hx⟩);rw [Zdc];dsimp only [Z091,Zz81];rw [Zoa1 hx,Zha1,Zla1 hx,OB];by_cases e1:x.DK.DI.ID=k
    ·rw [DT e1,Bool.not_true,Zia1,Zag1 x h6,OB];cases ho:okN x with
     | true=>
       rw [if_pos rfl,show (!decide ((0:Int)=0))=false by decide,Zia1,Zqa1 (by omega)];refine ⟨e,h1,fun he=>⟨fun j n hj hn=>?_,(h2 he).2⟩⟩;rcases Nat.eq_or_lt_of_le hj with rfl | hj
       ·rw [hx] at hn;cases hn;exact ⟨e1,(Zoi1 x).1 ho⟩
       ·exact (h2 he).1 j n hj hn
     | false=>rw [if_neg (by simp),show (!decide ((180:Int)=0))=true by decide,Zha1];exact ⟨190,rfl,fun h=>absurd h (by decide)⟩
    ·rw [DN e1,Bool.not_false,Zha1];exact ⟨190,rfl,fun h=>absurd h (by decide)⟩
 obtain ⟨e,h1,h2⟩:=key h.NS.length 0 (by omega);refine ⟨e,h1,fun he=>?_⟩;obtain ⟨a,b⟩:=h2 he;refine ⟨fun k n hn=>a k n (by omega) hn,hl,fun m hm=>?_,hm⟩;have:=b m hm;simp [bad] at this;omega
theorem Zhs1 (h:HL):∃z,Zxr1 h=some z∧(z=true→(∀n∈h.NS,FewN n)∧h.NS.length≤12∧h.ML.length≤60):=by
 have fin:Zur1 h ()=some (decide ((h.NS.length:Int)≤12)&&decide ((h.ML.length:Int)≤60)):=by dsimp only [Zur1,Ztr1];simp only [ln_eq];cases decide ((h.NS.length:Int)≤12)<;>rfl
 have key:∀d (k:Nat),k≤13→k+d=h.NS.length→∃z,loop (Zwr1 h) (k:Int)=some z∧(z=true→(∀(j:Nat) n,k≤j→h.NS[j]?=some n→FewN n)∧h.NS.length≤12∧h.ML.length≤60):=by
  intro d;induction d with
  | zero=>
    intro k _ hk;refine ⟨_,by rw [Zdc];dsimp only [Zwr1,Zvr1];rw [show k=h.NS.length by omega,Zpa1,Zia1,Zia1,fin];rfl,fun hz=>⟨fun j n hj hn=>?_,?_⟩⟩
    ·have:=(List.getElem?_eq_some_iff.1 hn).1;omega
    ·simp at hz;omega
  | succ d ih=>
    intro k h6 hk;obtain ⟨x,hx⟩:∃x,h.NS[k]?=some x:=⟨_,List.getElem?_eq_getElem (by omega)⟩
    rw [Zdc];dsimp only [Zwr1,Zvr1];rw [Zoa1 hx,Zha1];by_cases e:(k:Int)<13
    ·obtain ⟨z,hz,hF⟩:=Zkp1 x;rw [DT e,Zha1,Zla1 hx,OB,hz,OB];cases z with
     | false=>exact ⟨false,rfl,by simp⟩
     | true=>
       obtain ⟨y,h1,h2⟩:=ih (k+1) (by omega) (by omega);rw [Bool.not_true,Zia1,Zqa1 (by omega)];refine ⟨y,h1,fun he=>⟨fun j n hj hn=>?_,(h2 he).2⟩⟩;rcases Nat.eq_or_lt_of_le hj with rfl | hj
       ·rw [hx] at hn;cases hn;exact hF rfl
       ·exact (h2 he).1 j n hj hn
    ·rw [DN e,Zia1,fin];exact ⟨_,rfl,fun hz=>by simp at hz;omega⟩
 obtain ⟨z,h1,h2⟩:=key h.NS.length 0 (by omega) (by omega);exact ⟨z,h1,fun hz=>⟨fun n hn=>by obtain ⟨j,hj⟩:=List.mem_iff_getElem?.1 hn;exact (h2 hz).1 j n (by omega) hj,(h2 hz).2⟩⟩
def Acted (h:HL) (s:narthexlaw19_Step) (x:HL):Prop:=
 ∃(k:Nat) (n n':NO) (L M:List ML),h.NS[k]?=some n∧x=⟨h.NS.set k n',M++L⟩∧(∀m∈L,m.From=k)∧L.length≤6000∧(s.ML=false→s.A=k∧M=h.ML)∧
  (s.ML=true→s.B=k∧∃i:Nat,(h.ML.findIdx? fun m=>decide (m.From=s.A)&&decide (m.To=s.B))=some i∧M=h.ML.take i++h.ML.drop (i+1))
theorem Zis1 (h:HL) (s:narthexlaw19_Step) (J:∀n∈h.NS,FewN n) (hl:h.NS.length≤64) (hm:h.ML.length≤100000) (ha:s.Do.NE.length≤1000):
  ∃x V e,Zzr1 h s=some (x,V,e)∧(e≠0→x=Z2q1)∧(e=0→HallOK h∧Acted h s x):=by
 obtain ⟨e,hc,hk⟩:=Zgs1 h J hl (by omega);cases hs:s.ML with
 | false=>
   have e0:Zzr1 h s=(Z3a1 h s.A s.Do).bind fun x5=>some (x5.1,x5.2.1,x5.2.2):=by unfold Zzr1;rw [hs,Zia1,Zna1 _ _ (by omega) (by simp;omega),OB,List.nil_append]
   rw [e0];by_cases he:e=0
   ·subst he;have hk:=hk rfl;by_cases hA:0≤s.A∧s.A<h.NS.length
    ·by_cases hP:s.Do.KI=4→0≤s.Do.PE∧s.Do.PE<h.NS.length
     ·obtain ⟨k,rfl'⟩:∃k:Nat,s.A=k:=⟨s.A.toNat,by omega⟩
      obtain ⟨n,hn⟩:∃n,h.NS[k]?=some n:=⟨_,List.getElem?_eq_getElem (by omega)⟩
      obtain ⟨e,m,V,hr,hg⟩:=Zor1 n s.Do (J n (List.mem_iff_getElem?.2 ⟨k,hn⟩)) ha;obtain ⟨g1,g2,g3,g4⟩:=Zsr1 hg;rw [rfl',Zhq1 hk hn hP hr (by omega),OB];unfold Zgq1;split
      ·refine ⟨_,_,_,rfl,fun h=>absurd rfl h,fun _=>⟨hk,k,n,_,_,h.ML,hn,rfl,fun m hm=>?_,g3,fun _=>⟨rfl',rfl⟩,fun h=>by rw [hs] at h;simp at h⟩⟩;rw [←(hk.nodes k n hn).1];exact (g1 m hm).1
      ·rename_i h';exact ⟨_,_,_,rfl,fun _=>rfl,fun h=>absurd h h'⟩
     ·refine ⟨Z2q1,[],191,?_,fun _=>rfl,by simp⟩;unfold Z3a1;have h6:s.Do.KI=4:=Classical.byContradiction fun h=>hP fun h'=>absurd h' h;rw [hc,OB,show (!decide ((0:Int)=0))=false by decide,Zia1,Z3q1,OB,DT hA.1,DT hA.2,Bool.and_true,Bool.not_true,Zia1,DT h6,Zha1,Z3q1,OB,
       show (!(decide (0≤s.Do.PE)&&decide (s.Do.PE<(h.NS.length:Int))))=true by rw [Bool.not_eq_true',←Bool.not_eq_true];intro hh;simp at hh;exact hP fun _=>hh]
      rfl
    ·refine ⟨Z2q1,[],191,?_,fun _=>rfl,by simp⟩;unfold Z3a1;rw [hc,OB,show (!decide ((0:Int)=0))=false by decide,Zia1,Z3q1,OB,show (!(decide (0≤s.A)&&decide (s.A<(h.NS.length:Int))))=true by rw [Bool.not_eq_true',←Bool.not_eq_true];intro hh;simp at hh;exact hA hh];rfl
   ·refine ⟨Z2q1,[],e,?_,fun _=>rfl,fun h=>absurd h he⟩;unfold Z3a1;rw [hc,OB,DN he];rfl
 | true=>
   have e0:Zzr1 h s=(Z7a1 h s.A s.B).bind fun x5=>some (x5.1,x5.2.1,x5.2.2):=by unfold Zzr1;rw [hs,Zha1]
   rw [e0];by_cases he:e=0
   ·subst he;have hk:=hk rfl;by_cases hA:0≤s.A∧s.A<h.NS.length
    ·by_cases hB:0≤s.B∧s.B<h.NS.length
     ·cases hi:(h.ML.findIdx? fun m=>decide (m.From=s.A)&&decide (m.To=s.B)) with
      | none=>exact ⟨Z2q1,[],192,by rw [Zkq1 hk hA hB hi];rfl,fun _=>rfl,by simp⟩
      | some i=>
        obtain ⟨k,rfl'⟩:∃k:Nat,s.B=k:=⟨s.B.toNat,by omega⟩
        obtain ⟨n,hn⟩:∃n,h.NS[k]?=some n:=⟨_,List.getElem?_eq_getElem (by omega)⟩
        have h8:i<h.ML.length:=by rw [List.findIdx?_eq_some_iff_getElem] at hi;exact hi.1
        obtain ⟨m,hm'⟩:∃m,h.ML[i]?=some m:=⟨_,List.getElem?_eq_getElem h8⟩
        obtain ⟨e,r,V,hr,hg⟩:=Zpr1 n s.A m.Msg (J n (List.mem_iff_getElem?.2 ⟨k,hn⟩));obtain ⟨g1,g2,g3,g4⟩:=Zsr1 hg;have hi':=hi;rw [rfl'] at hi;rw [rfl',Zjq1 hk hA hn hi hm' hr (by omega),OB];unfold Zgq1;split
        ·refine ⟨_,_,_,rfl,fun h=>absurd rfl h,fun _=>⟨hk,k,n,_,_,_,hn,rfl,fun m hm=>?_,g3,fun h=>by rw [hs] at h;simp at h,fun _=>⟨rfl',i,hi',rfl⟩⟩⟩;rw [←(hk.nodes k n hn).1];exact (g1 m hm).1
        ·rename_i h';exact ⟨_,_,_,rfl,fun _=>rfl,fun h=>absurd h h'⟩
     ·refine ⟨Z2q1,[],191,?_,fun _=>rfl,by simp⟩;unfold Z7a1;rw [hc,OB,show (!decide ((0:Int)=0))=false by decide,Zia1,Z3q1,OB,DT hA.1,DT hA.2,Bool.and_true,Bool.not_true,Zia1,Z3q1,OB,show (!(decide (0≤s.B)&&decide (s.B<(h.NS.length:Int))))=true by rw [Bool.not_eq_true',←Bool.not_eq_true];intro hh;simp at hh;exact hB hh];rfl
    ·refine ⟨Z2q1,[],191,?_,fun _=>rfl,by simp⟩;unfold Z7a1;rw [hc,OB,show (!decide ((0:Int)=0))=false by decide,Zia1,Z3q1,OB,show (!(decide (0≤s.A)&&decide (s.A<(h.NS.length:Int))))=true by rw [Bool.not_eq_true',←Bool.not_eq_true];intro hh;simp at hh;exact hA hh];rfl
   ·refine ⟨Z2q1,[],e,?_,fun _=>rfl,fun h=>absurd h he⟩;unfold Z7a1;rw [hc,OB,DN he];rfl
theorem Zjs1 (h x:HL) (k:Nat) (M L:List ML) (hx:x.ML=M++L) (U:x.NS.length=h.NS.length) (J:∀m∈L,m.From=k) (hM:M.length≤100000) (hl:L.length≤100000):Z5s1 h x k M ()=some true:=by
 dsimp only [Z5s1];have h8:x.ML.length=M.length+L.length:=by rw [hx,List.length_append]
 refine Zcb1 x.ML.length _ (fun i=>(i:Int)) true (fun i hi=>?_) ?_
 ·obtain ⟨m,hm⟩:∃m,x.ML[i]?=some m:=⟨_,List.getElem?_eq_getElem hi⟩
  dsimp only [Z4s1,Z3s1];rw [Zoa1 hm,Zha1,ln_eq];by_cases h1:i<M.length
  ·have h6:M[i]?=some m:=by rw [hx,List.getElem?_append_left h1] at hm;exact hm
   rw [DT (by omega),Zha1,Zla1 hm,OB,Zla1 h6,OB,DN (p:=(M.length:Int)≤i) (by omega)];simp only [decide_true,Bool.and_true,Bool.not_true,Zia1];rw [Zqa1 (by omega)]
  ·have h6:m∈L:=by rw [hx,List.getElem?_append_right (by omega)] at hm;exact List.mem_iff_getElem?.2 ⟨_,hm⟩
   rw [DN (by omega),Zia1,DT (p:=(M.length:Int)≤i) (by omega),Zha1,Zla1 hm,OB,DT (J m h6),Bool.not_true,Zia1,Zqa1 (by omega)]
 ·dsimp only [Z4s1,Z2s1,Z1s1];rw [Zpa1,Zia1,ln_eq,ln_eq,ln_eq,ln_eq,DT (by omega),Zha1,DT (by omega)];rfl
theorem Zks1 (h x:HL) (k:Nat) (J:NO) (M L:List ML) (Y:∀n∈h.NS,FewN n) (hl:h.NS.length≤64) (hx:x=⟨h.NS.set k J,M++L⟩) (U:∀m∈L,m.From=k) (hM:M.length≤100000) (h6:L.length≤100000):Z8s1 h x (k,M)=some true:=by
 dsimp only [Z8s1];have hn:x.NS=h.NS.set k J:=by rw [hx]
 have h8:x.NS.length=h.NS.length:=by rw [hn,List.length_set]
 refine Zcb1 h.NS.length _ (fun i=>(i:Int)) true (fun i hi=>?_) ?_
 ·obtain ⟨a,ha⟩:∃a,h.NS[i]?=some a:=⟨_,List.getElem?_eq_getElem hi⟩
  dsimp only [Z7s1,Z6s1];rw [Zoa1 ha,Zha1,ln_eq,DN (p:=(x.NS.length:Int)≤i) (by omega),Zia1];by_cases h1:i=k
  ·rw [DT (by omega),Bool.not_true,Zia1,Zia1,Zqa1 (by omega)]
  ·have hb:x.NS[i]?=some a:=by rw [hn,List.getElem?_set_ne (fun e=>h1 e.symm)];exact ha
   rw [DN (p:=(i:Int)=(k:Int)) (by omega),Bool.not_false,Zha1,Zla1 ha,OB,Zla1 hb,OB,Znp1 a a (Y a (List.mem_iff_getElem?.2 ⟨i,ha⟩)),OB,DT rfl,Bool.not_true,Zia1,Zqa1 (by omega)]
 ·dsimp only [Z7s1];rw [Zpa1,Zia1,Zjs1 h x k M L (by rw [hx]) h8 U hM h6];rfl
theorem Zls1 (h x:HL) (s:narthexlaw19_Step) (l:List ML) (hl:l.length≤100000) (i:Nat) (hi:(l.findIdx? fun m=>decide (m.From=s.A)&&decide (m.To=s.B))=some i):
  loop (Zbs1 h s x l) 0=Z9s1 h s x l i:=by
 rw [List.findIdx?_eq_some_iff_getElem] at hi;obtain ⟨h6,hp,hq⟩:=hi;have key:∀d (k:Nat),k+d=i→loop (Zbs1 h s x l) (k:Int)=Z9s1 h s x l i:=by
  intro d;induction d with
  | zero=>
    intro k hk;have hg:l[k]?=some l[i]:=by rw [show k=i by omega];exact List.getElem?_eq_getElem h6
    simp only [Bool.and_eq_true,decide_eq_true_eq] at hp;rw [Zdc];dsimp only [Zbs1,Zas1];rw [Zoa1 hg,Zha1,Zla1 hg,OB,DT hp.1,Bool.not_true,Zia1,DT hp.2,Bool.not_true,Zia1,show k=i by omega];cases Z9s1 h s x l i<;>rfl
  | succ d ih=>
    intro k hk;have h8:k<l.length:=by omega
    have hg:l[k]?=some l[k]:=List.getElem?_eq_getElem h8;have hn:=hq k (by omega);rw [Zdc];dsimp only [Zbs1,Zas1];rw [Zoa1 hg,Zha1,Zla1 hg,OB];by_cases h1:l[k].From=s.A
    ·have h2:¬l[k].To=s.B:=fun h2=>by simp [h1,h2] at hn
     rw [DT h1,Bool.not_true,Zia1,DN h2,Bool.not_false,Zha1,Zqa1 (by omega)];exact ih (k+1) (by omega)
    ·rw [DN h1,Bool.not_false,Zha1,Zha1,Zqa1 (by omega)];exact ih (k+1) (by omega)
 exact key i 0 (by omega)
theorem Zms1 (h:HL) (s:narthexlaw19_Step):Zes1 h s=some true:=by
 have j1t:Zds1 h s true=some true:=by dsimp only [Zds1];rw [Zha1,Z4r1];rfl
 obtain ⟨z,hz,hF⟩:=Zhs1 h;unfold Zes1;rw [Z4r1,OB,Bool.not_true,Zia1,hz,OB,j1t];cases z with
 | false=>rfl
 | true=>
   obtain ⟨hf,hl,hm⟩:=hF rfl;rw [Bool.not_true,Zia1,ln_eq];by_cases ha:(70:Int)<s.Do.NE.length
   ·rw [DT ha];exact j1t
   ·rw [DN ha];obtain ⟨x,V,e,hx,h0,h1⟩:=Zis1 h s hf (by omega) (by omega) (by omega);dsimp only [Zds1];rw [Zia1,Z5q1 h hf (by omega) (by omega),OB,hx,OB];dsimp only [Zcs1];by_cases he:e=0
    ·obtain ⟨hk,k,n,n',L,M,hn,ex,hL,h6,hA,hB⟩:=h1 he;rw [DT he,Bool.not_true,Zia1,Zna1 _ _ (by omega) (by simp;omega),OB,List.nil_append];cases hs:s.ML with
     | false=>obtain ⟨a1,a2⟩:=hA hs;rw [Zia1,a1];exact Zks1 h x k n' h.ML L hf (by omega) (by rw [ex,a2]) hL (by omega) (by omega)
     | true=>
       obtain ⟨b1,i,hi,b2⟩:=hB hs;rw [Zha1,Zls1 h x s h.ML (by omega) i hi];have h8:i<h.ML.length:=by rw [List.findIdx?_eq_some_iff_getElem] at hi;exact hi.1
       dsimp only [Z9s1];have hd:Z1k 40 h.ML (i:Int)=some (h.ML.take i++h.ML.drop (i+1)):=by unfold Z1k;rw [if_pos ⟨by omega,by omega,by omega,by omega⟩];rfl
       rw [ln_eq,DN (by omega),Zia1,hd,OB,b1];exact Zks1 h x k n' _ L hf (by omega) (by rw [ex,b2]) hL (by simp;omega) (by omega)
    ·rw [DN he,Bool.not_false,Zha1,h0 he,show (⟨[],[]⟩:HL)=Z2q1 from rfl,Z6q1 Z2q1 (by simp [Z2q1]) (by simp [Z2q1]) (by simp [Z2q1])];rfl
end
end NX
end Go.Proofs.YtgamgemlekpepaaGreat
namespace Go.Proofs.YtgamgemlekpepaaGreat
namespace NX
open Go Go.ChangeShapes Go.WideShapes Go.ChangeAt Go.RowKit
theorem Zns1:Opn Tryz.prog 112 SX.row:=by
 intro H enc w base sp h6 fuel cs x h;obtain ⟨xs,n,_,_,hl,h8,hf⟩:=DataW.trod_struct Tryz.underlying112 h;rw [show Tryz.prog.cellsOf 112=8 from by kernel_rfl] at hl;have c0:DataW.trod enc Tryz.prog w base sp h6 n 3 ((cs.drop 0).take (Tryz.prog.cellsOf 3))=xs[0]?:=hf 0 _ rfl;rw [show Tryz.prog.cellsOf 3=1 from by kernel_rfl] at c0;have h9:0<xs.length:=by rw [h8];decide
 obtain ⟨y0,hC⟩:∃y,xs[0]?=some y:=⟨_,List.getElem?_eq_getElem h9⟩
 obtain ⟨v0,k0⟩:=(Z0g Tryz.underlying3) enc w _ _ _ _ _ _ (c0.trans hC);have c1:DataW.trod enc Tryz.prog w base sp h6 n 3 ((cs.drop 1).take (Tryz.prog.cellsOf 3))=xs[1]?:=hf 1 _ rfl;rw [show Tryz.prog.cellsOf 3=1 from by kernel_rfl] at c1;have hc:1<xs.length:=by rw [h8];decide
 obtain ⟨y1,hy1⟩:∃y,xs[1]?=some y:=⟨_,List.getElem?_eq_getElem hc⟩
 obtain ⟨v1,k1⟩:=(Z0g Tryz.underlying3) enc w _ _ _ _ _ _ (c1.trans hy1);have c2:DataW.trod enc Tryz.prog w base sp h6 n 110 ((cs.drop 2).take (Tryz.prog.cellsOf 110))=xs[2]?:=hf 2 _ rfl;rw [show Tryz.prog.cellsOf 110=1 from by kernel_rfl] at c2;have hd:2<xs.length:=by rw [h8];decide
 obtain ⟨y2,hD⟩:∃y,xs[2]?=some y:=⟨_,List.getElem?_eq_getElem hd⟩
 obtain ⟨v2,k2⟩:=(Z0g Tryz.underlying110) enc w _ _ _ _ _ _ (c2.trans hD);have c3:DataW.trod enc Tryz.prog w base sp h6 n 4 ((cs.drop 3).take (Tryz.prog.cellsOf 4))=xs[3]?:=hf 3 _ rfl;rw [show Tryz.prog.cellsOf 4=1 from by kernel_rfl] at c3;have hn:3<xs.length:=by rw [h8];decide
 obtain ⟨y3,hE⟩:∃y,xs[3]?=some y:=⟨_,List.getElem?_eq_getElem hn⟩
 obtain ⟨v3,k3⟩:=(Z1g Tryz.underlying4) enc w _ _ _ _ _ _ (c3.trans hE);have c4:DataW.trod enc Tryz.prog w base sp h6 n 4 ((cs.drop 4).take (Tryz.prog.cellsOf 4))=xs[4]?:=hf 4 _ rfl;rw [show Tryz.prog.cellsOf 4=1 from by kernel_rfl] at c4;have ho:4<xs.length:=by rw [h8];decide
 obtain ⟨y4,hG⟩:∃y,xs[4]?=some y:=⟨_,List.getElem?_eq_getElem ho⟩
 obtain ⟨v4,k4⟩:=(Z1g Tryz.underlying4) enc w _ _ _ _ _ _ (c4.trans hG);have c5:DataW.trod enc Tryz.prog w base sp h6 n 4 ((cs.drop 5).take (Tryz.prog.cellsOf 4))=xs[5]?:=hf 5 _ rfl;rw [show Tryz.prog.cellsOf 4=1 from by kernel_rfl] at c5;have hw:5<xs.length:=by rw [h8];decide
 obtain ⟨y5,hI⟩:∃y,xs[5]?=some y:=⟨_,List.getElem?_eq_getElem hw⟩
 obtain ⟨v5,k5⟩:=(Z1g Tryz.underlying4) enc w _ _ _ _ _ _ (c5.trans hI);have c6:DataW.trod enc Tryz.prog w base sp h6 n 4 ((cs.drop 6).take (Tryz.prog.cellsOf 4))=xs[6]?:=hf 6 _ rfl;rw [show Tryz.prog.cellsOf 4=1 from by kernel_rfl] at c6;have hA:6<xs.length:=by rw [h8];decide
 obtain ⟨y6,hJ⟩:∃y,xs[6]?=some y:=⟨_,List.getElem?_eq_getElem hA⟩
 obtain ⟨v6,k6⟩:=(Z1g Tryz.underlying4) enc w _ _ _ _ _ _ (c6.trans hJ);have c7:DataW.trod enc Tryz.prog w base sp h6 n 4 ((cs.drop 7).take (Tryz.prog.cellsOf 4))=xs[7]?:=hf 7 _ rfl;rw [show Tryz.prog.cellsOf 4=1 from by kernel_rfl] at c7;have hB:7<xs.length:=by rw [h8];decide
 obtain ⟨y7,hK⟩:∃y,xs[7]?=some y:=⟨_,List.getElem?_eq_getElem hB⟩
 obtain ⟨v7,k7⟩:=(Z1g Tryz.underlying4) enc w _ _ _ _ _ _ (c7.trans hK);have e:cs=(cs.drop 0).take 1++(cs.drop 1).take 1++(cs.drop 2).take 1++(cs.drop 3).take 1++(cs.drop 4).take 1++(cs.drop 5).take 1++(cs.drop 6).take 1++(cs.drop 7).take 1:=by
  match cs,hl with
  | [a0,a1,a2,a3,a4,a5,a6,a7],_=>rfl
 rw [e];exact ⟨⟨v0,v1,v2,v3,v4,v5,v6,v7⟩,(Zh2 (Zh2 (Zh2 (Zh2 (Zh2 (Zh2 (Zh2 k0 k1) k2) k3) k4) k5) k6) k7)⟩
theorem Zos1:Opn Tryz.prog 56 (Z8d 8 SX.row):=Z4g (n:=8) (row:=SX.row) Tryz.underlying56 (by kernel_rfl) (by decide) (fun _=>⟨rfl,rfl,rfl⟩) Zns1
theorem Zps1:Opn Tryz.prog 58 DI.row:=by
 intro H enc w base sp h6 fuel cs x h;obtain ⟨xs,n,_,_,hl,h8,hf⟩:=DataW.trod_struct Tryz.underlying58 h;rw [show Tryz.prog.cellsOf 58=3 from by kernel_rfl] at hl;have c0:DataW.trod enc Tryz.prog w base sp h6 n 3 ((cs.drop 0).take (Tryz.prog.cellsOf 3))=xs[0]?:=hf 0 _ rfl;rw [show Tryz.prog.cellsOf 3=1 from by kernel_rfl] at c0;have h9:0<xs.length:=by rw [h8];decide
 obtain ⟨y0,hn⟩:∃y,xs[0]?=some y:=⟨_,List.getElem?_eq_getElem h9⟩
 obtain ⟨v0,k0⟩:=(Z0g Tryz.underlying3) enc w _ _ _ _ _ _ (c0.trans hn);have c1:DataW.trod enc Tryz.prog w base sp h6 n 55 ((cs.drop 1).take (Tryz.prog.cellsOf 55))=xs[1]?:=hf 1 _ rfl;rw [show Tryz.prog.cellsOf 55=1 from by kernel_rfl] at c1;have hc:1<xs.length:=by rw [h8];decide
 obtain ⟨y1,hy1⟩:∃y,xs[1]?=some y:=⟨_,List.getElem?_eq_getElem hc⟩
 obtain ⟨v1,k1⟩:=(Z0g Tryz.underlying55) enc w _ _ _ _ _ _ (c1.trans hy1);have c2:DataW.trod enc Tryz.prog w base sp h6 n 56 ((cs.drop 2).take (Tryz.prog.cellsOf 56))=xs[2]?:=hf 2 _ rfl;rw [show Tryz.prog.cellsOf 56=1 from by kernel_rfl] at c2;have hd:2<xs.length:=by rw [h8];decide
 obtain ⟨y2,ho⟩:∃y,xs[2]?=some y:=⟨_,List.getElem?_eq_getElem hd⟩
 obtain ⟨v2,k2⟩:=Zos1 enc w _ _ _ _ _ _ (c2.trans ho);have e:cs=(cs.drop 0).take 1++(cs.drop 1).take 1++(cs.drop 2).take 1:=by
  match cs,hl with
  | [a0,a1,a2],_=>rfl
 rw [e];exact ⟨⟨v0,v1,v2⟩,(Zh2 (Zh2 k0 k1) k2)⟩
theorem Zqs1:Opn Tryz.prog 40 (Z8d 1 Z4d):=Z4g (n:=1) (row:=Z4d) Tryz.underlying40 (by kernel_rfl) (by decide) (fun _=>⟨rfl,rfl,rfl⟩) (Z0g Tryz.underlying3)
theorem Zrs1:Opn Tryz.prog 61 DK.row:=by
 intro H enc w base sp h6 fuel cs x h;obtain ⟨xs,n,_,_,hl,h8,hf⟩:=DataW.trod_struct Tryz.underlying61 h;rw [show Tryz.prog.cellsOf 61=5 from by kernel_rfl] at hl;have c0:DataW.trod enc Tryz.prog w base sp h6 n 58 ((cs.drop 0).take (Tryz.prog.cellsOf 58))=xs[0]?:=hf 0 _ rfl;rw [show Tryz.prog.cellsOf 58=3 from by kernel_rfl] at c0;have h9:0<xs.length:=by rw [h8];decide
 obtain ⟨y0,hn⟩:∃y,xs[0]?=some y:=⟨_,List.getElem?_eq_getElem h9⟩
 obtain ⟨v0,k0⟩:=Zps1 enc w _ _ _ _ _ _ (c0.trans hn);have c1:DataW.trod enc Tryz.prog w base sp h6 n 59 ((cs.drop 3).take (Tryz.prog.cellsOf 59))=xs[1]?:=hf 1 _ rfl;rw [show Tryz.prog.cellsOf 59=1 from by kernel_rfl] at c1;have hc:1<xs.length:=by rw [h8];decide
 obtain ⟨y1,hy1⟩:∃y,xs[1]?=some y:=⟨_,List.getElem?_eq_getElem hc⟩
 obtain ⟨v1,k1⟩:=(Z0g Tryz.underlying59) enc w _ _ _ _ _ _ (c1.trans hy1);have c2:DataW.trod enc Tryz.prog w base sp h6 n 40 ((cs.drop 4).take (Tryz.prog.cellsOf 40))=xs[2]?:=hf 2 _ rfl;rw [show Tryz.prog.cellsOf 40=1 from by kernel_rfl] at c2;have hd:2<xs.length:=by rw [h8];decide
 obtain ⟨y2,ho⟩:∃y,xs[2]?=some y:=⟨_,List.getElem?_eq_getElem hd⟩
 obtain ⟨v2,k2⟩:=Zqs1 enc w _ _ _ _ _ _ (c2.trans ho);have e:cs=(cs.drop 0).take 3++(cs.drop 3).take 1++(cs.drop 4).take 1:=by
  match cs,hl with
  | [a0,a1,a2,a3,a4],_=>rfl
 rw [e];exact ⟨⟨v0,v1,v2⟩,(Zh2 (Zh2 k0 k1) k2)⟩
theorem Zss1:Opn Tryz.prog 131 SE.row:=by
 intro H enc w base sp h6 fuel cs x h;obtain ⟨xs,n,_,_,hl,h8,hf⟩:=DataW.trod_struct Tryz.underlying131 h;rw [show Tryz.prog.cellsOf 131=4 from by kernel_rfl] at hl;have c0:DataW.trod enc Tryz.prog w base sp h6 n 3 ((cs.drop 0).take (Tryz.prog.cellsOf 3))=xs[0]?:=hf 0 _ rfl;rw [show Tryz.prog.cellsOf 3=1 from by kernel_rfl] at c0;have h9:0<xs.length:=by rw [h8];decide
 obtain ⟨y0,ho⟩:∃y,xs[0]?=some y:=⟨_,List.getElem?_eq_getElem h9⟩
 obtain ⟨v0,k0⟩:=(Z0g Tryz.underlying3) enc w _ _ _ _ _ _ (c0.trans ho);have c1:DataW.trod enc Tryz.prog w base sp h6 n 40 ((cs.drop 1).take (Tryz.prog.cellsOf 40))=xs[1]?:=hf 1 _ rfl;rw [show Tryz.prog.cellsOf 40=1 from by kernel_rfl] at c1;have hc:1<xs.length:=by rw [h8];decide
 obtain ⟨y1,hy1⟩:∃y,xs[1]?=some y:=⟨_,List.getElem?_eq_getElem hc⟩
 obtain ⟨v1,k1⟩:=Zqs1 enc w _ _ _ _ _ _ (c1.trans hy1);have c2:DataW.trod enc Tryz.prog w base sp h6 n 129 ((cs.drop 2).take (Tryz.prog.cellsOf 129))=xs[2]?:=hf 2 _ rfl;rw [show Tryz.prog.cellsOf 129=1 from by kernel_rfl] at c2;have hd:2<xs.length:=by rw [h8];decide
 obtain ⟨y2,hw⟩:∃y,xs[2]?=some y:=⟨_,List.getElem?_eq_getElem hd⟩
 obtain ⟨v2,k2⟩:=(Z0g Tryz.underlying129) enc w _ _ _ _ _ _ (c2.trans hw);have c3:DataW.trod enc Tryz.prog w base sp h6 n 3 ((cs.drop 3).take (Tryz.prog.cellsOf 3))=xs[3]?:=hf 3 _ rfl;rw [show Tryz.prog.cellsOf 3=1 from by kernel_rfl] at c3;have hn:3<xs.length:=by rw [h8];decide
 obtain ⟨y3,hA⟩:∃y,xs[3]?=some y:=⟨_,List.getElem?_eq_getElem hn⟩
 obtain ⟨v3,k3⟩:=(Z0g Tryz.underlying3) enc w _ _ _ _ _ _ (c3.trans hA);have e:cs=(cs.drop 0).take 1++(cs.drop 1).take 1++(cs.drop 2).take 1++(cs.drop 3).take 1:=by
  match cs,hl with
  | [a0,a1,a2,a3],_=>rfl
 rw [e];exact ⟨⟨v0,v1,v2,v3⟩,(Zh2 (Zh2 (Zh2 k0 k1) k2) k3)⟩
theorem Zts1:Opn Tryz.prog 62 (Z8d 4 SE.row):=Z4g (n:=4) (row:=SE.row) Tryz.underlying62 (by kernel_rfl) (by decide) (fun _=>⟨rfl,rfl,rfl⟩) Zss1
theorem Zus1:Opn Tryz.prog 64 BK.row:=by
 intro H enc w base sp h6 fuel cs x h;obtain ⟨xs,n,_,_,hl,h8,hf⟩:=DataW.trod_struct Tryz.underlying64 h;rw [show Tryz.prog.cellsOf 64=2 from by kernel_rfl] at hl;have c0:DataW.trod enc Tryz.prog w base sp h6 n 3 ((cs.drop 0).take (Tryz.prog.cellsOf 3))=xs[0]?:=hf 0 _ rfl;rw [show Tryz.prog.cellsOf 3=1 from by kernel_rfl] at c0;have h9:0<xs.length:=by rw [h8];decide
 obtain ⟨y0,hd⟩:∃y,xs[0]?=some y:=⟨_,List.getElem?_eq_getElem h9⟩
 obtain ⟨v0,k0⟩:=(Z0g Tryz.underlying3) enc w _ _ _ _ _ _ (c0.trans hd);have c1:DataW.trod enc Tryz.prog w base sp h6 n 62 ((cs.drop 1).take (Tryz.prog.cellsOf 62))=xs[1]?:=hf 1 _ rfl;rw [show Tryz.prog.cellsOf 62=1 from by kernel_rfl] at c1;have hc:1<xs.length:=by rw [h8];decide
 obtain ⟨y1,hy1⟩:∃y,xs[1]?=some y:=⟨_,List.getElem?_eq_getElem hc⟩
 obtain ⟨v1,k1⟩:=Zts1 enc w _ _ _ _ _ _ (c1.trans hy1);have e:cs=(cs.drop 0).take 1++(cs.drop 1).take 1:=by
  match cs,hl with
  | [a0,a1],_=>rfl
 rw [e];exact ⟨⟨v0,v1⟩,(Zh2 k0 k1)⟩
theorem Zvs1:Opn Tryz.prog 121 KE.row:=by
 intro H enc w base sp h6 fuel cs x h;obtain ⟨xs,n,_,_,hl,h8,hf⟩:=DataW.trod_struct Tryz.underlying121 h;rw [show Tryz.prog.cellsOf 121=2 from by kernel_rfl] at hl;have c0:DataW.trod enc Tryz.prog w base sp h6 n 3 ((cs.drop 0).take (Tryz.prog.cellsOf 3))=xs[0]?:=hf 0 _ rfl;rw [show Tryz.prog.cellsOf 3=1 from by kernel_rfl] at c0;have h9:0<xs.length:=by rw [h8];decide
 obtain ⟨y0,hd⟩:∃y,xs[0]?=some y:=⟨_,List.getElem?_eq_getElem h9⟩
 obtain ⟨v0,k0⟩:=(Z0g Tryz.underlying3) enc w _ _ _ _ _ _ (c0.trans hd);have c1:DataW.trod enc Tryz.prog w base sp h6 n 3 ((cs.drop 1).take (Tryz.prog.cellsOf 3))=xs[1]?:=hf 1 _ rfl;rw [show Tryz.prog.cellsOf 3=1 from by kernel_rfl] at c1;have hc:1<xs.length:=by rw [h8];decide
 obtain ⟨y1,hy1⟩:∃y,xs[1]?=some y:=⟨_,List.getElem?_eq_getElem hc⟩
 obtain ⟨v1,k1⟩:=(Z0g Tryz.underlying3) enc w _ _ _ _ _ _ (c1.trans hy1);have e:cs=(cs.drop 0).take 1++(cs.drop 1).take 1:=by
  match cs,hl with
  | [a0,a1],_=>rfl
 rw [e];exact ⟨⟨v0,v1⟩,(Zh2 k0 k1)⟩
theorem Zws1:Opn Tryz.prog 65 (Z8d 2 KE.row):=Z4g (n:=2) (row:=KE.row) Tryz.underlying65 (by kernel_rfl) (by decide) (fun _=>⟨rfl,rfl,rfl⟩) Zvs1
theorem Zxs1:Opn Tryz.prog 67 NO.row:=by
 intro H enc w base sp h6 fuel cs x h;obtain ⟨xs,n,_,_,hl,h8,hf⟩:=DataW.trod_struct Tryz.underlying67 h;rw [show Tryz.prog.cellsOf 67=10 from by kernel_rfl] at hl;have c0:DataW.trod enc Tryz.prog w base sp h6 n 61 ((cs.drop 0).take (Tryz.prog.cellsOf 61))=xs[0]?:=hf 0 _ rfl;rw [show Tryz.prog.cellsOf 61=5 from by kernel_rfl] at c0;have h9:0<xs.length:=by rw [h8];decide
 obtain ⟨y0,hw⟩:∃y,xs[0]?=some y:=⟨_,List.getElem?_eq_getElem h9⟩
 obtain ⟨v0,k0⟩:=Zrs1 enc w _ _ _ _ _ _ (c0.trans hw);have c1:DataW.trod enc Tryz.prog w base sp h6 n 64 ((cs.drop 5).take (Tryz.prog.cellsOf 64))=xs[1]?:=hf 1 _ rfl;rw [show Tryz.prog.cellsOf 64=2 from by kernel_rfl] at c1;have hc:1<xs.length:=by rw [h8];decide
 obtain ⟨y1,hy1⟩:∃y,xs[1]?=some y:=⟨_,List.getElem?_eq_getElem hc⟩
 obtain ⟨v1,k1⟩:=Zus1 enc w _ _ _ _ _ _ (c1.trans hy1);have c2:DataW.trod enc Tryz.prog w base sp h6 n 65 ((cs.drop 7).take (Tryz.prog.cellsOf 65))=xs[2]?:=hf 2 _ rfl;rw [show Tryz.prog.cellsOf 65=1 from by kernel_rfl] at c2;have hd:2<xs.length:=by rw [h8];decide
 obtain ⟨y2,hA⟩:∃y,xs[2]?=some y:=⟨_,List.getElem?_eq_getElem hd⟩
 obtain ⟨v2,k2⟩:=Zws1 enc w _ _ _ _ _ _ (c2.trans hA);have c3:DataW.trod enc Tryz.prog w base sp h6 n 40 ((cs.drop 8).take (Tryz.prog.cellsOf 40))=xs[3]?:=hf 3 _ rfl;rw [show Tryz.prog.cellsOf 40=1 from by kernel_rfl] at c3;have hn:3<xs.length:=by rw [h8];decide
 obtain ⟨y3,hB⟩:∃y,xs[3]?=some y:=⟨_,List.getElem?_eq_getElem hn⟩
 obtain ⟨v3,k3⟩:=Zqs1 enc w _ _ _ _ _ _ (c3.trans hB);have c4:DataW.trod enc Tryz.prog w base sp h6 n 65 ((cs.drop 9).take (Tryz.prog.cellsOf 65))=xs[4]?:=hf 4 _ rfl;rw [show Tryz.prog.cellsOf 65=1 from by kernel_rfl] at c4;have ho:4<xs.length:=by rw [h8];decide
 obtain ⟨y4,hC⟩:∃y,xs[4]?=some y:=⟨_,List.getElem?_eq_getElem ho⟩
 obtain ⟨v4,k4⟩:=Zws1 enc w _ _ _ _ _ _ (c4.trans hC);have e:cs=(cs.drop 0).take 5++(cs.drop 5).take 2++(cs.drop 7).take 1++(cs.drop 8).take 1++(cs.drop 9).take 1:=by
  match cs,hl with
  | [a0,a1,a2,a3,a4,a5,a6,a7,a8,a9],_=>rfl
 rw [e];exact ⟨⟨v0,v1,v2,v3,v4⟩,(Zh2 (Zh2 (Zh2 (Zh2 k0 k1) k2) k3) k4)⟩
theorem Zys1:Opn Tryz.prog 26 (Z8d 10 NO.row):=Z4g (n:=10) (row:=NO.row) Tryz.underlying26 (by kernel_rfl) (by decide) (fun _=>⟨rfl,rfl,rfl⟩) Zxs1
theorem Zzs1:Opn Tryz.prog 51 Msg.row:=by
 intro H enc w base sp h6 fuel cs x h;obtain ⟨xs,n,_,_,hl,h8,hf⟩:=DataW.trod_struct Tryz.underlying51 h;rw [show Tryz.prog.cellsOf 51=3 from by kernel_rfl] at hl;have c0:DataW.trod enc Tryz.prog w base sp h6 n 49 ((cs.drop 0).take (Tryz.prog.cellsOf 49))=xs[0]?:=hf 0 _ rfl;rw [show Tryz.prog.cellsOf 49=1 from by kernel_rfl] at c0;have h9:0<xs.length:=by rw [h8];decide
 obtain ⟨y0,hn⟩:∃y,xs[0]?=some y:=⟨_,List.getElem?_eq_getElem h9⟩
 obtain ⟨v0,k0⟩:=(Z0g Tryz.underlying49) enc w _ _ _ _ _ _ (c0.trans hn);have c1:DataW.trod enc Tryz.prog w base sp h6 n 3 ((cs.drop 1).take (Tryz.prog.cellsOf 3))=xs[1]?:=hf 1 _ rfl;rw [show Tryz.prog.cellsOf 3=1 from by kernel_rfl] at c1;have hc:1<xs.length:=by rw [h8];decide
 obtain ⟨y1,hy1⟩:∃y,xs[1]?=some y:=⟨_,List.getElem?_eq_getElem hc⟩
 obtain ⟨v1,k1⟩:=(Z0g Tryz.underlying3) enc w _ _ _ _ _ _ (c1.trans hy1);have c2:DataW.trod enc Tryz.prog w base sp h6 n 3 ((cs.drop 2).take (Tryz.prog.cellsOf 3))=xs[2]?:=hf 2 _ rfl;rw [show Tryz.prog.cellsOf 3=1 from by kernel_rfl] at c2;have hd:2<xs.length:=by rw [h8];decide
 obtain ⟨y2,ho⟩:∃y,xs[2]?=some y:=⟨_,List.getElem?_eq_getElem hd⟩
 obtain ⟨v2,k2⟩:=(Z0g Tryz.underlying3) enc w _ _ _ _ _ _ (c2.trans ho);have e:cs=(cs.drop 0).take 1++(cs.drop 1).take 1++(cs.drop 2).take 1:=by
  match cs,hl with
  | [a0,a1,a2],_=>rfl
 rw [e];exact ⟨⟨v0,v1,v2⟩,(Zh2 (Zh2 k0 k1) k2)⟩
theorem Z0t1:Opn Tryz.prog 53 ML.row:=by
 intro H enc w base sp h6 fuel cs x h;obtain ⟨xs,n,_,_,hl,h8,hf⟩:=DataW.trod_struct Tryz.underlying53 h;rw [show Tryz.prog.cellsOf 53=5 from by kernel_rfl] at hl;have c0:DataW.trod enc Tryz.prog w base sp h6 n 3 ((cs.drop 0).take (Tryz.prog.cellsOf 3))=xs[0]?:=hf 0 _ rfl;rw [show Tryz.prog.cellsOf 3=1 from by kernel_rfl] at c0;have h9:0<xs.length:=by rw [h8];decide
 obtain ⟨y0,hn⟩:∃y,xs[0]?=some y:=⟨_,List.getElem?_eq_getElem h9⟩
 obtain ⟨v0,k0⟩:=(Z0g Tryz.underlying3) enc w _ _ _ _ _ _ (c0.trans hn);have c1:DataW.trod enc Tryz.prog w base sp h6 n 3 ((cs.drop 1).take (Tryz.prog.cellsOf 3))=xs[1]?:=hf 1 _ rfl;rw [show Tryz.prog.cellsOf 3=1 from by kernel_rfl] at c1;have hc:1<xs.length:=by rw [h8];decide
 obtain ⟨y1,hy1⟩:∃y,xs[1]?=some y:=⟨_,List.getElem?_eq_getElem hc⟩
 obtain ⟨v1,k1⟩:=(Z0g Tryz.underlying3) enc w _ _ _ _ _ _ (c1.trans hy1);have c2:DataW.trod enc Tryz.prog w base sp h6 n 51 ((cs.drop 2).take (Tryz.prog.cellsOf 51))=xs[2]?:=hf 2 _ rfl;rw [show Tryz.prog.cellsOf 51=3 from by kernel_rfl] at c2;have hd:2<xs.length:=by rw [h8];decide
 obtain ⟨y2,ho⟩:∃y,xs[2]?=some y:=⟨_,List.getElem?_eq_getElem hd⟩
 obtain ⟨v2,k2⟩:=Zzs1 enc w _ _ _ _ _ _ (c2.trans ho);have e:cs=(cs.drop 0).take 1++(cs.drop 1).take 1++(cs.drop 2).take 3:=by
  match cs,hl with
  | [a0,a1,a2,a3,a4],_=>rfl
 rw [e];exact ⟨⟨v0,v1,v2⟩,(Zh2 (Zh2 k0 k1) k2)⟩
theorem Z1t1:Opn Tryz.prog 27 (Z8d 5 ML.row):=Z4g (n:=5) (row:=ML.row) Tryz.underlying27 (by kernel_rfl) (by decide) (fun _=>⟨rfl,rfl,rfl⟩) Z0t1
theorem Z2t1:Opn Tryz.prog 29 HL.row:=by
 intro H enc w base sp h6 fuel cs x h;obtain ⟨xs,n,_,_,hl,h8,hf⟩:=DataW.trod_struct Tryz.underlying29 h;rw [show Tryz.prog.cellsOf 29=2 from by kernel_rfl] at hl;have c0:DataW.trod enc Tryz.prog w base sp h6 n 26 ((cs.drop 0).take (Tryz.prog.cellsOf 26))=xs[0]?:=hf 0 _ rfl;rw [show Tryz.prog.cellsOf 26=1 from by kernel_rfl] at c0;have h9:0<xs.length:=by rw [h8];decide
 obtain ⟨y0,hd⟩:∃y,xs[0]?=some y:=⟨_,List.getElem?_eq_getElem h9⟩
 obtain ⟨v0,k0⟩:=Zys1 enc w _ _ _ _ _ _ (c0.trans hd);have c1:DataW.trod enc Tryz.prog w base sp h6 n 27 ((cs.drop 1).take (Tryz.prog.cellsOf 27))=xs[1]?:=hf 1 _ rfl;rw [show Tryz.prog.cellsOf 27=1 from by kernel_rfl] at c1;have hc:1<xs.length:=by rw [h8];decide
 obtain ⟨y1,hy1⟩:∃y,xs[1]?=some y:=⟨_,List.getElem?_eq_getElem hc⟩
 obtain ⟨v1,k1⟩:=Z1t1 enc w _ _ _ _ _ _ (c1.trans hy1);have e:cs=(cs.drop 0).take 1++(cs.drop 1).take 1:=by
  match cs,hl with
  | [a0,a1],_=>rfl
 rw [e];exact ⟨⟨v0,v1⟩,(Zh2 k0 k1)⟩
theorem Z3t1:Opn Tryz.prog 42 Do.row:=by
 intro H enc w base sp h6 fuel cs x h;obtain ⟨xs,n,_,_,hl,h8,hf⟩:=DataW.trod_struct Tryz.underlying42 h;rw [show Tryz.prog.cellsOf 42=5 from by kernel_rfl] at hl;have c0:DataW.trod enc Tryz.prog w base sp h6 n 39 ((cs.drop 0).take (Tryz.prog.cellsOf 39))=xs[0]?:=hf 0 _ rfl;rw [show Tryz.prog.cellsOf 39=1 from by kernel_rfl] at c0;have h9:0<xs.length:=by rw [h8];decide
 obtain ⟨y0,hw⟩:∃y,xs[0]?=some y:=⟨_,List.getElem?_eq_getElem h9⟩
 obtain ⟨v0,k0⟩:=(Z0g Tryz.underlying39) enc w _ _ _ _ _ _ (c0.trans hw);have c1:DataW.trod enc Tryz.prog w base sp h6 n 3 ((cs.drop 1).take (Tryz.prog.cellsOf 3))=xs[1]?:=hf 1 _ rfl;rw [show Tryz.prog.cellsOf 3=1 from by kernel_rfl] at c1;have hc:1<xs.length:=by rw [h8];decide
 obtain ⟨y1,hy1⟩:∃y,xs[1]?=some y:=⟨_,List.getElem?_eq_getElem hc⟩
 obtain ⟨v1,k1⟩:=(Z0g Tryz.underlying3) enc w _ _ _ _ _ _ (c1.trans hy1);have c2:DataW.trod enc Tryz.prog w base sp h6 n 3 ((cs.drop 2).take (Tryz.prog.cellsOf 3))=xs[2]?:=hf 2 _ rfl;rw [show Tryz.prog.cellsOf 3=1 from by kernel_rfl] at c2;have hd:2<xs.length:=by rw [h8];decide
 obtain ⟨y2,hA⟩:∃y,xs[2]?=some y:=⟨_,List.getElem?_eq_getElem hd⟩
 obtain ⟨v2,k2⟩:=(Z0g Tryz.underlying3) enc w _ _ _ _ _ _ (c2.trans hA);have c3:DataW.trod enc Tryz.prog w base sp h6 n 3 ((cs.drop 3).take (Tryz.prog.cellsOf 3))=xs[3]?:=hf 3 _ rfl;rw [show Tryz.prog.cellsOf 3=1 from by kernel_rfl] at c3;have hn:3<xs.length:=by rw [h8];decide
 obtain ⟨y3,hB⟩:∃y,xs[3]?=some y:=⟨_,List.getElem?_eq_getElem hn⟩
 obtain ⟨v3,k3⟩:=(Z0g Tryz.underlying3) enc w _ _ _ _ _ _ (c3.trans hB);have c4:DataW.trod enc Tryz.prog w base sp h6 n 40 ((cs.drop 4).take (Tryz.prog.cellsOf 40))=xs[4]?:=hf 4 _ rfl;rw [show Tryz.prog.cellsOf 40=1 from by kernel_rfl] at c4;have ho:4<xs.length:=by rw [h8];decide
 obtain ⟨y4,hC⟩:∃y,xs[4]?=some y:=⟨_,List.getElem?_eq_getElem ho⟩
 obtain ⟨v4,k4⟩:=Zqs1 enc w _ _ _ _ _ _ (c4.trans hC);have e:cs=(cs.drop 0).take 1++(cs.drop 1).take 1++(cs.drop 2).take 1++(cs.drop 3).take 1++(cs.drop 4).take 1:=by
  match cs,hl with
  | [a0,a1,a2,a3,a4],_=>rfl
 rw [e];exact ⟨⟨v0,v1,v2,v3,v4⟩,(Zh2 (Zh2 (Zh2 (Zh2 k0 k1) k2) k3) k4)⟩
theorem Z4t1:Opn Tryz.prog 44 narthexlaw19_Step.row:=by
 intro H enc w base sp h6 fuel cs x h;obtain ⟨xs,n,_,_,hl,h8,hf⟩:=DataW.trod_struct Tryz.underlying44 h;rw [show Tryz.prog.cellsOf 44=8 from by kernel_rfl] at hl;have c0:DataW.trod enc Tryz.prog w base sp h6 n 4 ((cs.drop 0).take (Tryz.prog.cellsOf 4))=xs[0]?:=hf 0 _ rfl;rw [show Tryz.prog.cellsOf 4=1 from by kernel_rfl] at c0;have h9:0<xs.length:=by rw [h8];decide
 obtain ⟨y0,ho⟩:∃y,xs[0]?=some y:=⟨_,List.getElem?_eq_getElem h9⟩
 obtain ⟨v0,k0⟩:=(Z1g Tryz.underlying4) enc w _ _ _ _ _ _ (c0.trans ho);have c1:DataW.trod enc Tryz.prog w base sp h6 n 3 ((cs.drop 1).take (Tryz.prog.cellsOf 3))=xs[1]?:=hf 1 _ rfl;rw [show Tryz.prog.cellsOf 3=1 from by kernel_rfl] at c1;have hc:1<xs.length:=by rw [h8];decide
 obtain ⟨y1,hy1⟩:∃y,xs[1]?=some y:=⟨_,List.getElem?_eq_getElem hc⟩
 obtain ⟨v1,k1⟩:=(Z0g Tryz.underlying3) enc w _ _ _ _ _ _ (c1.trans hy1);have c2:DataW.trod enc Tryz.prog w base sp h6 n 3 ((cs.drop 2).take (Tryz.prog.cellsOf 3))=xs[2]?:=hf 2 _ rfl;rw [show Tryz.prog.cellsOf 3=1 from by kernel_rfl] at c2;have hd:2<xs.length:=by rw [h8];decide
 obtain ⟨y2,hw⟩:∃y,xs[2]?=some y:=⟨_,List.getElem?_eq_getElem hd⟩
 obtain ⟨v2,k2⟩:=(Z0g Tryz.underlying3) enc w _ _ _ _ _ _ (c2.trans hw);have c3:DataW.trod enc Tryz.prog w base sp h6 n 42 ((cs.drop 3).take (Tryz.prog.cellsOf 42))=xs[3]?:=hf 3 _ rfl;rw [show Tryz.prog.cellsOf 42=5 from by kernel_rfl] at c3;have hn:3<xs.length:=by rw [h8];decide
 obtain ⟨y3,hA⟩:∃y,xs[3]?=some y:=⟨_,List.getElem?_eq_getElem hn⟩
 obtain ⟨v3,k3⟩:=Z3t1 enc w _ _ _ _ _ _ (c3.trans hA);have e:cs=(cs.drop 0).take 1++(cs.drop 1).take 1++(cs.drop 2).take 1++(cs.drop 3).take 5:=by
  match cs,hl with
  | [a0,a1,a2,a3,a4,a5,a6,a7],_=>rfl
 rw [e];exact ⟨⟨v0,v1,v2,v3⟩,(Zh2 (Zh2 (Zh2 k0 k1) k2) k3)⟩
theorem Z5t1:laidOutB Tryz.prog=true:=by kernel_rfl
theorem Z6t1:ownKnob Tryz.prog.godebug=none:=by kernel_rfl
theorem Z7t1 (H:Type) (enc:TypeId×Value→H) (W:World) (U:Nat) (args:Array Value) (Y gs:List (DataW H)) (J:List MemPlace)
  (h6:∀(j:Nat) t v,Tryz.f4.params[j]?=some t→args[j]?=some v→Value.okWide Tryz.prog W .any U t v)
  (Z:DataW.Whole enc Tryz.prog Tryz.f4.params.toList Rows.hallOthersSpec.vars false W args.toList Y gs J):
  Calls Tryz.prog 4 args W fun e W'=>∃v,e = .returned v∧Rows.hallOthersSpec.post enc Tryz.prog Tryz.f4 false true false false W args v W':=by
 have h8:=Z;obtain ⟨p,q,h9,hV,rfl,hf,hn⟩:=Z;have hA:DataW.TrodAll enc Tryz.prog W 0 (fun _=>true) true Tryz.f4.params.toList args.toList Y p:=h9;rw [Tryz.params4] at hA h6;obtain ⟨v0,vs0,d0,ds0,p0,q0,hc,rfl,rfl,h0,r0⟩:=trodAll_cons hA;obtain ⟨v1,vs1,d1,ds1,p1,q1,hd,rfl,rfl,h1,r1⟩:=trodAll_cons r0;obtain ⟨hz,rfl,rfl⟩:=trodAll_nil r1;obtain rfl:args = #[v0,v1]:=by cases args;simp_all
 obtain ⟨x1,k0⟩:=Z5g Z2t1 Tryz.underlying29 (h6 0 29 v0 rfl rfl) h0;obtain ⟨x2,k1⟩:=Z5g Z4t1 Tryz.underlying44 (h6 1 44 v1 rfl rfl) h1;refine (Zfs1 (Zms1 x1 x2) (fun k=>W.heap[k]?) W [v0,v1] (fun _ _ h=>h) (fun _ hs=>absurd hs List.not_mem_nil) ⟨v0,_,rfl,k0,⟨v1,_,rfl,k1,rfl⟩⟩).mono ?_;rintro e W' ⟨v,H',rfl,hB,_,_,hv⟩;have hv:v = .bool true:=hv;subst hv;exact ⟨_,rfl,Z8g Z5t1 (by kernel_rfl) rfl (rfl:Tryz.f4.resultTypes = #[4]) Tryz.underlying4 (fun _=>rfl) h8 hB⟩
theorem Z8t1 (os:Os) (J:os.Started) (H:Type) (enc:TypeId×Value→H):
  ReturnsInHanded {} Tryz.checked os 4 .any (Rows.hallOthersSpec.pre6 enc Tryz.prog Tryz.f4 Rows.hallOthersRow.domain false) (Rows.hallOthersSpec.post enc Tryz.prog Tryz.f4 false true false false):=by
 refine returnsInHanded_of_change (C:=Tryz.checked) Z6t1 J (by kernel_rfl) Tryz.func4
  (ChangeSpec.witness6 (enc:=enc) (C:=Tryz.checked) false ⟨#[], #[.agg #[.slice none 0 0,.slice none 0 0],.agg #[.bool false,.int .i64 0,.int .i64 0,.int .i64 0,.int .i64 0,.int .i64 0,.int .i64 0,.slice none 0 0]],[]⟩ 8 (by kernel_rfl) (by kernel_rfl) (by kernel_rfl) (by kernel_rfl)) ?_
 intro W base args ds gs before h6 hW _ _;exact Z7t1 H enc W base args ds gs before h6 hW
theorem hallOthers_holds:Rows.HallOthersSaid:=
 OpenClaim.holds_of_wide 4 Tryz.f4 rfl rfl rfl rfl rfl rfl rfl ⟨rfl,rfl,rfl,rfl,rfl⟩ rfl rfl rfl rfl rfl (by kernel_rfl) Tryz.func4 (by kernel_rfl)
  (of_decide_eq_true (by kernel_rfl)) (by unfold Func.isWrapper;first | (rw [if_pos (by decide +kernel)];kernel_rfl) | (rw [if_neg (by decide +kernel)];exact ⟨rfl,rfl⟩))
  (fun os started H enc _=>Z8t1 os started H enc)
#print axioms hallOthers_holds
end NX
end Go.Proofs.YtgamgemlekpepaaGreat
