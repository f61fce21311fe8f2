/-
  Plain laws, gathered by a program of ours. No statement of the seat is proved here.
-/
import Derived.Test.YtgamgemlekpepaaGreatRows
import Derived.Test.YtgamgemlekpepaaGreatH30
import Derived.Test.YtgamgemlekpepaaGreatHHallNew32
set_option maxRecDepth 100000
set_option maxHeartbeats 4000000
namespace Go.Proofs.YtgamgemlekpepaaGreat
namespace NX
open Go
theorem Z8m1 (l:List Edge) (p:Edge→Option Bool) (q:Edge→Bool) (hl:l.length≤4000000000000000000) (hp:∀x∈l,p x=some (q x)):Zjo l p=some (plc (l.findIdx? q)):=by
 unfold Zjo;refine Zia1 l _ q hl (fun k x hx=>?_) ?_
 ·simp only [Zio,Z7a1 hx,Z0a1,Z4a1 hx,OB,hp x (List.mem_iff_getElem?.2 ⟨k,hx⟩),Zaa1 hx hl];cases q x<;>rfl
 ·simp only [Zio,Z8a1,Z1a1,Zho,Option.map_some]
theorem Z9m1 (l:List Edge) (p:Edge→Option Bool) (q:Edge→Bool) (hl:l.length≤4000000000000000000) (hp:∀x∈l,p x=some (q x)):Z9u l p=some (l.any q):=by unfold Z9u;rw [Z8m1 l p q hl hp,OB,Zfa1,Zja1]
def cmpI (a b:Int):Int:=if a<b then -1 else if b<a then 1 else 0
theorem Zam1 (a b:Int):Zbu a b=some (cmpI a b):=by simp only [Zbu,Zoo,OB,cmpI];by_cases h1:a<b<;>by_cases h2:b<a<;>simp [h1,h2,ifb]
theorem s_Or (a b:Int):Zso [a,b]=some (if a≠0 then a else b):=by
 unfold Zso;rw [Zcc];simp only [Zro,ln_eq,List.length_cons,List.length_nil];by_cases ha:a=0
 ·subst ha;simp [at_];rw [show wr 1=1 from Z3a1 (by omega) (by omega),Zcc];simp only [Zro,ln_eq,List.length_cons,List.length_nil];by_cases hb:b=0
  ·subst hb;simp [at_];rw [show wr 2=2 from Z3a1 (by omega) (by omega),Zcc];simp [Zro,ln_eq,Zqo]
  ·simp [at_,hb]
 ·simp [at_,ha]
def Edge.lt (x y:Edge):Bool:=decide (x.A<y.A)||(decide (x.A=y.A)&&decide (x.B<y.B))
theorem Zbm1 (x y:Edge):∃n,Zdy x y=some n∧decide (0≤n)=!x.lt y:=by
 refine ⟨if cmpI x.A y.A≠0 then cmpI x.A y.A else cmpI x.B y.B,by simp only [Zdy,Zam1,OB,s_Or],?_⟩;unfold cmpI Edge.lt;by_cases h1:x.A<y.A
 ·simp [h1]
 ·by_cases h2:y.A<x.A
  ·have:x.A≠y.A:=by omega
   simp [h1,h2,this]
  ·have:x.A=y.A:=by omega
   simp [this];by_cases h3:x.B<y.B
   ·simp [h3]
   ·by_cases h4:y.B<x.B<;>simp [h3,h4]<;>omega
def Edge.ok (n:Int) (e:Edge):Bool:=decide (0≤e.A)&&(decide (e.A<e.B)&&decide (e.B<n))
def risB:List Edge→Bool
 | x::y::l=>x.lt y&&risB (y::l)
 | _=>true
theorem Zcm1 (l:List Edge):risB l=true↔∀k x y,l[k]?=some x→l[k+1]?=some y→x.lt y=true:=by
 induction l with
 | nil=>simp [risB]
 | cons a l ih=>
   cases l with
   | nil=>simp [risB]
   | cons b l=>
     simp only [risB,Bool.and_eq_true,ih];constructor
     ·rintro ⟨h1,h2⟩ k x y hx hy;cases k with
      | zero=>simp at hx hy;subst hx;subst hy;exact h1
      | succ k=>exact h2 k x y (by simpa using hx) (by simpa using hy)
     ·intro h;exact ⟨h 0 a b (by simp) (by simp),fun k x y hx hy=>h (k+1) x y (by simpa using hx) (by simpa using hy)⟩
def okG (g:Graph):Bool:=decide (0≤g.N)&&(decide (g.N≤64)&&(decide (g.Edges.length≤400)&&(g.Edges.all (Edge.ok g.N)&&risB g.Edges)))
theorem Zdm1 (e:Edge) (g:Graph):Zmo e g=some (!e.ok g.N):=by
 simp only [Zmo,Zlo,Edge.ok];by_cases h1:e.A<0
 ·have:¬0≤e.A:=by omega
  simp [h1,this]
 ·have h1':0≤e.A:=by omega
  by_cases h2:e.B≤e.A
  ·have:¬e.A<e.B:=by omega
   simp [h1,h2,this]
  ·have h2':e.A<e.B:=by omega
   by_cases h3:g.N≤e.B
   ·have:¬e.B<g.N:=by omega
    simp [h1,h2,h3,this]
   ·have:e.B<g.N:=by omega
    simp [h1,h2,h3,this,h1',h2']
theorem Zem1 {β:Type} (l:List Edge) (body:Int→Option (Int ⊕ β)) (E J:β) (q:Edge→Bool) (_:l.length≤4000000000000000000)
  (hb:∀(k:Nat) x,l[k]?=some x→body k=some (if q x||(match k with | 0=>false | k+1=>match l[k]? with | some y=>!y.lt x | none=>false) then .inr E else .inl ((k+1:Nat):Int))) (he:body l.length=some (.inr J)):
  loop body 0=some (if l.all (fun x=>!q x)&&risB l then J else E):=by
 have key:∀m k,m+k=l.length→(∀j x,j<k→l[j]?=some x→q x=false)→(∀j x y,j+1<k→l[j]?=some x→l[j+1]?=some y→x.lt y=true)→loop body (k:Int)=some (if l.all (fun x=>!q x)&&risB l then J else E):=by
  intro m;induction m with
  | zero=>
    intro k hk h1 h2;have:k=l.length:=by omega
    subst this;rw [Zcc,he];have a1:l.all (fun x=>!q x)=true:=by rw [List.all_eq_true];intro x hx;obtain ⟨j,hj⟩:=List.mem_iff_getElem?.1 hx;simp [h1 j x (List.getElem?_eq_some_iff.1 hj).1 hj]
    have a2:risB l=true:=by rw [Zcm1];intro j x y hx hy;exact h2 j x y (List.getElem?_eq_some_iff.1 hy).1 hx hy
    simp [a1,a2]
  | succ m ih=>
    intro k hk h1 h2;have h9:k<l.length:=by omega
    have hx:l[k]?=some l[k]:=List.getElem?_eq_getElem h9;rw [Zcc,hb k _ hx];by_cases hq:q l[k]=true
    ·have:l.all (fun x=>!q x)=false:=by rw [List.all_eq_false];exact ⟨l[k],List.getElem_mem h9,by simp [hq]⟩
     simp [hq,this]
    ·have hq:q l[k]=false:=by simpa using hq
     cases k with
     | zero=>
       simp only [hq,Bool.or_false,Bool.false_eq_true,if_false];refine ih 1 (by omega) (fun j x hj h6=>?_) (fun j x y hj=>by omega);have:j=0:=by omega
       subst this;rw [hx] at h6;simp at h6;rw [←h6];exact hq
     | succ k=>
       have hy:l[k]?=some l[k]:=List.getElem?_eq_getElem (by omega);simp only [hq,hy,Bool.false_or];by_cases hr:l[k].lt l[k+1]=true
       ·simp only [hr,Bool.not_true,Bool.false_eq_true,if_false];refine ih (k+1+1) (by omega) (fun j x hj h6=>?_) (fun j x y hj h6 h8=>?_)
        ·rcases Nat.lt_succ_iff_lt_or_eq.1 hj with h | rfl
         ·exact h1 j x h h6
         ·rw [hx] at h6;simp at h6;rw [←h6];exact hq
        ·rcases Nat.lt_succ_iff_lt_or_eq.1 (Nat.succ_lt_succ_iff.1 hj) with h | rfl
         ·exact h2 j x y (by omega) h6 h8
         ·rw [hy] at h6;rw [hx] at h8;simp at h6 h8;rw [←h6,←h8];exact hr
       ·have hr:l[k].lt l[k+1]=false:=by simpa using hr
        have:risB l=false:=by
         cases h:risB l with
         | false=>rfl
         | true=>rw [Zcm1] at h;have:=h k _ _ hy hx;rw [hr] at this;exact absurd this (by simp)
        simp [hr,this]
 exact key l.length 0 (by omega) (fun j x hj=>by omega) (fun j x y hj=>by omega)
theorem Zfm1 (g:Graph):Zq01 g=some (if okG g then 0 else 30):=by
 simp only [Zq01,Zp01];by_cases h1:g.N<0
 ·have:¬0≤g.N:=by omega
  simp [h1,okG,this]
 by_cases h2:64<g.N
 ·have:¬g.N≤64:=by omega
  simp [h1,h2,okG,this]
 by_cases h3:400<g.Edges.length
 ·have:¬g.Edges.length≤400:=by omega
  have h3':(400:Int)<ln Edge.row g.Edges:=by rw [ln_eq];omega
  simp [h1,h2,h3',okG,this]
 have h3':¬(400:Int)<ln Edge.row g.Edges:=by rw [ln_eq];omega
 rw [Z9m1 g.Edges _ (fun e=>!e.ok g.N) (by omega) (fun x _=>Zdm1 x g)];have e1:0≤g.N:=by omega
 have e2:g.N≤64:=by omega
 have e3:g.Edges.length≤400:=by omega
 simp only [h1,h2,h3',decide_false,Z1a1,OB,okG,e1,e2,e3,decide_true,Bool.true_and];by_cases h4:g.Edges.any (fun e=>!e.ok g.N)=true
 ·have h5:g.Edges.all (Edge.ok g.N)=false:=by rw [List.any_eq_true] at h4;obtain ⟨x,hx,hq⟩:=h4;rw [List.all_eq_false];exact ⟨x,hx,by simpa using hq⟩
  simp [h4,h5]
 ·have h4:g.Edges.any (fun e=>!e.ok g.N)=false:=by simpa using h4
  have h5:g.Edges.all (Edge.ok g.N)=true:=by rw [List.any_eq_false] at h4;rw [List.all_eq_true];intro x hx;simpa using h4 x hx
  simp only [h4,h5,Z1a1,Bool.true_and];have key:=Zem1 g.Edges (Zo01 g) 30 0 (fun _=>false) (by omega) (fun k x hx=>by
   cases k with
   | zero=>have:=Z7a1 (f:=Edge.row) hx;simp only [Zo01,this,Z0a1,Zn01];simp;exact Zaa1 hx (by omega)
   | succ k=>
     have hk:=(List.getElem?_eq_some_iff.1 hx).1;have hy:g.Edges[k]?=some g.Edges[k]:=List.getElem?_eq_getElem (by omega);obtain ⟨n,h6,h8⟩:=Zbm1 g.Edges[k] x;have h0:decide ((0:Int)<((k+1:Nat):Int))=true:=DT (by omega);simp only [Zo01,Z7a1 hx,Z0a1,h0,Z9b1 (show k≤4000000000000000000 by omega),Z4a1 hy,Z4a1 hx,OB,h6,h8,Zn01,hy,Bool.false_or];cases g.Edges[k].lt x
     ·simp
     ·simp only [Bool.not_true,Bool.false_eq_true,if_false,Z1a1];rw [Zaa1 hx (show g.Edges.length≤4000000000000000000 by omega)])
   (by simp only [Zo01,Z8a1,Z1a1,Zm01,Option.map_some])
  rw [key];simp
theorem Zgm1 {g:Graph} (h:okG g=true):0≤g.N∧g.N≤64∧g.Edges.length≤400∧(∀e∈g.Edges,0≤e.A∧e.A<e.B∧e.B<g.N)∧risB g.Edges=true:=by simp only [okG,Bool.and_eq_true,decide_eq_true_eq,List.all_eq_true,Edge.ok] at h;exact ⟨h.1,h.2.1,h.2.2.1,fun e he=>h.2.2.2.1 e he,h.2.2.2.2⟩
def cg (c:List Int) (i:Int):Int:=(c[i.toNat]?).getD 0
theorem Zhm1 {c:List Int} {i:Int} (h0:0≤i) (h:i<c.length):at_ c i=some (cg c i):=by obtain ⟨x,h1,h2⟩:=Z5a1 h0 h;rw [h1,cg,h2];rfl
def Zim1 (g:Graph) (c:List Int):Bool:=decide ((c.length:Int)=g.N)&&(c.all (fun x=>decide (1≤x))&&g.Edges.all (fun e=>!decide (cg c e.A=cg c e.B)))
theorem Zjm1 (g:Graph) (c:List Int) (_:c.length≤1000000):Zv21 g c=some (okG g&&Zim1 g c):=by
 simp only [Zv21,Zfm1,OB,Z2a1];cases hg:okG g with
 | false=>simp [Zu21]
 | true=>
   obtain ⟨g1,g2,g3,g4,g5⟩:=Zgm1 hg;simp only [if_true,decide_true,Z0a1,Bool.true_and,ln_eq];by_cases hl:(c.length:Int)=g.N
   ·rw [Z7b1 c (fun z=>Zuo z) (fun x=>decide (x<1)) (by omega) (fun x _=>rfl)];simp only [hl,decide_true,Z0a1,OB,Zim1,Bool.true_and];have e1:c.any (fun x=>decide (x<1))=!c.all (fun x=>decide (1≤x)):=Zbb1 _ _ _ (fun x=>by
     by_cases h:x<1
     ·have:¬1≤x:=by omega
      simp [h,this]
     ·have:1≤x:=by omega
      simp [h,this])
    rw [e1];cases hp:c.all (fun x=>decide (1≤x)) with
    | false=>simp [Zu21]
    | true=>simp only [Bool.not_true,Zu21,Z1a1];rw [Z9m1 g.Edges _ (fun e=>decide (cg c e.A=cg c e.B)) (by omega) (fun e he=>by obtain ⟨k1,k2,k3⟩:=g4 e he;simp only [Zwo,Zhm1 (c:=c) k1 (by omega),Zhm1 (c:=c) (show 0≤e.B by omega) (by omega),OB])];simp [Zab1]
   ·simp [hl,Zim1,Zu21]
theorem Zkm1 (x y:Edge):Zzo x y=some (x.lt y):=by
 simp only [Zzo,Zyo,Edge.lt];by_cases h1:x.A<y.A
 ·simp [h1]
 ·by_cases h2:x.A=y.A<;>simp [h1,h2]
theorem Zlm1 (g:Graph):Zhu g=some (okG g):=by
 simp only [Zhu,Zgu];by_cases h1:g.N<0
 ·have:¬0≤g.N:=by omega
  simp [h1,okG,this]
 by_cases h2:64<g.N
 ·have:¬g.N≤64:=by omega
  simp [h1,h2,okG,this]
 by_cases h3:400<g.Edges.length
 ·have:¬g.Edges.length≤400:=by omega
  have h3':(400:Int)<ln Edge.row g.Edges:=by rw [ln_eq];omega
  simp [h1,h2,h3',okG,this]
 have h3':¬(400:Int)<ln Edge.row g.Edges:=by rw [ln_eq];omega
 have e1:0≤g.N:=by omega
 have e2:g.N≤64:=by omega
 have e3:g.Edges.length≤400:=by omega
 simp only [h1,h2,h3',decide_false,Z1a1,okG,e1,e2,e3,decide_true,Bool.true_and];have key:=Zem1 g.Edges (Zfu g) false true (fun e=>!e.ok g.N) (by omega) (fun k x hx=>by
  have hw:wr ((k:Int)+1)=((k+1:Nat):Int):=Zaa1 hx (by omega);simp only [Zfu,Z7a1 hx,Z0a1,Z4a1 hx,OB,Zeu,hw,Edge.ok];by_cases k1:x.A<0
  ·have:¬0≤x.A:=by omega
   simp [k1,this]
  ·have k1':0≤x.A:=by omega
   by_cases k2:x.B≤x.A
   ·have:¬x.A<x.B:=by omega
    simp [k1,k2,this]
   ·have k2':x.A<x.B:=by omega
    by_cases k3:g.N≤x.B
    ·have:¬x.B<g.N:=by omega
     simp [k1,k2,k3,this]
    ·have k3':x.B<g.N:=by omega
     simp only [k1,k2,k3,k1',k2',k3',decide_false,decide_true,Z1a1,Bool.and_self,Bool.not_true,Bool.false_or];cases k with
     | zero=>simp
     | succ k=>have hk:=(List.getElem?_eq_some_iff.1 hx).1;have hy:g.Edges[k]?=some g.Edges[k]:=List.getElem?_eq_getElem (by omega);have h0:decide ((0:Int)<((k+1:Nat):Int))=true:=DT (by omega);simp only [h0,Z0a1,Z9b1 (show k≤4000000000000000000 by omega),Z4a1 hy,hy,OB,Zkm1];cases g.Edges[k].lt x<;>simp)
  (by simp only [Zfu,Z8a1,Z1a1,Zdu,Option.map_some])
 rw [key];have:g.Edges.all (fun x=>!!Edge.ok g.N x)=g.Edges.all (Edge.ok g.N):=by simp
 rw [this];cases g.Edges.all (Edge.ok g.N)&&risB g.Edges<;>rfl
def hasB (g:Graph) (a b:Int):Bool:=g.Edges.any fun e=>(decide (e.A=a)&&(decide (e.B=b)&&decide (a≤b)))||(decide (e.A=b)&&(decide (e.B=a)&&decide (b<a)))
theorem Zmm1 (g:Graph) (a b:Int) (hl:g.Edges.length≤1000000):Z4p g a b=some (hasB g a b):=by
 unfold Z4p hasB;rw [Zka1 g.Edges (Z3p g a b) (fun e=>(decide (e.A=a)&&(decide (e.B=b)&&decide (a≤b)))||(decide (e.A=b)&&(decide (e.B=a)&&decide (b<a)))) true false (by omega) (fun k e he=>by
  have hw:wr ((k:Int)+1)=((k+1:Nat):Int):=Zaa1 he (by omega);simp only [Z3p,Z7a1 he,Z0a1,Z4a1 he,OB,Z2p,hw];generalize decide (e.A=a)=p1;generalize decide (e.B=b)=p2;generalize decide (a≤b)=p3;generalize decide (e.A=b)=p4;generalize decide (e.B=a)=p5;generalize decide (b<a)=p6;cases p1<;>cases p2<;>cases p3<;>cases p4<;>cases p5<;>cases p6<;>rfl)
  (by simp only [Z3p,Z8a1,Z1a1,Z1p,Option.map_some])]
 generalize List.any _ _=p;cases p<;>rfl
def sideB (l:List DI) (i:Nat) (x:Side):Bool:=decide (0≤x.Peer)&&(decide (x.Peer<l.length)&&(!decide (x.Peer=i)&&(match l[x.Peer.toNat]? with | some e=>(sideO e i).isSome | none=>false)))
def riseB (p:Option Int) (x:Side):Bool:=match p with | none=>true | some q=>decide (q<x.Peer)
def Znm1 (l:List DI) (i:Nat):Option Int→List Side→Bool
 | _,[]=>true
 | p,x::r=>riseB p x&&(sideB l i x&&Znm1 l i (some x.Peer) r)
def Zom1 (i:Nat) (xs:List Side):List Edge:=(xs.filter fun x=>decide ((i:Int)<x.Peer)).map fun x=>⟨i,x.Peer⟩
def Zpm1 (l:List DI):Nat→List DI→Bool
 | _,[]=>true
 | i,d::r=>decide (d.ID=i)&&(Znm1 l i none d.SD&&Zpm1 l (i+1) r)
def Zqm1:Nat→List DI→List Edge
 | _,[]=>[]
 | i,d::r=>Zom1 i d.SD++Zqm1 (i+1) r
def Zrm1:Graph:=⟨0,[]⟩
def Zsm1 (l:List DI):Graph×Bool:=if Zpm1 l 0 l&&okG ⟨l.length,Zqm1 0 l⟩ then (⟨l.length,Zqm1 0 l⟩,true) else (Zrm1,false)
theorem Ztm1 (l:List DI):∀(r:List DI) (i:Nat),Zpm1 l i r=true↔∀k d,r[k]?=some d→d.ID=((i+k:Nat):Int)∧Znm1 l (i+k) none d.SD=true
 | [],i=>by simp [Zpm1]
 | d::r,i=>by
   simp only [Zpm1,Bool.and_eq_true,decide_eq_true_eq,Ztm1 l r (i+1)];constructor
   ·rintro ⟨h1,h2,h3⟩ k e he;cases k with
    | zero=>simp at he;subst he;exact ⟨by simpa using h1,by simpa using h2⟩
    | succ k=>have:=h3 k e (by simpa using he);rw [show i+(k+1)=i+1+k by omega];exact this
   ·intro h;refine ⟨by simpa using (h 0 d (by simp)).1,by simpa using (h 0 d (by simp)).2,fun k e he=>?_⟩;have:=h (k+1) e (by simpa using he);rw [show i+1+k=i+(k+1) by omega];exact this
theorem Edge.lt_trans {x y z:Edge} (h:x.lt y=true) (k:y.lt z=true):x.lt z=true:=by simp only [Edge.lt,Bool.or_eq_true,Bool.and_eq_true,decide_eq_true_eq] at *;omega
theorem Zum1:∀ {l:List Edge},risB l=true→l.Pairwise fun x y=>x.lt y=true
 | [],_=>List.Pairwise.nil
 | [x],_=>by simp
 | x::y::l,h=>by
   simp only [risB,Bool.and_eq_true] at h;have ih:=Zum1 h.2;refine List.pairwise_cons.2 ⟨?_,ih⟩;intro z hz;rcases List.mem_cons.1 hz with rfl | hz
   ·exact h.1
   ·exact Edge.lt_trans h.1 ((List.pairwise_cons.1 ih).1 z hz)
theorem Zvm1 {g:Graph} (h:okG g=true):g.Edges.Pairwise fun x y=>x.lt y=true:=Zum1 (Zgm1 h).2.2.2.2
def Zwm1 (a:Int) (e:Edge):Option Int:=if a=e.A then some e.B else if a=e.B then some e.A else none
def Zxm1 (g:Graph) (a:Int):List Int:=g.Edges.filterMap (Zwm1 a)
theorem Zym1 {g:Graph} (h:okG g=true) (a:Int):(Zxm1 g a).Pairwise (· < ·):=by
 unfold Zxm1;rw [List.pairwise_filterMap];obtain ⟨_,_,_,h4,_⟩:=Zgm1 h;refine List.Pairwise.imp_of_mem ?_ (Zvm1 h);intro x y hx hy h6 b hb b' hb';have k1:=h4 x hx;have k2:=h4 y hy;simp only [Edge.lt,Bool.or_eq_true,Bool.and_eq_true,decide_eq_true_eq] at h6;unfold Zwm1 at hb hb';split at hb<;>split at hb'
 ·simp at hb hb';omega
 ·split at hb'
  ·simp at hb hb';omega
  ·simp at hb'
 ·split at hb
  ·simp at hb hb';omega
  ·simp at hb
 ·split at hb<;>split at hb'
  ·simp at hb hb';omega
  ·simp at hb'
  ·simp at hb
  ·simp at hb
theorem Zzm1 (g:Graph) (a:Int):(Zxm1 g a).length≤g.Edges.length:=List.length_filterMap_le _ _
theorem Z0n1 (g:Graph) (a:Int):Z031 g a=some (if okG g then Zxm1 g a else []):=by
 simp only [Z031,Zfm1,OB];cases hg:okG g with
 | false=>rfl
 | true=>
   have h6:=(Zgm1 hg).2.2.1;simp only [if_true,decide_true,Bool.not_true,Z1a1];refine Zoa1 g.Edges _ (fun pre=>((pre.length:Int),pre.filterMap (Zwm1 a))) (Zxm1 g a) (fun pre e post h=>?_) ?_
   ·have hx:=Zpa1 h;have hm:=Zqa1 h;have hl:(pre.filterMap (Zwm1 a)).length≤pre.length:=List.length_filterMap_le _ _;dsimp only [Zz21];rw [Z7a1 hx,Z0a1,Z4a1 hx,OB,Zua1,List.filterMap_append];by_cases h1:a=e.A
    ·rw [DT h1,Z0a1,Z6a1 _ _ (by omega) (by simp only [List.length_singleton];omega),OB,Zy21,Z9a1 (by omega)];simp [Zwm1,h1]
    ·by_cases h2:a=e.B
     ·rw [DN h1,Z1a1,DT h2,Z0a1,Z6a1 _ _ (by omega) (by simp only [List.length_singleton];omega),OB,Zy21,Z9a1 (by omega)];have:¬e.B=e.A:=fun e'=>h1 (h2.trans e');simp [Zwm1,h2,this]
     ·rw [DN h1,Z1a1,DN h2,Z1a1,Zy21,Z9a1 (by omega)];simp [Zwm1,h1,h2]
   ·dsimp only [Zz21];rw [Z8a1,Z1a1,Zx21];have:(g.Edges.filterMap (Zwm1 a))=Zxm1 g a:=rfl;rw [this,Zhb1 _ (by have:=Zzm1 g a;omega) (Zym1 hg a)];rfl
theorem Z1n1 {g:Graph} (h:okG g=true) {a b:Int}:b∈Zxm1 g a↔(⟨a,b⟩:Edge)∈g.Edges∨(⟨b,a⟩:Edge)∈g.Edges:=by
 obtain ⟨_,_,_,h4,_⟩:=Zgm1 h;unfold Zxm1;rw [List.mem_filterMap];constructor
 ·rintro ⟨e,he,hb⟩;unfold Zwm1 at hb;split at hb
  ·rename_i h1;simp at hb;subst hb;subst h1;exact .inl he
  ·split at hb
   ·rename_i h2;simp at hb;subst hb;subst h2;exact .inr he
   ·simp at hb
 ·rintro (he | he)
  ·exact ⟨_,he,by simp [Zwm1]⟩
  ·have:=h4 _ he;dsimp only at this;exact ⟨_,he,by unfold Zwm1;rw [if_neg (by dsimp only;omega),if_pos rfl]⟩
theorem Z2n1 {g:Graph} (h:okG g=true) {a b:Int}:hasB g a b=true↔b∈Zxm1 g a:=by
 rw [Z1n1 h];obtain ⟨_,_,_,h4,_⟩:=Zgm1 h;simp only [hasB,List.any_eq_true,Bool.or_eq_true,Bool.and_eq_true,decide_eq_true_eq];constructor
 ·rintro ⟨e,he,(⟨rfl,rfl,_⟩ | ⟨rfl,rfl,_⟩)⟩
  ·exact .inl he
  ·exact .inr he
 ·rintro (he | he)
  ·have:=h4 _ he;dsimp only at this;exact ⟨_,he,.inl ⟨rfl,rfl,by omega⟩⟩
  ·have:=h4 _ he;dsimp only at this;exact ⟨_,he,.inr ⟨rfl,rfl,by omega⟩⟩
theorem Z3n1 {g:Graph} (h:okG g=true) {a b:Int} (hb:b∈Zxm1 g a):0≤b∧b<g.N∧b≠a∧0≤a∧a<g.N:=by
 obtain ⟨_,_,_,h4,_⟩:=Zgm1 h;rcases (Z1n1 h).1 hb with he | he
 ·have:=h4 _ he;dsimp only at this;omega
 ·have:=h4 _ he;dsimp only at this;omega
def Z4n1 (c:List Int) (a b:Int):Side:=⟨b,1,0,decide (cg c b<cg c a),decide (cg c b<cg c a),!decide (cg c b<cg c a),decide (cg c b<cg c a),!decide (cg c b<cg c a)⟩
def Z5n1 (g:Graph) (c:List Int) (a:Nat):DI:=⟨a,0,(Zxm1 g a).map (Z4n1 c a)⟩
def Z6n1 (g:Graph) (c:List Int):List DI:=(List.range g.N.toNat).map (Z5n1 g c)
theorem Z7n1 {α:Type} (f:Nat→α) (k:Nat):(List.range (k+1)).map f=(List.range k).map f++[f k]:=by simp [List.range_succ]
theorem Z8n1 (g:Graph) (hg:okG g=true) (c:List Int) (J:(c.length:Int)=g.N) (a:Nat) (ha:(a:Int)<g.N) (L:List DI) (E:L.length≤1000):
  loop (Z841 c a L (Zxm1 g a)) (0,[])=some (.inl (((a+1:Nat):Int),L++[Z5n1 g c a])):=by
 obtain ⟨g1,g2,g3,_,_⟩:=Zgm1 hg;have h6:=Zzm1 g a;refine Zoa1 (Zxm1 g a) _ (fun pre=>((pre.length:Int),pre.map (Z4n1 c a))) _ (fun pre b post h=>?_) ?_
 ·have hx:=Zpa1 h;have hm:=Zqa1 h;obtain ⟨b1,b2,_,_,_⟩:=Z3n1 hg (Zra1 h);dsimp only [Z841];rw [Z7a1 hx,Z0a1,Z4a1 hx,OB,Zhm1 (c:=c) (Int.natCast_nonneg a) (by omega),OB,Zhm1 (c:=c) b1 (by omega),OB,Z6a1 _ _ (by omega) (by simp;omega),OB,Zua1,Z9a1 (by omega),List.map_append];rfl
 ·dsimp only [Z841];rw [Z8a1,Z1a1,Z741,Z6a1 _ _ (by omega) (by simp;omega),OB,Z9a1 (by omega)];rfl
theorem Z9n1 {g:Graph} {c:List Int} (h:Zim1 g c=true):(c.length:Int)=g.N:=by simp only [Zim1,Bool.and_eq_true,decide_eq_true_eq] at h;exact h.1
theorem Zan1 (g:Graph) (c:List Int) (E:c.length≤1000000):Za41 g c=some (if okG g then (if Zim1 g c then (Z6n1 g c,0) else ([],120)) else ([],30)):=by
 simp only [Za41,Zfm1,OB];cases hg:okG g with
 | false=>rfl
 | true=>
   obtain ⟨g1,g2,_,_,_⟩:=Zgm1 hg;simp only [if_true,decide_true,Bool.not_true,Z1a1,Zjm1 g c E,hg,Bool.true_and,OB];cases hr:Zim1 g c with
   | false=>rfl
   | true=>
     simp only [Bool.not_true,Z1a1,if_true];refine Zva1 g.N.toNat (Z941 g c) (fun k=>((k:Int),(List.range k).map (Z5n1 g c))) _ (fun k hk=>?_) ?_
     ·dsimp only [Z941];rw [DT (by omega),Z0a1,Z0n1,hg,if_pos rfl,OB,Z8n1 g hg c (Z9n1 hr) k (by omega) _ (by simp;omega),Z7n1]
     ·dsimp only [Z941];rw [DN (by omega),Z1a1];rfl
theorem Zbn1 {g:Graph} (hg:okG g=true) {c:List Int} (h:Zim1 g c=true) {a b:Int} (hb:b∈Zxm1 g a):cg c a≠cg c b:=by
 simp only [Zim1,Bool.and_eq_true,List.all_eq_true,Bool.not_eq_true',decide_eq_false_iff_not] at h;rcases (Z1n1 hg).1 hb with he | he
 ·exact h.2.2 _ he
 ·exact fun e=>h.2.2 _ he e.symm
theorem Zcn1 {g:Graph} (hg:okG g=true) (a:Int):Zxm1 g a=((List.range g.N.toNat).map (fun k:Nat=>(k:Int))).filter (fun b=>hasB g a b):=by
 refine Zdb1 (fun x=>by omega) (fun x y h=>by omega) (Zym1 hg a) ?_ fun x=>?_
 ·refine List.Pairwise.filter _ ?_;rw [List.pairwise_map];exact List.pairwise_lt_range.imp fun h=>by omega
 ·rw [List.mem_filter,List.mem_map,Z2n1 hg];constructor
  ·intro h;obtain ⟨h1,h2,_⟩:=Z3n1 hg h;exact ⟨⟨x.toNat,by simp;omega,by omega⟩,h⟩
  ·exact fun h=>h.2
theorem Zdn1 (p:Int→Bool) (k:Nat):(((List.range (k+1)).map (fun k:Nat=>(k:Int))).filter p)=((List.range k).map (fun k:Nat=>(k:Int))).filter p++(if p k then [(k:Int)] else []):=by rw [Z7n1,List.filter_append];cases h:p k<;>simp [h]
theorem Zen1 (g:Graph) (hg:okG g=true) (c:List Int) (hr:Zim1 g c=true) (a:Nat) (ha:(a:Int)<g.N) (L:List DI) (E:L.length≤1000):
  loop (Znu g c a L) (0,[])=some (.inl (((a+1:Nat):Int),L++[Z5n1 g c a])):=by
 obtain ⟨g1,g2,g3,_,_⟩:=Zgm1 hg;have hc:=Z9n1 hr;refine Zva1 g.N.toNat (Znu g c a L) (fun k=>((k:Int),(((List.range k).map (fun k:Nat=>(k:Int))).filter (fun b=>hasB g a b)).map (Z4n1 c a))) _ (fun k hk=>?_) ?_
 ·have h6:(((List.range k).map (fun k:Nat=>(k:Int))).filter (fun b=>hasB g a b)).length≤64:=by have:=List.length_filter_le (fun b=>hasB g a b) ((List.range k).map (fun k:Nat=>(k:Int)));simp only [List.length_map,List.length_range] at this;omega
  dsimp only [Znu];rw [DT (by omega),Z0a1,Zmm1 g a k (by omega),OB,Zdn1,List.map_append];cases hh:hasB g a k with
  | false=>rw [Bool.not_false,Z0a1,Zlu,Z9a1 (by omega)];simp
  | true=>
    have hne:=Zbn1 hg hr ((Z2n1 hg).1 hh);rw [Bool.not_true,Z1a1,Zhm1 (c:=c) (Int.natCast_nonneg a) (by omega),OB,Zhm1 (c:=c) (Int.natCast_nonneg k) (by omega),OB];by_cases h1:cg c a<cg c k
    ·rw [DT h1,Z0a1,Zmu,Z6a1 _ _ (by omega) (by simp only [List.length_map,List.length_singleton];omega),OB,Zlu,Z9a1 (by omega)];have:¬cg c k<cg c a:=by omega
     simp [Z4n1,this]
    ·rw [DN h1,Z1a1,Zmu,Z6a1 _ _ (by omega) (by simp only [List.length_map,List.length_singleton];omega),OB,Zlu,Z9a1 (by omega)];have:cg c k<cg c a:=by omega
     simp [Z4n1,this]
 ·dsimp only [Znu];rw [DN (by omega),Z1a1,←Zcn1 hg,Zku,Z6a1 _ _ (by omega) (by simp;omega),OB,Z9a1 (by omega)];rfl
theorem Zfn1 (g:Graph) (hg:okG g=true) (c:List Int) (hr:Zim1 g c=true):Zpu g c=some (Z6n1 g c):=by
 obtain ⟨g1,g2,_,_,_⟩:=Zgm1 hg;unfold Zpu;refine Zva1 g.N.toNat (Zou g c) (fun k=>((k:Int),(List.range k).map (Z5n1 g c))) _ (fun k hk=>?_) ?_
 ·dsimp only [Zou];rw [DT (by omega),Z0a1,Zen1 g hg c hr k (by omega) _ (by simp;omega),Z7n1]
 ·dsimp only [Zou];rw [DN (by omega),Z1a1];rfl
theorem Zgn1 {g:Graph} (hg:okG g=true) (c:List Int):((Z6n1 g c).length:Int)=g.N:=by have:=(Zgm1 hg).1;simp [Z6n1];omega
theorem ids {l:List DI} (h:(Zsm1 l).2=true) {k:Nat} {d:DI} (E:l[k]?=some d):d.ID=k:=by
 unfold Zsm1 at h;split at h
 ·rename_i h1;simp only [Bool.and_eq_true] at h1;have:=((Ztm1 l l 0).1 h1.1 k d E).1;simpa using this
 ·simp at h
def lsf (p:Nat→Bool):Nat→Nat→Nat
 | 0,k=>k
 | f+1,k=>if p k then k else lsf p f (k+1)
theorem Zhn1 (p:Nat→Bool):∀(f k:Nat),p (k+f)=true→p (lsf p f k)=true∧k≤lsf p f k∧lsf p f k≤k+f
 | 0,k,h=>⟨h,Nat.le_refl _,Nat.le_refl _⟩
 | f+1,k,h=>by
   simp only [lsf];split
   ·rename_i h1;exact ⟨h1,Nat.le_refl _,by omega⟩
   ·obtain ⟨h1,h2,h3⟩:=Zhn1 p f (k+1) (by rw [show k+1+f=k+(f+1) by omega];exact h);exact ⟨h1,by omega,by omega⟩
def Zin1 (c:List Int) (E:List Int) (k:Nat):Bool:=E.any fun b=>decide (cg c b=(k:Int))
def Zjn1 (c E:List Int):Nat:=lsf (fun k=>!Zin1 c E k) 200 1
def Zkn1 (c E:List Int) (a:Int):Bool:=decide (cg c a=0)&&!E.any fun b=>decide (cg c b=0)&&decide (a<b)
def newC (g:Graph) (c:List Int) (a:Nat):Int:=if Zkn1 c (Zxm1 g a) a then (Zjn1 c (Zxm1 g a):Int) else cg c a
def Zln1 (g:Graph) (c:List Int):List Int:=(List.range g.N.toNat).map (newC g c)
structure ColI (g:Graph) (c:List Int):Prop where
 len:(c.length:Int)=g.N
 lo:∀x∈c,0≤x
 hi:∀x∈c,x≤100
theorem Zmn1 {c:List Int} {a:Int} (h0:0≤a) (h:a<c.length):cg c a∈c:=by obtain ⟨x,h1,h2⟩:=Z5a1 h0 h;unfold cg;rw [h2];exact List.mem_iff_getElem?.2 ⟨_,h2⟩
theorem Znn1 {g:Graph} (hg:okG g=true) {c:List Int} (E:ColI g c) (a:Int):Zin1 c (Zxm1 g a) (Zjn1 c (Zxm1 g a))=false∧1≤Zjn1 c (Zxm1 g a)∧Zjn1 c (Zxm1 g a)≤201:=by have h:=Zhn1 (fun k=>!Zin1 c (Zxm1 g a) k) 200 1 (by simp only [Bool.not_eq_true'];unfold Zin1;rw [List.any_eq_false];intro b hb;obtain ⟨b1,b2,_⟩:=Z3n1 hg hb;have:=E.hi _ (Zmn1 (c:=c) b1 (by rw [E.len];exact b2));simp;omega);have h1:=h.1;simp only [Bool.not_eq_true'] at h1;exact ⟨h1,h.2.1,h.2.2⟩
theorem Zon1 (g:Graph) (hg:okG g=true) (c:List Int) (E:ColI g c) (a:Nat) (ha:(a:Int)<g.N) (A B:List Int) (J:A.length=a):
  loop (Ze41 c a (Zxm1 g a)) (A++1::B)=some (.inl (((a+1:Nat):Int),A++(Zjn1 c (Zxm1 g a):Int)::B)):=by
 obtain ⟨g1,g2,g3,_,_⟩:=Zgm1 hg;have h8:=Zzm1 g a;have at1:∀y:Int,at_ (A++y::B) (a:Int)=some y:=fun y=>by rw [←J];exact Zsa1 rfl
 have st1:∀y z:Int,(A++y::B).set ((a:Int)).toNat z=A++z::B:=fun y z=>by rw [←J];exact Zta1 _ _ _ _
 have step:∀k:Nat,Znr (Zxm1 g a) (fun z=>Zbp z c (A++(k:Int)::B) a)=some (Zin1 c (Zxm1 g a) k):=fun k=>by refine Z7b1 (Zxm1 g a) _ (fun b=>decide (cg c b=(k:Int))) (by omega) (fun b hb=>?_);obtain ⟨b1,b2,_⟩:=Z3n1 hg hb;simp only [Zbp];rw [Zhm1 (c:=c) b1 (by rw [E.len];exact b2),OB,at1,OB]
 have key:∀f k:Nat,k+f=201→1≤k→Zin1 c (Zxm1 g a) 201=false→loop (Ze41 c a (Zxm1 g a)) (A++(k:Int)::B)=some (.inl (((a+1:Nat):Int),A++(lsf (fun k=>!Zin1 c (Zxm1 g a) k) f k:Int)::B)):=by
  intro f;induction f with
  | zero=>
    intro k hk _ h6;have:k=201:=by omega
    subst this;rw [Zcc];dsimp only [Ze41];rw [step,OB,h6,Z1a1];dsimp only [Zd41];rw [Z9a1 (by omega)];rfl
  | succ f ih=>
    intro k hk h1 h6;rw [Zcc];dsimp only [Ze41];rw [step,OB];cases hu:Zin1 c (Zxm1 g a) k with
    | true=>rw [Z0a1,at1,OB,st1,Z9a1 (by omega)];dsimp only;rw [ih (k+1) (by omega) (by omega) h6];simp [lsf,hu]
    | false=>rw [Z1a1];dsimp only [Zd41];rw [Z9a1 (by omega)];simp [lsf,hu]
 refine key 200 1 rfl (Nat.le_refl _) ?_;unfold Zin1;rw [List.any_eq_false];intro b hb;obtain ⟨b1,b2,_⟩:=Z3n1 hg hb;have:=E.hi _ (Zmn1 (c:=c) b1 (by rw [E.len];exact b2));simp;omega
theorem Zpn1 {c:List Int} {k:Nat} (h:k<c.length):c.drop k=cg c k::c.drop (k+1):=by rw [List.drop_eq_getElem_cons h];congr 1;unfold cg;simp [h]
theorem Zqn1 (g:Graph) (hg:okG g=true) (c:List Int) (E:ColI g c):Zi41 g c=some (Zln1 g c,0):=by
 obtain ⟨g1,g2,g3,_,_⟩:=Zgm1 hg;have h6:=E.len;simp only [Zi41,Zfm1,hg,if_true,decide_true,Bool.not_true,Z1a1,OB,ln_eq,h6];rw [Z7b1 c (fun z=>Z6p z) (fun x=>decide (x<0)) (by omega) (fun x _=>rfl),OB];have e0:c.any (fun x=>decide (x<0))=false:=by rw [List.any_eq_false];intro x hx;have:=E.lo x hx;simp;omega
 rw [e0];simp only [Zh41,Z1a1,Z0l];rw [Z6a1 _ _ (by omega) (by simp;omega),OB,List.nil_append];refine (Zva1 g.N.toNat (Zg41 g c) (fun k=>((k:Int),(List.range k).map (newC g c)++c.drop k)) (Zln1 g c,0) (fun k hk=>?_) ?_)
 ·have h8:k<c.length:=by omega
  obtain ⟨g1',_⟩:=Zgm1 hg;dsimp only [Zg41];rw [DT (by omega),Z0a1,Z0n1,hg,if_pos rfl,OB,Zhm1 (c:=c) (Int.natCast_nonneg k) (by omega),OB,Zpn1 h8,Z7n1];have hA:((List.range k).map (newC g c)).length=k:=by simp
  have keep:newC g c k=cg c k→Zf41 c k ((List.range k).map (newC g c)++cg c k::c.drop (k+1)) (Zxm1 g k) true=some (.inl (((k+1:Nat):Int),((List.range k).map (newC g c)++[newC g c k])++c.drop (k+1))):=fun e=>by dsimp only [Zf41,Zd41];rw [Z0a1,Z9a1 (by omega),e];simp
  by_cases h0:cg c k=0
  ·rw [DT h0,Bool.not_true,Z1a1];have h9:Znr (Zxm1 g k) (fun z=>Z9p z c k)=some ((Zxm1 g k).any fun b=>decide (cg c b=0)&&decide ((k:Int)<b)):=by refine Z7b1 (Zxm1 g k) _ (fun b=>decide (cg c b=0)&&decide ((k:Int)<b)) (by have:=Zzm1 g k;omega) (fun b hb=>?_);obtain ⟨b1,b2,_⟩:=Z3n1 hg hb;simp only [Z9p,Z8p];rw [Zhm1 (c:=c) b1 (by omega),OB];cases decide (cg c b=0)<;>rfl
   rw [h9,OB];cases ht:(Zxm1 g k).any fun b=>decide (cg c b=0)&&decide ((k:Int)<b) with
   | true=>refine keep ?_;unfold newC Zkn1;rw [ht];simp
   | false=>
     have e:newC g c k=(Zjn1 c (Zxm1 g k):Int):=by unfold newC Zkn1;rw [ht,DT h0];simp
     dsimp only [Zf41];have at1:=Zsa1 (l:=(List.range k).map (newC g c)++cg c k::c.drop (k+1)) rfl;rw [hA] at at1;have st1:=Zta1 ((List.range k).map (newC g c)) (c.drop (k+1)) (cg c k) 1;rw [hA] at st1;rw [Z1a1,at1,OB,st1,Zon1 g hg c E k (by omega) _ _ hA,e];simp
  ·rw [DN h0,Bool.not_false,Z0a1];refine keep ?_;unfold newC Zkn1;rw [DN h0];simp
 ·dsimp only [Zg41];rw [DN (by omega),Z1a1,List.drop_eq_nil_of_le (by omega),List.append_nil];rfl
theorem Zrn1 (p:Nat→Bool):∀(f k j:Nat),p j=true→k≤j→j≤k+f→lsf p f k≤j
 | 0,k,j,_,h1,_=>h1
 | f+1,k,j,h,h1,h2=>by
   simp only [lsf];split
   ·exact h1
   ·rename_i hp;have:k≠j:=by rintro rfl;exact hp h
    exact Zrn1 p f (k+1) j h (by omega) (by omega)
theorem Zsn1 {α:Type} (p q:α→Bool):∀(l:List α),(∀x∈l,p x=true→q x=true)→(∃x∈l,q x=true∧p x=false)→l.countP p<l.countP q
 | [],_,⟨x,hx,_⟩=>absurd hx (by simp)
 | y::l,h,⟨x,hx,h1,h2⟩=>by
   have hle:l.countP p≤l.countP q:=List.countP_mono_left fun z hz=>h z (List.mem_cons_of_mem _ hz);rw [List.countP_cons,List.countP_cons];rcases List.mem_cons.1 hx with rfl | hx
   ·rw [h1,h2];simp;omega
   ·have:=Zsn1 p q l (fun z hz=>h z (List.mem_cons_of_mem _ hz)) ⟨x,hx,h1,h2⟩;have hy:=h y (by simp);cases hp:p y with
    | false=>simp;omega
    | true=>rw [hy hp];simp;omega
def Ztn1 (g:Graph) (c:List Int):Nat:=(List.range g.N.toNat).countP fun a:Nat=>decide (cg c (a:Int)=0)
theorem Zun1 (g:Graph) (c:List Int):Ztn1 g c≤g.N.toNat:=by have:=List.countP_le_length (p:=fun a:Nat=>decide (cg c (a:Int)=0)) (l:=List.range g.N.toNat);simpa [Ztn1] using this
structure ColN (g:Graph) (c:List Int) (n:Nat):Prop where
 len:(c.length:Int)=g.N
 lo:∀x∈c,0≤x
 hi:∀x∈c,x≤n
 ne:∀a b,b∈Zxm1 g a→cg c a≠0→cg c b≠0→cg c a≠cg c b
theorem ColN.I {g:Graph} {c:List Int} {n:Nat} (h:ColN g c n) (E:n≤100):ColI g c:=⟨h.len,h.lo,fun x hx=>by have:=h.hi x hx;omega⟩
theorem Zvn1 {g:Graph} {c:List Int} {a:Int} (h0:0≤a) (h:a<g.N):cg (Zln1 g c) a=newC g c a.toNat:=by unfold cg Zln1;rw [List.getElem?_map,List.getElem?_range (by omega)];rfl
theorem Zwn1 {g:Graph} (hg:okG g=true) {a b:Int} (h:b∈Zxm1 g a):a∈Zxm1 g b:=by rw [Z1n1 hg] at *;exact h.symm
theorem Zxn1 {c E:List Int} {a:Int}:Zkn1 c E a=true↔cg c a=0∧∀b∈E,cg c b=0→b≤a:=by
 unfold Zkn1;simp only [Bool.and_eq_true,decide_eq_true_eq,Bool.not_eq_true',List.any_eq_false,Bool.and_eq_true,decide_eq_true_eq,not_and];constructor
 ·rintro ⟨h1,h2⟩;exact ⟨h1,fun b hb h0=>by have:=h2 b hb h0;omega⟩
 ·rintro ⟨h1,h2⟩;exact ⟨h1,fun b hb h0=>by have:=h2 b hb h0;omega⟩
theorem Zyn1 {g:Graph} {c:List Int} {n:Nat} (E:ColN g c n) (J:n≤100) (a:Int):Zjn1 c (Zxm1 g a)≤n+1:=by
 refine Zrn1 _ _ _ _ ?_ (by omega) (by omega);simp only [Bool.not_eq_true'];unfold Zin1;rw [List.any_eq_false];intro b hb;simp only [decide_eq_true_eq];intro he;by_cases h:0≤b∧b<c.length
 ·have:=E.hi _ (Zmn1 (c:=c) h.1 h.2);omega
 ·unfold cg at he;have h6:0≤b.toNat:=Nat.zero_le _;cases hq:c[b.toNat]? with
  | none=>rw [hq] at he;simp at he;omega
  | some y=>rw [hq] at he;have:=E.hi y (List.mem_iff_getElem?.2 ⟨_,hq⟩);simp at he;omega
theorem Zzn1 (g:Graph) (c:List Int) (a:Nat):(Zkn1 c (Zxm1 g a) a=true∧newC g c a=(Zjn1 c (Zxm1 g a):Int))∨(Zkn1 c (Zxm1 g a) a=false∧newC g c a=cg c a):=by unfold newC;cases Zkn1 c (Zxm1 g a) a<;>simp
theorem ColN.round {g:Graph} (hg:okG g=true) {c:List Int} {n:Nat} (E:ColN g c n) (J:n≤100):ColN g (Zln1 g c) (n+1):=by
 obtain ⟨g1,g2,_,_,_⟩:=Zgm1 hg;have hI:=E.I J;have h6:∀x∈Zln1 g c,0≤x∧x≤n+1:=fun x hx=>by
  obtain ⟨a,ha,rfl⟩:=List.mem_map.1 hx;have ha':=List.mem_range.1 ha;have:=Zyn1 E J a;rcases Zzn1 g c a with ⟨_,h2⟩ | ⟨_,h2⟩
  ·rw [h2];omega
  ·rw [h2];have hm:=Zmn1 (c:=c) (a:=(a:Int)) (by omega) (by have:=E.len;omega);have:=E.lo _ hm;have:=E.hi _ hm;omega
 refine ⟨by simp [Zln1];omega,fun x hx=>(h6 x hx).1,fun x hx=>by have:=(h6 x hx).2;omega,fun a b hb h8 h9=>?_⟩;obtain ⟨b1,b2,b3,a1,a2⟩:=Z3n1 hg hb;have hd:=Zwn1 hg hb;rw [Zvn1 a1 a2] at h8 ⊢;rw [Zvn1 b1 b2] at h9 ⊢;have ea:((a.toNat:Nat):Int)=a:=Int.toNat_of_nonneg a1;have eb:((b.toNat:Nat):Int)=b:=Int.toNat_of_nonneg b1;have ua:=(Znn1 hg hI a).1;have ub:=(Znn1 hg hI b).1;unfold Zin1 at ua ub;rw [List.any_eq_false] at ua ub;have ua':=ua b hb;have ub':=ub a hd;simp only [decide_eq_true_eq] at ua' ub';rcases Zzn1 g c a.toNat with ⟨h1,h2⟩ | ⟨h1,h2⟩<;>rcases Zzn1 g c b.toNat with ⟨k1,k2⟩ | ⟨k1,k2⟩<;>rw [ea] at h1 h2<;>rw [eb] at k1 k2
 ·rw [Zxn1] at h1 k1;have:=h1.2 b hb k1.1;have:=k1.2 a hd h1.1;exact absurd (by omega) b3
 ·rw [h2,k2];exact fun e=>ua' e.symm
 ·rw [h2,k2];exact ub'
 ·rw [h2,k2];rw [h2] at h8;rw [k2] at h9;exact E.ne a b hb h8 h9
theorem Z0o1 (p:Nat→Bool):∀n:Nat,(∃a,a<n∧p a=true)→∃a,a<n∧p a=true∧∀b,b<n→p b=true→b≤a
 | 0,⟨a,h,_⟩=>absurd h (by omega)
 | n+1,⟨a,h,hp⟩=>by
   cases hn:p n with
   | true=>exact ⟨n,by omega,hn,fun b hb _=>by omega⟩
   | false=>
     have:a≠n:=by rintro rfl;rw [hn] at hp;simp at hp
     obtain ⟨a',h1,h2,h3⟩:=Z0o1 p n ⟨a,by omega,hp⟩;refine ⟨a',by omega,h2,fun b hb hpb=>?_⟩;have:b≠n:=by rintro rfl;rw [hn] at hpb;simp at hpb
     exact h3 b (by omega) hpb
theorem Z1o1 {g:Graph} (hg:okG g=true) {c:List Int} {n:Nat} (E:ColN g c n) (J:n≤100) (h0:(0:Int)∈c):Ztn1 g (Zln1 g c)<Ztn1 g c:=by
 have hI:=E.I J;have ex:∃a,a<g.N.toNat∧(fun a:Nat=>decide (cg c (a:Int)=0)) a=true:=by obtain ⟨k,hk⟩:=List.mem_iff_getElem?.1 h0;have h8:=(List.getElem?_eq_some_iff.1 hk).1;have:=E.len;refine ⟨k,by omega,?_⟩;simp [cg,hk]
 obtain ⟨a,h1,h2,h3⟩:=Z0o1 _ _ ex;simp only [decide_eq_true_eq] at h2 h3;refine Zsn1 _ _ _ (fun b hb hz=>?_) ⟨a,List.mem_range.2 h1,by simpa using h2,?_⟩
 ·have hb':=List.mem_range.1 hb;have hf:=(Znn1 hg hI b).2.1;simp only [decide_eq_true_eq] at hz ⊢;rw [Zvn1 (by omega) (by omega),Int.toNat_natCast] at hz;rcases Zzn1 g c b with ⟨k1,k2⟩ | ⟨k1,k2⟩
  ·rw [Zxn1] at k1;exact k1.1
  ·rw [←k2];exact hz
 ·have ht:Zkn1 c (Zxm1 g a) a=true:=by rw [Zxn1];refine ⟨h2,fun b hb h6=>?_⟩;obtain ⟨b1,b2,_⟩:=Z3n1 hg hb;have:=h3 b.toNat (by omega) (by rw [Int.toNat_of_nonneg b1];exact h6);omega
  have hf:=(Znn1 hg hI a).2.1;simp only [decide_eq_false_iff_not];rw [Zvn1 (by omega) (by omega),Int.toNat_natCast];unfold newC;rw [ht];simp;omega
def runL (g:Graph):Nat→List Int→Int→List Int×Int
 | 0,c,n=>(c,n)
 | f+1,c,n=>if (0:Int)∈c then runL g f (Zln1 g c) (n+1) else (c,n)
theorem Z2o1 {g:Graph} {c:List Int} {n:Nat} (E:ColN g c n) (h0:(0:Int)∈c):0<Ztn1 g c:=by obtain ⟨k,hk⟩:=List.mem_iff_getElem?.1 h0;have h6:=(List.getElem?_eq_some_iff.1 hk).1;have:=E.len;refine List.countP_pos_iff.2 ⟨k,List.mem_range.2 (by omega),?_⟩;simp [cg,hk]
theorem Z3o1 {g:Graph} (hg:okG g=true):∀(f:Nat) (c:List Int) (n:Nat),ColN g c n→Ztn1 g c≤f→n+f≤100→Zim1 g (runL g f c n).1=true∧(runL g f c n).1.length≤64:=by
 obtain ⟨g1,g2,g3,g4,g5⟩:=Zgm1 hg;have done:∀(c:List Int) (n:Nat),ColN g c n→(0:Int)∉c→Zim1 g c=true∧c.length≤64:=fun c n hc h0=>by
  have hl:=hc.len;refine ⟨?_,by omega⟩;unfold Zim1;rw [DT hl,Bool.true_and,Bool.and_eq_true,List.all_eq_true,List.all_eq_true];have nz:∀a:Int,0≤a→a<g.N→cg c a≠0:=fun a h1 h2 h=>h0 (h ▸ Zmn1 (c:=c) h1 (by omega));refine ⟨fun x hx=>?_,fun e he=>?_⟩
  ·have:=hc.lo x hx;have:x≠0:=by rintro rfl;exact h0 hx
   simp;omega
  ·obtain ⟨e1,e2,e3⟩:=g4 e he;have:=hc.ne e.A e.B ((Z1n1 hg).2 (.inl he)) (nz _ e1 (by omega)) (nz _ (by omega) e3);simpa using this
 intro f;induction f with
 | zero=>
   intro c n hc hz _;have h0:(0:Int)∉c:=fun h=>by have:=Z2o1 hc h;omega
   exact done c n hc h0
 | succ f ih=>
   intro c n hc hz hn;simp only [runL];split
   ·rename_i h0;have:=Z1o1 hg hc (by omega) h0;have k:=ih (Zln1 g c) (n+1) (hc.round hg (by omega)) (by omega) (by omega);rwa [show ((n+1:Nat):Int)=(n:Int)+1 from rfl] at k
   ·rename_i h0;exact done c n hc h0
theorem Z4o1 {g:Graph} (hg:okG g=true):∀(f:Nat) (c:List Int) (n:Nat),ColN g c n→Ztn1 g c≤f→n+f≤100→loop (Zu51 g) (c,(n:Int))=some ((runL g f c n).1,(runL g f c n).2,0):=by
 obtain ⟨g1,g2,g3,g4,g5⟩:=Zgm1 hg;have stop:∀(c:List Int) (n:Nat),ColN g c n→(0:Int)∉c→loop (Zu51 g) (c,(n:Int))=some (c,(n:Int),0):=fun c n hc h0=>by have hl:=hc.len;rw [Zcc];dsimp only [Zu51];rw [Zlb1 c 0 (by omega),OB,DN h0,Z1a1];rfl
 intro f;induction f with
 | zero=>
   intro c n hc hz _;have h0:(0:Int)∉c:=fun h=>by have:=Z2o1 hc h;omega
   exact stop c n hc h0
 | succ f ih=>
   intro c n hc hz hn;have hl:=hc.len;simp only [runL];by_cases h0:(0:Int)∈c
   ·rw [if_pos h0,Zcc];dsimp only [Zu51];rw [Zlb1 c 0 (by omega),OB,DT h0,Z0a1,Zqn1 g hg c (hc.I (by omega)),OB,Z9a1 (by omega)];have:=Z1o1 hg hc (by omega) h0;exact ih (Zln1 g c) (n+1) (hc.round hg (by omega)) (by omega) (by omega)
   ·rw [if_neg h0];exact stop c n hc h0
def c0 (g:Graph):List Int:=List.replicate g.N.toNat 0
def Z5o1 (g:Graph):List Int:=(runL g 64 (c0 g) 0).1
theorem cg_c0 (g:Graph) (a:Int):cg (c0 g) a=0:=by unfold cg c0;rw [List.getElem?_replicate];split<;>rfl
theorem Z6o1 {g:Graph} (hg:okG g=true):ColN g (c0 g) 0:=by
 obtain ⟨g1,_⟩:=Zgm1 hg;refine ⟨by simp [c0];omega,fun x hx=>?_,fun x hx=>?_,fun a b _ h _=>absurd (cg_c0 g a) h⟩
 ·have:=List.eq_of_mem_replicate hx;omega
 ·have:=List.eq_of_mem_replicate hx;omega
theorem Z7o1 {g:Graph} (hg:okG g=true) (c:List Int):Ztn1 g c≤64:=by have:=Zun1 g c;have:=(Zgm1 hg).2.1;omega
theorem Z8o1 {g:Graph} (hg:okG g=true):Zim1 g (Z5o1 g)=true∧(Z5o1 g).length≤64:=by have:=Z3o1 hg 64 (c0 g) 0 (Z6o1 hg) (Z7o1 hg _) (by omega);exact this
theorem s_Run (g:Graph) (hg:okG g=true):Zv51 g=some (Z5o1 g,(runL g 64 (c0 g) 0).2,0):=by
 obtain ⟨g1,g2,_⟩:=Zgm1 hg;simp only [Zv51,Zfm1,hg,if_true,OB,decide_true,Bool.not_true,Z1a1];have e:mk_ 8 g.N 0=some (c0 g):=by unfold mk_;rw [if_pos ⟨by omega,by omega⟩];rfl
 rw [e,OB];exact Z4o1 hg 64 (c0 g) 0 (Z6o1 hg) (Z7o1 hg _) (by omega)
def Z9o1 (g:Graph):Scene:=⟨Z6n1 g (Z5o1 g),[]⟩
theorem s_New (g:Graph):Zo61 g=some (if okG g then (Z9o1 g,0) else (⟨[],[]⟩,30)):=by
 cases hg:okG g with
 | false=>
   have:Zv51 g=some ([],0,30):=by simp only [Zv51,Zfm1,hg,OB];rfl
   simp only [Zo61,this,OB];rfl
 | true=>obtain ⟨h1,h2⟩:=Z8o1 hg;simp only [Zo61,s_Run g hg,OB,decide_true,Bool.not_true,Z1a1,Zan1 g _ (show (Z5o1 g).length≤1000000 by omega),hg,h1,if_true];rfl
def key (d:DI):Int×List Int:=(d.ID,d.SD.map (·.Peer))
theorem Zao1 (d:DI):Z4q d=some (okD d):=by
 have key:d.SD.length≤63→loop (Z2q d) 0=some (Ztc1 d.ID (-1) d.SD):=fun hl=>by
  refine Zna1 d.SD (Z2q d) (fun pre=>(pre.length:Int)) (fun pre post=>some (Ztc1 d.ID (Zxc1 (-1) pre) post)) (fun pre=> -1≤Zxc1 (-1) pre) (fun pre x post h hI=>?_) (fun _=>?_) d.SD [] rfl (Int.le_refl _)
  ·have hx:=Zpa1 h;have hm:=Zqa1 h;have body:Z2q d (pre.length:Int)=Z1q (pre.length:Int) (!Zsc1 d.ID (Zxc1 (-1) pre) x):=by
    have bad:∀b:Bool,b=false→Z1q (pre.length:Int) (!b)=Z1q (pre.length:Int) true:=fun b e=>by rw [e];rfl
    have tail:ifb (decide (x.Epoch<0)) (Z1q (pre.length:Int) true) (ifb (decide (65535<x.Epoch)) (Z1q (pre.length:Int) true) (ifb (decide (x.State<0)) (Z1q (pre.length:Int) true) (ifb (decide (3<x.State)) (Z1q (pre.length:Int) true) (ifb x.DY (Z1q (pre.length:Int) (!x.Fork)) (Z1q (pre.length:Int) false)))))
      =Z1q (pre.length:Int) (!(decide (0≤x.Epoch)&&(decide (x.Epoch≤65535)&&(decide (0≤x.State)&&(decide (x.State≤3)&&!(x.DY&&!x.Fork)))))):=by
     rw [show decide (0≤x.Epoch)=!decide (x.Epoch<0) by rw [←decide_not,decide_eq_decide];omega,show decide (x.Epoch≤65535)=!decide (65535<x.Epoch) by rw [←decide_not,decide_eq_decide];omega,
      show decide (0≤x.State)=!decide (x.State<0) by rw [←decide_not,decide_eq_decide];omega,show decide (x.State≤3)=!decide (3<x.State) by rw [←decide_not,decide_eq_decide];omega]
     cases decide (x.Epoch<0) with
     | true=>rfl
     | false=>
       cases decide (65535<x.Epoch) with
       | true=>rfl
       | false=>
         cases decide (x.State<0) with
         | true=>rfl
         | false=>
           cases decide (3<x.State) with
           | true=>rfl
           | false=>cases x.DY<;>cases x.Fork<;>rfl
    dsimp only [Z2q];rw [Z7a1 hx,Z0a1,Z4a1 hx,OB];by_cases h1:x.Peer<0
    ·rw [DT h1,Z0a1,bad];unfold Zsc1;rw [DN (by omega)];rfl
    ·rw [DN h1,Z1a1];by_cases h2:x.Peer=d.ID
     ·rw [DT h2,Z0a1,bad];unfold Zsc1;rw [DT h2];simp
     ·rw [DN h2,Z1a1];rcases List.eq_nil_or_concat pre with rfl | ⟨q,y,rfl⟩
      ·rw [show decide ((0:Int)<(([]:List Side).length:Nat))=false from rfl,Z1a1,tail];have e:Zxc1 (-1) [] = -1:=rfl;rw [e];unfold Zsc1;rw [DT (show -1<x.Peer by omega),DN h2];rfl
      ·rw [List.concat_eq_append] at *;have hy:d.SD[q.length]?=some y:=by rw [h];simp
       rw [DT (show (0:Int)<((q++[y]).length:Nat) by rw [Zua1];omega),Z0a1];have e1:wr (((q++[y]).length:Nat)-1)=(q.length:Int):=by rw [Zua1] at hm ⊢;rw [Z3a1 (by omega) (by omega)];omega
       rw [e1,Z4a1 hy,OB,Zyc1];by_cases h3:x.Peer≤y.Peer
       ·rw [DT h3,Z0a1,bad];unfold Zsc1;rw [DN (by omega)];rfl
       ·rw [DN h3,Z1a1,tail];unfold Zsc1;rw [DT (show y.Peer<x.Peer by omega),DN h2];rfl
   rw [body];cases hs:Zsc1 d.ID (Zxc1 (-1) pre) x with
   | true=>left;refine ⟨by dsimp only [Z1q];rw [Bool.not_true,Z1a1,Z9a1 (by omega),Zua1],?_,by rw [Ztc1,hs,Zyc1,Bool.true_and]⟩;rw [Zyc1];unfold Zsc1 at hs;simp only [Bool.and_eq_true,decide_eq_true_eq] at hs;omega
   | false=>exact .inr ⟨false,rfl,by rw [Ztc1,hs,Bool.false_and]⟩
  ·dsimp only [Z2q];rw [Z8a1,Z1a1];rfl
 have j1:Z3q d (decide (63<ln Side.row d.SD))=some (decide (d.SD.length<64)&&Ztc1 d.ID (-1) d.SD):=by
  dsimp only [Z3q];by_cases h:d.SD.length<64
  ·rw [ln_eq,DN (by omega),Z1a1,key (by omega),DT h];rfl
  ·rw [ln_eq,DT (by omega),Z0a1,DN h];rfl
 simp only [Z4q,j1];unfold okD;by_cases h1:d.ID<0
 ·rw [DT h1,Z0a1,DN (show ¬0≤d.ID by omega)];rfl
 ·rw [DN h1,Z1a1,DT (show 0≤d.ID by omega)];by_cases p0:d.PH=0
  ·rw [p0];rfl
  ·by_cases p1:d.PH=1
   ·rw [p1];rfl
   ·by_cases p2:d.PH=2
    ·rw [p2];rfl
    ·rw [DN p0,DN p1,DN p2];by_cases q:0≤d.PH
     ·rw [DN (show ¬d.PH≤2 by omega)];simp [Z3q]
     ·rw [DN q];simp [Z3q]
theorem Zbo1 {g:Graph} (hg:okG g=true) {c:List Int} (E:(c.length:Int)=g.N) (a:Int) (k:Nat):Zkp c (Zxm1 g a) k=some (Zin1 c (Zxm1 g a) k):=by
 have hl:=Zzm1 g a;have h3:=(Zgm1 hg).2.2.1;have:=Zka1 (Zxm1 g a) (Zjp c (Zxm1 g a) k) (fun b=>decide (cg c b=(k:Int))) true false (by omega) (fun i b hb=>by
  have hx:b∈Zxm1 g a:=List.mem_iff_getElem?.2 ⟨_,hb⟩;obtain ⟨b1,b2,_⟩:=Z3n1 hg hx;dsimp only [Zjp];rw [Z7a1 hb,Z0a1,Z4a1 hb,OB,Zhm1 (c:=c) b1 (by omega),OB];cases decide (cg c b=(k:Int)) with
  | true=>rfl
  | false=>rw [Z1a1,Zaa1 hb (by omega)];rfl) (by
  dsimp only [Zjp];rw [Z8a1,Z1a1];rfl)
 unfold Zkp Zin1;rw [this];cases (Zxm1 g a).any fun b=>decide (cg c b=(k:Int))<;>rfl
theorem Zco1 {g:Graph} (hg:okG g=true) {c:List Int} (E:(c.length:Int)=g.N) {a:Int} (h0:0≤a) (h1:a<g.N):Zgp c (Zxm1 g a) a=some (Zkn1 c (Zxm1 g a) a):=by
 have hl:=Zzm1 g a;have h3:=(Zgm1 hg).2.2.1;have:=Zma1 (Zxm1 g a) (Zfp c (Zxm1 g a) a) (fun pre=>(pre.length:Int)) (fun _ post=>some (decide (cg c a=0)&&!post.any fun b=>decide (cg c b=0)&&decide (a<b))) (fun pre b post h=>by
  have hx:=Zpa1 h;have hm:=Zqa1 h;obtain ⟨b1,b2,_⟩:=Z3n1 hg (Zra1 h);dsimp only [Zfp];rw [Z7a1 hx,Z0a1,Z4a1 hx,OB,OB,Zhm1 (c:=c) b1 (by omega),OB,List.any_cons];by_cases q1:a<b
  ·rw [DT q1,Z0a1];by_cases q2:cg c b=0
   ·rw [DT q2];exact .inr ⟨false,rfl,by simp⟩
   ·rw [DN q2];left;dsimp only [Zep];rw [Z1a1,Z9a1 (by omega),Zua1];exact ⟨rfl,by simp⟩
  ·rw [DN q1,Z1a1];left;dsimp only [Zep];rw [Z1a1,Z9a1 (by omega),Zua1];exact ⟨rfl,by simp⟩) (by
  dsimp only [Zfp];rw [Z8a1,Z1a1];dsimp only [Zdp];rw [Zhm1 (c:=c) h0 (by omega),OB];simp)
 exact this
theorem Zdo1 (g:Graph) (hg:okG g=true) (a:Int):Zjy g a=some (Zxm1 g a):=by
 obtain ⟨g1,g2,g3,_,_⟩:=Zgm1 hg;rw [Zcn1 hg];refine Zva1 g.N.toNat (Ziy g a) (fun k=>((k:Int),((List.range k).map (fun k:Nat=>(k:Int))).filter (fun b=>hasB g a b))) _ (fun k hk=>?_) ?_
 ·have h6:(((List.range k).map (fun k:Nat=>(k:Int))).filter (fun b=>hasB g a b)).length≤64:=by have:=List.length_filter_le (fun b=>hasB g a b) ((List.range k).map (fun k:Nat=>(k:Int)));simp only [List.length_map,List.length_range] at this;omega
  dsimp only [Ziy];rw [DT (by omega),Z0a1,Zlm1,hg,OB];dsimp only [Zhy];rw [Z0a1,Zmm1 g a k (by omega),OB,Zdn1];cases hh:hasB g a k with
  | false=>rw [Z1a1];dsimp only [Zgy];rw [Z9a1 (by omega)];simp
  | true=>rw [Z0a1,Z6a1 _ _ (by omega) (by simp only [List.length_singleton];omega),OB];dsimp only [Zgy];rw [Z9a1 (by omega)];simp
 ·dsimp only [Ziy];rw [DN (by omega),Z1a1];rfl
theorem Zeo1 (g:Graph) (hg:okG g=true) (c:List Int) (E:ColI g c):Zw01 g c=some (Zln1 g c):=by
 obtain ⟨g1,g2,g3,_,_⟩:=Zgm1 hg;have h6:=E.len;refine Zva1 g.N.toNat (Zv01 g c) (fun k=>((k:Int),(List.range k).map (newC g c))) (Zln1 g c) (fun k hk=>?_) ?_
 ·dsimp only [Zv01];rw [DT (by omega),Z0a1,Zhm1 (c:=c) (Int.natCast_nonneg k) (by omega),OB,Zdo1 g hg,OB,Zco1 hg h6 (Int.natCast_nonneg k) (by omega),OB,Z7n1];have fin:∀z,Zt01 (k:Int) ((List.range k).map (newC g c)) z=some (.inl (((k+1:Nat):Int),(List.range k).map (newC g c)++[z])):=fun z=>by dsimp only [Zt01];rw [Z6a1 _ _ (by omega) (by simp only [List.length_map,List.length_range,List.length_singleton];omega),OB,Z9a1 (by omega)]
  have en:newC g c k=if Zkn1 c (Zxm1 g k) k then (Zjn1 c (Zxm1 g k):Int) else cg c k:=rfl
  rw [en];cases ht:Zkn1 c (Zxm1 g k) k with
  | false=>rw [Z1a1,fin];simp
  | true=>
    rw [Z0a1,if_pos rfl];have h8:Zin1 c (Zxm1 g k) 201=false:=by unfold Zin1;rw [List.any_eq_false];intro b hb;obtain ⟨b1,b2,_⟩:=Z3n1 hg hb;have:=E.hi _ (Zmn1 (c:=c) b1 (by rw [E.len];exact b2));simp;omega
    have key:∀f j:Nat,j+f=201→loop (Zu01 c k ((List.range k).map (newC g c)) (Zxm1 g k)) (j:Int)=some (.inl (((k+1:Nat):Int),(List.range k).map (newC g c)++[(lsf (fun k'=>!Zin1 c (Zxm1 g k) k') f j:Int)])):=by
     intro f;induction f with
     | zero=>
       intro j hj;have:j=201:=by omega
       subst this;rw [Zcc];dsimp only [Zu01];rw [Zbo1 hg h6,OB,h8,Z1a1,fin];rfl
     | succ f ih=>
       intro j hj;rw [Zcc];dsimp only [Zu01];rw [Zbo1 hg h6,OB];cases hu:Zin1 c (Zxm1 g k) j with
       | true=>rw [Z0a1,Z9a1 (by omega)];dsimp only;rw [ih (j+1) (by omega)];simp [lsf,hu]
       | false=>rw [Z1a1,fin];simp [lsf,hu]
    exact key 200 1 rfl
 ·dsimp only [Zv01];rw [DN (by omega),Z1a1];rfl
theorem Zfo1 {g:Graph} (hg:okG g=true):∀(f:Nat) (c:List Int) (n:Nat),ColN g c n→Ztn1 g c≤f→n+f≤100→loop (Z431 g) (c,(n:Int))=some ((runL g f c n).1,(runL g f c n).2):=by
 obtain ⟨g1,g2,g3,g4,g5⟩:=Zgm1 hg;have stop:∀(c:List Int) (n:Nat),ColN g c n→(0:Int)∉c→loop (Z431 g) (c,(n:Int))=some (c,(n:Int)):=fun c n hc h0=>by have hl:=hc.len;rw [Zcc];dsimp only [Z431];rw [Zcb1 c 0 (by omega),OB,DN h0,Z1a1];rfl
 intro f;induction f with
 | zero=>
   intro c n hc hz _;have h0:(0:Int)∉c:=fun h=>by have:=Z2o1 hc h;omega
   exact stop c n hc h0
 | succ f ih=>
   intro c n hc hz hn;have hl:=hc.len;simp only [runL];by_cases h0:(0:Int)∈c
   ·rw [if_pos h0,Zcc];dsimp only [Z431];rw [Zcb1 c 0 (by omega),OB,DT h0,Z0a1,Zeo1 g hg c (hc.I (by omega)),OB,Z9a1 (by omega)];have:=Z1o1 hg hc (by omega) h0;exact ih (Zln1 g c) (n+1) (hc.round hg (by omega)) (by omega) (by omega)
   ·rw [if_neg h0];exact stop c n hc h0
theorem Zgo1 (g:Graph) (hg:okG g=true):Z731 g=some (Z5o1 g,(runL g 64 (c0 g) 0).2):=by
 obtain ⟨g1,g2,_⟩:=Zgm1 hg;have:=Zwa1 g.N.toNat (Z631 g) (fun k=>((k:Int),List.replicate k 0)) (fun _=>loop (Z431 g) (c0 g,0)) (fun k hk=>.inl ⟨by
  dsimp only [Z631];rw [DT (by omega),Z0a1,Z6a1 _ _ (by omega) (by simp only [List.length_replicate,List.length_singleton];omega),OB,Z9a1 (by omega),List.replicate_succ'],rfl⟩) (by
  dsimp only [Z631];rw [DN (by omega),Z1a1];rfl)
 have e:Z731 g=loop (Z431 g) (c0 g,0):=this;rw [e];exact Zfo1 hg 64 (c0 g) 0 (Z6o1 hg) (Z7o1 hg _) (by omega)
theorem Zho1 (g:Graph) (hg:okG g=true):Zk41 g=some (Z9o1 g):=by simp only [Zk41,Zgo1 g hg,OB,Zfn1 g hg _ (Z8o1 hg).1];rfl
def bar0:Bar:=⟨[],[]⟩
def barT (g:Graph):Bar:=⟨(Z9o1 g).Diners.map fun d=>⟨d,0,[]⟩,[]⟩
theorem Zio1 (g:Graph):Z671 g=some (if okG g then (barT g,0) else (bar0,30)):=by
 simp only [Z671,s_New,OB];cases hg:okG g with
 | false=>rfl
 | true=>
   have hl:(Z9o1 g).Diners.length≤64:=by have:=Zgn1 hg (Z5o1 g);have:=(Zgm1 hg).2.1;show (Z6n1 g (Z5o1 g)).length≤64;omega
   rw [if_pos rfl,show decide ((0:Int)=0)=true from rfl,Bool.not_true,Z1a1,if_pos rfl];refine Zoa1 (Z9o1 g).Diners (Z571 (Z9o1 g,0)) (fun pre=>((pre.length:Int),pre.map fun d=>(⟨d,0,[]⟩:DK))) (barT g,0) (fun pre x post h=>?_) ?_
   ·have hx:=Zpa1 h;have hm:=Zqa1 h;dsimp only [Z571];rw [Z7a1 hx,Z0a1,Z4a1 hx,OB,Z6a1 _ _ (by omega) (by simp;omega),OB,Z9a1 (by omega),Zua1];simp
   ·dsimp only [Z571];rw [Z8a1,Z1a1];rfl
theorem Zjo1 (a b:DK) (hs:a.DI.SD.length≤1000000) (E:a.Need.length≤1000000):Zvu a b=some (decide (a=b)):=by obtain ⟨x,t,n⟩:=a;obtain ⟨x',t',n'⟩:=b;simp only at hs E;simp only [Zvu,Zuu,Zqc1 x x' hs,Zib1 n n' E,OB,DK.mk.injEq];by_cases h1:x=x'<;>by_cases h4:t=t'<;>by_cases h5:n=n'<;>simp [h1,h4,h5]
theorem Zko1 (g:Graph) (hg:okG g=true):Zz51 g=some (barT g):=by
 simp only [Zz51,Zho1 g hg,OB];have hl:(Z9o1 g).Diners.length≤64:=by have:=Zgn1 hg (Z5o1 g);have:=(Zgm1 hg).2.1;show (Z6n1 g (Z5o1 g)).length≤64;omega
 refine Zoa1 (Z9o1 g).Diners (Zy51 (Z9o1 g)) (fun pre=>((pre.length:Int),pre.map fun d=>(⟨d,0,[]⟩:DK))) (barT g) (fun pre x post h=>?_) ?_
 ·have hx:=Zpa1 h;have hm:=Zqa1 h;dsimp only [Zy51];rw [Z7a1 hx,Z0a1,Z4a1 hx,OB,Z6a1 _ _ (by omega) (by simp;omega),OB,Z9a1 (by omega),Zua1];simp
 ·dsimp only [Zy51];rw [Z8a1,Z1a1];rfl
theorem Zlo1 (d:DK) (p:Int) (hl:d.DI.SD.length≤1000000):Z8q d p=some (plc (d.DI.SD.findIdx? fun x=>decide (x.Peer=p))):=by
 unfold Z8q;refine Zia1 d.DI.SD _ _ (by omega) (fun k x hx=>?_) ?_
 ·simp only [Z7q,Z7a1 hx,Z0a1,Z4a1 hx,OB,Zaa1 hx (show d.DI.SD.length≤4000000000000000000 by omega)];cases decide (x.Peer=p)<;>rfl
 ·simp only [Z7q,Z8a1,Z1a1,Z6q,Option.map_some]
theorem Zmo1 (d:DK) (E:d.Need.length≤1000000):Z8v d=some (okDr d):=by
 simp only [Z8v,Zao1,OB];unfold okDr;cases hk:okD d.DI with
 | false=>rfl
 | true=>
   have hl:=Z1d1 hk;rw [Bool.not_true,Z1a1,Bool.true_and];have key:loop (Z6v d) 0=some (okI none d.Need&&d.Need.all (Zpe1 d.DI)):=by
    refine Zma1 d.Need (Z6v d) (fun pre=>(pre.length:Int)) (fun pre post=>some (okI pre.getLast? post&&post.all (Zpe1 d.DI))) (fun pre x post h=>?_) ?_
    ·have hx:=Zpa1 h;have hm:=Zqa1 h;have j3:∀z,Z5v (pre.length:Int) z=if z then some (.inr false) else some (.inl ((pre.length+1:Nat):Int)):=fun z=>by
      cases z with
      | true=>rfl
      | false=>dsimp only [Z5v];rw [Z1a1,Z9a1 (by omega)];rfl
     dsimp only [Z6v];rw [Z7a1 hx,Z0a1,Z4a1 hx,OB,Zlo1 d x (by omega),OB,Zga1];have e0:(d.DI.SD.findIdx? fun y=>decide (y.Peer=x)).isNone=!Zpe1 d.DI x:=by unfold Zpe1;rw [←Zja1];cases d.DI.SD.findIdx? fun y=>decide (y.Peer=x)<;>rfl
     rw [e0];cases hs:Zpe1 d.DI x with
     | false=>right;refine ⟨false,by rw [Bool.not_false,Z0a1,j3];rfl,by rw [List.all_cons,hs,Bool.false_and,Bool.and_false]⟩
     | true=>
       rw [Bool.not_true,Z1a1];rcases List.eq_nil_or_concat pre with rfl | ⟨q,y,rfl⟩
       ·left;rw [show decide ((0:Int)<(([]:List Int).length:Nat))=false from rfl,Z1a1,j3];refine ⟨rfl,?_⟩;rw [List.all_cons,hs,Bool.true_and];rfl
       ·rw [List.concat_eq_append] at *;have hy:d.Need[q.length]?=some y:=by rw [h];simp
        rw [DT (show (0:Int)<((q++[y]).length:Nat) by rw [Zua1];omega),Z0a1];have e1:wr (((q++[y]).length:Nat)-1)=(q.length:Int):=by rw [Zua1] at hm ⊢;rw [Z3a1 (by omega) (by omega)];omega
        rw [e1,Z4a1 hy,OB,OB,j3];by_cases hc:x≤y
        ·right;refine ⟨false,by rw [DT hc];rfl,?_⟩;have:¬y<x:=by omega
         simp [okI,this]
        ·left;have:y<x:=by omega
         refine ⟨by rw [DN hc,Zua1 (q++[y])];rfl,?_⟩;simp [okI,this,hs]
    ·dsimp only [Z6v];rw [Z8a1,Z1a1];rfl
   have j1:∀z,Z7v d z=some (!z&&(okI none d.Need&&d.Need.all (Zpe1 d.DI))):=fun z=>by
    cases z with
    | true=>rfl
    | false=>dsimp only [Z7v];rw [Z1a1,key];rfl
   simp only [j1];have e3:decide ((0:Int)<ln Z3d d.Need)=decide (0<d.Need.length):=by rw [ln_eq,decide_eq_decide];omega
   rw [e3];by_cases h1:d.TH<0
   ·rw [DT h1,Z0a1,DN (show ¬0≤d.TH by omega)];rfl
   ·rw [DN h1,Z1a1,DT (show 0≤d.TH by omega)];by_cases h2:2<d.TH
    ·rw [DT h2,DN (show ¬d.TH≤2 by omega)];rfl
    ·rw [DN h2,DT (show d.TH≤2 by omega),Z1a1];cases decide (d.TH=0) with
     | false=>rw [Z1a1];simp
     | true=>rw [Z0a1];cases decide (0<d.Need.length)<;>simp
theorem Zno1 (n:Node) (h:FewN n):Zny n=some n:=by
 have h1:=h.sides;have h2:=h.need;have h3:=h.told;have h4:=h.known;have h5:=h.asked;have h6:=h.book;have hb:Zqp n.Book=some n.Book:=by
  unfold Zqp;refine Zoa1 n.Book.Sess _ (fun pre=>((pre.length:Int),pre)) _ (fun pre x post h0=>?_) ?_
  ·have hx:=Zpa1 h0;have hm:=Zqa1 h0;have hN:=h.needs x (Zra1 h0);dsimp only [Zpp];rw [Z7a1 hx,Z0a1,Z4a1 hx,OB,Z6a1 _ _ (by omega) (by simp;omega),OB,List.nil_append,Z6a1 _ _ (by omega) (by simp;omega),OB,Z9a1 (by omega),Zua1]
  ·dsimp only [Zpp,Zop];rw [Z8a1,Z1a1];rfl
 simp only [Zny,Zsu,Zmp,hb];rw [Z6a1 _ _ (by omega) (by simp;omega),OB,Z6a1 _ _ (by omega) (by simp;omega),OB,OB,OB,Z6a1 _ _ (by omega) (by simp;omega),OB,Z6a1 _ _ (by omega) (by simp;omega),OB,Z6a1 _ _ (by omega) (by simp;omega),OB];rfl
theorem Zoo1 (l m:List KE) (hl:l.length≤1000000):Zvp l m=some (decide (l=m)):=by
 simp only [Zvp,Z0b1];by_cases h:l.length=m.length
 ·simp only [h,decide_true,Bool.not_true,Z1a1];rw [Zxa1 l m _ (fun x y=>decide (x=y)) h (by omega) (fun k x y hx hy=>by simp only [Zup,Z7a1 hx,Z0a1,Z4a1 hx,Z4a1 hy,OB,Z9j1,Zaa1 hx (show l.length≤4000000000000000000 by omega),Z2a1];cases decide (x=y)<;>rfl) (by simp only [Zup,Z8a1,Z1a1,Ztp,Option.map_some]),Zya1 l m h]
 ·simp [h,Zza1 h]
theorem Zpo1 (b c:Book) (hb:Z2c1 b):Z2v b c=some (decide (b=c)):=by
 obtain ⟨L,l⟩:=b;obtain ⟨L',m⟩:=c;have h1:l.length≤1000000:=hb.1;have h2:∀s∈l,s.Need.length≤1000000:=hb.2;simp only [Z2v,Z1v,Z0b1,Book.mk.injEq];by_cases q1:L=L'
 ·by_cases h:l.length=m.length
  ·simp only [q1,h,decide_true,Bool.not_true,Z1a1,true_and];rw [Zxa1 l m _ (fun x y=>decide (x=y)) h (by omega) (fun k x y hx hy=>by have hm:=h2 x (List.mem_of_getElem? hx);have e:(⟨L',l⟩:Book).Sess=l:=rfl;simp only [Z0v,Zzu,Zyu,Z7a1 hx,Z0a1,Z4a1 hx,Z4a1 hy,OB,Zib1 x.Need y.Need hm,Zaa1 hx (show l.length≤4000000000000000000 by omega),Z2a1];obtain ⟨i,n,s,a⟩:=x;obtain ⟨i',n',s',a'⟩:=y;simp only [Sess.mk.injEq];by_cases g1:i=i'<;>by_cases g2:s=s'<;>by_cases g3:a=a'<;>by_cases g4:n=n'<;>simp [g1,g2,g3,g4,ifb]) (by simp only [Z0v,Z8a1,Z1a1,Zxu,Option.map_some]),Zya1 l m h]
  ·have hne:l≠m:=of_decide_eq_false (Zza1 h);simp [q1,h,hne]
 ·simp [q1]
theorem Zqo1 (a b:Node) (h:FewN a):Zqy a b=some (decide (a=b)):=by have h1:=h.sides;have h2:=h.need;have h3:=h.told;have h4:=h.known;have h5:=h.asked;obtain ⟨d,k,K,T,A⟩:=a;obtain ⟨d',k',K',T',A'⟩:=b;simp only at h1 h2 h3 h4 h5;simp only [Zqy,Zpy,Zjo1 d d' (by omega) (by omega),Zpo1 k k' h.bk,Zoo1 K K' (by omega),Zoo1 A A' (by omega),Zib1 T T' (by omega),OB,Node.mk.injEq];by_cases q1:d=d'<;>by_cases q2:k=k'<;>by_cases q3:K=K'<;>by_cases q4:T=T'<;>by_cases q5:A=A'<;>simp [q1,q2,q3,q4,q5]
theorem Zro1 (n:Node):Zyp n.Book=some (Zmf1 n):=by
 simp only [Zyp,Zxp,ln_eq];unfold Zmf1;cases h:n.Book.Sess with
 | nil=>rfl
 | cons s l=>rw [DT (by simp),Z0a1];rfl
theorem Zso1 (p:Int):setL [p]=[p]:=Zub1 (by simp)
def newK (d:DK):List KE:=d.DI.SD.map fun x=>⟨x.Peer,x.Epoch⟩
def newN (d:DK):Node:=⟨d,⟨0,[]⟩,newK d,[],[]⟩
structure NewD (d:DK):Prop where
 din:DinOK d.DI
 id:d.DI.ID<64
 th:d.TH=0
 nd:d.Need=[]
 sd:∀x∈d.DI.SD,x.Peer<64∧x.Epoch=1∧x.State=0
theorem Zto1 {d:DK} (h:NewD d):(newK d).Pairwise fun x y=>x.Peer<y.Peer:=List.pairwise_map.2 h.din.up
theorem NewD.ok {d:DK} (h:NewD d):OkN (newN d):=by
 refine ⟨⟨h.din,by rw [show (newN d).DK.TH=0 from h.th];omega,by rw [show (newN d).DK.TH=0 from h.th];omega,by rw [show (newN d).DK.Need=[] from h.nd];exact .nil,fun _=>h.nd,by rw [show (newN d).DK.Need=[] from h.nd];simp⟩,(by decide:okBk ⟨0,[]⟩=true),by simp [newN],by simp [newN],h.id,Zto1 h,?_,?_,.nil,by simp [newN],?_,.inl h.th,?_,by simp [newN]⟩
 ·intro k hk;obtain ⟨x,hx,rfl⟩:=List.mem_map.1 hk;have h1:=h.sd x hx;have h2:=(h.din.side x hx).lo;dsimp only;omega
 ·intro x hx;have h1:=h.sd x hx;have h2:Z5f1 (newK d) x.Peer=x.Epoch:=Zhg1 (Zto1 h) (k:=⟨x.Peer,x.Epoch⟩) (List.mem_map.2 ⟨x,hx,rfl⟩);exact ⟨h1.1,by omega,h2,fun e=>by omega⟩
 ·rw [show (newN d).DK.TH=0 from h.th];simp [Zmf1,newN]
 ·intro x hx hn;rw [show (newN d).DK.Need=[] from h.nd] at hn;simp at hn
theorem Zuo1 {d:DK} (h:NewD d):Ze81 d=some (newN d,0):=by
 have hl:=h.din.len;unfold Ze81;refine Zoa1 d.DI.SD _ (fun pre=>((pre.length:Int),pre.map fun x=>(⟨x.Peer,x.Epoch⟩:KE))) _ (fun pre x post h0=>?_) ?_
 ·have hx:=Zpa1 h0;have hm:=Zqa1 h0;dsimp only [Zd81];rw [Z7a1 hx,Z0a1,Z4a1 hx,OB,Z6a1 _ _ (by omega) (by simp;omega),OB,Z9a1 (by omega),Zua1,List.map_append];rfl
 ·dsimp only [Zd81,Zc81];rw [Z8a1,Z1a1];have hc:Zu71 (newN d)=some 0:=by rw [Zsf1 _ h.ok.few,(Z6i1 _).2 h.ok];rfl
  rw [show (⟨d,⟨0,[]⟩,d.DI.SD.map fun x=>(⟨x.Peer,x.Epoch⟩:KE),[],[]⟩:Node)=newN d from rfl,hc,OB];have hk:(newK d).length≤1000000:=by simp [newK];omega
  have ho:Zbz d.DI.ID d.DI.PH d.DI.SD d.TH d.Need 0 (newK d)=some (d.DI.SD,d.Need,newK d,[],[],[]):=by dsimp only [Zbz,Zaz,Z9z];rw [Z0d1 _ (by omega),OB,Z9c1 _ (by rw [h.nd];simp),OB,Zej1 _ hk,OB,Z9c1 _ (by simp),OB,Zej1 _ (by simp),OB,Zac1 _ (by simp),OB,Zcc];rfl
  show Option.map Sum.inr (ifb (!decide ((0:Int)=0)) _ ((Zbz d.DI.ID d.DI.PH d.DI.SD d.TH d.Need 0 (newK d)).bind _))=_;rw [ho];rfl
theorem Zvo1 (K:List KE) (p:Int) (hl:K.length≤1000000):Zhq K p=some (Z5f1 K p):=by
 unfold Zhq;refine Zma1 K _ (fun pre=>(pre.length:Int)) (fun _ post=>some (Z5f1 post p)) (fun pre x post h0=>?_) ?_
 ·have hx:=Zpa1 h0;have hm:=Zqa1 h0;dsimp only [Zgq];rw [Z7a1 hx,Z0a1,Z4a1 hx,OB];unfold Z5f1;rw [List.find?_cons];by_cases e:x.Peer=p
  ·right;refine ⟨x.Epoch,?_,?_⟩
   ·rw [DT e,Z0a1];rfl
   ·rw [DT e]
  ·left;rw [DN e,Z1a1,Z9a1 (by omega),Zua1];exact ⟨rfl,rfl⟩
 ·dsimp only [Zgq,Zfq];rw [Z8a1,Z1a1];rfl
theorem Zwo1 {d:DK} (h:NewD d):Z4z (newN d)=some true:=by
 have hl:=h.din.len;have hk:(newK d).length<64:=by simp [newK];omega
 have hok:=h.ok;have h4:loop (Zty (newN d)) 0=some true:=by rw [Zcc];dsimp only [Zty,Zsy];rw [show ln KE.row (newN d).AK=0 from rfl,DN (by omega),Z1a1,show (newN d).DK.DI.ID=d.DI.ID from rfl,DT (by have:=h.id;omega)];rfl
 have h3:loop (Zxy (newN d)) 0=some true:=by rw [Zcc];dsimp only [Zxy,Zuy];rw [show ln Z3d (newN d).Told=0 from rfl,DN (by omega),Z1a1,h4];rfl
 have h2:loop (Z0z (newN d)) 0=some true:=by
  refine Zoa1 d.DI.SD _ (fun pre=>(pre.length:Int)) _ (fun pre x post h0=>?_) ?_
  ·have hx:=Zpa1 h0;have hm:=Zqa1 h0;have q:=hok.sd x (Zra1 h0);have q2:=h.sd x (Zra1 h0);dsimp only [Z0z,Zzy];rw [show (newN d).DK.DI.SD=d.DI.SD from rfl,Z7a1 hx,Z0a1,Z4a1 hx,OB,DN (by omega),Z1a1,DN (by omega),Z1a1,Zvo1 _ _ (by show (newK d).length≤_;omega),OB,q.2.2.1,DT rfl,Bool.not_true,Z1a1,DN (show ¬x.State=1 by omega),DN (show ¬x.State=3 by omega),Z9a1 (by omega),Zua1];cases decide (x.Peer<(newN d).DK.DI.ID)<;>rfl
  ·dsimp only [Z0z,Zyy];rw [show (newN d).DK.DI.SD=d.DI.SD from rfl,Z8a1,Z1a1,h3];rfl
 unfold Z4z;refine Zoa1 (newK d) _ (fun pre=>(pre.length:Int)) _ (fun pre x post h0=>?_) ?_
 ·have hx:=Zpa1 h0;have hm:=Zqa1 h0;have q:=hok.kr x (Zra1 h0);dsimp only [Z3z,Z2z];rw [show (newN d).KN=newK d from rfl,Z7a1 hx,Z0a1,Z4a1 hx,OB,DN (by omega),Z1a1,DN (by omega),Z1a1];by_cases h0':pre.length=0
  ·rw [DN (by omega),Z1a1,DN (by omega),Z1a1,DN (by omega),Z1a1,Z9a1 (by omega),Zua1]
  ·obtain ⟨k,h6⟩:∃k,pre.length=k+1:=⟨pre.length-1,by omega⟩
   have hy:(newK d)[k]?=some (newK d)[k]:=List.getElem?_eq_getElem (by omega);have h8:(newK d)[k].Peer<x.Peer:=by have:=List.pairwise_iff_getElem.1 (Zto1 h) k pre.length (by omega) hm (by omega);obtain ⟨_,e⟩:=List.getElem?_eq_some_iff.1 hx;rw [e] at this;exact this
   rw [DT (show (0:Int)<pre.length by omega),Z0a1,h6,Z9b1 (by omega),Z4a1 hy,OB,DN (by omega),Z1a1,DN (by omega),Z1a1,DN (by omega),Z1a1,Z9a1 (by omega),Zua1,h6]
 ·dsimp only [Z3z,Z1z];rw [show (newN d).KN=newK d from rfl,Z8a1,Z1a1,h2];rfl
theorem Zxo1 {d:DK} (h:NewD d):Z711 (newN d)=some true:=by
 have hl:=h.din.len;have h6:Z8v d=some true:=by rw [Zmo1 d (by rw [h.nd];simp),(Z1i1 d).2 h.ok.dr]
 have h8:Zhv ⟨0,[]⟩=some true:=by dsimp only [Zhv,Zgv];rw [show decide ((0:Int)<0)=false by decide,Z1a1,show decide ((8:Int)<ln Sess.row [])=false by decide,Z1a1,Zcc];rfl
 have h2:loop (Z111 (newN d)) 0=some true:=by rw [Zcc];rfl
 have h1:loop (Z411 (newN d)) 0=some true:=by
  refine Zoa1 d.DI.SD _ (fun pre=>(pre.length:Int)) _ (fun pre x post h0=>?_) ?_
  ·have hx:=Zpa1 h0;have hm:=Zqa1 h0;have q2:=h.sd x (Zra1 h0);dsimp only [Z411,Z311];rw [show (newN d).DK.DI.SD=d.DI.SD from rfl,Z7a1 hx,Z0a1,Z4a1 hx,OB,DN (show ¬x.State=3 by omega),Z1a1,Z1a1,Z9a1 (by omega),Zua1]
  ·dsimp only [Z411,Z211];rw [show (newN d).DK.DI.SD=d.DI.SD from rfl,Z8a1,Z1a1,h2];rfl
 dsimp only [Z711,Z611,Z511];rw [show (newN d).DK=d from rfl,h6,OB,Bool.not_true,Z1a1,show (newN d).Book=⟨0,[]⟩ from rfl,h8,OB,Bool.not_true,Z1a1,Zwo1 h,OB,Bool.not_true,Z1a1];have hg:Zyp ⟨0,[]⟩=some false:=by have:=Zro1 (newN d);rw [show (newN d).Book=⟨0,[]⟩ from rfl] at this;rw [this];rfl
 rw [hg,OB,h.th,show (!(false==decide ((0:Int)=2)))=false by decide,Z1a1,show (!decide ((0:Int)=0))=false by decide,Z1a1,Z1a1,h1]
theorem Zyo1 {d:DK} (h:NewD d):Zb31 d=some (newN d,true):=by
 have hl:=h.din.len;unfold Zb31;refine Zoa1 d.DI.SD _ (fun pre=>((pre.length:Int),pre.map fun x=>(⟨x.Peer,x.Epoch⟩:KE))) _ (fun pre x post h0=>?_) ?_
 ·have hx:=Zpa1 h0;have hm:=Zqa1 h0;dsimp only [Za31];rw [Z7a1 hx,Z0a1,Z4a1 hx,OB,OB,Z6a1 _ _ (by omega) (by simp;omega),OB,Z9a1 (by omega),Zua1,List.map_append];rfl
 ·dsimp only [Za31,Z931];rw [Z8a1,Z1a1,show (⟨d,⟨0,[]⟩,d.DI.SD.map fun x=>(⟨x.Peer,x.Epoch⟩:KE),[],[]⟩:Node)=newN d from rfl,Zxo1 h];rfl
theorem Zzo1 (l:List Mail) (p:Mail→Option Bool) (q:Mail→Bool) (hl:l.length≤4000000000000000000) (hp:∀x∈l,p x=some (q x)):Zuq l p=some (plc (l.findIdx? q)):=by
 unfold Zuq;refine Zia1 l _ q hl (fun k x hx=>?_) ?_
 ·simp only [Ztq,Z7a1 hx,Z0a1,Z4a1 hx,OB,hp x (List.mem_iff_getElem?.2 ⟨k,hx⟩),Zaa1 hx hl];cases q x<;>rfl
 ·simp only [Ztq,Z8a1,Z1a1,Zsq,Option.map_some]
theorem Z0p1 (l:List Mail) (p:Mail→Option Bool) (q:Mail→Bool) (hl:l.length≤4000000000000000000) (hp:∀x∈l,p x=some (q x)):Ztv l p=some (l.any q):=by unfold Ztv;rw [Zzo1 l p q hl hp,OB,Zfa1,Zja1]
theorem Z1p1 (l:List Mail) (h:l.length≤1000000):Z1r l=some l:=by simp only [Z1r];rw [Z6a1 _ _ (by omega) (by simp;omega),List.nil_append]
theorem Z2p1 (l:List Node) (h:l.length≤1000000):Zzq l=some l:=by simp only [Zzq];rw [Z6a1 _ _ (by omega) (by simp;omega),List.nil_append]
theorem Z3p1 (n:Nat) (E:n≤3000000):Zxv n=some []:=by
 have e0:wr (0-0)=0:=Z3a1 (by omega) (by omega);have e1:wr ((n:Int)-0)=n:=by rw [Z3a1 (by omega) (by omega)];omega
 simp only [Zxv,Zwv,Zvv,e0,e1];rw [DN (by omega),Z1a1];by_cases h:0<n
 ·rw [DT (by omega),Z0a1];unfold Zpf;rw [if_pos ⟨by omega,by omega,by omega⟩,OB];unfold Z8c;rw [if_pos ⟨by omega,by omega,by omega⟩];simp
 ·rw [DN (by omega),Z1a1]
theorem Z4p1 (a b:List Mail) (ha:a.length≤1000000) (hb:b.length≤1000000):Ziz [a,b]=some (a++b):=by
 have g0:at_ [a,b] 0=some a:=rfl;have g1:at_ [a,b] (wr (0+1))=some b:=by rw [Z3a1 (by omega) (by omega)];rfl
 have l0:ln (Z7d 5 Mail.row) [a,b]=2:=by rw [ln_eq];rfl
 have w1:wr (0+1)=1:=Z3a1 (by omega) (by omega);have w2:wr (1+1)=2:=Z3a1 (by omega) (by omega);have s1:wr (0+ln Mail.row a)=(a.length:Int):=by rw [ln_eq,Z3a1 (by omega) (by omega)];omega
 have s2:wr ((a.length:Int)+ln Mail.row b)=((a.length+b.length:Nat):Int):=by rw [ln_eq,Z3a1 (by omega) (by omega)];omega
 unfold Ziz;rw [Zcc];dsimp only [Zhz];rw [l0,show decide ((0:Int)<2)=true from rfl,Z0a1,g0,OB,s1,DN (by omega),Z1a1];dsimp only [Zgz];rw [s1,w1,Zcc];dsimp only [Zhz];rw [l0,show decide ((1:Int)<2)=true from rfl,Z0a1,←w1,g1,OB,s2,DN (by omega),Z1a1];dsimp only [Zgz];rw [s2,w1,w2,Zcc];dsimp only [Zhz];rw [l0,show decide ((2:Int)<2)=false from rfl,Z1a1];dsimp only [Zfz];rw [Z3p1 _ (by omega),OB];have k:loop (Zez [a,b]) (0,[])=some (a++b):=by rw [Zcc];dsimp only [Zez];rw [l0,show decide ((0:Int)<2)=true from rfl,Z0a1,g0,OB,Z6a1 _ _ (by omega) (by simp;omega),OB,List.nil_append,w1];dsimp only;rw [Zcc];dsimp only [Zez];rw [l0,show decide ((1:Int)<2)=true from rfl,Z0a1,←w1,g1,OB,Z6a1 _ _ (by omega) (by omega),OB,w1,w2];dsimp only;rw [Zcc];dsimp only [Zez];rw [l0,show decide ((2:Int)<2)=false from rfl,Z1a1];rfl
 rw [k];rfl
def Z5p1:Hall:=⟨[],[]⟩
structure HallOK (h:Hall):Prop where
 nodes:∀(k:Nat) n,h.Nodes[k]?=some n→n.DK.DI.ID=k∧OkN n
 len:h.Nodes.length≤64
 mail:∀m∈h.Mail,0≤m.From∧m.From<h.Nodes.length∧0≤m.To∧m.To<h.Nodes.length∧m.From≠m.To
 ml:h.Mail.length≤1000000
theorem Z6p1 (h:Hall) (a:Int):Zqq h a=some (decide (0≤a)&&decide (a<h.Nodes.length)):=by simp only [Zqq,Zpq,ln_eq];cases decide (0≤a)<;>rfl
theorem Z7p1 {h:Hall} (hk:HallOK h):Zk81 h=some 0:=by
 have hl:=hk.len;unfold Zk81;refine Zoa1 h.Nodes _ (fun pre=>(pre.length:Int)) _ (fun pre x post h0=>?_) ?_
 ·have hx:=Zpa1 h0;have hm:=Zqa1 h0;obtain ⟨q1,q2⟩:=hk.nodes _ _ hx;dsimp only [Zj81,Zi81];rw [Z7a1 hx,Z0a1,Z4a1 hx,OB,DT q1,Bool.not_true,Z1a1,Zsf1 x q2.few,(Z6i1 x).2 q2,if_pos rfl,OB,show (!decide ((0:Int)=0))=false by decide,Z1a1,Z9a1 (by omega),Zua1]
 ·dsimp only [Zj81,Zh81];rw [Z8a1,Z1a1,ln_eq,DN (by omega),Z1a1];rw [Z0p1 h.Mail _ (fun _=>false) (by have:=hk.ml;omega) (fun m hm=>by obtain ⟨a1,a2,a3,a4,a5⟩:=hk.mail m hm;dsimp only [Zrv,Zqv];rw [Z6p1,OB,DT a1,DT a2,Bool.and_true,Bool.not_true,Z1a1,Z6p1,OB,DT a3,DT a4,Bool.and_true,Bool.not_true,Z1a1,DN a5])];simp only [List.any_eq_false.2 (fun _ _=>Bool.false_ne_true),OB];rfl
theorem Z8p1 (h:Hall) (E:∀n∈h.Nodes,FewN n) (hl:h.Nodes.length≤1000000) (hm:h.Mail.length≤1000000):Zf11 h=some h:=by
 unfold Zf11;rw [Z6a1 _ _ (by omega) (by simp;omega),OB,List.nil_append];refine Zoa1 h.Nodes _ (fun pre=>((pre.length:Int),pre)) _ (fun pre x post h0=>?_) ?_
 ·have hx:=Zpa1 h0;have hm':=Zqa1 h0;dsimp only [Ze11];rw [Z7a1 hx,Z0a1,Z4a1 hx,OB,Zno1 x (E x (Zra1 h0)),OB,Z6a1 _ _ (by omega) (by simp;omega),OB,Z9a1 (by omega),Zua1]
 ·dsimp only [Ze11,Zd11];rw [Z8a1,Z1a1];rfl
theorem Z9p1 (h:Hall) (E:∀n∈h.Nodes,FewN n) (hl:h.Nodes.length≤1000000) (hm:h.Mail.length≤1000000):Zb11 h h=some true:=by
 unfold Zb11;rw [DT rfl,Bool.not_true,Z1a1];refine Zoa1 h.Nodes _ (fun pre=>(pre.length:Int)) _ (fun pre x post h0=>?_) ?_
 ·have hx:=Zpa1 h0;have hm':=Zqa1 h0;dsimp only [Za11];rw [Z7a1 hx,Z0a1,Z4a1 hx,OB,OB,Zqo1 x x (E x (Zra1 h0)),DT rfl,OB,Bool.not_true,Z1a1,Z9a1 (by omega),Zua1]
 ·dsimp only [Za11,Z911];rw [Z8a1,Z1a1,Zrc1 _ _ hm,DT rfl];rfl
theorem Zap1 {g:Graph} (hg:okG g=true) (E:g.N≤24):∀d∈(barT g).Drinkers,NewD d:=by
 intro d hd;obtain ⟨e,he,rfl⟩:=List.mem_map.1 hd;obtain ⟨a,ha,rfl⟩:=List.mem_map.1 he;have ha':=List.mem_range.1 ha;have h0:=(Zgm1 hg).1;have h6:=Zym1 hg (a:Int);have h8:((Zxm1 g a).length:Int)≤g.N:=Zai1 h6 h0 fun x hx=>by have:=Z3n1 hg hx;omega
 refine ⟨⟨by dsimp only [Z5n1];omega,by dsimp only [Z5n1];omega,by dsimp only [Z5n1];omega,by dsimp only [Z5n1];rw [List.length_map];omega,List.pairwise_map.2 h6,?_⟩,by dsimp only [Z5n1];omega,rfl,rfl,?_⟩
 ·intro x hx;obtain ⟨b,hb,rfl⟩:=List.mem_map.1 hx;have:=Z3n1 hg hb;refine ⟨this.1,this.2.2.1,by dsimp only [Z4n1];omega,by dsimp only [Z4n1];omega,by dsimp only [Z4n1];omega,by dsimp only [Z4n1];omega,fun h=>h⟩
 ·intro x hx;obtain ⟨b,hb,rfl⟩:=List.mem_map.1 hx;have:=Z3n1 hg hb;exact ⟨by dsimp only [Z4n1];omega,rfl,rfl⟩
theorem Zbp1 {g:Graph} (hg:okG g=true):((barT g).Drinkers.length:Int)=g.N:=by have h0:=(Zgm1 hg).1;simp only [barT,Z9o1,Z6n1,List.length_map,List.length_range];omega
theorem Zcp1 {g:Graph} {k:Nat} {d:DK} (h:(barT g).Drinkers[k]?=some d):d.DI.ID=k:=by simp only [barT,Z9o1,Z6n1,List.getElem?_map,Option.map_eq_some_iff] at h;obtain ⟨e,⟨a,ha,rfl⟩,rfl⟩:=h;rw [List.getElem?_eq_some_iff] at ha;obtain ⟨_,ha⟩:=ha;rw [List.getElem_range] at ha;subst ha;rfl
def Zdp1 (g:Graph):Hall:=⟨(barT g).Drinkers.map newN,[]⟩
theorem Zep1 {g:Graph} (hg:okG g=true) (E:g.N≤24):HallOK (Zdp1 g):=by have hl:=Zbp1 hg;refine ⟨fun k n hn=>?_,by simp only [Zdp1,List.length_map];omega,by simp [Zdp1],by simp [Zdp1]⟩;simp only [Zdp1,List.getElem?_map,Option.map_eq_some_iff] at hn;obtain ⟨d,hd,rfl⟩:=hn;exact ⟨Zcp1 hd,(Zap1 hg E d (List.mem_iff_getElem?.2 ⟨k,hd⟩)).ok⟩
theorem Zfp1 (g:Graph) (E:g.N≤24):Zr81 g=some (if okG g then (Zdp1 g,0) else (Z5p1,30)):=by
 unfold Zr81;rw [Zio1];cases hg:okG g with
 | false=>rw [if_neg (by simp),if_neg (by simp)];rfl
 | true=>
   rw [if_pos rfl,if_pos rfl,OB,show (!decide ((0:Int)=0))=false by decide,Z1a1];have hl:=Zbp1 hg;refine Zoa1 (barT g).Drinkers _ (fun pre=>((pre.length:Int),pre.map newN)) _ (fun pre x post h0=>?_) ?_
   ·have hx:=Zpa1 h0;have hm:=Zqa1 h0;dsimp only [Zq81];rw [Z7a1 hx,Z0a1,Z4a1 hx,OB,Zuo1 (Zap1 hg E x (Zra1 h0)),OB,show (!decide ((0:Int)=0))=false by decide,Z1a1,Z6a1 _ _ (by omega) (by simp;omega),OB,Z9a1 (by omega),Zua1,List.map_append];rfl
   ·dsimp only [Zq81,Zp81];rw [Z8a1,Z1a1];rfl
theorem Zgp1 (g:Graph) (hg:okG g=true) (E:g.N≤24):Zs61 g=some (Zdp1 g):=by
 unfold Zs61;rw [Zko1 g hg,OB];have hl:=Zbp1 hg;refine Zoa1 (barT g).Drinkers _ (fun pre=>((pre.length:Int),pre.map newN)) _ (fun pre x post h0=>?_) ?_
 ·have hx:=Zpa1 h0;have hm:=Zqa1 h0;dsimp only [Zr61];rw [Z7a1 hx,Z0a1,Z4a1 hx,OB,Zyo1 (Zap1 hg E x (Zra1 h0)),OB,Z6a1 _ _ (by omega) (by simp;omega),OB,Z9a1 (by omega),Zua1,List.map_append];rfl
 ·dsimp only [Zr61,Zq61];rw [Z8a1,Z1a1];rfl
theorem HallOK.at {h:Hall} (hk:HallOK h) {n:Node} (E:n∈h.Nodes):OkN n:=by obtain ⟨k,hk'⟩:=List.mem_iff_getElem?.1 E;exact (hk.nodes k n hk').2
theorem Zhp1 (E:Int) (A:List Node) (n:Node) (J:n.Book.Sess.length≤1000000) (hs:∀s∈n.Book.Sess,s.Need.length≤1000000) (r:Int×List Node ⊕ Hall) (hr:Z0w E A n n.Book.Sess=some r):loop (Z2w E A n n.Book.Sess) (0,n.Book.Sess)=some r:=by
 refine Zoa1 n.Book.Sess _ (fun pre=>((pre.length:Int),n.Book.Sess)) _ (fun pre x post h0=>?_) ?_
 ·have hx:=Zpa1 h0;have hm:=Zqa1 h0;dsimp only [Z2w,Z1w];rw [Z7a1 hx,Z0a1,Z4a1 hx,OB,Z9c1 _ (hs x (Zra1 h0)),OB,show (⟨x.ID,x.Need,x.State,x.Age⟩:Sess)=x from rfl,Int.toNat_natCast,Z8c1 hx,Z9a1 (by omega),Zua1]
 ·dsimp only [Z2w];rw [Z8a1,Z1a1,hr];rfl
theorem Zip1 {h:Hall} (hk:HallOK h):Z7w h=some h:=by
 have hl:=hk.len;unfold Z7w;rw [Z1p1 _ (by have:=hk.ml;omega),OB,Z2p1 _ (by omega),OB];dsimp only [Z6w];refine Zoa1 h.Nodes _ (fun pre=>((pre.length:Int),h.Nodes)) _ (fun pre x post h0=>?_) ?_
 ·have hx:=Zpa1 h0;have hm:=Zqa1 h0;have hf:=(hk.at (Zra1 h0)).few;have hb:=hf.bk;dsimp only [Z5w];rw [Z7a1 hx,Z0a1,Z4a1 hx,OB,Z0d1 _ (by have:=hf.sides;omega),OB,Z9c1 _ (by have:=hf.need;omega),OB];rw [show (⟨⟨⟨x.DK.DI.ID,x.DK.DI.PH,x.DK.DI.SD⟩,x.DK.TH,x.DK.Need⟩,x.Book,x.KN,x.Told,x.AK⟩:Node)=x from rfl,Int.toNat_natCast,Z8c1 hx];dsimp only [Z4w];rw [Z4a1 hx,OB,Zej1 _ (by have:=hf.known;omega),OB,Z9c1 _ (by have:=hf.told;omega),OB,Zej1 _ (by have:=hf.asked;omega),OB];rw [show (⟨x.DK,x.Book,x.KN,x.Told,x.AK⟩:Node)=x from rfl,Int.toNat_natCast,Z8c1 hx];dsimp only [Z3w];rw [Z4a1 hx,OB,Zac1 _ hb.1,OB];refine Zhp1 _ _ x hb.1 hb.2 _ ?_;dsimp only [Z0w];rw [show (⟨x.DK,⟨x.Book.Last,x.Book.Sess⟩,x.KN,x.Told,x.AK⟩:Node)=x from rfl,Int.toNat_natCast,Z8c1 hx,Z9a1 (by omega),Zua1]
 ·dsimp only [Z5w,Zzv];rw [Z8a1,Z1a1];rfl
def Zjp1 (h:Hall) (k:Nat) (M:List Mail) (r:Node×List Mail×List Event×Int):Hall×List Event×Int:=if r.2.2.2=0 then (⟨h.Nodes.set k r.1,M++r.2.1⟩,r.2.2.1,0) else (Z5p1,[],r.2.2.2)
theorem Zkp1 {h:Hall} (hk:HallOK h) {k:Nat} {n:Node} (E:h.Nodes[k]?=some n) {a:Do} (hp:a.Kind=4→0≤a.Peer∧a.Peer<h.Nodes.length) {r:Node×List Mail×List Event×Int} (hr:Zy81 n a=some r) (hl:r.2.1.length≤1000000):
  Zm91 h k a=some (Zjp1 h k h.Mail r):=by
 have h8:=(List.getElem?_eq_some_iff.1 E).1;have h6:=hk.len;have h9:=hk.ml;have hj:Zl91 h k a false=some (Zjp1 h k h.Mail r):=by
  dsimp only [Zl91];rw [Z1a1,Zip1 hk,OB];dsimp only [Zf91,Z991];rw [Z4a1 E,OB,hr,OB,OB];dsimp only [Ze91];unfold Zjp1;by_cases e:r.2.2.2=0
  ·rw [DT e,Bool.not_true,Z1a1,Z2p1 _ (by omega),OB,Z4p1 _ _ (by omega) hl,OB,if_pos e];dsimp only [Zd91];rw [Z4a1 E];rfl
  ·rw [DN e,Bool.not_false,Z0a1,if_neg e];rfl
 unfold Zm91;rw [Z7p1 hk,OB,show (!decide ((0:Int)=0))=false by decide,Z1a1,Z6p1,OB,DT (by omega),DT (by omega),Bool.and_true,Bool.not_true,Z1a1];by_cases e:a.Kind=4
 ·have:=hp e;rw [DT e,Z0a1,Z6p1,OB,DT this.1,DT this.2,Bool.and_true,Bool.not_true,hj]
 ·rw [DN e,Z1a1,hj]
theorem Zlp1 (l:List Mail) (a b:Int) (hl:l.length≤1000000):Zuq l (fun z=>Z4r z a b)=some (plc (l.findIdx? fun m=>decide (m.From=a)&&decide (m.To=b))):=by refine Zzo1 l _ _ (by omega) fun m _=>?_;dsimp only [Z4r,Z3r];cases decide (m.From=a)<;>rfl
theorem Zmp1 {h:Hall} (hk:HallOK h) {a:Int} (ha:0≤a∧a<h.Nodes.length) {k:Nat} {n:Node} (E:h.Nodes[k]?=some n) {i:Nat} (hi:(h.Mail.findIdx? fun m=>decide (m.From=a)&&decide (m.To=(k:Int)))=some i) {m:Mail} (hm:h.Mail[i]?=some m)
  {r:Node×List Mail×List Event×Int} (hr:Z791 n a m.Msg=some r) (hl:r.2.1.length≤1000000):Zq91 h a k=some (Zjp1 h k (h.Mail.take i++h.Mail.drop (i+1)) r):=by
 have h9:=(List.getElem?_eq_some_iff.1 E).1;have hc:=(List.getElem?_eq_some_iff.1 hm).1;have h8:=hk.len;have h6:=hk.ml;unfold Zq91;rw [Z7p1 hk,OB,show (!decide ((0:Int)=0))=false by decide,Z1a1,Z6p1,OB,DT ha.1,DT ha.2,Bool.and_true,Bool.not_true,Z1a1,Z6p1,OB,DT (by omega),DT (by omega),Bool.and_true,Bool.not_true];dsimp only [Zp91];rw [Z1a1,Zlp1 _ _ _ h6,hi,OB];rw [show plc (some i)=(i:Int) from rfl];rw [DN (by omega),Z1a1,Z4a1 hm,OB];have e1:Z8c h.Mail 0 (i:Int)=some (h.Mail.take i):=by unfold Z8c;rw [if_pos ⟨by omega,by omega,by omega⟩];simp
 have e2:Z8c h.Mail (wr ((i:Int)+1)) (ln Mail.row h.Mail)=some (h.Mail.drop (i+1)):=by rw [Z9a1 (by omega),ln_eq];unfold Z8c;rw [if_pos ⟨by omega,by omega,by omega⟩];simp
 rw [e1,OB,e2,OB,Zip1 hk,OB,Z4p1 _ _ (by simp;omega) (by simp;omega),OB];dsimp only [Zj91,Zb91];rw [Z4a1 E,OB,hr,OB,OB];dsimp only [Zi91];unfold Zjp1;by_cases e:r.2.2.2=0
 ·rw [DT e,Bool.not_true,Z1a1,Z2p1 _ (by omega),OB,Z4p1 _ _ (by simp;omega) hl,OB,if_pos e];dsimp only [Zh91];rw [Z4a1 E];rfl
 ·rw [DN e,Bool.not_false,Z0a1,if_neg e];rfl
theorem Znp1 {h:Hall} (hk:HallOK h) {a b:Int} (ha:0≤a∧a<h.Nodes.length) (hb:0≤b∧b<h.Nodes.length) (hi:(h.Mail.findIdx? fun m=>decide (m.From=a)&&decide (m.To=b))=none):Zq91 h a b=some (Z5p1,[],192):=by have h6:=hk.ml;unfold Zq91;rw [Z7p1 hk,OB,show (!decide ((0:Int)=0))=false by decide,Z1a1,Z6p1,OB,DT ha.1,DT ha.2,Bool.and_true,Bool.not_true,Z1a1,Z6p1,OB,DT hb.1,DT hb.2,Bool.and_true,Bool.not_true];dsimp only [Zp91];rw [Z1a1,Zlp1 _ _ _ h6,hi,OB];rfl
theorem Zop1 (l m:List Mail) (hl:l.length≤1000000):Zdr l m=some (decide (l=m)):=by
 simp only [Zdr,Z0b1];by_cases h:l.length=m.length
 ·simp only [h,decide_true,Bool.not_true,Z1a1];rw [Zxa1 l m _ (fun x y=>decide (x=y)) h (by omega) (fun k x y hx hy=>by simp only [Zcr,Z7a1 hx,Z0a1,Z4a1 hx,Z4a1 hy,OB,Zoc1,Zaa1 hx (show l.length≤4000000000000000000 by omega),Z2a1];cases decide (x=y)<;>rfl) (by simp only [Zcr,Z8a1,Z1a1,Zbr,Option.map_some]),Zya1 l m h]
 ·simp [h,Zza1 h]
theorem Zpp1 (l m:List Node) (E:∀n∈l,FewN n) (hl:l.length≤1000000):Z8r l m (fun z=>Za01 z.1 z.2)=some (decide (l=m)):=by
 simp only [Z8r,Z0b1];by_cases h:l.length=m.length
 ·simp only [h,decide_true,Bool.not_true,Z1a1];rw [Zxa1 l m _ (fun x y=>decide (x=y)) h (by omega) (fun k x y hx hy=>by simp only [Z7r,Z7a1 hx,Z0a1,Z4a1 hx,Z4a1 hy,OB,Zdj1 x y (E x (List.mem_iff_getElem?.2 ⟨k,hx⟩)),Zaa1 hx (show l.length≤4000000000000000000 by omega),Z2a1];cases decide (x=y)<;>rfl) (by simp only [Z7r,Z8a1,Z1a1,Z6r,Option.map_some]),Zya1 l m h]
 ·simp [h,Zza1 h]
theorem Zqp1 (h g:Hall) (E:∀n∈h.Nodes,FewN n) (hl:h.Nodes.length≤1000000) (hm:h.Mail.length≤1000000):Ze31 h g=some (decide (h.Nodes=g.Nodes)&&decide (h.Mail=g.Mail)):=by
 unfold Ze31;rw [Zpp1 _ _ E hl,OB];cases decide (h.Nodes=g.Nodes) with
 | false=>rfl
 | true=>rw [Z0a1,Zop1 _ _ hm];rfl
theorem Zrp1 (h:Hall) (E:∀n∈h.Nodes,FewN n) (hl:h.Nodes.length≤1000000) (hm:h.Mail.length≤1000000):Zbw h=some ⟨h.Nodes.map (·.DK),h.Mail⟩:=by
 unfold Zbw;rw [Z1p1 _ hm,OB];refine Zoa1 h.Nodes _ (fun pre=>((pre.length:Int),pre.map (·.DK))) _ (fun pre x post h0=>?_) ?_
 ·have hx:=Zpa1 h0;have hm':=Zqa1 h0;have q:=E x (Zra1 h0);dsimp only [Zaw];rw [Z7a1 hx,Z0a1,Z4a1 hx,OB,Z0d1 _ (by have:=q.sides;omega),OB,Z9c1 _ (by have:=q.need;omega),OB,Z6a1 _ _ (by omega) (by simp;omega),OB,Z9a1 (by omega),Zua1,List.map_append];rfl
 ·dsimp only [Zaw,Z9w];rw [Z8a1,Z1a1];rfl
def aA:Node:=⟨⟨⟨0,0,[]⟩,0,[]⟩,⟨0,[]⟩,[],[],[]⟩
def aB:Node:=⟨⟨⟨1,0,[]⟩,0,[]⟩,⟨0,[]⟩,[],[],[]⟩
def xA:Side:=⟨1,1,1,true,true,false,true,false⟩
def mA1:Node:=⟨⟨⟨0,0,[xA]⟩,0,[]⟩,⟨0,[]⟩,[⟨1,1⟩],[],[]⟩
def nA0:Node:=⟨⟨⟨0,2,[xA]⟩,0,[]⟩,⟨0,[]⟩,[⟨1,1⟩],[],[]⟩
def nA1:Node:=⟨⟨⟨0,2,[xA]⟩,0,[]⟩,⟨0,[]⟩,[⟨1,1⟩],[1],[]⟩
def mB1:Node:=⟨⟨⟨1,0,[]⟩,0,[]⟩,⟨0,[]⟩,[],[],[⟨0,1⟩]⟩
def yB:Side:=⟨0,1,0,false,false,true,false,true⟩
def nB1:Node:=⟨⟨⟨1,0,[yB]⟩,0,[]⟩,⟨0,[]⟩,[⟨0,1⟩],[],[]⟩
def xA2:Side:=⟨1,1,0,true,true,false,true,false⟩
def mA2:Node:=⟨⟨⟨0,2,[xA2]⟩,0,[]⟩,⟨0,[]⟩,[⟨1,1⟩],[],[]⟩
def nA2:Node:=⟨⟨⟨0,0,[xA2]⟩,0,[]⟩,⟨0,[]⟩,[⟨1,1⟩],[],[]⟩
def w0:Hall:=⟨[aA,aB],[]⟩
def w1:Hall:=⟨[nA1,aB],[⟨0,1,⟨5,1,0⟩⟩]⟩
def w2:Hall:=⟨[nA1,nB1],[⟨1,0,⟨6,1,0⟩⟩]⟩
def w3:Hall:=⟨[nA2,nB1],[]⟩
theorem Zsp1:OkN aA:=(Z6i1 _).1 (by decide)
theorem Ztp1:OkN aB:=(Z6i1 _).1 (by decide)
theorem Zup1:OkN nA1:=(Z6i1 _).1 (by decide)
theorem Zvp1:OkN nB1:=(Z6i1 _).1 (by decide)
theorem Zwp1:OkN nA2:=(Z6i1 _).1 (by decide)
theorem Zxp1 {a b:Node} (ha:OkN a) (hb:OkN b) (E:a.DK.DI.ID=0) (J:b.DK.DI.ID=1) {M:List Mail} (hM:∀m∈M,(m.From=0∧m.To=1)∨(m.From=1∧m.To=0)) (hl:M.length≤1000):HallOK ⟨[a,b],M⟩:=by
 refine ⟨fun k n hn=>?_,by simp,fun m hm=>?_,by dsimp only;omega⟩
 ·rcases k with _ | _ | k
  ·simp at hn;subst hn;exact ⟨E,ha⟩
  ·simp at hn;subst hn;exact ⟨J,hb⟩
  ·simp at hn
 ·have:=hM m hm;simp only [List.length_cons,List.length_nil];omega
theorem ok_w0:HallOK w0:=Zxp1 Zsp1 Ztp1 rfl rfl (by simp) (by simp)
theorem Zyp1:HallOK w1:=Zxp1 Zup1 Ztp1 rfl rfl (by simp) (by simp)
theorem ok_w2:HallOK w2:=Zxp1 Zup1 Zvp1 rfl rfl (by simp) (by simp)
theorem Zzp1:HallOK w3:=Zxp1 Zwp1 Zvp1 rfl rfl (by simp) (by simp)
theorem HallOK.few {h:Hall} (hk:HallOK h):∀n∈h.Nodes,FewN n:=fun _ hn=>(hk.at hn).few
theorem Z0q1:Zdh1 mA1=nA1∧Zeh1 mA1=[⟨0,1,⟨5,1,0⟩⟩]∧Zfh1 mA1=[]:=by
 have e1:midN mA1=nA0:=by decide
 have e2:graN nA0=nA0:=by decide
 have e3:telT nA0=([1],[⟨0,1,⟨5,1,0⟩⟩]):=by unfold telT;rw [if_pos (show nA0.DK.DI.PH=2 from rfl)];show Zsg1 0 [xA] [] []=_;unfold Zsg1;rw [show untB [] xA=true by decide,if_pos rfl];show Zsg1 0 [] (setL [1]) _=_;rw [Zso1];rfl
 have e4:telN nA0=nA1:=by unfold telN;rw [e3];rfl
 have e5:leaN nA1=nA1:=by decide
 have e6:Zch1 nA1=[]:=by decide
 have e7:(Zhe1 (preN mA1).DK).2=[]:=by decide
 have e8:Z9h1 mA1=[]:=by decide
 have e9:Zfh1 mA1=[]:=by decide
 unfold Zdh1 Zeh1;rw [e1,e2,e4,e3,e5,e6,e7,e8];exact ⟨rfl,rfl,e9⟩
theorem Z1q1:Z8k1 mA1 [] []=(nA1,[⟨0,1,⟨5,1,0⟩⟩],[]):=by
 obtain ⟨e1,e2,e3⟩:=Z0q1;have h:Zdh1 nA1=nA1:=by decide
 unfold Z8k1;rw [Z7k1,e1,e2,e3,if_neg (by decide),Z7k1,h,if_pos rfl];rfl
theorem Z2q1:Z8k1 mB1 [] []=(nB1,[⟨1,0,⟨6,1,0⟩⟩],[⟨6,1,0,0,[]⟩]):=by decide
theorem Z3q1:Z8k1 mA2 [] [⟨6,0,0,1,[]⟩]=(nA2,[],[⟨6,0,0,1,[]⟩]):=by decide
theorem Z4q1:Zy81 aA ⟨4,0,1,0,[]⟩=some (nA1,[⟨0,1,⟨5,1,0⟩⟩],[],0):=by
 have a1:actN aA ⟨4,0,1,0,[]⟩=(0,mA1,[]):=by decide
 rw [s_Act aA _ Zsp1 (by simp),a1];unfold outA;rw [if_pos rfl,Z1q1]
theorem Z5q1:Z791 aB 0 ⟨5,1,0⟩=some (nB1,[⟨1,0,⟨6,1,0⟩⟩],[⟨6,1,0,0,[]⟩],0):=by
 have a1:getN aB 0 ⟨5,1,0⟩=(0,mB1,[]):=by decide
 rw [Z7m1 aB _ _ Ztp1,a1];unfold outA;rw [if_pos rfl,Z2q1]
theorem Z6q1:Z791 nA1 1 ⟨6,1,0⟩=some (nA2,[],[⟨6,0,0,1,[]⟩],0):=by
 have a1:getN nA1 1 ⟨6,1,0⟩=(0,mA2,[⟨6,0,0,1,[]⟩]):=by unfold getN Zxl1;rw [show nA1.Told=[1] from rfl,Zso1];decide
 rw [Z7m1 nA1 _ _ Zup1,a1];unfold outA;rw [if_pos rfl,Z3q1]
theorem Z7q1:Zt91=some true:=by
 have e1:Zr81 ⟨2,[]⟩=some (w0,0):=by rw [Zfp1 _ (by decide),if_pos (show okG ⟨2,[]⟩=true by decide)];rfl
 have e2:Zm91 w0 0 ⟨4,0,1,0,[]⟩=some (w1,[],0):=by have:=Zkp1 ok_w0 (k:=0) (n:=aA) rfl (a:=⟨4,0,1,0,[]⟩) (fun _=>by decide) Z4q1 (by simp);exact this
 have e3:Zq91 w1 0 1=some (w2,[⟨6,1,0,0,[]⟩],0):=by have:=Zmp1 Zyp1 (a:=0) (by decide) (k:=1) (n:=aB) rfl (i:=0) (by decide) (m:=⟨0,1,⟨5,1,0⟩⟩) rfl Z5q1 (by simp);exact this
 have e4:Zq91 w2 1 0=some (w3,[⟨6,0,0,1,[]⟩],0):=by have:=Zmp1 ok_w2 (a:=1) (by decide) (k:=0) (n:=nA1) rfl (i:=0) (by decide) (m:=⟨1,0,⟨6,1,0⟩⟩) rfl Z6q1 (by simp);exact this
 have e5:Zq91 w3 1 0=some (Z5p1,[],192):=Znp1 Zzp1 (by decide) (by decide) (by decide);have e6:Zbw w3=some ⟨[nA2.DK,nB1.DK],[]⟩:=Zrp1 w3 Zzp1.few (by decide) (by decide);have e7:Zk81 w3=some 0:=Z7p1 Zzp1;have e8:Ze31 w3 w3=some true:=by rw [Zqp1 w3 w3 Zzp1.few (by decide) (by decide)];decide
 have e9:Ze31 w1 w2=some false:=by rw [Zqp1 w1 w2 Zyp1.few (by decide) (by decide)];decide
 unfold Zt91;rw [e1,OB,e2,OB,e3,OB,e4,OB,e5,OB,e6,OB];dsimp only;rw [e7,e8,e9];rfl
theorem Z8q1 (g:Graph):Zy91 g=some true:=by
 have j1t:Zx91 g true=some true:=by dsimp only [Zx91];rw [Z0a1,Z7q1];rfl
 unfold Zy91;rw [Z7q1,OB,Bool.not_true,Z1a1,ln_eq];by_cases h1:(60:Int)<g.Edges.length
 ·rw [DT h1,Z0a1,j1t]
 rw [DN h1,Z1a1];by_cases h2:24<g.N
 ·rw [DT h2,j1t]
 rw [DN h2];dsimp only [Zx91];have ho:Zwq g=some g:=by unfold Zwq;rw [Z6a1 _ _ (by omega) (by simp;omega),OB,List.nil_append]
 rw [Z1a1,ho,OB,Zfp1 g (by omega),OB,Zlm1,OB];cases hg:okG g with
 | false=>rw [Bool.not_false,Z0a1,if_neg (by simp),show (⟨[],[]⟩:Hall)=Z5p1 from rfl,Z9p1 Z5p1 (by simp [Z5p1]) (by simp [Z5p1]) (by simp [Z5p1])];rfl
 | true=>have hk:=Zep1 hg (by omega);have hl:=hk.len;rw [Bool.not_true,Z1a1,if_pos rfl,Zgp1 g hg (by omega),OB,Z9p1 _ hk.few (by omega) (by have:=hk.ml;omega),OB,Z0a1,DT rfl,Z0a1,Z8p1 _ hk.few (by omega) (by have:=hk.ml;omega),OB,Z7p1 hk,OB,DT rfl,Z0a1,ln_eq];have:=Zbp1 hg;rw [DT (by simp only [Zdp1,List.length_map];omega)];rfl
end NX
end Go.Proofs.YtgamgemlekpepaaGreat
namespace Go.Proofs.YtgamgemlekpepaaGreat
namespace NX
open Go Go.ChangeShapes Go.WideShapes Go.ChangeAt Go.RowKit
theorem Z9q1:Opn Tryz.prog 83 Edge.row:=by
 intro H enc w base sp h6 fuel cs x h;obtain ⟨xs,n,_,_,hl,h8,hf⟩:=DataW.trod_struct Tryz.underlying83 h;rw [show Tryz.prog.cellsOf 83=2 from by kernel_rfl] at hl;have c0:DataW.trod enc Tryz.prog w base sp h6 n 3 ((cs.drop 0).take (Tryz.prog.cellsOf 3))=xs[0]?:=hf 0 _ rfl;rw [show Tryz.prog.cellsOf 3=1 from by kernel_rfl] at c0;have h9:0<xs.length:=by rw [h8];decide
 obtain ⟨y0,hd⟩:∃y,xs[0]?=some y:=⟨_,List.getElem?_eq_getElem h9⟩
 obtain ⟨v0,k0⟩:=(Zzf Tryz.underlying3) enc w _ _ _ _ _ _ (c0.trans hd);have c1:DataW.trod enc Tryz.prog w base sp h6 n 3 ((cs.drop 1).take (Tryz.prog.cellsOf 3))=xs[1]?:=hf 1 _ rfl;rw [show Tryz.prog.cellsOf 3=1 from by kernel_rfl] at c1;have hc:1<xs.length:=by rw [h8];decide
 obtain ⟨y1,hy1⟩:∃y,xs[1]?=some y:=⟨_,List.getElem?_eq_getElem hc⟩
 obtain ⟨v1,k1⟩:=(Zzf Tryz.underlying3) enc w _ _ _ _ _ _ (c1.trans hy1);have e:cs=(cs.drop 0).take 1++(cs.drop 1).take 1:=by
  match cs,hl with
  | [a0,a1],_=>rfl
 rw [e];exact ⟨⟨v0,v1⟩,(Zh2 k0 k1)⟩
theorem Zaq1:Opn Tryz.prog 22 (Z7d 2 Edge.row):=Z2g (n:=2) (row:=Edge.row) Tryz.underlying22 (by kernel_rfl) (by decide) (fun _=>⟨rfl,rfl,rfl⟩) Z9q1
theorem Zbq1:Opn Tryz.prog 24 Graph.row:=by
 intro H enc w base sp h6 fuel cs x h;obtain ⟨xs,n,_,_,hl,h8,hf⟩:=DataW.trod_struct Tryz.underlying24 h;rw [show Tryz.prog.cellsOf 24=2 from by kernel_rfl] at hl;have c0:DataW.trod enc Tryz.prog w base sp h6 n 3 ((cs.drop 0).take (Tryz.prog.cellsOf 3))=xs[0]?:=hf 0 _ rfl;rw [show Tryz.prog.cellsOf 3=1 from by kernel_rfl] at c0;have h9:0<xs.length:=by rw [h8];decide
 obtain ⟨y0,hd⟩:∃y,xs[0]?=some y:=⟨_,List.getElem?_eq_getElem h9⟩
 obtain ⟨v0,k0⟩:=(Zzf Tryz.underlying3) enc w _ _ _ _ _ _ (c0.trans hd);have c1:DataW.trod enc Tryz.prog w base sp h6 n 22 ((cs.drop 1).take (Tryz.prog.cellsOf 22))=xs[1]?:=hf 1 _ rfl;rw [show Tryz.prog.cellsOf 22=1 from by kernel_rfl] at c1;have hc:1<xs.length:=by rw [h8];decide
 obtain ⟨y1,hy1⟩:∃y,xs[1]?=some y:=⟨_,List.getElem?_eq_getElem hc⟩
 obtain ⟨v1,k1⟩:=Zaq1 enc w _ _ _ _ _ _ (c1.trans hy1);have e:cs=(cs.drop 0).take 1++(cs.drop 1).take 1:=by
  match cs,hl with
  | [a0,a1],_=>rfl
 rw [e];exact ⟨⟨v0,v1⟩,(Zh2 k0 k1)⟩
theorem Zcq1:laidOutB Tryz.prog=true:=by kernel_rfl
theorem Zdq1:ownKnob Tryz.prog.godebug=none:=by kernel_rfl
theorem Zeq1 (H:Type) (enc:TypeId×Value→H) (W:World) (J:Nat) (args:Array Value) (U Z:List (DataW H)) (E:List MemPlace)
  (h6:∀(j:Nat) t v,Tryz.f3.params[j]?=some t→args[j]?=some v→Value.okWide Tryz.prog W .any J t v)
  (Y:DataW.Whole enc Tryz.prog Tryz.f3.params.toList Rows.hallNewSpec.vars false W args.toList U Z E):
  Calls Tryz.prog 3 args W fun e W'=>∃v,e = .returned v∧Rows.hallNewSpec.post enc Tryz.prog Tryz.f3 false true false false W args v W':=by
 have h8:=Y;obtain ⟨p,q,h9,hV,rfl,hd,hf⟩:=Y;have hA:DataW.TrodAll enc Tryz.prog W 0 (fun _=>true) true Tryz.f3.params.toList args.toList U p:=h9;rw [Tryz.params3] at hA h6;obtain ⟨v0,vs0,d0,ds0,p0,q0,hc,rfl,rfl,h0,r0⟩:=trodAll_cons hA;obtain ⟨hz,rfl,rfl⟩:=trodAll_nil r0;obtain rfl:args = #[v0]:=by cases args;simp_all
 obtain ⟨x1,k0⟩:=Z3g Zbq1 Tryz.underlying24 (h6 0 24 v0 rfl rfl) h0;refine (Zz91 (Z8q1 x1) (fun k=>W.heap[k]?) W [v0] (fun _ _ h=>h) (fun _ hs=>absurd hs List.not_mem_nil) ⟨v0,_,rfl,k0,rfl⟩).mono ?_;rintro e W' ⟨v,H',rfl,hB,_,_,hv⟩;have hv:v = .bool true:=hv;subst hv;exact ⟨_,rfl,Z6g Zcq1 (by kernel_rfl) rfl (rfl:Tryz.f3.resultTypes = #[4]) Tryz.underlying4 (fun _=>rfl) h8 hB⟩
theorem Zfq1 (os:Os) (E:os.Started) (H:Type) (enc:TypeId×Value→H):
  ReturnsInHanded {} Tryz.checked os 3 .any (Rows.hallNewSpec.pre6 enc Tryz.prog Tryz.f3 Rows.hallNewRow.domain false) (Rows.hallNewSpec.post enc Tryz.prog Tryz.f3 false true false false):=by
 refine returnsInHanded_of_change (C:=Tryz.checked) Zdq1 E (by kernel_rfl) Tryz.func3
  (ChangeSpec.witness6 (enc:=enc) (C:=Tryz.checked) false ⟨#[], #[.agg #[.int .i64 0,.slice none 0 0]],[]⟩ 8 (by kernel_rfl) (by kernel_rfl) (by kernel_rfl) (by kernel_rfl)) ?_
 intro W base args ds gs before h6 hW _ _;exact Zeq1 H enc W base args ds gs before h6 hW
theorem hallNew_holds:Rows.HallNewSaid:=
 OpenClaim.holds_of_wide 3 Tryz.f3 rfl rfl rfl rfl rfl rfl rfl ⟨rfl,rfl,rfl,rfl,rfl⟩ rfl rfl rfl rfl rfl (by kernel_rfl) Tryz.func3 (by kernel_rfl)
  (of_decide_eq_true (by kernel_rfl)) (by unfold Func.isWrapper;first | (rw [if_pos (by decide +kernel)];kernel_rfl) | (rw [if_neg (by decide +kernel)];exact ⟨rfl,rfl⟩))
  (fun os started H enc _=>Zfq1 os started H enc)
#print axioms hallNew_holds
end NX
end Go.Proofs.YtgamgemlekpepaaGreat
